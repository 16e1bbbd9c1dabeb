/-
  Lemmas for the law ModuleTypes (no condition).
-/
import Derived.Test.YthmjeabeoodghaaGreatDoorQModuleTypes10
import Derived.Lib.Bytealg
import Derived.Lib.Small
set_option linter.unusedVariables false
set_option linter.unusedSimpArgs false
set_option linter.unusedSectionVars false
set_option maxHeartbeats 1000000
namespace Go.Proofs.YthmjeabeoodghaaGreatDoor
open Go Go.Sx Go.Proofs Tryz
attribute [local irreducible] Code.wp wpList wpAnyH
open Go.Vs
theorem ci_:gQ_ prog 244 [(0,1),(1,1)] [.int .i64 0,str []]:=⟨_,aQ_,runUnderlying244,fun w=>by simp[P_,M_]⟩
theorem iC_ {G:Prop} (h:G:=by
 exact aa_ results191 ⟨((some ⟨e,0,none⟩),2),by rw[d];simp[maxLen]⟩ (ea_ rfl (show _=Value.slice (some ⟨e,0,none⟩) (ah_ x).length 2 from by rw[d];rfl)) g_ (fun v _ h=>⟨(show (X_ (some ⟨e,0,none⟩) ((ah_ x).flatMap Thg.cells)).p v from by rw[d];exact h.1),trivial⟩)):G:=h
theorem fL_ {G:Prop} (h:G:=by
 exact aa_ results191 ⟨((some ⟨e,0,none⟩),1),by rw[d];simp[maxLen]⟩ (ea_ rfl (show _=Value.slice (some ⟨e,0,none⟩) (ah_ x).length 1 from by rw[d];rfl)) g_ (fun v _ h=>⟨(show (X_ (some ⟨e,0,none⟩) ((ah_ x).flatMap Thg.cells)).p v from by rw[d];exact h.1),trivial⟩)):G:=h
theorem BP_ (x:Pc):Tri prog 191 #[Pc.val x] [] [] (fun y:{y:Ao×Nat // ((ah_ x)).length≤y.2∧y.2≤maxLen∧(y.1=none→y.2=0)}=>.slice y.1.1 ((ah_ x)).length y.1.2) (fun _=>[]) (fun y=>[X_ y.1.1 (((ah_ x)).flatMap Thg.cells)]):=by
 refine j_ func191 rfl rfl ntmps191 rfl fun Q=>?_;refine Zz 2 ?_;refine K_ rfl rfl fun R=>Zi 14 (fun A=>?_) fun A=>?_
 ·refine Zi 6 (fun C=>?_) fun C=>?_
  ·refine Zi 5 (fun F=>?_) fun F=>?_
   ·refine Zi 6 (fun G=>?_) fun G=>?_
    ·refine Zi 6 (fun I=>?_) fun I=>?_
     ·refine Zi 6 (fun K=>?_) fun K=>?_
      ·refine Zi 6 (fun M=>?_) fun M=>?_
       ·refine Zi 6 (fun N=>?_) fun N=>?_
        ·refine Zz 12 ?_
         have d:ah_ x=([]:List Thg):=by have m:=eq_false A;have B:=eq_false C;have E:=eq_false F;have H:=eq_false G;have J:=eq_false I;have L:=eq_false K;have O:=eq_false M;have P:=eq_false N;simp[ah_,m,B,E,H,J,L,O,P]
         exact aa_ results191 ⟨(none,0),by rw[d];simp[maxLen]⟩ (ea_ rfl (show _=Value.slice none (ah_ x).length 0 from by rw[d];rfl)) g_ (fun v _ h=>⟨(show (X_ none ((ah_ x).flatMap Thg.cells)).p v from by rw[d];exact .inl rfl),trivial⟩)
        refine Zz 8 ?_;refine e_ (u_ ci_ rfl rfl) rfl (G_ ag_ ba_ aQ_ rfl rfl rfl rfl rfl rfl fun e=>?_);refine aq_ (List.flatMap Thg.cells [(Thg.mk 3 x.r)]) d_ rfl ?_;refine Zz 4 ?_;have d:ah_ x=[(Thg.mk 3 x.r)]:=by have m:=eq_false A;have B:=eq_false C;have E:=eq_false F;have H:=eq_false G;have J:=eq_false I;have L:=eq_false K;have O:=eq_false M;have P:=eq_true N;simp[ah_,m,B,E,H,J,L,O,P]
        exact fL_
       refine Zz 8 ?_;refine e_ (u_ ci_ rfl rfl) rfl (Zz 2 ?_);refine e_ (u_ ci_ rfl rfl) rfl (G_ ag_ ba_ aQ_ rfl rfl rfl rfl rfl rfl fun e=>?_);refine aq_ (List.flatMap Thg.cells [(Thg.mk 2 x.r),(Thg.mk 2 x.s)]) d_ rfl ?_;refine Zz 4 ?_;have d:ah_ x=[(Thg.mk 2 x.r),(Thg.mk 2 x.s)]:=by have m:=eq_false A;have B:=eq_false C;have E:=eq_false F;have H:=eq_false G;have J:=eq_false I;have L:=eq_false K;have O:=eq_true M;simp[ah_,m,B,E,H,J,L,O]
       exact iC_
      refine Zz 8 ?_;refine e_ (u_ ci_ rfl rfl) rfl (G_ ag_ ba_ aQ_ rfl rfl rfl rfl rfl rfl fun e=>?_);refine aq_ (List.flatMap Thg.cells [(Thg.mk 2 x.r)]) d_ rfl ?_;refine Zz 4 ?_;have d:ah_ x=[(Thg.mk 2 x.r)]:=by have m:=eq_false A;have B:=eq_false C;have E:=eq_false F;have H:=eq_false G;have J:=eq_false I;have L:=eq_true K;simp[ah_,m,B,E,H,J,L]
      exact fL_
     refine Zz 8 ?_;refine e_ (u_ ci_ rfl rfl) rfl (Zz 2 ?_);refine e_ (u_ ci_ rfl rfl) rfl (G_ ag_ ba_ aQ_ rfl rfl rfl rfl rfl rfl fun e=>?_);refine aq_ (List.flatMap Thg.cells [(Thg.mk 2 x.r),(Thg.mk 1 x.a)]) d_ rfl ?_;refine Zz 4 ?_;have d:ah_ x=[(Thg.mk 2 x.r),(Thg.mk 1 x.a)]:=by have m:=eq_false A;have B:=eq_false C;have E:=eq_false F;have H:=eq_false G;have J:=eq_true I;simp[ah_,m,B,E,H,J]
     exact iC_
    refine Zz 8 ?_;refine e_ (u_ ci_ rfl rfl) rfl (Zz 2 ?_);refine e_ (u_ ci_ rfl rfl) rfl (G_ ag_ ba_ aQ_ rfl rfl rfl rfl rfl rfl fun e=>?_);refine aq_ (List.flatMap Thg.cells [(Thg.mk 1 x.a),(Thg.mk 1 x.b)]) d_ rfl ?_;refine Zz 4 ?_;have d:ah_ x=[(Thg.mk 1 x.a),(Thg.mk 1 x.b)]:=by have m:=eq_false A;have B:=eq_false C;have E:=eq_false F;have H:=eq_true G;simp[ah_,m,B,E,H]
    exact iC_
   refine Zz 8 ?_;refine e_ (u_ ci_ rfl rfl) rfl (G_ ag_ ba_ aQ_ rfl rfl rfl rfl rfl rfl fun e=>?_);refine aq_ (List.flatMap Thg.cells [(Thg.mk 1 x.a)]) d_ rfl ?_;refine Zz 4 ?_;have d:ah_ x=[(Thg.mk 1 x.a)]:=by have m:=eq_false A;have B:=eq_false C;have E:=eq_true F;simp[ah_,m,B,E]
   exact fL_
  refine Zz 11 ?_;refine e_ (u_ ci_ rfl rfl) rfl (G_ ag_ ba_ aQ_ rfl rfl rfl rfl rfl rfl fun e=>?_);refine aq_ (List.flatMap Thg.cells [(Thg.mk 1 x.a)]) d_ rfl ?_;refine Zz 4 ?_;have d:ah_ x=[(Thg.mk 1 x.a)]:=by have m:=eq_false A;have B:=eq_true C;simp[ah_,m,B]
  exact fL_
 refine Zz 11 ?_;refine e_ (u_ ci_ rfl rfl) rfl (G_ ag_ ba_ aQ_ rfl rfl rfl rfl rfl rfl fun e=>?_);refine aq_ (List.flatMap Thg.cells [(Thg.mk 1 x.a)]) d_ rfl ?_;refine Zz 4 ?_;have d:ah_ x=[(Thg.mk 1 x.a)]:=by have m:=eq_true A;simp[ah_,m]
 exact fL_
theorem dD_ {G:Prop} (h:G:=by
 exact aa_ results190 ⟨((some ⟨e,0,none⟩),1),by rw[d];simp[maxLen]⟩ (ea_ rfl (show _=Value.slice (some ⟨e,0,none⟩) (aE_ x).length 1 from by rw[d];rfl)) g_ (fun v _ h=>⟨(show (X_ (some ⟨e,0,none⟩) ((aE_ x).flatMap Thg.cells)).p v from by rw[d];exact h.1),trivial⟩)):G:=h
theorem Ch_ (x:Pc):Tri prog 190 #[Pc.val x] [] [] (fun y:{y:Ao×Nat // ((aE_ x)).length≤y.2∧y.2≤maxLen∧(y.1=none→y.2=0)}=>.slice y.1.1 ((aE_ x)).length y.1.2) (fun _=>[]) (fun y=>[X_ y.1.1 (((aE_ x)).flatMap Thg.cells)]):=by
 refine j_ func190 rfl rfl ntmps190 rfl fun S=>?_;refine Zz 2 ?_;refine K_ rfl rfl fun T=>Zi 14 (fun A=>?_) fun A=>?_
 ·refine Zi 6 (fun C=>?_) fun C=>?_
  ·refine Zi 6 (fun F=>?_) fun F=>?_
   ·refine Zi 5 (fun H=>?_) fun H=>?_
    ·refine Zi 6 (fun I=>?_) fun I=>?_
     ·refine Zi 7 (fun K=>?_) fun K=>?_
      ·refine Zi 5 (fun M=>?_) fun M=>?_
       ·refine Zi 6 (fun O=>?_) fun O=>?_
        ·refine Zi 6 (fun P=>?_) fun P=>?_
         ·refine Zz 12 ?_
          have d:aE_ x=([]:List Thg):=by have m:=eq_false A;have B:=eq_false C;have E:=eq_false F;have G:=eq_false H;have J:=eq_false I;have L:=eq_false K;have N:=eq_false M;have Q:=eq_false O;have R:=eq_false P;simp[aE_,m,B,E,G,J,L,N,Q,R]
          exact aa_ results190 ⟨(none,0),by rw[d];simp[maxLen]⟩ (ea_ rfl (show _=Value.slice none (aE_ x).length 0 from by rw[d];rfl)) g_ (fun v _ h=>⟨(show (X_ none ((aE_ x).flatMap Thg.cells)).p v from by rw[d];exact .inl rfl),trivial⟩)
         refine Zz 8 ?_;refine e_ (u_ ci_ rfl rfl) rfl (G_ ag_ ba_ aQ_ rfl rfl rfl rfl rfl rfl fun e=>?_);refine aq_ (List.flatMap Thg.cells [(Thg.mk 3 x.r)]) d_ rfl ?_;refine Zz 4 ?_;have d:aE_ x=[(Thg.mk 3 x.r)]:=by have m:=eq_false A;have B:=eq_false C;have E:=eq_false F;have G:=eq_false H;have J:=eq_false I;have L:=eq_false K;have N:=eq_false M;have Q:=eq_false O;have R:=eq_true P;simp[aE_,m,B,E,G,J,L,N,Q,R]
         exact dD_
        refine Zz 8 ?_;refine e_ (u_ ci_ rfl rfl) rfl (G_ ag_ ba_ aQ_ rfl rfl rfl rfl rfl rfl fun e=>?_);refine aq_ (List.flatMap Thg.cells [(Thg.mk 2 x.r)]) d_ rfl ?_;refine Zz 4 ?_;have d:aE_ x=[(Thg.mk 2 x.r)]:=by have m:=eq_false A;have B:=eq_false C;have E:=eq_false F;have G:=eq_false H;have J:=eq_false I;have L:=eq_false K;have N:=eq_false M;have Q:=eq_true O;simp[aE_,m,B,E,G,J,L,N,Q]
        exact dD_
       refine Zz 8 ?_;refine e_ (u_ ci_ rfl rfl) rfl (G_ ag_ ba_ aQ_ rfl rfl rfl rfl rfl rfl fun e=>?_);refine aq_ (List.flatMap Thg.cells [(Thg.mk 2 x.t)]) d_ rfl ?_;refine Zz 4 ?_;have d:aE_ x=[(Thg.mk 2 x.t)]:=by have m:=eq_false A;have B:=eq_false C;have E:=eq_false F;have G:=eq_false H;have J:=eq_false I;have L:=eq_false K;have N:=eq_true M;simp[aE_,m,B,E,G,J,L,N]
       exact dD_
      refine Zz 11 ?_;refine e_ (u_ ci_ rfl rfl) rfl (G_ ag_ ba_ aQ_ rfl rfl rfl rfl rfl rfl fun e=>?_);refine aq_ (List.flatMap Thg.cells [(Thg.mk 2 x.t)]) d_ rfl ?_;refine Zz 4 ?_;have d:aE_ x=[(Thg.mk 2 x.t)]:=by have m:=eq_false A;have B:=eq_false C;have E:=eq_false F;have G:=eq_false H;have J:=eq_false I;have L:=eq_true K;simp[aE_,m,B,E,G,J,L]
      exact dD_
     refine Zz 8 ?_;refine e_ (u_ ci_ rfl rfl) rfl (Zz 2 ?_);refine e_ (u_ ci_ rfl rfl) rfl (G_ ag_ ba_ aQ_ rfl rfl rfl rfl rfl rfl fun e=>?_);refine aq_ (List.flatMap Thg.cells [(Thg.mk 2 x.r),(Thg.mk 1 x.c)]) d_ rfl ?_;refine Zz 4 ?_;have d:aE_ x=[(Thg.mk 2 x.r),(Thg.mk 1 x.c)]:=by have m:=eq_false A;have B:=eq_false C;have E:=eq_false F;have G:=eq_false H;have J:=eq_true I;simp[aE_,m,B,E,G,J]
     exact aa_ results190 ⟨((some ⟨e,0,none⟩),2),by rw[d];simp[maxLen]⟩ (ea_ rfl (show _=Value.slice (some ⟨e,0,none⟩) (aE_ x).length 2 from by rw[d];rfl)) g_ (fun v _ h=>⟨(show (X_ (some ⟨e,0,none⟩) ((aE_ x).flatMap Thg.cells)).p v from by rw[d];exact h.1),trivial⟩)
    refine Zz 8 ?_;refine e_ (u_ ci_ rfl rfl) rfl (G_ ag_ ba_ aQ_ rfl rfl rfl rfl rfl rfl fun e=>?_);refine aq_ (List.flatMap Thg.cells [(Thg.mk 1 x.c)]) d_ rfl ?_;refine Zz 4 ?_;have d:aE_ x=[(Thg.mk 1 x.c)]:=by have m:=eq_false A;have B:=eq_false C;have E:=eq_false F;have G:=eq_true H;simp[aE_,m,B,E,G]
    exact dD_
   refine Zz 11 ?_;refine e_ (u_ ci_ rfl rfl) rfl (G_ ag_ ba_ aQ_ rfl rfl rfl rfl rfl rfl fun e=>?_);refine aq_ (List.flatMap Thg.cells [(Thg.mk 1 x.c)]) d_ rfl ?_;refine Zz 4 ?_;have d:aE_ x=[(Thg.mk 1 x.c)]:=by have m:=eq_false A;have B:=eq_false C;have E:=eq_true F;simp[aE_,m,B,E]
   exact dD_
  refine Zz 11 ?_;refine e_ (u_ ci_ rfl rfl) rfl (G_ ag_ ba_ aQ_ rfl rfl rfl rfl rfl rfl fun e=>?_);refine aq_ (List.flatMap Thg.cells [(Thg.mk 1 x.c)]) d_ rfl ?_;refine Zz 4 ?_;have d:aE_ x=[(Thg.mk 1 x.c)]:=by have m:=eq_false A;have B:=eq_true C;simp[aE_,m,B]
  exact dD_
 refine Zz 11 ?_;refine e_ (u_ ci_ rfl rfl) rfl (G_ ag_ ba_ aQ_ rfl rfl rfl rfl rfl rfl fun e=>?_);refine aq_ (List.flatMap Thg.cells [(Thg.mk 1 x.c)]) d_ rfl ?_;refine Zz 4 ?_;have d:aE_ x=[(Thg.mk 1 x.c)]:=by have m:=eq_true A;simp[aE_,m]
 exact dD_
theorem eqTh (p q:Thg) (w:World):(Op.equalIn 10000 244 (Thg.val p) (Thg.val q)).run prog w=.ok (decide (p=q)) w:=by
  have h:=run_equalIn_struct (P:=prog) w 9999 244 (Thg.cells p).toArray (Thg.cells q).toArray (by simp only[Program.fieldsOf,underlying244]) Tryz.stoodInHeld244;refine h.trans ?_;rw[← Thg.eqb_eq];simp only[Program.fieldsOf,underlying244];exact bT_ rfl aF_ rfl rfl (eqI m_ w) (bT_ rfl ai_ rfl rfl (eqS aZ_ w) (lo_ w))
theorem okTh (p:Thg):hM_ prog 244 (Thg.val p):=fun e w=>by
 have hi:∀ (n:Int) (w:World),(Instr.checkKey e (9998+1) 3 (.int .i64 n)).run prog w=.ok () w:=fun n w=>MapKept.run_checkKey (d:=.int .i64) m_ zbG_ e 9998
 have m:∀ (n:Str) (w:World),(Instr.checkKey e (9998+1) 9 (str n)).run prog w=.ok () w:=fun n w=>MapKept.run_checkKey (d:=.string) aZ_ zbe_ e 9998
 refine ckF (n:=9999) underlying244 fun f h=>?_;simp only[List.mem_cons,List.not_mem_nil,or_false]at h;rcases h with rfl|rfl
 ·exact⟨rfl,aF_,_,rfl,hi _⟩
 exact⟨rfl,ai_,_,rfl,m _⟩
theorem tp_:KeyT prog 244 Thg.val:=fQ_ (K:=Thg) underlying244 okTh (fun p q w=>eqTh p q w) fun k=>iV_ (l:=Thg.cells k) fun v d=>by
 simp only[Thg.cells,List.mem_cons,List.not_mem_nil,or_false]at d;rcases d with rfl|rfl
 ·exact ez_ _ _
 exact de_ _ _
theorem Cm_:Elt prog 242 244 2 24:=hh_ underlying242 (z:=.agg #[.int .i64 0,str []]) zac_ rfl zad_
theorem Thg.cells_one (x:Thg):x.cells.all Value.oneCell'=true:=rfl
theorem nH_:Elt prog 58 3 1 8:=hh_ underlying58 (z:=.int .i64 0) zac_ rfl zad_
theorem uY_:KeyT prog 3 (fun n:Int=>.int .i64 n):=tr_ m_
theorem add_c (t:Thg) (K W:List Thg) (I M kb:Nat) (es:Array MapEntry) (c:Nat) (sv:Value) (J:Hp) (hE:SetE Thg.val es K) (hB:Born es c) (N:az_ 244 2 sv W.length (W.flatMap Thg.cells) J) (hl:W.length≤1000000000):Tri prog 188 #[Thg.val t,zp_ I 0,zp_ M 0] ((I,.cells #[.map (some kb)] 181 (0,0))::(M,.cells #[sv] 242 (0,0))::(kb,.map es c)::J) [] (fun _:{H:Hp // StK 181 242 244 I M kb (K++bD_ K [t]) (W++bD_ K [t]) H}=>.tuple #[]) (fun y=>y.1) (fun _=>[]):=by
 refine j_ func188 rfl rfl ntmps188 rfl fun O=>?_;refine Zz 2 ?_;refine K_ rfl rfl fun Q=>Zz 6 ?_
 refine E_ (ec_ (k:=t) tp_ runUnderlying181 bR_ rfl rfl hE (fun v h _=>(h.own _ (List.mem_of_getElem? (i:=3) rfl)).1)) rfl fun L d=>e_ (aR_ rfl) rfl (Zz 2 ?_)
 cases L
 ·replace d:=zdf d
  refine Zz 5 ?_;refine xB_ (k:=t) 3 tp_ (.inr rfl) runUnderlying181 rfl rfl rfl rfl hE fun F G m B=>Zz 5 ?_
  refine G_ ag_ ba_ aQ_ rfl rfl rfl rfl rfl rfl fun R=>?_;refine aO_ (news:=List.flatMap Thg.cells [t]) Cm_ N rfl rfl (c_ (c_ (c_ (c_ C_)))) rfl (bz_ 0 rfl) (fun u P=>bn_ Thg.cells_one P) zan_ zaa_ rfl fun C E d=>?_;refine A_ List.perm_append_comm ?_;have x:=zsa d;refine cq_ 3 x sizeOf242 rfl rfl rfl rfl (Zz 2 ?_);have A:¬ t∈K:=by assumption
  have e:bD_ K [t]=[t]:=by simp[bD_,A]
  exact ck_ results188 ⟨_,F,G,C,E,rfl,by rw[e];rw[if_neg zai_]at m;exact m,(B hB),by rw[e];exact x⟩ rfl (i_ (c_ (c_ d_)) (i_ (c_ (c_ d_)) (i_ (c_ (c_ d_)) (c_ C_)))) zt
 replace d:=zdt d;refine Zz 3 ?_;have A:t∈K:=by assumption
 have e:bD_ K [t]=[]:=by simp[bD_,A]
 exact ck_ results188 ⟨_,es,c,sv,J,rfl,by rw[e,List.append_nil];exact hE,hB,by rw[e,List.append_nil];exact N⟩ rfl zp zt
theorem sc_ (t:Thg) (K W:List Thg) (d e kb:Nat) (Hs:Hp) (hS:StK 181 242 244 d e kb K W Hs) (hl:W.length≤1000000000):Tri prog 188 #[t.val,zp_ d 0,zp_ e 0] Hs [] (fun _:{H:Hp // StK 181 242 244 d e kb (K++bD_ K [t]) (W++bD_ K [t]) H}=>.tuple #[]) (fun y=>y.1) (fun _=>[]):=by
  obtain⟨es,c,sv,h,rfl,hE,hB,m⟩:=hS;exact add_c t K W d e kb es c sv h hE hB m hl
theorem CN_ (i:Nat) (x:Pc) (p:List Pc) (ad:Ao) (cap:Nat) (K W:List Thg) (U:List Bool) (Q C O E P kb:Nat) (sv:Value) (V Hs:Hp) (hx:p[i]? = some x) (hp:p.length≤100000000) (T:zR 4 1 jj_ sv U V) (a1:U.length=p.length) (hS:StK 181 242 244 C E kb K W Hs) (hl:W.length≤900000000):Tri prog 189 #[.int .i64 (i:Int),zp_ O 0,zp_ Q 0,zp_ P 0] ((O,.cells #[sv] 182 (0,0))::(V++Hs)) [bl_ Q (.cells #[.slice ad p.length cap] 64 (0,0)),bl_ P (.cells #[.func (.func 188) #[] #[zp_ C 0,zp_ E 0]] 245 (0,0)),X_ ad (p.flatMap Pc.cells)] (fun _:{y:Hp×Hp // zR 4 1 jj_ sv (List.set U i true) y.1∧StK 181 242 244 C E kb (K++bD_ K (aE_ x)) (W++bD_ K (aE_ x)) y.2}=>.tuple #[]) (fun y=>(O,.cells #[sv] 182 (0,0))::(y.1.1++y.1.2)) (fun _=>[]):=by
 refine j_ func189 rfl rfl ntmps189 rfl fun Y=>?_;have a4:=(List.getElem?_eq_some_iff.1 hx).1;obtain⟨B,N⟩:∃ B,U[i]? = some B:=⟨_,List.getElem?_eq_getElem zaa_⟩;refine Zz 4 ?_;refine e_ (bI_ T runUnderlying182 cv_ rfl rfl zaa_ zaa_) rfl (eR_ (k:=(i:Int).toNat*1+0) T zp cv_ rfl rfl zaa_ rfl rfl fun h e=>?_);have I:=(ij_ jj_ 1 qZ_ U i 0 B true (.bool true) N zad_ rfl).trans (congrArg _ (rfl));have L:az_ 4 1 sv (List.length (List.set U i true)) (List.flatMap jj_ (List.set U i true)) h:=by rw[← I,show List.length (List.set U i true)=U.length from (List.length_set ..)];exact e
 refine Zz 2 ?_;refine A_ (bg_ (l_ d_)) (Zz 6 ?_);refine f_ (Ch_ x) rfl g_ zt rfl fun⟨⟨J,M⟩,X,a0,a2⟩=>?_;dsimp only;refine Zz 5 ?_;refine O_ (ι:={y:Nat×Hp // y.1≤List.length (aE_ x)∧StK 181 242 244 C E kb (K++bD_ K (List.take y.1 (aE_ x))) (W++bD_ K (List.take y.1 (aE_ x))) y.2}) (fun y=>[(3,zp_ P 0),(14,.slice J (List.length (aE_ x)) M),(15,.int .i64 (List.length (aE_ x):Int)),(16,.int .i64 (y.1.1:Int))]) (fun y=>((O,.cells #[sv] 182 (0,0))::(h++y.1.2))) (fun y=>[X_ J (List.flatMap Thg.cells (aE_ x)),bl_ Q (.cells #[.slice ad p.length cap] 64 (0,0)),bl_ P (.cells #[.func (.func 188) #[] #[zp_ C 0,zp_ E 0]] 245 (0,0)),X_ ad (p.flatMap Pc.cells)]) (fun y=>List.length (aE_ x) - y.1.1) ⟨((0:Nat),Hs),by simp,(by rw[List.take_zero];simpa [bD_] using hS)⟩ zl zp zh ?_;rintro ⟨⟨j,v⟩,H,d⟩;dsimp only at H d ⊢;have a3:=jf_ (List.take j (aE_ x)) K;have htl:=List.length_take_le j (aE_ x);have hgl:=pd_ x;refine Zi 2 (fun e=>?_) fun e=>?_
 ·refine Zz 6 ?_
  rw[List.take_of_length_le zaa_]at d;exact ck_ results189 ⟨(h,v),L,d⟩ rfl zp zt
 have m:j<List.length (aE_ x):=by omega
 obtain⟨S,A⟩:∃ R,(aE_ x)[j]? = some R:=⟨_,List.getElem?_eq_getElem m⟩;refine Zz 12 ?_;refine y_ aQ_ rfl fun Z=>o_ 0 ba_ rfl rfl rfl rfl rfl rfl (Zz 5 ?_)
 refine Z_ (sc_ S (K++bD_ K (List.take j (aE_ x))) (W++bD_ K (List.take j (aE_ x))) C E kb v d zaW_) rfl rfl (c_ (c_ bi_)) zt rfl fun⟨G,F⟩=>?_;dsimp only;refine Zz 2 ?_;refine A_ (R_ (l_ d_) (bg_ (l_ d_))) (Zz 5 ?_);exact x_ ⟨(j+1,G),m,(by rw[tG_ A,tG_ A];exact F)⟩ zab_ zl zp zh
theorem BH_ {P:Program} {e:TypeId} {sz n:Nat} {sv:Value} {xs:List Value} {Hr:Hp} (E:az_ e sz sv (n+1) xs Hr):∃ d,az_ e sz d n (xs.take (n*sz)) Hr ∧
    ∀ {N:Nf} {fr:Fr} {H:Hp} {Γ:List Fct} {ty t:TypeId} {x y:Operand},(∀ w,(underlying t).run P w=.ok (.slice e) w)→(∀ w,(sizeOf e).run P w=.ok sz w)→Fr.ev fr x=some sv→Fr.ev fr y=some (.int .i64 (n:Int))→Yld P N fr H Γ (.slice t x none (some y) none) ty d:=by
  obtain⟨hl,⟨_,m,_⟩|⟨g,cap,cur,rfl,rfl,F,hm,v,h⟩⟩:=E
  · omega
  · refine⟨.slice (some ⟨g,0,none⟩) n cap,⟨?_,.inr ⟨g,cap,cur,rfl,rfl,by omega,hm,v,?_⟩⟩,fun A B h C=>?_⟩
    · rw[List.length_take,hl,Nat.add_mul];omega
    · rw[← h,List.take_take,Nat.min_eq_left (by rw[Nat.add_mul];omega)]
    · refine ao_ (dH_ (i:=0) (j:=n) (kl:=.i64) (kh:=.i64) A B h rfl C (Nat.zero_le _) zaa_) ?_
      unfold sad;rw[if_neg zaa_];simp[cK_]
section
variable {P:Program} {N:Nf} {v0:Vw} {H0:Hp} {fr:Fr}
theorem nf_:∀ (B:Hp) {v:Vw},ad_ (B.map fun p=>bl_ p.1 p.2) v→∀ p∈B,v.im p.1∧v.w.heap[p.1]? = some p.2
 | [],_,_,_,h=>by simp at h
 | q::B,v,h,p,d=>by
   rcases List.mem_cons.1 d with rfl|d
   · exact h.1
   · exact nf_ B h.2 p d
theorem xE_ {F H:Hp} {Γ:List Fct} {K D:Type} [DecidableEq K] {k:Act→World→Prop} {m:K→Value} {cells:D→List Value} {y e:TypeId} {sz A:Nat} {l:List (K×D)} {d:Hp} (G:KeyT P y m) (hm:ds_ m cells e sz l A d) (E:H.Perm (d++F))
    (h:∀ adr,Ok N v0 H0 k fr F (mlF P y m cells A l adr::Γ)):Ok N v0 H0 k fr H Γ:=by
  obtain⟨adr,C⟩:=hm.lent G;refine oL_ d E (kZ_ (fun v _ x=>?_) (h adr));rw[fe_]at x;refine⟨C v fun p B=>?_,x.2⟩;have:=x.1;exact nf_ d.reverse (by rw[List.map_reverse]at *;exact this) p (List.mem_reverse.2 B)
end
theorem BC_ {P:Program} {N:Nf} {fr:Fr} {H:Hp} {fn:Func} {t s b c:Nat} {ty d T G:TypeId} {u B:Value} (i j:Nat) (J:fn.results=#[.cell t ty,.cell s d]) (K:∀ w,(isAgg ty).run P w=.ok false w) (A:∀ w,(isAgg d).run P w=.ok false w)
    (I:Fr.get fr t=some (zp_ b 0)) (x:Fr.get fr s=some (zp_ c 0)) (hi:H[i]? = some (b,.cells #[u] T (0,0))) (L:H[j]? = some (c,.cells #[B] G (0,0))) (a:Act) (v:Vw) (C:Fr.sat N fr a) (E:v.sat H) :
    (results fn a.tmps).run P v.w=.ok (.tuple #[u,B]) v.w:=by
  have e:=C.val t _ I;have y:=C.val s _ x;have F:v.w.cell? ⟨b,0,none⟩=some u:=by rw[fb_ E hi];rfl
  have h:v.w.cell? ⟨c,0,none⟩=some B:=by rw[fb_ E L];rfl
  have hl:=cd_ (t:=ty) (w:=v.w) K F;have m:=cd_ (t:=d) (w:=v.w) A h;simp[results,J,e,y,asAddr,hl,m]
theorem BD_ (p:List Pc) (ad:Ao) (cap:Nat) (S:List Str) (sad:Ao) (b0:Nat) (hp:p.length≤100000000) (hS:S.length≤100000000):Tri prog 126 #[.slice ad p.length cap,.slice sad S.length b0] [] [X_ ad (p.flatMap Pc.cells),X_ sad (S.flatMap au_)] (fun y:{y:Nat×Array MapEntry×Nat×List Thg×Value×List Bool×Hp // SetE Thg.val y.2.1 y.2.2.2.1∧Born y.2.1 y.2.2.1∧zR 4 1 jj_ y.2.2.2.2.1 y.2.2.2.2.2.1 y.2.2.2.2.2.2∧ReachR p S y.2.2.2.1 y.2.2.2.2.2.1}=>.tuple #[.map (some y.1.1),y.1.2.2.2.2.1]) (fun y=>(y.1.1,.map y.1.2.1 y.1.2.2.1)::y.1.2.2.2.2.2.2) (fun _=>[]):=by
 refine j_ func126 rfl rfl ntmps126 rfl fun v_1=>?_;refine Zz 2 ?_;refine K_ rfl rfl fun E=>y_ zeroValue181 rfl fun e=>y_ zeroValue182 rfl fun C=>Zz 4 ?_
 refine bu_ rfl fun B=>o_ 2 sizeOf181 rfl rfl rfl rfl rfl rfl (Zz 6 ?_)
 refine mY_ (n:=p.length) (by':=1) underlying182 (z:=(.bool false)) zk rfl zad_ rfl rfl zaa_ zan_ rfl fun I HrU hrU=>?_;have hqU:az_ 4 1 I (List.length (List.replicate p.length false)) (List.flatMap jj_ (List.replicate p.length false)) HrU:=by rw[List.length_replicate,← nR_ jj_];exact hrU
 refine A_ (R_ (l_ d_) (R_ (l_ d_) (R_ (l_ d_) (bg_ bi_)))) (cq_ 1 hqU sizeOf182 rfl rfl rfl rfl (Zz 4 ?_));refine bu_ rfl fun M=>Zz 5 ?_
 refine bu_ rfl fun L=>Zz 5 ?_
 refine y_ zeroValue242 rfl fun A=>Zz 4 ?_
 refine e_ (bm_ rfl rfl) rfl (y_ zeroValue245 rfl fun F=>o_ 0 sizeOf245 rfl rfl rfl rfl rfl rfl (Zz 4 ?_));refine e_ (bm_ rfl rfl) rfl (Zz 4 ?_);refine en_ (bl_ E (.cells #[.slice ad p.length cap] 64 (0,0))) (bg_ (c_ (c_ (c_ (c_ (c_ (c_ (c_ d_)))))))) (fun _ h_1 h_2 _=>⟨h_1,h_2⟩) ?_;refine en_ (bl_ F (.cells #[.func (.func 188) #[] #[zp_ e 0,zp_ A 0]] 245 (0,0))) (bg_ d_) (fun _ h_1 h_2 _=>⟨h_1,h_2⟩) ?_;refine Zz 2 ?_;refine e_ (u_ ci_ rfl rfl) rfl (Z_ (sc_ (Thg.mk 1 [42]) ([]:List Thg) ([]:List Thg) e A B [(e,.cells #[.map (some B)] 181 (0,0)),(A,.cells #[.slice none 0 0] 242 (0,0)),(B,.map #[] 0)] ⟨#[],0,.slice none 0 0,[],rfl,SetE.nil,Born.nil 0,az_.nil _ _⟩ zaF_) rfl rfl (i_ (c_ (c_ (c_ (c_ (c_ d_))))) (i_ d_ (c_ (c_ d_)))) zt rfl fun⟨HA_1,hA_1⟩=>?_);dsimp only;refine Zz 2 ?_;refine A_ (R_ (l_ d_) (R_ (l_ d_) (bg_ (l_ d_)))) (Zz 3 ?_);refine e_ (u_ ci_ rfl rfl) rfl (Z_ (sc_ (Thg.mk 1 [33]) (([]:List Thg)++bD_ ([]:List Thg) [(Thg.mk 1 [42])]) (([]:List Thg)++bD_ ([]:List Thg) [(Thg.mk 1 [42])]) e A B HA_1 hA_1 zaF_) rfl rfl (c_ (c_ (c_ w_))) zt rfl fun⟨HA_2,hA_2⟩=>?_);dsimp only;refine Zz 3 ?_;refine A_ (R_ (l_ d_) (R_ (l_ d_) (bg_ (l_ d_)))) (Zz 8 ?_);refine O_ (ι:={y:Nat×List Thg×Hp // y.1≤List.length S∧y.2.1=bD_ [] (cZ_ (S.take y.1))∧StK 181 242 244 e A B y.2.1 y.2.1 y.2.2}) (fun y=>[(2,zp_ E 0),(4,zp_ e 0),(5,zp_ C 0),(6,.map (some M)),(7,.map (some L)),(8,zp_ A 0),(9,zp_ F 0),(10,.func (.func 189) #[] #[zp_ C 0,zp_ E 0,zp_ F 0]),(35,.slice sad S.length b0),(36,.int .i64 (List.length S:Int)),(37,.int .i64 (y.1.1:Int))]) (fun y=>((C,.cells #[I] 182 (0,0))::(HrU++((M,.map #[] 0)::((L,.map #[] 0)::y.1.2.2))))) (fun y=>[bl_ F (.cells #[.func (.func 188) #[] #[zp_ e 0,zp_ A 0]] 245 (0,0)),bl_ E (.cells #[.slice ad p.length cap] 64 (0,0)),X_ ad (p.flatMap Pc.cells),X_ sad (S.flatMap au_)]) (fun y=>S.length - y.1.1) ⟨((0:Nat),((([]:List Thg)++bD_ ([]:List Thg) [(Thg.mk 1 [42])])++bD_ (([]:List Thg)++bD_ ([]:List Thg) [(Thg.mk 1 [42])]) [(Thg.mk 1 [33])]),HA_2),by simp,(by rw[List.take_zero];exact yn_.symm),hA_2⟩ zl zp zh ?_;rintro ⟨⟨k,K,Hs_1⟩,hi_k,hK,hS_1⟩;dsimp only at hi_k hK hS_1 ⊢;refine A_ (R_ d_ (R_ (l_ d_) (bg_ (l_ d_)))) (Zi 2 (fun hr_1=>?_) fun hr_1=>?_)
 ·refine Zz 15 ?_
  have hKS:K=bD_ [] (cZ_ S):=by rw[hK,List.take_of_length_le zaa_]
  refine O_ (ι:={y:Nat×List Thg×List Bool×Hp×Array MapEntry×Nat×Hp×Hp // y.1≤List.length p∧RK p S y.1 y.2.1 y.2.2.1∧zR 4 1 jj_ I y.2.2.1 y.2.2.2.1∧StK 181 242 244 e A B y.2.1 y.2.1 y.2.2.2.2.2.2.2∧IntE (fun n:Int=>.int .i64 n) y.2.2.2.2.1 (iot y.1) (zN_ (p.take y.1))∧ds_ Thg.val cY_ 3 1 (ey_ 0 (p.take y.1)) L y.2.2.2.2.2.2.1}) (fun y=>[(2,zp_ E 0),(4,zp_ e 0),(5,zp_ C 0),(6,.map (some M)),(7,.map (some L)),(8,zp_ A 0),(9,zp_ F 0),(10,.func (.func 189) #[] #[zp_ C 0,zp_ E 0,zp_ F 0]),(35,.slice sad S.length b0),(36,.int .i64 (List.length S:Int)),(37,.int .i64 (k:Int)),(46,.slice ad p.length cap),(47,.int .i64 (List.length p:Int)),(48,.int .i64 (y.1.1:Int))]) (fun y=>((C,.cells #[I] 182 (0,0))::(y.1.2.2.2.1++((M,.map y.1.2.2.2.2.1 y.1.2.2.2.2.2.1)::(y.1.2.2.2.2.2.2.1++y.1.2.2.2.2.2.2.2))))) (fun y=>[bl_ F (.cells #[.func (.func 188) #[] #[zp_ e 0,zp_ A 0]] 245 (0,0)),bl_ E (.cells #[.slice ad p.length cap] 64 (0,0)),X_ ad (p.flatMap Pc.cells),X_ sad (S.flatMap au_)]) (fun y=>p.length - y.1.1) ⟨((0:Nat),K,(List.replicate p.length false),HrU,#[],0,[(L,.map #[] 0)],Hs_1),by simp,(by rw[hKS];exact RK.init (rX_ p S) (tY_ S)),hqU,hS_1,IntE.nil,ds_.nil _ _⟩ zl zp zh ?_;rintro ⟨⟨i,Y,U_1,Z,es_1,cw_1,HM_1,a7⟩,hi_i,hR,a2,a6,a0,a3⟩;dsimp only at hi_i hR a2 a6 a0 a3 ⊢;refine A_ (R_ d_ (bg_ (l_ d_))) (Zi 2 (fun hr_2=>?_) fun hr_2=>?_)
  ·refine Zz 8 ?_
   obtain rfl:i=p.length:=by omega
   rw[List.take_of_length_le (Nat.le_refl _)]at a3 a0;refine xE_ tp_ a3 (c_ (c_ (l_ w_))) fun adr=>?_;refine O_ (ι:={y:List Thg×List Thg×List Bool×List Int×Hp×Array MapEntry×Hp // RI p S y.1 y.2.1 y.2.2.1 y.2.2.2.1∧StK 181 242 244 e A B y.1 y.2.1 y.2.2.2.2.2.2∧zR 4 1 jj_ I y.2.2.1 y.2.2.2.2.1∧IntE (fun n:Int=>.int .i64 n) y.2.2.2.2.2.1 (iot p.length) y.2.2.2.1}) (fun y=>[(4,zp_ e 0),(5,zp_ C 0),(6,.map (some M)),(7,.map (some L)),(8,zp_ A 0),(10,.func (.func 189) #[] #[zp_ C 0,zp_ E 0,zp_ F 0])]) (fun y=>((C,.cells #[I] 182 (0,0))::(y.1.2.2.2.2.1++((M,.map y.1.2.2.2.2.2.1 cw_1)::y.1.2.2.2.2.2.2)))) (fun y=>[mlF prog 244 Thg.val cY_ L (ey_ 0 p) adr,bl_ F (.cells #[.func (.func 188) #[] #[zp_ e 0,zp_ A 0]] 245 (0,0)),bl_ E (.cells #[.slice ad p.length cap] 64 (0,0)),X_ ad (p.flatMap Pc.cells),X_ sad (S.flatMap au_)]) (fun y=>(oc_ p S).length - y.1.1.length+y.1.2.1.length) ⟨(Y,Y,U_1,(zN_ p),Z,es_1,a7),hR.done,a6,a2,a0⟩ zl zp zh ?_;rintro ⟨⟨K,W,Uw,wl,HUw,esw,Hsw⟩,hI,hSw,hUw,hWw⟩;dsimp only at hI hSw hUw hWw ⊢;obtain⟨esK,cK,svW,HwK,rfl,hEK,hBK,hrW⟩:=hSw;have hwl:=hI.kw.wlen;have hkl:=hI.kw.len;have hul:=jx_ p S;refine ax_ (A_ (R_ d_ (R_ (l_ d_) (R_ (l_ d_) (R_ (l_ d_) (bg_ (l_ d_)))))) (Zz 3 ?_));refine e_ (cF_ hrW ag_ rfl) rfl ?_;refine Zi 0 (fun hr_3=>?_) fun hr_3=>?_
   ·refine Zz 7 ?_
    refine D_ 2 [0,1] zk zs (Zz 3 ?_);refine p_ 2 rfl zk (o_ 2 sizeOf181 rfl rfl rfl rfl rfl rfl (Zz 3 ?_));refine p_ 3 rfl zk (cq_ 0 hUw sizeOf182 rfl rfl rfl rfl (Zz 6 ?_));obtain rfl:W=[]:=List.eq_nil_of_length_eq_zero zaa_;exact cS_ ⟨⟨B,esK,cK,K,I,Uw,HUw⟩,hEK,hBK,hUw,hI.end⟩ (fun aa v h_1 h_2=>BC_ 2 0 results126 isAgg181 isAgg182 rfl rfl rfl rfl aa v h_1 h_2) (i_ (c_ (c_ (c_ (c_ d_)))) (c_ (c_ (c_ (c_ w_))))) zt
   obtain⟨Wp,d,rfl⟩:∃ Wp d,W=Wp++[d]:=by rcases List.eq_nil_or_concat W with h|⟨a,b,h⟩;subst h;simp at *;exact⟨a,b,by simpa using h⟩
   have hxl:List.length (Wp++[d])=Wp.length+1:=by simp
   have G:(Wp++[d])[List.length Wp]? = some d:=by simp
   refine Zz 10 ?_;refine e_ (cF_ hrW ag_ rfl) rfl (e_ (ao_ (aI_ rfl rfl rfl (bv_ zaj_ zaj_)) (show _=Value.int .i64 (List.length Wp:Int) from congrArg _ zaj_)) rfl ?_);refine e_ (bI_ hrW ag_ ba_ rfl rfl zaa_ zaa_) rfl (e_ (eQ_ hrW zp isAgg244 ba_ rfl (Thg.cells_len _) zad_ (z_ Thg.cells_len G)) rfl (y_ aQ_ rfl fun b_9=>o_ 0 ba_ rfl rfl rfl rfl rfl rfl (Zz 6 ?_)));refine e_ (cF_ hrW ag_ rfl) rfl (e_ (ao_ (aI_ rfl rfl rfl (bv_ zaj_ zaj_)) (show _=Value.int .i64 (List.length Wp:Int) from congrArg _ zaj_)) rfl ?_);obtain⟨O,V,hy_1⟩:=BH_ (P:=prog) (n:=Wp.length) (by have q:=hrW;rw[List.length_append]at q;exact q);have hr_5:az_ 244 2 O Wp.length (Wp.flatMap Thg.cells) HwK:=by have q:=V;rw[nG_ Thg.cells 2 Thg.cells_len,List.take_left]at q;exact q
   refine e_ (hy_1 ag_ ba_ rfl rfl) rfl (cq_ 4 hr_5 sizeOf242 rfl rfl rfl rfl (Zz 6 ?_));refine e_ (cb_ (k:=d) (adr:=adr) tp_ runUnderlying241 zeroValue58 rfl rfl zf) rfl (Zz 5 ?_);have hus:=uo_ p d;have hSp:StK 181 242 244 e A B K Wp ((e,.cells #[.map (some B)] 181 (0,0))::(A,.cells #[O] 242 (0,0))::(B,.map esK cK)::HwK):=⟨esK,cK,O,HwK,rfl,hEK,hBK,hr_5⟩;have hul_1:List.length (lat (ey_ 0 p) d)≤1000000000:=by have q:=fF_ (ey_ 0 p) d;have q_1:=of_ p 0;omega
   refine dk_ (H':=((b_9,.cells #[.int .i64 (Thg.kind d),str (Thg.name d)] 244 (0,0))::((C,.cells #[I] 182 (0,0))::((M,.map esw cw_1)::(HUw++((e,.cells #[.map (some B)] 181 (0,0))::(A,.cells #[O] 242 (0,0))::(B,.map esK cK)::HwK)))))) (i_ d_ (i_ d_ (i_ d_ (B_ (c_ (c_ (c_ w_))) (i_ d_ (i_ d_ (i_ d_ aj_))))))) (fun v _ h=>h) ?_;refine O_ (ι:={y:Nat×List Thg×List Thg×List Bool×List Int×Hp×Array MapEntry×Hp // y.1≤List.length (lat (ey_ 0 p) d)∧RJ p S d (lat (ey_ 0 p) d) y.1 y.2.1 y.2.2.1 y.2.2.2.1 y.2.2.2.2.1∧StK 181 242 244 e A B y.2.1 y.2.2.1 y.2.2.2.2.2.2.2∧zR 4 1 jj_ I y.2.2.2.1 y.2.2.2.2.2.1∧IntE (fun n:Int=>.int .i64 n) y.2.2.2.2.2.2.1 (iot p.length) y.2.2.2.2.1∧y.2.1.length+Wp.length=K.length+List.length y.2.2.1}) (fun y=>[(4,zp_ e 0),(5,zp_ C 0),(6,.map (some M)),(7,.map (some L)),(8,zp_ A 0),(10,.func (.func 189) #[] #[zp_ C 0,zp_ E 0,zp_ F 0]),(97,.slice (adr d).1 (List.length (lat (ey_ 0 p) d)) (adr d).2),(98,.int .i64 (List.length (lat (ey_ 0 p) d):Int)),(99,.int .i64 (y.1.1:Int))]) (fun y=>((C,.cells #[I] 182 (0,0))::(y.1.2.2.2.2.2.1++((M,.map y.1.2.2.2.2.2.2.1 cw_1)::y.1.2.2.2.2.2.2.2)))) (fun y=>[mlF prog 244 Thg.val cY_ L (ey_ 0 p) adr,bl_ F (.cells #[.func (.func 188) #[] #[zp_ e 0,zp_ A 0]] 245 (0,0)),bl_ E (.cells #[.slice ad p.length cap] 64 (0,0)),X_ ad (p.flatMap Pc.cells),X_ sad (S.flatMap au_)]) (fun y=>List.length (lat (ey_ 0 p) d) - y.1.1) ⟨((0:Nat),K,Wp,Uw,wl,HUw,esw,((e,.cells #[.map (some B)] 181 (0,0))::(A,.cells #[O] 242 (0,0))::(B,.map esK cK)::HwK)),by simp,(hI.pop _),hSp,hUw,hWw,rfl⟩ zl zp zh ?_;rintro ⟨⟨j,K_2,W_1,U_2,wl_1,HU_2,es_2,Hs_3⟩,hi_j,hJ,a1,a5,a4,hKW⟩;dsimp only at hi_j hJ a1 a5 a4 hKW ⊢;refine A_ (R_ d_ (bg_ (l_ d_))) (Zi 2 (fun hr_6=>?_) fun hr_6=>?_)
   ·have ej:j=List.length (lat (ey_ 0 p) d):=by omega
    refine Zz 6 ?_;exact x_ ⟨(K_2,W_1,U_2,wl_1,HU_2,es_2,Hs_3),(by rw[ej]at hJ;exact hJ.done hus),a1,a5,a4⟩ (by dsimp only;have q:=hJ.kw.len;rw[List.length_append,List.length_singleton]at *;omega) zl (i_ d_ (B_ (c_ w_) (i_ d_ aj_))) zh
   obtain⟨H,x,T,hmx_1⟩:=zge (show j<List.length (lat (ey_ 0 p) d) by omega);obtain⟨hx_3,hx2l⟩:=hus.1 x hmx_1;obtain⟨m,rfl⟩:∃ m:Nat,x=(m:Int):=⟨x.toNat,by omega⟩;have hml:m<p.length:=by omega
   obtain⟨x_2,a9⟩:∃ x_2,p[m]? = some x_2:=⟨_,List.getElem?_eq_getElem hml⟩;obtain⟨n_1,a8,hn_2,hn_3,hn_4⟩:=hJ.pos hus T a9;have hnl_1:=if_ x_2;refine Zz 10 ?_;refine e_ (U_ ap_ P_ rfl rfl (fun v _ h=>aK_ (n:=1) dO_ zad_ (by exact (bs_ h.1 d)) T) zaa_ zah_) rfl ?_;refine e_ (bP_ (ad:=(adr d).1) aF_ rfl (fun v _ h=>by exact (bs_ h.1 d)) (z_ dO_ T 0 _ rfl)) rfl (Zz 7 ?_);refine e_ (pQ_ (k:=(m:Int)) (i:=m) (n:=n_1) uY_ xa_ rfl rfl a4 (ve_ hml) a8 (fun v h _=>(h.own _ (List.mem_of_getElem? (i:=1) rfl)).1)) rfl (Zz 1 ?_);refine uJ_ (k:=(m:Int)) (i:=m) 1 uY_ (.inr rfl) xa_ rfl rfl rfl rfl a4 (ve_ hml) a8 fun R Q=>Zz 6 ?_
   refine e_ (pQ_ (k:=(m:Int)) (i:=m) (n:=(n_1 - 1)) uY_ xa_ rfl rfl Q (ve_ hml) (by rw[List.getElem?_set_self (by rw[hJ.wll];exact hml)]) (fun v h _=>(h.own _ (List.mem_of_getElem? (i:=1) rfl)).1)) rfl ?_;refine Zi 0 (fun hr_7=>?_) fun hr_7=>?_
   ·refine Zz 10 ?_
    exact x_ ⟨(j+1,K_2,W_1,U_2,(List.set wl_1 m (n_1 - 1)),HU_2,R,Hs_3),H,(hJ.skip hus T a9 a8 hr_7),a1,a5,Q,hKW⟩ zab_ zl (i_ d_ (B_ (c_ w_) (i_ d_ aj_))) zh
   refine Zz 6 ?_;refine Z_ (CN_ m x_2 p ad cap K_2 W_1 U_2 E e C A F B I HU_2 Hs_3 a9 hp a5 hJ.ul a1 (by have q:=hJ.kw.wlen;omega)) rfl rfl (i_ d_ (B_ (c_ w_) C_)) zf rfl fun⟨⟨HB_1,HC_1⟩,X,U⟩=>?_;dsimp only;dsimp only at X U;simp only[List.cons_append,List.append_assoc];refine Zz 2 ?_;refine A_ (R_ d_ (bg_ (l_ bi_))) (Zz 5 ?_);exact x_ ⟨(j+1,(K_2++bD_ K_2 (aE_ x_2)),(W_1++bD_ K_2 (aE_ x_2)),(List.set U_2 m true),(List.set wl_1 m (n_1 - 1)),HB_1,R,HC_1),H,(hJ.take hus T a9 a8 hr_7),U,X,Q,zaW_⟩ zab_ zl zp zh
  have H:i<p.length:=by omega
  obtain⟨x,G⟩:∃ e_1,p[i]? = some e_1:=⟨_,List.getElem?_eq_getElem H⟩;refine Zz 13 ?_;refine y_ V_ rfl fun b_9=>Zz 1 ?_
  refine o_ 0 L_ rfl rfl rfl rfl rfl rfl (Zz 5 ?_);refine f_ (BP_ x) rfl g_ zt rfl fun⟨⟨nad,ncap⟩,ncl,ncm,ncz⟩=>?_;dsimp only;refine Zz 9 ?_;refine uK_ (k:=(i:Int)) 2 uY_ (.inr rfl) xa_ rfl rfl rfl rfl a0 (Cc_ i) fun R cn_1 Q=>Zz 11 ?_
  refine O_ (ι:={y:Nat×Hp // y.1≤List.length (ah_ x)∧ds_ Thg.val cY_ 3 1 ((ey_ 0 (p.take i))++List.map (fun t=>(t,(i:Int))) (List.take y.1 (ah_ x))) L y.2}) (fun y=>[(2,zp_ E 0),(4,zp_ e 0),(5,zp_ C 0),(6,.map (some M)),(7,.map (some L)),(8,zp_ A 0),(9,zp_ F 0),(10,.func (.func 189) #[] #[zp_ C 0,zp_ E 0,zp_ F 0]),(35,.slice sad S.length b0),(36,.int .i64 (List.length S:Int)),(37,.int .i64 (k:Int)),(46,.slice ad p.length cap),(47,.int .i64 (List.length p:Int)),(48,.int .i64 (i:Int)),(13,.int .i64 (i:Int)),(15,.slice nad (List.length (ah_ x)) ncap),(59,.slice nad (List.length (ah_ x)) ncap),(60,.int .i64 (List.length (ah_ x):Int)),(61,.int .i64 (y.1.1:Int))]) (fun y=>((C,.cells #[I] 182 (0,0))::(Z++((M,.map R cn_1)::(y.1.2++a7))))) (fun y=>[X_ nad (List.flatMap Thg.cells (ah_ x)),bl_ F (.cells #[.func (.func 188) #[] #[zp_ e 0,zp_ A 0]] 245 (0,0)),bl_ E (.cells #[.slice ad p.length cap] 64 (0,0)),X_ ad (p.flatMap Pc.cells),X_ sad (S.flatMap au_)]) (fun y=>List.length (ah_ x) - y.1.1) ⟨((0:Nat),HM_1),by simp,(by rw[List.take_zero,List.map_nil,List.append_nil];exact a3)⟩ zl (i_ (c_ d_) (B_ (c_ (c_ w_)) (i_ (c_ d_) (B_ (c_ w_) C_)))) zh ?_;rintro ⟨⟨j,HM_2⟩,hi_j,J⟩;dsimp only at hi_j J ⊢;have hnl_1:=if_ x;have hub:List.length ((ey_ 0 (p.take i))++List.map (fun t=>(t,(i:Int))) (List.take j (ah_ x)))≤400000000:=by have q:=of_ (p.take i) 0;have q_1:=List.length_take_le i p;have q_2:=List.length_take_le j (ah_ x);have q_3:=if_ x;rw[List.length_append,List.length_map];omega
  refine A_ (R_ d_ (bg_ (l_ d_))) (Zi 2 (fun hr_3=>?_) fun hr_3=>?_)
  ·refine Zi 10 (fun V=>?_) fun V=>?_
   ·refine Zz 10 ?_
    exact x_ ⟨(i+1,Y,U_1,Z,R,cn_1,HM_2,a7),H,hR.skip G (fun q=>by rw[q]at V;exact V rfl),a2,a6,(by rw[lj_,qy_ G];exact Q),(by rw[pW_ G];rw[show List.take j (ah_ x)=ah_ x from List.take_of_length_le zaa_]at J;exact J)⟩ zab_ zl zp (fun _ _ h=>h.2)
   refine Zz 6 ?_;refine Z_ (CN_ i x p ad cap Y Y U_1 E e C A F B I Z a7 G hp a2 hR.ul a6 (by have q:=hR.kw.wlen;have q_1:=jx_ p S;omega)) rfl rfl (i_ d_ (B_ (c_ w_) (c_ bi_))) zf rfl fun⟨⟨HB_1,HC_1⟩,X,U⟩=>?_;dsimp only;dsimp only at X U;simp only[List.cons_append,List.append_assoc];refine Zz 2 ?_;refine A_ (R_ d_ (bg_ (l_ (l_ d_)))) (Zz 5 ?_);exact x_ ⟨(i+1,(Y++bD_ Y (aE_ x)),(List.set U_1 i true),HB_1,R,cn_1,HM_2,HC_1),H,hR.take G (List.eq_nil_of_length_eq_zero zaa_),X,U,(by rw[lj_,qy_ G];exact Q),(by rw[pW_ G];rw[show List.take j (ah_ x)=ah_ x from List.take_of_length_le zaa_]at J;exact J)⟩ zab_ zl zp (fun _ _ h=>h.2)
  have hlt_1:j<List.length (ah_ x):=by omega
  obtain⟨d,ht_1⟩:∃ e_1,(ah_ x)[j]? = some e_1:=⟨_,List.getElem?_eq_getElem hlt_1⟩;refine Zz 12 ?_;refine y_ aQ_ rfl fun b_10=>o_ 0 ba_ rfl rfl rfl rfl rfl rfl (Zz 6 ?_)
  refine G_ ap_ P_ bA_ rfl rfl rfl rfl rfl rfl fun b_11=>?_;have hbb_1:=(show (lat ((ey_ 0 (p.take i))++List.map (fun t=>(t,(i:Int))) (List.take j (ah_ x))) d).length≤400000000 from Nat.le_trans (fF_ _ _) hub);refine fA_ (k:=d) tp_ J runUnderlying241 zeroValue58 rfl rfl (c_ (c_ (c_ (c_ (l_ w_))))) rfl fun es_1 ce_1 ie_1 se_1 ve_1 Hk_1 Hx_1 ho_1 hw_1=>Zz 1 ?_
  refine aO_ (news:=List.flatMap cY_ [(i:Int)]) nH_ hw_1 rfl rfl zp rfl (fx_ zp) (fun u hu=>bn_ lk_ hu) zan_ zaa_ rfl fun O Hr_1 hr_1=>?_;have hq_1:=zsa hr_1;refine Zz 1 ?_;refine cU_ (k:=d) (dd:=(i:Int)) ho_1 (by rw[fd_];exact hq_1) rfl rfl rfl (fa_ (i_ (l_ d_) (B_ w_ w_))) fun H_1 J=>?_;refine Zz 2 ?_;refine A_ (R_ (l_ d_) (R_ (l_ d_) (R_ (l_ d_) (bg_ (l_ d_))))) (Zz 5 ?_);exact x_ ⟨(j+1,H_1),hlt_1,(by rw[take_snoc ht_1,List.map_append,← List.append_assoc];exact J)⟩ zab_ zl zp zh
 have hls_1:k<S.length:=by omega
 obtain⟨s_1,hs_1⟩:∃ e_1,S[k]? = some e_1:=⟨_,List.getElem?_eq_getElem hls_1⟩;refine Zz 18 ?_;refine e_ (u_ ci_ rfl rfl) rfl (Z_ (sc_ (Thg.mk 1 s_1) K K e A B Hs_1 hS_1 (by have q:=(rX_ ([]:List Pc) (S.take k)).wlen;have q_1:=jx_ ([]:List Pc) (S.take k);have q_2:=List.length_take_le k S;simp only[List.length_nil]at q_1;rw[hK];omega)) rfl rfl (c_ (c_ (c_ bi_))) zt rfl fun⟨HA_3,hA_3⟩=>?_);dsimp only;refine Zz 2 ?_;refine A_ (R_ (l_ d_) (R_ (l_ d_) (bg_ (l_ d_)))) (Zz 5 ?_);exact x_ ⟨(k+1,(K++bD_ K [(Thg.mk 1 s_1)]),HA_3),hls_1,(by rw[yo_ hs_1,← hK]),hA_3⟩ zab_ zl zp zh
end Go.Proofs.YthmjeabeoodghaaGreatDoor
namespace Go.Vs
open Go Go.Sx
abbrev SrS (l:List Str):Prop:=l.Pairwise fun x y=>x<y
theorem on_ (a:Str):¬ a<a:=List.lt_irrefl a
theorem wN_ {l:List Str} {s:Str} (d:s≠[]) (e:s ∉ l):dw_ l s=l.take (kS l s)++[s]++l.drop (kS l s):=by
  unfold dw_;rw[if_neg (by rintro (q|q);exact d q;exact e (List.mem_of_getElem? q))]
structure Rcd where
  a:List Str
  aad:Ao
  acap:Nat
  r:List Str
  rad:Ao
  rcap:Nat
  f:List Str
  fad:Ao
  fcap:Nat
def PcN (x:Pc):Prop:=(1≤x.kind∧x.kind≤9)∧∀ t∈aE_ x,t.name≠[]
theorem kinds9 {x:Pc} (h:1≤x.kind∧x.kind≤9):x.kind=1∨x.kind=2∨x.kind=3∨x.kind=4∨x.kind=5∨x.kind=6∨x.kind=7∨x.kind=8∨x.kind=9:=by omega
end Go.Vs
namespace Go.Proofs.YthmjeabeoodghaaGreatDoor
open Go Go.Sx Go.Proofs Tryz
attribute [local irreducible] Code.wp wpList wpAnyH
open Go.Vs
theorem AJ_ {p:List Pc} {x:Pc} (d:x∈p) {s:Str} (h:s=x.a∨s=x.b∨s=x.c) (e:s≠[]):s∈atS p:=by
  refine (fI_ p s).2 (.inl ((ej_ p s).2 ?_));refine List.mem_flatMap.2 ⟨x,d,List.mem_filter.2 ⟨?_,by simpa using e⟩⟩;rcases h with rfl|rfl|rfl<;>simp
theorem atS_ne {p:List Pc} {s:Str} (h:s∈atS p):s≠[]:=by
 rcases (fI_ p s).1 h with h|rfl|rfl
 ·obtain⟨x,_,d⟩:=List.mem_flatMap.1 ((ej_ p s).1 h)
  simpa using (List.mem_filter.1 d).2
 ·decide
 decide
def cV_ (S:List Str):List Pc:=S.map fun s=>⟨1,s,[],[42],[],[],[],0,0,-1⟩
theorem tB_ {x:Pc} {s:Str} (h:(⟨1,s⟩:Thg)∈aE_ x):s=x.c:=by
  unfold aE_ at h
  repeat' split at h
  all_goals simp at h
  all_goals exact h
theorem xZ_ {p q:List Pc} {S:List Str} (R:∀ x∈p,Usb p S x→∃ y∈q,∃ n,{ y with frm:=n }=x) {y:Fc} (h:Der (p++cV_ S) (atS (p++cV_ S)) y):Rch p S ⟨1,y.a⟩→Der (q++cV_ S) (atS (q++cV_ S)) y∧(y.kind=1→Rch p S ⟨1,y.b⟩)∧(y.kind=2→Rch p S ⟨1,y.b⟩∧Rch p S ⟨2,y.r⟩)∧(y.kind=3→Rch p S ⟨3,y.r⟩):=by
 have top:Rch p S ⟨1,[42]⟩:=.base (by simp[cZ_]);have H:Rch p S ⟨1,[33]⟩:=.base (by simp[cZ_])
 have g:∀ {x:Pc} {t:Thg},x∈p++cV_ S→(∀ u∈ah_ x,Rch p S u)→t∈aE_ x→Rch p S t:=fun {x t} v hn ht=>by
   rcases List.mem_append.1 v with v|v
   · exact .give v hn ht
   · obtain⟨s,_,rfl⟩:=List.mem_map.1 v
     have e:t=⟨1,[42]⟩:=by simpa [aE_] using ht
     rw[e];exact top
 have k:∀ {x:Pc},x∈p++cV_ S→(∀ u∈ah_ x,Rch p S u)→∃ y∈q++cV_ S,∃ n,{ y with frm:=n }=x:=fun {x} v hn=>by
   rcases List.mem_append.1 v with v|v
   · obtain⟨y,B,n,e⟩:=R x v hn
     exact⟨y,List.mem_append_left _ B,n,e⟩
   · exact⟨x,List.mem_append_right _ v,x.frm,rfl⟩
 have F:∀ {a:Str},a∈atS (p++cV_ S)→Rch p S ⟨1,a⟩→a∈atS (q++cV_ S):=fun {a} ha m=>by
   have I:=atS_ne ha;cases m with
   | base E =>
     simp only[cZ_,List.mem_append,List.mem_cons,List.not_mem_nil,or_false,Thg.mk.injEq,true_and,List.mem_map]at E;rcases E with (rfl|rfl)|⟨s,U,rfl⟩
     · exact (fI_ _ _).2 (.inr (.inl rfl))
     · exact (fI_ _ _).2 (.inr (.inr rfl))
     · exact AJ_ (x:=⟨1,s,[],[42],[],[],[],0,0,-1⟩) (List.mem_append_right _ (List.mem_map.2 ⟨s,U,rfl⟩)) (.inl rfl) I
   | give v hn ht =>
     obtain⟨y,B,n,e⟩:=R _ v hn;subst e;exact AJ_ (List.mem_append_left _ B) (.inr (.inr (tB_ ht))) I
 have A:∀ {a b:Str},(W_ a b).kind=1:=rfl;have N:∀ {a b:Str},(W_ a b).kind≠2:=by intro a b;simp[W_]
 have L:∀ {a b:Str},(W_ a b).kind≠3:=by intro a b;simp[W_]
 have P:∀ {a b r:Str},(as_ a r b).kind≠1:=by intro a b r;simp[as_]
 have O:∀ {a b r:Str},(as_ a r b).kind≠3:=by intro a b r;simp[as_]
 have K:∀ {a r:Str} {lo hi:Int},(Y_ a r lo hi).kind≠1:=by intro a r lo hi;simp[Y_]
 have M:∀ {a r:Str} {lo hi:Int},(Y_ a r lo hi).kind≠2:=by intro a r lo hi;simp[Y_]
 have G:∀ {a b:Str},Der (q++cV_ S) (atS (q++cV_ S)) (W_ a b)→Rch p S ⟨1,b⟩→Der (q++cV_ S) (atS (q++cV_ S)) (W_ a b)∧((W_ a b).kind=1→Rch p S ⟨1,(W_ a b).b⟩)∧((W_ a b).kind=2→Rch p S ⟨1,(W_ a b).b⟩∧Rch p S ⟨2,(W_ a b).r⟩)∧((W_ a b).kind=3→Rch p S ⟨3,(W_ a b).r⟩):=fun d h=>⟨d,fun _=>h,fun q=>absurd q N,fun q=>absurd q L⟩
 have J:∀ {a r b:Str},Der (q++cV_ S) (atS (q++cV_ S)) (as_ a r b)→Rch p S ⟨1,b⟩→Rch p S ⟨2,r⟩→Der (q++cV_ S) (atS (q++cV_ S)) (as_ a r b)∧((as_ a r b).kind=1→Rch p S ⟨1,(as_ a r b).b⟩)∧((as_ a r b).kind=2→Rch p S ⟨1,(as_ a r b).b⟩∧Rch p S ⟨2,(as_ a r b).r⟩)∧((as_ a r b).kind=3→Rch p S ⟨3,(as_ a r b).r⟩):=fun d h C=>⟨d,fun q=>absurd q P,fun _=>⟨h,C⟩,fun q=>absurd q O⟩
 have Q:∀ {a r:Str} {lo hi:Int},Der (q++cV_ S) (atS (q++cV_ S)) (Y_ a r lo hi)→Rch p S ⟨3,r⟩→Der (q++cV_ S) (atS (q++cV_ S)) (Y_ a r lo hi)∧((Y_ a r lo hi).kind=1→Rch p S ⟨1,(Y_ a r lo hi).b⟩)∧((Y_ a r lo hi).kind=2→Rch p S ⟨1,(Y_ a r lo hi).b⟩∧Rch p S ⟨2,(Y_ a r lo hi).r⟩)∧((Y_ a r lo hi).kind=3→Rch p S ⟨3,(Y_ a r lo hi).r⟩):=fun d h=>⟨d,fun q=>absurd q K,fun q=>absurd q M,fun _=>h⟩
 refine h.least (T:=fun y=>Rch p S ⟨1,y.a⟩→Der (q++cV_ S) (atS (q++cV_ S)) y∧(y.kind=1→Rch p S ⟨1,y.b⟩)∧(y.kind=2→Rch p S ⟨1,y.b⟩∧Rch p S ⟨2,y.r⟩)∧(y.kind=3→Rch p S ⟨3,y.r⟩)) ?_;intro y B m;cases B with
 | r1 h=>exact G (Der.step (.r1 (F h m))) m
 | r2 h=>exact G (Der.step (.r2 (F h m))) top
 | r10 v hk h =>
   obtain⟨y,B,n,e⟩:=k v (by simp[ah_,hk]);refine J ?_ m (g v (by simp[ah_,hk]) zaO_);subst e;exact Der.step (One.r10 (x:=y) B hk (F h m))
 | r3 v hk h =>
   obtain⟨y,B,n,e⟩:=k v zav_;refine G ?_ (g v zav_ zaO_);subst e;exact Der.step (One.r3 (x:=y) B hk (h m).1)
 | r4 v hk h C =>
   obtain⟨y,B,n,e⟩:=k v zbF_;refine G ?_ (g v zbF_ zaO_);subst e;exact Der.step (One.r4 (x:=y) B hk (h m).1 (C m).1)
 | r5 v hk h =>
   obtain⟨y,B,n,e⟩:=k v zav_;refine J ?_ (g v zav_ zaO_) (g v zav_ zaO_);subst e;exact Der.step (One.r5 (x:=y) B hk (h m).1)
 | r6 v hk h =>
   obtain⟨y,B,n,e⟩:=k v zbV_;refine J ?_ ((h m).2.2.1 rfl).1 (g v zbV_ zaO_);subst e;exact Der.step (One.r6 (x:=y) B hk (h m).1)
 | r7 v hk h C =>
   have E:=((h m).2.2.1 rfl).1;obtain⟨y,B,n,e⟩:=k v zbq_;refine J ?_ ((C E).2.2.1 rfl).1 (g v zbq_ zaO_);subst e;exact Der.step (One.r7 (x:=y) B hk (h m).1 (C E).1)
 | r8 v hk h C =>
   have E:=((h m).2.2.1 rfl).1;obtain⟨y,B,n,e⟩:=k v zbw_;refine G ?_ (g v zbw_ zaO_);subst e;exact Der.step (One.r8 (x:=y) B hk (h m).1 (C E).1)
 | r9 h C=>exact G (Der.step (.r9 (h m).1 (C ((h m).2.2.1 rfl).1).1)) H
 | r11 v hk h =>
   obtain⟨y,B,n,e⟩:=k v zav_;refine Q ?_ (g v zav_ zaO_);subst e;exact Der.step (One.r11 (x:=y) B hk (h m).1)
 | r12 h C hm hl=>exact Q (Der.step (.r12 (h m).1 (C m).1 trivial hl)) ((h m).2.2.2 rfl)
 | r13 h C hm hl=>exact G (Der.step (.r13 (h m).1 (C m).1 trivial hl)) H
 | r14 v hk h h1 h2 =>
   obtain⟨y,B,n,e⟩:=k v zcb_;refine G ?_ (g v zcb_ zaO_);subst e;exact Der.step (One.r14 (x:=y) B hk (h m).1 h1 h2)
def mV_ (a:Ax):Prop:=a.kind=5∨a.kind=6∨a.kind=7
instance (a:Ax):Decidable (mV_ a):=by unfold mV_;infer_instance
def Mat (l:List Ax) (p:List Pc) (S:List Str) (i:Int):Prop:=(∃ a,l[i.toNat]? = some a∧mV_ a)∨∃ x∈p,x.frm=i∧Usb p S x
def matB (l:List Ax) (p:List Pc) (S:List Str) (i:Int):Bool:=((l[i.toNat]?).any fun a=>decide (mV_ a))||p.any fun x=>decide (x.frm=i)&&usbB p S x
theorem oP_ {l:List Ax} {p:List Pc} {S:List Str} {i:Int}:matB l p S i=true↔Mat l p S i:=by
 unfold matB Mat;rw[Bool.or_eq_true,List.any_eq_true];refine or_congr ?_ ?_
 ·cases l[i.toNat]? <;> simp
 constructor
 ·rintro ⟨x,e,h⟩
  rw[Bool.and_eq_true,decide_eq_true_eq,st_]at h;exact⟨x,e,h⟩
 rintro ⟨x,e,d,m⟩;exact⟨x,e,by rw[Bool.and_eq_true,decide_eq_true_eq,st_];exact⟨d,m⟩⟩
def dt_ (l:List Ax) (p:List Pc) (S:List Str) (n:Nat):List Int:=(iot n).filter fun i=>matB l p S i
theorem tj_ {l:List Ax} {p:List Pc} {S:List Str} {n:Nat} (h:Mat l p S n):dt_ l p S (n+1)=dt_ l p S n++[(n:Int)]:=by
  unfold dt_;rw[lj_,List.filter_append,List.filter_cons,if_pos (oP_.2 h)];rfl
theorem wd_ {l:List Ax} {p:List Pc} {S:List Str} {n:Nat} (h:¬ Mat l p S n):dt_ l p S (n+1)=dt_ l p S n:=by
  unfold dt_;rw[lj_,List.filter_append,List.filter_cons,if_neg (fun q=>h (oP_.1 q))];simp
theorem qw_ {l:List Ax} {p:List Pc} {S:List Str}:dt_ l p S 0=[]:=by simp[dt_,iot]
theorem zI_ {l:List Ax} {p:List Pc} {S:List Str} {n:Nat} {i:Int}:i∈dt_ l p S n↔(0≤i∧i<n)∧Mat l p S i:=by
 unfold dt_;rw[List.mem_filter,oP_];constructor
 ·rintro ⟨d,h⟩
  obtain⟨k,v⟩:=List.getElem?_of_mem d;have e:=wh_ v;have hl:=(List.getElem?_eq_some_iff.1 v).1;simp[iot]at hl
  exact⟨by omega,h⟩
 rintro ⟨⟨d,h⟩,m⟩;refine⟨?_,m⟩;simp only[iot,List.mem_map,List.mem_range];exact⟨i.toNat,by omega,by simp;omega⟩
theorem tk_ {l:List Ax} {p:List Pc} {S:List Str} (n:Nat):(dt_ l p S n).length≤n:=by
  unfold dt_;refine Nat.le_trans (List.length_filter_le _ _) ?_;simp[iot]
def cE_ (l:List Ax) (w:List Int):List Ax:=w.filterMap fun i=>l[i.toNat]?
theorem kw_ {l:List Ax} {w:List Int} {i:Int} {a:Ax} (h:l[i.toNat]? = some a):cE_ l (w++[i])=cE_ l w++[a]:=by simp[cE_,h]
theorem lL_ {l:List Ax} {w:List Int} {a:Ax}:a∈cE_ l w↔∃ i∈w,l[i.toNat]? = some a:=by simp[cE_]
theorem gJ_:∀ {l:List Ax} {i:Nat} {q:Pc},q∈bo_ i l↔∃ (j:Nat) (a:Ax),l[j]? = some a∧q∈a.pieces ((i+j:Nat):Int)
 | [],i,q=>by simp[bo_]
 | x::l,i,q=>by
   rw[bo_,List.mem_append,gJ_];constructor
   · rintro (h|⟨j,a,d,e⟩)
     · exact⟨0,x,rfl,h⟩
     · exact⟨j+1,a,by simpa using d,by rwa [show i+(j+1)=i+1+j by omega]⟩
   · rintro ⟨j,a,d,e⟩
     match j with
     | 0 =>
       obtain rfl:x=a:=by simpa using d
       exact .inl e
     | j+1=>exact .inr ⟨j,a,by simpa using d,by rwa [show i+1+j=i+(j+1) by omega]⟩
theorem mX_ {a:Ax} {q:Pc} {f:Int} (g:Int) (h:q∈a.pieces f):∃ y∈a.pieces g,∃ n,{ y with frm:=n }=q:=by
  have m:a.pieces f=(a.pieces 0).map (shift f):=by have:=Ax.pieces_shift 0 f a;rwa [Int.zero_add]at this
  have d:a.pieces g=(a.pieces 0).map (shift g):=by have:=Ax.pieces_shift 0 g a;rwa [Int.zero_add]at this
  rw[m]at h;obtain⟨z,e,rfl⟩:=List.mem_map.1 h;exact⟨shift g z,by rw[d];exact List.mem_map.2 ⟨z,e,rfl⟩,z.frm+f,rfl⟩
theorem uU_ {l:List Ax} {S:List Str} (hl:l.length≤12) (m:∀ x∈l,x.ok) (B:∀ x∈l,x.check=0):∀ x∈bo_ 0 l,Usb (bo_ 0 l) S x→∃ y∈bo_ 0 (cE_ l (dt_ l (bo_ 0 l) S l.length)),∃ n,{ y with frm:=n }=x:=fun x v E=>by
  obtain⟨j,a,d,h⟩:=gJ_.1 v;rw[Nat.zero_add]at h;have A:=List.mem_of_getElem? d;have I:=(List.getElem?_eq_some_iff.1 d).1;have C:x.frm=j:=(Ax.pieces_all (f:=(j:Int)) zaa_ zaa_ (m a A) (B a A) x h).frm;have hm:(j:Int)∈dt_ l (bo_ 0 l) S l.length:=zI_.2 ⟨by omega,.inr ⟨x,v,C,E⟩⟩;have H:a∈cE_ l (dt_ l (bo_ 0 l) S l.length):=lL_.2 ⟨j,hm,by simpa using d⟩;obtain⟨k,F⟩:=List.getElem?_of_mem H;obtain⟨y,G,n,e⟩:=mX_ ((0+k:Nat):Int) h;exact⟨y,gJ_.2 ⟨k,a,F,G⟩,n,e⟩
theorem iZ_ {l:List Ax} {w:List Int}:∀ x∈bo_ 0 (cE_ l w),∃ y∈bo_ 0 l,∃ n,{ y with frm:=n }=x:=fun x v=>by
  obtain⟨j,a,d,m⟩:=gJ_.1 v;obtain⟨i,_,hi⟩:=lL_.1 (List.mem_of_getElem? d);obtain⟨y,h,n,e⟩:=mX_ ((0+i.toNat:Nat):Int) m;exact⟨y,gJ_.2 ⟨i.toNat,a,hi,h⟩,n,e⟩
end Go.Proofs.YthmjeabeoodghaaGreatDoor
namespace Go.Vs
open Go Go.Sx
def orF:List Int→Int
  | []=>0
  | x::l=>if x=0 then orF l else x
theorem zy_:∀ {l:List Int} {i:Nat} {x:Int},(∀ y∈l.take i,y=0)→l[i]? = some x→x≠0→orF l=x
  | [],_,_,_,h,_=>by simp at h
  | y::l,0,x,_,h,hx=>by simp at h;subst h;simp[orF,hx]
  | y::l,i+1,x,h0,h,hx=>by
    have e:y=0:=h0 y zaf_;rw[orF,if_pos e];exact zy_ (i:=i) (fun z d=>h0 z zbP_) zaB_ hx
theorem sZ_:∀ {l:List Int},(∀ y∈l,y=0)→orF l=0
  | [],_=>rfl
  | y::l,h=>by rw[orF,if_pos (h y zaf_)];exact sZ_ fun z d=>h z zaT_
theorem cI_neg (x y:Int):Lib.compareInt x y<0↔x<y:=by unfold Lib.compareInt;(repeat' split)<;>omega
theorem rW_ (x y:Int):Lib.compareInt x y=0↔x=y:=by unfold Lib.compareInt;(repeat' split)<;>omega
theorem pt_:∀ (x y:Str),Lib.compareBytes x y<0↔x<y
 | [],[]=>by simp[Lib.compareBytes]
 | [],b::y=>by simp[Lib.compareBytes]
 | a::x,[]=>by simp[Lib.compareBytes]
 | a::x,b::y=>by
   rw[Lib.compareBytes,List.cons_lt_cons_iff]
   by_cases d:a<b
   · rw[if_pos d];simp[d]
   · by_cases h:b<a
     · rw[if_neg d,if_pos h]
       have:a≠b:=fun e=>by subst e;exact d h
       simp[d,this]
     · have e:a=b:=UInt8.le_antisymm (UInt8.not_lt.1 h) (UInt8.not_lt.1 d)
       rw[if_neg d,if_neg h,pt_ x y];simp[e]
theorem hi_:∀ (x y:Str),Lib.compareBytes x y=0↔x=y
 | [],[]=>by simp[Lib.compareBytes]
 | [],b::y=>by simp[Lib.compareBytes]
 | a::x,[]=>by simp[Lib.compareBytes]
 | a::x,b::y=>by
   rw[Lib.compareBytes]
   by_cases d:a<b
   · rw[if_pos d]
     have:a≠b:=fun e=>by subst e;exact absurd d (UInt8.lt_irrefl a)
     simp[this]
   · by_cases h:b<a
     · rw[if_neg d,if_pos h]
       have:a≠b:=fun e=>by subst e;exact d h
       simp[this]
     · have e:a=b:=UInt8.le_antisymm (UInt8.not_lt.1 h) (UInt8.not_lt.1 d)
       rw[if_neg d,if_neg h,hi_ x y];simp[e]
theorem jD_ (x:Int) (l:List Int):orF (x::l)<0↔x<0∨x=0∧orF l<0:=by
  rw[orF];split<;>omega
theorem jU_ (x:Int) (l:List Int):orF (x::l)=0↔x=0∧orF l=0:=by
  rw[orF];split<;>omega
theorem vW_:orF []=0:=rfl
theorem nI_ (x y:Int):Lib.compareInt y x=- Lib.compareInt x y:=by unfold Lib.compareInt;(repeat' split)<;>omega
theorem wy_:∀ (x y:Str),Lib.compareBytes y x=- Lib.compareBytes x y
 | [],[]=>by simp[Lib.compareBytes]
 | [],b::y=>by simp[Lib.compareBytes]
 | a::x,[]=>by simp[Lib.compareBytes]
 | a::x,b::y=>by
   rw[Lib.compareBytes,Lib.compareBytes]
   by_cases d:a<b
   · have e:¬ b<a:=fun h=>absurd (UInt8.lt_trans d h) (UInt8.lt_irrefl a)
     rw[if_neg e,if_pos d,if_pos d];rfl
   · by_cases e:b<a
     · rw[if_pos e,if_neg d,if_pos e]
     · rw[if_neg e,if_neg d,if_neg d,if_neg e,wy_ x y]
theorem ji_:∀ (x y:Str),Lib.compareBytes x y=if x<y then -1 else if y<x then 1 else 0
 | [],[]=>by simp[Lib.compareBytes]
 | [],b::y=>by simp[Lib.compareBytes]
 | a::x,[]=>by simp[Lib.compareBytes]
 | a::x,b::y=>by
   rw[Lib.compareBytes]
   by_cases d:a<b
   · have l:a::x<b::y:=by rw[List.cons_lt_cons_iff];exact .inl d
     rw[if_pos d,if_pos l]
   · by_cases h:b<a
     · have l:b::y<a::x:=by rw[List.cons_lt_cons_iff];exact .inl h
       have m:¬ a::x<b::y:=fun q=>absurd (List.lt_trans q l) (List.lt_irrefl _)
       rw[if_neg d,if_pos h,if_neg m,if_pos l]
     · have e:a=b:=UInt8.le_antisymm (UInt8.not_lt.1 h) (UInt8.not_lt.1 d)
       subst e;rw[if_neg d,if_neg h,ji_ x y];simp only[List.cons_lt_cons_iff,d,false_or,true_and]
def Tr3 (x y z:Int):Prop:=(x≤0→y≤0→z≤0∧(z=0→x=0∧y=0))∧(x=0→y=0→z=0)
theorem Tr3.cI (a b c:Int):Tr3 (Lib.compareInt a b) (Lib.compareInt b c) (Lib.compareInt a c):=by
  unfold Tr3 Lib.compareInt;refine⟨?_,?_⟩<;>(repeat' split)<;>omega
theorem Tr3.cS (a b c:Str):Tr3 (Lib.compareBytes a b) (Lib.compareBytes b c) (Lib.compareBytes a c):=by
 have A:=pt_ a b;have x:=hi_ a b;have F:=pt_ b c;have y:=hi_ b c;have B:=pt_ a c;have E:=hi_ a c;constructor
 ·intro d e
  by_cases m:Lib.compareBytes a b=0
  ·have:=x.1 m;subst this
   refine⟨e,fun h=>⟨m,h⟩⟩
  have C:a<b:=A.1 zaa_
  by_cases v:Lib.compareBytes b c=0
  ·have:=y.1 v;subst this
   exact⟨d,fun h=>⟨h,v⟩⟩
  have G:b<c:=F.1 zaa_;have:=B.2 (List.lt_trans C G);exact⟨by omega,fun h=>by omega⟩
 intro d e;rw[x]at d;rw[y]at e;subst d;subst e;exact E.2 rfl
theorem Tr3.or {x y z m d e:Int} (h:Tr3 x y z) (v:Tr3 m d e):Tr3 (if x=0 then m else x) (if y=0 then d else y) (if z=0 then e else z):=by
  unfold Tr3 at h v ⊢
  (repeat' split)<;>omega
theorem Tr3.nil:Tr3 0 0 0:=by unfold Tr3;omega
theorem Tr3.orF {x y z:Int} {l m n:List Int} (h:Tr3 x y z) (d:Tr3 (Go.Vs.orF l) (Go.Vs.orF m) (Go.Vs.orF n)):Tr3 (Go.Vs.orF (x::l)) (Go.Vs.orF (y::m)) (Go.Vs.orF (z::n)):=by
  rw[Go.Vs.orF,Go.Vs.orF,Go.Vs.orF];exact h.or d
theorem hw_ {x y:Int} {l m:List Int} (h:y=-x) (d:orF m=- orF l):orF (y::m)=- orF (x::l):=by
  rw[orF,orF];(repeat' split)<;>omega
def dJ_:List Str→List Str→Int
  | [],[]=>0
  | [],_::_=>-1
  | _::_,[]=>1
  | x::xs,y::ys=>if Lib.compareBytes x y=0 then dJ_ xs ys else Lib.compareBytes x y
theorem qU_:∀ a b,dJ_ a b=0↔a=b
  | [],[]=>by simp[dJ_]
  | [],_::_=>by simp[dJ_]
  | _::_,[]=>by simp[dJ_]
  | x::xs,y::ys=>by
    rw[dJ_,List.cons.injEq,← hi_,← qU_ xs ys]
    split<;>simp_all
theorem Tr3.cL:∀ a b c,Tr3 (dJ_ a b) (dJ_ b c) (dJ_ a c)
  | [],[],[]=>by unfold Tr3 dJ_;omega
  | [],[],_::_=>by unfold Tr3;simp[dJ_]
  | [],_::_,[]=>by unfold Tr3;simp[dJ_]
  | [],_::_,_::_=>by unfold Tr3;simp[dJ_]
  | _::_,[],[]=>by unfold Tr3;simp[dJ_]
  | _::_,[],_::_=>by unfold Tr3;simp[dJ_]
  | _::_,_::_,[]=>by unfold Tr3;simp[dJ_]
  | x::xs,y::ys,z::zs=>by
    rw[dJ_,dJ_,dJ_];exact (Tr3.cS x y z).or (Tr3.cL xs ys zs)
namespace Con
def core:Con→Con
  | mk k n l h _ _ ps=>mk k n l h none 0 (cores ps)
where cores:List Con→List Con
  | []=>[]
  | p::ps=>core p::cores ps
theorem cores_map:∀ ps:List Con,core.cores ps=ps.map core
  | []=>rfl
  | p::ps=>by rw[core.cores,cores_map ps];rfl
theorem core_eq (c:Con):c.core=mk c.kind c.name c.lo c.hi none 0 (c.parts.map core):=by cases c;simp only[core,cores_map,kind,name,lo,hi,parts]
def cmp:Con→Con→Int
  | mk k n l h _ _ ps,d=>orF [Lib.compareInt ((1+sz.szs ps:Nat):Int) (d.sz:Int),Lib.compareInt k d.kind,Lib.compareBytes n d.name,Lib.compareInt l d.lo,Lib.compareInt h d.hi,cmps ps d.parts]
where cmps:List Con→List Con→Int
  | [],[]=>0
  | [],_::_=>-1
  | _::_,[]=>1
  | p::ps,q::qs=>if cmp p q=0 then cmps ps qs else cmp p q
theorem cmp_eq (c d:Con):cmp c d=orF [Lib.compareInt (c.sz:Int) (d.sz:Int),Lib.compareInt c.kind d.kind,Lib.compareBytes c.name d.name,Lib.compareInt c.lo d.lo,Lib.compareInt c.hi d.hi,cmp.cmps c.parts d.parts]:=by cases c;rfl
mutual
theorem cmp_anti:∀ c d:Con,cmp d c=- cmp c d
  | mk k n l h a cp ps,mk k' n' l' h' a' cp' ps'=>by
    rw[cmp,cmp];exact hw_ (nI_ _ _) (hw_ (nI_ _ _) (hw_ (wy_ _ _) (hw_ (nI_ _ _) (hw_ (nI_ _ _) (hw_ (qS_ ps ps') rfl)))))
theorem qS_:∀ ps e:List Con,cmp.cmps e ps=- cmp.cmps ps e
  | [],[]=>rfl
  | [],_::_=>rfl
  | _::_,[]=>rfl
  | p::ps,q::e=>by
    have m:=cmp_anti p q;have v:=qS_ ps e;rw[cmp.cmps,cmp.cmps];(repeat' split)<;>omega
end
mutual
theorem cmp_tr:∀ a b c:Con,Tr3 (cmp a b) (cmp b c) (cmp a c)
  | mk k n l h a cp ps,mk k' n' l' h' a' cp' ps',mk k2 n2 l2 h2 a2 cp2 ps2=>by
    rw[cmp,cmp,cmp];exact (Tr3.cI _ _ _).orF ((Tr3.cI _ _ _).orF ((Tr3.cS _ _ _).orF ((Tr3.cI _ _ _).orF ((Tr3.cI _ _ _).orF ((ws_ ps ps' ps2).orF Tr3.nil)))))
theorem ws_:∀ a b c:List Con,Tr3 (cmp.cmps a b) (cmp.cmps b c) (cmp.cmps a c)
  | [],[],[]=>by unfold Tr3;simp[cmp.cmps]
  | [],[],_::_=>by unfold Tr3;simp[cmp.cmps]
  | [],_::_,[]=>by unfold Tr3;simp[cmp.cmps]
  | [],_::_,_::_=>by unfold Tr3;simp[cmp.cmps]
  | _::_,[],[]=>by unfold Tr3;simp[cmp.cmps]
  | _::_,[],_::_=>by unfold Tr3;simp[cmp.cmps]
  | _::_,_::_,[]=>by unfold Tr3;simp[cmp.cmps]
  | x::xs,y::ys,z::zs=>by
    rw[cmp.cmps,cmp.cmps,cmp.cmps];exact (cmp_tr x y z).or (ws_ xs ys zs)
end
mutual
theorem cmp_zero:∀ a b:Con,cmp a b=0↔a.core=b.core
  | mk k n l h a cp ps,mk k' n' l' h' a' cp' ps'=>by
    rw[cmp,core,core];simp only[jU_,vW_];simp only[rW_,hi_,qQ_ ps ps',and_true,mk.injEq,kind,name,lo,hi,parts,true_and];constructor
    · rintro ⟨_,e,v,A,m,d⟩;exact⟨e,v,A,m,d⟩
    · rintro ⟨e,v,A,m,d⟩
      refine⟨?_,e,v,A,m,d⟩;have:=szs_core ps ps' d;simp only[sz];omega
theorem qQ_:∀ a b:List Con,cmp.cmps a b=0↔core.cores a=core.cores b
  | [],[]=>by simp[cmp.cmps]
  | [],_::_=>by simp[cmp.cmps,core.cores]
  | _::_,[]=>by simp[cmp.cmps,core.cores]
  | x::xs,y::ys=>by
    rw[cmp.cmps,core.cores,core.cores,List.cons.injEq,← cmp_zero x y,← qQ_ xs ys]
    split<;>simp_all
theorem sz_core:∀ a b:Con,a.core=b.core→a.sz=b.sz
  | mk k n l h a cp ps,mk k' n' l' h' a' cp' ps'=>by
    rw[core,core,mk.injEq];rintro ⟨_,_,_,_,_,_,d⟩;have:=szs_core ps ps' d;simp only[sz];omega
theorem szs_core:∀ a b:List Con,core.cores a=core.cores b→sz.szs a=sz.szs b
  | [],[]=>fun _=>rfl
  | [],_::_=>by simp[core.cores]
  | _::_,[]=>by simp[core.cores]
  | x::xs,y::ys=>by
    rw[core.cores,core.cores,List.cons.injEq];rintro ⟨B,e⟩;have:=sz_core x y B;have:=szs_core xs ys e;simp only[sz.szs];omega
end
theorem cmp_self (a:Con):cmp a a=0:=(cmp_zero a a).2 rfl
end Con
def Ax.wgt (x:Ax):Int:=(if x.left.kind=0 then 0 else (x.left.sz:Int))+(if x.right.kind=0 then 0 else (x.right.sz:Int))+(x.roles.length:Int)+(if x.role=[] then 0 else 1)+(if x.a=[] then 0 else 1)+(if x.b=[] then 0 else 1)
def Ax.cmp (x y:Ax):Int:=orF [Lib.compareInt x.wgt y.wgt,Lib.compareInt x.kind y.kind,Con.cmp x.left y.left,Con.cmp x.right y.right,dJ_ x.roles y.roles,Lib.compareBytes x.role y.role,Lib.compareBytes x.a y.a,Lib.compareBytes x.b y.b]
theorem Ax.cmp_tr (x y z:Ax):Tr3 (cmp x y) (cmp y z) (cmp x z) :=
  (Tr3.cI _ _ _).orF ((Tr3.cI _ _ _).orF ((Con.cmp_tr _ _ _).orF ((Con.cmp_tr _ _ _).orF ((Tr3.cL _ _ _).orF ((Tr3.cS _ _ _).orF ((Tr3.cS _ _ _).orF ((Tr3.cS _ _ _).orF Tr3.nil)))))))
def Ax.alk (x y:Ax):Prop:=x.kind=y.kind∧x.left.core=y.left.core∧x.right.core=y.right.core∧x.roles=y.roles∧x.role=y.role∧x.a=y.a∧x.b=y.b
theorem Con.core_kind {a b:Con} (h:a.core=b.core):a.kind=b.kind:=by
  rw[Con.core_eq,Con.core_eq,Con.mk.injEq]at h;exact h.1
theorem Ax.cmp_zero (x y:Ax):cmp x y=0↔x.alk y:=by
 unfold cmp alk;simp only[jU_,vW_];simp only[rW_,hi_,Con.cmp_zero,qU_,and_true];constructor
 ·rintro ⟨_,h⟩;exact h
 rintro ⟨C,e,d,B,v,m,A⟩;refine⟨?_,C,e,d,B,v,m,A⟩;unfold wgt;rw[Con.core_kind e,Con.core_kind d,Con.sz_core _ _ e,Con.sz_core _ _ d,B,v,m,A]
theorem Ax.cmp_lt {x y z:Ax} (h:cmp x y<0) (d:cmp y z<0):cmp x z<0:=by
  have:=cmp_tr x y z;unfold Tr3 at this;omega
end Go.Vs
namespace Go.Proofs.YthmjeabeoodghaaGreatDoor
open Go Go.Sx Go.Proofs Tryz
attribute [local irreducible] Code.wp wpList wpAnyH
open Go.Vs
instance:Inhabited Fc:=⟨⟨0,[],[],[],0,0⟩⟩
theorem ff_ (x y:Int):Fn0 prog 108 #[.int .i64 x,.int .i64 y] (.int .i64 (Lib.compareInt x y)) :=
  cL_ (callable func108 rfl rfl) fun v _ _=>(Tryz.cmp_Compare_int x y v.w).mono zak_
theorem gM_ (x y:Str):Fn0 prog 111 #[str x,str y] (.int .i64 (Lib.compareBytes x y)) :=
  cL_ (callable func111 rfl rfl) fun v _ _=>(Tryz.strings_Compare ⟨x.toArray⟩ ⟨y.toArray⟩ v.w).mono zak_
def nv_ (x y:Fc):Int:=orF [Lib.compareInt x.kind y.kind,Lib.compareBytes x.a y.a,Lib.compareBytes x.b y.b,Lib.compareBytes x.r y.r,Lib.compareInt x.lo y.lo,Lib.compareInt x.hi y.hi]
theorem Az_ (x y:Fc):nv_ x y<0↔x.lt y:=by
  unfold nv_ Fc.lt;rw[jD_,jD_,jD_,jD_,jD_,jD_];simp only[cI_neg,rW_,pt_,hi_,orF,Int.lt_irrefl,and_false,or_false]
theorem vX_ (l:List Int) (ad:Ao) (cap:Nat) (hl:l.length≤1000):Tri prog 107 #[.slice ad l.length cap] [] [X_ ad (l.flatMap cY_)] (fun _:Unit=>.int .i64 (orF l)) (fun _=>[]) (fun _=>[]):=by
 refine j_ func107 rfl rfl ntmps107 rfl fun B=>?_;refine Zz 19 ?_;refine O_ (ι:={y:Nat // y≤l.length∧∀ z∈l.take y,z=0}) (fun y=>[(3,.int .i64 0),(6,.slice ad l.length cap),(7,.int .i64 (List.length l:Int)),(8,.int .i64 (y.1:Int))]) (fun y=>([])) (fun y=>[X_ ad (l.flatMap cY_)]) (fun y=>l.length - y.1) ⟨(0:Nat),by simp,by simp⟩ zl g_ zh ?_;rintro ⟨i,hi,d⟩;dsimp only at hi d ⊢;refine Zi 2 (fun v=>?_) fun v=>?_
 ·refine Zz 13 ?_
  exact aa_ results107 () (be_ rfl (sZ_ fun y h=>d y (by rw[List.take_of_length_le zaa_];exact h)).symm) g_ zt
 obtain⟨m,C,e,A⟩:=zge (show i<l.length by omega);refine Zi 19 (fun x=>?_) fun x=>?_
 ·refine Zz 10 ?_
  exact x_ ⟨i+1,m,fun y h=>by rw[List.take_add_one,e]at h;simp only[Option.toList_some,List.mem_append,List.mem_singleton]at h;rcases h with h|rfl;exact d y h;omega⟩ zab_ zl g_ zh
 refine Zz 10 ?_;exact aa_ results107 () (be_ rfl (zy_ d e zai_).symm) g_ zt
theorem cmpF_c (x y:Fc):Fn0 prog 184 #[Fc.val x,Fc.val y] (.int .i64 (nv_ x y)):=by
  refine j_ func184 rfl rfl ntmps184 rfl fun h=>?_;refine Zz 2 ?_;refine K_ rfl rfl fun e=>K_ rfl rfl fun m=>Zz 5 ?_
  refine D_ 9 [0,1,2,3,5,6,7,8,10,11,12,13,15,16,17,18,20,21,22,23,25,26,27,28] zk zs (Zz 25 ?_);refine p_ 4 rfl zk (f_ (ff_ x.kind y.kind) rfl g_ zt rfl fun _=>Zz 3 ?_);refine p_ 9 rfl zk (f_ (gM_ x.a y.a) rfl g_ zt rfl fun _=>Zz 3 ?_);refine p_ 14 rfl zk (f_ (gM_ x.b y.b) rfl g_ zt rfl fun _=>Zz 3 ?_);refine p_ 19 rfl zk (f_ (gM_ x.r y.r) rfl g_ zt rfl fun _=>Zz 3 ?_);refine p_ 24 rfl zk (f_ (ff_ x.lo y.lo) rfl g_ zt rfl fun _=>Zz 3 ?_);refine p_ 29 rfl zk (f_ (ff_ x.hi y.hi) rfl g_ zt rfl fun _=>Zz 3 ?_);refine p_ 30 rfl zk (G_ ap_ P_ bA_ rfl rfl rfl rfl rfl rfl fun d=>?_);refine aq_ (List.flatMap cY_ [(Lib.compareInt x.kind y.kind),(Lib.compareBytes x.a y.a),(Lib.compareBytes x.b y.b),(Lib.compareBytes x.r y.r),(Lib.compareInt x.lo y.lo),(Lib.compareInt x.hi y.hi)]) d_ rfl ?_;refine Zz 3 ?_;refine p_ 31 rfl zk (f_ (vX_ [(Lib.compareInt x.kind y.kind),(Lib.compareBytes x.a y.a),(Lib.compareBytes x.b y.b),(Lib.compareBytes x.r y.r),(Lib.compareInt x.lo y.lo),(Lib.compareInt x.hi y.hi)] (some ⟨d,0,none⟩) 6 zaf_) rfl g_ zf rfl fun _=>Zz 3 ?_);refine D_ 0 [32] zk zs (Zz 5 ?_);exact aa_ results184 () (be_ rfl (by rfl)) g_ zt
structure Cl where
  atoms:List Str
  aad:Ao
  acap:Nat
  facts:List Fc
  fad:Ao
  fcap:Nat
def Cl.cells (c:Cl):List Value:=[.slice c.aad c.atoms.length c.acap,.slice c.fad c.facts.length c.fcap]
def Cl.val (c:Cl):Value:=.agg c.cells.toArray
def Cl.row (c:Cl):List Fct:=[X_ c.aad (c.atoms.flatMap au_),X_ c.fad (c.facts.flatMap Fc.cells)]
def Cl.no:Cl:=Cl.mk [] none 0 [] none 0
structure Cl.ok (c:Cl):Prop where
  al:c.atoms.length≤c.acap
  am:c.acap≤maxLen
  az:c.aad=none→c.acap=0
  fl:c.facts.length≤c.fcap
  fm:c.fcap≤maxLen
  fz:c.fad=none→c.fcap=0
theorem Cl.no_ok:Cl.no.ok:=⟨Nat.le_refl _,by simp[Cl.no],fun _=>rfl,Nat.le_refl _,by simp[Cl.no],fun _=>rfl⟩
theorem BA_ {s:Str} (h:cx_ s=true):s≠[]:=fun e=>by subst e;revert h;decide
theorem xv_ {s:Str} (h:aN_ s=true):s≠[]:=fun e=>by subst e;revert h;decide
theorem wP_ {p:Pc} (h:p.valid=true):p.vok:=by
 unfold Pc.valid at h
 split at h
 ·simp at h
 rename_i d
 split at h
 ·simp at h
 rename_i e
 split at h
 ·simp at h
 have v:∀ {b:Bool} {s:Str},bU_ b s cx_=true→b=true→s≠[]:=fun d e=>by
   subst e;simp[bU_]at d;exact BA_ d
 have x:∀ {b:Bool} {s:Str},bU_ b s aN_=true→b=true→s≠[]:=fun d e=>by
   subst e;simp[bU_]at d;exact xv_ d
 simp only[Bool.and_eq_true]at h;obtain⟨⟨⟨⟨⟨_,_⟩,_⟩,m⟩,A⟩,y⟩:=h;unfold Pc.rok at *;refine⟨⟨fun q=>?_,fun q=>?_,fun q=>?_⟩,fun q=>?_⟩
 ·rcases q with q|q|q|q|q|q|q<;>rw[q]at m
  ·exact v m zad_
  ·exact v m zad_
  ·exact v m zad_
  ·exact x m zad_
  ·exact v m zad_
  ·exact v m zad_
  exact x m zad_
 ·rw[q]at A y;exact⟨v A zad_,v y zad_⟩
 ·rw[q]at y;exact v y zad_
 rcases q with q|q<;>rw[q]at e<;>have:(nus 8).numbers=true∧(nus 9).numbers=true:=by decide
 all_goals simp only[this.1,this.2,true_and]at e;omega
theorem tV_ {p:List Pc} (h:cC_ p=0):p.length≤16384∧p.all Pc.valid=true:=by
 unfold cC_ at h
 split at h
 ·simp at h
 split at h
 ·exact⟨by omega,by assumption⟩
 simp at h
theorem ym_ {p:List Pc} (h:cC_ p=0):∀ x∈p,x.vok:=fun x d=>wP_ (List.all_eq_true.1 (tV_ h).2 x d)
section
variable {P:Program} {N:Nf} {v0:Vw} {H0:Hp} {fr:Fr} {H F Ha Hu Ho Hi Hr Hm Hs:Hp} {Γ:List Fct}
theorem bM_ {fn:Func} {t s b n:Nat} {ty T:TypeId} {us:List Value} {u:Value} (i:Nat) (B:fn.results=#[.cell t ty,.tmp s]) (E:∀ w,(isAgg ty).run P w=.ok true w) (x:∀ w,(sizeOf ty).run P w=.ok n w) (I:us.length=n) (A:Fr.get fr t=some (zp_ b 0)) (m:Fr.get fr s=some u)
    (hi:H[i]? = some (b,.cells us.toArray T (0,0))) (a:Act) (v:Vw) (d:Fr.sat N fr a) (C:v.sat H):(results fn a.tmps).run P v.w=.ok (.tuple #[.agg us.toArray,u]) v.w:=by
  have e:=d.val t _ A;have h:=d.val s _ m;have hl:=dL_ (t:=ty) (w:=v.w) (b:=b) (off:=0) E x I (fun j y G=>by rw[Nat.zero_add,fb_ C hi];simpa using G);simp[results,B,e,h,asAddr,hl]
theorem pf_six (h:H.Perm ((Ha++(Hu++(Ho++(Hi++(Hr++(Hm++Hs))))))++F)):H.Perm (((Ha++(Hu++(Ho++(Hi++(Hr++Hm)))))++Hs)++F):=by simpa [List.append_assoc] using h
theorem BJ_:(((Ha++(Hu++(Ho++(Hi++(Hr++Hm)))))++Hs)++F).Perm (Ha++(Hu++(Ho++(Hi++(Hr++(Hm++(Hs++F))))))):=by simp[List.append_assoc]
theorem BK_ {a b c:Nat×Obj} {d:Hp}:((Ha++(Hu++(Ho++(Hi++(Hr++(Hm++(a::b::([c]++d))))))))++F).Perm (Ha++(Hu++(Ho++(Hi++(Hr++(Hm++(a::b::([c]++(d++F))))))))):=by simp[List.append_assoc]
end
theorem km_:gQ_ prog 96 [(0,1),(1,1)] [.slice none 0 0,.slice none 0 0]:=⟨_,sf_,runUnderlying96,fun w=>by simp[dX_,sizeOf71]⟩
end Go.Proofs.YthmjeabeoodghaaGreatDoor
namespace Go.Proofs.YthmjeabeoodghaaGreatDoor
open Go Go.Sx Go.Proofs Tryz
attribute [local irreducible] Code.wp wpList wpAnyH
open Go.Vs Go.Shelf Go.RowKit
theorem mQ_ {v d:Vw} (h:v.to [] d []) (E:¬ v.sl):∃ q os,d.w=Sort.grow (v.w.drewN q) os:=by
 have F:v.w.drawn≤d.w.drawn:=h.dr.resolve_left E;refine⟨d.w.drawn - v.w.drawn,d.w.heap.extract v.w.heap.size d.w.heap.size,?_⟩
 have y:d.w.heap=v.w.heap++d.w.heap.extract v.w.heap.size d.w.heap.size:=by
   apply Array.ext_getElem?
   intro i;have A:=h.size;rw[Array.getElem?_append]
   split
   · rename_i hi;exact h.block i hi zaf_
   · rename_i hi
     rw[Array.getElem?_extract]
     split
     · congr 1;omega
     · rw[Array.getElem?_eq_none zaa_]
 have e:=h.os;have m:=h.tape;have x:=h.output;obtain⟨B,⟨J,K,H,G,I⟩,C⟩:=d;simp only at e m x y F;simp only[Sort.grow,World.drewN,World.mk.injEq];exact⟨y,m,by omega,e,x⟩
theorem Cv_ (d off size:Nat) (w:World):CmpLays prog 184 #[] Fc.cells 6 nv_ d off size w:=fun m os A _ x y=>by
  have h:=(cmpF_c x y).run ⟨fun _=>False,sortWorldK Fc.cells 6 w d off m A os,False⟩ ⟨by simp,by simp,fun _ h=>h.elim⟩ trivial;refine h.mono ?_;rintro e w' ⟨_,E,rfl,rfl,_,_,C⟩;obtain⟨q,v,B⟩:=mQ_ C (fun h=>h);exact⟨rfl,q,v,B⟩
theorem ltF (x y:Fc):ltOf nv_ x y=decide (x.lt y):=by unfold ltOf;rw[decide_eq_decide];exact Az_ x y
theorem swoF:Sort.SWO (ltOf nv_) where
 irrefl x:=by rw[ltF];exact decide_eq_false x.lt_irr
 trans x y z h1 h2:=by rw[ltF,decide_eq_true_eq]at *;exact Fc.lt_trans h1 h2
 ntrans x y z h1 h2:=by
   rw[ltF,decide_eq_false_iff_not]at *;intro h;rcases Fc.lt_tri x y with g|g|g
   · exact h1 g
   · subst g;exact h2 h
   · exact h2 (Fc.lt_trans g h)
theorem totF (x y:Fc) (d:ltOf nv_ x y=false) (e:ltOf nv_ y x=false):x=y:=by
 rw[ltF,decide_eq_false_iff_not]at d e;rcases Fc.lt_tri x y with g|g|g
 ·exact absurd g d
 ·exact g
 exact absurd g e
theorem pi_ (xs:List Fc):Sort.flatK Fc.cells 6 xs.toArray=(xs.flatMap Fc.cells).toArray:=by
 apply Array.ext_getElem?
 intro t;have d:(xs.flatMap Fc.cells).toArray[t]? = (xs.flatMap Fc.cells)[t]? := by simp
 rw[d]
 by_cases h:t<xs.length*6
 ·have e:t / 6<xs.length:=by omega
  have:=kD_ Fc.cells 6 Fc.cells_len xs (t / 6) (t%6) xs[t / 6] (List.getElem?_eq_getElem e) (Nat.mod_lt _ zad_);rw[show t / 6*6+t%6=t by omega]at this;rw[this];simp only[Sort.flatK,Array.getElem?_map,List.size_toArray];rw[Array.getElem?_eq_getElem zaB_];simp only[Array.getElem_range,Option.map_some];rw[getElem!_pos xs.toArray (t / 6) zbc_];have hl:t%6<(Fc.cells xs[t / 6]).length:=by rw[Fc.cells_len];omega
  rw[List.getElem?_eq_getElem hl];simp only[List.getElem_toArray];rw[getElem!_pos (Fc.cells xs[t / 6]) (t%6) hl]
 rw[List.getElem?_eq_none (by rw[dU_ Fc.cells 6 Fc.cells_len];omega),Array.getElem?_eq_none (by simp[Sort.flatK];omega)]
theorem sw_ {P:Program} {Γ:List Fct} {f:FuncId} {args:Array Value} {r:Value} {g:Nat} {cur:Array Value} {T:TypeId} {d:Array Value} (H:fj_ P f)
    (h:∀ v:Vw,v.sat [(g,.cells cur T (0,0))]→Calls P f args v.w fun e w'=>e=.returned r∧∃ n os,w'=Sort.grow (Sort.putRow id (Sort.ahead v.w n) g 0 d) os) :
    Tri P f args [(g,.cells cur T (0,0))] Γ (fun _:Unit=>r) (fun _=>[(g,.cells (Sort.putCells id 0 d cur) T (0,0))]) (fun _=>[]) :=
  ⟨H,fun v F _=>(h v F).mono fun e w' ⟨I,n,os,x⟩=>by
    have C:=(F.own _ List.mem_cons_self);have E:g<v.w.heap.size:=(Array.getElem?_eq_some_iff.1 C.1).1
    have A:∀ b,b<v.w.heap.size→w'.heap[b]? = if b=g then some (.cells (Sort.putCells id 0 d cur) T (0,0)) else v.w.heap[b]? := fun b A=>by
      rw[x];simp only[Sort.grow,Sort.putRow,Sort.mapBlock,Sort.ahead];rw[Array.getElem?_append_left zaS_,Array.getElem?_modify]
      by_cases e:b=g
      · subst e
        simp only[if_true,C.1,Option.map_some,Sort.onCells]
      · rw[if_neg (fun q=>e q.symm),if_neg e]
    have y:v.w.heap.size≤w'.heap.size:=by rw[x];simp[Sort.grow,Sort.putRow,Sort.mapBlock,Sort.ahead]
    refine⟨(),⟨v.im,w',v.sl⟩,I,rfl,⟨fun p G=>?_,by simp,fun b m=>Nat.lt_of_lt_of_le (F.lt b m) y⟩,trivial,⟨by rw[x];rfl,by rw[x];rfl,by rw[x];rfl,y,fun b m J=>?_,fun _ h=>h,fun _ h=>.inl h,fun b hm=>.inl (by simpa using hm),rfl,.inr zbA_⟩⟩
    · simp only[List.mem_singleton]at G
      subst G;exact⟨by show w'.heap[g]? = _;rw[A g E,if_pos rfl],C.2⟩
    · have B:b≠g:=by simpa using J
      show w'.heap[b]? = _
      rw[A b m,if_neg B]⟩
theorem qj_ {cur:Array Value} {d:List Value} (h:d.length≤cur.size):(Sort.putCells id 0 d.toArray cur).toList.take d.length=d:=by
 apply List.ext_getElem?
 intro j;rw[List.getElem?_take]
 split
 ·rename_i e
  simp only[Sort.putCells,Array.getElem?_toList,Array.getElem?_mapIdx];rw[Array.getElem?_eq_getElem zaa_];simp only[Option.map_some,Nat.zero_le,true_and,Nat.zero_add,List.size_toArray,e,if_true,Nat.sub_zero];rw[List.getElem?_eq_getElem e,getElem!_pos d.toArray j zbc_];rfl
 rename_i e
 rw[List.getElem?_eq_none zaa_]
theorem qk_ {cur d:Array Value}:(Sort.putCells id 0 d cur).size=cur.size:=by simp[Sort.putCells]
theorem Ah_ {g:Nat} {cur:Array Value} {T:TypeId} {xs:List Value} {v:Vw} (x:v.sat [(g,.cells cur T (0,0))]) (m:cur.toList.take xs.length=xs):Sort.Holds id v.w g 0 xs.toArray:=by
 intro j d;have e:=(x.own _ List.mem_cons_self).1;simp only[List.size_toArray]at d
 have h:cur[j]? = some xs[j]:=by
   have:=congrArg (fun l=>l[j]?) m;simp only[List.getElem?_take,d,if_true,Array.getElem?_toList]at this;rw[this,List.getElem?_eq_getElem d]
 refine⟨?_,?_⟩
 ·simp only[World.cell?,Nat.zero_add,e,Option.isSome_none,Bool.false_eq_true,if_false]
  rw[h,getElem!_pos xs.toArray j zbd_];rfl
 simp[World.frozen?,e]
def kn_ (xs:List Fc):List Fc:=xs.mergeSort fun x y=>!(ltOf nv_) y x
theorem hs_ (xs:List Fc):(kn_ xs).length=xs.length:=List.length_mergeSort _
theorem yT_ (xs:List Fc) (x:Fc):x∈kn_ xs↔x∈xs:=List.mem_mergeSort
theorem yS_ {xs:List Fc} (h:xs.Nodup):Srt (kn_ xs):=by
 have d:(kn_ xs).Pairwise fun x y=>(!(ltOf nv_) y x)=true:=List.pairwise_mergeSort
   (fun a b c d e=>by simp only[Bool.not_eq_true']at *;exact swoF.ntrans c b a e d)
   (fun a b=>by
     simp only[Bool.or_eq_true,Bool.not_eq_true'];rw[ltF,ltF,decide_eq_false_iff_not,decide_eq_false_iff_not];rcases Fc.lt_tri a b with g|g|g
     · exact .inl fun q=>Fc.lt_irr a (Fc.lt_trans g q)
     · subst g;exact .inl a.lt_irr
     · exact .inr fun q=>Fc.lt_irr a (Fc.lt_trans q g)) xs
 have e:(kn_ xs).Nodup:=(List.mergeSort_perm xs _).nodup_iff.2 h;refine (d.and e).imp ?_;rintro x y ⟨a,b⟩;simp only[Bool.not_eq_true',ltF,decide_eq_false_iff_not]at a;rcases Fc.lt_tri x y with g|g|g
 ·exact g
 ·exact absurd g b
 exact absurd g a
theorem Bv_ {sv:Value} {xs:List Fc} {Hr:Hp} (h:az_ 129 6 sv xs.length (xs.flatMap Fc.cells) Hr) (hl:xs.length≤1000000000000) :
    Tri prog 183 #[sv,.func (.func 184) #[] #[]] Hr [] (fun _:{y:Hp // az_ 129 6 sv (kn_ xs).length ((kn_ xs).flatMap Fc.cells) y}=>.tuple #[]) (fun y=>y.1) (fun _=>[]):=by
  rcases h.2 with⟨rfl,L,rfl⟩|⟨g,cap,cur,rfl,rfl,J,I,F,K⟩
  · obtain rfl:xs=[]:=List.eq_nil_of_length_eq_zero L
    have T:=cL_ (P:=prog) (H:=[]) (Γ:=[]) (callable func183 rfl rfl) (fun v _ _=>(AnyF.slices_SortFunc_none Tryz.sortFc none 0 (.func (.func 184) #[] #[]) v.w).mono zak_);exact⟨T.callable,fun v a b=>(T.run v a b).mono (by rintro e w' ⟨x,G,C,A,B,m,E⟩;exact⟨⟨[],by simpa [kn_] using az_.nil _ _⟩,G,C,A,B,m,E⟩)⟩
  · have R:(xs.flatMap Fc.cells).length=xs.length*6:=dU_ Fc.cells 6 Fc.cells_len xs
    have T:=sw_ (P:=prog) (Γ:=[]) (r:=.tuple #[]) (g:=g) (cur:=cur) (T:=129) (d:=((kn_ xs).flatMap Fc.cells).toArray) (f:=183) (args:=#[.slice (some ⟨g,0,none⟩) xs.length cap,.func (.func 184) #[] #[]]) (callable func183 rfl rfl) (fun v N=>by
      have Q:=AnyQ.slices_SortFunc_total Tryz.sortFc 6 fT_ at_ Fc.cells Fc.cells_len (fun x u O=>List.all_eq_true.1 x.cells_one u O) nv_ swoF 184 #[] g 0 cap xs.toArray v.w (fun args w=>(callable func184 rfl rfl) args w) (Cv_ g 0 _ v.w) (by unfold Sort.HoldsK;rw[pi_];exact Ah_ N (by rw[R];exact K)) (Array.getElem?_eq_some_iff.1 (N.own _ List.mem_cons_self).1).1 zap_ totF;refine Q.mono ?_;rintro e w' ⟨rfl,n,os,rfl⟩;refine⟨rfl,n,os,?_⟩;unfold sortWorldK Sort.putRowK;rw[show ((xs.toArray.toList.mergeSort fun x y=>!(ltOf nv_) y x))=kn_ xs from rfl,pi_])
    refine⟨T.callable,fun v a b=>(T.run v a b).mono ?_⟩;rintro e w' ⟨x,G,C,A,B,m,E⟩;have M:((kn_ xs).flatMap Fc.cells).length=xs.length*6:=by rw[dU_ Fc.cells 6 Fc.cells_len,hs_]
    refine⟨⟨_,by rw[M,hs_],.inr ⟨g,cap,_,by rw[hs_],rfl,by rw[hs_];exact J,I,by rw[qk_];exact F,?_⟩⟩,G,C,A,B,m,E⟩;have:=qj_ (cur:=cur) (d:=(kn_ xs).flatMap Fc.cells) (by rw[M,F];omega);rw[M]at this;rw[hs_];exact this
end Go.Proofs.YthmjeabeoodghaaGreatDoor
namespace Go.Proofs.YthmjeabeoodghaaGreatDoor
open Go Go.Sx Go.Proofs Tryz
attribute [local irreducible] Code.wp wpList wpAnyH
open Go.Vs Go.Shelf Go.RowKit
theorem qK_ {D:Type} [Inhabited D] {cells:D→List Value} {k:Nat} (e:∀ x,(cells x).length=k) (d:0<k) (xs:List D):Sort.flatK cells k xs.toArray=(xs.flatMap cells).toArray:=by
 apply Array.ext_getElem?
 intro t;have h:(xs.flatMap cells).toArray[t]? = (xs.flatMap cells)[t]? := by simp
 rw[h]
 by_cases m:t<xs.length*k
 ·have v:t / k<xs.length:=(Nat.div_lt_iff_lt_mul d).2 m
  have:=kD_ cells k e xs (t / k) (t%k) xs[t / k] (List.getElem?_eq_getElem v) (Nat.mod_lt _ d);rw[Nat.div_add_mod' t k]at this;rw[this];simp only[Sort.flatK,Array.getElem?_map,List.size_toArray];rw[Array.getElem?_eq_getElem zau_];simp only[Array.getElem_range,Option.map_some];rw[getElem!_pos xs.toArray (t / k) (by simpa using v)];have hl:t%k<(cells xs[t / k]).length:=by rw[e];exact Nat.mod_lt _ d
  rw[List.getElem?_eq_getElem hl];simp only[List.getElem_toArray];rw[getElem!_pos (cells xs[t / k]) (t%k) hl]
 rw[List.getElem?_eq_none (by rw[dU_ cells k e];omega),Array.getElem?_eq_none (by simp[Sort.flatK];omega)]
theorem sx_ {P:Program} {Γ:List Fct} {f:FuncId} {args:Array Value} {r:Value} {g:Nat} {cur:Array Value} {T:TypeId} {ι:Type} {d:ι→Array Value} (H:fj_ P f)
    (h:∀ v:Vw,v.sat [(g,.cells cur T (0,0))]→ad_ Γ v→Calls P f args v.w fun e w'=>e=.returned r∧∃ (i:ι) (n:Nat) (os:Array Obj),w'=Sort.grow (Sort.putRow id (Sort.ahead v.w n) g 0 (d i)) os) :
    Tri P f args [(g,.cells cur T (0,0))] Γ (fun _:ι=>r) (fun i=>[(g,.cells (Sort.putCells id 0 (d i) cur) T (0,0))]) (fun _=>[]) :=
  ⟨H,fun v F J=>(h v F J).mono fun e w' ⟨I,i,n,os,x⟩=>by
    have C:=(F.own _ List.mem_cons_self);have E:g<v.w.heap.size:=(Array.getElem?_eq_some_iff.1 C.1).1
    have A:∀ b,b<v.w.heap.size→w'.heap[b]? = if b=g then some (.cells (Sort.putCells id 0 (d i) cur) T (0,0)) else v.w.heap[b]? := fun b A=>by
      rw[x];simp only[Sort.grow,Sort.putRow,Sort.mapBlock,Sort.ahead];rw[Array.getElem?_append_left zaS_,Array.getElem?_modify]
      by_cases e:b=g
      · subst e
        simp only[if_true,C.1,Option.map_some,Sort.onCells]
      · rw[if_neg (fun q=>e q.symm),if_neg e]
    have y:v.w.heap.size≤w'.heap.size:=by rw[x];simp[Sort.grow,Sort.putRow,Sort.mapBlock,Sort.ahead]
    refine⟨i,⟨v.im,w',v.sl⟩,I,rfl,⟨fun p G=>?_,by simp,fun b m=>Nat.lt_of_lt_of_le (F.lt b m) y⟩,trivial,⟨by rw[x];rfl,by rw[x];rfl,by rw[x];rfl,y,fun b m K=>?_,fun _ h=>h,fun _ h=>.inl h,fun b hm=>.inl (by simpa using hm),rfl,.inr zbA_⟩⟩
    · simp only[List.mem_singleton]at G
      subst G;exact⟨by show w'.heap[g]? = _;rw[A g E,if_pos rfl],C.2⟩
    · have B:b≠g:=by simpa using K
      show w'.heap[b]? = _
      rw[A b m,if_neg B]⟩
structure Wko {D:Type} (cf:D→D→Int):Prop where
  irr:∀ x,¬ cf x x<0
  tr:∀ x y z,cf x y<0→cf y z<0→cf x z<0
  ntr:∀ x y z,¬ cf x y<0→¬ cf y z<0→¬ cf x z<0
theorem sortG {P:Program} {ρ:Ren} (L:SlLaysF0.n6 P ρ) {D:Type} {cells:D→List Value} {k:Nat} {Te:TypeId} (hk:∀ x,(cells x).length=k) (Z:0<k) (h1:∀ x,(cells x).all Value.oneCell'=true)
    (aE:∀ w,(isAgg (ρ.t 24)).run P w=.ok true w) (zE:∀ w,(Go.sizeOf (ρ.t 24)).run P w=.ok k w) {X:D→D→Int} (hO:Wko X) {g:Nat} (hg:fj_ P g) (hF:fj_ P (ρ.f 6))
    {Γ:List Fct} (hΓ:∀ (v:Vw) (q:Prop),ad_ Γ v→ad_ Γ ⟨v.im,v.w,q⟩) {sv:Value} {xs:List D} {Hr:Hp} (h:az_ Te k sv xs.length (xs.flatMap cells) Hr) (hl:xs.length≤1000000000000)
    (hC:∀ x∈xs,∀ y∈xs,Tri P g #[.agg (cells x).toArray,.agg (cells y).toArray] [] Γ (fun _:Unit=>.int .i64 (X x y)) (fun _=>[]) (fun _=>[])) :
    Tri P (ρ.f 6) #[sv,.func (.func g) #[] #[]] Hr Γ (fun _:{y:Hp×List D // az_ Te k sv y.2.length (y.2.flatMap cells) y.1∧y.2.Perm xs∧y.2.Pairwise fun a b=>¬ X b a<0}=>.tuple #[]) (fun y=>y.1.1) (fun _=>[]):=by
  by_cases B:xs=[]
  · subst B
    rcases h.2 with⟨rfl,F,rfl⟩|⟨b,cap,cur,rfl,rfl,N,Y,R,h_5⟩
    · have T:=cL_ (P:=P) (H:=[]) (Γ:=Γ) hF (fun v _ _=>(AnyF.slices_SortFunc_none { L with } none 0 (.func (.func g) #[] #[]) v.w).mono zak_)
      exact⟨T.callable,fun v a b=>(T.run v a b).mono (by rintro e w' ⟨x,U,A,E,J,I,M⟩;exact⟨⟨([],[]),az_.nil _ _,.refl _,List.Pairwise.nil⟩,U,A,E,J,I,M⟩)⟩
    · have T:=cL_ (P:=P) (H:=[(b,.cells cur Te (0,0))]) (Γ:=Γ) hF (fun v _ _=>(AnyF.slices_SortFunc_none { L with } (some ⟨b,0,none⟩) cap (.func (.func g) #[] #[]) v.w).mono zak_)
      exact⟨T.callable,fun v a c=>(T.run v a c).mono (by rintro e w' ⟨x,U,A,E,J,I,M⟩;exact⟨⟨([(b,.cells cur Te (0,0))],[]),h,.refl _,List.Pairwise.nil⟩,U,A,E,J,I,M⟩)⟩
  · rcases h.2 with⟨_,F,_⟩|⟨b,cap,cur,rfl,rfl,N,Y,R,h_5⟩
    · exact absurd (List.eq_nil_of_length_eq_zero F) B
    · obtain⟨x_1,B⟩:=List.exists_mem_of_ne_nil _ B
      haveI:Inhabited {x // x∈xs}:=⟨⟨x_1,B⟩⟩
      have hx:(xs.flatMap cells).length=xs.length*k:=dU_ cells k hk xs;have hf:∀ l:List {x // x∈xs},(l.flatMap fun z=>cells z.1)=(l.map Subtype.val).flatMap cells:=fun l=>by rw[List.flatMap_map]
      have hat:(xs.attach.map Subtype.val)=xs:=List.attach_map_subtype_val xs
      have T:=sx_ (P:=P) (Γ:=Γ) (r:=.tuple #[]) (g:=b) (cur:=cur) (T:=Te) (ι:={d:Array {x // x∈xs} // d.size=xs.length∧d.toList.Perm xs.attach∧d.toList.Pairwise fun a b=>¬ X b.1 a.1<0}) (d:=fun d=>((d.1.toList.map Subtype.val).flatMap cells).toArray) (f:=ρ.f 6) (args:=#[.slice (some ⟨b,0,none⟩) xs.length cap,.func (.func g) #[] #[]]) hF (fun v hs hv=>by
        have hh:=AnyQ.slices_SortFunc L k aE zE (fun z:{x // x∈xs}=>cells z.1) (fun z=>hk z.1) (fun x u hu=>List.all_eq_true.1 (h1 x.1) u hu) (fun a b=>X a.1 b.1)
          ⟨fun x=>decide_eq_false (hO.irr x.1),fun x y z h1 F=>decide_eq_true (hO.tr _ _ _ (of_decide_eq_true h1) (of_decide_eq_true F)),fun x y z h1 F=>decide_eq_false (hO.ntr _ _ _ (of_decide_eq_false h1) (of_decide_eq_false F))⟩
          g #[] b 0 cap xs.attach.toArray v.w (fun args w=>hg args w) ?_ (by unfold Sort.HoldsK;rw[qK_ (cells:=fun z:{x // x∈xs}=>cells z.1) (fun z=>hk z.1) Z,hf,hat];exact Ah_ hs (by rw[hx];exact h_5)) (Array.getElem?_eq_some_iff.1 (hs.own _ List.mem_cons_self).1).1 zap_
        · have A:xs.attach.toArray.size=xs.length:=by simp
          rw[A]at hh;refine hh.mono ?_;rintro e w' ⟨rfl,G,n,os,hp,W,rfl⟩;have K:G.size=xs.length:=by have:=hp.1;rwa [A]at this
          refine⟨rfl,⟨G,K,?_,?_⟩,n,os,?_⟩
          · have:=hp.2.2
            rw[← K,Array.extract_size,K]at this
            have E:xs.attach.toArray.extract 0 xs.length=xs.attach.toArray:=by
              have q:=Array.extract_size (xs:=xs.attach.toArray);rwa [A]at q
            rw[E]at this;exact this
          · rw[List.pairwise_iff_getElem]
            intro i j hi hj hij;have hj':j<G.size:=by simpa using hj
            have:=W i j (Nat.zero_le _) hij zaa_;rw[getElem!_pos G j hj',getElem!_pos G i zaa_]at this;have:=of_decide_eq_false this;simpa using this
          · unfold sortWorldK Sort.putRowK
            have Q:=qK_ (cells:=fun z:{x // x∈xs}=>cells z.1) (fun z=>hk z.1) Z G.toList;rw[hf]at Q;rw[show G.toList.toArray=G by simp]at Q;rw[Q]
        · intro m os dk _ x y
          have hgb:=hs.own _ List.mem_cons_self
          have S:∀ c,c<v.w.heap.size→c≠b→(sortWorldK (fun z:{x // x∈xs}=>cells z.1) k v.w b 0 m dk os).heap[c]? = v.w.heap[c]? := fun c V hn=>by
            unfold sortWorldK Sort.putRowK;simp only[Sort.grow,Sort.putRow,Sort.mapBlock,Sort.ahead];rw[Array.getElem?_append_left (by simpa using V),Array.getElem?_modify,if_neg (fun q=>hn q.symm)]
          have O:v.w.heap.size≤(sortWorldK (fun z:{x // x∈xs}=>cells z.1) k v.w b 0 m dk os).heap.size:=by unfold sortWorldK Sort.putRowK;simp[Sort.grow,Sort.putRow,Sort.mapBlock,Sort.ahead]
          have hq:=(hC x.1 x.2 y.1 y.2).run ⟨v.im,sortWorldK (fun z:{x // x∈xs}=>cells z.1) k v.w b 0 m dk os,False⟩ ⟨by simp,by simp,fun c V=>Nat.lt_of_lt_of_le (hs.lt c V) O⟩
            (aD_ (v:=⟨v.im,v.w,False⟩) ⟨fun _ q=>q,fun c V=>S c (hs.lt c V) (fun e=>hgb.2 (e▸V)),rfl⟩ (hΓ v False hv))
          refine hq.mono ?_;rintro e w' ⟨_,U,rfl,rfl,_,_,ht⟩;obtain⟨q,os',hw⟩:=mQ_ ht (fun h=>h);exact⟨rfl,q,os',hw⟩)
      refine⟨T.callable,fun v a b=>(T.run v a b).mono ?_⟩;rintro e w' ⟨⟨G,K,hp,hpw⟩,U,A,E,J,I,M⟩;have C:(G.toList.map Subtype.val).length=xs.length:=by simp[K]
      have hy:((G.toList.map Subtype.val).flatMap cells).length=xs.length*k:=by rw[dU_ cells k hk,C]
      refine⟨⟨(_,G.toList.map Subtype.val),⟨by rw[hy,C],.inr ⟨_,cap,_,by rw[C],rfl,by rw[C];exact N,Y,by rw[qk_];exact R,?_⟩⟩,?_,?_⟩,U,A,E,J,I,M⟩
      · have:=qj_ (cur:=cur) (d:=(G.toList.map Subtype.val).flatMap cells) (by rw[hy,R];exact Nat.mul_le_mul_right k N)
        rw[hy]at this;dsimp only;rw[C];exact this
      · have:=hp.map Subtype.val
        rwa [hat]at this
      · rw[List.pairwise_map];exact hpw
section
variable {P:Program} {N:Nf} {v0:Vw} {H0:Hp} {fr:Fr} {H F:Hp} {Γ:List Fct} {K D:Type} [DecidableEq K]
theorem pc_:∀ (B:Hp) {v:Vw},ad_ (B.map fun p=>bl_ p.1 p.2) v→∀ p∈B,v.im p.1∧v.w.heap[p.1]? = some p.2
 | [],_,_,_,h=>by simp at h
 | q::B,v,h,p,d=>by
   rcases List.mem_cons.1 d with rfl|d
   · exact h.1
   · exact pc_ B h.2 p d
theorem zB_ {k:Act→World→Prop} {m:K→Value} {cells:D→List Value} {y e:TypeId} {sz A:Nat} {l:List (K×D)} {d:Hp} (G:KeyT P y m) (hm:ds_ m cells e sz l A d) (E:H.Perm (d++F))
    (h:∀ adr,Ok N v0 H0 k fr F (mlF P y m cells A l adr::Γ)):Ok N v0 H0 k fr H Γ:=by
  obtain⟨adr,C⟩:=hm.lent G;refine oL_ d E (kZ_ (fun v _ x=>?_) (h adr));rw[fe_]at x;refine⟨C v fun p B=>?_,x.2⟩;have:=x.1;exact pc_ d.reverse (by rw[List.map_reverse]at *;exact this) p (List.mem_reverse.2 B)
theorem nV_ {y:TypeId} {E:Emt P y} {nw fm:List Fc} {Hs:Hp} {ty t B A:TypeId} {x:Operand} (hS:E.St nw fm Hs) (m:∀ w,(underlying t).run P w=.ok (.map B A) w) (e:Fr.ev fr x=some (.map (some E.kb))) (C:H.Perm (Hs++F)) :
    Yld P N fr H Γ (.call ⟨.builtin .len,#[x],#[t]⟩) ty (.int .i64 ((E.kof nw).length:Int)):=by
  obtain⟨es,c,G,d⟩:=E.known hS;exact nU_ d m e fun v h _=>oE_ C G h
end
def va_ (x:Ix) (n:Nat):Prop:=x.above.length≤n∧x.under.length≤n∧x.frm.length≤n∧x.into.length≤n∧x.ranges.length≤n∧x.firms.length≤n
theorem zW_:va_ Ix.nil 0:=by simp[va_,Ix.nil]
theorem lg_ {x:Ix} {n:Nat} (h:va_ x n) (b:Bool) (f:Fc):va_ (x.add b f) (n+1):=by
 obtain⟨e,A,v,y,d,m⟩:=h;unfold Ix.add va_
 split
 ·simp;omega
 split
 ·simp;omega
 split
 ·cases b<;>simp<;>omega
 omega
theorem tt_ {x:Ix} {n:Nat} (h:va_ x n) (B:n≤1000000000):(∀ k,(lat x.above k).length≤1000000000∧(lat x.under k).length≤1000000000)∧(∀ k,(lat x.frm k).length≤1000000000∧(lat x.into k).length≤1000000000∧(lat x.ranges k).length≤1000000000∧(lat x.firms k).length≤1000000000):=by
 obtain⟨e,A,v,y,d,m⟩:=h;refine⟨fun k=>⟨?_,?_⟩,fun k=>⟨?_,?_,?_,?_⟩⟩
 ·have:=fF_ x.above k;omega
 ·have:=fF_ x.under k;omega
 ·have:=fF_ x.frm k;omega
 ·have:=fF_ x.into k;omega
 ·have:=fF_ x.ranges k;omega
 have:=fF_ x.firms k;omega
theorem Bz_ (B:EngB) (E:Emt prog 129) (L:EngA) (v:List (Ky×Pc)) (x:Ix) (f:Fc) (nw fm:List Fc) (Hs:Hp) (hS:E.St nw fm Hs) (C G J I Hr A:Hp) (R:IxO 9 129 B x ⟨C,G,J,I,Hr,A⟩) (d:∀ k,(lat v k).length≤1000000000) (e:∀ k,(lat x.above k).length≤1000000000∧(lat x.under k).length≤1000000000) (m:∀ k,(lat x.frm k).length≤1000000000∧(lat x.into k).length≤1000000000∧(lat x.ranges k).length≤1000000000∧(lat x.firms k).length≤1000000000) (M:f.kind=3→-1099511627776≤f.lo∧f.lo≤f.hi∧f.hi≤1099511627776) (O:f.kind=3→∀ y∈lat v (Ky.mk 9 f.r []),-1099511627776≤y.lo∧y.lo≤y.hi∧y.hi≤1099511627776) (Q:f.kind=1):∀ (j:Nat) {fv:Value},(rlV B.g 1)[j]? = some fv→∃ n:Nat,fv=.func (.func n) #[zp_ B.g 0] #[]∧Tri prog n #[zp_ B.g 0,f.val] ((C++(G++(J++(I++(Hr++A)))))++Hs) [gF B E,pF B v L,E.ef] (fun _:{H':Hp // E.St (rl E.stp E.kof v x f j (nw,fm)).1 (rl E.stp E.kof v x f j (nw,fm)).2 H'}=>.tuple #[]) (fun y=>(C++(G++(J++(I++(Hr++A)))))++y.1) (fun _=>[])
  | 0,_,h=>⟨236,(Option.some.inj h).symm,rl10_c B E L v x f nw fm Hs hS C G J I Hr A R d e m M O Q⟩
  | 1,_,h=>⟨237,(Option.some.inj h).symm,rl11_c B E L v x f nw fm Hs hS C G J I Hr A R d e m M O Q⟩
  | 2,_,h=>⟨238,(Option.some.inj h).symm,rl12_c B E L v x f nw fm Hs hS C G J I Hr A R d e m M O Q⟩
  | 3,_,h=>⟨239,(Option.some.inj h).symm,rl13_c B E L v x f nw fm Hs hS C G J I Hr A R d e m M O Q⟩
  | 4,_,h=>⟨240,(Option.some.inj h).symm,rl14_c B E L v x f nw fm Hs hS C G J I Hr A R d e m M O Q⟩
  | 5,_,h=>⟨241,(Option.some.inj h).symm,rl15_c B E L v x f nw fm Hs hS C G J I Hr A R d e m M O Q⟩
  | j+6,_,h=>by simp[rlV]at h
theorem By_ (B:EngB) (E:Emt prog 129) (L:EngA) (e:List (Ky×Pc)) (x:Ix) (f:Fc) (nw fm:List Fc) (Hs:Hp) (hS:E.St nw fm Hs) (C G J I Hr A:Hp) (R:IxO 9 129 B x ⟨C,G,J,I,Hr,A⟩) (d:∀ k,(lat e k).length≤1000000000) (m:∀ k,(lat x.above k).length≤1000000000∧(lat x.under k).length≤1000000000) (v:∀ k,(lat x.frm k).length≤1000000000∧(lat x.into k).length≤1000000000∧(lat x.ranges k).length≤1000000000∧(lat x.firms k).length≤1000000000) (M:f.kind=3→-1099511627776≤f.lo∧f.lo≤f.hi∧f.hi≤1099511627776) (O:f.kind=3→∀ y∈lat e (Ky.mk 9 f.r []),-1099511627776≤y.lo∧y.lo≤y.hi∧y.hi≤1099511627776) (Q:f.kind=2):∀ (j:Nat) {fv:Value},(rlV B.g 2)[j]? = some fv→∃ n:Nat,fv=.func (.func n) #[zp_ B.g 0] #[]∧Tri prog n #[zp_ B.g 0,f.val] ((C++(G++(J++(I++(Hr++A)))))++Hs) [gF B E,pF B e L,E.ef] (fun _:{H':Hp // E.St (rl E.stp E.kof e x f j (nw,fm)).1 (rl E.stp E.kof e x f j (nw,fm)).2 H'}=>.tuple #[]) (fun y=>(C++(G++(J++(I++(Hr++A)))))++y.1) (fun _=>[])
  | 0,_,h=>⟨242,(Option.some.inj h).symm,rl20_c B E L e x f nw fm Hs hS C G J I Hr A R d m v M O Q⟩
  | 1,_,h=>⟨243,(Option.some.inj h).symm,rl21_c B E L e x f nw fm Hs hS C G J I Hr A R d m v M O Q⟩
  | 2,_,h=>⟨244,(Option.some.inj h).symm,rl22_c B E L e x f nw fm Hs hS C G J I Hr A R d m v M O Q⟩
  | 3,_,h=>⟨245,(Option.some.inj h).symm,rl23_c B E L e x f nw fm Hs hS C G J I Hr A R d m v M O Q⟩
  | j+4,_,h=>by simp[rlV]at h
theorem Bx_ (B:EngB) (E:Emt prog 129) (L:EngA) (d:List (Ky×Pc)) (x:Ix) (f:Fc) (nw fm:List Fc) (Hs:Hp) (hS:E.St nw fm Hs) (m v J A Hr e:Hp) (R:IxO 9 129 B x ⟨m,v,J,A,Hr,e⟩) (C:∀ k,(lat d k).length≤1000000000) (G:∀ k,(lat x.above k).length≤1000000000∧(lat x.under k).length≤1000000000) (I:∀ k,(lat x.frm k).length≤1000000000∧(lat x.into k).length≤1000000000∧(lat x.ranges k).length≤1000000000∧(lat x.firms k).length≤1000000000) (M:f.kind=3→-1099511627776≤f.lo∧f.lo≤f.hi∧f.hi≤1099511627776) (O:f.kind=3→∀ y∈lat d (Ky.mk 9 f.r []),-1099511627776≤y.lo∧y.lo≤y.hi∧y.hi≤1099511627776) (Q:f.kind=3):∀ (j:Nat) {fv:Value},(rlV B.g 3)[j]? = some fv→∃ n:Nat,fv=.func (.func n) #[zp_ B.g 0] #[]∧Tri prog n #[zp_ B.g 0,f.val] ((m++(v++(J++(A++(Hr++e)))))++Hs) [gF B E,pF B d L,E.ef] (fun _:{H':Hp // E.St (rl E.stp E.kof d x f j (nw,fm)).1 (rl E.stp E.kof d x f j (nw,fm)).2 H'}=>.tuple #[]) (fun y=>(m++(v++(J++(A++(Hr++e)))))++y.1) (fun _=>[])
  | 0,_,h=>⟨246,(Option.some.inj h).symm,rl30_c B E L d x f nw fm Hs hS m v J A Hr e R C G I M O Q⟩
  | 1,_,h=>⟨247,(Option.some.inj h).symm,rl31_c B E L d x f nw fm Hs hS m v J A Hr e R C G I M O Q⟩
  | j+2,_,h=>by simp[rlV]at h
def eU_ (p:List Pc) (bu:Int) (c:Cl) (e:Int):Prop :=
  if cC_ p≠0 then c=Cl.no∧e=cC_ p
  else if bu<0∨1073741824<bu then c=Cl.no∧e=1
  else (e=0∧c.ok∧c.atoms=atS p∧uh_ p (atS p) (min bu 65536).toNat (some c.facts))∨(c=Cl.no∧e=(if bu<65536 then 3 else 2)∧uh_ p (atS p) (min bu 65536).toNat none)
theorem AO_ {p:List Pc} {d:Int} (h:cC_ p≠0):eU_ p d Cl.no (cC_ p):=by unfold eU_;rw[if_pos h];exact⟨rfl,rfl⟩
theorem AP_ {p:List Pc} {d:Int} (h:cC_ p=0) (e:d<0∨1073741824<d):eU_ p d Cl.no 1:=by unfold eU_;rw[if_neg (by simp[h]),if_pos e];exact⟨rfl,rfl⟩
theorem CG_ {p:List Pc} {d:Int} {m n:Nat} {c:Cl} {q fm:List Fc} {x:Ix} (v:cC_ p=0) (G:¬ d<0) (I:¬ 1073741824<d) (hm:min d 65536=(m:Int)) (B:c.ok) (C:c.atoms=atS p) (h:LoopA (uniq [] p) (atS p) m n q fm x) (E:q.length≤n) (hl:q.length≤m) (A:c.facts=kn_ q):eU_ p d c 0:=by
  unfold eU_;rw[if_neg (by simp[v]),if_neg zaa_];have e:n=q.length:=Nat.le_antisymm h.le E;subst e;refine .inl ⟨rfl,B,C,?_⟩;rw[hm,A];exact⟨yS_ h.nd,fun y=>by rw[yT_,← uV_ h hl,su_],by rw[hs_];simpa using hl⟩
theorem jN_ {p:List Pc} {d:Int} {m:Nat} {e:Int} {M:List Fc} (v:cC_ p=0) (B:¬ d<0) (C:¬ 1073741824<d) (hm:min d 65536=(m:Int)) (x:e=if d<65536 then 3 else 2) (nd:M.Nodup) (A:∀ y∈M,Der (uniq [] p) (atS p) y) (hl:m<M.length):eU_ p d Cl.no e:=by
  unfold eU_;rw[if_neg (by simp[v]),if_neg zaa_];exact .inr ⟨rfl,x,M,nd,fun y h=>su_.1 (A y h),by rw[hm];simpa using hl⟩
end Go.Proofs.YthmjeabeoodghaaGreatDoor
