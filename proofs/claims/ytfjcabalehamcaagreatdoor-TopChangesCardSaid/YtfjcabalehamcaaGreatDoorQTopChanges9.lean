/-
  Lemmas for the law TopChanges (no condition).
-/
import Derived.Test.YtfjcabalehamcaaGreatDoorQTopChanges8
set_option linter.unusedVariables false
set_option linter.unusedSimpArgs false
set_option linter.unusedSectionVars false
set_option maxHeartbeats 1000000
namespace Go.Vs
open Go Go.Sx
def Ky.cells (k:Ky):List Value:=[.int .i64 k.kind,str k.role,str k.atom]
def Ky.val (k:Ky):Value:=.agg k.cells.toArray
def qE_ (s:jE_):List Value:=[str s.1,str s.2]
def hK_ (s:jE_):Value:=.agg (qE_ s).toArray
def Ky.eqb (p q:Ky):Bool:=(p.kind==q.kind)&&((p.role==q.role)&&((p.atom==q.atom)&&true))
theorem Ky.eqb_eq (p q:Ky):p.eqb q=decide (p=q):=by
  rw[ybJ_];cases p;cases q;simp[Ky.eqb]
def AJ_ (p q:jE_):Bool:=(p.1==q.1)&&((p.2==q.2)&&true)
theorem wt_ (p q:jE_):AJ_ p q=decide (p=q):=by
  rw[ybJ_];cases p;cases q;simp[AJ_]
theorem Fc.cells_one (p:Fc):p.cells.all Value.oneCell'=true:=rfl
end Go.Vs
namespace Go.Sx
open Go Go.Vs
structure Emt (P:Program) (tF:TypeId) where
  stp:Fc->List Fc->List Fc
  kof:List Fc->List Fc
  St:List Fc->List Fc->Hp->Prop
  fn:FuncId
  caps:List Value
  ef:Fct
  kb:Nat
  fb:Nat
  grows:Grows stp kof
  emit:∀ f nw fm H,St nw fm H->Tri P fn (f.val::caps).toArray H [ef] (λ_:{H':Hp // St (stp f nw) fm H'}=>.tuple #[]) (λy=>y.1) (λ_=>[])
  known:∀ {nw fm H},St nw fm H->∃ es c,(kb,Obj.map es c)∈H/\SetE Fc.val es (kof nw)
  firm:∀ {nw fm H},St nw fm H->∃ es c q,(fb,Obj.map es c)∈H/\SetE Fc.val es q/\∀ f,f∈q↔f∈fm
  setf:∀ {nw fm H} (f:Fc),St nw fm H->∃ es c q Hr,H.Perm ((fb,Obj.map es c)::Hr)/\SetE Fc.val es q/\(∀ f,f∈q↔f∈fm)/\∀ es' c',SetE Fc.val es' (if f∈q then q else q++[f])->∃ H',St nw (f::fm) H'/\H'.Perm ((fb,Obj.map es' c')::Hr)
section
variable {P:Program} {N:Nf} {v0:Vw} {H0:Hp} {R:Exit->Act->World->Prop} {K:List Kt} {fr:Fr} {H:Hp} {Γ:List Fct}
variable {ops:Array Oper} {l:List Oper} {d:Nat} {ty:TypeId} {ps:String} {af:Array Edge} {tF:TypeId} {E:Emt P tF} {nw fm:List Fc} {Hs F:Hp}
theorem ne_ {b:Nat} {o:Obj} {v:Vw} (m:H.Perm (Hs++F)) (hm:(b,o)∈Hs) (h:v.sat H):v.w.heap[b]? = some o:=(h.own _ (m.mem_iff.2 (yal_ _ hm))).1
theorem iI_ {t m:TypeId} {x y:Operand} {f:Fc} (hS:E.St nw fm Hs) (L:KeyT P tF Fc.val) (G:∀ w,(underlying t).run P w=.ok (.map tF m) w) (M:∀ w,(zeroValue m).run P w=.ok (.bool false) w) (I:Fr.ev fr x=some (.map (some E.kb))) (C:Fr.ev fr y=some f.val) (A:H.Perm (Hs++F)) :
    Yld P N fr H Γ (.lookup t x y false) ty (.bool (decide (f∈E.kof nw))):=by
  obtain⟨es,c,B,J⟩:=E.known hS;exact df_ L G M I C J λv h _=>ne_ A B h
theorem qo_ {t m:TypeId} {x y:Operand} {f:Fc} (hS:E.St nw fm Hs) (M:KeyT P tF Fc.val) (G:∀ w,(underlying t).run P w=.ok (.map tF m) w) (O:∀ w,(zeroValue m).run P w=.ok (.bool false) w) (J:Fr.ev fr x=some (.map (some E.fb))) (C:Fr.ev fr y=some f.val) (A:H.Perm (Hs++F)) :
    Yld P N fr H Γ (.lookup t x y false) ty (.bool (decide (f∈fm))):=by
  obtain⟨es,c,q,B,L,I⟩:=E.firm hS;have:=df_ (P:=P) (N:=N) (H:=H) (Γ:=Γ) (ty:=ty) M G O J C L λv h _=>ne_ A B h
  have e:decide (f∈q)=decide (f∈fm):=by rw[ydc_];exact I f
  rw[<-e];exact this
theorem xc_ {o:Op} {t V:TypeId} {x y z:Operand} {f:Fc} (hS:E.St nw fm Hs) (T:KeyT P tF Fc.val) (G:o=.insert t x y z\/o=.mapUpdate t x y z) (M:∀ w,(underlying t).run P w=.ok (.map tF V) w)
    (O:Fr.ev fr x=some (.map (some E.fb))) (I:Fr.ev fr y=some f.val) (W:Fr.ev fr z=some (.bool true)) (A:H.Perm (Hs++F))
    (Q:∀ Hs',E.St nw (f::fm) Hs'->Ops P R N v0 H0 ops l K fr (Hs'++F) Γ):Ops P R N v0 H0 ops (⟨none,o,ty,ps,af,none⟩::l) K fr H Γ:=by
  obtain⟨es,c,q,Hr,C,J,X,B⟩:=E.setf f hS;refine t_ (H':=(E.fb,.map es c)::(Hr++F)) (A.trans (by have:=C.append_right F;simpa using this)) ?_;refine ex_ 0 T G M O I W rfl J λv L m=>?_;obtain⟨H',S,U⟩:=B v L m;simp only[ybI_];exact t_ (by have:=(U.append_right F).symm;simpa using this) (Q H' S)
end
structure EngB where
  g:Nat
  pb:Nat
  ab:Nat
  ub:Nat
  ob:Nat
  ib:Nat
  rb:Nat
  sb:Nat
  lad:Ao
  lcap:Nat
  lps:List Str
structure EngA where
  p:Ky->Ao×Nat
  a:Str->Ao×Nat
  u:Str->Ao×Nat
  o:jE_->Ao×Nat
  i:jE_->Ao×Nat
  r:jE_->Ao×Nat
  s:jE_->Ao×Nat
def EngB.cells (B:EngB) {P:Program} {tF:TypeId} (E:Emt P tF):List Value :=
  [.map (some B.pb),.slice B.lad B.lps.length B.lcap,.map (some E.kb),.func (.func E.fn) #[] E.caps.toArray,.map (some B.ab),.map (some B.ub),.map (some B.ob),.map (some B.ib),.map (some B.rb),.map (some B.sb),.map (some E.fb)]
structure IxH where
  a:Hp
  u:Hp
  o:Hp
  i:Hp
  r:Hp
  s:Hp
def IxO (tS tF:TypeId) (B:EngB) (x:Ix) (y:IxH):Prop :=
  cs_ str ar_ tS 1 x.above B.ab y.a/\cs_ str ar_ tS 1 x.under B.ub y.u/\cs_ hK_ ar_ tS 1 x.frm B.ob y.o/\cs_ hK_ ar_ tS 1 x.into B.ib y.i/\cs_ hK_ Fc.cells tF 6 x.ranges B.rb y.r/\cs_ hK_ Fc.cells tF 6 x.firms B.sb y.s
end Go.Sx
namespace Go.Proofs.YtfjcabalehamcaaGreatDoor
open Go Go.Sx Go.Proofs Tryz
attribute [local irreducible] Code.wp wpList wpAnyH
open Go.Vs
theorem eqKy (p q:Ky) (w:World):(Op.equalIn 10000 195 (Ky.val p) (Ky.val q)).run prog w=.ok (decide (p=q)) w:=by
  have h:=run_equalIn_struct (P:=prog) w 9999 195 (Ky.cells p).toArray (Ky.cells q).toArray (by simp only[Program.fieldsOf,underlying195]) Tryz.stoodInHeld195;refine h.trans ?_;rw[<-Ky.eqb_eq];simp only[Program.fieldsOf,underlying195];exact bD_ rfl au_ rfl rfl (eqI o_ w) (bD_ rfl ae_ rfl rfl (eqS av_ w) (bD_ rfl ae_ rfl rfl (eqS av_ w) (kr_ w)))
theorem eqSpot (p q:jE_) (w:World):(Op.equalIn 10000 146 (hK_ p) (hK_ q)).run prog w=.ok (decide (p=q)) w:=by
  have h:=run_equalIn_struct (P:=prog) w 9999 146 (qE_ p).toArray (qE_ q).toArray (by simp only[Program.fieldsOf,underlying146]) Tryz.stoodInHeld146;refine h.trans ?_;rw[<-wt_];simp only[Program.fieldsOf,underlying146];exact bD_ rfl ae_ rfl rfl (eqS av_ w) (bD_ rfl ae_ rfl rfl (eqS av_ w) (kr_ w))
theorem okKy (p:Ky):hP_ prog 195 (Ky.val p):=λe w=>by
 have hi:∀ (n:Int) (w:World),(Instr.checkKey e (9998+1) 3 (.int .i64 n)).run prog w=.ok () w:=λn w=>MapKept.run_checkKey (d:=.int .i64) o_ zbq_ e 9998
 have v:∀ (n:Str) (w:World),(Instr.checkKey e (9998+1) 9 (str n)).run prog w=.ok () w:=λn w=>MapKept.run_checkKey (d:=.string) av_ zaT_ e 9998
 refine ckF (n:=9999) underlying195 λf m=>?_;simp only[yan_,yaJ_,ybG_]at m;rcases m with rfl|rfl|rfl
 .exact⟨rfl,au_,_,rfl,hi _⟩
 .exact⟨rfl,ae_,_,rfl,v _⟩
 exact⟨rfl,ae_,_,rfl,v _⟩
theorem okSpot (p:jE_):hP_ prog 146 (hK_ p):=λe w=>by
 have v:∀ (n:Str) (w:World),(Instr.checkKey e (9998+1) 9 (str n)).run prog w=.ok () w:=λn w=>MapKept.run_checkKey (d:=.string) av_ zaT_ e 9998
 refine ckF (n:=9999) underlying146 λf m=>?_;simp only[yan_,yaJ_,ybG_]at m;rcases m with rfl|rfl
 .exact⟨rfl,ae_,_,rfl,v _⟩
 exact⟨rfl,ae_,_,rfl,v _⟩
theorem okFc (p:Fc):hP_ prog 87 p.val:=λe w=>by
 have hi:∀ (n:Int) (w:World),(Instr.checkKey e (9998+1) 3 (.int .i64 n)).run prog w=.ok () w:=λn w=>MapKept.run_checkKey (d:=.int .i64) o_ zbq_ e 9998
 have m:∀ (n:Str) (w:World),(Instr.checkKey e (9998+1) 9 (str n)).run prog w=.ok () w:=λn w=>MapKept.run_checkKey (d:=.string) av_ zaT_ e 9998
 refine ckF (n:=9999) underlying87 λf v=>?_;simp only[yan_,yaJ_,ybG_]at v;rcases v with rfl|rfl|rfl|rfl|rfl|rfl
 .exact⟨rfl,au_,_,rfl,hi _⟩
 .exact⟨rfl,ae_,_,rfl,m _⟩
 .exact⟨rfl,ae_,_,rfl,m _⟩
 .exact⟨rfl,ae_,_,rfl,m _⟩
 .exact⟨rfl,au_,_,rfl,hi _⟩
 exact⟨rfl,au_,_,rfl,hi _⟩
theorem hM_:KeyT prog 195 Ky.val:=fo_ (K:=Ky) underlying195 okKy (λp q w=>eqKy p q w) λk=>im_ (l:=Ky.cells k) λv d=>by
 simp only[Ky.cells,yan_,yaJ_,ybG_]at d;rcases d with rfl|rfl|rfl
 .exact dY_ _ _
 .exact cF_ _ _
 exact cF_ _ _
theorem dz_:KeyT prog 146 hK_:=fo_ (K:=jE_) underlying146 okSpot (λp q w=>eqSpot p q w) λk=>im_ (l:=qE_ k) λv d=>by
 simp only[qE_,yan_,yaJ_,ybG_]at d;rcases d with rfl|rfl
 .exact cF_ _ _
 exact cF_ _ _
theorem gy_:KeyT prog 87 Fc.val:=fo_ (K:=Fc) underlying87 okFc (λp q w=>eqFc p q w) λk=>im_ (l:=Fc.cells k) λv d=>by
 simp only[Fc.cells,yan_,yaJ_,ybG_]at d;rcases d with rfl|rfl|rfl|rfl|rfl|rfl
 .exact dY_ _ _
 .exact cF_ _ _
 .exact cF_ _ _
 .exact cF_ _ _
 .exact dY_ _ _
 exact dY_ _ _
theorem pE_:KeyT prog 32 Pc.val:=fo_ (K:=Pc) fz_ ud_ (λp q w=>eqPc p q w) λk=>im_ (l:=Pc.cells k) λv d=>by
 simp only[Pc.cells,yan_,yaJ_,ybG_]at d;rcases d with rfl|rfl|rfl|rfl|rfl|rfl|rfl|rfl|rfl|rfl
 .exact dY_ _ _
 .exact cF_ _ _
 .exact cF_ _ _
 .exact cF_ _ _
 .exact cF_ _ _
 .exact cF_ _ _
 .exact cF_ _ _
 .exact dY_ _ _
 .exact dY_ _ _
 exact dY_ _ _
theorem hR_:KeyT prog 9 str:=rx_ av_
theorem jB_:Elt prog 35 87 6 72:=gA_ underlying35 (z:=.agg #[i4_ 0,str [],str [],str [],i4_ 0,i4_ 0]) zad_ rfl zac_
theorem iA_:Elt prog 27 32 10 128:=gA_ ol_ (z:=.agg #[i4_ 0,str [],str [],str [],str [],str [],str [],i4_ 0,i4_ 0,i4_ 0]) zad_ rfl zac_
theorem eC_:Elt prog 34 9 1 16:=gA_ ig_ (z:=.string ⟨#[]⟩) zad_ rfl zac_
theorem et_:fH_ prog 195 [(0,1),(1,1),(2,1)] [i4_ 0,str [],str []]:=⟨_,zeroValue195,runUnderlying195,λw=>by simp[K_,U_]⟩
theorem hp_:fH_ prog 146 [(0,1),(1,1)] [str [],str []]:=⟨_,fy_,runUnderlying146,λw=>by simp[U_]⟩
theorem strt94:fH_ prog 94 [(0,1),(1,1),(2,1),(3,1),(4,1),(5,1),(6,1),(7,1),(8,1),(9,1),(10,1)] [.map none,.slice none 0 0,.map none,.nilFunc,.map none,.map none,.map none,.map none,.map none,.map none,.map none]:=⟨_,zeroValue94,runUnderlying94,λw=>by simp[ft_,sizeOf77,sizeOf88,fs_,sizeOf90,sizeOf91,sizeOf92]⟩
theorem dE_ (s:Str):(ar_ s).all Value.oneCell'=true:=rfl
theorem iu_ (s:Int):(aY_ s).all Value.oneCell'=true:=rfl
def gF (B:EngB) (E:Emt prog 87):Fct:=cf_ B.g (.cells (B.cells E).toArray 94 (0,0))
def pF (B:EngB) (pm:List (Ky×Pc)) (A:EngA):Fct:=mlF prog 195 Ky.val Pc.cells B.pb pm A.p
def aF (B:EngB) (x:Ix) (A:EngA):Fct:=mlF prog 9 str ar_ B.ab x.above A.a
def uF (B:EngB) (x:Ix) (A:EngA):Fct:=mlF prog 9 str ar_ B.ub x.under A.u
def oF (B:EngB) (x:Ix) (A:EngA):Fct:=mlF prog 146 hK_ ar_ B.ob x.frm A.o
def iF (B:EngB) (x:Ix) (A:EngA):Fct:=mlF prog 146 hK_ ar_ B.ib x.into A.i
def rF (B:EngB) (x:Ix) (A:EngA):Fct:=mlF prog 146 hK_ Fc.cells B.rb x.ranges A.r
def sF (B:EngB) (x:Ix) (A:EngA):Fct:=mlF prog 146 hK_ Fc.cells B.sb x.firms A.s
theorem dr_ {α β:Type} {g:α->β} {l:List α} {i:Nat} {x:α} (h:l[i]? = some x):List.map g (List.take (i+1) l)=List.map g (l.take i)++[g x]:=by
  rw[yao_,h,yaC_,yaw_];rfl
theorem fU_ (a b:Str):Fn0 prog 67 #[str a,str b] (Fc.val (Q_ a b)):=by
  refine g_ func67 rfl rfl ntmps67 rfl λA=>?_;refine Zz 2 ?_;refine u_ W_ rfl λy=>Zz 6 ?_
  refine e_ (w_ jo_ rfl rfl) rfl (n_ 0 N_ rfl rfl rfl rfl rfl rfl (Zz 3 ?_));exact dI_ () (λx v m d=>cu_ (us:=Fc.cells (Q_ a b)) 0 results67 cp_ N_ rfl rfl rfl x v m d) i_ zt
theorem nw_ (a r b:Str):Fn0 prog 68 #[str a,str r,str b] (Fc.val (ak_ a r b)):=by
  refine g_ func68 rfl rfl ntmps68 rfl λA=>?_;refine Zz 2 ?_;refine u_ W_ rfl λy=>Zz 7 ?_
  refine e_ (w_ jo_ rfl rfl) rfl (n_ 0 N_ rfl rfl rfl rfl rfl rfl (Zz 3 ?_));exact dI_ () (λx v m d=>cu_ (us:=Fc.cells (ak_ a r b)) 0 results68 cp_ N_ rfl rfl rfl x v m d) i_ zt
theorem mS_ (a r:Str) (lo hi:Int):Fn0 prog 123 #[str a,str r,i4_ lo,i4_ hi] (Fc.val (ag_ a r lo hi)):=by
  refine g_ func123 rfl rfl ntmps123 rfl λA=>?_;refine Zz 2 ?_;refine u_ W_ rfl λy=>Zz 8 ?_
  refine e_ (w_ jo_ rfl rfl) rfl (n_ 0 N_ rfl rfl rfl rfl rfl rfl (Zz 3 ?_));exact dI_ () (λx v m d=>cu_ (us:=Fc.cells (ag_ a r lo hi)) 0 results123 cp_ N_ rfl rfl rfl x v m d) i_ zt
theorem vD_ (B:EngB) (E:Emt prog 87) (A:EngA) (pm:List (Ky×Pc)) (x:Ix) (f:Fc) (nw fm:List Fc) (Hs:Hp) (hS:E.St nw fm Hs) (O:∀ k,(lat pm k).length<=1000000000) (Q:∀ k,(lat x.above k).length<=1000000000/\(lat x.under k).length<=1000000000) (R:∀ k,(lat x.frm k).length<=1000000000/\(lat x.into k).length<=1000000000/\(lat x.ranges k).length<=1000000000/\(lat x.firms k).length<=1000000000):Tri prog 69 #[zp_ B.g 0,Fc.val f] Hs [gF B E,pF B pm A,aF B x A,uF B x A,oF B x A,iF B x A,rF B x A,sF B x A,E.ef] (λ_:{H':Hp // E.St (emits E.stp (hb_ pm f) nw) fm H'}=>.tuple #[]) (λy=>y.1) (λ_=>[]):=by
 refine g_ func69 rfl rfl ntmps69 rfl λS=>?_;refine Zz 2 ?_;refine F_ rfl rfl λH=>Zz 4 ?_
 refine s_ 0 [0,1,2,3,4,5,6,7,8,9] zk zs (Zz 6 ?_);refine S_ rfl (w_ et_ rfl rfl) rfl (S_ rfl (bi_ (k:=(Ky.mk 1 [] f.b)) (adr:=A.p) hM_ bI_ bu_ rfl rfl zf) rfl (Zz 6 ?_));refine I_ (ι:={y:Nat×Hp // y.1<=List.length (lat pm (Ky.mk 1 [] f.b))/\E.St (emits E.stp (List.map (λy=>Q_ f.a y.c) (List.take y.1 (lat pm (Ky.mk 1 [] f.b)))) nw) fm y.2}) (λy=>[(0,zp_ B.g 0),(3,zp_ H 0),(13,.slice (Prod.fst (A.p (Ky.mk 1 [] f.b))) (lat pm (Ky.mk 1 [] f.b)).length (Prod.snd (A.p (Ky.mk 1 [] f.b)))),(14,i4_ (List.length (lat pm (Ky.mk 1 [] f.b)):Int)),(15,i4_ y.1.1)]) (λy=>((H,.cells #[i4_ f.kind,str f.a,str f.b,str f.r,i4_ f.lo,i4_ f.hi] 87 (0,0))::y.1.2)) (λy=>[gF B E,pF B pm A,aF B x A,uF B x A,oF B x A,iF B x A,rF B x A,sF B x A,E.ef]) (λy=>List.length (lat pm (Ky.mk 1 [] f.b)) - y.1.1) ⟨((0:Nat),Hs),by simp,by exact hS⟩ zl zp zh ?_;rintro ⟨⟨i,G⟩,I,m⟩;dsimp only at I m ⊢;have P:=O (Ky.mk 1 [] f.b);refine Zi 2 (λK=>?_) λK=>?_
 .refine Zz 6 ?_
  exact bK_ results69 ⟨G,by unfold hb_;rw[yad_ zaa_]at m;exact m⟩ rfl E_ zt
 have C:i<List.length (lat pm (Ky.mk 1 [] f.b)):=by omega
 obtain⟨d,F⟩:∃ M,(lat pm (Ky.mk 1 [] f.b))[i]? = some M:=⟨_,yaa_ C⟩;refine Zz 10 ?_;refine e_ (Y_ z_ A_ rfl rfl (λv _ h=>az_ (n:=10) Pc.cells_len zac_ (by exact (bc_ h.2.1 (Ky.mk 1 [] f.b))) F) zaa_ zak_) rfl ?_;refine e_ (ah_ (ad:=(Prod.fst (A.p (Ky.mk 1 [] f.b)))) (us:=Pc.cells d) dy_ A_ rfl (λv _ h=>by exact (bc_ h.2.1 (Ky.mk 1 [] f.b))) (Pc.cells_len _) (y_ Pc.cells_len F)) rfl (u_ O_ rfl λN=>n_ 0 A_ rfl rfl rfl rfl rfl rfl (Zz 2 ?_));refine V_ ((N,.cells #[i4_ d.kind,str d.a,str d.b,str d.c,str d.r,str d.s,str d.t,i4_ d.lo,i4_ d.hi,i4_ d.frm] 32 (0,0))::((H,.cells #[i4_ f.kind,str f.a,str f.b,str f.r,i4_ f.lo,i4_ f.hi] 87 (0,0))::[])) zk ?_;refine s_ 2 [0,1,2,3,4,5,6,7] zk zs (Zz 9 ?_);refine l_ 8 rfl zk (f_ (fU_ f.a d.c) rfl i_ zt rfl λ_=>Zz 3 ?_);refine l_ 9 rfl zk (T_ (first:=[]) (cap:=E.caps) (E.emit (Q_ f.a d.c) (emits E.stp (List.map (λy=>Q_ f.a y.c) (List.take i (lat pm (Ky.mk 1 [] f.b)))) nw) fm G m) rfl rfl (c_ E_) zf rfl λ⟨L,J⟩=>?_);dsimp only;refine Zz 10 ?_;exact C_ ⟨(i+1,L),C,(by rw[dr_ F,ay_];exact J)⟩ zab_ zl zp zh
theorem some_c (B:EngB) (E:Emt prog 87) (A:EngA) (pm:List (Ky×Pc)) (x:Ix) (f:Fc) (nw fm:List Fc) (Hs:Hp) (hS:E.St nw fm Hs) (O:∀ k,(lat pm k).length<=1000000000) (Q:∀ k,(lat x.above k).length<=1000000000/\(lat x.under k).length<=1000000000) (R:∀ k,(lat x.frm k).length<=1000000000/\(lat x.into k).length<=1000000000/\(lat x.ranges k).length<=1000000000/\(lat x.firms k).length<=1000000000):Tri prog 71 #[zp_ B.g 0,Fc.val f] Hs [gF B E,pF B pm A,aF B x A,uF B x A,oF B x A,iF B x A,rF B x A,sF B x A,E.ef] (λ_:{H':Hp // E.St (emits E.stp (or_ pm f) nw) fm H'}=>.tuple #[]) (λy=>y.1) (λ_=>[]):=by
 refine g_ func71 rfl rfl ntmps71 rfl λS=>?_;refine Zz 2 ?_;refine F_ rfl rfl λH=>Zz 4 ?_
 refine s_ 0 [0,1,2,3,4,5,6,7,8,9] zk zs (Zz 6 ?_);refine S_ rfl (w_ et_ rfl rfl) rfl (S_ rfl (bi_ (k:=(Ky.mk 3 [] f.b)) (adr:=A.p) hM_ bI_ bu_ rfl rfl zf) rfl (Zz 6 ?_));let Pu:Nat×Obj:=(H,.cells #[i4_ f.kind,str f.a,str f.b,str f.r,i4_ f.lo,i4_ f.hi] 87 (0,0));refine I_ (ι:={y:Nat×Hp // y.1<=List.length (lat pm (Ky.mk 3 [] f.b))/\E.St (emits E.stp (List.map (λy=>ak_ f.a y.r y.c) (List.take y.1 (lat pm (Ky.mk 3 [] f.b)))) nw) fm y.2}) (λy=>[(0,zp_ B.g 0),(3,zp_ H 0),(13,.slice (Prod.fst (A.p (Ky.mk 3 [] f.b))) (lat pm (Ky.mk 3 [] f.b)).length (Prod.snd (A.p (Ky.mk 3 [] f.b)))),(14,i4_ (List.length (lat pm (Ky.mk 3 [] f.b)):Int)),(15,i4_ y.1.1)]) (λy=>(Pu::y.1.2)) (λy=>[gF B E,pF B pm A,aF B x A,uF B x A,oF B x A,iF B x A,rF B x A,sF B x A,E.ef]) (λy=>List.length (lat pm (Ky.mk 3 [] f.b)) - y.1.1) ⟨((0:Nat),Hs),by simp,by exact hS⟩ zl zp zh ?_;rintro ⟨⟨i,G⟩,I,m⟩;dsimp only at I m ⊢;have P:=O (Ky.mk 3 [] f.b);refine Zi 2 (λK=>?_) λK=>?_
 .refine Zz 6 ?_
  exact bK_ results71 ⟨G,by unfold or_;rw[yad_ zaa_]at m;exact m⟩ rfl E_ zt
 have C:i<List.length (lat pm (Ky.mk 3 [] f.b)):=by omega
 obtain⟨d,F⟩:∃ M,(lat pm (Ky.mk 3 [] f.b))[i]? = some M:=⟨_,yaa_ C⟩;refine Zz 10 ?_;refine e_ (Y_ z_ A_ rfl rfl (λv _ h=>az_ (n:=10) Pc.cells_len zac_ (by exact (bc_ h.2.1 (Ky.mk 3 [] f.b))) F) zaa_ zak_) rfl ?_;refine e_ (ah_ (ad:=(Prod.fst (A.p (Ky.mk 3 [] f.b)))) (us:=Pc.cells d) dy_ A_ rfl (λv _ h=>by exact (bc_ h.2.1 (Ky.mk 3 [] f.b))) (Pc.cells_len _) (y_ Pc.cells_len F)) rfl (u_ O_ rfl λN=>n_ 0 A_ rfl rfl rfl rfl rfl rfl (Zz 2 ?_));refine V_ ((N,.cells #[i4_ d.kind,str d.a,str d.b,str d.c,str d.r,str d.s,str d.t,i4_ d.lo,i4_ d.hi,i4_ d.frm] 32 (0,0))::(Pu::[])) zk ?_;refine s_ 2 [0,1,2,3,4,5,6,7,8,9] zk zs (Zz 11 ?_);refine l_ 10 rfl zk (f_ (nw_ f.a d.r d.c) rfl i_ zt rfl λ_=>Zz 3 ?_);refine l_ 11 rfl zk (T_ (first:=[]) (cap:=E.caps) (E.emit (ak_ f.a d.r d.c) (emits E.stp (List.map (λy=>ak_ f.a y.r y.c) (List.take i (lat pm (Ky.mk 3 [] f.b)))) nw) fm G m) rfl rfl (c_ E_) zf rfl λ⟨L,J⟩=>?_);dsimp only;refine Zz 10 ?_;exact C_ ⟨(i+1,L),C,(by rw[dr_ F,ay_];exact J)⟩ zab_ zl zp zh
theorem vx_ (B:EngB) (E:Emt prog 87) (A:EngA) (pm:List (Ky×Pc)) (x:Ix) (f:Fc) (nw fm:List Fc) (Hs:Hp) (hS:E.St nw fm Hs) (O:∀ k,(lat pm k).length<=1000000000) (Q:∀ k,(lat x.above k).length<=1000000000/\(lat x.under k).length<=1000000000) (R:∀ k,(lat x.frm k).length<=1000000000/\(lat x.into k).length<=1000000000/\(lat x.ranges k).length<=1000000000/\(lat x.firms k).length<=1000000000):Tri prog 75 #[zp_ B.g 0,Fc.val f] Hs [gF B E,pF B pm A,aF B x A,uF B x A,oF B x A,iF B x A,rF B x A,sF B x A,E.ef] (λ_:{H':Hp // E.St (emits E.stp (gY_ pm f) nw) fm H'}=>.tuple #[]) (λy=>y.1) (λ_=>[]):=by
 refine g_ func75 rfl rfl ntmps75 rfl λS=>?_;refine Zz 2 ?_;refine F_ rfl rfl λH=>Zz 4 ?_
 refine s_ 0 [0,1,2,3,4,5,6,7,8,9] zk zs (Zz 6 ?_);refine S_ rfl (w_ et_ rfl rfl) rfl (S_ rfl (bi_ (k:=(Ky.mk 5 f.r [])) (adr:=A.p) hM_ bI_ bu_ rfl rfl zf) rfl (Zz 6 ?_));refine I_ (ι:={y:Nat×Hp // y.1<=List.length (lat pm (Ky.mk 5 f.r []))/\E.St (emits E.stp (List.map (λy=>ak_ f.a y.t f.b) (List.take y.1 (lat pm (Ky.mk 5 f.r [])))) nw) fm y.2}) (λy=>[(0,zp_ B.g 0),(3,zp_ H 0),(13,.slice (Prod.fst (A.p (Ky.mk 5 f.r []))) (lat pm (Ky.mk 5 f.r [])).length (Prod.snd (A.p (Ky.mk 5 f.r [])))),(14,i4_ (List.length (lat pm (Ky.mk 5 f.r [])):Int)),(15,i4_ y.1.1)]) (λy=>((H,.cells #[i4_ f.kind,str f.a,str f.b,str f.r,i4_ f.lo,i4_ f.hi] 87 (0,0))::y.1.2)) (λy=>[gF B E,pF B pm A,aF B x A,uF B x A,oF B x A,iF B x A,rF B x A,sF B x A,E.ef]) (λy=>List.length (lat pm (Ky.mk 5 f.r [])) - y.1.1) ⟨((0:Nat),Hs),by simp,by exact hS⟩ zl zp zh ?_;rintro ⟨⟨i,G⟩,I,m⟩;dsimp only at I m ⊢;have P:=O (Ky.mk 5 f.r []);refine Zi 2 (λK=>?_) λK=>?_
 .refine Zz 6 ?_
  exact bK_ results75 ⟨G,by unfold gY_;rw[yad_ zaa_]at m;exact m⟩ rfl E_ zt
 have C:i<List.length (lat pm (Ky.mk 5 f.r [])):=by omega
 obtain⟨d,F⟩:∃ M,(lat pm (Ky.mk 5 f.r []))[i]? = some M:=⟨_,yaa_ C⟩;refine Zz 10 ?_;refine e_ (Y_ z_ A_ rfl rfl (λv _ h=>az_ (n:=10) Pc.cells_len zac_ (by exact (bc_ h.2.1 (Ky.mk 5 f.r []))) F) zaa_ zak_) rfl ?_;refine e_ (ah_ (ad:=(Prod.fst (A.p (Ky.mk 5 f.r [])))) (us:=Pc.cells d) dy_ A_ rfl (λv _ h=>by exact (bc_ h.2.1 (Ky.mk 5 f.r []))) (Pc.cells_len _) (y_ Pc.cells_len F)) rfl (u_ O_ rfl λN=>n_ 0 A_ rfl rfl rfl rfl rfl rfl (Zz 2 ?_));refine V_ ((N,.cells #[i4_ d.kind,str d.a,str d.b,str d.c,str d.r,str d.s,str d.t,i4_ d.lo,i4_ d.hi,i4_ d.frm] 32 (0,0))::((H,.cells #[i4_ f.kind,str f.a,str f.b,str f.r,i4_ f.lo,i4_ f.hi] 87 (0,0))::[])) zk ?_;refine s_ 2 [0,1,2,3,4,5,6,7,8,9] zk zs (Zz 11 ?_);refine l_ 10 rfl zk (f_ (nw_ f.a d.t f.b) rfl i_ zt rfl λ_=>Zz 3 ?_);refine l_ 11 rfl zk (T_ (first:=[]) (cap:=E.caps) (E.emit (ak_ f.a d.t f.b) (emits E.stp (List.map (λy=>ak_ f.a y.t f.b) (List.take i (lat pm (Ky.mk 5 f.r [])))) nw) fm G m) rfl rfl (c_ E_) zf rfl λ⟨L,J⟩=>?_);dsimp only;refine Zz 10 ?_;exact C_ ⟨(i+1,L),C,(by rw[dr_ F,ay_];exact J)⟩ zab_ zl zp zh
theorem gZ_ {α β:Type} {g:α->List β} {l:List α} {i:Nat} {x:α} (h:l[i]? = some x):List.flatMap g (List.take (i+1) l)=List.flatMap g (l.take i)++g x:=by
  rw[yao_,h,yaC_,yaW_];simp
theorem pf_ {stp:Fc->List Fc->List Fc} {kof:List Fc->List Fc} {f:Fc} {l:List Pc} {i:Nat} {x:Pc} {s:List Fc} (h:l[i]? = some x):ee_ stp kof f (List.take (i+1) l) s=if Q_ f.a x.a∈kof (ee_ stp kof f (l.take i) s)/\Q_ f.a x.b∈kof (ee_ stp kof f (l.take i) s) then stp (Q_ f.a x.c) (ee_ stp kof f (l.take i) s) else ee_ stp kof f (l.take i) s:=by
  unfold ee_;rw[yao_,h,yaC_,ydn_];rfl
theorem mG_ {stp:Fc->List Fc->List Fc} {kof:List Fc->List Fc} {f:Fc} {l:List Pc} {i:Nat} {x:Pc} {s:List Fc×List Fc} (h:l[i]? = some x):bX_ stp kof f (List.take (i+1) l) s=(stp (ag_ f.a x.r x.lo x.hi) (bX_ stp kof f (l.take i) s).1,if ag_ f.a x.r x.lo x.hi∈kof (bX_ stp kof f (l.take i) s).1 then (bX_ stp kof f (l.take i) s).2 else ag_ f.a x.r x.lo x.hi::(bX_ stp kof f (l.take i) s).2):=by
  unfold bX_;rw[yao_,h,yaC_,ydn_];rfl
theorem lB_ {G:Prop} (h:G:=by
 exact C_ ⟨(i+1,G),C,(by rw[pf_ F];first|(rw[yaq_ ⟨by assumption,by assumption⟩];exact d)|(rw[yaf_ (λq=>absurd q.1 zae_)];exact d)|(rw[yaf_ (λq=>absurd q.2 zae_)];exact d))⟩ zab_ zl (m_ (c_ d_) E_) zh):G:=h
theorem both_c (B:EngB) (E:Emt prog 87) (A:EngA) (pm:List (Ky×Pc)) (x:Ix) (f:Fc) (nw fm:List Fc) (Hs:Hp) (hS:E.St nw fm Hs) (Q:∀ k,(lat pm k).length<=1000000000) (U:∀ k,(lat x.above k).length<=1000000000/\(lat x.under k).length<=1000000000) (V:∀ k,(lat x.frm k).length<=1000000000/\(lat x.into k).length<=1000000000/\(lat x.ranges k).length<=1000000000/\(lat x.firms k).length<=1000000000):Tri prog 70 #[zp_ B.g 0,Fc.val f] Hs [gF B E,pF B pm A,aF B x A,uF B x A,oF B x A,iF B x A,rF B x A,sF B x A,E.ef] (λ_:{H':Hp // E.St (ee_ E.stp E.kof f (lat pm (Ky.mk 2 [] f.b)) nw) fm H'}=>.tuple #[]) (λy=>y.1) (λ_=>[]):=by
 refine g_ func70 rfl rfl ntmps70 rfl λW=>?_;refine Zz 2 ?_;refine F_ rfl rfl λK=>Zz 4 ?_
 refine s_ 0 [0,1,2,3,4,5,6,7,8,9] zk zs (Zz 6 ?_);refine S_ rfl (w_ et_ rfl rfl) rfl (S_ rfl (bi_ (k:=(Ky.mk 2 [] f.b)) (adr:=A.p) hM_ bI_ bu_ rfl rfl zf) rfl (Zz 6 ?_));let Pu:Nat×Obj:=(K,.cells #[i4_ f.kind,str f.a,str f.b,str f.r,i4_ f.lo,i4_ f.hi] 87 (0,0));refine I_ (ι:={y:Nat×Hp // y.1<=List.length (lat pm (Ky.mk 2 [] f.b))/\E.St (ee_ E.stp E.kof f (List.take y.1 (lat pm (Ky.mk 2 [] f.b))) nw) fm y.2}) (λy=>[(0,zp_ B.g 0),(3,zp_ K 0),(13,.slice (Prod.fst (A.p (Ky.mk 2 [] f.b))) (lat pm (Ky.mk 2 [] f.b)).length (Prod.snd (A.p (Ky.mk 2 [] f.b)))),(14,i4_ (List.length (lat pm (Ky.mk 2 [] f.b)):Int)),(15,i4_ y.1.1)]) (λy=>(Pu::y.1.2)) (λy=>[gF B E,pF B pm A,aF B x A,uF B x A,oF B x A,iF B x A,rF B x A,sF B x A,E.ef]) (λy=>List.length (lat pm (Ky.mk 2 [] f.b)) - y.1.1) ⟨((0:Nat),Hs),by simp,by exact hS⟩ zl zp zh ?_;rintro ⟨⟨i,G⟩,L,d⟩;dsimp only at L d ⊢;have T:=Q (Ky.mk 2 [] f.b);refine Zi 2 (λM=>?_) λM=>?_
 .refine Zz 6 ?_
  exact bK_ results70 ⟨G,by rw[yad_ zaa_]at d;exact d⟩ rfl E_ zt
 have C:i<List.length (lat pm (Ky.mk 2 [] f.b)):=by omega
 obtain⟨m,F⟩:∃ O,(lat pm (Ky.mk 2 [] f.b))[i]? = some O:=⟨_,yaa_ C⟩;refine Zz 10 ?_;refine e_ (Y_ z_ A_ rfl rfl (λv _ h=>az_ (n:=10) Pc.cells_len zac_ (by exact (bc_ h.2.1 (Ky.mk 2 [] f.b))) F) zaa_ zak_) rfl ?_;refine e_ (ah_ (ad:=(Prod.fst (A.p (Ky.mk 2 [] f.b)))) (us:=Pc.cells m) dy_ A_ rfl (λv _ h=>by exact (bc_ h.2.1 (Ky.mk 2 [] f.b))) (Pc.cells_len _) (y_ Pc.cells_len F)) rfl (u_ O_ rfl λP=>n_ 0 A_ rfl rfl rfl rfl rfl rfl (Zz 4 ?_));refine s_ 14 [0,1,2,3,4,5,6,7] zk zs (Zz 9 ?_);refine l_ 8 rfl zk (f_ (fU_ f.a m.a) rfl i_ zt rfl λ_=>Zz 3 ?_);refine s_ 11 [9,10] zk zs (ef_ rfl (iI_ (f:=(Q_ f.a m.a)) d gy_ bj_ bO_ rfl rfl (c_ E_)) rfl λS I=>Zz 2 ?_);cases S
 .replace I:=zdf I
  refine s_ 0 [11,12,13,14,15,16,17,18,19,20,21] zk zs (Zz 22 ?_);exact lB_
 replace I:=zdt I;refine s_ 3 [11,12,13,14,15,16,17,18] zk zs (Zz 9 ?_);refine l_ 19 rfl zk (aP_ rfl rfl (f_ (fU_ f.a m.b) rfl i_ zt rfl λ_=>Zz 3 ?_));refine s_ 0 [20,21] zk zs (dq_ rfl rfl rfl (iI_ (f:=(Q_ f.a m.b)) d gy_ bj_ bO_ rfl rfl (c_ E_)) rfl λR H=>Zz 4 ?_);cases R
 .replace H:=zdf H
  refine Zz 8 ?_;exact lB_
 replace H:=zdt H;refine bG_ rfl ?_;refine V_ ((P,.cells #[i4_ m.kind,str m.a,str m.b,str m.c,str m.r,str m.s,str m.t,i4_ m.lo,i4_ m.hi,i4_ m.frm] 32 (0,0))::(Pu::[])) zk ?_;refine s_ 2 [0,1,2,3,4,5,6,7] zk zs (Zz 9 ?_);refine l_ 8 rfl zk (f_ (fU_ f.a m.c) rfl i_ zt rfl λ_=>Zz 3 ?_);refine l_ 9 rfl zk (T_ (first:=[]) (cap:=E.caps) (E.emit (Q_ f.a m.c) (ee_ E.stp E.kof f (List.take i (lat pm (Ky.mk 2 [] f.b))) nw) fm G d) rfl rfl (c_ E_) zf rfl λ⟨N,J⟩=>?_);dsimp only;refine Zz 10 ?_;exact C_ ⟨(i+1,N),C,(by rw[pf_ F];first|(rw[yaq_ ⟨by assumption,by assumption⟩];exact J)|(rw[yaf_ (λq=>absurd q.1 zae_)];exact J)|(rw[yaf_ (λq=>absurd q.2 zae_)];exact J))⟩ zab_ zl zp zh
theorem yN_ (B:EngB) (E:Emt prog 87) (A:EngA) (pm:List (Ky×Pc)) (x:Ix) (f:Fc) (nw fm:List Fc) (Hs:Hp) (hS:E.St nw fm Hs) (S:∀ k,(lat pm k).length<=1000000000) (V:∀ k,(lat x.above k).length<=1000000000/\(lat x.under k).length<=1000000000) (W:∀ k,(lat x.frm k).length<=1000000000/\(lat x.into k).length<=1000000000/\(lat x.ranges k).length<=1000000000/\(lat x.firms k).length<=1000000000):Tri prog 74 #[zp_ B.g 0,Fc.val f] Hs [gF B E,pF B pm A,aF B x A,uF B x A,oF B x A,iF B x A,rF B x A,sF B x A,E.ef] (λ_:{H':Hp // E.St (Prod.fst (bX_ E.stp E.kof f (lat pm (Ky.mk 8 [] f.b)) (nw,fm))) (Prod.snd (bX_ E.stp E.kof f (lat pm (Ky.mk 8 [] f.b)) (nw,fm))) H'}=>.tuple #[]) (λy=>y.1) (λ_=>[]):=by
 refine g_ func74 rfl rfl ntmps74 rfl λX=>?_;refine Zz 2 ?_;refine F_ rfl rfl λI=>Zz 4 ?_
 refine s_ 0 [0,1,2,3,4,5,6,7,8,9] zk zs (Zz 6 ?_);refine S_ rfl (w_ et_ rfl rfl) rfl (S_ rfl (bi_ (k:=(Ky.mk 8 [] f.b)) (adr:=A.p) hM_ bI_ bu_ rfl rfl zf) rfl (Zz 6 ?_));let Qu:Nat×Obj:=(I,.cells #[i4_ f.kind,str f.a,str f.b,str f.r,i4_ f.lo,i4_ f.hi] 87 (0,0));refine I_ (ι:={y:Nat×Hp // y.1<=List.length (lat pm (Ky.mk 8 [] f.b))/\E.St (Prod.fst (bX_ E.stp E.kof f (List.take y.1 (lat pm (Ky.mk 8 [] f.b))) (nw,fm))) (Prod.snd (bX_ E.stp E.kof f (List.take y.1 (lat pm (Ky.mk 8 [] f.b))) (nw,fm))) y.2}) (λy=>[(0,zp_ B.g 0),(3,zp_ I 0),(14,.slice (Prod.fst (A.p (Ky.mk 8 [] f.b))) (lat pm (Ky.mk 8 [] f.b)).length (Prod.snd (A.p (Ky.mk 8 [] f.b)))),(15,i4_ (List.length (lat pm (Ky.mk 8 [] f.b)):Int)),(16,i4_ y.1.1)]) (λy=>(Qu::y.1.2)) (λy=>[gF B E,pF B pm A,aF B x A,uF B x A,oF B x A,iF B x A,rF B x A,sF B x A,E.ef]) (λy=>List.length (lat pm (Ky.mk 8 [] f.b)) - y.1.1) ⟨((0:Nat),Hs),by simp,by exact hS⟩ zl zp zh ?_;rintro ⟨⟨i,K⟩,P,m⟩;dsimp only at P m ⊢;have U:=S (Ky.mk 8 [] f.b);refine Zi 2 (λQ=>?_) λQ=>?_
 .refine Zz 6 ?_
  exact bK_ results74 ⟨K,by rw[yad_ zaa_]at m;exact m⟩ rfl E_ zt
 have C:i<List.length (lat pm (Ky.mk 8 [] f.b)):=by omega
 obtain⟨d,G⟩:∃ R,(lat pm (Ky.mk 8 [] f.b))[i]? = some R:=⟨_,yaa_ C⟩;refine Zz 10 ?_;refine e_ (Y_ z_ A_ rfl rfl (λv _ h=>az_ (n:=10) Pc.cells_len zac_ (by exact (bc_ h.2.1 (Ky.mk 8 [] f.b))) G) zaa_ zak_) rfl ?_;refine e_ (ah_ (ad:=(Prod.fst (A.p (Ky.mk 8 [] f.b)))) (us:=Pc.cells d) dy_ A_ rfl (λv _ h=>by exact (bc_ h.2.1 (Ky.mk 8 [] f.b))) (Pc.cells_len _) (y_ Pc.cells_len G)) rfl (u_ O_ rfl λM=>n_ 0 A_ rfl rfl rfl rfl rfl rfl (Zz 12 ?_));refine f_ (mS_ f.a d.r d.lo d.hi) rfl i_ zt rfl λ_=>u_ W_ rfl λN=>n_ 0 N_ rfl rfl rfl rfl rfl rfl (Zz 5 ?_)
 refine s_ 0 [0,1,2,3,4,5,6] zk zs (Zz 5 ?_);refine ef_ rfl (iI_ (f:=(ag_ f.a d.r d.lo d.hi)) m gy_ bj_ bO_ rfl rfl (c_ (c_ E_))) rfl λT F=>S_ rfl (aH_ rfl) rfl (Zz 3 ?_)
 cases T
 .replace F:=zdf F
  refine bG_ rfl ?_;let Pu:Hp:=((N,.cells #[i4_ (Fc.kind (ag_ f.a d.r d.lo d.hi)),str (Fc.a (ag_ f.a d.r d.lo d.hi)),str (Fc.b (ag_ f.a d.r d.lo d.hi)),str (Fc.r (ag_ f.a d.r d.lo d.hi)),i4_ (Fc.lo (ag_ f.a d.r d.lo d.hi)),i4_ (Fc.hi (ag_ f.a d.r d.lo d.hi))] 87 (0,0))::((M,.cells #[i4_ d.kind,str d.a,str d.b,str d.c,str d.r,str d.s,str d.t,i4_ d.lo,i4_ d.hi,i4_ d.frm] 32 (0,0))::(Qu::[])));refine V_ Pu zk ?_;refine s_ 1 [0,1,2,3,4] zk zs (Zz 6 ?_);refine l_ 5 rfl zk (xc_ (f:=(ag_ f.a d.r d.lo d.hi)) m gy_ (.inr rfl) bj_ rfl rfl rfl (c_ (c_ E_)) λJ H=>Zz 5 ?_);refine V_ Pu zk ?_;refine s_ 1 [0,1,2,3,4] zk zs (Zz 6 ?_);refine l_ 5 rfl zk (T_ (first:=[]) (cap:=E.caps) (E.emit (ag_ f.a d.r d.lo d.hi) (Prod.fst (bX_ E.stp E.kof f (List.take i (lat pm (Ky.mk 8 [] f.b))) (nw,fm))) ((ag_ f.a d.r d.lo d.hi)::(Prod.snd (bX_ E.stp E.kof f (List.take i (lat pm (Ky.mk 8 [] f.b))) (nw,fm)))) J H) rfl rfl x_ zf rfl λ⟨O,L⟩=>?_);dsimp only;refine Zz 10 ?_;exact C_ ⟨(i+1,O),C,(by rw[mG_ G];dsimp only;first|(rw[yaq_ zae_];exact L)|(rw[yaf_ zae_];exact L))⟩ zab_ zl zp zh
 replace F:=zdt F;refine Zz 3 ?_;refine V_ ((N,.cells #[i4_ (Fc.kind (ag_ f.a d.r d.lo d.hi)),str (Fc.a (ag_ f.a d.r d.lo d.hi)),str (Fc.b (ag_ f.a d.r d.lo d.hi)),str (Fc.r (ag_ f.a d.r d.lo d.hi)),i4_ (Fc.lo (ag_ f.a d.r d.lo d.hi)),i4_ (Fc.hi (ag_ f.a d.r d.lo d.hi))] 87 (0,0))::((M,.cells #[i4_ d.kind,str d.a,str d.b,str d.c,str d.r,str d.s,str d.t,i4_ d.lo,i4_ d.hi,i4_ d.frm] 32 (0,0))::(Qu::[]))) zk ?_;refine s_ 1 [0,1,2,3,4] zk zs (Zz 6 ?_);refine l_ 5 rfl zk (T_ (first:=[]) (cap:=E.caps) (E.emit (ag_ f.a d.r d.lo d.hi) (Prod.fst (bX_ E.stp E.kof f (List.take i (lat pm (Ky.mk 8 [] f.b))) (nw,fm))) (Prod.snd (bX_ E.stp E.kof f (List.take i (lat pm (Ky.mk 8 [] f.b))) (nw,fm))) K m) rfl rfl (c_ (c_ E_)) zf rfl λ⟨J,H⟩=>?_);dsimp only;refine Zz 10 ?_;exact C_ ⟨(i+1,J),C,(by rw[mG_ G];dsimp only;first|(rw[yaq_ zae_];exact H)|(rw[yaf_ zae_];exact H))⟩ zab_ zl zp zh
theorem te_ (B:EngB) (E:Emt prog 87) (A:EngA) (pm:List (Ky×Pc)) (x:Ix) (f:Fc) (nw fm:List Fc) (Hs:Hp) (hS:E.St nw fm Hs) (V:∀ k,(lat pm k).length<=1000000000) (a0:∀ k,(lat x.above k).length<=1000000000/\(lat x.under k).length<=1000000000) (W:∀ k,(lat x.frm k).length<=1000000000/\(lat x.into k).length<=1000000000/\(lat x.ranges k).length<=1000000000/\(lat x.firms k).length<=1000000000):Tri prog 72 #[zp_ B.g 0,Fc.val f] Hs [gF B E,pF B pm A,aF B x A,uF B x A,oF B x A,iF B x A,rF B x A,sF B x A,E.ef] (λ_:{H':Hp // E.St (emits E.stp (fN_ pm x f) nw) fm H'}=>.tuple #[]) (λy=>y.1) (λ_=>[]):=by
 refine g_ func72 rfl rfl ntmps72 rfl λa1=>?_;refine Zz 2 ?_;refine F_ rfl rfl λJ=>Zz 4 ?_
 refine s_ 0 [0,1,2,3,4,5,6,7,8,9] zk zs (Zz 6 ?_);refine S_ rfl (w_ et_ rfl rfl) rfl (S_ rfl (bi_ (k:=(Ky.mk 4 [] f.b)) (adr:=A.p) hM_ bI_ bu_ rfl rfl zf) rfl (Zz 6 ?_));let Pu:Nat×Obj:=(J,.cells #[i4_ f.kind,str f.a,str f.b,str f.r,i4_ f.lo,i4_ f.hi] 87 (0,0));refine I_ (ι:={y:Nat×Hp // y.1<=List.length (lat pm (Ky.mk 4 [] f.b))/\E.St (emits E.stp (List.flatMap (λy=>List.map (λa=>Q_ a y.c) (lat x.into (Fc.a f,Pc.r y))) (List.take y.1 (lat pm (Ky.mk 4 [] f.b)))) nw) fm y.2}) (λy=>[(0,zp_ B.g 0),(3,zp_ J 0),(15,.slice (Prod.fst (A.p (Ky.mk 4 [] f.b))) (lat pm (Ky.mk 4 [] f.b)).length (Prod.snd (A.p (Ky.mk 4 [] f.b)))),(16,i4_ (List.length (lat pm (Ky.mk 4 [] f.b)):Int)),(17,i4_ y.1.1)]) (λy=>(Pu::y.1.2)) (λy=>[gF B E,pF B pm A,aF B x A,uF B x A,oF B x A,iF B x A,rF B x A,sF B x A,E.ef]) (λy=>List.length (lat pm (Ky.mk 4 [] f.b)) - y.1.1) ⟨((0:Nat),Hs),by simp,by exact hS⟩ zl zp zh ?_;rintro ⟨⟨i,K⟩,O,m⟩;dsimp only at O m ⊢;have Z:=V (Ky.mk 4 [] f.b);refine Zi 2 (λS=>?_) λS=>?_
 .refine Zz 6 ?_
  exact bK_ results72 ⟨K,by unfold fN_;rw[yad_ zaa_]at m;exact m⟩ rfl E_ zt
 have H:i<List.length (lat pm (Ky.mk 4 [] f.b)):=by omega
 obtain⟨d,I⟩:∃ M,(lat pm (Ky.mk 4 [] f.b))[i]? = some M:=⟨_,yaa_ H⟩;refine Zz 10 ?_;refine e_ (Y_ z_ A_ rfl rfl (λv _ h=>az_ (n:=10) Pc.cells_len zac_ (by exact (bc_ h.2.1 (Ky.mk 4 [] f.b))) I) zaa_ zak_) rfl ?_;refine e_ (ah_ (ad:=(Prod.fst (A.p (Ky.mk 4 [] f.b)))) (us:=Pc.cells d) dy_ A_ rfl (λv _ h=>by exact (bc_ h.2.1 (Ky.mk 4 [] f.b))) (Pc.cells_len _) (y_ Pc.cells_len I)) rfl (u_ O_ rfl λN=>n_ 0 A_ rfl rfl rfl rfl rfl rfl (Zz 4 ?_));refine s_ 0 [0,1,2,3,4,5,6,7,8,9,10,11] zk zs (Zz 8 ?_);refine S_ rfl (w_ hp_ rfl rfl) rfl (S_ rfl (bi_ (k:=(f.a,d.r)) (adr:=A.i) dz_ fW_ ca_ rfl rfl zf) rfl (Zz 6 ?_));let Qu:Nat×Obj:=(N,.cells #[i4_ d.kind,str d.a,str d.b,str d.c,str d.r,str d.s,str d.t,i4_ d.lo,i4_ d.hi,i4_ d.frm] 32 (0,0));refine I_ (ι:={y:Nat×Hp // y.1<=List.length (lat x.into (f.a,d.r))/\E.St (emits E.stp (List.map (λa=>Q_ a d.c) (List.take y.1 (lat x.into (f.a,d.r)))) (emits E.stp (List.flatMap (λy=>List.map (λa=>Q_ a y.c) (lat x.into (Fc.a f,Pc.r y))) (List.take i (lat pm (Ky.mk 4 [] f.b)))) nw)) fm y.2}) (λy=>[(0,zp_ B.g 0),(3,zp_ J 0),(15,.slice (Prod.fst (A.p (Ky.mk 4 [] f.b))) (lat pm (Ky.mk 4 [] f.b)).length (Prod.snd (A.p (Ky.mk 4 [] f.b)))),(16,i4_ (List.length (lat pm (Ky.mk 4 [] f.b)):Int)),(17,i4_ i),(5,zp_ N 0),(30,.slice (Prod.fst (A.i (f.a,d.r))) (lat x.into (f.a,d.r)).length (Prod.snd (A.i (f.a,d.r)))),(31,i4_ (List.length (lat x.into (f.a,d.r)):Int)),(32,i4_ y.1.1)]) (λy=>(Qu::(Pu::y.1.2))) (λy=>[gF B E,pF B pm A,aF B x A,uF B x A,oF B x A,iF B x A,rF B x A,sF B x A,E.ef]) (λy=>List.length (lat x.into (f.a,d.r)) - y.1.1) ⟨((0:Nat),K),by simp,by exact m⟩ zl zp zh ?_;rintro ⟨⟨j,L⟩,R,C⟩;dsimp only at R C ⊢;have Y:=(W (f.a,d.r)).2.1;refine Zi 2 (λT=>?_) λT=>?_
 .refine Zz 11 ?_
  exact C_ ⟨(i+1,L),H,(by rw[gZ_ I,ay_];have X:List.take j (lat x.into (Fc.a f,Pc.r d))=(lat x.into (Fc.a f,Pc.r d)):=yad_ zaa_;rw[X]at C;exact C)⟩ zab_ zl (m_ (c_ d_) E_) zh
 have F:j<List.length (lat x.into (f.a,d.r)):=by omega
 obtain⟨Q,G⟩:∃ M,(lat x.into (f.a,d.r))[j]? = some M:=⟨_,yaa_ F⟩;refine Zz 10 ?_;refine e_ (Y_ B_ U_ rfl rfl (λv _ h=>az_ (n:=1) aO_ zac_ (by exact (bc_ h.2.2.2.2.2.1 (f.a,d.r))) G) zaa_ zak_) rfl ?_;refine e_ (bN_ (ad:=(Prod.fst (A.i (f.a,d.r)))) ae_ rfl (λv _ h=>by exact (bc_ h.2.2.2.2.2.1 (f.a,d.r))) (y_ aO_ G 0 _ rfl)) rfl (Zz 3 ?_);refine V_ (Qu::(Pu::[])) zk ?_;refine s_ 2 [0,1,2,3,4,5,6] zk zs (Zz 8 ?_);refine l_ 7 rfl zk (f_ (fU_ Q d.c) rfl i_ zt rfl λ_=>Zz 3 ?_);refine l_ 8 rfl zk (T_ (first:=[]) (cap:=E.caps) (E.emit (Q_ Q d.c) (emits E.stp (List.map (λa=>Q_ a d.c) (List.take j (lat x.into (f.a,d.r)))) (emits E.stp (List.flatMap (λy=>List.map (λa=>Q_ a y.c) (lat x.into (Fc.a f,Pc.r y))) (List.take i (lat pm (Ky.mk 4 [] f.b)))) nw)) fm L C) rfl rfl zp zf rfl λ⟨U,P⟩=>?_);dsimp only;refine Zz 10 ?_;exact C_ ⟨(j+1,U),F,(by rw[dr_ G,ay_];exact P)⟩ zab_ zl zp zh
theorem td_ (B:EngB) (E:Emt prog 87) (A:EngA) (pm:List (Ky×Pc)) (x:Ix) (f:Fc) (nw fm:List Fc) (Hs:Hp) (hS:E.St nw fm Hs) (W:∀ k,(lat pm k).length<=1000000000) (U:∀ k,(lat x.above k).length<=1000000000/\(lat x.under k).length<=1000000000) (a0:∀ k,(lat x.frm k).length<=1000000000/\(lat x.into k).length<=1000000000/\(lat x.ranges k).length<=1000000000/\(lat x.firms k).length<=1000000000):Tri prog 77 #[zp_ B.g 0,Fc.val f] Hs [gF B E,pF B pm A,aF B x A,uF B x A,oF B x A,iF B x A,rF B x A,sF B x A,E.ef] (λ_:{H':Hp // E.St (emits E.stp (fM_ pm x f) nw) fm H'}=>.tuple #[]) (λy=>y.1) (λ_=>[]):=by
 refine g_ func77 rfl rfl ntmps77 rfl λa1=>?_;refine Zz 2 ?_;refine F_ rfl rfl λK=>Zz 4 ?_
 refine s_ 0 [0,1,2,3,4,5,6,7,8] zk zs (Zz 6 ?_);refine S_ rfl (bi_ (k:=f.b) (adr:=A.a) hR_ db_ ca_ rfl rfl zf) rfl (Zz 6 ?_);let Pu:Nat×Obj:=(K,.cells #[i4_ f.kind,str f.a,str f.b,str f.r,i4_ f.lo,i4_ f.hi] 87 (0,0));refine I_ (ι:={y:Nat×Hp // y.1<=List.length (lat x.above f.b)/\E.St (emits E.stp (List.flatMap (λy=>List.map (λa=>Q_ f.a a.c) (lat pm (Ky.mk 4 f.r y))) (List.take y.1 (lat x.above f.b))) nw) fm y.2}) (λy=>[(0,zp_ B.g 0),(3,zp_ K 0),(14,.slice (A.a f.b).1 (lat x.above f.b).length (A.a f.b).2),(15,i4_ (List.length (lat x.above f.b):Int)),(16,i4_ y.1.1)]) (λy=>(Pu::y.1.2)) (λy=>[gF B E,pF B pm A,aF B x A,uF B x A,oF B x A,iF B x A,rF B x A,sF B x A,E.ef]) (λy=>List.length (lat x.above f.b) - y.1.1) ⟨((0:Nat),Hs),by simp,by exact hS⟩ zl zp zh ?_;rintro ⟨⟨i,L⟩,O,C⟩;dsimp only at O C ⊢;have Z:=(U f.b).1;refine Zi 2 (λR=>?_) λR=>?_
 .refine Zz 6 ?_
  exact bK_ results77 ⟨L,by unfold fM_;rw[yad_ zaa_]at C;exact C⟩ rfl E_ zt
 have I:i<List.length (lat x.above f.b):=by omega
 obtain⟨d,J⟩:∃ N,(lat x.above f.b)[i]? = some N:=⟨_,yaa_ I⟩;refine Zz 10 ?_;refine e_ (Y_ B_ U_ rfl rfl (λv _ h=>az_ (n:=1) aO_ zac_ (by exact (bc_ h.2.2.1 f.b)) J) zaa_ zak_) rfl ?_;refine e_ (bN_ (ad:=(A.a f.b).1) ae_ rfl (λv _ h=>by exact (bc_ h.2.2.1 f.b)) (y_ aO_ J 0 _ rfl)) rfl (Zz 5 ?_);refine s_ 0 [0,1,2,3,4,5,6,7,8,9,10] zk zs (Zz 7 ?_);refine S_ rfl (w_ et_ rfl rfl) rfl (S_ rfl (bi_ (k:=(Ky.mk 4 f.r d)) (adr:=A.p) hM_ bI_ bu_ rfl rfl zf) rfl (Zz 6 ?_));refine I_ (ι:={y:Nat×Hp // y.1<=List.length (lat pm (Ky.mk 4 f.r d))/\E.St (emits E.stp (List.map (λa=>Q_ f.a a.c) (List.take y.1 (lat pm (Ky.mk 4 f.r d)))) (emits E.stp (List.flatMap (λy=>List.map (λa=>Q_ f.a a.c) (lat pm (Ky.mk 4 f.r y))) (List.take i (lat x.above f.b))) nw)) fm y.2}) (λy=>[(0,zp_ B.g 0),(3,zp_ K 0),(14,.slice (A.a f.b).1 (lat x.above f.b).length (A.a f.b).2),(15,i4_ (List.length (lat x.above f.b):Int)),(16,i4_ i),(28,.slice (Prod.fst (A.p (Ky.mk 4 f.r d))) (lat pm (Ky.mk 4 f.r d)).length (Prod.snd (A.p (Ky.mk 4 f.r d)))),(29,i4_ (List.length (lat pm (Ky.mk 4 f.r d)):Int)),(30,i4_ y.1.1)]) (λy=>(Pu::y.1.2)) (λy=>[gF B E,pF B pm A,aF B x A,uF B x A,oF B x A,iF B x A,rF B x A,sF B x A,E.ef]) (λy=>List.length (lat pm (Ky.mk 4 f.r d)) - y.1.1) ⟨((0:Nat),L),by simp,by exact C⟩ zl zp zh ?_;rintro ⟨⟨j,M⟩,Q,F⟩;dsimp only at Q F ⊢;have Y:=W (Ky.mk 4 f.r d);refine Zi 2 (λS=>?_) λS=>?_
 .refine Zz 11 ?_
  exact C_ ⟨(i+1,M),I,(by rw[gZ_ J,ay_];have X:List.take j (lat pm (Ky.mk 4 f.r d))=(lat pm (Ky.mk 4 f.r d)):=yad_ zaa_;rw[X]at F;exact F)⟩ zab_ zl (m_ d_ af_) zh
 have G:j<List.length (lat pm (Ky.mk 4 f.r d)):=by omega
 obtain⟨m,H⟩:∃ N,(lat pm (Ky.mk 4 f.r d))[j]? = some N:=⟨_,yaa_ G⟩;refine Zz 10 ?_;refine e_ (Y_ z_ A_ rfl rfl (λv _ h=>az_ (n:=10) Pc.cells_len zac_ (by exact (bc_ h.2.1 (Ky.mk 4 f.r d))) H) zaa_ zak_) rfl ?_;refine e_ (ah_ (ad:=(Prod.fst (A.p (Ky.mk 4 f.r d)))) (us:=Pc.cells m) dy_ A_ rfl (λv _ h=>by exact (bc_ h.2.1 (Ky.mk 4 f.r d))) (Pc.cells_len _) (y_ Pc.cells_len H)) rfl (u_ O_ rfl λV=>n_ 0 A_ rfl rfl rfl rfl rfl rfl (Zz 2 ?_));refine V_ ((V,.cells #[i4_ m.kind,str m.a,str m.b,str m.c,str m.r,str m.s,str m.t,i4_ m.lo,i4_ m.hi,i4_ m.frm] 32 (0,0))::(Pu::[])) zk ?_;refine s_ 2 [0,1,2,3,4,5,6,7] zk zs (Zz 9 ?_);refine l_ 8 rfl zk (f_ (fU_ f.a m.c) rfl i_ zt rfl λ_=>Zz 3 ?_);refine l_ 9 rfl zk (T_ (first:=[]) (cap:=E.caps) (E.emit (Q_ f.a m.c) (emits E.stp (List.map (λa=>Q_ f.a a.c) (List.take j (lat pm (Ky.mk 4 f.r d)))) (emits E.stp (List.flatMap (λy=>List.map (λa=>Q_ f.a a.c) (lat pm (Ky.mk 4 f.r y))) (List.take i (lat x.above f.b))) nw)) fm M F) rfl rfl (c_ E_) zf rfl λ⟨T,P⟩=>?_);dsimp only;refine Zz 10 ?_;exact C_ ⟨(j+1,T),G,(by rw[dr_ H,ay_];exact P)⟩ zab_ zl zp zh
theorem Av_ (B:EngB) (E:Emt prog 87) (A:EngA) (pm:List (Ky×Pc)) (x:Ix) (f:Fc) (nw fm:List Fc) (Hs:Hp) (hS:E.St nw fm Hs) (Y:∀ k,(lat pm k).length<=1000000000) (a9:∀ k,(lat x.above k).length<=1000000000/\(lat x.under k).length<=1000000000) (Z:∀ k,(lat x.frm k).length<=1000000000/\(lat x.into k).length<=1000000000/\(lat x.ranges k).length<=1000000000/\(lat x.firms k).length<=1000000000):Tri prog 76 #[zp_ B.g 0,Fc.val f] Hs [gF B E,pF B pm A,aF B x A,uF B x A,oF B x A,iF B x A,rF B x A,sF B x A,E.ef] (λ_:{H':Hp // E.St (emits E.stp (fG_ pm x f++hJ_ pm x f) nw) fm H'}=>.tuple #[]) (λy=>y.1) (λ_=>[]):=by
 refine g_ func76 rfl rfl ntmps76 rfl λb0=>?_;refine Zz 2 ?_;refine F_ rfl rfl λH=>Zz 5 ?_
 refine s_ 0 [0,1,2,3,4,5,6,7,8,9] zk zs (Zz 6 ?_);refine S_ rfl (w_ et_ rfl rfl) rfl (S_ rfl (bi_ (k:=(Ky.mk 6 f.r [])) (adr:=A.p) hM_ bI_ bu_ rfl rfl zf) rfl (Zz 6 ?_));let Pu:Nat×Obj:=(H,.cells #[i4_ f.kind,str f.a,str f.b,str f.r,i4_ f.lo,i4_ f.hi] 87 (0,0));refine I_ (ι:={y:Nat×Hp // y.1<=List.length (lat pm (Ky.mk 6 f.r []))/\E.St (emits E.stp (List.flatMap (λy=>List.map (λa=>ak_ f.a y.t a) (lat x.frm (Fc.b f,Pc.s y))) (List.take y.1 (lat pm (Ky.mk 6 f.r [])))) nw) fm y.2}) (λy=>[(0,zp_ B.g 0),(3,zp_ H 0),(19,.slice (Prod.fst (A.p (Ky.mk 6 f.r []))) (lat pm (Ky.mk 6 f.r [])).length (Prod.snd (A.p (Ky.mk 6 f.r [])))),(20,i4_ (List.length (lat pm (Ky.mk 6 f.r [])):Int)),(21,i4_ y.1.1)]) (λy=>(Pu::y.1.2)) (λy=>[gF B E,pF B pm A,aF B x A,uF B x A,oF B x A,iF B x A,rF B x A,sF B x A,E.ef]) (λy=>List.length (lat pm (Ky.mk 6 f.r [])) - y.1.1) ⟨((0:Nat),Hs),by simp,by exact hS⟩ zl zp zh ?_;rintro ⟨⟨i,V⟩,a1,N⟩;dsimp only at a1 N ⊢;have a7:=Y (Ky.mk 6 f.r []);refine Zi 2 (λa4=>?_) λa4=>?_
 .refine Zz 8 ?_
  refine s_ 0 [0,1,2,3,4,5,6,7,8,9] zk zs (Zz 6 ?_);refine S_ rfl (w_ et_ rfl rfl) rfl (S_ rfl (bi_ (k:=(Ky.mk 6 [] f.r)) (adr:=A.p) hM_ bI_ bu_ rfl rfl zf) rfl (Zz 6 ?_));refine I_ (ι:={y:Nat×Hp // y.1<=List.length (lat pm (Ky.mk 6 [] f.r))/\E.St (emits E.stp (List.flatMap (λy=>List.map (λa=>ak_ a y.t f.b) (lat x.into (Fc.a f,Pc.r y))) (List.take y.1 (lat pm (Ky.mk 6 [] f.r)))) (emits E.stp (fG_ pm x f) nw)) fm y.2}) (λy=>[(0,zp_ B.g 0),(3,zp_ H 0),(19,.slice (Prod.fst (A.p (Ky.mk 6 f.r []))) (lat pm (Ky.mk 6 f.r [])).length (Prod.snd (A.p (Ky.mk 6 f.r [])))),(20,i4_ (List.length (lat pm (Ky.mk 6 f.r [])):Int)),(21,i4_ i),(60,.slice (Prod.fst (A.p (Ky.mk 6 [] f.r))) (lat pm (Ky.mk 6 [] f.r)).length (Prod.snd (A.p (Ky.mk 6 [] f.r)))),(61,i4_ (List.length (lat pm (Ky.mk 6 [] f.r)):Int)),(62,i4_ y.1.1)]) (λy=>(Pu::y.1.2)) (λy=>[gF B E,pF B pm A,aF B x A,uF B x A,oF B x A,iF B x A,rF B x A,sF B x A,E.ef]) (λy=>List.length (lat pm (Ky.mk 6 [] f.r)) - y.1.1) ⟨((0:Nat),V),by simp,by have I:List.take i (lat pm (Ky.mk 6 f.r []))=(lat pm (Ky.mk 6 f.r [])):=yad_ zaa_;rw[I]at N;exact N⟩ zl (m_ d_ af_) zh ?_;rintro ⟨⟨k,U⟩,a0,M⟩;dsimp only at a0 M ⊢;have a6:=Y (Ky.mk 6 [] f.r);refine Zi 2 (λR=>?_) λR=>?_
  .refine Zz 6 ?_
   exact bK_ results76 ⟨U,by rw[ay_];unfold hJ_;have K:List.take k (lat pm (Ky.mk 6 [] f.r))=lat pm (Ky.mk 6 [] f.r):=yad_ zaa_;rw[K]at M;exact M⟩ rfl E_ zt
  have F:k<List.length (lat pm (Ky.mk 6 [] f.r)):=by omega
  obtain⟨d,G⟩:∃ K,(lat pm (Ky.mk 6 [] f.r))[k]? = some K:=⟨_,yaa_ F⟩;refine Zz 10 ?_;refine e_ (Y_ z_ A_ rfl rfl (λv _ h=>az_ (n:=10) Pc.cells_len zac_ (by exact (bc_ h.2.1 (Ky.mk 6 [] f.r))) G) zaa_ zak_) rfl ?_;refine e_ (ah_ (ad:=(Prod.fst (A.p (Ky.mk 6 [] f.r)))) (us:=Pc.cells d) dy_ A_ rfl (λv _ h=>by exact (bc_ h.2.1 (Ky.mk 6 [] f.r))) (Pc.cells_len _) (y_ Pc.cells_len G)) rfl (u_ O_ rfl λJ=>n_ 0 A_ rfl rfl rfl rfl rfl rfl (Zz 4 ?_));refine s_ 0 [0,1,2,3,4,5,6,7,8,9,10,11] zk zs (Zz 8 ?_);refine S_ rfl (w_ hp_ rfl rfl) rfl (S_ rfl (bi_ (k:=(f.a,d.r)) (adr:=A.i) dz_ fW_ ca_ rfl rfl zf) rfl (Zz 6 ?_));let Qu:Nat×Obj:=(J,.cells #[i4_ d.kind,str d.a,str d.b,str d.c,str d.r,str d.s,str d.t,i4_ d.lo,i4_ d.hi,i4_ d.frm] 32 (0,0));refine I_ (ι:={y:Nat×Hp // y.1<=List.length (lat x.into (f.a,d.r))/\E.St (emits E.stp (List.map (λa=>ak_ a d.t f.b) (List.take y.1 (lat x.into (f.a,d.r)))) (emits E.stp (List.flatMap (λy=>List.map (λa=>ak_ a y.t f.b) (lat x.into (Fc.a f,Pc.r y))) (List.take k (lat pm (Ky.mk 6 [] f.r)))) (emits E.stp (fG_ pm x f) nw))) fm y.2}) (λy=>[(0,zp_ B.g 0),(3,zp_ H 0),(19,.slice (Prod.fst (A.p (Ky.mk 6 f.r []))) (lat pm (Ky.mk 6 f.r [])).length (Prod.snd (A.p (Ky.mk 6 f.r [])))),(20,i4_ (List.length (lat pm (Ky.mk 6 f.r [])):Int)),(21,i4_ i),(60,.slice (Prod.fst (A.p (Ky.mk 6 [] f.r))) (lat pm (Ky.mk 6 [] f.r)).length (Prod.snd (A.p (Ky.mk 6 [] f.r)))),(61,i4_ (List.length (lat pm (Ky.mk 6 [] f.r)):Int)),(62,i4_ k),(9,zp_ J 0),(75,.slice (Prod.fst (A.i (f.a,d.r))) (lat x.into (f.a,d.r)).length (Prod.snd (A.i (f.a,d.r)))),(76,i4_ (List.length (lat x.into (f.a,d.r)):Int)),(77,i4_ y.1.1)]) (λy=>(Qu::(Pu::y.1.2))) (λy=>[gF B E,pF B pm A,aF B x A,uF B x A,oF B x A,iF B x A,rF B x A,sF B x A,E.ef]) (λy=>List.length (lat x.into (f.a,d.r)) - y.1.1) ⟨((0:Nat),U),by simp,by exact M⟩ zl zp zh ?_;rintro ⟨⟨l,T⟩,X,L⟩;dsimp only at X L ⊢;have a8:=(Z (f.a,d.r)).2.1;refine Zi 2 (λa2=>?_) λa2=>?_
  .refine Zz 11 ?_
   exact C_ ⟨(k+1,T),F,(by rw[gZ_ G,ay_];have I:List.take l (lat x.into (Fc.a f,Pc.r d))=(lat x.into (Fc.a f,Pc.r d)):=yad_ zaa_;rw[I]at L;exact L)⟩ zab_ zl (m_ (c_ d_) E_) zh
  have m:l<List.length (lat x.into (f.a,d.r)):=by omega
  obtain⟨Q,C⟩:∃ K,(lat x.into (f.a,d.r))[l]? = some K:=⟨_,yaa_ m⟩;refine Zz 10 ?_;refine e_ (Y_ B_ U_ rfl rfl (λv _ h=>az_ (n:=1) aO_ zac_ (by exact (bc_ h.2.2.2.2.2.1 (f.a,d.r))) C) zaa_ zak_) rfl ?_;refine e_ (bN_ (ad:=(Prod.fst (A.i (f.a,d.r)))) ae_ rfl (λv _ h=>by exact (bc_ h.2.2.2.2.2.1 (f.a,d.r))) (y_ aO_ C 0 _ rfl)) rfl (Zz 3 ?_);refine V_ (Qu::(Pu::[])) zk ?_;refine s_ 2 [0,1,2,3,4,5,6,7,8] zk zs (Zz 10 ?_);refine l_ 9 rfl zk (f_ (nw_ Q d.t f.b) rfl i_ zt rfl λ_=>Zz 3 ?_);refine l_ 10 rfl zk (T_ (first:=[]) (cap:=E.caps) (E.emit (ak_ Q d.t f.b) (emits E.stp (List.map (λa=>ak_ a d.t f.b) (List.take l (lat x.into (f.a,d.r)))) (emits E.stp (List.flatMap (λy=>List.map (λa=>ak_ a y.t f.b) (lat x.into (Fc.a f,Pc.r y))) (List.take k (lat pm (Ky.mk 6 [] f.r)))) (emits E.stp (fG_ pm x f) nw))) fm T L) rfl rfl zp zf rfl λ⟨S,P⟩=>?_);dsimp only;refine Zz 10 ?_;exact C_ ⟨(l+1,S),m,(by rw[dr_ C,ay_];exact P)⟩ zab_ zl zp zh
 have F:i<List.length (lat pm (Ky.mk 6 f.r [])):=by omega
 obtain⟨d,G⟩:∃ I,(lat pm (Ky.mk 6 f.r []))[i]? = some I:=⟨_,yaa_ F⟩;refine Zz 10 ?_;refine e_ (Y_ z_ A_ rfl rfl (λv _ h=>az_ (n:=10) Pc.cells_len zac_ (by exact (bc_ h.2.1 (Ky.mk 6 f.r []))) G) zaa_ zak_) rfl ?_;refine e_ (ah_ (ad:=(Prod.fst (A.p (Ky.mk 6 f.r [])))) (us:=Pc.cells d) dy_ A_ rfl (λv _ h=>by exact (bc_ h.2.1 (Ky.mk 6 f.r []))) (Pc.cells_len _) (y_ Pc.cells_len G)) rfl (u_ O_ rfl λJ=>n_ 0 A_ rfl rfl rfl rfl rfl rfl (Zz 4 ?_));refine s_ 0 [0,1,2,3,4,5,6,7,8,9,10,11] zk zs (Zz 8 ?_);refine S_ rfl (w_ hp_ rfl rfl) rfl (S_ rfl (bi_ (k:=(f.b,d.s)) (adr:=A.o) dz_ fW_ ca_ rfl rfl zf) rfl (Zz 6 ?_));refine I_ (ι:={y:Nat×Hp // y.1<=List.length (lat x.frm (f.b,d.s))/\E.St (emits E.stp (List.map (λa=>ak_ f.a d.t a) (List.take y.1 (lat x.frm (f.b,d.s)))) (emits E.stp (List.flatMap (λy=>List.map (λa=>ak_ f.a y.t a) (lat x.frm (Fc.b f,Pc.s y))) (List.take i (lat pm (Ky.mk 6 f.r [])))) nw)) fm y.2}) (λy=>[(0,zp_ B.g 0),(3,zp_ H 0),(19,.slice (Prod.fst (A.p (Ky.mk 6 f.r []))) (lat pm (Ky.mk 6 f.r [])).length (Prod.snd (A.p (Ky.mk 6 f.r [])))),(20,i4_ (List.length (lat pm (Ky.mk 6 f.r [])):Int)),(21,i4_ i),(5,zp_ J 0),(34,.slice (Prod.fst (A.o (f.b,d.s))) (lat x.frm (f.b,d.s)).length (Prod.snd (A.o (f.b,d.s)))),(35,i4_ (List.length (lat x.frm (f.b,d.s)):Int)),(36,i4_ y.1.1)]) (λy=>((J,.cells #[i4_ d.kind,str d.a,str d.b,str d.c,str d.r,str d.s,str d.t,i4_ d.lo,i4_ d.hi,i4_ d.frm] 32 (0,0))::(Pu::y.1.2))) (λy=>[gF B E,pF B pm A,aF B x A,uF B x A,oF B x A,iF B x A,rF B x A,sF B x A,E.ef]) (λy=>List.length (lat x.frm (f.b,d.s)) - y.1.1) ⟨((0:Nat),V),by simp,by exact N⟩ zl zp zh ?_;rintro ⟨⟨j,W⟩,a3,O⟩;dsimp only at a3 O ⊢;have a5:=(Z (f.b,d.s)).1;refine Zi 2 (λR=>?_) λR=>?_
 .refine Zz 11 ?_
  exact C_ ⟨(i+1,W),F,(by rw[gZ_ G,ay_];have K:List.take j (lat x.frm (Fc.b f,Pc.s d))=(lat x.frm (Fc.b f,Pc.s d)):=yad_ zaa_;rw[K]at O;exact O)⟩ zab_ zl (m_ (c_ d_) E_) zh
 have m:j<List.length (lat x.frm (f.b,d.s)):=by omega
 obtain⟨Q,C⟩:∃ I,(lat x.frm (f.b,d.s))[j]? = some I:=⟨_,yaa_ m⟩;refine Zz 10 ?_;refine e_ (Y_ B_ U_ rfl rfl (λv _ h=>az_ (n:=1) aO_ zac_ (by exact (bc_ h.2.2.2.2.1 (f.b,d.s))) C) zaa_ zak_) rfl ?_;refine e_ (bN_ (ad:=(Prod.fst (A.o (f.b,d.s)))) ae_ rfl (λv _ h=>by exact (bc_ h.2.2.2.2.1 (f.b,d.s))) (y_ aO_ C 0 _ rfl)) rfl (Zz 3 ?_);refine V_ ((J,.cells #[i4_ d.kind,str d.a,str d.b,str d.c,str d.r,str d.s,str d.t,i4_ d.lo,i4_ d.hi,i4_ d.frm] 32 (0,0))::(Pu::[])) zk ?_;refine s_ 2 [0,1,2,3,4,5,6,7,8] zk zs (Zz 10 ?_);refine l_ 9 rfl zk (f_ (nw_ f.a d.t Q) rfl i_ zt rfl λ_=>Zz 3 ?_);refine l_ 10 rfl zk (T_ (first:=[]) (cap:=E.caps) (E.emit (ak_ f.a d.t Q) (emits E.stp (List.map (λa=>ak_ f.a d.t a) (List.take j (lat x.frm (f.b,d.s)))) (emits E.stp (List.flatMap (λy=>List.map (λa=>ak_ f.a y.t a) (lat x.frm (Fc.b f,Pc.s y))) (List.take i (lat pm (Ky.mk 6 f.r [])))) nw)) fm W O) rfl rfl zp zf rfl λ⟨S,P⟩=>?_);dsimp only;refine Zz 10 ?_;exact C_ ⟨(j+1,S),m,(by rw[dr_ C,ay_];exact P)⟩ zab_ zl zp zh
theorem rN_ (B:EngB) (E:Emt prog 87) (A:EngA) (pm:List (Ky×Pc)) (x:Ix) (f:Fc) (nw fm:List Fc) (Hs:Hp) (hS:E.St nw fm Hs) (P:∀ k,(lat pm k).length<=1000000000) (N:∀ k,(lat x.above k).length<=1000000000/\(lat x.under k).length<=1000000000) (Q:∀ k,(lat x.frm k).length<=1000000000/\(lat x.into k).length<=1000000000/\(lat x.ranges k).length<=1000000000/\(lat x.firms k).length<=1000000000):Tri prog 73 #[zp_ B.g 0,Fc.val f] Hs [gF B E,pF B pm A,aF B x A,uF B x A,oF B x A,iF B x A,rF B x A,sF B x A,E.ef] (λ_:{H':Hp // E.St (emits E.stp (cW_ x f) nw) fm H'}=>.tuple #[]) (λy=>y.1) (λ_=>[]):=by
 refine g_ func73 rfl rfl ntmps73 rfl λR=>?_;refine Zz 2 ?_;refine F_ rfl rfl λS=>Zi 6 (λJ=>?_) λJ=>?_
 .refine Zz 5 ?_
  exact bK_ results73 ⟨Hs,by unfold cW_;rw[yaf_ zae_];exact hS⟩ rfl E_ zt
 refine Zz 5 ?_;refine s_ 0 [0,1,2,3,4,5,6,7,8] zk zs (Zz 6 ?_);refine S_ rfl (bi_ (k:=f.a) (adr:=A.u) hR_ db_ ca_ rfl rfl zf) rfl (Zz 6 ?_);refine I_ (ι:={y:Nat×Hp // y.1<=List.length (lat x.under f.a)/\E.St (emits E.stp (List.map (λa=>Q_ a [33]) (List.take y.1 (lat x.under f.a))) nw) fm y.2}) (λy=>[(0,zp_ B.g 0),(15,.slice (A.u f.a).1 (lat x.under f.a).length (A.u f.a).2),(16,i4_ (List.length (lat x.under f.a):Int)),(17,i4_ y.1.1)]) (λy=>(y.1.2)) (λy=>[gF B E,pF B pm A,aF B x A,uF B x A,oF B x A,iF B x A,rF B x A,sF B x A,E.ef]) (λy=>List.length (lat x.under f.a) - y.1.1) ⟨((0:Nat),Hs),by simp,by exact hS⟩ zl E_ zh ?_;rintro ⟨⟨i,F⟩,G,d⟩;dsimp only at G d ⊢;have O:=(N f.a).2;refine Zi 2 (λK=>?_) λK=>?_
 .refine Zz 6 ?_
  exact bK_ results73 ⟨F,by unfold cW_;rw[yaq_ zae_];rw[yad_ zaa_]at d;exact d⟩ rfl af_ zt
 have m:i<List.length (lat x.under f.a):=by omega
 obtain⟨I,C⟩:∃ M,(lat x.under f.a)[i]? = some M:=⟨_,yaa_ m⟩;refine Zz 10 ?_;refine e_ (Y_ B_ U_ rfl rfl (λv _ h=>az_ (n:=1) aO_ zac_ (by exact (bc_ h.2.2.2.1 f.a)) C) zaa_ zak_) rfl ?_;refine e_ (bN_ (ad:=(A.u f.a).1) ae_ rfl (λv _ h=>by exact (bc_ h.2.2.2.1 f.a)) (y_ aO_ C 0 _ rfl)) rfl (Zz 3 ?_);refine V_ ([]) zk ?_;refine s_ 2 [0,1,2,3,4] zk zs (Zz 6 ?_);refine l_ 5 rfl zk (f_ (fU_ I [33]) rfl i_ zt rfl λ_=>t_ oC_ (Zz 3 ?_));refine l_ 6 rfl zk (T_ (first:=[]) (cap:=E.caps) (E.emit (Q_ I [33]) (emits E.stp (List.map (λa=>Q_ a [33]) (List.take i (lat x.under f.a))) nw) fm F d) rfl rfl af_ zf rfl λ⟨L,H⟩=>?_);dsimp only;refine t_ fc_ (Zz 10 ?_);exact C_ ⟨(i+1,L),m,(by rw[dr_ C,ay_];exact H)⟩ zab_ zl af_ zh
theorem rM_ (B:EngB) (E:Emt prog 87) (A:EngA) (pm:List (Ky×Pc)) (x:Ix) (f:Fc) (nw fm:List Fc) (Hs:Hp) (hS:E.St nw fm Hs) (I:∀ k,(lat pm k).length<=1000000000) (H:∀ k,(lat x.above k).length<=1000000000/\(lat x.under k).length<=1000000000) (J:∀ k,(lat x.frm k).length<=1000000000/\(lat x.into k).length<=1000000000/\(lat x.ranges k).length<=1000000000/\(lat x.firms k).length<=1000000000):Tri prog 78 #[zp_ B.g 0,Fc.val f] Hs [gF B E,pF B pm A,aF B x A,uF B x A,oF B x A,iF B x A,rF B x A,sF B x A,E.ef] (λ_:{H':Hp // E.St (if Q_ f.b [33]∈E.kof nw then E.stp (Q_ f.a [33]) nw else nw) fm H'}=>.tuple #[]) (λy=>y.1) (λ_=>[]):=by
 refine g_ func78 rfl rfl ntmps78 rfl λG=>?_;refine Zz 2 ?_;refine F_ rfl rfl λC=>Zz 4 ?_
 refine s_ 2 [0,1,2,3,4,5] zk zs (Zz 7 ?_);refine l_ 6 rfl zk (f_ (fU_ f.b [33]) rfl i_ zt rfl λ_=>Zz 3 ?_);refine s_ 0 [7] zk zs (ef_ rfl (iI_ (f:=(Q_ f.b [33])) hS gy_ bj_ bO_ rfl rfl E_) rfl λF d=>Zz 3 ?_);cases F
 .replace d:=zdf d
  refine Zz 3 ?_;exact bK_ results78 ⟨Hs,by first|(rw[yaq_ zae_];exact hS)|(rw[yaf_ zae_];exact hS)⟩ rfl E_ zt
 replace d:=zdt d;refine bG_ rfl ?_;refine V_ ((C,.cells #[i4_ f.kind,str f.a,str f.b,str f.r,i4_ f.lo,i4_ f.hi] 87 (0,0))::[]) zk ?_;refine s_ 2 [0,1,2,3,4,5] zk zs (Zz 7 ?_);refine l_ 6 rfl zk (f_ (fU_ f.a [33]) rfl i_ zt rfl λ_=>Zz 3 ?_);refine l_ 7 rfl zk (T_ (first:=[]) (cap:=E.caps) (E.emit (Q_ f.a [33]) nw fm Hs hS) rfl rfl E_ zf rfl λ⟨v,m⟩=>?_);dsimp only;refine Zz 5 ?_;exact bK_ results78 ⟨v,by first|(rw[yaq_ zae_];exact m)|(rw[yaf_ zae_];exact m)⟩ rfl x_ zt
def ivC (i:Int×Int):List Value:=[.int .i64 i.1,.int .i64 i.2]
theorem ivC_len (i:Int×Int):(ivC i).length=2:=rfl
def ivV (i:Int×Int):Value:=.agg (ivC i).toArray
def kk_ (i:Int×Int):Int:=if min i.1 i.2 < -1099511627776\/1099511627776<max i.1 i.2 then 1 else if i.2<i.1 then 80 else 0
def nB_ (e:Int) (i:Int×Int):Int:=if e≠0 then e else kk_ i
def gG_ (l:List (Int×Int)):Int:=l.foldl nB_ 0
theorem rA_ {l:List (Int×Int)} {i:Nat} {x:Int×Int} (h:l[i]? = some x):gG_ (List.take (i+1) l)=nB_ (gG_ (l.take i)) x:=by
  unfold gG_;rw[yao_,h,yaC_,ydn_];rfl
def zU_ (a b:Int×Int):Bool:=decide (gG_ [a,b]=0)&&(decide (b.1<=a.1)&&decide (a.2<=b.2))
theorem zT_ {a b:Int×Int} (d:-1099511627776<=a.1/\a.1<=a.2/\a.2<=1099511627776) (m:-1099511627776<=b.1/\b.1<=b.2/\b.2<=1099511627776):zU_ a b=decide (b.1<=a.1/\a.2<=b.2):=by
  have e:∀ i:Int×Int,-1099511627776<=i.1/\i.1<=i.2/\i.2<=1099511627776->kk_ i=0:=λi h=>by
    unfold kk_;rw[yaf_ zaa_,yaf_ zaa_]
  have v:gG_ [a,b]=0:=by simp[gG_,nB_,e a d,e b m]
  unfold zU_;rw[v,ybJ_];simp
theorem tL_:fH_ prog 201 [(0,1),(1,1)] [i4_ 0,i4_ 0]:=⟨_,zeroValue201,runUnderlying201,λw=>by simp[K_]⟩
theorem gp_ {G:Prop} (h:G:=by
 exact ac_ results254 () (bd_ rfl (by unfold kk_;first|(rw[yaq_ zaa_])|(rw[yaf_ zaa_,yaq_ zaa_])|(rw[yaf_ zaa_,yaf_ zaa_]))) i_ zt):G:=h
theorem vt_ (i:Int×Int):Fn0 prog 254 #[ivV i] (i4_ (kk_ i)):=by
 refine g_ func254 rfl rfl ntmps254 rfl λx=>?_;refine Zz 2 ?_;refine F_ rfl rfl λy=>Zz 10 ?_
 refine e_ (jJ_ rfl rfl) rfl ?_;refine Zi 0 (λd=>?_) λd=>?_
 .refine Zz 10 ?_
  refine e_ (mB_ rfl rfl) rfl (aP_ rfl rfl ?_);refine Zi 0 (λm=>?_) λm=>?_
  .refine Zi 13 (λv=>?_) λv=>?_
   .refine Zz 11 ?_
    exact gp_
   refine Zz 9 ?_;exact gp_
  refine Zz 10 ?_;exact gp_
 refine Zz 17 ?_;exact gp_
theorem lA_ {G:Prop} (h:G:=by
 exact ac_ results253 () (bd_ rfl (by unfold nB_;first|(rw[yaq_ zae_])|(rw[yaf_ zaa_]))) i_ zt):G:=h
theorem zS_ (e:Int) (i:Int×Int):Fn0 prog 253 #[i4_ e,ivV i] (i4_ (nB_ e i)):=by
 refine g_ func253 rfl rfl ntmps253 rfl λm=>?_;refine Zz 2 ?_;refine F_ rfl rfl λv=>Zi 7 (λd=>?_) λd=>?_
 .refine Zz 8 ?_
  refine f_ (vt_ i) rfl i_ zt rfl λ_=>Zz 4 ?_
  exact lA_
 refine Zz 10 ?_;exact lA_
theorem sT_ (l:List (Int×Int)) (ad:Ao) (cap:Nat) (hl:l.length<=1000000):Tri prog 252 #[.slice ad l.length cap,i4_ 0,.func (.func 253) #[] #[]] [] [L_ ad (l.flatMap ivC)] (λ_:Unit=>i4_ (gG_ l)) (λ_=>[]) (λ_=>[]):=by
 refine g_ func252 rfl rfl ntmps252 rfl λB=>?_;refine Zz 14 ?_;refine I_ (ι:={y:Nat // y<=l.length}) (λy=>[(1,i4_ (gG_ (l.take y.1))),(2,.func (.func 253) #[] #[]),(9,.slice ad l.length cap),(10,i4_ (List.length l:Int)),(11,i4_ y.1)]) (λy=>([])) (λy=>[L_ ad (l.flatMap ivC)]) (λy=>l.length - y.1) ⟨(0:Nat),by simp⟩ zl i_ zh ?_;rintro ⟨i,hi⟩;dsimp only at hi ⊢;refine Zi 2 (λv=>?_) λv=>?_
 .refine Zz 13 ?_
  exact ac_ results252 () (bd_ rfl (by rw[yad_ zaa_])) i_ zt
 have d:i<l.length:=by omega
 obtain⟨A,m⟩:∃ x,l[i]? = some x:=⟨_,yaa_ d⟩;refine Zz 12 ?_;refine u_ zeroValue201 rfl λC=>n_ 0 sizeOf201 rfl rfl rfl rfl rfl rfl (Zz 6 ?_)
 refine T_ (zS_ (gG_ (l.take i)) A) rfl rfl i_ zt rfl λ_=>Zz 8 ?_
 exact C_ ⟨i+1,d⟩ zab_ ⟨(bd_ rfl (rA_ m).symm),rfl,rfl,rfl,rfl,trivial⟩ i_ zh
theorem zV_ (l:List (Int×Int)) (ad:Ao) (cap:Nat) (hl:l.length<=1000000):Tri prog 194 #[.slice ad l.length cap] [] [L_ ad (l.flatMap ivC)] (λ_:Unit=>i4_ (gG_ l)) (λ_=>[]) (λ_=>[]):=by
  refine g_ func194 rfl rfl ntmps194 rfl λd=>?_;refine Zz 8 ?_;refine f_ (sT_ l ad cap hl) rfl i_ zf rfl λ_=>Zz 4 ?_
  exact ac_ results194 () rfl i_ zt
theorem ib_ {G:Prop} (h:G:=by
 exact ac_ results124 () (p_ rfl (by unfold zU_;simp_all<;>omega)) i_ zt):G:=h
theorem wd_ (i j:Int×Int):Fn0 prog 124 #[ivV i,ivV j] (.bool (zU_ i j)):=by
 refine g_ func124 rfl rfl ntmps124 rfl λy=>?_;refine Zz 2 ?_;refine F_ rfl rfl λA=>F_ rfl rfl λB=>Zz 7 ?_
 refine M_ runUnderlying322 sizeOf201 zeroValue201 rfl rfl rfl rfl rfl rfl λv=>?_;refine aL_ (List.flatMap ivC [i,j]) d_ rfl ?_;refine f_ (zV_ [i,j] (some ⟨v,0,none⟩) 2 zai_) rfl i_ zf rfl λ_=>?_;refine Zi 0 (λm=>?_) λm=>?_
 .refine Zz 18 ?_
  exact ib_
 refine Zi 10 (λd=>?_) λd=>?_
 .refine Zz 12 ?_
  exact ib_
 refine Zz 11 ?_;refine P_ (dj_ rfl rfl) rfl λC x=>Zz 5 ?_
 exact ib_
theorem sh_ (a b c d:Int) (v:-1099511627776<=a/\a<=b/\b<=1099511627776) (m:-1099511627776<=c/\c<=d/\d<=1099511627776):Fn0 prog 124 #[ivV (a,b),ivV (c,d)] (.bool (decide (c<=a/\b<=d))):=by
  have:=wd_ (a,b) (c,d);rw[zT_ v m]at this;exact this
theorem iU_ {α:Type} {p:α->Bool} {l:List α} {i:Nat} {x:α} (h:l[i]? = some x):List.filter p (List.take (i+1) l)=List.filter p (l.take i)++(if p x then [x] else []):=by
  rw[yao_,h,yaC_,ycR_]
  congr 1
  simp[List.filter_cons]
theorem out_c (B:EngB) (E:Emt prog 87) (A:EngA) (pm:List (Ky×Pc)) (x:Ix) (f:Fc) (nw fm:List Fc) (Hs:Hp) (hS:E.St nw fm Hs) (P:∀ k,(lat pm k).length<=1000000000) (S:∀ k,(lat x.above k).length<=1000000000/\(lat x.under k).length<=1000000000) (T:∀ k,(lat x.frm k).length<=1000000000/\(lat x.into k).length<=1000000000/\(lat x.ranges k).length<=1000000000/\(lat x.firms k).length<=1000000000) (W:-1099511627776<=f.lo/\f.lo<=f.hi/\f.hi<=1099511627776) (U:∀ y∈lat pm (Ky.mk 9 f.r []),-1099511627776<=y.lo/\y.lo<=y.hi/\y.hi<=1099511627776):Tri prog 80 #[zp_ B.g 0,Fc.val f] Hs [gF B E,pF B pm A,aF B x A,uF B x A,oF B x A,iF B x A,rF B x A,sF B x A,E.ef] (λ_:{H':Hp // E.St (emits E.stp (vi_ pm f) nw) fm H'}=>.tuple #[]) (λy=>y.1) (λ_=>[]):=by
 refine g_ func80 rfl rfl ntmps80 rfl λV=>?_;refine Zz 2 ?_;refine F_ rfl rfl λK=>Zz 4 ?_
 refine s_ 0 [0,1,2,3,4,5,6,7,8,9] zk zs (Zz 6 ?_);refine S_ rfl (w_ et_ rfl rfl) rfl (S_ rfl (bi_ (k:=(Ky.mk 9 f.r [])) (adr:=A.p) hM_ bI_ bu_ rfl rfl zf) rfl (Zz 6 ?_));let Pu:Nat×Obj:=(K,.cells #[i4_ f.kind,str f.a,str f.b,str f.r,i4_ f.lo,i4_ f.hi] 87 (0,0));refine I_ (ι:={y:Nat×Hp // y.1<=List.length (lat pm (Ky.mk 9 f.r []))/\E.St (emits E.stp (List.map (λy=>Q_ f.a y.c) (List.filter (λy=>decide (Pc.lo y<=Fc.lo f/\Fc.hi f<=Pc.hi y)) (List.take y.1 (lat pm (Ky.mk 9 f.r []))))) nw) fm y.2}) (λy=>[(0,zp_ B.g 0),(3,zp_ K 0),(13,.slice (Prod.fst (A.p (Ky.mk 9 f.r []))) (lat pm (Ky.mk 9 f.r [])).length (Prod.snd (A.p (Ky.mk 9 f.r [])))),(14,i4_ (List.length (lat pm (Ky.mk 9 f.r [])):Int)),(15,i4_ y.1.1)]) (λy=>(Pu::y.1.2)) (λy=>[gF B E,pF B pm A,aF B x A,uF B x A,oF B x A,iF B x A,rF B x A,sF B x A,E.ef]) (λy=>List.length (lat pm (Ky.mk 9 f.r [])) - y.1.1) ⟨((0:Nat),Hs),by simp,by exact hS⟩ zl zp zh ?_;rintro ⟨⟨i,H⟩,L,m⟩;dsimp only at L m ⊢;have R:=P (Ky.mk 9 f.r []);refine Zi 2 (λM=>?_) λM=>?_
 .refine Zz 6 ?_
  exact bK_ results80 ⟨H,by unfold vi_;rw[yad_ zaa_]at m;exact m⟩ rfl E_ zt
 obtain⟨G,d,C,J⟩:=zge (show i<List.length (lat pm (Ky.mk 9 f.r [])) by omega);refine Zz 10 ?_;refine e_ (Y_ z_ A_ rfl rfl (λv _ h=>az_ (n:=10) Pc.cells_len zac_ (by exact (bc_ h.2.1 (Ky.mk 9 f.r []))) C) zaa_ zak_) rfl ?_;refine e_ (ah_ (ad:=(Prod.fst (A.p (Ky.mk 9 f.r [])))) (us:=Pc.cells d) dy_ A_ rfl (λv _ h=>by exact (bc_ h.2.1 (Ky.mk 9 f.r []))) (Pc.cells_len _) (y_ Pc.cells_len C)) rfl (u_ O_ rfl λO=>n_ 0 A_ rfl rfl rfl rfl rfl rfl (Zz 8 ?_));refine e_ (w_ tL_ rfl rfl) rfl (Zz 4 ?_);refine e_ (w_ tL_ rfl rfl) rfl (aa_ (sh_ f.lo f.hi d.lo d.hi W (U d J)) rfl i_ zt rfl λQ F=>Zz 2 ?_);cases Q
 .replace F:=zdf F
  refine Zz 8 ?_;exact C_ ⟨(i+1,H),G,(by rw[iU_ C];first|(rw[yaq_ (yaE_ zae_),yaw_,ay_];exact m)|(rw[yaf_ (by rw[ybi_ zae_];decide),yaL_];exact m))⟩ zab_ zl (m_ (c_ d_) E_) zh
 replace F:=zdt F;refine bG_ rfl ?_;refine V_ ((O,.cells #[i4_ d.kind,str d.a,str d.b,str d.c,str d.r,str d.s,str d.t,i4_ d.lo,i4_ d.hi,i4_ d.frm] 32 (0,0))::(Pu::[])) zk ?_;refine s_ 2 [0,1,2,3,4,5,6,7] zk zs (Zz 9 ?_);refine l_ 8 rfl zk (f_ (fU_ f.a d.c) rfl i_ zt rfl λ_=>Zz 3 ?_);refine l_ 9 rfl zk (T_ (first:=[]) (cap:=E.caps) (E.emit (Q_ f.a d.c) (emits E.stp (List.map (λy=>Q_ f.a y.c) (List.filter (λy=>decide (Pc.lo y<=Fc.lo f/\Fc.hi f<=Pc.hi y)) (List.take i (lat pm (Ky.mk 9 f.r []))))) nw) fm H m) rfl rfl (c_ E_) zf rfl λ⟨N,I⟩=>?_);dsimp only;refine Zz 10 ?_;exact C_ ⟨(i+1,N),G,(by rw[iU_ C];first|(rw[yaq_ (yaE_ zae_),yaw_,ay_];exact I)|(rw[yaf_ (by rw[ybi_ zae_];decide),yaL_];exact I))⟩ zab_ zl zp zh
theorem jx_ {f:Fc} {l:List Fc} {i:Nat} {x:Fc} (h:l[i]? = some x):gw_ f (List.take (i+1) l)=gw_ f (l.take i)++(if (!eF_ f x&&decide (dg_ f x≠f/\dg_ f x≠x))=true then [dg_ f x] else []):=by
  unfold gw_;rw[iU_ h,yaw_]
  congr 1
  split<;>simp
theorem nV_ {α:Type} {p:α->Bool} {l:List α} {i:Nat} {x:α} (h:l[i]? = some x):List.any (List.take (i+1) l) p=(List.any (l.take i) p||p x):=by
  rw[yao_,h,yaC_,ydf_];simp
theorem ly_ {G:Prop} (h:G:=by
 dsimp only;refine Zz 10 ?_;exact C_ ⟨(i+1,M,e),G,(by rw[jx_ C];first|(rw[yaq_ (by rw[yaS_];exact⟨by simp only[eF_];rw[ybi_ zaa_];rfl,yaE_ ⟨by assumption,by assumption⟩⟩),ay_];exact I)|(rw[yaf_ (by rw[yaS_];intro q;first|exact absurd (ybf_ q.2).1 zae_|exact absurd (ybf_ q.2).2 zae_|(have F:=q.1;simp only[eF_]at F;rw[yaE_ zaa_]at F;cases F)),yaL_];exact I)),by rw[nV_ C,<-N];simp only[eF_];rw[ybi_ zaa_];simp⟩ zab_ zl zp zh):G:=h
theorem lz_ {G:Prop} (h:G:=by
 refine Zz 12 ?_;exact C_ ⟨(i+1,H,true),G,(by rw[jx_ C];first|(rw[yaq_ (by rw[yaS_];exact⟨by simp only[eF_];rw[ybi_ zaa_];rfl,yaE_ ⟨by assumption,by assumption⟩⟩),ay_];exact m)|(rw[yaf_ (by rw[yaS_];intro q;first|exact absurd (ybf_ q.2).1 zae_|exact absurd (ybf_ q.2).2 zae_|(have F:=q.1;simp only[eF_]at F;rw[yaE_ zaa_]at F;cases F)),yaL_];exact m)),by rw[nV_ C,<-N];simp only[eF_];rw[yaE_ zaa_];simp⟩ zab_ zl (m_ (c_ d_) E_) zh):G:=h
theorem go_ {G:Prop} (h:G:=by
 exact C_ ⟨(i+1,H,e),G,(by rw[jx_ C];first|(rw[yaq_ (by rw[yaS_];exact⟨by simp only[eF_];rw[ybi_ zaa_];rfl,yaE_ ⟨by assumption,by assumption⟩⟩),ay_];exact m)|(rw[yaf_ (by rw[yaS_];intro q;first|exact absurd (ybf_ q.2).1 zae_|exact absurd (ybf_ q.2).2 zae_|(have F:=q.1;simp only[eF_]at F;rw[yaE_ zaa_]at F;cases F)),yaL_];exact m)),by rw[nV_ C,<-N];simp only[eF_];rw[ybi_ zaa_];simp⟩ zab_ zl (m_ (c_ (c_ d_)) (c_ E_)) zh):G:=h
theorem meet_c (B:EngB) (E:Emt prog 87) (A:EngA) (pm:List (Ky×Pc)) (x:Ix) (f:Fc) (nw fm:List Fc) (Hs:Hp) (hS:E.St nw fm Hs) (a3:∀ k,(lat pm k).length<=1000000000) (a1:∀ k,(lat x.above k).length<=1000000000/\(lat x.under k).length<=1000000000) (Y:∀ k,(lat x.frm k).length<=1000000000/\(lat x.into k).length<=1000000000/\(lat x.ranges k).length<=1000000000/\(lat x.firms k).length<=1000000000):Tri prog 79 #[zp_ B.g 0,Fc.val f] Hs [gF B E,pF B pm A,aF B x A,uF B x A,oF B x A,iF B x A,rF B x A,sF B x A,E.ef] (λ_:{H':Hp // E.St (emits E.stp (gw_ f (ep_ x f (decide (f∈fm)))++hL_ f (ep_ x f (decide (f∈fm)))) nw) fm H'}=>.tuple #[]) (λy=>y.1) (λ_=>[]):=by
 refine g_ func79 rfl rfl ntmps79 rfl λa4=>?_;refine Zz 2 ?_;refine F_ rfl rfl λO=>Zz 8 ?_
 refine e_ (w_ hp_ rfl rfl) rfl (u_ fy_ rfl λa2=>n_ 0 il_ rfl rfl rfl rfl rfl rfl (Zz 4 ?_));refine s_ 0 [0,1,2,3,4,5,6] zk zs (Zz 5 ?_);refine S_ rfl (bi_ (k:=(f.a,f.r)) (adr:=A.s) dz_ wE_ qn_ rfl rfl zf) rfl (Zz 7 ?_);refine s_ 0 [0,1,2,3,4,5] zk zs (Zz 5 ?_);refine ef_ rfl (qo_ (f:=f) hS gy_ bj_ bO_ rfl rfl (c_ E_)) rfl λa0 P=>Zz 3 ?_
 cases a0
 .replace P:=zdf P
  refine Zz 17 ?_;let Pu:Nat×Obj:=(O,.cells #[i4_ f.kind,str f.a,str f.b,str f.r,i4_ f.lo,i4_ f.hi] 87 (0,0));refine I_ (ι:={y:Nat×Hp×Bool // y.1<=List.length (lat x.firms (f.a,f.r))/\E.St (emits E.stp (gw_ f (List.take y.1 (lat x.firms (f.a,f.r)))) nw) fm y.2.1/\y.2.2=List.any (List.take y.1 (lat x.firms (f.a,f.r))) (eF_ f)}) (λy=>[(0,zp_ B.g 0),(3,zp_ O 0),(6,.bool y.1.2.2),(35,.slice (Prod.fst (A.s (f.a,f.r))) (lat x.firms (f.a,f.r)).length (Prod.snd (A.s (f.a,f.r)))),(36,i4_ (List.length (lat x.firms (f.a,f.r)):Int)),(37,i4_ y.1.1)]) (λy=>(Pu::y.1.2.1)) (λy=>[gF B E,pF B pm A,aF B x A,uF B x A,oF B x A,iF B x A,rF B x A,sF B x A,E.ef]) (λy=>List.length (lat x.firms (f.a,f.r)) - y.1.1) ⟨((0:Nat),Hs,false),by simp,by exact hS,by simp⟩ zl (m_ (c_ d_) E_) zh ?_;rintro ⟨⟨i,H,e⟩,Q,m,N⟩;dsimp only at Q m N ⊢;have Z:=(Y (f.a,f.r)).2.2.2;refine Zi 2 (λS=>?_) λS=>?_
  .refine Zz 11 ?_
   cases e
   .refine Zz 3 ?_
    exact bK_ results79 ⟨H,by have W:(ep_ x f (decide (f∈fm)))=(lat x.firms (f.a,f.r)):=(by unfold ep_;rw[ybi_ zae_]<;>rfl);rw[W,ay_];have L:List.take i (lat x.firms (f.a,f.r))=(lat x.firms (f.a,f.r)):=yad_ zaa_;rw[L]at N m;unfold hL_;rw[yaf_ (by rw[<-N];decide)];exact m⟩ rfl E_ zt
   refine bG_ rfl ?_;refine V_ (Pu::[]) zk ?_;refine s_ 2 [0,1,2,3,4,5] zk zs (Zz 7 ?_);refine l_ 6 rfl zk (f_ (fU_ f.a [33]) rfl i_ zt rfl λ_=>Zz 3 ?_);refine l_ 7 rfl zk (T_ (first:=[]) (cap:=E.caps) (E.emit (Q_ f.a [33]) (emits E.stp (gw_ f (List.take i (lat x.firms (f.a,f.r)))) nw) fm H m) rfl rfl E_ zf rfl λ⟨M,I⟩=>?_);dsimp only;refine Zz 5 ?_;exact bK_ results79 ⟨M,by have W:(ep_ x f (decide (f∈fm)))=(lat x.firms (f.a,f.r)):=(by unfold ep_;rw[ybi_ zae_]<;>rfl);rw[W,ay_];have L:List.take i (lat x.firms (f.a,f.r))=(lat x.firms (f.a,f.r)):=yad_ zaa_;rw[L]at N I;unfold hL_;rw[yaq_ N.symm];exact I⟩ rfl x_ zt
  have G:i<List.length (lat x.firms (f.a,f.r)):=by omega
  obtain⟨d,C⟩:∃ L,(lat x.firms (f.a,f.r))[i]? = some L:=⟨_,yaa_ G⟩;refine Zz 10 ?_;refine e_ (Y_ ai_ N_ rfl rfl (λv _ h=>az_ (n:=6) Fc.cells_len zac_ (by exact (bc_ h.2.2.2.2.2.2.2.1 (f.a,f.r))) C) zaa_ zak_) rfl ?_;refine e_ (ah_ (ad:=(Prod.fst (A.s (f.a,f.r)))) (us:=Fc.cells d) cp_ N_ rfl (λv _ h=>by exact (bc_ h.2.2.2.2.2.2.2.1 (f.a,f.r))) (Fc.cells_len _) (y_ Fc.cells_len C)) rfl (u_ W_ rfl λX=>n_ 0 N_ rfl rfl rfl rfl rfl rfl (Zz 4 ?_));refine s_ 0 [0,1,2,3,4,5,6,7,8,9,10,11] zk zs (Zz 4 ?_);refine S_ rfl (mB_ rfl rfl) rfl (Zz 4 ?_);refine S_ rfl (jJ_ rfl rfl) rfl (Zi 9 (λR=>?_) λR=>?_)
  .refine Zz 11 ?_
   refine f_ (mS_ f.a f.r (max f.lo d.lo) (min f.hi d.hi)) rfl i_ zt rfl λ_=>u_ W_ rfl λU=>n_ 0 N_ rfl rfl rfl rfl rfl rfl (Zz 6 ?_)
   refine P_ (fI_ (p:=(ag_ f.a f.r (max f.lo d.lo) (min f.hi d.hi))) (q:=f) rfl rfl) rfl λT K=>Zz 1 ?_
   cases T
   .replace K:=zdf K
    refine Zz 14 ?_;exact go_
   replace K:=zdt K;refine Zz 5 ?_;refine P_ (fI_ (p:=(ag_ f.a f.r (max f.lo d.lo) (min f.hi d.hi))) (q:=d) rfl rfl) rfl λV J=>Zz 3 ?_
   cases V
   .replace J:=zdf J
    refine Zz 8 ?_;exact go_
   replace J:=zdt J;refine bG_ rfl ?_;refine V_ ((U,.cells #[i4_ (Fc.kind (ag_ f.a f.r (max f.lo d.lo) (min f.hi d.hi))),str (Fc.a (ag_ f.a f.r (max f.lo d.lo) (min f.hi d.hi))),str (Fc.b (ag_ f.a f.r (max f.lo d.lo) (min f.hi d.hi))),str (Fc.r (ag_ f.a f.r (max f.lo d.lo) (min f.hi d.hi))),i4_ (Fc.lo (ag_ f.a f.r (max f.lo d.lo) (min f.hi d.hi))),i4_ (Fc.hi (ag_ f.a f.r (max f.lo d.lo) (min f.hi d.hi)))] 87 (0,0))::((X,.cells #[i4_ d.kind,str d.a,str d.b,str d.r,i4_ d.lo,i4_ d.hi] 87 (0,0))::(Pu::[]))) zk ?_;refine s_ 1 [0,1,2,3,4] zk zs (Zz 6 ?_);refine l_ 5 rfl zk (T_ (first:=[]) (cap:=E.caps) (E.emit (ag_ f.a f.r (max f.lo d.lo) (min f.hi d.hi)) (emits E.stp (gw_ f (List.take i (lat x.firms (f.a,f.r)))) nw) fm H m) rfl rfl (c_ (c_ E_)) zf rfl λ⟨M,I⟩=>?_);exact ly_
  exact lz_
 replace P:=zdt P;refine Zz 2 ?_;refine s_ 0 [0,1,2,3,4,5,6] zk zs (Zz 5 ?_);refine S_ rfl (bi_ (k:=(f.a,f.r)) (adr:=A.r) dz_ wE_ qn_ rfl rfl zf) rfl (Zz 18 ?_);refine I_ (ι:={y:Nat×Hp×Bool // y.1<=List.length (lat x.ranges (f.a,f.r))/\E.St (emits E.stp (gw_ f (List.take y.1 (lat x.ranges (f.a,f.r)))) nw) fm y.2.1/\y.2.2=List.any (List.take y.1 (lat x.ranges (f.a,f.r))) (eF_ f)}) (λy=>[(0,zp_ B.g 0),(3,zp_ O 0),(6,.bool y.1.2.2),(35,.slice (Prod.fst (A.r (f.a,f.r))) (lat x.ranges (f.a,f.r)).length (Prod.snd (A.r (f.a,f.r)))),(36,i4_ (List.length (lat x.ranges (f.a,f.r)):Int)),(37,i4_ y.1.1)]) (λy=>((O,.cells #[i4_ f.kind,str f.a,str f.b,str f.r,i4_ f.lo,i4_ f.hi] 87 (0,0))::y.1.2.1)) (λy=>[gF B E,pF B pm A,aF B x A,uF B x A,oF B x A,iF B x A,rF B x A,sF B x A,E.ef]) (λy=>List.length (lat x.ranges (f.a,f.r)) - y.1.1) ⟨((0:Nat),Hs,false),by simp,by exact hS,by simp⟩ zl (m_ (c_ d_) E_) zh ?_;rintro ⟨⟨i,H,e⟩,Q,m,N⟩;dsimp only at Q m N ⊢;have Z:=(Y (f.a,f.r)).2.2.1;refine Zi 2 (λS=>?_) λS=>?_
 .refine Zz 11 ?_
  cases e
  .refine Zz 3 ?_
   exact bK_ results79 ⟨H,by have W:(ep_ x f (decide (f∈fm)))=(lat x.ranges (f.a,f.r)):=(by unfold ep_;rw[yaE_ zae_]<;>rfl);rw[W,ay_];have L:List.take i (lat x.ranges (f.a,f.r))=(lat x.ranges (f.a,f.r)):=yad_ zaa_;rw[L]at N m;unfold hL_;rw[yaf_ (by rw[<-N];decide)];exact m⟩ rfl E_ zt
  refine bG_ rfl ?_;refine V_ ((O,.cells #[i4_ f.kind,str f.a,str f.b,str f.r,i4_ f.lo,i4_ f.hi] 87 (0,0))::[]) zk ?_;refine s_ 2 [0,1,2,3,4,5] zk zs (Zz 7 ?_);refine l_ 6 rfl zk (f_ (fU_ f.a [33]) rfl i_ zt rfl λ_=>Zz 3 ?_);refine l_ 7 rfl zk (T_ (first:=[]) (cap:=E.caps) (E.emit (Q_ f.a [33]) (emits E.stp (gw_ f (List.take i (lat x.ranges (f.a,f.r)))) nw) fm H m) rfl rfl E_ zf rfl λ⟨M,I⟩=>?_);dsimp only;refine Zz 5 ?_;exact bK_ results79 ⟨M,by have W:(ep_ x f (decide (f∈fm)))=(lat x.ranges (f.a,f.r)):=(by unfold ep_;rw[yaE_ zae_]<;>rfl);rw[W,ay_];have L:List.take i (lat x.ranges (f.a,f.r))=(lat x.ranges (f.a,f.r)):=yad_ zaa_;rw[L]at N I;unfold hL_;rw[yaq_ N.symm];exact I⟩ rfl x_ zt
 have G:i<List.length (lat x.ranges (f.a,f.r)):=by omega
 obtain⟨d,C⟩:∃ L,(lat x.ranges (f.a,f.r))[i]? = some L:=⟨_,yaa_ G⟩;refine Zz 10 ?_;refine e_ (Y_ ai_ N_ rfl rfl (λv _ h=>az_ (n:=6) Fc.cells_len zac_ (by exact (bc_ h.2.2.2.2.2.2.1 (f.a,f.r))) C) zaa_ zak_) rfl ?_;refine e_ (ah_ (ad:=(Prod.fst (A.r (f.a,f.r)))) (us:=Fc.cells d) cp_ N_ rfl (λv _ h=>by exact (bc_ h.2.2.2.2.2.2.1 (f.a,f.r))) (Fc.cells_len _) (y_ Fc.cells_len C)) rfl (u_ W_ rfl λX=>n_ 0 N_ rfl rfl rfl rfl rfl rfl (Zz 4 ?_));refine s_ 0 [0,1,2,3,4,5,6,7,8,9,10,11] zk zs (Zz 4 ?_);refine S_ rfl (mB_ rfl rfl) rfl (Zz 4 ?_);refine S_ rfl (jJ_ rfl rfl) rfl (Zi 9 (λR=>?_) λR=>?_)
 .refine Zz 11 ?_
  refine f_ (mS_ f.a f.r (max f.lo d.lo) (min f.hi d.hi)) rfl i_ zt rfl λ_=>u_ W_ rfl λU=>n_ 0 N_ rfl rfl rfl rfl rfl rfl (Zz 6 ?_)
  refine P_ (fI_ (p:=(ag_ f.a f.r (max f.lo d.lo) (min f.hi d.hi))) (q:=f) rfl rfl) rfl λT K=>Zz 1 ?_
  cases T
  .replace K:=zdf K
   refine Zz 14 ?_;exact go_
  replace K:=zdt K;refine Zz 5 ?_;refine P_ (fI_ (p:=(ag_ f.a f.r (max f.lo d.lo) (min f.hi d.hi))) (q:=d) rfl rfl) rfl λV J=>Zz 3 ?_
  cases V
  .replace J:=zdf J
   refine Zz 8 ?_;exact go_
  replace J:=zdt J;refine bG_ rfl ?_;refine V_ ((U,.cells #[i4_ (Fc.kind (ag_ f.a f.r (max f.lo d.lo) (min f.hi d.hi))),str (Fc.a (ag_ f.a f.r (max f.lo d.lo) (min f.hi d.hi))),str (Fc.b (ag_ f.a f.r (max f.lo d.lo) (min f.hi d.hi))),str (Fc.r (ag_ f.a f.r (max f.lo d.lo) (min f.hi d.hi))),i4_ (Fc.lo (ag_ f.a f.r (max f.lo d.lo) (min f.hi d.hi))),i4_ (Fc.hi (ag_ f.a f.r (max f.lo d.lo) (min f.hi d.hi)))] 87 (0,0))::((X,.cells #[i4_ d.kind,str d.a,str d.b,str d.r,i4_ d.lo,i4_ d.hi] 87 (0,0))::((O,.cells #[i4_ f.kind,str f.a,str f.b,str f.r,i4_ f.lo,i4_ f.hi] 87 (0,0))::[]))) zk ?_;refine s_ 1 [0,1,2,3,4] zk zs (Zz 6 ?_);refine l_ 5 rfl zk (T_ (first:=[]) (cap:=E.caps) (E.emit (ag_ f.a f.r (max f.lo d.lo) (min f.hi d.hi)) (emits E.stp (gw_ f (List.take i (lat x.ranges (f.a,f.r)))) nw) fm H m) rfl rfl (c_ (c_ E_)) zf rfl λ⟨M,I⟩=>?_);exact ly_
 exact lz_
theorem Ay_ (B:EngB) (E:Emt prog 87) (nw fm:List Fc) (Hs:Hp) (hS:E.St nw fm Hs) (al:List Str) (aad:Ao) (acap:Nat) (X:al.length<=1000000000) (V:B.lps.length<=1000000000):Tri prog 31 #[zp_ B.g 0,.slice aad al.length acap] Hs [gF B E,L_ B.lad (B.lps.flatMap ar_),L_ aad (al.flatMap ar_),E.ef] (λ_:{H':Hp // E.St (emits E.stp (eZ_ B.lps al) nw) fm H'}=>.tuple #[]) (λy=>y.1) (λ_=>[]):=by
 refine g_ func31 rfl rfl ntmps31 rfl λW=>?_;refine Zz 8 ?_;refine I_ (ι:={y:Nat×Hp // y.1<=List.length al/\E.St (emits E.stp (List.flatMap (λa=>Q_ a a::Q_ a [42]::List.map (λr=>ak_ a r a) B.lps) (al.take y.1)) nw) fm y.2}) (λy=>[(0,zp_ B.g 0),(8,.slice aad al.length acap),(9,i4_ (List.length al:Int)),(10,i4_ y.1.1)]) (λy=>(y.1.2)) (λy=>[gF B E,L_ B.lad (B.lps.flatMap ar_),L_ aad (al.flatMap ar_),E.ef]) (λy=>al.length - y.1.1) ⟨((0:Nat),Hs),by simp,by exact hS⟩ zl af_ zh ?_;rintro ⟨⟨i,C⟩,K,m⟩;dsimp only at K m ⊢;refine Zi 2 (λQ=>?_) λQ=>?_
 .refine Zz 6 ?_
  exact bK_ results31 ⟨C,by unfold eZ_;rw[yad_ zaa_]at m;exact m⟩ rfl af_ zt
 have A:i<al.length:=by omega
 obtain⟨d,L⟩:∃ G,al[i]? = some G:=⟨_,yaa_ A⟩;refine Zz 16 ?_;refine V_ ([]) zk ?_;refine s_ 2 [0,1,2,3,4,5] zk zs (Zz 7 ?_);refine l_ 6 rfl zk (f_ (fU_ d d) rfl i_ zt rfl λ_=>t_ oC_ (Zz 3 ?_));refine l_ 7 rfl zk (T_ (first:=[]) (cap:=E.caps) (E.emit (Q_ d d) (emits E.stp (List.flatMap (λa=>Q_ a a::Q_ a [42]::List.map (λr=>ak_ a r a) B.lps) (al.take i)) nw) fm C m) rfl rfl af_ zf rfl λ⟨T,M⟩=>?_);dsimp only;refine t_ fc_ (Zz 6 ?_);refine V_ ([]) zk ?_;refine s_ 2 [0,1,2,3,4] zk zs (Zz 6 ?_);refine l_ 5 rfl zk (f_ (fU_ d [42]) rfl i_ zt rfl λ_=>t_ oC_ (Zz 3 ?_));refine l_ 6 rfl zk (T_ (first:=[]) (cap:=E.caps) (E.emit (Q_ d [42]) (E.stp (Q_ d d) (emits E.stp (List.flatMap (λa=>Q_ a a::Q_ a [42]::List.map (λr=>ak_ a r a) B.lps) (al.take i)) nw)) fm T M) rfl rfl af_ zf rfl λ⟨H,N⟩=>?_);dsimp only;refine t_ fc_ (Zz 16 ?_);refine I_ (ι:={y:Nat×Hp // y.1<=List.length B.lps/\E.St (emits E.stp (List.map (λr=>ak_ d r d) (B.lps.take y.1)) (E.stp (Q_ d [42]) (E.stp (Q_ d d) (emits E.stp (List.flatMap (λa=>Q_ a a::Q_ a [42]::List.map (λr=>ak_ a r a) B.lps) (al.take i)) nw)))) fm y.2}) (λy=>[(0,zp_ B.g 0),(8,.slice aad al.length acap),(9,i4_ (List.length al:Int)),(10,i4_ i),(5,str d),(32,.slice B.lad B.lps.length B.lcap),(33,i4_ (List.length B.lps:Int)),(34,i4_ y.1.1)]) (λy=>(y.1.2)) (λy=>[gF B E,L_ B.lad (B.lps.flatMap ar_),L_ aad (al.flatMap ar_),E.ef]) (λy=>B.lps.length - y.1.1) ⟨((0:Nat),H),by simp,by exact N⟩ zl af_ zh ?_;rintro ⟨⟨j,F⟩,P,v⟩;dsimp only at P v ⊢;refine Zi 2 (λR=>?_) λR=>?_
 .refine Zz 11 ?_
  exact C_ ⟨(i+1,F),A,(by rw[gZ_ L,ay_];have U:List.take j B.lps=B.lps:=yad_ zaa_;rw[U]at v;exact v)⟩ zab_ zl af_ zh
 have x:j<B.lps.length:=by omega
 obtain⟨O,I⟩:∃ G,B.lps[j]? = some G:=⟨_,yaa_ x⟩;refine Zz 15 ?_;refine V_ ([]) zk ?_;refine s_ 2 [0,1,2,3,4,5,6] zk zs (Zz 8 ?_);refine l_ 7 rfl zk (f_ (nw_ d O d) rfl i_ zt rfl λ_=>t_ oC_ (Zz 3 ?_));refine l_ 8 rfl zk (T_ (first:=[]) (cap:=E.caps) (E.emit (ak_ d O d) (emits E.stp (List.map (λr=>ak_ d r d) (B.lps.take j)) (E.stp (Q_ d [42]) (E.stp (Q_ d d) (emits E.stp (List.flatMap (λa=>Q_ a a::Q_ a [42]::List.map (λr=>ak_ a r a) B.lps) (al.take i)) nw)))) fm F v) rfl rfl af_ zf rfl λ⟨J,S⟩=>?_);dsimp only;refine t_ fc_ (Zz 10 ?_);exact C_ ⟨(j+1,J),x,(by rw[dr_ I,ay_];exact S)⟩ zab_ zl af_ zh
theorem lv_ {G:Prop} (h:G:=by
 refine l_ 16 rfl zk (am_ (news:=List.flatMap ar_ [f.b]) eC_ Q rfl rfl zp rfl (ba_ 0 rfl) (λu A=>aG_ dE_ A) zaj_ zaa_ rfl λa5 b0 V=>?_);have J:=zsa V;refine Zz 3 ?_;refine l_ 17 rfl zk (ju_ (k:=f.a) (dd:=f.b) hR_ v (by rw[ec_];exact J) (.inr rfl) db_ rfl rfl rfl (eb_ (m_ (j_ (c_ d_)) (G_ x_ (c_ (c_ x_))))) λM d=>?_);refine Zz 5 ?_;exact bK_ wJ_ ⟨IxH.mk M Hu Ho Hi Hr Hm,by have C:x.add (decide (f∈fm)) f={ x with above:=(x.above++[(f.a,f.b)]) }:=(by unfold Ix.add;rw[yaq_ zae_]);rw[C];exact⟨d,A,ho,hi,hr,hm⟩⟩ rfl (G_ x_ (G_ (c_ (c_ x_)) (G_ (c_ (c_ x_)) (G_ (c_ (c_ x_)) (G_ (c_ (c_ x_)) (G_ (c_ (c_ x_)) (c_ E_))))))) zt):G:=h
theorem lw_ {G:Prop} (h:G:=by
 refine s_ 6 [0,1,2,3,4,5,6] zk zs (Zz 8 ?_);refine l_ 7 rfl zk (M_ B_ U_ at_ rfl rfl rfl rfl rfl rfl λb_6=>Zz 3 ?_);refine l_ 8 rfl zk ?_;have a2:=(W (f.b,f.r)).2.1;refine eT_ (k:=(f.b,f.r)) dz_ hi fW_ ca_ rfl rfl zp rfl λb9 b6 a6 a4 c0 c2 d0 T U=>Zz 2 ?_
 refine H_ zs (s_ 2 [9,11] zk zs (Zz 3 ?_));refine l_ 10 rfl zk (am_ (news:=List.flatMap ar_ [f.a]) eC_ U rfl rfl zp rfl (eR_ zp) (λu A=>aG_ dE_ A) zaj_ zaa_ rfl λd1 b7 R=>?_);have S:=zsa R;refine Zz 2 ?_;refine H_ zs (l_ 12 rfl zk (cH_ (k:=(f.b,f.r)) (dd:=f.a) T (by rw[ec_];exact S) rfl rfl rfl (eb_ (m_ (j_ d_) (G_ x_ x_))) λa1 P=>?_));refine Zz 2 ?_;refine H_ zs (Zz 2 ?_);exact bK_ wJ_ ⟨IxH.mk Ha M X a1 Hr Hm,by have C:x.add (decide (f∈fm)) f={ x with under:=(x.under++[(f.b,f.a)]),frm:=(x.frm++[((f.a,f.r),f.b)]),into:=(x.into++[((f.b,f.r),f.a)]) }:=(by unfold Ix.add;rw[yaf_ zaa_,yaq_ zae_]);rw[C];exact⟨ha,d,G,P,hr,hm⟩⟩ rfl (G_ (j_ (c_ (c_ (c_ (c_ (c_ (c_ (j_ (j_ x_))))))))) (G_ (j_ (c_ (c_ (c_ (c_ (c_ (c_ (j_ x_)))))))) (G_ (j_ (c_ (c_ (c_ (c_ (c_ (c_ x_))))))) (G_ x_ (G_ (c_ (c_ (c_ (c_ (c_ (c_ x_)))))) (G_ (c_ (c_ (c_ (c_ (c_ (c_ x_)))))) (c_ (c_ (c_ (c_ (c_ E_))))))))))) zt):G:=h
theorem lx_ {G:Prop} (h:G:=by
 refine l_ 16 rfl zk (am_ (news:=List.flatMap ar_ [f.a]) eC_ Q rfl rfl zp rfl (ba_ 0 rfl) (λu A=>aG_ dE_ A) zaj_ zaa_ rfl λa5 b0 Z=>?_);have J:=zsa Z;refine Zz 3 ?_;refine l_ 17 rfl zk (ju_ (k:=f.b) (dd:=f.a) hR_ v (by rw[ec_];exact J) (.inr rfl) db_ rfl rfl rfl (eb_ (m_ (j_ (c_ d_)) (G_ x_ (c_ (c_ x_))))) λM d=>?_);refine Zz 5 ?_;refine t_ (X_ (j_ d_) (be_ (j_ d_))) (Zz 2 ?_);refine s_ 4 [0,1,2,3,4,5,6,7,8,9] zk zs (Zz 4 ?_);refine S_ rfl (w_ hp_ rfl rfl) rfl (Zz 4 ?_);refine S_ rfl (w_ hp_ rfl rfl) rfl (bt_ ?_);refine do_ 10 11 rfl rfl zk ?_ ?_
 .refine u_ fy_ rfl λL=>Zz 3 ?_
  refine l_ 11 rfl zk (u_ fy_ rfl λN=>Zz 3 ?_);refine l_ 12 rfl zk (n_ 1 il_ rfl rfl rfl rfl rfl rfl (Zz 3 ?_));refine l_ 13 rfl zk (n_ 0 il_ rfl rfl rfl rfl rfl rfl (Zz 6 ?_));let Pu:Hp:=((N,.cells #[str f.b,str f.r] 146 (0,0))::((L,.cells #[str f.a,str f.r] 146 (0,0))::((F,.cells #[str f.a] 9 (0,0))::((O,.cells #[i4_ f.kind,str f.a,str f.b,str f.r,i4_ f.lo,i4_ f.hi] 87 (0,0))::[]))));refine V_ Pu zk ?_;refine s_ 6 [0,1,2,3,4,5,6] zk zs (Zz 8 ?_);refine l_ 7 rfl zk (M_ B_ U_ at_ rfl rfl rfl rfl rfl rfl λa0=>Zz 3 ?_);refine l_ 8 rfl zk ?_;have Y:=(W (f.a,f.r)).1;refine eT_ (k:=(f.a,f.r)) dz_ ho fW_ ca_ rfl rfl (c_ (c_ (c_ (c_ (c_ (j_ (j_ x_))))))) rfl λa3 b3 b2 a8 b4 b1 a7 I K=>Zz 2 ?_
  refine H_ (λ_ a b=>⟨Vw.sat.sub (a.perm (m_ (c_ (j_ (j_ (c_ d_)))) (m_ (c_ (j_ (j_ (c_ d_)))) (m_ (c_ (j_ (j_ (c_ d_)))) (c_ (j_ (j_ (c_ d_)))))))),b⟩) (s_ 2 [9,11] zk (λ_ a b=>⟨Vw.sat.sub (a.perm (m_ (c_ (j_ (j_ (c_ d_)))) (m_ (c_ (j_ (j_ (c_ d_)))) (m_ (c_ (j_ (j_ (c_ d_)))) (c_ (j_ (j_ (c_ d_)))))))),b⟩) (Zz 3 ?_));refine l_ 10 rfl zk (am_ (news:=List.flatMap ar_ [f.b]) eC_ K rfl rfl zp rfl (eR_ zp) (λu A=>aG_ dE_ A) zaj_ zaa_ rfl λa9 b5 m=>?_);have H:=zsa m;refine Zz 2 ?_;refine H_ (λ_ a b=>⟨Vw.sat.sub (a.perm (m_ (j_ (c_ (j_ (c_ d_)))) (m_ (j_ (c_ (j_ (c_ d_)))) (m_ (j_ (c_ (j_ (c_ d_)))) (j_ (c_ (j_ (c_ d_)))))))),b⟩) (l_ 12 rfl zk (cH_ (k:=(f.a,f.r)) (dd:=f.b) I (by rw[ec_];exact H) rfl rfl rfl (eb_ (m_ (j_ d_) (G_ x_ x_))) λX G=>?_));refine Zz 5 ?_;refine t_ (X_ (j_ d_) (X_ (j_ d_) (X_ (j_ d_) (X_ (j_ d_) (be_ (j_ d_)))))) ?_;refine V_ ((a0,.cells #[str f.b] 9 (0,0))::Pu) zk ?_;exact lw_
 refine u_ fy_ rfl λL=>Zz 3 ?_
 refine l_ 10 rfl zk (u_ fy_ rfl λN=>Zz 3 ?_);refine l_ 12 rfl zk (n_ 0 il_ rfl rfl rfl rfl rfl rfl (Zz 3 ?_));refine l_ 13 rfl zk (n_ 1 il_ rfl rfl rfl rfl rfl rfl (Zz 6 ?_));let Qu:Hp:=((N,.cells #[str f.a,str f.r] 146 (0,0))::((L,.cells #[str f.b,str f.r] 146 (0,0))::((F,.cells #[str f.a] 9 (0,0))::((O,.cells #[i4_ f.kind,str f.a,str f.b,str f.r,i4_ f.lo,i4_ f.hi] 87 (0,0))::[]))));refine V_ Qu zk ?_;refine s_ 6 [0,1,2,3,4,5,6] zk zs (Zz 8 ?_);refine l_ 7 rfl zk (M_ B_ U_ at_ rfl rfl rfl rfl rfl rfl λa0=>Zz 3 ?_);refine l_ 8 rfl zk ?_;have Y:=(W (f.a,f.r)).1;refine eT_ (k:=(f.a,f.r)) dz_ ho fW_ ca_ rfl rfl (c_ (c_ (c_ (c_ (c_ (j_ (j_ x_))))))) rfl λa3 b3 b2 a8 b4 b1 a7 I K=>Zz 2 ?_
 refine H_ (λ_ a b=>⟨Vw.sat.sub (a.perm (m_ (c_ (j_ (j_ (c_ d_)))) (m_ (c_ (j_ (j_ (c_ d_)))) (m_ (c_ (j_ (j_ (c_ d_)))) (c_ (j_ (j_ (c_ d_)))))))),b⟩) (s_ 2 [9,11] zk (λ_ a b=>⟨Vw.sat.sub (a.perm (m_ (c_ (j_ (j_ (c_ d_)))) (m_ (c_ (j_ (j_ (c_ d_)))) (m_ (c_ (j_ (j_ (c_ d_)))) (c_ (j_ (j_ (c_ d_)))))))),b⟩) (Zz 3 ?_));refine l_ 10 rfl zk (am_ (news:=List.flatMap ar_ [f.b]) eC_ K rfl rfl zp rfl (eR_ zp) (λu A=>aG_ dE_ A) zaj_ zaa_ rfl λa9 b5 m=>?_);have H:=zsa m;refine Zz 2 ?_;refine H_ (λ_ a b=>⟨Vw.sat.sub (a.perm (m_ (j_ (c_ (j_ (c_ d_)))) (m_ (j_ (c_ (j_ (c_ d_)))) (m_ (j_ (c_ (j_ (c_ d_)))) (j_ (c_ (j_ (c_ d_)))))))),b⟩) (l_ 12 rfl zk (cH_ (k:=(f.a,f.r)) (dd:=f.b) I (by rw[ec_];exact H) rfl rfl rfl (eb_ (m_ (j_ d_) (G_ x_ x_))) λX G=>?_));refine Zz 5 ?_;refine t_ (X_ (j_ d_) (X_ (j_ d_) (X_ (j_ d_) (X_ (j_ d_) (be_ (j_ d_)))))) ?_;refine V_ ((a0,.cells #[str f.b] 9 (0,0))::Qu) zk ?_;exact lw_):G:=h
theorem Aa_ (B:EngB) (E:Emt prog 87) (x:Ix) (f:Fc) (nw fm:List Fc) (Hs:Hp) (hS:E.St nw fm Hs) (Ha Hu Ho Hi Hr Hm:Hp) (hI:IxO 9 87 B x ⟨Ha,Hu,Ho,Hi,Hr,Hm⟩) (hxl:∀ k,(lat x.above k).length<=1000000000/\(lat x.under k).length<=1000000000) (W:∀ k,(lat x.frm k).length<=1000000000/\(lat x.into k).length<=1000000000/\(lat x.ranges k).length<=1000000000/\(lat x.firms k).length<=1000000000):Tri prog 33 #[zp_ B.g 0,Fc.val f] (Ha++(Hu++(Ho++(Hi++(Hr++(Hm++Hs)))))) [gF B E] (λ_:{y:IxH // IxO 9 87 B (x.add (decide (f∈fm)) f) y}=>.tuple #[]) (λy=>y.1.a++(y.1.u++(y.1.o++(y.1.i++(y.1.r++(y.1.s++Hs)))))) (λ_=>[]):=by
 refine g_ func33 rfl rfl ntmps33 rfl λv_1=>?_;obtain⟨ha,A,ho,hi,hr,hm⟩:=hI;dsimp only at ha A ho hi hr hm;refine Zz 2 ?_;refine F_ rfl rfl λO=>Zi 11 (λc1=>?_) λc1=>?_
 .refine Zi 6 (λV=>?_) λV=>?_
  .refine Zi 6 (λZ=>?_) λZ=>?_
   .refine Zz 6 ?_
    exact bK_ wJ_ ⟨IxH.mk Ha Hu Ho Hi Hr Hm,by unfold Ix.add;rw[yaf_ zae_,yaf_ zae_,yaf_ zae_];exact⟨ha,A,ho,hi,hr,hm⟩⟩ rfl zp zt
   refine Zz 10 ?_;refine e_ (w_ hp_ rfl rfl) rfl (u_ fy_ rfl λF=>n_ 0 il_ rfl rfl rfl rfl rfl rfl (Zz 3 ?_));let Qu:Array Value:=#[i4_ f.kind,str f.a,str f.b,str f.r,i4_ f.lo,i4_ f.hi];let Pu:Hp:=((F,.cells #[str f.a,str f.r] 146 (0,0))::((O,.cells Qu 87 (0,0))::[]));refine V_ Pu zk ?_;refine s_ 6 [0,1,2,3,4,5] zk zs (Zz 7 ?_);refine l_ 6 rfl zk (M_ ai_ N_ W_ rfl rfl rfl rfl rfl rfl λL=>Zz 3 ?_);refine l_ 7 rfl zk ?_;have b8:=(W (f.a,f.r)).2.2.1;refine eT_ (k:=(f.a,f.r)) dz_ hr wE_ qn_ rfl rfl (c_ (c_ (c_ (j_ (j_ (j_ (j_ x_))))))) rfl λes_1 ce_1 b2 a8 ve_1 Hk_1 Hx_1 v Q=>Zz 3 ?_
   refine s_ 2 [8,10] zk zs (Zz 3 ?_);refine l_ 9 rfl zk (am_ (news:=List.flatMap Fc.cells [f]) jB_ Q rfl rfl zp rfl (eR_ zp) (λu A=>aG_ Fc.cells_one A) zaj_ zaa_ rfl λa5 b0 c1=>?_);have J:=zsa c1;refine Zz 3 ?_;refine l_ 11 rfl zk (cH_ (k:=(f.a,f.r)) (dd:=f) v (by rw[ec_];exact J) rfl rfl rfl (eb_ (m_ (j_ d_) (G_ x_ x_))) λM d=>?_);refine Zz 5 ?_;refine t_ (X_ (j_ d_) (X_ (j_ d_) (be_ (j_ d_)))) (Zz 2 ?_);refine s_ 0 [0,1,2,3,4,5] zk zs (Zz 5 ?_);refine ef_ rfl (qo_ (f:=f) hS gy_ bj_ bO_ rfl rfl zp) rfl λr_1 m=>Zz 3 ?_
   cases r_1
   .replace m:=zdf m
    refine Zz 3 ?_;exact bK_ wJ_ ⟨IxH.mk Ha Hu Ho Hi M Hm,by have C:x.add (decide (f∈fm)) f={ x with ranges:=(x.ranges++[((f.a,f.r),f)]) }:=(by unfold Ix.add;rw[yaf_ zaa_,yaf_ zaa_,yaq_ zae_,ybi_ zae_];rfl);rw[C];exact⟨ha,A,ho,hi,d,hm⟩⟩ rfl (G_ (c_ (c_ (c_ (j_ x_)))) (G_ (c_ (c_ (c_ (j_ x_)))) (G_ (c_ (c_ (c_ (j_ x_)))) (G_ (c_ (c_ (c_ (j_ x_)))) (G_ (c_ (c_ (c_ x_))) (G_ (c_ (c_ (c_ x_))) (c_ (c_ E_)))))))) zt
   replace m:=zdt m;refine bG_ rfl ?_;refine V_ ((L,.cells Qu 87 (0,0))::Pu) zk ?_;refine s_ 6 [0,1,2,3,4,5] zk zs (Zz 7 ?_);refine l_ 6 rfl zk (M_ ai_ N_ W_ rfl rfl rfl rfl rfl rfl λN=>Zz 3 ?_);refine l_ 7 rfl zk ?_;have Y:=(W (f.a,f.r)).2.2.2;refine eT_ (k:=(f.a,f.r)) dz_ hm wE_ qn_ rfl rfl zp rfl λa3 b3 a6 a4 b4 b1 a7 I K=>Zz 2 ?_
   refine H_ zs (s_ 2 [8,10] zk zs (Zz 3 ?_));refine l_ 9 rfl zk (am_ (news:=List.flatMap Fc.cells [f]) jB_ K rfl rfl zp rfl (eR_ zp) (λu A=>aG_ Fc.cells_one A) zaj_ zaa_ rfl λa9 b5 V=>?_);have H:=zsa V;refine Zz 2 ?_;refine H_ zs (l_ 11 rfl zk (cH_ (k:=(f.a,f.r)) (dd:=f) I (by rw[ec_];exact H) rfl rfl rfl (eb_ (m_ (j_ d_) (G_ x_ x_))) λX G=>?_));refine Zz 5 ?_;exact bK_ wJ_ ⟨IxH.mk Ha Hu Ho Hi M X,by have C:x.add (decide (f∈fm)) f={ x with ranges:=(x.ranges++[((f.a,f.r),f)]),firms:=(x.firms++[((f.a,f.r),f)]) }:=(by unfold Ix.add;rw[yaf_ zaa_,yaf_ zaa_,yaq_ zae_,yaE_ zae_];rfl);rw[C];exact⟨ha,A,ho,hi,d,G⟩⟩ rfl (G_ (j_ (c_ (c_ (c_ (c_ (j_ x_)))))) (G_ (j_ (c_ (c_ (c_ (c_ (j_ x_)))))) (G_ (j_ (c_ (c_ (c_ (c_ (j_ x_)))))) (G_ (j_ (c_ (c_ (c_ (c_ (j_ x_)))))) (G_ (j_ (c_ (c_ (c_ (c_ x_))))) (G_ x_ (c_ (c_ (c_ E_))))))))) zt
  refine Zz 4 ?_;have b8:=(hxl f.b).2;refine pu_ hR_ f.b A (c_ (j_ x_)) λes_1 ce_1 ve_1 Hk_1 Hx_1 Q v=>?_;refine t_ (X_ d_ (be_ (j_ (j_ d_)))) (bb_ ?_);refine V_ ((O,.cells #[i4_ f.kind,str f.a,str f.b,str f.r,i4_ f.lo,i4_ f.hi] 87 (0,0))::[]) zk ?_;refine s_ 4 [0,1,2,3,4,5,6,7,8,9,10,11,13,14] zk zs (Zz 15 ?_);refine do_ 12 15 rfl rfl zk ?_ ?_
  .refine e_ (fJ_ (k:=f.b) hR_ v db_ ca_ rfl rfl 0 rfl) rfl (Zz 3 ?_)
   refine l_ 15 rfl zk (M_ B_ U_ at_ rfl rfl rfl rfl rfl rfl λF=>Zz 3 ?_);exact lx_
  refine M_ B_ U_ at_ rfl rfl rfl rfl rfl rfl λF=>Zz 3 ?_
  refine l_ 12 rfl zk (e_ (fJ_ (k:=f.b) hR_ v db_ ca_ rfl rfl 1 rfl) rfl (Zz 3 ?_));exact lx_
 refine Zz 4 ?_;have b8:=(hxl f.a).1;refine pu_ hR_ f.a ha (c_ x_) λes_1 ce_1 ve_1 Hk_1 Hx_1 Q v=>?_;refine t_ (X_ d_ (be_ (j_ (j_ d_)))) ?_;refine V_ ((O,.cells #[i4_ f.kind,str f.a,str f.b,str f.r,i4_ f.lo,i4_ f.hi] 87 (0,0))::[]) zk ?_;refine s_ 4 [0,1,2,3,4,5,6,7,8,9,10,11,13,14] zk zs (Zz 15 ?_);refine do_ 12 15 rfl rfl zk ?_ ?_
 .refine e_ (fJ_ (k:=f.a) hR_ v db_ ca_ rfl rfl 0 rfl) rfl (Zz 3 ?_)
  refine l_ 15 rfl zk (M_ B_ U_ at_ rfl rfl rfl rfl rfl rfl λF=>Zz 3 ?_);exact lv_
 refine M_ B_ U_ at_ rfl rfl rfl rfl rfl rfl λF=>Zz 3 ?_
 refine l_ 12 rfl zk (e_ (fJ_ (k:=f.a) hR_ v db_ ca_ rfl rfl 1 rfl) rfl (Zz 3 ?_));exact lv_
end Go.Proofs.YtfjcabalehamcaaGreatDoor
