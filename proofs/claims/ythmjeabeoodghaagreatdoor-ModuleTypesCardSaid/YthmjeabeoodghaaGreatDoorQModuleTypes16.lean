/-
  Lemmas for the law ModuleTypes (no condition).
-/
import Derived.Test.YthmjeabeoodghaaGreatDoorQModuleTypes15
set_option linter.unusedVariables false
set_option linter.unusedSimpArgs false
set_option linter.unusedSectionVars false
set_option maxHeartbeats 1000000
namespace Go.Proofs.YthmjeabeoodghaaGreatDoor
open Go Go.Sx Go.Proofs Tryz
attribute [local irreducible] Code.wp wpList wpAnyH
open Go.Vs
theorem strt51:gQ_ prog 51 [(0,1),(1,1),(2,1),(3,1)] [.slice none 0 0,.slice none 0 0,.slice none 0 0,.slice none 0 0]:=⟨_,zeroValue51,runUnderlying51,fun w=>by simp[dX_]⟩
abbrev axA (x:Ax):Array Value:=#[.int .i64 x.kind,.bool x.opn,.int .i64 x.left.kind,str x.left.name,.int .i64 x.left.lo,.int .i64 x.left.hi,.slice x.left.ad x.left.parts.length x.left.cap,.int .i64 x.right.kind,str x.right.name,.int .i64 x.right.lo,.int .i64 x.right.hi,.slice x.right.ad x.right.parts.length x.right.cap,.slice x.ad x.roles.length x.cap,str x.role,str x.a,str x.b]
abbrev coA (c:Con):Array Value:=#[.int .i64 c.kind,str c.name,.int .i64 c.lo,.int .i64 c.hi,.slice c.ad c.parts.length c.cap]
theorem zD_ {A B:Hp} {l D:Nat} {r:Loop} {Ds:List Nat}:(B++(mkH Ds++A)++HLp l D r).Perm ((mkH (D::Ds)++A)++(B++[(l,.loop r)])):=by
  have d:(B++(mkH Ds++A)++HLp l D r).Perm ((mkH Ds++A)++B++HLp l D r):=List.Perm.append_right _ List.perm_append_comm;have e:(mkH Ds++A)++B++HLp l D r=((mkH Ds++A)++(B++[(l,.loop r)]))++[(D,.deferred (some []))]:=by simp[HLp]
  rw[e]at d;exact d.trans List.perm_append_comm
theorem jE_ {P:Program} {N:Nf} {J:Vw} {S H:Hp} {R:Exit→Act→World→Prop} {L:List Kt} {fr:Fr} {Γ:List Fct} {A:Array Oper} {lo:List Oper} {ty:TypeId} {ps:String} {V:Array Edge} {o:Op} {t O T:TypeId} {x y z:Operand} {b:Nat} (n:Nat) (s:StM) {k:Str} (B:KeyT P O str) (G:o=.insert t x y z∨o=.mapUpdate t x y z) (I:∀ w,(underlying t).run P w=.ok (.map O T) w)
    (M:Fr.ev fr x=some (.map (some b))) (Q:Fr.ev fr y=some (str k)) (K:Fr.ev fr z=some (.bool true)) (hi:H[n]? = some (b,.map s.es s.c))
    (d:Ops P R N J S A lo L fr (H.set n (b,.map (s.add k).es (s.add k).c)) Γ):Ops P R N J S A (⟨none,o,ty,ps,V,none⟩::lo) L fr H Γ:=by
  by_cases h:k∈s.ks
  · have E:s.add k=s:=by unfold StM.add;rw[dif_pos h]
    rw[E]at d;obtain⟨i,e,U,m,v,F,C⟩:=s.hE.yes B h;refine fy_ (e:=e) (i:=i) (u:=.bool true) (u':=.bool true) n B G I M Q K hi C m v ?_;rw[hd_ m v F];exact d
  · have E:s.add k=⟨s.es.push ⟨str k,.bool true,s.c⟩,s.c+1,s.ks++[k],s.hE.push h s.c,s.hB.push _ _⟩:=by unfold StM.add;rw[dif_neg h]
    rw[E]at d;exact aC_ n G I M Q K hi (B.ok _) (s.hE.no B h) d
theorem AF_ {x:Ax} (h:x.check=0):x.roles.length≤4:=by
 unfold Ax.check at h
 split at h
 ·cases h
 rename_i m
 clear h;simp only[Bool.not_eq_false]at m;unfold Ax.shaped at m
 split at m
 ·cases m
 rename_i y
 simp only[not_or]at y;have v:x.kind=1∨x.kind=2∨x.kind=3∨x.kind=4∨x.kind=5∨x.kind=6∨x.kind=7∨x.kind=8∨x.kind=9:=by omega
 simp only[Bool.and_eq_true,decide_eq_true_eq]at m;have d:=m.2;rcases v with e|e|e|e|e|e|e|e|e<;>rw[e]at d<;>simp[us,pE_]at d<;>first|omega|(rw[d];decide)
def rkS (r:List Str×Ao×Nat):Prop:=r.1.length≤r.2.2∧r.2.2≤maxLen∧(r.2.1=none→r.2.2=0)
set_option maxHeartbeats 1000000 in
theorem CM_ (M:List Ax) (lad:Ao) (lcap:Nat) (hok:∀ x∈M,x.ok) (hC:∀ x∈M,x.check=0) (hll:M.length≤20):Tri prog 22 #[.slice lad M.length lcap] [] [ch_ lad M,bN_] (fun y:{y:(List Str×Ao×Nat)×(List Str×Ao×Nat)×(List Str×Ao×Nat)×(List Str×Ao×Nat) // (jP_ 3 M y.1.1∧rkS y.1)∧(jP_ 6 M y.2.1.1∧rkS y.2.1)∧(jP_ 7 M y.2.2.1.1∧rkS y.2.2.1)∧(jP_ 4 M y.2.2.2.1∧rkS y.2.2.2)}=>.tuple #[.agg #[.slice y.1.1.2.1 y.1.1.1.length y.1.1.2.2,.slice y.1.2.1.2.1 y.1.2.1.1.length y.1.2.1.2.2,.slice y.1.2.2.1.2.1 y.1.2.2.1.1.length y.1.2.2.1.2.2,.slice y.1.2.2.2.2.1 y.1.2.2.2.1.length y.1.2.2.2.2.2],.int .i64 0]) (fun _=>[]) (fun y=>[X_ y.1.1.2.1 (y.1.1.1.flatMap au_),X_ y.1.2.1.2.1 (y.1.2.1.1.flatMap au_),X_ y.1.2.2.1.2.1 (y.1.2.2.1.1.flatMap au_),X_ y.1.2.2.2.2.1 (y.1.2.2.2.1.flatMap au_)]):=by
 refine em_ func22 rfl rfl ntmps22 rfl fun v_1=>?_;have hx_1:=(@axA,@coA);have hzb:∀ x∈M,x.left.sz≤1000000∧x.right.sz≤1000000∧x.roles.length≤1000000:=fun x hx=>⟨by have:=(is_ (hC x hx)).1;omega,by have:=(is_ (hC x hx)).2;omega,by have:=AF_ (hC x hx);omega⟩
 refine Zz 2 ?_;refine y_ zeroValue51 rfl fun J=>Zz 12 ?_
 refine O_ (ι:={y:Nat // y≤List.length M}) (fun y=>[(0,.slice lad M.length lcap),(2,zp_ J 0),(3,.int .i64 0),(21,.slice lad M.length lcap),(22,.int .i64 (List.length M:Int)),(23,.int .i64 (y.1:Int))]) (fun y=>((J,.cells #[.slice none 0 0,.slice none 0 0,.slice none 0 0,.slice none 0 0] 51 (0,0))::[])) (fun y=>[ch_ lad M,bN_]) (fun y=>M.length - y.1) ⟨(0:Nat),by simp⟩ zl d_ zh ?_;rintro ⟨Y,hi_i0⟩;dsimp only at hi_i0 ⊢;refine Zi 2 (fun R=>?_) fun R=>?_
 ·refine Zz 8 ?_
  refine bu_ rfl fun m=>bu_ rfl fun C=>Zz 6 ?_
  refine bu_ rfl fun A=>bu_ rfl fun B=>Zz 6 ?_
  refine bu_ rfl fun H=>Zz 1 ?_
  refine aC_ 0 (.inl rfl) cA_ rfl rfl rfl rfl (aS_ m_) (ay_ m_ rfl) (Zz 1 ?_);refine aC_ 0 (.inl rfl) cA_ rfl rfl rfl rfl (aS_ m_) (ay_ m_ rfl) (Zz 1 ?_);refine aC_ 0 (.inl rfl) cA_ rfl rfl rfl rfl (aS_ m_) (ay_ m_ rfl) (Zz 1 ?_);refine aC_ 0 (.inl rfl) cA_ rfl rfl rfl rfl (aS_ m_) (ay_ m_ rfl) (Zz 1 ?_);refine y_ zeroValue102 rfl fun L=>o_ 0 sizeOf102 rfl rfl rfl rfl rfl rfl (Zz 11 ?_)
  refine A_ (H':=((L,.cells #[.map (some H)] 102 (0,0))::((H,.map #[⟨.int .i64 3,.map (some m),0⟩,⟨.int .i64 6,.map (some C),1⟩,⟨.int .i64 7,.map (some A),2⟩,⟨.int .i64 4,.map (some B),3⟩] 4)::((B,.map #[] 0)::((A,.map #[] 0)::((C,.map #[] 0)::((m,.map #[] 0)::((J,.cells #[.slice none 0 0,.slice none 0 0,.slice none 0 0,.slice none 0 0] 51 (0,0))::(mkH []))))))))) (.refl _) ?_;refine lE_ (N:=fun y=>⟨110,mks y.1.2.2⟩) (ι:={y:Nat×S4×List Nat // y.1≤List.length M∧V4 y.2.1 (fun k=>vcL k (M.take y.1))}) (fun y=>[(0,.slice lad M.length lcap),(2,zp_ J 0),(3,.int .i64 0),(21,.slice lad M.length lcap),(22,.int .i64 (List.length M:Int)),(23,.int .i64 (Y:Int)),(7,.map (some m)),(8,.map (some C)),(9,.map (some A)),(10,.map (some B)),(11,zp_ L 0),(44,.slice lad M.length lcap),(45,.int .i64 (List.length M:Int)),(46,.int .i64 (y.1.1:Int))]) (fun y=>((L,.cells #[.map (some H)] 102 (0,0))::((H,.map #[⟨.int .i64 3,.map (some m),0⟩,⟨.int .i64 6,.map (some C),1⟩,⟨.int .i64 7,.map (some A),2⟩,⟨.int .i64 4,.map (some B),3⟩] 4)::((B,.map y.1.2.1.2.2.2.es y.1.2.1.2.2.2.c)::((A,.map y.1.2.1.2.2.1.es y.1.2.1.2.2.1.c)::((C,.map y.1.2.1.2.1.es y.1.2.1.2.1.c)::((m,.map y.1.2.1.1.es y.1.2.1.1.c)::((J,.cells #[.slice none 0 0,.slice none 0 0,.slice none 0 0,.slice none 0 0] 51 (0,0))::(mkH y.1.2.2))))))))) (fun y=>[ch_ lad M,bN_]) (fun y=>M.length - y.1.1) ⟨((0:Nat),((StM.nil,StM.nil,StM.nil,StM.nil):S4),([]:List Nat)),by simp,V4.nil.cg fun k=>by simp[vcL]⟩ zl zp zh ?_;rintro ⟨⟨i,s,Ds⟩,hi_i,hV⟩;dsimp only at hi_i hV ⊢;refine Zi 2 (fun hr_2=>?_) fun hr_2=>?_
  ·refine Zz 7 ?_
   rw[List.take_of_length_le zaa_]at hV;have W:∀ k,List.length (vcL k M)≤80000000:=fun k=>Nat.le_trans (kM_ hzb) zaa_
   have hq_1:s.1.ks.length≤100000000:=by have:=hV.c.len;have:=W 3;omega
   have hq_2:List.length (List.filter (fun q=>decide (q≠[])) s.2.1.ks)≤100000000:=by have:=hV.r.len;have:=W 6;have:=List.length_filter_le (fun q=>decide (q≠[])) s.2.1.ks;omega
   have hq_3:s.2.2.1.ks.length≤100000000:=by have:=hV.f.len;have:=W 7;omega
   have hq_4:List.length (List.filter (fun q=>decide (q≠[])) s.2.2.2.ks)≤100000000:=by have:=hV.i.len;have:=W 4;have:=List.length_filter_le (fun q=>decide (q≠[])) s.2.2.2.ks;omega
   refine Zz 2 ?_;refine tc_ 4 ei_ bf_ rfl rfl rfl s.2.1.hE s.2.1.hB rfl fun eD_1 hE_1 hB_1=>Zz 5 ?_
   refine tc_ 2 ei_ bf_ rfl rfl rfl s.2.2.2.hE s.2.2.2.hB rfl fun eD_2 hE_2 hB_2=>Zz 5 ?_
   refine f_ (ld_ m) rfl g_ zt rfl fun a1=>f_ (gm_ 122 [zp_ a1 0] [(a1,.cells #[.map (some m)] 101 (0,0)),(m,.map s.1.es s.1.c)] s.1.ks s.1.hE.nd hq_1 (li_ m a1 s.1.c s.1.es s.1.ks s.1.hE.ke s.1.hB hq_1)) rfl (i_ d_ (c_ (c_ (c_ (c_ (c_ d_)))))) zt rfl fun⟨⟨ad_1,cp_1⟩,V,hs_2,hs_3⟩=>?_;dsimp only;refine Zz 1 ?_;refine f_ (ld_ C) rfl g_ zt rfl fun a4=>f_ (gm_ 122 [zp_ a4 0] [(a4,.cells #[.map (some C)] 101 (0,0)),(C,.map eD_1 s.2.1.c)] (List.filter (fun q=>decide (q≠[])) s.2.1.ks) hE_1.nd hq_2 (li_ C a4 s.2.1.c eD_1 (List.filter (fun q=>decide (q≠[])) s.2.1.ks) hE_1.ke hB_1 hq_2)) rfl zp zt rfl fun⟨⟨ad_2,cp_2⟩,hs_4,hs_5,hs_6⟩=>?_;dsimp only;refine Zz 1 ?_;refine f_ (ld_ A) rfl g_ zt rfl fun a3=>f_ (gm_ 122 [zp_ a3 0] [(a3,.cells #[.map (some A)] 101 (0,0)),(A,.map s.2.2.1.es s.2.2.1.c)] s.2.2.1.ks s.2.2.1.hE.nd hq_3 (li_ A a3 s.2.2.1.c s.2.2.1.es s.2.2.1.ks s.2.2.1.hE.ke s.2.2.1.hB hq_3)) rfl zp zt rfl fun⟨⟨ad_3,cp_3⟩,hs_7,hs_8,hs_9⟩=>?_;dsimp only;refine Zz 1 ?_;refine f_ (ld_ B) rfl g_ zt rfl fun a2=>f_ (gm_ 122 [zp_ a2 0] [(a2,.cells #[.map (some B)] 101 (0,0)),(B,.map eD_2 s.2.2.2.c)] (List.filter (fun q=>decide (q≠[])) s.2.2.2.ks) hE_2.nd hq_4 (li_ B a2 s.2.2.2.c eD_2 (List.filter (fun q=>decide (q≠[])) s.2.2.2.ks) hE_2.ke hB_2 hq_4)) rfl zp zt rfl fun⟨⟨ad_4,cp_4⟩,hs_10,hs_11,hs_12⟩=>?_;dsimp only;refine e_ (u_ strt51 rfl rfl) rfl (o_ 10 sizeOf51 rfl rfl rfl rfl rfl rfl (Zz 4 ?_));exact retMs ⟨((bJ_ s.1.ks,ad_1,cp_1),(bJ_ (List.filter (fun q=>decide (q≠[])) s.2.1.ks),ad_2,cp_2),(bJ_ s.2.2.1.ks,ad_3,cp_3),(bJ_ (List.filter (fun q=>decide (q≠[])) s.2.2.2.ks),ad_4,cp_4)),⟨jP_.of hV.c zaa_,V,hs_2,hs_3⟩,⟨jP_.ofD hV.r zaa_,hs_4,hs_5,hs_6⟩,⟨jP_.of hV.f zaa_,hs_7,hs_8,hs_9⟩,⟨jP_.ofD hV.i zaa_,hs_10,hs_11,hs_12⟩⟩ (fun aa v h_1 h_2 _=>bM_ (us:=[.slice ad_1 (List.length (bJ_ s.1.ks)) cp_1,.slice ad_2 (List.length (bJ_ (List.filter (fun q=>decide (q≠[])) s.2.1.ks))) cp_2,.slice ad_3 (List.length (bJ_ s.2.2.1.ks)) cp_3,.slice ad_4 (List.length (bJ_ (List.filter (fun q=>decide (q≠[])) s.2.2.2.ks))) cp_4]) 10 results22 isAgg51 sizeOf51 rfl rfl rfl rfl aa v h_1 h_2) (c_ (c_ (c_ (c_ (c_ (c_ (c_ (c_ (c_ (c_ C_)))))))))) ⟨_,.refl _⟩ zf
  obtain⟨S,d,hx_2,O⟩:=zge (show i<M.length by omega);have hrc:=(hok d O).cap;refine Zz 12 ?_;refine y_ aG_ rfl fun P=>o_ 0 H_ rfl rfl rfl rfl rfl rfl (Zz 9 ?_)
  refine G_ ab_ n_ aH_ rfl rfl rfl rfl rfl rfl fun X=>?_;refine aq_ (List.flatMap Con.cells [d.left,d.right]) d_ rfl ?_;refine Zz 5 ?_;refine lE_ (N:=fun y=>⟨110,mks y.1.2.2⟩) (ι:={y:Nat×S4×List Nat // y.1≤List.length [d.left,d.right]∧V4 y.2.1 (fun k=>vcL k (M.take i)++List.flatMap (Con.nms k) (List.take y.1 [d.left,d.right]))}) (fun y=>[(0,.slice lad M.length lcap),(2,zp_ J 0),(3,.int .i64 0),(21,.slice lad M.length lcap),(22,.int .i64 (List.length M:Int)),(23,.int .i64 (Y:Int)),(7,.map (some m)),(8,.map (some C)),(9,.map (some A)),(10,.map (some B)),(11,zp_ L 0),(44,.slice lad M.length lcap),(45,.int .i64 (List.length M:Int)),(46,.int .i64 (i:Int)),(13,zp_ P 0),(54,.slice (some ⟨X,0,none⟩) (List.length [d.left,d.right]) 2),(55,.int .i64 2),(56,.int .i64 (y.1.1:Int))]) (fun y=>((P,.cells #[.int .i64 d.kind,.bool d.opn,.int .i64 d.left.kind,str d.left.name,.int .i64 d.left.lo,.int .i64 d.left.hi,.slice d.left.ad d.left.parts.length d.left.cap,.int .i64 d.right.kind,str d.right.name,.int .i64 d.right.lo,.int .i64 d.right.hi,.slice d.right.ad d.right.parts.length d.right.cap,.slice d.ad d.roles.length d.cap,str d.role,str d.a,str d.b] 30 (0,0))::((L,.cells #[.map (some H)] 102 (0,0))::((H,.map #[⟨.int .i64 3,.map (some m),0⟩,⟨.int .i64 6,.map (some C),1⟩,⟨.int .i64 7,.map (some A),2⟩,⟨.int .i64 4,.map (some B),3⟩] 4)::((B,.map y.1.2.1.2.2.2.es y.1.2.1.2.2.2.c)::((A,.map y.1.2.1.2.2.1.es y.1.2.1.2.2.1.c)::((C,.map y.1.2.1.2.1.es y.1.2.1.2.1.c)::((m,.map y.1.2.1.1.es y.1.2.1.1.c)::((J,.cells #[.slice none 0 0,.slice none 0 0,.slice none 0 0,.slice none 0 0] 51 (0,0))::(mkH y.1.2.2)))))))))) (fun y=>[X_ (some ⟨X,0,none⟩) (List.flatMap Con.cells [d.left,d.right]),ch_ lad M,bN_]) (fun y=>List.length [d.left,d.right] - y.1.1) ⟨((0:Nat),s,Ds),by simp,hV.cg fun k=>by simp⟩ zl (i_ d_ (i_ d_ (i_ d_ (i_ d_ (i_ d_ (i_ d_ (i_ d_ (i_ d_ aj_)))))))) zh ?_;rintro ⟨⟨j,s,Ds⟩,hi_j,U⟩;dsimp only at hi_j U ⊢;refine Zi 2 (fun hr_3=>?_) fun hr_3=>?_
  ·refine Zz 16 ?_
   have hV2e:V4 s (fun k=>vcL k (M.take i)++List.flatMap (Con.nms k) [d.left,d.right]):=by rw[List.take_of_length_le (l:=[d.left,d.right]) zaY_]at U;exact U
   refine lE_ (N:=fun y=>⟨110,mks y.1.2.2⟩) (ι:={y:Nat×S4×List Nat // y.1≤List.length d.roles∧V4 y.2.1 (fun k_1=>(vcL k_1 (M.take i)++List.flatMap (Con.nms k_1) [d.left,d.right])++if k_1=6 then List.take y.1 d.roles else [])}) (fun y=>[(0,.slice lad M.length lcap),(2,zp_ J 0),(3,.int .i64 0),(21,.slice lad M.length lcap),(22,.int .i64 (List.length M:Int)),(23,.int .i64 (Y:Int)),(7,.map (some m)),(8,.map (some C)),(9,.map (some A)),(10,.map (some B)),(11,zp_ L 0),(44,.slice lad M.length lcap),(45,.int .i64 (List.length M:Int)),(46,.int .i64 (i:Int)),(13,zp_ P 0),(54,.slice (some ⟨X,0,none⟩) (List.length [d.left,d.right]) 2),(55,.int .i64 2),(56,.int .i64 (j:Int)),(76,.slice d.ad d.roles.length d.cap),(77,.int .i64 (List.length d.roles:Int)),(78,.int .i64 (y.1.1:Int))]) (fun y=>((P,.cells (axA d) 30 (0,0))::((L,.cells #[.map (some H)] 102 (0,0))::((H,.map #[⟨.int .i64 3,.map (some m),0⟩,⟨.int .i64 6,.map (some C),1⟩,⟨.int .i64 7,.map (some A),2⟩,⟨.int .i64 4,.map (some B),3⟩] 4)::((B,.map y.1.2.1.2.2.2.es y.1.2.1.2.2.2.c)::((A,.map y.1.2.1.2.2.1.es y.1.2.1.2.2.1.c)::((C,.map y.1.2.1.2.1.es y.1.2.1.2.1.c)::((m,.map y.1.2.1.1.es y.1.2.1.1.c)::((J,.cells #[.slice none 0 0,.slice none 0 0,.slice none 0 0,.slice none 0 0] 51 (0,0))::(mkH y.1.2.2)))))))))) (fun y=>[X_ (some ⟨X,0,none⟩) (List.flatMap Con.cells [d.left,d.right]),ch_ lad M,bN_]) (fun y=>d.roles.length - y.1.1) ⟨((0:Nat),s,Ds),by simp,hV2e.cg fun k=>by simp⟩ zl zp zh ?_;rintro ⟨⟨k,s,Ds⟩,hi_k,Q⟩;dsimp only at hi_k Q ⊢;refine Zi 2 (fun hr_4=>?_) fun hr_4=>?_
   ·refine Zz 7 ?_
    rw[List.take_of_length_le (l:=Ax.roles d) zaa_]at Q;refine Zz 4 ?_;refine jE_ 5 s.2.1 ei_ (.inr rfl) bf_ rfl rfl rfl rfl (Zz 7 ?_);refine jE_ 3 ((s.addR d.role).2.2.2) ei_ (.inr rfl) bf_ rfl rfl rfl rfl (Zz 6 ?_);refine jE_ 3 (((s.addR d.role).addI d.a).2.2.2) ei_ (.inr rfl) bf_ rfl rfl rfl rfl (Zz 7 ?_);exact jF_ ⟨(i+1,(((s.addR d.role).addI d.a).addI d.b),Ds),S,Q.axm hx_2⟩ zab_ zl (i_ (c_ d_) (i_ (c_ d_) (i_ (c_ d_) (i_ (c_ d_) (i_ (c_ d_) (i_ (c_ d_) (i_ (c_ d_) C_))))))) (fun _ _ h=>h.2)
   have a6:k<d.roles.length:=by omega
   obtain⟨r_1,R⟩:∃ e_1,d.roles[k]? = some e_1:=⟨_,List.getElem?_eq_getElem a6⟩;refine Zz 10 ?_;refine e_ (U_ t_ M_ rfl rfl (fun v _ h=>aK_ (n:=1) aY_ zad_ (by exact (h.2.1.2 d O).2.2) R) zaa_ zah_) rfl ?_;refine e_ (bP_ (ad:=d.ad) ai_ rfl (fun v _ h=>by exact (h.2.1.2 d O).2.2) (z_ aY_ R 0 _ rfl)) rfl (Zz 6 ?_);refine jE_ 5 s.2.1 ei_ (.inr rfl) bf_ rfl rfl rfl rfl (Zz 7 ?_);exact jF_ ⟨(k+1,(s.addR r_1),Ds),a6,Q.role R⟩ zab_ zl zp zh
  have hlc_1:j<List.length [d.left,d.right]:=by simp only[List.length_cons,List.length_nil]at *;omega
  obtain⟨e,a5⟩:∃ e_1,[d.left,d.right][j]? = some e_1:=⟨_,List.getElem?_eq_getElem hlc_1⟩;have a0:e∈[d.left,d.right]:=List.mem_of_getElem? a5;refine Zz 11 ?_;refine e_ (al_ (ad:=(some ⟨X,0,none⟩)) (us:=Con.cells e) ac_ n_ rfl zf (Con.cells_len _) (z_ Con.cells_len a5)) rfl (y_ aH_ rfl fun K=>o_ 0 n_ rfl rfl rfl rfl rfl rfl (Zz 5 ?_));refine f_ (um_ e) rfl g_ zt rfl fun bw=>Zz 3 ?_
  refine bt_ [(0,.slice lad M.length lcap),(2,zp_ J 0),(3,.int .i64 0),(21,.slice lad M.length lcap),(22,.int .i64 (List.length M:Int)),(23,.int .i64 (Y:Int)),(7,.map (some m)),(8,.map (some C)),(9,.map (some A)),(10,.map (some B)),(11,zp_ L 0),(44,.slice lad M.length lcap),(45,.int .i64 (List.length M:Int)),(46,.int .i64 (i:Int)),(13,zp_ P 0),(54,.slice (some ⟨X,0,none⟩) (List.length [d.left,d.right]) 2),(55,.int .i64 2),(56,.int .i64 (j:Int)),(61,.func (.func 119) #[] #[zp_ bw 0])] zl ?_;have hokc:e.ok:=(jl_ (hok d O) (hzb d O).1 (hzb d O).2.1 a0).1;refine dk_ (H':=(bw,.cells (Con.cells e).toArray 28 (0,0))::(mkH Ds++[(m,.map s.1.es s.1.c),(C,.map s.2.1.es s.2.1.c),(A,.map s.2.2.1.es s.2.2.1.c),(B,.map s.2.2.2.es s.2.2.2.c),(K,.cells #[.int .i64 e.kind,str e.name,.int .i64 e.lo,.int .i64 e.hi,.slice e.ad e.parts.length e.cap] 28 (0,0)),(P,.cells #[.int .i64 d.kind,.bool d.opn,.int .i64 d.left.kind,str d.left.name,.int .i64 d.left.lo,.int .i64 d.left.hi,.slice d.left.ad d.left.parts.length d.left.cap,.int .i64 d.right.kind,str d.right.name,.int .i64 d.right.lo,.int .i64 d.right.hi,.slice d.right.ad d.right.parts.length d.right.cap,.slice d.ad d.roles.length d.cap,str d.role,str d.a,str d.b] 30 (0,0)),(L,.cells #[.map (some H)] 102 (0,0)),(H,.map #[⟨.int .i64 3,.map (some m),0⟩,⟨.int .i64 6,.map (some C),1⟩,⟨.int .i64 7,.map (some A),2⟩,⟨.int .i64 4,.map (some B),3⟩] 4),(J,.cells #[.slice none 0 0,.slice none 0 0,.slice none 0 0,.slice none 0 0] 51 (0,0))])) (F:=[]) (by exact (i_ d_ (B_ (c_ (c_ (c_ (c_ (c_ (c_ (c_ (c_ C_)))))))) (i_ (c_ (c_ (c_ (c_ (c_ (c_ (c_ d_))))))) (i_ (c_ (c_ (c_ (c_ (c_ (c_ d_)))))) (i_ (c_ (c_ (c_ (c_ (c_ d_))))) (i_ (c_ (c_ (c_ (c_ d_)))) (i_ d_ (i_ d_ (i_ d_ (i_ d_ d_))))))))))) zh ?_;refine ux_ (Ds:=Ds) (α:={c:Con // c.ok}) (xv:=fun x=>x.1.val) (good:=fun _=>True) (stp:=fun x s=>.inl (eA_ x.1 s)) (Γx:=fun x=>[x.1.memF]) (Γi:=[Con.memF e]) (Hj:=(fun t:S4=>(mkH Ds++[(m,.map t.1.es t.1.c),(C,.map t.2.1.es t.2.1.c),(A,.map t.2.2.1.es t.2.2.1.c),(B,.map t.2.2.2.es t.2.2.2.c),(K,.cells (coA e) 28 (0,0)),(P,.cells (axA d) 30 (0,0)),(L,.cells #[.map (some H)] 102 (0,0)),(H,.map #[⟨.int .i64 3,.map (some m),0⟩,⟨.int .i64 6,.map (some C),1⟩,⟨.int .i64 7,.map (some A),2⟩,⟨.int .i64 4,.map (some B),3⟩] 4),(J,.cells #[.slice none 0 0,.slice none 0 0,.slice none 0 0,.slice none 0 0] 51 (0,0))]))) (Hc:=[(bw,.cells (Con.cells e).toArray 28 (0,0))]) (caps:=[zp_ bw 0]) s (Con.fold (fun x s=>.inl (eA_ x s)) e s) rfl (.refl _) (fun v _ h=>by exact⟨(tZ_ (h.2.1.2 d O) a0),trivial⟩) ?_ ?_ ?_
  ·rintro l D rec hpa hst hpe ht hasg hbody s ⟨x,hx⟩ -
   refine kf_ (ι:=Nat) (Hj:=(fun t:S4=>(mkH Ds++[(m,.map t.1.es t.1.c),(C,.map t.2.1.es t.2.1.c),(A,.map t.2.2.1.es t.2.2.1.c),(B,.map t.2.2.2.es t.2.2.2.c),(K,.cells (coA e) 28 (0,0)),(P,.cells (axA d) 30 (0,0)),(L,.cells #[.map (some H)] 102 (0,0)),(H,.map #[⟨.int .i64 3,.map (some m),0⟩,⟨.int .i64 6,.map (some C),1⟩,⟨.int .i64 7,.map (some A),2⟩,⟨.int .i64 4,.map (some B),3⟩] 4),(J,.cells #[.slice none 0 0,.slice none 0 0,.slice none 0 0,.slice none 0 0] 51 (0,0))]))) (Hx:=fun _:Empty=>[]) (s:=s) (res:=.inl (eA_ x s)) (Γ:=[x.memF]) (fun I=>[(11,zp_ L 0),(16,zp_ I 0)]) (fun I=>((I,.cells (coA x) 28 (0,0))::(mkH Ds++[(m,.map s.1.es s.1.c),(C,.map s.2.1.es s.2.1.c),(A,.map s.2.2.1.es s.2.2.1.c),(B,.map s.2.2.2.es s.2.2.2.c),(K,.cells (coA e) 28 (0,0)),(P,.cells (axA d) 30 (0,0)),(L,.cells #[.map (some H)] 102 (0,0)),(H,.map #[⟨.int .i64 3,.map (some m),0⟩,⟨.int .i64 6,.map (some C),1⟩,⟨.int .i64 7,.map (some A),2⟩,⟨.int .i64 4,.map (some B),3⟩] 4),(J,.cells #[.slice none 0 0,.slice none 0 0,.slice none 0 0,.slice none 0 0] 51 (0,0))]))) hpa hst hpe ht rfl ?_ ?_
   ·intro n v_1 H_1 Z
    rw[hasg];refine cI_ (H':=((mkH Ds)++((m,.map s.1.es s.1.c)::((C,.map s.2.1.es s.2.1.c)::((A,.map s.2.2.1.es s.2.2.1.c)::((B,.map s.2.2.2.es s.2.2.2.c)::((K,.cells (coA e) 28 (0,0))::((P,.cells (axA d) 30 (0,0))::((L,.cells #[.map (some H)] 102 (0,0))::((H,.map #[⟨.int .i64 3,.map (some m),0⟩,⟨.int .i64 6,.map (some C),1⟩,⟨.int .i64 7,.map (some A),2⟩,⟨.int .i64 4,.map (some B),3⟩] 4)::((J,.cells #[.slice none 0 0,.slice none 0 0,.slice none 0 0,.slice none 0 0] 51 (0,0))::Z))))))))))) (F:=[]) zaf_ zh ?_;refine fP_ (R_ (l_ d_) (R_ (l_ d_) (R_ (l_ d_) (R_ (l_ d_) (R_ (l_ d_) (R_ (l_ d_) (R_ (l_ d_) (R_ (l_ d_) (bg_ (l_ d_)))))))))) ?_;refine av_ ?_;refine oK_ (J_ _) aH_ rfl fun b_12=>?_;refine ef_ (J_ _) 0 n_ rfl rfl rfl rfl rfl rfl ?_;refine bh_ ?_;refine cg_ rfl ?_;refine cI_ (H':=((b_12,.cells #[.int .i64 x.kind,str x.name,.int .i64 x.lo,.int .i64 x.hi,.slice x.ad x.parts.length x.cap] 28 (0,0))::((mkH Ds)++((m,.map s.1.es s.1.c)::((C,.map s.2.1.es s.2.1.c)::((A,.map s.2.2.1.es s.2.2.1.c)::((B,.map s.2.2.2.es s.2.2.2.c)::((K,.cells #[.int .i64 e.kind,str e.name,.int .i64 e.lo,.int .i64 e.hi,.slice e.ad e.parts.length e.cap] 28 (0,0))::((P,.cells #[.int .i64 d.kind,.bool d.opn,.int .i64 d.left.kind,str d.left.name,.int .i64 d.left.lo,.int .i64 d.left.hi,.slice d.left.ad d.left.parts.length d.left.cap,.int .i64 d.right.kind,str d.right.name,.int .i64 d.right.lo,.int .i64 d.right.hi,.slice d.right.ad d.right.parts.length d.right.cap,.slice d.ad d.roles.length d.cap,str d.role,str d.a,str d.b] 30 (0,0))::((L,.cells #[.map (some H)] 102 (0,0))::((H,.map #[⟨.int .i64 3,.map (some m),0⟩,⟨.int .i64 6,.map (some C),1⟩,⟨.int .i64 7,.map (some A),2⟩,⟨.int .i64 4,.map (some B),3⟩] 4)::((J,.cells #[.slice none 0 0,.slice none 0 0,.slice none 0 0,.slice none 0 0] 51 (0,0))::Z)))))))))))) (F:=[]) (by exact (i_ d_ (B_ (c_ (c_ (c_ (c_ (c_ (c_ (c_ (c_ (c_ w_))))))))) (i_ d_ (i_ d_ (i_ d_ (i_ d_ (i_ d_ (i_ d_ (i_ d_ (i_ d_ (i_ d_ aj_)))))))))))) zh ?_;exact dB_ b_12 zl (F:=[]) zaf_ zh
   intro n v_1 H_1 Z I;rw[hbody]
   by_cases T:x.kind=3
   ·refine cI_ (H':=((I,.cells (coA x) 28 (0,0))::((mkH Ds)++((m,.map s.1.es s.1.c)::((C,.map s.2.1.es s.2.1.c)::((A,.map s.2.2.1.es s.2.2.1.c)::((B,.map s.2.2.2.es s.2.2.2.c)::((K,.cells (coA e) 28 (0,0))::((P,.cells (axA d) 30 (0,0))::((L,.cells #[.map (some H)] 102 (0,0))::((H,.map #[⟨.int .i64 3,.map (some m),0⟩,⟨.int .i64 6,.map (some C),1⟩,⟨.int .i64 7,.map (some A),2⟩,⟨.int .i64 4,.map (some B),3⟩] 4)::((J,.cells #[.slice none 0 0,.slice none 0 0,.slice none 0 0,.slice none 0 0] 51 (0,0))::Z)))))))))))) (F:=[]) zaf_ zh ?_
    refine dp_ ?_;refine fP_ (R_ d_ (R_ (l_ d_) (R_ (l_ d_) (R_ (l_ d_) (R_ (l_ d_) (R_ (l_ d_) (R_ (l_ d_) (R_ (l_ d_) (R_ (l_ d_) (bg_ (l_ d_))))))))))) ?_;refine cw_ ?_;refine av_ ?_;refine I_ (J_ _) (bd_ 7 CR_ rfl rfl rfl) rfl rfl ?_;refine I_ (J_ _) (cf_ bX_ rfl rfl rfl P_) rfl rfl ?_;refine I_ (J_ _) (bd_ 0 aF_ rfl rfl rfl) rfl rfl ?_;refine I_ (J_ _) (gx_ (i:=0) (u:=.map (some m)) cA_ rfl rfl 8 rfl (aS_ m_) (ay_ m_ (by rw[T];rfl))) rfl rfl ?_;refine I_ (J_ _) (S_ rfl) rfl rfl ?_;refine I_ (J_ _) (bB_ rfl rfl) rfl rfl ?_;refine I_ (J_ _) (bB_ rfl rfl) rfl rfl ?_;refine I_ (J_ _) (af_ rfl) rfl rfl ?_;refine I_ (J_ _) (af_ rfl) rfl rfl ?_;refine bh_ ?_;refine bF_ rfl ?_;refine cw_ ?_;refine av_ ?_;refine I_ (J_ _) (S_ rfl) rfl rfl ?_;refine bh_ ?_;refine bF_ rfl ?_;refine fN_ rfl ?_;refine av_ ?_;refine I_ (J_ _) (S_ rfl) rfl rfl ?_;refine I_ (J_ _) (cf_ bX_ rfl rfl rfl M_) rfl rfl ?_;refine I_ (J_ _) (bd_ 0 ai_ rfl rfl rfl) rfl rfl ?_;refine ie_ (J_ _) 1 s.1 ei_ (.inr rfl) bf_ rfl rfl rfl rfl ?_;refine bh_ ?_;refine cg_ rfl ?_;refine cI_ (H':=((mkH Ds)++((m,.map (s.1.add x.name).es (s.1.add x.name).c)::((C,.map s.2.1.es s.2.1.c)::((A,.map s.2.2.1.es s.2.2.1.c)::((B,.map s.2.2.2.es s.2.2.2.c)::((K,.cells #[.int .i64 e.kind,str e.name,.int .i64 e.lo,.int .i64 e.hi,.slice e.ad e.parts.length e.cap] 28 (0,0))::((P,.cells #[.int .i64 d.kind,.bool d.opn,.int .i64 d.left.kind,str d.left.name,.int .i64 d.left.lo,.int .i64 d.left.hi,.slice d.left.ad d.left.parts.length d.left.cap,.int .i64 d.right.kind,str d.right.name,.int .i64 d.right.lo,.int .i64 d.right.hi,.slice d.right.ad d.right.parts.length d.right.cap,.slice d.ad d.roles.length d.cap,str d.role,str d.a,str d.b] 30 (0,0))::((L,.cells #[.map (some H)] 102 (0,0))::((H,.map #[⟨.int .i64 3,.map (some m),0⟩,⟨.int .i64 6,.map (some C),1⟩,⟨.int .i64 7,.map (some A),2⟩,⟨.int .i64 4,.map (some B),3⟩] 4)::((J,.cells #[.slice none 0 0,.slice none 0 0,.slice none 0 0,.slice none 0 0] 51 (0,0))::(Z++((I,.cells #[.int .i64 x.kind,str x.name,.int .i64 x.lo,.int .i64 x.hi,.slice x.ad x.parts.length x.cap] 28 (0,0))::[]))))))))))))) (F:=[]) zal_ zh ?_;refine fu_ (eA_ x s) rfl (G:=[(I,.cells (coA x) 28 (0,0))]) ?_;rw[show eA_ x s=(s.1.add x.name,s.2) from (by unfold eA_;rw[if_pos T])];simp
   have hn_1:=T
   by_cases T:x.kind=6
   ·refine cI_ (H':=((I,.cells (coA x) 28 (0,0))::((mkH Ds)++((m,.map s.1.es s.1.c)::((C,.map s.2.1.es s.2.1.c)::((A,.map s.2.2.1.es s.2.2.1.c)::((B,.map s.2.2.2.es s.2.2.2.c)::((K,.cells (coA e) 28 (0,0))::((P,.cells (axA d) 30 (0,0))::((L,.cells #[.map (some H)] 102 (0,0))::((H,.map #[⟨.int .i64 3,.map (some m),0⟩,⟨.int .i64 6,.map (some C),1⟩,⟨.int .i64 7,.map (some A),2⟩,⟨.int .i64 4,.map (some B),3⟩] 4)::((J,.cells #[.slice none 0 0,.slice none 0 0,.slice none 0 0,.slice none 0 0] 51 (0,0))::Z)))))))))))) (F:=[]) zaf_ zh ?_
    refine dp_ ?_;refine fP_ (R_ d_ (R_ (l_ d_) (R_ (l_ d_) (R_ (l_ d_) (R_ (l_ d_) (R_ (l_ d_) (R_ (l_ d_) (R_ (l_ d_) (R_ (l_ d_) (bg_ (l_ d_))))))))))) ?_;refine cw_ ?_;refine av_ ?_;refine I_ (J_ _) (bd_ 7 CR_ rfl rfl rfl) rfl rfl ?_;refine I_ (J_ _) (cf_ bX_ rfl rfl rfl P_) rfl rfl ?_;refine I_ (J_ _) (bd_ 0 aF_ rfl rfl rfl) rfl rfl ?_;refine I_ (J_ _) (gx_ (i:=1) (u:=.map (some C)) cA_ rfl rfl 8 rfl (aS_ m_) (ay_ m_ (by rw[T];rfl))) rfl rfl ?_;refine I_ (J_ _) (S_ rfl) rfl rfl ?_;refine I_ (J_ _) (bB_ rfl rfl) rfl rfl ?_;refine I_ (J_ _) (bB_ rfl rfl) rfl rfl ?_;refine I_ (J_ _) (af_ rfl) rfl rfl ?_;refine I_ (J_ _) (af_ rfl) rfl rfl ?_;refine bh_ ?_;refine bF_ rfl ?_;refine cw_ ?_;refine av_ ?_;refine I_ (J_ _) (S_ rfl) rfl rfl ?_;refine bh_ ?_;refine bF_ rfl ?_;refine fN_ rfl ?_;refine av_ ?_;refine I_ (J_ _) (S_ rfl) rfl rfl ?_;refine I_ (J_ _) (cf_ bX_ rfl rfl rfl M_) rfl rfl ?_;refine I_ (J_ _) (bd_ 0 ai_ rfl rfl rfl) rfl rfl ?_;refine ie_ (J_ _) 2 s.2.1 ei_ (.inr rfl) bf_ rfl rfl rfl rfl ?_;refine bh_ ?_;refine cg_ rfl ?_;refine cI_ (H':=((mkH Ds)++((m,.map s.1.es s.1.c)::((C,.map (s.2.1.add x.name).es (s.2.1.add x.name).c)::((A,.map s.2.2.1.es s.2.2.1.c)::((B,.map s.2.2.2.es s.2.2.2.c)::((K,.cells #[.int .i64 e.kind,str e.name,.int .i64 e.lo,.int .i64 e.hi,.slice e.ad e.parts.length e.cap] 28 (0,0))::((P,.cells #[.int .i64 d.kind,.bool d.opn,.int .i64 d.left.kind,str d.left.name,.int .i64 d.left.lo,.int .i64 d.left.hi,.slice d.left.ad d.left.parts.length d.left.cap,.int .i64 d.right.kind,str d.right.name,.int .i64 d.right.lo,.int .i64 d.right.hi,.slice d.right.ad d.right.parts.length d.right.cap,.slice d.ad d.roles.length d.cap,str d.role,str d.a,str d.b] 30 (0,0))::((L,.cells #[.map (some H)] 102 (0,0))::((H,.map #[⟨.int .i64 3,.map (some m),0⟩,⟨.int .i64 6,.map (some C),1⟩,⟨.int .i64 7,.map (some A),2⟩,⟨.int .i64 4,.map (some B),3⟩] 4)::((J,.cells #[.slice none 0 0,.slice none 0 0,.slice none 0 0,.slice none 0 0] 51 (0,0))::(Z++((I,.cells #[.int .i64 x.kind,str x.name,.int .i64 x.lo,.int .i64 x.hi,.slice x.ad x.parts.length x.cap] 28 (0,0))::[]))))))))))))) (F:=[]) zal_ zh ?_;refine fu_ (eA_ x s) rfl (G:=[(I,.cells (coA x) 28 (0,0))]) ?_;rw[show eA_ x s=(s.1,s.2.1.add x.name,s.2.2) from (by unfold eA_;rw[if_neg zaa_,if_pos T])];simp
   have hn_2:=T
   by_cases T:x.kind=7
   ·refine cI_ (H':=((I,.cells (coA x) 28 (0,0))::((mkH Ds)++((m,.map s.1.es s.1.c)::((C,.map s.2.1.es s.2.1.c)::((A,.map s.2.2.1.es s.2.2.1.c)::((B,.map s.2.2.2.es s.2.2.2.c)::((K,.cells (coA e) 28 (0,0))::((P,.cells (axA d) 30 (0,0))::((L,.cells #[.map (some H)] 102 (0,0))::((H,.map #[⟨.int .i64 3,.map (some m),0⟩,⟨.int .i64 6,.map (some C),1⟩,⟨.int .i64 7,.map (some A),2⟩,⟨.int .i64 4,.map (some B),3⟩] 4)::((J,.cells #[.slice none 0 0,.slice none 0 0,.slice none 0 0,.slice none 0 0] 51 (0,0))::Z)))))))))))) (F:=[]) zaf_ zh ?_
    refine dp_ ?_;refine fP_ (R_ d_ (R_ (l_ d_) (R_ (l_ d_) (R_ (l_ d_) (R_ (l_ d_) (R_ (l_ d_) (R_ (l_ d_) (R_ (l_ d_) (R_ (l_ d_) (bg_ (l_ d_))))))))))) ?_;refine cw_ ?_;refine av_ ?_;refine I_ (J_ _) (bd_ 7 CR_ rfl rfl rfl) rfl rfl ?_;refine I_ (J_ _) (cf_ bX_ rfl rfl rfl P_) rfl rfl ?_;refine I_ (J_ _) (bd_ 0 aF_ rfl rfl rfl) rfl rfl ?_;refine I_ (J_ _) (gx_ (i:=2) (u:=.map (some A)) cA_ rfl rfl 8 rfl (aS_ m_) (ay_ m_ (by rw[T];rfl))) rfl rfl ?_;refine I_ (J_ _) (S_ rfl) rfl rfl ?_;refine I_ (J_ _) (bB_ rfl rfl) rfl rfl ?_;refine I_ (J_ _) (bB_ rfl rfl) rfl rfl ?_;refine I_ (J_ _) (af_ rfl) rfl rfl ?_;refine I_ (J_ _) (af_ rfl) rfl rfl ?_;refine bh_ ?_;refine bF_ rfl ?_;refine cw_ ?_;refine av_ ?_;refine I_ (J_ _) (S_ rfl) rfl rfl ?_;refine bh_ ?_;refine bF_ rfl ?_;refine fN_ rfl ?_;refine av_ ?_;refine I_ (J_ _) (S_ rfl) rfl rfl ?_;refine I_ (J_ _) (cf_ bX_ rfl rfl rfl M_) rfl rfl ?_;refine I_ (J_ _) (bd_ 0 ai_ rfl rfl rfl) rfl rfl ?_;refine ie_ (J_ _) 3 s.2.2.1 ei_ (.inr rfl) bf_ rfl rfl rfl rfl ?_;refine bh_ ?_;refine cg_ rfl ?_;refine cI_ (H':=((mkH Ds)++((m,.map s.1.es s.1.c)::((C,.map s.2.1.es s.2.1.c)::((A,.map (s.2.2.1.add x.name).es (s.2.2.1.add x.name).c)::((B,.map s.2.2.2.es s.2.2.2.c)::((K,.cells #[.int .i64 e.kind,str e.name,.int .i64 e.lo,.int .i64 e.hi,.slice e.ad e.parts.length e.cap] 28 (0,0))::((P,.cells #[.int .i64 d.kind,.bool d.opn,.int .i64 d.left.kind,str d.left.name,.int .i64 d.left.lo,.int .i64 d.left.hi,.slice d.left.ad d.left.parts.length d.left.cap,.int .i64 d.right.kind,str d.right.name,.int .i64 d.right.lo,.int .i64 d.right.hi,.slice d.right.ad d.right.parts.length d.right.cap,.slice d.ad d.roles.length d.cap,str d.role,str d.a,str d.b] 30 (0,0))::((L,.cells #[.map (some H)] 102 (0,0))::((H,.map #[⟨.int .i64 3,.map (some m),0⟩,⟨.int .i64 6,.map (some C),1⟩,⟨.int .i64 7,.map (some A),2⟩,⟨.int .i64 4,.map (some B),3⟩] 4)::((J,.cells #[.slice none 0 0,.slice none 0 0,.slice none 0 0,.slice none 0 0] 51 (0,0))::(Z++((I,.cells #[.int .i64 x.kind,str x.name,.int .i64 x.lo,.int .i64 x.hi,.slice x.ad x.parts.length x.cap] 28 (0,0))::[]))))))))))))) (F:=[]) zal_ zh ?_;refine fu_ (eA_ x s) rfl (G:=[(I,.cells (coA x) 28 (0,0))]) ?_;rw[show eA_ x s=(s.1,s.2.1,s.2.2.1.add x.name,s.2.2.2) from (by unfold eA_;rw[if_neg zaa_,if_neg zaa_,if_pos T])];simp
   have hn_3:=T
   by_cases T:x.kind=4
   ·refine cI_ (H':=((I,.cells (coA x) 28 (0,0))::((mkH Ds)++((m,.map s.1.es s.1.c)::((C,.map s.2.1.es s.2.1.c)::((A,.map s.2.2.1.es s.2.2.1.c)::((B,.map s.2.2.2.es s.2.2.2.c)::((K,.cells (coA e) 28 (0,0))::((P,.cells (axA d) 30 (0,0))::((L,.cells #[.map (some H)] 102 (0,0))::((H,.map #[⟨.int .i64 3,.map (some m),0⟩,⟨.int .i64 6,.map (some C),1⟩,⟨.int .i64 7,.map (some A),2⟩,⟨.int .i64 4,.map (some B),3⟩] 4)::((J,.cells #[.slice none 0 0,.slice none 0 0,.slice none 0 0,.slice none 0 0] 51 (0,0))::Z)))))))))))) (F:=[]) zaf_ zh ?_
    refine dp_ ?_;refine fP_ (R_ d_ (R_ (l_ d_) (R_ (l_ d_) (R_ (l_ d_) (R_ (l_ d_) (R_ (l_ d_) (R_ (l_ d_) (R_ (l_ d_) (R_ (l_ d_) (bg_ (l_ d_))))))))))) ?_;refine cw_ ?_;refine av_ ?_;refine I_ (J_ _) (bd_ 7 CR_ rfl rfl rfl) rfl rfl ?_;refine I_ (J_ _) (cf_ bX_ rfl rfl rfl P_) rfl rfl ?_;refine I_ (J_ _) (bd_ 0 aF_ rfl rfl rfl) rfl rfl ?_;refine I_ (J_ _) (gx_ (i:=3) (u:=.map (some B)) cA_ rfl rfl 8 rfl (aS_ m_) (ay_ m_ (by rw[T];rfl))) rfl rfl ?_;refine I_ (J_ _) (S_ rfl) rfl rfl ?_;refine I_ (J_ _) (bB_ rfl rfl) rfl rfl ?_;refine I_ (J_ _) (bB_ rfl rfl) rfl rfl ?_;refine I_ (J_ _) (af_ rfl) rfl rfl ?_;refine I_ (J_ _) (af_ rfl) rfl rfl ?_;refine bh_ ?_;refine bF_ rfl ?_;refine cw_ ?_;refine av_ ?_;refine I_ (J_ _) (S_ rfl) rfl rfl ?_;refine bh_ ?_;refine bF_ rfl ?_;refine fN_ rfl ?_;refine av_ ?_;refine I_ (J_ _) (S_ rfl) rfl rfl ?_;refine I_ (J_ _) (cf_ bX_ rfl rfl rfl M_) rfl rfl ?_;refine I_ (J_ _) (bd_ 0 ai_ rfl rfl rfl) rfl rfl ?_;refine ie_ (J_ _) 4 s.2.2.2 ei_ (.inr rfl) bf_ rfl rfl rfl rfl ?_;refine bh_ ?_;refine cg_ rfl ?_;refine cI_ (H':=((mkH Ds)++((m,.map s.1.es s.1.c)::((C,.map s.2.1.es s.2.1.c)::((A,.map s.2.2.1.es s.2.2.1.c)::((B,.map (s.2.2.2.add x.name).es (s.2.2.2.add x.name).c)::((K,.cells #[.int .i64 e.kind,str e.name,.int .i64 e.lo,.int .i64 e.hi,.slice e.ad e.parts.length e.cap] 28 (0,0))::((P,.cells #[.int .i64 d.kind,.bool d.opn,.int .i64 d.left.kind,str d.left.name,.int .i64 d.left.lo,.int .i64 d.left.hi,.slice d.left.ad d.left.parts.length d.left.cap,.int .i64 d.right.kind,str d.right.name,.int .i64 d.right.lo,.int .i64 d.right.hi,.slice d.right.ad d.right.parts.length d.right.cap,.slice d.ad d.roles.length d.cap,str d.role,str d.a,str d.b] 30 (0,0))::((L,.cells #[.map (some H)] 102 (0,0))::((H,.map #[⟨.int .i64 3,.map (some m),0⟩,⟨.int .i64 6,.map (some C),1⟩,⟨.int .i64 7,.map (some A),2⟩,⟨.int .i64 4,.map (some B),3⟩] 4)::((J,.cells #[.slice none 0 0,.slice none 0 0,.slice none 0 0,.slice none 0 0] 51 (0,0))::(Z++((I,.cells #[.int .i64 x.kind,str x.name,.int .i64 x.lo,.int .i64 x.hi,.slice x.ad x.parts.length x.cap] 28 (0,0))::[]))))))))))))) (F:=[]) zal_ zh ?_;refine fu_ (eA_ x s) rfl (G:=[(I,.cells (coA x) 28 (0,0))]) ?_;rw[show eA_ x s=(s.1,s.2.1,s.2.2.1,s.2.2.2.add x.name) from (by unfold eA_;rw[if_neg zaa_,if_neg zaa_,if_neg zaa_,if_pos T])];simp
   have hn_4:=T;refine cI_ (H':=((I,.cells (coA x) 28 (0,0))::((mkH Ds)++((m,.map s.1.es s.1.c)::((C,.map s.2.1.es s.2.1.c)::((A,.map s.2.2.1.es s.2.2.1.c)::((B,.map s.2.2.2.es s.2.2.2.c)::((K,.cells (coA e) 28 (0,0))::((P,.cells (axA d) 30 (0,0))::((L,.cells #[.map (some H)] 102 (0,0))::((H,.map #[⟨.int .i64 3,.map (some m),0⟩,⟨.int .i64 6,.map (some C),1⟩,⟨.int .i64 7,.map (some A),2⟩,⟨.int .i64 4,.map (some B),3⟩] 4)::((J,.cells #[.slice none 0 0,.slice none 0 0,.slice none 0 0,.slice none 0 0] 51 (0,0))::Z)))))))))))) (F:=[]) zaf_ zh ?_;refine dp_ ?_;refine fP_ (R_ d_ (R_ (l_ d_) (R_ (l_ d_) (R_ (l_ d_) (R_ (l_ d_) (R_ (l_ d_) (R_ (l_ d_) (R_ (l_ d_) (R_ (l_ d_) (bg_ (l_ d_))))))))))) ?_;refine cw_ ?_;refine av_ ?_;refine I_ (J_ _) (bd_ 7 CR_ rfl rfl rfl) rfl rfl ?_;refine I_ (J_ _) (cf_ bX_ rfl rfl rfl P_) rfl rfl ?_;refine I_ (J_ _) (bd_ 0 aF_ rfl rfl rfl) rfl rfl ?_;refine I_ (J_ _) (ui_ cA_ ex_ rfl rfl 8 rfl (aS_ m_) ((tr_ m_).nf x.kind _ [3,6,7,4] rfl (by simp only[List.mem_cons,List.not_mem_nil,or_false];omega))) rfl rfl ?_;refine I_ (J_ _) (S_ rfl) rfl rfl ?_;refine I_ (J_ _) (bB_ rfl rfl) rfl rfl ?_;refine I_ (J_ _) (bB_ rfl rfl) rfl rfl ?_;refine I_ (J_ _) (af_ rfl) rfl rfl ?_;refine I_ (J_ _) (af_ rfl) rfl rfl ?_;refine bh_ ?_;refine bF_ rfl ?_;refine cw_ ?_;refine av_ ?_;refine I_ (J_ _) (S_ rfl) rfl rfl ?_;refine bh_ ?_;refine bF_ rfl ?_;refine mU_ rfl ?_;refine lF_ ?_;refine cg_ rfl ?_;refine cI_ (H':=((mkH Ds)++((m,.map s.1.es s.1.c)::((C,.map s.2.1.es s.2.1.c)::((A,.map s.2.2.1.es s.2.2.1.c)::((B,.map s.2.2.2.es s.2.2.2.c)::((K,.cells (coA e) 28 (0,0))::((P,.cells (axA d) 30 (0,0))::((L,.cells #[.map (some H)] 102 (0,0))::((H,.map #[⟨.int .i64 3,.map (some m),0⟩,⟨.int .i64 6,.map (some C),1⟩,⟨.int .i64 7,.map (some A),2⟩,⟨.int .i64 4,.map (some B),3⟩] 4)::((J,.cells #[.slice none 0 0,.slice none 0 0,.slice none 0 0,.slice none 0 0] 51 (0,0))::(Z++((I,.cells (coA x) 28 (0,0))::[]))))))))))))) (F:=[]) (by exact zp) zh ?_;refine fu_ (eA_ x s) rfl (G:=[(I,.cells (coA x) 28 (0,0))]) ?_;rw[show eA_ x s=s from (by unfold eA_;rw[if_neg zaa_,if_neg zaa_,if_neg zaa_,if_neg zaa_])];simp
  ·intro l Gj Gx hY
   exact rd_ (E:=[]) (good:=fun _=>True) (fun _ _ _ _=>trivial) (fun s x hx _=>hY s ⟨x,hx⟩ trivial) _ hokc trivial s
  intro s_1 V D l r;rw[tD_ (fun x s=>eA_ x s) _ e (Nat.le_refl _)]at V;obtain rfl:=Sum.inl.inj V;have Q:=U.side a5;refine dk_ (H':=mkH (D::Ds)++[(m,.map ((List.foldl (fun s x=>eA_ x s) s (Con.nds e)).1).es ((List.foldl (fun s x=>eA_ x s) s (Con.nds e)).1).c),(C,.map ((List.foldl (fun s x=>eA_ x s) s (Con.nds e)).2.1).es ((List.foldl (fun s x=>eA_ x s) s (Con.nds e)).2.1).c),(A,.map ((List.foldl (fun s x=>eA_ x s) s (Con.nds e)).2.2.1).es ((List.foldl (fun s x=>eA_ x s) s (Con.nds e)).2.2.1).c),(B,.map ((List.foldl (fun s x=>eA_ x s) s (Con.nds e)).2.2.2).es ((List.foldl (fun s x=>eA_ x s) s (Con.nds e)).2.2.2).c),(K,.cells (coA e) 28 (0,0)),(P,.cells (axA d) 30 (0,0)),(L,.cells #[.map (some H)] 102 (0,0)),(H,.map #[⟨.int .i64 3,.map (some m),0⟩,⟨.int .i64 6,.map (some C),1⟩,⟨.int .i64 7,.map (some A),2⟩,⟨.int .i64 4,.map (some B),3⟩] 4),(J,.cells #[.slice none 0 0,.slice none 0 0,.slice none 0 0,.slice none 0 0] 51 (0,0))]) (F:=[(bw,.cells (Con.cells e).toArray 28 (0,0))]++[(l,.loop r)]) zD_ zh ?_;refine am_ rfl (A_ (R_ (l_ d_) (R_ (l_ d_) (R_ (l_ d_) (R_ (l_ d_) (R_ (l_ d_) (R_ (l_ d_) (R_ (l_ d_) (R_ (l_ d_) (bg_ bi_))))))))) (Zz 5 ?_));exact jF_ ⟨(j+1,(List.foldl (fun s x=>eA_ x s) s (Con.nds e)),(D::Ds)),hlc_1,Q⟩ zab_ zl zp zh
 obtain⟨S,d,hx_1,O⟩:=zge (show Y<M.length by omega);refine Zz 12 ?_;refine y_ aG_ rfl fun m=>o_ 0 H_ rfl rfl rfl rfl rfl rfl (Zz 5 ?_)
 refine f_ (qW_ (hok d O) (hC d O)) rfl g_ (fun v _ h=>by exact⟨(h.1.2 d O),h.2.1,trivial⟩) rfl fun _=>Zz 6 ?_
 refine e_ (ao_ (cl_ rfl rfl) (show _=Value.bool false from congrArg Value.bool zad_)) rfl (Zz 10 ?_);exact jF_ ⟨Y+1,S⟩ zab_ zl (c_ d_) zh
theorem rk_ {l:List Str} (h:SrS l):l.Nodup:=h.imp fun {a b} q e=>by subst e;exact List.lt_irrefl _ q
theorem oN_ {c:Con} (h:c.check=0) {k:Int} (x:k=3∨k=6∨k=7) {r:Str} (m:r∈c.nms k):bk_ r=true:=by
  unfold Con.nms at m;obtain⟨d,e,rfl⟩:=List.mem_map.1 m;rw[List.mem_filter]at e;have v:d.kind=k:=by simpa using e.2
  exact (Con.names_of ((Con.check_iff d).1 (lN_ _ c (Nat.le_refl _) h d e.1)).2.2).plain zaa_
theorem hc_ {c:Con} (h:c.check=0) {r:Str} (v:r∈c.nms 4):aN_ r=true:=by
  unfold Con.nms at v;obtain⟨d,e,rfl⟩:=List.mem_map.1 v;rw[List.mem_filter]at e;have m:d.kind=4:=by simpa using e.2
  exact (Con.names_of ((Con.check_iff d).1 (lN_ _ c (Nat.le_refl _) h d e.1)).2.2).person m
theorem fB_ {c:Con} (h:c.empty=true) {k:Int} (e:k≠0) {r:Str}:r ∉ c.nms k:=fun d=>by
  cases c with
  | mk k' n l hi ad cp ps =>
    unfold Con.empty at h;simp only[Bool.and_eq_true,beq_iff_eq,Con.parts,Con.kind]at h;have:ps=[]:=List.eq_nil_of_length_eq_zero zaa_;subst this;rw[Con.nms_eq]at d;have m:=h.1.1.1.1;simp[Con.kind,Con.parts,m,Ne.symm e]at d
section
variable {l:List Ax} (hC:∀ x∈l,x.check=0) {r:Str}
include hC
theorem pU_ {k:Int} (d:r∈vcL k l):∃ x∈l,x.check=0∧r∈x.vc k∧((us x.kind).left=true∨x.left.empty=true)∧((us x.kind).right=true∨x.right.empty=true)∧((us x.kind).a=true∨x.a=[])∧((us x.kind).b=true∨x.b=[]):=by
  unfold vcL at d;obtain⟨x,C,d⟩:=List.mem_flatMap.1 d;have v:=hC x C;have B:=Ax.good_of v;have e:=jm_ v;unfold Ax.shaped at e;rw[if_neg (by have:=B.k1;have:=B.k9;omega)]at e;simp only[Bool.and_eq_true,Bool.or_eq_true,beq_iff_eq]at e;obtain⟨⟨⟨⟨⟨⟨m,A⟩,E⟩,y⟩,h⟩,_⟩,_⟩:=e;exact⟨x,C,v,d,m,A,y,h⟩
theorem ki_ {k:Int} (A:k=3∨k=7) (d:r∈vcL k l):bk_ r=true:=by
 obtain⟨x,B,m,d,e,h,v,y⟩:=pU_ hC d;unfold Ax.vc at d;rw[if_neg zaa_,if_neg zaa_,List.append_nil,List.append_nil,List.mem_append]at d;rcases d with d|d
 ·exact e.elim (fun q=>oN_ (jM_ m q) zaa_ d) (fun q=>absurd d (fB_ q zaa_))
 exact h.elim (fun q=>oN_ (hJ_ m q) zaa_ d) (fun q=>absurd d (fB_ q zaa_))
theorem iN_ (d:r∈vcL 4 l) (E:r≠[]):aN_ r=true:=by
 obtain⟨x,F,v,d,m,A,y,B⟩:=pU_ hC d;have h:=Ax.good_of v;have C:x.kind=1∨x.kind=2∨x.kind=3∨x.kind=4∨x.kind=5∨x.kind=6∨x.kind=7∨x.kind=8∨x.kind=9:=by have:=h.k1;have:=h.k9;omega
 unfold Ax.vc at d;rw[if_neg zad_,if_pos rfl,List.append_nil,List.mem_append,List.mem_append,List.mem_cons,List.mem_singleton]at d;rcases d with (d|d)|rfl|rfl
 ·exact m.elim (fun q=>hc_ (jM_ v q) d) (fun q=>absurd d (fB_ q zaa_))
 ·exact A.elim (fun q=>hc_ (hJ_ v q) d) (fun q=>absurd d (fB_ q zaa_))
 ·rcases y with q|q
  ·refine h.a ?_
   rcases C with e|e|e|e|e|e|e|e|e<;>rw[e]at q<;>first|omega|exact absurd q (by decide)
  exact absurd q E
 rcases B with q|q
 ·refine h.b ?_
  rcases C with e|e|e|e|e|e|e|e|e<;>rw[e]at q<;>first|omega|exact absurd q (by decide)
 exact absurd q E
end
end Go.Proofs.YthmjeabeoodghaaGreatDoor
namespace Go.Proofs.YthmjeabeoodghaaGreatDoor
open Go Go.Sx Go.Proofs Tryz
attribute [local irreducible] Code.wp wpList wpAnyH
open Go.Vs
theorem Bn_:gQ_ prog 149 [(0,1),(1,1),(2,1)] [.int .i64 0,.int .i64 0,.slice none 0 0]:=⟨_,zeroValue149,runUnderlying149,fun w=>by simp[P_,dX_]⟩
theorem nz_ (s:Str) (l:List Str) (b:Nat) (n r:Int) (sv:Value) (Hr:Hp) (K:zR 9 1 au_ sv l Hr) (hl:l.length≤1000000):Tri prog 94 #[zp_ b 0,str s] ((b,.cells #[.int .i64 n,.int .i64 r,sv] 149 (0,0))::Hr) [] (fun y:{y:List Str×Value×Hp // zR 9 1 au_ y.2.1 y.1 y.2.2∧y.1.length≤l.length+1}=>.tuple #[]) (fun y=>(b,.cells #[.int .i64 n,.int .i64 r,y.1.2.1] 149 (0,0))::y.1.2.2) (fun _=>[]):=by
 refine j_ func94 rfl rfl ntmps94 rfl fun H=>?_;refine Zz 7 ?_;refine O_ (ι:={y:Nat×Value×Hp // y.1≤List.length l∧zR 9 1 au_ y.2.1 l y.2.2}) (fun y=>[(0,zp_ b 0),(1,str s),(4,.int .i64 (y.1.1:Int))]) (fun y=>((b,.cells #[.int .i64 n,.int .i64 r,y.1.2.1] 149 (0,0))::y.1.2.2)) (fun y=>[]) (fun y=>l.length - y.1.1) ⟨((0:Nat),sv,Hr),by simp,K⟩ zl zp zt ?_;rintro ⟨⟨i,v,A⟩,B,d⟩;dsimp only at B d ⊢;refine Zz 8 ?_;refine e_ (cF_ d t_ rfl) rfl ?_;refine Zi 0 (fun e=>?_) fun e=>?_
 ·refine Zz 12 ?_
  refine G_ t_ M_ aw_ rfl rfl rfl rfl rfl rfl fun J=>?_;refine aO_ (news:=List.flatMap au_ [s]) es_ d rfl rfl zp rfl (bz_ 0 rfl) (fun u I=>bn_ dx_ I) zan_ zaa_ rfl fun x E e=>?_;refine A_ List.perm_append_comm ?_;have m:=zsa e;refine Zz 2 ?_;refine cq_ 1 m dX_ rfl rfl rfl rfl (Zz 2 ?_);exact ck_ results94 ⟨((l++[s]),x,E),m,by first|omega|(simp only[List.length_append,List.length_cons,List.length_nil];omega)⟩ rfl (i_ (c_ d_) C_) zt
 have h:i<l.length:=by omega
 obtain⟨L,C⟩:∃ G,l[i]? = some G:=⟨_,List.getElem?_eq_getElem h⟩;refine Zz 14 ?_;refine e_ (bI_ d t_ M_ rfl rfl zaa_ zaa_) rfl (e_ (dn_ d C_ ai_ rfl (z_ aY_ C 0 _ rfl)) rfl (Zi 1 (fun F=>?_) fun F=>?_))
 ·refine Zz 11 ?_
  exact x_ ⟨(i+1,v,A),h,d⟩ zab_ zl zp zt
 refine Zz 4 ?_;exact ret0 results94 ⟨(l,v,A),d,by first|omega|(simp only[List.length_append,List.length_cons,List.length_nil];omega)⟩ rfl zp zt
theorem szs_take_le:∀ (l:List Con) (i:Nat),Con.sz.szs (l.take i)≤Con.sz.szs l
  | [],i=>by simp
  | c::l,0=>by simp[Con.sz.szs]
  | c::l,i+1=>by
    have:=szs_take_le l i;simp only[List.take_succ_cons,Con.sz.szs];omega
theorem nY_:∀ (m:Nat) (c:Con),c.sz≤m→c.ok→∀ (b:Nat) (n r:Int) (l:List Str) (sv:Value) (Hr:Hp),zR 9 1 au_ sv l Hr→(0≤n∧0≤r∧n+c.sz≤100000∧r+c.sz≤100000∧l.length+c.sz≤100000)→Tri prog 93 #[zp_ b 0,Con.val c] ((b,.cells #[.int .i64 n,.int .i64 r,sv] 149 (0,0))::Hr) [Con.memF c] (fun y:{y:Int×Int×List Str×Value×Hp // zR 9 1 au_ y.2.2.2.1 y.2.2.1 y.2.2.2.2∧(n≤y.1∧y.1≤n+c.sz)∧(r≤y.2.1∧y.2.1+n≤r+y.1)∧y.2.2.1.length≤l.length+c.sz}=>.tuple #[]) (fun y=>(b,.cells #[.int .i64 y.1.1,.int .i64 y.1.2.1,y.1.2.2.2.1] 149 (0,0))::y.1.2.2.2.2) (fun _=>[]):=by
 intro m
 induction m with
 | zero=>intro c h;have:=c.sz_pos;omega
 | succ m ih =>
   intro c hm Y b n r l sv Hr hr hbd;have hpl:=Con.ok_len Y;have hsp:=c.sz_pos;have hse:=Con.sz_eq c;refine j_ func93 rfl rfl ntmps93 rfl fun v_1=>?_;refine Zz 2 ?_;refine K_ rfl rfl fun E=>Zz 7 ?_
   refine E_ (aT_ rfl rfl) rfl fun r_1 e=>Zz 1 ?_
   refine aB_ 5 ((c.kind==0)&&((List.length c.parts:Int)==0)) (fun r=>[(0,zp_ b 0),(3,zp_ E 0),(13,.bool r)]) ?_ fun K C=>?_
   · cases r_1
     · have d:=e;replace e:=znb e;refine Zz 7 ?_;exact met ⟨rfl,rfl,(s_ rfl (jaf d)),trivial⟩
     · have d:=e;replace e:=zeb e;refine Zz 7 ?_;refine E_ (aT_ rfl rfl) rfl fun N I=>Zz 3 ?_
       exact met ⟨rfl,rfl,(s_ rfl (jat d I)),trivial⟩
   · refine Zz 1 ?_;refine aB_ 4 ((((c.kind==0)&&((List.length c.parts:Int)==0)))&&(c.name==[])) (fun r=>[(0,zp_ b 0),(3,zp_ E 0),(18,.bool r)]) ?_ fun N I=>?_
     · cases K
       · have d:=C;simp at C
         refine Zz 6 ?_;exact met ⟨rfl,rfl,(s_ rfl (jaf d)),trivial⟩
       · have d:=C;simp at C
         refine Zz 5 ?_;refine E_ (dv_ rfl rfl) rfl fun a6 A=>Zz 3 ?_
         exact met ⟨rfl,rfl,(s_ rfl (jat d A)),trivial⟩
     · refine Zz 2 ?_;cases N
       · simp at I
         refine Zz 13 ?_;refine o_ 1 P_ rfl rfl rfl rfl rfl rfl (Zz 7 ?_);refine E_ (aT_ rfl rfl) rfl fun a6 A=>Zz 2 ?_
         refine ic_ (ι:={y:Int // (r≤y∧y≤r+1)}) (fun y=>[(0,zp_ b 0),(3,zp_ E 0)]) (fun y=>((E,.cells (Con.cells c).toArray 28 (0,0))::((b,.cells #[.int .i64 (n+1),.int .i64 y.1,sv] 149 (0,0))::Hr))) (fun y=>[Con.memF c]) ?_ ?_
         · cases a6
           · replace A:=znb A;refine Zz 3 ?_;exact dl_ ⟨r,zat_⟩ zl zp zf
           · replace A:=zeb A;refine Zz 10 ?_;refine o_ 1 P_ rfl rfl rfl rfl rfl rfl (Zz 2 ?_);exact dl_ ⟨(r+1),zat_⟩ zl zp zf
         · rintro ⟨K,C⟩;dsimp only at C ⊢;refine Zz 6 ?_;refine E_ (aT_ rfl rfl) rfl fun b0 G=>Zz 2 ?_
           refine ic_ (ι:={y:List Str×Value×Hp // y.1.length≤l.length+1∧zR 9 1 au_ y.2.1 y.1 y.2.2}) (fun y=>[(0,zp_ b 0),(3,zp_ E 0)]) (fun y=>((E,.cells (Con.cells c).toArray 28 (0,0))::((b,.cells #[.int .i64 (n+1),.int .i64 K,y.1.2.1] 149 (0,0))::y.1.2.2))) (fun y=>[Con.memF c]) ?_ ?_
           · cases b0
             · replace G:=znb G;refine Zz 3 ?_;exact dl_ ⟨(l,sv,Hr),zat_,hr⟩ zl zp zf
             · replace G:=zeb G;refine Zz 5 ?_;refine f_ (nz_ c.name l b (n+1) K sv Hr hr zaa_) rfl zp zt rfl fun⟨⟨a2,T,L⟩,P,a9⟩=>?_;dsimp only;dsimp only at P a9;refine Zz 2 ?_;exact dl_ ⟨(a2,T,L),zat_,P⟩ zl zp zf
           · rintro ⟨⟨l_1,H,M⟩,a8,B⟩;dsimp only at a8 B ⊢;refine Zz 7 ?_;refine O_ (ι:={y:Nat×Int×Int×List Str×Value×Hp // y.1≤List.length c.parts∧(n≤y.2.1∧y.2.1≤n+((1+Con.sz.szs (c.parts.take y.1):Nat):Int)∧r≤y.2.2.1∧y.2.2.1+n≤r+y.2.1∧y.2.2.2.1.length≤l.length+(1+Con.sz.szs (c.parts.take y.1)))∧zR 9 1 au_ y.2.2.2.2.1 y.2.2.2.1 y.2.2.2.2.2}) (fun y=>[(0,zp_ b 0),(3,zp_ E 0),(4,.int .i64 (y.1.1:Int))]) (fun y=>((E,.cells (Con.cells c).toArray 28 (0,0))::((b,.cells #[.int .i64 y.1.2.1,.int .i64 y.1.2.2.1,y.1.2.2.2.2.1] 149 (0,0))::y.1.2.2.2.2.2))) (fun y=>[Con.memF c]) (fun y=>c.parts.length - y.1.1) ⟨((0:Nat),(n+1),K,l_1,H,M),by simp,(by simp only[List.take_zero,Con.sz.szs];omega),B⟩ zl zp zh ?_;rintro ⟨⟨i,R,V,Z,H,M⟩,W,a5,B⟩;dsimp only at W a5 B ⊢;refine Zz 7 ?_;refine E_ (cD_ rfl rfl) rfl fun r_7 x=>Zz 1 ?_
             refine aB_ 6 ((decide ((i:Int)<(List.length c.parts:Int)))&&(decide (R≤1000))) (fun r=>[(0,zp_ b 0),(3,zp_ E 0),(4,.int .i64 (i:Int)),(56,.bool r)]) ?_ fun r_8 O=>?_
             · cases r_7
               · have d:=x;replace x:=zdf x;refine Zz 8 ?_;exact met ⟨rfl,rfl,rfl,(s_ rfl (jaf d)),trivial⟩
               · have d:=x;replace x:=zdt x;refine Zz 9 ?_;refine E_ (dV_ rfl rfl) rfl fun r_9 a4=>Zz 3 ?_
                 exact met ⟨rfl,rfl,rfl,(s_ rfl (jat d a4)),trivial⟩
             · refine Zz 2 ?_;cases r_8
               · simp at O
                 refine Zz 3 ?_;exact ck_ results93 ⟨(R,V,Z,H,M),B,by dsimp only;have:=Con.sz_eq c;have a0:=szs_take_le c.parts i;omega⟩ rfl (i_ (c_ d_) C_) zt
               · simp at O
                 obtain⟨S,a3,J,F⟩:=zge (show i<c.parts.length by omega);refine Zz 10 ?_;refine e_ (U_ ab_ n_ rfl rfl (fun v _ h=>aK_ (n:=5) Con.cells_len zad_ zba_ J) zaa_ zah_) rfl ?_;refine e_ (al_ (ad:=c.ad) (us:=Con.cells a3) ac_ n_ rfl (fun v _ h=>by exact ((Con.mem_iff c v).1 h.1).1) (Con.cells_len _) (z_ Con.cells_len J)) rfl (f_ (ih a3 (by have:=Con.sz_part F;omega) (Con.ok_part Y F) b R V Z H M B (by have hst:=Con.szs_step J;have a0:=szs_take_le c.parts (i+1);omega)) rfl (i_ (c_ d_) C_) (fun v _ h=>by exact⟨(Con.mem_part (c:=c) h.1 F),trivial⟩) rfl fun⟨⟨n_2,N,l_3,U,L⟩,Q,X,a7,a1⟩=>?_);dsimp only;dsimp only at Q X a7 a1;refine Zz 2 ?_;refine A_ (R_ d_ (bg_ bi_)) (Zz 6 ?_);exact x_ ⟨(i+1,n_2,N,l_3,U,L),S,(by have hst:=Con.szs_step J;dsimp only;omega),Q⟩ zab_ zl (i_ (c_ d_) (i_ d_ aj_)) zh
       · simp at I
         refine Zz 2 ?_;exact ret0 results93 ⟨(n,r,l,sv,Hr),hr,by dsimp only;have:=Con.sz_eq c;have a0:=szs_take_le c.parts 0;omega⟩ rfl (i_ (c_ d_) C_) zt
structure AL where
  l:List Ax
  ad:Ao
  cap:Nat
def AL.cells (x:AL):List Value:=[.slice x.ad x.l.length x.cap]
theorem AL.cells_len (x:AL):x.cells.length=1:=rfl
structure AL.ok (x:AL):Prop where
  len:x.l.length≤2199023255488
  ok:∀ a∈x.l,a.ok
def alF (xs:List AL):Fct where
  p v:=∀ x∈xs,(ch_ x.ad x.l).p v
  mono:=fun v v' h hp x hx=>(ch_ x.ad x.l).mono v v' h (hp x hx)
theorem eP_ {G:Prop} (h:G:=by
 exact aa_ results44 false rfl g_ zt):G:=h
theorem mb_ {G:Prop} (h:G:=by
 rintro ⟨⟨a4,B,I⟩,T,d⟩;dsimp only at T d ⊢;refine Zz 7 ?_;exact x_ ⟨(j+1,a4,(bg++[46])++Q,B,I),a9,zab_,(by have:=N.roles Q S;simp only[List.length_append,List.length_cons,List.length_nil];omega),d⟩ zab_ zl (i_ d_ (i_ d_ aj_)) zh):G:=h
theorem zL_ (xs:List AL) (C:Ao) (H:Nat) (e0:∀ x∈xs,AL.ok x) (hl:xs.length≤1000):Tri prog 44 #[.slice C xs.length H,.int .i64 40] [] [X_ C (xs.flatMap AL.cells),alF xs] (fun b:Bool=>.bool b) (fun _=>[]) (fun _=>[]):=by
 refine j_ func44 rfl rfl ntmps44 rfl fun v_1=>?_;refine Zz 7 ?_;refine e_ (u_ Bn_ rfl rfl) rfl (K_ rfl rfl fun A=>Zz 10 ?_);refine O_ (ι:={y:Nat×Int×Int×List Str×Value×Hp // y.1≤List.length xs∧(0≤y.2.1∧0≤y.2.2.1∧y.2.2.1≤y.2.1∧y.2.1≤1000∧y.2.2.2.1.length≤1000)∧zR 9 1 au_ y.2.2.2.2.1 y.2.2.2.1 y.2.2.2.2.2}) (fun y=>[(0,.slice C xs.length H),(1,.int .i64 40),(4,.bool false),(5,zp_ A 0),(6,.int .i64 (y.1.1:Int))]) (fun y=>((A,.cells #[.int .i64 y.1.2.1,.int .i64 y.1.2.2.1,y.1.2.2.2.2.1] 149 (0,0))::y.1.2.2.2.2.2)) (fun y=>[X_ C (xs.flatMap AL.cells),alF xs]) (fun y=>xs.length - y.1.1) ⟨((0:Nat),0,0,([]:List Str),(.slice none 0 0),[]),by simp,(by first|exact a6|simp),(az_.nil _ _)⟩ zl d_ zh ?_;rintro ⟨⟨i,n_1,r_1,l_1,B,I⟩,d8,a6,d⟩;dsimp only at d8 a6 d ⊢;refine Zi 6 (fun d5=>?_) fun d5=>?_
 ·refine Zi 12 (fun b0=>?_) fun b0=>?_
  ·refine Zz 19 ?_
   exact eP_
  refine Zi 10 (fun a5=>?_) fun a5=>?_
  ·refine Zz 13 ?_
   exact eP_
  refine Zz 11 ?_;refine e_ (cF_ d t_ rfl) rfl (ar_ rfl rfl (E_ (dV_ rfl rfl) rfl fun b1 b6=>Zz 5 ?_));exact aa_ results44 b1 rfl g_ zt
 obtain⟨b9,G,hx_1,m⟩:=zge (show i<xs.length by omega);have hal:=(e0 G m).len;refine Zz 13 ?_;refine O_ (ι:={y:Nat×Int×Int×List Str×Value×Hp // y.1≤List.length (AL.l G)∧(0≤y.2.1∧0≤y.2.2.1∧y.2.2.1≤y.2.1∧y.2.1≤1000∧y.2.2.2.1.length≤1000)∧zR 9 1 au_ y.2.2.2.2.1 y.2.2.2.1 y.2.2.2.2.2}) (fun y=>[(0,.slice C xs.length H),(1,.int .i64 40),(4,.bool false),(5,zp_ A 0),(6,.int .i64 (i:Int)),(7,.int .i64 (y.1.1:Int))]) (fun y=>((A,.cells #[.int .i64 y.1.2.1,.int .i64 y.1.2.2.1,y.1.2.2.2.2.1] 149 (0,0))::y.1.2.2.2.2.2)) (fun y=>[X_ C (xs.flatMap AL.cells),alF xs]) (fun y=>List.length (AL.l G) - y.1.1) ⟨((0:Nat),n_1,r_1,l_1,B,I),by simp,(by first|exact a6|simp),d⟩ zl zp zh ?_;rintro ⟨⟨k,n_2,b1,l_2,B,I⟩,hi_k,a3,d⟩;dsimp only at hi_k a3 d ⊢;refine Zi 9 (fun b0=>?_) fun b0=>?_
 ·refine Zz 11 ?_
  exact x_ ⟨(i+1,n_2,b1,l_2,B,I),b9,(by first|exact a3|(dsimp only;omega)),d⟩ zab_ zl zp zh
 obtain⟨c2,e,b4,E⟩:=zge (show k<List.length (AL.l G) by omega);have N:=(e0 G m).ok e E;have hrc_1:=N.cap;refine Zz 14 ?_;refine e_ (U_ aU_ H_ rfl rfl (fun v _ h=>aK_ (n:=16) Ax.cells_len zad_ (by exact (h.2.1 G m).1) b4) zaa_ zah_) rfl ?_;refine e_ (al_ (ad:=(AL.ad G)) (us:=Ax.cells e) bq_ H_ rfl (fun v _ h=>by exact (h.2.1 G m).1) (Ax.cells_len _) (z_ Ax.cells_len b4)) rfl (y_ aG_ rfl fun K=>o_ 0 H_ rfl rfl rfl rfl rfl rfl (Zi 10 (fun a5=>?_) fun a5=>?_))
 ·refine Zz 10 ?_
  refine e_ (cF_ d t_ rfl) rfl (ar_ rfl rfl ?_);refine Zi 0 (fun b6=>?_) fun b6=>?_
  ·refine Zi 9 (fun d3=>?_) fun d3=>?_
   ·refine Zz 5 ?_
    refine f_ (nh_ e N) rfl g_ (fun v _ h=>by exact⟨((h.2.1 G m).2 e E),trivial⟩) rfl fun⟨bf,hbf⟩=>?_;dsimp only;refine ar_ rfl rfl (e_ (aR_ rfl) rfl (Zz 3 ?_));cases bf
    ·refine Zz 7 ?_
     exact eP_
    have a2:=hbf rfl;have hfl:=a2.left;have hfr:=a2.right;refine Zz 8 ?_;refine f_ (nY_ _ e.left (Nat.le_refl _) N.left A n_2 b1 l_2 B I d (by have:=a2.left;have:=a2.right;omega)) rfl (i_ (c_ d_) C_) (fun v _ h=>by exact⟨((h.2.1 G m).2 e E).1,trivial⟩) rfl fun⟨⟨nw_1,rw_1,lw_1,c0,Hw_1⟩,b2,e3,d9,hy1d⟩=>?_;dsimp only;dsimp only at b2 e3 d9 hy1d;refine Zz 2 ?_;refine A_ (R_ d_ (bg_ bi_)) (Zz 5 ?_);refine f_ (nY_ _ e.right (Nat.le_refl _) N.right A nw_1 rw_1 lw_1 c0 Hw_1 b2 (by have:=a2.left;have:=a2.right;omega)) rfl (i_ d_ C_) (fun v _ h=>by exact⟨((h.2.1 G m).2 e E).2.1,trivial⟩) rfl fun⟨⟨W,F,a7,O,Y⟩,a8,hy2b,hy2c,e4⟩=>?_;dsimp only;dsimp only at a8 hy2b hy2c e4;refine Zz 3 ?_;refine A_ (R_ d_ (bg_ bi_)) (Zz 4 ?_);refine E_ (dK_ rfl rfl) rfl fun r_3 Z=>Zz 2 ?_
    refine ic_ (ι:={y:Int // (W≤y∧y≤W+1)}) (fun y=>[(0,.slice C xs.length H),(1,.int .i64 40),(4,.bool false),(5,zp_ A 0),(6,.int .i64 (i:Int)),(7,.int .i64 (k:Int)),(8,zp_ K 0)]) (fun y=>((K,.cells (Ax.cells e).toArray 30 (0,0))::((A,.cells #[.int .i64 y.1,.int .i64 F,O] 149 (0,0))::Y))) (fun y=>[X_ C (xs.flatMap AL.cells),alF xs]) ?_ ?_
    ·cases r_3
     ·replace Z:=er_ Z
      refine Zz 3 ?_;exact dl_ ⟨W,zat_⟩ zl zp zf
     replace Z:=eo_ Z;refine Zz 10 ?_;refine o_ 0 P_ rfl rfl rfl rfl rfl rfl (Zz 2 ?_);exact dl_ ⟨(W+1),zat_⟩ zl (i_ (c_ d_) (i_ d_ aj_)) zf
    rintro ⟨V,c1⟩;dsimp only at c1 ⊢;refine Zz 6 ?_;refine E_ (dK_ rfl rfl) rfl fun r_4 U=>Zz 2 ?_
    refine ic_ (ι:={y:Int // (V≤y∧y≤V+1)}) (fun y=>[(0,.slice C xs.length H),(1,.int .i64 40),(4,.bool false),(5,zp_ A 0),(6,.int .i64 (i:Int)),(7,.int .i64 (k:Int)),(8,zp_ K 0)]) (fun y=>((K,.cells (Ax.cells e).toArray 30 (0,0))::((A,.cells #[.int .i64 y.1,.int .i64 F,O] 149 (0,0))::Y))) (fun y=>[X_ C (xs.flatMap AL.cells),alF xs]) ?_ ?_
    ·cases r_4
     ·replace U:=er_ U
      refine Zz 3 ?_;exact dl_ ⟨V,zat_⟩ zl zp zf
     replace U:=eo_ U;refine Zz 10 ?_;refine o_ 1 P_ rfl rfl rfl rfl rfl rfl (Zz 2 ?_);exact dl_ ⟨(V+1),zat_⟩ zl zp zf
    rintro ⟨J,d2⟩;dsimp only at d2 ⊢;refine Zz 6 ?_;refine E_ (dK_ rfl rfl) rfl fun r_5 a1=>Zz 2 ?_
    refine ic_ (ι:={y:List Str×Value×Hp // y.1.length≤a7.length+1∧zR 9 1 au_ y.2.1 y.1 y.2.2}) (fun y=>[(0,.slice C xs.length H),(1,.int .i64 40),(4,.bool false),(5,zp_ A 0),(6,.int .i64 (i:Int)),(7,.int .i64 (k:Int)),(8,zp_ K 0)]) (fun y=>((K,.cells (Ax.cells e).toArray 30 (0,0))::((A,.cells #[.int .i64 J,.int .i64 F,y.1.2.1] 149 (0,0))::y.1.2.2))) (fun y=>[X_ C (xs.flatMap AL.cells),alF xs]) ?_ ?_
    ·cases r_5
     ·replace a1:=er_ a1
      refine Zz 3 ?_;exact dl_ ⟨(a7,O,Y),zat_,a8⟩ zl zp zf
     replace a1:=eo_ a1;refine Zz 5 ?_;refine f_ (nz_ e.role a7 A J F O Y a8 zaa_) rfl zp zt rfl fun⟨⟨L,M,R⟩,b5,d7⟩=>?_;dsimp only;dsimp only at b5 d7;refine Zz 2 ?_;exact dl_ ⟨(L,M,R),zat_,b5⟩ zl zp zf
    rintro ⟨⟨b7,B,I⟩,d0,d⟩;dsimp only at d0 d ⊢;refine Zz 12 ?_;refine O_ (ι:={y:Nat×List Str×Str×Value×Hp // y.1≤List.length e.roles∧y.2.1.length≤b7.length+2*y.1∧y.2.2.1.length≤140737488351300*y.1∧zR 9 1 au_ y.2.2.2.1 y.2.1 y.2.2.2.2}) (fun y=>[(0,.slice C xs.length H),(1,.int .i64 40),(4,.bool false),(5,zp_ A 0),(6,.int .i64 (i:Int)),(7,.int .i64 (k:Int)),(8,zp_ K 0),(9,str y.1.2.2.1),(10,.int .i64 (y.1.1:Int))]) (fun y=>((K,.cells (Ax.cells e).toArray 30 (0,0))::((A,.cells #[.int .i64 J,.int .i64 F,y.1.2.2.2.1] 149 (0,0))::y.1.2.2.2.2))) (fun y=>[X_ C (xs.flatMap AL.cells),alF xs]) (fun y=>e.roles.length - y.1.1) ⟨((0:Nat),b7,([]:Str),B,I),by simp,zaf_,zaf_,d⟩ zl zp zh ?_;rintro ⟨⟨j,e1,bg,B,I⟩,d6,hl_1,hbg,d⟩;dsimp only at d6 hl_1 hbg d ⊢;refine Zi 7 (fun hr_9=>?_) fun hr_9=>?_
    ·refine Zz 11 ?_
     exact x_ ⟨(k+1,J,F,e1,B,I),c2,(by first|exact a3|(dsimp only;omega)),d⟩ zab_ zl zp zh
    obtain⟨a9,Q,X,S⟩:=zge (show j<e.roles.length by omega);have hrl_1:=N.roles Q S;refine Zz 13 ?_;refine e_ (U_ t_ M_ rfl rfl (fun v _ h=>aK_ (n:=1) aY_ zad_ (by exact ((h.2.1 G m).2 e E).2.2) X) zaa_ zah_) rfl ?_;refine e_ (bP_ (ad:=e.ad) ai_ rfl (fun v _ h=>by exact ((h.2.1 G m).2 e E).2.2) (z_ aY_ X 0 _ rfl)) rfl (f_ (nz_ Q e1 A J F B I d zaa_) rfl zp zt rfl fun⟨⟨L,M,R⟩,a0,hy4b⟩=>?_);dsimp only;dsimp only at a0 hy4b;refine Zz 2 ?_;refine A_ (R_ d_ (bg_ bi_)) (Zz 3 ?_);refine e_ (dW_ rfl rfl zaj_) rfl ?_;refine Zz 3 ?_;refine e_ (U_ t_ M_ rfl rfl (fun v _ h=>aK_ (n:=1) aY_ zad_ (by exact ((h.2.1 G m).2 e E).2.2) X) zaa_ zah_) rfl ?_;refine e_ (bP_ (ad:=e.ad) ai_ rfl (fun v _ h=>by exact ((h.2.1 G m).2 e E).2.2) (z_ aY_ X 0 _ rfl)) rfl (e_ (dW_ rfl rfl zaj_) rfl ?_);refine Zi 6 (fun b8=>?_) fun b8=>?_
    ·refine Zz 10 ?_
     refine ic_ (ι:={y:List Str×Value×Hp // y.1.length≤L.length+1∧zR 9 1 au_ y.2.1 y.1 y.2.2}) (fun y=>[(0,.slice C xs.length H),(1,.int .i64 40),(4,.bool false),(5,zp_ A 0),(6,.int .i64 (i:Int)),(7,.int .i64 (k:Int)),(8,zp_ K 0),(9,str ((bg++[46])++Q)),(10,.int .i64 (j:Int))]) (fun y=>((K,.cells (Ax.cells e).toArray 30 (0,0))::((A,.cells #[.int .i64 J,.int .i64 F,y.1.2.1] 149 (0,0))::y.1.2.2))) (fun y=>[X_ C (xs.flatMap AL.cells),alF xs]) ?_ ?_
     ·refine Zz 3 ?_
      exact dl_ ⟨(L,M,R),zat_,a0⟩ zl zp zf
     exact mb_
    refine Zz 12 ?_;refine E_ (cD_ rfl rfl) rfl fun r_6 P=>Zz 3 ?_
    refine ic_ (ι:={y:List Str×Value×Hp // y.1.length≤L.length+1∧zR 9 1 au_ y.2.1 y.1 y.2.2}) (fun y=>[(0,.slice C xs.length H),(1,.int .i64 40),(4,.bool false),(5,zp_ A 0),(6,.int .i64 (i:Int)),(7,.int .i64 (k:Int)),(8,zp_ K 0),(9,str ((bg++[46])++Q)),(10,.int .i64 (j:Int))]) (fun y=>((K,.cells (Ax.cells e).toArray 30 (0,0))::((A,.cells #[.int .i64 J,.int .i64 F,y.1.2.1] 149 (0,0))::y.1.2.2))) (fun y=>[X_ C (xs.flatMap AL.cells),alF xs]) ?_ ?_
    ·cases r_6
     ·replace P:=zdf P
      refine Zz 3 ?_;exact dl_ ⟨(L,M,R),zat_,a0⟩ zl zp zf
     replace P:=zdt P;refine Zz 4 ?_;refine f_ (nz_ ((bg++[46])++Q) L A J F M R a0 zaa_) rfl zp zt rfl fun⟨⟨e2,d1,Hw_4⟩,b3,d4⟩=>?_;dsimp only;dsimp only at b3 d4;refine Zz 2 ?_;exact dl_ ⟨(e2,d1,Hw_4),zat_,b3⟩ zl zp zf
    exact mb_
   refine Zz 15 ?_;exact eP_
  refine Zz 21 ?_;exact eP_
 refine Zz 28 ?_;exact eP_
theorem CL_ (xs:List AL) (e:Ao) (d:Nat) (h:∀ x∈xs,AL.ok x) (hl:xs.length≤1000):Tri prog 17 #[.slice e xs.length d] [] [X_ e (xs.flatMap AL.cells),alF xs] (fun b:Bool=>.bool b) (fun _=>[]) (fun _=>[]):=by
  refine j_ func17 rfl rfl ntmps17 rfl fun v=>?_;refine Zz 8 ?_;refine f_ (zL_ xs e d h hl) rfl g_ zf rfl fun m=>Zz 4 ?_
  exact aa_ results17 m rfl g_ zt
theorem al_one {x:AL} {v:Vw} (h:(ch_ x.ad x.l).p v):(alF [x]).p v:=fun y d=>by rw[List.mem_singleton.1 d];exact h
theorem yu_ {x:AL} (h:x.ok):∀ y∈[x],AL.ok y:=fun y d=>by rw[List.mem_singleton.1 d];exact h
theorem xt_ (l:List Ax) (ad:Ao) (cap:Nat) (d:l.length≤12) (e:∀ x∈l,x.ok) (m:∀ x∈l,x.check=0) :
    Tri prog 58 #[.slice ad l.length cap] [] [ch_ ad l,bN_] (fun y:{y:Ao×Nat // (bo_ 0 l).length≤y.2∧y.2≤maxLen∧(y.1=none→y.2=0)}=>.tuple #[.slice y.1.1 (bo_ 0 l).length y.1.2,.int .i64 0]) (fun _=>[]) (fun y=>[X_ y.1.1 ((bo_ 0 l).flatMap Pc.cells)]):=by
  have h:=lK_ l ad cap zaa_ e;rw[oC_ d m]at h;exact h
theorem oV_ (l:List Ax) (ad:Ao) (cap:Nat) (H:∀ x∈l,x.ok) (X:∀ x∈l,x.check=0) (N:l.length≤12) (q:List Pc) (e:Ao) (d:Nat) (I:q.length≤d) (M:e=none→d=0) (hql:q.length≤100000) (Q:∀ z∈q,z.sm):Tri prog 53 #[.agg #[.slice ad l.length cap],.slice e q.length d] [] [ch_ ad l,X_ e (q.flatMap Pc.cells),bN_,hW_] (fun y:{y:Cl×Int // eU_ (bo_ 0 l++q) 1073741824 y.1 y.2}=>.tuple #[y.1.1.val,.int .i64 y.1.2]) (fun _=>[]) (fun y=>y.1.1.row):=by
  refine j_ func53 rfl rfl ntmps53 rfl fun Y=>?_;refine Zz 2 ?_;refine K_ rfl rfl fun Z=>y_ sf_ rfl fun a0=>Zz 7 ?_
  refine f_ (xt_ l ad cap N H X) rfl g_ zf rfl fun⟨⟨G,A⟩,B,E,m⟩=>?_;dsimp only;try dsimp only at B E m
  have a1:=pg_ 0 l X;refine Zz 11 ?_;refine e_ (ao_ (cl_ rfl rfl) (show _=Value.bool false from congrArg Value.bool zad_)) rfl (Zz 9 ?_);refine G_ runUnderlying138 kH_ cc_ rfl rfl rfl rfl rfl rfl fun W=>?_;refine aq_ (List.flatMap PL.cells [(PL.mk (bo_ 0 l) G A),(PL.mk q e d)]) d_ rfl ?_;refine f_ ((show Tri prog 39 _ [] _ (fun y:{y:Ao×Nat // (bo_ 0 l++q).length≤y.2∧y.2≤maxLen∧(y.1=none→y.2=0)}=>.slice y.1.1 (bo_ 0 l++q).length y.1.2) (fun _=>[]) (fun y=>[X_ y.1.1 ((bo_ 0 l++q).flatMap Pc.cells)]) from by have h:=tS_ [(PL.mk (bo_ 0 l) G A),(PL.mk q e d)] (some ⟨W,0,none⟩) 2 (fun y K=>by simp only[List.mem_cons,List.not_mem_nil,or_false]at K;rcases K with rfl|rfl;exact⟨B,m,by dsimp only;omega⟩;exact⟨I,M,by dsimp only;omega⟩) zaf_;have eC:(ha_ [(PL.mk (bo_ 0 l) G A),(PL.mk q e d)])=bo_ 0 l++q:=(by simp[ha_]);rw[eC]at h;exact h)) rfl g_ (fun v _ h=>by refine⟨h.1,fun y K=>?_,trivial⟩;simp only[List.mem_cons,List.not_mem_nil,or_false]at K;rcases K with rfl|rfl;exact h.2.1;exact h.2.2.2.1) rfl fun⟨⟨L,F⟩,P,T,O⟩=>?_;dsimp only;refine f_ (all_c ((bo_ 0 l)++q) L F 1073741824 (fun z R=>(List.mem_append.1 R).elim (fun R=>(ph_ l 0 zaa_ H X z R).2.2.1) (Q z)) (by rw[List.length_append];omega)) rfl g_ zf rfl fun⟨⟨J,V⟩,C⟩=>?_;dsimp only;try dsimp only at C
  refine Zz 2 ?_;refine o_ 0 bG_ rfl rfl rfl rfl rfl rfl (Zz 4 ?_);exact cS_ ⟨(J,V),C⟩ (fun aa v U S=>bM_ (us:=Cl.cells J) 0 results53 gO_ bG_ rfl rfl rfl rfl aa v U S) g_ zf
def FaR (l:List Ax) (x:Ax) (ok:Bool) (e:Int):Prop:=∃ c e2,eU_ (bo_ 0 l++x.goalP.1) 1073741824 c e2∧((e2≠0∧ok=false∧e=e2)∨(e2=0∧e=0∧ok=x.goalP.2.1.all (tO_ c.facts)))
theorem zV_ (l:List Ax) (ad:Ao) (cap:Nat) (T:∀ x∈l,x.ok) (hC:∀ x∈l,x.check=0) (R:l.length≤12) (x:Ax) (hox:x.ok) (q:List Pc) (F:List Fc) (hG:x.goalP=(q,F,0)) (hql:q.length≤100000) (V:∀ z∈q,z.sm) (hFl:F.length≤100000) (Y:GlT x q F 0):Tri prog 102 #[.agg #[.slice ad l.length cap],Ax.val x] [] [ch_ ad l,Ax.memF x,bN_,hW_] (fun y:{y:Bool×Int // FaR l x y.1 y.2}=>.tuple #[.bool y.1.1,.int .i64 y.1.2]) (fun _=>[]) (fun _=>[]):=by
 refine j_ func102 rfl rfl ntmps102 rfl fun v_1=>?_;refine Zz 2 ?_;refine K_ rfl rfl fun S=>K_ rfl rfl fun U=>Zz 7 ?_
 refine f_ (Y) rfl g_ zf rfl fun⟨⟨N,M,fad,fcap⟩,B,G,H,I,A⟩=>?_;dsimp only;try dsimp only at B G H I A
 refine Zz 13 ?_;refine e_ (ao_ (cl_ rfl rfl) (show _=Value.bool false from congrArg Value.bool zad_)) rfl (Zz 9 ?_);refine f_ (oV_ l ad cap T hC R q N M B A hql V) rfl g_ zf rfl fun⟨⟨d,v⟩,e⟩=>?_;dsimp only;try dsimp only at e
 have hAl:=eU_.len e;refine Zz 3 ?_;refine y_ sf_ rfl fun O=>o_ 0 bG_ rfl rfl rfl rfl rfl rfl (Zi 7 (fun h=>?_) fun h=>?_)
 ·refine Zz 14 ?_
  refine O_ (ι:={y:Nat // y≤List.length F∧(∀ z∈List.take y F,tO_ d.facts z=true)}) (fun y=>[(4,.bool false),(5,.int .i64 v),(8,zp_ O 0),(29,.slice fad F.length fcap),(30,.int .i64 (List.length F:Int)),(31,.int .i64 (y.1:Int))]) (fun y=>((O,.cells #[.slice d.aad d.atoms.length d.acap,.slice d.fad d.facts.length d.fcap] 96 (0,0))::((U,.cells (Ax.cells x).toArray 30 (0,0))::((S,.cells #[.slice ad l.length cap] 88 (0,0))::[])))) (fun y=>[X_ d.aad (d.atoms.flatMap au_),X_ d.fad (d.facts.flatMap Fc.cells),X_ N (q.flatMap Pc.cells),X_ fad (F.flatMap Fc.cells),ch_ ad l,Ax.memF x,bN_,hW_]) (fun y=>F.length - y.1) ⟨(0:Nat),by simp,zaf_⟩ zl zp zh ?_;rintro ⟨i,L,X⟩;dsimp only at L X ⊢;refine Zi 2 (fun P=>?_) fun P=>?_
  ·refine Zz 13 ?_
   exact fO_ results102 ⟨(true,0),by unfold FaR;rw[hG];exact⟨d,v,e,.inr ⟨by simpa using h,rfl,(List.all_eq_true.2 fun z Q=>X z (by rw[List.take_of_length_le zaa_];exact Q)).symm⟩⟩⟩ rfl rfl rfl g_ zt
  have m:i<F.length:=by omega
  obtain⟨K,C⟩:∃ W,F[i]? = some W:=⟨_,List.getElem?_eq_getElem m⟩;have J:K∈F:=List.mem_of_getElem? C;refine Zz 12 ?_;refine y_ aV_ rfl fun b_4=>o_ 0 at_ rfl rfl rfl rfl rfl rfl (Zz 6 ?_)
  refine an_ (der_c d K zaa_) rfl g_ zf rfl fun Z E=>e_ (aR_ rfl) rfl (Zz 2 ?_)
  cases Z
  ·refine Zz 8 ?_
   exact fO_ results102 ⟨(false,0),by unfold FaR;rw[hG];exact⟨d,v,e,.inr ⟨by simpa using h,rfl,(List.all_eq_false.2 ⟨K,J,by simpa using E⟩).symm⟩⟩⟩ rfl rfl rfl g_ zt
  refine Zz 8 ?_;exact x_ ⟨i+1,m,(fun z Q=>by rw[tk1 C,List.mem_append,List.mem_singleton]at Q;exact Q.elim (X z) fun q=>by rw[q];simpa using E)⟩ zab_ zl (i_ (c_ d_) (i_ (c_ d_) (c_ d_))) zh
 refine Zz 11 ?_;exact fO_ results102 ⟨(false,v),by unfold FaR;rw[hG];exact⟨d,v,e,.inl ⟨by simpa using h,rfl,rfl⟩⟩⟩ rfl rfl rfl g_ zt
theorem uZ_ (l:List Ax) (ad:Ao) (cap:Nat) (v:∀ x∈l,x.ok) (L:∀ x∈l,x.check=0) (d:l.length≤12) (x:Ax) (e:x.ok) (q:List Pc) (F:List Fc) (M:x.goalP=(q,F,0)) (B:q.length≤100000) (A:∀ z∈q,z.sm) (h:F.length≤100000) (m:GlT x q F 0) (J:(x.kind=8)):Tri prog 48 #[.agg #[.slice ad l.length cap],Ax.val x] [] [ch_ ad l,Ax.memF x,bN_,hW_] (fun y:{y:Bool×Int // FaR l x y.1 y.2}=>.tuple #[.bool y.1.1,.int .i64 y.1.2]) (fun _=>[]) (fun _=>[]):=by
 refine j_ func48 rfl rfl ntmps48 rfl fun H=>?_;refine Zz 2 ?_;refine K_ rfl rfl fun I=>K_ rfl rfl fun K=>Zz 6 ?_
 refine bu_ rfl fun G=>Zz 1 ?_
 refine e_ (bm_ rfl rfl) rfl (aC_ 0 (.inl rfl) ce_ rfl rfl rfl rfl (aS_ m_) (ay_ m_ rfl) (Zz 1 ?_));refine e_ (bm_ rfl rfl) rfl (aC_ 0 (.inl rfl) ce_ rfl rfl rfl rfl (aS_ m_) (ay_ m_ rfl) (Zz 1 ?_));refine e_ (bm_ rfl rfl) rfl (aC_ 0 (.inl rfl) ce_ rfl rfl rfl rfl (aS_ m_) (ay_ m_ rfl) (Zz 1 ?_));refine e_ (bm_ rfl rfl) rfl (aC_ 0 (.inl rfl) ce_ rfl rfl rfl rfl (aS_ m_) (ay_ m_ rfl) (Zz 1 ?_));refine e_ (bm_ rfl rfl) rfl (aC_ 0 (.inl rfl) ce_ rfl rfl rfl rfl (aS_ m_) (ay_ m_ rfl) (Zz 1 ?_));refine e_ (bm_ rfl rfl) rfl (aC_ 0 (.inl rfl) ce_ rfl rfl rfl rfl (aS_ m_) (ay_ m_ rfl) (Zz 1 ?_));refine e_ (bm_ rfl rfl) rfl (aC_ 0 (.inl rfl) ce_ rfl rfl rfl rfl (aS_ m_) (ay_ m_ rfl) (Zz 1 ?_));refine e_ (bm_ rfl rfl) rfl (aC_ 0 (.inl rfl) ce_ rfl rfl rfl rfl (aS_ m_) (ay_ m_ rfl) (Zz 1 ?_));refine e_ (bm_ rfl rfl) rfl (aC_ 0 (.inl rfl) ce_ rfl rfl rfl rfl (aS_ m_) (ay_ m_ rfl) (Zz 9 ?_));refine e_ (gx_ (i:=7) (u:=(.func (.func 102) #[.agg #[.slice ad l.length cap]] #[])) ce_ rfl rfl 0 rfl (aS_ m_) (ay_ m_ (by rw[J];rfl))) rfl ?_;refine Zz 11 ?_;refine e_ (aR_ rfl) rfl (Zz 9 ?_);refine Z_ (first:=[(.agg #[.slice ad l.length cap])]) (vs:=[Ax.val x]) (cap:=[]) (zV_ l ad cap v L d x e q F M B A h m) rfl rfl g_ zf rfl fun⟨⟨fb,E⟩,C⟩=>?_;try dsimp only at C
 simp only[List.nil_append];refine Zz 7 ?_;exact fO_ results48 ⟨(fb,E),C⟩ rfl rfl rfl g_ zt
def hpB (m q:Str):Bool:=decide ((q.length:Int)≤(m.length:Int))&&(m.take q.length==q)
def clF (f:Fc):Bool:=rx_ f&&decide (f.b=[33])&&(decide (f.a=[42])||hpB f.a [123])
def CoR (l:List Ax) (ok:Bool) (e:Int):Prop:=∃ e0,BCk l e0∧((e0≠0∧ok=false∧e=e0)∨(e0=0∧∃ c e2,eU_ (bo_ 0 l) 1073741824 c e2∧((e2≠0∧ok=false∧e=e2)∨(e2=0∧e=0∧ok=!(c.facts.any clF)))))
def EnR (l:List Ax) (a:Ax) (ok:Bool) (e:Int):Prop:=∃ e0,BCk l e0∧((e0≠0∧ok=false∧e=e0)∨(e0=0∧∃ y te,TyR a (y,te)∧((te≠0∧ok=false∧e=te)∨(te=0∧FaR l y ok e))))
theorem yR_:gQ_ prog 88 [(0,1)] [.slice none 0 0]:=⟨_,zeroValue88,runUnderlying88,fun w=>by simp[ht_]⟩
theorem ts_ (l:List Ax) (ad:Ao) (cap:Nat) (e:∀ x∈l,x.ok) (m:∀ x∈l,x.check=0) (d:l.length≤12):Tri prog 53 #[.agg #[.slice ad l.length cap],.slice none 0 0] [] [ch_ ad l,X_ none (List.flatMap Pc.cells []),bN_,hW_] (fun y:{y:Cl×Int // eU_ (bo_ 0 l) 1073741824 y.1 y.2}=>.tuple #[y.1.1.val,.int .i64 y.1.2]) (fun _=>[]) (fun y=>y.1.1.row):=by
  have h:=oV_ l ad cap e m d [] none 0 (Nat.le_refl _) (fun _=>rfl) zaf_ zaf_;rw[List.append_nil]at h;exact h
theorem xV_ (m q:Str):Fn0 prog 186 #[str m,str q] (.bool (hpB m q)):=by
 refine j_ func186 rfl rfl ntmps186 rfl fun h=>?_;refine Zz 8 ?_;refine e_ (cB_ N_ rfl) rfl (Zz 1 ?_);refine e_ (cB_ N_ rfl) rfl ?_;refine Zi 0 (fun e=>?_) fun e=>?_
 ·refine Zz 12 ?_
  exact aa_ results186 () (s_ rfl (by unfold hpB;simp[*])) g_ zt
 refine Zz 6 ?_;refine e_ (cB_ N_ rfl) rfl (ar_ rfl rfl (e_ (ao_ (eI_ (i:=0) (j:=q.length) (kl:=.i64) (kh:=.i64) N_ rfl rfl rfl (Nat.zero_le _) zaa_) (show _=str (m.take q.length) by simp)) rfl (Zz 3 ?_)));refine E_ (dv_ rfl rfl) rfl fun v d=>Zz 5 ?_
 exact aa_ results186 () (s_ rfl (by rw[← d];unfold hpB;simp[*])) g_ zt
theorem xU_ (m q:Str):Fn0 prog 118 #[str m,str q] (.bool (hpB m q)):=by
  refine j_ func118 rfl rfl ntmps118 rfl fun d=>?_;refine Zz 9 ?_;refine f_ (xV_ m q) rfl g_ zt rfl fun _=>Zz 4 ?_
  exact aa_ results118 () rfl g_ zt
theorem mD_ {G:Prop} (h:G:=by
 exact x_ ⟨(i+1,A.a,true),d,zbW_⟩ zab_ zl (c_ d_) zh):G:=h
theorem AC_ (c:Cl) (M:c.facts.length≤1000000000000):Tri prog 54 #[Cl.val c] [] [X_ c.fad (c.facts.flatMap Fc.cells)] (fun y:{y:Str×Bool // y.2=c.facts.any clF}=>.tuple #[str y.1.1,.bool y.1.2]) (fun _=>[]) (fun _=>[]):=by
 refine j_ func54 rfl rfl ntmps54 rfl fun K=>?_;refine Zz 2 ?_;refine K_ rfl rfl fun I=>Zz 14 ?_
 refine O_ (ι:={y:Nat×Str×Bool // y.1≤List.length c.facts∧(y.2.2=List.any (c.facts.take y.1) clF)}) (fun y=>[(2,str y.1.2.1),(3,.bool y.1.2.2),(7,.slice c.fad c.facts.length c.fcap),(8,.int .i64 (List.length c.facts:Int)),(9,.int .i64 (y.1.1:Int))]) (fun y=>((I,.cells #[.slice c.aad c.atoms.length c.acap,.slice c.fad c.facts.length c.fcap] 96 (0,0))::[])) (fun y=>[X_ c.fad (c.facts.flatMap Fc.cells)]) (fun y=>c.facts.length - y.1.1) ⟨((0:Nat),([]:Str),false),by simp,zaf_⟩ zl d_ zh ?_;rintro ⟨⟨i,a,b⟩,F,B⟩;dsimp only at F B ⊢;refine Zi 2 (fun E=>?_) fun E=>?_
 ·refine Zz 15 ?_
  exact fO_ results54 ⟨(a,b),by dsimp only;rw[List.take_of_length_le zaa_]at B;exact B⟩ rfl rfl rfl g_ zt
 have d:i<c.facts.length:=by omega
 obtain⟨A,h⟩:∃ G,c.facts[i]? = some G:=⟨_,List.getElem?_eq_getElem d⟩;refine Zz 12 ?_;refine y_ aV_ rfl fun L=>o_ 0 at_ rfl rfl rfl rfl rfl rfl (Zz 6 ?_)
 refine an_ (Cb_ A) rfl g_ zt rfl fun J m=>e_ (aR_ rfl) rfl (Zz 1 ?_)
 cases J
 ·refine Zz 25 ?_
  exact x_ ⟨(i+1,a,b),d,(by rw[tk1 h,List.any_append];rw[← B];simp[clF,m])⟩ zab_ zl (c_ d_) zh
 refine Zi 5 (fun e=>?_) fun e=>?_
 ·refine Zi 7 (fun v=>?_) fun v=>?_
  ·refine Zz 17 ?_
   refine e_ (aR_ rfl) rfl (Zz 1 ?_);cases b
   ·refine Zz 20 ?_
    exact x_ ⟨(i+1,A.a,true),d,(by rw[tk1 h,List.any_append];simp[clF,m,e,v,← B])⟩ zab_ zl (c_ d_) zh
   refine Zi 7 (fun x=>?_) fun x=>?_
   ·refine Zz 11 ?_
    exact x_ ⟨(i+1,a,true),d,zbW_⟩ zab_ zl (c_ d_) zh
   refine Zz 16 ?_;exact mD_
  refine Zz 7 ?_;refine an_ (xU_ A.a [123]) rfl g_ zt rfl fun H x=>ar_ rfl rfl (e_ (aR_ rfl) rfl (Zz 5 ?_))
  cases H
  ·refine Zz 8 ?_
   exact x_ ⟨(i+1,a,b),d,(by rw[tk1 h,List.any_append];rw[← B];simp[clF,m,e,v,x])⟩ zab_ zl (c_ d_) zh
  refine Zz 6 ?_;refine e_ (aR_ rfl) rfl (Zz 1 ?_);cases b
  ·refine Zz 20 ?_
   exact mD_
  refine Zi 7 (fun C=>?_) fun C=>?_
  ·refine Zz 11 ?_
   exact x_ ⟨(i+1,a,true),d,zbU_⟩ zab_ zl (c_ d_) zh
  refine Zz 16 ?_;exact x_ ⟨(i+1,A.a,true),d,zbU_⟩ zab_ zl (c_ d_) zh
 refine Zz 22 ?_;exact x_ ⟨(i+1,a,b),d,(by rw[tk1 h,List.any_append];rw[← B];simp[clF,m,e])⟩ zab_ zl (c_ d_) zh
theorem ls_ (l:List Ax) (ad:Ao) (cap:Nat) (H:∀ x∈l,x.ok) (I:l.length≤12):Tri prog 21 #[.agg #[.slice ad l.length cap]] [] [ch_ ad l,bN_,hW_] (fun y:{y:Bool×Int // CoR l y.1 y.2}=>.tuple #[.bool y.1.1,.int .i64 y.1.2]) (fun _=>[]) (fun _=>[]):=by
 refine j_ func21 rfl rfl ntmps21 rfl fun K=>?_;refine Zz 2 ?_;refine K_ rfl rfl fun L=>Zz 8 ?_
 refine f_ (jk_ l ad cap H zaa_) rfl g_ zf rfl fun⟨A,e⟩=>?_;dsimp only;refine Zi 6 (fun m=>?_) fun m=>?_
 ·have B:A=0:=by simpa using m
  have N:∀ x∈l,x.check=0:=gq_ (hI_ (B▸e)).1;refine Zz 9 ?_;refine e_ (u_ yR_ rfl rfl) rfl (f_ (ts_ l ad cap H N I) rfl g_ (fun v _ h=>by exact⟨h.1,.inl rfl,h.2.1,h.2.2.1,trivial⟩) rfl fun⟨⟨E,F⟩,d⟩=>?_);dsimp only;try dsimp only at d
  have J:=eU_.len d;refine Zz 3 ?_;refine y_ sf_ rfl fun M=>o_ 0 bG_ rfl rfl rfl rfl rfl rfl (Zi 7 (fun C=>?_) fun C=>?_)
  ·refine Zz 8 ?_
   refine f_ (AC_ E zaa_) rfl g_ zf rfl fun⟨⟨O,kb⟩,G⟩=>?_;dsimp only;dsimp only at G;refine Zz 10 ?_;refine e_ (aR_ rfl) rfl (Zz 5 ?_);exact fO_ results21 ⟨(!kb,0),⟨A,e,.inr ⟨B,E,F,d,.inr ⟨by simpa using C,rfl,by rw[← G]⟩⟩⟩⟩ rfl rfl rfl g_ zt
  refine Zz 11 ?_;exact fO_ results21 ⟨(false,F),⟨A,e,.inr ⟨B,E,F,d,.inl ⟨by simpa using C,rfl,rfl⟩⟩⟩⟩ rfl rfl rfl g_ zt
 refine Zz 11 ?_;exact fO_ results21 ⟨(false,A),⟨A,e,.inl ⟨by simpa using m,rfl,rfl⟩⟩⟩ rfl rfl rfl g_ zt
theorem qM_ (l:List Ax) (ad:Ao) (cap:Nat) (I:∀ x∈l,x.ok) (J:l.length≤12) (a:Ax) (S:a.ok) (R:∀ y E,TyR a (y,E)→E=(0:Int)→∃ q F,y.goalP=(q,F,0)∧q.length≤100000∧(∀ z∈q,z.sm)∧F.length≤100000∧y.check=0∧(y.kind=8)):Tri prog 19 #[.agg #[.slice ad l.length cap],Ax.val a] [] [ch_ ad l,Ax.memF a,bN_,hW_] (fun y:{y:Bool×Int // EnR l a y.1 y.2}=>.tuple #[.bool y.1.1,.int .i64 y.1.2]) (fun _=>[]) (fun _=>[]):=by
 refine j_ func19 rfl rfl ntmps19 rfl fun U=>?_;refine Zz 2 ?_;refine K_ rfl rfl fun V=>K_ rfl rfl fun W=>Zz 8 ?_
 refine f_ (jk_ l ad cap I zaa_) rfl g_ zf rfl fun⟨m,e⟩=>?_;dsimp only;refine Zi 6 (fun h=>?_) fun h=>?_
 ·have A:m=0:=by simpa using h
  have Z:∀ x∈l,x.check=0:=gq_ (hI_ (A▸e)).1;refine Zz 8 ?_;refine f_ (sz_ a S) rfl g_ zf rfl fun⟨⟨v,E⟩,d⟩=>?_;dsimp only;try dsimp only at d
  refine Zz 3 ?_;refine y_ aG_ rfl fun Y=>o_ 0 H_ rfl rfl rfl rfl rfl rfl (Zi 7 (fun B=>?_) fun B=>?_)
  ·have G:E=0:=by simpa using B
   have H:v.ok:=(d.2 G).2;obtain⟨K,O,C,Q,L,M,N,P⟩:=R v E d G;refine Zz 9 ?_;refine e_ (u_ yR_ rfl rfl) rfl (Zz 1 ?_);refine f_ (uZ_ l ad cap I Z J v H K O C Q L M (wj_ H N zaa_ C) P) rfl g_ zf rfl fun⟨⟨fb,X⟩,T⟩=>?_;dsimp only;try dsimp only at T
   refine Zz 7 ?_;exact fO_ results19 ⟨(fb,X),⟨m,e,.inr ⟨A,v,E,d,.inr ⟨G,T⟩⟩⟩⟩ rfl rfl rfl g_ zt
  refine Zz 11 ?_;exact fO_ results19 ⟨(false,E),⟨m,e,.inr ⟨A,v,E,d,.inl ⟨by simpa using B,rfl,rfl⟩⟩⟩⟩ rfl rfl rfl g_ zt
 refine Zz 11 ?_;exact fO_ results19 ⟨(false,m),⟨m,e,.inl ⟨by simpa using h,rfl,rfl⟩⟩⟩ rfl rfl rfl g_ zt
theorem jL_ {c:Con} {k lo hi:Int} {n:Str} (h:c.core=(Con.mk k n lo hi none 0 []).core):∃ ad cap,c=Con.mk k n lo hi ad cap []:=by
  rw[Con.core_eq,Con.core_eq]at h;cases c with
  | mk k' n' lo' hi' a' c' ps =>
    simp only[Con.kind,Con.name,Con.lo,Con.hi,Con.parts,Con.mk.injEq,List.map_nil,List.map_eq_nil_iff,true_and]at h;obtain⟨rfl,rfl,rfl,rfl,h⟩:=h;exact⟨a',c',by simp[h]⟩
structure TyG (s n:Str) (x:Ax):Prop where
  k:x.kind=8
  l:x.left.core=(Con.mk 0 [] 0 0 none 0 []).core
  r:x.right.core=(Con.mk 3 n 0 0 none 0 []).core
  rs:x.roles=[]
  ro:x.role=[]
  a:x.a=s
  b:x.b=[]
section
variable {s n:Str} {a y:Ax}
theorem TyG.form (h:TyG s n a):∃ o K J G L F c3,a=⟨8,o,Con.mk 0 [] 0 0 K J [],Con.mk 3 n 0 0 G L [],F,c3,[],[],s,[]⟩:=by
  obtain⟨I,M,e⟩:=jL_ h.l;obtain⟨E,H,B⟩:=jL_ h.r;cases a with
  | mk k o l r d c rs ro sa sb =>
    have m:=h.k;have A:=h.rs;have v:=h.ro;have x:=h.a;have C:=h.b;dsimp only at m A v x C e B;subst m A v x C e B;exact⟨_,_,_,_,_,_,_,rfl⟩
theorem TyG.tdy (h:TyG s n a) (t:TdyOf a y):TyG s n y:=by
  obtain⟨ad,cp,e⟩:=jL_ h.r;have m:¬ a.swp:=fun q=>by have:=q.1;rw[h.k]at this;omega
  have hl:=t.left;rw[if_neg m]at hl;have d:=t.right;rw[if_neg m]at d;have v:a.tdyL=a.left:=by unfold Ax.tdyL;rw[h.k];rfl
  have er:a.tdyR=a.right:=by
    unfold Ax.tdyR;rw[h.k,if_pos (show (us 8).right=true from rfl),Con.tdy_self zbE_ zbE_]
  rw[v]at hl;rw[er]at d;exact⟨t.kind.trans h.k,hl.trans h.l,d.trans h.r,t.roles.trans h.rs,t.role.trans h.ro,t.a.trans h.a,t.b.trans h.b⟩
theorem TyG.chk (h:TyG s n a) (g:TyG s n y):a.check=y.check:=by
  obtain⟨o,F,E,C,G,B,c3,rfl⟩:=h.form;obtain⟨o',e,x,A,v,d,m,rfl⟩:=g.form;rfl
theorem TyG.goal (h:TyG s n a) (d:a.check=0):a.goalP=(cJ_ (-1) [ca_ s,n] [],[⟨1,ca_ s,n,[],0,0⟩],0):=by
  have k:=h.k;obtain⟨o,A,x,m,v,e,c3,rfl⟩:=h.form;unfold Ax.goalP;rw[if_neg (fun q=>q d),if_neg zbS_,if_neg zbS_,if_neg zbS_,if_neg zbS_,if_pos rfl];rfl
end
end Go.Proofs.YthmjeabeoodghaaGreatDoor
namespace Go.Proofs.YthmjeabeoodghaaGreatDoor
open Go Go.Sx Go.Proofs Tryz
attribute [local irreducible] Code.wp wpList wpAnyH
open Go.Vs
def IdR (l:List Ax) (X:List Ax) (e:Int):Prop:=∃ P e1,MpR l P e1∧((e1≠0∧e=e1∧X=[])∨(e1=0∧e=0∧∃ I,jP_ 4 l I∧X=cE_ l (dt_ l P (I.map ca_) l.length)))
theorem pJ_ (l:List Ax) (ad:Ao) (cap:Nat) (W:∀ x∈l,x.ok) (hll:l.length≤12):Tri prog 15 #[.agg #[.slice ad l.length cap]] [] [ch_ ad l,bN_] (fun y:{y:Value×Hp×List Ax×Int // az_ 30 16 y.1 y.2.2.1.length (y.2.2.1.flatMap Ax.cells) y.2.1∧IdR l y.2.2.1 y.2.2.2}=>.tuple #[.agg #[y.1.1],.int .i64 y.1.2.2.2]) (fun y=>y.1.2.1) (fun _=>[]):=by
 refine j_ func15 rfl rfl ntmps15 rfl fun v_1=>?_;refine Zz 2 ?_;refine K_ rfl rfl fun V=>y_ ke_ rfl fun X=>Zz 6 ?_
 refine f_ (la_ l ad cap W hll) rfl g_ zf rfl fun⟨⟨P,K,p,J⟩,I,hPl,Q,O⟩=>?_;dsimp only;try dsimp only at I hPl Q O
 refine Zi 11 (fun h=>?_) fun h=>?_
 ·have L:J=0:=by simpa using h
  have hC:∀ x∈l,x.check=0:=gq_ (hI_ (I.ok L).1).1;have hzb:∀ x∈l,x.left.sz≤1000000∧x.right.sz≤1000000∧x.roles.length≤1000000:=fun x hx=>⟨by have:=(is_ (hC x hx)).1;omega,by have:=(is_ (hC x hx)).2;omega,by have:=AF_ (hC x hx);omega⟩
  refine Zz 9 ?_;refine f_ (CM_ l ad cap W hC zaa_) rfl g_ zf rfl fun⟨⟨⟨C_1,cad,ccp⟩,⟨a3,rad,rcp⟩,⟨a0,ead,ecp⟩,⟨d,R,xcp⟩⟩,⟨hv_1,hk_1⟩,⟨T,hk_2⟩,⟨hv_3,hk_3⟩,e,a1⟩=>?_;dsimp only;dsimp only at hv_1 hk_1 T hk_2 hv_3 hk_3 e a1;have hIn:d.length≤48000000:=by have H:=eB_ (rk_ e.1) (m:=vcL 4 l) fun n hn=>((e.2 n).1 hn).1;have F:=kM_ (k:=4) (l:=l) hzb;omega
  refine Zz 3 ?_;refine y_ zeroValue51 rfl fun b_3=>o_ 0 sizeOf51 rfl rfl rfl rfl rfl rfl (Zz 7 ?_)
  refine e_ (ao_ (cl_ rfl rfl) (show _=Value.bool false from congrArg Value.bool zad_)) rfl (Zz 20 ?_);refine O_ (ι:={y:Nat×Value×Hp // y.1≤List.length d∧zR 9 1 au_ y.2.1 (List.map ca_ (d.take y.1)) y.2.2}) (fun y=>[(1,zp_ V 0),(2,zp_ X 0),(3,.int .i64 0),(4,.slice P p.length K),(6,y.1.2.1),(29,.slice R d.length xcp),(30,.int .i64 (List.length d:Int)),(31,.int .i64 (y.1.1:Int))]) (fun y=>((b_3,.cells #[.slice cad C_1.length ccp,.slice rad a3.length rcp,.slice ead a0.length ecp,.slice R d.length xcp] 51 (0,0))::((X,.cells #[.slice none 0 0] 24 (0,0))::((V,.cells #[.slice ad l.length cap] 24 (0,0))::y.1.2.2)))) (fun y=>[X_ cad (C_1.flatMap au_),X_ rad (a3.flatMap au_),X_ ead (a0.flatMap au_),X_ R (d.flatMap au_),X_ P (p.flatMap Pc.cells),ch_ ad l,bN_]) (fun y=>d.length - y.1.1) ⟨((0:Nat),(.slice none 0 0),[]),by simp,(az_.nil _ _)⟩ zl zp zh ?_;rintro ⟨⟨i,sv_T,H_T⟩,U,A⟩;dsimp only at U A ⊢;have hil:List.length (List.map ca_ (d.take i))≤48000000:=by rw[List.length_map];exact Nat.le_trans (List.length_take_le i _) zaa_
  refine Zi 2 (fun E=>?_) fun E=>?_
  ·have a2:az_ 9 1 sv_T (List.length (d.map ca_)) (List.flatMap au_ (d.map ca_)) H_T:=by have q:=A;rw[List.take_of_length_le (l:=d) zaa_]at q;exact q
   refine Zz 12 ?_;refine bL_ a2 (c_ (c_ C_)) fun tad tcap htad hctad hmtad hztad=>?_;subst htad;refine f_ (zw_ l ad cap p P K (d.map ca_) tad tcap zaa_ zar_ zaa_) rfl g_ zf rfl fun⟨⟨svq,Hqq,Lq⟩,N,Z⟩=>?_;dsimp only;dsimp only at N Z ⊢;subst Z;refine A_ (R_ (l_ d_) (R_ (l_ d_) (bg_ bi_))) (o_ 1 bH_ rfl rfl rfl rfl rfl (by have q:=(dy_ N).2;simp only[Value.cells,List.all_cons,List.all_nil,q,Bool.and_true]) ?_);refine Zz 4 ?_;exact cS_ ⟨(svq,Hqq,(cE_ l (dt_ l p (d.map ca_) l.length)),0),N,⟨p,J,I,.inr ⟨L,rfl,d,e,rfl⟩⟩⟩ (fun aa v H F=>bM_ (us:=[svq]) 1 results15 fC_ bH_ rfl rfl rfl rfl aa v H F) (c_ (c_ C_)) zt
  have B:i<d.length:=by omega
  obtain⟨G,M⟩:∃ e_2,d[i]? = some e_2:=⟨_,List.getElem?_eq_getElem B⟩;have C:G∈d:=List.mem_of_getElem? M;have hsl:=gn_ (iN_ hC ((e.2 G).1 C).1 (((e.2 G).1 C).2 (.inr rfl)));refine Zz 18 ?_;refine e_ (dW_ rfl rfl zap_) rfl ?_;refine e_ (dW_ rfl rfl zap_) rfl ?_;refine G_ t_ M_ aw_ rfl rfl rfl rfl rfl rfl fun b_4=>?_;refine aO_ (news:=List.flatMap au_ [([123]++G)++[125]]) es_ A rfl rfl zp rfl (bz_ 0 rfl) (fun u hu=>bn_ dx_ hu) zam_ zao_ rfl fun S Y E=>?_;refine A_ List.perm_append_comm ?_;have hq_1:=zsa E;refine Zz 8 ?_;exact x_ ⟨(i+1,S,Y),B,(by rw[tk1 M,List.map_append];exact hq_1)⟩ zab_ zl (i_ (c_ d_) (i_ (c_ d_) (i_ (c_ d_) C_))) zh
 refine Zz 5 ?_;refine e_ (u_ om_ rfl rfl) rfl (Zz 1 ?_);refine o_ 0 bH_ rfl rfl rfl rfl rfl rfl (Zz 4 ?_);exact cS_ ⟨(.slice none 0 0,[],[],J),az_.nil _ _,⟨p,J,I,.inl ⟨by simpa using h,rfl,rfl⟩⟩⟩ (fun aa v H F=>bM_ (us:=[.slice none 0 0]) 0 results15 fC_ bH_ rfl rfl rfl rfl aa v H F) g_ zt
theorem IdR.sub {l X:List Ax} {e:Int} (h:IdR l X e):∀ x∈X,x∈l:=by
 obtain⟨P,d,_,h|⟨_,_,I,_,h⟩⟩:=h
 ·rw[h.2.2];simp
 rw[h];intro x m;obtain⟨i,_,hi⟩:=lL_.1 m;exact List.mem_of_getElem? hi
theorem IdR.len {l X:List Ax} {e:Int} (h:IdR l X e):X.length≤l.length:=by
 obtain⟨P,d,_,h|⟨_,_,I,_,h⟩⟩:=h
 ·rw[h.2.2];simp
 rw[h];exact Nat.le_trans (List.length_filterMap_le _ _) (tk_ _)
theorem IdR.bck {l X:List Ax} (h:IdR l X 0):BCk l 0:=by
 obtain⟨P,e,d,h|h⟩:=h
 ·exact absurd h.2.1.symm h.1
 exact (d.ok h.1).1
theorem TyG.check0 {s n:Str} {a:Ax} (h:TyG s n a) (A:aN_ s=true) (E:bk_ n=true):a.check=0:=by
 obtain⟨o,x,C,d,e,y,B,rfl⟩:=h.form
 have m:Con.check (Con.mk 3 n 0 0 d e [])=0:=by
   rw[Con.check_iff];refine⟨?_,?_,?_⟩
   · have:Con.dep (Con.mk 3 n 0 0 d e [])=0:=rfl
     omega
   · have:Con.sz (Con.mk 3 n 0 0 d e [])=1:=rfl
     omega
   · show Con.firstErr _=0
     rw[Con.firstErr_eq,if_pos]
     · rfl
     · simp[Con.fieldErr,Con.kind,Con.name,Con.lo,Con.hi,Con.parts,nd,dF_,E]
 have v:Con.bare (Con.mk 3 n 0 0 d e [])=false:=rfl;unfold Ax.check;rw[if_neg,if_neg,if_neg,if_neg,if_neg,if_neg]
 ·simp[v]
 ·simp
 ·simp[m]
 ·exact fun q=>absurd (show (us 8).left=true from q.1) zad_
 ·simp[Ax.namedU,us,pE_,A]
 simp[Ax.shaped,us,pE_,Con.empty,Con.kind,Con.name,Con.lo,Con.hi,Con.parts]
def MtL1:Prop:=∀ (l X:List Ax) (ok fine:Bool) (g:Int),l.length≤12→(∀ x∈l,x.ok)→(∀ x∈l,Ax.Few x)→IdR l X 0→CoR l ok 0→CoR X fine g→g=0∧ok=fine
def MtL2:Prop:=∀ (l X:List Ax) (ok:Bool) (I C:List Str) (s n:Str) (a:Ax) (x y:Bool) (h j:Int),l.length≤12→(∀ x∈l,x.ok)→(∀ x∈l,Ax.Few x)→IdR l X 0→CoR l ok 0→jP_ 4 l I→jP_ 3 l C→s∈I→n∈C→TyG s n a→EnR l a x h→EnR X a y j→h=0∧j=0∧x=y
theorem zE_ {a b:Str} (h:a.length≤1000) (m:b.length≤1000):∀ z∈cJ_ (-1) [a,b] [],z.sm:=by
 by_cases e:a=b
 ·subst e
  intro z d;simp[cJ_,ins,rg_]at d
  subst d;constructor<;>simp<;>omega
 intro z d;simp[cJ_,ins,rg_,e,Ne.symm e]at d
 rcases d with rfl|rfl<;>constructor<;>simp<;>omega
theorem yI_ {s n:Str} {a:Ax} (h:TyG s n a) (m:aN_ s=true) (v:bk_ n=true):∀ y e,TyR a (y,e)→e=(0:Int)→∃ q F,y.goalP=(q,F,0)∧q.length≤100000∧(∀ z∈q,z.sm)∧F.length≤100000∧y.check=0∧(y.kind=8):=fun y e t q=>by
  have x:=h.check0 m v;have g:=h.tdy (t.2 q).1;have d:y.check=0:=by rw[← h.chk g];exact x
  have A:=gn_ m;have B:=dj_ v;refine⟨_,_,g.goal d,?_,zE_ (by simp[ca_];omega) zaa_,by simp,d,g.k⟩;have:=hy_ (-1) [ca_ s,n] [];simp only[List.length_cons,List.length_nil]at this;omega
theorem fM_ {G:Prop} (h:G:=by
 exact aa_ results5 () rfl g_ zt):G:=h
theorem mB_ {G:Prop} (h:G:=by
 refine f_ (qM_ B lad lcap F Q (Ax.mk 8 false (Con.mk 0 [] 0 0 none 0 []) (Con.mk 3 d 0 0 none 0 []) none 0 [] [] A []) zcf_ (yI_ (s:=A) (n:=d) ⟨rfl,rfl,rfl,rfl,rfl,rfl,rfl⟩ a1 W)) rfl g_ (fun v _ h=>by exact⟨h.2.2.2.2.2.2.2.1,zbK_,h.2.2.2.2.2.2.2.2.1,h.2.2.2.2.2.2.2.2.2.1,trivial⟩) rfl fun⟨⟨bx,eh⟩,M⟩=>?_;dsimp only;try dsimp only at M
 refine Zz 11 ?_;refine f_ (qM_ X H K a3 zaa_ (Ax.mk 8 false (Con.mk 0 [] 0 0 none 0 []) (Con.mk 3 d 0 0 none 0 []) none 0 [] [] A []) zcf_ (yI_ (s:=A) (n:=d) ⟨rfl,rfl,rfl,rfl,rfl,rfl,rfl⟩ a1 W)) rfl g_ (fun v _ h=>by exact⟨h.2.2.2.2.1,zbK_,h.2.2.2.2.2.2.2.2.1,h.2.2.2.2.2.2.2.2.2.1,trivial⟩) rfl fun⟨⟨U,ej⟩,O⟩=>?_;dsimp only;try dsimp only at O
 refine Zz 8 ?_;obtain⟨a2,a0,b8⟩:=hL2 B X Z E C A d (Ax.mk 8 false (Con.mk 0 [] 0 0 none 0 []) (Con.mk 3 d 0 0 none 0 []) none 0 [] [] A []) bx U eh ej Q F b9 P T G I J R ⟨rfl,rfl,rfl,rfl,rfl,rfl,rfl⟩ M O;refine Zi 2 (fun N=>?_) fun N=>?_
 ·refine Zi 4 (fun L=>?_) fun L=>?_
  ·refine Zz 7 ?_
   refine e_ (ao_ (sm_ kj_ rfl rfl) (show _=Value.bool false from congrArg Value.bool (by rw[b8];simp))) rfl ?_;refine Zz 12 ?_;exact x_ ⟨k+1,S⟩ zab_ zl (i_ (c_ d_) (i_ (c_ d_) (c_ d_))) zh
  exact absurd a0 L
 exact absurd a2 N):G:=h
set_option maxHeartbeats 1000000 in
theorem moduleTypes_c (hL1:MtL1) (hL2:MtL2) (b7:Tri prog 6 #[] [] [bN_] (fun _:Unit=>.bool true) (fun _=>[]) (fun _=>[])) (B:List Ax) (lad:Ao) (lcap:Nat) (hcap:B.length≤lcap∧lcap≤2199023255488) (F:∀ x∈B,x.ok):Tri prog 5 #[.agg #[.slice lad B.length lcap]] [] [ch_ lad B,bN_,hW_] (fun _:Unit=>.bool true) (fun _=>[]) (fun _=>[]):=by
 refine j_ func5 rfl rfl ntmps5 rfl fun v_1=>?_;refine Zz 2 ?_;refine K_ rfl rfl fun a4=>Zz 6 ?_
 refine f_ (b7) rfl g_ zf rfl fun _=>e_ (aR_ rfl) rfl (Zz 10 ?_)
 refine f_ (Cj_ B lad lcap hcap F) rfl g_ zf rfl fun⟨fb,hfb⟩=>?_;dsimp only;refine e_ (aR_ rfl) rfl (Zz 1 ?_);cases fb
 ·refine Zz 15 ?_
  exact fM_
 obtain⟨Q,b9⟩:=hfb rfl;refine Zz 5 ?_;refine G_ runUnderlying78 ht_ zeroValue22 rfl rfl rfl rfl rfl rfl fun a6=>?_;refine aq_ (List.flatMap AL.cells [(AL.mk B lad lcap)]) d_ rfl ?_;refine ar_ rfl rfl (f_ (CL_ [(AL.mk B lad lcap)] (some ⟨a6,0,none⟩) 1 (yu_ ⟨by dsimp only;omega,F⟩) zaf_) rfl g_ (fun v _ h=>by exact⟨h.1,(al_one h.2.1),trivial⟩) rfl fun lb=>?_);refine ar_ rfl rfl (e_ (aR_ rfl) rfl (Zz 3 ?_));cases lb
 ·refine Zz 7 ?_
  exact fM_
 refine Zz 6 ?_;refine f_ (pJ_ B lad lcap F Q) rfl g_ zf rfl fun⟨⟨svX,HqX,X,e⟩,hsX,P⟩=>?_;dsimp only;try dsimp only at hsX P
 refine bL_ hsX w_ fun H K hxad hcxad hmxad hzxad=>?_;subst hxad;have Y:=IdR.sub P;have hlenX:=IdR.len P;have a3:∀ x∈X,x.ok:=fun x hx=>F x (Y x hx)
 refine kZ_ (Γ':=ch_ H X::[X_ H (X.flatMap Ax.cells),X_ (some ⟨a6,0,none⟩) (List.flatMap AL.cells [(AL.mk B lad lcap)]),ch_ lad B,bN_,hW_]) (fun v _ h=>⟨⟨h.1,fun x hx=>(h.2.2.1).2 x (Y x hx)⟩,h⟩) ?_;refine Zz 3 ?_;refine y_ ke_ rfl fun b0=>o_ 0 bH_ rfl rfl rfl rfl rfl rfl (Zz 6 ?_)
 refine f_ (ls_ B lad lcap F Q) rfl g_ zf rfl fun⟨⟨Z,f⟩,T⟩=>?_;dsimp only;try dsimp only at T
 refine Zi 11 (fun b3=>?_) fun b3=>?_
 ·refine Zi 4 (fun b6=>?_) fun b6=>?_
  ·refine Zz 7 ?_
   have he_1:e=0:=by simpa using b3
   have hf_1:f=0:=by simpa using b6
   subst he_1;subst hf_1;have hC:∀ x∈B,x.check=0:=gq_ (hI_ (IdR.bck P)).1;have hzb:∀ x∈B,x.left.sz≤1000000∧x.right.sz≤1000000∧x.roles.length≤1000000:=fun x hx=>⟨by have:=(is_ (hC x hx)).1;omega,by have:=(is_ (hC x hx)).2;omega,by have:=AF_ (hC x hx);omega⟩
   refine Zz 2 ?_;refine f_ (ls_ X H K a3 zaa_) rfl g_ zf rfl fun⟨⟨ok_2,g⟩,b5⟩=>?_;dsimp only;try dsimp only at b5
   refine Zz 9 ?_;obtain⟨hg_1,hcc⟩:=hL1 B X Z ok_2 g Q F b9 P T b5;refine Zi 2 (fun b4=>?_) fun b4=>?_
   ·refine Zz 6 ?_
    refine e_ (ao_ (sm_ kj_ rfl rfl) (show _=Value.bool false from congrArg Value.bool (by rw[hcc];simp))) rfl ?_;refine Zz 10 ?_;refine f_ (CM_ B lad lcap F hC zaa_) rfl g_ zf rfl fun⟨⟨⟨C,b1,ccp⟩,⟨a8,rad,rcp⟩,⟨a7,b2,ecp⟩,⟨E,a9,icp⟩⟩,⟨I,hk_1⟩,⟨hv_2,hk_2⟩,⟨hv_3,hk_3⟩,G,hk_4⟩=>?_;dsimp only;dsimp only at I hk_1 hv_2 hk_2 hv_3 hk_3 G hk_4;have hI1n:E.length≤48000000:=by have h_2:=eB_ (rk_ G.1) (m:=vcL 4 B) fun n hn=>((G.2 n).1 hn).1;have h_3:=kM_ (k:=4) (l:=B) hzb;omega
    have hC1n:C.length≤48000000:=by have h_2:=eB_ (rk_ I.1) (m:=vcL 3 B) fun n hn=>((I.2 n).1 hn).1;have h_3:=kM_ (k:=3) (l:=B) hzb;omega
    refine Zz 3 ?_;refine y_ zeroValue51 rfl fun a5=>o_ 0 sizeOf51 rfl rfl rfl rfl rfl rfl (Zz 10 ?_)
    refine O_ (ι:={y:Nat // y≤List.length E}) (fun y=>[(1,zp_ a4 0),(2,.bool false),(3,zp_ b0 0),(9,zp_ a5 0),(11,.int .i64 (y.1:Int))]) (fun y=>((a5,.cells #[.slice b1 C.length ccp,.slice rad a8.length rcp,.slice b2 a7.length ecp,.slice a9 E.length icp] 51 (0,0))::((b0,.cells #[.slice H X.length K] 24 (0,0))::((a4,.cells #[.slice lad B.length lcap] 24 (0,0))::[])))) (fun y=>[X_ b1 (C.flatMap au_),X_ rad (a8.flatMap au_),X_ b2 (a7.flatMap au_),X_ a9 (E.flatMap au_),ch_ H X,X_ H (X.flatMap Ax.cells),X_ (some ⟨a6,0,none⟩) (List.flatMap AL.cells [(AL.mk B lad lcap)]),ch_ lad B,bN_,hW_]) (fun y=>E.length - y.1) ⟨(0:Nat),by simp⟩ zl zp zh ?_;rintro ⟨i,hi_i⟩;dsimp only at hi_i ⊢;refine Zi 7 (fun hr_4=>?_) fun hr_4=>?_
    ·refine Zz 11 ?_
     exact fM_
    have V:i<E.length:=by omega
    obtain⟨A,hs_1⟩:∃ c0,E[i]? = some c0:=⟨_,List.getElem?_eq_getElem V⟩;have J:A∈E:=List.mem_of_getElem? hs_1;refine Zz 13 ?_;refine O_ (ι:={y:Nat // y≤List.length C}) (fun y=>[(1,zp_ a4 0),(2,.bool false),(3,zp_ b0 0),(9,zp_ a5 0),(11,.int .i64 (i:Int)),(12,.int .i64 (y.1:Int))]) (fun y=>((a5,.cells #[.slice b1 C.length ccp,.slice rad a8.length rcp,.slice b2 a7.length ecp,.slice a9 E.length icp] 51 (0,0))::((b0,.cells #[.slice H X.length K] 24 (0,0))::((a4,.cells #[.slice lad B.length lcap] 24 (0,0))::[])))) (fun y=>[X_ b1 (C.flatMap au_),X_ rad (a8.flatMap au_),X_ b2 (a7.flatMap au_),X_ a9 (E.flatMap au_),ch_ H X,X_ H (X.flatMap Ax.cells),X_ (some ⟨a6,0,none⟩) (List.flatMap AL.cells [(AL.mk B lad lcap)]),ch_ lad B,bN_,hW_]) (fun y=>C.length - y.1) ⟨(0:Nat),by simp⟩ zl zp zh ?_;rintro ⟨k,hi_k⟩;dsimp only at hi_k ⊢;refine Zi 7 (fun hr_5=>?_) fun hr_5=>?_
    ·refine Zz 11 ?_
     exact x_ ⟨i+1,V⟩ zab_ zl zp zh
    have S:k<C.length:=by omega
    obtain⟨d,hn_1⟩:∃ c0,C[k]? = some c0:=⟨_,List.getElem?_eq_getElem S⟩;have R:d∈C:=List.mem_of_getElem? hn_1;have a1:=iN_ hC ((G.2 A).1 J).1 (((G.2 A).1 J).2 (.inr rfl));have W:=ki_ hC (.inl rfl) ((I.2 d).1 R).1;have hsl:=gn_ a1;have hnl:=dj_ W;refine Zz 9 ?_;refine D_ 4 [0,1,2,3,4,5,6,7,8,9] zk zs (Zz 11 ?_);refine hj_ 10 12 rfl rfl zk ?_ ?_
    ·refine f_ (dR_ d) rfl g_ zt rfl fun _=>Zz 3 ?_
     refine D_ 2 [11] zk zs (T_ rfl (u_ strt30 rfl rfl) rfl (bV_ (p_ 12 rfl zk (y_ aG_ rfl fun b_5=>Zz 3 ?_))));refine p_ 13 rfl zk (o_ 0 H_ rfl rfl rfl rfl rfl rfl (Zz 9 ?_));exact mB_
    refine y_ aG_ rfl fun b_5=>Zz 3 ?_
    refine p_ 10 rfl zk (f_ (dR_ d) rfl g_ zt rfl fun _=>Zz 3 ?_);refine D_ 1 [11] zk zs (T_ rfl (u_ strt30 rfl rfl) rfl (bV_ (p_ 13 rfl zk (o_ 0 H_ rfl rfl rfl rfl rfl rfl (Zz 9 ?_)))));exact mB_
   exact absurd hg_1 b4
  refine Zz 10 ?_;exact fM_
 refine Zz 13 ?_;exact fM_
theorem Aq_ {p:List Pc} {A:List Str} {y:Fc} (h:Der p A y):y.a∈A:=h.least (T:=fun y=>y.a∈A) fun z d=>by
  cases d with
  | r1 h=>exact h
  | r2 h=>exact h
  | r10 hx hk h=>exact h
  | r3 hx hk h=>exact h
  | r4 hx hk h h'=>exact h
  | r5 hx hk h=>exact h
  | r6 hx hk h=>exact h
  | r7 hx hk h h'=>exact h
  | r8 hx hk h h'=>exact h
  | r9 h h'=>exact h
  | r11 hx hk h=>exact h
  | r12 h h' hm hl=>exact h
  | r13 h h' hm hl=>exact h
  | r14 hx hk h h1 h2=>exact h
theorem th_ {S:List Str} {x:Pc} (h:x∈cV_ S):x.kind=1∧x.c=[42]:=by
  unfold cV_ at h;obtain⟨s,_,rfl⟩:=List.mem_map.1 h;exact⟨rfl,rfl⟩
theorem wq_ {p:List Pc} {S A:List Str} {y:Fc} (h:Der (p++cV_ S) A y):Der p A y:=h.least (T:=fun y=>Der p A y) fun z d=>by
 have k:∀ {x:Pc},x∈p++cV_ S→x.kind≠1→x∈p:=fun {x} hx hn=>(List.mem_append.1 hx).elim id fun q=>absurd (th_ q).1 hn
 refine Der.step ?_;cases d with
 | r1 h=>exact .r1 h
 | r2 h=>exact .r2 h
 | r10 hx hk h=>exact .r10 (k hx zaa_) hk h
 | r3 hx hk h =>
   rcases List.mem_append.1 hx with q|q
   · exact .r3 q hk h
   · rw[(th_ q).2];exact .r2 (Aq_ h)
 | r4 hx hk h h'=>exact .r4 (k hx zaa_) hk h h'
 | r5 hx hk h=>exact .r5 (k hx zaa_) hk h
 | r6 hx hk h=>exact .r6 (k hx zaa_) hk h
 | r7 hx hk h h'=>exact .r7 (k hx zaa_) hk h h'
 | r8 hx hk h h'=>exact .r8 (k hx zaa_) hk h h'
 | r9 h h'=>exact .r9 h h'
 | r11 hx hk h=>exact .r11 (k hx zaa_) hk h
 | r12 h h' hm hl=>exact .r12 h h' trivial hl
 | r13 h h' hm hl=>exact .r13 h h' trivial hl
 | r14 hx hk h h1 h2=>exact .r14 (k hx zaa_) hk h h1 h2
def sig (A:List Str) (a:Str):Str:=if a∈A then a else [42]
theorem ib_ {A:List Str} {a:Str} (h:a∈A):sig A a=a:=if_pos h
theorem uu_ {A:List Str} (h:[42]∈A) (a:Str):sig A a∈A:=by
 unfold sig;split
 ·assumption
 exact h
def uv_ (A:List Str) (y:Fc):Fc:=⟨y.kind,sig A y.a,if y.kind=3 then y.b else sig A y.b,y.r,y.lo,y.hi⟩
theorem Cq_ {p:List Pc} {A B:List Str} (e:[42]∈A) (v:[33]∈A) (F:∀ x∈p,∀ s,(s=x.a∨s=x.b∨s=x.c)→s∈A∨s=[]) (E:∀ x∈p,(x.kind≠5∧x.kind≠6∧x.kind≠7∧x.kind≠9→x.a≠[])∧(x.kind=2→x.b≠[])∧(x.kind=1∨x.kind=2∨x.kind=3∨x.kind=4∨x.kind=9→x.c≠[])) {y:Fc} (h:Der p B y):Der p A (uv_ A y):=h.least (T:=fun y=>Der p A (uv_ A y)) fun z H=>by
  have C:∀ {x:Pc},x∈p→x.kind≠5∧x.kind≠6∧x.kind≠7∧x.kind≠9→sig A x.a=x.a:=fun {x} hx hk=>ib_ ((F x hx _ (.inl rfl)).resolve_right ((E x hx).1 hk))
  have G:∀ {x:Pc},x∈p→x.kind=2→sig A x.b=x.b:=fun {x} hx hk=>ib_ ((F x hx _ (.inr (.inl rfl))).resolve_right ((E x hx).2.1 hk))
  have m:∀ {x:Pc},x∈p→(x.kind=1∨x.kind=2∨x.kind=3∨x.kind=4∨x.kind=9)→sig A x.c=x.c:=fun {x} hx hk=>ib_ ((F x hx _ (.inr (.inr rfl))).resolve_right ((E x hx).2.2 hk))
  have d:∀ a b:Str,uv_ A (W_ a b)=W_ (sig A a) (sig A b):=fun a b=>rfl
  have fl:∀ a r b:Str,uv_ A (as_ a r b)=as_ (sig A a) r (sig A b):=fun a r b=>rfl
  refine Der.step ?_;cases H with
  | r1 h=>exact .r1 (uu_ e _)
  | r2 h=>rw[d,ib_ e];exact .r2 (uu_ e _)
  | r10 hx hk h=>exact .r10 hx hk (uu_ e _)
  | r3 hx hk h=>rw[d,C hx zaa_]at h;rw[d,m hx zaa_];exact .r3 hx hk h
  | r4 hx hk h h'=>rw[d,C hx zaa_]at h;rw[d,G hx zaa_]at h';rw[d,m hx zaa_];exact .r4 hx hk h h'
  | r5 hx hk h=>rw[d,C hx zaa_]at h;rw[fl,m hx zaa_];exact .r5 hx hk h
  | r6 hx hk h=>exact .r6 hx hk h
  | r7 hx hk h h'=>exact .r7 hx hk h h'
  | r8 hx hk h h'=>rw[d,C hx zaa_]at h';rw[d,m hx zaa_];exact .r8 hx hk h h'
  | r9 h h'=>rw[d,ib_ v]at h' ⊢;exact .r9 h h'
  | r11 hx hk h=>rw[d,C hx zaa_]at h;exact .r11 hx hk h
  | r12 h h' hm hl=>exact .r12 h h' trivial hl
  | r13 h h' hm hl=>rw[d,ib_ v];exact .r13 h h' trivial hl
  | r14 hx hk h h1 h2=>rw[d,m hx zaa_];exact .r14 hx hk h h1 h2
end Go.Proofs.YthmjeabeoodghaaGreatDoor
