/-
  Part of the proof of the law CanonRoles over this seat: the small logic, the data, the contracts of functions (no condition).
-/
import Derived.Test.YtpbnmnfdgckaiaaGreatDoorQCanonRoles12
import Derived.Test.YtpbnmnfdgckaiaaGreatDoorQCanonRoles11
import Derived.Test.YtpbnmnfdgckaiaaGreatDoorQCanonRoles8
import Derived.Test.YtpbnmnfdgckaiaaGreatDoorQCanonRoles7
import Derived.Test.YtpbnmnfdgckaiaaGreatDoorQCanonRoles6
import Derived.Test.YtpbnmnfdgckaiaaGreatDoorQCanonRoles10
import Derived.Shelf.SlSortCmp.NoneTotal
import Derived.Test.YtpbnmnfdgckaiaaGreatDoorProg
set_option linter.unusedVariables false
set_option linter.unusedSimpArgs false
set_option linter.unusedSectionVars false
set_option maxHeartbeats 1000000
namespace Go.Proofs.YtpbnmnfdgckaiaaGreatDoor
open Go Go.Sx Go.Proofs
attribute [local irreducible] Code.wp wpList wpAnyH
open Go.Vs
theorem wF_:hN_ Tryz.prog 133 [(0,1),(1,1),(2,1),(3,1)] [.slice none 0 0,.slice none 0 0,.slice none 0 0,.slice none 0 0]:=⟨_,Tryz.zeroValue133,cx_,fun w=>by simp[bO_]⟩
theorem vh_ {A B:Hp} {l D:Nat} {r:Loop} {Ds:List Nat}:(B++(mkH Ds++A)++HLp l D r).Perm ((mkH (D::Ds)++A)++(B++[(l,.loop r)])):=by
  have d:(B++(mkH Ds++A)++HLp l D r).Perm ((mkH Ds++A)++B++HLp l D r):=List.Perm.append_right _ List.perm_append_comm;have e:(mkH Ds++A)++B++HLp l D r=((mkH Ds++A)++(B++[(l,.loop r)]))++[(D,.deferred (some []))]:=by simp[HLp]
  rw[e]at d;exact d.trans List.perm_append_comm
theorem dM_ {P:Program} {N:Nf} {F:Vw} {M H:Hp} {R:Exit→Act→World→Prop} {O:List Kt} {fr:Fr} {Γ:List Fct} {q:Array Oper} {lo:List Oper} {ty:TypeId} {ps:String} {Q:Array Edge} {o:Op} {t J S:TypeId} {x y z:Operand} {b:Nat} (n:Nat) (s:StM) {k:Str} (v:KeyT P J str) (G:o=.insert t x y z∨o=.mapUpdate t x y z) (K:∀ w,(underlying t).run P w=.ok (.map J S) w)
    (L:Fr.ev fr x=some (.map (some b))) (E:Fr.ev fr y=some (str k)) (I:Fr.ev fr z=some (.bool true)) (hi:H[n]? = some (b,.map s.es s.c))
    (d:Ops P R N F M q lo O fr (H.set n (b,.map (s.add k).es (s.add k).c)) Γ):Ops P R N F M q (⟨none,o,ty,ps,Q,none⟩::lo) O fr H Γ:=by
  by_cases hk:k∈s.ks
  · have A:s.add k=s:=by unfold StM.add;rw[dif_pos hk]
    rw[A]at d;obtain⟨i,e,T,h,m,B,C⟩:=s.hE.yes v hk;refine ho_ (e:=e) (i:=i) (u:=.bool true) (u':=.bool true) n v G K L E I hi C h m ?_;rw[im_ h m B];exact d
  · have A:s.add k=⟨s.es.push ⟨str k,.bool true,s.c⟩,s.c+1,s.ks++[k],s.hE.push hk s.c,s.hB.push _ _⟩:=by unfold StM.add;rw[dif_neg hk]
    rw[A]at d;exact aQ_ n G K L E I hi (v.ok _) (s.hE.no v hk) d
theorem ys_ {x:Ax} (h:x.check=0):x.roles.length≤4:=by
 unfold Ax.check at h
 split at h
 ·cases h
 rename_i k
 clear h;simp only[Bool.not_eq_false]at k;unfold Ax.shaped at k
 split at k
 ·cases k
 rename_i q
 simp only[not_or]at q;have m:x.kind=1∨x.kind=2∨x.kind=3∨x.kind=4∨x.kind=5∨x.kind=6∨x.kind=7∨x.kind=8∨x.kind=9:=by omega
 simp only[Bool.and_eq_true,decide_eq_true_eq]at k;have d:=k.2;rcases m with e|e|e|e|e|e|e|e|e<;>rw[e]at d<;>simp[us,tf_]at d<;>first|omega|(rw[d];decide)
def rkS (r:List Str×Option Addr×Nat):Prop:=r.1.length≤r.2.2∧r.2.2≤maxLen∧(r.2.1=none→r.2.2=0)
set_option maxHeartbeats 1000000 in
theorem voc_c (O:List Ax) (lad:Option Addr) (lcap:Nat) (hok:∀ x∈O,x.ok) (hC:∀ x∈O,x.check=0) (hll:O.length≤20):Tri Tryz.prog 80 #[.slice lad (List.length O) lcap] [] [eg_ lad O,cj_] (fun y:{y:(List Str×Option Addr×Nat)×(List Str×Option Addr×Nat)×(List Str×Option Addr×Nat)×(List Str×Option Addr×Nat) // (kI_ 3 O y.1.1∧rkS y.1)∧(kI_ 6 O y.2.1.1∧rkS y.2.1)∧(kI_ 7 O y.2.2.1.1∧rkS y.2.2.1)∧(kI_ 4 O y.2.2.2.1∧rkS y.2.2.2)}=>.tuple #[.agg #[.slice y.1.1.2.1 y.1.1.1.length y.1.1.2.2,.slice y.1.2.1.2.1 y.1.2.1.1.length y.1.2.1.2.2,.slice y.1.2.2.1.2.1 y.1.2.2.1.1.length y.1.2.2.1.2.2,.slice y.1.2.2.2.2.1 y.1.2.2.2.1.length y.1.2.2.2.2.2],.int .i64 0]) (fun _=>[]) (fun y=>[ah_ y.1.1.2.1 (y.1.1.1.flatMap af_),ah_ y.1.2.1.2.1 (y.1.2.1.1.flatMap af_),ah_ y.1.2.2.1.2.1 (y.1.2.2.1.1.flatMap af_),ah_ y.1.2.2.2.2.1 (y.1.2.2.2.1.flatMap af_)]):=by
 refine hh_ Tryz.func80 rfl rfl Tryz.ntmps80 rfl fun v_1=>?_;have hzb:∀ x∈O,x.left.sz≤1000000∧x.right.sz≤1000000∧x.roles.length≤1000000:=fun x hx=>⟨by have:=(sT_ (hC x hx)).1;omega,by have:=(sT_ (hC x hx)).2;omega,by have:=ys_ (hC x hx);omega⟩
 refine Zz 2 ?_;refine G_ Tryz.zeroValue133 rfl fun J=>Zz 12 ?_
 refine L_ (ι:={y:Nat // y≤List.length O}) (fun y=>[(0,.slice lad (List.length O) lcap),(2,zp_ J 0),(3,.int .i64 0),(21,.slice lad (List.length O) lcap),(22,.int .i64 (List.length O:Int)),(23,.int .i64 (y.1:Int))]) (fun y=>((J,.cells #[.slice none 0 0,.slice none 0 0,.slice none 0 0,.slice none 0 0] 133 (0,0))::[])) (fun y=>[eg_ lad O,cj_]) (fun y=>List.length O - y.1) ⟨(0:Nat),by simp⟩ zl d_ zh ?_;rintro ⟨Y,hi_i0⟩;dsimp only at hi_i0 ⊢;refine Zi 2 (fun Q=>?_) fun Q=>?_
 ·refine Zz 8 ?_
  refine aY_ rfl fun m=>aY_ rfl fun C=>Zz 6 ?_
  refine aY_ rfl fun A=>aY_ rfl fun B=>Zz 6 ?_
  refine aY_ rfl fun H=>Zz 1 ?_
  refine aQ_ 0 (.inl rfl) cs_ rfl rfl rfl rfl (aZ_ p_) (aJ_ p_ rfl) (Zz 1 ?_);refine aQ_ 0 (.inl rfl) cs_ rfl rfl rfl rfl (aZ_ p_) (aJ_ p_ rfl) (Zz 1 ?_);refine aQ_ 0 (.inl rfl) cs_ rfl rfl rfl rfl (aZ_ p_) (aJ_ p_ rfl) (Zz 1 ?_);refine aQ_ 0 (.inl rfl) cs_ rfl rfl rfl rfl (aZ_ p_) (aJ_ p_ rfl) (Zz 1 ?_);refine G_ Tryz.zeroValue185 rfl fun L=>u_ 0 Tryz.sizeOf185 rfl rfl rfl rfl rfl rfl (Zz 11 ?_)
  refine z_ (H':=((L,.cells #[.map (some H)] 185 (0,0))::((H,.map #[⟨.int .i64 3,.map (some m),0⟩,⟨.int .i64 6,.map (some C),1⟩,⟨.int .i64 7,.map (some A),2⟩,⟨.int .i64 4,.map (some B),3⟩] 4)::((B,.map #[] 0)::((A,.map #[] 0)::((C,.map #[] 0)::((m,.map #[] 0)::((J,.cells #[.slice none 0 0,.slice none 0 0,.slice none 0 0,.slice none 0 0] 133 (0,0))::(mkH []))))))))) (.refl _) ?_;refine kq_ (N:=fun y=>⟨110,mks y.1.2.2⟩) (ι:={y:Nat×S4×List Nat // y.1≤List.length O∧V4 y.2.1 (fun k=>vcL k (List.take y.1 O))}) (fun y=>[(0,.slice lad (List.length O) lcap),(2,zp_ J 0),(3,.int .i64 0),(21,.slice lad (List.length O) lcap),(22,.int .i64 (List.length O:Int)),(23,.int .i64 (Y:Int)),(7,.map (some m)),(8,.map (some C)),(9,.map (some A)),(10,.map (some B)),(11,zp_ L 0),(44,.slice lad (List.length O) lcap),(45,.int .i64 (List.length O:Int)),(46,.int .i64 (y.1.1:Int))]) (fun y=>((L,.cells #[.map (some H)] 185 (0,0))::((H,.map #[⟨.int .i64 3,.map (some m),0⟩,⟨.int .i64 6,.map (some C),1⟩,⟨.int .i64 7,.map (some A),2⟩,⟨.int .i64 4,.map (some B),3⟩] 4)::((B,.map y.1.2.1.2.2.2.es y.1.2.1.2.2.2.c)::((A,.map y.1.2.1.2.2.1.es y.1.2.1.2.2.1.c)::((C,.map y.1.2.1.2.1.es y.1.2.1.2.1.c)::((m,.map y.1.2.1.1.es y.1.2.1.1.c)::((J,.cells #[.slice none 0 0,.slice none 0 0,.slice none 0 0,.slice none 0 0] 133 (0,0))::(mkH y.1.2.2))))))))) (fun y=>[eg_ lad O,cj_]) (fun y=>List.length O - y.1.1) ⟨((0:Nat),((StM.nil,StM.nil,StM.nil,StM.nil):S4),([]:List Nat)),by simp,V4.nil.cg fun k=>by simp[vcL]⟩ zl zp zh ?_;rintro ⟨⟨i,s,Ds⟩,hi_i,hV⟩;dsimp only at hi_i hV ⊢;refine Zi 2 (fun hr_2=>?_) fun hr_2=>?_
  ·refine Zz 7 ?_
   rw[List.take_of_length_le za_]at hV;have U:∀ k,List.length (vcL k O)≤80000000:=fun k=>Nat.le_trans (so_ hzb) za_
   have hq_1:List.length s.1.ks≤100000000:=by have:=hV.c.len;have:=U 3;omega
   have hq_2:List.length (List.filter (fun q=>decide (q≠[])) s.2.1.ks)≤100000000:=by have:=hV.r.len;have:=U 6;have:=List.length_filter_le (fun q=>decide (q≠[])) s.2.1.ks;omega
   have hq_3:List.length s.2.2.1.ks≤100000000:=by have:=hV.f.len;have:=U 7;omega
   have hq_4:List.length (List.filter (fun q=>decide (q≠[])) s.2.2.2.ks)≤100000000:=by have:=hV.i.len;have:=U 4;have:=List.length_filter_le (fun q=>decide (q≠[])) s.2.2.2.ks;omega
   refine Zz 2 ?_;refine qh_ 4 bo_ M_ rfl rfl rfl s.2.1.hE s.2.1.hB rfl fun eD_1 hE_1 hB_1=>Zz 5 ?_
   refine qh_ 2 bo_ M_ rfl rfl rfl s.2.2.2.hE s.2.2.2.hB rfl fun eD_2 hE_2 hB_2=>Zz 5 ?_
   refine g_ (iH_ m) rfl m_ zt rfl fun a0=>g_ (eY_ 96 [zp_ a0 0] [(a0,.cells #[.map (some m)] 33 (0,0)),(m,.map s.1.es s.1.c)] s.1.ks s.1.hE.nd hq_1 (iI_ m a0 s.1.c s.1.es s.1.ks s.1.hE.ke s.1.hB hq_1)) rfl (j_ d_ (c_ (c_ (c_ (c_ (c_ d_)))))) zt rfl fun⟨⟨ad_1,cp_1⟩,V,hs_2,hs_3⟩=>?_;dsimp only;refine Zz 1 ?_;refine g_ (iH_ C) rfl m_ zt rfl fun a5=>g_ (eY_ 96 [zp_ a5 0] [(a5,.cells #[.map (some C)] 33 (0,0)),(C,.map eD_1 s.2.1.c)] (List.filter (fun q=>decide (q≠[])) s.2.1.ks) hE_1.nd hq_2 (iI_ C a5 s.2.1.c eD_1 (List.filter (fun q=>decide (q≠[])) s.2.1.ks) hE_1.ke hB_1 hq_2)) rfl zp zt rfl fun⟨⟨ad_2,cp_2⟩,hs_4,hs_5,hs_6⟩=>?_;dsimp only;refine Zz 1 ?_;refine g_ (iH_ A) rfl m_ zt rfl fun Z=>g_ (eY_ 96 [zp_ Z 0] [(Z,.cells #[.map (some A)] 33 (0,0)),(A,.map s.2.2.1.es s.2.2.1.c)] s.2.2.1.ks s.2.2.1.hE.nd hq_3 (iI_ A Z s.2.2.1.c s.2.2.1.es s.2.2.1.ks s.2.2.1.hE.ke s.2.2.1.hB hq_3)) rfl zp zt rfl fun⟨⟨ad_3,cp_3⟩,hs_7,hs_8,hs_9⟩=>?_;dsimp only;refine Zz 1 ?_;refine g_ (iH_ B) rfl m_ zt rfl fun a4=>g_ (eY_ 96 [zp_ a4 0] [(a4,.cells #[.map (some B)] 33 (0,0)),(B,.map eD_2 s.2.2.2.c)] (List.filter (fun q=>decide (q≠[])) s.2.2.2.ks) hE_2.nd hq_4 (iI_ B a4 s.2.2.2.c eD_2 (List.filter (fun q=>decide (q≠[])) s.2.2.2.ks) hE_2.ke hB_2 hq_4)) rfl zp zt rfl fun⟨⟨ad_4,cp_4⟩,hs_10,hs_11,hs_12⟩=>?_;dsimp only;refine e_ (H_ wF_ rfl rfl) rfl (u_ 10 Tryz.sizeOf133 rfl rfl rfl rfl rfl rfl (Zz 4 ?_));exact retMs ⟨((aS_ s.1.ks,ad_1,cp_1),(aS_ (List.filter (fun q=>decide (q≠[])) s.2.1.ks),ad_2,cp_2),(aS_ s.2.2.1.ks,ad_3,cp_3),(aS_ (List.filter (fun q=>decide (q≠[])) s.2.2.2.ks),ad_4,cp_4)),⟨kI_.of hV.c za_,V,hs_2,hs_3⟩,⟨kI_.ofD hV.r za_,hs_4,hs_5,hs_6⟩,⟨kI_.of hV.f za_,hs_7,hs_8,hs_9⟩,⟨kI_.ofD hV.i za_,hs_10,hs_11,hs_12⟩⟩ (fun aa v h_1 h_2 _=>fx_ (us:=[.slice ad_1 (List.length (aS_ s.1.ks)) cp_1,.slice ad_2 (List.length (aS_ (List.filter (fun q=>decide (q≠[])) s.2.1.ks))) cp_2,.slice ad_3 (List.length (aS_ s.2.2.1.ks)) cp_3,.slice ad_4 (List.length (aS_ (List.filter (fun q=>decide (q≠[])) s.2.2.2.ks))) cp_4]) 10 Tryz.results80 Tryz.isAgg133 Tryz.sizeOf133 rfl rfl rfl rfl aa v h_1 h_2) (c_ (c_ (c_ (c_ (c_ (c_ (c_ (c_ (c_ (c_ C_)))))))))) ⟨_,.refl _⟩ zf
  obtain⟨S,d,hx_1,M⟩:=zge (show i<List.length O by omega);have hrl:=(hok d M).len;have hrc:=(hok d M).cap;refine Zz 12 ?_;refine G_ cE_ rfl fun P=>u_ 0 br_ rfl rfl rfl rfl rfl rfl (Zz 9 ?_)
  refine U_ ad_ I_ bT_ rfl rfl rfl rfl rfl rfl fun W=>?_;refine cM_ (List.flatMap Con.cells [(Ax.left d),(Ax.right d)]) d_ rfl ?_;refine Zz 5 ?_;refine kq_ (N:=fun y=>⟨110,mks y.1.2.2⟩) (ι:={y:Nat×S4×List Nat // y.1≤List.length [(Ax.left d),(Ax.right d)]∧V4 y.2.1 (fun k=>vcL k (List.take i O)++List.flatMap (Con.nms k) (List.take y.1 [(Ax.left d),(Ax.right d)]))}) (fun y=>[(0,.slice lad (List.length O) lcap),(2,zp_ J 0),(3,.int .i64 0),(21,.slice lad (List.length O) lcap),(22,.int .i64 (List.length O:Int)),(23,.int .i64 (Y:Int)),(7,.map (some m)),(8,.map (some C)),(9,.map (some A)),(10,.map (some B)),(11,zp_ L 0),(44,.slice lad (List.length O) lcap),(45,.int .i64 (List.length O:Int)),(46,.int .i64 (i:Int)),(13,zp_ P 0),(54,.slice (some ⟨W,0,none⟩) (List.length [(Ax.left d),(Ax.right d)]) 2),(55,.int .i64 2),(56,.int .i64 (y.1.1:Int))]) (fun y=>((P,.cells #[.int .i64 (Ax.kind d),.bool (Ax.opn d),.int .i64 (Con.kind (Ax.left d)),str (Con.name (Ax.left d)),.int .i64 (Con.lo (Ax.left d)),.int .i64 (Con.hi (Ax.left d)),.slice (Con.ad (Ax.left d)) (List.length (Con.parts (Ax.left d))) (Con.cap (Ax.left d)),.int .i64 (Con.kind (Ax.right d)),str (Con.name (Ax.right d)),.int .i64 (Con.lo (Ax.right d)),.int .i64 (Con.hi (Ax.right d)),.slice (Con.ad (Ax.right d)) (List.length (Con.parts (Ax.right d))) (Con.cap (Ax.right d)),.slice (Ax.ad d) (List.length (Ax.roles d)) (Ax.cap d),str (Ax.role d),str (Ax.a d),str (Ax.b d)] 42 (0,0))::((L,.cells #[.map (some H)] 185 (0,0))::((H,.map #[⟨.int .i64 3,.map (some m),0⟩,⟨.int .i64 6,.map (some C),1⟩,⟨.int .i64 7,.map (some A),2⟩,⟨.int .i64 4,.map (some B),3⟩] 4)::((B,.map y.1.2.1.2.2.2.es y.1.2.1.2.2.2.c)::((A,.map y.1.2.1.2.2.1.es y.1.2.1.2.2.1.c)::((C,.map y.1.2.1.2.1.es y.1.2.1.2.1.c)::((m,.map y.1.2.1.1.es y.1.2.1.1.c)::((J,.cells #[.slice none 0 0,.slice none 0 0,.slice none 0 0,.slice none 0 0] 133 (0,0))::(mkH y.1.2.2)))))))))) (fun y=>[ah_ (some ⟨W,0,none⟩) (List.flatMap Con.cells [(Ax.left d),(Ax.right d)]),eg_ lad O,cj_]) (fun y=>List.length [(Ax.left d),(Ax.right d)] - y.1.1) ⟨((0:Nat),s,Ds),by simp,hV.cg fun k=>by simp⟩ zl zp zh ?_;rintro ⟨⟨j,s,Ds⟩,hi_j,T⟩;dsimp only at hi_j T ⊢;refine Zi 2 (fun hr_3=>?_) fun hr_3=>?_
  ·refine Zz 16 ?_
   have hV2e:V4 s (fun k=>vcL k (List.take i O)++List.flatMap (Con.nms k) [(Ax.left d),(Ax.right d)]):=by rw[List.take_of_length_le (l:=[(Ax.left d),(Ax.right d)]) (by simp only[List.length_cons,List.length_nil]at *;omega)]at T;exact T
   refine kq_ (N:=fun y=>⟨110,mks y.1.2.2⟩) (ι:={y:Nat×S4×List Nat // y.1≤List.length (Ax.roles d)∧V4 y.2.1 (fun k_1=>(vcL k_1 (List.take i O)++List.flatMap (Con.nms k_1) [(Ax.left d),(Ax.right d)])++if k_1=6 then List.take y.1 (Ax.roles d) else [])}) (fun y=>[(0,.slice lad (List.length O) lcap),(2,zp_ J 0),(3,.int .i64 0),(21,.slice lad (List.length O) lcap),(22,.int .i64 (List.length O:Int)),(23,.int .i64 (Y:Int)),(7,.map (some m)),(8,.map (some C)),(9,.map (some A)),(10,.map (some B)),(11,zp_ L 0),(44,.slice lad (List.length O) lcap),(45,.int .i64 (List.length O:Int)),(46,.int .i64 (i:Int)),(13,zp_ P 0),(54,.slice (some ⟨W,0,none⟩) (List.length [(Ax.left d),(Ax.right d)]) 2),(55,.int .i64 2),(56,.int .i64 (j:Int)),(76,.slice (Ax.ad d) (List.length (Ax.roles d)) (Ax.cap d)),(77,.int .i64 (List.length (Ax.roles d):Int)),(78,.int .i64 (y.1.1:Int))]) (fun y=>((P,.cells #[.int .i64 (Ax.kind d),.bool (Ax.opn d),.int .i64 (Con.kind (Ax.left d)),str (Con.name (Ax.left d)),.int .i64 (Con.lo (Ax.left d)),.int .i64 (Con.hi (Ax.left d)),.slice (Con.ad (Ax.left d)) (List.length (Con.parts (Ax.left d))) (Con.cap (Ax.left d)),.int .i64 (Con.kind (Ax.right d)),str (Con.name (Ax.right d)),.int .i64 (Con.lo (Ax.right d)),.int .i64 (Con.hi (Ax.right d)),.slice (Con.ad (Ax.right d)) (List.length (Con.parts (Ax.right d))) (Con.cap (Ax.right d)),.slice (Ax.ad d) (List.length (Ax.roles d)) (Ax.cap d),str (Ax.role d),str (Ax.a d),str (Ax.b d)] 42 (0,0))::((L,.cells #[.map (some H)] 185 (0,0))::((H,.map #[⟨.int .i64 3,.map (some m),0⟩,⟨.int .i64 6,.map (some C),1⟩,⟨.int .i64 7,.map (some A),2⟩,⟨.int .i64 4,.map (some B),3⟩] 4)::((B,.map y.1.2.1.2.2.2.es y.1.2.1.2.2.2.c)::((A,.map y.1.2.1.2.2.1.es y.1.2.1.2.2.1.c)::((C,.map y.1.2.1.2.1.es y.1.2.1.2.1.c)::((m,.map y.1.2.1.1.es y.1.2.1.1.c)::((J,.cells #[.slice none 0 0,.slice none 0 0,.slice none 0 0,.slice none 0 0] 133 (0,0))::(mkH y.1.2.2)))))))))) (fun y=>[ah_ (some ⟨W,0,none⟩) (List.flatMap Con.cells [(Ax.left d),(Ax.right d)]),eg_ lad O,cj_]) (fun y=>List.length (Ax.roles d) - y.1.1) ⟨((0:Nat),s,Ds),by simp,hV2e.cg fun k=>by simp⟩ zl zp zh ?_;rintro ⟨⟨k,s,Ds⟩,hi_k,R⟩;dsimp only at hi_k R ⊢;refine Zi 2 (fun hr_4=>?_) fun hr_4=>?_
   ·refine Zz 7 ?_
    rw[List.take_of_length_le (l:=Ax.roles d) za_]at R;refine Zz 4 ?_;refine dM_ 5 s.2.1 bo_ (.inr rfl) M_ rfl rfl rfl rfl (Zz 7 ?_);refine dM_ 3 ((s.addR (Ax.role d)).2.2.2) bo_ (.inr rfl) M_ rfl rfl rfl rfl (Zz 6 ?_);refine dM_ 3 (((s.addR (Ax.role d)).addI (Ax.a d)).2.2.2) bo_ (.inr rfl) M_ rfl rfl rfl rfl (Zz 7 ?_);exact iF_ ⟨(i+1,(((s.addR (Ax.role d)).addI (Ax.a d)).addI (Ax.b d)),Ds),S,R.axm hx_1⟩ zb_ zl (j_ (c_ d_) (j_ (c_ d_) (j_ (c_ d_) (j_ (c_ d_) (j_ (c_ d_) (j_ (c_ d_) (j_ (c_ d_) C_))))))) (fun _ _ h=>h.2)
   have hlr_1:k<List.length (Ax.roles d):=by omega
   obtain⟨r_1,Q⟩:∃ e_1,(Ax.roles d)[k]? = some e_1:=⟨_,List.getElem?_eq_getElem hlr_1⟩;have hmr_1:r_1∈(Ax.roles d):=List.mem_of_getElem? Q;refine Zz 10 ?_;refine e_ (Q_ l_ E_ rfl rfl (fun v _ h=>as_ (n:=1) aq_ ze_ (by exact (h.2.1.2 d M).2.2) Q) za_ zh_) rfl ?_;refine e_ (bl_ (ad:=(Ax.ad d)) W_ rfl (fun v _ h=>by exact (h.2.1.2 d M).2.2) (o_ aq_ Q 0 _ rfl)) rfl (Zz 6 ?_);refine dM_ 5 s.2.1 bo_ (.inr rfl) M_ rfl rfl rfl rfl (Zz 7 ?_);exact iF_ ⟨(k+1,(s.addR r_1),Ds),hlr_1,R.role Q⟩ zb_ zl zp zh
  have a2:j<List.length [(Ax.left d),(Ax.right d)]:=by simp only[List.length_cons,List.length_nil]at *;omega
  obtain⟨e,a3⟩:∃ e_1,[(Ax.left d),(Ax.right d)][j]? = some e_1:=⟨_,List.getElem?_eq_getElem a2⟩;have a1:e∈[(Ax.left d),(Ax.right d)]:=List.mem_of_getElem? a3;refine Zz 11 ?_;refine e_ (aj_ (ad:=(some ⟨W,0,none⟩)) (us:=Con.cells e) aH_ I_ rfl zf (Con.cells_len _) (o_ Con.cells_len a3)) rfl (G_ bT_ rfl fun K=>u_ 0 I_ rfl rfl rfl rfl rfl rfl (Zz 5 ?_));refine g_ (uo_ e) rfl m_ zt rfl fun bw=>Zz 3 ?_
  refine bt_ [(0,.slice lad (List.length O) lcap),(2,zp_ J 0),(3,.int .i64 0),(21,.slice lad (List.length O) lcap),(22,.int .i64 (List.length O:Int)),(23,.int .i64 (Y:Int)),(7,.map (some m)),(8,.map (some C)),(9,.map (some A)),(10,.map (some B)),(11,zp_ L 0),(44,.slice lad (List.length O) lcap),(45,.int .i64 (List.length O:Int)),(46,.int .i64 (i:Int)),(13,zp_ P 0),(54,.slice (some ⟨W,0,none⟩) (List.length [(Ax.left d),(Ax.right d)]) 2),(55,.int .i64 2),(56,.int .i64 (j:Int)),(61,.func (.func 148) #[] #[zp_ bw 0])] zl ?_;have hokc:e.ok:=(wh_ (hok d M) (hzb d M).1 (hzb d M).2.1 a1).1;refine dG_ (H':=(bw,.cells (Con.cells e).toArray 40 (0,0))::(mkH Ds++[(m,.map s.1.es s.1.c),(C,.map s.2.1.es s.2.1.c),(A,.map s.2.2.1.es s.2.2.1.c),(B,.map s.2.2.2.es s.2.2.2.c),(K,.cells #[.int .i64 (Con.kind e),str (Con.name e),.int .i64 (Con.lo e),.int .i64 (Con.hi e),.slice (Con.ad e) (List.length (Con.parts e)) (Con.cap e)] 40 (0,0)),(P,.cells #[.int .i64 (Ax.kind d),.bool (Ax.opn d),.int .i64 (Con.kind (Ax.left d)),str (Con.name (Ax.left d)),.int .i64 (Con.lo (Ax.left d)),.int .i64 (Con.hi (Ax.left d)),.slice (Con.ad (Ax.left d)) (List.length (Con.parts (Ax.left d))) (Con.cap (Ax.left d)),.int .i64 (Con.kind (Ax.right d)),str (Con.name (Ax.right d)),.int .i64 (Con.lo (Ax.right d)),.int .i64 (Con.hi (Ax.right d)),.slice (Con.ad (Ax.right d)) (List.length (Con.parts (Ax.right d))) (Con.cap (Ax.right d)),.slice (Ax.ad d) (List.length (Ax.roles d)) (Ax.cap d),str (Ax.role d),str (Ax.a d),str (Ax.b d)] 42 (0,0)),(L,.cells #[.map (some H)] 185 (0,0)),(H,.map #[⟨.int .i64 3,.map (some m),0⟩,⟨.int .i64 6,.map (some C),1⟩,⟨.int .i64 7,.map (some A),2⟩,⟨.int .i64 4,.map (some B),3⟩] 4),(J,.cells #[.slice none 0 0,.slice none 0 0,.slice none 0 0,.slice none 0 0] 133 (0,0))])) (F:=[]) (by exact (j_ d_ (A_ (c_ (c_ (c_ (c_ (c_ (c_ (c_ (c_ C_)))))))) (j_ (c_ (c_ (c_ (c_ (c_ (c_ (c_ d_))))))) (j_ (c_ (c_ (c_ (c_ (c_ (c_ d_)))))) (j_ (c_ (c_ (c_ (c_ (c_ d_))))) (j_ (c_ (c_ (c_ (c_ d_)))) (j_ d_ (j_ d_ (j_ d_ (j_ d_ d_))))))))))) zh ?_;refine rq_ (Ds:=Ds) (α:={c:Con // c.ok}) (xv:=fun x=>x.1.val) (good:=fun _=>True) (stp:=fun x s=>.inl (ej_ x.1 s)) (Γx:=fun x=>[x.1.memF]) (Γi:=[Con.memF e]) (Hj:=(fun t:S4=>(mkH Ds++[(m,.map t.1.es t.1.c),(C,.map t.2.1.es t.2.1.c),(A,.map t.2.2.1.es t.2.2.1.c),(B,.map t.2.2.2.es t.2.2.2.c),(K,.cells #[.int .i64 (Con.kind e),str (Con.name e),.int .i64 (Con.lo e),.int .i64 (Con.hi e),.slice (Con.ad e) (List.length (Con.parts e)) (Con.cap e)] 40 (0,0)),(P,.cells #[.int .i64 (Ax.kind d),.bool (Ax.opn d),.int .i64 (Con.kind (Ax.left d)),str (Con.name (Ax.left d)),.int .i64 (Con.lo (Ax.left d)),.int .i64 (Con.hi (Ax.left d)),.slice (Con.ad (Ax.left d)) (List.length (Con.parts (Ax.left d))) (Con.cap (Ax.left d)),.int .i64 (Con.kind (Ax.right d)),str (Con.name (Ax.right d)),.int .i64 (Con.lo (Ax.right d)),.int .i64 (Con.hi (Ax.right d)),.slice (Con.ad (Ax.right d)) (List.length (Con.parts (Ax.right d))) (Con.cap (Ax.right d)),.slice (Ax.ad d) (List.length (Ax.roles d)) (Ax.cap d),str (Ax.role d),str (Ax.a d),str (Ax.b d)] 42 (0,0)),(L,.cells #[.map (some H)] 185 (0,0)),(H,.map #[⟨.int .i64 3,.map (some m),0⟩,⟨.int .i64 6,.map (some C),1⟩,⟨.int .i64 7,.map (some A),2⟩,⟨.int .i64 4,.map (some B),3⟩] 4),(J,.cells #[.slice none 0 0,.slice none 0 0,.slice none 0 0,.slice none 0 0] 133 (0,0))]))) (Hc:=[(bw,.cells (Con.cells e).toArray 40 (0,0))]) (caps:=[zp_ bw 0]) s (Con.fold (fun x s=>.inl (ej_ x s)) e s) rfl (.refl _) (fun v _ h=>by exact⟨(wg_ (h.2.1.2 d M) a1),trivial⟩) ?_ ?_ ?_
  ·rintro l D rec hpa hst hpe ht hasg hbody s ⟨x,hx⟩ -
   refine ma_ (ι:=Nat) (Hj:=(fun t:S4=>(mkH Ds++[(m,.map t.1.es t.1.c),(C,.map t.2.1.es t.2.1.c),(A,.map t.2.2.1.es t.2.2.1.c),(B,.map t.2.2.2.es t.2.2.2.c),(K,.cells #[.int .i64 (Con.kind e),str (Con.name e),.int .i64 (Con.lo e),.int .i64 (Con.hi e),.slice (Con.ad e) (List.length (Con.parts e)) (Con.cap e)] 40 (0,0)),(P,.cells #[.int .i64 (Ax.kind d),.bool (Ax.opn d),.int .i64 (Con.kind (Ax.left d)),str (Con.name (Ax.left d)),.int .i64 (Con.lo (Ax.left d)),.int .i64 (Con.hi (Ax.left d)),.slice (Con.ad (Ax.left d)) (List.length (Con.parts (Ax.left d))) (Con.cap (Ax.left d)),.int .i64 (Con.kind (Ax.right d)),str (Con.name (Ax.right d)),.int .i64 (Con.lo (Ax.right d)),.int .i64 (Con.hi (Ax.right d)),.slice (Con.ad (Ax.right d)) (List.length (Con.parts (Ax.right d))) (Con.cap (Ax.right d)),.slice (Ax.ad d) (List.length (Ax.roles d)) (Ax.cap d),str (Ax.role d),str (Ax.a d),str (Ax.b d)] 42 (0,0)),(L,.cells #[.map (some H)] 185 (0,0)),(H,.map #[⟨.int .i64 3,.map (some m),0⟩,⟨.int .i64 6,.map (some C),1⟩,⟨.int .i64 7,.map (some A),2⟩,⟨.int .i64 4,.map (some B),3⟩] 4),(J,.cells #[.slice none 0 0,.slice none 0 0,.slice none 0 0,.slice none 0 0] 133 (0,0))]))) (Hx:=fun _:Empty=>[]) (s:=s) (res:=.inl (ej_ x s)) (Γ:=[x.memF]) (fun I=>[(11,zp_ L 0),(16,zp_ I 0)]) (fun I=>((I,.cells #[.int .i64 (Con.kind x),str (Con.name x),.int .i64 (Con.lo x),.int .i64 (Con.hi x),.slice (Con.ad x) (List.length (Con.parts x)) (Con.cap x)] 40 (0,0))::(mkH Ds++[(m,.map s.1.es s.1.c),(C,.map s.2.1.es s.2.1.c),(A,.map s.2.2.1.es s.2.2.1.c),(B,.map s.2.2.2.es s.2.2.2.c),(K,.cells #[.int .i64 (Con.kind e),str (Con.name e),.int .i64 (Con.lo e),.int .i64 (Con.hi e),.slice (Con.ad e) (List.length (Con.parts e)) (Con.cap e)] 40 (0,0)),(P,.cells #[.int .i64 (Ax.kind d),.bool (Ax.opn d),.int .i64 (Con.kind (Ax.left d)),str (Con.name (Ax.left d)),.int .i64 (Con.lo (Ax.left d)),.int .i64 (Con.hi (Ax.left d)),.slice (Con.ad (Ax.left d)) (List.length (Con.parts (Ax.left d))) (Con.cap (Ax.left d)),.int .i64 (Con.kind (Ax.right d)),str (Con.name (Ax.right d)),.int .i64 (Con.lo (Ax.right d)),.int .i64 (Con.hi (Ax.right d)),.slice (Con.ad (Ax.right d)) (List.length (Con.parts (Ax.right d))) (Con.cap (Ax.right d)),.slice (Ax.ad d) (List.length (Ax.roles d)) (Ax.cap d),str (Ax.role d),str (Ax.a d),str (Ax.b d)] 42 (0,0)),(L,.cells #[.map (some H)] 185 (0,0)),(H,.map #[⟨.int .i64 3,.map (some m),0⟩,⟨.int .i64 6,.map (some C),1⟩,⟨.int .i64 7,.map (some A),2⟩,⟨.int .i64 4,.map (some B),3⟩] 4),(J,.cells #[.slice none 0 0,.slice none 0 0,.slice none 0 0,.slice none 0 0] 133 (0,0))]))) hpa hst hpe ht rfl ?_ ?_
   ·intro n v_1 H_1 X
    rw[hasg];refine cN_ (H':=((mkH Ds)++((m,.map s.1.es s.1.c)::((C,.map s.2.1.es s.2.1.c)::((A,.map s.2.2.1.es s.2.2.1.c)::((B,.map s.2.2.2.es s.2.2.2.c)::((K,.cells #[.int .i64 (Con.kind e),str (Con.name e),.int .i64 (Con.lo e),.int .i64 (Con.hi e),.slice (Con.ad e) (List.length (Con.parts e)) (Con.cap e)] 40 (0,0))::((P,.cells #[.int .i64 (Ax.kind d),.bool (Ax.opn d),.int .i64 (Con.kind (Ax.left d)),str (Con.name (Ax.left d)),.int .i64 (Con.lo (Ax.left d)),.int .i64 (Con.hi (Ax.left d)),.slice (Con.ad (Ax.left d)) (List.length (Con.parts (Ax.left d))) (Con.cap (Ax.left d)),.int .i64 (Con.kind (Ax.right d)),str (Con.name (Ax.right d)),.int .i64 (Con.lo (Ax.right d)),.int .i64 (Con.hi (Ax.right d)),.slice (Con.ad (Ax.right d)) (List.length (Con.parts (Ax.right d))) (Con.cap (Ax.right d)),.slice (Ax.ad d) (List.length (Ax.roles d)) (Ax.cap d),str (Ax.role d),str (Ax.a d),str (Ax.b d)] 42 (0,0))::((L,.cells #[.map (some H)] 185 (0,0))::((H,.map #[⟨.int .i64 3,.map (some m),0⟩,⟨.int .i64 6,.map (some C),1⟩,⟨.int .i64 7,.map (some A),2⟩,⟨.int .i64 4,.map (some B),3⟩] 4)::((J,.cells #[.slice none 0 0,.slice none 0 0,.slice none 0 0,.slice none 0 0] 133 (0,0))::X))))))))))) (F:=[]) zj_ zh ?_;refine fX_ (S_ (f_ d_) (S_ (f_ d_) (S_ (f_ d_) (S_ (f_ d_) (S_ (f_ d_) (S_ (f_ d_) (S_ (f_ d_) (S_ (f_ d_) (bb_ (f_ d_)))))))))) ?_;refine aI_ ?_;refine mM_ (K_ _) bT_ rfl fun b_12=>?_;refine fW_ (K_ _) 0 I_ rfl rfl rfl rfl rfl rfl ?_;refine bn_ ?_;refine do_ rfl ?_;refine cN_ (H':=((b_12,.cells #[.int .i64 (Con.kind x),str (Con.name x),.int .i64 (Con.lo x),.int .i64 (Con.hi x),.slice (Con.ad x) (List.length (Con.parts x)) (Con.cap x)] 40 (0,0))::((mkH Ds)++((m,.map s.1.es s.1.c)::((C,.map s.2.1.es s.2.1.c)::((A,.map s.2.2.1.es s.2.2.1.c)::((B,.map s.2.2.2.es s.2.2.2.c)::((K,.cells #[.int .i64 (Con.kind e),str (Con.name e),.int .i64 (Con.lo e),.int .i64 (Con.hi e),.slice (Con.ad e) (List.length (Con.parts e)) (Con.cap e)] 40 (0,0))::((P,.cells #[.int .i64 (Ax.kind d),.bool (Ax.opn d),.int .i64 (Con.kind (Ax.left d)),str (Con.name (Ax.left d)),.int .i64 (Con.lo (Ax.left d)),.int .i64 (Con.hi (Ax.left d)),.slice (Con.ad (Ax.left d)) (List.length (Con.parts (Ax.left d))) (Con.cap (Ax.left d)),.int .i64 (Con.kind (Ax.right d)),str (Con.name (Ax.right d)),.int .i64 (Con.lo (Ax.right d)),.int .i64 (Con.hi (Ax.right d)),.slice (Con.ad (Ax.right d)) (List.length (Con.parts (Ax.right d))) (Con.cap (Ax.right d)),.slice (Ax.ad d) (List.length (Ax.roles d)) (Ax.cap d),str (Ax.role d),str (Ax.a d),str (Ax.b d)] 42 (0,0))::((L,.cells #[.map (some H)] 185 (0,0))::((H,.map #[⟨.int .i64 3,.map (some m),0⟩,⟨.int .i64 6,.map (some C),1⟩,⟨.int .i64 7,.map (some A),2⟩,⟨.int .i64 4,.map (some B),3⟩] 4)::((J,.cells #[.slice none 0 0,.slice none 0 0,.slice none 0 0,.slice none 0 0] 133 (0,0))::X)))))))))))) (F:=[]) (by exact zp) zh ?_;exact fh_ b_12 zl (F:=[]) zj_ zh
   intro n v_1 H_1 X I;rw[hbody]
   by_cases hk:x.kind=3
   ·refine cN_ (H':=((I,.cells #[.int .i64 (Con.kind x),str (Con.name x),.int .i64 (Con.lo x),.int .i64 (Con.hi x),.slice (Con.ad x) (List.length (Con.parts x)) (Con.cap x)] 40 (0,0))::((mkH Ds)++((m,.map s.1.es s.1.c)::((C,.map s.2.1.es s.2.1.c)::((A,.map s.2.2.1.es s.2.2.1.c)::((B,.map s.2.2.2.es s.2.2.2.c)::((K,.cells #[.int .i64 (Con.kind e),str (Con.name e),.int .i64 (Con.lo e),.int .i64 (Con.hi e),.slice (Con.ad e) (List.length (Con.parts e)) (Con.cap e)] 40 (0,0))::((P,.cells #[.int .i64 (Ax.kind d),.bool (Ax.opn d),.int .i64 (Con.kind (Ax.left d)),str (Con.name (Ax.left d)),.int .i64 (Con.lo (Ax.left d)),.int .i64 (Con.hi (Ax.left d)),.slice (Con.ad (Ax.left d)) (List.length (Con.parts (Ax.left d))) (Con.cap (Ax.left d)),.int .i64 (Con.kind (Ax.right d)),str (Con.name (Ax.right d)),.int .i64 (Con.lo (Ax.right d)),.int .i64 (Con.hi (Ax.right d)),.slice (Con.ad (Ax.right d)) (List.length (Con.parts (Ax.right d))) (Con.cap (Ax.right d)),.slice (Ax.ad d) (List.length (Ax.roles d)) (Ax.cap d),str (Ax.role d),str (Ax.a d),str (Ax.b d)] 42 (0,0))::((L,.cells #[.map (some H)] 185 (0,0))::((H,.map #[⟨.int .i64 3,.map (some m),0⟩,⟨.int .i64 6,.map (some C),1⟩,⟨.int .i64 7,.map (some A),2⟩,⟨.int .i64 4,.map (some B),3⟩] 4)::((J,.cells #[.slice none 0 0,.slice none 0 0,.slice none 0 0,.slice none 0 0] 133 (0,0))::X)))))))))))) (F:=[]) zj_ zh ?_
    refine ep_ ?_;refine fX_ (S_ d_ (S_ (f_ d_) (S_ (f_ d_) (S_ (f_ d_) (S_ (f_ d_) (S_ (f_ d_) (S_ (f_ d_) (S_ (f_ d_) (S_ (f_ d_) (bb_ (f_ d_))))))))))) ?_;refine cV_ ?_;refine aI_ ?_;refine R_ (K_ _) (aE_ 7 yo_ rfl rfl rfl) rfl rfl ?_;refine R_ (K_ _) (bR_ aC_ rfl rfl rfl ak_) rfl rfl ?_;refine R_ (K_ _) (aE_ 0 aN_ rfl rfl rfl) rfl rfl ?_;refine R_ (K_ _) (he_ (i:=0) (u:=.map (some m)) cs_ rfl rfl 8 rfl (aZ_ p_) (aJ_ p_ (by rw[hk];rfl))) rfl rfl ?_;refine R_ (K_ _) (al_ rfl) rfl rfl ?_;refine R_ (K_ _) (bF_ rfl rfl) rfl rfl ?_;refine R_ (K_ _) (bF_ rfl rfl) rfl rfl ?_;refine R_ (K_ _) (ay_ rfl) rfl rfl ?_;refine R_ (K_ _) (ay_ rfl) rfl rfl ?_;refine bn_ ?_;refine cd_ rfl ?_;refine cV_ ?_;refine aI_ ?_;refine R_ (K_ _) (al_ rfl) rfl rfl ?_;refine bn_ ?_;refine cd_ rfl ?_;refine fq_ rfl ?_;refine aI_ ?_;refine R_ (K_ _) (al_ rfl) rfl rfl ?_;refine R_ (K_ _) (bR_ aC_ rfl rfl rfl E_) rfl rfl ?_;refine R_ (K_ _) (aE_ 0 W_ rfl rfl rfl) rfl rfl ?_;refine hr_ (K_ _) 1 s.1 bo_ (.inr rfl) M_ rfl rfl rfl rfl ?_;refine bn_ ?_;refine do_ rfl ?_;refine cN_ (H':=((mkH Ds)++((m,.map (s.1.add (Con.name x)).es (s.1.add (Con.name x)).c)::((C,.map s.2.1.es s.2.1.c)::((A,.map s.2.2.1.es s.2.2.1.c)::((B,.map s.2.2.2.es s.2.2.2.c)::((K,.cells #[.int .i64 (Con.kind e),str (Con.name e),.int .i64 (Con.lo e),.int .i64 (Con.hi e),.slice (Con.ad e) (List.length (Con.parts e)) (Con.cap e)] 40 (0,0))::((P,.cells #[.int .i64 (Ax.kind d),.bool (Ax.opn d),.int .i64 (Con.kind (Ax.left d)),str (Con.name (Ax.left d)),.int .i64 (Con.lo (Ax.left d)),.int .i64 (Con.hi (Ax.left d)),.slice (Con.ad (Ax.left d)) (List.length (Con.parts (Ax.left d))) (Con.cap (Ax.left d)),.int .i64 (Con.kind (Ax.right d)),str (Con.name (Ax.right d)),.int .i64 (Con.lo (Ax.right d)),.int .i64 (Con.hi (Ax.right d)),.slice (Con.ad (Ax.right d)) (List.length (Con.parts (Ax.right d))) (Con.cap (Ax.right d)),.slice (Ax.ad d) (List.length (Ax.roles d)) (Ax.cap d),str (Ax.role d),str (Ax.a d),str (Ax.b d)] 42 (0,0))::((L,.cells #[.map (some H)] 185 (0,0))::((H,.map #[⟨.int .i64 3,.map (some m),0⟩,⟨.int .i64 6,.map (some C),1⟩,⟨.int .i64 7,.map (some A),2⟩,⟨.int .i64 4,.map (some B),3⟩] 4)::((J,.cells #[.slice none 0 0,.slice none 0 0,.slice none 0 0,.slice none 0 0] 133 (0,0))::(X++((I,.cells #[.int .i64 (Con.kind x),str (Con.name x),.int .i64 (Con.lo x),.int .i64 (Con.hi x),.slice (Con.ad x) (List.length (Con.parts x)) (Con.cap x)] 40 (0,0))::[]))))))))))))) (F:=[]) zl_ zh ?_;refine fL_ (ej_ x s) rfl (G:=[(I,.cells #[.int .i64 (Con.kind x),str (Con.name x),.int .i64 (Con.lo x),.int .i64 (Con.hi x),.slice (Con.ad x) (List.length (Con.parts x)) (Con.cap x)] 40 (0,0))]) ?_;rw[show ej_ x s=(s.1.add x.name,s.2) from (by unfold ej_;rw[if_pos hk])];simp
   have hn_1:=hk
   by_cases hk:x.kind=6
   ·refine cN_ (H':=((I,.cells #[.int .i64 (Con.kind x),str (Con.name x),.int .i64 (Con.lo x),.int .i64 (Con.hi x),.slice (Con.ad x) (List.length (Con.parts x)) (Con.cap x)] 40 (0,0))::((mkH Ds)++((m,.map s.1.es s.1.c)::((C,.map s.2.1.es s.2.1.c)::((A,.map s.2.2.1.es s.2.2.1.c)::((B,.map s.2.2.2.es s.2.2.2.c)::((K,.cells #[.int .i64 (Con.kind e),str (Con.name e),.int .i64 (Con.lo e),.int .i64 (Con.hi e),.slice (Con.ad e) (List.length (Con.parts e)) (Con.cap e)] 40 (0,0))::((P,.cells #[.int .i64 (Ax.kind d),.bool (Ax.opn d),.int .i64 (Con.kind (Ax.left d)),str (Con.name (Ax.left d)),.int .i64 (Con.lo (Ax.left d)),.int .i64 (Con.hi (Ax.left d)),.slice (Con.ad (Ax.left d)) (List.length (Con.parts (Ax.left d))) (Con.cap (Ax.left d)),.int .i64 (Con.kind (Ax.right d)),str (Con.name (Ax.right d)),.int .i64 (Con.lo (Ax.right d)),.int .i64 (Con.hi (Ax.right d)),.slice (Con.ad (Ax.right d)) (List.length (Con.parts (Ax.right d))) (Con.cap (Ax.right d)),.slice (Ax.ad d) (List.length (Ax.roles d)) (Ax.cap d),str (Ax.role d),str (Ax.a d),str (Ax.b d)] 42 (0,0))::((L,.cells #[.map (some H)] 185 (0,0))::((H,.map #[⟨.int .i64 3,.map (some m),0⟩,⟨.int .i64 6,.map (some C),1⟩,⟨.int .i64 7,.map (some A),2⟩,⟨.int .i64 4,.map (some B),3⟩] 4)::((J,.cells #[.slice none 0 0,.slice none 0 0,.slice none 0 0,.slice none 0 0] 133 (0,0))::X)))))))))))) (F:=[]) zj_ zh ?_
    refine ep_ ?_;refine fX_ (S_ d_ (S_ (f_ d_) (S_ (f_ d_) (S_ (f_ d_) (S_ (f_ d_) (S_ (f_ d_) (S_ (f_ d_) (S_ (f_ d_) (S_ (f_ d_) (bb_ (f_ d_))))))))))) ?_;refine cV_ ?_;refine aI_ ?_;refine R_ (K_ _) (aE_ 7 yo_ rfl rfl rfl) rfl rfl ?_;refine R_ (K_ _) (bR_ aC_ rfl rfl rfl ak_) rfl rfl ?_;refine R_ (K_ _) (aE_ 0 aN_ rfl rfl rfl) rfl rfl ?_;refine R_ (K_ _) (he_ (i:=1) (u:=.map (some C)) cs_ rfl rfl 8 rfl (aZ_ p_) (aJ_ p_ (by rw[hk];rfl))) rfl rfl ?_;refine R_ (K_ _) (al_ rfl) rfl rfl ?_;refine R_ (K_ _) (bF_ rfl rfl) rfl rfl ?_;refine R_ (K_ _) (bF_ rfl rfl) rfl rfl ?_;refine R_ (K_ _) (ay_ rfl) rfl rfl ?_;refine R_ (K_ _) (ay_ rfl) rfl rfl ?_;refine bn_ ?_;refine cd_ rfl ?_;refine cV_ ?_;refine aI_ ?_;refine R_ (K_ _) (al_ rfl) rfl rfl ?_;refine bn_ ?_;refine cd_ rfl ?_;refine fq_ rfl ?_;refine aI_ ?_;refine R_ (K_ _) (al_ rfl) rfl rfl ?_;refine R_ (K_ _) (bR_ aC_ rfl rfl rfl E_) rfl rfl ?_;refine R_ (K_ _) (aE_ 0 W_ rfl rfl rfl) rfl rfl ?_;refine hr_ (K_ _) 2 s.2.1 bo_ (.inr rfl) M_ rfl rfl rfl rfl ?_;refine bn_ ?_;refine do_ rfl ?_;refine cN_ (H':=((mkH Ds)++((m,.map s.1.es s.1.c)::((C,.map (s.2.1.add (Con.name x)).es (s.2.1.add (Con.name x)).c)::((A,.map s.2.2.1.es s.2.2.1.c)::((B,.map s.2.2.2.es s.2.2.2.c)::((K,.cells #[.int .i64 (Con.kind e),str (Con.name e),.int .i64 (Con.lo e),.int .i64 (Con.hi e),.slice (Con.ad e) (List.length (Con.parts e)) (Con.cap e)] 40 (0,0))::((P,.cells #[.int .i64 (Ax.kind d),.bool (Ax.opn d),.int .i64 (Con.kind (Ax.left d)),str (Con.name (Ax.left d)),.int .i64 (Con.lo (Ax.left d)),.int .i64 (Con.hi (Ax.left d)),.slice (Con.ad (Ax.left d)) (List.length (Con.parts (Ax.left d))) (Con.cap (Ax.left d)),.int .i64 (Con.kind (Ax.right d)),str (Con.name (Ax.right d)),.int .i64 (Con.lo (Ax.right d)),.int .i64 (Con.hi (Ax.right d)),.slice (Con.ad (Ax.right d)) (List.length (Con.parts (Ax.right d))) (Con.cap (Ax.right d)),.slice (Ax.ad d) (List.length (Ax.roles d)) (Ax.cap d),str (Ax.role d),str (Ax.a d),str (Ax.b d)] 42 (0,0))::((L,.cells #[.map (some H)] 185 (0,0))::((H,.map #[⟨.int .i64 3,.map (some m),0⟩,⟨.int .i64 6,.map (some C),1⟩,⟨.int .i64 7,.map (some A),2⟩,⟨.int .i64 4,.map (some B),3⟩] 4)::((J,.cells #[.slice none 0 0,.slice none 0 0,.slice none 0 0,.slice none 0 0] 133 (0,0))::(X++((I,.cells #[.int .i64 (Con.kind x),str (Con.name x),.int .i64 (Con.lo x),.int .i64 (Con.hi x),.slice (Con.ad x) (List.length (Con.parts x)) (Con.cap x)] 40 (0,0))::[]))))))))))))) (F:=[]) zl_ zh ?_;refine fL_ (ej_ x s) rfl (G:=[(I,.cells #[.int .i64 (Con.kind x),str (Con.name x),.int .i64 (Con.lo x),.int .i64 (Con.hi x),.slice (Con.ad x) (List.length (Con.parts x)) (Con.cap x)] 40 (0,0))]) ?_;rw[show ej_ x s=(s.1,s.2.1.add x.name,s.2.2) from (by unfold ej_;rw[if_neg za_,if_pos hk])];simp
   have hn_2:=hk
   by_cases hk:x.kind=7
   ·refine cN_ (H':=((I,.cells #[.int .i64 (Con.kind x),str (Con.name x),.int .i64 (Con.lo x),.int .i64 (Con.hi x),.slice (Con.ad x) (List.length (Con.parts x)) (Con.cap x)] 40 (0,0))::((mkH Ds)++((m,.map s.1.es s.1.c)::((C,.map s.2.1.es s.2.1.c)::((A,.map s.2.2.1.es s.2.2.1.c)::((B,.map s.2.2.2.es s.2.2.2.c)::((K,.cells #[.int .i64 (Con.kind e),str (Con.name e),.int .i64 (Con.lo e),.int .i64 (Con.hi e),.slice (Con.ad e) (List.length (Con.parts e)) (Con.cap e)] 40 (0,0))::((P,.cells #[.int .i64 (Ax.kind d),.bool (Ax.opn d),.int .i64 (Con.kind (Ax.left d)),str (Con.name (Ax.left d)),.int .i64 (Con.lo (Ax.left d)),.int .i64 (Con.hi (Ax.left d)),.slice (Con.ad (Ax.left d)) (List.length (Con.parts (Ax.left d))) (Con.cap (Ax.left d)),.int .i64 (Con.kind (Ax.right d)),str (Con.name (Ax.right d)),.int .i64 (Con.lo (Ax.right d)),.int .i64 (Con.hi (Ax.right d)),.slice (Con.ad (Ax.right d)) (List.length (Con.parts (Ax.right d))) (Con.cap (Ax.right d)),.slice (Ax.ad d) (List.length (Ax.roles d)) (Ax.cap d),str (Ax.role d),str (Ax.a d),str (Ax.b d)] 42 (0,0))::((L,.cells #[.map (some H)] 185 (0,0))::((H,.map #[⟨.int .i64 3,.map (some m),0⟩,⟨.int .i64 6,.map (some C),1⟩,⟨.int .i64 7,.map (some A),2⟩,⟨.int .i64 4,.map (some B),3⟩] 4)::((J,.cells #[.slice none 0 0,.slice none 0 0,.slice none 0 0,.slice none 0 0] 133 (0,0))::X)))))))))))) (F:=[]) zj_ zh ?_
    refine ep_ ?_;refine fX_ (S_ d_ (S_ (f_ d_) (S_ (f_ d_) (S_ (f_ d_) (S_ (f_ d_) (S_ (f_ d_) (S_ (f_ d_) (S_ (f_ d_) (S_ (f_ d_) (bb_ (f_ d_))))))))))) ?_;refine cV_ ?_;refine aI_ ?_;refine R_ (K_ _) (aE_ 7 yo_ rfl rfl rfl) rfl rfl ?_;refine R_ (K_ _) (bR_ aC_ rfl rfl rfl ak_) rfl rfl ?_;refine R_ (K_ _) (aE_ 0 aN_ rfl rfl rfl) rfl rfl ?_;refine R_ (K_ _) (he_ (i:=2) (u:=.map (some A)) cs_ rfl rfl 8 rfl (aZ_ p_) (aJ_ p_ (by rw[hk];rfl))) rfl rfl ?_;refine R_ (K_ _) (al_ rfl) rfl rfl ?_;refine R_ (K_ _) (bF_ rfl rfl) rfl rfl ?_;refine R_ (K_ _) (bF_ rfl rfl) rfl rfl ?_;refine R_ (K_ _) (ay_ rfl) rfl rfl ?_;refine R_ (K_ _) (ay_ rfl) rfl rfl ?_;refine bn_ ?_;refine cd_ rfl ?_;refine cV_ ?_;refine aI_ ?_;refine R_ (K_ _) (al_ rfl) rfl rfl ?_;refine bn_ ?_;refine cd_ rfl ?_;refine fq_ rfl ?_;refine aI_ ?_;refine R_ (K_ _) (al_ rfl) rfl rfl ?_;refine R_ (K_ _) (bR_ aC_ rfl rfl rfl E_) rfl rfl ?_;refine R_ (K_ _) (aE_ 0 W_ rfl rfl rfl) rfl rfl ?_;refine hr_ (K_ _) 3 s.2.2.1 bo_ (.inr rfl) M_ rfl rfl rfl rfl ?_;refine bn_ ?_;refine do_ rfl ?_;refine cN_ (H':=((mkH Ds)++((m,.map s.1.es s.1.c)::((C,.map s.2.1.es s.2.1.c)::((A,.map (s.2.2.1.add (Con.name x)).es (s.2.2.1.add (Con.name x)).c)::((B,.map s.2.2.2.es s.2.2.2.c)::((K,.cells #[.int .i64 (Con.kind e),str (Con.name e),.int .i64 (Con.lo e),.int .i64 (Con.hi e),.slice (Con.ad e) (List.length (Con.parts e)) (Con.cap e)] 40 (0,0))::((P,.cells #[.int .i64 (Ax.kind d),.bool (Ax.opn d),.int .i64 (Con.kind (Ax.left d)),str (Con.name (Ax.left d)),.int .i64 (Con.lo (Ax.left d)),.int .i64 (Con.hi (Ax.left d)),.slice (Con.ad (Ax.left d)) (List.length (Con.parts (Ax.left d))) (Con.cap (Ax.left d)),.int .i64 (Con.kind (Ax.right d)),str (Con.name (Ax.right d)),.int .i64 (Con.lo (Ax.right d)),.int .i64 (Con.hi (Ax.right d)),.slice (Con.ad (Ax.right d)) (List.length (Con.parts (Ax.right d))) (Con.cap (Ax.right d)),.slice (Ax.ad d) (List.length (Ax.roles d)) (Ax.cap d),str (Ax.role d),str (Ax.a d),str (Ax.b d)] 42 (0,0))::((L,.cells #[.map (some H)] 185 (0,0))::((H,.map #[⟨.int .i64 3,.map (some m),0⟩,⟨.int .i64 6,.map (some C),1⟩,⟨.int .i64 7,.map (some A),2⟩,⟨.int .i64 4,.map (some B),3⟩] 4)::((J,.cells #[.slice none 0 0,.slice none 0 0,.slice none 0 0,.slice none 0 0] 133 (0,0))::(X++((I,.cells #[.int .i64 (Con.kind x),str (Con.name x),.int .i64 (Con.lo x),.int .i64 (Con.hi x),.slice (Con.ad x) (List.length (Con.parts x)) (Con.cap x)] 40 (0,0))::[]))))))))))))) (F:=[]) zl_ zh ?_;refine fL_ (ej_ x s) rfl (G:=[(I,.cells #[.int .i64 (Con.kind x),str (Con.name x),.int .i64 (Con.lo x),.int .i64 (Con.hi x),.slice (Con.ad x) (List.length (Con.parts x)) (Con.cap x)] 40 (0,0))]) ?_;rw[show ej_ x s=(s.1,s.2.1,s.2.2.1.add x.name,s.2.2.2) from (by unfold ej_;rw[if_neg za_,if_neg za_,if_pos hk])];simp
   have hn_3:=hk
   by_cases hk:x.kind=4
   ·refine cN_ (H':=((I,.cells #[.int .i64 (Con.kind x),str (Con.name x),.int .i64 (Con.lo x),.int .i64 (Con.hi x),.slice (Con.ad x) (List.length (Con.parts x)) (Con.cap x)] 40 (0,0))::((mkH Ds)++((m,.map s.1.es s.1.c)::((C,.map s.2.1.es s.2.1.c)::((A,.map s.2.2.1.es s.2.2.1.c)::((B,.map s.2.2.2.es s.2.2.2.c)::((K,.cells #[.int .i64 (Con.kind e),str (Con.name e),.int .i64 (Con.lo e),.int .i64 (Con.hi e),.slice (Con.ad e) (List.length (Con.parts e)) (Con.cap e)] 40 (0,0))::((P,.cells #[.int .i64 (Ax.kind d),.bool (Ax.opn d),.int .i64 (Con.kind (Ax.left d)),str (Con.name (Ax.left d)),.int .i64 (Con.lo (Ax.left d)),.int .i64 (Con.hi (Ax.left d)),.slice (Con.ad (Ax.left d)) (List.length (Con.parts (Ax.left d))) (Con.cap (Ax.left d)),.int .i64 (Con.kind (Ax.right d)),str (Con.name (Ax.right d)),.int .i64 (Con.lo (Ax.right d)),.int .i64 (Con.hi (Ax.right d)),.slice (Con.ad (Ax.right d)) (List.length (Con.parts (Ax.right d))) (Con.cap (Ax.right d)),.slice (Ax.ad d) (List.length (Ax.roles d)) (Ax.cap d),str (Ax.role d),str (Ax.a d),str (Ax.b d)] 42 (0,0))::((L,.cells #[.map (some H)] 185 (0,0))::((H,.map #[⟨.int .i64 3,.map (some m),0⟩,⟨.int .i64 6,.map (some C),1⟩,⟨.int .i64 7,.map (some A),2⟩,⟨.int .i64 4,.map (some B),3⟩] 4)::((J,.cells #[.slice none 0 0,.slice none 0 0,.slice none 0 0,.slice none 0 0] 133 (0,0))::X)))))))))))) (F:=[]) zj_ zh ?_
    refine ep_ ?_;refine fX_ (S_ d_ (S_ (f_ d_) (S_ (f_ d_) (S_ (f_ d_) (S_ (f_ d_) (S_ (f_ d_) (S_ (f_ d_) (S_ (f_ d_) (S_ (f_ d_) (bb_ (f_ d_))))))))))) ?_;refine cV_ ?_;refine aI_ ?_;refine R_ (K_ _) (aE_ 7 yo_ rfl rfl rfl) rfl rfl ?_;refine R_ (K_ _) (bR_ aC_ rfl rfl rfl ak_) rfl rfl ?_;refine R_ (K_ _) (aE_ 0 aN_ rfl rfl rfl) rfl rfl ?_;refine R_ (K_ _) (he_ (i:=3) (u:=.map (some B)) cs_ rfl rfl 8 rfl (aZ_ p_) (aJ_ p_ (by rw[hk];rfl))) rfl rfl ?_;refine R_ (K_ _) (al_ rfl) rfl rfl ?_;refine R_ (K_ _) (bF_ rfl rfl) rfl rfl ?_;refine R_ (K_ _) (bF_ rfl rfl) rfl rfl ?_;refine R_ (K_ _) (ay_ rfl) rfl rfl ?_;refine R_ (K_ _) (ay_ rfl) rfl rfl ?_;refine bn_ ?_;refine cd_ rfl ?_;refine cV_ ?_;refine aI_ ?_;refine R_ (K_ _) (al_ rfl) rfl rfl ?_;refine bn_ ?_;refine cd_ rfl ?_;refine fq_ rfl ?_;refine aI_ ?_;refine R_ (K_ _) (al_ rfl) rfl rfl ?_;refine R_ (K_ _) (bR_ aC_ rfl rfl rfl E_) rfl rfl ?_;refine R_ (K_ _) (aE_ 0 W_ rfl rfl rfl) rfl rfl ?_;refine hr_ (K_ _) 4 s.2.2.2 bo_ (.inr rfl) M_ rfl rfl rfl rfl ?_;refine bn_ ?_;refine do_ rfl ?_;refine cN_ (H':=((mkH Ds)++((m,.map s.1.es s.1.c)::((C,.map s.2.1.es s.2.1.c)::((A,.map s.2.2.1.es s.2.2.1.c)::((B,.map (s.2.2.2.add (Con.name x)).es (s.2.2.2.add (Con.name x)).c)::((K,.cells #[.int .i64 (Con.kind e),str (Con.name e),.int .i64 (Con.lo e),.int .i64 (Con.hi e),.slice (Con.ad e) (List.length (Con.parts e)) (Con.cap e)] 40 (0,0))::((P,.cells #[.int .i64 (Ax.kind d),.bool (Ax.opn d),.int .i64 (Con.kind (Ax.left d)),str (Con.name (Ax.left d)),.int .i64 (Con.lo (Ax.left d)),.int .i64 (Con.hi (Ax.left d)),.slice (Con.ad (Ax.left d)) (List.length (Con.parts (Ax.left d))) (Con.cap (Ax.left d)),.int .i64 (Con.kind (Ax.right d)),str (Con.name (Ax.right d)),.int .i64 (Con.lo (Ax.right d)),.int .i64 (Con.hi (Ax.right d)),.slice (Con.ad (Ax.right d)) (List.length (Con.parts (Ax.right d))) (Con.cap (Ax.right d)),.slice (Ax.ad d) (List.length (Ax.roles d)) (Ax.cap d),str (Ax.role d),str (Ax.a d),str (Ax.b d)] 42 (0,0))::((L,.cells #[.map (some H)] 185 (0,0))::((H,.map #[⟨.int .i64 3,.map (some m),0⟩,⟨.int .i64 6,.map (some C),1⟩,⟨.int .i64 7,.map (some A),2⟩,⟨.int .i64 4,.map (some B),3⟩] 4)::((J,.cells #[.slice none 0 0,.slice none 0 0,.slice none 0 0,.slice none 0 0] 133 (0,0))::(X++((I,.cells #[.int .i64 (Con.kind x),str (Con.name x),.int .i64 (Con.lo x),.int .i64 (Con.hi x),.slice (Con.ad x) (List.length (Con.parts x)) (Con.cap x)] 40 (0,0))::[]))))))))))))) (F:=[]) zl_ zh ?_;refine fL_ (ej_ x s) rfl (G:=[(I,.cells #[.int .i64 (Con.kind x),str (Con.name x),.int .i64 (Con.lo x),.int .i64 (Con.hi x),.slice (Con.ad x) (List.length (Con.parts x)) (Con.cap x)] 40 (0,0))]) ?_;rw[show ej_ x s=(s.1,s.2.1,s.2.2.1,s.2.2.2.add x.name) from (by unfold ej_;rw[if_neg za_,if_neg za_,if_neg za_,if_pos hk])];simp
   have hn_4:=hk;refine cN_ (H':=((I,.cells #[.int .i64 (Con.kind x),str (Con.name x),.int .i64 (Con.lo x),.int .i64 (Con.hi x),.slice (Con.ad x) (List.length (Con.parts x)) (Con.cap x)] 40 (0,0))::((mkH Ds)++((m,.map s.1.es s.1.c)::((C,.map s.2.1.es s.2.1.c)::((A,.map s.2.2.1.es s.2.2.1.c)::((B,.map s.2.2.2.es s.2.2.2.c)::((K,.cells #[.int .i64 (Con.kind e),str (Con.name e),.int .i64 (Con.lo e),.int .i64 (Con.hi e),.slice (Con.ad e) (List.length (Con.parts e)) (Con.cap e)] 40 (0,0))::((P,.cells #[.int .i64 (Ax.kind d),.bool (Ax.opn d),.int .i64 (Con.kind (Ax.left d)),str (Con.name (Ax.left d)),.int .i64 (Con.lo (Ax.left d)),.int .i64 (Con.hi (Ax.left d)),.slice (Con.ad (Ax.left d)) (List.length (Con.parts (Ax.left d))) (Con.cap (Ax.left d)),.int .i64 (Con.kind (Ax.right d)),str (Con.name (Ax.right d)),.int .i64 (Con.lo (Ax.right d)),.int .i64 (Con.hi (Ax.right d)),.slice (Con.ad (Ax.right d)) (List.length (Con.parts (Ax.right d))) (Con.cap (Ax.right d)),.slice (Ax.ad d) (List.length (Ax.roles d)) (Ax.cap d),str (Ax.role d),str (Ax.a d),str (Ax.b d)] 42 (0,0))::((L,.cells #[.map (some H)] 185 (0,0))::((H,.map #[⟨.int .i64 3,.map (some m),0⟩,⟨.int .i64 6,.map (some C),1⟩,⟨.int .i64 7,.map (some A),2⟩,⟨.int .i64 4,.map (some B),3⟩] 4)::((J,.cells #[.slice none 0 0,.slice none 0 0,.slice none 0 0,.slice none 0 0] 133 (0,0))::X)))))))))))) (F:=[]) zj_ zh ?_;refine ep_ ?_;refine fX_ (S_ d_ (S_ (f_ d_) (S_ (f_ d_) (S_ (f_ d_) (S_ (f_ d_) (S_ (f_ d_) (S_ (f_ d_) (S_ (f_ d_) (S_ (f_ d_) (bb_ (f_ d_))))))))))) ?_;refine cV_ ?_;refine aI_ ?_;refine R_ (K_ _) (aE_ 7 yo_ rfl rfl rfl) rfl rfl ?_;refine R_ (K_ _) (bR_ aC_ rfl rfl rfl ak_) rfl rfl ?_;refine R_ (K_ _) (aE_ 0 aN_ rfl rfl rfl) rfl rfl ?_;refine R_ (K_ _) (rd_ cs_ dQ_ rfl rfl 8 rfl (aZ_ p_) ((vt_ p_).nf (Con.kind x) _ [3,6,7,4] rfl (by simp only[List.mem_cons,List.not_mem_nil,or_false];omega))) rfl rfl ?_;refine R_ (K_ _) (al_ rfl) rfl rfl ?_;refine R_ (K_ _) (bF_ rfl rfl) rfl rfl ?_;refine R_ (K_ _) (bF_ rfl rfl) rfl rfl ?_;refine R_ (K_ _) (ay_ rfl) rfl rfl ?_;refine R_ (K_ _) (ay_ rfl) rfl rfl ?_;refine bn_ ?_;refine cd_ rfl ?_;refine cV_ ?_;refine aI_ ?_;refine R_ (K_ _) (al_ rfl) rfl rfl ?_;refine bn_ ?_;refine cd_ rfl ?_;refine ll_ rfl ?_;refine nR_ ?_;refine do_ rfl ?_;refine cN_ (H':=((mkH Ds)++((m,.map s.1.es s.1.c)::((C,.map s.2.1.es s.2.1.c)::((A,.map s.2.2.1.es s.2.2.1.c)::((B,.map s.2.2.2.es s.2.2.2.c)::((K,.cells #[.int .i64 (Con.kind e),str (Con.name e),.int .i64 (Con.lo e),.int .i64 (Con.hi e),.slice (Con.ad e) (List.length (Con.parts e)) (Con.cap e)] 40 (0,0))::((P,.cells #[.int .i64 (Ax.kind d),.bool (Ax.opn d),.int .i64 (Con.kind (Ax.left d)),str (Con.name (Ax.left d)),.int .i64 (Con.lo (Ax.left d)),.int .i64 (Con.hi (Ax.left d)),.slice (Con.ad (Ax.left d)) (List.length (Con.parts (Ax.left d))) (Con.cap (Ax.left d)),.int .i64 (Con.kind (Ax.right d)),str (Con.name (Ax.right d)),.int .i64 (Con.lo (Ax.right d)),.int .i64 (Con.hi (Ax.right d)),.slice (Con.ad (Ax.right d)) (List.length (Con.parts (Ax.right d))) (Con.cap (Ax.right d)),.slice (Ax.ad d) (List.length (Ax.roles d)) (Ax.cap d),str (Ax.role d),str (Ax.a d),str (Ax.b d)] 42 (0,0))::((L,.cells #[.map (some H)] 185 (0,0))::((H,.map #[⟨.int .i64 3,.map (some m),0⟩,⟨.int .i64 6,.map (some C),1⟩,⟨.int .i64 7,.map (some A),2⟩,⟨.int .i64 4,.map (some B),3⟩] 4)::((J,.cells #[.slice none 0 0,.slice none 0 0,.slice none 0 0,.slice none 0 0] 133 (0,0))::(X++((I,.cells #[.int .i64 (Con.kind x),str (Con.name x),.int .i64 (Con.lo x),.int .i64 (Con.hi x),.slice (Con.ad x) (List.length (Con.parts x)) (Con.cap x)] 40 (0,0))::[]))))))))))))) (F:=[]) (by exact zp) zh ?_;refine fL_ (ej_ x s) rfl (G:=[(I,.cells #[.int .i64 (Con.kind x),str (Con.name x),.int .i64 (Con.lo x),.int .i64 (Con.hi x),.slice (Con.ad x) (List.length (Con.parts x)) (Con.cap x)] 40 (0,0))]) ?_;rw[show ej_ x s=s from (by unfold ej_;rw[if_neg za_,if_neg za_,if_neg za_,if_neg za_])];simp
  ·intro l Gj Gx hY
   exact sn_ (E:=[]) (good:=fun _=>True) (fun _ _ _ _=>trivial) (fun s x hx _=>hY s ⟨x,hx⟩ trivial) _ hokc trivial s
  intro s_1 V D l r;rw[qD_ (fun x s=>ej_ x s) _ e (Nat.le_refl _)]at V;obtain rfl:=Sum.inl.inj V;have R:=T.side a3;refine dG_ (H':=mkH (D::Ds)++[(m,.map ((List.foldl (fun s x=>ej_ x s) s (Con.nds e)).1).es ((List.foldl (fun s x=>ej_ x s) s (Con.nds e)).1).c),(C,.map ((List.foldl (fun s x=>ej_ x s) s (Con.nds e)).2.1).es ((List.foldl (fun s x=>ej_ x s) s (Con.nds e)).2.1).c),(A,.map ((List.foldl (fun s x=>ej_ x s) s (Con.nds e)).2.2.1).es ((List.foldl (fun s x=>ej_ x s) s (Con.nds e)).2.2.1).c),(B,.map ((List.foldl (fun s x=>ej_ x s) s (Con.nds e)).2.2.2).es ((List.foldl (fun s x=>ej_ x s) s (Con.nds e)).2.2.2).c),(K,.cells #[.int .i64 (Con.kind e),str (Con.name e),.int .i64 (Con.lo e),.int .i64 (Con.hi e),.slice (Con.ad e) (List.length (Con.parts e)) (Con.cap e)] 40 (0,0)),(P,.cells #[.int .i64 (Ax.kind d),.bool (Ax.opn d),.int .i64 (Con.kind (Ax.left d)),str (Con.name (Ax.left d)),.int .i64 (Con.lo (Ax.left d)),.int .i64 (Con.hi (Ax.left d)),.slice (Con.ad (Ax.left d)) (List.length (Con.parts (Ax.left d))) (Con.cap (Ax.left d)),.int .i64 (Con.kind (Ax.right d)),str (Con.name (Ax.right d)),.int .i64 (Con.lo (Ax.right d)),.int .i64 (Con.hi (Ax.right d)),.slice (Con.ad (Ax.right d)) (List.length (Con.parts (Ax.right d))) (Con.cap (Ax.right d)),.slice (Ax.ad d) (List.length (Ax.roles d)) (Ax.cap d),str (Ax.role d),str (Ax.a d),str (Ax.b d)] 42 (0,0)),(L,.cells #[.map (some H)] 185 (0,0)),(H,.map #[⟨.int .i64 3,.map (some m),0⟩,⟨.int .i64 6,.map (some C),1⟩,⟨.int .i64 7,.map (some A),2⟩,⟨.int .i64 4,.map (some B),3⟩] 4),(J,.cells #[.slice none 0 0,.slice none 0 0,.slice none 0 0,.slice none 0 0] 133 (0,0))]) (F:=[(bw,.cells (Con.cells e).toArray 40 (0,0))]++[(l,.loop r)]) vh_ zh ?_;refine aX_ rfl (z_ (S_ (f_ d_) (S_ (f_ d_) (S_ (f_ d_) (S_ (f_ d_) (S_ (f_ d_) (S_ (f_ d_) (S_ (f_ d_) (S_ (f_ d_) (bb_ aP_))))))))) (Zz 5 ?_));exact iF_ ⟨(j+1,(List.foldl (fun s x=>ej_ x s) s (Con.nds e)),(D::Ds)),a2,R⟩ zb_ zl zp zh
 obtain⟨S,d,hx_1,M⟩:=zge (show Y<List.length O by omega);refine Zz 12 ?_;refine G_ cE_ rfl fun m=>u_ 0 br_ rfl rfl rfl rfl rfl rfl (Zz 5 ?_)
 refine g_ (ou_ (hok d M) (hC d M)) rfl m_ (fun v _ h=>by exact⟨(h.1.2 d M),h.2.1,trivial⟩) rfl fun _=>Zz 6 ?_
 refine e_ (ar_ (bU_ rfl rfl) (show _=Value.bool false from congrArg Value.bool ze_)) rfl (Zz 10 ?_);exact iF_ ⟨Y+1,S⟩ zb_ zl (c_ d_) zh
end Go.Proofs.YtpbnmnfdgckaiaaGreatDoor
namespace Go.Vs
open Go Go.Sx
inductive RchS (nx:Str→List Str) (I:List Str):Str→Prop
  | zero {s:Str}:s∈I→RchS nx I s
  | step {s t:Str}:RchS nx I s→t∈nx s→RchS nx I t
theorem RchS.mem {nx:Str→List Str} {I T:List Str} (d:∀ s,∀ t∈nx s,t∈T) {t:Str} (h:RchS nx I t):t∈I++T:=by
  cases h with
  | zero h=>exact List.mem_append_left _ h
  | step _ h=>exact List.mem_append_right _ (d _ _ h)
structure CI (nx:Str→List Str) (I K W:List Str):Prop where
  r0:∀ s∈I,s∈K
  sub:∀ s∈W,s∈K
  rch:∀ s∈K,RchS nx I s
  cls:∀ s∈K,s ∉ W→∀ t∈nx s,t∈K
structure CJ (nx:Str→List Str) (I:List Str) (k:Str) (j:Nat) (K W:List Str):Prop where
  r0:∀ s∈I,s∈K
  sub:∀ s∈W,s∈K
  rch:∀ s∈K,RchS nx I s
  hk:k∈K
  cls:∀ s∈K,s ∉ W→s≠k→∀ t∈nx s,t∈K
  dn:∀ t∈(nx k).take j,t∈K
theorem CI.init {nx:Str→List Str} {I K:List Str} (h:∀ n,n∈K↔n∈I):CI nx I K I :=
  ⟨fun s d=>(h s).2 d,fun s d=>(h s).2 d,fun s d=>.zero ((h s).1 d),fun s d e=>absurd ((h s).1 d) e⟩
theorem CI.pop {nx:Str→List Str} {I K W:List Str} {k:Str} (h:CI nx I K (k::W)):CJ nx I k 0 K W :=
  ⟨h.r0,fun s d=>h.sub s (List.mem_cons_of_mem _ d),h.rch,h.sub k List.mem_cons_self,fun s d e hk=>h.cls s d (by simp[e,hk]),by simp⟩
theorem CJ.skip {nx:Str→List Str} {I K W:List Str} {k t:Str} {j:Nat} (h:CJ nx I k j K W) (e:(nx k)[j]? = some t) (m:t∈K):CJ nx I k (j+1) K W :=
 ⟨h.r0,h.sub,h.rch,h.hk,h.cls,fun z d=>by
   rw[tk1 e,List.mem_append,List.mem_singleton]at d;rcases d with d|rfl
   · exact h.dn z d
   · exact m⟩
theorem CJ.take {nx:Str→List Str} {I K W y:List Str} {k t:Str} {j:Nat} (h:CJ nx I k j K W) (x:(nx k)[j]? = some t) (m:∀ n,n∈y↔n∈K∨n=t):CJ nx I k (j+1) y (W++[t]) :=
  ⟨fun s d=>(m s).2 (.inl (h.r0 s d)),fun s d=>(m s).2 (by rw[List.mem_append,List.mem_singleton]at d;exact d.imp (h.sub s) id),fun s d=>(m s).1 d |>.elim (h.rch s) (fun e=>e▸(h.rch k h.hk).step (List.mem_of_getElem? x)),(m k).2 (.inl h.hk),
   fun s d v hk z q=>by
    simp only[List.mem_append,List.mem_singleton,not_or]at v;exact (m z).2 (.inl (h.cls s (((m s).1 d).resolve_right v.2) v.1 hk z q)),
   fun z q=>by
    rw[tk1 x,List.mem_append,List.mem_singleton]at q;exact (m z).2 (q.imp (h.dn z) id)⟩
theorem CJ.done {nx:Str→List Str} {I K W:List Str} {k:Str} {j:Nat} (h:CJ nx I k j K W) (m:(nx k).length≤j):CI nx I K W :=
 ⟨h.r0,h.sub,h.rch,fun s q v t d=>by
   by_cases e:s=k
   · exact h.dn t (by rw[List.take_of_length_le m];exact e▸d)
   · exact h.cls s q v e t d⟩
theorem CI.fine {nx:Str→List Str} {I K:List Str} (h:CI nx I K []) (t:Str):t∈K↔RchS nx I t :=
  ⟨h.rch t,fun q=>by
    induction q with
    | zero hs=>exact h.r0 _ hs
    | step _ hm ih=>exact h.cls _ ih zj_ _ hm⟩
theorem jJ_ {nx:Str→List Str} {I T K:List Str} (e:∀ s,∀ t∈nx s,t∈T) (k:K.Nodup) (h:∀ s∈K,RchS nx I s):K.length≤I.length+T.length:=by
  have:=cO_ k (m:=I++T) fun s d=>(h s d).mem e
  rwa [List.length_append]at this
theorem fT_ {L:List (Str×Str)} {r:Str} {K:List Str} (e:K.Nodup) (h:∀ s∈K,RchS (lat L) [r] s):K.length≤L.length+1:=by
  have:=jJ_ (T:=L.map (·.2)) (fun s t d=>List.mem_map.2 ⟨_,bL_.1 d,rfl⟩) e h;simp only[List.length_cons,List.length_nil,List.length_map]at this;omega
def gc_ (l:List Ax):List (Str×Str):=l.flatMap fun x=>if x.kind=5 then [(x.roles.headD [],x.role)] else []
theorem ow_ {l:List Ax} {i:Nat} {x:Ax} (h:l[i]? = some x):gc_ (l.take (i+1))=gc_ (l.take i)++if x.kind=5 then [(x.roles.headD [],x.role)] else []:=by
  unfold gc_;rw[List.take_add_one,h,List.flatMap_append];simp
theorem gX_ (l:List Ax):(gc_ l).length≤l.length:=by
  induction l with
  | nil=>simp[gc_]
  | cons x l ih =>
    unfold gc_ at ih ⊢;rw[List.flatMap_cons,List.length_append,List.length_cons]
    split<;>simp only[List.length_cons,List.length_nil]<;>omega
def yh_ (l:List Ax) (r:Str) (X:List Str):Prop:=SrS X∧∀ t,t∈X↔RchS (lat (gc_ l)) [r] t
end Go.Vs
namespace Go.Sx
open Go
theorem pz_ {P:Program} {N:Nf} {fr:Fr} {H F:Hp} {Γ:List Fct} {ty:TypeId} {e:TypeId} {sz n:Nat} {sv:Value} {q:List Value} {Hr:Hp} {x:Operand} {t:TypeId} {k:Nat} {u:Value} (d:ORow e sz sv n q Hr) (y:H.Perm (Hr++F)) (A:∀ w,(isAgg t).run P w=.ok false w)
    (v:Fr.ev fr x=some (.pointer (some ⟨svB sv,svO sv+k,none⟩))) (m:q[k]? = some u):Yld P N fr H Γ (.load t x) ty u:=by
  cases d with
  | row h =>
    refine cC_ h y A ?_ m;rcases h.2 with⟨rfl,B,_⟩|⟨g,cap,cur,rfl,_⟩
    · rw[v];simp[svO]
    · rw[v];simp[svO]
  | @cut g k0 n cap pre q Hr hp' h =>
    refine cC_ (k:=k0*sz+k) h y A (by rw[v];rfl) ?_;rw[List.getElem?_append_right za_,hp',show k0*sz+k - k0*sz=k by omega];exact m
  | out=>simp at m
end Go.Sx
namespace Go.Proofs.YtpbnmnfdgckaiaaGreatDoor
open Go Go.Sx Go.Proofs
attribute [local irreducible] Code.wp wpList wpAnyH
open Go.Vs
theorem oD_ {s:StM} {k:Str} (h:k ∉ s.ks):(s.add k).ks=s.ks++[k]:=by unfold StM.add;rw[dif_neg h]
theorem tY_ (r:Str) (sb:Nat) (L:List (Str×Str)) (adr:Str→Option Addr×Nat) (hL:L.length≤100000):Tri Tryz.prog 51 #[str r,.map (some sb)] [] [mlF Tryz.prog 9 str af_ sb L adr] (fun y:{y:Nat×StM // ∀ t,t∈y.2.ks↔RchS (lat L) [r] t}=>.map (some y.1.1)) (fun y=>[(y.1.1,.map y.1.2.es y.1.2.c)]) (fun _=>[]):=by
 refine i_ Tryz.func51 rfl rfl Tryz.ntmps51 rfl fun v_1=>?_;refine Zz 7 ?_;refine aY_ rfl fun G=>Zz 1 ?_
 refine dM_ 0 StM.nil bo_ (.inl rfl) M_ rfl rfl rfl rfl (Zz 8 ?_);refine U_ l_ E_ av_ rfl rfl rfl rfl rfl rfl fun I=>Zz 4 ?_
 have S:ORow 9 1 (.slice (some ⟨I,0,none⟩) 1 1) (List.length [r]) (List.flatMap af_ [r]) [(I,.cells #[str r] 9 (0,0))]:=ORow.row (aw_.lit rfl (by simp[maxLen]));refine z_ (c_ d_) ?_;refine L_ (ι:={y:StM×List Str×Value×Hp // CI (lat L) [r] y.1.ks y.2.1∧ORow 9 1 y.2.2.1 (List.length y.2.1) (List.flatMap af_ y.2.1) y.2.2.2∧List.length y.2.1≤List.length y.1.ks}) (fun y=>[(1,.map (some sb)),(4,.map none),(5,.map (some G)),(6,y.1.2.2.1)]) (fun y=>((G,.map y.1.1.es y.1.1.c)::y.1.2.2.2)) (fun y=>[mlF Tryz.prog 9 str af_ sb L adr]) (fun y=>(List.length L+1) - List.length y.1.1.ks+List.length y.1.2.1) ⟨((StM.add StM.nil r),[r],(.slice (some ⟨I,0,none⟩) 1 1),[(I,.cells #[str r] 9 (0,0))]),CI.init fun n=>by rw[StM.mem];simp[StM.nil],S,by dsimp only;rw[oD_ (by simp[StM.nil])];simp[StM.nil]⟩ zl zp zh ?_;rintro ⟨⟨s,W,svW,HW⟩,hC,T,O⟩;dsimp only at hC T O ⊢;have hsl:=fT_ s.hE.nd hC.rch;refine Zz 4 ?_;refine e_ (py_ T l_ rfl) rfl ?_;refine Zi 0 (fun V=>?_) fun V=>?_
 ·refine Zz 12 ?_
  obtain rfl:W=[]:=List.eq_nil_of_length_eq_zero za_;exact ae_ Tryz.results51 ⟨(G,s),fun t=>hC.fine t⟩ rfl d_ zt
 obtain⟨k,W,rfl⟩:∃ k N,W=k::N:=by cases W with|nil=>simp at*| cons k N=>exact⟨k,N,rfl⟩
 refine Zz 9 ?_;refine e_ (sj_ T l_ E_ rfl rfl ze_ zU_) rfl ?_;refine e_ (pz_ (k:=(0:Int).toNat*1) T C_ W_ rfl rfl) rfl (Zz 6 ?_);refine qi_ (i:=1) (kl:=.i64) T l_ E_ rfl rfl zU_ rfl fun J Z=>?_;have U:ORow 9 1 J (List.length W) (List.flatMap af_ W) HW:=by simpa [af_] using Z
 have a0:=hC.pop;have hlk:=dx_ L k;refine Zz 7 ?_;refine e_ (bC_ (k:=k) (adr:=adr) bo_ bx_ bi_ rfl rfl zf) rfl (Zz 5 ?_);refine L_ (ι:={y:Nat×StM×List Str×Value×Hp // y.1≤List.length (lat L k)∧CJ (lat L) [r] k y.1 y.2.1.ks y.2.2.1∧ORow 9 1 y.2.2.2.1 (List.length y.2.2.1) (List.flatMap af_ y.2.2.1) y.2.2.2.2∧List.length y.2.1.ks+List.length W=List.length s.ks+List.length y.2.2.1}) (fun y=>[(1,.map (some sb)),(4,.map none),(5,.map (some G)),(6,y.1.2.2.2.1),(25,.slice (Prod.fst (adr k)) (List.length (lat L k)) (Prod.snd (adr k))),(26,.int .i64 (List.length (lat L k):Int)),(27,.int .i64 (y.1.1:Int))]) (fun y=>((G,.map y.1.2.1.es y.1.2.1.c)::y.1.2.2.2.2)) (fun y=>[mlF Tryz.prog 9 str af_ sb L adr]) (fun y=>List.length (lat L k) - y.1.1) ⟨((0:Nat),s,W,J,HW),by simp,a0,U,rfl⟩ zl zp zh ?_;rintro ⟨⟨j,x,E,F,K⟩,a1,P,C,X⟩;dsimp only at a1 P C X ⊢;have hsl_1:=fT_ x.hE.nd P.rch;have hwk_1:List.length W+1≤List.length s.ks:=by simpa using O
 refine Zi 2 (fun R=>?_) fun R=>?_
 ·refine Zz 6 ?_
  exact x_ ⟨(x,E,F,K),P.done za_,C,by dsimp only;simp only[List.length_cons]at O;omega⟩ (by dsimp only;have:=fT_ x.hE.nd P.rch;simp only[List.length_cons]at *;omega) zl (j_ d_ ac_) zh
 have B:j<List.length (lat L k):=by omega
 obtain⟨d,A⟩:∃ e_1,(lat L k)[j]? = some e_1:=⟨_,List.getElem?_eq_getElem B⟩;have hmt_1:d∈(lat L k):=List.mem_of_getElem? A;refine Zz 10 ?_;refine e_ (Q_ l_ E_ rfl rfl (fun v _ h=>as_ (n:=1) aq_ ze_ (by exact (aV_ h.1 k)) A) za_ zh_) rfl ?_;refine e_ (bl_ (ad:=(Prod.fst (adr k))) W_ rfl (fun v _ h=>by exact (aV_ h.1 k)) (o_ aq_ A 0 _ rfl)) rfl (Zz 7 ?_);refine B_ (ar_ (bs_ (k:=d) (q:=x.ks) bo_ M_ az_ rfl rfl x.hE (fun v h _=>(h.own _ (List.mem_of_getElem? (i:=0) rfl)).1)) (show _=Value.bool (decide (d∈x.ks)) from congrArg Value.bool (decide_eq_decide.2 Iff.rfl))) rfl fun r_1 e=>e_ (ax_ rfl) rfl (Zz 2 ?_)
 cases r_1
 ·replace e:=zdf e
  refine Zz 5 ?_;refine dM_ 0 x bo_ (.inr rfl) M_ rfl rfl rfl rfl (Zz 5 ?_);refine U_ l_ E_ av_ rfl rfl rfl rfl rfl rfl fun b_3=>?_;refine cM_ (List.flatMap af_ [d]) d_ rfl ?_;refine lo_ (n:=List.length E) (m:=List.length [d]) (news:=List.flatMap af_ [d]) cB_ C rfl rfl zj_ zj_ C_ rfl zf (fun u hu=>aA_ ch_ hu) zaw_ zy_ rfl fun H M Y=>?_;have Q:ORow 9 1 H (List.length (E++[d])) (List.flatMap af_ (E++[d])) M:=by rw[List.length_append,List.flatMap_append];exact Y
  refine Zz 3 ?_;refine z_ (bb_ aP_) (Zz 5 ?_);exact x_ ⟨(j+1,(StM.add x d),(E++[d]),H,M),B,P.take A fun n=>StM.mem,Q,(by rw[oD_ zaf_,List.length_append,List.length_append];simp only[List.length_cons,List.length_nil];omega)⟩ zb_ zl zp (fun _ _ h=>h.2)
 replace e:=zdt e;refine Zz 8 ?_;exact x_ ⟨(j+1,x,E,F,K),B,P.skip A zaf_,C,X⟩ zb_ zl zp zh
theorem rX_ (v:List Ax) (lad:Option Addr) (lcap:Nat) (G:∀ x∈v,x.ok) (I:∀ x∈v,x.check=0) (J:v.length≤20) (nm:List Str) (rad:Option Addr) (k:Nat) (A:∀ q∈nm,aM_ q=true∧q.length≤140737488351232) (K:nm.length≤100):Tri Tryz.prog 48 #[.slice lad (List.length v) lcap,.slice rad (List.length nm) k] [] [eg_ lad v,cj_,ah_ rad (List.flatMap af_ nm)] (fun _:Unit=>.int .i64 0) (fun _=>[]) (fun _=>[]):=by
 refine i_ Tryz.func48 rfl rfl Tryz.ntmps48 rfl fun H=>?_;refine Zz 9 ?_;refine g_ (nT_ v lad lcap G I za_) rfl m_ zf rfl fun _=>Zz 6 ?_
 refine e_ (ar_ (bU_ rfl rfl) (show _=Value.bool false from congrArg Value.bool ze_)) rfl (Zz 14 ?_);refine L_ (ι:={y:Nat // y≤List.length nm}) (fun y=>[(4,.int .i64 0),(14,.slice rad (List.length nm) k),(15,.int .i64 (List.length nm:Int)),(16,.int .i64 (y.1:Int))]) (fun y=>([])) (fun y=>[eg_ lad v,cj_,ah_ rad (List.flatMap af_ nm)]) (fun y=>List.length nm - y.1) ⟨(0:Nat),by simp⟩ zl m_ zh ?_;rintro ⟨i,C⟩;dsimp only at C ⊢;refine Zi 2 (fun E=>?_) fun E=>?_
 ·refine Zz 12 ?_
  exact ae_ Tryz.results48 () rfl m_ zt
 have h:i<List.length nm:=by omega
 obtain⟨m,B⟩:∃ F,nm[i]? = some F:=⟨_,List.getElem?_eq_getElem h⟩;have d:m∈nm:=List.mem_of_getElem? B;refine Zz 18 ?_;refine g_ (gw_ _ (A m d).2) rfl m_ zt rfl fun _=>Zi 6 (fun e=>?_) fun e=>?_
 ·refine Zz 10 ?_
  exact x_ ⟨i+1,h⟩ zb_ zl m_ zh
 exfalso;rw[if_pos (A m d).1]at e;exact e rfl
theorem xB_ {l:List Str} {r:Str} (h:l[0]? = some r):l.headD []=r:=by
  cases l with
  | nil=>simp at h
  | cons a l=>simpa using h
theorem lh_ {G:Prop} (h:G:=by
 refine Zz 3 ?_;refine s_ 15 rfl zk (hp_ (k:=B) (dd:=(Ax.role e)) bo_ F (by rw[dZ_];exact H) (.inr rfl) bx_ rfl rfl rfl (dX_ (j_ (f_ (c_ d_)) (A_ t_ (c_ C_)))) fun P G=>?_);refine Zz 5 ?_;refine z_ (S_ (f_ d_) (bb_ aP_)) (Zz 5 ?_);exact x_ ⟨(i+1,P),E,(by rw[ow_ K,if_pos J,xB_ m];exact G)⟩ zb_ zl zp zh):G:=h
theorem ps_ (A:List Ax) (lad:Option Addr) (lcap:Nat) (O:∀ x∈A,x.ok) (hC:∀ x∈A,x.check=0) (hll:A.length≤20) (r:Str) (hr:aM_ r=true) (hrl:r.length≤140737488351232):Tri Tryz.prog 17 #[.slice lad (List.length A) lcap,str r] [] [eg_ lad A,cj_] (fun y:{y:List Str×Option Addr×Nat // yh_ A r y.1∧rkS y}=>.tuple #[.slice y.1.2.1 y.1.1.length y.1.2.2,.int .i64 0]) (fun _=>[]) (fun y=>[ah_ y.1.2.1 (y.1.1.flatMap af_)]):=by
 refine i_ Tryz.func17 rfl rfl Tryz.ntmps17 rfl fun v_1=>?_;refine Zz 11 ?_;refine U_ l_ E_ av_ rfl rfl rfl rfl rfl rfl fun S=>?_;refine cM_ (List.flatMap af_ [r]) d_ rfl ?_;refine g_ (rX_ A lad lcap O hC hll [r] (some ⟨S,0,none⟩) 1 (fun q hq=>by rw[List.mem_singleton.1 hq];exact⟨hr,hrl⟩) zj_) rfl m_ zf rfl fun _=>?_;refine Zz 6 ?_;refine e_ (ar_ (bU_ rfl rfl) (show _=Value.bool false from congrArg Value.bool ze_)) rfl (Zz 7 ?_);refine aY_ rfl fun L=>Zz 12 ?_
 refine L_ (ι:={y:Nat×Hp // y.1≤List.length A∧cS_ str af_ 9 1 (gc_ (List.take y.1 A)) L y.2}) (fun y=>[(1,str r),(4,.slice none 0 0),(5,.int .i64 0),(7,.map (some L)),(18,.slice lad (List.length A) lcap),(19,.int .i64 (List.length A:Int)),(20,.int .i64 (y.1.1:Int))]) (fun y=>(y.1.2)) (fun y=>[ah_ (some ⟨S,0,none⟩) (List.flatMap af_ [r]),eg_ lad A,cj_]) (fun y=>List.length A - y.1.1) ⟨((0:Nat),[(L,.map #[] 0)]),by simp,cS_.nil _ _⟩ zl ac_ zh ?_;rintro ⟨⟨i,HM⟩,Z,V⟩;dsimp only at Z V ⊢;refine Zi 2 (fun I=>?_) fun I=>?_
 ·refine Zz 7 ?_
  rw[List.take_of_length_le za_]at V;refine mN_ bo_ V ac_ fun adr=>?_;have hbl:=gX_ A;refine Zz 3 ?_;refine g_ (tY_ r L (gc_ A) adr (by have:=gX_ A;omega)) rfl m_ zf rfl fun⟨⟨cb,cs⟩,N⟩=>?_;dsimp only;dsimp only at N;refine g_ (iH_ cb) rfl m_ zt rfl fun by_=>?_;have X:List.length cs.ks≤100000000:=by have:=fT_ cs.hE.nd (fun s hs=>(N s).1 hs);omega
  refine g_ (eY_ 96 [zp_ by_ 0] [(by_,.cells #[.map (some cb)] 33 (0,0)),(cb,.map cs.es cs.c)] cs.ks cs.hE.nd X (iI_ cb by_ cs.c cs.es cs.ks cs.hE.ke cs.hB X)) rfl zp zt rfl fun⟨⟨W,R⟩,a0,T,Y⟩=>?_;dsimp only;refine Zz 5 ?_;exact kv_ Tryz.results17 ⟨(aS_ cs.ks,W,R),⟨gJ_ cs.hE.nd,fun t=>by rw[List.mem_mergeSort];exact N t⟩,a0,T,Y⟩ rfl rfl rfl m_ zf
 obtain⟨E,e,K,d⟩:=zge (show i<List.length A by omega);refine Zz 12 ?_;refine G_ cE_ rfl fun b_3=>u_ 0 br_ rfl rfl rfl rfl rfl rfl (Zi 6 (fun C=>?_) fun C=>?_)
 ·refine Zz 10 ?_
  exact x_ ⟨(i+1,HM),E,(by rw[ow_ K,if_neg C,List.append_nil];exact V)⟩ zb_ zl C_ zh
 have J:=C;have hon:=(Ax.good_of (hC e d)).one J;obtain⟨B,m⟩:∃ B,(Ax.roles e)[0]? = some B:=⟨_,List.getElem?_eq_getElem za_⟩;have hrc:=(O e d).cap;have hrln:=(O e d).len;refine Zz 3 ?_;have hbb_1:=(show (lat (gc_ (List.take i A)) B).length≤400000000 from Nat.le_trans (dx_ _ _) (by have:=gX_ (List.take i A);have:=List.length_take_le i A;omega));refine lP_ bo_ B V C_ fun es_1 ce_1 ve_1 Hk_1 Hx_1 M F=>?_;refine z_ (S_ d_ (bb_ (f_ aP_))) ?_;refine ag_ ((b_3,.cells (Ax.cells e).toArray 42 (0,0))::[]) zk ?_;refine J_ 4 [0,1,2,3,4,5,6,7,8,9,11,12] zk zs (Zz 3 ?_);refine N_ rfl (Q_ l_ E_ rfl rfl (fun v _ h=>as_ (n:=1) aq_ ze_ (by exact (h.2.1.2 e d).2.2) m) za_ zh_) rfl ?_;refine N_ rfl (bl_ (ad:=(Ax.ad e)) W_ rfl (fun v _ h=>by exact (h.2.1.2 e d).2.2) (o_ aq_ m 0 _ rfl)) rfl (Zz 3 ?_);refine N_ rfl (Q_ l_ E_ rfl rfl (fun v _ h=>as_ (n:=1) aq_ ze_ (by exact (h.2.1.2 e d).2.2) m) za_ zh_) rfl ?_;refine N_ rfl (bl_ (ad:=(Ax.ad e)) W_ rfl (fun v _ h=>by exact (h.2.1.2 e d).2.2) (o_ aq_ m 0 _ rfl)) rfl (Zz 3 ?_);refine gx_ 10 13 rfl rfl zk ?_ ?_
 ·refine e_ (ev_ (k:=B) bo_ F bx_ bi_ rfl rfl 0 rfl) rfl (Zz 3 ?_)
  refine s_ 13 rfl zk (U_ l_ E_ av_ rfl rfl rfl rfl rfl rfl fun a1=>Zz 3 ?_);refine s_ 14 rfl zk (an_ (news:=List.flatMap af_ [(Ax.role e)]) cB_ M rfl rfl zp rfl (aO_ 0 rfl) (fun u hu=>aA_ ch_ hu) zc_ zf_ rfl fun U Q I=>?_);have H:=zsa I;exact lh_
 refine U_ l_ E_ av_ rfl rfl rfl rfl rfl rfl fun a1=>Zz 3 ?_
 refine s_ 10 rfl zk (e_ (ev_ (k:=B) bo_ F bx_ bi_ rfl rfl 1 rfl) rfl (Zz 3 ?_));refine s_ 14 rfl zk (an_ (news:=List.flatMap af_ [(Ax.role e)]) cB_ M rfl rfl zp rfl (aO_ 0 rfl) (fun u hu=>aA_ ch_ hu) zc_ zf_ rfl fun U Q C=>?_);have H:=zsa C;exact lh_
end Go.Proofs.YtpbnmnfdgckaiaaGreatDoor
namespace Go.Proofs.YtpbnmnfdgckaiaaGreatDoor
open Go Go.Sx Go.Proofs
attribute [local irreducible] Code.wp wpList wpAnyH
open Go.Vs Go.Shelf Go.RowKit
theorem uf_ {P:Program} {N:Nf} {fr:Fr} {H:Hp} {Γ:List Fct} {t q ty:TypeId} {x y:Operand} {m n:List UInt8} (k:Fr.ev fr x=some (str m)) (h:Fr.ev fr y=some (str n)):Yld P N fr H Γ (.binOp .gtr t x y q) ty (.bool (decide (n<m))) :=
  fun a v d _ _ _ _ _=>by
    have e:decide (n<m)=!decide (m≤n):=by rw[Bool.eq_iff_iff];simp[List.not_le]
    rw[e,← xR_];simp[execOp,d.ev k,d.ev h,str,eqGuard,binOp,Op.stringOp]
theorem kF_ (x y:Str):Fn0 Tryz.prog 138 #[str x,str y] (.int .i64 (Lib.compareBytes x y)):=by
 refine i_ Tryz.func138 rfl rfl Tryz.ntmps138 rfl fun k=>?_;refine Zz 8 ?_;refine g_ (oT_ x) rfl m_ zt rfl fun _=>Zz 6 ?_
 refine g_ (oT_ y) rfl m_ zt rfl fun _=>Zi 26 (fun e=>?_) fun e=>?_
 ·refine Zz 10 ?_
  refine B_ (uf_ rfl rfl) rfl fun h d=>Zz 2 ?_
  cases h
  ·replace d:=zdf d
   refine Zz 9 ?_;exact ae_ Tryz.results138 () (ce_ rfl (by rw[po_,if_neg e,if_neg d])) m_ zt
  replace d:=zdt d;refine Zz 7 ?_;exact ae_ Tryz.results138 () (ce_ rfl (by rw[po_,if_neg e,if_pos d])) m_ zt
 refine Zz 9 ?_;exact ae_ Tryz.results138 () (ce_ rfl (by rw[po_,if_pos e])) m_ zt
def hpB (m q:Str):Bool:=decide ((q.length:Int)≤(m.length:Int))&&(m.take q.length==q)
def nls (s:Str):Bool:=!(s.take 1==[123])
theorem xA_ (s:Str):(!(hpB s [123]))=nls s:=by
  unfold hpB nls;cases s with
  | nil=>rfl
  | cons a s=>simp;intro h;omega
theorem tQ_ (m q:Str):Fn0 Tryz.prog 88 #[str m,str q] (.bool (hpB m q)):=by
 refine i_ Tryz.func88 rfl rfl Tryz.ntmps88 rfl fun k=>?_;refine Zz 8 ?_;refine e_ (cG_ V_ rfl) rfl (Zz 1 ?_);refine e_ (cG_ V_ rfl) rfl ?_;refine Zi 0 (fun e=>?_) fun e=>?_
 ·refine Zz 12 ?_
  exact ae_ Tryz.results88 () (n_ rfl (by unfold hpB;simp[*])) m_ zt
 refine Zz 6 ?_;refine e_ (cG_ V_ rfl) rfl (aR_ rfl rfl (e_ (ar_ (eQ_ (i:=0) (j:=q.length) (kl:=.i64) (kh:=.i64) V_ rfl rfl rfl (Nat.zero_le _) za_) (show _=str (List.take (List.length q) m) by simp)) rfl (Zz 3 ?_)));refine B_ (cT_ rfl rfl) rfl fun h d=>Zz 5 ?_
 exact ae_ Tryz.results88 () (n_ rfl (by rw[← d];unfold hpB;simp[*])) m_ zt
theorem tP_ (m q:Str):Fn0 Tryz.prog 42 #[str m,str q] (.bool (hpB m q)):=by
  refine i_ Tryz.func42 rfl rfl Tryz.ntmps42 rfl fun d=>?_;refine Zz 9 ?_;refine g_ (tQ_ m q) rfl m_ zt rfl fun _=>Zz 4 ?_
  exact ae_ Tryz.results42 () rfl m_ zt
theorem bM_ (s:Str):Fn0 Tryz.prog 11 #[str s] (.bool (nls s)):=by
  refine i_ Tryz.func11 rfl rfl Tryz.ntmps11 rfl fun d=>?_;refine Zz 8 ?_;refine g_ (tP_ s [123]) rfl m_ zt rfl fun _=>e_ (ax_ rfl) rfl (Zz 4 ?_)
  exact ae_ Tryz.results11 () (n_ rfl (xA_ s)) m_ zt
theorem vZ_ (x y:Fc):Fn0 Tryz.prog 82 #[Fc.val x,Fc.val y] (.int .i64 (hC_ x y)):=by
  refine i_ Tryz.func82 rfl rfl Tryz.ntmps82 rfl fun h=>?_;refine Zz 2 ?_;refine aa_ rfl rfl fun k=>aa_ rfl rfl fun e=>Zz 5 ?_
  refine J_ 9 [0,1,2,3,5,6,7,8,10,11,12,13,15,16,17,18,20,21,22,23,25,26,27,28] zk zs (Zz 25 ?_);refine s_ 4 rfl zk (g_ (gV_ x.kind y.kind) rfl m_ zt rfl fun _=>Zz 3 ?_);refine s_ 9 rfl zk (g_ (kF_ x.a y.a) rfl m_ zt rfl fun _=>Zz 3 ?_);refine s_ 14 rfl zk (g_ (kF_ x.b y.b) rfl m_ zt rfl fun _=>Zz 3 ?_);refine s_ 19 rfl zk (g_ (kF_ x.r y.r) rfl m_ zt rfl fun _=>Zz 3 ?_);refine s_ 24 rfl zk (g_ (gV_ x.lo y.lo) rfl m_ zt rfl fun _=>Zz 3 ?_);refine s_ 29 rfl zk (g_ (gV_ x.hi y.hi) rfl m_ zt rfl fun _=>Zz 3 ?_);refine s_ 30 rfl zk (U_ at_ ak_ kk_ rfl rfl rfl rfl rfl rfl fun d=>?_);refine cM_ (List.flatMap fz_ [(Lib.compareInt x.kind y.kind),(Lib.compareBytes x.a y.a),(Lib.compareBytes x.b y.b),(Lib.compareBytes x.r y.r),(Lib.compareInt x.lo y.lo),(Lib.compareInt x.hi y.hi)]) d_ rfl ?_;refine Zz 3 ?_;refine s_ 31 rfl zk (g_ (yl_ [(Lib.compareInt x.kind y.kind),(Lib.compareBytes x.a y.a),(Lib.compareBytes x.b y.b),(Lib.compareBytes x.r y.r),(Lib.compareInt x.lo y.lo),(Lib.compareInt x.hi y.hi)] (some ⟨d,0,none⟩) 6 zj_) rfl m_ zf rfl fun _=>Zz 3 ?_);refine J_ 0 [32] zk zs (Zz 5 ?_);exact ae_ Tryz.results82 () (ce_ rfl (by rfl)) m_ zt
theorem wa_ (l:List Fc) (ad:Option Addr) (cap:Nat) (G:l.length≤cap) (hl:l.length≤1000000000000):Tri Tryz.prog 136 #[.slice ad (List.length l) cap] [] [ah_ ad (List.flatMap Fc.cells l)] (fun y:{y:Value×Hp // zR 36 6 Fc.cells y.1 l y.2}=>y.1.1) (fun y=>y.1.2) (fun _=>[]):=by
 refine i_ Tryz.func136 rfl rfl Tryz.ntmps136 rfl fun F=>?_;refine Zz 9 ?_;refine B_ (mb_ Tryz.underlying26 rfl rfl) rfl fun B d=>Zz 2 ?_
 cases B
 ·replace d:=zdf d
  refine Zz 5 ?_;refine nZ_ w_ y_ rfl fun A=>z_ d_ (Zz 1 ?_)
  refine fr_ (news:=List.flatMap Fc.cells l) eb_ (pM_ A 36 6) rfl rfl (fun q=>absurd q d) G ac_ (by rw[dr_ Fc.cells 6 Fc.cells_len]) zf (fun u E=>aA_ Fc.cells_one E) zm_ za_ rfl fun e k d=>?_;refine z_ List.perm_append_comm ?_;have m:aw_ 36 6 e (List.length (([]:List Fc)++l)) (List.flatMap Fc.cells (([]:List Fc)++l)) k:=by rw[List.length_append,List.flatMap_append];exact d
  refine Zz 4 ?_;exact ae_ Tryz.results136 ⟨(e,k),by simpa using m⟩ rfl ac_ zt
 replace d:=zdt d;refine Zz 7 ?_;refine vd_ (p:=List.flatMap Fc.cells l=[]) (fun v _ h=>by have q:=h.1;subst d;exact pS_ q) fun C=>?_;have x:l=[]:=List.eq_nil_of_length_eq_zero (by have:=congrArg List.length C;rw[dr_ Fc.cells 6 Fc.cells_len,List.length_nil]at this;omega);exact ae_ Tryz.results136 ⟨(.slice none 0 0,[]),by subst x;exact aw_.nil _ _⟩ rfl m_ zt
theorem vY_ (d off size:Nat) (w:World):CmpLays Tryz.prog 82 #[] Fc.cells 6 hC_ d off size w:=fun m os v _ x y=>by
  have h:=(vZ_ x y).run ⟨fun _=>False,sortWorldK Fc.cells 6 w d off m v os,False⟩ ⟨by simp,by simp,fun _ h=>h.elim⟩ trivial;refine h.mono ?_;rintro e w' ⟨_,C,rfl,rfl,_,_,A⟩;obtain⟨q,k,B⟩:=hZ_ A (fun h=>h);exact⟨rfl,q,k,B⟩
theorem wM_ {sv:Value} {k:List Fc} {Hr:Hp} (h:aw_ 36 6 sv k.length (k.flatMap Fc.cells) Hr) (hl:k.length≤1000000000000) :
    Tri Tryz.prog 78 #[sv,.func (.func 82) #[] #[]] Hr [] (fun _:{y:Hp // aw_ 36 6 sv (eO_ k).length ((eO_ k).flatMap Fc.cells) y}=>.tuple #[]) (fun y=>y.1) (fun _=>[]):=by
  rcases h.2 with⟨rfl,L,rfl⟩|⟨g,cap,cur,rfl,rfl,J,K,E,I⟩
  · obtain rfl:k=[]:=List.eq_nil_of_length_eq_zero L
    have T:=cP_ (P:=Tryz.prog) (H:=[]) (Γ:=[]) (callable Tryz.func78 rfl rfl) (fun v _ _=>(AnyF.slices_SortFunc_none Tryz.sortFc none 0 (.func (.func 82) #[] #[]) v.w).mono zk_);exact⟨T.callable,fun v a b=>(T.run v a b).mono zX_⟩
  · have O:(k.flatMap Fc.cells).length=k.length*6:=dr_ Fc.cells 6 Fc.cells_len k
    have T:=lj_ (P:=Tryz.prog) (Γ:=[]) (r:=.tuple #[]) (g:=g) (cur:=cur) (T:=36) (d:=((eO_ k).flatMap Fc.cells).toArray) (f:=78) (args:=#[.slice (some ⟨g,0,none⟩) k.length cap,.func (.func 82) #[] #[]]) (callable Tryz.func78 rfl rfl) (fun v M=>by
      have Q:=AnyQ.slices_SortFunc_total Tryz.sortFc 6 bp_ y_ Fc.cells Fc.cells_len (fun x u N=>List.all_eq_true.1 x.cells_one u N) hC_ wB_ 82 #[] g 0 cap k.toArray v.w (fun args w=>(callable Tryz.func82 rfl rfl) args w) (vY_ g 0 _ v.w) zav_ (Array.getElem?_eq_some_iff.1 (M.own _ List.mem_cons_self).1).1 zn_ totF;refine Q.mono ?_;rintro e w' ⟨rfl,n,os,rfl⟩;refine⟨rfl,n,os,?_⟩;unfold sortWorldK Sort.putRowK;rw[show ((k.toArray.toList.mergeSort fun x y=>!(ltOf hC_) y x))=eO_ k from rfl,hx_])
    refine⟨T.callable,fun v a b=>(T.run v a b).mono ?_⟩;rintro e w' ⟨x,G,m,q,C,A,B⟩;have F:((eO_ k).flatMap Fc.cells).length=k.length*6:=by rw[dr_ Fc.cells 6 Fc.cells_len,dH_]
    refine⟨⟨_,by rw[F,dH_],.inr ⟨g,cap,_,by rw[dH_],rfl,by rw[dH_];exact J,K,by rw[nV_];exact E,?_⟩⟩,G,m,q,C,A,B⟩;have:=nU_ (cur:=cur) (d:=(eO_ k).flatMap Fc.cells) (by rw[F,E];omega);rw[F]at this;rw[dH_];exact this
theorem rV_ (e:List Fc) (sv:Value) (Hr:Hp) (hr:zR 36 6 Fc.cells sv e Hr) (hl:e.length≤1000000000000):Tri Tryz.prog 137 #[sv] Hr [] (fun y:{y:Value×Hp // zR 36 6 Fc.cells y.1 (cpL (fun x w:Fc=>decide (x=w)) e) y.2}=>y.1.1) (fun y=>y.1.2) (fun _=>[]):=by
 refine i_ Tryz.func137 rfl rfl Tryz.ntmps137 rfl fun v_1=>?_;refine Zz 9 ?_;refine e_ (dF_ hr w_ rfl) rfl ?_;refine Zi 0 (fun J=>?_) fun J=>?_
 ·refine Zz 12 ?_
  refine L_ (ι:={y:Nat×Value×Hp // y.1+1≤List.length e∧cpL (fun x w:Fc=>decide (x=w)) (List.take (y.1+1) e)=List.take (y.1+1) e∧zR 36 6 Fc.cells y.2.1 e y.2.2}) (fun y=>[(0,y.1.2.1),(3,.int .i64 ((y.1.1+1:Nat):Int))]) (fun y=>(y.1.2.2)) (fun y=>[]) (fun y=>List.length e - y.1.1) ⟨((0:Nat),sv,Hr),za_,(by obtain⟨t_1,tl,rfl⟩:=List.exists_cons_of_length_pos (show 0<List.length e by omega);rfl),hr⟩ zl ac_ zt ?_;rintro ⟨⟨k,v,L⟩,hk,O,d⟩;dsimp only at hk O d ⊢;refine Zz 5 ?_;refine e_ (dF_ d w_ rfl) rfl ?_;refine Zi 0 (fun W=>?_) fun W=>?_
  ·refine Zz 12 ?_
   have m:cpL (fun x w:Fc=>decide (x=w)) e=e:=(by first|exact or_ za_|(have q:=O;rw[List.take_of_length_le za_]at q;exact q));exact ae_ Tryz.results137 ⟨(v,L),by rw[m];exact d⟩ rfl ac_ zt
  refine Zz 8 ?_;have I:(k+1:Nat)<List.length e:=by omega
  obtain⟨z_1,G⟩:∃ m,e[(k+1:Nat)]? = some m:=⟨_,List.getElem?_eq_getElem I⟩;have hmz_1:z_1∈e:=List.mem_of_getElem? G;have R:k<List.length e:=by omega
  obtain⟨w_1,F⟩:∃ m,e[k]? = some m:=⟨_,List.getElem?_eq_getElem R⟩;have hmw_1:w_1∈e:=List.mem_of_getElem? F;refine Zz 1 ?_;refine J_ 0 [0,1,2,3,4,5,6,7,8,9] zk zs (Zz 2 ?_);refine N_ rfl (bE_ d w_ y_ rfl rfl za_ za_) rfl (N_ rfl (eT_ d ac_ bp_ y_ rfl (Fc.cells_len _) ze_ (o_ Fc.cells_len G)) rfl (Zz 2 ?_));refine N_ rfl (ar_ (bc_ rfl rfl rfl (ck_ za_ za_)) (show _=Value.int .i64 (k:Int) from congrArg _ za_)) rfl (N_ rfl (bE_ d w_ y_ rfl rfl za_ za_) rfl (N_ rfl (eT_ d ac_ bp_ y_ rfl (Fc.cells_len _) ze_ (o_ Fc.cells_len F)) rfl (fl_ rfl (ew_ rfl rfl) rfl fun r_1 B=>Zz 3 ?_)));cases r_1
  ·replace B:=zdf B
   refine Zz 5 ?_;refine e_ (ar_ (bc_ rfl rfl rfl (ck_ za_ za_)) (show _=Value.int .i64 ((k+1+1:Nat):Int) from congrArg _ za_)) rfl (Zz 3 ?_);exact x_ ⟨(k+1,v,L),(by have:=I;omega),(vT_ O F G (by simpa using B)),d⟩ zb_ zl ac_ zt
  replace B:=zdt B;refine Zz 5 ?_;refine e_ (px_ (k:=(k+1:Nat)) d w_ y_ rfl rfl za_) rfl (Zz 10 ?_);refine L_ (ι:={y:List Fc×Nat×Nat×Value×Hp // CmI (fun x w:Fc=>decide (x=w)) e y.1 y.2.1 (k+1+y.2.2.1+1)∧zR 36 6 Fc.cells y.2.2.2.1 y.1 y.2.2.2.2}) (fun y=>[(0,y.1.2.2.2.1),(3,.int .i64 (y.1.2.1:Int)),(4,svT y.1.2.2.2.1 (List.length e) (k+1) 6),(5,.int .i64 ((y.1.2.2.1+1:Nat):Int))]) (fun y=>(y.1.2.2.2.2)) (fun y=>[]) (fun y=>List.length e - y.1.2.2.1) ⟨(e,(k+1),(0:Nat),v,L),(CmI.none O F G (by simpa using B)),d⟩ zl ac_ zt ?_;rintro ⟨⟨M,C,h,v,L⟩,N,d⟩;dsimp only at N d ⊢;have hMl:=N.len;have hpl:=N.pl;have hkp:=N.kp;refine Zz 5 ?_;refine e_ (tb_ w_ rfl) rfl ?_;refine Zi 0 (fun a0=>?_) fun a0=>?_
  ·refine Zz 9 ?_
   refine e_ (px_ (k:=C) d w_ y_ rfl rfl za_) rfl (rA_ (k:=C) d ac_ w_ X_ rfl rfl ze_ rfl za_ fun a1 zs_1 hz_2 Z=>z_ dO_ (Zz 6 ?_));obtain⟨V,E,A⟩:=cutRow (P:=Tryz.prog) (k:=C) Z za_ za_;refine e_ (A w_ y_ rfl rfl) rfl (Zz 4 ?_);have Y:CmI (fun x w:Fc=>decide (x=w)) e M C (List.length e):=by have q:=N;rw[show k+1+h+1=List.length e by omega]at q;exact q
   have a4:=Y.done;have T:(List.take C M).length=C:=by rw[List.length_take];omega
   exact ae_ Tryz.results137 ⟨(V,a1),by show aw_ 36 6 _ _ _ _;rw[← a4,T,← pc_ Fc.cells 6 Fc.cells_len];have q:=E;rw[List.take_append_of_le_length (by rw[List.length_take,dr_ Fc.cells 6 Fc.cells_len];omega),List.take_take,Nat.min_self]at q;exact q⟩ rfl ac_ zt
  refine Zz 8 ?_;obtain⟨hlx_1,x_1,K,a6⟩:=zge (show (k+1+h:Nat)<List.length M by omega);have S:(k+1+(h+1):Nat)<List.length M:=by omega
  obtain⟨H,A⟩:∃ m,M[(k+1+(h+1):Nat)]? = some m:=⟨_,List.getElem?_eq_getElem S⟩;have a8:H∈M:=List.mem_of_getElem? A;refine Zz 1 ?_;refine J_ 0 [0,1,2,3,4,5,6,7,8,9] zk zs (Zz 2 ?_);refine N_ rfl (ox_ (j:=(h+1:Nat)) w_ y_ rfl rfl za_) rfl (N_ rfl (eT_ d ac_ bp_ y_ rfl (Fc.cells_len _) ze_ (o_ Fc.cells_len A)) rfl (Zz 2 ?_));refine N_ rfl (ar_ (bc_ rfl rfl rfl (ck_ za_ za_)) (show _=Value.int .i64 (h:Int) from congrArg _ za_)) rfl (N_ rfl (ox_ (j:=h) w_ y_ rfl rfl za_) rfl (N_ rfl (eT_ d ac_ bp_ y_ rfl (Fc.cells_len _) ze_ (o_ Fc.cells_len K)) rfl (fl_ rfl (gD_ rfl rfl) rfl fun a7 E=>Zz 3 ?_)));cases a7
  ·refine Zz 5 ?_
   refine e_ (ar_ (bc_ rfl rfl rfl (ck_ za_ za_)) (show _=Value.int .i64 ((h+1+1:Nat):Int) from congrArg _ za_)) rfl (Zz 3 ?_);exact x_ ⟨(M,C,h+1,v,L),(N.skip K A (by simpa using E)),d⟩ (by have:=N.pl;have:=N.kp;dsimp only;omega) zl ac_ zt
  refine Zz 2 ?_;have U:C<List.length M:=by omega
  obtain⟨a5,a3⟩:∃ m,M[C]? = some m:=⟨_,List.getElem?_eq_getElem U⟩;have hmo_1:a5∈M:=List.mem_of_getElem? a3;refine Zz 5 ?_;refine e_ (ox_ (j:=(h+1:Nat)) w_ y_ rfl rfl za_) rfl (e_ (eT_ d ac_ bp_ y_ rfl (Fc.cells_len _) ze_ (o_ Fc.cells_len A)) rfl (e_ (bE_ d w_ y_ rfl rfl za_ za_) rfl (rz_ (k:=C*6) (us:=Fc.cells H) d ac_ y_ rfl rfl za_ (Fc.cells_len _) ze_ (Fc.cells_one _) fun Q J=>?_)));have a2:=sJ_ Fc.cells 6 Fc.cells_len M C H za_;have X:aw_ 36 6 v (List.length (List.set M C H)) (List.flatMap Fc.cells (List.set M C H)) Q:=by rw[List.length_set,← a2];exact J
  refine z_ dO_ (Zz 4 ?_);refine e_ (ar_ (bc_ rfl rfl rfl (ck_ za_ za_)) (show _=Value.int .i64 ((C+1:Nat):Int) from congrArg _ za_)) rfl (Zz 5 ?_);refine e_ (ar_ (bc_ rfl rfl rfl (ck_ za_ za_)) (show _=Value.int .i64 ((h+1+1:Nat):Int) from congrArg _ za_)) rfl (Zz 3 ?_);exact x_ ⟨((List.set M C H),C+1,h+1,v,Q),(N.keep K A (by simpa using E)),X⟩ (by have:=N.pl;have:=N.kp;dsimp only;omega) zl ac_ zt
 refine Zz 10 ?_;have m:cpL (fun x w:Fc=>decide (x=w)) e=e:=(by first|exact or_ za_|(have q:=O;rw[List.take_of_length_le za_]at q;exact q));exact ae_ Tryz.results137 ⟨(sv,Hr),by rw[m];exact hr⟩ rfl ac_ zt
end Go.Proofs.YtpbnmnfdgckaiaaGreatDoor
namespace Go.Proofs
open Go.Shelf
def Tryz.sortSt_ren:Go.Shelf.Ren:=⟨fun|6=>140|15=>133|14=>177|28=>172|29=>173|20=>201|21=>202|22=>203|23=>204|24=>205|25=>206|26=>207|27=>208|46=>221|47=>197|48=>198|49=>222|50=>223|57=>248|n=>n,fun|22=>25|24=>9|25=>141|3=>3|39=>44|0=>0|53=>219|55=>221|4=>4|46=>213|45=>212|50=>157|5=>5|9=>9|66=>237|70=>150|76=>261|77=>262|n=>n,fun|n=>n⟩
theorem Tryz.sortSt:Go.Proofs.SlLaysF.n6 Tryz.prog Tryz.sortSt_ren:={
  mixed:=by kernel_rfl
  f6:=⟨Tryz.f140.name,by decide,Tryz.func140.trans (congrArg some zd_)⟩
  f14:=⟨Tryz.f177.name,by decide,Tryz.func177.trans (congrArg some zd_)⟩
  f15:=Tryz.func133.trans (congrArg some zd_)
  f20:=⟨Tryz.f201.name,by decide,Tryz.func201.trans (congrArg some zd_)⟩
  f21:=⟨Tryz.f202.name,by decide,Tryz.func202.trans (congrArg some zd_)⟩
  f22:=⟨Tryz.f203.name,by decide,Tryz.func203.trans (congrArg some zd_)⟩
  f23:=⟨Tryz.f204.name,by decide,Tryz.func204.trans (congrArg some zd_)⟩
  f24:=⟨Tryz.f205.name,by decide,Tryz.func205.trans (congrArg some zd_)⟩
  f25:=⟨Tryz.f206.name,by decide,Tryz.func206.trans (congrArg some zd_)⟩
  f26:=⟨Tryz.f207.name,by decide,Tryz.func207.trans (congrArg some zd_)⟩
  f27:=⟨Tryz.f208.name,by decide,Tryz.func208.trans (congrArg some zd_)⟩
  f28:=Tryz.func172.trans (congrArg some zd_)
  f29:=Tryz.func173.trans (congrArg some zd_)
  f46:=⟨Tryz.f221.name,by decide,Tryz.func221.trans (congrArg some zd_)⟩
  f47:=Tryz.func197.trans (congrArg some zd_)
  f48:=Tryz.func198.trans (congrArg some zd_)
  f49:=⟨Tryz.f222.name,by decide,Tryz.func222.trans (congrArg some zd_)⟩
  f50:=⟨Tryz.f223.name,by decide,Tryz.func223.trans (congrArg some zd_)⟩
  f57:=⟨Tryz.f248.name,by decide,Tryz.func248.trans (congrArg some zd_)⟩
  t0:=Tryz.underlying0
  a0:=Tryz.isAgg0
  z0:=Tryz.sizeOf0
  v0:=Tryz.zeroValue0
  t3:=Tryz.underlying3
  a3:=Tryz.isAgg3
  z3:=Tryz.sizeOf3
  v3:=Tryz.zeroValue3
  t4:=Tryz.underlying4
  a4:=Tryz.isAgg4
  z4:=Tryz.sizeOf4
  v4:=Tryz.zeroValue4
  t5:=Tryz.underlying5
  a5:=Tryz.isAgg5
  z5:=Tryz.sizeOf5
  v5:=Tryz.zeroValue5
  t9:=Tryz.underlying9
  a9:=Tryz.isAgg9
  z9:=Tryz.sizeOf9
  v9:=Tryz.zeroValue9
  t22:=Tryz.underlying25
  a22:=Tryz.isAgg25
  z22:=Tryz.sizeOf25
  v22:=Tryz.zeroValue25
  a24:=Tryz.isAgg9
  z24:=Tryz.sizeOf9
  t25:=Tryz.underlying141
  a25:=Tryz.isAgg141
  z25:=Tryz.sizeOf141
  v25:=Tryz.zeroValue141
  t39:=Tryz.underlying44
  a39:=Tryz.isAgg44
  z39:=Tryz.sizeOf44
  v39:=Tryz.zeroValue44
  t45:=Tryz.underlying212
  a45:=Tryz.isAgg212
  z45:=Tryz.sizeOf212
  v45:=Tryz.zeroValue212
  t46:=Tryz.underlying213
  a46:=Tryz.isAgg213
  z46:=Tryz.sizeOf213
  v46:=Tryz.zeroValue213
  t50:=Tryz.underlying157
  a50:=Tryz.isAgg157
  z50:=Tryz.sizeOf157
  v50:=Tryz.zeroValue157
  t53:=Tryz.underlying219
  a53:=Tryz.isAgg219
  z53:=Tryz.sizeOf219
  v53:=Tryz.zeroValue219
  t55:=Tryz.underlying221
  a55:=Tryz.isAgg221
  z55:=Tryz.sizeOf221
  v55:=Tryz.zeroValue221
  t66:=Tryz.underlying237
  a66:=Tryz.isAgg237
  z66:=Tryz.sizeOf237
  v66:=Tryz.zeroValue237
  t70:=Tryz.underlying150
  a70:=Tryz.isAgg150
  z70:=Tryz.sizeOf150
  v70:=Tryz.zeroValue150
  t76:=Tryz.underlying261
  a76:=Tryz.isAgg261
  z76:=Tryz.sizeOf261
  v76:=Tryz.zeroValue261
  t77:=Tryz.underlying262
  a77:=Tryz.isAgg262
  z77:=Tryz.sizeOf262
  v77:=Tryz.zeroValue262 }
end Go.Proofs
namespace Go.Proofs.YtpbnmnfdgckaiaaGreatDoor
open Go Go.Sx Go.Proofs
attribute [local irreducible] Code.wp wpList wpAnyH
open Go.Vs Go.Shelf Go.RowKit
theorem vX_ (d off size:Nat) (w:World):CmpLays1 Tryz.prog 86 #[] encStr Lib.compareBytes d off size w:=fun m os v _ x y=>by
  have h:=(kc_ x y).run ⟨fun _=>False,sortWorld encStr w d off m v os,False⟩ ⟨by simp,by simp,fun _ h=>h.elim⟩ trivial;refine h.mono ?_;rintro e w' ⟨_,C,rfl,rfl,_,_,A⟩;obtain⟨q,k,B⟩:=hZ_ A (fun h=>h);exact⟨rfl,q,k,B⟩
theorem ltS (x y:Str):ltOf Lib.compareBytes x y=decide (x<y):=by unfold ltOf;rw[decide_eq_decide];exact sa_ x y
theorem swoS:Sort.SWO (ltOf Lib.compareBytes) where
  irrefl x:=by rw[ltS];exact decide_eq_false (List.lt_irrefl x)
  trans x y z h1 h2:=by rw[ltS,decide_eq_true_eq]at *;exact List.lt_trans h1 h2
  ntrans x y z h1 h2:=by
    rw[ltS,decide_eq_false_iff_not]at *;exact List.not_lt.2 (List.le_trans (List.not_lt.1 h2) (List.not_lt.1 h1))
theorem totS (x y:Str) (d:ltOf Lib.compareBytes x y=false) (e:ltOf Lib.compareBytes y x=false):x=y:=by
  rw[ltS,decide_eq_false_iff_not]at d e;exact List.le_antisymm (List.not_lt.1 e) (List.not_lt.1 d)
theorem uz_ (d:List Str):(d.mergeSort fun x y=>!(ltOf Lib.compareBytes) y x)=aS_ d:=by
  have e:(fun x y:Str=>!(ltOf Lib.compareBytes) y x)=fun x y=>decide (x≤y):=by
    funext x y
    rw[ltS,Bool.eq_iff_iff];simp[List.not_lt]
  rw[e]
theorem uF_ {sv:Value} {k:List Str} {Hr:Hp} (h:aw_ 9 1 sv k.length (k.flatMap af_) Hr) (hl:k.length≤1000000000000) :
    Tri Tryz.prog 140 #[sv,.func (.func 86) #[] #[]] Hr [] (fun _:{y:Hp // aw_ 9 1 sv (aS_ k).length ((aS_ k).flatMap af_) y}=>.tuple #[]) (fun y=>y.1) (fun _=>[]):=by
  rcases h.2 with⟨rfl,L,rfl⟩|⟨g,cap,cur,rfl,rfl,J,K,F,I⟩
  · obtain rfl:k=[]:=List.eq_nil_of_length_eq_zero L
    have T:=cP_ (P:=Tryz.prog) (H:=[]) (Γ:=[]) (callable Tryz.func140 rfl rfl) (fun v _ _=>(AnyF.slices_SortFunc_none { Tryz.sortSt with } none 0 (.func (.func 86) #[] #[]) v.w).mono zk_);exact⟨T.callable,fun v a b=>(T.run v a b).mono (by rintro e w' ⟨x,G,m,q,E,A,C⟩;exact⟨⟨[],by simpa using aw_.nil _ _⟩,G,m,q,E,A,C⟩)⟩
  · have B:(aS_ k).length=k.length:=List.length_mergeSort _
    have T:=jh_ (P:=Tryz.prog) (Γ:=[]) (r:=.tuple #[]) (g:=g) (cur:=cur) (f:=140) (args:=#[.slice (some ⟨g,0,none⟩) k.length cap,.func (.func 86) #[] #[]]) (d:=(aS_ k).toArray) (callable Tryz.func140 rfl rfl) (fun v M=>by
      have N:=Any.slices_SortFunc_total Tryz.sortSt encStr (fun x=>rfl) Lib.compareBytes swoS 86 #[] g 0 cap k.toArray v.w (fun args w=>(callable Tryz.func86 rfl rfl) args w) (vX_ g 0 _ v.w) (kB_ (n:=0) (cap:=0) M I) (Array.getElem?_eq_some_iff.1 (M.own _ List.mem_cons_self).1).1 zn_ totS;refine N.mono ?_;rintro e w' ⟨rfl,n,os,rfl⟩;exact⟨rfl,n,os,by rw[show k.toArray.toList=k from rfl,uz_];rfl⟩)
    refine⟨T.callable,fun v a b=>(T.run v a b).mono ?_⟩;rintro e w' ⟨x,G,m,q,E,A,C⟩;refine⟨⟨_,by rw[dr_ af_ 1 aq_],.inr ⟨g,cap,_,by rw[B],rfl,by rw[B];exact J,K,by rw[mD_];exact F,?_⟩⟩,G,m,q,E,A,C⟩;have:=mC_ (cur:=cur) (d:=aS_ k) (by rw[B,F];omega);rw[Nat.mul_one];exact this
def hj_ (xs:List Fc):List Fc:=cpL (fun x w=>decide (x=w)) (eO_ xs)
theorem gK_ (l:List Fc) (ad:Option Addr) (cap:Nat) (H:l.length≤cap) (hl:l.length≤1000000000000):Tri Tryz.prog 81 #[.slice ad (List.length l) cap,.func (.func 82) #[] #[]] [] [ah_ ad (List.flatMap Fc.cells l)] (fun y:{y:Option Addr×Nat // ((hj_ l)).length≤y.2∧y.2≤maxLen∧(y.1=none→y.2=0)}=>.slice y.1.1 ((hj_ l)).length y.1.2) (fun _=>[]) (fun y=>[ah_ y.1.1 (((hj_ l)).flatMap Fc.cells)]):=by
  refine i_ Tryz.func81 rfl rfl Tryz.ntmps81 rfl fun G=>?_;refine Zz 8 ?_;refine g_ (wa_ l ad cap H za_) rfl m_ zf rfl fun⟨⟨A,F⟩,m⟩=>?_;dsimp only;dsimp only at m;simp only[List.append_nil];refine Zz 7 ?_;refine g_ (wM_ m za_) rfl ac_ zt rfl fun⟨C,B⟩=>?_;dsimp only;simp only[List.append_nil];refine Zz 5 ?_;refine g_ (rV_ (eO_ l) A C B (by rw[dH_];omega)) rfl ac_ zt rfl fun⟨⟨I,E⟩,q⟩=>?_;dsimp only;dsimp only at q;simp only[List.append_nil];refine Zz 4 ?_;refine bj_ q ac_ fun v x k h e d=>?_;exact ae_ Tryz.results81 ⟨(v,x),h,e,d⟩ (fG_ rfl k) m_ zf
theorem rm_ (l:List Str) (ad:Option Addr) (cap:Nat) (G:l.length≤cap) (hl:l.length≤1000000):Tri Tryz.prog 85 #[.slice ad (List.length l) cap,.func (.func 86) #[] #[]] [] [ah_ ad (List.flatMap af_ l)] (fun y:{y:Option Addr×Nat // ((Lib.compact (aS_ l))).length≤y.2∧y.2≤maxLen∧(y.1=none→y.2=0)}=>.slice y.1.1 ((Lib.compact (aS_ l))).length y.1.2) (fun _=>[]) (fun y=>[ah_ y.1.1 (((Lib.compact (aS_ l))).flatMap af_)]):=by
  refine i_ Tryz.func85 rfl rfl Tryz.ntmps85 rfl fun F=>?_;refine Zz 8 ?_;refine g_ (ns_ l ad cap G za_) rfl m_ zf rfl fun⟨⟨E,C⟩,m⟩=>?_;dsimp only;dsimp only at m;simp only[List.append_nil];refine Zz 7 ?_;refine g_ (uF_ m za_) rfl ac_ zt rfl fun⟨H,A⟩=>?_;dsimp only;simp only[List.append_nil];refine Zz 5 ?_;refine g_ (ju_ A (by rw[List.length_mergeSort];omega)) rfl ac_ zt rfl fun⟨⟨I,B⟩,q⟩=>?_;dsimp only;dsimp only at q;simp only[List.append_nil];refine Zz 4 ?_;refine bj_ q ac_ fun v x k h e d=>?_;exact ae_ Tryz.results85 ⟨(v,x),h,e,d⟩ (fG_ rfl k) m_ zf
end Go.Proofs.YtpbnmnfdgckaiaaGreatDoor
namespace Go.Vs
open Go Go.Sx
def frL (p:List Pc):List (Thg×Pc):=p.map fun y=>(⟨y.kind,y.a⟩,y)
theorem vJ_ {p:List Pc} {i:Nat} {x:Pc} (h:p[i]? = some x):frL (p.take (i+1))=frL (p.take i)++[(⟨x.kind,x.a⟩,x)]:=by
  unfold frL;rw[tk1 h,List.map_append];rfl
theorem pb_ (p:List Pc):(frL p).length=p.length:=List.length_map _
def rT_ (p:List Pc) (f:Fc):List (Str×Fc):=if f.kind=1 then (lat (frL p) ⟨3,f.b⟩).map fun y=>(f.a,ab_ f.a y.r y.c) else []
def dv_ (p:List Pc) (F:List Fc):List (Str×Fc):=F.flatMap (rT_ p)
theorem oq_ {p:List Pc} {F:List Fc} {i:Nat} {f:Fc} (h:F[i]? = some f):dv_ p (F.take (i+1))=dv_ p (F.take i)++rT_ p f:=by
  unfold dv_;rw[tk1 h,List.flatMap_append];simp
theorem vQ_ (p:List Pc) (f:Fc):(rT_ p f).length≤p.length:=by
 unfold rT_
 split
 ·rw[List.length_map];have:=dx_ (frL p) ⟨3,f.b⟩;rw[pb_]at this;exact this
 simp
theorem it_ {p:List Pc} (F:List Fc):(dv_ p F).length≤F.length*p.length:=by
  induction F with
  | nil=>simp[dv_]
  | cons f F ih =>
    unfold dv_ at ih ⊢;rw[List.flatMap_cons,List.length_append,List.length_cons,Nat.add_mul];have:=vQ_ p f;omega
theorem qM_ {p:List Pc} {F:List Fc} {s:Str} {z:Fc}:(s,z)∈dv_ p F↔∃ f∈F,∃ y∈p,f.kind=1∧y.kind=3∧y.a=f.b∧s=f.a∧z=ab_ f.a y.r y.c:=by
 unfold dv_ rT_;rw[List.mem_flatMap];constructor
 ·rintro ⟨f,m,h⟩
  split at h
  ·rename_i hk
   obtain⟨y,d,e⟩:=List.mem_map.1 h;rw[bL_]at d;obtain⟨A,q,x⟩:=List.mem_map.1 d;simp only[Prod.mk.injEq,Thg.mk.injEq]at e x;obtain⟨⟨k,v⟩,rfl⟩:=x;exact⟨f,m,A,q,hk,k,v,e.1.symm,e.2.symm⟩
  simp at h
 rintro ⟨f,m,y,d,hk,k,v,rfl,rfl⟩;refine⟨f,m,?_⟩;rw[if_pos hk];exact List.mem_map.2 ⟨y,bL_.2 (List.mem_map.2 ⟨y,d,by rw[k,v]⟩),rfl⟩
def nxD (D:List (Str×Fc)) (s:Str):List Str:=(lat D s).map Fc.b
theorem vf_ {D:List (Str×Fc)} {s:Str} {j:Nat} {z:Fc} (h:(lat D s)[j]? = some z):(nxD D s)[j]? = some z.b:=by unfold nxD;rw[List.getElem?_map,h];rfl
structure NmI (I K N:List Str):Prop where
  mem:∀ s,s∈K↔s∈I∨s∈N
  nd:N.Nodup
  dj:∀ s∈N,s ∉ I
theorem NmI.init {I K:List Str} (h:∀ n,n∈K↔n∈I):NmI I K []:=⟨fun s=>by rw[h];simp,List.nodup_nil,by simp⟩
theorem NmI.take {I K m N:List Str} {t:Str} (h:NmI I K N) (k:t ∉ K) (y:∀ n,n∈m↔n∈K∨n=t):NmI I m (N++[t]) :=
 ⟨fun s=>by rw[y,h.mem,List.mem_append,List.mem_singleton,or_assoc],by
   rw[List.nodup_append];exact⟨h.nd,by simp,fun a x b v=>by rw[List.mem_singleton]at v;subst v;intro e;subst e;exact k ((h.mem a).2 (.inr x))⟩,
  fun s d q=>by
   rw[List.mem_append,List.mem_singleton]at d;rcases d with d|rfl
   · exact h.dj s d q
   · exact k ((h.mem s).2 (.inl q))⟩
theorem NmI.len {I K N:List Str} (h:NmI I K N):N.length≤K.length:=cO_ h.nd fun s d=>(h.mem s).2 (.inr d)
def nH_ (D:List (Str×Fc)) (I X:List Str):Prop:=∃ N:List Str,N.Nodup∧X=I++aS_ N∧(∀ s∈N,s ∉ I)∧∀ s,(s∈I∨s∈N)↔RchS (nxD D) I s
theorem nH_.mem {D:List (Str×Fc)} {I X:List Str} (h:nH_ D I X) (s:Str):s∈X↔RchS (nxD D) I s:=by
  obtain⟨N,_,rfl,_,h⟩:=h;rw[← h,List.mem_append,List.mem_mergeSort]
theorem nH_.uniq {D:List (Str×Fc)} {I X Y:List Str} (h:nH_ D I X) (g:nH_ D I Y):X=Y:=by
  obtain⟨N,k,rfl,m,e⟩:=h;obtain⟨M,v,rfl,x,d⟩:=g
  rw[show aS_ N=aS_ M from lN_ (gJ_ k) (gJ_ v) fun s=>by
    rw[List.mem_mergeSort,List.mem_mergeSort];exact⟨fun q=>((d s).2 ((e s).1 (.inr q))).resolve_left (m s q),fun q=>((e s).2 ((d s).1 (.inr q))).resolve_left (x s q)⟩]
end Go.Vs
namespace Go.Proofs.YtpbnmnfdgckaiaaGreatDoor
open Go Go.Sx Go.Proofs
attribute [local irreducible] Code.wp wpList wpAnyH
open Go.Vs
theorem sr_:hN_ Tryz.prog 190 [(0,1),(1,1)] [.int .i64 0,str []]:=⟨_,Tryz.zeroValue190,Tryz.runUnderlying190,fun w=>by simp[ak_,E_]⟩
theorem eqTh (p q:Thg) (w:World):(Op.equalIn 10000 190 (Thg.val p) (Thg.val q)).run Tryz.prog w=.ok (decide (p=q)) w:=by
  have h:=run_equalIn_struct (P:=Tryz.prog) w 9999 190 (Thg.cells p).toArray (Thg.cells q).toArray (by simp only[Program.fieldsOf,Tryz.underlying190]) Tryz.stoodInHeld190;refine h.trans ?_;rw[← Thg.eqb_eq];simp only[Program.fieldsOf,Tryz.underlying190];exact bN_ rfl aN_ rfl rfl (eqI p_ w) (bN_ rfl W_ rfl rfl (eqS aF_ w) (jX_ w))
theorem okTh (p:Thg):gZ_ Tryz.prog 190 (Thg.val p):=fun e w=>by
 have hi:∀ (n:Int) (w:World),(Instr.checkKey e (9998+1) 3 (.int .i64 n)).run Tryz.prog w=.ok () w:=fun n w=>MapKept.run_checkKey (d:=.int .i64) p_ zai_ e 9998
 have k:∀ (n:Str) (w:World),(Instr.checkKey e (9998+1) 9 (str n)).run Tryz.prog w=.ok () w:=fun n w=>MapKept.run_checkKey (d:=.string) aF_ zY_ e 9998
 refine ckF (n:=9999) Tryz.underlying190 fun f h=>?_;simp only[List.mem_cons,List.not_mem_nil,or_false]at h;rcases h with rfl|rfl
 ·exact⟨rfl,aN_,_,rfl,hi _⟩
 exact⟨rfl,W_,_,rfl,k _⟩
theorem vs_:KeyT Tryz.prog 190 Thg.val:=fs_ (K:=Thg) Tryz.underlying190 okTh (fun p q w=>eqTh p q w) fun k=>ih_ (l:=Thg.cells k) fun v d=>by
 simp only[Thg.cells,List.mem_cons,List.not_mem_nil,or_false]at d;rcases d with rfl|rfl
 ·exact ei_ _ _
 exact dg_ _ _
theorem lg_ {G:Prop} (h:G:=by
 refine Zz 3 ?_;refine s_ 16 rfl zk (hp_ (k:=d.a) (dd:=(Fc.mk 2 d.a e.c e.r 0 0)) bo_ q (by rw[dZ_];exact A) (.inr rfl) iW_ rfl rfl rfl (dX_ (j_ (f_ (c_ d_)) (A_ t_ (c_ (c_ C_))))) fun Q x=>?_);refine Zz 5 ?_;refine z_ (S_ (f_ d_) (S_ (f_ d_) (bb_ aP_))) (Zz 5 ?_);exact x_ ⟨(j+1,Q),J,(by rw[tk1 G,List.map_append,← List.append_assoc];exact x)⟩ zb_ zl zp zh):G:=h
theorem rS_ (p:List Pc) (C:Option Addr) (N:Nat) (F:List Fc) (fad:Option Addr) (fcap:Nat) (hp:p.length≤12000) (hF:F.length≤65536):Tri Tryz.prog 83 #[.slice C (List.length p) N,.slice fad (List.length F) fcap] [] [ah_ C (List.flatMap Pc.cells p),ah_ fad (List.flatMap Fc.cells F)] (fun y:{y:Nat×Hp // cS_ str Fc.cells 36 6 (dv_ p F) y.1 y.2}=>.map (some y.1.1)) (fun y=>y.1.2) (fun _=>[]):=by
 refine i_ Tryz.func83 rfl rfl Tryz.ntmps83 rfl fun v_1=>?_;refine Zz 7 ?_;refine aY_ rfl fun H=>Zz 12 ?_
 refine L_ (ι:={y:Nat×Hp // y.1≤List.length p∧cS_ Thg.val Pc.cells 174 10 (frL (List.take y.1 p)) H y.2}) (fun y=>[(1,.slice fad (List.length F) fcap),(4,.map none),(5,.map (some H)),(14,.slice C (List.length p) N),(15,.int .i64 (List.length p:Int)),(16,.int .i64 (y.1.1:Int))]) (fun y=>(y.1.2)) (fun y=>[ah_ C (List.flatMap Pc.cells p),ah_ fad (List.flatMap Fc.cells F)]) (fun y=>List.length p - y.1.1) ⟨((0:Nat),[(H,.map #[] 0)]),by simp,cS_.nil _ _⟩ zl ac_ zh ?_;rintro ⟨⟨i,HA⟩,hi_i,hA⟩;dsimp only at hi_i hA ⊢;refine Zi 2 (fun P=>?_) fun P=>?_
 ·refine Zz 7 ?_
  rw[List.take_of_length_le za_]at hA;refine mN_ vs_ hA ac_ fun adr=>?_;refine aG_ (aY_ rfl fun I=>Zz 12 ?_);refine L_ (ι:={y:Nat×Hp // y.1≤List.length F∧cS_ str Fc.cells 36 6 (dv_ p (List.take y.1 F)) I y.2}) (fun y=>[(1,.slice fad (List.length F) fcap),(4,.map (some I)),(5,.map (some H)),(14,.slice C (List.length p) N),(15,.int .i64 (List.length p:Int)),(16,.int .i64 (i:Int)),(35,.slice fad (List.length F) fcap),(36,.int .i64 (List.length F:Int)),(37,.int .i64 (y.1.1:Int))]) (fun y=>(y.1.2)) (fun y=>[mlF Tryz.prog 190 Thg.val Pc.cells H (frL p) adr,ah_ C (List.flatMap Pc.cells p),ah_ fad (List.flatMap Fc.cells F)]) (fun y=>List.length F - y.1.1) ⟨((0:Nat),[(I,.map #[] 0)]),by simp,cS_.nil _ _⟩ zl ac_ zh ?_;rintro ⟨⟨m,HB⟩,V,hB⟩;dsimp only at V hB ⊢;refine Zi 2 (fun B=>?_) fun B=>?_
  ·refine Zz 13 ?_
   rw[List.take_of_length_le za_]at hB;exact ae_ Tryz.results83 ⟨(I,HB),hB⟩ rfl ac_ zt
  have K:m<List.length F:=by omega
  obtain⟨d,S⟩:∃ X,F[m]? = some X:=⟨_,List.getElem?_eq_getElem K⟩;have hmf_1:d∈F:=List.mem_of_getElem? S;refine Zz 12 ?_;refine G_ X_ rfl fun T=>u_ 0 y_ rfl rfl rfl rfl rfl rfl (Zi 7 (fun O=>?_) fun O=>?_)
  ·have R:Fc.kind d=1:=by simpa using O
   refine Zz 10 ?_;refine e_ (H_ sr_ rfl rfl) rfl (e_ (bC_ (k:=(Thg.mk 3 d.b)) (adr:=adr) vs_ Tryz.runUnderlying188 bS_ rfl rfl zf) rfl (Zz 5 ?_));have hql:List.length (lat (frL p) (Thg.mk 3 d.b))≤List.length p:=by have:=dx_ (frL p) (Thg.mk 3 d.b);rw[pb_]at this;exact this
   refine L_ (ι:={y:Nat×Hp // y.1≤List.length (lat (frL p) (Thg.mk 3 d.b))∧cS_ str Fc.cells 36 6 ((dv_ p (List.take m F))++List.map (fun y=>(Fc.a d,ab_ d.a y.r y.c)) (List.take y.1 (lat (frL p) (Thg.mk 3 d.b)))) I y.2}) (fun y=>[(1,.slice fad (List.length F) fcap),(4,.map (some I)),(5,.map (some H)),(14,.slice C (List.length p) N),(15,.int .i64 (List.length p:Int)),(16,.int .i64 (i:Int)),(35,.slice fad (List.length F) fcap),(36,.int .i64 (List.length F:Int)),(37,.int .i64 (m:Int)),(10,zp_ T 0),(48,.slice (Prod.fst (adr (Thg.mk 3 d.b))) (List.length (lat (frL p) (Thg.mk 3 d.b))) (Prod.snd (adr (Thg.mk 3 d.b)))),(49,.int .i64 (List.length (lat (frL p) (Thg.mk 3 d.b)):Int)),(50,.int .i64 (y.1.1:Int))]) (fun y=>((T,.cells #[.int .i64 d.kind,str d.a,str d.b,str d.r,.int .i64 d.lo,.int .i64 d.hi] 36 (0,0))::y.1.2)) (fun y=>[mlF Tryz.prog 190 Thg.val Pc.cells H (frL p) adr,ah_ C (List.flatMap Pc.cells p),ah_ fad (List.flatMap Fc.cells F)]) (fun y=>List.length (lat (frL p) (Thg.mk 3 d.b)) - y.1.1) ⟨((0:Nat),HB),by simp,(by rw[List.take_zero,List.map_nil,List.append_nil];exact hB)⟩ zl zp zh ?_;rintro ⟨⟨j,HB⟩,hi_j,L⟩;dsimp only at hi_j L ⊢;have hdl:List.length ((dv_ p (List.take m F))++List.map (fun y=>(Fc.a d,ab_ d.a y.r y.c)) (List.take j (lat (frL p) (Thg.mk 3 d.b))))≤1000000000:=by have h_1:=it_ (p:=p) (List.take m F);have h_2:=List.length_take_le m F;have h_3:=List.length_take_le j (lat (frL p) (Thg.mk 3 d.b));have h_4:=Nat.mul_le_mul (Nat.le_trans (Nat.le_trans h_2 V) hF) hp;rw[List.length_append,List.length_map];omega
   refine Zi 2 (fun hr_4=>?_) fun hr_4=>?_
   ·refine Zz 11 ?_
    exact x_ ⟨(m+1,HB),K,(by rw[oq_ S,rT_,if_pos R];rw[List.take_of_length_le (l:=(lat (frL p) (Thg.mk 3 d.b))) za_]at L;exact L)⟩ zb_ zl C_ zh
   have J:j<List.length (lat (frL p) (Thg.mk 3 d.b)):=by omega
   obtain⟨e,G⟩:∃ X,(lat (frL p) (Thg.mk 3 d.b))[j]? = some X:=⟨_,List.getElem?_eq_getElem J⟩;have hmy_1:e∈(lat (frL p) (Thg.mk 3 d.b)):=List.mem_of_getElem? G;refine Zz 10 ?_;refine e_ (Q_ D_ F_ rfl rfl (fun v _ h=>as_ (n:=10) Pc.cells_len ze_ (by exact (aV_ h.1 (Thg.mk 3 d.b))) G) za_ zh_) rfl ?_;refine e_ (aj_ (ad:=(Prod.fst (adr (Thg.mk 3 d.b)))) (us:=Pc.cells e) du_ F_ rfl (fun v _ h=>by exact (aV_ h.1 (Thg.mk 3 d.b))) (Pc.cells_len _) (o_ Pc.cells_len G)) rfl (G_ P_ rfl fun a0=>u_ 0 F_ rfl rfl rfl rfl rfl rfl (Zz 2 ?_));have Z:=(show (lat ((dv_ p (List.take m F))++List.map (fun y=>(Fc.a d,ab_ d.a y.r y.c)) (List.take j (lat (frL p) (Thg.mk 3 d.b)))) d.a).length≤1000000000 from Nat.le_trans (dx_ _ _) hdl);refine lP_ bo_ d.a L (c_ C_) fun a2 ce_1 a1 Hk_1 Hx_1 M q=>?_;refine z_ (S_ d_ (S_ (f_ (f_ d_)) (bb_ (f_ aP_)))) ?_;refine ag_ ((a0,.cells #[.int .i64 e.kind,str e.a,str e.b,str e.c,str e.r,str e.s,str e.t,.int .i64 e.lo,.int .i64 e.hi,.int .i64 e.frm] 174 (0,0))::((T,.cells #[.int .i64 d.kind,str d.a,str d.b,str d.r,.int .i64 d.lo,.int .i64 d.hi] 36 (0,0))::[])) zk ?_;refine J_ 4 [0,1,2,3,4,5,7,8,9,10,11,12,13] zk zs (Zz 12 ?_);refine N_ rfl (H_ eC_ rfl rfl) rfl (bv_ ?_);refine gx_ 6 14 rfl rfl zk ?_ ?_
   ·refine e_ (ev_ (k:=d.a) bo_ q iW_ dR_ rfl rfl 0 rfl) rfl (Zz 3 ?_)
    refine s_ 14 rfl zk (U_ w_ y_ X_ rfl rfl rfl rfl rfl rfl fun b_5=>Zz 3 ?_);refine s_ 15 rfl zk (an_ (news:=List.flatMap Fc.cells [(Fc.mk 2 d.a e.c e.r 0 0)]) eb_ M rfl rfl zp rfl (aO_ 0 rfl) (fun u hu=>aA_ Fc.cells_one hu) zc_ zf_ rfl fun W U P=>?_);have A:=zsa P;exact lg_
   refine U_ w_ y_ X_ rfl rfl rfl rfl rfl rfl fun b_5=>Zz 3 ?_
   refine s_ 6 rfl zk (e_ (ev_ (k:=d.a) bo_ q iW_ dR_ rfl rfl 1 rfl) rfl (Zz 3 ?_));refine s_ 15 rfl zk (an_ (news:=List.flatMap Fc.cells [(Fc.mk 2 d.a e.c e.r 0 0)]) eb_ M rfl rfl zp rfl (aO_ 0 rfl) (fun u hu=>aA_ Fc.cells_one hu) zc_ zf_ rfl fun W U B=>?_);have A:=zsa B;exact lg_
  have R:¬ Fc.kind d=1:=by simpa using O
  refine Zz 10 ?_;exact x_ ⟨(m+1,HB),K,(by rw[oq_ S,rT_,if_neg R,List.append_nil];exact hB)⟩ zb_ zl C_ zh
 obtain⟨Y,E,hx_1,hmx_1⟩:=zge (show i<List.length p by omega);refine Zz 12 ?_;refine G_ P_ rfl fun I=>u_ 0 F_ rfl rfl rfl rfl rfl rfl (Zz 8 ?_)
 refine e_ (H_ sr_ rfl rfl) rfl (G_ Tryz.zeroValue190 rfl fun T=>u_ 0 Tryz.sizeOf190 rfl rfl rfl rfl rfl rfl (Zz 6 ?_));refine U_ D_ F_ P_ rfl rfl rfl rfl rfl rfl fun a0=>?_;have Z:=(show (lat (frL (List.take i p)) (Thg.mk E.kind E.a)).length≤400000000 from Nat.le_trans (dx_ _ _) (by rw[pb_,List.length_take];omega));refine ff_ (k:=(Thg.mk E.kind E.a)) vs_ hA Tryz.runUnderlying188 bS_ rfl rfl (c_ (c_ C_)) rfl fun a2 ce_1 ie_1 se_1 a1 Hk_1 Hx_1 q M=>Zz 1 ?_
 refine an_ (news:=List.flatMap Pc.cells [E]) vO_ M rfl rfl zp rfl (fc_ zp) (fun u hu=>aA_ Pc.cells_one hu) zc_ zf_ rfl fun W U B=>?_;have A:=zsa B;refine Zz 1 ?_;refine cW_ (k:=(Thg.mk E.kind E.a)) (dd:=E) q (by rw[dZ_];exact A) rfl rfl rfl (dX_ (j_ (f_ d_) (A_ t_ t_))) fun Q x=>?_;refine Zz 2 ?_;refine z_ (S_ (f_ d_) (S_ (f_ d_) (bb_ aP_))) (Zz 5 ?_);exact x_ ⟨(i+1,Q),Y,(by rw[vJ_ hx_1];exact x)⟩ zb_ zl zp zh
end Go.Proofs.YtpbnmnfdgckaiaaGreatDoor
