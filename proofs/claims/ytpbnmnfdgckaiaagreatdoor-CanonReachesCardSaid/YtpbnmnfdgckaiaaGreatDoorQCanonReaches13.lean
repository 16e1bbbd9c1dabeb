/-
  Part of the proof of the law CanonReaches over this seat: the small logic, the data, the contracts of functions (no condition).
-/
import Derived.Test.YtpbnmnfdgckaiaaGreatDoorQCanonReaches12
import Derived.Test.YtpbnmnfdgckaiaaGreatDoorQCanonReaches11
import Derived.Test.YtpbnmnfdgckaiaaGreatDoorQCanonReaches8
import Derived.Test.YtpbnmnfdgckaiaaGreatDoorQCanonReaches7
import Derived.Test.YtpbnmnfdgckaiaaGreatDoorQCanonReaches6
import Derived.Test.YtpbnmnfdgckaiaaGreatDoorQCanonReaches10
import Derived.Shelf.SlSortCmp.NoneTotal
import Derived.Test.YtpbnmnfdgckaiaaGreatDoorProg
set_option linter.unusedVariables false
set_option linter.unusedSimpArgs false
set_option linter.unusedSectionVars false
set_option maxHeartbeats 1000000
namespace Go.Proofs.YtpbnmnfdgckaiaaGreatDoor
open Go Go.Sx Go.Proofs
attribute [local irreducible] Code.wp wpList wpAnyH
open Go.Vs
theorem xw_:hX_ Tryz.prog 133 [(0,1),(1,1),(2,1),(3,1)] [.slice none 0 0,.slice none 0 0,.slice none 0 0,.slice none 0 0]:=⟨_,Tryz.zeroValue133,cA_,fun w=>by simp[bP_]⟩
theorem vW_ {A B:Hp} {l D:Nat} {r:Loop} {Ds:List Nat}:(B++(mkH Ds++A)++HLp l D r).Perm ((mkH (D::Ds)++A)++(B++[(l,.loop r)])):=by
  have d:(B++(mkH Ds++A)++HLp l D r).Perm ((mkH Ds++A)++B++HLp l D r):=List.Perm.append_right _ List.perm_append_comm;have e:(mkH Ds++A)++B++HLp l D r=((mkH Ds++A)++(B++[(l,.loop r)]))++[(D,.deferred (some []))]:=by simp[HLp]
  rw[e]at d;exact d.trans List.perm_append_comm
theorem di_ {P:Program} {N:Nf} {E:Vw} {L H:Hp} {R:Exit→Act→World→Prop} {O:List Kt} {fr:Fr} {Γ:List Fct} {h:Array Oper} {lo:List Oper} {ty:TypeId} {ps:String} {S:Array Edge} {o:Op} {t K Q:TypeId} {x y z:Operand} {b:Nat} (n:Nat) (s:StM) {k:Str} (v:KeyT P K str) (I:o=.insert t x y z∨o=.mapUpdate t x y z) (F:∀ w,(underlying t).run P w=.ok (.map K Q) w)
    (M:Fr.ev fr x=some (.map (some b))) (G:Fr.ev fr y=some (str k)) (J:Fr.ev fr z=some (.bool true)) (hi:H[n]? = some (b,.map s.es s.c))
    (d:Ops P R N E L h lo O fr (H.set n (b,.map (s.add k).es (s.add k).c)) Γ):Ops P R N E L h (⟨none,o,ty,ps,S,none⟩::lo) O fr H Γ:=by
  by_cases hk:k∈s.ks
  · have C:s.add k=s:=by unfold StM.add;rw[dif_pos hk]
    rw[C]at d;obtain⟨i,e,T,m,q,B,A⟩:=s.hE.yes v hk;refine hw_ (e:=e) (i:=i) (u:=.bool true) (u':=.bool true) n v I F M G J hi A m q ?_;rw[iz_ m q B];exact d
  · have C:s.add k=⟨s.es.push ⟨str k,.bool true,s.c⟩,s.c+1,s.ks++[k],s.hE.push hk s.c,s.hB.push _ _⟩:=by unfold StM.add;rw[dif_neg hk]
    rw[C]at d;exact aR_ n I F M G J hi (v.ok _) (s.hE.no v hk) d
theorem zo_ {x:Ax} (h:x.check=0):x.roles.length≤4:=by
 unfold Ax.check at h
 split at h
 ·cases h
 rename_i k
 clear h;simp only[Bool.not_eq_false]at k;unfold Ax.shaped at k
 split at k
 ·cases k
 rename_i q
 simp only[not_or]at q;have m:x.kind=1∨x.kind=2∨x.kind=3∨x.kind=4∨x.kind=5∨x.kind=6∨x.kind=7∨x.kind=8∨x.kind=9:=by omega
 simp only[Bool.and_eq_true,decide_eq_true_eq]at k;have d:=k.2;rcases m with e|e|e|e|e|e|e|e|e<;>rw[e]at d<;>simp[us,tR_]at d<;>first|omega|(rw[d];decide)
def rkS (r:List Str×Option Addr×Nat):Prop:=r.1.length≤r.2.2∧r.2.2≤maxLen∧(r.2.1=none→r.2.2=0)
set_option maxHeartbeats 1000000 in
theorem voc_c (O:List Ax) (lad:Option Addr) (lcap:Nat) (hok:∀ x∈O,x.ok) (hC:∀ x∈O,x.check=0) (hll:O.length≤20):Tri Tryz.prog 80 #[.slice lad (List.length O) lcap] [] [ej_ lad O,ci_] (fun y:{y:(List Str×Option Addr×Nat)×(List Str×Option Addr×Nat)×(List Str×Option Addr×Nat)×(List Str×Option Addr×Nat) // (jh_ 3 O y.1.1∧rkS y.1)∧(jh_ 6 O y.2.1.1∧rkS y.2.1)∧(jh_ 7 O y.2.2.1.1∧rkS y.2.2.1)∧(jh_ 4 O y.2.2.2.1∧rkS y.2.2.2)}=>.tuple #[.agg #[.slice y.1.1.2.1 y.1.1.1.length y.1.1.2.2,.slice y.1.2.1.2.1 y.1.2.1.1.length y.1.2.1.2.2,.slice y.1.2.2.1.2.1 y.1.2.2.1.1.length y.1.2.2.1.2.2,.slice y.1.2.2.2.2.1 y.1.2.2.2.1.length y.1.2.2.2.2.2],.int .i64 0]) (fun _=>[]) (fun y=>[ah_ y.1.1.2.1 (y.1.1.1.flatMap ag_),ah_ y.1.2.1.2.1 (y.1.2.1.1.flatMap ag_),ah_ y.1.2.2.1.2.1 (y.1.2.2.1.1.flatMap ag_),ah_ y.1.2.2.2.2.1 (y.1.2.2.2.1.flatMap ag_)]):=by
 refine hp_ Tryz.func80 rfl rfl Tryz.ntmps80 rfl fun v_1=>?_;have hzb:∀ x∈O,x.left.sz≤1000000∧x.right.sz≤1000000∧x.roles.length≤1000000:=fun x hx=>⟨by have:=(tF_ (hC x hx)).1;omega,by have:=(tF_ (hC x hx)).2;omega,by have:=zo_ (hC x hx);omega⟩
 refine Zz 2 ?_;refine G_ Tryz.zeroValue133 rfl fun J=>Zz 12 ?_
 refine M_ (ι:={y:Nat // y≤List.length O}) (fun y=>[(0,.slice lad (List.length O) lcap),(2,zp_ J 0),(3,.int .i64 0),(21,.slice lad (List.length O) lcap),(22,.int .i64 (List.length O:Int)),(23,.int .i64 (y.1:Int))]) (fun y=>((J,.cells #[.slice none 0 0,.slice none 0 0,.slice none 0 0,.slice none 0 0] 133 (0,0))::[])) (fun y=>[ej_ lad O,ci_]) (fun y=>List.length O - y.1) ⟨(0:Nat),by simp⟩ zl d_ zh ?_;rintro ⟨W,hi_i0⟩;dsimp only at hi_i0 ⊢;refine Zi 2 (fun R=>?_) fun R=>?_
 ·refine Zz 8 ?_
  refine aY_ rfl fun m=>aY_ rfl fun C=>Zz 6 ?_
  refine aY_ rfl fun B=>aY_ rfl fun A=>Zz 6 ?_
  refine aY_ rfl fun H=>Zz 1 ?_
  refine aR_ 0 (.inl rfl) cv_ rfl rfl rfl rfl (ba_ p_) (aJ_ p_ rfl) (Zz 1 ?_);refine aR_ 0 (.inl rfl) cv_ rfl rfl rfl rfl (ba_ p_) (aJ_ p_ rfl) (Zz 1 ?_);refine aR_ 0 (.inl rfl) cv_ rfl rfl rfl rfl (ba_ p_) (aJ_ p_ rfl) (Zz 1 ?_);refine aR_ 0 (.inl rfl) cv_ rfl rfl rfl rfl (ba_ p_) (aJ_ p_ rfl) (Zz 1 ?_);refine G_ Tryz.zeroValue185 rfl fun L=>u_ 0 Tryz.sizeOf185 rfl rfl rfl rfl rfl rfl (Zz 11 ?_)
  refine y_ (H':=((L,.cells #[.map (some H)] 185 (0,0))::((H,.map #[⟨.int .i64 3,.map (some m),0⟩,⟨.int .i64 6,.map (some C),1⟩,⟨.int .i64 7,.map (some B),2⟩,⟨.int .i64 4,.map (some A),3⟩] 4)::((A,.map #[] 0)::((B,.map #[] 0)::((C,.map #[] 0)::((m,.map #[] 0)::((J,.cells #[.slice none 0 0,.slice none 0 0,.slice none 0 0,.slice none 0 0] 133 (0,0))::(mkH []))))))))) (.refl _) ?_;refine kJ_ (N:=fun y=>⟨110,mks y.1.2.2⟩) (ι:={y:Nat×S4×List Nat // y.1≤List.length O∧V4 y.2.1 (fun k=>vcL k (List.take y.1 O))}) (fun y=>[(0,.slice lad (List.length O) lcap),(2,zp_ J 0),(3,.int .i64 0),(21,.slice lad (List.length O) lcap),(22,.int .i64 (List.length O:Int)),(23,.int .i64 (W:Int)),(7,.map (some m)),(8,.map (some C)),(9,.map (some B)),(10,.map (some A)),(11,zp_ L 0),(44,.slice lad (List.length O) lcap),(45,.int .i64 (List.length O:Int)),(46,.int .i64 (y.1.1:Int))]) (fun y=>((L,.cells #[.map (some H)] 185 (0,0))::((H,.map #[⟨.int .i64 3,.map (some m),0⟩,⟨.int .i64 6,.map (some C),1⟩,⟨.int .i64 7,.map (some B),2⟩,⟨.int .i64 4,.map (some A),3⟩] 4)::((A,.map y.1.2.1.2.2.2.es y.1.2.1.2.2.2.c)::((B,.map y.1.2.1.2.2.1.es y.1.2.1.2.2.1.c)::((C,.map y.1.2.1.2.1.es y.1.2.1.2.1.c)::((m,.map y.1.2.1.1.es y.1.2.1.1.c)::((J,.cells #[.slice none 0 0,.slice none 0 0,.slice none 0 0,.slice none 0 0] 133 (0,0))::(mkH y.1.2.2))))))))) (fun y=>[ej_ lad O,ci_]) (fun y=>List.length O - y.1.1) ⟨((0:Nat),((StM.nil,StM.nil,StM.nil,StM.nil):S4),([]:List Nat)),by simp,V4.nil.cg fun k=>by simp[vcL]⟩ zl zp zh ?_;rintro ⟨⟨i,s,Ds⟩,hi_i,hV⟩;dsimp only at hi_i hV ⊢;refine Zi 2 (fun hr_2=>?_) fun hr_2=>?_
  ·refine Zz 7 ?_
   rw[List.take_of_length_le zs_]at hV;have V:∀ k,List.length (vcL k O)≤80000000:=fun k=>Nat.le_trans (tb_ hzb) zs_
   have hq_1:List.length s.1.ks≤100000000:=by have:=hV.c.len;have:=V 3;omega
   have hq_2:List.length (List.filter (fun q=>decide (q≠[])) s.2.1.ks)≤100000000:=by have:=hV.r.len;have:=V 6;have:=List.length_filter_le (fun q=>decide (q≠[])) s.2.1.ks;omega
   have hq_3:List.length s.2.2.1.ks≤100000000:=by have:=hV.f.len;have:=V 7;omega
   have hq_4:List.length (List.filter (fun q=>decide (q≠[])) s.2.2.2.ks)≤100000000:=by have:=hV.i.len;have:=V 4;have:=List.length_filter_le (fun q=>decide (q≠[])) s.2.2.2.ks;omega
   refine Zz 2 ?_;refine qL_ 4 bi_ H_ rfl rfl rfl s.2.1.hE s.2.1.hB rfl fun eD_1 hE_1 hB_1=>Zz 5 ?_
   refine qL_ 2 bi_ H_ rfl rfl rfl s.2.2.2.hE s.2.2.2.hB rfl fun eD_2 hE_2 hB_2=>Zz 5 ?_
   refine g_ (iU_ m) rfl m_ zt rfl fun by_1=>g_ (fd_ 96 [zp_ by_1 0] [(by_1,.cells #[.map (some m)] 33 (0,0)),(m,.map s.1.es s.1.c)] s.1.ks s.1.hE.nd hq_1 (iV_ m by_1 s.1.c s.1.es s.1.ks s.1.hE.ke s.1.hB hq_1)) rfl (j_ d_ (c_ (c_ (c_ (c_ (c_ d_)))))) zt rfl fun⟨⟨ad_1,cp_1⟩,T,hs_2,hs_3⟩=>?_;dsimp only;refine Zz 1 ?_;refine g_ (iU_ C) rfl m_ zt rfl fun a0=>g_ (fd_ 96 [zp_ a0 0] [(a0,.cells #[.map (some C)] 33 (0,0)),(C,.map eD_1 s.2.1.c)] (List.filter (fun q=>decide (q≠[])) s.2.1.ks) hE_1.nd hq_2 (iV_ C a0 s.2.1.c eD_1 (List.filter (fun q=>decide (q≠[])) s.2.1.ks) hE_1.ke hB_1 hq_2)) rfl zp zt rfl fun⟨⟨ad_2,cp_2⟩,hs_4,hs_5,hs_6⟩=>?_;dsimp only;refine Zz 1 ?_;refine g_ (iU_ B) rfl m_ zt rfl fun a2=>g_ (fd_ 96 [zp_ a2 0] [(a2,.cells #[.map (some B)] 33 (0,0)),(B,.map s.2.2.1.es s.2.2.1.c)] s.2.2.1.ks s.2.2.1.hE.nd hq_3 (iV_ B a2 s.2.2.1.c s.2.2.1.es s.2.2.1.ks s.2.2.1.hE.ke s.2.2.1.hB hq_3)) rfl zp zt rfl fun⟨⟨ad_3,cp_3⟩,hs_7,hs_8,hs_9⟩=>?_;dsimp only;refine Zz 1 ?_;refine g_ (iU_ A) rfl m_ zt rfl fun by_4=>g_ (fd_ 96 [zp_ by_4 0] [(by_4,.cells #[.map (some A)] 33 (0,0)),(A,.map eD_2 s.2.2.2.c)] (List.filter (fun q=>decide (q≠[])) s.2.2.2.ks) hE_2.nd hq_4 (iV_ A by_4 s.2.2.2.c eD_2 (List.filter (fun q=>decide (q≠[])) s.2.2.2.ks) hE_2.ke hB_2 hq_4)) rfl zp zt rfl fun⟨⟨ad_4,cp_4⟩,hs_10,hs_11,hs_12⟩=>?_;dsimp only;refine e_ (I_ xw_ rfl rfl) rfl (u_ 10 Tryz.sizeOf133 rfl rfl rfl rfl rfl rfl (Zz 4 ?_));exact retMs ⟨((aS_ s.1.ks,ad_1,cp_1),(aS_ (List.filter (fun q=>decide (q≠[])) s.2.1.ks),ad_2,cp_2),(aS_ s.2.2.1.ks,ad_3,cp_3),(aS_ (List.filter (fun q=>decide (q≠[])) s.2.2.2.ks),ad_4,cp_4)),⟨jh_.of hV.c zs_,T,hs_2,hs_3⟩,⟨jh_.ofD hV.r zs_,hs_4,hs_5,hs_6⟩,⟨jh_.of hV.f zs_,hs_7,hs_8,hs_9⟩,⟨jh_.ofD hV.i zs_,hs_10,hs_11,hs_12⟩⟩ (fun aa v h_1 h_2 _=>fD_ (us:=[.slice ad_1 (List.length (aS_ s.1.ks)) cp_1,.slice ad_2 (List.length (aS_ (List.filter (fun q=>decide (q≠[])) s.2.1.ks))) cp_2,.slice ad_3 (List.length (aS_ s.2.2.1.ks)) cp_3,.slice ad_4 (List.length (aS_ (List.filter (fun q=>decide (q≠[])) s.2.2.2.ks))) cp_4]) 10 Tryz.results80 Tryz.isAgg133 Tryz.sizeOf133 rfl rfl rfl rfl aa v h_1 h_2) (c_ (c_ (c_ (c_ (c_ (c_ (c_ (c_ (c_ (c_ C_)))))))))) ⟨_,.refl _⟩ zf
  obtain⟨S,d,hx_1,M⟩:=zge (show i<List.length O by omega);have hrl:=(hok d M).len;have hrc:=(hok d M).cap;refine Zz 12 ?_;refine G_ cI_ rfl fun P=>u_ 0 br_ rfl rfl rfl rfl rfl rfl (Zz 9 ?_)
  refine U_ ad_ J_ bU_ rfl rfl rfl rfl rfl rfl fun X=>?_;refine cQ_ (List.flatMap Con.cells [(Ax.left d),(Ax.right d)]) d_ rfl ?_;refine Zz 5 ?_;refine kJ_ (N:=fun y=>⟨110,mks y.1.2.2⟩) (ι:={y:Nat×S4×List Nat // y.1≤List.length [(Ax.left d),(Ax.right d)]∧V4 y.2.1 (fun k=>vcL k (List.take i O)++List.flatMap (Con.nms k) (List.take y.1 [(Ax.left d),(Ax.right d)]))}) (fun y=>[(0,.slice lad (List.length O) lcap),(2,zp_ J 0),(3,.int .i64 0),(21,.slice lad (List.length O) lcap),(22,.int .i64 (List.length O:Int)),(23,.int .i64 (W:Int)),(7,.map (some m)),(8,.map (some C)),(9,.map (some B)),(10,.map (some A)),(11,zp_ L 0),(44,.slice lad (List.length O) lcap),(45,.int .i64 (List.length O:Int)),(46,.int .i64 (i:Int)),(13,zp_ P 0),(54,.slice (some ⟨X,0,none⟩) (List.length [(Ax.left d),(Ax.right d)]) 2),(55,.int .i64 2),(56,.int .i64 (y.1.1:Int))]) (fun y=>((P,.cells #[.int .i64 (Ax.kind d),.bool (Ax.opn d),.int .i64 (Con.kind (Ax.left d)),str (Con.name (Ax.left d)),.int .i64 (Con.lo (Ax.left d)),.int .i64 (Con.hi (Ax.left d)),.slice (Con.ad (Ax.left d)) (List.length (Con.parts (Ax.left d))) (Con.cap (Ax.left d)),.int .i64 (Con.kind (Ax.right d)),str (Con.name (Ax.right d)),.int .i64 (Con.lo (Ax.right d)),.int .i64 (Con.hi (Ax.right d)),.slice (Con.ad (Ax.right d)) (List.length (Con.parts (Ax.right d))) (Con.cap (Ax.right d)),.slice (Ax.ad d) (List.length (Ax.roles d)) (Ax.cap d),str (Ax.role d),str (Ax.a d),str (Ax.b d)] 42 (0,0))::((L,.cells #[.map (some H)] 185 (0,0))::((H,.map #[⟨.int .i64 3,.map (some m),0⟩,⟨.int .i64 6,.map (some C),1⟩,⟨.int .i64 7,.map (some B),2⟩,⟨.int .i64 4,.map (some A),3⟩] 4)::((A,.map y.1.2.1.2.2.2.es y.1.2.1.2.2.2.c)::((B,.map y.1.2.1.2.2.1.es y.1.2.1.2.2.1.c)::((C,.map y.1.2.1.2.1.es y.1.2.1.2.1.c)::((m,.map y.1.2.1.1.es y.1.2.1.1.c)::((J,.cells #[.slice none 0 0,.slice none 0 0,.slice none 0 0,.slice none 0 0] 133 (0,0))::(mkH y.1.2.2)))))))))) (fun y=>[ah_ (some ⟨X,0,none⟩) (List.flatMap Con.cells [(Ax.left d),(Ax.right d)]),ej_ lad O,ci_]) (fun y=>List.length [(Ax.left d),(Ax.right d)] - y.1.1) ⟨((0:Nat),s,Ds),by simp,hV.cg fun k=>by simp⟩ zl zp zh ?_;rintro ⟨⟨j,s,Ds⟩,hi_j,U⟩;dsimp only at hi_j U ⊢;refine Zi 2 (fun hr_3=>?_) fun hr_3=>?_
  ·refine Zz 16 ?_
   have hV2e:V4 s (fun k=>vcL k (List.take i O)++List.flatMap (Con.nms k) [(Ax.left d),(Ax.right d)]):=by rw[List.take_of_length_le (l:=[(Ax.left d),(Ax.right d)]) (by simp only[List.length_cons,List.length_nil]at *;omega)]at U;exact U
   refine kJ_ (N:=fun y=>⟨110,mks y.1.2.2⟩) (ι:={y:Nat×S4×List Nat // y.1≤List.length (Ax.roles d)∧V4 y.2.1 (fun k_1=>(vcL k_1 (List.take i O)++List.flatMap (Con.nms k_1) [(Ax.left d),(Ax.right d)])++if k_1=6 then List.take y.1 (Ax.roles d) else [])}) (fun y=>[(0,.slice lad (List.length O) lcap),(2,zp_ J 0),(3,.int .i64 0),(21,.slice lad (List.length O) lcap),(22,.int .i64 (List.length O:Int)),(23,.int .i64 (W:Int)),(7,.map (some m)),(8,.map (some C)),(9,.map (some B)),(10,.map (some A)),(11,zp_ L 0),(44,.slice lad (List.length O) lcap),(45,.int .i64 (List.length O:Int)),(46,.int .i64 (i:Int)),(13,zp_ P 0),(54,.slice (some ⟨X,0,none⟩) (List.length [(Ax.left d),(Ax.right d)]) 2),(55,.int .i64 2),(56,.int .i64 (j:Int)),(76,.slice (Ax.ad d) (List.length (Ax.roles d)) (Ax.cap d)),(77,.int .i64 (List.length (Ax.roles d):Int)),(78,.int .i64 (y.1.1:Int))]) (fun y=>((P,.cells #[.int .i64 (Ax.kind d),.bool (Ax.opn d),.int .i64 (Con.kind (Ax.left d)),str (Con.name (Ax.left d)),.int .i64 (Con.lo (Ax.left d)),.int .i64 (Con.hi (Ax.left d)),.slice (Con.ad (Ax.left d)) (List.length (Con.parts (Ax.left d))) (Con.cap (Ax.left d)),.int .i64 (Con.kind (Ax.right d)),str (Con.name (Ax.right d)),.int .i64 (Con.lo (Ax.right d)),.int .i64 (Con.hi (Ax.right d)),.slice (Con.ad (Ax.right d)) (List.length (Con.parts (Ax.right d))) (Con.cap (Ax.right d)),.slice (Ax.ad d) (List.length (Ax.roles d)) (Ax.cap d),str (Ax.role d),str (Ax.a d),str (Ax.b d)] 42 (0,0))::((L,.cells #[.map (some H)] 185 (0,0))::((H,.map #[⟨.int .i64 3,.map (some m),0⟩,⟨.int .i64 6,.map (some C),1⟩,⟨.int .i64 7,.map (some B),2⟩,⟨.int .i64 4,.map (some A),3⟩] 4)::((A,.map y.1.2.1.2.2.2.es y.1.2.1.2.2.2.c)::((B,.map y.1.2.1.2.2.1.es y.1.2.1.2.2.1.c)::((C,.map y.1.2.1.2.1.es y.1.2.1.2.1.c)::((m,.map y.1.2.1.1.es y.1.2.1.1.c)::((J,.cells #[.slice none 0 0,.slice none 0 0,.slice none 0 0,.slice none 0 0] 133 (0,0))::(mkH y.1.2.2)))))))))) (fun y=>[ah_ (some ⟨X,0,none⟩) (List.flatMap Con.cells [(Ax.left d),(Ax.right d)]),ej_ lad O,ci_]) (fun y=>List.length (Ax.roles d) - y.1.1) ⟨((0:Nat),s,Ds),by simp,hV2e.cg fun k=>by simp⟩ zl zp zh ?_;rintro ⟨⟨k,s,Ds⟩,hi_k,Q⟩;dsimp only at hi_k Q ⊢;refine Zi 2 (fun hr_4=>?_) fun hr_4=>?_
   ·refine Zz 7 ?_
    rw[List.take_of_length_le (l:=Ax.roles d) zs_]at Q;refine Zz 4 ?_;refine di_ 5 s.2.1 bi_ (.inr rfl) H_ rfl rfl rfl rfl (Zz 7 ?_);refine di_ 3 ((s.addR (Ax.role d)).2.2.2) bi_ (.inr rfl) H_ rfl rfl rfl rfl (Zz 6 ?_);refine di_ 3 (((s.addR (Ax.role d)).addI (Ax.a d)).2.2.2) bi_ (.inr rfl) H_ rfl rfl rfl rfl (Zz 7 ?_);exact iS_ ⟨(i+1,(((s.addR (Ax.role d)).addI (Ax.a d)).addI (Ax.b d)),Ds),S,Q.axm hx_1⟩ zt_ zl (j_ (c_ d_) (j_ (c_ d_) (j_ (c_ d_) (j_ (c_ d_) (j_ (c_ d_) (j_ (c_ d_) (j_ (c_ d_) C_))))))) (fun _ _ h=>h.2)
   have a3:k<List.length (Ax.roles d):=by omega
   obtain⟨r_1,R⟩:∃ e_1,(Ax.roles d)[k]? = some e_1:=⟨_,List.getElem?_eq_getElem a3⟩;have hmr_1:r_1∈(Ax.roles d):=List.mem_of_getElem? R;refine Zz 10 ?_;refine e_ (S_ l_ E_ rfl rfl (fun v _ h=>au_ (n:=1) aq_ zw_ (by exact (h.2.1.2 d M).2.2) R) zs_ zz_) rfl ?_;refine e_ (bn_ (ad:=(Ax.ad d)) W_ rfl (fun v _ h=>by exact (h.2.1.2 d M).2.2) (o_ aq_ R 0 _ rfl)) rfl (Zz 6 ?_);refine di_ 5 s.2.1 bi_ (.inr rfl) H_ rfl rfl rfl rfl (Zz 7 ?_);exact iS_ ⟨(k+1,(s.addR r_1),Ds),a3,Q.role R⟩ zt_ zl zp zh
  have a1:j<List.length [(Ax.left d),(Ax.right d)]:=by simp only[List.length_cons,List.length_nil]at *;omega
  obtain⟨e,a4⟩:∃ e_1,[(Ax.left d),(Ax.right d)][j]? = some e_1:=⟨_,List.getElem?_eq_getElem a1⟩;have Z:e∈[(Ax.left d),(Ax.right d)]:=List.mem_of_getElem? a4;refine Zz 11 ?_;refine e_ (aj_ (ad:=(some ⟨X,0,none⟩)) (us:=Con.cells e) aH_ J_ rfl zf (Con.cells_len _) (o_ Con.cells_len a4)) rfl (G_ bU_ rfl fun K=>u_ 0 J_ rfl rfl rfl rfl rfl rfl (Zz 5 ?_));refine g_ (vc_ e) rfl m_ zt rfl fun bw=>Zz 3 ?_
  refine bs_ [(0,.slice lad (List.length O) lcap),(2,zp_ J 0),(3,.int .i64 0),(21,.slice lad (List.length O) lcap),(22,.int .i64 (List.length O:Int)),(23,.int .i64 (W:Int)),(7,.map (some m)),(8,.map (some C)),(9,.map (some B)),(10,.map (some A)),(11,zp_ L 0),(44,.slice lad (List.length O) lcap),(45,.int .i64 (List.length O:Int)),(46,.int .i64 (i:Int)),(13,zp_ P 0),(54,.slice (some ⟨X,0,none⟩) (List.length [(Ax.left d),(Ax.right d)]) 2),(55,.int .i64 2),(56,.int .i64 (j:Int)),(61,.func (.func 148) #[] #[zp_ bw 0])] zl ?_;have hokc:e.ok:=(wW_ (hok d M) (hzb d M).1 (hzb d M).2.1 Z).1;refine dK_ (H':=(bw,.cells (Con.cells e).toArray 40 (0,0))::(mkH Ds++[(m,.map s.1.es s.1.c),(C,.map s.2.1.es s.2.1.c),(B,.map s.2.2.1.es s.2.2.1.c),(A,.map s.2.2.2.es s.2.2.2.c),(K,.cells #[.int .i64 (Con.kind e),str (Con.name e),.int .i64 (Con.lo e),.int .i64 (Con.hi e),.slice (Con.ad e) (List.length (Con.parts e)) (Con.cap e)] 40 (0,0)),(P,.cells #[.int .i64 (Ax.kind d),.bool (Ax.opn d),.int .i64 (Con.kind (Ax.left d)),str (Con.name (Ax.left d)),.int .i64 (Con.lo (Ax.left d)),.int .i64 (Con.hi (Ax.left d)),.slice (Con.ad (Ax.left d)) (List.length (Con.parts (Ax.left d))) (Con.cap (Ax.left d)),.int .i64 (Con.kind (Ax.right d)),str (Con.name (Ax.right d)),.int .i64 (Con.lo (Ax.right d)),.int .i64 (Con.hi (Ax.right d)),.slice (Con.ad (Ax.right d)) (List.length (Con.parts (Ax.right d))) (Con.cap (Ax.right d)),.slice (Ax.ad d) (List.length (Ax.roles d)) (Ax.cap d),str (Ax.role d),str (Ax.a d),str (Ax.b d)] 42 (0,0)),(L,.cells #[.map (some H)] 185 (0,0)),(H,.map #[⟨.int .i64 3,.map (some m),0⟩,⟨.int .i64 6,.map (some C),1⟩,⟨.int .i64 7,.map (some B),2⟩,⟨.int .i64 4,.map (some A),3⟩] 4),(J,.cells #[.slice none 0 0,.slice none 0 0,.slice none 0 0,.slice none 0 0] 133 (0,0))])) (F:=[]) (by exact (j_ d_ (z_ (c_ (c_ (c_ (c_ (c_ (c_ (c_ (c_ C_)))))))) (j_ (c_ (c_ (c_ (c_ (c_ (c_ (c_ d_))))))) (j_ (c_ (c_ (c_ (c_ (c_ (c_ d_)))))) (j_ (c_ (c_ (c_ (c_ (c_ d_))))) (j_ (c_ (c_ (c_ (c_ d_)))) (j_ d_ (j_ d_ (j_ d_ (j_ d_ d_))))))))))) zh ?_;refine sa_ (Ds:=Ds) (α:={c:Con // c.ok}) (xv:=fun x=>x.1.val) (good:=fun _=>True) (stp:=fun x s=>.inl (eo_ x.1 s)) (Γx:=fun x=>[x.1.memF]) (Γi:=[Con.memF e]) (Hj:=(fun t:S4=>(mkH Ds++[(m,.map t.1.es t.1.c),(C,.map t.2.1.es t.2.1.c),(B,.map t.2.2.1.es t.2.2.1.c),(A,.map t.2.2.2.es t.2.2.2.c),(K,.cells #[.int .i64 (Con.kind e),str (Con.name e),.int .i64 (Con.lo e),.int .i64 (Con.hi e),.slice (Con.ad e) (List.length (Con.parts e)) (Con.cap e)] 40 (0,0)),(P,.cells #[.int .i64 (Ax.kind d),.bool (Ax.opn d),.int .i64 (Con.kind (Ax.left d)),str (Con.name (Ax.left d)),.int .i64 (Con.lo (Ax.left d)),.int .i64 (Con.hi (Ax.left d)),.slice (Con.ad (Ax.left d)) (List.length (Con.parts (Ax.left d))) (Con.cap (Ax.left d)),.int .i64 (Con.kind (Ax.right d)),str (Con.name (Ax.right d)),.int .i64 (Con.lo (Ax.right d)),.int .i64 (Con.hi (Ax.right d)),.slice (Con.ad (Ax.right d)) (List.length (Con.parts (Ax.right d))) (Con.cap (Ax.right d)),.slice (Ax.ad d) (List.length (Ax.roles d)) (Ax.cap d),str (Ax.role d),str (Ax.a d),str (Ax.b d)] 42 (0,0)),(L,.cells #[.map (some H)] 185 (0,0)),(H,.map #[⟨.int .i64 3,.map (some m),0⟩,⟨.int .i64 6,.map (some C),1⟩,⟨.int .i64 7,.map (some B),2⟩,⟨.int .i64 4,.map (some A),3⟩] 4),(J,.cells #[.slice none 0 0,.slice none 0 0,.slice none 0 0,.slice none 0 0] 133 (0,0))]))) (Hc:=[(bw,.cells (Con.cells e).toArray 40 (0,0))]) (caps:=[zp_ bw 0]) s (Con.fold (fun x s=>.inl (eo_ x s)) e s) rfl (.refl _) (fun v _ h=>by exact⟨(wV_ (h.2.1.2 d M) Z),trivial⟩) ?_ ?_ ?_
  ·rintro l D rec hpa hst hpe ht hasg hbody s ⟨x,hx⟩ -
   refine mC_ (ι:=Nat) (Hj:=(fun t:S4=>(mkH Ds++[(m,.map t.1.es t.1.c),(C,.map t.2.1.es t.2.1.c),(B,.map t.2.2.1.es t.2.2.1.c),(A,.map t.2.2.2.es t.2.2.2.c),(K,.cells #[.int .i64 (Con.kind e),str (Con.name e),.int .i64 (Con.lo e),.int .i64 (Con.hi e),.slice (Con.ad e) (List.length (Con.parts e)) (Con.cap e)] 40 (0,0)),(P,.cells #[.int .i64 (Ax.kind d),.bool (Ax.opn d),.int .i64 (Con.kind (Ax.left d)),str (Con.name (Ax.left d)),.int .i64 (Con.lo (Ax.left d)),.int .i64 (Con.hi (Ax.left d)),.slice (Con.ad (Ax.left d)) (List.length (Con.parts (Ax.left d))) (Con.cap (Ax.left d)),.int .i64 (Con.kind (Ax.right d)),str (Con.name (Ax.right d)),.int .i64 (Con.lo (Ax.right d)),.int .i64 (Con.hi (Ax.right d)),.slice (Con.ad (Ax.right d)) (List.length (Con.parts (Ax.right d))) (Con.cap (Ax.right d)),.slice (Ax.ad d) (List.length (Ax.roles d)) (Ax.cap d),str (Ax.role d),str (Ax.a d),str (Ax.b d)] 42 (0,0)),(L,.cells #[.map (some H)] 185 (0,0)),(H,.map #[⟨.int .i64 3,.map (some m),0⟩,⟨.int .i64 6,.map (some C),1⟩,⟨.int .i64 7,.map (some B),2⟩,⟨.int .i64 4,.map (some A),3⟩] 4),(J,.cells #[.slice none 0 0,.slice none 0 0,.slice none 0 0,.slice none 0 0] 133 (0,0))]))) (Hx:=fun _:Empty=>[]) (s:=s) (res:=.inl (eo_ x s)) (Γ:=[x.memF]) (fun I=>[(11,zp_ L 0),(16,zp_ I 0)]) (fun I=>((I,.cells #[.int .i64 (Con.kind x),str (Con.name x),.int .i64 (Con.lo x),.int .i64 (Con.hi x),.slice (Con.ad x) (List.length (Con.parts x)) (Con.cap x)] 40 (0,0))::(mkH Ds++[(m,.map s.1.es s.1.c),(C,.map s.2.1.es s.2.1.c),(B,.map s.2.2.1.es s.2.2.1.c),(A,.map s.2.2.2.es s.2.2.2.c),(K,.cells #[.int .i64 (Con.kind e),str (Con.name e),.int .i64 (Con.lo e),.int .i64 (Con.hi e),.slice (Con.ad e) (List.length (Con.parts e)) (Con.cap e)] 40 (0,0)),(P,.cells #[.int .i64 (Ax.kind d),.bool (Ax.opn d),.int .i64 (Con.kind (Ax.left d)),str (Con.name (Ax.left d)),.int .i64 (Con.lo (Ax.left d)),.int .i64 (Con.hi (Ax.left d)),.slice (Con.ad (Ax.left d)) (List.length (Con.parts (Ax.left d))) (Con.cap (Ax.left d)),.int .i64 (Con.kind (Ax.right d)),str (Con.name (Ax.right d)),.int .i64 (Con.lo (Ax.right d)),.int .i64 (Con.hi (Ax.right d)),.slice (Con.ad (Ax.right d)) (List.length (Con.parts (Ax.right d))) (Con.cap (Ax.right d)),.slice (Ax.ad d) (List.length (Ax.roles d)) (Ax.cap d),str (Ax.role d),str (Ax.a d),str (Ax.b d)] 42 (0,0)),(L,.cells #[.map (some H)] 185 (0,0)),(H,.map #[⟨.int .i64 3,.map (some m),0⟩,⟨.int .i64 6,.map (some C),1⟩,⟨.int .i64 7,.map (some B),2⟩,⟨.int .i64 4,.map (some A),3⟩] 4),(J,.cells #[.slice none 0 0,.slice none 0 0,.slice none 0 0,.slice none 0 0] 133 (0,0))]))) hpa hst hpe ht rfl ?_ ?_
   ·intro n v_1 H_1 Y
    rw[hasg];refine cR_ (H':=((mkH Ds)++((m,.map s.1.es s.1.c)::((C,.map s.2.1.es s.2.1.c)::((B,.map s.2.2.1.es s.2.2.1.c)::((A,.map s.2.2.2.es s.2.2.2.c)::((K,.cells #[.int .i64 (Con.kind e),str (Con.name e),.int .i64 (Con.lo e),.int .i64 (Con.hi e),.slice (Con.ad e) (List.length (Con.parts e)) (Con.cap e)] 40 (0,0))::((P,.cells #[.int .i64 (Ax.kind d),.bool (Ax.opn d),.int .i64 (Con.kind (Ax.left d)),str (Con.name (Ax.left d)),.int .i64 (Con.lo (Ax.left d)),.int .i64 (Con.hi (Ax.left d)),.slice (Con.ad (Ax.left d)) (List.length (Con.parts (Ax.left d))) (Con.cap (Ax.left d)),.int .i64 (Con.kind (Ax.right d)),str (Con.name (Ax.right d)),.int .i64 (Con.lo (Ax.right d)),.int .i64 (Con.hi (Ax.right d)),.slice (Con.ad (Ax.right d)) (List.length (Con.parts (Ax.right d))) (Con.cap (Ax.right d)),.slice (Ax.ad d) (List.length (Ax.roles d)) (Ax.cap d),str (Ax.role d),str (Ax.a d),str (Ax.b d)] 42 (0,0))::((L,.cells #[.map (some H)] 185 (0,0))::((H,.map #[⟨.int .i64 3,.map (some m),0⟩,⟨.int .i64 6,.map (some C),1⟩,⟨.int .i64 7,.map (some B),2⟩,⟨.int .i64 4,.map (some A),3⟩] 4)::((J,.cells #[.slice none 0 0,.slice none 0 0,.slice none 0 0,.slice none 0 0] 133 (0,0))::Y))))))))))) (F:=[]) zB_ zh ?_;refine gd_ (R_ (f_ d_) (R_ (f_ d_) (R_ (f_ d_) (R_ (f_ d_) (R_ (f_ d_) (R_ (f_ d_) (R_ (f_ d_) (R_ (f_ d_) (bb_ (f_ d_)))))))))) ?_;refine aI_ ?_;refine nl_ (L_ _) bU_ rfl fun b_12=>?_;refine gc_ (L_ _) 0 J_ rfl rfl rfl rfl rfl rfl ?_;refine bp_ ?_;refine dt_ rfl ?_;refine cR_ (H':=((b_12,.cells #[.int .i64 (Con.kind x),str (Con.name x),.int .i64 (Con.lo x),.int .i64 (Con.hi x),.slice (Con.ad x) (List.length (Con.parts x)) (Con.cap x)] 40 (0,0))::((mkH Ds)++((m,.map s.1.es s.1.c)::((C,.map s.2.1.es s.2.1.c)::((B,.map s.2.2.1.es s.2.2.1.c)::((A,.map s.2.2.2.es s.2.2.2.c)::((K,.cells #[.int .i64 (Con.kind e),str (Con.name e),.int .i64 (Con.lo e),.int .i64 (Con.hi e),.slice (Con.ad e) (List.length (Con.parts e)) (Con.cap e)] 40 (0,0))::((P,.cells #[.int .i64 (Ax.kind d),.bool (Ax.opn d),.int .i64 (Con.kind (Ax.left d)),str (Con.name (Ax.left d)),.int .i64 (Con.lo (Ax.left d)),.int .i64 (Con.hi (Ax.left d)),.slice (Con.ad (Ax.left d)) (List.length (Con.parts (Ax.left d))) (Con.cap (Ax.left d)),.int .i64 (Con.kind (Ax.right d)),str (Con.name (Ax.right d)),.int .i64 (Con.lo (Ax.right d)),.int .i64 (Con.hi (Ax.right d)),.slice (Con.ad (Ax.right d)) (List.length (Con.parts (Ax.right d))) (Con.cap (Ax.right d)),.slice (Ax.ad d) (List.length (Ax.roles d)) (Ax.cap d),str (Ax.role d),str (Ax.a d),str (Ax.b d)] 42 (0,0))::((L,.cells #[.map (some H)] 185 (0,0))::((H,.map #[⟨.int .i64 3,.map (some m),0⟩,⟨.int .i64 6,.map (some C),1⟩,⟨.int .i64 7,.map (some B),2⟩,⟨.int .i64 4,.map (some A),3⟩] 4)::((J,.cells #[.slice none 0 0,.slice none 0 0,.slice none 0 0,.slice none 0 0] 133 (0,0))::Y)))))))))))) (F:=[]) (by exact zp) zh ?_;exact fm_ b_12 zl (F:=[]) zB_ zh
   intro n v_1 H_1 Y I;rw[hbody]
   by_cases hk:x.kind=3
   ·refine cR_ (H':=((I,.cells #[.int .i64 (Con.kind x),str (Con.name x),.int .i64 (Con.lo x),.int .i64 (Con.hi x),.slice (Con.ad x) (List.length (Con.parts x)) (Con.cap x)] 40 (0,0))::((mkH Ds)++((m,.map s.1.es s.1.c)::((C,.map s.2.1.es s.2.1.c)::((B,.map s.2.2.1.es s.2.2.1.c)::((A,.map s.2.2.2.es s.2.2.2.c)::((K,.cells #[.int .i64 (Con.kind e),str (Con.name e),.int .i64 (Con.lo e),.int .i64 (Con.hi e),.slice (Con.ad e) (List.length (Con.parts e)) (Con.cap e)] 40 (0,0))::((P,.cells #[.int .i64 (Ax.kind d),.bool (Ax.opn d),.int .i64 (Con.kind (Ax.left d)),str (Con.name (Ax.left d)),.int .i64 (Con.lo (Ax.left d)),.int .i64 (Con.hi (Ax.left d)),.slice (Con.ad (Ax.left d)) (List.length (Con.parts (Ax.left d))) (Con.cap (Ax.left d)),.int .i64 (Con.kind (Ax.right d)),str (Con.name (Ax.right d)),.int .i64 (Con.lo (Ax.right d)),.int .i64 (Con.hi (Ax.right d)),.slice (Con.ad (Ax.right d)) (List.length (Con.parts (Ax.right d))) (Con.cap (Ax.right d)),.slice (Ax.ad d) (List.length (Ax.roles d)) (Ax.cap d),str (Ax.role d),str (Ax.a d),str (Ax.b d)] 42 (0,0))::((L,.cells #[.map (some H)] 185 (0,0))::((H,.map #[⟨.int .i64 3,.map (some m),0⟩,⟨.int .i64 6,.map (some C),1⟩,⟨.int .i64 7,.map (some B),2⟩,⟨.int .i64 4,.map (some A),3⟩] 4)::((J,.cells #[.slice none 0 0,.slice none 0 0,.slice none 0 0,.slice none 0 0] 133 (0,0))::Y)))))))))))) (F:=[]) zB_ zh ?_
    refine eu_ ?_;refine gd_ (R_ d_ (R_ (f_ d_) (R_ (f_ d_) (R_ (f_ d_) (R_ (f_ d_) (R_ (f_ d_) (R_ (f_ d_) (R_ (f_ d_) (R_ (f_ d_) (bb_ (f_ d_))))))))))) ?_;refine cY_ ?_;refine aI_ ?_;refine Q_ (L_ _) (aE_ 7 zk_ rfl rfl rfl) rfl rfl ?_;refine Q_ (L_ _) (bS_ aC_ rfl rfl rfl ak_) rfl rfl ?_;refine Q_ (L_ _) (aE_ 0 aN_ rfl rfl rfl) rfl rfl ?_;refine Q_ (L_ _) (hl_ (i:=0) (u:=.map (some m)) cv_ rfl rfl 8 rfl (ba_ p_) (aJ_ p_ (by rw[hk];rfl))) rfl rfl ?_;refine Q_ (L_ _) (al_ rfl) rfl rfl ?_;refine Q_ (L_ _) (bG_ rfl rfl) rfl rfl ?_;refine Q_ (L_ _) (bG_ rfl rfl) rfl rfl ?_;refine Q_ (L_ _) (az_ rfl) rfl rfl ?_;refine Q_ (L_ _) (az_ rfl) rfl rfl ?_;refine bp_ ?_;refine cd_ rfl ?_;refine cY_ ?_;refine aI_ ?_;refine Q_ (L_ _) (al_ rfl) rfl rfl ?_;refine bp_ ?_;refine cd_ rfl ?_;refine fw_ rfl ?_;refine aI_ ?_;refine Q_ (L_ _) (al_ rfl) rfl rfl ?_;refine Q_ (L_ _) (bS_ aC_ rfl rfl rfl E_) rfl rfl ?_;refine Q_ (L_ _) (aE_ 0 W_ rfl rfl rfl) rfl rfl ?_;refine hz_ (L_ _) 1 s.1 bi_ (.inr rfl) H_ rfl rfl rfl rfl ?_;refine bp_ ?_;refine dt_ rfl ?_;refine cR_ (H':=((mkH Ds)++((m,.map (s.1.add (Con.name x)).es (s.1.add (Con.name x)).c)::((C,.map s.2.1.es s.2.1.c)::((B,.map s.2.2.1.es s.2.2.1.c)::((A,.map s.2.2.2.es s.2.2.2.c)::((K,.cells #[.int .i64 (Con.kind e),str (Con.name e),.int .i64 (Con.lo e),.int .i64 (Con.hi e),.slice (Con.ad e) (List.length (Con.parts e)) (Con.cap e)] 40 (0,0))::((P,.cells #[.int .i64 (Ax.kind d),.bool (Ax.opn d),.int .i64 (Con.kind (Ax.left d)),str (Con.name (Ax.left d)),.int .i64 (Con.lo (Ax.left d)),.int .i64 (Con.hi (Ax.left d)),.slice (Con.ad (Ax.left d)) (List.length (Con.parts (Ax.left d))) (Con.cap (Ax.left d)),.int .i64 (Con.kind (Ax.right d)),str (Con.name (Ax.right d)),.int .i64 (Con.lo (Ax.right d)),.int .i64 (Con.hi (Ax.right d)),.slice (Con.ad (Ax.right d)) (List.length (Con.parts (Ax.right d))) (Con.cap (Ax.right d)),.slice (Ax.ad d) (List.length (Ax.roles d)) (Ax.cap d),str (Ax.role d),str (Ax.a d),str (Ax.b d)] 42 (0,0))::((L,.cells #[.map (some H)] 185 (0,0))::((H,.map #[⟨.int .i64 3,.map (some m),0⟩,⟨.int .i64 6,.map (some C),1⟩,⟨.int .i64 7,.map (some B),2⟩,⟨.int .i64 4,.map (some A),3⟩] 4)::((J,.cells #[.slice none 0 0,.slice none 0 0,.slice none 0 0,.slice none 0 0] 133 (0,0))::(Y++((I,.cells #[.int .i64 (Con.kind x),str (Con.name x),.int .i64 (Con.lo x),.int .i64 (Con.hi x),.slice (Con.ad x) (List.length (Con.parts x)) (Con.cap x)] 40 (0,0))::[]))))))))))))) (F:=[]) zD_ zh ?_;refine fS_ (eo_ x s) rfl (G:=[(I,.cells #[.int .i64 (Con.kind x),str (Con.name x),.int .i64 (Con.lo x),.int .i64 (Con.hi x),.slice (Con.ad x) (List.length (Con.parts x)) (Con.cap x)] 40 (0,0))]) ?_;rw[show eo_ x s=(s.1.add x.name,s.2) from (by unfold eo_;rw[if_pos hk])];simp
   have hn_1:=hk
   by_cases hk:x.kind=6
   ·refine cR_ (H':=((I,.cells #[.int .i64 (Con.kind x),str (Con.name x),.int .i64 (Con.lo x),.int .i64 (Con.hi x),.slice (Con.ad x) (List.length (Con.parts x)) (Con.cap x)] 40 (0,0))::((mkH Ds)++((m,.map s.1.es s.1.c)::((C,.map s.2.1.es s.2.1.c)::((B,.map s.2.2.1.es s.2.2.1.c)::((A,.map s.2.2.2.es s.2.2.2.c)::((K,.cells #[.int .i64 (Con.kind e),str (Con.name e),.int .i64 (Con.lo e),.int .i64 (Con.hi e),.slice (Con.ad e) (List.length (Con.parts e)) (Con.cap e)] 40 (0,0))::((P,.cells #[.int .i64 (Ax.kind d),.bool (Ax.opn d),.int .i64 (Con.kind (Ax.left d)),str (Con.name (Ax.left d)),.int .i64 (Con.lo (Ax.left d)),.int .i64 (Con.hi (Ax.left d)),.slice (Con.ad (Ax.left d)) (List.length (Con.parts (Ax.left d))) (Con.cap (Ax.left d)),.int .i64 (Con.kind (Ax.right d)),str (Con.name (Ax.right d)),.int .i64 (Con.lo (Ax.right d)),.int .i64 (Con.hi (Ax.right d)),.slice (Con.ad (Ax.right d)) (List.length (Con.parts (Ax.right d))) (Con.cap (Ax.right d)),.slice (Ax.ad d) (List.length (Ax.roles d)) (Ax.cap d),str (Ax.role d),str (Ax.a d),str (Ax.b d)] 42 (0,0))::((L,.cells #[.map (some H)] 185 (0,0))::((H,.map #[⟨.int .i64 3,.map (some m),0⟩,⟨.int .i64 6,.map (some C),1⟩,⟨.int .i64 7,.map (some B),2⟩,⟨.int .i64 4,.map (some A),3⟩] 4)::((J,.cells #[.slice none 0 0,.slice none 0 0,.slice none 0 0,.slice none 0 0] 133 (0,0))::Y)))))))))))) (F:=[]) zB_ zh ?_
    refine eu_ ?_;refine gd_ (R_ d_ (R_ (f_ d_) (R_ (f_ d_) (R_ (f_ d_) (R_ (f_ d_) (R_ (f_ d_) (R_ (f_ d_) (R_ (f_ d_) (R_ (f_ d_) (bb_ (f_ d_))))))))))) ?_;refine cY_ ?_;refine aI_ ?_;refine Q_ (L_ _) (aE_ 7 zk_ rfl rfl rfl) rfl rfl ?_;refine Q_ (L_ _) (bS_ aC_ rfl rfl rfl ak_) rfl rfl ?_;refine Q_ (L_ _) (aE_ 0 aN_ rfl rfl rfl) rfl rfl ?_;refine Q_ (L_ _) (hl_ (i:=1) (u:=.map (some C)) cv_ rfl rfl 8 rfl (ba_ p_) (aJ_ p_ (by rw[hk];rfl))) rfl rfl ?_;refine Q_ (L_ _) (al_ rfl) rfl rfl ?_;refine Q_ (L_ _) (bG_ rfl rfl) rfl rfl ?_;refine Q_ (L_ _) (bG_ rfl rfl) rfl rfl ?_;refine Q_ (L_ _) (az_ rfl) rfl rfl ?_;refine Q_ (L_ _) (az_ rfl) rfl rfl ?_;refine bp_ ?_;refine cd_ rfl ?_;refine cY_ ?_;refine aI_ ?_;refine Q_ (L_ _) (al_ rfl) rfl rfl ?_;refine bp_ ?_;refine cd_ rfl ?_;refine fw_ rfl ?_;refine aI_ ?_;refine Q_ (L_ _) (al_ rfl) rfl rfl ?_;refine Q_ (L_ _) (bS_ aC_ rfl rfl rfl E_) rfl rfl ?_;refine Q_ (L_ _) (aE_ 0 W_ rfl rfl rfl) rfl rfl ?_;refine hz_ (L_ _) 2 s.2.1 bi_ (.inr rfl) H_ rfl rfl rfl rfl ?_;refine bp_ ?_;refine dt_ rfl ?_;refine cR_ (H':=((mkH Ds)++((m,.map s.1.es s.1.c)::((C,.map (s.2.1.add (Con.name x)).es (s.2.1.add (Con.name x)).c)::((B,.map s.2.2.1.es s.2.2.1.c)::((A,.map s.2.2.2.es s.2.2.2.c)::((K,.cells #[.int .i64 (Con.kind e),str (Con.name e),.int .i64 (Con.lo e),.int .i64 (Con.hi e),.slice (Con.ad e) (List.length (Con.parts e)) (Con.cap e)] 40 (0,0))::((P,.cells #[.int .i64 (Ax.kind d),.bool (Ax.opn d),.int .i64 (Con.kind (Ax.left d)),str (Con.name (Ax.left d)),.int .i64 (Con.lo (Ax.left d)),.int .i64 (Con.hi (Ax.left d)),.slice (Con.ad (Ax.left d)) (List.length (Con.parts (Ax.left d))) (Con.cap (Ax.left d)),.int .i64 (Con.kind (Ax.right d)),str (Con.name (Ax.right d)),.int .i64 (Con.lo (Ax.right d)),.int .i64 (Con.hi (Ax.right d)),.slice (Con.ad (Ax.right d)) (List.length (Con.parts (Ax.right d))) (Con.cap (Ax.right d)),.slice (Ax.ad d) (List.length (Ax.roles d)) (Ax.cap d),str (Ax.role d),str (Ax.a d),str (Ax.b d)] 42 (0,0))::((L,.cells #[.map (some H)] 185 (0,0))::((H,.map #[⟨.int .i64 3,.map (some m),0⟩,⟨.int .i64 6,.map (some C),1⟩,⟨.int .i64 7,.map (some B),2⟩,⟨.int .i64 4,.map (some A),3⟩] 4)::((J,.cells #[.slice none 0 0,.slice none 0 0,.slice none 0 0,.slice none 0 0] 133 (0,0))::(Y++((I,.cells #[.int .i64 (Con.kind x),str (Con.name x),.int .i64 (Con.lo x),.int .i64 (Con.hi x),.slice (Con.ad x) (List.length (Con.parts x)) (Con.cap x)] 40 (0,0))::[]))))))))))))) (F:=[]) zD_ zh ?_;refine fS_ (eo_ x s) rfl (G:=[(I,.cells #[.int .i64 (Con.kind x),str (Con.name x),.int .i64 (Con.lo x),.int .i64 (Con.hi x),.slice (Con.ad x) (List.length (Con.parts x)) (Con.cap x)] 40 (0,0))]) ?_;rw[show eo_ x s=(s.1,s.2.1.add x.name,s.2.2) from (by unfold eo_;rw[if_neg zs_,if_pos hk])];simp
   have hn_2:=hk
   by_cases hk:x.kind=7
   ·refine cR_ (H':=((I,.cells #[.int .i64 (Con.kind x),str (Con.name x),.int .i64 (Con.lo x),.int .i64 (Con.hi x),.slice (Con.ad x) (List.length (Con.parts x)) (Con.cap x)] 40 (0,0))::((mkH Ds)++((m,.map s.1.es s.1.c)::((C,.map s.2.1.es s.2.1.c)::((B,.map s.2.2.1.es s.2.2.1.c)::((A,.map s.2.2.2.es s.2.2.2.c)::((K,.cells #[.int .i64 (Con.kind e),str (Con.name e),.int .i64 (Con.lo e),.int .i64 (Con.hi e),.slice (Con.ad e) (List.length (Con.parts e)) (Con.cap e)] 40 (0,0))::((P,.cells #[.int .i64 (Ax.kind d),.bool (Ax.opn d),.int .i64 (Con.kind (Ax.left d)),str (Con.name (Ax.left d)),.int .i64 (Con.lo (Ax.left d)),.int .i64 (Con.hi (Ax.left d)),.slice (Con.ad (Ax.left d)) (List.length (Con.parts (Ax.left d))) (Con.cap (Ax.left d)),.int .i64 (Con.kind (Ax.right d)),str (Con.name (Ax.right d)),.int .i64 (Con.lo (Ax.right d)),.int .i64 (Con.hi (Ax.right d)),.slice (Con.ad (Ax.right d)) (List.length (Con.parts (Ax.right d))) (Con.cap (Ax.right d)),.slice (Ax.ad d) (List.length (Ax.roles d)) (Ax.cap d),str (Ax.role d),str (Ax.a d),str (Ax.b d)] 42 (0,0))::((L,.cells #[.map (some H)] 185 (0,0))::((H,.map #[⟨.int .i64 3,.map (some m),0⟩,⟨.int .i64 6,.map (some C),1⟩,⟨.int .i64 7,.map (some B),2⟩,⟨.int .i64 4,.map (some A),3⟩] 4)::((J,.cells #[.slice none 0 0,.slice none 0 0,.slice none 0 0,.slice none 0 0] 133 (0,0))::Y)))))))))))) (F:=[]) zB_ zh ?_
    refine eu_ ?_;refine gd_ (R_ d_ (R_ (f_ d_) (R_ (f_ d_) (R_ (f_ d_) (R_ (f_ d_) (R_ (f_ d_) (R_ (f_ d_) (R_ (f_ d_) (R_ (f_ d_) (bb_ (f_ d_))))))))))) ?_;refine cY_ ?_;refine aI_ ?_;refine Q_ (L_ _) (aE_ 7 zk_ rfl rfl rfl) rfl rfl ?_;refine Q_ (L_ _) (bS_ aC_ rfl rfl rfl ak_) rfl rfl ?_;refine Q_ (L_ _) (aE_ 0 aN_ rfl rfl rfl) rfl rfl ?_;refine Q_ (L_ _) (hl_ (i:=2) (u:=.map (some B)) cv_ rfl rfl 8 rfl (ba_ p_) (aJ_ p_ (by rw[hk];rfl))) rfl rfl ?_;refine Q_ (L_ _) (al_ rfl) rfl rfl ?_;refine Q_ (L_ _) (bG_ rfl rfl) rfl rfl ?_;refine Q_ (L_ _) (bG_ rfl rfl) rfl rfl ?_;refine Q_ (L_ _) (az_ rfl) rfl rfl ?_;refine Q_ (L_ _) (az_ rfl) rfl rfl ?_;refine bp_ ?_;refine cd_ rfl ?_;refine cY_ ?_;refine aI_ ?_;refine Q_ (L_ _) (al_ rfl) rfl rfl ?_;refine bp_ ?_;refine cd_ rfl ?_;refine fw_ rfl ?_;refine aI_ ?_;refine Q_ (L_ _) (al_ rfl) rfl rfl ?_;refine Q_ (L_ _) (bS_ aC_ rfl rfl rfl E_) rfl rfl ?_;refine Q_ (L_ _) (aE_ 0 W_ rfl rfl rfl) rfl rfl ?_;refine hz_ (L_ _) 3 s.2.2.1 bi_ (.inr rfl) H_ rfl rfl rfl rfl ?_;refine bp_ ?_;refine dt_ rfl ?_;refine cR_ (H':=((mkH Ds)++((m,.map s.1.es s.1.c)::((C,.map s.2.1.es s.2.1.c)::((B,.map (s.2.2.1.add (Con.name x)).es (s.2.2.1.add (Con.name x)).c)::((A,.map s.2.2.2.es s.2.2.2.c)::((K,.cells #[.int .i64 (Con.kind e),str (Con.name e),.int .i64 (Con.lo e),.int .i64 (Con.hi e),.slice (Con.ad e) (List.length (Con.parts e)) (Con.cap e)] 40 (0,0))::((P,.cells #[.int .i64 (Ax.kind d),.bool (Ax.opn d),.int .i64 (Con.kind (Ax.left d)),str (Con.name (Ax.left d)),.int .i64 (Con.lo (Ax.left d)),.int .i64 (Con.hi (Ax.left d)),.slice (Con.ad (Ax.left d)) (List.length (Con.parts (Ax.left d))) (Con.cap (Ax.left d)),.int .i64 (Con.kind (Ax.right d)),str (Con.name (Ax.right d)),.int .i64 (Con.lo (Ax.right d)),.int .i64 (Con.hi (Ax.right d)),.slice (Con.ad (Ax.right d)) (List.length (Con.parts (Ax.right d))) (Con.cap (Ax.right d)),.slice (Ax.ad d) (List.length (Ax.roles d)) (Ax.cap d),str (Ax.role d),str (Ax.a d),str (Ax.b d)] 42 (0,0))::((L,.cells #[.map (some H)] 185 (0,0))::((H,.map #[⟨.int .i64 3,.map (some m),0⟩,⟨.int .i64 6,.map (some C),1⟩,⟨.int .i64 7,.map (some B),2⟩,⟨.int .i64 4,.map (some A),3⟩] 4)::((J,.cells #[.slice none 0 0,.slice none 0 0,.slice none 0 0,.slice none 0 0] 133 (0,0))::(Y++((I,.cells #[.int .i64 (Con.kind x),str (Con.name x),.int .i64 (Con.lo x),.int .i64 (Con.hi x),.slice (Con.ad x) (List.length (Con.parts x)) (Con.cap x)] 40 (0,0))::[]))))))))))))) (F:=[]) zD_ zh ?_;refine fS_ (eo_ x s) rfl (G:=[(I,.cells #[.int .i64 (Con.kind x),str (Con.name x),.int .i64 (Con.lo x),.int .i64 (Con.hi x),.slice (Con.ad x) (List.length (Con.parts x)) (Con.cap x)] 40 (0,0))]) ?_;rw[show eo_ x s=(s.1,s.2.1,s.2.2.1.add x.name,s.2.2.2) from (by unfold eo_;rw[if_neg zs_,if_neg zs_,if_pos hk])];simp
   have hn_3:=hk
   by_cases hk:x.kind=4
   ·refine cR_ (H':=((I,.cells #[.int .i64 (Con.kind x),str (Con.name x),.int .i64 (Con.lo x),.int .i64 (Con.hi x),.slice (Con.ad x) (List.length (Con.parts x)) (Con.cap x)] 40 (0,0))::((mkH Ds)++((m,.map s.1.es s.1.c)::((C,.map s.2.1.es s.2.1.c)::((B,.map s.2.2.1.es s.2.2.1.c)::((A,.map s.2.2.2.es s.2.2.2.c)::((K,.cells #[.int .i64 (Con.kind e),str (Con.name e),.int .i64 (Con.lo e),.int .i64 (Con.hi e),.slice (Con.ad e) (List.length (Con.parts e)) (Con.cap e)] 40 (0,0))::((P,.cells #[.int .i64 (Ax.kind d),.bool (Ax.opn d),.int .i64 (Con.kind (Ax.left d)),str (Con.name (Ax.left d)),.int .i64 (Con.lo (Ax.left d)),.int .i64 (Con.hi (Ax.left d)),.slice (Con.ad (Ax.left d)) (List.length (Con.parts (Ax.left d))) (Con.cap (Ax.left d)),.int .i64 (Con.kind (Ax.right d)),str (Con.name (Ax.right d)),.int .i64 (Con.lo (Ax.right d)),.int .i64 (Con.hi (Ax.right d)),.slice (Con.ad (Ax.right d)) (List.length (Con.parts (Ax.right d))) (Con.cap (Ax.right d)),.slice (Ax.ad d) (List.length (Ax.roles d)) (Ax.cap d),str (Ax.role d),str (Ax.a d),str (Ax.b d)] 42 (0,0))::((L,.cells #[.map (some H)] 185 (0,0))::((H,.map #[⟨.int .i64 3,.map (some m),0⟩,⟨.int .i64 6,.map (some C),1⟩,⟨.int .i64 7,.map (some B),2⟩,⟨.int .i64 4,.map (some A),3⟩] 4)::((J,.cells #[.slice none 0 0,.slice none 0 0,.slice none 0 0,.slice none 0 0] 133 (0,0))::Y)))))))))))) (F:=[]) zB_ zh ?_
    refine eu_ ?_;refine gd_ (R_ d_ (R_ (f_ d_) (R_ (f_ d_) (R_ (f_ d_) (R_ (f_ d_) (R_ (f_ d_) (R_ (f_ d_) (R_ (f_ d_) (R_ (f_ d_) (bb_ (f_ d_))))))))))) ?_;refine cY_ ?_;refine aI_ ?_;refine Q_ (L_ _) (aE_ 7 zk_ rfl rfl rfl) rfl rfl ?_;refine Q_ (L_ _) (bS_ aC_ rfl rfl rfl ak_) rfl rfl ?_;refine Q_ (L_ _) (aE_ 0 aN_ rfl rfl rfl) rfl rfl ?_;refine Q_ (L_ _) (hl_ (i:=3) (u:=.map (some A)) cv_ rfl rfl 8 rfl (ba_ p_) (aJ_ p_ (by rw[hk];rfl))) rfl rfl ?_;refine Q_ (L_ _) (al_ rfl) rfl rfl ?_;refine Q_ (L_ _) (bG_ rfl rfl) rfl rfl ?_;refine Q_ (L_ _) (bG_ rfl rfl) rfl rfl ?_;refine Q_ (L_ _) (az_ rfl) rfl rfl ?_;refine Q_ (L_ _) (az_ rfl) rfl rfl ?_;refine bp_ ?_;refine cd_ rfl ?_;refine cY_ ?_;refine aI_ ?_;refine Q_ (L_ _) (al_ rfl) rfl rfl ?_;refine bp_ ?_;refine cd_ rfl ?_;refine fw_ rfl ?_;refine aI_ ?_;refine Q_ (L_ _) (al_ rfl) rfl rfl ?_;refine Q_ (L_ _) (bS_ aC_ rfl rfl rfl E_) rfl rfl ?_;refine Q_ (L_ _) (aE_ 0 W_ rfl rfl rfl) rfl rfl ?_;refine hz_ (L_ _) 4 s.2.2.2 bi_ (.inr rfl) H_ rfl rfl rfl rfl ?_;refine bp_ ?_;refine dt_ rfl ?_;refine cR_ (H':=((mkH Ds)++((m,.map s.1.es s.1.c)::((C,.map s.2.1.es s.2.1.c)::((B,.map s.2.2.1.es s.2.2.1.c)::((A,.map (s.2.2.2.add (Con.name x)).es (s.2.2.2.add (Con.name x)).c)::((K,.cells #[.int .i64 (Con.kind e),str (Con.name e),.int .i64 (Con.lo e),.int .i64 (Con.hi e),.slice (Con.ad e) (List.length (Con.parts e)) (Con.cap e)] 40 (0,0))::((P,.cells #[.int .i64 (Ax.kind d),.bool (Ax.opn d),.int .i64 (Con.kind (Ax.left d)),str (Con.name (Ax.left d)),.int .i64 (Con.lo (Ax.left d)),.int .i64 (Con.hi (Ax.left d)),.slice (Con.ad (Ax.left d)) (List.length (Con.parts (Ax.left d))) (Con.cap (Ax.left d)),.int .i64 (Con.kind (Ax.right d)),str (Con.name (Ax.right d)),.int .i64 (Con.lo (Ax.right d)),.int .i64 (Con.hi (Ax.right d)),.slice (Con.ad (Ax.right d)) (List.length (Con.parts (Ax.right d))) (Con.cap (Ax.right d)),.slice (Ax.ad d) (List.length (Ax.roles d)) (Ax.cap d),str (Ax.role d),str (Ax.a d),str (Ax.b d)] 42 (0,0))::((L,.cells #[.map (some H)] 185 (0,0))::((H,.map #[⟨.int .i64 3,.map (some m),0⟩,⟨.int .i64 6,.map (some C),1⟩,⟨.int .i64 7,.map (some B),2⟩,⟨.int .i64 4,.map (some A),3⟩] 4)::((J,.cells #[.slice none 0 0,.slice none 0 0,.slice none 0 0,.slice none 0 0] 133 (0,0))::(Y++((I,.cells #[.int .i64 (Con.kind x),str (Con.name x),.int .i64 (Con.lo x),.int .i64 (Con.hi x),.slice (Con.ad x) (List.length (Con.parts x)) (Con.cap x)] 40 (0,0))::[]))))))))))))) (F:=[]) zD_ zh ?_;refine fS_ (eo_ x s) rfl (G:=[(I,.cells #[.int .i64 (Con.kind x),str (Con.name x),.int .i64 (Con.lo x),.int .i64 (Con.hi x),.slice (Con.ad x) (List.length (Con.parts x)) (Con.cap x)] 40 (0,0))]) ?_;rw[show eo_ x s=(s.1,s.2.1,s.2.2.1,s.2.2.2.add x.name) from (by unfold eo_;rw[if_neg zs_,if_neg zs_,if_neg zs_,if_pos hk])];simp
   have hn_4:=hk;refine cR_ (H':=((I,.cells #[.int .i64 (Con.kind x),str (Con.name x),.int .i64 (Con.lo x),.int .i64 (Con.hi x),.slice (Con.ad x) (List.length (Con.parts x)) (Con.cap x)] 40 (0,0))::((mkH Ds)++((m,.map s.1.es s.1.c)::((C,.map s.2.1.es s.2.1.c)::((B,.map s.2.2.1.es s.2.2.1.c)::((A,.map s.2.2.2.es s.2.2.2.c)::((K,.cells #[.int .i64 (Con.kind e),str (Con.name e),.int .i64 (Con.lo e),.int .i64 (Con.hi e),.slice (Con.ad e) (List.length (Con.parts e)) (Con.cap e)] 40 (0,0))::((P,.cells #[.int .i64 (Ax.kind d),.bool (Ax.opn d),.int .i64 (Con.kind (Ax.left d)),str (Con.name (Ax.left d)),.int .i64 (Con.lo (Ax.left d)),.int .i64 (Con.hi (Ax.left d)),.slice (Con.ad (Ax.left d)) (List.length (Con.parts (Ax.left d))) (Con.cap (Ax.left d)),.int .i64 (Con.kind (Ax.right d)),str (Con.name (Ax.right d)),.int .i64 (Con.lo (Ax.right d)),.int .i64 (Con.hi (Ax.right d)),.slice (Con.ad (Ax.right d)) (List.length (Con.parts (Ax.right d))) (Con.cap (Ax.right d)),.slice (Ax.ad d) (List.length (Ax.roles d)) (Ax.cap d),str (Ax.role d),str (Ax.a d),str (Ax.b d)] 42 (0,0))::((L,.cells #[.map (some H)] 185 (0,0))::((H,.map #[⟨.int .i64 3,.map (some m),0⟩,⟨.int .i64 6,.map (some C),1⟩,⟨.int .i64 7,.map (some B),2⟩,⟨.int .i64 4,.map (some A),3⟩] 4)::((J,.cells #[.slice none 0 0,.slice none 0 0,.slice none 0 0,.slice none 0 0] 133 (0,0))::Y)))))))))))) (F:=[]) zB_ zh ?_;refine eu_ ?_;refine gd_ (R_ d_ (R_ (f_ d_) (R_ (f_ d_) (R_ (f_ d_) (R_ (f_ d_) (R_ (f_ d_) (R_ (f_ d_) (R_ (f_ d_) (R_ (f_ d_) (bb_ (f_ d_))))))))))) ?_;refine cY_ ?_;refine aI_ ?_;refine Q_ (L_ _) (aE_ 7 zk_ rfl rfl rfl) rfl rfl ?_;refine Q_ (L_ _) (bS_ aC_ rfl rfl rfl ak_) rfl rfl ?_;refine Q_ (L_ _) (aE_ 0 aN_ rfl rfl rfl) rfl rfl ?_;refine Q_ (L_ _) (rL_ cv_ dU_ rfl rfl 8 rfl (ba_ p_) ((wh_ p_).nf (Con.kind x) _ [3,6,7,4] rfl (by simp only[List.mem_cons,List.not_mem_nil,or_false];omega))) rfl rfl ?_;refine Q_ (L_ _) (al_ rfl) rfl rfl ?_;refine Q_ (L_ _) (bG_ rfl rfl) rfl rfl ?_;refine Q_ (L_ _) (bG_ rfl rfl) rfl rfl ?_;refine Q_ (L_ _) (az_ rfl) rfl rfl ?_;refine Q_ (L_ _) (az_ rfl) rfl rfl ?_;refine bp_ ?_;refine cd_ rfl ?_;refine cY_ ?_;refine aI_ ?_;refine Q_ (L_ _) (al_ rfl) rfl rfl ?_;refine bp_ ?_;refine cd_ rfl ?_;refine lI_ rfl ?_;refine ov_ ?_;refine dt_ rfl ?_;refine cR_ (H':=((mkH Ds)++((m,.map s.1.es s.1.c)::((C,.map s.2.1.es s.2.1.c)::((B,.map s.2.2.1.es s.2.2.1.c)::((A,.map s.2.2.2.es s.2.2.2.c)::((K,.cells #[.int .i64 (Con.kind e),str (Con.name e),.int .i64 (Con.lo e),.int .i64 (Con.hi e),.slice (Con.ad e) (List.length (Con.parts e)) (Con.cap e)] 40 (0,0))::((P,.cells #[.int .i64 (Ax.kind d),.bool (Ax.opn d),.int .i64 (Con.kind (Ax.left d)),str (Con.name (Ax.left d)),.int .i64 (Con.lo (Ax.left d)),.int .i64 (Con.hi (Ax.left d)),.slice (Con.ad (Ax.left d)) (List.length (Con.parts (Ax.left d))) (Con.cap (Ax.left d)),.int .i64 (Con.kind (Ax.right d)),str (Con.name (Ax.right d)),.int .i64 (Con.lo (Ax.right d)),.int .i64 (Con.hi (Ax.right d)),.slice (Con.ad (Ax.right d)) (List.length (Con.parts (Ax.right d))) (Con.cap (Ax.right d)),.slice (Ax.ad d) (List.length (Ax.roles d)) (Ax.cap d),str (Ax.role d),str (Ax.a d),str (Ax.b d)] 42 (0,0))::((L,.cells #[.map (some H)] 185 (0,0))::((H,.map #[⟨.int .i64 3,.map (some m),0⟩,⟨.int .i64 6,.map (some C),1⟩,⟨.int .i64 7,.map (some B),2⟩,⟨.int .i64 4,.map (some A),3⟩] 4)::((J,.cells #[.slice none 0 0,.slice none 0 0,.slice none 0 0,.slice none 0 0] 133 (0,0))::(Y++((I,.cells #[.int .i64 (Con.kind x),str (Con.name x),.int .i64 (Con.lo x),.int .i64 (Con.hi x),.slice (Con.ad x) (List.length (Con.parts x)) (Con.cap x)] 40 (0,0))::[]))))))))))))) (F:=[]) (by exact zp) zh ?_;refine fS_ (eo_ x s) rfl (G:=[(I,.cells #[.int .i64 (Con.kind x),str (Con.name x),.int .i64 (Con.lo x),.int .i64 (Con.hi x),.slice (Con.ad x) (List.length (Con.parts x)) (Con.cap x)] 40 (0,0))]) ?_;rw[show eo_ x s=s from (by unfold eo_;rw[if_neg zs_,if_neg zs_,if_neg zs_,if_neg zs_])];simp
  ·intro l Gj Gx hY
   exact ta_ (E:=[]) (good:=fun _=>True) (fun _ _ _ _=>trivial) (fun s x hx _=>hY s ⟨x,hx⟩ trivial) _ hokc trivial s
  intro s_1 T D l r;rw[ri_ (fun x s=>eo_ x s) _ e (Nat.le_refl _)]at T;obtain rfl:=Sum.inl.inj T;have Q:=U.side a4;refine dK_ (H':=mkH (D::Ds)++[(m,.map ((List.foldl (fun s x=>eo_ x s) s (Con.nds e)).1).es ((List.foldl (fun s x=>eo_ x s) s (Con.nds e)).1).c),(C,.map ((List.foldl (fun s x=>eo_ x s) s (Con.nds e)).2.1).es ((List.foldl (fun s x=>eo_ x s) s (Con.nds e)).2.1).c),(B,.map ((List.foldl (fun s x=>eo_ x s) s (Con.nds e)).2.2.1).es ((List.foldl (fun s x=>eo_ x s) s (Con.nds e)).2.2.1).c),(A,.map ((List.foldl (fun s x=>eo_ x s) s (Con.nds e)).2.2.2).es ((List.foldl (fun s x=>eo_ x s) s (Con.nds e)).2.2.2).c),(K,.cells #[.int .i64 (Con.kind e),str (Con.name e),.int .i64 (Con.lo e),.int .i64 (Con.hi e),.slice (Con.ad e) (List.length (Con.parts e)) (Con.cap e)] 40 (0,0)),(P,.cells #[.int .i64 (Ax.kind d),.bool (Ax.opn d),.int .i64 (Con.kind (Ax.left d)),str (Con.name (Ax.left d)),.int .i64 (Con.lo (Ax.left d)),.int .i64 (Con.hi (Ax.left d)),.slice (Con.ad (Ax.left d)) (List.length (Con.parts (Ax.left d))) (Con.cap (Ax.left d)),.int .i64 (Con.kind (Ax.right d)),str (Con.name (Ax.right d)),.int .i64 (Con.lo (Ax.right d)),.int .i64 (Con.hi (Ax.right d)),.slice (Con.ad (Ax.right d)) (List.length (Con.parts (Ax.right d))) (Con.cap (Ax.right d)),.slice (Ax.ad d) (List.length (Ax.roles d)) (Ax.cap d),str (Ax.role d),str (Ax.a d),str (Ax.b d)] 42 (0,0)),(L,.cells #[.map (some H)] 185 (0,0)),(H,.map #[⟨.int .i64 3,.map (some m),0⟩,⟨.int .i64 6,.map (some C),1⟩,⟨.int .i64 7,.map (some B),2⟩,⟨.int .i64 4,.map (some A),3⟩] 4),(J,.cells #[.slice none 0 0,.slice none 0 0,.slice none 0 0,.slice none 0 0] 133 (0,0))]) (F:=[(bw,.cells (Con.cells e).toArray 40 (0,0))]++[(l,.loop r)]) vW_ zh ?_;refine aZ_ rfl (y_ (R_ (f_ d_) (R_ (f_ d_) (R_ (f_ d_) (R_ (f_ d_) (R_ (f_ d_) (R_ (f_ d_) (R_ (f_ d_) (R_ (f_ d_) (bb_ aP_))))))))) (Zz 5 ?_));exact iS_ ⟨(j+1,(List.foldl (fun s x=>eo_ x s) s (Con.nds e)),(D::Ds)),a1,Q⟩ zt_ zl zp zh
 obtain⟨S,d,hx_1,M⟩:=zge (show W<List.length O by omega);refine Zz 12 ?_;refine G_ cI_ rfl fun m=>u_ 0 br_ rfl rfl rfl rfl rfl rfl (Zz 5 ?_)
 refine g_ (oY_ (hok d M) (hC d M)) rfl m_ (fun v _ h=>by exact⟨(h.1.2 d M),h.2.1,trivial⟩) rfl fun _=>Zz 6 ?_
 refine e_ (ar_ (ce_ rfl rfl) (show _=Value.bool false from congrArg Value.bool zw_)) rfl (Zz 10 ?_);exact iS_ ⟨W+1,S⟩ zt_ zl (c_ d_) zh
end Go.Proofs.YtpbnmnfdgckaiaaGreatDoor
namespace Go.Vs
open Go Go.Sx
inductive RchS (nx:Str→List Str) (I:List Str):Str→Prop
  | zero {s:Str}:s∈I→RchS nx I s
  | step {s t:Str}:RchS nx I s→t∈nx s→RchS nx I t
theorem RchS.mem {nx:Str→List Str} {I T:List Str} (d:∀ s,∀ t∈nx s,t∈T) {t:Str} (h:RchS nx I t):t∈I++T:=by
  cases h with
  | zero h=>exact List.mem_append_left _ h
  | step _ h=>exact List.mem_append_right _ (d _ _ h)
structure CI (nx:Str→List Str) (I K W:List Str):Prop where
  r0:∀ s∈I,s∈K
  sub:∀ s∈W,s∈K
  rch:∀ s∈K,RchS nx I s
  cls:∀ s∈K,s ∉ W→∀ t∈nx s,t∈K
structure CJ (nx:Str→List Str) (I:List Str) (k:Str) (j:Nat) (K W:List Str):Prop where
  r0:∀ s∈I,s∈K
  sub:∀ s∈W,s∈K
  rch:∀ s∈K,RchS nx I s
  hk:k∈K
  cls:∀ s∈K,s ∉ W→s≠k→∀ t∈nx s,t∈K
  dn:∀ t∈(nx k).take j,t∈K
theorem CI.init {nx:Str→List Str} {I K:List Str} (h:∀ n,n∈K↔n∈I):CI nx I K I :=
  ⟨fun s d=>(h s).2 d,fun s d=>(h s).2 d,fun s d=>.zero ((h s).1 d),fun s d e=>absurd ((h s).1 d) e⟩
theorem CI.pop {nx:Str→List Str} {I K W:List Str} {k:Str} (h:CI nx I K (k::W)):CJ nx I k 0 K W :=
  ⟨h.r0,fun s d=>h.sub s (List.mem_cons_of_mem _ d),h.rch,h.sub k List.mem_cons_self,fun s d e hk=>h.cls s d (by simp[e,hk]),by simp⟩
theorem CJ.skip {nx:Str→List Str} {I K W:List Str} {k t:Str} {j:Nat} (h:CJ nx I k j K W) (e:(nx k)[j]? = some t) (m:t∈K):CJ nx I k (j+1) K W :=
 ⟨h.r0,h.sub,h.rch,h.hk,h.cls,fun z d=>by
   rw[tk1 e,List.mem_append,List.mem_singleton]at d;rcases d with d|rfl
   · exact h.dn z d
   · exact m⟩
theorem CJ.take {nx:Str→List Str} {I K W y:List Str} {k t:Str} {j:Nat} (h:CJ nx I k j K W) (x:(nx k)[j]? = some t) (m:∀ n,n∈y↔n∈K∨n=t):CJ nx I k (j+1) y (W++[t]) :=
  ⟨fun s d=>(m s).2 (.inl (h.r0 s d)),fun s d=>(m s).2 (by rw[List.mem_append,List.mem_singleton]at d;exact d.imp (h.sub s) id),fun s d=>(m s).1 d |>.elim (h.rch s) (fun e=>e▸(h.rch k h.hk).step (List.mem_of_getElem? x)),(m k).2 (.inl h.hk),
   fun s d v hk z q=>by
    simp only[List.mem_append,List.mem_singleton,not_or]at v;exact (m z).2 (.inl (h.cls s (((m s).1 d).resolve_right v.2) v.1 hk z q)),
   fun z q=>by
    rw[tk1 x,List.mem_append,List.mem_singleton]at q;exact (m z).2 (q.imp (h.dn z) id)⟩
theorem CJ.done {nx:Str→List Str} {I K W:List Str} {k:Str} {j:Nat} (h:CJ nx I k j K W) (v:(nx k).length≤j):CI nx I K W :=
 ⟨h.r0,h.sub,h.rch,fun s q m t d=>by
   by_cases e:s=k
   · exact h.dn t (by rw[List.take_of_length_le v];exact e▸d)
   · exact h.cls s q m e t d⟩
theorem CI.fine {nx:Str→List Str} {I K:List Str} (h:CI nx I K []) (t:Str):t∈K↔RchS nx I t :=
  ⟨h.rch t,fun q=>by
    induction q with
    | zero hs=>exact h.r0 _ hs
    | step _ hm ih=>exact h.cls _ ih zB_ _ hm⟩
theorem kc_ {nx:Str→List Str} {I T K:List Str} (k:∀ s,∀ t∈nx s,t∈T) (d:K.Nodup) (h:∀ s∈K,RchS nx I s):K.length≤I.length+T.length:=by
  have:=cS_ d (m:=I++T) fun s e=>(h s e).mem k
  rwa [List.length_append]at this
theorem iw_ {L:List (Str×Str)} {r:Str} {K:List Str} (d:K.Nodup) (h:∀ s∈K,RchS (lat L) [r] s):K.length≤L.length+1:=by
  have:=kc_ (T:=L.map (·.2)) (fun s t e=>List.mem_map.2 ⟨_,bM_.1 e,rfl⟩) d h;simp only[List.length_cons,List.length_nil,List.length_map]at this;omega
def gm_ (l:List Ax):List (Str×Str):=l.flatMap fun x=>if x.kind=5 then [(x.roles.headD [],x.role)] else []
theorem pa_ {l:List Ax} {i:Nat} {x:Ax} (h:l[i]? = some x):gm_ (l.take (i+1))=gm_ (l.take i)++if x.kind=5 then [(x.roles.headD [],x.role)] else []:=by
  unfold gm_;rw[List.take_add_one,h,List.flatMap_append];simp
theorem kC_ (l:List Ax):(gm_ l).length≤l.length:=by
  induction l with
  | nil=>simp[gm_]
  | cons x l ih =>
    unfold gm_ at ih ⊢;rw[List.flatMap_cons,List.length_append,List.length_cons]
    split<;>simp only[List.length_cons,List.length_nil]<;>omega
def xk_ (l:List Ax) (r:Str) (X:List Str):Prop:=SrS X∧∀ t,t∈X↔RchS (lat (gm_ l)) [r] t
theorem xk_.uniq {l:List Ax} {r:Str} {X Y:List Str} (h:xk_ l r X) (g:xk_ l r Y):X=Y:=gv_ h.1 g.1 fun n=>(h.2 n).trans (g.2 n).symm
end Go.Vs
namespace Go.Sx
open Go
theorem qc_ {P:Program} {N:Nf} {fr:Fr} {H F:Hp} {Γ:List Fct} {ty:TypeId} {e:TypeId} {sz n:Nat} {sv:Value} {v:List Value} {Hr:Hp} {x:Operand} {t:TypeId} {k:Nat} {u:Value} (d:ORow e sz sv n v Hr) (A:H.Perm (Hr++F)) (y:∀ w,(isAgg t).run P w=.ok false w)
    (q:Fr.ev fr x=some (.pointer (some ⟨svB sv,svO sv+k,none⟩))) (m:v[k]? = some u):Yld P N fr H Γ (.load t x) ty u:=by
  cases d with
  | row h =>
    refine cF_ h A y ?_ m;rcases h.2 with⟨rfl,B,_⟩|⟨g,cap,cur,rfl,_⟩
    · rw[q];simp[svO]
    · rw[q];simp[svO]
  | @cut g k0 n cap pre v Hr hp' h =>
    refine cF_ (k:=k0*sz+k) h A y (by rw[q];rfl) ?_;rw[List.getElem?_append_right zs_,hp',show k0*sz+k - k0*sz=k by omega];exact m
  | out=>simp at m
end Go.Sx
namespace Go.Proofs.YtpbnmnfdgckaiaaGreatDoor
open Go Go.Sx Go.Proofs
attribute [local irreducible] Code.wp wpList wpAnyH
open Go.Vs
theorem pk_ {s:StM} {k:Str} (h:k ∉ s.ks):(s.add k).ks=s.ks++[k]:=by unfold StM.add;rw[dif_neg h]
theorem uL_ (r:Str) (sb:Nat) (L:List (Str×Str)) (adr:Str→Option Addr×Nat) (hL:L.length≤100000):Tri Tryz.prog 51 #[str r,.map (some sb)] [] [mlF Tryz.prog 9 str ag_ sb L adr] (fun y:{y:Nat×StM // ∀ t,t∈y.2.ks↔RchS (lat L) [r] t}=>.map (some y.1.1)) (fun y=>[(y.1.1,.map y.1.2.es y.1.2.c)]) (fun _=>[]):=by
 refine i_ Tryz.func51 rfl rfl Tryz.ntmps51 rfl fun v_1=>?_;refine Zz 7 ?_;refine aY_ rfl fun H=>Zz 1 ?_
 refine di_ 0 StM.nil bi_ (.inl rfl) H_ rfl rfl rfl rfl (Zz 8 ?_);refine U_ l_ E_ ax_ rfl rfl rfl rfl rfl rfl fun I=>Zz 4 ?_
 have R:ORow 9 1 (.slice (some ⟨I,0,none⟩) 1 1) (List.length [r]) (List.flatMap ag_ [r]) [(I,.cells #[str r] 9 (0,0))]:=ORow.row (ay_.lit rfl (by simp[maxLen]));refine y_ (c_ d_) ?_;refine M_ (ι:={y:StM×List Str×Value×Hp // CI (lat L) [r] y.1.ks y.2.1∧ORow 9 1 y.2.2.1 (List.length y.2.1) (List.flatMap ag_ y.2.1) y.2.2.2∧List.length y.2.1≤List.length y.1.ks}) (fun y=>[(1,.map (some sb)),(4,.map none),(5,.map (some H)),(6,y.1.2.2.1)]) (fun y=>((H,.map y.1.1.es y.1.1.c)::y.1.2.2.2)) (fun y=>[mlF Tryz.prog 9 str ag_ sb L adr]) (fun y=>(List.length L+1) - List.length y.1.1.ks+List.length y.1.2.1) ⟨((StM.add StM.nil r),[r],(.slice (some ⟨I,0,none⟩) 1 1),[(I,.cells #[str r] 9 (0,0))]),CI.init fun n=>by rw[StM.mem];simp[StM.nil],R,by dsimp only;rw[pk_ (by simp[StM.nil])];simp[StM.nil]⟩ zl zp zh ?_;rintro ⟨⟨s,W,svW,HW⟩,hC,V,N⟩;dsimp only at hC V N ⊢;have hsl:=iw_ s.hE.nd hC.rch;refine Zz 4 ?_;refine e_ (qb_ V l_ rfl) rfl ?_;refine Zi 0 (fun a0=>?_) fun a0=>?_
 ·refine Zz 12 ?_
  obtain rfl:W=[]:=List.eq_nil_of_length_eq_zero zs_;exact ae_ Tryz.results51 ⟨(H,s),fun t=>hC.fine t⟩ rfl d_ zt
 obtain⟨k,W,rfl⟩:∃ k O,W=k::O:=by cases W with|nil=>simp at*| cons k O=>exact⟨k,O,rfl⟩
 refine Zz 9 ?_;refine e_ (sW_ V l_ E_ rfl rfl zw_ zam_) rfl ?_;refine e_ (qc_ (k:=(0:Int).toNat*1) V C_ W_ rfl rfl) rfl (Zz 6 ?_);refine qM_ (i:=1) (kl:=.i64) V l_ E_ rfl rfl zam_ rfl fun M T=>?_;have Z:ORow 9 1 M (List.length W) (List.flatMap ag_ W) HW:=by simpa [ag_] using T
 have Y:=hC.pop;have hlk:=dB_ L k;refine Zz 7 ?_;refine e_ (bD_ (k:=k) (adr:=adr) bi_ bz_ bk_ rfl rfl zf) rfl (Zz 5 ?_);refine M_ (ι:={y:Nat×StM×List Str×Value×Hp // y.1≤List.length (lat L k)∧CJ (lat L) [r] k y.1 y.2.1.ks y.2.2.1∧ORow 9 1 y.2.2.2.1 (List.length y.2.2.1) (List.flatMap ag_ y.2.2.1) y.2.2.2.2∧List.length y.2.1.ks+List.length W=List.length s.ks+List.length y.2.2.1}) (fun y=>[(1,.map (some sb)),(4,.map none),(5,.map (some H)),(6,y.1.2.2.2.1),(25,.slice (Prod.fst (adr k)) (List.length (lat L k)) (Prod.snd (adr k))),(26,.int .i64 (List.length (lat L k):Int)),(27,.int .i64 (y.1.1:Int))]) (fun y=>((H,.map y.1.2.1.es y.1.2.1.c)::y.1.2.2.2.2)) (fun y=>[mlF Tryz.prog 9 str ag_ sb L adr]) (fun y=>List.length (lat L k) - y.1.1) ⟨((0:Nat),s,W,M,HW),by simp,Y,Z,rfl⟩ zl zp zh ?_;rintro ⟨⟨j,x,E,G,K⟩,U,P,C,X⟩;dsimp only at U P C X ⊢;have hsl_1:=iw_ x.hE.nd P.rch;have hwk_1:List.length W+1≤List.length s.ks:=by simpa using N
 refine Zi 2 (fun S=>?_) fun S=>?_
 ·refine Zz 6 ?_
  exact w_ ⟨(x,E,G,K),P.done zs_,C,by dsimp only;simp only[List.length_cons]at N;omega⟩ (by dsimp only;have:=iw_ x.hE.nd P.rch;simp only[List.length_cons]at *;omega) zl (j_ d_ ac_) zh
 have B:j<List.length (lat L k):=by omega
 obtain⟨d,A⟩:∃ e_1,(lat L k)[j]? = some e_1:=⟨_,List.getElem?_eq_getElem B⟩;have hmt_1:d∈(lat L k):=List.mem_of_getElem? A;refine Zz 10 ?_;refine e_ (S_ l_ E_ rfl rfl (fun v _ h=>au_ (n:=1) aq_ zw_ (by exact (aV_ h.1 k)) A) zs_ zz_) rfl ?_;refine e_ (bn_ (ad:=(Prod.fst (adr k))) W_ rfl (fun v _ h=>by exact (aV_ h.1 k)) (o_ aq_ A 0 _ rfl)) rfl (Zz 7 ?_);refine B_ (ar_ (bg_ (k:=d) (q:=x.ks) bi_ H_ as_ rfl rfl x.hE (fun v h _=>(h.own _ (List.mem_of_getElem? (i:=0) rfl)).1)) (show _=Value.bool (decide (d∈x.ks)) from congrArg Value.bool (decide_eq_decide.2 Iff.rfl))) rfl fun r_1 e=>e_ (aw_ rfl) rfl (Zz 2 ?_)
 cases r_1
 ·replace e:=zdf e
  refine Zz 5 ?_;refine di_ 0 x bi_ (.inr rfl) H_ rfl rfl rfl rfl (Zz 5 ?_);refine U_ l_ E_ ax_ rfl rfl rfl rfl rfl rfl fun b_3=>?_;refine cQ_ (List.flatMap ag_ [d]) d_ rfl ?_;refine lL_ (n:=List.length E) (m:=List.length [d]) (news:=List.flatMap ag_ [d]) cE_ C rfl rfl zB_ zB_ C_ rfl zf (fun u hu=>aA_ cj_ hu) zaN_ zP_ rfl fun F J a1=>?_;have Q:ORow 9 1 F (List.length (E++[d])) (List.flatMap ag_ (E++[d])) J:=by rw[List.length_append,List.flatMap_append];exact a1
  refine Zz 3 ?_;refine y_ (bb_ aP_) (Zz 5 ?_);exact w_ ⟨(j+1,(StM.add x d),(E++[d]),F,J),B,P.take A fun n=>StM.mem,Q,(by rw[pk_ zag_,List.length_append,List.length_append];simp only[List.length_cons,List.length_nil];omega)⟩ zt_ zl zp (fun _ _ h=>h.2)
 replace e:=zdt e;refine Zz 8 ?_;exact w_ ⟨(j+1,x,E,G,K),B,P.skip A zag_,C,X⟩ zt_ zl zp zh
theorem sI_ (m:List Ax) (lad:Option Addr) (lcap:Nat) (E:∀ x∈m,x.ok) (H:∀ x∈m,x.check=0) (I:m.length≤20) (nm:List Str) (rad:Option Addr) (rcap:Nat) (v:∀ q∈nm,aK_ q=true∧q.length≤140737488351232) (J:nm.length≤100):Tri Tryz.prog 48 #[.slice lad (List.length m) lcap,.slice rad (List.length nm) rcap] [] [ej_ lad m,ci_,ah_ rad (List.flatMap ag_ nm)] (fun _:Unit=>.int .i64 0) (fun _=>[]) (fun _=>[]):=by
 refine i_ Tryz.func48 rfl rfl Tryz.ntmps48 rfl fun G=>?_;refine Zz 9 ?_;refine g_ (ox_ m lad lcap E H zs_) rfl m_ zf rfl fun _=>Zz 6 ?_
 refine e_ (ar_ (ce_ rfl rfl) (show _=Value.bool false from congrArg Value.bool zw_)) rfl (Zz 14 ?_);refine M_ (ι:={y:Nat // y≤List.length nm}) (fun y=>[(4,.int .i64 0),(14,.slice rad (List.length nm) rcap),(15,.int .i64 (List.length nm:Int)),(16,.int .i64 (y.1:Int))]) (fun y=>([])) (fun y=>[ej_ lad m,ci_,ah_ rad (List.flatMap ag_ nm)]) (fun y=>List.length nm - y.1) ⟨(0:Nat),by simp⟩ zl m_ zh ?_;rintro ⟨i,B⟩;dsimp only at B ⊢;refine Zi 2 (fun A=>?_) fun A=>?_
 ·refine Zz 12 ?_
  exact ae_ Tryz.results48 () rfl m_ zt
 have e:i<List.length nm:=by omega
 obtain⟨k,C⟩:∃ F,nm[i]? = some F:=⟨_,List.getElem?_eq_getElem e⟩;have d:k∈nm:=List.mem_of_getElem? C;refine Zz 18 ?_;refine g_ (gF_ _ (v k d).2) rfl m_ zt rfl fun _=>Zi 6 (fun h=>?_) fun h=>?_
 ·refine Zz 10 ?_
  exact w_ ⟨i+1,e⟩ zt_ zl m_ zh
 exfalso;rw[if_pos (v k d).1]at h;exact h rfl
theorem yu_ {l:List Str} {r:Str} (h:l[0]? = some r):l.headD []=r:=by
  cases l with
  | nil=>simp at h
  | cons a l=>simpa using h
theorem lE_ {G:Prop} (h:G:=by
 refine Zz 3 ?_;refine s_ 15 rfl zk (hx_ (k:=B) (dd:=(Ax.role d)) bi_ F (by rw[ee_];exact J) (.inr rfl) bz_ rfl rfl rfl (ec_ (j_ (f_ (c_ d_)) (z_ t_ (c_ C_)))) fun O I=>?_);refine Zz 5 ?_;refine y_ (R_ (f_ d_) (bb_ aP_)) (Zz 5 ?_);exact w_ ⟨(i+1,O),E,(by rw[pa_ H,if_pos G,yu_ m];exact I)⟩ zt_ zl zp zh):G:=h
theorem yX_ (A:List Ax) (lad:Option Addr) (lcap:Nat) (N:∀ x∈A,x.ok) (hC:∀ x∈A,x.check=0) (a2:A.length≤20) (r:Str) (hr:aK_ r=true) (hrl:r.length≤140737488351232):Tri Tryz.prog 17 #[.slice lad (List.length A) lcap,str r] [] [ej_ lad A,ci_] (fun y:{y:List Str×Option Addr×Nat // xk_ A r y.1∧rkS y}=>.tuple #[.slice y.1.2.1 y.1.1.length y.1.2.2,.int .i64 0]) (fun _=>[]) (fun y=>[ah_ y.1.2.1 (y.1.1.flatMap ag_)]):=by
 refine i_ Tryz.func17 rfl rfl Tryz.ntmps17 rfl fun v_1=>?_;refine Zz 11 ?_;refine U_ l_ E_ ax_ rfl rfl rfl rfl rfl rfl fun V=>?_;refine cQ_ (List.flatMap ag_ [r]) d_ rfl ?_;refine g_ (sI_ A lad lcap N hC a2 [r] (some ⟨V,0,none⟩) 1 (fun q hq=>by rw[List.mem_singleton.1 hq];exact⟨hr,hrl⟩) zB_) rfl m_ zf rfl fun _=>?_;refine Zz 6 ?_;refine e_ (ar_ (ce_ rfl rfl) (show _=Value.bool false from congrArg Value.bool zw_)) rfl (Zz 7 ?_);refine aY_ rfl fun L=>Zz 12 ?_
 refine M_ (ι:={y:Nat×Hp // y.1≤List.length A∧cW_ str ag_ 9 1 (gm_ (List.take y.1 A)) L y.2}) (fun y=>[(1,str r),(4,.slice none 0 0),(5,.int .i64 0),(7,.map (some L)),(18,.slice lad (List.length A) lcap),(19,.int .i64 (List.length A:Int)),(20,.int .i64 (y.1.1:Int))]) (fun y=>(y.1.2)) (fun y=>[ah_ (some ⟨V,0,none⟩) (List.flatMap ag_ [r]),ej_ lad A,ci_]) (fun y=>List.length A - y.1.1) ⟨((0:Nat),[(L,.map #[] 0)]),by simp,cW_.nil _ _⟩ zl ac_ zh ?_;rintro ⟨⟨i,HM⟩,T,X⟩;dsimp only at T X ⊢;refine Zi 2 (fun K=>?_) fun K=>?_
 ·refine Zz 7 ?_
  rw[List.take_of_length_le zs_]at X;refine nm_ bi_ X ac_ fun adr=>?_;have hbl:=kC_ A;refine Zz 3 ?_;refine g_ (uL_ r L (gm_ A) adr (by have:=kC_ A;omega)) rfl m_ zf rfl fun⟨⟨cb,cs⟩,P⟩=>?_;dsimp only;dsimp only at P;refine g_ (iU_ cb) rfl m_ zt rfl fun by_=>?_;have Q:List.length cs.ks≤100000000:=by have:=iw_ cs.hE.nd (fun s hs=>(P s).1 hs);omega
  refine g_ (fd_ 96 [zp_ by_ 0] [(by_,.cells #[.map (some cb)] 33 (0,0)),(cb,.map cs.es cs.c)] cs.ks cs.hE.nd Q (iV_ cb by_ cs.c cs.es cs.ks cs.hE.ke cs.hB Q)) rfl zp zt rfl fun⟨⟨Y,a0⟩,R,W,S⟩=>?_;dsimp only;refine Zz 5 ?_;exact kO_ Tryz.results17 ⟨(aS_ cs.ks,Y,a0),⟨gS_ cs.hE.nd,fun t=>by rw[List.mem_mergeSort];exact P t⟩,R,W,S⟩ rfl rfl rfl m_ zf
 obtain⟨E,d,H,e⟩:=zge (show i<List.length A by omega);refine Zz 12 ?_;refine G_ cI_ rfl fun b_3=>u_ 0 br_ rfl rfl rfl rfl rfl rfl (Zi 6 (fun C=>?_) fun C=>?_)
 ·refine Zz 10 ?_
  exact w_ ⟨(i+1,HM),E,(by rw[pa_ H,if_neg C,List.append_nil];exact X)⟩ zt_ zl C_ zh
 have G:=C;have hon:=(Ax.good_of (hC d e)).one G;obtain⟨B,m⟩:∃ B,(Ax.roles d)[0]? = some B:=⟨_,List.getElem?_eq_getElem zs_⟩;have hrc:=(N d e).cap;have hrln:=(N d e).len;refine Zz 3 ?_;have a1:=(show (lat (gm_ (List.take i A)) B).length≤400000000 from Nat.le_trans (dB_ _ _) (by have:=kC_ (List.take i A);have:=List.length_take_le i A;omega));refine mq_ bi_ B X C_ fun es_1 ce_1 ve_1 Hk_1 Hx_1 M F=>?_;refine y_ (R_ d_ (bb_ (f_ aP_))) ?_;refine af_ ((b_3,.cells (Ax.cells d).toArray 42 (0,0))::[]) zk ?_;refine K_ 4 [0,1,2,3,4,5,6,7,8,9,11,12] zk zs (Zz 3 ?_);refine N_ rfl (S_ l_ E_ rfl rfl (fun v _ h=>au_ (n:=1) aq_ zw_ (by exact (h.2.1.2 d e).2.2) m) zs_ zz_) rfl ?_;refine N_ rfl (bn_ (ad:=(Ax.ad d)) W_ rfl (fun v _ h=>by exact (h.2.1.2 d e).2.2) (o_ aq_ m 0 _ rfl)) rfl (Zz 3 ?_);refine N_ rfl (S_ l_ E_ rfl rfl (fun v _ h=>au_ (n:=1) aq_ zw_ (by exact (h.2.1.2 d e).2.2) m) zs_ zz_) rfl ?_;refine N_ rfl (bn_ (ad:=(Ax.ad d)) W_ rfl (fun v _ h=>by exact (h.2.1.2 d e).2.2) (o_ aq_ m 0 _ rfl)) rfl (Zz 3 ?_);refine gG_ 10 13 rfl rfl zk ?_ ?_
 ·refine e_ (eA_ (k:=B) bi_ F bz_ bk_ rfl rfl 0 rfl) rfl (Zz 3 ?_)
  refine s_ 13 rfl zk (U_ l_ E_ ax_ rfl rfl rfl rfl rfl rfl fun a3=>Zz 3 ?_);refine s_ 14 rfl zk (an_ (news:=List.flatMap ag_ [(Ax.role d)]) cE_ M rfl rfl zp rfl (aO_ 0 rfl) (fun u hu=>aA_ cj_ hu) zu_ zx_ rfl fun Z U K=>?_);have J:=zsa K;exact lE_
 refine U_ l_ E_ ax_ rfl rfl rfl rfl rfl rfl fun a3=>Zz 3 ?_
 refine s_ 10 rfl zk (e_ (eA_ (k:=B) bi_ F bz_ bk_ rfl rfl 1 rfl) rfl (Zz 3 ?_));refine s_ 14 rfl zk (an_ (news:=List.flatMap ag_ [(Ax.role d)]) cE_ M rfl rfl zp rfl (aO_ 0 rfl) (fun u hu=>aA_ cj_ hu) zu_ zx_ rfl fun Z U C=>?_);have J:=zsa C;exact lE_
end Go.Proofs.YtpbnmnfdgckaiaaGreatDoor
namespace Go.Proofs.YtpbnmnfdgckaiaaGreatDoor
open Go Go.Sx Go.Proofs
attribute [local irreducible] Code.wp wpList wpAnyH
open Go.Vs Go.Shelf Go.RowKit
theorem uT_ {P:Program} {N:Nf} {fr:Fr} {H:Hp} {Γ:List Fct} {t h ty:TypeId} {x y:Operand} {m n:List UInt8} (k:Fr.ev fr x=some (str m)) (q:Fr.ev fr y=some (str n)):Yld P N fr H Γ (.binOp .gtr t x y h) ty (.bool (decide (n<m))) :=
  fun a v d _ _ _ _ _=>by
    have e:decide (n<m)=!decide (m≤n):=by rw[Bool.eq_iff_iff];simp[List.not_le]
    rw[e,← yK_];simp[execOp,d.ev k,d.ev q,str,eqGuard,binOp,Op.stringOp]
theorem ld_ (x y:Str):Fn0 Tryz.prog 138 #[str x,str y] (.int .i64 (Lib.compareBytes x y)):=by
 refine i_ Tryz.func138 rfl rfl Tryz.ntmps138 rfl fun k=>?_;refine Zz 8 ?_;refine g_ (py_ x) rfl m_ zt rfl fun _=>Zz 6 ?_
 refine g_ (py_ y) rfl m_ zt rfl fun _=>Zi 26 (fun e=>?_) fun e=>?_
 ·refine Zz 10 ?_
  refine B_ (uT_ rfl rfl) rfl fun h d=>Zz 2 ?_
  cases h
  ·replace d:=zdf d
   refine Zz 9 ?_;exact ae_ Tryz.results138 () (cf_ rfl (by rw[pT_,if_neg e,if_neg d])) m_ zt
  replace d:=zdt d;refine Zz 7 ?_;exact ae_ Tryz.results138 () (cf_ rfl (by rw[pT_,if_neg e,if_pos d])) m_ zt
 refine Zz 9 ?_;exact ae_ Tryz.results138 () (cf_ rfl (by rw[pT_,if_pos e])) m_ zt
def hpB (m q:Str):Bool:=decide ((q.length:Int)≤(m.length:Int))&&(m.take q.length==q)
def nls (s:Str):Bool:=!(s.take 1==[123])
theorem yt_ (s:Str):(!(hpB s [123]))=nls s:=by
  unfold hpB nls;cases s with
  | nil=>rfl
  | cons a s=>simp;intro h;omega
theorem uD_ (m q:Str):Fn0 Tryz.prog 88 #[str m,str q] (.bool (hpB m q)):=by
 refine i_ Tryz.func88 rfl rfl Tryz.ntmps88 rfl fun k=>?_;refine Zz 8 ?_;refine e_ (cK_ V_ rfl) rfl (Zz 1 ?_);refine e_ (cK_ V_ rfl) rfl ?_;refine Zi 0 (fun e=>?_) fun e=>?_
 ·refine Zz 12 ?_
  exact ae_ Tryz.results88 () (n_ rfl (by unfold hpB;simp[*])) m_ zt
 refine Zz 6 ?_;refine e_ (cK_ V_ rfl) rfl (aQ_ rfl rfl (e_ (ar_ (eW_ (i:=0) (j:=q.length) (kl:=.i64) (kh:=.i64) V_ rfl rfl rfl (Nat.zero_le _) zs_) (show _=str (List.take (List.length q) m) by simp)) rfl (Zz 3 ?_)));refine B_ (cX_ rfl rfl) rfl fun h d=>Zz 5 ?_
 exact ae_ Tryz.results88 () (n_ rfl (by rw[← d];unfold hpB;simp[*])) m_ zt
theorem uC_ (m q:Str):Fn0 Tryz.prog 42 #[str m,str q] (.bool (hpB m q)):=by
  refine i_ Tryz.func42 rfl rfl Tryz.ntmps42 rfl fun d=>?_;refine Zz 9 ?_;refine g_ (uD_ m q) rfl m_ zt rfl fun _=>Zz 4 ?_
  exact ae_ Tryz.results42 () rfl m_ zt
theorem bJ_ (s:Str):Fn0 Tryz.prog 11 #[str s] (.bool (nls s)):=by
  refine i_ Tryz.func11 rfl rfl Tryz.ntmps11 rfl fun d=>?_;refine Zz 8 ?_;refine g_ (uC_ s [123]) rfl m_ zt rfl fun _=>e_ (aw_ rfl) rfl (Zz 4 ?_)
  exact ae_ Tryz.results11 () (n_ rfl (yt_ s)) m_ zt
theorem wP_ (x y:Fc):Fn0 Tryz.prog 82 #[Fc.val x,Fc.val y] (.int .i64 (hK_ x y)):=by
  refine i_ Tryz.func82 rfl rfl Tryz.ntmps82 rfl fun h=>?_;refine Zz 2 ?_;refine aa_ rfl rfl fun k=>aa_ rfl rfl fun e=>Zz 5 ?_
  refine K_ 9 [0,1,2,3,5,6,7,8,10,11,12,13,15,16,17,18,20,21,22,23,25,26,27,28] zk zs (Zz 25 ?_);refine s_ 4 rfl zk (g_ (hd_ x.kind y.kind) rfl m_ zt rfl fun _=>Zz 3 ?_);refine s_ 9 rfl zk (g_ (ld_ x.a y.a) rfl m_ zt rfl fun _=>Zz 3 ?_);refine s_ 14 rfl zk (g_ (ld_ x.b y.b) rfl m_ zt rfl fun _=>Zz 3 ?_);refine s_ 19 rfl zk (g_ (ld_ x.r y.r) rfl m_ zt rfl fun _=>Zz 3 ?_);refine s_ 24 rfl zk (g_ (hd_ x.lo y.lo) rfl m_ zt rfl fun _=>Zz 3 ?_);refine s_ 29 rfl zk (g_ (hd_ x.hi y.hi) rfl m_ zt rfl fun _=>Zz 3 ?_);refine s_ 30 rfl zk (U_ at_ ak_ kE_ rfl rfl rfl rfl rfl rfl fun d=>?_);refine cQ_ (List.flatMap fF_ [(Lib.compareInt x.kind y.kind),(Lib.compareBytes x.a y.a),(Lib.compareBytes x.b y.b),(Lib.compareBytes x.r y.r),(Lib.compareInt x.lo y.lo),(Lib.compareInt x.hi y.hi)]) d_ rfl ?_;refine Zz 3 ?_;refine s_ 31 rfl zk (g_ (zh_ [(Lib.compareInt x.kind y.kind),(Lib.compareBytes x.a y.a),(Lib.compareBytes x.b y.b),(Lib.compareBytes x.r y.r),(Lib.compareInt x.lo y.lo),(Lib.compareInt x.hi y.hi)] (some ⟨d,0,none⟩) 6 zB_) rfl m_ zf rfl fun _=>Zz 3 ?_);refine K_ 0 [32] zk zs (Zz 5 ?_);exact ae_ Tryz.results82 () (cf_ rfl (by rfl)) m_ zt
theorem wQ_ (l:List Fc) (ad:Option Addr) (cap:Nat) (C:l.length≤cap) (hl:l.length≤1000000000000):Tri Tryz.prog 136 #[.slice ad (List.length l) cap] [] [ah_ ad (List.flatMap Fc.cells l)] (fun y:{y:Value×Hp // zR 36 6 Fc.cells y.1 l y.2}=>y.1.1) (fun y=>y.1.2) (fun _=>[]):=by
 refine i_ Tryz.func136 rfl rfl Tryz.ntmps136 rfl fun E=>?_;refine Zz 9 ?_;refine B_ (mD_ Tryz.underlying26 rfl rfl) rfl fun A d=>Zz 2 ?_
 cases A
 ·replace d:=zdf d
  refine Zz 5 ?_;refine oD_ x_ A_ rfl fun B=>y_ d_ (Zz 1 ?_)
  refine fx_ (news:=List.flatMap Fc.cells l) eg_ (qq_ B 36 6) rfl rfl (fun q=>absurd q d) C ac_ (by rw[dv_ Fc.cells 6 Fc.cells_len]) zf (fun u G=>aA_ Fc.cells_one G) zE_ zs_ rfl fun k e d=>?_;refine y_ List.perm_append_comm ?_;have x:ay_ 36 6 k (List.length (([]:List Fc)++l)) (List.flatMap Fc.cells (([]:List Fc)++l)) e:=by rw[List.length_append,List.flatMap_append];exact d
  refine Zz 4 ?_;exact ae_ Tryz.results136 ⟨(k,e),by simpa using x⟩ rfl ac_ zt
 replace d:=zdt d;refine Zz 7 ?_;refine vS_ (p:=List.flatMap Fc.cells l=[]) (fun v _ h=>by have q:=h.1;subst d;exact qw_ q) fun F=>?_;have m:l=[]:=List.eq_nil_of_length_eq_zero (by have:=congrArg List.length F;rw[dv_ Fc.cells 6 Fc.cells_len,List.length_nil]at this;omega);exact ae_ Tryz.results136 ⟨(.slice none 0 0,[]),by subst m;exact ay_.nil _ _⟩ rfl m_ zt
theorem wO_ (d off size:Nat) (w:World):CmpLays Tryz.prog 82 #[] Fc.cells 6 hK_ d off size w:=fun m os B _ x y=>by
  have h:=(wP_ x y).run ⟨fun _=>False,sortWorldK Fc.cells 6 w d off m B os,False⟩ ⟨by simp,by simp,fun _ h=>h.elim⟩ trivial;refine h.mono ?_;rintro e w' ⟨_,C,rfl,rfl,_,_,v⟩;obtain⟨q,k,A⟩:=ij_ v (fun h=>h);exact⟨rfl,q,k,A⟩
theorem xD_ {sv:Value} {k:List Fc} {Hr:Hp} (h:ay_ 36 6 sv k.length (k.flatMap Fc.cells) Hr) (hl:k.length≤1000000000000) :
    Tri Tryz.prog 78 #[sv,.func (.func 82) #[] #[]] Hr [] (fun _:{y:Hp // ay_ 36 6 sv (eU_ k).length ((eU_ k).flatMap Fc.cells) y}=>.tuple #[]) (fun y=>y.1) (fun _=>[]):=by
  rcases h.2 with⟨rfl,L,rfl⟩|⟨g,cap,cur,rfl,rfl,K,I,E,F⟩
  · obtain rfl:k=[]:=List.eq_nil_of_length_eq_zero L
    have T:=cT_ (P:=Tryz.prog) (H:=[]) (Γ:=[]) (callable Tryz.func78 rfl rfl) (fun v _ _=>(AnyF.slices_SortFunc_none Tryz.sortFc none 0 (.func (.func 82) #[] #[]) v.w).mono zC_);exact⟨T.callable,fun v a b=>(T.run v a b).mono zap_⟩
  · have Q:(k.flatMap Fc.cells).length=k.length*6:=dv_ Fc.cells 6 Fc.cells_len k
    have T:=lG_ (P:=Tryz.prog) (Γ:=[]) (r:=.tuple #[]) (g:=g) (cur:=cur) (T:=36) (d:=((eU_ k).flatMap Fc.cells).toArray) (f:=78) (args:=#[.slice (some ⟨g,0,none⟩) k.length cap,.func (.func 82) #[] #[]]) (callable Tryz.func78 rfl rfl) (fun v M=>by
      have O:=AnyQ.slices_SortFunc_total Tryz.sortFc 6 bB_ A_ Fc.cells Fc.cells_len (fun x u N=>List.all_eq_true.1 x.cells_one u N) hK_ xs_ 82 #[] g 0 cap k.toArray v.w (fun args w=>(callable Tryz.func82 rfl rfl) args w) (wO_ g 0 _ v.w) zaM_ (Array.getElem?_eq_some_iff.1 (M.own _ List.mem_cons_self).1).1 zF_ totF;refine O.mono ?_;rintro e w' ⟨rfl,n,os,rfl⟩;refine⟨rfl,n,os,?_⟩;unfold sortWorldK Sort.putRowK;rw[show ((k.toArray.toList.mergeSort fun x y=>!(ltOf hK_) y x))=eU_ k from rfl,hF_])
    refine⟨T.callable,fun v a b=>(T.run v a b).mono ?_⟩;rintro e w' ⟨x,J,m,C,A,q,B⟩;have G:((eU_ k).flatMap Fc.cells).length=k.length*6:=by rw[dv_ Fc.cells 6 Fc.cells_len,dL_]
    refine⟨⟨_,by rw[G,dL_],.inr ⟨g,cap,_,by rw[dL_],rfl,by rw[dL_];exact K,I,by rw[oz_];exact E,?_⟩⟩,J,m,C,A,q,B⟩;have:=oy_ (cur:=cur) (d:=(eU_ k).flatMap Fc.cells) (by rw[G,E];omega);rw[G]at this;rw[dL_];exact this
theorem sG_ (e:List Fc) (sv:Value) (Hr:Hp) (hr:zR 36 6 Fc.cells sv e Hr) (hl:e.length≤1000000000000):Tri Tryz.prog 137 #[sv] Hr [] (fun y:{y:Value×Hp // zR 36 6 Fc.cells y.1 (cpL (fun x w:Fc=>decide (x=w)) e) y.2}=>y.1.1) (fun y=>y.1.2) (fun _=>[]):=by
 refine i_ Tryz.func137 rfl rfl Tryz.ntmps137 rfl fun v_1=>?_;refine Zz 9 ?_;refine e_ (dJ_ hr x_ rfl) rfl ?_;refine Zi 0 (fun O=>?_) fun O=>?_
 ·refine Zz 12 ?_
  refine M_ (ι:={y:Nat×Value×Hp // y.1+1≤List.length e∧cpL (fun x w:Fc=>decide (x=w)) (List.take (y.1+1) e)=List.take (y.1+1) e∧zR 36 6 Fc.cells y.2.1 e y.2.2}) (fun y=>[(0,y.1.2.1),(3,.int .i64 ((y.1.1+1:Nat):Int))]) (fun y=>(y.1.2.2)) (fun y=>[]) (fun y=>List.length e - y.1.1) ⟨((0:Nat),sv,Hr),zs_,(by obtain⟨t_1,tl,rfl⟩:=List.exists_cons_of_length_pos (show 0<List.length e by omega);rfl),hr⟩ zl ac_ zt ?_;rintro ⟨⟨k,A,J⟩,hk,N,d⟩;dsimp only at hk N d ⊢;refine Zz 5 ?_;refine e_ (dJ_ d x_ rfl) rfl ?_;refine Zi 0 (fun Y=>?_) fun Y=>?_
  ·refine Zz 12 ?_
   have m:cpL (fun x w:Fc=>decide (x=w)) e=e:=(by first|exact oV_ zs_|(have q:=N;rw[List.take_of_length_le zs_]at q;exact q));exact ae_ Tryz.results137 ⟨(A,J),by rw[m];exact d⟩ rfl ac_ zt
  refine Zz 8 ?_;have I:(k+1:Nat)<List.length e:=by omega
  obtain⟨z_1,F⟩:∃ m,e[(k+1:Nat)]? = some m:=⟨_,List.getElem?_eq_getElem I⟩;have hmz_1:z_1∈e:=List.mem_of_getElem? F;have S:k<List.length e:=by omega
  obtain⟨a4,E⟩:∃ m,e[k]? = some m:=⟨_,List.getElem?_eq_getElem S⟩;have hmw_1:a4∈e:=List.mem_of_getElem? E;refine Zz 1 ?_;refine K_ 0 [0,1,2,3,4,5,6,7,8,9] zk zs (Zz 2 ?_);refine N_ rfl (bF_ d x_ A_ rfl rfl zs_ zs_) rfl (N_ rfl (eZ_ d ac_ bB_ A_ rfl (Fc.cells_len _) zw_ (o_ Fc.cells_len F)) rfl (Zz 2 ?_));refine N_ rfl (ar_ (bc_ rfl rfl rfl (cm_ zs_ zs_)) (show _=Value.int .i64 (k:Int) from congrArg _ zs_)) rfl (N_ rfl (bF_ d x_ A_ rfl rfl zs_ zs_) rfl (N_ rfl (eZ_ d ac_ bB_ A_ rfl (Fc.cells_len _) zw_ (o_ Fc.cells_len E)) rfl (fr_ rfl (eB_ rfl rfl) rfl fun a5 B=>Zz 3 ?_)));cases a5
  ·replace B:=zdf B
   refine Zz 5 ?_;refine e_ (ar_ (bc_ rfl rfl rfl (cm_ zs_ zs_)) (show _=Value.int .i64 ((k+1+1:Nat):Int) from congrArg _ zs_)) rfl (Zz 3 ?_);exact w_ ⟨(k+1,A,J),(by have:=I;omega),(wJ_ N E F (by simpa using B)),d⟩ zt_ zl ac_ zt
  replace B:=zdt B;refine Zz 5 ?_;refine e_ (qa_ (k:=(k+1:Nat)) d x_ A_ rfl rfl zs_) rfl (Zz 10 ?_);refine M_ (ι:={y:List Fc×Nat×Nat×Value×Hp // CmI (fun x w:Fc=>decide (x=w)) e y.1 y.2.1 (k+1+y.2.2.1+1)∧zR 36 6 Fc.cells y.2.2.2.1 y.1 y.2.2.2.2}) (fun y=>[(0,y.1.2.2.2.1),(3,.int .i64 (y.1.2.1:Int)),(4,svT y.1.2.2.2.1 (List.length e) (k+1) 6),(5,.int .i64 ((y.1.2.2.1+1:Nat):Int))]) (fun y=>(y.1.2.2.2.2)) (fun y=>[]) (fun y=>List.length e - y.1.2.2.1) ⟨(e,(k+1),(0:Nat),A,J),(CmI.none N E F (by simpa using B)),d⟩ zl ac_ zt ?_;rintro ⟨⟨M,C,h,A,J⟩,K,d⟩;dsimp only at K d ⊢;have hMl:=K.len;have hpl:=K.pl;have hkp:=K.kp;refine Zz 5 ?_;refine e_ (tN_ x_ rfl) rfl ?_;refine Zi 0 (fun a1=>?_) fun a1=>?_
  ·refine Zz 9 ?_
   refine e_ (qa_ (k:=C) d x_ A_ rfl rfl zs_) rfl (sk_ (k:=C) d ac_ x_ Y_ rfl rfl zw_ rfl zs_ fun V zs_1 hz_2 a3=>y_ dS_ (Zz 6 ?_));obtain⟨a0,G,v⟩:=cutRow (P:=Tryz.prog) (k:=C) a3 zs_ zs_;refine e_ (v x_ A_ rfl rfl) rfl (Zz 4 ?_);have W:CmI (fun x w:Fc=>decide (x=w)) e M C (List.length e):=by have q:=K;rw[show k+1+h+1=List.length e by omega]at q;exact q
   have e_2:=W.done;have U:(List.take C M).length=C:=by rw[List.length_take];omega
   exact ae_ Tryz.results137 ⟨(a0,V),by show ay_ 36 6 _ _ _ _;rw[← e_2,U,← pH_ Fc.cells 6 Fc.cells_len];have q:=G;rw[List.take_append_of_le_length (by rw[List.length_take,dv_ Fc.cells 6 Fc.cells_len];omega),List.take_take,Nat.min_self]at q;exact q⟩ rfl ac_ zt
  refine Zz 8 ?_;obtain⟨hlx_1,x_1,L,hmx_1⟩:=zge (show (k+1+h:Nat)<List.length M by omega);have R:(k+1+(h+1):Nat)<List.length M:=by omega
  obtain⟨H,v⟩:∃ m,M[(k+1+(h+1):Nat)]? = some m:=⟨_,List.getElem?_eq_getElem R⟩;have hmy_1:H∈M:=List.mem_of_getElem? v;refine Zz 1 ?_;refine K_ 0 [0,1,2,3,4,5,6,7,8,9] zk zs (Zz 2 ?_);refine N_ rfl (pb_ (j:=(h+1:Nat)) x_ A_ rfl rfl zs_) rfl (N_ rfl (eZ_ d ac_ bB_ A_ rfl (Fc.cells_len _) zw_ (o_ Fc.cells_len v)) rfl (Zz 2 ?_));refine N_ rfl (ar_ (bc_ rfl rfl rfl (cm_ zs_ zs_)) (show _=Value.int .i64 (h:Int) from congrArg _ zs_)) rfl (N_ rfl (pb_ (j:=h) x_ A_ rfl rfl zs_) rfl (N_ rfl (eZ_ d ac_ bB_ A_ rfl (Fc.cells_len _) zw_ (o_ Fc.cells_len L)) rfl (fr_ rfl (gN_ rfl rfl) rfl fun r_2 G=>Zz 3 ?_)));cases r_2
  ·refine Zz 5 ?_
   refine e_ (ar_ (bc_ rfl rfl rfl (cm_ zs_ zs_)) (show _=Value.int .i64 ((h+1+1:Nat):Int) from congrArg _ zs_)) rfl (Zz 3 ?_);exact w_ ⟨(M,C,h+1,A,J),(K.skip L v (by simpa using G)),d⟩ (by have:=K.pl;have:=K.kp;dsimp only;omega) zl ac_ zt
  refine Zz 2 ?_;have T:C<List.length M:=by omega
  obtain⟨o_1,Z⟩:∃ m,M[C]? = some m:=⟨_,List.getElem?_eq_getElem T⟩;have hmo_1:o_1∈M:=List.mem_of_getElem? Z;refine Zz 5 ?_;refine e_ (pb_ (j:=(h+1:Nat)) x_ A_ rfl rfl zs_) rfl (e_ (eZ_ d ac_ bB_ A_ rfl (Fc.cells_len _) zw_ (o_ Fc.cells_len v)) rfl (e_ (bF_ d x_ A_ rfl rfl zs_ zs_) rfl (sj_ (k:=C*6) (us:=Fc.cells H) d ac_ A_ rfl rfl zs_ (Fc.cells_len _) zw_ (Fc.cells_one _) fun Q O=>?_)));have a2:=tw_ Fc.cells 6 Fc.cells_len M C H zs_;have X:ay_ 36 6 A (List.length (List.set M C H)) (List.flatMap Fc.cells (List.set M C H)) Q:=by rw[List.length_set,← a2];exact O
  refine y_ dS_ (Zz 4 ?_);refine e_ (ar_ (bc_ rfl rfl rfl (cm_ zs_ zs_)) (show _=Value.int .i64 ((C+1:Nat):Int) from congrArg _ zs_)) rfl (Zz 5 ?_);refine e_ (ar_ (bc_ rfl rfl rfl (cm_ zs_ zs_)) (show _=Value.int .i64 ((h+1+1:Nat):Int) from congrArg _ zs_)) rfl (Zz 3 ?_);exact w_ ⟨((List.set M C H),C+1,h+1,A,Q),(K.keep L v (by simpa using G)),X⟩ (by have:=K.pl;have:=K.kp;dsimp only;omega) zl ac_ zt
 refine Zz 10 ?_;have m:cpL (fun x w:Fc=>decide (x=w)) e=e:=(by first|exact oV_ zs_|(have q:=N;rw[List.take_of_length_le zs_]at q;exact q));exact ae_ Tryz.results137 ⟨(sv,Hr),by rw[m];exact hr⟩ rfl ac_ zt
end Go.Proofs.YtpbnmnfdgckaiaaGreatDoor
namespace Go.Proofs
open Go.Shelf
def Tryz.sortSt_ren:Go.Shelf.Ren:=⟨fun|6=>140|15=>133|14=>177|28=>172|29=>173|20=>201|21=>202|22=>203|23=>204|24=>205|25=>206|26=>207|27=>208|46=>221|47=>197|48=>198|49=>222|50=>223|57=>248|n=>n,fun|22=>25|24=>9|25=>141|3=>3|39=>44|0=>0|53=>219|55=>221|4=>4|46=>213|45=>212|50=>157|5=>5|9=>9|66=>237|70=>150|76=>261|77=>262|n=>n,fun|n=>n⟩
theorem Tryz.sortSt:Go.Proofs.SlLaysF.n6 Tryz.prog Tryz.sortSt_ren:={
  mixed:=by kernel_rfl
  f6:=⟨Tryz.f140.name,by decide,Tryz.func140.trans (congrArg some zv_)⟩
  f14:=⟨Tryz.f177.name,by decide,Tryz.func177.trans (congrArg some zv_)⟩
  f15:=Tryz.func133.trans (congrArg some zv_)
  f20:=⟨Tryz.f201.name,by decide,Tryz.func201.trans (congrArg some zv_)⟩
  f21:=⟨Tryz.f202.name,by decide,Tryz.func202.trans (congrArg some zv_)⟩
  f22:=⟨Tryz.f203.name,by decide,Tryz.func203.trans (congrArg some zv_)⟩
  f23:=⟨Tryz.f204.name,by decide,Tryz.func204.trans (congrArg some zv_)⟩
  f24:=⟨Tryz.f205.name,by decide,Tryz.func205.trans (congrArg some zv_)⟩
  f25:=⟨Tryz.f206.name,by decide,Tryz.func206.trans (congrArg some zv_)⟩
  f26:=⟨Tryz.f207.name,by decide,Tryz.func207.trans (congrArg some zv_)⟩
  f27:=⟨Tryz.f208.name,by decide,Tryz.func208.trans (congrArg some zv_)⟩
  f28:=Tryz.func172.trans (congrArg some zv_)
  f29:=Tryz.func173.trans (congrArg some zv_)
  f46:=⟨Tryz.f221.name,by decide,Tryz.func221.trans (congrArg some zv_)⟩
  f47:=Tryz.func197.trans (congrArg some zv_)
  f48:=Tryz.func198.trans (congrArg some zv_)
  f49:=⟨Tryz.f222.name,by decide,Tryz.func222.trans (congrArg some zv_)⟩
  f50:=⟨Tryz.f223.name,by decide,Tryz.func223.trans (congrArg some zv_)⟩
  f57:=⟨Tryz.f248.name,by decide,Tryz.func248.trans (congrArg some zv_)⟩
  t0:=Tryz.underlying0
  a0:=Tryz.isAgg0
  z0:=Tryz.sizeOf0
  v0:=Tryz.zeroValue0
  t3:=Tryz.underlying3
  a3:=Tryz.isAgg3
  z3:=Tryz.sizeOf3
  v3:=Tryz.zeroValue3
  t4:=Tryz.underlying4
  a4:=Tryz.isAgg4
  z4:=Tryz.sizeOf4
  v4:=Tryz.zeroValue4
  t5:=Tryz.underlying5
  a5:=Tryz.isAgg5
  z5:=Tryz.sizeOf5
  v5:=Tryz.zeroValue5
  t9:=Tryz.underlying9
  a9:=Tryz.isAgg9
  z9:=Tryz.sizeOf9
  v9:=Tryz.zeroValue9
  t22:=Tryz.underlying25
  a22:=Tryz.isAgg25
  z22:=Tryz.sizeOf25
  v22:=Tryz.zeroValue25
  a24:=Tryz.isAgg9
  z24:=Tryz.sizeOf9
  t25:=Tryz.underlying141
  a25:=Tryz.isAgg141
  z25:=Tryz.sizeOf141
  v25:=Tryz.zeroValue141
  t39:=Tryz.underlying44
  a39:=Tryz.isAgg44
  z39:=Tryz.sizeOf44
  v39:=Tryz.zeroValue44
  t45:=Tryz.underlying212
  a45:=Tryz.isAgg212
  z45:=Tryz.sizeOf212
  v45:=Tryz.zeroValue212
  t46:=Tryz.underlying213
  a46:=Tryz.isAgg213
  z46:=Tryz.sizeOf213
  v46:=Tryz.zeroValue213
  t50:=Tryz.underlying157
  a50:=Tryz.isAgg157
  z50:=Tryz.sizeOf157
  v50:=Tryz.zeroValue157
  t53:=Tryz.underlying219
  a53:=Tryz.isAgg219
  z53:=Tryz.sizeOf219
  v53:=Tryz.zeroValue219
  t55:=Tryz.underlying221
  a55:=Tryz.isAgg221
  z55:=Tryz.sizeOf221
  v55:=Tryz.zeroValue221
  t66:=Tryz.underlying237
  a66:=Tryz.isAgg237
  z66:=Tryz.sizeOf237
  v66:=Tryz.zeroValue237
  t70:=Tryz.underlying150
  a70:=Tryz.isAgg150
  z70:=Tryz.sizeOf150
  v70:=Tryz.zeroValue150
  t76:=Tryz.underlying261
  a76:=Tryz.isAgg261
  z76:=Tryz.sizeOf261
  v76:=Tryz.zeroValue261
  t77:=Tryz.underlying262
  a77:=Tryz.isAgg262
  z77:=Tryz.sizeOf262
  v77:=Tryz.zeroValue262 }
end Go.Proofs
namespace Go.Proofs.YtpbnmnfdgckaiaaGreatDoor
open Go Go.Sx Go.Proofs
attribute [local irreducible] Code.wp wpList wpAnyH
open Go.Vs Go.Shelf Go.RowKit
theorem wN_ (d off size:Nat) (w:World):CmpLays1 Tryz.prog 86 #[] encStr Lib.compareBytes d off size w:=fun m os B _ x y=>by
  have h:=(kv_ x y).run ⟨fun _=>False,sortWorld encStr w d off m B os,False⟩ ⟨by simp,by simp,fun _ h=>h.elim⟩ trivial;refine h.mono ?_;rintro e w' ⟨_,C,rfl,rfl,_,_,v⟩;obtain⟨q,k,A⟩:=ij_ v (fun h=>h);exact⟨rfl,q,k,A⟩
theorem ltS (x y:Str):ltOf Lib.compareBytes x y=decide (x<y):=by unfold ltOf;rw[decide_eq_decide];exact sL_ x y
theorem swoS:Sort.SWO (ltOf Lib.compareBytes) where
  irrefl x:=by rw[ltS];exact decide_eq_false (List.lt_irrefl x)
  trans x y z h1 h2:=by rw[ltS,decide_eq_true_eq]at *;exact List.lt_trans h1 h2
  ntrans x y z h1 h2:=by
    rw[ltS,decide_eq_false_iff_not]at *;exact List.not_lt.2 (List.le_trans (List.not_lt.1 h2) (List.not_lt.1 h1))
theorem totS (x y:Str) (d:ltOf Lib.compareBytes x y=false) (e:ltOf Lib.compareBytes y x=false):x=y:=by
  rw[ltS,decide_eq_false_iff_not]at d e;exact List.le_antisymm (List.not_lt.1 e) (List.not_lt.1 d)
theorem vn_ (d:List Str):(d.mergeSort fun x y=>!(ltOf Lib.compareBytes) y x)=aS_ d:=by
  have e:(fun x y:Str=>!(ltOf Lib.compareBytes) y x)=fun x y=>decide (x≤y):=by
    funext x y
    rw[ltS,Bool.eq_iff_iff];simp[List.not_lt]
  rw[e]
theorem vu_ {sv:Value} {k:List Str} {Hr:Hp} (h:ay_ 9 1 sv k.length (k.flatMap ag_) Hr) (hl:k.length≤1000000000000) :
    Tri Tryz.prog 140 #[sv,.func (.func 86) #[] #[]] Hr [] (fun _:{y:Hp // ay_ 9 1 sv (aS_ k).length ((aS_ k).flatMap ag_) y}=>.tuple #[]) (fun y=>y.1) (fun _=>[]):=by
  rcases h.2 with⟨rfl,L,rfl⟩|⟨g,cap,cur,rfl,rfl,K,I,F,G⟩
  · obtain rfl:k=[]:=List.eq_nil_of_length_eq_zero L
    have T:=cT_ (P:=Tryz.prog) (H:=[]) (Γ:=[]) (callable Tryz.func140 rfl rfl) (fun v _ _=>(AnyF.slices_SortFunc_none { Tryz.sortSt with } none 0 (.func (.func 86) #[] #[]) v.w).mono zC_);exact⟨T.callable,fun v a b=>(T.run v a b).mono (by rintro e w' ⟨x,J,m,E,A,q,C⟩;exact⟨⟨[],by simpa using ay_.nil _ _⟩,J,m,E,A,q,C⟩)⟩
  · have B:(aS_ k).length=k.length:=List.length_mergeSort _
    have T:=jy_ (P:=Tryz.prog) (Γ:=[]) (r:=.tuple #[]) (g:=g) (cur:=cur) (f:=140) (args:=#[.slice (some ⟨g,0,none⟩) k.length cap,.func (.func 86) #[] #[]]) (d:=(aS_ k).toArray) (callable Tryz.func140 rfl rfl) (fun v M=>by
      have N:=Any.slices_SortFunc_total Tryz.sortSt encStr (fun x=>rfl) Lib.compareBytes swoS 86 #[] g 0 cap k.toArray v.w (fun args w=>(callable Tryz.func86 rfl rfl) args w) (wN_ g 0 _ v.w) (kZ_ (n:=0) (cap:=0) M G) (Array.getElem?_eq_some_iff.1 (M.own _ List.mem_cons_self).1).1 zF_ totS;refine N.mono ?_;rintro e w' ⟨rfl,n,os,rfl⟩;exact⟨rfl,n,os,by rw[show k.toArray.toList=k from rfl,vn_];rfl⟩)
    refine⟨T.callable,fun v a b=>(T.run v a b).mono ?_⟩;rintro e w' ⟨x,J,m,E,A,q,C⟩;refine⟨⟨_,by rw[dv_ ag_ 1 aq_],.inr ⟨g,cap,_,by rw[B],rfl,by rw[B];exact K,I,by rw[nc_];exact F,?_⟩⟩,J,m,E,A,q,C⟩;have:=nb_ (cur:=cur) (d:=aS_ k) (by rw[B,F];omega);rw[Nat.mul_one];exact this
def hr_ (xs:List Fc):List Fc:=cpL (fun x w=>decide (x=w)) (eU_ xs)
theorem gT_ (l:List Fc) (ad:Option Addr) (cap:Nat) (E:l.length≤cap) (hl:l.length≤1000000000000):Tri Tryz.prog 81 #[.slice ad (List.length l) cap,.func (.func 82) #[] #[]] [] [ah_ ad (List.flatMap Fc.cells l)] (fun y:{y:Option Addr×Nat // ((hr_ l)).length≤y.2∧y.2≤maxLen∧(y.1=none→y.2=0)}=>.slice y.1.1 ((hr_ l)).length y.1.2) (fun _=>[]) (fun y=>[ah_ y.1.1 (((hr_ l)).flatMap Fc.cells)]):=by
  refine i_ Tryz.func81 rfl rfl Tryz.ntmps81 rfl fun G=>?_;refine Zz 8 ?_;refine g_ (wQ_ l ad cap E zs_) rfl m_ zf rfl fun⟨⟨C,I⟩,v⟩=>?_;dsimp only;dsimp only at v;simp only[List.append_nil];refine Zz 7 ?_;refine g_ (xD_ v zs_) rfl ac_ zt rfl fun⟨B,A⟩=>?_;dsimp only;simp only[List.append_nil];refine Zz 5 ?_;refine g_ (sG_ (eU_ l) C B A (by rw[dL_];omega)) rfl ac_ zt rfl fun⟨⟨F,H⟩,q⟩=>?_;dsimp only;dsimp only at q;simp only[List.append_nil];refine Zz 4 ?_;refine bl_ q ac_ fun m x k d e h=>?_;exact ae_ Tryz.results81 ⟨(m,x),d,e,h⟩ (fM_ rfl k) m_ zf
theorem rW_ (l:List Str) (ad:Option Addr) (cap:Nat) (B:l.length≤cap) (hl:l.length≤1000000):Tri Tryz.prog 85 #[.slice ad (List.length l) cap,.func (.func 86) #[] #[]] [] [ah_ ad (List.flatMap ag_ l)] (fun y:{y:Option Addr×Nat // ((Lib.compact (aS_ l))).length≤y.2∧y.2≤maxLen∧(y.1=none→y.2=0)}=>.slice y.1.1 ((Lib.compact (aS_ l))).length y.1.2) (fun _=>[]) (fun y=>[ah_ y.1.1 (((Lib.compact (aS_ l))).flatMap ag_)]):=by
  refine i_ Tryz.func85 rfl rfl Tryz.ntmps85 rfl fun E=>?_;refine Zz 8 ?_;refine g_ (nR_ l ad cap B zs_) rfl m_ zf rfl fun⟨⟨I,G⟩,v⟩=>?_;dsimp only;dsimp only at v;simp only[List.append_nil];refine Zz 7 ?_;refine g_ (vu_ v zs_) rfl ac_ zt rfl fun⟨H,A⟩=>?_;dsimp only;simp only[List.append_nil];refine Zz 5 ?_;refine g_ (jM_ A (by rw[List.length_mergeSort];omega)) rfl ac_ zt rfl fun⟨⟨C,F⟩,q⟩=>?_;dsimp only;dsimp only at q;simp only[List.append_nil];refine Zz 4 ?_;refine bl_ q ac_ fun m x k d e h=>?_;exact ae_ Tryz.results85 ⟨(m,x),d,e,h⟩ (fM_ rfl k) m_ zf
end Go.Proofs.YtpbnmnfdgckaiaaGreatDoor
namespace Go.Vs
open Go Go.Sx
def frL (p:List Pc):List (Thg×Pc):=p.map fun y=>(⟨y.kind,y.a⟩,y)
theorem wz_ {p:List Pc} {i:Nat} {x:Pc} (h:p[i]? = some x):frL (p.take (i+1))=frL (p.take i)++[(⟨x.kind,x.a⟩,x)]:=by
  unfold frL;rw[tk1 h,List.map_append];rfl
theorem pG_ (p:List Pc):(frL p).length=p.length:=List.length_map _
def sF_ (p:List Pc) (f:Fc):List (Str×Fc):=if f.kind=1 then (lat (frL p) ⟨3,f.b⟩).map fun y=>(f.a,ab_ f.a y.r y.c) else []
def dz_ (p:List Pc) (F:List Fc):List (Str×Fc):=F.flatMap (sF_ p)
theorem oU_ {p:List Pc} {F:List Fc} {i:Nat} {f:Fc} (h:F[i]? = some f):dz_ p (F.take (i+1))=dz_ p (F.take i)++sF_ p f:=by
  unfold dz_;rw[tk1 h,List.flatMap_append];simp
theorem wG_ (p:List Pc) (f:Fc):(sF_ p f).length≤p.length:=by
 unfold sF_
 split
 ·rw[List.length_map];have:=dB_ (frL p) ⟨3,f.b⟩;rw[pG_]at this;exact this
 simp
theorem iH_ {p:List Pc} (F:List Fc):(dz_ p F).length≤F.length*p.length:=by
  induction F with
  | nil=>simp[dz_]
  | cons f F ih =>
    unfold dz_ at ih ⊢;rw[List.flatMap_cons,List.length_append,List.length_cons,Nat.add_mul];have:=wG_ p f;omega
theorem rs_ {p:List Pc} {F:List Fc} {s:Str} {z:Fc}:(s,z)∈dz_ p F↔∃ f∈F,∃ y∈p,f.kind=1∧y.kind=3∧y.a=f.b∧s=f.a∧z=ab_ f.a y.r y.c:=by
 unfold dz_ sF_;rw[List.mem_flatMap];constructor
 ·rintro ⟨f,q,h⟩
  split at h
  ·rename_i hk
   obtain⟨y,d,e⟩:=List.mem_map.1 h;rw[bM_]at d;obtain⟨A,v,x⟩:=List.mem_map.1 d;simp only[Prod.mk.injEq,Thg.mk.injEq]at e x;obtain⟨⟨k,m⟩,rfl⟩:=x;exact⟨f,q,A,v,hk,k,m,e.1.symm,e.2.symm⟩
  simp at h
 rintro ⟨f,q,y,d,hk,k,m,rfl,rfl⟩;refine⟨f,q,?_⟩;rw[if_pos hk];exact List.mem_map.2 ⟨y,bM_.2 (List.mem_map.2 ⟨y,d,by rw[k,m]⟩),rfl⟩
def nxD (D:List (Str×Fc)) (s:Str):List Str:=(lat D s).map Fc.b
theorem vU_ {D:List (Str×Fc)} {s:Str} {j:Nat} {z:Fc} (h:(lat D s)[j]? = some z):(nxD D s)[j]? = some z.b:=by unfold nxD;rw[List.getElem?_map,h];rfl
structure NmI (I K N:List Str):Prop where
  mem:∀ s,s∈K↔s∈I∨s∈N
  nd:N.Nodup
  dj:∀ s∈N,s ∉ I
theorem NmI.init {I K:List Str} (h:∀ n,n∈K↔n∈I):NmI I K []:=⟨fun s=>by rw[h];simp,List.nodup_nil,by simp⟩
theorem NmI.take {I K v N:List Str} {t:Str} (h:NmI I K N) (k:t ∉ K) (y:∀ n,n∈v↔n∈K∨n=t):NmI I v (N++[t]) :=
 ⟨fun s=>by rw[y,h.mem,List.mem_append,List.mem_singleton,or_assoc],by
   rw[List.nodup_append];exact⟨h.nd,by simp,fun a x b m=>by rw[List.mem_singleton]at m;subst m;intro e;subst e;exact k ((h.mem a).2 (.inr x))⟩,
  fun s d q=>by
   rw[List.mem_append,List.mem_singleton]at d;rcases d with d|rfl
   · exact h.dj s d q
   · exact k ((h.mem s).2 (.inl q))⟩
theorem NmI.len {I K N:List Str} (h:NmI I K N):N.length≤K.length:=cS_ h.nd fun s d=>(h.mem s).2 (.inr d)
def oh_ (D:List (Str×Fc)) (I X:List Str):Prop:=∃ N:List Str,N.Nodup∧X=I++aS_ N∧(∀ s∈N,s ∉ I)∧∀ s,(s∈I∨s∈N)↔RchS (nxD D) I s
theorem oh_.mem {D:List (Str×Fc)} {I X:List Str} (h:oh_ D I X) (s:Str):s∈X↔RchS (nxD D) I s:=by
  obtain⟨N,_,rfl,_,h⟩:=h;rw[← h,List.mem_append,List.mem_mergeSort]
theorem oh_.uniq {D:List (Str×Fc)} {I X Y:List Str} (h:oh_ D I X) (g:oh_ D I Y):X=Y:=by
  obtain⟨N,k,rfl,v,d⟩:=h;obtain⟨M,x,rfl,m,e⟩:=g
  rw[show aS_ N=aS_ M from gv_ (gS_ k) (gS_ x) fun s=>by
    rw[List.mem_mergeSort,List.mem_mergeSort];exact⟨fun q=>((e s).2 ((d s).1 (.inr q))).resolve_left (v s q),fun q=>((d s).2 ((e s).1 (.inr q))).resolve_left (m s q)⟩]
end Go.Vs
namespace Go.Proofs.YtpbnmnfdgckaiaaGreatDoor
open Go Go.Sx Go.Proofs
attribute [local irreducible] Code.wp wpList wpAnyH
open Go.Vs
theorem tf_:hX_ Tryz.prog 190 [(0,1),(1,1)] [.int .i64 0,str []]:=⟨_,Tryz.zeroValue190,Tryz.runUnderlying190,fun w=>by simp[ak_,E_]⟩
theorem eqTh (p q:Thg) (w:World):(Op.equalIn 10000 190 (Thg.val p) (Thg.val q)).run Tryz.prog w=.ok (decide (p=q)) w:=by
  have h:=run_equalIn_struct (P:=Tryz.prog) w 9999 190 (Thg.cells p).toArray (Thg.cells q).toArray (by simp only[Program.fieldsOf,Tryz.underlying190]) Tryz.stoodInHeld190;refine h.trans ?_;rw[← Thg.eqb_eq];simp only[Program.fieldsOf,Tryz.underlying190];exact bO_ rfl aN_ rfl rfl (eqI p_ w) (bO_ rfl W_ rfl rfl (eqS aF_ w) (kq_ w))
theorem okTh (p:Thg):hg_ Tryz.prog 190 (Thg.val p):=fun e w=>by
 have hi:∀ (n:Int) (w:World),(Instr.checkKey e (9998+1) 3 (.int .i64 n)).run Tryz.prog w=.ok () w:=fun n w=>MapKept.run_checkKey (d:=.int .i64) p_ zaA_ e 9998
 have k:∀ (n:Str) (w:World),(Instr.checkKey e (9998+1) 9 (str n)).run Tryz.prog w=.ok () w:=fun n w=>MapKept.run_checkKey (d:=.string) aF_ zaq_ e 9998
 refine ckF (n:=9999) Tryz.underlying190 fun f h=>?_;simp only[List.mem_cons,List.not_mem_nil,or_false]at h;rcases h with rfl|rfl
 ·exact⟨rfl,aN_,_,rfl,hi _⟩
 exact⟨rfl,W_,_,rfl,k _⟩
theorem wg_:KeyT Tryz.prog 190 Thg.val:=fy_ (K:=Thg) Tryz.underlying190 okTh (fun p q w=>eqTh p q w) fun k=>it_ (l:=Thg.cells k) fun v d=>by
 simp only[Thg.cells,List.mem_cons,List.not_mem_nil,or_false]at d;rcases d with rfl|rfl
 ·exact en_ _ _
 exact dl_ _ _
theorem lD_ {G:Prop} (h:G:=by
 refine Zz 3 ?_;refine s_ 16 rfl zk (hx_ (k:=d.a) (dd:=(Fc.mk 2 d.a e.c e.r 0 0)) bi_ q (by rw[ee_];exact G) (.inr rfl) jl_ rfl rfl rfl (ec_ (j_ (f_ (c_ d_)) (z_ t_ (c_ (c_ C_))))) fun R E=>?_);refine Zz 5 ?_;refine y_ (R_ (f_ d_) (R_ (f_ d_) (bb_ aP_))) (Zz 5 ?_);exact w_ ⟨(j+1,R),I,(by rw[tk1 A,List.map_append,← List.append_assoc];exact E)⟩ zt_ zl zp zh):G:=h
theorem sE_ (p:List Pc) (x:Option Addr) (N:Nat) (F:List Fc) (fad:Option Addr) (fcap:Nat) (hp:p.length≤12000) (hF:F.length≤65536):Tri Tryz.prog 83 #[.slice x (List.length p) N,.slice fad (List.length F) fcap] [] [ah_ x (List.flatMap Pc.cells p),ah_ fad (List.flatMap Fc.cells F)] (fun y:{y:Nat×Hp // cW_ str Fc.cells 36 6 (dz_ p F) y.1 y.2}=>.map (some y.1.1)) (fun y=>y.1.2) (fun _=>[]):=by
 refine i_ Tryz.func83 rfl rfl Tryz.ntmps83 rfl fun v_1=>?_;refine Zz 7 ?_;refine aY_ rfl fun H=>Zz 12 ?_
 refine M_ (ι:={y:Nat×Hp // y.1≤List.length p∧cW_ Thg.val Pc.cells 174 10 (frL (List.take y.1 p)) H y.2}) (fun y=>[(1,.slice fad (List.length F) fcap),(4,.map none),(5,.map (some H)),(14,.slice x (List.length p) N),(15,.int .i64 (List.length p:Int)),(16,.int .i64 (y.1.1:Int))]) (fun y=>(y.1.2)) (fun y=>[ah_ x (List.flatMap Pc.cells p),ah_ fad (List.flatMap Fc.cells F)]) (fun y=>List.length p - y.1.1) ⟨((0:Nat),[(H,.map #[] 0)]),by simp,cW_.nil _ _⟩ zl ac_ zh ?_;rintro ⟨⟨i,HA⟩,a1,hA⟩;dsimp only at a1 hA ⊢;refine Zi 2 (fun S=>?_) fun S=>?_
 ·refine Zz 7 ?_
  rw[List.take_of_length_le zs_]at hA;refine nm_ wg_ hA ac_ fun adr=>?_;refine aG_ (aY_ rfl fun K=>Zz 12 ?_);refine M_ (ι:={y:Nat×Hp // y.1≤List.length F∧cW_ str Fc.cells 36 6 (dz_ p (List.take y.1 F)) K y.2}) (fun y=>[(1,.slice fad (List.length F) fcap),(4,.map (some K)),(5,.map (some H)),(14,.slice x (List.length p) N),(15,.int .i64 (List.length p:Int)),(16,.int .i64 (i:Int)),(35,.slice fad (List.length F) fcap),(36,.int .i64 (List.length F:Int)),(37,.int .i64 (y.1.1:Int))]) (fun y=>(y.1.2)) (fun y=>[mlF Tryz.prog 190 Thg.val Pc.cells H (frL p) adr,ah_ x (List.flatMap Pc.cells p),ah_ fad (List.flatMap Fc.cells F)]) (fun y=>List.length F - y.1.1) ⟨((0:Nat),[(K,.map #[] 0)]),by simp,cW_.nil _ _⟩ zl ac_ zh ?_;rintro ⟨⟨m,HB⟩,V,hB⟩;dsimp only at V hB ⊢;refine Zi 2 (fun B=>?_) fun B=>?_
  ·refine Zz 13 ?_
   rw[List.take_of_length_le zs_]at hB;exact ae_ Tryz.results83 ⟨(K,HB),hB⟩ rfl ac_ zt
  have J:m<List.length F:=by omega
  obtain⟨d,Q⟩:∃ X,F[m]? = some X:=⟨_,List.getElem?_eq_getElem J⟩;have hmf_1:d∈F:=List.mem_of_getElem? Q;refine Zz 12 ?_;refine G_ Y_ rfl fun T=>u_ 0 A_ rfl rfl rfl rfl rfl rfl (Zi 7 (fun P=>?_) fun P=>?_)
  ·have O:Fc.kind d=1:=by simpa using P
   refine Zz 10 ?_;refine e_ (I_ tf_ rfl rfl) rfl (e_ (bD_ (k:=(Thg.mk 3 d.b)) (adr:=adr) wg_ Tryz.runUnderlying188 bT_ rfl rfl zf) rfl (Zz 5 ?_));have hql:List.length (lat (frL p) (Thg.mk 3 d.b))≤List.length p:=by have:=dB_ (frL p) (Thg.mk 3 d.b);rw[pG_]at this;exact this
   refine M_ (ι:={y:Nat×Hp // y.1≤List.length (lat (frL p) (Thg.mk 3 d.b))∧cW_ str Fc.cells 36 6 ((dz_ p (List.take m F))++List.map (fun y=>(Fc.a d,ab_ d.a y.r y.c)) (List.take y.1 (lat (frL p) (Thg.mk 3 d.b)))) K y.2}) (fun y=>[(1,.slice fad (List.length F) fcap),(4,.map (some K)),(5,.map (some H)),(14,.slice x (List.length p) N),(15,.int .i64 (List.length p:Int)),(16,.int .i64 (i:Int)),(35,.slice fad (List.length F) fcap),(36,.int .i64 (List.length F:Int)),(37,.int .i64 (m:Int)),(10,zp_ T 0),(48,.slice (Prod.fst (adr (Thg.mk 3 d.b))) (List.length (lat (frL p) (Thg.mk 3 d.b))) (Prod.snd (adr (Thg.mk 3 d.b)))),(49,.int .i64 (List.length (lat (frL p) (Thg.mk 3 d.b)):Int)),(50,.int .i64 (y.1.1:Int))]) (fun y=>((T,.cells #[.int .i64 d.kind,str d.a,str d.b,str d.r,.int .i64 d.lo,.int .i64 d.hi] 36 (0,0))::y.1.2)) (fun y=>[mlF Tryz.prog 190 Thg.val Pc.cells H (frL p) adr,ah_ x (List.flatMap Pc.cells p),ah_ fad (List.flatMap Fc.cells F)]) (fun y=>List.length (lat (frL p) (Thg.mk 3 d.b)) - y.1.1) ⟨((0:Nat),HB),by simp,(by rw[List.take_zero,List.map_nil,List.append_nil];exact hB)⟩ zl zp zh ?_;rintro ⟨⟨j,HB⟩,hi_j,M⟩;dsimp only at hi_j M ⊢;have hdl:List.length ((dz_ p (List.take m F))++List.map (fun y=>(Fc.a d,ab_ d.a y.r y.c)) (List.take j (lat (frL p) (Thg.mk 3 d.b))))≤1000000000:=by have h_1:=iH_ (p:=p) (List.take m F);have h_2:=List.length_take_le m F;have h_3:=List.length_take_le j (lat (frL p) (Thg.mk 3 d.b));have h_4:=Nat.mul_le_mul (Nat.le_trans (Nat.le_trans h_2 V) hF) hp;rw[List.length_append,List.length_map];omega
   refine Zi 2 (fun hr_4=>?_) fun hr_4=>?_
   ·refine Zz 11 ?_
    exact w_ ⟨(m+1,HB),J,(by rw[oU_ Q,sF_,if_pos O];rw[List.take_of_length_le (l:=(lat (frL p) (Thg.mk 3 d.b))) zs_]at M;exact M)⟩ zt_ zl C_ zh
   have I:j<List.length (lat (frL p) (Thg.mk 3 d.b)):=by omega
   obtain⟨e,A⟩:∃ X,(lat (frL p) (Thg.mk 3 d.b))[j]? = some X:=⟨_,List.getElem?_eq_getElem I⟩;have hmy_1:e∈(lat (frL p) (Thg.mk 3 d.b)):=List.mem_of_getElem? A;refine Zz 10 ?_;refine e_ (S_ D_ F_ rfl rfl (fun v _ h=>au_ (n:=10) Pc.cells_len zw_ (by exact (aV_ h.1 (Thg.mk 3 d.b))) A) zs_ zz_) rfl ?_;refine e_ (aj_ (ad:=(Prod.fst (adr (Thg.mk 3 d.b)))) (us:=Pc.cells e) dy_ F_ rfl (fun v _ h=>by exact (aV_ h.1 (Thg.mk 3 d.b))) (Pc.cells_len _) (o_ Pc.cells_len A)) rfl (G_ P_ rfl fun a6=>u_ 0 F_ rfl rfl rfl rfl rfl rfl (Zz 2 ?_));have Y:=(show (lat ((dz_ p (List.take m F))++List.map (fun y=>(Fc.a d,ab_ d.a y.r y.c)) (List.take j (lat (frL p) (Thg.mk 3 d.b)))) d.a).length≤1000000000 from Nat.le_trans (dB_ _ _) hdl);refine mq_ bi_ d.a M (c_ C_) fun es_1 a5 a2 a3 a0 L q=>?_;refine y_ (R_ d_ (R_ (f_ (f_ d_)) (bb_ (f_ aP_)))) ?_;refine af_ ((a6,.cells #[.int .i64 e.kind,str e.a,str e.b,str e.c,str e.r,str e.s,str e.t,.int .i64 e.lo,.int .i64 e.hi,.int .i64 e.frm] 174 (0,0))::((T,.cells #[.int .i64 d.kind,str d.a,str d.b,str d.r,.int .i64 d.lo,.int .i64 d.hi] 36 (0,0))::[])) zk ?_;refine K_ 4 [0,1,2,3,4,5,7,8,9,10,11,12,13] zk zs (Zz 12 ?_);refine N_ rfl (I_ eI_ rfl rfl) rfl (bv_ ?_);refine gG_ 6 14 rfl rfl zk ?_ ?_
   ·refine e_ (eA_ (k:=d.a) bi_ q jl_ dV_ rfl rfl 0 rfl) rfl (Zz 3 ?_)
    refine s_ 14 rfl zk (U_ x_ A_ Y_ rfl rfl rfl rfl rfl rfl fun b_5=>Zz 3 ?_);refine s_ 15 rfl zk (an_ (news:=List.flatMap Fc.cells [(Fc.mk 2 d.a e.c e.r 0 0)]) eg_ L rfl rfl zp rfl (aO_ 0 rfl) (fun u hu=>aA_ Fc.cells_one hu) zu_ zx_ rfl fun W U S=>?_);have G:=zsa S;exact lD_
   refine U_ x_ A_ Y_ rfl rfl rfl rfl rfl rfl fun b_5=>Zz 3 ?_
   refine s_ 6 rfl zk (e_ (eA_ (k:=d.a) bi_ q jl_ dV_ rfl rfl 1 rfl) rfl (Zz 3 ?_));refine s_ 15 rfl zk (an_ (news:=List.flatMap Fc.cells [(Fc.mk 2 d.a e.c e.r 0 0)]) eg_ L rfl rfl zp rfl (aO_ 0 rfl) (fun u hu=>aA_ Fc.cells_one hu) zu_ zx_ rfl fun W U B=>?_);have G:=zsa B;exact lD_
  have O:¬ Fc.kind d=1:=by simpa using P
  refine Zz 10 ?_;exact w_ ⟨(m+1,HB),J,(by rw[oU_ Q,sF_,if_neg O,List.append_nil];exact hB)⟩ zt_ zl C_ zh
 obtain⟨Z,C,a4,hmx_1⟩:=zge (show i<List.length p by omega);refine Zz 12 ?_;refine G_ P_ rfl fun K=>u_ 0 F_ rfl rfl rfl rfl rfl rfl (Zz 8 ?_)
 refine e_ (I_ tf_ rfl rfl) rfl (G_ Tryz.zeroValue190 rfl fun T=>u_ 0 Tryz.sizeOf190 rfl rfl rfl rfl rfl rfl (Zz 6 ?_));refine U_ D_ F_ P_ rfl rfl rfl rfl rfl rfl fun a6=>?_;have Y:=(show (lat (frL (List.take i p)) (Thg.mk C.kind C.a)).length≤400000000 from Nat.le_trans (dB_ _ _) (by rw[pG_,List.length_take];omega));refine fk_ (k:=(Thg.mk C.kind C.a)) wg_ hA Tryz.runUnderlying188 bT_ rfl rfl (c_ (c_ C_)) rfl fun es_1 a5 ie_1 se_1 a2 a3 a0 q L=>Zz 1 ?_
 refine an_ (news:=List.flatMap Pc.cells [C]) wE_ L rfl rfl zp rfl (fh_ zp) (fun u hu=>aA_ Pc.cells_one hu) zu_ zx_ rfl fun W U B=>?_;have G:=zsa B;refine Zz 1 ?_;refine cZ_ (k:=(Thg.mk C.kind C.a)) (dd:=C) q (by rw[ee_];exact G) rfl rfl rfl (ec_ (j_ (f_ d_) (z_ t_ t_))) fun R E=>?_;refine Zz 2 ?_;refine y_ (R_ (f_ d_) (R_ (f_ d_) (bb_ aP_))) (Zz 5 ?_);exact w_ ⟨(i+1,R),Z,(by rw[wz_ a4];exact E)⟩ zt_ zl zp zh
end Go.Proofs.YtpbnmnfdgckaiaaGreatDoor
