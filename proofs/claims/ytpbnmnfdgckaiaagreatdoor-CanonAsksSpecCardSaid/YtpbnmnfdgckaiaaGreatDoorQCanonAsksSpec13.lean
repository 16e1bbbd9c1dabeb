/-
  Part of the proof of the law CanonAsksSpec over this seat: the small logic, the data, the contracts of functions (no condition).
-/
import Derived.Test.YtpbnmnfdgckaiaaGreatDoorQCanonAsksSpec12
import Derived.Test.YtpbnmnfdgckaiaaGreatDoorQCanonAsksSpec11
import Derived.Test.YtpbnmnfdgckaiaaGreatDoorQCanonAsksSpec8
import Derived.Test.YtpbnmnfdgckaiaaGreatDoorQCanonAsksSpec7
import Derived.Test.YtpbnmnfdgckaiaaGreatDoorQCanonAsksSpec6
import Derived.Test.YtpbnmnfdgckaiaaGreatDoorQCanonAsksSpec10
import Derived.Shelf.SlSortCmp.NoneTotal
import Derived.Test.YtpbnmnfdgckaiaaGreatDoorProg
set_option linter.unusedVariables false
set_option linter.unusedSimpArgs false
set_option linter.unusedSectionVars false
set_option maxHeartbeats 1000000
namespace Go.Proofs.YtpbnmnfdgckaiaaGreatDoor
open Go Go.Sx Go.Proofs
attribute [local irreducible] Code.wp wpList wpAnyH
open Go.Vs
theorem xj_:iC_ Tryz.prog 133 [(0,1),(1,1),(2,1),(3,1)] [.slice none 0 0,.slice none 0 0,.slice none 0 0,.slice none 0 0]:=⟨_,Tryz.zeroValue133,cy_,fun w=>by simp[ck_]⟩
theorem vQ_ {A B:Hp} {l D:Nat} {r:Loop} {Ds:List Nat}:(B++(mkH Ds++A)++HLp l D r).Perm ((mkH (D::Ds)++A)++(B++[(l,.loop r)])):=by
  have d:(B++(mkH Ds++A)++HLp l D r).Perm ((mkH Ds++A)++B++HLp l D r):=List.Perm.append_right _ List.perm_append_comm;have e:(mkH Ds++A)++B++HLp l D r=((mkH Ds++A)++(B++[(l,.loop r)]))++[(D,.deferred (some []))]:=by simp[HLp]
  rw[e]at d;exact d.trans List.perm_append_comm
theorem dT_ {P:Program} {N:Nf} {L:Vw} {G H:Hp} {R:Exit→Act→World→Prop} {M:List Kt} {fr:Fr} {Γ:List Fct} {h:Array Oper} {lo:List Oper} {ty:TypeId} {ps:String} {U:Array Edge} {o:Op} {t Q T:TypeId} {x y z:Operand} {b:Nat} (n:Nat) (s:StM) {k:Str} (B:KeyT P Q str) (J:o=.insert t x y z∨o=.mapUpdate t x y z) (S:∀ w,(underlying t).run P w=.ok (.map Q T) w)
    (K:Fr.ev fr x=some (.map (some b))) (I:Fr.ev fr y=some (str k)) (O:Fr.ev fr z=some (.bool true)) (hi:H[n]? = some (b,.map s.es s.c))
    (d:Ops P R N L G h lo M fr (H.set n (b,.map (s.add k).es (s.add k).c)) Γ):Ops P R N L G h (⟨none,o,ty,ps,U,none⟩::lo) M fr H Γ:=by
  by_cases hk:k∈s.ks
  · have F:s.add k=s:=by unfold StM.add;rw[dif_pos hk]
    rw[F]at d;obtain⟨i,e,V,q,A,E,C⟩:=s.hE.yes B hk;refine hq_ (e:=e) (i:=i) (u:=.bool true) (u':=.bool true) n B J S K I O hi C q A ?_;rw[ir_ q A E];exact d
  · have F:s.add k=⟨s.es.push ⟨str k,.bool true,s.c⟩,s.c+1,s.ks++[k],s.hE.push hk s.c,s.hB.push _ _⟩:=by unfold StM.add;rw[dif_neg hk]
    rw[F]at d;exact aS_ n J S K I O hi (B.ok _) (s.hE.no B hk) d
theorem yV_ {x:Ax} (h:x.check=0):x.roles.length≤4:=by
 unfold Ax.check at h
 split at h
 ·cases h
 rename_i q
 clear h;simp only[Bool.not_eq_false]at q;unfold Ax.shaped at q
 split at q
 ·cases q
 rename_i A
 simp only[not_or]at A;have y:x.kind=1∨x.kind=2∨x.kind=3∨x.kind=4∨x.kind=5∨x.kind=6∨x.kind=7∨x.kind=8∨x.kind=9:=by omega
 simp only[Bool.and_eq_true,decide_eq_true_eq]at q;have d:=q.2;rcases y with e|e|e|e|e|e|e|e|e<;>rw[e]at d<;>simp[us,tD_]at d<;>first|omega|(rw[d];decide)
def rkS (r:List Str×Option Addr×Nat):Prop:=r.1.length≤r.2.2∧r.2.2≤maxLen∧(r.2.1=none→r.2.2=0)
set_option maxHeartbeats 1000000 in
theorem voc_c (P:List Ax) (lad:Option Addr) (lcap:Nat) (hok:∀ x∈P,x.ok) (hC:∀ x∈P,x.check=0) (hll:P.length≤20):Tri Tryz.prog 80 #[.slice lad (List.length P) lcap] [] [ge_ lad P,cn_] (fun y:{y:(List Str×Option Addr×Nat)×(List Str×Option Addr×Nat)×(List Str×Option Addr×Nat)×(List Str×Option Addr×Nat) // (kZ_ 3 P y.1.1∧rkS y.1)∧(kZ_ 6 P y.2.1.1∧rkS y.2.1)∧(kZ_ 7 P y.2.2.1.1∧rkS y.2.2.1)∧(kZ_ 4 P y.2.2.2.1∧rkS y.2.2.2)}=>.tuple #[.agg #[.slice y.1.1.2.1 y.1.1.1.length y.1.1.2.2,.slice y.1.2.1.2.1 y.1.2.1.1.length y.1.2.1.2.2,.slice y.1.2.2.1.2.1 y.1.2.2.1.1.length y.1.2.2.1.2.2,.slice y.1.2.2.2.2.1 y.1.2.2.2.1.length y.1.2.2.2.2.2],.int .i64 0]) (fun _=>[]) (fun y=>[ai_ y.1.1.2.1 (y.1.1.1.flatMap ak_),ai_ y.1.2.1.2.1 (y.1.2.1.1.flatMap ak_),ai_ y.1.2.2.1.2.1 (y.1.2.2.1.1.flatMap ak_),ai_ y.1.2.2.2.2.1 (y.1.2.2.2.1.flatMap ak_)]):=by
 refine hj_ Tryz.func80 rfl rfl Tryz.ntmps80 rfl fun v_1=>?_;have hzb:∀ x∈P,x.left.sz≤1000000∧x.right.sz≤1000000∧x.roles.length≤1000000:=fun x hx=>⟨by have:=(tr_ (hC x hx)).1;omega,by have:=(tr_ (hC x hx)).2;omega,by have:=yV_ (hC x hx);omega⟩
 refine Zz 2 ?_;refine E_ Tryz.zeroValue133 rfl fun K=>Zz 12 ?_
 refine K_ (ι:={y:Nat // y≤List.length P}) (fun y=>[(0,.slice lad (List.length P) lcap),(2,zp_ K 0),(3,.int .i64 0),(21,.slice lad (List.length P) lcap),(22,.int .i64 (List.length P:Int)),(23,.int .i64 (y.1:Int))]) (fun y=>((K,.cells #[.slice none 0 0,.slice none 0 0,.slice none 0 0,.slice none 0 0] 133 (0,0))::[])) (fun y=>[ge_ lad P,cn_]) (fun y=>List.length P - y.1) ⟨(0:Nat),by simp⟩ zl d_ zh ?_;rintro ⟨X,hi_i0⟩;dsimp only at hi_i0 ⊢;refine Zi 2 (fun S=>?_) fun S=>?_
 ·refine Zz 8 ?_
  refine ba_ rfl fun A=>ba_ rfl fun C=>Zz 6 ?_
  refine ba_ rfl fun B=>ba_ rfl fun H=>Zz 6 ?_
  refine ba_ rfl fun I=>Zz 1 ?_
  refine aS_ 0 (.inl rfl) cu_ rfl rfl rfl rfl (bb_ u_) (aK_ u_ rfl) (Zz 1 ?_);refine aS_ 0 (.inl rfl) cu_ rfl rfl rfl rfl (bb_ u_) (aK_ u_ rfl) (Zz 1 ?_);refine aS_ 0 (.inl rfl) cu_ rfl rfl rfl rfl (bb_ u_) (aK_ u_ rfl) (Zz 1 ?_);refine aS_ 0 (.inl rfl) cu_ rfl rfl rfl rfl (bb_ u_) (aK_ u_ rfl) (Zz 1 ?_);refine E_ Tryz.zeroValue185 rfl fun M=>z_ 0 Tryz.sizeOf185 rfl rfl rfl rfl rfl rfl (Zz 11 ?_)
  refine C_ (H':=((M,.cells #[.map (some I)] 185 (0,0))::((I,.map #[⟨.int .i64 3,.map (some A),0⟩,⟨.int .i64 6,.map (some C),1⟩,⟨.int .i64 7,.map (some B),2⟩,⟨.int .i64 4,.map (some H),3⟩] 4)::((H,.map #[] 0)::((B,.map #[] 0)::((C,.map #[] 0)::((A,.map #[] 0)::((K,.cells #[.slice none 0 0,.slice none 0 0,.slice none 0 0,.slice none 0 0] 133 (0,0))::(mkH []))))))))) (.refl _) ?_;refine kG_ (N:=fun y=>⟨110,mks y.1.2.2⟩) (ι:={y:Nat×S4×List Nat // y.1≤List.length P∧V4 y.2.1 (fun k=>vcL k (List.take y.1 P))}) (fun y=>[(0,.slice lad (List.length P) lcap),(2,zp_ K 0),(3,.int .i64 0),(21,.slice lad (List.length P) lcap),(22,.int .i64 (List.length P:Int)),(23,.int .i64 (X:Int)),(7,.map (some A)),(8,.map (some C)),(9,.map (some B)),(10,.map (some H)),(11,zp_ M 0),(44,.slice lad (List.length P) lcap),(45,.int .i64 (List.length P:Int)),(46,.int .i64 (y.1.1:Int))]) (fun y=>((M,.cells #[.map (some I)] 185 (0,0))::((I,.map #[⟨.int .i64 3,.map (some A),0⟩,⟨.int .i64 6,.map (some C),1⟩,⟨.int .i64 7,.map (some B),2⟩,⟨.int .i64 4,.map (some H),3⟩] 4)::((H,.map y.1.2.1.2.2.2.es y.1.2.1.2.2.2.c)::((B,.map y.1.2.1.2.2.1.es y.1.2.1.2.2.1.c)::((C,.map y.1.2.1.2.1.es y.1.2.1.2.1.c)::((A,.map y.1.2.1.1.es y.1.2.1.1.c)::((K,.cells #[.slice none 0 0,.slice none 0 0,.slice none 0 0,.slice none 0 0] 133 (0,0))::(mkH y.1.2.2))))))))) (fun y=>[ge_ lad P,cn_]) (fun y=>List.length P - y.1.1) ⟨((0:Nat),((StM.nil,StM.nil,StM.nil,StM.nil):S4),([]:List Nat)),by simp,V4.nil.cg fun k=>by simp[vcL]⟩ zl zp zh ?_;rintro ⟨⟨i,s,Ds⟩,hi_i,hV⟩;dsimp only at hi_i hV ⊢;refine Zi 2 (fun hr_2=>?_) fun hr_2=>?_
  ·refine Zz 7 ?_
   rw[List.take_of_length_le za_]at hV;have U:∀ k,List.length (vcL k P)≤80000000:=fun k=>Nat.le_trans (sI_ hzb) za_
   have hq_1:List.length s.1.ks≤100000000:=by have:=hV.c.len;have:=U 3;omega
   have hq_2:List.length (List.filter (fun q=>decide (q≠[])) s.2.1.ks)≤100000000:=by have:=hV.r.len;have:=U 6;have:=List.length_filter_le (fun q=>decide (q≠[])) s.2.1.ks;omega
   have hq_3:List.length s.2.2.1.ks≤100000000:=by have:=hV.f.len;have:=U 7;omega
   have hq_4:List.length (List.filter (fun q=>decide (q≠[])) s.2.2.2.ks)≤100000000:=by have:=hV.i.len;have:=U 4;have:=List.length_filter_le (fun q=>decide (q≠[])) s.2.2.2.ks;omega
   refine Zz 2 ?_;refine qD_ 4 bq_ P_ rfl rfl rfl s.2.1.hE s.2.1.hB rfl fun eD_1 hE_1 hB_1=>Zz 5 ?_
   refine qD_ 2 bq_ P_ rfl rfl rfl s.2.2.2.hE s.2.2.2.hB rfl fun eD_2 hE_2 hB_2=>Zz 5 ?_
   refine j_ (iQ_ A) rfl f_ zt rfl fun by_1=>j_ (fa_ 96 [zp_ by_1 0] [(by_1,.cells #[.map (some A)] 33 (0,0)),(A,.map s.1.es s.1.c)] s.1.ks s.1.hE.nd hq_1 (iR_ A by_1 s.1.c s.1.es s.1.ks s.1.hE.ke s.1.hB hq_1)) rfl (l_ d_ (c_ (c_ (c_ (c_ (c_ d_)))))) zt rfl fun⟨⟨ad_1,cp_1⟩,W,hs_2,hs_3⟩=>?_;dsimp only;refine Zz 1 ?_;refine j_ (iQ_ C) rfl f_ zt rfl fun by_2=>j_ (fa_ 96 [zp_ by_2 0] [(by_2,.cells #[.map (some C)] 33 (0,0)),(C,.map eD_1 s.2.1.c)] (List.filter (fun q=>decide (q≠[])) s.2.1.ks) hE_1.nd hq_2 (iR_ C by_2 s.2.1.c eD_1 (List.filter (fun q=>decide (q≠[])) s.2.1.ks) hE_1.ke hB_1 hq_2)) rfl zp zt rfl fun⟨⟨ad_2,cp_2⟩,hs_4,hs_5,hs_6⟩=>?_;dsimp only;refine Zz 1 ?_;refine j_ (iQ_ B) rfl f_ zt rfl fun by_3=>j_ (fa_ 96 [zp_ by_3 0] [(by_3,.cells #[.map (some B)] 33 (0,0)),(B,.map s.2.2.1.es s.2.2.1.c)] s.2.2.1.ks s.2.2.1.hE.nd hq_3 (iR_ B by_3 s.2.2.1.c s.2.2.1.es s.2.2.1.ks s.2.2.1.hE.ke s.2.2.1.hB hq_3)) rfl zp zt rfl fun⟨⟨ad_3,cp_3⟩,hs_7,hs_8,hs_9⟩=>?_;dsimp only;refine Zz 1 ?_;refine j_ (iQ_ H) rfl f_ zt rfl fun by_4=>j_ (fa_ 96 [zp_ by_4 0] [(by_4,.cells #[.map (some H)] 33 (0,0)),(H,.map eD_2 s.2.2.2.c)] (List.filter (fun q=>decide (q≠[])) s.2.2.2.ks) hE_2.nd hq_4 (iR_ H by_4 s.2.2.2.c eD_2 (List.filter (fun q=>decide (q≠[])) s.2.2.2.ks) hE_2.ke hB_2 hq_4)) rfl zp zt rfl fun⟨⟨ad_4,cp_4⟩,hs_10,hs_11,hs_12⟩=>?_;dsimp only;refine e_ (J_ xj_ rfl rfl) rfl (z_ 10 Tryz.sizeOf133 rfl rfl rfl rfl rfl rfl (Zz 4 ?_));exact retMs ⟨((aT_ s.1.ks,ad_1,cp_1),(aT_ (List.filter (fun q=>decide (q≠[])) s.2.1.ks),ad_2,cp_2),(aT_ s.2.2.1.ks,ad_3,cp_3),(aT_ (List.filter (fun q=>decide (q≠[])) s.2.2.2.ks),ad_4,cp_4)),⟨kZ_.of hV.c za_,W,hs_2,hs_3⟩,⟨kZ_.ofD hV.r za_,hs_4,hs_5,hs_6⟩,⟨kZ_.of hV.f za_,hs_7,hs_8,hs_9⟩,⟨kZ_.ofD hV.i za_,hs_10,hs_11,hs_12⟩⟩ (fun aa v h_1 h_2 _=>fx_ (us:=[.slice ad_1 (List.length (aT_ s.1.ks)) cp_1,.slice ad_2 (List.length (aT_ (List.filter (fun q=>decide (q≠[])) s.2.1.ks))) cp_2,.slice ad_3 (List.length (aT_ s.2.2.1.ks)) cp_3,.slice ad_4 (List.length (aT_ (List.filter (fun q=>decide (q≠[])) s.2.2.2.ks))) cp_4]) 10 Tryz.results80 Tryz.isAgg133 Tryz.sizeOf133 rfl rfl rfl rfl aa v h_1 h_2) (c_ (c_ (c_ (c_ (c_ (c_ (c_ (c_ (c_ (c_ H_)))))))))) ⟨_,.refl _⟩ zf
  obtain⟨T,d,hx_1,O⟩:=zge (show i<List.length P by omega);have hrl:=(hok d O).len;have hrc:=(hok d O).cap;refine Zz 12 ?_;refine E_ dr_ rfl fun Q=>z_ 0 bS_ rfl rfl rfl rfl rfl rfl (Zz 9 ?_)
  refine X_ ag_ M_ bQ_ rfl rfl rfl rfl rfl rfl fun Y=>?_;refine cL_ (List.flatMap Con.cells [(Ax.left d),(Ax.right d)]) d_ rfl ?_;refine Zz 5 ?_;refine kG_ (N:=fun y=>⟨110,mks y.1.2.2⟩) (ι:={y:Nat×S4×List Nat // y.1≤List.length [(Ax.left d),(Ax.right d)]∧V4 y.2.1 (fun k=>vcL k (List.take i P)++List.flatMap (Con.nms k) (List.take y.1 [(Ax.left d),(Ax.right d)]))}) (fun y=>[(0,.slice lad (List.length P) lcap),(2,zp_ K 0),(3,.int .i64 0),(21,.slice lad (List.length P) lcap),(22,.int .i64 (List.length P:Int)),(23,.int .i64 (X:Int)),(7,.map (some A)),(8,.map (some C)),(9,.map (some B)),(10,.map (some H)),(11,zp_ M 0),(44,.slice lad (List.length P) lcap),(45,.int .i64 (List.length P:Int)),(46,.int .i64 (i:Int)),(13,zp_ Q 0),(54,.slice (some ⟨Y,0,none⟩) (List.length [(Ax.left d),(Ax.right d)]) 2),(55,.int .i64 2),(56,.int .i64 (y.1.1:Int))]) (fun y=>((Q,.cells #[.int .i64 (Ax.kind d),.bool (Ax.opn d),.int .i64 (Con.kind (Ax.left d)),str (Con.name (Ax.left d)),.int .i64 (Con.lo (Ax.left d)),.int .i64 (Con.hi (Ax.left d)),.slice (Con.ad (Ax.left d)) (List.length (Con.parts (Ax.left d))) (Con.cap (Ax.left d)),.int .i64 (Con.kind (Ax.right d)),str (Con.name (Ax.right d)),.int .i64 (Con.lo (Ax.right d)),.int .i64 (Con.hi (Ax.right d)),.slice (Con.ad (Ax.right d)) (List.length (Con.parts (Ax.right d))) (Con.cap (Ax.right d)),.slice (Ax.ad d) (List.length (Ax.roles d)) (Ax.cap d),str (Ax.role d),str (Ax.a d),str (Ax.b d)] 42 (0,0))::((M,.cells #[.map (some I)] 185 (0,0))::((I,.map #[⟨.int .i64 3,.map (some A),0⟩,⟨.int .i64 6,.map (some C),1⟩,⟨.int .i64 7,.map (some B),2⟩,⟨.int .i64 4,.map (some H),3⟩] 4)::((H,.map y.1.2.1.2.2.2.es y.1.2.1.2.2.2.c)::((B,.map y.1.2.1.2.2.1.es y.1.2.1.2.2.1.c)::((C,.map y.1.2.1.2.1.es y.1.2.1.2.1.c)::((A,.map y.1.2.1.1.es y.1.2.1.1.c)::((K,.cells #[.slice none 0 0,.slice none 0 0,.slice none 0 0,.slice none 0 0] 133 (0,0))::(mkH y.1.2.2)))))))))) (fun y=>[ai_ (some ⟨Y,0,none⟩) (List.flatMap Con.cells [(Ax.left d),(Ax.right d)]),ge_ lad P,cn_]) (fun y=>List.length [(Ax.left d),(Ax.right d)] - y.1.1) ⟨((0:Nat),s,Ds),by simp,hV.cg fun k=>by simp⟩ zl zp zh ?_;rintro ⟨⟨j,s,Ds⟩,hi_j,V⟩;dsimp only at hi_j V ⊢;refine Zi 2 (fun hr_3=>?_) fun hr_3=>?_
  ·refine Zz 16 ?_
   have hV2e:V4 s (fun k=>vcL k (List.take i P)++List.flatMap (Con.nms k) [(Ax.left d),(Ax.right d)]):=by rw[List.take_of_length_le (l:=[(Ax.left d),(Ax.right d)]) (by simp only[List.length_cons,List.length_nil]at *;omega)]at V;exact V
   refine kG_ (N:=fun y=>⟨110,mks y.1.2.2⟩) (ι:={y:Nat×S4×List Nat // y.1≤List.length (Ax.roles d)∧V4 y.2.1 (fun k_1=>(vcL k_1 (List.take i P)++List.flatMap (Con.nms k_1) [(Ax.left d),(Ax.right d)])++if k_1=6 then List.take y.1 (Ax.roles d) else [])}) (fun y=>[(0,.slice lad (List.length P) lcap),(2,zp_ K 0),(3,.int .i64 0),(21,.slice lad (List.length P) lcap),(22,.int .i64 (List.length P:Int)),(23,.int .i64 (X:Int)),(7,.map (some A)),(8,.map (some C)),(9,.map (some B)),(10,.map (some H)),(11,zp_ M 0),(44,.slice lad (List.length P) lcap),(45,.int .i64 (List.length P:Int)),(46,.int .i64 (i:Int)),(13,zp_ Q 0),(54,.slice (some ⟨Y,0,none⟩) (List.length [(Ax.left d),(Ax.right d)]) 2),(55,.int .i64 2),(56,.int .i64 (j:Int)),(76,.slice (Ax.ad d) (List.length (Ax.roles d)) (Ax.cap d)),(77,.int .i64 (List.length (Ax.roles d):Int)),(78,.int .i64 (y.1.1:Int))]) (fun y=>((Q,.cells #[.int .i64 (Ax.kind d),.bool (Ax.opn d),.int .i64 (Con.kind (Ax.left d)),str (Con.name (Ax.left d)),.int .i64 (Con.lo (Ax.left d)),.int .i64 (Con.hi (Ax.left d)),.slice (Con.ad (Ax.left d)) (List.length (Con.parts (Ax.left d))) (Con.cap (Ax.left d)),.int .i64 (Con.kind (Ax.right d)),str (Con.name (Ax.right d)),.int .i64 (Con.lo (Ax.right d)),.int .i64 (Con.hi (Ax.right d)),.slice (Con.ad (Ax.right d)) (List.length (Con.parts (Ax.right d))) (Con.cap (Ax.right d)),.slice (Ax.ad d) (List.length (Ax.roles d)) (Ax.cap d),str (Ax.role d),str (Ax.a d),str (Ax.b d)] 42 (0,0))::((M,.cells #[.map (some I)] 185 (0,0))::((I,.map #[⟨.int .i64 3,.map (some A),0⟩,⟨.int .i64 6,.map (some C),1⟩,⟨.int .i64 7,.map (some B),2⟩,⟨.int .i64 4,.map (some H),3⟩] 4)::((H,.map y.1.2.1.2.2.2.es y.1.2.1.2.2.2.c)::((B,.map y.1.2.1.2.2.1.es y.1.2.1.2.2.1.c)::((C,.map y.1.2.1.2.1.es y.1.2.1.2.1.c)::((A,.map y.1.2.1.1.es y.1.2.1.1.c)::((K,.cells #[.slice none 0 0,.slice none 0 0,.slice none 0 0,.slice none 0 0] 133 (0,0))::(mkH y.1.2.2)))))))))) (fun y=>[ai_ (some ⟨Y,0,none⟩) (List.flatMap Con.cells [(Ax.left d),(Ax.right d)]),ge_ lad P,cn_]) (fun y=>List.length (Ax.roles d) - y.1.1) ⟨((0:Nat),s,Ds),by simp,hV2e.cg fun k=>by simp⟩ zl zp zh ?_;rintro ⟨⟨k,s,Ds⟩,hi_k,R⟩;dsimp only at hi_k R ⊢;refine Zi 2 (fun hr_4=>?_) fun hr_4=>?_
   ·refine Zz 7 ?_
    rw[List.take_of_length_le (l:=Ax.roles d) za_]at R;refine Zz 4 ?_;refine dT_ 5 s.2.1 bq_ (.inr rfl) P_ rfl rfl rfl rfl (Zz 7 ?_);refine dT_ 3 ((s.addR (Ax.role d)).2.2.2) bq_ (.inr rfl) P_ rfl rfl rfl rfl (Zz 6 ?_);refine dT_ 3 (((s.addR (Ax.role d)).addI (Ax.a d)).2.2.2) bq_ (.inr rfl) P_ rfl rfl rfl rfl (Zz 7 ?_);exact iM_ ⟨(i+1,(((s.addR (Ax.role d)).addI (Ax.a d)).addI (Ax.b d)),Ds),T,R.axm hx_1⟩ zb_ zl (l_ (c_ d_) (l_ (c_ d_) (l_ (c_ d_) (l_ (c_ d_) (l_ (c_ d_) (l_ (c_ d_) (l_ (c_ d_) H_))))))) (fun _ _ h=>h.2)
   have hlr_1:k<List.length (Ax.roles d):=by omega
   obtain⟨r_1,S⟩:∃ e_1,(Ax.roles d)[k]? = some e_1:=⟨_,List.getElem?_eq_getElem hlr_1⟩;have hmr_1:r_1∈(Ax.roles d):=List.mem_of_getElem? S;refine Zz 10 ?_;refine e_ (O_ n_ I_ rfl rfl (fun v _ h=>aq_ (n:=1) at_ ze_ (by exact (h.2.1.2 d O).2.2) S) za_ zg_) rfl ?_;refine e_ (bl_ (ad:=(Ax.ad d)) ab_ rfl (fun v _ h=>by exact (h.2.1.2 d O).2.2) (p_ at_ S 0 _ rfl)) rfl (Zz 6 ?_);refine dT_ 5 s.2.1 bq_ (.inr rfl) P_ rfl rfl rfl rfl (Zz 7 ?_);exact iM_ ⟨(k+1,(s.addR r_1),Ds),hlr_1,R.role S⟩ zb_ zl zp zh
  have hlc_1:j<List.length [(Ax.left d),(Ax.right d)]:=by simp only[List.length_cons,List.length_nil]at *;omega
  obtain⟨e,hc_1⟩:∃ e_1,[(Ax.left d),(Ax.right d)][j]? = some e_1:=⟨_,List.getElem?_eq_getElem hlc_1⟩;have hmc_1:e∈[(Ax.left d),(Ax.right d)]:=List.mem_of_getElem? hc_1;refine Zz 11 ?_;refine e_ (ae_ (ad:=(some ⟨Y,0,none⟩)) (us:=Con.cells e) aN_ M_ rfl zf (Con.cells_len _) (p_ Con.cells_len hc_1)) rfl (E_ bQ_ rfl fun L=>z_ 0 M_ rfl rfl rfl rfl rfl rfl (Zz 5 ?_));refine j_ (uL_ e) rfl f_ zt rfl fun bw=>Zz 3 ?_
  refine bJ_ [(0,.slice lad (List.length P) lcap),(2,zp_ K 0),(3,.int .i64 0),(21,.slice lad (List.length P) lcap),(22,.int .i64 (List.length P:Int)),(23,.int .i64 (X:Int)),(7,.map (some A)),(8,.map (some C)),(9,.map (some B)),(10,.map (some H)),(11,zp_ M 0),(44,.slice lad (List.length P) lcap),(45,.int .i64 (List.length P:Int)),(46,.int .i64 (i:Int)),(13,zp_ Q 0),(54,.slice (some ⟨Y,0,none⟩) (List.length [(Ax.left d),(Ax.right d)]) 2),(55,.int .i64 2),(56,.int .i64 (j:Int)),(61,.func (.func 148) #[] #[zp_ bw 0])] zl ?_;have hokc:e.ok:=(wM_ (hok d O) (hzb d O).1 (hzb d O).2.1 hmc_1).1;refine dN_ (H':=(bw,.cells (Con.cells e).toArray 40 (0,0))::(mkH Ds++[(A,.map s.1.es s.1.c),(C,.map s.2.1.es s.2.1.c),(B,.map s.2.2.1.es s.2.2.1.c),(H,.map s.2.2.2.es s.2.2.2.c),(L,.cells #[.int .i64 (Con.kind e),str (Con.name e),.int .i64 (Con.lo e),.int .i64 (Con.hi e),.slice (Con.ad e) (List.length (Con.parts e)) (Con.cap e)] 40 (0,0)),(Q,.cells #[.int .i64 (Ax.kind d),.bool (Ax.opn d),.int .i64 (Con.kind (Ax.left d)),str (Con.name (Ax.left d)),.int .i64 (Con.lo (Ax.left d)),.int .i64 (Con.hi (Ax.left d)),.slice (Con.ad (Ax.left d)) (List.length (Con.parts (Ax.left d))) (Con.cap (Ax.left d)),.int .i64 (Con.kind (Ax.right d)),str (Con.name (Ax.right d)),.int .i64 (Con.lo (Ax.right d)),.int .i64 (Con.hi (Ax.right d)),.slice (Con.ad (Ax.right d)) (List.length (Con.parts (Ax.right d))) (Con.cap (Ax.right d)),.slice (Ax.ad d) (List.length (Ax.roles d)) (Ax.cap d),str (Ax.role d),str (Ax.a d),str (Ax.b d)] 42 (0,0)),(M,.cells #[.map (some I)] 185 (0,0)),(I,.map #[⟨.int .i64 3,.map (some A),0⟩,⟨.int .i64 6,.map (some C),1⟩,⟨.int .i64 7,.map (some B),2⟩,⟨.int .i64 4,.map (some H),3⟩] 4),(K,.cells #[.slice none 0 0,.slice none 0 0,.slice none 0 0,.slice none 0 0] 133 (0,0))])) (F:=[]) (by exact (l_ d_ (B_ (c_ (c_ (c_ (c_ (c_ (c_ (c_ (c_ H_)))))))) (l_ (c_ (c_ (c_ (c_ (c_ (c_ (c_ d_))))))) (l_ (c_ (c_ (c_ (c_ (c_ (c_ d_)))))) (l_ (c_ (c_ (c_ (c_ (c_ d_))))) (l_ (c_ (c_ (c_ (c_ d_)))) (l_ d_ (l_ d_ (l_ d_ (l_ d_ d_))))))))))) zh ?_;refine rL_ (Ds:=Ds) (α:={c:Con // c.ok}) (xv:=fun x=>x.1.val) (good:=fun _=>True) (stp:=fun x s=>.inl (eo_ x.1 s)) (Γx:=fun x=>[x.1.memF]) (Γi:=[Con.memF e]) (Hj:=(fun t:S4=>(mkH Ds++[(A,.map t.1.es t.1.c),(C,.map t.2.1.es t.2.1.c),(B,.map t.2.2.1.es t.2.2.1.c),(H,.map t.2.2.2.es t.2.2.2.c),(L,.cells #[.int .i64 (Con.kind e),str (Con.name e),.int .i64 (Con.lo e),.int .i64 (Con.hi e),.slice (Con.ad e) (List.length (Con.parts e)) (Con.cap e)] 40 (0,0)),(Q,.cells #[.int .i64 (Ax.kind d),.bool (Ax.opn d),.int .i64 (Con.kind (Ax.left d)),str (Con.name (Ax.left d)),.int .i64 (Con.lo (Ax.left d)),.int .i64 (Con.hi (Ax.left d)),.slice (Con.ad (Ax.left d)) (List.length (Con.parts (Ax.left d))) (Con.cap (Ax.left d)),.int .i64 (Con.kind (Ax.right d)),str (Con.name (Ax.right d)),.int .i64 (Con.lo (Ax.right d)),.int .i64 (Con.hi (Ax.right d)),.slice (Con.ad (Ax.right d)) (List.length (Con.parts (Ax.right d))) (Con.cap (Ax.right d)),.slice (Ax.ad d) (List.length (Ax.roles d)) (Ax.cap d),str (Ax.role d),str (Ax.a d),str (Ax.b d)] 42 (0,0)),(M,.cells #[.map (some I)] 185 (0,0)),(I,.map #[⟨.int .i64 3,.map (some A),0⟩,⟨.int .i64 6,.map (some C),1⟩,⟨.int .i64 7,.map (some B),2⟩,⟨.int .i64 4,.map (some H),3⟩] 4),(K,.cells #[.slice none 0 0,.slice none 0 0,.slice none 0 0,.slice none 0 0] 133 (0,0))]))) (Hc:=[(bw,.cells (Con.cells e).toArray 40 (0,0))]) (caps:=[zp_ bw 0]) s (Con.fold (fun x s=>.inl (eo_ x s)) e s) rfl (.refl _) (fun v _ h=>by exact⟨(wL_ (h.2.1.2 d O) hmc_1),trivial⟩) ?_ ?_ ?_
  ·rintro l D rec hpa hst hpe ht hasg hbody s ⟨x,hx⟩ -
   refine mr_ (ι:=Nat) (Hj:=(fun t:S4=>(mkH Ds++[(A,.map t.1.es t.1.c),(C,.map t.2.1.es t.2.1.c),(B,.map t.2.2.1.es t.2.2.1.c),(H,.map t.2.2.2.es t.2.2.2.c),(L,.cells #[.int .i64 (Con.kind e),str (Con.name e),.int .i64 (Con.lo e),.int .i64 (Con.hi e),.slice (Con.ad e) (List.length (Con.parts e)) (Con.cap e)] 40 (0,0)),(Q,.cells #[.int .i64 (Ax.kind d),.bool (Ax.opn d),.int .i64 (Con.kind (Ax.left d)),str (Con.name (Ax.left d)),.int .i64 (Con.lo (Ax.left d)),.int .i64 (Con.hi (Ax.left d)),.slice (Con.ad (Ax.left d)) (List.length (Con.parts (Ax.left d))) (Con.cap (Ax.left d)),.int .i64 (Con.kind (Ax.right d)),str (Con.name (Ax.right d)),.int .i64 (Con.lo (Ax.right d)),.int .i64 (Con.hi (Ax.right d)),.slice (Con.ad (Ax.right d)) (List.length (Con.parts (Ax.right d))) (Con.cap (Ax.right d)),.slice (Ax.ad d) (List.length (Ax.roles d)) (Ax.cap d),str (Ax.role d),str (Ax.a d),str (Ax.b d)] 42 (0,0)),(M,.cells #[.map (some I)] 185 (0,0)),(I,.map #[⟨.int .i64 3,.map (some A),0⟩,⟨.int .i64 6,.map (some C),1⟩,⟨.int .i64 7,.map (some B),2⟩,⟨.int .i64 4,.map (some H),3⟩] 4),(K,.cells #[.slice none 0 0,.slice none 0 0,.slice none 0 0,.slice none 0 0] 133 (0,0))]))) (Hx:=fun _:Empty=>[]) (s:=s) (res:=.inl (eo_ x s)) (Γ:=[x.memF]) (fun J=>[(11,zp_ M 0),(16,zp_ J 0)]) (fun J=>((J,.cells #[.int .i64 (Con.kind x),str (Con.name x),.int .i64 (Con.lo x),.int .i64 (Con.hi x),.slice (Con.ad x) (List.length (Con.parts x)) (Con.cap x)] 40 (0,0))::(mkH Ds++[(A,.map s.1.es s.1.c),(C,.map s.2.1.es s.2.1.c),(B,.map s.2.2.1.es s.2.2.1.c),(H,.map s.2.2.2.es s.2.2.2.c),(L,.cells #[.int .i64 (Con.kind e),str (Con.name e),.int .i64 (Con.lo e),.int .i64 (Con.hi e),.slice (Con.ad e) (List.length (Con.parts e)) (Con.cap e)] 40 (0,0)),(Q,.cells #[.int .i64 (Ax.kind d),.bool (Ax.opn d),.int .i64 (Con.kind (Ax.left d)),str (Con.name (Ax.left d)),.int .i64 (Con.lo (Ax.left d)),.int .i64 (Con.hi (Ax.left d)),.slice (Con.ad (Ax.left d)) (List.length (Con.parts (Ax.left d))) (Con.cap (Ax.left d)),.int .i64 (Con.kind (Ax.right d)),str (Con.name (Ax.right d)),.int .i64 (Con.lo (Ax.right d)),.int .i64 (Con.hi (Ax.right d)),.slice (Con.ad (Ax.right d)) (List.length (Con.parts (Ax.right d))) (Con.cap (Ax.right d)),.slice (Ax.ad d) (List.length (Ax.roles d)) (Ax.cap d),str (Ax.role d),str (Ax.a d),str (Ax.b d)] 42 (0,0)),(M,.cells #[.map (some I)] 185 (0,0)),(I,.map #[⟨.int .i64 3,.map (some A),0⟩,⟨.int .i64 6,.map (some C),1⟩,⟨.int .i64 7,.map (some B),2⟩,⟨.int .i64 4,.map (some H),3⟩] 4),(K,.cells #[.slice none 0 0,.slice none 0 0,.slice none 0 0,.slice none 0 0] 133 (0,0))]))) hpa hst hpe ht rfl ?_ ?_
   ·intro n v_1 H_1 Z
    rw[hasg];refine cM_ (H':=((mkH Ds)++((A,.map s.1.es s.1.c)::((C,.map s.2.1.es s.2.1.c)::((B,.map s.2.2.1.es s.2.2.1.c)::((H,.map s.2.2.2.es s.2.2.2.c)::((L,.cells #[.int .i64 (Con.kind e),str (Con.name e),.int .i64 (Con.lo e),.int .i64 (Con.hi e),.slice (Con.ad e) (List.length (Con.parts e)) (Con.cap e)] 40 (0,0))::((Q,.cells #[.int .i64 (Ax.kind d),.bool (Ax.opn d),.int .i64 (Con.kind (Ax.left d)),str (Con.name (Ax.left d)),.int .i64 (Con.lo (Ax.left d)),.int .i64 (Con.hi (Ax.left d)),.slice (Con.ad (Ax.left d)) (List.length (Con.parts (Ax.left d))) (Con.cap (Ax.left d)),.int .i64 (Con.kind (Ax.right d)),str (Con.name (Ax.right d)),.int .i64 (Con.lo (Ax.right d)),.int .i64 (Con.hi (Ax.right d)),.slice (Con.ad (Ax.right d)) (List.length (Con.parts (Ax.right d))) (Con.cap (Ax.right d)),.slice (Ax.ad d) (List.length (Ax.roles d)) (Ax.cap d),str (Ax.role d),str (Ax.a d),str (Ax.b d)] 42 (0,0))::((M,.cells #[.map (some I)] 185 (0,0))::((I,.map #[⟨.int .i64 3,.map (some A),0⟩,⟨.int .i64 6,.map (some C),1⟩,⟨.int .i64 7,.map (some B),2⟩,⟨.int .i64 4,.map (some H),3⟩] 4)::((K,.cells #[.slice none 0 0,.slice none 0 0,.slice none 0 0,.slice none 0 0] 133 (0,0))::Z))))))))))) (F:=[]) zj_ zh ?_;refine fV_ (W_ (g_ d_) (W_ (g_ d_) (W_ (g_ d_) (W_ (g_ d_) (W_ (g_ d_) (W_ (g_ d_) (W_ (g_ d_) (W_ (g_ d_) (bj_ (g_ d_)))))))))) ?_;refine aJ_ ?_;refine ng_ (L_ _) bQ_ rfl fun b_12=>?_;refine fU_ (L_ _) 0 M_ rfl rfl rfl rfl rfl rfl ?_;refine bp_ ?_;refine dp_ rfl ?_;refine cM_ (H':=((b_12,.cells #[.int .i64 (Con.kind x),str (Con.name x),.int .i64 (Con.lo x),.int .i64 (Con.hi x),.slice (Con.ad x) (List.length (Con.parts x)) (Con.cap x)] 40 (0,0))::((mkH Ds)++((A,.map s.1.es s.1.c)::((C,.map s.2.1.es s.2.1.c)::((B,.map s.2.2.1.es s.2.2.1.c)::((H,.map s.2.2.2.es s.2.2.2.c)::((L,.cells #[.int .i64 (Con.kind e),str (Con.name e),.int .i64 (Con.lo e),.int .i64 (Con.hi e),.slice (Con.ad e) (List.length (Con.parts e)) (Con.cap e)] 40 (0,0))::((Q,.cells #[.int .i64 (Ax.kind d),.bool (Ax.opn d),.int .i64 (Con.kind (Ax.left d)),str (Con.name (Ax.left d)),.int .i64 (Con.lo (Ax.left d)),.int .i64 (Con.hi (Ax.left d)),.slice (Con.ad (Ax.left d)) (List.length (Con.parts (Ax.left d))) (Con.cap (Ax.left d)),.int .i64 (Con.kind (Ax.right d)),str (Con.name (Ax.right d)),.int .i64 (Con.lo (Ax.right d)),.int .i64 (Con.hi (Ax.right d)),.slice (Con.ad (Ax.right d)) (List.length (Con.parts (Ax.right d))) (Con.cap (Ax.right d)),.slice (Ax.ad d) (List.length (Ax.roles d)) (Ax.cap d),str (Ax.role d),str (Ax.a d),str (Ax.b d)] 42 (0,0))::((M,.cells #[.map (some I)] 185 (0,0))::((I,.map #[⟨.int .i64 3,.map (some A),0⟩,⟨.int .i64 6,.map (some C),1⟩,⟨.int .i64 7,.map (some B),2⟩,⟨.int .i64 4,.map (some H),3⟩] 4)::((K,.cells #[.slice none 0 0,.slice none 0 0,.slice none 0 0,.slice none 0 0] 133 (0,0))::Z)))))))))))) (F:=[]) (by exact zp) zh ?_;exact fi_ b_12 zl (F:=[]) zj_ zh
   intro n v_1 H_1 Z J;rw[hbody]
   by_cases hk:x.kind=3
   ·refine cM_ (H':=((J,.cells #[.int .i64 (Con.kind x),str (Con.name x),.int .i64 (Con.lo x),.int .i64 (Con.hi x),.slice (Con.ad x) (List.length (Con.parts x)) (Con.cap x)] 40 (0,0))::((mkH Ds)++((A,.map s.1.es s.1.c)::((C,.map s.2.1.es s.2.1.c)::((B,.map s.2.2.1.es s.2.2.1.c)::((H,.map s.2.2.2.es s.2.2.2.c)::((L,.cells #[.int .i64 (Con.kind e),str (Con.name e),.int .i64 (Con.lo e),.int .i64 (Con.hi e),.slice (Con.ad e) (List.length (Con.parts e)) (Con.cap e)] 40 (0,0))::((Q,.cells #[.int .i64 (Ax.kind d),.bool (Ax.opn d),.int .i64 (Con.kind (Ax.left d)),str (Con.name (Ax.left d)),.int .i64 (Con.lo (Ax.left d)),.int .i64 (Con.hi (Ax.left d)),.slice (Con.ad (Ax.left d)) (List.length (Con.parts (Ax.left d))) (Con.cap (Ax.left d)),.int .i64 (Con.kind (Ax.right d)),str (Con.name (Ax.right d)),.int .i64 (Con.lo (Ax.right d)),.int .i64 (Con.hi (Ax.right d)),.slice (Con.ad (Ax.right d)) (List.length (Con.parts (Ax.right d))) (Con.cap (Ax.right d)),.slice (Ax.ad d) (List.length (Ax.roles d)) (Ax.cap d),str (Ax.role d),str (Ax.a d),str (Ax.b d)] 42 (0,0))::((M,.cells #[.map (some I)] 185 (0,0))::((I,.map #[⟨.int .i64 3,.map (some A),0⟩,⟨.int .i64 6,.map (some C),1⟩,⟨.int .i64 7,.map (some B),2⟩,⟨.int .i64 4,.map (some H),3⟩] 4)::((K,.cells #[.slice none 0 0,.slice none 0 0,.slice none 0 0,.slice none 0 0] 133 (0,0))::Z)))))))))))) (F:=[]) zj_ zh ?_
    refine et_ ?_;refine fV_ (W_ d_ (W_ (g_ d_) (W_ (g_ d_) (W_ (g_ d_) (W_ (g_ d_) (W_ (g_ d_) (W_ (g_ d_) (W_ (g_ d_) (W_ (g_ d_) (bj_ (g_ d_))))))))))) ?_;refine cW_ ?_;refine aJ_ ?_;refine U_ (L_ _) (aG_ 7 yR_ rfl rfl rfl) rfl rfl ?_;refine U_ (L_ _) (bO_ aD_ rfl rfl rfl au_) rfl rfl ?_;refine U_ (L_ _) (aG_ 0 aQ_ rfl rfl rfl) rfl rfl ?_;refine U_ (L_ _) (hg_ (i:=0) (u:=.map (some A)) cu_ rfl rfl 8 rfl (bb_ u_) (aK_ u_ (by rw[hk];rfl))) rfl rfl ?_;refine U_ (L_ _) (al_ rfl) rfl rfl ?_;refine U_ (L_ _) (bC_ rfl rfl) rfl rfl ?_;refine U_ (L_ _) (bC_ rfl rfl) rfl rfl ?_;refine U_ (L_ _) (ay_ rfl) rfl rfl ?_;refine U_ (L_ _) (ay_ rfl) rfl rfl ?_;refine bp_ ?_;refine cc_ rfl ?_;refine cW_ ?_;refine aJ_ ?_;refine U_ (L_ _) (al_ rfl) rfl rfl ?_;refine bp_ ?_;refine cc_ rfl ?_;refine fr_ rfl ?_;refine aJ_ ?_;refine U_ (L_ _) (al_ rfl) rfl rfl ?_;refine U_ (L_ _) (bO_ aD_ rfl rfl rfl I_) rfl rfl ?_;refine U_ (L_ _) (aG_ 0 ab_ rfl rfl rfl) rfl rfl ?_;refine ht_ (L_ _) 1 s.1 bq_ (.inr rfl) P_ rfl rfl rfl rfl ?_;refine bp_ ?_;refine dp_ rfl ?_;refine cM_ (H':=((mkH Ds)++((A,.map (s.1.add (Con.name x)).es (s.1.add (Con.name x)).c)::((C,.map s.2.1.es s.2.1.c)::((B,.map s.2.2.1.es s.2.2.1.c)::((H,.map s.2.2.2.es s.2.2.2.c)::((L,.cells #[.int .i64 (Con.kind e),str (Con.name e),.int .i64 (Con.lo e),.int .i64 (Con.hi e),.slice (Con.ad e) (List.length (Con.parts e)) (Con.cap e)] 40 (0,0))::((Q,.cells #[.int .i64 (Ax.kind d),.bool (Ax.opn d),.int .i64 (Con.kind (Ax.left d)),str (Con.name (Ax.left d)),.int .i64 (Con.lo (Ax.left d)),.int .i64 (Con.hi (Ax.left d)),.slice (Con.ad (Ax.left d)) (List.length (Con.parts (Ax.left d))) (Con.cap (Ax.left d)),.int .i64 (Con.kind (Ax.right d)),str (Con.name (Ax.right d)),.int .i64 (Con.lo (Ax.right d)),.int .i64 (Con.hi (Ax.right d)),.slice (Con.ad (Ax.right d)) (List.length (Con.parts (Ax.right d))) (Con.cap (Ax.right d)),.slice (Ax.ad d) (List.length (Ax.roles d)) (Ax.cap d),str (Ax.role d),str (Ax.a d),str (Ax.b d)] 42 (0,0))::((M,.cells #[.map (some I)] 185 (0,0))::((I,.map #[⟨.int .i64 3,.map (some A),0⟩,⟨.int .i64 6,.map (some C),1⟩,⟨.int .i64 7,.map (some B),2⟩,⟨.int .i64 4,.map (some H),3⟩] 4)::((K,.cells #[.slice none 0 0,.slice none 0 0,.slice none 0 0,.slice none 0 0] 133 (0,0))::(Z++((J,.cells #[.int .i64 (Con.kind x),str (Con.name x),.int .i64 (Con.lo x),.int .i64 (Con.hi x),.slice (Con.ad x) (List.length (Con.parts x)) (Con.cap x)] 40 (0,0))::[]))))))))))))) (F:=[]) zl_ zh ?_;refine fL_ (eo_ x s) rfl (G:=[(J,.cells #[.int .i64 (Con.kind x),str (Con.name x),.int .i64 (Con.lo x),.int .i64 (Con.hi x),.slice (Con.ad x) (List.length (Con.parts x)) (Con.cap x)] 40 (0,0))]) ?_;rw[show eo_ x s=(s.1.add x.name,s.2) from (by unfold eo_;rw[if_pos hk])];simp
   have hn_1:=hk
   by_cases hk:x.kind=6
   ·refine cM_ (H':=((J,.cells #[.int .i64 (Con.kind x),str (Con.name x),.int .i64 (Con.lo x),.int .i64 (Con.hi x),.slice (Con.ad x) (List.length (Con.parts x)) (Con.cap x)] 40 (0,0))::((mkH Ds)++((A,.map s.1.es s.1.c)::((C,.map s.2.1.es s.2.1.c)::((B,.map s.2.2.1.es s.2.2.1.c)::((H,.map s.2.2.2.es s.2.2.2.c)::((L,.cells #[.int .i64 (Con.kind e),str (Con.name e),.int .i64 (Con.lo e),.int .i64 (Con.hi e),.slice (Con.ad e) (List.length (Con.parts e)) (Con.cap e)] 40 (0,0))::((Q,.cells #[.int .i64 (Ax.kind d),.bool (Ax.opn d),.int .i64 (Con.kind (Ax.left d)),str (Con.name (Ax.left d)),.int .i64 (Con.lo (Ax.left d)),.int .i64 (Con.hi (Ax.left d)),.slice (Con.ad (Ax.left d)) (List.length (Con.parts (Ax.left d))) (Con.cap (Ax.left d)),.int .i64 (Con.kind (Ax.right d)),str (Con.name (Ax.right d)),.int .i64 (Con.lo (Ax.right d)),.int .i64 (Con.hi (Ax.right d)),.slice (Con.ad (Ax.right d)) (List.length (Con.parts (Ax.right d))) (Con.cap (Ax.right d)),.slice (Ax.ad d) (List.length (Ax.roles d)) (Ax.cap d),str (Ax.role d),str (Ax.a d),str (Ax.b d)] 42 (0,0))::((M,.cells #[.map (some I)] 185 (0,0))::((I,.map #[⟨.int .i64 3,.map (some A),0⟩,⟨.int .i64 6,.map (some C),1⟩,⟨.int .i64 7,.map (some B),2⟩,⟨.int .i64 4,.map (some H),3⟩] 4)::((K,.cells #[.slice none 0 0,.slice none 0 0,.slice none 0 0,.slice none 0 0] 133 (0,0))::Z)))))))))))) (F:=[]) zj_ zh ?_
    refine et_ ?_;refine fV_ (W_ d_ (W_ (g_ d_) (W_ (g_ d_) (W_ (g_ d_) (W_ (g_ d_) (W_ (g_ d_) (W_ (g_ d_) (W_ (g_ d_) (W_ (g_ d_) (bj_ (g_ d_))))))))))) ?_;refine cW_ ?_;refine aJ_ ?_;refine U_ (L_ _) (aG_ 7 yR_ rfl rfl rfl) rfl rfl ?_;refine U_ (L_ _) (bO_ aD_ rfl rfl rfl au_) rfl rfl ?_;refine U_ (L_ _) (aG_ 0 aQ_ rfl rfl rfl) rfl rfl ?_;refine U_ (L_ _) (hg_ (i:=1) (u:=.map (some C)) cu_ rfl rfl 8 rfl (bb_ u_) (aK_ u_ (by rw[hk];rfl))) rfl rfl ?_;refine U_ (L_ _) (al_ rfl) rfl rfl ?_;refine U_ (L_ _) (bC_ rfl rfl) rfl rfl ?_;refine U_ (L_ _) (bC_ rfl rfl) rfl rfl ?_;refine U_ (L_ _) (ay_ rfl) rfl rfl ?_;refine U_ (L_ _) (ay_ rfl) rfl rfl ?_;refine bp_ ?_;refine cc_ rfl ?_;refine cW_ ?_;refine aJ_ ?_;refine U_ (L_ _) (al_ rfl) rfl rfl ?_;refine bp_ ?_;refine cc_ rfl ?_;refine fr_ rfl ?_;refine aJ_ ?_;refine U_ (L_ _) (al_ rfl) rfl rfl ?_;refine U_ (L_ _) (bO_ aD_ rfl rfl rfl I_) rfl rfl ?_;refine U_ (L_ _) (aG_ 0 ab_ rfl rfl rfl) rfl rfl ?_;refine ht_ (L_ _) 2 s.2.1 bq_ (.inr rfl) P_ rfl rfl rfl rfl ?_;refine bp_ ?_;refine dp_ rfl ?_;refine cM_ (H':=((mkH Ds)++((A,.map s.1.es s.1.c)::((C,.map (s.2.1.add (Con.name x)).es (s.2.1.add (Con.name x)).c)::((B,.map s.2.2.1.es s.2.2.1.c)::((H,.map s.2.2.2.es s.2.2.2.c)::((L,.cells #[.int .i64 (Con.kind e),str (Con.name e),.int .i64 (Con.lo e),.int .i64 (Con.hi e),.slice (Con.ad e) (List.length (Con.parts e)) (Con.cap e)] 40 (0,0))::((Q,.cells #[.int .i64 (Ax.kind d),.bool (Ax.opn d),.int .i64 (Con.kind (Ax.left d)),str (Con.name (Ax.left d)),.int .i64 (Con.lo (Ax.left d)),.int .i64 (Con.hi (Ax.left d)),.slice (Con.ad (Ax.left d)) (List.length (Con.parts (Ax.left d))) (Con.cap (Ax.left d)),.int .i64 (Con.kind (Ax.right d)),str (Con.name (Ax.right d)),.int .i64 (Con.lo (Ax.right d)),.int .i64 (Con.hi (Ax.right d)),.slice (Con.ad (Ax.right d)) (List.length (Con.parts (Ax.right d))) (Con.cap (Ax.right d)),.slice (Ax.ad d) (List.length (Ax.roles d)) (Ax.cap d),str (Ax.role d),str (Ax.a d),str (Ax.b d)] 42 (0,0))::((M,.cells #[.map (some I)] 185 (0,0))::((I,.map #[⟨.int .i64 3,.map (some A),0⟩,⟨.int .i64 6,.map (some C),1⟩,⟨.int .i64 7,.map (some B),2⟩,⟨.int .i64 4,.map (some H),3⟩] 4)::((K,.cells #[.slice none 0 0,.slice none 0 0,.slice none 0 0,.slice none 0 0] 133 (0,0))::(Z++((J,.cells #[.int .i64 (Con.kind x),str (Con.name x),.int .i64 (Con.lo x),.int .i64 (Con.hi x),.slice (Con.ad x) (List.length (Con.parts x)) (Con.cap x)] 40 (0,0))::[]))))))))))))) (F:=[]) zl_ zh ?_;refine fL_ (eo_ x s) rfl (G:=[(J,.cells #[.int .i64 (Con.kind x),str (Con.name x),.int .i64 (Con.lo x),.int .i64 (Con.hi x),.slice (Con.ad x) (List.length (Con.parts x)) (Con.cap x)] 40 (0,0))]) ?_;rw[show eo_ x s=(s.1,s.2.1.add x.name,s.2.2) from (by unfold eo_;rw[if_neg za_,if_pos hk])];simp
   have hn_2:=hk
   by_cases hk:x.kind=7
   ·refine cM_ (H':=((J,.cells #[.int .i64 (Con.kind x),str (Con.name x),.int .i64 (Con.lo x),.int .i64 (Con.hi x),.slice (Con.ad x) (List.length (Con.parts x)) (Con.cap x)] 40 (0,0))::((mkH Ds)++((A,.map s.1.es s.1.c)::((C,.map s.2.1.es s.2.1.c)::((B,.map s.2.2.1.es s.2.2.1.c)::((H,.map s.2.2.2.es s.2.2.2.c)::((L,.cells #[.int .i64 (Con.kind e),str (Con.name e),.int .i64 (Con.lo e),.int .i64 (Con.hi e),.slice (Con.ad e) (List.length (Con.parts e)) (Con.cap e)] 40 (0,0))::((Q,.cells #[.int .i64 (Ax.kind d),.bool (Ax.opn d),.int .i64 (Con.kind (Ax.left d)),str (Con.name (Ax.left d)),.int .i64 (Con.lo (Ax.left d)),.int .i64 (Con.hi (Ax.left d)),.slice (Con.ad (Ax.left d)) (List.length (Con.parts (Ax.left d))) (Con.cap (Ax.left d)),.int .i64 (Con.kind (Ax.right d)),str (Con.name (Ax.right d)),.int .i64 (Con.lo (Ax.right d)),.int .i64 (Con.hi (Ax.right d)),.slice (Con.ad (Ax.right d)) (List.length (Con.parts (Ax.right d))) (Con.cap (Ax.right d)),.slice (Ax.ad d) (List.length (Ax.roles d)) (Ax.cap d),str (Ax.role d),str (Ax.a d),str (Ax.b d)] 42 (0,0))::((M,.cells #[.map (some I)] 185 (0,0))::((I,.map #[⟨.int .i64 3,.map (some A),0⟩,⟨.int .i64 6,.map (some C),1⟩,⟨.int .i64 7,.map (some B),2⟩,⟨.int .i64 4,.map (some H),3⟩] 4)::((K,.cells #[.slice none 0 0,.slice none 0 0,.slice none 0 0,.slice none 0 0] 133 (0,0))::Z)))))))))))) (F:=[]) zj_ zh ?_
    refine et_ ?_;refine fV_ (W_ d_ (W_ (g_ d_) (W_ (g_ d_) (W_ (g_ d_) (W_ (g_ d_) (W_ (g_ d_) (W_ (g_ d_) (W_ (g_ d_) (W_ (g_ d_) (bj_ (g_ d_))))))))))) ?_;refine cW_ ?_;refine aJ_ ?_;refine U_ (L_ _) (aG_ 7 yR_ rfl rfl rfl) rfl rfl ?_;refine U_ (L_ _) (bO_ aD_ rfl rfl rfl au_) rfl rfl ?_;refine U_ (L_ _) (aG_ 0 aQ_ rfl rfl rfl) rfl rfl ?_;refine U_ (L_ _) (hg_ (i:=2) (u:=.map (some B)) cu_ rfl rfl 8 rfl (bb_ u_) (aK_ u_ (by rw[hk];rfl))) rfl rfl ?_;refine U_ (L_ _) (al_ rfl) rfl rfl ?_;refine U_ (L_ _) (bC_ rfl rfl) rfl rfl ?_;refine U_ (L_ _) (bC_ rfl rfl) rfl rfl ?_;refine U_ (L_ _) (ay_ rfl) rfl rfl ?_;refine U_ (L_ _) (ay_ rfl) rfl rfl ?_;refine bp_ ?_;refine cc_ rfl ?_;refine cW_ ?_;refine aJ_ ?_;refine U_ (L_ _) (al_ rfl) rfl rfl ?_;refine bp_ ?_;refine cc_ rfl ?_;refine fr_ rfl ?_;refine aJ_ ?_;refine U_ (L_ _) (al_ rfl) rfl rfl ?_;refine U_ (L_ _) (bO_ aD_ rfl rfl rfl I_) rfl rfl ?_;refine U_ (L_ _) (aG_ 0 ab_ rfl rfl rfl) rfl rfl ?_;refine ht_ (L_ _) 3 s.2.2.1 bq_ (.inr rfl) P_ rfl rfl rfl rfl ?_;refine bp_ ?_;refine dp_ rfl ?_;refine cM_ (H':=((mkH Ds)++((A,.map s.1.es s.1.c)::((C,.map s.2.1.es s.2.1.c)::((B,.map (s.2.2.1.add (Con.name x)).es (s.2.2.1.add (Con.name x)).c)::((H,.map s.2.2.2.es s.2.2.2.c)::((L,.cells #[.int .i64 (Con.kind e),str (Con.name e),.int .i64 (Con.lo e),.int .i64 (Con.hi e),.slice (Con.ad e) (List.length (Con.parts e)) (Con.cap e)] 40 (0,0))::((Q,.cells #[.int .i64 (Ax.kind d),.bool (Ax.opn d),.int .i64 (Con.kind (Ax.left d)),str (Con.name (Ax.left d)),.int .i64 (Con.lo (Ax.left d)),.int .i64 (Con.hi (Ax.left d)),.slice (Con.ad (Ax.left d)) (List.length (Con.parts (Ax.left d))) (Con.cap (Ax.left d)),.int .i64 (Con.kind (Ax.right d)),str (Con.name (Ax.right d)),.int .i64 (Con.lo (Ax.right d)),.int .i64 (Con.hi (Ax.right d)),.slice (Con.ad (Ax.right d)) (List.length (Con.parts (Ax.right d))) (Con.cap (Ax.right d)),.slice (Ax.ad d) (List.length (Ax.roles d)) (Ax.cap d),str (Ax.role d),str (Ax.a d),str (Ax.b d)] 42 (0,0))::((M,.cells #[.map (some I)] 185 (0,0))::((I,.map #[⟨.int .i64 3,.map (some A),0⟩,⟨.int .i64 6,.map (some C),1⟩,⟨.int .i64 7,.map (some B),2⟩,⟨.int .i64 4,.map (some H),3⟩] 4)::((K,.cells #[.slice none 0 0,.slice none 0 0,.slice none 0 0,.slice none 0 0] 133 (0,0))::(Z++((J,.cells #[.int .i64 (Con.kind x),str (Con.name x),.int .i64 (Con.lo x),.int .i64 (Con.hi x),.slice (Con.ad x) (List.length (Con.parts x)) (Con.cap x)] 40 (0,0))::[]))))))))))))) (F:=[]) zl_ zh ?_;refine fL_ (eo_ x s) rfl (G:=[(J,.cells #[.int .i64 (Con.kind x),str (Con.name x),.int .i64 (Con.lo x),.int .i64 (Con.hi x),.slice (Con.ad x) (List.length (Con.parts x)) (Con.cap x)] 40 (0,0))]) ?_;rw[show eo_ x s=(s.1,s.2.1,s.2.2.1.add x.name,s.2.2.2) from (by unfold eo_;rw[if_neg za_,if_neg za_,if_pos hk])];simp
   have hn_3:=hk
   by_cases hk:x.kind=4
   ·refine cM_ (H':=((J,.cells #[.int .i64 (Con.kind x),str (Con.name x),.int .i64 (Con.lo x),.int .i64 (Con.hi x),.slice (Con.ad x) (List.length (Con.parts x)) (Con.cap x)] 40 (0,0))::((mkH Ds)++((A,.map s.1.es s.1.c)::((C,.map s.2.1.es s.2.1.c)::((B,.map s.2.2.1.es s.2.2.1.c)::((H,.map s.2.2.2.es s.2.2.2.c)::((L,.cells #[.int .i64 (Con.kind e),str (Con.name e),.int .i64 (Con.lo e),.int .i64 (Con.hi e),.slice (Con.ad e) (List.length (Con.parts e)) (Con.cap e)] 40 (0,0))::((Q,.cells #[.int .i64 (Ax.kind d),.bool (Ax.opn d),.int .i64 (Con.kind (Ax.left d)),str (Con.name (Ax.left d)),.int .i64 (Con.lo (Ax.left d)),.int .i64 (Con.hi (Ax.left d)),.slice (Con.ad (Ax.left d)) (List.length (Con.parts (Ax.left d))) (Con.cap (Ax.left d)),.int .i64 (Con.kind (Ax.right d)),str (Con.name (Ax.right d)),.int .i64 (Con.lo (Ax.right d)),.int .i64 (Con.hi (Ax.right d)),.slice (Con.ad (Ax.right d)) (List.length (Con.parts (Ax.right d))) (Con.cap (Ax.right d)),.slice (Ax.ad d) (List.length (Ax.roles d)) (Ax.cap d),str (Ax.role d),str (Ax.a d),str (Ax.b d)] 42 (0,0))::((M,.cells #[.map (some I)] 185 (0,0))::((I,.map #[⟨.int .i64 3,.map (some A),0⟩,⟨.int .i64 6,.map (some C),1⟩,⟨.int .i64 7,.map (some B),2⟩,⟨.int .i64 4,.map (some H),3⟩] 4)::((K,.cells #[.slice none 0 0,.slice none 0 0,.slice none 0 0,.slice none 0 0] 133 (0,0))::Z)))))))))))) (F:=[]) zj_ zh ?_
    refine et_ ?_;refine fV_ (W_ d_ (W_ (g_ d_) (W_ (g_ d_) (W_ (g_ d_) (W_ (g_ d_) (W_ (g_ d_) (W_ (g_ d_) (W_ (g_ d_) (W_ (g_ d_) (bj_ (g_ d_))))))))))) ?_;refine cW_ ?_;refine aJ_ ?_;refine U_ (L_ _) (aG_ 7 yR_ rfl rfl rfl) rfl rfl ?_;refine U_ (L_ _) (bO_ aD_ rfl rfl rfl au_) rfl rfl ?_;refine U_ (L_ _) (aG_ 0 aQ_ rfl rfl rfl) rfl rfl ?_;refine U_ (L_ _) (hg_ (i:=3) (u:=.map (some H)) cu_ rfl rfl 8 rfl (bb_ u_) (aK_ u_ (by rw[hk];rfl))) rfl rfl ?_;refine U_ (L_ _) (al_ rfl) rfl rfl ?_;refine U_ (L_ _) (bC_ rfl rfl) rfl rfl ?_;refine U_ (L_ _) (bC_ rfl rfl) rfl rfl ?_;refine U_ (L_ _) (ay_ rfl) rfl rfl ?_;refine U_ (L_ _) (ay_ rfl) rfl rfl ?_;refine bp_ ?_;refine cc_ rfl ?_;refine cW_ ?_;refine aJ_ ?_;refine U_ (L_ _) (al_ rfl) rfl rfl ?_;refine bp_ ?_;refine cc_ rfl ?_;refine fr_ rfl ?_;refine aJ_ ?_;refine U_ (L_ _) (al_ rfl) rfl rfl ?_;refine U_ (L_ _) (bO_ aD_ rfl rfl rfl I_) rfl rfl ?_;refine U_ (L_ _) (aG_ 0 ab_ rfl rfl rfl) rfl rfl ?_;refine ht_ (L_ _) 4 s.2.2.2 bq_ (.inr rfl) P_ rfl rfl rfl rfl ?_;refine bp_ ?_;refine dp_ rfl ?_;refine cM_ (H':=((mkH Ds)++((A,.map s.1.es s.1.c)::((C,.map s.2.1.es s.2.1.c)::((B,.map s.2.2.1.es s.2.2.1.c)::((H,.map (s.2.2.2.add (Con.name x)).es (s.2.2.2.add (Con.name x)).c)::((L,.cells #[.int .i64 (Con.kind e),str (Con.name e),.int .i64 (Con.lo e),.int .i64 (Con.hi e),.slice (Con.ad e) (List.length (Con.parts e)) (Con.cap e)] 40 (0,0))::((Q,.cells #[.int .i64 (Ax.kind d),.bool (Ax.opn d),.int .i64 (Con.kind (Ax.left d)),str (Con.name (Ax.left d)),.int .i64 (Con.lo (Ax.left d)),.int .i64 (Con.hi (Ax.left d)),.slice (Con.ad (Ax.left d)) (List.length (Con.parts (Ax.left d))) (Con.cap (Ax.left d)),.int .i64 (Con.kind (Ax.right d)),str (Con.name (Ax.right d)),.int .i64 (Con.lo (Ax.right d)),.int .i64 (Con.hi (Ax.right d)),.slice (Con.ad (Ax.right d)) (List.length (Con.parts (Ax.right d))) (Con.cap (Ax.right d)),.slice (Ax.ad d) (List.length (Ax.roles d)) (Ax.cap d),str (Ax.role d),str (Ax.a d),str (Ax.b d)] 42 (0,0))::((M,.cells #[.map (some I)] 185 (0,0))::((I,.map #[⟨.int .i64 3,.map (some A),0⟩,⟨.int .i64 6,.map (some C),1⟩,⟨.int .i64 7,.map (some B),2⟩,⟨.int .i64 4,.map (some H),3⟩] 4)::((K,.cells #[.slice none 0 0,.slice none 0 0,.slice none 0 0,.slice none 0 0] 133 (0,0))::(Z++((J,.cells #[.int .i64 (Con.kind x),str (Con.name x),.int .i64 (Con.lo x),.int .i64 (Con.hi x),.slice (Con.ad x) (List.length (Con.parts x)) (Con.cap x)] 40 (0,0))::[]))))))))))))) (F:=[]) zl_ zh ?_;refine fL_ (eo_ x s) rfl (G:=[(J,.cells #[.int .i64 (Con.kind x),str (Con.name x),.int .i64 (Con.lo x),.int .i64 (Con.hi x),.slice (Con.ad x) (List.length (Con.parts x)) (Con.cap x)] 40 (0,0))]) ?_;rw[show eo_ x s=(s.1,s.2.1,s.2.2.1,s.2.2.2.add x.name) from (by unfold eo_;rw[if_neg za_,if_neg za_,if_neg za_,if_pos hk])];simp
   have hn_4:=hk;refine cM_ (H':=((J,.cells #[.int .i64 (Con.kind x),str (Con.name x),.int .i64 (Con.lo x),.int .i64 (Con.hi x),.slice (Con.ad x) (List.length (Con.parts x)) (Con.cap x)] 40 (0,0))::((mkH Ds)++((A,.map s.1.es s.1.c)::((C,.map s.2.1.es s.2.1.c)::((B,.map s.2.2.1.es s.2.2.1.c)::((H,.map s.2.2.2.es s.2.2.2.c)::((L,.cells #[.int .i64 (Con.kind e),str (Con.name e),.int .i64 (Con.lo e),.int .i64 (Con.hi e),.slice (Con.ad e) (List.length (Con.parts e)) (Con.cap e)] 40 (0,0))::((Q,.cells #[.int .i64 (Ax.kind d),.bool (Ax.opn d),.int .i64 (Con.kind (Ax.left d)),str (Con.name (Ax.left d)),.int .i64 (Con.lo (Ax.left d)),.int .i64 (Con.hi (Ax.left d)),.slice (Con.ad (Ax.left d)) (List.length (Con.parts (Ax.left d))) (Con.cap (Ax.left d)),.int .i64 (Con.kind (Ax.right d)),str (Con.name (Ax.right d)),.int .i64 (Con.lo (Ax.right d)),.int .i64 (Con.hi (Ax.right d)),.slice (Con.ad (Ax.right d)) (List.length (Con.parts (Ax.right d))) (Con.cap (Ax.right d)),.slice (Ax.ad d) (List.length (Ax.roles d)) (Ax.cap d),str (Ax.role d),str (Ax.a d),str (Ax.b d)] 42 (0,0))::((M,.cells #[.map (some I)] 185 (0,0))::((I,.map #[⟨.int .i64 3,.map (some A),0⟩,⟨.int .i64 6,.map (some C),1⟩,⟨.int .i64 7,.map (some B),2⟩,⟨.int .i64 4,.map (some H),3⟩] 4)::((K,.cells #[.slice none 0 0,.slice none 0 0,.slice none 0 0,.slice none 0 0] 133 (0,0))::Z)))))))))))) (F:=[]) zj_ zh ?_;refine et_ ?_;refine fV_ (W_ d_ (W_ (g_ d_) (W_ (g_ d_) (W_ (g_ d_) (W_ (g_ d_) (W_ (g_ d_) (W_ (g_ d_) (W_ (g_ d_) (W_ (g_ d_) (bj_ (g_ d_))))))))))) ?_;refine cW_ ?_;refine aJ_ ?_;refine U_ (L_ _) (aG_ 7 yR_ rfl rfl rfl) rfl rfl ?_;refine U_ (L_ _) (bO_ aD_ rfl rfl rfl au_) rfl rfl ?_;refine U_ (L_ _) (aG_ 0 aQ_ rfl rfl rfl) rfl rfl ?_;refine U_ (L_ _) (ry_ cu_ dX_ rfl rfl 8 rfl (bb_ u_) ((wa_ u_).nf (Con.kind x) _ [3,6,7,4] rfl (by simp only[List.mem_cons,List.not_mem_nil,or_false];omega))) rfl rfl ?_;refine U_ (L_ _) (al_ rfl) rfl rfl ?_;refine U_ (L_ _) (bC_ rfl rfl) rfl rfl ?_;refine U_ (L_ _) (bC_ rfl rfl) rfl rfl ?_;refine U_ (L_ _) (ay_ rfl) rfl rfl ?_;refine U_ (L_ _) (ay_ rfl) rfl rfl ?_;refine bp_ ?_;refine cc_ rfl ?_;refine cW_ ?_;refine aJ_ ?_;refine U_ (L_ _) (al_ rfl) rfl rfl ?_;refine bp_ ?_;refine cc_ rfl ?_;refine lB_ rfl ?_;refine oq_ ?_;refine dp_ rfl ?_;refine cM_ (H':=((mkH Ds)++((A,.map s.1.es s.1.c)::((C,.map s.2.1.es s.2.1.c)::((B,.map s.2.2.1.es s.2.2.1.c)::((H,.map s.2.2.2.es s.2.2.2.c)::((L,.cells #[.int .i64 (Con.kind e),str (Con.name e),.int .i64 (Con.lo e),.int .i64 (Con.hi e),.slice (Con.ad e) (List.length (Con.parts e)) (Con.cap e)] 40 (0,0))::((Q,.cells #[.int .i64 (Ax.kind d),.bool (Ax.opn d),.int .i64 (Con.kind (Ax.left d)),str (Con.name (Ax.left d)),.int .i64 (Con.lo (Ax.left d)),.int .i64 (Con.hi (Ax.left d)),.slice (Con.ad (Ax.left d)) (List.length (Con.parts (Ax.left d))) (Con.cap (Ax.left d)),.int .i64 (Con.kind (Ax.right d)),str (Con.name (Ax.right d)),.int .i64 (Con.lo (Ax.right d)),.int .i64 (Con.hi (Ax.right d)),.slice (Con.ad (Ax.right d)) (List.length (Con.parts (Ax.right d))) (Con.cap (Ax.right d)),.slice (Ax.ad d) (List.length (Ax.roles d)) (Ax.cap d),str (Ax.role d),str (Ax.a d),str (Ax.b d)] 42 (0,0))::((M,.cells #[.map (some I)] 185 (0,0))::((I,.map #[⟨.int .i64 3,.map (some A),0⟩,⟨.int .i64 6,.map (some C),1⟩,⟨.int .i64 7,.map (some B),2⟩,⟨.int .i64 4,.map (some H),3⟩] 4)::((K,.cells #[.slice none 0 0,.slice none 0 0,.slice none 0 0,.slice none 0 0] 133 (0,0))::(Z++((J,.cells #[.int .i64 (Con.kind x),str (Con.name x),.int .i64 (Con.lo x),.int .i64 (Con.hi x),.slice (Con.ad x) (List.length (Con.parts x)) (Con.cap x)] 40 (0,0))::[]))))))))))))) (F:=[]) (by exact zp) zh ?_;refine fL_ (eo_ x s) rfl (G:=[(J,.cells #[.int .i64 (Con.kind x),str (Con.name x),.int .i64 (Con.lo x),.int .i64 (Con.hi x),.slice (Con.ad x) (List.length (Con.parts x)) (Con.cap x)] 40 (0,0))]) ?_;rw[show eo_ x s=s from (by unfold eo_;rw[if_neg za_,if_neg za_,if_neg za_,if_neg za_])];simp
  ·intro l Gj Gx hY
   exact sH_ (E:=[]) (good:=fun _=>True) (fun _ _ _ _=>trivial) (fun s x hx _=>hY s ⟨x,hx⟩ trivial) _ hokc trivial s
  intro s_1 W D l r;rw[qY_ (fun x s=>eo_ x s) _ e (Nat.le_refl _)]at W;obtain rfl:=Sum.inl.inj W;have R:=V.side hc_1;refine dN_ (H':=mkH (D::Ds)++[(A,.map ((List.foldl (fun s x=>eo_ x s) s (Con.nds e)).1).es ((List.foldl (fun s x=>eo_ x s) s (Con.nds e)).1).c),(C,.map ((List.foldl (fun s x=>eo_ x s) s (Con.nds e)).2.1).es ((List.foldl (fun s x=>eo_ x s) s (Con.nds e)).2.1).c),(B,.map ((List.foldl (fun s x=>eo_ x s) s (Con.nds e)).2.2.1).es ((List.foldl (fun s x=>eo_ x s) s (Con.nds e)).2.2.1).c),(H,.map ((List.foldl (fun s x=>eo_ x s) s (Con.nds e)).2.2.2).es ((List.foldl (fun s x=>eo_ x s) s (Con.nds e)).2.2.2).c),(L,.cells #[.int .i64 (Con.kind e),str (Con.name e),.int .i64 (Con.lo e),.int .i64 (Con.hi e),.slice (Con.ad e) (List.length (Con.parts e)) (Con.cap e)] 40 (0,0)),(Q,.cells #[.int .i64 (Ax.kind d),.bool (Ax.opn d),.int .i64 (Con.kind (Ax.left d)),str (Con.name (Ax.left d)),.int .i64 (Con.lo (Ax.left d)),.int .i64 (Con.hi (Ax.left d)),.slice (Con.ad (Ax.left d)) (List.length (Con.parts (Ax.left d))) (Con.cap (Ax.left d)),.int .i64 (Con.kind (Ax.right d)),str (Con.name (Ax.right d)),.int .i64 (Con.lo (Ax.right d)),.int .i64 (Con.hi (Ax.right d)),.slice (Con.ad (Ax.right d)) (List.length (Con.parts (Ax.right d))) (Con.cap (Ax.right d)),.slice (Ax.ad d) (List.length (Ax.roles d)) (Ax.cap d),str (Ax.role d),str (Ax.a d),str (Ax.b d)] 42 (0,0)),(M,.cells #[.map (some I)] 185 (0,0)),(I,.map #[⟨.int .i64 3,.map (some A),0⟩,⟨.int .i64 6,.map (some C),1⟩,⟨.int .i64 7,.map (some B),2⟩,⟨.int .i64 4,.map (some H),3⟩] 4),(K,.cells #[.slice none 0 0,.slice none 0 0,.slice none 0 0,.slice none 0 0] 133 (0,0))]) (F:=[(bw,.cells (Con.cells e).toArray 40 (0,0))]++[(l,.loop r)]) vQ_ zh ?_;refine aY_ rfl (C_ (W_ (g_ d_) (W_ (g_ d_) (W_ (g_ d_) (W_ (g_ d_) (W_ (g_ d_) (W_ (g_ d_) (W_ (g_ d_) (W_ (g_ d_) (bj_ aX_))))))))) (Zz 5 ?_));exact iM_ ⟨(j+1,(List.foldl (fun s x=>eo_ x s) s (Con.nds e)),(D::Ds)),hlc_1,R⟩ zb_ zl zp zh
 obtain⟨T,d,hx_1,O⟩:=zge (show X<List.length P by omega);refine Zz 12 ?_;refine E_ dr_ rfl fun A=>z_ 0 bS_ rfl rfl rfl rfl rfl rfl (Zz 5 ?_)
 refine j_ (oT_ (hok d O) (hC d O)) rfl f_ (fun v _ h=>by exact⟨(h.1.2 d O),h.2.1,trivial⟩) rfl fun _=>Zz 6 ?_
 refine e_ (ar_ (cg_ rfl rfl) (show _=Value.bool false from congrArg Value.bool ze_)) rfl (Zz 10 ?_);exact iM_ ⟨X+1,T⟩ zb_ zl (c_ d_) zh
end Go.Proofs.YtpbnmnfdgckaiaaGreatDoor
namespace Go.Vs
open Go Go.Sx
inductive RchS (nx:Str→List Str) (I:List Str):Str→Prop
  | zero {s:Str}:s∈I→RchS nx I s
  | step {s t:Str}:RchS nx I s→t∈nx s→RchS nx I t
theorem RchS.mem {nx:Str→List Str} {I T:List Str} (d:∀ s,∀ t∈nx s,t∈T) {t:Str} (h:RchS nx I t):t∈I++T:=by
  cases h with
  | zero h=>exact List.mem_append_left _ h
  | step _ h=>exact List.mem_append_right _ (d _ _ h)
structure CI (nx:Str→List Str) (I K W:List Str):Prop where
  r0:∀ s∈I,s∈K
  sub:∀ s∈W,s∈K
  rch:∀ s∈K,RchS nx I s
  cls:∀ s∈K,s ∉ W→∀ t∈nx s,t∈K
structure CJ (nx:Str→List Str) (I:List Str) (k:Str) (j:Nat) (K W:List Str):Prop where
  r0:∀ s∈I,s∈K
  sub:∀ s∈W,s∈K
  rch:∀ s∈K,RchS nx I s
  hk:k∈K
  cls:∀ s∈K,s ∉ W→s≠k→∀ t∈nx s,t∈K
  dn:∀ t∈(nx k).take j,t∈K
theorem CI.init {nx:Str→List Str} {I K:List Str} (h:∀ n,n∈K↔n∈I):CI nx I K I :=
  ⟨fun s d=>(h s).2 d,fun s d=>(h s).2 d,fun s d=>.zero ((h s).1 d),fun s d e=>absurd ((h s).1 d) e⟩
theorem CI.pop {nx:Str→List Str} {I K W:List Str} {k:Str} (h:CI nx I K (k::W)):CJ nx I k 0 K W :=
  ⟨h.r0,fun s d=>h.sub s (List.mem_cons_of_mem _ d),h.rch,h.sub k List.mem_cons_self,fun s d e hk=>h.cls s d (by simp[e,hk]),by simp⟩
theorem CJ.skip {nx:Str→List Str} {I K W:List Str} {k t:Str} {j:Nat} (h:CJ nx I k j K W) (q:(nx k)[j]? = some t) (e:t∈K):CJ nx I k (j+1) K W :=
 ⟨h.r0,h.sub,h.rch,h.hk,h.cls,fun z d=>by
   rw[tk1 q,List.mem_append,List.mem_singleton]at d;rcases d with d|rfl
   · exact h.dn z d
   · exact e⟩
theorem CJ.take {nx:Str→List Str} {I K W A:List Str} {k t:Str} {j:Nat} (h:CJ nx I k j K W) (B:(nx k)[j]? = some t) (q:∀ n,n∈A↔n∈K∨n=t):CJ nx I k (j+1) A (W++[t]) :=
  ⟨fun s d=>(q s).2 (.inl (h.r0 s d)),fun s d=>(q s).2 (by rw[List.mem_append,List.mem_singleton]at d;exact d.imp (h.sub s) id),fun s d=>(q s).1 d |>.elim (h.rch s) (fun e=>e▸(h.rch k h.hk).step (List.mem_of_getElem? B)),(q k).2 (.inl h.hk),
   fun s d y hk z x=>by
    simp only[List.mem_append,List.mem_singleton,not_or]at y;exact (q z).2 (.inl (h.cls s (((q s).1 d).resolve_right y.2) y.1 hk z x)),
   fun z x=>by
    rw[tk1 B,List.mem_append,List.mem_singleton]at x;exact (q z).2 (x.imp (h.dn z) id)⟩
theorem CJ.done {nx:Str→List Str} {I K W:List Str} {k:Str} {j:Nat} (h:CJ nx I k j K W) (q:(nx k).length≤j):CI nx I K W :=
 ⟨h.r0,h.sub,h.rch,fun s y x t d=>by
   by_cases e:s=k
   · exact h.dn t (by rw[List.take_of_length_le q];exact e▸d)
   · exact h.cls s y x e t d⟩
theorem CI.fine {nx:Str→List Str} {I K:List Str} (h:CI nx I K []) (t:Str):t∈K↔RchS nx I t :=
  ⟨h.rch t,fun q=>by
    induction q with
    | zero hs=>exact h.r0 _ hs
    | step _ hm ih=>exact h.cls _ ih zj_ _ hm⟩
theorem jW_ {nx:Str→List Str} {I T K:List Str} (d:∀ s,∀ t∈nx s,t∈T) (e:K.Nodup) (h:∀ s∈K,RchS nx I s):K.length≤I.length+T.length:=by
  have:=cN_ e (m:=I++T) fun s q=>(h s q).mem d
  rwa [List.length_append]at this
theorem io_ {L:List (Str×Str)} {r:Str} {K:List Str} (d:K.Nodup) (h:∀ s∈K,RchS (lat L) [r] s):K.length≤L.length+1:=by
  have:=jW_ (T:=L.map (·.2)) (fun s t e=>List.mem_map.2 ⟨_,bN_.1 e,rfl⟩) d h;simp only[List.length_cons,List.length_nil,List.length_map]at this;omega
def hH_ (l:List Ax):List (Str×Str):=l.flatMap fun x=>if x.kind=5 then [(x.roles.headD [],x.role)] else []
theorem oV_ {l:List Ax} {i:Nat} {x:Ax} (h:l[i]? = some x):hH_ (l.take (i+1))=hH_ (l.take i)++if x.kind=5 then [(x.roles.headD [],x.role)] else []:=by
  unfold hH_;rw[List.take_add_one,h,List.flatMap_append];simp
theorem ky_ (l:List Ax):(hH_ l).length≤l.length:=by
  induction l with
  | nil=>simp[hH_]
  | cons x l ih =>
    unfold hH_ at ih ⊢;rw[List.flatMap_cons,List.length_append,List.length_cons]
    split<;>simp only[List.length_cons,List.length_nil]<;>omega
def yJ_ (l:List Ax) (r:Str) (X:List Str):Prop:=SrS X∧∀ t,t∈X↔RchS (lat (hH_ l)) [r] t
end Go.Vs
namespace Go.Sx
open Go
theorem pX_ {P:Program} {N:Nf} {fr:Fr} {H F:Hp} {Γ:List Fct} {ty:TypeId} {e:TypeId} {sz n:Nat} {sv:Value} {q:List Value} {Hr:Hp} {x:Operand} {t:TypeId} {k:Nat} {u:Value} (d:ORow e sz sv n q Hr) (B:H.Perm (Hr++F)) (C:∀ w,(isAgg t).run P w=.ok false w)
    (y:Fr.ev fr x=some (.pointer (some ⟨svB sv,svO sv+k,none⟩))) (A:q[k]? = some u):Yld P N fr H Γ (.load t x) ty u:=by
  cases d with
  | row h =>
    refine cU_ h B C ?_ A;rcases h.2 with⟨rfl,E,_⟩|⟨g,cap,cur,rfl,_⟩
    · rw[y];simp[svO]
    · rw[y];simp[svO]
  | @cut g k0 n cap pre q Hr hp' h =>
    refine cU_ (k:=k0*sz+k) h B C (by rw[y];rfl) ?_;rw[List.getElem?_append_right za_,hp',show k0*sz+k - k0*sz=k by omega];exact A
  | out=>simp at A
end Go.Sx
namespace Go.Proofs.YtpbnmnfdgckaiaaGreatDoor
open Go Go.Sx Go.Proofs
attribute [local irreducible] Code.wp wpList wpAnyH
open Go.Vs
theorem pc_ {s:StM} {k:Str} (h:k ∉ s.ks):(s.add k).ks=s.ks++[k]:=by unfold StM.add;rw[dif_neg h]
theorem ux_ (r:Str) (sb:Nat) (L:List (Str×Str)) (adr:Str→Option Addr×Nat) (hL:L.length≤100000):Tri Tryz.prog 51 #[str r,.map (some sb)] [] [mlF Tryz.prog 9 str ak_ sb L adr] (fun y:{y:Nat×StM // ∀ t,t∈y.2.ks↔RchS (lat L) [r] t}=>.map (some y.1.1)) (fun y=>[(y.1.1,.map y.1.2.es y.1.2.c)]) (fun _=>[]):=by
 refine i_ Tryz.func51 rfl rfl Tryz.ntmps51 rfl fun v_1=>?_;refine Zz 7 ?_;refine ba_ rfl fun F=>Zz 1 ?_
 refine dT_ 0 StM.nil bq_ (.inl rfl) P_ rfl rfl rfl rfl (Zz 8 ?_);refine X_ n_ I_ az_ rfl rfl rfl rfl rfl rfl fun I=>Zz 4 ?_
 have S:ORow 9 1 (.slice (some ⟨I,0,none⟩) 1 1) (List.length [r]) (List.flatMap ak_ [r]) [(I,.cells #[str r] 9 (0,0))]:=ORow.row (ax_.lit rfl (by simp[maxLen]));refine C_ (c_ d_) ?_;refine K_ (ι:={y:StM×List Str×Value×Hp // CI (lat L) [r] y.1.ks y.2.1∧ORow 9 1 y.2.2.1 (List.length y.2.1) (List.flatMap ak_ y.2.1) y.2.2.2∧List.length y.2.1≤List.length y.1.ks}) (fun y=>[(1,.map (some sb)),(4,.map none),(5,.map (some F)),(6,y.1.2.2.1)]) (fun y=>((F,.map y.1.1.es y.1.1.c)::y.1.2.2.2)) (fun y=>[mlF Tryz.prog 9 str ak_ sb L adr]) (fun y=>(List.length L+1) - List.length y.1.1.ks+List.length y.1.2.1) ⟨((StM.add StM.nil r),[r],(.slice (some ⟨I,0,none⟩) 1 1),[(I,.cells #[str r] 9 (0,0))]),CI.init fun n=>by rw[StM.mem];simp[StM.nil],S,by dsimp only;rw[pc_ (by simp[StM.nil])];simp[StM.nil]⟩ zl zp zh ?_;rintro ⟨⟨s,W,svW,HW⟩,hC,X,O⟩;dsimp only at hC X O ⊢;have hsl:=io_ s.hE.nd hC.rch;refine Zz 4 ?_;refine e_ (pW_ X n_ rfl) rfl ?_;refine Zi 0 (fun a1=>?_) fun a1=>?_
 ·refine Zz 12 ?_
  obtain rfl:W=[]:=List.eq_nil_of_length_eq_zero za_;exact Y_ Tryz.results51 ⟨(F,s),fun t=>hC.fine t⟩ rfl d_ zt
 obtain⟨k,W,rfl⟩:∃ k N,W=k::N:=by cases W with|nil=>simp at*| cons k N=>exact⟨k,N,rfl⟩
 refine Zz 9 ?_;refine e_ (sD_ X n_ I_ rfl rfl ze_ zU_) rfl ?_;refine e_ (pX_ (k:=(0:Int).toNat*1) X H_ ab_ rfl rfl) rfl (Zz 6 ?_);refine qE_ (i:=1) (kl:=.i64) X n_ I_ rfl rfl zU_ rfl fun K U=>?_;have a0:ORow 9 1 K (List.length W) (List.flatMap ak_ W) HW:=by simpa [ak_] using U
 have Q:=hC.pop;have hlk:=dB_ L k;refine Zz 7 ?_;refine e_ (bA_ (k:=k) (adr:=adr) bq_ bw_ bm_ rfl rfl zf) rfl (Zz 5 ?_);refine K_ (ι:={y:Nat×StM×List Str×Value×Hp // y.1≤List.length (lat L k)∧CJ (lat L) [r] k y.1 y.2.1.ks y.2.2.1∧ORow 9 1 y.2.2.2.1 (List.length y.2.2.1) (List.flatMap ak_ y.2.2.1) y.2.2.2.2∧List.length y.2.1.ks+List.length W=List.length s.ks+List.length y.2.2.1}) (fun y=>[(1,.map (some sb)),(4,.map none),(5,.map (some F)),(6,y.1.2.2.2.1),(25,.slice (Prod.fst (adr k)) (List.length (lat L k)) (Prod.snd (adr k))),(26,.int .i64 (List.length (lat L k):Int)),(27,.int .i64 (y.1.1:Int))]) (fun y=>((F,.map y.1.2.1.es y.1.2.1.c)::y.1.2.2.2.2)) (fun y=>[mlF Tryz.prog 9 str ak_ sb L adr]) (fun y=>List.length (lat L k) - y.1.1) ⟨((0:Nat),s,W,K,HW),by simp,Q,a0,rfl⟩ zl zp zh ?_;rintro ⟨⟨j,x,E,H,M⟩,Y,P,C,T⟩;dsimp only at Y P C T ⊢;have hsl_1:=io_ x.hE.nd P.rch;have hwk_1:List.length W+1≤List.length s.ks:=by simpa using O
 refine Zi 2 (fun Z=>?_) fun Z=>?_
 ·refine Zz 6 ?_
  exact x_ ⟨(x,E,H,M),P.done za_,C,by dsimp only;simp only[List.length_cons]at O;omega⟩ (by dsimp only;have:=io_ x.hE.nd P.rch;simp only[List.length_cons]at *;omega) zl (l_ d_ ad_) zh
 have B:j<List.length (lat L k):=by omega
 obtain⟨d,A⟩:∃ e_1,(lat L k)[j]? = some e_1:=⟨_,List.getElem?_eq_getElem B⟩;have hmt_1:d∈(lat L k):=List.mem_of_getElem? A;refine Zz 10 ?_;refine e_ (O_ n_ I_ rfl rfl (fun v _ h=>aq_ (n:=1) at_ ze_ (by exact (aV_ h.1 k)) A) za_ zg_) rfl ?_;refine e_ (bl_ (ad:=(Prod.fst (adr k))) ab_ rfl (fun v _ h=>by exact (aV_ h.1 k)) (p_ at_ A 0 _ rfl)) rfl (Zz 7 ?_);refine G_ (ar_ (bt_ (k:=d) (q:=x.ks) bq_ P_ aA_ rfl rfl x.hE (fun v h _=>(h.own _ (List.mem_of_getElem? (i:=0) rfl)).1)) (show _=Value.bool (decide (d∈x.ks)) from congrArg Value.bool (decide_eq_decide.2 Iff.rfl))) rfl fun r_1 e=>e_ (as_ rfl) rfl (Zz 2 ?_)
 cases r_1
 ·replace e:=zdf e
  refine Zz 5 ?_;refine dT_ 0 x bq_ (.inr rfl) P_ rfl rfl rfl rfl (Zz 5 ?_);refine X_ n_ I_ az_ rfl rfl rfl rfl rfl rfl fun b_3=>?_;refine cL_ (List.flatMap ak_ [d]) d_ rfl ?_;refine lE_ (n:=List.length E) (m:=List.length [d]) (news:=List.flatMap ak_ [d]) cP_ C rfl rfl zj_ zj_ H_ rfl zf (fun u hu=>aE_ cm_ hu) zaE_ zw_ rfl fun G J R=>?_;have V:ORow 9 1 G (List.length (E++[d])) (List.flatMap ak_ (E++[d])) J:=by rw[List.length_append,List.flatMap_append];exact R
  refine Zz 3 ?_;refine C_ (bj_ aX_) (Zz 5 ?_);exact x_ ⟨(j+1,(StM.add x d),(E++[d]),G,J),B,P.take A fun n=>StM.mem,V,(by rw[pc_ zag_,List.length_append,List.length_append];simp only[List.length_cons,List.length_nil];omega)⟩ zb_ zl zp (fun _ _ h=>h.2)
 replace e:=zdt e;refine Zz 8 ?_;exact x_ ⟨(j+1,x,E,H,M),B,P.skip A zag_,C,T⟩ zb_ zl zp zh
theorem sr_ (B:List Ax) (lad:Option Addr) (lcap:Nat) (J:∀ x∈B,x.ok) (L:∀ x∈B,x.check=0) (N:B.length≤20) (nm:List Str) (rad:Option Addr) (A:Nat) (G:∀ q∈nm,aO_ q=true∧q.length≤140737488351232) (M:nm.length≤100):Tri Tryz.prog 48 #[.slice lad (List.length B) lcap,.slice rad (List.length nm) A] [] [ge_ lad B,cn_,ai_ rad (List.flatMap ak_ nm)] (fun _:Unit=>.int .i64 0) (fun _=>[]) (fun _=>[]):=by
 refine i_ Tryz.func48 rfl rfl Tryz.ntmps48 rfl fun K=>?_;refine Zz 9 ?_;refine j_ (os_ B lad lcap J L za_) rfl f_ zf rfl fun _=>Zz 6 ?_
 refine e_ (ar_ (cg_ rfl rfl) (show _=Value.bool false from congrArg Value.bool ze_)) rfl (Zz 14 ?_);refine K_ (ι:={y:Nat // y≤List.length nm}) (fun y=>[(4,.int .i64 0),(14,.slice rad (List.length nm) A),(15,.int .i64 (List.length nm:Int)),(16,.int .i64 (y.1:Int))]) (fun y=>([])) (fun y=>[ge_ lad B,cn_,ai_ rad (List.flatMap ak_ nm)]) (fun y=>List.length nm - y.1) ⟨(0:Nat),by simp⟩ zl f_ zh ?_;rintro ⟨i,E⟩;dsimp only at E ⊢;refine Zi 2 (fun H=>?_) fun H=>?_
 ·refine Zz 12 ?_
  exact Y_ Tryz.results48 () rfl f_ zt
 have h:i<List.length nm:=by omega
 obtain⟨C,F⟩:∃ I,nm[i]? = some I:=⟨_,List.getElem?_eq_getElem h⟩;have e:C∈nm:=List.mem_of_getElem? F;refine Zz 18 ?_;refine j_ (gB_ _ (G C e).2) rfl f_ zt rfl fun _=>Zi 6 (fun d=>?_) fun d=>?_
 ·refine Zz 10 ?_
  exact x_ ⟨i+1,h⟩ zb_ zl f_ zh
 exfalso;rw[if_pos (G C e).1]at d;exact d rfl
theorem yc_ {l:List Str} {r:Str} (h:l[0]? = some r):l.headD []=r:=by
  cases l with
  | nil=>simp at h
  | cons a l=>simpa using h
theorem lx_ {G:Prop} (h:G:=by
 refine Zz 3 ?_;refine o_ 15 rfl zk (hr_ (k:=C) (dd:=(Ax.role d)) bq_ G (by rw[ef_];exact J) (.inr rfl) bw_ rfl rfl rfl (ed_ (l_ (g_ (c_ d_)) (B_ y_ (c_ H_)))) fun Q I=>?_);refine Zz 5 ?_;refine C_ (W_ (g_ d_) (bj_ aX_)) (Zz 5 ?_);exact x_ ⟨(i+1,Q),F,(by rw[oV_ K,if_pos H,yc_ B];exact I)⟩ zb_ zl zp zh):G:=h
theorem yE_ (A:List Ax) (lad:Option Addr) (lcap:Nat) (O:∀ x∈A,x.ok) (hC:∀ x∈A,x.check=0) (hll:A.length≤20) (r:Str) (hr:aO_ r=true) (hrl:r.length≤140737488351232):Tri Tryz.prog 17 #[.slice lad (List.length A) lcap,str r] [] [ge_ lad A,cn_] (fun y:{y:List Str×Option Addr×Nat // yJ_ A r y.1∧rkS y}=>.tuple #[.slice y.1.2.1 y.1.1.length y.1.2.2,.int .i64 0]) (fun _=>[]) (fun y=>[ai_ y.1.2.1 (y.1.1.flatMap ak_)]):=by
 refine i_ Tryz.func17 rfl rfl Tryz.ntmps17 rfl fun v_1=>?_;refine Zz 11 ?_;refine X_ n_ I_ az_ rfl rfl rfl rfl rfl rfl fun W=>?_;refine cL_ (List.flatMap ak_ [r]) d_ rfl ?_;refine j_ (sr_ A lad lcap O hC hll [r] (some ⟨W,0,none⟩) 1 (fun q hq=>by rw[List.mem_singleton.1 hq];exact⟨hr,hrl⟩) zj_) rfl f_ zf rfl fun _=>?_;refine Zz 6 ?_;refine e_ (ar_ (cg_ rfl rfl) (show _=Value.bool false from congrArg Value.bool ze_)) rfl (Zz 7 ?_);refine ba_ rfl fun M=>Zz 12 ?_
 refine K_ (ι:={y:Nat×Hp // y.1≤List.length A∧cS_ str ak_ 9 1 (hH_ (List.take y.1 A)) M y.2}) (fun y=>[(1,str r),(4,.slice none 0 0),(5,.int .i64 0),(7,.map (some M)),(18,.slice lad (List.length A) lcap),(19,.int .i64 (List.length A:Int)),(20,.int .i64 (y.1.1:Int))]) (fun y=>(y.1.2)) (fun y=>[ai_ (some ⟨W,0,none⟩) (List.flatMap ak_ [r]),ge_ lad A,cn_]) (fun y=>List.length A - y.1.1) ⟨((0:Nat),[(M,.map #[] 0)]),by simp,cS_.nil _ _⟩ zl ad_ zh ?_;rintro ⟨⟨i,HM⟩,Z,hM⟩;dsimp only at Z hM ⊢;refine Zi 2 (fun L=>?_) fun L=>?_
 ·refine Zz 7 ?_
  rw[List.take_of_length_le za_]at hM;refine nh_ bq_ hM ad_ fun adr=>?_;have hbl:=ky_ A;refine Zz 3 ?_;refine j_ (ux_ r M (hH_ A) adr (by have:=ky_ A;omega)) rfl f_ zf rfl fun⟨⟨cb,cs⟩,P⟩=>?_;dsimp only;dsimp only at P;refine j_ (iQ_ cb) rfl f_ zt rfl fun by_=>?_;have a0:List.length cs.ks≤100000000:=by have:=io_ cs.hE.nd (fun s hs=>(P s).1 hs);omega
  refine j_ (fa_ 96 [zp_ by_ 0] [(by_,.cells #[.map (some cb)] 33 (0,0)),(cb,.map cs.es cs.c)] cs.ks cs.hE.nd a0 (iR_ cb by_ cs.c cs.es cs.ks cs.hE.ke cs.hB a0)) rfl zp zt rfl fun⟨⟨V,U⟩,X,T,S⟩=>?_;dsimp only;refine Zz 5 ?_;exact kK_ Tryz.results17 ⟨(aT_ cs.ks,V,U),⟨gN_ cs.hE.nd,fun t=>by rw[List.mem_mergeSort];exact P t⟩,X,T,S⟩ rfl rfl rfl f_ zf
 obtain⟨F,d,K,e⟩:=zge (show i<List.length A by omega);refine Zz 12 ?_;refine E_ dr_ rfl fun b_3=>z_ 0 bS_ rfl rfl rfl rfl rfl rfl (Zi 6 (fun E=>?_) fun E=>?_)
 ·refine Zz 10 ?_
  exact x_ ⟨(i+1,HM),F,(by rw[oV_ K,if_neg E,List.append_nil];exact hM)⟩ zb_ zl H_ zh
 have H:=E;have hon:=(Ax.good_of (hC d e)).one H;obtain⟨C,B⟩:∃ C,(Ax.roles d)[0]? = some C:=⟨_,List.getElem?_eq_getElem za_⟩;have hrc:=(O d e).cap;have hrln:=(O d e).len;refine Zz 3 ?_;have hbb_1:=(show (lat (hH_ (List.take i A)) C).length≤400000000 from Nat.le_trans (dB_ _ _) (by have:=ky_ (List.take i A);have:=List.length_take_le i A;omega));refine mg_ bq_ C hM H_ fun es_1 ce_1 ve_1 Hk_1 Hx_1 N G=>?_;refine C_ (W_ d_ (bj_ (g_ aX_))) ?_;refine ah_ ((b_3,.cells (Ax.cells d).toArray 42 (0,0))::[]) zk ?_;refine t_ 4 [0,1,2,3,4,5,6,7,8,9,11,12] zk zs (Zz 3 ?_);refine N_ rfl (O_ n_ I_ rfl rfl (fun v _ h=>aq_ (n:=1) at_ ze_ (by exact (h.2.1.2 d e).2.2) B) za_ zg_) rfl ?_;refine N_ rfl (bl_ (ad:=(Ax.ad d)) ab_ rfl (fun v _ h=>by exact (h.2.1.2 d e).2.2) (p_ at_ B 0 _ rfl)) rfl (Zz 3 ?_);refine N_ rfl (O_ n_ I_ rfl rfl (fun v _ h=>aq_ (n:=1) at_ ze_ (by exact (h.2.1.2 d e).2.2) B) za_ zg_) rfl ?_;refine N_ rfl (bl_ (ad:=(Ax.ad d)) ab_ rfl (fun v _ h=>by exact (h.2.1.2 d e).2.2) (p_ at_ B 0 _ rfl)) rfl (Zz 3 ?_);refine gC_ 10 13 rfl rfl zk ?_ ?_
 ·refine e_ (ey_ (k:=C) bq_ G bw_ bm_ rfl rfl 0 rfl) rfl (Zz 3 ?_)
  refine o_ 13 rfl zk (X_ n_ I_ az_ rfl rfl rfl rfl rfl rfl fun b_4=>Zz 3 ?_);refine o_ 14 rfl zk (am_ (news:=List.flatMap ak_ [(Ax.role d)]) cP_ N rfl rfl zp rfl (aR_ 0 rfl) (fun u hu=>aE_ cm_ hu) zc_ zf_ rfl fun Y R L=>?_);have J:=zsa L;exact lx_
 refine X_ n_ I_ az_ rfl rfl rfl rfl rfl rfl fun b_4=>Zz 3 ?_
 refine o_ 10 rfl zk (e_ (ey_ (k:=C) bq_ G bw_ bm_ rfl rfl 1 rfl) rfl (Zz 3 ?_));refine o_ 14 rfl zk (am_ (news:=List.flatMap ak_ [(Ax.role d)]) cP_ N rfl rfl zp rfl (aR_ 0 rfl) (fun u hu=>aE_ cm_ hu) zc_ zf_ rfl fun Y R E=>?_);have J:=zsa E;exact lx_
end Go.Proofs.YtpbnmnfdgckaiaaGreatDoor
namespace Go.Proofs.YtpbnmnfdgckaiaaGreatDoor
open Go Go.Sx Go.Proofs
attribute [local irreducible] Code.wp wpList wpAnyH
open Go.Vs Go.Shelf Go.RowKit
theorem uD_ {P:Program} {N:Nf} {fr:Fr} {H:Hp} {Γ:List Fct} {t h ty:TypeId} {x y:Operand} {m n:List UInt8} (A:Fr.ev fr x=some (str m)) (q:Fr.ev fr y=some (str n)):Yld P N fr H Γ (.binOp .gtr t x y h) ty (.bool (decide (n<m))) :=
  fun a v d _ _ _ _ _=>by
    have e:decide (n<m)=!decide (m≤n):=by rw[Bool.eq_iff_iff];simp[List.not_le]
    rw[e,← ys_];simp[execOp,d.ev A,d.ev q,str,eqGuard,binOp,Op.stringOp]
theorem kW_ (x y:Str):Fn0 Tryz.prog 138 #[str x,str y] (.int .i64 (Lib.compareBytes x y)):=by
 refine i_ Tryz.func138 rfl rfl Tryz.ntmps138 rfl fun q=>?_;refine Zz 8 ?_;refine j_ (pt_ x) rfl f_ zt rfl fun _=>Zz 6 ?_
 refine j_ (pt_ y) rfl f_ zt rfl fun _=>Zi 26 (fun e=>?_) fun e=>?_
 ·refine Zz 10 ?_
  refine G_ (uD_ rfl rfl) rfl fun h d=>Zz 2 ?_
  cases h
  ·replace d:=zdf d
   refine Zz 9 ?_;exact Y_ Tryz.results138 () (cd_ rfl (by rw[pM_,if_neg e,if_neg d])) f_ zt
  replace d:=zdt d;refine Zz 7 ?_;exact Y_ Tryz.results138 () (cd_ rfl (by rw[pM_,if_neg e,if_pos d])) f_ zt
 refine Zz 9 ?_;exact Y_ Tryz.results138 () (cd_ rfl (by rw[pM_,if_pos e])) f_ zt
def hpB (m q:Str):Bool:=decide ((q.length:Int)≤(m.length:Int))&&(m.take q.length==q)
def nls (s:Str):Bool:=!(s.take 1==[123])
theorem yb_ (s:Str):(!(hpB s [123]))=nls s:=by
  unfold hpB nls;cases s with
  | nil=>rfl
  | cons a s=>simp;intro h;omega
theorem up_ (m q:Str):Fn0 Tryz.prog 88 #[str m,str q] (.bool (hpB m q)):=by
 refine i_ Tryz.func88 rfl rfl Tryz.ntmps88 rfl fun h=>?_;refine Zz 8 ?_;refine e_ (cl_ S_ rfl) rfl (Zz 1 ?_);refine e_ (cl_ S_ rfl) rfl ?_;refine Zi 0 (fun e=>?_) fun e=>?_
 ·refine Zz 12 ?_
  exact Y_ Tryz.results88 () (m_ rfl (by unfold hpB;simp[*])) f_ zt
 refine Zz 6 ?_;refine e_ (cl_ S_ rfl) rfl (ap_ rfl rfl (e_ (ar_ (eR_ (i:=0) (j:=q.length) (kl:=.i64) (kh:=.i64) S_ rfl rfl rfl (Nat.zero_le _) za_) (show _=str (List.take (List.length q) m) by simp)) rfl (Zz 3 ?_)));refine G_ (df_ rfl rfl) rfl fun x d=>Zz 5 ?_
 exact Y_ Tryz.results88 () (m_ rfl (by rw[← d];unfold hpB;simp[*])) f_ zt
theorem uo_ (m q:Str):Fn0 Tryz.prog 42 #[str m,str q] (.bool (hpB m q)):=by
  refine i_ Tryz.func42 rfl rfl Tryz.ntmps42 rfl fun d=>?_;refine Zz 9 ?_;refine j_ (up_ m q) rfl f_ zt rfl fun _=>Zz 4 ?_
  exact Y_ Tryz.results42 () rfl f_ zt
theorem bE_ (s:Str):Fn0 Tryz.prog 11 #[str s] (.bool (nls s)):=by
  refine i_ Tryz.func11 rfl rfl Tryz.ntmps11 rfl fun d=>?_;refine Zz 8 ?_;refine j_ (uo_ s [123]) rfl f_ zt rfl fun _=>e_ (as_ rfl) rfl (Zz 4 ?_)
  exact Y_ Tryz.results11 () (m_ rfl (yb_ s)) f_ zt
theorem wE_ (x y:Fc):Fn0 Tryz.prog 82 #[Fc.val x,Fc.val y] (.int .i64 (hE_ x y)):=by
  refine i_ Tryz.func82 rfl rfl Tryz.ntmps82 rfl fun h=>?_;refine Zz 2 ?_;refine V_ rfl rfl fun q=>V_ rfl rfl fun e=>Zz 5 ?_
  refine t_ 9 [0,1,2,3,5,6,7,8,10,11,12,13,15,16,17,18,20,21,22,23,25,26,27,28] zk zs (Zz 25 ?_);refine o_ 4 rfl zk (j_ (gX_ x.kind y.kind) rfl f_ zt rfl fun _=>Zz 3 ?_);refine o_ 9 rfl zk (j_ (kW_ x.a y.a) rfl f_ zt rfl fun _=>Zz 3 ?_);refine o_ 14 rfl zk (j_ (kW_ x.b y.b) rfl f_ zt rfl fun _=>Zz 3 ?_);refine o_ 19 rfl zk (j_ (kW_ x.r y.r) rfl f_ zt rfl fun _=>Zz 3 ?_);refine o_ 24 rfl zk (j_ (gX_ x.lo y.lo) rfl f_ zt rfl fun _=>Zz 3 ?_);refine o_ 29 rfl zk (j_ (gX_ x.hi y.hi) rfl f_ zt rfl fun _=>Zz 3 ?_);refine o_ 30 rfl zk (X_ av_ au_ kA_ rfl rfl rfl rfl rfl rfl fun d=>?_);refine cL_ (List.flatMap fz_ [(Lib.compareInt x.kind y.kind),(Lib.compareBytes x.a y.a),(Lib.compareBytes x.b y.b),(Lib.compareBytes x.r y.r),(Lib.compareInt x.lo y.lo),(Lib.compareInt x.hi y.hi)]) d_ rfl ?_;refine Zz 3 ?_;refine o_ 31 rfl zk (j_ (yN_ [(Lib.compareInt x.kind y.kind),(Lib.compareBytes x.a y.a),(Lib.compareBytes x.b y.b),(Lib.compareBytes x.r y.r),(Lib.compareInt x.lo y.lo),(Lib.compareInt x.hi y.hi)] (some ⟨d,0,none⟩) 6 zj_) rfl f_ zf rfl fun _=>Zz 3 ?_);refine t_ 0 [32] zk zs (Zz 5 ?_);exact Y_ Tryz.results82 () (cd_ rfl (by rfl)) f_ zt
theorem wF_ (l:List Fc) (ad:Option Addr) (cap:Nat) (H:l.length≤cap) (hl:l.length≤1000000000000):Tri Tryz.prog 136 #[.slice ad (List.length l) cap] [] [ai_ ad (List.flatMap Fc.cells l)] (fun y:{y:Value×Hp // zR 36 6 Fc.cells y.1 l y.2}=>y.1.1) (fun y=>y.1.2) (fun _=>[]):=by
 refine i_ Tryz.func136 rfl rfl Tryz.ntmps136 rfl fun F=>?_;refine Zz 9 ?_;refine G_ (ms_ Tryz.underlying26 rfl rfl) rfl fun E d=>Zz 2 ?_
 cases E
 ·replace d:=zdf d
  refine Zz 5 ?_;refine oy_ w_ s_ rfl fun C=>C_ d_ (Zz 1 ?_)
  refine fs_ (news:=List.flatMap Fc.cells l) eh_ (qi_ C 36 6) rfl rfl (fun q=>absurd q d) H ad_ (by rw[dv_ Fc.cells 6 Fc.cells_len]) zf (fun u I=>aE_ Fc.cells_one I) zm_ za_ rfl fun x e d=>?_;refine C_ List.perm_append_comm ?_;have B:ax_ 36 6 x (List.length (([]:List Fc)++l)) (List.flatMap Fc.cells (([]:List Fc)++l)) e:=by rw[List.length_append,List.flatMap_append];exact d
  refine Zz 4 ?_;exact Y_ Tryz.results136 ⟨(x,e),by simpa using B⟩ rfl ad_ zt
 replace d:=zdt d;refine Zz 7 ?_;refine vK_ (p:=List.flatMap Fc.cells l=[]) (fun v _ h=>by have q:=h.1;subst d;exact qo_ q) fun G=>?_;have A:l=[]:=List.eq_nil_of_length_eq_zero (by have:=congrArg List.length G;rw[dv_ Fc.cells 6 Fc.cells_len,List.length_nil]at this;omega);exact Y_ Tryz.results136 ⟨(.slice none 0 0,[]),by subst A;exact ax_.nil _ _⟩ rfl f_ zt
theorem wD_ (d off size:Nat) (w:World):CmpLays Tryz.prog 82 #[] Fc.cells 6 hE_ d off size w:=fun m os B _ x y=>by
  have h:=(wE_ x y).run ⟨fun _=>False,sortWorldK Fc.cells 6 w d off m B os,False⟩ ⟨by simp,by simp,fun _ h=>h.elim⟩ trivial;refine h.mono ?_;rintro e w' ⟨_,F,rfl,rfl,_,_,C⟩;obtain⟨q,A,E⟩:=ic_ C (fun h=>h);exact⟨rfl,q,A,E⟩
theorem xq_ {sv:Value} {q:List Fc} {Hr:Hp} (h:ax_ 36 6 sv q.length (q.flatMap Fc.cells) Hr) (hl:q.length≤1000000000000) :
    Tri Tryz.prog 78 #[sv,.func (.func 82) #[] #[]] Hr [] (fun _:{y:Hp // ax_ 36 6 sv (eP_ q).length ((eP_ q).flatMap Fc.cells) y}=>.tuple #[]) (fun y=>y.1) (fun _=>[]):=by
  rcases h.2 with⟨rfl,I,rfl⟩|⟨g,cap,cur,rfl,rfl,N,M,G,J⟩
  · obtain rfl:q=[]:=List.eq_nil_of_length_eq_zero I
    have T:=cO_ (P:=Tryz.prog) (H:=[]) (Γ:=[]) (callable Tryz.func78 rfl rfl) (fun v _ _=>(AnyF.slices_SortFunc_none Tryz.sortFc none 0 (.func (.func 82) #[] #[]) v.w).mono zk_);exact⟨T.callable,fun v a b=>(T.run v a b).mono zY_⟩
  · have Q:(q.flatMap Fc.cells).length=q.length*6:=dv_ Fc.cells 6 Fc.cells_len q
    have T:=lz_ (P:=Tryz.prog) (Γ:=[]) (r:=.tuple #[]) (g:=g) (cur:=cur) (T:=36) (d:=((eP_ q).flatMap Fc.cells).toArray) (f:=78) (args:=#[.slice (some ⟨g,0,none⟩) q.length cap,.func (.func 82) #[] #[]]) (callable Tryz.func78 rfl rfl) (fun v O=>by
      have R:=AnyQ.slices_SortFunc_total Tryz.sortFc 6 aB_ s_ Fc.cells Fc.cells_len (fun x u S=>List.all_eq_true.1 x.cells_one u S) hE_ xg_ 82 #[] g 0 cap q.toArray v.w (fun args w=>(callable Tryz.func82 rfl rfl) args w) (wD_ g 0 _ v.w) zaD_ (Array.getElem?_eq_some_iff.1 (O.own _ List.mem_cons_self).1).1 zn_ totF;refine R.mono ?_;rintro e w' ⟨rfl,n,os,rfl⟩;refine⟨rfl,n,os,?_⟩;unfold sortWorldK Sort.putRowK;rw[show ((q.toArray.toList.mergeSort fun x y=>!(ltOf hE_) y x))=eP_ q from rfl,hz_])
    refine⟨T.callable,fun v a b=>(T.run v a b).mono ?_⟩;rintro e w' ⟨x,L,A,F,C,E,B⟩;have K:((eP_ q).flatMap Fc.cells).length=q.length*6:=by rw[dv_ Fc.cells 6 Fc.cells_len,dO_]
    refine⟨⟨_,by rw[K,dO_],.inr ⟨g,cap,_,by rw[dO_],rfl,by rw[dO_];exact N,M,by rw[ou_];exact G,?_⟩⟩,L,A,F,C,E,B⟩;have:=ot_ (cur:=cur) (d:=(eP_ q).flatMap Fc.cells) (by rw[K,G];omega);rw[K]at this;rw[dO_];exact this
theorem sp_ (e:List Fc) (sv:Value) (Hr:Hp) (hr:zR 36 6 Fc.cells sv e Hr) (hl:e.length≤1000000000000):Tri Tryz.prog 137 #[sv] Hr [] (fun y:{y:Value×Hp // zR 36 6 Fc.cells y.1 (cpL (fun x w:Fc=>decide (x=w)) e) y.2}=>y.1.1) (fun y=>y.1.2) (fun _=>[]):=by
 refine i_ Tryz.func137 rfl rfl Tryz.ntmps137 rfl fun v_1=>?_;refine Zz 9 ?_;refine e_ (eU_ hr w_ rfl) rfl ?_;refine Zi 0 (fun R=>?_) fun R=>?_
 ·refine Zz 12 ?_
  refine K_ (ι:={y:Nat×Value×Hp // y.1+1≤List.length e∧cpL (fun x w:Fc=>decide (x=w)) (List.take (y.1+1) e)=List.take (y.1+1) e∧zR 36 6 Fc.cells y.2.1 e y.2.2}) (fun y=>[(0,y.1.2.1),(3,.int .i64 ((y.1.1+1:Nat):Int))]) (fun y=>(y.1.2.2)) (fun y=>[]) (fun y=>List.length e - y.1.1) ⟨((0:Nat),sv,Hr),za_,(by obtain⟨t_1,tl,rfl⟩:=List.exists_cons_of_length_pos (show 0<List.length e by omega);rfl),hr⟩ zl ad_ zt ?_;rintro ⟨⟨k,B,Q⟩,hk,K,d⟩;dsimp only at hk K d ⊢;refine Zz 5 ?_;refine e_ (eU_ d w_ rfl) rfl ?_;refine Zi 0 (fun a5=>?_) fun a5=>?_
  ·refine Zz 12 ?_
   have A:cpL (fun x w:Fc=>decide (x=w)) e=e:=(by first|exact oQ_ za_|(have q:=K;rw[List.take_of_length_le za_]at q;exact q));exact Y_ Tryz.results137 ⟨(B,Q),by rw[A];exact d⟩ rfl ad_ zt
  refine Zz 8 ?_;have N:(k+1:Nat)<List.length e:=by omega
  obtain⟨z_1,H⟩:∃ A,e[(k+1:Nat)]? = some A:=⟨_,List.getElem?_eq_getElem N⟩;have hmz_1:z_1∈e:=List.mem_of_getElem? H;have W:k<List.length e:=by omega
  obtain⟨w_1,G⟩:∃ A,e[k]? = some A:=⟨_,List.getElem?_eq_getElem W⟩;have hmw_1:w_1∈e:=List.mem_of_getElem? G;refine Zz 1 ?_;refine t_ 0 [0,1,2,3,4,5,6,7,8,9] zk zs (Zz 2 ?_);refine N_ rfl (bH_ d w_ s_ rfl rfl za_ za_) rfl (N_ rfl (eV_ d ad_ aB_ s_ rfl (Fc.cells_len _) ze_ (p_ Fc.cells_len H)) rfl (Zz 2 ?_));refine N_ rfl (ar_ (aZ_ rfl rfl rfl (ce_ za_ za_)) (show _=Value.int .i64 (k:Int) from congrArg _ za_)) rfl (N_ rfl (bH_ d w_ s_ rfl rfl za_ za_) rfl (N_ rfl (eV_ d ad_ aB_ s_ rfl (Fc.cells_len _) ze_ (p_ Fc.cells_len G)) rfl (cZ_ rfl (ca_ rfl rfl) rfl fun r_1 E=>Zz 3 ?_)));cases r_1
  ·replace E:=zdf E
   refine Zz 5 ?_;refine e_ (ar_ (aZ_ rfl rfl rfl (ce_ za_ za_)) (show _=Value.int .i64 ((k+1+1:Nat):Int) from congrArg _ za_)) rfl (Zz 3 ?_);exact x_ ⟨(k+1,B,Q),(by have:=N;omega),(wA_ K G H (by simpa using E)),d⟩ zb_ zl ad_ zt
  replace E:=zdt E;refine Zz 5 ?_;refine e_ (pV_ (k:=(k+1:Nat)) d w_ s_ rfl rfl za_) rfl (Zz 10 ?_);refine K_ (ι:={y:List Fc×Nat×Nat×Value×Hp // CmI (fun x w:Fc=>decide (x=w)) e y.1 y.2.1 (k+1+y.2.2.1+1)∧zR 36 6 Fc.cells y.2.2.2.1 y.1 y.2.2.2.2}) (fun y=>[(0,y.1.2.2.2.1),(3,.int .i64 (y.1.2.1:Int)),(4,svT y.1.2.2.2.1 (List.length e) (k+1) 6),(5,.int .i64 ((y.1.2.2.1+1:Nat):Int))]) (fun y=>(y.1.2.2.2.2)) (fun y=>[]) (fun y=>List.length e - y.1.2.2.1) ⟨(e,(k+1),(0:Nat),B,Q),(CmI.none K G H (by simpa using E)),d⟩ zl ad_ zt ?_;rintro ⟨⟨M,F,h,B,Q⟩,O,d⟩;dsimp only at O d ⊢;have hMl:=O.len;have hpl:=O.pl;have hkp:=O.kp;refine Zz 5 ?_;refine e_ (tz_ w_ rfl) rfl ?_;refine Zi 0 (fun a2=>?_) fun a2=>?_
  ·refine Zz 9 ?_
   refine e_ (pV_ (k:=F) d w_ s_ rfl rfl za_) rfl (rW_ (k:=F) d ad_ w_ Q_ rfl rfl ze_ rfl za_ fun X zs_1 hz_2 Y=>C_ dV_ (Zz 6 ?_));obtain⟨a4,I,C⟩:=cutRow (P:=Tryz.prog) (k:=F) Y za_ za_;refine e_ (C w_ s_ rfl rfl) rfl (Zz 4 ?_);have a3:CmI (fun x w:Fc=>decide (x=w)) e M F (List.length e):=by have q:=O;rw[show k+1+h+1=List.length e by omega]at q;exact q
   have e_2:=a3.done;have V:(List.take F M).length=F:=by rw[List.length_take];omega
   exact Y_ Tryz.results137 ⟨(a4,X),by show ax_ 36 6 _ _ _ _;rw[← e_2,V,← pB_ Fc.cells 6 Fc.cells_len];have q:=I;rw[List.take_append_of_le_length (by rw[List.length_take,dv_ Fc.cells 6 Fc.cells_len];omega),List.take_take,Nat.min_self]at q;exact q⟩ rfl ad_ zt
  refine Zz 8 ?_;obtain⟨a6,x_1,L,hmx_1⟩:=zge (show (k+1+h:Nat)<List.length M by omega);have T:(k+1+(h+1):Nat)<List.length M:=by omega
  obtain⟨J,C⟩:∃ A,M[(k+1+(h+1):Nat)]? = some A:=⟨_,List.getElem?_eq_getElem T⟩;have hmy_1:J∈M:=List.mem_of_getElem? C;refine Zz 1 ?_;refine t_ 0 [0,1,2,3,4,5,6,7,8,9] zk zs (Zz 2 ?_);refine N_ rfl (oW_ (j:=(h+1:Nat)) w_ s_ rfl rfl za_) rfl (N_ rfl (eV_ d ad_ aB_ s_ rfl (Fc.cells_len _) ze_ (p_ Fc.cells_len C)) rfl (Zz 2 ?_));refine N_ rfl (ar_ (aZ_ rfl rfl rfl (ce_ za_ za_)) (show _=Value.int .i64 (h:Int) from congrArg _ za_)) rfl (N_ rfl (oW_ (j:=h) w_ s_ rfl rfl za_) rfl (N_ rfl (eV_ d ad_ aB_ s_ rfl (Fc.cells_len _) ze_ (p_ Fc.cells_len L)) rfl (cZ_ rfl (gI_ rfl rfl) rfl fun r_2 I=>Zz 3 ?_)));cases r_2
  ·refine Zz 5 ?_
   refine e_ (ar_ (aZ_ rfl rfl rfl (ce_ za_ za_)) (show _=Value.int .i64 ((h+1+1:Nat):Int) from congrArg _ za_)) rfl (Zz 3 ?_);exact x_ ⟨(M,F,h+1,B,Q),(O.skip L C (by simpa using I)),d⟩ (by have:=O.pl;have:=O.kp;dsimp only;omega) zl ad_ zt
  refine Zz 2 ?_;have U:F<List.length M:=by omega
  obtain⟨o_1,a1⟩:∃ A,M[F]? = some A:=⟨_,List.getElem?_eq_getElem U⟩;have hmo_1:o_1∈M:=List.mem_of_getElem? a1;refine Zz 5 ?_;refine e_ (oW_ (j:=(h+1:Nat)) w_ s_ rfl rfl za_) rfl (e_ (eV_ d ad_ aB_ s_ rfl (Fc.cells_len _) ze_ (p_ Fc.cells_len C)) rfl (e_ (bH_ d w_ s_ rfl rfl za_ za_) rfl (rV_ (k:=F*6) (us:=Fc.cells J) d ad_ s_ rfl rfl za_ (Fc.cells_len _) ze_ (Fc.cells_one _) fun S R=>?_)));have a0:=th_ Fc.cells 6 Fc.cells_len M F J za_;have Z:ax_ 36 6 B (List.length (List.set M F J)) (List.flatMap Fc.cells (List.set M F J)) S:=by rw[List.length_set,← a0];exact R
  refine C_ dV_ (Zz 4 ?_);refine e_ (ar_ (aZ_ rfl rfl rfl (ce_ za_ za_)) (show _=Value.int .i64 ((F+1:Nat):Int) from congrArg _ za_)) rfl (Zz 5 ?_);refine e_ (ar_ (aZ_ rfl rfl rfl (ce_ za_ za_)) (show _=Value.int .i64 ((h+1+1:Nat):Int) from congrArg _ za_)) rfl (Zz 3 ?_);exact x_ ⟨((List.set M F J),F+1,h+1,B,S),(O.keep L C (by simpa using I)),Z⟩ (by have:=O.pl;have:=O.kp;dsimp only;omega) zl ad_ zt
 refine Zz 10 ?_;have A:cpL (fun x w:Fc=>decide (x=w)) e=e:=(by first|exact oQ_ za_|(have q:=K;rw[List.take_of_length_le za_]at q;exact q));exact Y_ Tryz.results137 ⟨(sv,Hr),by rw[A];exact hr⟩ rfl ad_ zt
end Go.Proofs.YtpbnmnfdgckaiaaGreatDoor
namespace Go.Proofs
open Go.Shelf
def Tryz.sortSt_ren:Go.Shelf.Ren:=⟨fun|6=>140|15=>133|14=>177|28=>172|29=>173|20=>201|21=>202|22=>203|23=>204|24=>205|25=>206|26=>207|27=>208|46=>221|47=>197|48=>198|49=>222|50=>223|57=>248|n=>n,fun|22=>25|24=>9|25=>141|3=>3|39=>44|0=>0|53=>219|55=>221|4=>4|46=>213|45=>212|50=>157|5=>5|9=>9|66=>237|70=>150|76=>261|77=>262|n=>n,fun|n=>n⟩
theorem Tryz.sortSt:Go.Proofs.SlLaysF.n6 Tryz.prog Tryz.sortSt_ren:={
  mixed:=by kernel_rfl
  f6:=⟨Tryz.f140.name,by decide,Tryz.func140.trans (congrArg some zd_)⟩
  f14:=⟨Tryz.f177.name,by decide,Tryz.func177.trans (congrArg some zd_)⟩
  f15:=Tryz.func133.trans (congrArg some zd_)
  f20:=⟨Tryz.f201.name,by decide,Tryz.func201.trans (congrArg some zd_)⟩
  f21:=⟨Tryz.f202.name,by decide,Tryz.func202.trans (congrArg some zd_)⟩
  f22:=⟨Tryz.f203.name,by decide,Tryz.func203.trans (congrArg some zd_)⟩
  f23:=⟨Tryz.f204.name,by decide,Tryz.func204.trans (congrArg some zd_)⟩
  f24:=⟨Tryz.f205.name,by decide,Tryz.func205.trans (congrArg some zd_)⟩
  f25:=⟨Tryz.f206.name,by decide,Tryz.func206.trans (congrArg some zd_)⟩
  f26:=⟨Tryz.f207.name,by decide,Tryz.func207.trans (congrArg some zd_)⟩
  f27:=⟨Tryz.f208.name,by decide,Tryz.func208.trans (congrArg some zd_)⟩
  f28:=Tryz.func172.trans (congrArg some zd_)
  f29:=Tryz.func173.trans (congrArg some zd_)
  f46:=⟨Tryz.f221.name,by decide,Tryz.func221.trans (congrArg some zd_)⟩
  f47:=Tryz.func197.trans (congrArg some zd_)
  f48:=Tryz.func198.trans (congrArg some zd_)
  f49:=⟨Tryz.f222.name,by decide,Tryz.func222.trans (congrArg some zd_)⟩
  f50:=⟨Tryz.f223.name,by decide,Tryz.func223.trans (congrArg some zd_)⟩
  f57:=⟨Tryz.f248.name,by decide,Tryz.func248.trans (congrArg some zd_)⟩
  t0:=Tryz.underlying0
  a0:=Tryz.isAgg0
  z0:=Tryz.sizeOf0
  v0:=Tryz.zeroValue0
  t3:=Tryz.underlying3
  a3:=Tryz.isAgg3
  z3:=Tryz.sizeOf3
  v3:=Tryz.zeroValue3
  t4:=Tryz.underlying4
  a4:=Tryz.isAgg4
  z4:=Tryz.sizeOf4
  v4:=Tryz.zeroValue4
  t5:=Tryz.underlying5
  a5:=Tryz.isAgg5
  z5:=Tryz.sizeOf5
  v5:=Tryz.zeroValue5
  t9:=Tryz.underlying9
  a9:=Tryz.isAgg9
  z9:=Tryz.sizeOf9
  v9:=Tryz.zeroValue9
  t22:=Tryz.underlying25
  a22:=Tryz.isAgg25
  z22:=Tryz.sizeOf25
  v22:=Tryz.zeroValue25
  a24:=Tryz.isAgg9
  z24:=Tryz.sizeOf9
  t25:=Tryz.underlying141
  a25:=Tryz.isAgg141
  z25:=Tryz.sizeOf141
  v25:=Tryz.zeroValue141
  t39:=Tryz.underlying44
  a39:=Tryz.isAgg44
  z39:=Tryz.sizeOf44
  v39:=Tryz.zeroValue44
  t45:=Tryz.underlying212
  a45:=Tryz.isAgg212
  z45:=Tryz.sizeOf212
  v45:=Tryz.zeroValue212
  t46:=Tryz.underlying213
  a46:=Tryz.isAgg213
  z46:=Tryz.sizeOf213
  v46:=Tryz.zeroValue213
  t50:=Tryz.underlying157
  a50:=Tryz.isAgg157
  z50:=Tryz.sizeOf157
  v50:=Tryz.zeroValue157
  t53:=Tryz.underlying219
  a53:=Tryz.isAgg219
  z53:=Tryz.sizeOf219
  v53:=Tryz.zeroValue219
  t55:=Tryz.underlying221
  a55:=Tryz.isAgg221
  z55:=Tryz.sizeOf221
  v55:=Tryz.zeroValue221
  t66:=Tryz.underlying237
  a66:=Tryz.isAgg237
  z66:=Tryz.sizeOf237
  v66:=Tryz.zeroValue237
  t70:=Tryz.underlying150
  a70:=Tryz.isAgg150
  z70:=Tryz.sizeOf150
  v70:=Tryz.zeroValue150
  t76:=Tryz.underlying261
  a76:=Tryz.isAgg261
  z76:=Tryz.sizeOf261
  v76:=Tryz.zeroValue261
  t77:=Tryz.underlying262
  a77:=Tryz.isAgg262
  z77:=Tryz.sizeOf262
  v77:=Tryz.zeroValue262 }
end Go.Proofs
namespace Go.Proofs.YtpbnmnfdgckaiaaGreatDoor
open Go Go.Sx Go.Proofs
attribute [local irreducible] Code.wp wpList wpAnyH
open Go.Vs Go.Shelf Go.RowKit
theorem wC_ (d off size:Nat) (w:World):CmpLays1 Tryz.prog 86 #[] encStr Lib.compareBytes d off size w:=fun m os B _ x y=>by
  have h:=(ks_ x y).run ⟨fun _=>False,sortWorld encStr w d off m B os,False⟩ ⟨by simp,by simp,fun _ h=>h.elim⟩ trivial;refine h.mono ?_;rintro e w' ⟨_,F,rfl,rfl,_,_,C⟩;obtain⟨q,A,E⟩:=ic_ C (fun h=>h);exact⟨rfl,q,A,E⟩
theorem ltS (x y:Str):ltOf Lib.compareBytes x y=decide (x<y):=by unfold ltOf;rw[decide_eq_decide];exact su_ x y
theorem swoS:Sort.SWO (ltOf Lib.compareBytes) where
  irrefl x:=by rw[ltS];exact decide_eq_false (List.lt_irrefl x)
  trans x y z h1 h2:=by rw[ltS,decide_eq_true_eq]at *;exact List.lt_trans h1 h2
  ntrans x y z h1 h2:=by
    rw[ltS,decide_eq_false_iff_not]at *;exact List.not_lt.2 (List.le_trans (List.not_lt.1 h2) (List.not_lt.1 h1))
theorem totS (x y:Str) (e:ltOf Lib.compareBytes x y=false) (d:ltOf Lib.compareBytes y x=false):x=y:=by
  rw[ltS,decide_eq_false_iff_not]at e d;exact List.le_antisymm (List.not_lt.1 d) (List.not_lt.1 e)
theorem uX_ (d:List Str):(d.mergeSort fun x y=>!(ltOf Lib.compareBytes) y x)=aT_ d:=by
  have e:(fun x y:Str=>!(ltOf Lib.compareBytes) y x)=fun x y=>decide (x≤y):=by
    funext x y
    rw[ltS,Bool.eq_iff_iff];simp[List.not_lt]
  rw[e]
theorem ve_ {sv:Value} {q:List Str} {Hr:Hp} (h:ax_ 9 1 sv q.length (q.flatMap ak_) Hr) (hl:q.length≤1000000000000) :
    Tri Tryz.prog 140 #[sv,.func (.func 86) #[] #[]] Hr [] (fun _:{y:Hp // ax_ 9 1 sv (aT_ q).length ((aT_ q).flatMap ak_) y}=>.tuple #[]) (fun y=>y.1) (fun _=>[]):=by
  rcases h.2 with⟨rfl,J,rfl⟩|⟨g,cap,cur,rfl,rfl,N,M,I,K⟩
  · obtain rfl:q=[]:=List.eq_nil_of_length_eq_zero J
    have T:=cO_ (P:=Tryz.prog) (H:=[]) (Γ:=[]) (callable Tryz.func140 rfl rfl) (fun v _ _=>(AnyF.slices_SortFunc_none { Tryz.sortSt with } none 0 (.func (.func 86) #[] #[]) v.w).mono zk_);exact⟨T.callable,fun v a b=>(T.run v a b).mono (by rintro e w' ⟨x,L,A,G,E,F,B⟩;exact⟨⟨[],by simpa using ax_.nil _ _⟩,L,A,G,E,F,B⟩)⟩
  · have C:(aT_ q).length=q.length:=List.length_mergeSort _
    have T:=jp_ (P:=Tryz.prog) (Γ:=[]) (r:=.tuple #[]) (g:=g) (cur:=cur) (f:=140) (args:=#[.slice (some ⟨g,0,none⟩) q.length cap,.func (.func 86) #[] #[]]) (d:=(aT_ q).toArray) (callable Tryz.func140 rfl rfl) (fun v O=>by
      have Q:=Any.slices_SortFunc_total Tryz.sortSt encStr (fun x=>rfl) Lib.compareBytes swoS 86 #[] g 0 cap q.toArray v.w (fun args w=>(callable Tryz.func86 rfl rfl) args w) (wC_ g 0 _ v.w) (kR_ (n:=0) (cap:=0) O K) (Array.getElem?_eq_some_iff.1 (O.own _ List.mem_cons_self).1).1 zn_ totS;refine Q.mono ?_;rintro e w' ⟨rfl,n,os,rfl⟩;exact⟨rfl,n,os,by rw[show q.toArray.toList=q from rfl,uX_];rfl⟩)
    refine⟨T.callable,fun v a b=>(T.run v a b).mono ?_⟩;rintro e w' ⟨x,L,A,G,E,F,B⟩;refine⟨⟨_,by rw[dv_ ak_ 1 at_],.inr ⟨g,cap,_,by rw[C],rfl,by rw[C];exact N,M,by rw[mX_];exact I,?_⟩⟩,L,A,G,E,F,B⟩;have:=mW_ (cur:=cur) (d:=aT_ q) (by rw[C,I];omega);rw[Nat.mul_one];exact this
def hl_ (xs:List Fc):List Fc:=cpL (fun x w=>decide (x=w)) (eP_ xs)
theorem gO_ (l:List Fc) (ad:Option Addr) (cap:Nat) (K:l.length≤cap) (hl:l.length≤1000000000000):Tri Tryz.prog 81 #[.slice ad (List.length l) cap,.func (.func 82) #[] #[]] [] [ai_ ad (List.flatMap Fc.cells l)] (fun y:{y:Option Addr×Nat // ((hl_ l)).length≤y.2∧y.2≤maxLen∧(y.1=none→y.2=0)}=>.slice y.1.1 ((hl_ l)).length y.1.2) (fun _=>[]) (fun y=>[ai_ y.1.1 (((hl_ l)).flatMap Fc.cells)]):=by
  refine i_ Tryz.func81 rfl rfl Tryz.ntmps81 rfl fun I=>?_;refine Zz 8 ?_;refine j_ (wF_ l ad cap K za_) rfl f_ zf rfl fun⟨⟨E,L⟩,B⟩=>?_;dsimp only;dsimp only at B;simp only[List.append_nil];refine Zz 7 ?_;refine j_ (xq_ B za_) rfl ad_ zt rfl fun⟨G,F⟩=>?_;dsimp only;simp only[List.append_nil];refine Zz 5 ?_;refine j_ (sp_ (eP_ l) E G F (by rw[dO_];omega)) rfl ad_ zt rfl fun⟨⟨J,H⟩,C⟩=>?_;dsimp only;dsimp only at C;simp only[List.append_nil];refine Zz 4 ?_;refine bn_ C ad_ fun x A q d h e=>?_;exact Y_ Tryz.results81 ⟨(x,A),d,h,e⟩ (fG_ rfl q) f_ zf
theorem rH_ (l:List Str) (ad:Option Addr) (cap:Nat) (I:l.length≤cap) (hl:l.length≤1000000):Tri Tryz.prog 85 #[.slice ad (List.length l) cap,.func (.func 86) #[] #[]] [] [ai_ ad (List.flatMap ak_ l)] (fun y:{y:Option Addr×Nat // ((Lib.compact (aT_ l))).length≤y.2∧y.2≤maxLen∧(y.1=none→y.2=0)}=>.slice y.1.1 ((Lib.compact (aT_ l))).length y.1.2) (fun _=>[]) (fun y=>[ai_ y.1.1 (((Lib.compact (aT_ l))).flatMap ak_)]):=by
  refine i_ Tryz.func85 rfl rfl Tryz.ntmps85 rfl fun G=>?_;refine Zz 8 ?_;refine j_ (nO_ l ad cap I za_) rfl f_ zf rfl fun⟨⟨K,J⟩,B⟩=>?_;dsimp only;dsimp only at B;simp only[List.append_nil];refine Zz 7 ?_;refine j_ (ve_ B za_) rfl ad_ zt rfl fun⟨L,E⟩=>?_;dsimp only;simp only[List.append_nil];refine Zz 5 ?_;refine j_ (jB_ E (by rw[List.length_mergeSort];omega)) rfl ad_ zt rfl fun⟨⟨H,F⟩,C⟩=>?_;dsimp only;dsimp only at C;simp only[List.append_nil];refine Zz 4 ?_;refine bn_ C ad_ fun x A q d h e=>?_;exact Y_ Tryz.results85 ⟨(x,A),d,h,e⟩ (fG_ rfl q) f_ zf
end Go.Proofs.YtpbnmnfdgckaiaaGreatDoor
namespace Go.Vs
open Go Go.Sx
def frL (p:List Pc):List (Thg×Pc):=p.map fun y=>(⟨y.kind,y.a⟩,y)
theorem wr_ {p:List Pc} {i:Nat} {x:Pc} (h:p[i]? = some x):frL (p.take (i+1))=frL (p.take i)++[(⟨x.kind,x.a⟩,x)]:=by
  unfold frL;rw[tk1 h,List.map_append];rfl
theorem pA_ (p:List Pc):(frL p).length=p.length:=List.length_map _
def so_ (p:List Pc) (f:Fc):List (Str×Fc):=if f.kind=1 then (lat (frL p) ⟨3,f.b⟩).map fun y=>(f.a,aa_ f.a y.r y.c) else []
def dz_ (p:List Pc) (F:List Fc):List (Str×Fc):=F.flatMap (so_ p)
theorem oP_ {p:List Pc} {F:List Fc} {i:Nat} {f:Fc} (h:F[i]? = some f):dz_ p (F.take (i+1))=dz_ p (F.take i)++so_ p f:=by
  unfold dz_;rw[tk1 h,List.flatMap_append];simp
theorem wx_ (p:List Pc) (f:Fc):(so_ p f).length≤p.length:=by
 unfold so_
 split
 ·rw[List.length_map];have:=dB_ (frL p) ⟨3,f.b⟩;rw[pA_]at this;exact this
 simp
theorem iy_ {p:List Pc} (F:List Fc):(dz_ p F).length≤F.length*p.length:=by
  induction F with
  | nil=>simp[dz_]
  | cons f F ih =>
    unfold dz_ at ih ⊢;rw[List.flatMap_cons,List.length_append,List.length_cons,Nat.add_mul];have:=wx_ p f;omega
theorem rh_ {p:List Pc} {F:List Fc} {s:Str} {z:Fc}:(s,z)∈dz_ p F↔∃ f∈F,∃ y∈p,f.kind=1∧y.kind=3∧y.a=f.b∧s=f.a∧z=aa_ f.a y.r y.c:=by
 unfold dz_ so_;rw[List.mem_flatMap];constructor
 ·rintro ⟨f,x,h⟩
  split at h
  ·rename_i hk
   obtain⟨y,d,e⟩:=List.mem_map.1 h;rw[bN_]at d;obtain⟨E,q,C⟩:=List.mem_map.1 d;simp only[Prod.mk.injEq,Thg.mk.injEq]at e C;obtain⟨⟨A,B⟩,rfl⟩:=C;exact⟨f,x,E,q,hk,A,B,e.1.symm,e.2.symm⟩
  simp at h
 rintro ⟨f,x,y,d,hk,A,B,rfl,rfl⟩;refine⟨f,x,?_⟩;rw[if_pos hk];exact List.mem_map.2 ⟨y,bN_.2 (List.mem_map.2 ⟨y,d,by rw[A,B]⟩),rfl⟩
def nxD (D:List (Str×Fc)) (s:Str):List Str:=(lat D s).map Fc.b
theorem vM_ {D:List (Str×Fc)} {s:Str} {j:Nat} {z:Fc} (h:(lat D s)[j]? = some z):(nxD D s)[j]? = some z.b:=by unfold nxD;rw[List.getElem?_map,h];rfl
structure NmI (I K N:List Str):Prop where
  mem:∀ s,s∈K↔s∈I∨s∈N
  nd:N.Nodup
  dj:∀ s∈N,s ∉ I
theorem NmI.init {I K:List Str} (h:∀ n,n∈K↔n∈I):NmI I K []:=⟨fun s=>by rw[h];simp,List.nodup_nil,by simp⟩
theorem NmI.take {I K x N:List Str} {t:Str} (h:NmI I K N) (A:t ∉ K) (C:∀ n,n∈x↔n∈K∨n=t):NmI I x (N++[t]) :=
 ⟨fun s=>by rw[C,h.mem,List.mem_append,List.mem_singleton,or_assoc],by
   rw[List.nodup_append];exact⟨h.nd,by simp,fun a B b y=>by rw[List.mem_singleton]at y;subst y;intro e;subst e;exact A ((h.mem a).2 (.inr B))⟩,
  fun s d q=>by
   rw[List.mem_append,List.mem_singleton]at d;rcases d with d|rfl
   · exact h.dj s d q
   · exact A ((h.mem s).2 (.inl q))⟩
theorem NmI.len {I K N:List Str} (h:NmI I K N):N.length≤K.length:=cN_ h.nd fun s d=>(h.mem s).2 (.inr d)
def of_ (D:List (Str×Fc)) (I X:List Str):Prop:=∃ N:List Str,N.Nodup∧X=I++aT_ N∧(∀ s∈N,s ∉ I)∧∀ s,(s∈I∨s∈N)↔RchS (nxD D) I s
theorem of_.mem {D:List (Str×Fc)} {I X:List Str} (h:of_ D I X) (s:Str):s∈X↔RchS (nxD D) I s:=by
  obtain⟨N,_,rfl,_,h⟩:=h;rw[← h,List.mem_append,List.mem_mergeSort]
theorem of_.uniq {D:List (Str×Fc)} {I X Y:List Str} (h:of_ D I X) (g:of_ D I Y):X=Y:=by
  obtain⟨N,x,rfl,A,e⟩:=h;obtain⟨M,B,rfl,y,d⟩:=g
  rw[show aT_ N=aT_ M from me_ (gN_ x) (gN_ B) fun s=>by
    rw[List.mem_mergeSort,List.mem_mergeSort];exact⟨fun q=>((d s).2 ((e s).1 (.inr q))).resolve_left (A s q),fun q=>((e s).2 ((d s).1 (.inr q))).resolve_left (y s q)⟩]
end Go.Vs
namespace Go.Proofs.YtpbnmnfdgckaiaaGreatDoor
open Go Go.Sx Go.Proofs
attribute [local irreducible] Code.wp wpList wpAnyH
open Go.Vs
theorem sL_:iC_ Tryz.prog 190 [(0,1),(1,1)] [.int .i64 0,str []]:=⟨_,Tryz.zeroValue190,Tryz.runUnderlying190,fun w=>by simp[au_,I_]⟩
theorem eqTh (p q:Thg) (w:World):(Op.equalIn 10000 190 (Thg.val p) (Thg.val q)).run Tryz.prog w=.ok (decide (p=q)) w:=by
  have h:=run_equalIn_struct (P:=Tryz.prog) w 9999 190 (Thg.cells p).toArray (Thg.cells q).toArray (by simp only[Program.fieldsOf,Tryz.underlying190]) Tryz.stoodInHeld190;refine h.trans ?_;rw[← Thg.eqb_eq];simp only[Program.fieldsOf,Tryz.underlying190];exact bK_ rfl aQ_ rfl rfl (eqI u_ w) (bK_ rfl ab_ rfl rfl (eqS aH_ w) (kn_ w))
theorem okTh (p:Thg):hb_ Tryz.prog 190 (Thg.val p):=fun e w=>by
 have hi:∀ (n:Int) (w:World),(Instr.checkKey e (9998+1) 3 (.int .i64 n)).run Tryz.prog w=.ok () w:=fun n w=>MapKept.run_checkKey (d:=.int .i64) u_ zak_ e 9998
 have q:∀ (n:Str) (w:World),(Instr.checkKey e (9998+1) 9 (str n)).run Tryz.prog w=.ok () w:=fun n w=>MapKept.run_checkKey (d:=.string) aH_ zZ_ e 9998
 refine ckF (n:=9999) Tryz.underlying190 fun f h=>?_;simp only[List.mem_cons,List.not_mem_nil,or_false]at h;rcases h with rfl|rfl
 ·exact⟨rfl,aQ_,_,rfl,hi _⟩
 exact⟨rfl,ab_,_,rfl,q _⟩
theorem vZ_:KeyT Tryz.prog 190 Thg.val:=ft_ (K:=Thg) Tryz.underlying190 okTh (fun p q w=>eqTh p q w) fun k=>ik_ (l:=Thg.cells k) fun v d=>by
 simp only[Thg.cells,List.mem_cons,List.not_mem_nil,or_false]at d;rcases d with rfl|rfl
 ·exact en_ _ _
 exact di_ _ _
theorem lw_ {G:Prop} (h:G:=by
 refine Zz 3 ?_;refine o_ 16 rfl zk (hr_ (k:=d.a) (dd:=(Fc.mk 2 d.a e.c e.r 0 0)) bq_ q zax_ (.inr rfl) jf_ rfl rfl rfl (ed_ (l_ (g_ (c_ d_)) (B_ y_ (c_ (c_ H_))))) fun Q E=>?_);refine Zz 5 ?_;refine C_ (W_ (g_ d_) (W_ (g_ d_) (bj_ aX_))) (Zz 5 ?_);exact x_ ⟨(j+1,Q),H,(by rw[tk1 C,List.map_append,← List.append_assoc];exact E)⟩ zb_ zl zp zh):G:=h
theorem sn_ (p:List Pc) (A:Option Addr) (N:Nat) (F:List Fc) (fad:Option Addr) (fcap:Nat) (hp:p.length≤12000) (hF:F.length≤65536):Tri Tryz.prog 83 #[.slice A (List.length p) N,.slice fad (List.length F) fcap] [] [ai_ A (List.flatMap Pc.cells p),ai_ fad (List.flatMap Fc.cells F)] (fun y:{y:Nat×Hp // cS_ str Fc.cells 36 6 (dz_ p F) y.1 y.2}=>.map (some y.1.1)) (fun y=>y.1.2) (fun _=>[]):=by
 refine i_ Tryz.func83 rfl rfl Tryz.ntmps83 rfl fun v_1=>?_;refine Zz 7 ?_;refine ba_ rfl fun K=>Zz 12 ?_
 refine K_ (ι:={y:Nat×Hp // y.1≤List.length p∧cS_ Thg.val Pc.cells 174 10 (frL (List.take y.1 p)) K y.2}) (fun y=>[(1,.slice fad (List.length F) fcap),(4,.map none),(5,.map (some K)),(14,.slice A (List.length p) N),(15,.int .i64 (List.length p:Int)),(16,.int .i64 (y.1.1:Int))]) (fun y=>(y.1.2)) (fun y=>[ai_ A (List.flatMap Pc.cells p),ai_ fad (List.flatMap Fc.cells F)]) (fun y=>List.length p - y.1.1) ⟨((0:Nat),[(K,.map #[] 0)]),by simp,cS_.nil _ _⟩ zl ad_ zh ?_;rintro ⟨⟨i,HA⟩,a5,hA⟩;dsimp only at a5 hA ⊢;refine Zi 2 (fun S=>?_) fun S=>?_
 ·refine Zz 7 ?_
  rw[List.take_of_length_le za_]at hA;refine nh_ vZ_ hA ad_ fun adr=>?_;refine aI_ (ba_ rfl fun J=>Zz 12 ?_);refine K_ (ι:={y:Nat×Hp // y.1≤List.length F∧cS_ str Fc.cells 36 6 (dz_ p (List.take y.1 F)) J y.2}) (fun y=>[(1,.slice fad (List.length F) fcap),(4,.map (some J)),(5,.map (some K)),(14,.slice A (List.length p) N),(15,.int .i64 (List.length p:Int)),(16,.int .i64 (i:Int)),(35,.slice fad (List.length F) fcap),(36,.int .i64 (List.length F:Int)),(37,.int .i64 (y.1.1:Int))]) (fun y=>(y.1.2)) (fun y=>[mlF Tryz.prog 190 Thg.val Pc.cells K (frL p) adr,ai_ A (List.flatMap Pc.cells p),ai_ fad (List.flatMap Fc.cells F)]) (fun y=>List.length F - y.1.1) ⟨((0:Nat),[(J,.map #[] 0)]),by simp,cS_.nil _ _⟩ zl ad_ zh ?_;rintro ⟨⟨m,HB⟩,V,hB⟩;dsimp only at V hB ⊢;refine Zi 2 (fun B=>?_) fun B=>?_
  ·refine Zz 13 ?_
   rw[List.take_of_length_le za_]at hB;exact Y_ Tryz.results83 ⟨(J,HB),hB⟩ rfl ad_ zt
  have I:m<List.length F:=by omega
  obtain⟨d,R⟩:∃ X,F[m]? = some X:=⟨_,List.getElem?_eq_getElem I⟩;have hmf_1:d∈F:=List.mem_of_getElem? R;refine Zz 12 ?_;refine E_ Q_ rfl fun T=>z_ 0 s_ rfl rfl rfl rfl rfl rfl (Zi 7 (fun P=>?_) fun P=>?_)
  ·have O:Fc.kind d=1:=by simpa using P
   refine Zz 10 ?_;refine e_ (J_ sL_ rfl rfl) rfl (e_ (bA_ (k:=(Thg.mk 3 d.b)) (adr:=adr) vZ_ Tryz.runUnderlying188 bP_ rfl rfl zf) rfl (Zz 5 ?_));have hql:List.length (lat (frL p) (Thg.mk 3 d.b))≤List.length p:=by have:=dB_ (frL p) (Thg.mk 3 d.b);rw[pA_]at this;exact this
   refine K_ (ι:={y:Nat×Hp // y.1≤List.length (lat (frL p) (Thg.mk 3 d.b))∧cS_ str Fc.cells 36 6 ((dz_ p (List.take m F))++List.map (fun y=>(Fc.a d,aa_ d.a y.r y.c)) (List.take y.1 (lat (frL p) (Thg.mk 3 d.b)))) J y.2}) (fun y=>[(1,.slice fad (List.length F) fcap),(4,.map (some J)),(5,.map (some K)),(14,.slice A (List.length p) N),(15,.int .i64 (List.length p:Int)),(16,.int .i64 (i:Int)),(35,.slice fad (List.length F) fcap),(36,.int .i64 (List.length F:Int)),(37,.int .i64 (m:Int)),(10,zp_ T 0),(48,.slice (Prod.fst (adr (Thg.mk 3 d.b))) (List.length (lat (frL p) (Thg.mk 3 d.b))) (Prod.snd (adr (Thg.mk 3 d.b)))),(49,.int .i64 (List.length (lat (frL p) (Thg.mk 3 d.b)):Int)),(50,.int .i64 (y.1.1:Int))]) (fun y=>((T,.cells #[.int .i64 d.kind,str d.a,str d.b,str d.r,.int .i64 d.lo,.int .i64 d.hi] 36 (0,0))::y.1.2)) (fun y=>[mlF Tryz.prog 190 Thg.val Pc.cells K (frL p) adr,ai_ A (List.flatMap Pc.cells p),ai_ fad (List.flatMap Fc.cells F)]) (fun y=>List.length (lat (frL p) (Thg.mk 3 d.b)) - y.1.1) ⟨((0:Nat),HB),by simp,(by rw[List.take_zero,List.map_nil,List.append_nil];exact hB)⟩ zl zp zh ?_;rintro ⟨⟨j,HB⟩,a4,L⟩;dsimp only at a4 L ⊢;have hdl:List.length ((dz_ p (List.take m F))++List.map (fun y=>(Fc.a d,aa_ d.a y.r y.c)) (List.take j (lat (frL p) (Thg.mk 3 d.b))))≤1000000000:=by have h_1:=iy_ (p:=p) (List.take m F);have h_2:=List.length_take_le m F;have h_3:=List.length_take_le j (lat (frL p) (Thg.mk 3 d.b));have h_4:=Nat.mul_le_mul (Nat.le_trans (Nat.le_trans h_2 V) hF) hp;rw[List.length_append,List.length_map];omega
   refine Zi 2 (fun a3=>?_) fun a3=>?_
   ·refine Zz 11 ?_
    exact x_ ⟨(m+1,HB),I,(by rw[oP_ R,so_,if_pos O];rw[List.take_of_length_le (l:=(lat (frL p) (Thg.mk 3 d.b))) za_]at L;exact L)⟩ zb_ zl H_ zh
   have H:j<List.length (lat (frL p) (Thg.mk 3 d.b)):=by omega
   obtain⟨e,C⟩:∃ X,(lat (frL p) (Thg.mk 3 d.b))[j]? = some X:=⟨_,List.getElem?_eq_getElem H⟩;have hmy_1:e∈(lat (frL p) (Thg.mk 3 d.b)):=List.mem_of_getElem? C;refine Zz 10 ?_;refine e_ (O_ D_ F_ rfl rfl (fun v _ h=>aq_ (n:=10) Pc.cells_len ze_ (by exact (aV_ h.1 (Thg.mk 3 d.b))) C) za_ zg_) rfl ?_;refine e_ (ae_ (ad:=(Prod.fst (adr (Thg.mk 3 d.b)))) (us:=Pc.cells e) dy_ F_ rfl (fun v _ h=>by exact (aV_ h.1 (Thg.mk 3 d.b))) (Pc.cells_len _) (p_ Pc.cells_len C)) rfl (E_ T_ rfl fun a0=>z_ 0 F_ rfl rfl rfl rfl rfl rfl (Zz 2 ?_));have Z:=(show (lat ((dz_ p (List.take m F))++List.map (fun y=>(Fc.a d,aa_ d.a y.r y.c)) (List.take j (lat (frL p) (Thg.mk 3 d.b)))) d.a).length≤1000000000 from Nat.le_trans (dB_ _ _) hdl);refine mg_ bq_ d.a L (c_ H_) fun a6 ce_1 a1 a7 Hx_1 M q=>?_;refine C_ (W_ d_ (W_ (g_ (g_ d_)) (bj_ (g_ aX_)))) ?_;refine ah_ ((a0,.cells #[.int .i64 e.kind,str e.a,str e.b,str e.c,str e.r,str e.s,str e.t,.int .i64 e.lo,.int .i64 e.hi,.int .i64 e.frm] 174 (0,0))::((T,.cells #[.int .i64 d.kind,str d.a,str d.b,str d.r,.int .i64 d.lo,.int .i64 d.hi] 36 (0,0))::[])) zk ?_;refine t_ 4 [0,1,2,3,4,5,7,8,9,10,11,12,13] zk zs (Zz 12 ?_);refine N_ rfl (J_ eb_ rfl rfl) rfl (bh_ ?_);refine gC_ 6 14 rfl rfl zk ?_ ?_
   ·refine e_ (ey_ (k:=d.a) bq_ q jf_ ds_ rfl rfl 0 rfl) rfl (Zz 3 ?_)
    refine o_ 14 rfl zk (X_ w_ s_ Q_ rfl rfl rfl rfl rfl rfl fun b_5=>Zz 3 ?_);refine o_ 15 rfl zk (am_ (news:=List.flatMap Fc.cells [(Fc.mk 2 d.a e.c e.r 0 0)]) eh_ M rfl rfl zp rfl (aR_ 0 rfl) (fun u hu=>aE_ Fc.cells_one hu) zc_ zf_ rfl fun W U S=>?_);have G:=zsa S;exact lw_
   refine X_ w_ s_ Q_ rfl rfl rfl rfl rfl rfl fun b_5=>Zz 3 ?_
   refine o_ 6 rfl zk (e_ (ey_ (k:=d.a) bq_ q jf_ ds_ rfl rfl 1 rfl) rfl (Zz 3 ?_));refine o_ 15 rfl zk (am_ (news:=List.flatMap Fc.cells [(Fc.mk 2 d.a e.c e.r 0 0)]) eh_ M rfl rfl zp rfl (aR_ 0 rfl) (fun u hu=>aE_ Fc.cells_one hu) zc_ zf_ rfl fun W U B=>?_);have G:=zsa B;exact lw_
  have O:¬ Fc.kind d=1:=by simpa using P
  refine Zz 10 ?_;exact x_ ⟨(m+1,HB),I,(by rw[oP_ R,so_,if_neg O,List.append_nil];exact hB)⟩ zb_ zl H_ zh
 obtain⟨Y,x,a2,hmx_1⟩:=zge (show i<List.length p by omega);refine Zz 12 ?_;refine E_ T_ rfl fun J=>z_ 0 F_ rfl rfl rfl rfl rfl rfl (Zz 8 ?_)
 refine e_ (J_ sL_ rfl rfl) rfl (E_ Tryz.zeroValue190 rfl fun T=>z_ 0 Tryz.sizeOf190 rfl rfl rfl rfl rfl rfl (Zz 6 ?_));refine X_ D_ F_ T_ rfl rfl rfl rfl rfl rfl fun a0=>?_;have Z:=(show (lat (frL (List.take i p)) (Thg.mk x.kind x.a)).length≤400000000 from Nat.le_trans (dB_ _ _) (by rw[pA_,List.length_take];omega));refine fh_ (k:=(Thg.mk x.kind x.a)) vZ_ hA Tryz.runUnderlying188 bP_ rfl rfl (c_ (c_ H_)) rfl fun a6 ce_1 ie_1 se_1 a1 a7 Hx_1 q M=>Zz 1 ?_
 refine am_ (news:=List.flatMap Pc.cells [x]) wv_ M rfl rfl zp rfl (fe_ zp) (fun u hu=>aE_ Pc.cells_one hu) zc_ zf_ rfl fun W U B=>?_;have G:=zsa B;refine Zz 1 ?_;refine cX_ (k:=(Thg.mk x.kind x.a)) (dd:=x) q zax_ rfl rfl rfl (ed_ (l_ (g_ d_) (B_ y_ y_))) fun Q E=>?_;refine Zz 2 ?_;refine C_ (W_ (g_ d_) (W_ (g_ d_) (bj_ aX_))) (Zz 5 ?_);exact x_ ⟨(i+1,Q),Y,(by rw[wr_ a2];exact E)⟩ zb_ zl zp zh
end Go.Proofs.YtpbnmnfdgckaiaaGreatDoor
