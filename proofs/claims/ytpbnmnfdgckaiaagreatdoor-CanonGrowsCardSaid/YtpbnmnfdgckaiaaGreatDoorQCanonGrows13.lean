/-
  Part of the proof of the law CanonGrows over this seat: the small logic, the data, the contracts of functions (no condition).
-/
import Derived.Test.YtpbnmnfdgckaiaaGreatDoorQCanonGrows12
import Derived.Test.YtpbnmnfdgckaiaaGreatDoorQCanonGrows11
import Derived.Test.YtpbnmnfdgckaiaaGreatDoorQCanonGrows8
import Derived.Test.YtpbnmnfdgckaiaaGreatDoorQCanonGrows7
import Derived.Test.YtpbnmnfdgckaiaaGreatDoorQCanonGrows6
import Derived.Test.YtpbnmnfdgckaiaaGreatDoorQCanonGrows10
import Derived.Shelf.SlSortCmp.NoneTotal
import Derived.Test.YtpbnmnfdgckaiaaGreatDoorProg
set_option linter.unusedVariables false
set_option linter.unusedSimpArgs false
set_option linter.unusedSectionVars false
set_option maxHeartbeats 1000000
namespace Go.Proofs.YtpbnmnfdgckaiaaGreatDoor
open Go Go.Sx Go.Proofs
attribute [local irreducible] Code.wp wpList wpAnyH
open Go.Vs
theorem xx_:ij_ Tryz.prog 133 [(0,1),(1,1),(2,1),(3,1)] [.slice none 0 0,.slice none 0 0,.slice none 0 0,.slice none 0 0]:=⟨_,Tryz.zeroValue133,cO_,fun w=>by simp[bI_]⟩
theorem wa_ {A B:Hp} {l D:Nat} {r:Loop} {Ds:List Nat}:(B++(mkH Ds++A)++HLp l D r).Perm ((mkH (D::Ds)++A)++(B++[(l,.loop r)])):=by
  have d:(B++(mkH Ds++A)++HLp l D r).Perm ((mkH Ds++A)++B++HLp l D r):=List.Perm.append_right _ List.perm_append_comm;have e:(mkH Ds++A)++B++HLp l D r=((mkH Ds++A)++(B++[(l,.loop r)]))++[(D,.deferred (some []))]:=by simp[HLp]
  rw[e]at d;exact d.trans List.perm_append_comm
theorem ec_ {P:Program} {N:Nf} {K:Vw} {O H:Hp} {R:Exit→Act→World→Prop} {M:List Kt} {fr:Fr} {Γ:List Fct} {h:Array Oper} {lo:List Oper} {ty:TypeId} {ps:String} {Q:Array Edge} {o:Op} {t G S:TypeId} {x y z:Operand} {b:Nat} (n:Nat) (s:StM) {k:Str} (v:KeyT P G str) (E:o=.insert t x y z∨o=.mapUpdate t x y z) (F:∀ w,(underlying t).run P w=.ok (.map G S) w)
    (I:Fr.ev fr x=some (.map (some b))) (J:Fr.ev fr y=some (str k)) (L:Fr.ev fr z=some (.bool true)) (hi:H[n]? = some (b,.map s.es s.c))
    (d:Ops P R N K O h lo M fr (H.set n (b,.map (s.add k).es (s.add k).c)) Γ):Ops P R N K O h (⟨none,o,ty,ps,Q,none⟩::lo) M fr H Γ:=by
  by_cases hk:k∈s.ks
  · have B:s.add k=s:=by unfold StM.add;rw[dif_pos hk]
    rw[B]at d;obtain⟨i,e,T,q,m,A,C⟩:=s.hE.yes v hk;refine hI_ (e:=e) (i:=i) (u:=.bool true) (u':=.bool true) n v E F I J L hi C q m ?_;rw[iN_ q m A];exact d
  · have B:s.add k=⟨s.es.push ⟨str k,.bool true,s.c⟩,s.c+1,s.ks++[k],s.hE.push hk s.c,s.hB.push _ _⟩:=by unfold StM.add;rw[dif_neg hk]
    rw[B]at d;exact bi_ n E F I J L hi (v.ok _) (s.hE.no v hk) d
theorem xb_ {x:Ax} (h:x.check=0):x.roles.length≤4:=by
 unfold Ax.check at h
 split at h
 ·cases h
 rename_i k
 clear h;simp only[Bool.not_eq_false]at k;unfold Ax.shaped at k
 split at k
 ·cases k
 rename_i q
 simp only[not_or]at q;have m:x.kind=1∨x.kind=2∨x.kind=3∨x.kind=4∨x.kind=5∨x.kind=6∨x.kind=7∨x.kind=8∨x.kind=9:=by omega
 simp only[Bool.and_eq_true,decide_eq_true_eq]at k;have d:=k.2;rcases m with e|e|e|e|e|e|e|e|e<;>rw[e]at d<;>simp[us,tQ_]at d<;>first|omega|(rw[d];decide)
def rkS (r:List Str×Option Addr×Nat):Prop:=r.1.length≤r.2.2∧r.2.2≤maxLen∧(r.2.1=none→r.2.2=0)
set_option maxHeartbeats 1000000 in
theorem voc_c (O:List Ax) (lad:Option Addr) (lcap:Nat) (hok:∀ x∈O,x.ok) (hC:∀ x∈O,x.check=0) (hll:O.length≤20):Tri Tryz.prog 80 #[.slice lad (List.length O) lcap] [] [cu_ lad O,bV_] (fun y:{y:(List Str×Option Addr×Nat)×(List Str×Option Addr×Nat)×(List Str×Option Addr×Nat)×(List Str×Option Addr×Nat) // (lu_ 3 O y.1.1∧rkS y.1)∧(lu_ 6 O y.2.1.1∧rkS y.2.1)∧(lu_ 7 O y.2.2.1.1∧rkS y.2.2.1)∧(lu_ 4 O y.2.2.2.1∧rkS y.2.2.2)}=>.tuple #[.agg #[.slice y.1.1.2.1 y.1.1.1.length y.1.1.2.2,.slice y.1.2.1.2.1 y.1.2.1.1.length y.1.2.1.2.2,.slice y.1.2.2.1.2.1 y.1.2.2.1.1.length y.1.2.2.1.2.2,.slice y.1.2.2.2.2.1 y.1.2.2.2.1.length y.1.2.2.2.2.2],.int .i64 0]) (fun _=>[]) (fun y=>[V_ y.1.1.2.1 (y.1.1.1.flatMap ap_),V_ y.1.2.1.2.1 (y.1.2.1.1.flatMap ap_),V_ y.1.2.2.1.2.1 (y.1.2.2.1.1.flatMap ap_),V_ y.1.2.2.2.2.1 (y.1.2.2.2.1.flatMap ap_)]):=by
 refine hC_ Tryz.func80 rfl rfl Tryz.ntmps80 rfl fun v_1=>?_;have hzb:∀ x∈O,x.left.sz≤1000000∧x.right.sz≤1000000∧x.roles.length≤1000000:=fun x hx=>⟨by have:=(pt_ (hC x hx)).1;omega,by have:=(pt_ (hC x hx)).2;omega,by have:=xb_ (hC x hx);omega⟩
 refine Zz 2 ?_;refine D_ Tryz.zeroValue133 rfl fun J=>Zz 12 ?_
 refine P_ (ι:={y:Nat // y≤List.length O}) (fun y=>[(0,.slice lad (List.length O) lcap),(2,zp_ J 0),(3,.int .i64 0),(21,.slice lad (List.length O) lcap),(22,.int .i64 (List.length O:Int)),(23,.int .i64 (y.1:Int))]) (fun y=>((J,.cells #[.slice none 0 0,.slice none 0 0,.slice none 0 0,.slice none 0 0] 133 (0,0))::[])) (fun y=>[cu_ lad O,bV_]) (fun y=>List.length O - y.1) ⟨(0:Nat),by simp⟩ zl d_ zh ?_;rintro ⟨Y,hi_i0⟩;dsimp only at hi_i0 ⊢;refine Zi 2 (fun Q=>?_) fun Q=>?_
 ·refine Zz 8 ?_
  refine bn_ rfl fun m=>bn_ rfl fun B=>Zz 6 ?_
  refine bn_ rfl fun A=>bn_ rfl fun C=>Zz 6 ?_
  refine bn_ rfl fun H=>Zz 1 ?_
  refine bi_ 0 (.inl rfl) cJ_ rfl rfl rfl rfl (bo_ s_) (aW_ s_ rfl) (Zz 1 ?_);refine bi_ 0 (.inl rfl) cJ_ rfl rfl rfl rfl (bo_ s_) (aW_ s_ rfl) (Zz 1 ?_);refine bi_ 0 (.inl rfl) cJ_ rfl rfl rfl rfl (bo_ s_) (aW_ s_ rfl) (Zz 1 ?_);refine bi_ 0 (.inl rfl) cJ_ rfl rfl rfl rfl (bo_ s_) (aW_ s_ rfl) (Zz 1 ?_);refine D_ Tryz.zeroValue185 rfl fun K=>x_ 0 Tryz.sizeOf185 rfl rfl rfl rfl rfl rfl (Zz 11 ?_)
  refine u_ (H':=((K,.cells #[.map (some H)] 185 (0,0))::((H,.map #[⟨.int .i64 3,.map (some m),0⟩,⟨.int .i64 6,.map (some B),1⟩,⟨.int .i64 7,.map (some A),2⟩,⟨.int .i64 4,.map (some C),3⟩] 4)::((C,.map #[] 0)::((A,.map #[] 0)::((B,.map #[] 0)::((m,.map #[] 0)::((J,.cells #[.slice none 0 0,.slice none 0 0,.slice none 0 0,.slice none 0 0] 133 (0,0))::(mkH []))))))))) (.refl _) ?_;refine lc_ (N:=fun y=>⟨110,mks y.1.2.2⟩) (ι:={y:Nat×S4×List Nat // y.1≤List.length O∧V4 y.2.1 (fun k=>vcL k (List.take y.1 O))}) (fun y=>[(0,.slice lad (List.length O) lcap),(2,zp_ J 0),(3,.int .i64 0),(21,.slice lad (List.length O) lcap),(22,.int .i64 (List.length O:Int)),(23,.int .i64 (Y:Int)),(7,.map (some m)),(8,.map (some B)),(9,.map (some A)),(10,.map (some C)),(11,zp_ K 0),(44,.slice lad (List.length O) lcap),(45,.int .i64 (List.length O:Int)),(46,.int .i64 (y.1.1:Int))]) (fun y=>((K,.cells #[.map (some H)] 185 (0,0))::((H,.map #[⟨.int .i64 3,.map (some m),0⟩,⟨.int .i64 6,.map (some B),1⟩,⟨.int .i64 7,.map (some A),2⟩,⟨.int .i64 4,.map (some C),3⟩] 4)::((C,.map y.1.2.1.2.2.2.es y.1.2.1.2.2.2.c)::((A,.map y.1.2.1.2.2.1.es y.1.2.1.2.2.1.c)::((B,.map y.1.2.1.2.1.es y.1.2.1.2.1.c)::((m,.map y.1.2.1.1.es y.1.2.1.1.c)::((J,.cells #[.slice none 0 0,.slice none 0 0,.slice none 0 0,.slice none 0 0] 133 (0,0))::(mkH y.1.2.2))))))))) (fun y=>[cu_ lad O,bV_]) (fun y=>List.length O - y.1.1) ⟨((0:Nat),((StM.nil,StM.nil,StM.nil,StM.nil):S4),([]:List Nat)),by simp,V4.nil.cg fun k=>by simp[vcL]⟩ zl zp zh ?_;rintro ⟨⟨i,s,Ds⟩,hi_i,hV⟩;dsimp only at hi_i hV ⊢;refine Zi 2 (fun hr_2=>?_) fun hr_2=>?_
  ·refine Zz 7 ?_
   rw[List.take_of_length_le zr_]at hV;have V:∀ k,List.length (vcL k O)≤80000000:=fun k=>Nat.le_trans (tc_ hzb) zr_
   have hq_1:List.length s.1.ks≤100000000:=by have:=hV.c.len;have:=V 3;omega
   have hq_2:List.length (List.filter (fun q=>decide (q≠[])) s.2.1.ks)≤100000000:=by have:=hV.r.len;have:=V 6;have:=List.length_filter_le (fun q=>decide (q≠[])) s.2.1.ks;omega
   have hq_3:List.length s.2.2.1.ks≤100000000:=by have:=hV.f.len;have:=V 7;omega
   have hq_4:List.length (List.filter (fun q=>decide (q≠[])) s.2.2.2.ks)≤100000000:=by have:=hV.i.len;have:=V 4;have:=List.length_filter_le (fun q=>decide (q≠[])) s.2.2.2.ks;omega
   refine Zz 2 ?_;refine qY_ 4 bG_ S_ rfl rfl rfl s.2.1.hE s.2.1.hB rfl fun eD_1 hE_1 hB_1=>Zz 5 ?_
   refine qY_ 2 bG_ S_ rfl rfl rfl s.2.2.2.hE s.2.2.2.hB rfl fun eD_2 hE_2 hB_2=>Zz 5 ?_
   refine i_ (jl_ m) rfl l_ zt rfl fun by_1=>i_ (fz_ 96 [zp_ by_1 0] [(by_1,.cells #[.map (some m)] 33 (0,0)),(m,.map s.1.es s.1.c)] s.1.ks s.1.hE.nd hq_1 (jm_ m by_1 s.1.c s.1.es s.1.ks s.1.hE.ke s.1.hB hq_1)) rfl (f_ d_ (c_ (c_ (c_ (c_ (c_ d_)))))) zt rfl fun⟨⟨ad_1,cp_1⟩,U,hs_2,hs_3⟩=>?_;dsimp only;refine Zz 1 ?_;refine i_ (jl_ B) rfl l_ zt rfl fun a1=>i_ (fz_ 96 [zp_ a1 0] [(a1,.cells #[.map (some B)] 33 (0,0)),(B,.map eD_1 s.2.1.c)] (List.filter (fun q=>decide (q≠[])) s.2.1.ks) hE_1.nd hq_2 (jm_ B a1 s.2.1.c eD_1 (List.filter (fun q=>decide (q≠[])) s.2.1.ks) hE_1.ke hB_1 hq_2)) rfl zp zt rfl fun⟨⟨ad_2,cp_2⟩,hs_4,hs_5,hs_6⟩=>?_;dsimp only;refine Zz 1 ?_;refine i_ (jl_ A) rfl l_ zt rfl fun by_3=>i_ (fz_ 96 [zp_ by_3 0] [(by_3,.cells #[.map (some A)] 33 (0,0)),(A,.map s.2.2.1.es s.2.2.1.c)] s.2.2.1.ks s.2.2.1.hE.nd hq_3 (jm_ A by_3 s.2.2.1.c s.2.2.1.es s.2.2.1.ks s.2.2.1.hE.ke s.2.2.1.hB hq_3)) rfl zp zt rfl fun⟨⟨ad_3,cp_3⟩,hs_7,hs_8,hs_9⟩=>?_;dsimp only;refine Zz 1 ?_;refine i_ (jl_ C) rfl l_ zt rfl fun by_4=>i_ (fz_ 96 [zp_ by_4 0] [(by_4,.cells #[.map (some C)] 33 (0,0)),(C,.map eD_2 s.2.2.2.c)] (List.filter (fun q=>decide (q≠[])) s.2.2.2.ks) hE_2.nd hq_4 (jm_ C by_4 s.2.2.2.c eD_2 (List.filter (fun q=>decide (q≠[])) s.2.2.2.ks) hE_2.ke hB_2 hq_4)) rfl zp zt rfl fun⟨⟨ad_4,cp_4⟩,hs_10,hs_11,hs_12⟩=>?_;dsimp only;refine e_ (K_ xx_ rfl rfl) rfl (x_ 10 Tryz.sizeOf133 rfl rfl rfl rfl rfl rfl (Zz 4 ?_));exact retMs ⟨((bg_ s.1.ks,ad_1,cp_1),(bg_ (List.filter (fun q=>decide (q≠[])) s.2.1.ks),ad_2,cp_2),(bg_ s.2.2.1.ks,ad_3,cp_3),(bg_ (List.filter (fun q=>decide (q≠[])) s.2.2.2.ks),ad_4,cp_4)),⟨lu_.of hV.c zr_,U,hs_2,hs_3⟩,⟨lu_.ofD hV.r zr_,hs_4,hs_5,hs_6⟩,⟨lu_.of hV.f zr_,hs_7,hs_8,hs_9⟩,⟨lu_.ofD hV.i zr_,hs_10,hs_11,hs_12⟩⟩ (fun aa v h_1 h_2 _=>fW_ (us:=[.slice ad_1 (List.length (bg_ s.1.ks)) cp_1,.slice ad_2 (List.length (bg_ (List.filter (fun q=>decide (q≠[])) s.2.1.ks))) cp_2,.slice ad_3 (List.length (bg_ s.2.2.1.ks)) cp_3,.slice ad_4 (List.length (bg_ (List.filter (fun q=>decide (q≠[])) s.2.2.2.ks))) cp_4]) 10 Tryz.results80 Tryz.isAgg133 Tryz.sizeOf133 rfl rfl rfl rfl aa v h_1 h_2) (c_ (c_ (c_ (c_ (c_ (c_ (c_ (c_ (c_ (c_ B_)))))))))) ⟨_,.refl _⟩ zf
  obtain⟨S,d,hx_1,M⟩:=zge (show i<List.length O by omega);have hrl:=(hok d M).len;have hrc:=(hok d M).cap;refine Zz 12 ?_;refine D_ bc_ rfl fun P=>x_ 0 ar_ rfl rfl rfl rfl rfl rfl (Zz 9 ?_)
  refine R_ ai_ L_ ch_ rfl rfl rfl rfl rfl rfl fun X=>?_;refine bu_ (List.flatMap Con.cells [(Ax.left d),(Ax.right d)]) d_ rfl ?_;refine Zz 5 ?_;refine lc_ (N:=fun y=>⟨110,mks y.1.2.2⟩) (ι:={y:Nat×S4×List Nat // y.1≤List.length [(Ax.left d),(Ax.right d)]∧V4 y.2.1 (fun k=>vcL k (List.take i O)++List.flatMap (Con.nms k) (List.take y.1 [(Ax.left d),(Ax.right d)]))}) (fun y=>[(0,.slice lad (List.length O) lcap),(2,zp_ J 0),(3,.int .i64 0),(21,.slice lad (List.length O) lcap),(22,.int .i64 (List.length O:Int)),(23,.int .i64 (Y:Int)),(7,.map (some m)),(8,.map (some B)),(9,.map (some A)),(10,.map (some C)),(11,zp_ K 0),(44,.slice lad (List.length O) lcap),(45,.int .i64 (List.length O:Int)),(46,.int .i64 (i:Int)),(13,zp_ P 0),(54,.slice (some ⟨X,0,none⟩) (List.length [(Ax.left d),(Ax.right d)]) 2),(55,.int .i64 2),(56,.int .i64 (y.1.1:Int))]) (fun y=>((P,.cells #[.int .i64 (Ax.kind d),.bool (Ax.opn d),.int .i64 (Con.kind (Ax.left d)),str (Con.name (Ax.left d)),.int .i64 (Con.lo (Ax.left d)),.int .i64 (Con.hi (Ax.left d)),.slice (Con.ad (Ax.left d)) (List.length (Con.parts (Ax.left d))) (Con.cap (Ax.left d)),.int .i64 (Con.kind (Ax.right d)),str (Con.name (Ax.right d)),.int .i64 (Con.lo (Ax.right d)),.int .i64 (Con.hi (Ax.right d)),.slice (Con.ad (Ax.right d)) (List.length (Con.parts (Ax.right d))) (Con.cap (Ax.right d)),.slice (Ax.ad d) (List.length (Ax.roles d)) (Ax.cap d),str (Ax.role d),str (Ax.a d),str (Ax.b d)] 42 (0,0))::((K,.cells #[.map (some H)] 185 (0,0))::((H,.map #[⟨.int .i64 3,.map (some m),0⟩,⟨.int .i64 6,.map (some B),1⟩,⟨.int .i64 7,.map (some A),2⟩,⟨.int .i64 4,.map (some C),3⟩] 4)::((C,.map y.1.2.1.2.2.2.es y.1.2.1.2.2.2.c)::((A,.map y.1.2.1.2.2.1.es y.1.2.1.2.2.1.c)::((B,.map y.1.2.1.2.1.es y.1.2.1.2.1.c)::((m,.map y.1.2.1.1.es y.1.2.1.1.c)::((J,.cells #[.slice none 0 0,.slice none 0 0,.slice none 0 0,.slice none 0 0] 133 (0,0))::(mkH y.1.2.2)))))))))) (fun y=>[V_ (some ⟨X,0,none⟩) (List.flatMap Con.cells [(Ax.left d),(Ax.right d)]),cu_ lad O,bV_]) (fun y=>List.length [(Ax.left d),(Ax.right d)] - y.1.1) ⟨((0:Nat),s,Ds),by simp,hV.cg fun k=>by simp⟩ zl zp zh ?_;rintro ⟨⟨j,s,Ds⟩,hi_j,T⟩;dsimp only at hi_j T ⊢;refine Zi 2 (fun hr_3=>?_) fun hr_3=>?_
  ·refine Zz 16 ?_
   have hV2e:V4 s (fun k=>vcL k (List.take i O)++List.flatMap (Con.nms k) [(Ax.left d),(Ax.right d)]):=by rw[List.take_of_length_le (l:=[(Ax.left d),(Ax.right d)]) (by simp only[List.length_cons,List.length_nil]at *;omega)]at T;exact T
   refine lc_ (N:=fun y=>⟨110,mks y.1.2.2⟩) (ι:={y:Nat×S4×List Nat // y.1≤List.length (Ax.roles d)∧V4 y.2.1 (fun k_1=>(vcL k_1 (List.take i O)++List.flatMap (Con.nms k_1) [(Ax.left d),(Ax.right d)])++if k_1=6 then List.take y.1 (Ax.roles d) else [])}) (fun y=>[(0,.slice lad (List.length O) lcap),(2,zp_ J 0),(3,.int .i64 0),(21,.slice lad (List.length O) lcap),(22,.int .i64 (List.length O:Int)),(23,.int .i64 (Y:Int)),(7,.map (some m)),(8,.map (some B)),(9,.map (some A)),(10,.map (some C)),(11,zp_ K 0),(44,.slice lad (List.length O) lcap),(45,.int .i64 (List.length O:Int)),(46,.int .i64 (i:Int)),(13,zp_ P 0),(54,.slice (some ⟨X,0,none⟩) (List.length [(Ax.left d),(Ax.right d)]) 2),(55,.int .i64 2),(56,.int .i64 (j:Int)),(76,.slice (Ax.ad d) (List.length (Ax.roles d)) (Ax.cap d)),(77,.int .i64 (List.length (Ax.roles d):Int)),(78,.int .i64 (y.1.1:Int))]) (fun y=>((P,.cells #[.int .i64 (Ax.kind d),.bool (Ax.opn d),.int .i64 (Con.kind (Ax.left d)),str (Con.name (Ax.left d)),.int .i64 (Con.lo (Ax.left d)),.int .i64 (Con.hi (Ax.left d)),.slice (Con.ad (Ax.left d)) (List.length (Con.parts (Ax.left d))) (Con.cap (Ax.left d)),.int .i64 (Con.kind (Ax.right d)),str (Con.name (Ax.right d)),.int .i64 (Con.lo (Ax.right d)),.int .i64 (Con.hi (Ax.right d)),.slice (Con.ad (Ax.right d)) (List.length (Con.parts (Ax.right d))) (Con.cap (Ax.right d)),.slice (Ax.ad d) (List.length (Ax.roles d)) (Ax.cap d),str (Ax.role d),str (Ax.a d),str (Ax.b d)] 42 (0,0))::((K,.cells #[.map (some H)] 185 (0,0))::((H,.map #[⟨.int .i64 3,.map (some m),0⟩,⟨.int .i64 6,.map (some B),1⟩,⟨.int .i64 7,.map (some A),2⟩,⟨.int .i64 4,.map (some C),3⟩] 4)::((C,.map y.1.2.1.2.2.2.es y.1.2.1.2.2.2.c)::((A,.map y.1.2.1.2.2.1.es y.1.2.1.2.2.1.c)::((B,.map y.1.2.1.2.1.es y.1.2.1.2.1.c)::((m,.map y.1.2.1.1.es y.1.2.1.1.c)::((J,.cells #[.slice none 0 0,.slice none 0 0,.slice none 0 0,.slice none 0 0] 133 (0,0))::(mkH y.1.2.2)))))))))) (fun y=>[V_ (some ⟨X,0,none⟩) (List.flatMap Con.cells [(Ax.left d),(Ax.right d)]),cu_ lad O,bV_]) (fun y=>List.length (Ax.roles d) - y.1.1) ⟨((0:Nat),s,Ds),by simp,hV2e.cg fun k=>by simp⟩ zl zp zh ?_;rintro ⟨⟨k,s,Ds⟩,hi_k,R⟩;dsimp only at hi_k R ⊢;refine Zi 2 (fun hr_4=>?_) fun hr_4=>?_
   ·refine Zz 7 ?_
    rw[List.take_of_length_le (l:=Ax.roles d) zr_]at R;refine Zz 4 ?_;refine ec_ 5 s.2.1 bG_ (.inr rfl) S_ rfl rfl rfl rfl (Zz 7 ?_);refine ec_ 3 ((s.addR (Ax.role d)).2.2.2) bG_ (.inr rfl) S_ rfl rfl rfl rfl (Zz 6 ?_);refine ec_ 3 (((s.addR (Ax.role d)).addI (Ax.a d)).2.2.2) bG_ (.inr rfl) S_ rfl rfl rfl rfl (Zz 7 ?_);exact jj_ ⟨(i+1,(((s.addR (Ax.role d)).addI (Ax.a d)).addI (Ax.b d)),Ds),S,R.axm hx_1⟩ zu_ zl (f_ (c_ d_) (f_ (c_ d_) (f_ (c_ d_) (f_ (c_ d_) (f_ (c_ d_) (f_ (c_ d_) (f_ (c_ d_) B_))))))) (fun _ _ h=>h.2)
   have a0:k<List.length (Ax.roles d):=by omega
   obtain⟨r_1,Q⟩:∃ e_1,(Ax.roles d)[k]? = some e_1:=⟨_,List.getElem?_eq_getElem a0⟩;have hmr_1:r_1∈(Ax.roles d):=List.mem_of_getElem? Q;refine Zz 10 ?_;refine e_ (U_ m_ H_ rfl rfl (fun v _ h=>aE_ (n:=1) aw_ zx_ (by exact (h.2.1.2 d M).2.2) Q) zr_ zA_) rfl ?_;refine e_ (bt_ (ad:=(Ax.ad d)) ab_ rfl (fun v _ h=>by exact (h.2.1.2 d M).2.2) (p_ aw_ Q 0 _ rfl)) rfl (Zz 6 ?_);refine ec_ 5 s.2.1 bG_ (.inr rfl) S_ rfl rfl rfl rfl (Zz 7 ?_);exact jj_ ⟨(k+1,(s.addR r_1),Ds),a0,R.role Q⟩ zu_ zl zp zh
  have hlc_1:j<List.length [(Ax.left d),(Ax.right d)]:=by simp only[List.length_cons,List.length_nil]at *;omega
  obtain⟨e,hc_1⟩:∃ e_1,[(Ax.left d),(Ax.right d)][j]? = some e_1:=⟨_,List.getElem?_eq_getElem hlc_1⟩;have Z:e∈[(Ax.left d),(Ax.right d)]:=List.mem_of_getElem? hc_1;refine Zz 11 ?_;refine e_ (au_ (ad:=(some ⟨X,0,none⟩)) (us:=Con.cells e) aU_ L_ rfl zf (Con.cells_len _) (p_ Con.cells_len hc_1)) rfl (D_ ch_ rfl fun L=>x_ 0 L_ rfl rfl rfl rfl rfl rfl (Zz 5 ?_));refine i_ (vg_ e) rfl l_ zt rfl fun bw=>Zz 3 ?_
  refine bC_ [(0,.slice lad (List.length O) lcap),(2,zp_ J 0),(3,.int .i64 0),(21,.slice lad (List.length O) lcap),(22,.int .i64 (List.length O:Int)),(23,.int .i64 (Y:Int)),(7,.map (some m)),(8,.map (some B)),(9,.map (some A)),(10,.map (some C)),(11,zp_ K 0),(44,.slice lad (List.length O) lcap),(45,.int .i64 (List.length O:Int)),(46,.int .i64 (i:Int)),(13,zp_ P 0),(54,.slice (some ⟨X,0,none⟩) (List.length [(Ax.left d),(Ax.right d)]) 2),(55,.int .i64 2),(56,.int .i64 (j:Int)),(61,.func (.func 148) #[] #[zp_ bw 0])] zl ?_;have hokc:e.ok:=(xa_ (hok d M) (hzb d M).1 (hzb d M).2.1 Z).1;refine dW_ (H':=(bw,.cells (Con.cells e).toArray 40 (0,0))::(mkH Ds++[(m,.map s.1.es s.1.c),(B,.map s.2.1.es s.2.1.c),(A,.map s.2.2.1.es s.2.2.1.c),(C,.map s.2.2.2.es s.2.2.2.c),(L,.cells #[.int .i64 (Con.kind e),str (Con.name e),.int .i64 (Con.lo e),.int .i64 (Con.hi e),.slice (Con.ad e) (List.length (Con.parts e)) (Con.cap e)] 40 (0,0)),(P,.cells #[.int .i64 (Ax.kind d),.bool (Ax.opn d),.int .i64 (Con.kind (Ax.left d)),str (Con.name (Ax.left d)),.int .i64 (Con.lo (Ax.left d)),.int .i64 (Con.hi (Ax.left d)),.slice (Con.ad (Ax.left d)) (List.length (Con.parts (Ax.left d))) (Con.cap (Ax.left d)),.int .i64 (Con.kind (Ax.right d)),str (Con.name (Ax.right d)),.int .i64 (Con.lo (Ax.right d)),.int .i64 (Con.hi (Ax.right d)),.slice (Con.ad (Ax.right d)) (List.length (Con.parts (Ax.right d))) (Con.cap (Ax.right d)),.slice (Ax.ad d) (List.length (Ax.roles d)) (Ax.cap d),str (Ax.role d),str (Ax.a d),str (Ax.b d)] 42 (0,0)),(K,.cells #[.map (some H)] 185 (0,0)),(H,.map #[⟨.int .i64 3,.map (some m),0⟩,⟨.int .i64 6,.map (some B),1⟩,⟨.int .i64 7,.map (some A),2⟩,⟨.int .i64 4,.map (some C),3⟩] 4),(J,.cells #[.slice none 0 0,.slice none 0 0,.slice none 0 0,.slice none 0 0] 133 (0,0))])) (F:=[]) (by exact (f_ d_ (F_ (c_ (c_ (c_ (c_ (c_ (c_ (c_ (c_ B_)))))))) (f_ (c_ (c_ (c_ (c_ (c_ (c_ (c_ d_))))))) (f_ (c_ (c_ (c_ (c_ (c_ (c_ d_)))))) (f_ (c_ (c_ (c_ (c_ (c_ d_))))) (f_ (c_ (c_ (c_ (c_ d_)))) (f_ d_ (f_ d_ (f_ d_ (f_ d_ d_))))))))))) zh ?_;refine sd_ (Ds:=Ds) (α:={c:Con // c.ok}) (xv:=fun x=>x.1.val) (good:=fun _=>True) (stp:=fun x s=>.inl (eE_ x.1 s)) (Γx:=fun x=>[x.1.memF]) (Γi:=[Con.memF e]) (Hj:=(fun t:S4=>(mkH Ds++[(m,.map t.1.es t.1.c),(B,.map t.2.1.es t.2.1.c),(A,.map t.2.2.1.es t.2.2.1.c),(C,.map t.2.2.2.es t.2.2.2.c),(L,.cells #[.int .i64 (Con.kind e),str (Con.name e),.int .i64 (Con.lo e),.int .i64 (Con.hi e),.slice (Con.ad e) (List.length (Con.parts e)) (Con.cap e)] 40 (0,0)),(P,.cells #[.int .i64 (Ax.kind d),.bool (Ax.opn d),.int .i64 (Con.kind (Ax.left d)),str (Con.name (Ax.left d)),.int .i64 (Con.lo (Ax.left d)),.int .i64 (Con.hi (Ax.left d)),.slice (Con.ad (Ax.left d)) (List.length (Con.parts (Ax.left d))) (Con.cap (Ax.left d)),.int .i64 (Con.kind (Ax.right d)),str (Con.name (Ax.right d)),.int .i64 (Con.lo (Ax.right d)),.int .i64 (Con.hi (Ax.right d)),.slice (Con.ad (Ax.right d)) (List.length (Con.parts (Ax.right d))) (Con.cap (Ax.right d)),.slice (Ax.ad d) (List.length (Ax.roles d)) (Ax.cap d),str (Ax.role d),str (Ax.a d),str (Ax.b d)] 42 (0,0)),(K,.cells #[.map (some H)] 185 (0,0)),(H,.map #[⟨.int .i64 3,.map (some m),0⟩,⟨.int .i64 6,.map (some B),1⟩,⟨.int .i64 7,.map (some A),2⟩,⟨.int .i64 4,.map (some C),3⟩] 4),(J,.cells #[.slice none 0 0,.slice none 0 0,.slice none 0 0,.slice none 0 0] 133 (0,0))]))) (Hc:=[(bw,.cells (Con.cells e).toArray 40 (0,0))]) (caps:=[zp_ bw 0]) s (Con.fold (fun x s=>.inl (eE_ x s)) e s) rfl (.refl _) (fun v _ h=>by exact⟨(wZ_ (h.2.1.2 d M) Z),trivial⟩) ?_ ?_ ?_
  ·rintro l D rec hpa hst hpe ht hasg hbody s ⟨x,hx⟩ -
   refine mU_ (ι:=Nat) (Hj:=(fun t:S4=>(mkH Ds++[(m,.map t.1.es t.1.c),(B,.map t.2.1.es t.2.1.c),(A,.map t.2.2.1.es t.2.2.1.c),(C,.map t.2.2.2.es t.2.2.2.c),(L,.cells #[.int .i64 (Con.kind e),str (Con.name e),.int .i64 (Con.lo e),.int .i64 (Con.hi e),.slice (Con.ad e) (List.length (Con.parts e)) (Con.cap e)] 40 (0,0)),(P,.cells #[.int .i64 (Ax.kind d),.bool (Ax.opn d),.int .i64 (Con.kind (Ax.left d)),str (Con.name (Ax.left d)),.int .i64 (Con.lo (Ax.left d)),.int .i64 (Con.hi (Ax.left d)),.slice (Con.ad (Ax.left d)) (List.length (Con.parts (Ax.left d))) (Con.cap (Ax.left d)),.int .i64 (Con.kind (Ax.right d)),str (Con.name (Ax.right d)),.int .i64 (Con.lo (Ax.right d)),.int .i64 (Con.hi (Ax.right d)),.slice (Con.ad (Ax.right d)) (List.length (Con.parts (Ax.right d))) (Con.cap (Ax.right d)),.slice (Ax.ad d) (List.length (Ax.roles d)) (Ax.cap d),str (Ax.role d),str (Ax.a d),str (Ax.b d)] 42 (0,0)),(K,.cells #[.map (some H)] 185 (0,0)),(H,.map #[⟨.int .i64 3,.map (some m),0⟩,⟨.int .i64 6,.map (some B),1⟩,⟨.int .i64 7,.map (some A),2⟩,⟨.int .i64 4,.map (some C),3⟩] 4),(J,.cells #[.slice none 0 0,.slice none 0 0,.slice none 0 0,.slice none 0 0] 133 (0,0))]))) (Hx:=fun _:Empty=>[]) (s:=s) (res:=.inl (eE_ x s)) (Γ:=[x.memF]) (fun I=>[(11,zp_ K 0),(16,zp_ I 0)]) (fun I=>((I,.cells #[.int .i64 (Con.kind x),str (Con.name x),.int .i64 (Con.lo x),.int .i64 (Con.hi x),.slice (Con.ad x) (List.length (Con.parts x)) (Con.cap x)] 40 (0,0))::(mkH Ds++[(m,.map s.1.es s.1.c),(B,.map s.2.1.es s.2.1.c),(A,.map s.2.2.1.es s.2.2.1.c),(C,.map s.2.2.2.es s.2.2.2.c),(L,.cells #[.int .i64 (Con.kind e),str (Con.name e),.int .i64 (Con.lo e),.int .i64 (Con.hi e),.slice (Con.ad e) (List.length (Con.parts e)) (Con.cap e)] 40 (0,0)),(P,.cells #[.int .i64 (Ax.kind d),.bool (Ax.opn d),.int .i64 (Con.kind (Ax.left d)),str (Con.name (Ax.left d)),.int .i64 (Con.lo (Ax.left d)),.int .i64 (Con.hi (Ax.left d)),.slice (Con.ad (Ax.left d)) (List.length (Con.parts (Ax.left d))) (Con.cap (Ax.left d)),.int .i64 (Con.kind (Ax.right d)),str (Con.name (Ax.right d)),.int .i64 (Con.lo (Ax.right d)),.int .i64 (Con.hi (Ax.right d)),.slice (Con.ad (Ax.right d)) (List.length (Con.parts (Ax.right d))) (Con.cap (Ax.right d)),.slice (Ax.ad d) (List.length (Ax.roles d)) (Ax.cap d),str (Ax.role d),str (Ax.a d),str (Ax.b d)] 42 (0,0)),(K,.cells #[.map (some H)] 185 (0,0)),(H,.map #[⟨.int .i64 3,.map (some m),0⟩,⟨.int .i64 6,.map (some B),1⟩,⟨.int .i64 7,.map (some A),2⟩,⟨.int .i64 4,.map (some C),3⟩] 4),(J,.cells #[.slice none 0 0,.slice none 0 0,.slice none 0 0,.slice none 0 0] 133 (0,0))]))) hpa hst hpe ht rfl ?_ ?_
   ·intro n v_1 H_1 W
    rw[hasg];refine dg_ (H':=((mkH Ds)++((m,.map s.1.es s.1.c)::((B,.map s.2.1.es s.2.1.c)::((A,.map s.2.2.1.es s.2.2.1.c)::((C,.map s.2.2.2.es s.2.2.2.c)::((L,.cells #[.int .i64 (Con.kind e),str (Con.name e),.int .i64 (Con.lo e),.int .i64 (Con.hi e),.slice (Con.ad e) (List.length (Con.parts e)) (Con.cap e)] 40 (0,0))::((P,.cells #[.int .i64 (Ax.kind d),.bool (Ax.opn d),.int .i64 (Con.kind (Ax.left d)),str (Con.name (Ax.left d)),.int .i64 (Con.lo (Ax.left d)),.int .i64 (Con.hi (Ax.left d)),.slice (Con.ad (Ax.left d)) (List.length (Con.parts (Ax.left d))) (Con.cap (Ax.left d)),.int .i64 (Con.kind (Ax.right d)),str (Con.name (Ax.right d)),.int .i64 (Con.lo (Ax.right d)),.int .i64 (Con.hi (Ax.right d)),.slice (Con.ad (Ax.right d)) (List.length (Con.parts (Ax.right d))) (Con.cap (Ax.right d)),.slice (Ax.ad d) (List.length (Ax.roles d)) (Ax.cap d),str (Ax.role d),str (Ax.a d),str (Ax.b d)] 42 (0,0))::((K,.cells #[.map (some H)] 185 (0,0))::((H,.map #[⟨.int .i64 3,.map (some m),0⟩,⟨.int .i64 6,.map (some B),1⟩,⟨.int .i64 7,.map (some A),2⟩,⟨.int .i64 4,.map (some C),3⟩] 4)::((J,.cells #[.slice none 0 0,.slice none 0 0,.slice none 0 0,.slice none 0 0] 133 (0,0))::W))))))))))) (F:=[]) zC_ zh ?_;refine gz_ (Y_ (g_ d_) (Y_ (g_ d_) (Y_ (g_ d_) (Y_ (g_ d_) (Y_ (g_ d_) (Y_ (g_ d_) (Y_ (g_ d_) (Y_ (g_ d_) (bq_ (g_ d_)))))))))) ?_;refine aV_ ?_;refine nH_ (N_ _) ch_ rfl fun b_12=>?_;refine gy_ (N_ _) 0 L_ rfl rfl rfl rfl rfl rfl ?_;refine bF_ ?_;refine dI_ rfl ?_;refine dg_ (H':=((b_12,.cells #[.int .i64 (Con.kind x),str (Con.name x),.int .i64 (Con.lo x),.int .i64 (Con.hi x),.slice (Con.ad x) (List.length (Con.parts x)) (Con.cap x)] 40 (0,0))::((mkH Ds)++((m,.map s.1.es s.1.c)::((B,.map s.2.1.es s.2.1.c)::((A,.map s.2.2.1.es s.2.2.1.c)::((C,.map s.2.2.2.es s.2.2.2.c)::((L,.cells #[.int .i64 (Con.kind e),str (Con.name e),.int .i64 (Con.lo e),.int .i64 (Con.hi e),.slice (Con.ad e) (List.length (Con.parts e)) (Con.cap e)] 40 (0,0))::((P,.cells #[.int .i64 (Ax.kind d),.bool (Ax.opn d),.int .i64 (Con.kind (Ax.left d)),str (Con.name (Ax.left d)),.int .i64 (Con.lo (Ax.left d)),.int .i64 (Con.hi (Ax.left d)),.slice (Con.ad (Ax.left d)) (List.length (Con.parts (Ax.left d))) (Con.cap (Ax.left d)),.int .i64 (Con.kind (Ax.right d)),str (Con.name (Ax.right d)),.int .i64 (Con.lo (Ax.right d)),.int .i64 (Con.hi (Ax.right d)),.slice (Con.ad (Ax.right d)) (List.length (Con.parts (Ax.right d))) (Con.cap (Ax.right d)),.slice (Ax.ad d) (List.length (Ax.roles d)) (Ax.cap d),str (Ax.role d),str (Ax.a d),str (Ax.b d)] 42 (0,0))::((K,.cells #[.map (some H)] 185 (0,0))::((H,.map #[⟨.int .i64 3,.map (some m),0⟩,⟨.int .i64 6,.map (some B),1⟩,⟨.int .i64 7,.map (some A),2⟩,⟨.int .i64 4,.map (some C),3⟩] 4)::((J,.cells #[.slice none 0 0,.slice none 0 0,.slice none 0 0,.slice none 0 0] 133 (0,0))::W)))))))))))) (F:=[]) (by exact zp) zh ?_;exact fF_ b_12 zl (F:=[]) zC_ zh
   intro n v_1 H_1 W I;rw[hbody]
   by_cases hk:x.kind=3
   ·refine dg_ (H':=((I,.cells #[.int .i64 (Con.kind x),str (Con.name x),.int .i64 (Con.lo x),.int .i64 (Con.hi x),.slice (Con.ad x) (List.length (Con.parts x)) (Con.cap x)] 40 (0,0))::((mkH Ds)++((m,.map s.1.es s.1.c)::((B,.map s.2.1.es s.2.1.c)::((A,.map s.2.2.1.es s.2.2.1.c)::((C,.map s.2.2.2.es s.2.2.2.c)::((L,.cells #[.int .i64 (Con.kind e),str (Con.name e),.int .i64 (Con.lo e),.int .i64 (Con.hi e),.slice (Con.ad e) (List.length (Con.parts e)) (Con.cap e)] 40 (0,0))::((P,.cells #[.int .i64 (Ax.kind d),.bool (Ax.opn d),.int .i64 (Con.kind (Ax.left d)),str (Con.name (Ax.left d)),.int .i64 (Con.lo (Ax.left d)),.int .i64 (Con.hi (Ax.left d)),.slice (Con.ad (Ax.left d)) (List.length (Con.parts (Ax.left d))) (Con.cap (Ax.left d)),.int .i64 (Con.kind (Ax.right d)),str (Con.name (Ax.right d)),.int .i64 (Con.lo (Ax.right d)),.int .i64 (Con.hi (Ax.right d)),.slice (Con.ad (Ax.right d)) (List.length (Con.parts (Ax.right d))) (Con.cap (Ax.right d)),.slice (Ax.ad d) (List.length (Ax.roles d)) (Ax.cap d),str (Ax.role d),str (Ax.a d),str (Ax.b d)] 42 (0,0))::((K,.cells #[.map (some H)] 185 (0,0))::((H,.map #[⟨.int .i64 3,.map (some m),0⟩,⟨.int .i64 6,.map (some B),1⟩,⟨.int .i64 7,.map (some A),2⟩,⟨.int .i64 4,.map (some C),3⟩] 4)::((J,.cells #[.slice none 0 0,.slice none 0 0,.slice none 0 0,.slice none 0 0] 133 (0,0))::W)))))))))))) (F:=[]) zC_ zh ?_
    refine eN_ ?_;refine gz_ (Y_ d_ (Y_ (g_ d_) (Y_ (g_ d_) (Y_ (g_ d_) (Y_ (g_ d_) (Y_ (g_ d_) (Y_ (g_ d_) (Y_ (g_ d_) (Y_ (g_ d_) (bq_ (g_ d_))))))))))) ?_;refine do_ ?_;refine aV_ ?_;refine X_ (N_ _) (aC_ 7 zk_ rfl rfl rfl) rfl rfl ?_;refine X_ (N_ _) (bh_ aP_ rfl rfl rfl av_) rfl rfl ?_;refine X_ (N_ _) (aC_ 0 bd_ rfl rfl rfl) rfl rfl ?_;refine X_ (N_ _) (hz_ (i:=0) (u:=.map (some m)) cJ_ rfl rfl 8 rfl (bo_ s_) (aW_ s_ (by rw[hk];rfl))) rfl rfl ?_;refine X_ (N_ _) (O_ rfl) rfl rfl ?_;refine X_ (N_ _) (aG_ rfl rfl) rfl rfl ?_;refine X_ (N_ _) (aG_ rfl rfl) rfl rfl ?_;refine X_ (N_ _) (an_ rfl) rfl rfl ?_;refine X_ (N_ _) (an_ rfl) rfl rfl ?_;refine bF_ ?_;refine cs_ rfl ?_;refine do_ ?_;refine aV_ ?_;refine X_ (N_ _) (O_ rfl) rfl rfl ?_;refine bF_ ?_;refine cs_ rfl ?_;refine fR_ rfl ?_;refine aV_ ?_;refine X_ (N_ _) (O_ rfl) rfl rfl ?_;refine X_ (N_ _) (bh_ aP_ rfl rfl rfl H_) rfl rfl ?_;refine X_ (N_ _) (aC_ 0 ab_ rfl rfl rfl) rfl rfl ?_;refine hL_ (N_ _) 1 s.1 bG_ (.inr rfl) S_ rfl rfl rfl rfl ?_;refine bF_ ?_;refine dI_ rfl ?_;refine dg_ (H':=((mkH Ds)++((m,.map (s.1.add (Con.name x)).es (s.1.add (Con.name x)).c)::((B,.map s.2.1.es s.2.1.c)::((A,.map s.2.2.1.es s.2.2.1.c)::((C,.map s.2.2.2.es s.2.2.2.c)::((L,.cells #[.int .i64 (Con.kind e),str (Con.name e),.int .i64 (Con.lo e),.int .i64 (Con.hi e),.slice (Con.ad e) (List.length (Con.parts e)) (Con.cap e)] 40 (0,0))::((P,.cells #[.int .i64 (Ax.kind d),.bool (Ax.opn d),.int .i64 (Con.kind (Ax.left d)),str (Con.name (Ax.left d)),.int .i64 (Con.lo (Ax.left d)),.int .i64 (Con.hi (Ax.left d)),.slice (Con.ad (Ax.left d)) (List.length (Con.parts (Ax.left d))) (Con.cap (Ax.left d)),.int .i64 (Con.kind (Ax.right d)),str (Con.name (Ax.right d)),.int .i64 (Con.lo (Ax.right d)),.int .i64 (Con.hi (Ax.right d)),.slice (Con.ad (Ax.right d)) (List.length (Con.parts (Ax.right d))) (Con.cap (Ax.right d)),.slice (Ax.ad d) (List.length (Ax.roles d)) (Ax.cap d),str (Ax.role d),str (Ax.a d),str (Ax.b d)] 42 (0,0))::((K,.cells #[.map (some H)] 185 (0,0))::((H,.map #[⟨.int .i64 3,.map (some m),0⟩,⟨.int .i64 6,.map (some B),1⟩,⟨.int .i64 7,.map (some A),2⟩,⟨.int .i64 4,.map (some C),3⟩] 4)::((J,.cells #[.slice none 0 0,.slice none 0 0,.slice none 0 0,.slice none 0 0] 133 (0,0))::(W++((I,.cells #[.int .i64 (Con.kind x),str (Con.name x),.int .i64 (Con.lo x),.int .i64 (Con.hi x),.slice (Con.ad x) (List.length (Con.parts x)) (Con.cap x)] 40 (0,0))::[]))))))))))))) (F:=[]) zE_ zh ?_;refine gm_ (eE_ x s) rfl (G:=[(I,.cells #[.int .i64 (Con.kind x),str (Con.name x),.int .i64 (Con.lo x),.int .i64 (Con.hi x),.slice (Con.ad x) (List.length (Con.parts x)) (Con.cap x)] 40 (0,0))]) ?_;rw[show eE_ x s=(s.1.add x.name,s.2) from (by unfold eE_;rw[if_pos hk])];simp
   have hn_1:=hk
   by_cases hk:x.kind=6
   ·refine dg_ (H':=((I,.cells #[.int .i64 (Con.kind x),str (Con.name x),.int .i64 (Con.lo x),.int .i64 (Con.hi x),.slice (Con.ad x) (List.length (Con.parts x)) (Con.cap x)] 40 (0,0))::((mkH Ds)++((m,.map s.1.es s.1.c)::((B,.map s.2.1.es s.2.1.c)::((A,.map s.2.2.1.es s.2.2.1.c)::((C,.map s.2.2.2.es s.2.2.2.c)::((L,.cells #[.int .i64 (Con.kind e),str (Con.name e),.int .i64 (Con.lo e),.int .i64 (Con.hi e),.slice (Con.ad e) (List.length (Con.parts e)) (Con.cap e)] 40 (0,0))::((P,.cells #[.int .i64 (Ax.kind d),.bool (Ax.opn d),.int .i64 (Con.kind (Ax.left d)),str (Con.name (Ax.left d)),.int .i64 (Con.lo (Ax.left d)),.int .i64 (Con.hi (Ax.left d)),.slice (Con.ad (Ax.left d)) (List.length (Con.parts (Ax.left d))) (Con.cap (Ax.left d)),.int .i64 (Con.kind (Ax.right d)),str (Con.name (Ax.right d)),.int .i64 (Con.lo (Ax.right d)),.int .i64 (Con.hi (Ax.right d)),.slice (Con.ad (Ax.right d)) (List.length (Con.parts (Ax.right d))) (Con.cap (Ax.right d)),.slice (Ax.ad d) (List.length (Ax.roles d)) (Ax.cap d),str (Ax.role d),str (Ax.a d),str (Ax.b d)] 42 (0,0))::((K,.cells #[.map (some H)] 185 (0,0))::((H,.map #[⟨.int .i64 3,.map (some m),0⟩,⟨.int .i64 6,.map (some B),1⟩,⟨.int .i64 7,.map (some A),2⟩,⟨.int .i64 4,.map (some C),3⟩] 4)::((J,.cells #[.slice none 0 0,.slice none 0 0,.slice none 0 0,.slice none 0 0] 133 (0,0))::W)))))))))))) (F:=[]) zC_ zh ?_
    refine eN_ ?_;refine gz_ (Y_ d_ (Y_ (g_ d_) (Y_ (g_ d_) (Y_ (g_ d_) (Y_ (g_ d_) (Y_ (g_ d_) (Y_ (g_ d_) (Y_ (g_ d_) (Y_ (g_ d_) (bq_ (g_ d_))))))))))) ?_;refine do_ ?_;refine aV_ ?_;refine X_ (N_ _) (aC_ 7 zk_ rfl rfl rfl) rfl rfl ?_;refine X_ (N_ _) (bh_ aP_ rfl rfl rfl av_) rfl rfl ?_;refine X_ (N_ _) (aC_ 0 bd_ rfl rfl rfl) rfl rfl ?_;refine X_ (N_ _) (hz_ (i:=1) (u:=.map (some B)) cJ_ rfl rfl 8 rfl (bo_ s_) (aW_ s_ (by rw[hk];rfl))) rfl rfl ?_;refine X_ (N_ _) (O_ rfl) rfl rfl ?_;refine X_ (N_ _) (aG_ rfl rfl) rfl rfl ?_;refine X_ (N_ _) (aG_ rfl rfl) rfl rfl ?_;refine X_ (N_ _) (an_ rfl) rfl rfl ?_;refine X_ (N_ _) (an_ rfl) rfl rfl ?_;refine bF_ ?_;refine cs_ rfl ?_;refine do_ ?_;refine aV_ ?_;refine X_ (N_ _) (O_ rfl) rfl rfl ?_;refine bF_ ?_;refine cs_ rfl ?_;refine fR_ rfl ?_;refine aV_ ?_;refine X_ (N_ _) (O_ rfl) rfl rfl ?_;refine X_ (N_ _) (bh_ aP_ rfl rfl rfl H_) rfl rfl ?_;refine X_ (N_ _) (aC_ 0 ab_ rfl rfl rfl) rfl rfl ?_;refine hL_ (N_ _) 2 s.2.1 bG_ (.inr rfl) S_ rfl rfl rfl rfl ?_;refine bF_ ?_;refine dI_ rfl ?_;refine dg_ (H':=((mkH Ds)++((m,.map s.1.es s.1.c)::((B,.map (s.2.1.add (Con.name x)).es (s.2.1.add (Con.name x)).c)::((A,.map s.2.2.1.es s.2.2.1.c)::((C,.map s.2.2.2.es s.2.2.2.c)::((L,.cells #[.int .i64 (Con.kind e),str (Con.name e),.int .i64 (Con.lo e),.int .i64 (Con.hi e),.slice (Con.ad e) (List.length (Con.parts e)) (Con.cap e)] 40 (0,0))::((P,.cells #[.int .i64 (Ax.kind d),.bool (Ax.opn d),.int .i64 (Con.kind (Ax.left d)),str (Con.name (Ax.left d)),.int .i64 (Con.lo (Ax.left d)),.int .i64 (Con.hi (Ax.left d)),.slice (Con.ad (Ax.left d)) (List.length (Con.parts (Ax.left d))) (Con.cap (Ax.left d)),.int .i64 (Con.kind (Ax.right d)),str (Con.name (Ax.right d)),.int .i64 (Con.lo (Ax.right d)),.int .i64 (Con.hi (Ax.right d)),.slice (Con.ad (Ax.right d)) (List.length (Con.parts (Ax.right d))) (Con.cap (Ax.right d)),.slice (Ax.ad d) (List.length (Ax.roles d)) (Ax.cap d),str (Ax.role d),str (Ax.a d),str (Ax.b d)] 42 (0,0))::((K,.cells #[.map (some H)] 185 (0,0))::((H,.map #[⟨.int .i64 3,.map (some m),0⟩,⟨.int .i64 6,.map (some B),1⟩,⟨.int .i64 7,.map (some A),2⟩,⟨.int .i64 4,.map (some C),3⟩] 4)::((J,.cells #[.slice none 0 0,.slice none 0 0,.slice none 0 0,.slice none 0 0] 133 (0,0))::(W++((I,.cells #[.int .i64 (Con.kind x),str (Con.name x),.int .i64 (Con.lo x),.int .i64 (Con.hi x),.slice (Con.ad x) (List.length (Con.parts x)) (Con.cap x)] 40 (0,0))::[]))))))))))))) (F:=[]) zE_ zh ?_;refine gm_ (eE_ x s) rfl (G:=[(I,.cells #[.int .i64 (Con.kind x),str (Con.name x),.int .i64 (Con.lo x),.int .i64 (Con.hi x),.slice (Con.ad x) (List.length (Con.parts x)) (Con.cap x)] 40 (0,0))]) ?_;rw[show eE_ x s=(s.1,s.2.1.add x.name,s.2.2) from (by unfold eE_;rw[if_neg zr_,if_pos hk])];simp
   have hn_2:=hk
   by_cases hk:x.kind=7
   ·refine dg_ (H':=((I,.cells #[.int .i64 (Con.kind x),str (Con.name x),.int .i64 (Con.lo x),.int .i64 (Con.hi x),.slice (Con.ad x) (List.length (Con.parts x)) (Con.cap x)] 40 (0,0))::((mkH Ds)++((m,.map s.1.es s.1.c)::((B,.map s.2.1.es s.2.1.c)::((A,.map s.2.2.1.es s.2.2.1.c)::((C,.map s.2.2.2.es s.2.2.2.c)::((L,.cells #[.int .i64 (Con.kind e),str (Con.name e),.int .i64 (Con.lo e),.int .i64 (Con.hi e),.slice (Con.ad e) (List.length (Con.parts e)) (Con.cap e)] 40 (0,0))::((P,.cells #[.int .i64 (Ax.kind d),.bool (Ax.opn d),.int .i64 (Con.kind (Ax.left d)),str (Con.name (Ax.left d)),.int .i64 (Con.lo (Ax.left d)),.int .i64 (Con.hi (Ax.left d)),.slice (Con.ad (Ax.left d)) (List.length (Con.parts (Ax.left d))) (Con.cap (Ax.left d)),.int .i64 (Con.kind (Ax.right d)),str (Con.name (Ax.right d)),.int .i64 (Con.lo (Ax.right d)),.int .i64 (Con.hi (Ax.right d)),.slice (Con.ad (Ax.right d)) (List.length (Con.parts (Ax.right d))) (Con.cap (Ax.right d)),.slice (Ax.ad d) (List.length (Ax.roles d)) (Ax.cap d),str (Ax.role d),str (Ax.a d),str (Ax.b d)] 42 (0,0))::((K,.cells #[.map (some H)] 185 (0,0))::((H,.map #[⟨.int .i64 3,.map (some m),0⟩,⟨.int .i64 6,.map (some B),1⟩,⟨.int .i64 7,.map (some A),2⟩,⟨.int .i64 4,.map (some C),3⟩] 4)::((J,.cells #[.slice none 0 0,.slice none 0 0,.slice none 0 0,.slice none 0 0] 133 (0,0))::W)))))))))))) (F:=[]) zC_ zh ?_
    refine eN_ ?_;refine gz_ (Y_ d_ (Y_ (g_ d_) (Y_ (g_ d_) (Y_ (g_ d_) (Y_ (g_ d_) (Y_ (g_ d_) (Y_ (g_ d_) (Y_ (g_ d_) (Y_ (g_ d_) (bq_ (g_ d_))))))))))) ?_;refine do_ ?_;refine aV_ ?_;refine X_ (N_ _) (aC_ 7 zk_ rfl rfl rfl) rfl rfl ?_;refine X_ (N_ _) (bh_ aP_ rfl rfl rfl av_) rfl rfl ?_;refine X_ (N_ _) (aC_ 0 bd_ rfl rfl rfl) rfl rfl ?_;refine X_ (N_ _) (hz_ (i:=2) (u:=.map (some A)) cJ_ rfl rfl 8 rfl (bo_ s_) (aW_ s_ (by rw[hk];rfl))) rfl rfl ?_;refine X_ (N_ _) (O_ rfl) rfl rfl ?_;refine X_ (N_ _) (aG_ rfl rfl) rfl rfl ?_;refine X_ (N_ _) (aG_ rfl rfl) rfl rfl ?_;refine X_ (N_ _) (an_ rfl) rfl rfl ?_;refine X_ (N_ _) (an_ rfl) rfl rfl ?_;refine bF_ ?_;refine cs_ rfl ?_;refine do_ ?_;refine aV_ ?_;refine X_ (N_ _) (O_ rfl) rfl rfl ?_;refine bF_ ?_;refine cs_ rfl ?_;refine fR_ rfl ?_;refine aV_ ?_;refine X_ (N_ _) (O_ rfl) rfl rfl ?_;refine X_ (N_ _) (bh_ aP_ rfl rfl rfl H_) rfl rfl ?_;refine X_ (N_ _) (aC_ 0 ab_ rfl rfl rfl) rfl rfl ?_;refine hL_ (N_ _) 3 s.2.2.1 bG_ (.inr rfl) S_ rfl rfl rfl rfl ?_;refine bF_ ?_;refine dI_ rfl ?_;refine dg_ (H':=((mkH Ds)++((m,.map s.1.es s.1.c)::((B,.map s.2.1.es s.2.1.c)::((A,.map (s.2.2.1.add (Con.name x)).es (s.2.2.1.add (Con.name x)).c)::((C,.map s.2.2.2.es s.2.2.2.c)::((L,.cells #[.int .i64 (Con.kind e),str (Con.name e),.int .i64 (Con.lo e),.int .i64 (Con.hi e),.slice (Con.ad e) (List.length (Con.parts e)) (Con.cap e)] 40 (0,0))::((P,.cells #[.int .i64 (Ax.kind d),.bool (Ax.opn d),.int .i64 (Con.kind (Ax.left d)),str (Con.name (Ax.left d)),.int .i64 (Con.lo (Ax.left d)),.int .i64 (Con.hi (Ax.left d)),.slice (Con.ad (Ax.left d)) (List.length (Con.parts (Ax.left d))) (Con.cap (Ax.left d)),.int .i64 (Con.kind (Ax.right d)),str (Con.name (Ax.right d)),.int .i64 (Con.lo (Ax.right d)),.int .i64 (Con.hi (Ax.right d)),.slice (Con.ad (Ax.right d)) (List.length (Con.parts (Ax.right d))) (Con.cap (Ax.right d)),.slice (Ax.ad d) (List.length (Ax.roles d)) (Ax.cap d),str (Ax.role d),str (Ax.a d),str (Ax.b d)] 42 (0,0))::((K,.cells #[.map (some H)] 185 (0,0))::((H,.map #[⟨.int .i64 3,.map (some m),0⟩,⟨.int .i64 6,.map (some B),1⟩,⟨.int .i64 7,.map (some A),2⟩,⟨.int .i64 4,.map (some C),3⟩] 4)::((J,.cells #[.slice none 0 0,.slice none 0 0,.slice none 0 0,.slice none 0 0] 133 (0,0))::(W++((I,.cells #[.int .i64 (Con.kind x),str (Con.name x),.int .i64 (Con.lo x),.int .i64 (Con.hi x),.slice (Con.ad x) (List.length (Con.parts x)) (Con.cap x)] 40 (0,0))::[]))))))))))))) (F:=[]) zE_ zh ?_;refine gm_ (eE_ x s) rfl (G:=[(I,.cells #[.int .i64 (Con.kind x),str (Con.name x),.int .i64 (Con.lo x),.int .i64 (Con.hi x),.slice (Con.ad x) (List.length (Con.parts x)) (Con.cap x)] 40 (0,0))]) ?_;rw[show eE_ x s=(s.1,s.2.1,s.2.2.1.add x.name,s.2.2.2) from (by unfold eE_;rw[if_neg zr_,if_neg zr_,if_pos hk])];simp
   have hn_3:=hk
   by_cases hk:x.kind=4
   ·refine dg_ (H':=((I,.cells #[.int .i64 (Con.kind x),str (Con.name x),.int .i64 (Con.lo x),.int .i64 (Con.hi x),.slice (Con.ad x) (List.length (Con.parts x)) (Con.cap x)] 40 (0,0))::((mkH Ds)++((m,.map s.1.es s.1.c)::((B,.map s.2.1.es s.2.1.c)::((A,.map s.2.2.1.es s.2.2.1.c)::((C,.map s.2.2.2.es s.2.2.2.c)::((L,.cells #[.int .i64 (Con.kind e),str (Con.name e),.int .i64 (Con.lo e),.int .i64 (Con.hi e),.slice (Con.ad e) (List.length (Con.parts e)) (Con.cap e)] 40 (0,0))::((P,.cells #[.int .i64 (Ax.kind d),.bool (Ax.opn d),.int .i64 (Con.kind (Ax.left d)),str (Con.name (Ax.left d)),.int .i64 (Con.lo (Ax.left d)),.int .i64 (Con.hi (Ax.left d)),.slice (Con.ad (Ax.left d)) (List.length (Con.parts (Ax.left d))) (Con.cap (Ax.left d)),.int .i64 (Con.kind (Ax.right d)),str (Con.name (Ax.right d)),.int .i64 (Con.lo (Ax.right d)),.int .i64 (Con.hi (Ax.right d)),.slice (Con.ad (Ax.right d)) (List.length (Con.parts (Ax.right d))) (Con.cap (Ax.right d)),.slice (Ax.ad d) (List.length (Ax.roles d)) (Ax.cap d),str (Ax.role d),str (Ax.a d),str (Ax.b d)] 42 (0,0))::((K,.cells #[.map (some H)] 185 (0,0))::((H,.map #[⟨.int .i64 3,.map (some m),0⟩,⟨.int .i64 6,.map (some B),1⟩,⟨.int .i64 7,.map (some A),2⟩,⟨.int .i64 4,.map (some C),3⟩] 4)::((J,.cells #[.slice none 0 0,.slice none 0 0,.slice none 0 0,.slice none 0 0] 133 (0,0))::W)))))))))))) (F:=[]) zC_ zh ?_
    refine eN_ ?_;refine gz_ (Y_ d_ (Y_ (g_ d_) (Y_ (g_ d_) (Y_ (g_ d_) (Y_ (g_ d_) (Y_ (g_ d_) (Y_ (g_ d_) (Y_ (g_ d_) (Y_ (g_ d_) (bq_ (g_ d_))))))))))) ?_;refine do_ ?_;refine aV_ ?_;refine X_ (N_ _) (aC_ 7 zk_ rfl rfl rfl) rfl rfl ?_;refine X_ (N_ _) (bh_ aP_ rfl rfl rfl av_) rfl rfl ?_;refine X_ (N_ _) (aC_ 0 bd_ rfl rfl rfl) rfl rfl ?_;refine X_ (N_ _) (hz_ (i:=3) (u:=.map (some C)) cJ_ rfl rfl 8 rfl (bo_ s_) (aW_ s_ (by rw[hk];rfl))) rfl rfl ?_;refine X_ (N_ _) (O_ rfl) rfl rfl ?_;refine X_ (N_ _) (aG_ rfl rfl) rfl rfl ?_;refine X_ (N_ _) (aG_ rfl rfl) rfl rfl ?_;refine X_ (N_ _) (an_ rfl) rfl rfl ?_;refine X_ (N_ _) (an_ rfl) rfl rfl ?_;refine bF_ ?_;refine cs_ rfl ?_;refine do_ ?_;refine aV_ ?_;refine X_ (N_ _) (O_ rfl) rfl rfl ?_;refine bF_ ?_;refine cs_ rfl ?_;refine fR_ rfl ?_;refine aV_ ?_;refine X_ (N_ _) (O_ rfl) rfl rfl ?_;refine X_ (N_ _) (bh_ aP_ rfl rfl rfl H_) rfl rfl ?_;refine X_ (N_ _) (aC_ 0 ab_ rfl rfl rfl) rfl rfl ?_;refine hL_ (N_ _) 4 s.2.2.2 bG_ (.inr rfl) S_ rfl rfl rfl rfl ?_;refine bF_ ?_;refine dI_ rfl ?_;refine dg_ (H':=((mkH Ds)++((m,.map s.1.es s.1.c)::((B,.map s.2.1.es s.2.1.c)::((A,.map s.2.2.1.es s.2.2.1.c)::((C,.map (s.2.2.2.add (Con.name x)).es (s.2.2.2.add (Con.name x)).c)::((L,.cells #[.int .i64 (Con.kind e),str (Con.name e),.int .i64 (Con.lo e),.int .i64 (Con.hi e),.slice (Con.ad e) (List.length (Con.parts e)) (Con.cap e)] 40 (0,0))::((P,.cells #[.int .i64 (Ax.kind d),.bool (Ax.opn d),.int .i64 (Con.kind (Ax.left d)),str (Con.name (Ax.left d)),.int .i64 (Con.lo (Ax.left d)),.int .i64 (Con.hi (Ax.left d)),.slice (Con.ad (Ax.left d)) (List.length (Con.parts (Ax.left d))) (Con.cap (Ax.left d)),.int .i64 (Con.kind (Ax.right d)),str (Con.name (Ax.right d)),.int .i64 (Con.lo (Ax.right d)),.int .i64 (Con.hi (Ax.right d)),.slice (Con.ad (Ax.right d)) (List.length (Con.parts (Ax.right d))) (Con.cap (Ax.right d)),.slice (Ax.ad d) (List.length (Ax.roles d)) (Ax.cap d),str (Ax.role d),str (Ax.a d),str (Ax.b d)] 42 (0,0))::((K,.cells #[.map (some H)] 185 (0,0))::((H,.map #[⟨.int .i64 3,.map (some m),0⟩,⟨.int .i64 6,.map (some B),1⟩,⟨.int .i64 7,.map (some A),2⟩,⟨.int .i64 4,.map (some C),3⟩] 4)::((J,.cells #[.slice none 0 0,.slice none 0 0,.slice none 0 0,.slice none 0 0] 133 (0,0))::(W++((I,.cells #[.int .i64 (Con.kind x),str (Con.name x),.int .i64 (Con.lo x),.int .i64 (Con.hi x),.slice (Con.ad x) (List.length (Con.parts x)) (Con.cap x)] 40 (0,0))::[]))))))))))))) (F:=[]) zE_ zh ?_;refine gm_ (eE_ x s) rfl (G:=[(I,.cells #[.int .i64 (Con.kind x),str (Con.name x),.int .i64 (Con.lo x),.int .i64 (Con.hi x),.slice (Con.ad x) (List.length (Con.parts x)) (Con.cap x)] 40 (0,0))]) ?_;rw[show eE_ x s=(s.1,s.2.1,s.2.2.1,s.2.2.2.add x.name) from (by unfold eE_;rw[if_neg zr_,if_neg zr_,if_neg zr_,if_pos hk])];simp
   have hn_4:=hk;refine dg_ (H':=((I,.cells #[.int .i64 (Con.kind x),str (Con.name x),.int .i64 (Con.lo x),.int .i64 (Con.hi x),.slice (Con.ad x) (List.length (Con.parts x)) (Con.cap x)] 40 (0,0))::((mkH Ds)++((m,.map s.1.es s.1.c)::((B,.map s.2.1.es s.2.1.c)::((A,.map s.2.2.1.es s.2.2.1.c)::((C,.map s.2.2.2.es s.2.2.2.c)::((L,.cells #[.int .i64 (Con.kind e),str (Con.name e),.int .i64 (Con.lo e),.int .i64 (Con.hi e),.slice (Con.ad e) (List.length (Con.parts e)) (Con.cap e)] 40 (0,0))::((P,.cells #[.int .i64 (Ax.kind d),.bool (Ax.opn d),.int .i64 (Con.kind (Ax.left d)),str (Con.name (Ax.left d)),.int .i64 (Con.lo (Ax.left d)),.int .i64 (Con.hi (Ax.left d)),.slice (Con.ad (Ax.left d)) (List.length (Con.parts (Ax.left d))) (Con.cap (Ax.left d)),.int .i64 (Con.kind (Ax.right d)),str (Con.name (Ax.right d)),.int .i64 (Con.lo (Ax.right d)),.int .i64 (Con.hi (Ax.right d)),.slice (Con.ad (Ax.right d)) (List.length (Con.parts (Ax.right d))) (Con.cap (Ax.right d)),.slice (Ax.ad d) (List.length (Ax.roles d)) (Ax.cap d),str (Ax.role d),str (Ax.a d),str (Ax.b d)] 42 (0,0))::((K,.cells #[.map (some H)] 185 (0,0))::((H,.map #[⟨.int .i64 3,.map (some m),0⟩,⟨.int .i64 6,.map (some B),1⟩,⟨.int .i64 7,.map (some A),2⟩,⟨.int .i64 4,.map (some C),3⟩] 4)::((J,.cells #[.slice none 0 0,.slice none 0 0,.slice none 0 0,.slice none 0 0] 133 (0,0))::W)))))))))))) (F:=[]) zC_ zh ?_;refine eN_ ?_;refine gz_ (Y_ d_ (Y_ (g_ d_) (Y_ (g_ d_) (Y_ (g_ d_) (Y_ (g_ d_) (Y_ (g_ d_) (Y_ (g_ d_) (Y_ (g_ d_) (Y_ (g_ d_) (bq_ (g_ d_))))))))))) ?_;refine do_ ?_;refine aV_ ?_;refine X_ (N_ _) (aC_ 7 zk_ rfl rfl rfl) rfl rfl ?_;refine X_ (N_ _) (bh_ aP_ rfl rfl rfl av_) rfl rfl ?_;refine X_ (N_ _) (aC_ 0 bd_ rfl rfl rfl) rfl rfl ?_;refine X_ (N_ _) (rQ_ cJ_ ei_ rfl rfl 8 rfl (bo_ s_) ((wl_ s_).nf (Con.kind x) _ [3,6,7,4] rfl (by simp only[List.mem_cons,List.not_mem_nil,or_false];omega))) rfl rfl ?_;refine X_ (N_ _) (O_ rfl) rfl rfl ?_;refine X_ (N_ _) (aG_ rfl rfl) rfl rfl ?_;refine X_ (N_ _) (aG_ rfl rfl) rfl rfl ?_;refine X_ (N_ _) (an_ rfl) rfl rfl ?_;refine X_ (N_ _) (an_ rfl) rfl rfl ?_;refine bF_ ?_;refine cs_ rfl ?_;refine do_ ?_;refine aV_ ?_;refine X_ (N_ _) (O_ rfl) rfl rfl ?_;refine bF_ ?_;refine cs_ rfl ?_;refine mh_ rfl ?_;refine oO_ ?_;refine dI_ rfl ?_;refine dg_ (H':=((mkH Ds)++((m,.map s.1.es s.1.c)::((B,.map s.2.1.es s.2.1.c)::((A,.map s.2.2.1.es s.2.2.1.c)::((C,.map s.2.2.2.es s.2.2.2.c)::((L,.cells #[.int .i64 (Con.kind e),str (Con.name e),.int .i64 (Con.lo e),.int .i64 (Con.hi e),.slice (Con.ad e) (List.length (Con.parts e)) (Con.cap e)] 40 (0,0))::((P,.cells #[.int .i64 (Ax.kind d),.bool (Ax.opn d),.int .i64 (Con.kind (Ax.left d)),str (Con.name (Ax.left d)),.int .i64 (Con.lo (Ax.left d)),.int .i64 (Con.hi (Ax.left d)),.slice (Con.ad (Ax.left d)) (List.length (Con.parts (Ax.left d))) (Con.cap (Ax.left d)),.int .i64 (Con.kind (Ax.right d)),str (Con.name (Ax.right d)),.int .i64 (Con.lo (Ax.right d)),.int .i64 (Con.hi (Ax.right d)),.slice (Con.ad (Ax.right d)) (List.length (Con.parts (Ax.right d))) (Con.cap (Ax.right d)),.slice (Ax.ad d) (List.length (Ax.roles d)) (Ax.cap d),str (Ax.role d),str (Ax.a d),str (Ax.b d)] 42 (0,0))::((K,.cells #[.map (some H)] 185 (0,0))::((H,.map #[⟨.int .i64 3,.map (some m),0⟩,⟨.int .i64 6,.map (some B),1⟩,⟨.int .i64 7,.map (some A),2⟩,⟨.int .i64 4,.map (some C),3⟩] 4)::((J,.cells #[.slice none 0 0,.slice none 0 0,.slice none 0 0,.slice none 0 0] 133 (0,0))::(W++((I,.cells #[.int .i64 (Con.kind x),str (Con.name x),.int .i64 (Con.lo x),.int .i64 (Con.hi x),.slice (Con.ad x) (List.length (Con.parts x)) (Con.cap x)] 40 (0,0))::[]))))))))))))) (F:=[]) (by exact zp) zh ?_;refine gm_ (eE_ x s) rfl (G:=[(I,.cells #[.int .i64 (Con.kind x),str (Con.name x),.int .i64 (Con.lo x),.int .i64 (Con.hi x),.slice (Con.ad x) (List.length (Con.parts x)) (Con.cap x)] 40 (0,0))]) ?_;rw[show eE_ x s=s from (by unfold eE_;rw[if_neg zr_,if_neg zr_,if_neg zr_,if_neg zr_])];simp
  ·intro l Gj Gx hY
   exact tb_ (E:=[]) (good:=fun _=>True) (fun _ _ _ _=>trivial) (fun s x hx _=>hY s ⟨x,hx⟩ trivial) _ hokc trivial s
  intro s_1 U D l r;rw[ru_ (fun x s=>eE_ x s) _ e (Nat.le_refl _)]at U;obtain rfl:=Sum.inl.inj U;have R:=T.side hc_1;refine dW_ (H':=mkH (D::Ds)++[(m,.map ((List.foldl (fun s x=>eE_ x s) s (Con.nds e)).1).es ((List.foldl (fun s x=>eE_ x s) s (Con.nds e)).1).c),(B,.map ((List.foldl (fun s x=>eE_ x s) s (Con.nds e)).2.1).es ((List.foldl (fun s x=>eE_ x s) s (Con.nds e)).2.1).c),(A,.map ((List.foldl (fun s x=>eE_ x s) s (Con.nds e)).2.2.1).es ((List.foldl (fun s x=>eE_ x s) s (Con.nds e)).2.2.1).c),(C,.map ((List.foldl (fun s x=>eE_ x s) s (Con.nds e)).2.2.2).es ((List.foldl (fun s x=>eE_ x s) s (Con.nds e)).2.2.2).c),(L,.cells #[.int .i64 (Con.kind e),str (Con.name e),.int .i64 (Con.lo e),.int .i64 (Con.hi e),.slice (Con.ad e) (List.length (Con.parts e)) (Con.cap e)] 40 (0,0)),(P,.cells #[.int .i64 (Ax.kind d),.bool (Ax.opn d),.int .i64 (Con.kind (Ax.left d)),str (Con.name (Ax.left d)),.int .i64 (Con.lo (Ax.left d)),.int .i64 (Con.hi (Ax.left d)),.slice (Con.ad (Ax.left d)) (List.length (Con.parts (Ax.left d))) (Con.cap (Ax.left d)),.int .i64 (Con.kind (Ax.right d)),str (Con.name (Ax.right d)),.int .i64 (Con.lo (Ax.right d)),.int .i64 (Con.hi (Ax.right d)),.slice (Con.ad (Ax.right d)) (List.length (Con.parts (Ax.right d))) (Con.cap (Ax.right d)),.slice (Ax.ad d) (List.length (Ax.roles d)) (Ax.cap d),str (Ax.role d),str (Ax.a d),str (Ax.b d)] 42 (0,0)),(K,.cells #[.map (some H)] 185 (0,0)),(H,.map #[⟨.int .i64 3,.map (some m),0⟩,⟨.int .i64 6,.map (some B),1⟩,⟨.int .i64 7,.map (some A),2⟩,⟨.int .i64 4,.map (some C),3⟩] 4),(J,.cells #[.slice none 0 0,.slice none 0 0,.slice none 0 0,.slice none 0 0] 133 (0,0))]) (F:=[(bw,.cells (Con.cells e).toArray 40 (0,0))]++[(l,.loop r)]) wa_ zh ?_;refine al_ rfl (u_ (Y_ (g_ d_) (Y_ (g_ d_) (Y_ (g_ d_) (Y_ (g_ d_) (Y_ (g_ d_) (Y_ (g_ d_) (Y_ (g_ d_) (Y_ (g_ d_) (bq_ bf_))))))))) (Zz 5 ?_));exact jj_ ⟨(j+1,(List.foldl (fun s x=>eE_ x s) s (Con.nds e)),(D::Ds)),hlc_1,R⟩ zu_ zl zp zh
 obtain⟨S,d,hx_1,M⟩:=zge (show Y<List.length O by omega);refine Zz 12 ?_;refine D_ bc_ rfl fun m=>x_ 0 ar_ rfl rfl rfl rfl rfl rfl (Zz 5 ?_)
 refine i_ (pr_ (hok d M) (hC d M)) rfl l_ (fun v _ h=>by exact⟨(h.1.2 d M),h.2.1,trivial⟩) rfl fun _=>Zz 6 ?_
 refine e_ (aD_ (cf_ rfl rfl) (show _=Value.bool false from congrArg Value.bool zx_)) rfl (Zz 10 ?_);exact jj_ ⟨Y+1,S⟩ zu_ zl (c_ d_) zh
end Go.Proofs.YtpbnmnfdgckaiaaGreatDoor
namespace Go.Vs
open Go Go.Sx
inductive RchS (nx:Str→List Str) (I:List Str):Str→Prop
  | zero {s:Str}:s∈I→RchS nx I s
  | step {s t:Str}:RchS nx I s→t∈nx s→RchS nx I t
theorem RchS.mem {nx:Str→List Str} {I T:List Str} (d:∀ s,∀ t∈nx s,t∈T) {t:Str} (h:RchS nx I t):t∈I++T:=by
  cases h with
  | zero h=>exact List.mem_append_left _ h
  | step _ h=>exact List.mem_append_right _ (d _ _ h)
structure CI (nx:Str→List Str) (I K W:List Str):Prop where
  r0:∀ s∈I,s∈K
  sub:∀ s∈W,s∈K
  rch:∀ s∈K,RchS nx I s
  cls:∀ s∈K,s ∉ W→∀ t∈nx s,t∈K
structure CJ (nx:Str→List Str) (I:List Str) (k:Str) (j:Nat) (K W:List Str):Prop where
  r0:∀ s∈I,s∈K
  sub:∀ s∈W,s∈K
  rch:∀ s∈K,RchS nx I s
  hk:k∈K
  cls:∀ s∈K,s ∉ W→s≠k→∀ t∈nx s,t∈K
  dn:∀ t∈(nx k).take j,t∈K
theorem CI.init {nx:Str→List Str} {I K:List Str} (h:∀ n,n∈K↔n∈I):CI nx I K I :=
  ⟨fun s d=>(h s).2 d,fun s d=>(h s).2 d,fun s d=>.zero ((h s).1 d),fun s d e=>absurd ((h s).1 d) e⟩
theorem CI.pop {nx:Str→List Str} {I K W:List Str} {k:Str} (h:CI nx I K (k::W)):CJ nx I k 0 K W :=
  ⟨h.r0,fun s d=>h.sub s (List.mem_cons_of_mem _ d),h.rch,h.sub k List.mem_cons_self,fun s d e hk=>h.cls s d (by simp[e,hk]),by simp⟩
theorem CJ.skip {nx:Str→List Str} {I K W:List Str} {k t:Str} {j:Nat} (h:CJ nx I k j K W) (m:(nx k)[j]? = some t) (e:t∈K):CJ nx I k (j+1) K W :=
 ⟨h.r0,h.sub,h.rch,h.hk,h.cls,fun z d=>by
   rw[tk1 m,List.mem_append,List.mem_singleton]at d;rcases d with d|rfl
   · exact h.dn z d
   · exact e⟩
theorem CJ.take {nx:Str→List Str} {I K W x:List Str} {k t:Str} {j:Nat} (h:CJ nx I k j K W) (y:(nx k)[j]? = some t) (m:∀ n,n∈x↔n∈K∨n=t):CJ nx I k (j+1) x (W++[t]) :=
  ⟨fun s d=>(m s).2 (.inl (h.r0 s d)),fun s d=>(m s).2 (by rw[List.mem_append,List.mem_singleton]at d;exact d.imp (h.sub s) id),fun s d=>(m s).1 d |>.elim (h.rch s) (fun e=>e▸(h.rch k h.hk).step (List.mem_of_getElem? y)),(m k).2 (.inl h.hk),
   fun s d v hk z q=>by
    simp only[List.mem_append,List.mem_singleton,not_or]at v;exact (m z).2 (.inl (h.cls s (((m s).1 d).resolve_right v.2) v.1 hk z q)),
   fun z q=>by
    rw[tk1 y,List.mem_append,List.mem_singleton]at q;exact (m z).2 (q.imp (h.dn z) id)⟩
theorem CJ.done {nx:Str→List Str} {I K W:List Str} {k:Str} {j:Nat} (h:CJ nx I k j K W) (m:(nx k).length≤j):CI nx I K W :=
 ⟨h.r0,h.sub,h.rch,fun s q v t d=>by
   by_cases e:s=k
   · exact h.dn t (by rw[List.take_of_length_le m];exact e▸d)
   · exact h.cls s q v e t d⟩
theorem CI.fine {nx:Str→List Str} {I K:List Str} (h:CI nx I K []) (t:Str):t∈K↔RchS nx I t :=
  ⟨h.rch t,fun q=>by
    induction q with
    | zero hs=>exact h.r0 _ hs
    | step _ hm ih=>exact h.cls _ ih zC_ _ hm⟩
theorem kv_ {nx:Str→List Str} {I T K:List Str} (d:∀ s,∀ t∈nx s,t∈T) (k:K.Nodup) (h:∀ s∈K,RchS nx I s):K.length≤I.length+T.length:=by
  have:=cd_ k (m:=I++T) fun s e=>(h s e).mem d
  rwa [List.length_append]at this
theorem iJ_ {L:List (Str×Str)} {r:Str} {K:List Str} (e:K.Nodup) (h:∀ s∈K,RchS (lat L) [r] s):K.length≤L.length+1:=by
  have:=kv_ (T:=L.map (·.2)) (fun s t d=>List.mem_map.2 ⟨_,bP_.1 d,rfl⟩) e h;simp only[List.length_cons,List.length_nil,List.length_map]at this;omega
def fU_ (l:List Ax):List (Str×Str):=l.flatMap fun x=>if x.kind=5 then [(x.roles.headD [],x.role)] else []
theorem pu_ {l:List Ax} {i:Nat} {x:Ax} (h:l[i]? = some x):fU_ (l.take (i+1))=fU_ (l.take i)++if x.kind=5 then [(x.roles.headD [],x.role)] else []:=by
  unfold fU_;rw[List.take_add_one,h,List.flatMap_append];simp
theorem iZ_ (l:List Ax):(fU_ l).length≤l.length:=by
  induction l with
  | nil=>simp[fU_]
  | cons x l ih =>
    unfold fU_ at ih ⊢;rw[List.flatMap_cons,List.length_append,List.length_cons]
    split<;>simp only[List.length_cons,List.length_nil]<;>omega
def zd_ (l:List Ax) (r:Str) (X:List Str):Prop:=SrS X∧∀ t,t∈X↔RchS (lat (fU_ l)) [r] t
end Go.Vs
namespace Go.Sx
open Go
theorem qr_ {P:Program} {N:Nf} {fr:Fr} {H F:Hp} {Γ:List Fct} {ty:TypeId} {e:TypeId} {sz n:Nat} {sv:Value} {v:List Value} {Hr:Hp} {x:Operand} {t:TypeId} {k:Nat} {u:Value} (d:ORow e sz sv n v Hr) (y:H.Perm (Hr++F)) (A:∀ w,(isAgg t).run P w=.ok false w)
    (q:Fr.ev fr x=some (.pointer (some ⟨svB sv,svO sv+k,none⟩))) (m:v[k]? = some u):Yld P N fr H Γ (.load t x) ty u:=by
  cases d with
  | row h =>
    refine cX_ h y A ?_ m;rcases h.2 with⟨rfl,B,_⟩|⟨g,cap,cur,rfl,_⟩
    · rw[q];simp[svO]
    · rw[q];simp[svO]
  | @cut g k0 n cap pre v Hr hp' h =>
    refine cX_ (k:=k0*sz+k) h y A (by rw[q];rfl) ?_;rw[List.getElem?_append_right zr_,hp',show k0*sz+k - k0*sz=k by omega];exact m
  | out=>simp at m
end Go.Sx
namespace Go.Proofs.YtpbnmnfdgckaiaaGreatDoor
open Go Go.Sx Go.Proofs
attribute [local irreducible] Code.wp wpList wpAnyH
open Go.Vs
theorem pA_ {s:StM} {k:Str} (h:k ∉ s.ks):(s.add k).ks=s.ks++[k]:=by unfold StM.add;rw[dif_neg h]
theorem uL_ (r:Str) (sb:Nat) (L:List (Str×Str)) (adr:Str→Option Addr×Nat) (hL:L.length≤100000):Tri Tryz.prog 51 #[str r,.map (some sb)] [] [mlF Tryz.prog 9 str ap_ sb L adr] (fun y:{y:Nat×StM // ∀ t,t∈y.2.ks↔RchS (lat L) [r] t}=>.map (some y.1.1)) (fun y=>[(y.1.1,.map y.1.2.es y.1.2.c)]) (fun _=>[]):=by
 refine j_ Tryz.func51 rfl rfl Tryz.ntmps51 rfl fun v_1=>?_;refine Zz 7 ?_;refine bn_ rfl fun H=>Zz 1 ?_
 refine ec_ 0 StM.nil bG_ (.inl rfl) S_ rfl rfl rfl rfl (Zz 8 ?_);refine R_ m_ H_ aK_ rfl rfl rfl rfl rfl rfl fun I=>Zz 4 ?_
 have Q:ORow 9 1 (.slice (some ⟨I,0,none⟩) 1 1) (List.length [r]) (List.flatMap ap_ [r]) [(I,.cells #[str r] 9 (0,0))]:=ORow.row (aB_.lit rfl (by simp[maxLen]));refine u_ (c_ d_) ?_;refine P_ (ι:={y:StM×List Str×Value×Hp // CI (lat L) [r] y.1.ks y.2.1∧ORow 9 1 y.2.2.1 (List.length y.2.1) (List.flatMap ap_ y.2.1) y.2.2.2∧List.length y.2.1≤List.length y.1.ks}) (fun y=>[(1,.map (some sb)),(4,.map none),(5,.map (some H)),(6,y.1.2.2.1)]) (fun y=>((H,.map y.1.1.es y.1.1.c)::y.1.2.2.2)) (fun y=>[mlF Tryz.prog 9 str ap_ sb L adr]) (fun y=>(List.length L+1) - List.length y.1.1.ks+List.length y.1.2.1) ⟨((StM.add StM.nil r),[r],(.slice (some ⟨I,0,none⟩) 1 1),[(I,.cells #[str r] 9 (0,0))]),CI.init fun n=>by rw[StM.mem];simp[StM.nil],Q,by dsimp only;rw[pA_ (by simp[StM.nil])];simp[StM.nil]⟩ zl zp zh ?_;rintro ⟨⟨s,W,svW,HW⟩,hC,U,N⟩;dsimp only at hC U N ⊢;have hsl:=iJ_ s.hE.nd hC.rch;refine Zz 4 ?_;refine e_ (qq_ U m_ rfl) rfl ?_;refine Zi 0 (fun X=>?_) fun X=>?_
 ·refine Zz 12 ?_
  obtain rfl:W=[]:=List.eq_nil_of_length_eq_zero zr_;exact af_ Tryz.results51 ⟨(H,s),fun t=>hC.fine t⟩ rfl d_ zt
 obtain⟨k,W,rfl⟩:∃ k O,W=k::O:=by cases W with|nil=>simp at*| cons k O=>exact⟨k,O,rfl⟩
 refine Zz 9 ?_;refine e_ (sY_ U m_ H_ rfl rfl zx_ zar_) rfl ?_;refine e_ (qr_ (k:=(0:Int).toNat*1) U B_ ab_ rfl rfl) rfl (Zz 6 ?_);refine qZ_ (i:=1) (kl:=.i64) U m_ H_ rfl rfl zar_ rfl fun J R=>?_;have Z:ORow 9 1 J (List.length W) (List.flatMap ap_ W) HW:=by simpa [ap_] using R
 have a0:=hC.pop;have hlk:=dO_ L k;refine Zz 7 ?_;refine e_ (bQ_ (k:=k) (adr:=adr) bG_ bM_ bB_ rfl rfl zf) rfl (Zz 5 ?_);refine P_ (ι:={y:Nat×StM×List Str×Value×Hp // y.1≤List.length (lat L k)∧CJ (lat L) [r] k y.1 y.2.1.ks y.2.2.1∧ORow 9 1 y.2.2.2.1 (List.length y.2.2.1) (List.flatMap ap_ y.2.2.1) y.2.2.2.2∧List.length y.2.1.ks+List.length W=List.length s.ks+List.length y.2.2.1}) (fun y=>[(1,.map (some sb)),(4,.map none),(5,.map (some H)),(6,y.1.2.2.2.1),(25,.slice (Prod.fst (adr k)) (List.length (lat L k)) (Prod.snd (adr k))),(26,.int .i64 (List.length (lat L k):Int)),(27,.int .i64 (y.1.1:Int))]) (fun y=>((H,.map y.1.2.1.es y.1.2.1.c)::y.1.2.2.2.2)) (fun y=>[mlF Tryz.prog 9 str ap_ sb L adr]) (fun y=>List.length (lat L k) - y.1.1) ⟨((0:Nat),s,W,J,HW),by simp,a0,Z,rfl⟩ zl zp zh ?_;rintro ⟨⟨j,x,E,G,M⟩,Y,P,C,T⟩;dsimp only at Y P C T ⊢;have hsl_1:=iJ_ x.hE.nd P.rch;have hwk_1:List.length W+1≤List.length s.ks:=by simpa using N
 refine Zi 2 (fun S=>?_) fun S=>?_
 ·refine Zz 6 ?_
  exact y_ ⟨(x,E,G,M),P.done zr_,C,by dsimp only;simp only[List.length_cons]at N;omega⟩ (by dsimp only;have:=iJ_ x.hE.nd P.rch;simp only[List.length_cons]at *;omega) zl (f_ d_ ah_) zh
 have B:j<List.length (lat L k):=by omega
 obtain⟨d,A⟩:∃ e_1,(lat L k)[j]? = some e_1:=⟨_,List.getElem?_eq_getElem B⟩;have hmt_1:d∈(lat L k):=List.mem_of_getElem? A;refine Zz 10 ?_;refine e_ (U_ m_ H_ rfl rfl (fun v _ h=>aE_ (n:=1) aw_ zx_ (by exact (bl_ h.1 k)) A) zr_ zA_) rfl ?_;refine e_ (bt_ (ad:=(Prod.fst (adr k))) ab_ rfl (fun v _ h=>by exact (bl_ h.1 k)) (p_ aw_ A 0 _ rfl)) rfl (Zz 7 ?_);refine C_ (aD_ (bJ_ (k:=d) (q:=x.ks) bG_ S_ aM_ rfl rfl x.hE (fun v h _=>(h.own _ (List.mem_of_getElem? (i:=0) rfl)).1)) (show _=Value.bool (decide (d∈x.ks)) from congrArg Value.bool (decide_eq_decide.2 Iff.rfl))) rfl fun r_1 e=>e_ (aJ_ rfl) rfl (Zz 2 ?_)
 cases r_1
 ·replace e:=zdf e
  refine Zz 5 ?_;refine ec_ 0 x bG_ (.inr rfl) S_ rfl rfl rfl rfl (Zz 5 ?_);refine R_ m_ H_ aK_ rfl rfl rfl rfl rfl rfl fun b_3=>?_;refine bu_ (List.flatMap ap_ [d]) d_ rfl ?_;refine mj_ (n:=List.length E) (m:=List.length [d]) (news:=List.flatMap ap_ [d]) cW_ C rfl rfl zC_ zC_ B_ rfl zf (fun u hu=>ak_ cx_ hu) zaV_ zT_ rfl fun F K V=>?_;have a1:ORow 9 1 F (List.length (E++[d])) (List.flatMap ap_ (E++[d])) K:=by rw[List.length_append,List.flatMap_append];exact V
  refine Zz 3 ?_;refine u_ (bq_ bf_) (Zz 5 ?_);exact y_ ⟨(j+1,(StM.add x d),(E++[d]),F,K),B,P.take A fun n=>StM.mem,a1,(by rw[pA_ zak_,List.length_append,List.length_append];simp only[List.length_cons,List.length_nil];omega)⟩ zu_ zl zp (fun _ _ h=>h.2)
 replace e:=zdt e;refine Zz 8 ?_;exact y_ ⟨(j+1,x,E,G,M),B,P.skip A zak_,C,T⟩ zu_ zl zp zh
theorem sL_ (v:List Ax) (lad:Option Addr) (lcap:Nat) (F:∀ x∈v,x.ok) (H:∀ x∈v,x.check=0) (K:v.length≤20) (nm:List Str) (rad:Option Addr) (k:Nat) (B:∀ q∈nm,ba_ q=true∧q.length≤140737488351232) (J:nm.length≤100):Tri Tryz.prog 48 #[.slice lad (List.length v) lcap,.slice rad (List.length nm) k] [] [cu_ lad v,bV_,V_ rad (List.flatMap ap_ nm)] (fun _:Unit=>.int .i64 0) (fun _=>[]) (fun _=>[]):=by
 refine j_ Tryz.func48 rfl rfl Tryz.ntmps48 rfl fun I=>?_;refine Zz 9 ?_;refine i_ (oQ_ v lad lcap F H zr_) rfl l_ zf rfl fun _=>Zz 6 ?_
 refine e_ (aD_ (cf_ rfl rfl) (show _=Value.bool false from congrArg Value.bool zx_)) rfl (Zz 14 ?_);refine P_ (ι:={y:Nat // y≤List.length nm}) (fun y=>[(4,.int .i64 0),(14,.slice rad (List.length nm) k),(15,.int .i64 (List.length nm:Int)),(16,.int .i64 (y.1:Int))]) (fun y=>([])) (fun y=>[cu_ lad v,bV_,V_ rad (List.flatMap ap_ nm)]) (fun y=>List.length nm - y.1) ⟨(0:Nat),by simp⟩ zl l_ zh ?_;rintro ⟨i,E⟩;dsimp only at E ⊢;refine Zi 2 (fun C=>?_) fun C=>?_
 ·refine Zz 12 ?_
  exact af_ Tryz.results48 () rfl l_ zt
 have d:i<List.length nm:=by omega
 obtain⟨m,A⟩:∃ G,nm[i]? = some G:=⟨_,List.getElem?_eq_getElem d⟩;have e:m∈nm:=List.mem_of_getElem? A;refine Zz 18 ?_;refine i_ (gX_ _ (B m e).2) rfl l_ zt rfl fun _=>Zi 6 (fun h=>?_) fun h=>?_
 ·refine Zz 10 ?_
  exact y_ ⟨i+1,d⟩ zu_ zl l_ zh
 exfalso;rw[if_pos (B m e).1]at h;exact h rfl
theorem yx_ {l:List Str} {r:Str} (h:l[0]? = some r):l.headD []=r:=by
  cases l with
  | nil=>simp at h
  | cons a l=>simpa using h
theorem md_ {G:Prop} (h:G:=by
 refine Zz 3 ?_;refine n_ 15 rfl zk (hJ_ (k:=C) (dd:=(Ax.role e)) bG_ F (by rw[es_];exact J) (.inr rfl) bM_ rfl rfl rfl (ep_ (f_ (g_ (c_ d_)) (F_ t_ (c_ B_)))) fun N K=>?_);refine Zz 5 ?_;refine u_ (Y_ (g_ d_) (bq_ bf_)) (Zz 5 ?_);exact y_ ⟨(i+1,N),E,(by rw[pu_ G,if_pos I,yx_ A];exact K)⟩ zu_ zl zp zh):G:=h
theorem yZ_ (m:List Ax) (lad:Option Addr) (lcap:Nat) (O:∀ x∈m,x.ok) (hC:∀ x∈m,x.check=0) (hll:m.length≤20) (r:Str) (hr:ba_ r=true) (hrl:r.length≤140737488351232):Tri Tryz.prog 17 #[.slice lad (List.length m) lcap,str r] [] [cu_ lad m,bV_] (fun y:{y:List Str×Option Addr×Nat // zd_ m r y.1∧rkS y}=>.tuple #[.slice y.1.2.1 y.1.1.length y.1.2.2,.int .i64 0]) (fun _=>[]) (fun y=>[V_ y.1.2.1 (y.1.1.flatMap ap_)]):=by
 refine j_ Tryz.func17 rfl rfl Tryz.ntmps17 rfl fun v_1=>?_;refine Zz 11 ?_;refine R_ m_ H_ aK_ rfl rfl rfl rfl rfl rfl fun T=>?_;refine bu_ (List.flatMap ap_ [r]) d_ rfl ?_;refine i_ (sL_ m lad lcap O hC hll [r] (some ⟨T,0,none⟩) 1 (fun q hq=>by rw[List.mem_singleton.1 hq];exact⟨hr,hrl⟩) zC_) rfl l_ zf rfl fun _=>?_;refine Zz 6 ?_;refine e_ (aD_ (cf_ rfl rfl) (show _=Value.bool false from congrArg Value.bool zx_)) rfl (Zz 7 ?_);refine bn_ rfl fun L=>Zz 12 ?_
 refine P_ (ι:={y:Nat×Hp // y.1≤List.length m∧dl_ str ap_ 9 1 (fU_ (List.take y.1 m)) L y.2}) (fun y=>[(1,str r),(4,.slice none 0 0),(5,.int .i64 0),(7,.map (some L)),(18,.slice lad (List.length m) lcap),(19,.int .i64 (List.length m:Int)),(20,.int .i64 (y.1.1:Int))]) (fun y=>(y.1.2)) (fun y=>[V_ (some ⟨T,0,none⟩) (List.flatMap ap_ [r]),cu_ lad m,bV_]) (fun y=>List.length m - y.1.1) ⟨((0:Nat),[(L,.map #[] 0)]),by simp,dl_.nil _ _⟩ zl ah_ zh ?_;rintro ⟨⟨i,HM⟩,Q,Y⟩;dsimp only at Q Y ⊢;refine Zi 2 (fun H=>?_) fun H=>?_
 ·refine Zz 7 ?_
  rw[List.take_of_length_le zr_]at Y;refine nI_ bG_ Y ah_ fun adr=>?_;have hbl:=iZ_ m;refine Zz 3 ?_;refine i_ (uL_ r L (fU_ m) adr (by have:=iZ_ m;omega)) rfl l_ zf rfl fun⟨⟨cb,cs⟩,P⟩=>?_;dsimp only;dsimp only at P;refine i_ (jl_ cb) rfl l_ zt rfl fun by_=>?_;have U:List.length cs.ks≤100000000:=by have:=iJ_ cs.hE.nd (fun s hs=>(P s).1 hs);omega
  refine i_ (fz_ 96 [zp_ by_ 0] [(by_,.cells #[.map (some cb)] 33 (0,0)),(cb,.map cs.es cs.c)] cs.ks cs.hE.nd U (jm_ cb by_ cs.c cs.es cs.ks cs.hE.ke cs.hB U)) rfl zp zt rfl fun⟨⟨X,Z⟩,W,R,V⟩=>?_;dsimp only;refine Zz 5 ?_;exact lg_ Tryz.results17 ⟨(bg_ cs.ks,X,Z),⟨fP_ cs.hE.nd,fun t=>by rw[List.mem_mergeSort];exact P t⟩,W,R,V⟩ rfl rfl rfl l_ zf
 obtain⟨E,e,G,d⟩:=zge (show i<List.length m by omega);refine Zz 12 ?_;refine D_ bc_ rfl fun b_3=>x_ 0 ar_ rfl rfl rfl rfl rfl rfl (Zi 6 (fun B=>?_) fun B=>?_)
 ·refine Zz 10 ?_
  exact y_ ⟨(i+1,HM),E,(by rw[pu_ G,if_neg B,List.append_nil];exact Y)⟩ zu_ zl B_ zh
 have I:=B;have hon:=(Ax.good_of (hC e d)).one I;obtain⟨C,A⟩:∃ C,(Ax.roles e)[0]? = some C:=⟨_,List.getElem?_eq_getElem zr_⟩;have hrc:=(O e d).cap;have hrln:=(O e d).len;refine Zz 3 ?_;have hbb_1:=(show (lat (fU_ (List.take i m)) C).length≤400000000 from Nat.le_trans (dO_ _ _) (by have:=iZ_ (List.take i m);have:=List.length_take_le i m;omega));refine mI_ bG_ C Y B_ fun es_1 ce_1 ve_1 Hk_1 Hx_1 M F=>?_;refine u_ (Y_ d_ (bq_ (g_ bf_))) ?_;refine ao_ ((b_3,.cells (Ax.cells e).toArray 42 (0,0))::[]) zk ?_;refine G_ 4 [0,1,2,3,4,5,6,7,8,9,11,12] zk zs (Zz 3 ?_);refine z_ rfl (U_ m_ H_ rfl rfl (fun v _ h=>aE_ (n:=1) aw_ zx_ (by exact (h.2.1.2 e d).2.2) A) zr_ zA_) rfl ?_;refine z_ rfl (bt_ (ad:=(Ax.ad e)) ab_ rfl (fun v _ h=>by exact (h.2.1.2 e d).2.2) (p_ aw_ A 0 _ rfl)) rfl (Zz 3 ?_);refine z_ rfl (U_ m_ H_ rfl rfl (fun v _ h=>aE_ (n:=1) aw_ zx_ (by exact (h.2.1.2 e d).2.2) A) zr_ zA_) rfl ?_;refine z_ rfl (bt_ (ad:=(Ax.ad e)) ab_ rfl (fun v _ h=>by exact (h.2.1.2 e d).2.2) (p_ aw_ A 0 _ rfl)) rfl (Zz 3 ?_);refine ct_ 10 13 rfl rfl zk ?_ ?_
 ·refine e_ (eT_ (k:=C) bG_ F bM_ bB_ rfl rfl 0 rfl) rfl (Zz 3 ?_)
  refine n_ 13 rfl zk (R_ m_ H_ aK_ rfl rfl rfl rfl rfl rfl fun b_4=>Zz 3 ?_);refine n_ 14 rfl zk (ay_ (news:=List.flatMap ap_ [(Ax.role e)]) cW_ M rfl rfl zp rfl (be_ 0 rfl) (fun u hu=>ak_ cx_ hu) zv_ zy_ rfl fun S a0 H=>?_);have J:=zsa H;exact md_
 refine R_ m_ H_ aK_ rfl rfl rfl rfl rfl rfl fun b_4=>Zz 3 ?_
 refine n_ 10 rfl zk (e_ (eT_ (k:=C) bG_ F bM_ bB_ rfl rfl 1 rfl) rfl (Zz 3 ?_));refine n_ 14 rfl zk (ay_ (news:=List.flatMap ap_ [(Ax.role e)]) cW_ M rfl rfl zp rfl (be_ 0 rfl) (fun u hu=>ak_ cx_ hu) zv_ zy_ rfl fun S a0 B=>?_);have J:=zsa B;exact md_
end Go.Proofs.YtpbnmnfdgckaiaaGreatDoor
namespace Go.Proofs.YtpbnmnfdgckaiaaGreatDoor
open Go Go.Sx Go.Proofs
attribute [local irreducible] Code.wp wpList wpAnyH
open Go.Vs Go.Shelf Go.RowKit
theorem uV_ {P:Program} {N:Nf} {fr:Fr} {H:Hp} {Γ:List Fct} {t q ty:TypeId} {x y:Operand} {m n:List UInt8} (h:Fr.ev fr x=some (str m)) (k:Fr.ev fr y=some (str n)):Yld P N fr H Γ (.binOp .gtr t x y q) ty (.bool (decide (n<m))) :=
  fun a v d _ _ _ _ _=>by
    have e:decide (n<m)=!decide (m≤n):=by rw[Bool.eq_iff_iff];simp[List.not_le]
    rw[e,← yM_];simp[execOp,d.ev h,d.ev k,str,eqGuard,binOp,Op.stringOp]
theorem lr_ (x y:Str):Fn0 Tryz.prog 138 #[str x,str y] (.int .i64 (Lib.compareBytes x y)):=by
 refine j_ Tryz.func138 rfl rfl Tryz.ntmps138 rfl fun k=>?_;refine Zz 8 ?_;refine i_ (pN_ x) rfl l_ zt rfl fun _=>Zz 6 ?_
 refine i_ (pN_ y) rfl l_ zt rfl fun _=>Zi 26 (fun e=>?_) fun e=>?_
 ·refine Zz 10 ?_
  refine C_ (uV_ rfl rfl) rfl fun h d=>Zz 2 ?_
  cases h
  ·replace d:=zdf d
   refine Zz 9 ?_;exact af_ Tryz.results138 () (cl_ rfl (by rw[qi_,if_neg e,if_neg d])) l_ zt
  replace d:=zdt d;refine Zz 7 ?_;exact af_ Tryz.results138 () (cl_ rfl (by rw[qi_,if_neg e,if_pos d])) l_ zt
 refine Zz 9 ?_;exact af_ Tryz.results138 () (cl_ rfl (by rw[qi_,if_pos e])) l_ zt
def hpB (m q:Str):Bool:=decide ((q.length:Int)≤(m.length:Int))&&(m.take q.length==q)
def nls (s:Str):Bool:=!(s.take 1==[123])
theorem yw_ (s:Str):(!(hpB s [123]))=nls s:=by
  unfold hpB nls;cases s with
  | nil=>rfl
  | cons a s=>simp;intro h;omega
theorem uD_ (m q:Str):Fn0 Tryz.prog 88 #[str m,str q] (.bool (hpB m q)):=by
 refine j_ Tryz.func88 rfl rfl Tryz.ntmps88 rfl fun k=>?_;refine Zz 8 ?_;refine e_ (da_ Z_ rfl) rfl (Zz 1 ?_);refine e_ (da_ Z_ rfl) rfl ?_;refine Zi 0 (fun d=>?_) fun d=>?_
 ·refine Zz 12 ?_
  exact af_ Tryz.results88 () (o_ rfl (by unfold hpB;simp[*])) l_ zt
 refine Zz 6 ?_;refine e_ (da_ Z_ rfl) rfl (aQ_ rfl rfl (e_ (aD_ (fr_ (i:=0) (j:=q.length) (kl:=.i64) (kh:=.i64) Z_ rfl rfl rfl (Nat.zero_le _) zr_) (show _=str (List.take (List.length q) m) by simp)) rfl (Zz 3 ?_)));refine C_ (dn_ rfl rfl) rfl fun h e=>Zz 5 ?_
 exact af_ Tryz.results88 () (o_ rfl (by rw[← e];unfold hpB;simp[*])) l_ zt
theorem uC_ (m q:Str):Fn0 Tryz.prog 42 #[str m,str q] (.bool (hpB m q)):=by
  refine j_ Tryz.func42 rfl rfl Tryz.ntmps42 rfl fun d=>?_;refine Zz 9 ?_;refine i_ (uD_ m q) rfl l_ zt rfl fun _=>Zz 4 ?_
  exact af_ Tryz.results42 () rfl l_ zt
theorem bY_ (s:Str):Fn0 Tryz.prog 11 #[str s] (.bool (nls s)):=by
  refine j_ Tryz.func11 rfl rfl Tryz.ntmps11 rfl fun d=>?_;refine Zz 8 ?_;refine i_ (uC_ s [123]) rfl l_ zt rfl fun _=>e_ (aJ_ rfl) rfl (Zz 4 ?_)
  exact af_ Tryz.results11 () (o_ rfl (yw_ s)) l_ zt
theorem wR_ (x y:Fc):Fn0 Tryz.prog 82 #[Fc.val x,Fc.val y] (.int .i64 (hW_ x y)):=by
  refine j_ Tryz.func82 rfl rfl Tryz.ntmps82 rfl fun k=>?_;refine Zz 2 ?_;refine aa_ rfl rfl fun e=>aa_ rfl rfl fun h=>Zz 5 ?_
  refine G_ 9 [0,1,2,3,5,6,7,8,10,11,12,13,15,16,17,18,20,21,22,23,25,26,27,28] zk zs (Zz 25 ?_);refine n_ 4 rfl zk (i_ (hq_ x.kind y.kind) rfl l_ zt rfl fun _=>Zz 3 ?_);refine n_ 9 rfl zk (i_ (lr_ x.a y.a) rfl l_ zt rfl fun _=>Zz 3 ?_);refine n_ 14 rfl zk (i_ (lr_ x.b y.b) rfl l_ zt rfl fun _=>Zz 3 ?_);refine n_ 19 rfl zk (i_ (lr_ x.r y.r) rfl l_ zt rfl fun _=>Zz 3 ?_);refine n_ 24 rfl zk (i_ (hq_ x.lo y.lo) rfl l_ zt rfl fun _=>Zz 3 ?_);refine n_ 29 rfl zk (i_ (hq_ x.hi y.hi) rfl l_ zt rfl fun _=>Zz 3 ?_);refine n_ 30 rfl zk (R_ aF_ av_ kW_ rfl rfl rfl rfl rfl rfl fun d=>?_);refine bu_ (List.flatMap fY_ [(Lib.compareInt x.kind y.kind),(Lib.compareBytes x.a y.a),(Lib.compareBytes x.b y.b),(Lib.compareBytes x.r y.r),(Lib.compareInt x.lo y.lo),(Lib.compareInt x.hi y.hi)]) d_ rfl ?_;refine Zz 3 ?_;refine n_ 31 rfl zk (i_ (zh_ [(Lib.compareInt x.kind y.kind),(Lib.compareBytes x.a y.a),(Lib.compareBytes x.b y.b),(Lib.compareBytes x.r y.r),(Lib.compareInt x.lo y.lo),(Lib.compareInt x.hi y.hi)] (some ⟨d,0,none⟩) 6 zC_) rfl l_ zf rfl fun _=>Zz 3 ?_);refine G_ 0 [32] zk zs (Zz 5 ?_);exact af_ Tryz.results82 () (cl_ rfl (by rfl)) l_ zt
theorem wS_ (l:List Fc) (ad:Option Addr) (cap:Nat) (F:l.length≤cap) (hl:l.length≤1000000000000):Tri Tryz.prog 136 #[.slice ad (List.length l) cap] [] [V_ ad (List.flatMap Fc.cells l)] (fun y:{y:Value×Hp // zR 36 6 Fc.cells y.1 l y.2}=>y.1.1) (fun y=>y.1.2) (fun _=>[]):=by
 refine j_ Tryz.func136 rfl rfl Tryz.ntmps136 rfl fun E=>?_;refine Zz 9 ?_;refine C_ (mV_ Tryz.underlying26 rfl rfl) rfl fun A d=>Zz 2 ?_
 cases A
 ·replace d:=zdf d
  refine Zz 5 ?_;refine ey_ A_ E_ rfl fun B=>u_ d_ (Zz 1 ?_)
  refine aL_ (news:=List.flatMap Fc.cells l) eu_ (db_ B 36 6) rfl rfl (fun q=>absurd q d) F ah_ (by rw[br_ Fc.cells 6 Fc.cells_len]) zf (fun u C=>ak_ Fc.cells_one C) zG_ zr_ rfl fun e k d=>?_;refine u_ List.perm_append_comm ?_;have m:aB_ 36 6 e (List.length (([]:List Fc)++l)) (List.flatMap Fc.cells (([]:List Fc)++l)) k:=by rw[List.length_append,List.flatMap_append];exact d
  refine Zz 4 ?_;exact af_ Tryz.results136 ⟨(e,k),by simpa using m⟩ rfl ah_ zt
 replace d:=zdt d;refine Zz 7 ?_;refine vW_ (p:=List.flatMap Fc.cells l=[]) (fun v _ h=>by have q:=h.1;subst d;exact qI_ q) fun G=>?_;have x:l=[]:=List.eq_nil_of_length_eq_zero (by have:=congrArg List.length G;rw[br_ Fc.cells 6 Fc.cells_len,List.length_nil]at this;omega);exact af_ Tryz.results136 ⟨(.slice none 0 0,[]),by subst x;exact aB_.nil _ _⟩ rfl l_ zt
theorem wQ_ (d off size:Nat) (w:World):CmpLays Tryz.prog 82 #[] Fc.cells 6 hW_ d off size w:=fun m os A _ x y=>by
  have h:=(wR_ x y).run ⟨fun _=>False,sortWorldK Fc.cells 6 w d off m A os,False⟩ ⟨by simp,by simp,fun _ h=>h.elim⟩ trivial;refine h.mono ?_;rintro e w' ⟨_,C,rfl,rfl,_,_,B⟩;obtain⟨q,k,v⟩:=iw_ B (fun h=>h);exact⟨rfl,q,k,v⟩
theorem xE_ {sv:Value} {k:List Fc} {Hr:Hp} (h:aB_ 36 6 sv k.length (k.flatMap Fc.cells) Hr) (hl:k.length≤1000000000000) :
    Tri Tryz.prog 78 #[sv,.func (.func 82) #[] #[]] Hr [] (fun _:{y:Hp // aB_ 36 6 sv (fp_ k).length ((fp_ k).flatMap Fc.cells) y}=>.tuple #[]) (fun y=>y.1) (fun _=>[]):=by
  rcases h.2 with⟨rfl,K,rfl⟩|⟨g,cap,cur,rfl,rfl,L,F,E,I⟩
  · obtain rfl:k=[]:=List.eq_nil_of_length_eq_zero K
    have T:=dh_ (P:=Tryz.prog) (H:=[]) (Γ:=[]) (callable Tryz.func78 rfl rfl) (fun v _ _=>(AnyF.slices_SortFunc_none Tryz.sortFc none 0 (.func (.func 82) #[] #[]) v.w).mono zD_);exact⟨T.callable,fun v a b=>(T.run v a b).mono zau_⟩
  · have O:(k.flatMap Fc.cells).length=k.length*6:=br_ Fc.cells 6 Fc.cells_len k
    have T:=mf_ (P:=Tryz.prog) (Γ:=[]) (r:=.tuple #[]) (g:=g) (cur:=cur) (T:=36) (d:=((fp_ k).flatMap Fc.cells).toArray) (f:=78) (args:=#[.slice (some ⟨g,0,none⟩) k.length cap,.func (.func 82) #[] #[]]) (callable Tryz.func78 rfl rfl) (fun v M=>by
      have Q:=AnyQ.slices_SortFunc_total Tryz.sortFc 6 bH_ E_ Fc.cells Fc.cells_len (fun x u N=>List.all_eq_true.1 x.cells_one u N) hW_ xt_ 82 #[] g 0 cap k.toArray v.w (fun args w=>(callable Tryz.func82 rfl rfl) args w) (wQ_ g 0 _ v.w) zaU_ (Array.getElem?_eq_some_iff.1 (M.own _ List.mem_cons_self).1).1 zH_ totF;refine Q.mono ?_;rintro e w' ⟨rfl,n,os,rfl⟩;refine⟨rfl,n,os,?_⟩;unfold sortWorldK Sort.putRowK;rw[show ((k.toArray.toList.mergeSort fun x y=>!(ltOf hW_) y x))=fp_ k from rfl,hR_])
    refine⟨T.callable,fun v a b=>(T.run v a b).mono ?_⟩;rintro e w' ⟨x,G,q,A,C,m,B⟩;have J:((fp_ k).flatMap Fc.cells).length=k.length*6:=by rw[br_ Fc.cells 6 Fc.cells_len,dX_]
    refine⟨⟨_,by rw[J,dX_],.inr ⟨g,cap,_,by rw[dX_],rfl,by rw[dX_];exact L,F,by rw[oS_];exact E,?_⟩⟩,G,q,A,C,m,B⟩;have:=oR_ (cur:=cur) (d:=(fp_ k).flatMap Fc.cells) (by rw[J,E];omega);rw[J]at this;rw[dX_];exact this
theorem sJ_ (e:List Fc) (sv:Value) (Hr:Hp) (hr:zR 36 6 Fc.cells sv e Hr) (hl:e.length≤1000000000000):Tri Tryz.prog 137 #[sv] Hr [] (fun y:{y:Value×Hp // zR 36 6 Fc.cells y.1 (cpL (fun x w:Fc=>decide (x=w)) e) y.2}=>y.1.1) (fun y=>y.1.2) (fun _=>[]):=by
 refine j_ Tryz.func137 rfl rfl Tryz.ntmps137 rfl fun v_1=>?_;refine Zz 9 ?_;refine e_ (dV_ hr A_ rfl) rfl ?_;refine Zi 0 (fun K=>?_) fun K=>?_
 ·refine Zz 12 ?_
  refine P_ (ι:={y:Nat×Value×Hp // y.1+1≤List.length e∧cpL (fun x w:Fc=>decide (x=w)) (List.take (y.1+1) e)=List.take (y.1+1) e∧zR 36 6 Fc.cells y.2.1 e y.2.2}) (fun y=>[(0,y.1.2.1),(3,.int .i64 ((y.1.1+1:Nat):Int))]) (fun y=>(y.1.2.2)) (fun y=>[]) (fun y=>List.length e - y.1.1) ⟨((0:Nat),sv,Hr),zr_,(by obtain⟨t_1,tl,rfl⟩:=List.exists_cons_of_length_pos (show 0<List.length e by omega);rfl),hr⟩ zl ah_ zt ?_;rintro ⟨⟨k,m,O⟩,hk,N,d⟩;dsimp only at hk N d ⊢;refine Zz 5 ?_;refine e_ (dV_ d A_ rfl) rfl ?_;refine Zi 0 (fun Z=>?_) fun Z=>?_
  ·refine Zz 12 ?_
   have v:cpL (fun x w:Fc=>decide (x=w)) e=e:=(by first|exact po_ zr_|(have q:=N;rw[List.take_of_length_le zr_]at q;exact q));exact af_ Tryz.results137 ⟨(m,O),by rw[v];exact d⟩ rfl ah_ zt
  refine Zz 8 ?_;have L:(k+1:Nat)<List.length e:=by omega
  obtain⟨z_1,E⟩:∃ v,e[(k+1:Nat)]? = some v:=⟨_,List.getElem?_eq_getElem L⟩;have a8:z_1∈e:=List.mem_of_getElem? E;have T:k<List.length e:=by omega
  obtain⟨w_1,F⟩:∃ v,e[k]? = some v:=⟨_,List.getElem?_eq_getElem T⟩;have hmw_1:w_1∈e:=List.mem_of_getElem? F;refine Zz 1 ?_;refine G_ 0 [0,1,2,3,4,5,6,7,8,9] zk zs (Zz 2 ?_);refine z_ rfl (bR_ d A_ E_ rfl rfl zr_ zr_) rfl (z_ rfl (fu_ d ah_ bH_ E_ rfl (Fc.cells_len _) zx_ (p_ Fc.cells_len E)) rfl (Zz 2 ?_));refine z_ rfl (aD_ (bj_ rfl rfl rfl (ce_ zr_ zr_)) (show _=Value.int .i64 (k:Int) from congrArg _ zr_)) rfl (z_ rfl (bR_ d A_ E_ rfl rfl zr_ zr_) rfl (z_ rfl (fu_ d ah_ bH_ E_ rfl (Fc.cells_len _) zx_ (p_ Fc.cells_len F)) rfl (fd_ rfl (ew_ rfl rfl) rfl fun a6 B=>Zz 3 ?_)));cases a6
  ·replace B:=zdf B
   refine Zz 5 ?_;refine e_ (aD_ (bj_ rfl rfl rfl (ce_ zr_ zr_)) (show _=Value.int .i64 ((k+1+1:Nat):Int) from congrArg _ zr_)) rfl (Zz 3 ?_);exact y_ ⟨(k+1,m,O),(by have:=L;omega),(wL_ N F E (by simpa using B)),d⟩ zu_ zl ah_ zt
  replace B:=zdt B;refine Zz 5 ?_;refine e_ (qp_ (k:=(k+1:Nat)) d A_ E_ rfl rfl zr_) rfl (Zz 10 ?_);refine P_ (ι:={y:List Fc×Nat×Nat×Value×Hp // CmI (fun x w:Fc=>decide (x=w)) e y.1 y.2.1 (k+1+y.2.2.1+1)∧zR 36 6 Fc.cells y.2.2.2.1 y.1 y.2.2.2.2}) (fun y=>[(0,y.1.2.2.2.1),(3,.int .i64 (y.1.2.1:Int)),(4,svT y.1.2.2.2.1 (List.length e) (k+1) 6),(5,.int .i64 ((y.1.2.2.1+1:Nat):Int))]) (fun y=>(y.1.2.2.2.2)) (fun y=>[]) (fun y=>List.length e - y.1.2.2.1) ⟨(e,(k+1),(0:Nat),m,O),(CmI.none N F E (by simpa using B)),d⟩ zl ah_ zt ?_;rintro ⟨⟨M,C,h,m,O⟩,I,d⟩;dsimp only at I d ⊢;have hMl:=I.len;have hpl:=I.pl;have hkp:=I.kp;refine Zz 5 ?_;refine e_ (tM_ A_ rfl) rfl ?_;refine Zi 0 (fun a2=>?_) fun a2=>?_
  ·refine Zz 9 ?_
   refine e_ (qp_ (k:=C) d A_ E_ rfl rfl zr_) rfl (so_ (k:=C) d ah_ A_ ae_ rfl rfl zx_ rfl zr_ fun a0 zs_1 hz_2 V=>u_ eg_ (Zz 6 ?_));obtain⟨Y,G,A⟩:=cutRow (P:=Tryz.prog) (k:=C) V zr_ zr_;refine e_ (A A_ E_ rfl rfl) rfl (Zz 4 ?_);have a1:CmI (fun x w:Fc=>decide (x=w)) e M C (List.length e):=by have q:=I;rw[show k+1+h+1=List.length e by omega]at q;exact q
   have a5:=a1.done;have R:(List.take C M).length=C:=by rw[List.length_take];omega
   exact af_ Tryz.results137 ⟨(Y,a0),by show aB_ 36 6 _ _ _ _;rw[← a5,R,← pW_ Fc.cells 6 Fc.cells_len];have q:=G;rw[List.take_append_of_le_length (by rw[List.length_take,br_ Fc.cells 6 Fc.cells_len];omega),List.take_take,Nat.min_self]at q;exact q⟩ rfl ah_ zt
  refine Zz 8 ?_;obtain⟨a4,x_1,J,hmx_1⟩:=zge (show (k+1+h:Nat)<List.length M by omega);have U:(k+1+(h+1):Nat)<List.length M:=by omega
  obtain⟨H,A⟩:∃ v,M[(k+1+(h+1):Nat)]? = some v:=⟨_,List.getElem?_eq_getElem U⟩;have a7:H∈M:=List.mem_of_getElem? A;refine Zz 1 ?_;refine G_ 0 [0,1,2,3,4,5,6,7,8,9] zk zs (Zz 2 ?_);refine z_ rfl (pv_ (j:=(h+1:Nat)) A_ E_ rfl rfl zr_) rfl (z_ rfl (fu_ d ah_ bH_ E_ rfl (Fc.cells_len _) zx_ (p_ Fc.cells_len A)) rfl (Zz 2 ?_));refine z_ rfl (aD_ (bj_ rfl rfl rfl (ce_ zr_ zr_)) (show _=Value.int .i64 (h:Int) from congrArg _ zr_)) rfl (z_ rfl (pv_ (j:=h) A_ E_ rfl rfl zr_) rfl (z_ rfl (fu_ d ah_ bH_ E_ rfl (Fc.cells_len _) zx_ (p_ Fc.cells_len J)) rfl (fd_ rfl (gk_ rfl rfl) rfl fun r_2 G=>Zz 3 ?_)));cases r_2
  ·refine Zz 5 ?_
   refine e_ (aD_ (bj_ rfl rfl rfl (ce_ zr_ zr_)) (show _=Value.int .i64 ((h+1+1:Nat):Int) from congrArg _ zr_)) rfl (Zz 3 ?_);exact y_ ⟨(M,C,h+1,m,O),(I.skip J A (by simpa using G)),d⟩ (by have:=I.pl;have:=I.kp;dsimp only;omega) zl ah_ zt
  refine Zz 2 ?_;have S:C<List.length M:=by omega
  obtain⟨o_1,W⟩:∃ v,M[C]? = some v:=⟨_,List.getElem?_eq_getElem S⟩;have hmo_1:o_1∈M:=List.mem_of_getElem? W;refine Zz 5 ?_;refine e_ (pv_ (j:=(h+1:Nat)) A_ E_ rfl rfl zr_) rfl (e_ (fu_ d ah_ bH_ E_ rfl (Fc.cells_len _) zx_ (p_ Fc.cells_len A)) rfl (e_ (bR_ d A_ E_ rfl rfl zr_ zr_) rfl (sn_ (k:=C*6) (us:=Fc.cells H) d ah_ E_ rfl rfl zr_ (Fc.cells_len _) zx_ (Fc.cells_one _) fun Q K=>?_)));have a3:=tw_ Fc.cells 6 Fc.cells_len M C H zr_;have X:aB_ 36 6 m (List.length (List.set M C H)) (List.flatMap Fc.cells (List.set M C H)) Q:=by rw[List.length_set,← a3];exact K
  refine u_ eg_ (Zz 4 ?_);refine e_ (aD_ (bj_ rfl rfl rfl (ce_ zr_ zr_)) (show _=Value.int .i64 ((C+1:Nat):Int) from congrArg _ zr_)) rfl (Zz 5 ?_);refine e_ (aD_ (bj_ rfl rfl rfl (ce_ zr_ zr_)) (show _=Value.int .i64 ((h+1+1:Nat):Int) from congrArg _ zr_)) rfl (Zz 3 ?_);exact y_ ⟨((List.set M C H),C+1,h+1,m,Q),(I.keep J A (by simpa using G)),X⟩ (by have:=I.pl;have:=I.kp;dsimp only;omega) zl ah_ zt
 refine Zz 10 ?_;have v:cpL (fun x w:Fc=>decide (x=w)) e=e:=(by first|exact po_ zr_|(have q:=N;rw[List.take_of_length_le zr_]at q;exact q));exact af_ Tryz.results137 ⟨(sv,Hr),by rw[v];exact hr⟩ rfl ah_ zt
end Go.Proofs.YtpbnmnfdgckaiaaGreatDoor
namespace Go.Proofs
open Go.Shelf
def Tryz.sortSt_ren:Go.Shelf.Ren:=⟨fun|6=>140|15=>133|14=>177|28=>172|29=>173|20=>201|21=>202|22=>203|23=>204|24=>205|25=>206|26=>207|27=>208|46=>221|47=>197|48=>198|49=>222|50=>223|57=>248|n=>n,fun|22=>25|24=>9|25=>141|3=>3|39=>44|0=>0|53=>219|55=>221|4=>4|46=>213|45=>212|50=>157|5=>5|9=>9|66=>237|70=>150|76=>261|77=>262|n=>n,fun|n=>n⟩
theorem Tryz.sortSt:Go.Proofs.SlLaysF.n6 Tryz.prog Tryz.sortSt_ren:={
  mixed:=by kernel_rfl
  f6:=⟨Tryz.f140.name,by decide,Tryz.func140.trans (congrArg some zw_)⟩
  f14:=⟨Tryz.f177.name,by decide,Tryz.func177.trans (congrArg some zw_)⟩
  f15:=Tryz.func133.trans (congrArg some zw_)
  f20:=⟨Tryz.f201.name,by decide,Tryz.func201.trans (congrArg some zw_)⟩
  f21:=⟨Tryz.f202.name,by decide,Tryz.func202.trans (congrArg some zw_)⟩
  f22:=⟨Tryz.f203.name,by decide,Tryz.func203.trans (congrArg some zw_)⟩
  f23:=⟨Tryz.f204.name,by decide,Tryz.func204.trans (congrArg some zw_)⟩
  f24:=⟨Tryz.f205.name,by decide,Tryz.func205.trans (congrArg some zw_)⟩
  f25:=⟨Tryz.f206.name,by decide,Tryz.func206.trans (congrArg some zw_)⟩
  f26:=⟨Tryz.f207.name,by decide,Tryz.func207.trans (congrArg some zw_)⟩
  f27:=⟨Tryz.f208.name,by decide,Tryz.func208.trans (congrArg some zw_)⟩
  f28:=Tryz.func172.trans (congrArg some zw_)
  f29:=Tryz.func173.trans (congrArg some zw_)
  f46:=⟨Tryz.f221.name,by decide,Tryz.func221.trans (congrArg some zw_)⟩
  f47:=Tryz.func197.trans (congrArg some zw_)
  f48:=Tryz.func198.trans (congrArg some zw_)
  f49:=⟨Tryz.f222.name,by decide,Tryz.func222.trans (congrArg some zw_)⟩
  f50:=⟨Tryz.f223.name,by decide,Tryz.func223.trans (congrArg some zw_)⟩
  f57:=⟨Tryz.f248.name,by decide,Tryz.func248.trans (congrArg some zw_)⟩
  t0:=Tryz.underlying0
  a0:=Tryz.isAgg0
  z0:=Tryz.sizeOf0
  v0:=Tryz.zeroValue0
  t3:=Tryz.underlying3
  a3:=Tryz.isAgg3
  z3:=Tryz.sizeOf3
  v3:=Tryz.zeroValue3
  t4:=Tryz.underlying4
  a4:=Tryz.isAgg4
  z4:=Tryz.sizeOf4
  v4:=Tryz.zeroValue4
  t5:=Tryz.underlying5
  a5:=Tryz.isAgg5
  z5:=Tryz.sizeOf5
  v5:=Tryz.zeroValue5
  t9:=Tryz.underlying9
  a9:=Tryz.isAgg9
  z9:=Tryz.sizeOf9
  v9:=Tryz.zeroValue9
  t22:=Tryz.underlying25
  a22:=Tryz.isAgg25
  z22:=Tryz.sizeOf25
  v22:=Tryz.zeroValue25
  a24:=Tryz.isAgg9
  z24:=Tryz.sizeOf9
  t25:=Tryz.underlying141
  a25:=Tryz.isAgg141
  z25:=Tryz.sizeOf141
  v25:=Tryz.zeroValue141
  t39:=Tryz.underlying44
  a39:=Tryz.isAgg44
  z39:=Tryz.sizeOf44
  v39:=Tryz.zeroValue44
  t45:=Tryz.underlying212
  a45:=Tryz.isAgg212
  z45:=Tryz.sizeOf212
  v45:=Tryz.zeroValue212
  t46:=Tryz.underlying213
  a46:=Tryz.isAgg213
  z46:=Tryz.sizeOf213
  v46:=Tryz.zeroValue213
  t50:=Tryz.underlying157
  a50:=Tryz.isAgg157
  z50:=Tryz.sizeOf157
  v50:=Tryz.zeroValue157
  t53:=Tryz.underlying219
  a53:=Tryz.isAgg219
  z53:=Tryz.sizeOf219
  v53:=Tryz.zeroValue219
  t55:=Tryz.underlying221
  a55:=Tryz.isAgg221
  z55:=Tryz.sizeOf221
  v55:=Tryz.zeroValue221
  t66:=Tryz.underlying237
  a66:=Tryz.isAgg237
  z66:=Tryz.sizeOf237
  v66:=Tryz.zeroValue237
  t70:=Tryz.underlying150
  a70:=Tryz.isAgg150
  z70:=Tryz.sizeOf150
  v70:=Tryz.zeroValue150
  t76:=Tryz.underlying261
  a76:=Tryz.isAgg261
  z76:=Tryz.sizeOf261
  v76:=Tryz.zeroValue261
  t77:=Tryz.underlying262
  a77:=Tryz.isAgg262
  z77:=Tryz.sizeOf262
  v77:=Tryz.zeroValue262 }
end Go.Proofs
namespace Go.Proofs.YtpbnmnfdgckaiaaGreatDoor
open Go Go.Sx Go.Proofs
attribute [local irreducible] Code.wp wpList wpAnyH
open Go.Vs Go.Shelf Go.RowKit
theorem wP_ (d off size:Nat) (w:World):CmpLays1 Tryz.prog 86 #[] encStr Lib.compareBytes d off size w:=fun m os A _ x y=>by
  have h:=(kP_ x y).run ⟨fun _=>False,sortWorld encStr w d off m A os,False⟩ ⟨by simp,by simp,fun _ h=>h.elim⟩ trivial;refine h.mono ?_;rintro e w' ⟨_,C,rfl,rfl,_,_,B⟩;obtain⟨q,k,v⟩:=iw_ B (fun h=>h);exact⟨rfl,q,k,v⟩
theorem ltS (x y:Str):ltOf Lib.compareBytes x y=decide (x<y):=by unfold ltOf;rw[decide_eq_decide];exact sO_ x y
theorem swoS:Sort.SWO (ltOf Lib.compareBytes) where
  irrefl x:=by rw[ltS];exact decide_eq_false (List.lt_irrefl x)
  trans x y z h1 h2:=by rw[ltS,decide_eq_true_eq]at *;exact List.lt_trans h1 h2
  ntrans x y z h1 h2:=by
    rw[ltS,decide_eq_false_iff_not]at *;exact List.not_lt.2 (List.le_trans (List.not_lt.1 h2) (List.not_lt.1 h1))
theorem totS (x y:Str) (e:ltOf Lib.compareBytes x y=false) (d:ltOf Lib.compareBytes y x=false):x=y:=by
  rw[ltS,decide_eq_false_iff_not]at e d;exact List.le_antisymm (List.not_lt.1 d) (List.not_lt.1 e)
theorem vr_ (d:List Str):(d.mergeSort fun x y=>!(ltOf Lib.compareBytes) y x)=bg_ d:=by
  have e:(fun x y:Str=>!(ltOf Lib.compareBytes) y x)=fun x y=>decide (x≤y):=by
    funext x y
    rw[ltS,Bool.eq_iff_iff];simp[List.not_lt]
  rw[e]
theorem vy_ {sv:Value} {k:List Str} {Hr:Hp} (h:aB_ 9 1 sv k.length (k.flatMap ap_) Hr) (hl:k.length≤1000000000000) :
    Tri Tryz.prog 140 #[sv,.func (.func 86) #[] #[]] Hr [] (fun _:{y:Hp // aB_ 9 1 sv (bg_ k).length ((bg_ k).flatMap ap_) y}=>.tuple #[]) (fun y=>y.1) (fun _=>[]):=by
  rcases h.2 with⟨rfl,K,rfl⟩|⟨g,cap,cur,rfl,rfl,L,G,F,J⟩
  · obtain rfl:k=[]:=List.eq_nil_of_length_eq_zero K
    have T:=dh_ (P:=Tryz.prog) (H:=[]) (Γ:=[]) (callable Tryz.func140 rfl rfl) (fun v _ _=>(AnyF.slices_SortFunc_none { Tryz.sortSt with } none 0 (.func (.func 86) #[] #[]) v.w).mono zD_);exact⟨T.callable,fun v a b=>(T.run v a b).mono (by rintro e w' ⟨x,I,q,B,E,m,C⟩;exact⟨⟨[],by simpa using aB_.nil _ _⟩,I,q,B,E,m,C⟩)⟩
  · have A:(bg_ k).length=k.length:=List.length_mergeSort _
    have T:=jI_ (P:=Tryz.prog) (Γ:=[]) (r:=.tuple #[]) (g:=g) (cur:=cur) (f:=140) (args:=#[.slice (some ⟨g,0,none⟩) k.length cap,.func (.func 86) #[] #[]]) (d:=(bg_ k).toArray) (callable Tryz.func140 rfl rfl) (fun v M=>by
      have N:=Any.slices_SortFunc_total Tryz.sortSt encStr (fun x=>rfl) Lib.compareBytes swoS 86 #[] g 0 cap k.toArray v.w (fun args w=>(callable Tryz.func86 rfl rfl) args w) (wP_ g 0 _ v.w) (ln_ (n:=0) (cap:=0) M J) (Array.getElem?_eq_some_iff.1 (M.own _ List.mem_cons_self).1).1 zH_ totS;refine N.mono ?_;rintro e w' ⟨rfl,n,os,rfl⟩;exact⟨rfl,n,os,by rw[show k.toArray.toList=k from rfl,vr_];rfl⟩)
    refine⟨T.callable,fun v a b=>(T.run v a b).mono ?_⟩;rintro e w' ⟨x,I,q,B,E,m,C⟩;refine⟨⟨_,by rw[br_ ap_ 1 aw_],.inr ⟨g,cap,_,by rw[A],rfl,by rw[A];exact L,G,by rw[nx_];exact F,?_⟩⟩,I,q,B,E,m,C⟩;have:=nw_ (cur:=cur) (d:=bg_ k) (by rw[A,F];omega);rw[Nat.mul_one];exact this
def hE_ (xs:List Fc):List Fc:=cpL (fun x w=>decide (x=w)) (fp_ xs)
theorem hg_ (l:List Fc) (ad:Option Addr) (cap:Nat) (G:l.length≤cap) (hl:l.length≤1000000000000):Tri Tryz.prog 81 #[.slice ad (List.length l) cap,.func (.func 82) #[] #[]] [] [V_ ad (List.flatMap Fc.cells l)] (fun y:{y:Option Addr×Nat // ((hE_ l)).length≤y.2∧y.2≤maxLen∧(y.1=none→y.2=0)}=>.slice y.1.1 ((hE_ l)).length y.1.2) (fun _=>[]) (fun y=>[V_ y.1.1 (((hE_ l)).flatMap Fc.cells)]):=by
  refine j_ Tryz.func81 rfl rfl Tryz.ntmps81 rfl fun F=>?_;refine Zz 8 ?_;refine i_ (wS_ l ad cap G zr_) rfl l_ zf rfl fun⟨⟨C,I⟩,v⟩=>?_;dsimp only;dsimp only at v;simp only[List.append_nil];refine Zz 7 ?_;refine i_ (xE_ v zr_) rfl ah_ zt rfl fun⟨A,B⟩=>?_;dsimp only;simp only[List.append_nil];refine Zz 5 ?_;refine i_ (sJ_ (fp_ l) C A B (by rw[dX_];omega)) rfl ah_ zt rfl fun⟨⟨E,H⟩,m⟩=>?_;dsimp only;dsimp only at m;simp only[List.append_nil];refine Zz 4 ?_;refine aN_ m ah_ fun x q k h e d=>?_;exact af_ Tryz.results81 ⟨(x,q),h,e,d⟩ (gh_ rfl k) l_ zf
theorem rZ_ (l:List Str) (ad:Option Addr) (cap:Nat) (F:l.length≤cap) (hl:l.length≤1000000):Tri Tryz.prog 85 #[.slice ad (List.length l) cap,.func (.func 86) #[] #[]] [] [V_ ad (List.flatMap ap_ l)] (fun y:{y:Option Addr×Nat // ((Lib.compact (bg_ l))).length≤y.2∧y.2≤maxLen∧(y.1=none→y.2=0)}=>.slice y.1.1 ((Lib.compact (bg_ l))).length y.1.2) (fun _=>[]) (fun y=>[V_ y.1.1 (((Lib.compact (bg_ l))).flatMap ap_)]):=by
  refine j_ Tryz.func85 rfl rfl Tryz.ntmps85 rfl fun E=>?_;refine Zz 8 ?_;refine i_ (om_ l ad cap F zr_) rfl l_ zf rfl fun⟨⟨I,H⟩,v⟩=>?_;dsimp only;dsimp only at v;simp only[List.append_nil];refine Zz 7 ?_;refine i_ (vy_ v zr_) rfl ah_ zt rfl fun⟨B,A⟩=>?_;dsimp only;simp only[List.append_nil];refine Zz 5 ?_;refine i_ (jV_ A (by rw[List.length_mergeSort];omega)) rfl ah_ zt rfl fun⟨⟨C,G⟩,m⟩=>?_;dsimp only;dsimp only at m;simp only[List.append_nil];refine Zz 4 ?_;refine aN_ m ah_ fun x q k h e d=>?_;exact af_ Tryz.results85 ⟨(x,q),h,e,d⟩ (gh_ rfl k) l_ zf
end Go.Proofs.YtpbnmnfdgckaiaaGreatDoor
namespace Go.Vs
open Go Go.Sx
def frL (p:List Pc):List (Thg×Pc):=p.map fun y=>(⟨y.kind,y.a⟩,y)
theorem wB_ {p:List Pc} {i:Nat} {x:Pc} (h:p[i]? = some x):frL (p.take (i+1))=frL (p.take i)++[(⟨x.kind,x.a⟩,x)]:=by
  unfold frL;rw[tk1 h,List.map_append];rfl
theorem pV_ (p:List Pc):(frL p).length=p.length:=List.length_map _
def sG_ (p:List Pc) (f:Fc):List (Str×Fc):=if f.kind=1 then (lat (frL p) ⟨3,f.b⟩).map fun y=>(f.a,am_ f.a y.r y.c) else []
def ds_ (p:List Pc) (F:List Fc):List (Str×Fc):=F.flatMap (sG_ p)
theorem pn_ {p:List Pc} {F:List Fc} {i:Nat} {f:Fc} (h:F[i]? = some f):ds_ p (F.take (i+1))=ds_ p (F.take i)++sG_ p f:=by
  unfold ds_;rw[tk1 h,List.flatMap_append];simp
theorem wI_ (p:List Pc) (f:Fc):(sG_ p f).length≤p.length:=by
 unfold sG_
 split
 ·rw[List.length_map];have:=dO_ (frL p) ⟨3,f.b⟩;rw[pV_]at this;exact this
 simp
theorem ho_ {p:List Pc} (F:List Fc):(ds_ p F).length≤F.length*p.length:=by
  induction F with
  | nil=>simp[ds_]
  | cons f F ih =>
    unfold ds_ at ih ⊢;rw[List.flatMap_cons,List.length_append,List.length_cons,Nat.add_mul];have:=wI_ p f;omega
theorem kN_ {p:List Pc} {F:List Fc} {s:Str} {z:Fc}:(s,z)∈ds_ p F↔∃ f∈F,∃ y∈p,f.kind=1∧y.kind=3∧y.a=f.b∧s=f.a∧z=am_ f.a y.r y.c:=by
 unfold ds_ sG_;rw[List.mem_flatMap];constructor
 ·rintro ⟨f,q,h⟩
  split at h
  ·rename_i hk
   obtain⟨y,d,e⟩:=List.mem_map.1 h;rw[bP_]at d;obtain⟨A,m,x⟩:=List.mem_map.1 d;simp only[Prod.mk.injEq,Thg.mk.injEq]at e x;obtain⟨⟨v,k⟩,rfl⟩:=x;exact⟨f,q,A,m,hk,v,k,e.1.symm,e.2.symm⟩
  simp at h
 rintro ⟨f,q,y,d,hk,v,k,rfl,rfl⟩;refine⟨f,q,?_⟩;rw[if_pos hk];exact List.mem_map.2 ⟨y,bP_.2 (List.mem_map.2 ⟨y,d,by rw[v,k]⟩),rfl⟩
def nxD (D:List (Str×Fc)) (s:Str):List Str:=(lat D s).map Fc.b
theorem vY_ {D:List (Str×Fc)} {s:Str} {j:Nat} {z:Fc} (h:(lat D s)[j]? = some z):(nxD D s)[j]? = some z.b:=by unfold nxD;rw[List.getElem?_map,h];rfl
structure NmI (I K N:List Str):Prop where
  mem:∀ s,s∈K↔s∈I∨s∈N
  nd:N.Nodup
  dj:∀ s∈N,s ∉ I
theorem NmI.init {I K:List Str} (h:∀ n,n∈K↔n∈I):NmI I K []:=⟨fun s=>by rw[h];simp,List.nodup_nil,by simp⟩
theorem NmI.take {I K k N:List Str} {t:Str} (h:NmI I K N) (m:t ∉ K) (x:∀ n,n∈k↔n∈K∨n=t):NmI I k (N++[t]) :=
 ⟨fun s=>by rw[x,h.mem,List.mem_append,List.mem_singleton,or_assoc],by
   rw[List.nodup_append];exact⟨h.nd,by simp,fun a y b v=>by rw[List.mem_singleton]at v;subst v;intro e;subst e;exact m ((h.mem a).2 (.inr y))⟩,
  fun s d q=>by
   rw[List.mem_append,List.mem_singleton]at d;rcases d with d|rfl
   · exact h.dj s d q
   · exact m ((h.mem s).2 (.inl q))⟩
theorem NmI.len {I K N:List Str} (h:NmI I K N):N.length≤K.length:=cd_ h.nd fun s d=>(h.mem s).2 (.inr d)
def oD_ (D:List (Str×Fc)) (I X:List Str):Prop:=∃ N:List Str,N.Nodup∧X=I++bg_ N∧(∀ s∈N,s ∉ I)∧∀ s,(s∈I∨s∈N)↔RchS (nxD D) I s
theorem oD_.mem {D:List (Str×Fc)} {I X:List Str} (h:oD_ D I X) (s:Str):s∈X↔RchS (nxD D) I s:=by
  obtain⟨N,_,rfl,_,h⟩:=h;rw[← h,List.mem_append,List.mem_mergeSort]
theorem oD_.uniq {D:List (Str×Fc)} {I X Y:List Str} (h:oD_ D I X) (g:oD_ D I Y):X=Y:=by
  obtain⟨N,v,rfl,m,d⟩:=h;obtain⟨M,k,rfl,x,e⟩:=g
  rw[show bg_ N=bg_ M from kr_ (fP_ v) (fP_ k) fun s=>by
    rw[List.mem_mergeSort,List.mem_mergeSort];exact⟨fun q=>((e s).2 ((d s).1 (.inr q))).resolve_left (m s q),fun q=>((d s).2 ((e s).1 (.inr q))).resolve_left (x s q)⟩]
end Go.Vs
namespace Go.Proofs.YtpbnmnfdgckaiaaGreatDoor
open Go Go.Sx Go.Proofs
attribute [local irreducible] Code.wp wpList wpAnyH
open Go.Vs
theorem tf_:ij_ Tryz.prog 190 [(0,1),(1,1)] [.int .i64 0,str []]:=⟨_,Tryz.zeroValue190,Tryz.runUnderlying190,fun w=>by simp[av_,H_]⟩
theorem eqTh (p q:Thg) (w:World):(Op.equalIn 10000 190 (Thg.val p) (Thg.val q)).run Tryz.prog w=.ok (decide (p=q)) w:=by
  have h:=run_equalIn_struct (P:=Tryz.prog) w 9999 190 (Thg.cells p).toArray (Thg.cells q).toArray (by simp only[Program.fieldsOf,Tryz.underlying190]) Tryz.stoodInHeld190;refine h.trans ?_;rw[← Thg.eqb_eq];simp only[Program.fieldsOf,Tryz.underlying190];exact ca_ rfl bd_ rfl rfl (eqI s_ w) (ca_ rfl ab_ rfl rfl (eqS aT_ w) (kJ_ w))
theorem okTh (p:Thg):ht_ Tryz.prog 190 (Thg.val p):=fun e w=>by
 have hi:∀ (n:Int) (w:World),(Instr.checkKey e (9998+1) 3 (.int .i64 n)).run Tryz.prog w=.ok () w:=fun n w=>MapKept.run_checkKey (d:=.int .i64) s_ zaG_ e 9998
 have k:∀ (n:Str) (w:World),(Instr.checkKey e (9998+1) 9 (str n)).run Tryz.prog w=.ok () w:=fun n w=>MapKept.run_checkKey (d:=.string) aT_ zav_ e 9998
 refine ckF (n:=9999) Tryz.underlying190 fun f h=>?_;simp only[List.mem_cons,List.not_mem_nil,or_false]at h;rcases h with rfl|rfl
 ·exact⟨rfl,bd_,_,rfl,hi _⟩
 exact⟨rfl,ab_,_,rfl,k _⟩
theorem wk_:KeyT Tryz.prog 190 Thg.val:=fS_ (K:=Thg) Tryz.underlying190 okTh (fun p q w=>eqTh p q w) fun k=>iF_ (l:=Thg.cells k) fun v d=>by
 simp only[Thg.cells,List.mem_cons,List.not_mem_nil,or_false]at d;rcases d with rfl|rfl
 ·exact eC_ _ _
 exact dz_ _ _
theorem mc_ {G:Prop} (h:G:=by
 refine Zz 3 ?_;refine n_ 16 rfl zk (hJ_ (k:=d.a) (dd:=(Fc.mk 2 d.a e.c e.r 0 0)) bG_ q (by rw[es_];exact A) (.inr rfl) jz_ rfl rfl rfl (ep_ (f_ (g_ (c_ d_)) (F_ t_ (c_ (c_ B_))))) fun O B=>?_);refine Zz 5 ?_;refine u_ (Y_ (g_ d_) (Y_ (g_ d_) (bq_ bf_))) (Zz 5 ?_);exact y_ ⟨(j+1,O),I,(by rw[tk1 x,List.map_append,← List.append_assoc];exact B)⟩ zu_ zl zp zh):G:=h
theorem sF_ (p:List Pc) (E:Option Addr) (N:Nat) (F:List Fc) (fad:Option Addr) (fcap:Nat) (hp:p.length≤12000) (hF:F.length≤65536):Tri Tryz.prog 83 #[.slice E (List.length p) N,.slice fad (List.length F) fcap] [] [V_ E (List.flatMap Pc.cells p),V_ fad (List.flatMap Fc.cells F)] (fun y:{y:Nat×Hp // dl_ str Fc.cells 36 6 (ds_ p F) y.1 y.2}=>.map (some y.1.1)) (fun y=>y.1.2) (fun _=>[]):=by
 refine j_ Tryz.func83 rfl rfl Tryz.ntmps83 rfl fun v_1=>?_;refine Zz 7 ?_;refine bn_ rfl fun H=>Zz 12 ?_
 refine P_ (ι:={y:Nat×Hp // y.1≤List.length p∧dl_ Thg.val Pc.cells 174 10 (frL (List.take y.1 p)) H y.2}) (fun y=>[(1,.slice fad (List.length F) fcap),(4,.map none),(5,.map (some H)),(14,.slice E (List.length p) N),(15,.int .i64 (List.length p:Int)),(16,.int .i64 (y.1.1:Int))]) (fun y=>(y.1.2)) (fun y=>[V_ E (List.flatMap Pc.cells p),V_ fad (List.flatMap Fc.cells F)]) (fun y=>List.length p - y.1.1) ⟨((0:Nat),[(H,.map #[] 0)]),by simp,dl_.nil _ _⟩ zl ah_ zh ?_;rintro ⟨⟨i,HA⟩,hi_i,hA⟩;dsimp only at hi_i hA ⊢;refine Zi 2 (fun P=>?_) fun P=>?_
 ·refine Zz 7 ?_
  rw[List.take_of_length_le zr_]at hA;refine nI_ wk_ hA ah_ fun adr=>?_;refine ad_ (bn_ rfl fun J=>Zz 12 ?_);refine P_ (ι:={y:Nat×Hp // y.1≤List.length F∧dl_ str Fc.cells 36 6 (ds_ p (List.take y.1 F)) J y.2}) (fun y=>[(1,.slice fad (List.length F) fcap),(4,.map (some J)),(5,.map (some H)),(14,.slice E (List.length p) N),(15,.int .i64 (List.length p:Int)),(16,.int .i64 (i:Int)),(35,.slice fad (List.length F) fcap),(36,.int .i64 (List.length F:Int)),(37,.int .i64 (y.1.1:Int))]) (fun y=>(y.1.2)) (fun y=>[mlF Tryz.prog 190 Thg.val Pc.cells H (frL p) adr,V_ E (List.flatMap Pc.cells p),V_ fad (List.flatMap Fc.cells F)]) (fun y=>List.length F - y.1.1) ⟨((0:Nat),[(J,.map #[] 0)]),by simp,dl_.nil _ _⟩ zl ah_ zh ?_;rintro ⟨⟨m,HB⟩,W,hB⟩;dsimp only at W hB ⊢;refine Zi 2 (fun C=>?_) fun C=>?_
  ·refine Zz 13 ?_
   rw[List.take_of_length_le zr_]at hB;exact af_ Tryz.results83 ⟨(J,HB),hB⟩ rfl ah_ zt
  have K:m<List.length F:=by omega
  obtain⟨d,R⟩:∃ Z,F[m]? = some Z:=⟨_,List.getElem?_eq_getElem K⟩;have hmf_1:d∈F:=List.mem_of_getElem? R;refine Zz 12 ?_;refine D_ ae_ rfl fun T=>x_ 0 E_ rfl rfl rfl rfl rfl rfl (Zi 7 (fun S=>?_) fun S=>?_)
  ·have Q:Fc.kind d=1:=by simpa using S
   refine Zz 10 ?_;refine e_ (K_ tf_ rfl rfl) rfl (e_ (bQ_ (k:=(Thg.mk 3 d.b)) (adr:=adr) wk_ Tryz.runUnderlying188 cg_ rfl rfl zf) rfl (Zz 5 ?_));have hql:List.length (lat (frL p) (Thg.mk 3 d.b))≤List.length p:=by have:=dO_ (frL p) (Thg.mk 3 d.b);rw[pV_]at this;exact this
   refine P_ (ι:={y:Nat×Hp // y.1≤List.length (lat (frL p) (Thg.mk 3 d.b))∧dl_ str Fc.cells 36 6 ((ds_ p (List.take m F))++List.map (fun y=>(Fc.a d,am_ d.a y.r y.c)) (List.take y.1 (lat (frL p) (Thg.mk 3 d.b)))) J y.2}) (fun y=>[(1,.slice fad (List.length F) fcap),(4,.map (some J)),(5,.map (some H)),(14,.slice E (List.length p) N),(15,.int .i64 (List.length p:Int)),(16,.int .i64 (i:Int)),(35,.slice fad (List.length F) fcap),(36,.int .i64 (List.length F:Int)),(37,.int .i64 (m:Int)),(10,zp_ T 0),(48,.slice (Prod.fst (adr (Thg.mk 3 d.b))) (List.length (lat (frL p) (Thg.mk 3 d.b))) (Prod.snd (adr (Thg.mk 3 d.b)))),(49,.int .i64 (List.length (lat (frL p) (Thg.mk 3 d.b)):Int)),(50,.int .i64 (y.1.1:Int))]) (fun y=>((T,.cells #[.int .i64 d.kind,str d.a,str d.b,str d.r,.int .i64 d.lo,.int .i64 d.hi] 36 (0,0))::y.1.2)) (fun y=>[mlF Tryz.prog 190 Thg.val Pc.cells H (frL p) adr,V_ E (List.flatMap Pc.cells p),V_ fad (List.flatMap Fc.cells F)]) (fun y=>List.length (lat (frL p) (Thg.mk 3 d.b)) - y.1.1) ⟨((0:Nat),HB),by simp,(by rw[List.take_zero,List.map_nil,List.append_nil];exact hB)⟩ zl zp zh ?_;rintro ⟨⟨j,HB⟩,hi_j,M⟩;dsimp only at hi_j M ⊢;have hdl:List.length ((ds_ p (List.take m F))++List.map (fun y=>(Fc.a d,am_ d.a y.r y.c)) (List.take j (lat (frL p) (Thg.mk 3 d.b))))≤1000000000:=by have h_1:=ho_ (p:=p) (List.take m F);have h_2:=List.length_take_le m F;have h_3:=List.length_take_le j (lat (frL p) (Thg.mk 3 d.b));have h_4:=Nat.mul_le_mul (Nat.le_trans (Nat.le_trans h_2 W) hF) hp;rw[List.length_append,List.length_map];omega
   refine Zi 2 (fun hr_4=>?_) fun hr_4=>?_
   ·refine Zz 11 ?_
    exact y_ ⟨(m+1,HB),K,(by rw[pn_ R,sG_,if_pos Q];rw[List.take_of_length_le (l:=(lat (frL p) (Thg.mk 3 d.b))) zr_]at M;exact M)⟩ zu_ zl B_ zh
   have I:j<List.length (lat (frL p) (Thg.mk 3 d.b)):=by omega
   obtain⟨e,x⟩:∃ Z,(lat (frL p) (Thg.mk 3 d.b))[j]? = some Z:=⟨_,List.getElem?_eq_getElem I⟩;have hmy_1:e∈(lat (frL p) (Thg.mk 3 d.b)):=List.mem_of_getElem? x;refine Zz 10 ?_;refine e_ (U_ I_ J_ rfl rfl (fun v _ h=>aE_ (n:=10) Pc.cells_len zx_ (by exact (bl_ h.1 (Thg.mk 3 d.b))) x) zr_ zA_) rfl ?_;refine e_ (au_ (ad:=(Prod.fst (adr (Thg.mk 3 d.b)))) (us:=Pc.cells e) dN_ J_ rfl (fun v _ h=>by exact (bl_ h.1 (Thg.mk 3 d.b))) (Pc.cells_len _) (p_ Pc.cells_len x)) rfl (D_ W_ rfl fun b_4=>x_ 0 J_ rfl rfl rfl rfl rfl rfl (Zz 2 ?_));have Y:=(show (lat ((ds_ p (List.take m F))++List.map (fun y=>(Fc.a d,am_ d.a y.r y.c)) (List.take j (lat (frL p) (Thg.mk 3 d.b)))) d.a).length≤1000000000 from Nat.le_trans (dO_ _ _) hdl);refine mI_ bG_ d.a M (c_ B_) fun es_1 ce_1 ve_1 Hk_1 Hx_1 L q=>?_;refine u_ (Y_ d_ (Y_ (g_ (g_ d_)) (bq_ (g_ bf_)))) ?_;refine ao_ ((b_4,.cells #[.int .i64 e.kind,str e.a,str e.b,str e.c,str e.r,str e.s,str e.t,.int .i64 e.lo,.int .i64 e.hi,.int .i64 e.frm] 174 (0,0))::((T,.cells #[.int .i64 d.kind,str d.a,str d.b,str d.r,.int .i64 d.lo,.int .i64 d.hi] 36 (0,0))::[])) zk ?_;refine G_ 4 [0,1,2,3,4,5,7,8,9,10,11,12,13] zk zs (Zz 12 ?_);refine z_ rfl (K_ fb_ rfl rfl) rfl (aZ_ ?_);refine ct_ 6 14 rfl rfl zk ?_ ?_
   ·refine e_ (eT_ (k:=d.a) bG_ q jz_ ci_ rfl rfl 0 rfl) rfl (Zz 3 ?_)
    refine n_ 14 rfl zk (R_ A_ E_ ae_ rfl rfl rfl rfl rfl rfl fun b_5=>Zz 3 ?_);refine n_ 15 rfl zk (ay_ (news:=List.flatMap Fc.cells [(Fc.mk 2 d.a e.c e.r 0 0)]) eu_ L rfl rfl zp rfl (be_ 0 rfl) (fun u hu=>ak_ Fc.cells_one hu) zv_ zy_ rfl fun U V P=>?_);have A:=zsa P;exact mc_
   refine R_ A_ E_ ae_ rfl rfl rfl rfl rfl rfl fun b_5=>Zz 3 ?_
   refine n_ 6 rfl zk (e_ (eT_ (k:=d.a) bG_ q jz_ ci_ rfl rfl 1 rfl) rfl (Zz 3 ?_));refine n_ 15 rfl zk (ay_ (news:=List.flatMap Fc.cells [(Fc.mk 2 d.a e.c e.r 0 0)]) eu_ L rfl rfl zp rfl (be_ 0 rfl) (fun u hu=>ak_ Fc.cells_one hu) zv_ zy_ rfl fun U V C=>?_);have A:=zsa C;exact mc_
  have Q:¬ Fc.kind d=1:=by simpa using S
  refine Zz 10 ?_;exact y_ ⟨(m+1,HB),K,(by rw[pn_ R,sG_,if_neg Q,List.append_nil];exact hB)⟩ zu_ zl B_ zh
 obtain⟨X,G,hx_1,hmx_1⟩:=zge (show i<List.length p by omega);refine Zz 12 ?_;refine D_ W_ rfl fun J=>x_ 0 J_ rfl rfl rfl rfl rfl rfl (Zz 8 ?_)
 refine e_ (K_ tf_ rfl rfl) rfl (D_ Tryz.zeroValue190 rfl fun T=>x_ 0 Tryz.sizeOf190 rfl rfl rfl rfl rfl rfl (Zz 6 ?_));refine R_ I_ J_ W_ rfl rfl rfl rfl rfl rfl fun b_4=>?_;have Y:=(show (lat (frL (List.take i p)) (Thg.mk G.kind G.a)).length≤400000000 from Nat.le_trans (dO_ _ _) (by rw[pV_,List.length_take];omega));refine fE_ (k:=(Thg.mk G.kind G.a)) wk_ hA Tryz.runUnderlying188 cg_ rfl rfl (c_ (c_ B_)) rfl fun es_1 ce_1 ie_1 se_1 ve_1 Hk_1 Hx_1 q L=>Zz 1 ?_
 refine ay_ (news:=List.flatMap Pc.cells [G]) wG_ L rfl rfl zp rfl (fB_ zp) (fun u hu=>ak_ Pc.cells_one hu) zv_ zy_ rfl fun U V C=>?_;have A:=zsa C;refine Zz 1 ?_;refine dp_ (k:=(Thg.mk G.kind G.a)) (dd:=G) q (by rw[es_];exact A) rfl rfl rfl (ep_ (f_ (g_ d_) (F_ t_ t_))) fun O B=>?_;refine Zz 2 ?_;refine u_ (Y_ (g_ d_) (Y_ (g_ d_) (bq_ bf_))) (Zz 5 ?_);exact y_ ⟨(i+1,O),X,(by rw[wB_ hx_1];exact B)⟩ zu_ zl zp zh
end Go.Proofs.YtpbnmnfdgckaiaaGreatDoor
