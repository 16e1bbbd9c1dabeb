/-
  Part of the proof of the law ProofToolsSpec over this seat: the small logic, the data, the contracts of functions (no condition).
-/
import Derived.Test.YtkeanlfhghlgiaaGreatDoorQProofToolsSpec9
import Derived.Test.YtkeanlfhghlgiaaGreatDoorQProofToolsSpec6
set_option linter.unusedVariables false
set_option linter.unusedSimpArgs false
set_option linter.unusedSectionVars false
set_option maxHeartbeats 1000000
namespace Go.Proofs.YtkeanlfhghlgiaaGreatDoor
open Go Go.Sx Go.Proofs
attribute [local irreducible] Code.wp wpList wpAnyH
open Go.Vs
structure PB where
  g:Nat
  pb:Nat
  kb:Nat
  ab:Nat
  ub:Nat
  ob:Nat
  ib:Nat
  rb:Nat
  sb:Nat
  pad:Option Addr
  pcap:Nat
def gpF (B:PB) (p:List Pc) (u:Value):List Value:=[.slice B.pad (List.length p) B.pcap,.map (some B.pb),u,.map (some B.kb),.map (some B.ab),.map (some B.ub),.map (some B.ob),.map (some B.ib),.map (some B.rb),.map (some B.sb)]
structure PSt where
  sv:Value
  es:Array MapEntry
  c:Nat
  h:Hp
def PSt.ok (y:PSt) (l:List Stp):Prop:=zR 48 9 Stp.cells y.sv l y.h∧IntE Fc.val y.es (fcs l) (iot (List.length l))
def PSt.own (B:PB) (p:List Pc) (y:PSt):Hp:=(B.g,.cells #[.slice B.pad (List.length p) B.pcap,.map (some B.pb),y.sv,.map (some B.kb),.map (some B.ab),.map (some B.ub),.map (some B.ob),.map (some B.ib),.map (some B.rb),.map (some B.sb)] 105 (0,0))::(B.kb,.map y.es y.c)::y.h
theorem cb_ (B:PB) (p:List Pc) (rule piece:Int) (f:Fc) (fad:Option Addr) (fcap:Nat) (fr:List Int) (l:List Stp) (sv:Value) (es:Array MapEntry) (c:Nat) (Hr:Hp) (hr:zR 48 9 Stp.cells sv l Hr) (hK:IntE Fc.val es (fcs l) (iot (List.length l))) (hl:l.length≤100000000):Tri Tryz.prog 65 #[zp_ B.g 0,.int .i64 rule,Fc.val f,.int .i64 piece,.slice fad (List.length fr) fcap] ((B.g,.cells #[.slice B.pad (List.length p) B.pcap,.map (some B.pb),sv,.map (some B.kb),.map (some B.ab),.map (some B.ub),.map (some B.ob),.map (some B.ib),.map (some B.rb),.map (some B.sb)] 105 (0,0))::(B.kb,.map es c)::Hr) [ax_ l,af_ fad (List.flatMap N_ fr)] (fun _:{y:List Stp×PSt // y.1=ii_ l (Stp.mk rule f piece fad fcap fr)∧y.2.ok y.1}=>.tuple #[]) (fun y=>y.1.2.own B p) (fun y=>[ax_ y.1.1]):=by
 refine w_ Tryz.func65 rfl rfl Tryz.ntmps65 rfl fun v0=>?_
 refine Zz 2 ?_
 refine as_ rfl rfl fun b1=>Zz 3 ?_
 refine ae_ ((b1,.cells #[.int .i64 f.kind,str f.a,str f.b,str f.r,.int .i64 f.lo,.int .i64 f.hi] 24 (0,0))::((B.g,.cells #[.slice B.pad (List.length p) B.pcap,.map (some B.pb),sv,.map (some B.kb),.map (some B.ab),.map (some B.ub),.map (some B.ob),.map (some B.ib),.map (some B.rb),.map (some B.sb)] 105 (0,0))::Hr)) zk ?_
 refine s_ 6 [0,1,2,3,4,5,6,7,8,9] zk zs (Zz 9 ?_)
 refine R_ rfl (ch_ hr P_ rfl) rfl (cJ_ (j_ 10 rfl zk (n_ (rf_ f (List.length l:Int) (fcs l) (iot (List.length l)) B.kb es c hK) rfl zp zt rfl fun⟨⟨⟨rc1,rn1⟩,er1,cr1⟩,hrc1,hrm1,hE_r1⟩=>?_)))
 dsimp only
 simp only[List.cons_append,List.nil_append]
 refine Zz 2 ?_
 refine K_ zs (s_ 0 [11,12,13,14,15] zk zs (Zz 13 ?_))
 cases rc1
 ·replace hrc1:=zdf hrc1
  refine Zz 3 ?_
  have hyes:f∈fcs l:=Decidable.not_not.1 (by assumption)
  have e0:ii_ l (Stp.mk rule f piece fad fcap fr)=l:=if_pos hyes
  rw[if_pos hyes,if_pos hyes]at hE_r1
  exact end0 Tryz.results65 ⟨(l,⟨sv,er1,cr1,Hr⟩),e0.symm,⟨hr,hE_r1⟩⟩ rfl (g_ (c_ (c_ d_)) (g_ d_ F_)) zf
 replace hrc1:=zdt hrc1
 refine cO_ rfl ?_
 refine ae_ ((b1,.cells #[.int .i64 f.kind,str f.a,str f.b,str f.r,.int .i64 f.lo,.int .i64 f.hi] 24 (0,0))::[]) zk ?_
 refine s_ 6 [0,1,2,3,5,6,7,8,9] zk zs (Zz 8 ?_)
 refine R_ rfl (H_ oc_ rfl rfl) rfl (cJ_ ?_)
 refine bW_ 4 10 rfl rfl zk ?_ ?_
 ·refine Zz 3 ?_
  refine K_ zs (j_ 10 rfl zk (S_ P_ ap_ bn_ rfl rfl rfl rfl rfl rfl fun b2=>Zz 2 ?_))
  refine K_ zs (j_ 11 rfl zk (ao_ (news:=List.flatMap Stp.cells [(Stp.mk rule f piece fad fcap fr)]) hM_ hr rfl rfl zp rfl (by_ 0 rfl) (fun u hu=>ar_ Stp.cells_one hu) (by simp only[maxLen];first|omega|(simp;omega)) (by first|omega|(simp;omega)) rfl fun sv1 Hr1 hr1=>?_))
  refine u_ List.perm_append_comm ?_
  have hq1:=zsa hr1
  refine Zz 2 ?_
  refine K_ (fun _ a b=>⟨Vw.sat.sub (a.perm (c_ (c_ d_))),b⟩) (s_ 1 [12,13] zk (fun _ a b=>⟨Vw.sat.sub (a.perm (c_ (c_ d_))),b⟩) (Zz 3 ?_))
  refine j_ 14 rfl zk (dq_ 3 hq1 ei_ rfl rfl rfl rfl (Zz 2 ?_))
  refine K_ (fun _ a b=>⟨Vw.sat.sub (a.perm (c_ (c_ d_))),b⟩) (Zz 2 ?_)
  have e0:ii_ l (Stp.mk rule f piece fad fcap fr)=(l++[(Stp.mk rule f piece fad fcap fr)]):=if_neg (by assumption)
  rw[if_neg (by assumption),if_neg (by assumption)]at hE_r1
  exact end0 Tryz.results65 ⟨((l++[(Stp.mk rule f piece fad fcap fr)]),⟨sv1,er1,cr1,Hr1⟩),e0.symm,⟨hq1,(by rw[cA_,List.length_append];show IntE _ _ _ (iot (l.length+1));rw[nx_];exact hE_r1)⟩⟩ rfl (g_ (c_ (c_ (c_ d_))) (g_ (c_ d_) (c_ F_))) (fun v _ h=>by exact⟨fv_ h.1 h.2.1,trivial⟩)
 refine S_ P_ ap_ bn_ rfl rfl rfl rfl rfl rfl fun b3=>Zz 2 ?_
 refine K_ zs (j_ 4 rfl zk (Zz 3 ?_))
 refine K_ zs (j_ 11 rfl zk (ao_ (news:=List.flatMap Stp.cells [(Stp.mk rule f piece fad fcap fr)]) hM_ hr rfl rfl zp rfl (by_ 0 rfl) (fun u hu=>ar_ Stp.cells_one hu) (by simp only[maxLen];first|omega|(simp;omega)) (by first|omega|(simp;omega)) rfl fun sv2 Hr2 hr2=>?_))
 refine u_ List.perm_append_comm ?_
 have hq2:=zsa hr2
 refine Zz 2 ?_
 refine K_ (fun _ a b=>⟨Vw.sat.sub (a.perm (c_ (c_ d_))),b⟩) (s_ 1 [12,13] zk (fun _ a b=>⟨Vw.sat.sub (a.perm (c_ (c_ d_))),b⟩) (Zz 3 ?_))
 refine j_ 14 rfl zk (dq_ 3 hq2 ei_ rfl rfl rfl rfl (Zz 2 ?_))
 refine K_ (fun _ a b=>⟨Vw.sat.sub (a.perm (c_ (c_ d_))),b⟩) (Zz 2 ?_)
 have e0:ii_ l (Stp.mk rule f piece fad fcap fr)=(l++[(Stp.mk rule f piece fad fcap fr)]):=if_neg (by assumption)
 rw[if_neg (by assumption),if_neg (by assumption)]at hE_r1
 exact end0 Tryz.results65 ⟨((l++[(Stp.mk rule f piece fad fcap fr)]),⟨sv2,er1,cr1,Hr2⟩),e0.symm,⟨hq2,(by rw[cA_,List.length_append];show IntE _ _ _ (iot (l.length+1));rw[nx_];exact hE_r1)⟩⟩ rfl (g_ (c_ (c_ (c_ d_))) (g_ (c_ d_) (c_ F_))) (fun v _ h=>by exact⟨fv_ h.1 h.2.1,trivial⟩)
end Go.Proofs.YtkeanlfhghlgiaaGreatDoor
namespace Go.Proofs.YtkeanlfhghlgiaaGreatDoor
open Go Go.Sx Go.Proofs
attribute [local irreducible] Code.wp wpList wpAnyH
open Go.Vs
theorem cZ_ (a b:Str):Fn0 Tryz.prog 60 #[str a,str b] (Fc.val (C_ a b)):=by
  refine w_ Tryz.func60 rfl rfl Tryz.ntmps60 rfl fun v0=>?_
  refine Zz 2 ?_
  refine J_ aa_ rfl fun b1=>Zz 6 ?_
  refine i_ (H_ dH_ rfl rfl) rfl (z_ 0 B_ rfl rfl rfl rfl rfl rfl (Zz 3 ?_))
  exact fy_ () (fun aa v h1 h2=>dk_ (us:=Fc.cells (C_ a b)) 0 Tryz.results60 aX_ B_ rfl rfl rfl aa v h1 h2) m_ zt
theorem dD_ (a r b:Str):Fn0 Tryz.prog 61 #[str a,str r,str b] (Fc.val (I_ a r b)):=by
  refine w_ Tryz.func61 rfl rfl Tryz.ntmps61 rfl fun v0=>?_
  refine Zz 2 ?_
  refine J_ aa_ rfl fun b1=>Zz 7 ?_
  refine i_ (H_ dH_ rfl rfl) rfl (z_ 0 B_ rfl rfl rfl rfl rfl rfl (Zz 3 ?_))
  exact fy_ () (fun aa v h1 h2=>dk_ (us:=Fc.cells (I_ a r b)) 0 Tryz.results61 aX_ B_ rfl rfl rfl aa v h1 h2) m_ zt
theorem jB_ (a r:Str) (lo hi:Int):Fn0 Tryz.prog 62 #[str a,str r,.int .i64 lo,.int .i64 hi] (Fc.val (T_ a r lo hi)):=by
  refine w_ Tryz.func62 rfl rfl Tryz.ntmps62 rfl fun v0=>?_
  refine Zz 2 ?_
  refine J_ aa_ rfl fun b1=>Zz 8 ?_
  refine i_ (H_ dH_ rfl rfl) rfl (z_ 0 B_ rfl rfl rfl rfl rfl rfl (Zz 3 ?_))
  exact fy_ () (fun aa v h1 h2=>dk_ (us:=Fc.cells (T_ a r lo hi)) 0 Tryz.results62 aX_ B_ rfl rfl rfl aa v h1 h2) m_ zt
theorem kK_ (B:PB) (p:List Pc) (A:List Str) (fm:List (Ky×Int)) (afm:Ky→Option Addr×Nat) (x:Jx) (aab aub:Str→Option Addr×Nat) (aob aib arb asb:eO_→Option Addr×Nat) (hv:∀ z∈p,z.vok) (hfd:Fnd p fm) (hpl:p.length≤16384) (n n1:Nat) (f:Fc) (l:List Stp) (y:PSt) (hS:y.ok l) (hE:Eng p A l) (hB:∀ l,Eng p A l→l.length≤65536) (D:Nat→Prop) (hD:Fre D l) (hx:x.of (l.take n1)) (hxl:x.len n1) (hn1:n1≤65536) (hform:f.form) (hn:n<65536) (hk:f.kind=1) (hAt:At l n (C_ f.a f.b)):Tri Tryz.prog 66 #[zp_ B.g 0,Fc.val f,.int .i64 (n:Int)] (y.own B p) [af_ B.pad (List.flatMap Pc.cells p),mlF Tryz.prog 111 Ky.val N_ B.pb fm afm,ax_ l,imF D] (fun _:{y:List Stp×PSt // y.2.ok y.1∧Eng p A y.1∧l <+: y.1∧Fre D y.1∧RawC p fm f l y.1}=>.tuple #[]) (fun y=>y.1.2.own B p) (fun y=>[ax_ y.1.1]):=by
 refine w_ Tryz.func66 rfl rfl Tryz.ntmps66 rfl fun v0=>?_
 refine Zz 2 ?_
 refine as_ rfl rfl fun b1=>Zz 5 ?_
 refine s_ 0 [0,1,2,3,4,5,6,7,8,9] zk zs (Zz 6 ?_)
 refine R_ rfl (H_ ef_ rfl rfl) rfl (R_ rfl (aR_ (k:=(Ky.mk 1 [] f.b)) (adr:=afm) eJ_ bA_ Z_ rfl rfl zf) rfl (Zz 6 ?_))
 refine Q_ (ι:={y:Nat×List Stp×PSt // y.1≤List.length (lat fm (Ky.mk 1 [] f.b))∧y.2.2.ok y.2.1∧Eng p A y.2.1∧l <+: y.2.1∧eD_ p (lat fm (Ky.mk 1 [] f.b)) y.1 (fun x=>C_ f.a x.c∈fcs y.2.1)∧Fre D y.2.1}) (fun y=>[(0,zp_ B.g 0),(2,.int .i64 (n:Int)),(4,zp_ b1 0),(27,.slice (Prod.fst (afm (Ky.mk 1 [] f.b))) (List.length (lat fm (Ky.mk 1 [] f.b))) (Prod.snd (afm (Ky.mk 1 [] f.b)))),(28,.int .i64 (List.length (lat fm (Ky.mk 1 [] f.b)):Int)),(29,.int .i64 (y.1.1:Int))]) (fun y=>((B.g,.cells #[.slice B.pad (List.length p) B.pcap,.map (some B.pb),y.1.2.2.sv,.map (some B.kb),.map (some B.ab),.map (some B.ub),.map (some B.ob),.map (some B.ib),.map (some B.rb),.map (some B.sb)] 105 (0,0))::((B.kb,.map y.1.2.2.es y.1.2.2.c)::((b1,.cells #[.int .i64 f.kind,str f.a,str f.b,str f.r,.int .i64 f.lo,.int .i64 f.hi] 24 (0,0))::y.1.2.2.h)))) (fun y=>[ax_ y.1.2.1,af_ B.pad (List.flatMap Pc.cells p),mlF Tryz.prog 111 Ky.val N_ B.pb fm afm,imF D]) (fun y=>List.length (lat fm (Ky.mk 1 [] f.b)) - y.1.1) ⟨((0:Nat),l,y),by simp,by exact hS,by exact hE,List.prefix_refl _,(eD_.zero),by exact hD⟩ zl zp zf ?_
 rintro ⟨⟨i,l_i,y_i⟩,hi_i,hS_i,hE_i,hp_i,hu_i,hD_i⟩
 dsimp only at hi_i hS_i hE_i hp_i hu_i hD_i ⊢
 have hb_i:=Nat.le_trans (Nat.le_trans (bc_ fm (Ky.mk 1 [] f.b)) hfd.len) (Nat.mul_le_mul_left 2 hpl)
 refine Zi 2 (fun hr1=>?_) fun hr1=>?_
 ·refine Zz 9 ?_
  refine s_ 0 [0,1,2,3,4,5,6,7,8,9] zk zs (Zz 6 ?_)
  refine R_ rfl (H_ ef_ rfl rfl) rfl (R_ rfl (aR_ (k:=(Ky.mk 2 [] f.b)) (adr:=afm) eJ_ bA_ Z_ rfl rfl zf) rfl (Zz 6 ?_))
  refine Q_ (ι:={y:Nat×List Stp×PSt // y.1≤List.length (lat fm (Ky.mk 2 [] f.b))∧y.2.2.ok y.2.1∧Eng p A y.2.1∧l_i <+: y.2.1∧eD_ p (lat fm (Ky.mk 2 [] f.b)) y.1 (fun x=>C_ f.a x.a∈fcs l→C_ f.a x.b∈fcs l→C_ f.a x.c∈fcs y.2.1)∧Fre D y.2.1}) (fun y=>[(0,zp_ B.g 0),(2,.int .i64 (n:Int)),(4,zp_ b1 0),(27,.slice (Prod.fst (afm (Ky.mk 1 [] f.b))) (List.length (lat fm (Ky.mk 1 [] f.b))) (Prod.snd (afm (Ky.mk 1 [] f.b)))),(28,.int .i64 (List.length (lat fm (Ky.mk 1 [] f.b)):Int)),(29,.int .i64 (i:Int)),(57,.slice (Prod.fst (afm (Ky.mk 2 [] f.b))) (List.length (lat fm (Ky.mk 2 [] f.b))) (Prod.snd (afm (Ky.mk 2 [] f.b)))),(58,.int .i64 (List.length (lat fm (Ky.mk 2 [] f.b)):Int)),(59,.int .i64 (y.1.1:Int))]) (fun y=>((B.g,.cells #[.slice B.pad (List.length p) B.pcap,.map (some B.pb),y.1.2.2.sv,.map (some B.kb),.map (some B.ab),.map (some B.ub),.map (some B.ob),.map (some B.ib),.map (some B.rb),.map (some B.sb)] 105 (0,0))::((B.kb,.map y.1.2.2.es y.1.2.2.c)::((b1,.cells #[.int .i64 f.kind,str f.a,str f.b,str f.r,.int .i64 f.lo,.int .i64 f.hi] 24 (0,0))::y.1.2.2.h)))) (fun y=>[ax_ y.1.2.1,af_ B.pad (List.flatMap Pc.cells p),mlF Tryz.prog 111 Ky.val N_ B.pb fm afm,imF D]) (fun y=>List.length (lat fm (Ky.mk 2 [] f.b)) - y.1.1) ⟨((0:Nat),l_i,y_i),by simp,by exact hS_i,by exact hE_i,List.prefix_refl _,(eD_.zero),by exact hD_i⟩ zl zp zh ?_
  rintro ⟨⟨j,l_j,y_j⟩,hi_j,hS_j,hE_j,hp_j,hu_j,hD_j⟩
  dsimp only at hi_j hS_j hE_j hp_j hu_j hD_j ⊢
  have hb_j:=Nat.le_trans (Nat.le_trans (bc_ fm (Ky.mk 2 [] f.b)) hfd.len) (Nat.mul_le_mul_left 2 hpl)
  refine Zi 2 (fun hr2=>?_) fun hr2=>?_
  ·refine Zz 9 ?_
   refine s_ 0 [0,1,2,3,4,5,6,7,8,9] zk zs (Zz 6 ?_)
   refine R_ rfl (H_ ef_ rfl rfl) rfl (R_ rfl (aR_ (k:=(Ky.mk 3 [] f.b)) (adr:=afm) eJ_ bA_ Z_ rfl rfl zf) rfl (Zz 6 ?_))
   refine Q_ (ι:={y:Nat×List Stp×PSt // y.1≤List.length (lat fm (Ky.mk 3 [] f.b))∧y.2.2.ok y.2.1∧Eng p A y.2.1∧l_j <+: y.2.1∧eD_ p (lat fm (Ky.mk 3 [] f.b)) y.1 (fun x=>I_ f.a x.r x.c∈fcs y.2.1)∧Fre D y.2.1}) (fun y=>[(0,zp_ B.g 0),(2,.int .i64 (n:Int)),(4,zp_ b1 0),(27,.slice (Prod.fst (afm (Ky.mk 1 [] f.b))) (List.length (lat fm (Ky.mk 1 [] f.b))) (Prod.snd (afm (Ky.mk 1 [] f.b)))),(28,.int .i64 (List.length (lat fm (Ky.mk 1 [] f.b)):Int)),(29,.int .i64 (i:Int)),(57,.slice (Prod.fst (afm (Ky.mk 2 [] f.b))) (List.length (lat fm (Ky.mk 2 [] f.b))) (Prod.snd (afm (Ky.mk 2 [] f.b)))),(58,.int .i64 (List.length (lat fm (Ky.mk 2 [] f.b)):Int)),(59,.int .i64 (j:Int)),(119,.slice (Prod.fst (afm (Ky.mk 3 [] f.b))) (List.length (lat fm (Ky.mk 3 [] f.b))) (Prod.snd (afm (Ky.mk 3 [] f.b)))),(120,.int .i64 (List.length (lat fm (Ky.mk 3 [] f.b)):Int)),(121,.int .i64 (y.1.1:Int))]) (fun y=>((B.g,.cells #[.slice B.pad (List.length p) B.pcap,.map (some B.pb),y.1.2.2.sv,.map (some B.kb),.map (some B.ab),.map (some B.ub),.map (some B.ob),.map (some B.ib),.map (some B.rb),.map (some B.sb)] 105 (0,0))::((B.kb,.map y.1.2.2.es y.1.2.2.c)::((b1,.cells #[.int .i64 f.kind,str f.a,str f.b,str f.r,.int .i64 f.lo,.int .i64 f.hi] 24 (0,0))::y.1.2.2.h)))) (fun y=>[ax_ y.1.2.1,af_ B.pad (List.flatMap Pc.cells p),mlF Tryz.prog 111 Ky.val N_ B.pb fm afm,imF D]) (fun y=>List.length (lat fm (Ky.mk 3 [] f.b)) - y.1.1) ⟨((0:Nat),l_j,y_j),by simp,by exact hS_j,by exact hE_j,List.prefix_refl _,(eD_.zero),by exact hD_j⟩ zl zp zh ?_
   rintro ⟨⟨k,l_k,y_k⟩,hi_k,hS_k,hE_k,hp_k,hu_k,hD_k⟩
   dsimp only at hi_k hS_k hE_k hp_k hu_k hD_k ⊢
   have hb_k:=Nat.le_trans (Nat.le_trans (bc_ fm (Ky.mk 3 [] f.b)) hfd.len) (Nat.mul_le_mul_left 2 hpl)
   refine Zi 2 (fun hr3=>?_) fun hr3=>?_
   ·refine Zz 8 ?_
    refine s_ 0 [0,1,2,3,4,5,6,7,8,9] zk zs (Zz 6 ?_)
    refine R_ rfl (H_ ef_ rfl rfl) rfl (R_ rfl (aR_ (k:=(Ky.mk 8 [] f.b)) (adr:=afm) eJ_ bA_ Z_ rfl rfl zf) rfl (Zz 6 ?_))
    refine Q_ (ι:={y:Nat×List Stp×PSt // y.1≤List.length (lat fm (Ky.mk 8 [] f.b))∧y.2.2.ok y.2.1∧Eng p A y.2.1∧l_k <+: y.2.1∧eD_ p (lat fm (Ky.mk 8 [] f.b)) y.1 (fun x=>T_ f.a x.r x.lo x.hi∈fcs y.2.1)∧Fre D y.2.1}) (fun y=>[(0,zp_ B.g 0),(2,.int .i64 (n:Int)),(4,zp_ b1 0),(27,.slice (Prod.fst (afm (Ky.mk 1 [] f.b))) (List.length (lat fm (Ky.mk 1 [] f.b))) (Prod.snd (afm (Ky.mk 1 [] f.b)))),(28,.int .i64 (List.length (lat fm (Ky.mk 1 [] f.b)):Int)),(29,.int .i64 (i:Int)),(57,.slice (Prod.fst (afm (Ky.mk 2 [] f.b))) (List.length (lat fm (Ky.mk 2 [] f.b))) (Prod.snd (afm (Ky.mk 2 [] f.b)))),(58,.int .i64 (List.length (lat fm (Ky.mk 2 [] f.b)):Int)),(59,.int .i64 (j:Int)),(119,.slice (Prod.fst (afm (Ky.mk 3 [] f.b))) (List.length (lat fm (Ky.mk 3 [] f.b))) (Prod.snd (afm (Ky.mk 3 [] f.b)))),(120,.int .i64 (List.length (lat fm (Ky.mk 3 [] f.b)):Int)),(121,.int .i64 (k:Int)),(157,.slice (Prod.fst (afm (Ky.mk 8 [] f.b))) (List.length (lat fm (Ky.mk 8 [] f.b))) (Prod.snd (afm (Ky.mk 8 [] f.b)))),(158,.int .i64 (List.length (lat fm (Ky.mk 8 [] f.b)):Int)),(159,.int .i64 (y.1.1:Int))]) (fun y=>((B.g,.cells #[.slice B.pad (List.length p) B.pcap,.map (some B.pb),y.1.2.2.sv,.map (some B.kb),.map (some B.ab),.map (some B.ub),.map (some B.ob),.map (some B.ib),.map (some B.rb),.map (some B.sb)] 105 (0,0))::((B.kb,.map y.1.2.2.es y.1.2.2.c)::((b1,.cells #[.int .i64 f.kind,str f.a,str f.b,str f.r,.int .i64 f.lo,.int .i64 f.hi] 24 (0,0))::y.1.2.2.h)))) (fun y=>[ax_ y.1.2.1,af_ B.pad (List.flatMap Pc.cells p),mlF Tryz.prog 111 Ky.val N_ B.pb fm afm,imF D]) (fun y=>List.length (lat fm (Ky.mk 8 [] f.b)) - y.1.1) ⟨((0:Nat),l_k,y_k),by simp,by exact hS_k,by exact hE_k,List.prefix_refl _,(eD_.zero),by exact hD_k⟩ zl zp zh ?_
    rintro ⟨⟨m,l_m,y_m⟩,hi_m,hS_m,hE_m,hp_m,hu_m,hD_m⟩
    dsimp only at hi_m hS_m hE_m hp_m hu_m hD_m ⊢
    have hb_m:=Nat.le_trans (Nat.le_trans (bc_ fm (Ky.mk 8 [] f.b)) hfd.len) (Nat.mul_le_mul_left 2 hpl)
    refine Zi 2 (fun hr4=>?_) fun hr4=>?_
    ·refine Zz 6 ?_
     exact end0 Tryz.results66 ⟨(l_m,y_m),hS_m,hE_m,(((((List.prefix_refl l).trans hp_i).trans hp_j).trans hp_k).trans hp_m),hD_m,⟨(hu_i.done (by omega)).mono fun x hx=>ai_ (hp_j.trans (hp_k.trans hp_m)) hx,(hu_j.done (by omega)).mono fun x hx q1 q2=>ai_ (hp_k.trans hp_m) (hx q1 q2),(hu_k.done (by omega)).mono fun x hx=>ai_ hp_m hx,hu_m.done (by omega)⟩⟩ rfl (g_ d_ (g_ d_ F_)) zf
    obtain⟨hlx4,x4,hx4,hmx4⟩:=zge (show m<List.length (lat fm (Ky.mk 8 [] f.b)) by omega)
    obtain⟨k_x4,z_x4,e_x4,hz_x4,hk_x4⟩:=hfd.snd _ _ (bb_.1 hmx4)
    subst e_x4
    have hlz_x4:k_x4<List.length p:=(List.getElem?_eq_some_iff.1 hz_x4).1
    have hmz_x4:z_x4∈p:=List.mem_of_getElem? hz_x4
    refine Zz 10 ?_
    refine i_ (X_ f_ o_ rfl rfl (fun v _ h=>G_ (n:=1) D_ (by decide) (by exact (aw_ h.2.2.1 (Ky.mk 8 [] f.b))) hx4) (by omega) (by first|omega|(simp;done))) rfl ?_
    refine i_ (at_ (ad:=(Prod.fst (afm (Ky.mk 8 [] f.b)))) O_ rfl (fun v _ h=>by exact (aw_ h.2.2.1 (Ky.mk 8 [] f.b))) (t_ D_ hx4 0 _ rfl)) rfl (Zz 12 ?_)
    refine J_ aN_ rfl fun b2=>z_ 0 Y_ rfl rfl rfl rfl rfl rfl (Zz 12 ?_)
    refine n_ (jB_ f.a z_x4.r z_x4.lo z_x4.hi) rfl m_ zt rfl fun _=>Zz 2 ?_
    refine S_ f_ o_ A_ rfl rfl rfl rfl rfl rfl fun b3=>?_
    refine cx_ (fun v h1 h=>(cc_ h1 d_ (by exact h.2.2.2.1):¬ D b3)) fun hnd_b3=>?_
    refine aB_ (List.flatMap N_ [(n:Int)]) d_ rfl ?_
    refine n_ (cb_ B p 11 (k_x4:Int) (T_ f.a z_x4.r z_x4.lo z_x4.hi) (some ⟨b3,0,none⟩) 1 [(n:Int)] l_m y_m.sv y_m.es y_m.c y_m.h hS_m.1 hS_m.2 (Nat.le_trans (hB _ hE_m) (by decide))) rfl (g_ (c_ d_) (g_ (c_ d_) (c_ F_))) zf rfl fun⟨⟨l1,y1⟩,hl1,hy1⟩=>?_
    dsimp only
    simp only[PSt.own,List.cons_append]
    have hE1:Eng p A l1:=bD_ hl1 hE_m (cor11 hz_x4 hk_x4 (hAt.pre (((((List.prefix_refl l).trans hp_i).trans hp_j).trans hp_k).trans hp_m))) (show (11:Int)≤14 from by decide)
    have hq1:l_m <+: l1:=bB_ hl1
    have hm1:=bC_ hl1;dsimp only at hm1
    have hD1:Fre D l1:=cd_ hl1 hD_m (fun _=>bO_ hnd_b3)
    refine Zz 2 ?_
    refine u_ (q_ d_ (q_ d_ (q_ (e_ d_) (ak_ V_)))) (Zz 5 ?_)
    exact y_ ⟨(m+1,l1,y1),hlx4,hy1,hE1,(hp_m.trans ((List.prefix_refl l_m).trans hq1)),(hu_m.step (fun x hx=>ai_ ((List.prefix_refl l_m).trans hq1) hx) hx4 hz_x4 (by exact hm1)),hD1⟩ (by dsimp only;omega) zl zp zf
   obtain⟨hlx3,x3,hx3,hmx3⟩:=zge (show k<List.length (lat fm (Ky.mk 3 [] f.b)) by omega)
   obtain⟨k_x3,z_x3,e_x3,hz_x3,hk_x3⟩:=hfd.snd _ _ (bb_.1 hmx3)
   subst e_x3
   have hlz_x3:k_x3<List.length p:=(List.getElem?_eq_some_iff.1 hz_x3).1
   have hmz_x3:z_x3∈p:=List.mem_of_getElem? hz_x3
   refine Zz 10 ?_
   refine i_ (X_ f_ o_ rfl rfl (fun v _ h=>G_ (n:=1) D_ (by decide) (by exact (aw_ h.2.2.1 (Ky.mk 3 [] f.b))) hx3) (by omega) (by first|omega|(simp;done))) rfl ?_
   refine i_ (at_ (ad:=(Prod.fst (afm (Ky.mk 3 [] f.b)))) O_ rfl (fun v _ h=>by exact (aw_ h.2.2.1 (Ky.mk 3 [] f.b))) (t_ D_ hx3 0 _ rfl)) rfl (Zz 3 ?_)
   refine eF_ (iy_ B.g (gpF B p) 105) ((b1,.cells #[.int .i64 f.kind,str f.a,str f.b,str f.r,.int .i64 f.lo,.int .i64 f.hi] 24 (0,0))::[]) zk ?_
   refine dU_ 3 [0,1,2,3,4,5,6,7,8,9,10,11,12,13,14,15,16,17,18,20,21] zk (ab_ (F:=(gpF B p)) (ac_ d_ (c_ d_)) fun v a b=>b) (L_ rfl (az_ rfl) rfl (L_ rfl (bh_ aq_ rfl rfl rfl M_) rfl (L_ rfl (bx_ 0 U_ rfl rfl rfl) rfl (L_ rfl (az_ rfl) rfl (L_ rfl (cM_ rfl) rfl (L_ rfl (bh_ aA_ rfl rfl rfl ej_) rfl (L_ rfl (eo_ (F:=(gpF B p)) fF_ rfl zf (fun _=>rfl)) rfl (L_ rfl (az_ rfl) rfl ?_))))))))
   refine L_ rfl (X_ ad_ Y_ rfl rfl (fun v _ h=>G_ (n:=10) Pc.cells_len (by decide) (by exact h.2.2.1) hz_x3) (by omega) (by first|omega|(simp;done))) rfl ?_
   refine L_ rfl (cY_ aM_ rfl rfl rfl M_) rfl (L_ rfl (at_ (ad:=B.pad) U_ rfl zf (t_ Pc.cells_len hz_x3 4 _ rfl)) rfl (L_ rfl (az_ rfl) rfl (L_ rfl (cM_ rfl) rfl (L_ rfl (bh_ aA_ rfl rfl rfl ej_) rfl (L_ rfl (eo_ (F:=(gpF B p)) fF_ rfl zf (fun _=>rfl)) rfl (L_ rfl (az_ rfl) rfl ?_))))))
   refine L_ rfl (X_ ad_ Y_ rfl rfl (fun v _ h=>G_ (n:=10) Pc.cells_len (by decide) (by exact h.2.2.1) hz_x3) (by omega) (by first|omega|(simp;done))) rfl ?_
   refine L_ rfl (cY_ aM_ rfl rfl rfl M_) rfl (L_ rfl (at_ (ad:=B.pad) U_ rfl zf (t_ Pc.cells_len hz_x3 3 _ rfl)) rfl (L_ rfl (az_ rfl) rfl (L_ rfl (az_ rfl) rfl (dP_ ?_))))
   refine bW_ 19 22 rfl rfl zk ?_ ?_
   ·refine n_ (dD_ f.a z_x3.r z_x3.c) rfl m_ zt rfl fun _=>Zz 2 ?_
    refine W_ (ab_ (F:=(gpF B p)) (ac_ d_ (c_ d_)) fun v a b=>b) (j_ 22 rfl zk (S_ f_ o_ A_ rfl rfl rfl rfl rfl rfl fun b4=>?_))
    refine cx_ (fun v h1 h=>(cc_ h1 d_ (by exact h.2.2.2.1):¬ D b4)) fun hnd_b4=>?_
    refine aB_ (List.flatMap N_ [(n:Int)]) d_ rfl ?_
    refine Zz 2 ?_
    refine W_ (ab_ (F:=(gpF B p)) (ac_ d_ (c_ d_)) fun v a b=>b.2) (j_ 23 rfl zk (n_ (cb_ B p 5 (k_x3:Int) (I_ f.a z_x3.r z_x3.c) (some ⟨b4,0,none⟩) 1 [(n:Int)] l_k y_k.sv y_k.es y_k.c y_k.h hS_k.1 hS_k.2 (Nat.le_trans (hB _ hE_k) (by decide))) rfl zp zf rfl fun⟨⟨l2,y2⟩,hl2,hy2⟩=>?_))
    dsimp only
    simp only[PSt.own,List.cons_append]
    have hE2:Eng p A l2:=bD_ hl2 hE_k (cor5 hz_x3 hk_x3 (hAt.pre ((((List.prefix_refl l).trans hp_i).trans hp_j).trans hp_k))) (show (5:Int)≤14 from by decide)
    have hq2:l_k <+: l2:=bB_ hl2
    have hm2:=bC_ hl2;dsimp only at hm2
    have hD2:Fre D l2:=cd_ hl2 hD_k (fun _=>bO_ hnd_b4)
    refine Zz 2 ?_
    refine W_ (ab_ (F:=(gpF B p)) (ac_ d_ (c_ V_)) fun v a b=>b.2.2) (Zz 2 ?_)
    refine u_ (q_ d_ (q_ d_ (ak_ V_))) (Zz 5 ?_)
    exact y_ ⟨(k+1,l2,y2),hlx3,hy2,hE2,(hp_k.trans ((List.prefix_refl l_k).trans hq2)),(hu_k.step (fun x hx=>ai_ ((List.prefix_refl l_k).trans hq2) hx) hx3 hz_x3 (by exact hm2)),hD2⟩ (by dsimp only;omega) zl zp zf
   refine S_ f_ o_ A_ rfl rfl rfl rfl rfl rfl fun b5=>?_
   refine cx_ (fun v h1 h=>(cc_ h1 d_ (by exact h.2.2.2.1):¬ D b5)) fun hnd_b5=>?_
   refine aB_ (List.flatMap N_ [(n:Int)]) d_ rfl ?_
   refine Zz 2 ?_
   refine W_ (ab_ (F:=(gpF B p)) (ac_ d_ (c_ d_)) fun v a b=>b.2) (j_ 19 rfl zk (n_ (dD_ f.a z_x3.r z_x3.c) rfl m_ zt rfl fun _=>Zz 2 ?_))
   refine W_ (ab_ (F:=(gpF B p)) (ac_ d_ (c_ d_)) fun v a b=>b.2) (j_ 23 rfl zk (n_ (cb_ B p 5 (k_x3:Int) (I_ f.a z_x3.r z_x3.c) (some ⟨b5,0,none⟩) 1 [(n:Int)] l_k y_k.sv y_k.es y_k.c y_k.h hS_k.1 hS_k.2 (Nat.le_trans (hB _ hE_k) (by decide))) rfl zp zf rfl fun⟨⟨l3,y3⟩,hl3,hy3⟩=>?_))
   dsimp only
   simp only[PSt.own,List.cons_append]
   have hE3:Eng p A l3:=bD_ hl3 hE_k (cor5 hz_x3 hk_x3 (hAt.pre ((((List.prefix_refl l).trans hp_i).trans hp_j).trans hp_k))) (show (5:Int)≤14 from by decide)
   have hq3:l_k <+: l3:=bB_ hl3
   have hm3:=bC_ hl3;dsimp only at hm3
   have hD3:Fre D l3:=cd_ hl3 hD_k (fun _=>bO_ hnd_b5)
   refine Zz 2 ?_
   refine W_ (ab_ (F:=(gpF B p)) (ac_ d_ (c_ V_)) fun v a b=>b.2.2) (Zz 2 ?_)
   refine u_ (q_ d_ (q_ d_ (ak_ V_))) (Zz 5 ?_)
   exact y_ ⟨(k+1,l3,y3),hlx3,hy3,hE3,(hp_k.trans ((List.prefix_refl l_k).trans hq3)),(hu_k.step (fun x hx=>ai_ ((List.prefix_refl l_k).trans hq3) hx) hx3 hz_x3 (by exact hm3)),hD3⟩ (by dsimp only;omega) zl zp zf
  obtain⟨hlx2,x2,hx2,hmx2⟩:=zge (show j<List.length (lat fm (Ky.mk 2 [] f.b)) by omega)
  obtain⟨k_x2,z_x2,e_x2,hz_x2,hk_x2⟩:=hfd.snd _ _ (bb_.1 hmx2)
  subst e_x2
  have hlz_x2:k_x2<List.length p:=(List.getElem?_eq_some_iff.1 hz_x2).1
  have hmz_x2:z_x2∈p:=List.mem_of_getElem? hz_x2
  refine Zz 10 ?_
  refine i_ (X_ f_ o_ rfl rfl (fun v _ h=>G_ (n:=1) D_ (by decide) (by exact (aw_ h.2.2.1 (Ky.mk 2 [] f.b))) hx2) (by omega) (by first|omega|(simp;done))) rfl ?_
  refine i_ (at_ (ad:=(Prod.fst (afm (Ky.mk 2 [] f.b)))) O_ rfl (fun v _ h=>by exact (aw_ h.2.2.1 (Ky.mk 2 [] f.b))) (t_ D_ hx2 0 _ rfl)) rfl (Zz 12 ?_)
  refine J_ aN_ rfl fun b6=>z_ 0 Y_ rfl rfl rfl rfl rfl rfl (Zz 4 ?_)
  refine s_ 7 [0,1,2,3,4,5,6,7] zk zs (Zz 9 ?_)
  refine j_ 8 rfl zk (n_ (cZ_ f.a z_x2.a) rfl m_ zt rfl fun _=>Zz 3 ?_)
  refine j_ 9 rfl zk (eH_ (k:=(C_ f.a z_x2.a)) fe_ dZ_ A_ rfl rfl hS_j.2 (c_ (c_ d_)) rfl fun rl1 nl1 hrl1 hnl1=>Zz 3 ?_)
  refine s_ 0 [10,11,12,13,14] zk zs (Zz 10 ?_)
  refine s_ 7 [0,1,2,3,4,5,6,7] zk zs (Zz 9 ?_)
  refine j_ 8 rfl zk (n_ (cZ_ f.a z_x2.b) rfl m_ zt rfl fun _=>Zz 3 ?_)
  refine j_ 9 rfl zk (eH_ (k:=(C_ f.a z_x2.b)) fe_ dZ_ A_ rfl rfl hS_j.2 (c_ (c_ d_)) rfl fun rl2 nl2 hrl2 hnl2=>Zz 3 ?_)
  refine s_ 0 [10,11,12,13,14] zk zs (Zz 12 ?_)
  cases rl1
  ·replace hrl1:=zdf hrl1
   refine Zz 12 ?_
   exact y_ ⟨(j+1,l_j,y_j),hlx2,hS_j,hE_j,(hp_j.trans (List.prefix_refl l_j)),(hu_j.step (fun x hx=>fun q0 q1=>ai_ (List.prefix_refl l_j) (hx q0 q1)) hx2 hz_x2 (by exact fun q1 q2=>absurd (ai_ (((List.prefix_refl l).trans hp_i).trans hp_j) q1) hrl1)),hD_j⟩ (by dsimp only;omega) zl (g_ (c_ d_) (g_ (c_ d_) (g_ (c_ d_) F_))) zh
  replace hrl1:=zdt hrl1
  refine Zz 5 ?_
  cases rl2
  ·replace hrl2:=zdf hrl2
   refine Zz 8 ?_
   exact y_ ⟨(j+1,l_j,y_j),hlx2,hS_j,hE_j,(hp_j.trans (List.prefix_refl l_j)),(hu_j.step (fun x hx=>fun q0 q1=>ai_ (List.prefix_refl l_j) (hx q0 q1)) hx2 hz_x2 (by exact fun q1 q2=>absurd (ai_ (((List.prefix_refl l).trans hp_i).trans hp_j) q2) hrl2)),hD_j⟩ (by dsimp only;omega) zl (g_ (c_ d_) (g_ (c_ d_) (g_ (c_ d_) F_))) zh
  replace hrl2:=zdt hrl2
  refine Zz 7 ?_
  refine n_ (cZ_ f.a z_x2.c) rfl m_ zt rfl fun _=>Zz 3 ?_
  refine S_ f_ o_ A_ rfl rfl rfl rfl rfl rfl fun b7=>?_
  refine cx_ (fun v h1 h=>(cc_ h1 d_ (by exact h.2.2.2.1):¬ D b7)) fun hnd_b7=>?_
  refine aB_ (List.flatMap N_ [nl1,nl2]) d_ rfl ?_
  refine n_ (cb_ B p 4 (k_x2:Int) (C_ f.a z_x2.c) (some ⟨b7,0,none⟩) 2 [nl1,nl2] l_j y_j.sv y_j.es y_j.c y_j.h hS_j.1 hS_j.2 (Nat.le_trans (hB _ hE_j) (by decide))) rfl (g_ (c_ d_) (g_ (c_ d_) (c_ F_))) zf rfl fun⟨⟨l4,y4⟩,hl4,hy4⟩=>?_
  dsimp only
  simp only[PSt.own,List.cons_append]
  have hE4:Eng p A l4:=bD_ hl4 hE_j (by obtain⟨q1,e1,a1⟩:=hj_ (hnl1 rfl);obtain⟨q2,e2,a2⟩:=hj_ (hnl2 rfl);rw[e1,e2];exact cor4 hz_x2 hk_x2 a1 a2) (show (4:Int)≤14 from by decide)
  have hq4:l_j <+: l4:=bB_ hl4
  have hm4:=bC_ hl4;dsimp only at hm4
  have hD4:Fre D l4:=cd_ hl4 hD_j (fun _=>bO_ hnd_b7)
  refine Zz 2 ?_
  refine u_ (q_ d_ (q_ d_ (q_ (e_ d_) (ak_ V_)))) (Zz 5 ?_)
  exact y_ ⟨(j+1,l4,y4),hlx2,hy4,hE4,(hp_j.trans ((List.prefix_refl l_j).trans hq4)),(hu_j.step (fun x hx=>fun q0 q1=>ai_ ((List.prefix_refl l_j).trans hq4) (hx q0 q1)) hx2 hz_x2 (by exact fun _ _=>hm4)),hD4⟩ (by dsimp only;omega) zl zp zf
 obtain⟨hlx1,x1,hx1,hmx1⟩:=zge (show i<List.length (lat fm (Ky.mk 1 [] f.b)) by omega)
 obtain⟨k_x1,z_x1,e_x1,hz_x1,hk_x1⟩:=hfd.snd _ _ (bb_.1 hmx1)
 subst e_x1
 have hlz_x1:k_x1<List.length p:=(List.getElem?_eq_some_iff.1 hz_x1).1
 have hmz_x1:z_x1∈p:=List.mem_of_getElem? hz_x1
 refine Zz 10 ?_
 refine i_ (X_ f_ o_ rfl rfl (fun v _ h=>G_ (n:=1) D_ (by decide) (by exact (aw_ h.2.2.1 (Ky.mk 1 [] f.b))) hx1) (by omega) (by first|omega|(simp;done))) rfl ?_
 refine i_ (at_ (ad:=(Prod.fst (afm (Ky.mk 1 [] f.b)))) O_ rfl (fun v _ h=>by exact (aw_ h.2.2.1 (Ky.mk 1 [] f.b))) (t_ D_ hx1 0 _ rfl)) rfl (Zz 3 ?_)
 refine eF_ (iy_ B.g (gpF B p) 105) ((b1,.cells #[.int .i64 f.kind,str f.a,str f.b,str f.r,.int .i64 f.lo,.int .i64 f.hi] 24 (0,0))::[]) zk ?_
 refine dU_ 3 [0,1,2,3,4,5,6,7,8,9,10,12,13] zk (ab_ (F:=(gpF B p)) (ac_ d_ (c_ d_)) fun v a b=>b) (L_ rfl (az_ rfl) rfl (L_ rfl (bh_ aq_ rfl rfl rfl M_) rfl (L_ rfl (bx_ 0 U_ rfl rfl rfl) rfl (L_ rfl (az_ rfl) rfl (L_ rfl (cM_ rfl) rfl (L_ rfl (bh_ aA_ rfl rfl rfl ej_) rfl (L_ rfl (eo_ (F:=(gpF B p)) fF_ rfl zf (fun _=>rfl)) rfl (L_ rfl (az_ rfl) rfl ?_))))))))
 refine L_ rfl (X_ ad_ Y_ rfl rfl (fun v _ h=>G_ (n:=10) Pc.cells_len (by decide) (by exact h.2.2.1) hz_x1) (by omega) (by first|omega|(simp;done))) rfl ?_
 refine L_ rfl (cY_ aM_ rfl rfl rfl M_) rfl (L_ rfl (at_ (ad:=B.pad) U_ rfl zf (t_ Pc.cells_len hz_x1 3 _ rfl)) rfl (L_ rfl (az_ rfl) rfl (L_ rfl (az_ rfl) rfl (dP_ ?_))))
 refine bW_ 11 14 rfl rfl zk ?_ ?_
 ·refine n_ (cZ_ f.a z_x1.c) rfl m_ zt rfl fun _=>Zz 2 ?_
  refine W_ (ab_ (F:=(gpF B p)) (ac_ d_ (c_ d_)) fun v a b=>b) (j_ 14 rfl zk (S_ f_ o_ A_ rfl rfl rfl rfl rfl rfl fun b8=>?_))
  refine cx_ (fun v h1 h=>(cc_ h1 d_ (by exact h.2.2.2.1):¬ D b8)) fun hnd_b8=>?_
  refine aB_ (List.flatMap N_ [(n:Int)]) d_ rfl ?_
  refine Zz 2 ?_
  refine W_ (ab_ (F:=(gpF B p)) (ac_ d_ (c_ d_)) fun v a b=>b.2) (j_ 15 rfl zk (n_ (cb_ B p 3 (k_x1:Int) (C_ f.a z_x1.c) (some ⟨b8,0,none⟩) 1 [(n:Int)] l_i y_i.sv y_i.es y_i.c y_i.h hS_i.1 hS_i.2 (Nat.le_trans (hB _ hE_i) (by decide))) rfl zp zf rfl fun⟨⟨l5,y5⟩,hl5,hy5⟩=>?_))
  dsimp only
  simp only[PSt.own,List.cons_append]
  have hE5:Eng p A l5:=bD_ hl5 hE_i (cor3 hz_x1 hk_x1 (hAt.pre ((List.prefix_refl l).trans hp_i))) (show (3:Int)≤14 from by decide)
  have hq5:l_i <+: l5:=bB_ hl5
  have hm5:=bC_ hl5;dsimp only at hm5
  have hD5:Fre D l5:=cd_ hl5 hD_i (fun _=>bO_ hnd_b8)
  refine Zz 2 ?_
  refine W_ (ab_ (F:=(gpF B p)) (ac_ d_ (c_ V_)) fun v a b=>b.2.2) (Zz 2 ?_)
  refine u_ (q_ d_ (q_ d_ (ak_ V_))) (Zz 5 ?_)
  exact y_ ⟨(i+1,l5,y5),hlx1,hy5,hE5,(hp_i.trans ((List.prefix_refl l_i).trans hq5)),(hu_i.step (fun x hx=>ai_ ((List.prefix_refl l_i).trans hq5) hx) hx1 hz_x1 (by exact hm5)),hD5⟩ (by dsimp only;omega) zl zp zf
 refine S_ f_ o_ A_ rfl rfl rfl rfl rfl rfl fun b9=>?_
 refine cx_ (fun v h1 h=>(cc_ h1 d_ (by exact h.2.2.2.1):¬ D b9)) fun hnd_b9=>?_
 refine aB_ (List.flatMap N_ [(n:Int)]) d_ rfl ?_
 refine Zz 2 ?_
 refine W_ (ab_ (F:=(gpF B p)) (ac_ d_ (c_ d_)) fun v a b=>b.2) (j_ 11 rfl zk (n_ (cZ_ f.a z_x1.c) rfl m_ zt rfl fun _=>Zz 2 ?_))
 refine W_ (ab_ (F:=(gpF B p)) (ac_ d_ (c_ d_)) fun v a b=>b.2) (j_ 15 rfl zk (n_ (cb_ B p 3 (k_x1:Int) (C_ f.a z_x1.c) (some ⟨b9,0,none⟩) 1 [(n:Int)] l_i y_i.sv y_i.es y_i.c y_i.h hS_i.1 hS_i.2 (Nat.le_trans (hB _ hE_i) (by decide))) rfl zp zf rfl fun⟨⟨l6,y6⟩,hl6,hy6⟩=>?_))
 dsimp only
 simp only[PSt.own,List.cons_append]
 have hE6:Eng p A l6:=bD_ hl6 hE_i (cor3 hz_x1 hk_x1 (hAt.pre ((List.prefix_refl l).trans hp_i))) (show (3:Int)≤14 from by decide)
 have hq6:l_i <+: l6:=bB_ hl6
 have hm6:=bC_ hl6;dsimp only at hm6
 have hD6:Fre D l6:=cd_ hl6 hD_i (fun _=>bO_ hnd_b9)
 refine Zz 2 ?_
 refine W_ (ab_ (F:=(gpF B p)) (ac_ d_ (c_ V_)) fun v a b=>b.2.2) (Zz 2 ?_)
 refine u_ (q_ d_ (q_ d_ (ak_ V_))) (Zz 5 ?_)
 exact y_ ⟨(i+1,l6,y6),hlx1,hy6,hE6,(hp_i.trans ((List.prefix_refl l_i).trans hq6)),(hu_i.step (fun x hx=>ai_ ((List.prefix_refl l_i).trans hq6) hx) hx1 hz_x1 (by exact hm6)),hD6⟩ (by dsimp only;omega) zl zp zf
end Go.Proofs.YtkeanlfhghlgiaaGreatDoor
namespace Go.Proofs.YtkeanlfhghlgiaaGreatDoor
open Go Go.Sx Go.Proofs
attribute [local irreducible] Code.wp wpList wpAnyH
open Go.Vs
theorem nE_ (B:PB) (p:List Pc) (A:List Str) (fm:List (Ky×Int)) (afm:Ky→Option Addr×Nat) (x:Jx) (aab aub:Str→Option Addr×Nat) (aob aib arb asb:eO_→Option Addr×Nat) (hv:∀ z∈p,z.vok) (hfd:Fnd p fm) (hpl:p.length≤16384) (n n1:Nat) (f:Fc) (l:List Stp) (y:PSt) (hS:y.ok l) (hE:Eng p A l) (hB:∀ l,Eng p A l→l.length≤65536) (D:Nat→Prop) (hD:Fre D l) (hx:x.of (l.take n1)) (hxl:x.len n1) (hn1:n1≤65536) (hform:f.form) (hn:n<65536) (hk:f.kind=1) (hAt:At l n (C_ f.a f.b)):Tri Tryz.prog 67 #[zp_ B.g 0,Fc.val f,.int .i64 (n:Int)] (y.own B p) [af_ B.pad (List.flatMap Pc.cells p),mlF Tryz.prog 111 Ky.val N_ B.pb fm afm,ax_ l,imF D,mlF Tryz.prog 114 aU_ N_ B.ib x.into aib,mlF Tryz.prog 9 str N_ B.ub x.under aub] (fun _:{y:List Stp×PSt // y.2.ok y.1∧Eng p A y.1∧l <+: y.1∧Fre D y.1∧RawA p fm x f l y.1}=>.tuple #[]) (fun y=>y.1.2.own B p) (fun y=>[ax_ y.1.1]):=by
 refine w_ Tryz.func67 rfl rfl Tryz.ntmps67 rfl fun v0=>?_
 refine Zz 2 ?_
 refine as_ rfl rfl fun b1=>Zz 5 ?_
 refine s_ 0 [0,1,2,3,4,5,6,7,8,9] zk zs (Zz 6 ?_)
 refine R_ rfl (H_ ef_ rfl rfl) rfl (R_ rfl (aR_ (k:=(Ky.mk 4 [] f.b)) (adr:=afm) eJ_ bA_ Z_ rfl rfl zf) rfl (Zz 6 ?_))
 refine Q_ (ι:={y:Nat×List Stp×PSt // y.1≤List.length (lat fm (Ky.mk 4 [] f.b))∧y.2.2.ok y.2.1∧Eng p A y.2.1∧l <+: y.2.1∧eD_ p (lat fm (Ky.mk 4 [] f.b)) y.1 (fun u=>hu_ l (lat x.into (Fc.a f,Pc.r u)) fun s=>C_ (Fc.a s.fact) u.c∈fcs y.2.1)∧Fre D y.2.1}) (fun y=>[(0,zp_ B.g 0),(2,.int .i64 (n:Int)),(4,zp_ b1 0),(19,.slice (Prod.fst (afm (Ky.mk 4 [] f.b))) (List.length (lat fm (Ky.mk 4 [] f.b))) (Prod.snd (afm (Ky.mk 4 [] f.b)))),(20,.int .i64 (List.length (lat fm (Ky.mk 4 [] f.b)):Int)),(21,.int .i64 (y.1.1:Int))]) (fun y=>((B.g,.cells #[.slice B.pad (List.length p) B.pcap,.map (some B.pb),y.1.2.2.sv,.map (some B.kb),.map (some B.ab),.map (some B.ub),.map (some B.ob),.map (some B.ib),.map (some B.rb),.map (some B.sb)] 105 (0,0))::((B.kb,.map y.1.2.2.es y.1.2.2.c)::((b1,.cells #[.int .i64 f.kind,str f.a,str f.b,str f.r,.int .i64 f.lo,.int .i64 f.hi] 24 (0,0))::y.1.2.2.h)))) (fun y=>[ax_ y.1.2.1,af_ B.pad (List.flatMap Pc.cells p),mlF Tryz.prog 111 Ky.val N_ B.pb fm afm,imF D,mlF Tryz.prog 114 aU_ N_ B.ib x.into aib,mlF Tryz.prog 9 str N_ B.ub x.under aub]) (fun y=>List.length (lat fm (Ky.mk 4 [] f.b)) - y.1.1) ⟨((0:Nat),l,y),by simp,by exact hS,by exact hE,List.prefix_refl _,(eD_.zero),by exact hD⟩ zl zp zf ?_
 rintro ⟨⟨i,l_i,y_i⟩,hi_i,hS_i,hE_i,hp_i,hu_i,hD_i⟩
 dsimp only at hi_i hS_i hE_i hp_i hu_i hD_i ⊢
 have hb_i:=Nat.le_trans (Nat.le_trans (bc_ fm (Ky.mk 4 [] f.b)) hfd.len) (Nat.mul_le_mul_left 2 hpl)
 refine Zi 2 (fun hr1=>?_) fun hr1=>?_
 ·refine Zi 10 (fun hr2=>?_) fun hr2=>?_
  ·refine Zz 5 ?_
   exact end0 Tryz.results67 ⟨(l_i,y_i),hS_i,hE_i,((List.prefix_refl l).trans hp_i),hD_i,⟨hu_i.done (by omega),fun q=>absurd q (by assumption)⟩⟩ rfl (g_ d_ (g_ d_ F_)) zf
  refine Zz 5 ?_
  refine s_ 0 [0,1,2,3,4,5,6,7,8] zk zs (Zz 6 ?_)
  refine R_ rfl (aR_ (k:=f.a) (adr:=aub) dV_ be_ Z_ rfl rfl zf) rfl (Zz 6 ?_)
  refine Q_ (ι:={y:Nat×List Stp×PSt // y.1≤List.length (lat x.under f.a)∧y.2.2.ok y.2.1∧Eng p A y.2.1∧l_i <+: y.2.1∧fD_ l (lat x.under f.a) y.1 (fun s=>C_ (Fc.a s.fact) [33]∈fcs y.2.1)∧Fre D y.2.1}) (fun y=>[(0,zp_ B.g 0),(2,.int .i64 (n:Int)),(4,zp_ b1 0),(19,.slice (Prod.fst (afm (Ky.mk 4 [] f.b))) (List.length (lat fm (Ky.mk 4 [] f.b))) (Prod.snd (afm (Ky.mk 4 [] f.b)))),(20,.int .i64 (List.length (lat fm (Ky.mk 4 [] f.b)):Int)),(21,.int .i64 (i:Int)),(81,.slice (Prod.fst (aub f.a)) (List.length (lat x.under f.a)) (Prod.snd (aub f.a))),(82,.int .i64 (List.length (lat x.under f.a):Int)),(83,.int .i64 (y.1.1:Int))]) (fun y=>((B.g,.cells #[.slice B.pad (List.length p) B.pcap,.map (some B.pb),y.1.2.2.sv,.map (some B.kb),.map (some B.ab),.map (some B.ub),.map (some B.ob),.map (some B.ib),.map (some B.rb),.map (some B.sb)] 105 (0,0))::((B.kb,.map y.1.2.2.es y.1.2.2.c)::((b1,.cells #[.int .i64 f.kind,str f.a,str f.b,str f.r,.int .i64 f.lo,.int .i64 f.hi] 24 (0,0))::y.1.2.2.h)))) (fun y=>[ax_ y.1.2.1,af_ B.pad (List.flatMap Pc.cells p),mlF Tryz.prog 111 Ky.val N_ B.pb fm afm,imF D,mlF Tryz.prog 114 aU_ N_ B.ib x.into aib,mlF Tryz.prog 9 str N_ B.ub x.under aub]) (fun y=>List.length (lat x.under f.a) - y.1.1) ⟨((0:Nat),l_i,y_i),by simp,by exact hS_i,by exact hE_i,List.prefix_refl _,(fD_.zero),by exact hD_i⟩ zl zp zh ?_
  rintro ⟨⟨k,l_k,y_k⟩,hi_k,hS_k,hE_k,hp_k,hu_k,hD_k⟩
  dsimp only at hi_k hS_k hE_k hp_k hu_k hD_k ⊢
  have hb_k:=Nat.le_trans (bc_ x.under f.a) (Nat.le_trans hxl.under hn1)
  refine Zi 2 (fun hr3=>?_) fun hr3=>?_
  ·refine Zz 6 ?_
   exact end0 Tryz.results67 ⟨(l_k,y_k),hS_k,hE_k,(((List.prefix_refl l).trans hp_i).trans hp_k),hD_k,⟨(hu_i.done (by omega)).mono fun x hx=>hx.mono fun s hs=>ai_ hp_k hs,fun _=>hu_k.done (by omega)⟩⟩ rfl (g_ d_ (g_ d_ F_)) zf
  obtain⟨hlx3,x3,hx3,hmx3⟩:=zge (show k<List.length (lat x.under f.a) by omega)
  obtain⟨k_x3,s_x3,e_x3,hj_x3,hQ_x3,hk_x3⟩:=(hx.under _ _).1 (bb_.1 hmx3)
  subst e_x3
  have hg_x3:l[k_x3]? = some s_x3:=dG_ hj_x3
  have hc_x3:l_k[k_x3]? = some s_x3:=dR_ (((List.prefix_refl l).trans hp_i).trans hp_k) hg_x3
  have hlc_x3:k_x3<List.length l_k:=(List.getElem?_eq_some_iff.1 hc_x3).1
  dsimp only at hk_x3 hQ_x3
  refine Zz 10 ?_
  refine i_ (X_ f_ o_ rfl rfl (fun v _ h=>G_ (n:=1) D_ (by decide) (by exact (aw_ h.2.2.2.2.2.1 f.a)) hx3) (by omega) (by first|omega|(simp;done))) rfl ?_
  refine i_ (at_ (ad:=(Prod.fst (aub f.a))) O_ rfl (fun v _ h=>by exact (aw_ h.2.2.2.2.2.1 f.a)) (t_ D_ hx3 0 _ rfl)) rfl (Zz 10 ?_)
  refine i_ (ah_ hS_k.1 P_ ap_ rfl rfl (by omega) (by omega)) rfl (Zz 1 ?_)
  refine i_ (dF_ aq_ rfl rfl rfl M_) rfl (i_ (av_ hS_k.1 zp U_ rfl (t_ Stp.cells_len hc_x3 2 _ rfl)) rfl (n_ (cZ_ (Fc.a s_x3.fact) [33]) rfl m_ zt rfl fun _=>Zz 2 ?_))
  refine S_ f_ o_ A_ rfl rfl rfl rfl rfl rfl fun b2=>?_
  refine cx_ (fun v h1 h=>(cc_ h1 d_ (by exact h.2.2.2.1):¬ D b2)) fun hnd_b2=>?_
  refine aB_ (List.flatMap N_ [(k_x3:Int),(n:Int)]) d_ rfl ?_
  refine n_ (cb_ B p 9 (-1) (C_ (Fc.a s_x3.fact) [33]) (some ⟨b2,0,none⟩) 2 [(k_x3:Int),(n:Int)] l_k y_k.sv y_k.es y_k.c y_k.h hS_k.1 hS_k.2 (Nat.le_trans (hB _ hE_k) (by decide))) rfl zp zf rfl fun⟨⟨l1,y1⟩,hl1,hy1⟩=>?_
  dsimp only
  simp only[PSt.own,List.cons_append]
  have hE1:Eng p A l1:=bD_ hl1 hE_k (cor9a hE_k hv (hAt.pre (((List.prefix_refl l).trans hp_i).trans hp_k)) (by assumption) hc_x3 hQ_x3 hk_x3) (show (9:Int)≤14 from by decide)
  have hq1:l_k <+: l1:=bB_ hl1
  have hm1:=bC_ hl1;dsimp only at hm1
  have hD1:Fre D l1:=cd_ hl1 hD_k (fun _=>bO_ hnd_b2)
  refine Zz 2 ?_
  refine u_ (q_ d_ (q_ d_ (ak_ V_))) (Zz 5 ?_)
  exact y_ ⟨(k+1,l1,y1),hlx3,hy1,hE1,(hp_k.trans ((List.prefix_refl l_k).trans hq1)),(hu_k.step (fun x hx=>ai_ ((List.prefix_refl l_k).trans hq1) hx) hx3 hg_x3 (by exact hm1)),hD1⟩ (by dsimp only;omega) zl zp zf
 obtain⟨hlx1,x1,hx1,hmx1⟩:=zge (show i<List.length (lat fm (Ky.mk 4 [] f.b)) by omega)
 obtain⟨k_x1,z_x1,e_x1,hz_x1,hk_x1⟩:=hfd.snd _ _ (bb_.1 hmx1)
 subst e_x1
 have hlz_x1:k_x1<List.length p:=(List.getElem?_eq_some_iff.1 hz_x1).1
 have hmz_x1:z_x1∈p:=List.mem_of_getElem? hz_x1
 refine Zz 10 ?_
 refine i_ (X_ f_ o_ rfl rfl (fun v _ h=>G_ (n:=1) D_ (by decide) (by exact (aw_ h.2.2.1 (Ky.mk 4 [] f.b))) hx1) (by omega) (by first|omega|(simp;done))) rfl ?_
 refine i_ (at_ (ad:=(Prod.fst (afm (Ky.mk 4 [] f.b)))) O_ rfl (fun v _ h=>by exact (aw_ h.2.2.1 (Ky.mk 4 [] f.b))) (t_ D_ hx1 0 _ rfl)) rfl (Zz 5 ?_)
 refine s_ 0 [0,1,2,3,4,5,6,7,8,9,10,11,12,13,14,15,16,17] zk zs (Zz 14 ?_)
 refine R_ rfl (H_ gE_ rfl rfl) rfl (R_ rfl (aR_ (k:=(f.a,z_x1.r)) (adr:=aib) ca_ aO_ Z_ rfl rfl zf) rfl (Zz 6 ?_))
 refine Q_ (ι:={y:Nat×List Stp×PSt // y.1≤List.length (lat x.into (f.a,z_x1.r))∧y.2.2.ok y.2.1∧Eng p A y.2.1∧l_i <+: y.2.1∧fD_ l (lat x.into (f.a,z_x1.r)) y.1 (fun s=>C_ (Fc.a s.fact) z_x1.c∈fcs y.2.1)∧Fre D y.2.1}) (fun y=>[(0,zp_ B.g 0),(2,.int .i64 (n:Int)),(4,zp_ b1 0),(19,.slice (Prod.fst (afm (Ky.mk 4 [] f.b))) (List.length (lat fm (Ky.mk 4 [] f.b))) (Prod.snd (afm (Ky.mk 4 [] f.b)))),(20,.int .i64 (List.length (lat fm (Ky.mk 4 [] f.b)):Int)),(21,.int .i64 (i:Int)),(7,.int .i64 (k_x1:Int)),(40,.slice (Prod.fst (aib (f.a,z_x1.r))) (List.length (lat x.into (f.a,z_x1.r))) (Prod.snd (aib (f.a,z_x1.r)))),(41,.int .i64 (List.length (lat x.into (f.a,z_x1.r)):Int)),(42,.int .i64 (y.1.1:Int))]) (fun y=>((B.g,.cells #[.slice B.pad (List.length p) B.pcap,.map (some B.pb),y.1.2.2.sv,.map (some B.kb),.map (some B.ab),.map (some B.ub),.map (some B.ob),.map (some B.ib),.map (some B.rb),.map (some B.sb)] 105 (0,0))::((B.kb,.map y.1.2.2.es y.1.2.2.c)::((b1,.cells #[.int .i64 f.kind,str f.a,str f.b,str f.r,.int .i64 f.lo,.int .i64 f.hi] 24 (0,0))::y.1.2.2.h)))) (fun y=>[ax_ y.1.2.1,af_ B.pad (List.flatMap Pc.cells p),mlF Tryz.prog 111 Ky.val N_ B.pb fm afm,imF D,mlF Tryz.prog 114 aU_ N_ B.ib x.into aib,mlF Tryz.prog 9 str N_ B.ub x.under aub]) (fun y=>List.length (lat x.into (f.a,z_x1.r)) - y.1.1) ⟨((0:Nat),l_i,y_i),by simp,by exact hS_i,by exact hE_i,List.prefix_refl _,(fD_.zero),by exact hD_i⟩ zl zp zh ?_
 rintro ⟨⟨j,l_j,y_j⟩,hi_j,hS_j,hE_j,hp_j,hu_j,hD_j⟩
 dsimp only at hi_j hS_j hE_j hp_j hu_j hD_j ⊢
 have hb_j:=Nat.le_trans (bc_ x.into (f.a,z_x1.r)) (Nat.le_trans hxl.into hn1)
 refine Zi 2 (fun hr4=>?_) fun hr4=>?_
 ·refine Zz 11 ?_
  exact y_ ⟨(i+1,l_j,y_j),hlx1,hS_j,hE_j,(hp_i.trans ((List.prefix_refl l_i).trans hp_j)),(hu_i.step (fun x hx=>hx.mono fun s hs=>ai_ ((List.prefix_refl l_i).trans hp_j) hs) hx1 hz_x1 (by exact hu_j.done (by omega))),hD_j⟩ (by dsimp only;omega) zl zp zh
 obtain⟨hlx2,x2,hx2,hmx2⟩:=zge (show j<List.length (lat x.into (f.a,z_x1.r)) by omega)
 obtain⟨k_x2,s_x2,e_x2,hj_x2,hQ_x2,hk_x2⟩:=(hx.into _ _).1 (bb_.1 hmx2)
 subst e_x2
 have hg_x2:l[k_x2]? = some s_x2:=dG_ hj_x2
 have hc_x2:l_j[k_x2]? = some s_x2:=dR_ (((List.prefix_refl l).trans hp_i).trans hp_j) hg_x2
 have hlc_x2:k_x2<List.length l_j:=(List.getElem?_eq_some_iff.1 hc_x2).1
 dsimp only at hk_x2 hQ_x2
 refine Zz 10 ?_
 refine i_ (X_ f_ o_ rfl rfl (fun v _ h=>G_ (n:=1) D_ (by decide) (by exact (aw_ h.2.2.2.2.1 (f.a,z_x1.r))) hx2) (by omega) (by first|omega|(simp;done))) rfl ?_
 refine i_ (at_ (ad:=(Prod.fst (aib (f.a,z_x1.r)))) O_ rfl (fun v _ h=>by exact (aw_ h.2.2.2.2.1 (f.a,z_x1.r))) (t_ D_ hx2 0 _ rfl)) rfl (Zz 3 ?_)
 refine eF_ (iy_ B.g (gpF B p) 105) ((b1,.cells #[.int .i64 f.kind,str f.a,str f.b,str f.r,.int .i64 f.lo,.int .i64 f.hi] 24 (0,0))::[]) zk ?_
 refine dU_ 8 [0,1,2,3,5,10,11,12,13,14,15,16,17,19,20,21] zk (ab_ (F:=(gpF B p)) (ac_ d_ (c_ d_)) fun v a b=>b) (L_ rfl (az_ rfl) rfl (L_ rfl (az_ rfl) rfl (L_ rfl (cM_ rfl) rfl (L_ rfl (bh_ aA_ rfl rfl rfl ei_) rfl (L_ rfl (az_ rfl) rfl (L_ rfl (az_ rfl) rfl (L_ rfl (cM_ rfl) rfl (L_ rfl (bh_ aA_ rfl rfl rfl ej_) rfl (L_ rfl (eo_ (F:=(gpF B p)) fF_ rfl zf (fun _=>rfl)) rfl ?_)))))))))
 refine L_ rfl (az_ rfl) rfl ?_
 refine L_ rfl (X_ ad_ Y_ rfl rfl (fun v _ h=>G_ (n:=10) Pc.cells_len (by decide) (by exact h.2.2.1) hz_x1) (by omega) (by first|omega|(simp;done))) rfl ?_
 refine L_ rfl (cY_ aM_ rfl rfl rfl M_) rfl (L_ rfl (at_ (ad:=B.pad) U_ rfl zf (t_ Pc.cells_len hz_x1 3 _ rfl)) rfl (L_ rfl (az_ rfl) rfl (L_ rfl (az_ rfl) rfl (L_ rfl (az_ rfl) rfl (dP_ ?_)))))
 refine bW_ 4 22 rfl rfl zk ?_ ?_
 ·refine Zz 3 ?_
  refine W_ (ab_ (F:=(gpF B p)) (ac_ d_ (c_ d_)) fun v a b=>b) (dU_ 4 [6,7,8] zk (ab_ (F:=(gpF B p)) (ac_ d_ (c_ d_)) fun v a b=>b) (L_ rfl (ah_ hS_j.1 P_ ap_ rfl rfl (by omega) (by omega)) rfl (L_ rfl (bh_ ba_ rfl rfl rfl B_) rfl (L_ rfl (dF_ aq_ rfl rfl rfl M_) rfl (dP_ ?_)))))
  refine bW_ 9 22 rfl rfl zk ?_ ?_
  ·refine i_ (av_ hS_j.1 zp U_ rfl (t_ Stp.cells_len hc_x2 2 _ rfl)) rfl (Zz 2 ?_)
   refine W_ (ab_ (F:=(gpF B p)) (ac_ d_ (c_ d_)) fun v a b=>b) ?_
   refine bW_ 18 22 rfl rfl zk ?_ ?_
   ·refine n_ (cZ_ (Fc.a s_x2.fact) z_x1.c) rfl m_ zt rfl fun _=>Zz 2 ?_
    refine W_ (ab_ (F:=(gpF B p)) (ac_ d_ (c_ d_)) fun v a b=>b) (j_ 22 rfl zk (S_ f_ o_ A_ rfl rfl rfl rfl rfl rfl fun b3=>?_))
    refine cx_ (fun v h1 h=>(cc_ h1 d_ (by exact h.2.2.2.1):¬ D b3)) fun hnd_b3=>?_
    refine aB_ (List.flatMap N_ [(k_x2:Int),(n:Int)]) d_ rfl ?_
    refine Zz 2 ?_
    refine W_ (ab_ (F:=(gpF B p)) (ac_ d_ (c_ d_)) fun v a b=>b.2) (j_ 23 rfl zk (n_ (cb_ B p 8 (k_x1:Int) (C_ (Fc.a s_x2.fact) z_x1.c) (some ⟨b3,0,none⟩) 2 [(k_x2:Int),(n:Int)] l_j y_j.sv y_j.es y_j.c y_j.h hS_j.1 hS_j.2 (Nat.le_trans (hB _ hE_j) (by decide))) rfl zp zf rfl fun⟨⟨l2,y2⟩,hl2,hy2⟩=>?_))
    dsimp only
    simp only[PSt.own,List.cons_append]
    have hE2:Eng p A l2:=bD_ hl2 hE_j (pk_ hE_j hv hz_x1 hk_x1 (hAt.pre (((List.prefix_refl l).trans hp_i).trans hp_j)) hc_x2 hQ_x2 hk_x2) (show (8:Int)≤14 from by decide)
    have hq2:l_j <+: l2:=bB_ hl2
    have hm2:=bC_ hl2;dsimp only at hm2
    have hD2:Fre D l2:=cd_ hl2 hD_j (fun _=>bO_ hnd_b3)
    refine Zz 2 ?_
    refine W_ (ab_ (F:=(gpF B p)) (ac_ d_ (c_ V_)) fun v a b=>b.2.2) (Zz 2 ?_)
    refine u_ (q_ d_ (q_ d_ (ak_ V_))) (Zz 5 ?_)
    exact y_ ⟨(j+1,l2,y2),hlx2,hy2,hE2,(hp_j.trans ((List.prefix_refl l_j).trans hq2)),(hu_j.step (fun x hx=>ai_ ((List.prefix_refl l_j).trans hq2) hx) hx2 hg_x2 (by exact hm2)),hD2⟩ (by dsimp only;omega) zl zp zf
   refine S_ f_ o_ A_ rfl rfl rfl rfl rfl rfl fun b4=>?_
   refine cx_ (fun v h1 h=>(cc_ h1 d_ (by exact h.2.2.2.1):¬ D b4)) fun hnd_b4=>?_
   refine aB_ (List.flatMap N_ [(k_x2:Int),(n:Int)]) d_ rfl ?_
   refine Zz 2 ?_
   refine W_ (ab_ (F:=(gpF B p)) (ac_ d_ (c_ d_)) fun v a b=>b.2) (j_ 18 rfl zk (n_ (cZ_ (Fc.a s_x2.fact) z_x1.c) rfl m_ zt rfl fun _=>Zz 2 ?_))
   refine W_ (ab_ (F:=(gpF B p)) (ac_ d_ (c_ d_)) fun v a b=>b.2) (j_ 23 rfl zk (n_ (cb_ B p 8 (k_x1:Int) (C_ (Fc.a s_x2.fact) z_x1.c) (some ⟨b4,0,none⟩) 2 [(k_x2:Int),(n:Int)] l_j y_j.sv y_j.es y_j.c y_j.h hS_j.1 hS_j.2 (Nat.le_trans (hB _ hE_j) (by decide))) rfl zp zf rfl fun⟨⟨l3,y3⟩,hl3,hy3⟩=>?_))
   dsimp only
   simp only[PSt.own,List.cons_append]
   have hE3:Eng p A l3:=bD_ hl3 hE_j (pk_ hE_j hv hz_x1 hk_x1 (hAt.pre (((List.prefix_refl l).trans hp_i).trans hp_j)) hc_x2 hQ_x2 hk_x2) (show (8:Int)≤14 from by decide)
   have hq3:l_j <+: l3:=bB_ hl3
   have hm3:=bC_ hl3;dsimp only at hm3
   have hD3:Fre D l3:=cd_ hl3 hD_j (fun _=>bO_ hnd_b4)
   refine Zz 2 ?_
   refine W_ (ab_ (F:=(gpF B p)) (ac_ d_ (c_ V_)) fun v a b=>b.2.2) (Zz 2 ?_)
   refine u_ (q_ d_ (q_ d_ (ak_ V_))) (Zz 5 ?_)
   exact y_ ⟨(j+1,l3,y3),hlx2,hy3,hE3,(hp_j.trans ((List.prefix_refl l_j).trans hq3)),(hu_j.step (fun x hx=>ai_ ((List.prefix_refl l_j).trans hq3) hx) hx2 hg_x2 (by exact hm3)),hD3⟩ (by dsimp only;omega) zl zp zf
  refine S_ f_ o_ A_ rfl rfl rfl rfl rfl rfl fun b5=>?_
  refine cx_ (fun v h1 h=>(cc_ h1 d_ (by exact h.2.2.2.1):¬ D b5)) fun hnd_b5=>?_
  refine aB_ (List.flatMap N_ [(k_x2:Int),(n:Int)]) d_ rfl ?_
  refine Zz 2 ?_
  refine W_ (ab_ (F:=(gpF B p)) (ac_ d_ (c_ d_)) fun v a b=>b.2) (j_ 9 rfl zk (i_ (av_ hS_j.1 zp U_ rfl (t_ Stp.cells_len hc_x2 2 _ rfl)) rfl (Zz 2 ?_)))
  refine W_ (ab_ (F:=(gpF B p)) (ac_ d_ (c_ d_)) fun v a b=>b.2) (j_ 18 rfl zk (n_ (cZ_ (Fc.a s_x2.fact) z_x1.c) rfl m_ zt rfl fun _=>Zz 2 ?_))
  refine W_ (ab_ (F:=(gpF B p)) (ac_ d_ (c_ d_)) fun v a b=>b.2) (j_ 23 rfl zk (n_ (cb_ B p 8 (k_x1:Int) (C_ (Fc.a s_x2.fact) z_x1.c) (some ⟨b5,0,none⟩) 2 [(k_x2:Int),(n:Int)] l_j y_j.sv y_j.es y_j.c y_j.h hS_j.1 hS_j.2 (Nat.le_trans (hB _ hE_j) (by decide))) rfl zp zf rfl fun⟨⟨l4,y4⟩,hl4,hy4⟩=>?_))
  dsimp only
  simp only[PSt.own,List.cons_append]
  have hE4:Eng p A l4:=bD_ hl4 hE_j (pk_ hE_j hv hz_x1 hk_x1 (hAt.pre (((List.prefix_refl l).trans hp_i).trans hp_j)) hc_x2 hQ_x2 hk_x2) (show (8:Int)≤14 from by decide)
  have hq4:l_j <+: l4:=bB_ hl4
  have hm4:=bC_ hl4;dsimp only at hm4
  have hD4:Fre D l4:=cd_ hl4 hD_j (fun _=>bO_ hnd_b5)
  refine Zz 2 ?_
  refine W_ (ab_ (F:=(gpF B p)) (ac_ d_ (c_ V_)) fun v a b=>b.2.2) (Zz 2 ?_)
  refine u_ (q_ d_ (q_ d_ (ak_ V_))) (Zz 5 ?_)
  exact y_ ⟨(j+1,l4,y4),hlx2,hy4,hE4,(hp_j.trans ((List.prefix_refl l_j).trans hq4)),(hu_j.step (fun x hx=>ai_ ((List.prefix_refl l_j).trans hq4) hx) hx2 hg_x2 (by exact hm4)),hD4⟩ (by dsimp only;omega) zl zp zf
 refine S_ f_ o_ A_ rfl rfl rfl rfl rfl rfl fun b6=>?_
 refine cx_ (fun v h1 h=>(cc_ h1 d_ (by exact h.2.2.2.1):¬ D b6)) fun hnd_b6=>?_
 refine aB_ (List.flatMap N_ [(k_x2:Int),(n:Int)]) d_ rfl ?_
 refine Zz 2 ?_
 refine W_ (ab_ (F:=(gpF B p)) (ac_ d_ (c_ d_)) fun v a b=>b.2) (j_ 4 rfl zk (Zz 3 ?_))
 refine W_ (ab_ (F:=(gpF B p)) (ac_ d_ (c_ d_)) fun v a b=>b.2) (dU_ 3 [6,7,8] zk (ab_ (F:=(gpF B p)) (ac_ d_ (c_ d_)) fun v a b=>b.2) (L_ rfl (ah_ hS_j.1 P_ ap_ rfl rfl (by omega) (by omega)) rfl (L_ rfl (bh_ ba_ rfl rfl rfl B_) rfl (L_ rfl (dF_ aq_ rfl rfl rfl M_) rfl (dP_ (j_ 9 rfl zk (i_ (av_ hS_j.1 zp U_ rfl (t_ Stp.cells_len hc_x2 2 _ rfl)) rfl (Zz 2 ?_))))))))
 refine W_ (ab_ (F:=(gpF B p)) (ac_ d_ (c_ d_)) fun v a b=>b.2) (j_ 18 rfl zk (n_ (cZ_ (Fc.a s_x2.fact) z_x1.c) rfl m_ zt rfl fun _=>Zz 2 ?_))
 refine W_ (ab_ (F:=(gpF B p)) (ac_ d_ (c_ d_)) fun v a b=>b.2) (j_ 23 rfl zk (n_ (cb_ B p 8 (k_x1:Int) (C_ (Fc.a s_x2.fact) z_x1.c) (some ⟨b6,0,none⟩) 2 [(k_x2:Int),(n:Int)] l_j y_j.sv y_j.es y_j.c y_j.h hS_j.1 hS_j.2 (Nat.le_trans (hB _ hE_j) (by decide))) rfl zp zf rfl fun⟨⟨l5,y5⟩,hl5,hy5⟩=>?_))
 dsimp only
 simp only[PSt.own,List.cons_append]
 have hE5:Eng p A l5:=bD_ hl5 hE_j (pk_ hE_j hv hz_x1 hk_x1 (hAt.pre (((List.prefix_refl l).trans hp_i).trans hp_j)) hc_x2 hQ_x2 hk_x2) (show (8:Int)≤14 from by decide)
 have hq5:l_j <+: l5:=bB_ hl5
 have hm5:=bC_ hl5;dsimp only at hm5
 have hD5:Fre D l5:=cd_ hl5 hD_j (fun _=>bO_ hnd_b6)
 refine Zz 2 ?_
 refine W_ (ab_ (F:=(gpF B p)) (ac_ d_ (c_ V_)) fun v a b=>b.2.2) (Zz 2 ?_)
 refine u_ (q_ d_ (q_ d_ (ak_ V_))) (Zz 5 ?_)
 exact y_ ⟨(j+1,l5,y5),hlx2,hy5,hE5,(hp_j.trans ((List.prefix_refl l_j).trans hq5)),(hu_j.step (fun x hx=>ai_ ((List.prefix_refl l_j).trans hq5) hx) hx2 hg_x2 (by exact hm5)),hD5⟩ (by dsimp only;omega) zl zp zf
theorem ox_ (B:PB) (p:List Pc) (A:List Str) (fm:List (Ky×Int)) (afm:Ky→Option Addr×Nat) (x:Jx) (aab aub:Str→Option Addr×Nat) (aob aib arb asb:eO_→Option Addr×Nat) (hv:∀ z∈p,z.vok) (hfd:Fnd p fm) (hpl:p.length≤16384) (n n1:Nat) (f:Fc) (l:List Stp) (y:PSt) (hS:y.ok l) (hE:Eng p A l) (hB:∀ l,Eng p A l→l.length≤65536) (D:Nat→Prop) (hD:Fre D l) (hx:x.of (l.take n1)) (hxl:x.len n1) (hn1:n1≤65536) (hform:f.form) (hn:n<65536) (hk:f.kind=2) (hfr:f.r≠[]) (hAt:At l n (I_ f.a f.r f.b)):Tri Tryz.prog 68 #[zp_ B.g 0,Fc.val f,.int .i64 (n:Int)] (y.own B p) [af_ B.pad (List.flatMap Pc.cells p),mlF Tryz.prog 111 Ky.val N_ B.pb fm afm,ax_ l,imF D,mlF Tryz.prog 114 aU_ N_ B.ob x.frm aob,mlF Tryz.prog 114 aU_ N_ B.ib x.into aib] (fun _:{y:List Stp×PSt // y.2.ok y.1∧Eng p A y.1∧l <+: y.1∧Fre D y.1∧RawI p fm x f l y.1}=>.tuple #[]) (fun y=>y.1.2.own B p) (fun y=>[ax_ y.1.1]):=by
 refine w_ Tryz.func68 rfl rfl Tryz.ntmps68 rfl fun v0=>?_
 refine Zz 2 ?_
 refine as_ rfl rfl fun b1=>Zz 5 ?_
 refine s_ 0 [0,1,2,3,4,5,6,7,8,9] zk zs (Zz 6 ?_)
 refine R_ rfl (H_ ef_ rfl rfl) rfl (R_ rfl (aR_ (k:=(Ky.mk 5 f.r [])) (adr:=afm) eJ_ bA_ Z_ rfl rfl zf) rfl (Zz 6 ?_))
 refine Q_ (ι:={y:Nat×List Stp×PSt // y.1≤List.length (lat fm (Ky.mk 5 f.r []))∧y.2.2.ok y.2.1∧Eng p A y.2.1∧l <+: y.2.1∧eD_ p (lat fm (Ky.mk 5 f.r [])) y.1 (fun u=>I_ f.a u.t f.b∈fcs y.2.1)∧Fre D y.2.1}) (fun y=>[(0,zp_ B.g 0),(2,.int .i64 (n:Int)),(4,zp_ b1 0),(23,.slice (Prod.fst (afm (Ky.mk 5 f.r []))) (List.length (lat fm (Ky.mk 5 f.r []))) (Prod.snd (afm (Ky.mk 5 f.r [])))),(24,.int .i64 (List.length (lat fm (Ky.mk 5 f.r [])):Int)),(25,.int .i64 (y.1.1:Int))]) (fun y=>((B.g,.cells #[.slice B.pad (List.length p) B.pcap,.map (some B.pb),y.1.2.2.sv,.map (some B.kb),.map (some B.ab),.map (some B.ub),.map (some B.ob),.map (some B.ib),.map (some B.rb),.map (some B.sb)] 105 (0,0))::((B.kb,.map y.1.2.2.es y.1.2.2.c)::((b1,.cells #[.int .i64 f.kind,str f.a,str f.b,str f.r,.int .i64 f.lo,.int .i64 f.hi] 24 (0,0))::y.1.2.2.h)))) (fun y=>[ax_ y.1.2.1,af_ B.pad (List.flatMap Pc.cells p),mlF Tryz.prog 111 Ky.val N_ B.pb fm afm,imF D,mlF Tryz.prog 114 aU_ N_ B.ob x.frm aob,mlF Tryz.prog 114 aU_ N_ B.ib x.into aib]) (fun y=>List.length (lat fm (Ky.mk 5 f.r [])) - y.1.1) ⟨((0:Nat),l,y),by simp,by exact hS,by exact hE,List.prefix_refl _,(eD_.zero),by exact hD⟩ zl zp zf ?_
 rintro ⟨⟨i,l_i,y_i⟩,hi_i,hS_i,hE_i,hp_i,hu_i,hD_i⟩
 dsimp only at hi_i hS_i hE_i hp_i hu_i hD_i ⊢
 have hb_i:=Nat.le_trans (Nat.le_trans (bc_ fm (Ky.mk 5 f.r [])) hfd.len) (Nat.mul_le_mul_left 2 hpl)
 refine Zi 2 (fun hr1=>?_) fun hr1=>?_
 ·refine Zz 9 ?_
  refine s_ 0 [0,1,2,3,4,5,6,7,8,9] zk zs (Zz 6 ?_)
  refine R_ rfl (H_ ef_ rfl rfl) rfl (R_ rfl (aR_ (k:=(Ky.mk 6 f.r [])) (adr:=afm) eJ_ bA_ Z_ rfl rfl zf) rfl (Zz 6 ?_))
  refine Q_ (ι:={y:Nat×List Stp×PSt // y.1≤List.length (lat fm (Ky.mk 6 f.r []))∧y.2.2.ok y.2.1∧Eng p A y.2.1∧l_i <+: y.2.1∧eD_ p (lat fm (Ky.mk 6 f.r [])) y.1 (fun u=>hu_ l (lat x.frm (Fc.b f,Pc.s u)) fun s=>I_ f.a u.t (Fc.b s.fact)∈fcs y.2.1)∧Fre D y.2.1}) (fun y=>[(0,zp_ B.g 0),(2,.int .i64 (n:Int)),(4,zp_ b1 0),(23,.slice (Prod.fst (afm (Ky.mk 5 f.r []))) (List.length (lat fm (Ky.mk 5 f.r []))) (Prod.snd (afm (Ky.mk 5 f.r [])))),(24,.int .i64 (List.length (lat fm (Ky.mk 5 f.r [])):Int)),(25,.int .i64 (i:Int)),(55,.slice (Prod.fst (afm (Ky.mk 6 f.r []))) (List.length (lat fm (Ky.mk 6 f.r []))) (Prod.snd (afm (Ky.mk 6 f.r [])))),(56,.int .i64 (List.length (lat fm (Ky.mk 6 f.r [])):Int)),(57,.int .i64 (y.1.1:Int))]) (fun y=>((B.g,.cells #[.slice B.pad (List.length p) B.pcap,.map (some B.pb),y.1.2.2.sv,.map (some B.kb),.map (some B.ab),.map (some B.ub),.map (some B.ob),.map (some B.ib),.map (some B.rb),.map (some B.sb)] 105 (0,0))::((B.kb,.map y.1.2.2.es y.1.2.2.c)::((b1,.cells #[.int .i64 f.kind,str f.a,str f.b,str f.r,.int .i64 f.lo,.int .i64 f.hi] 24 (0,0))::y.1.2.2.h)))) (fun y=>[ax_ y.1.2.1,af_ B.pad (List.flatMap Pc.cells p),mlF Tryz.prog 111 Ky.val N_ B.pb fm afm,imF D,mlF Tryz.prog 114 aU_ N_ B.ob x.frm aob,mlF Tryz.prog 114 aU_ N_ B.ib x.into aib]) (fun y=>List.length (lat fm (Ky.mk 6 f.r [])) - y.1.1) ⟨((0:Nat),l_i,y_i),by simp,by exact hS_i,by exact hE_i,List.prefix_refl _,(eD_.zero),by exact hD_i⟩ zl zp zh ?_
  rintro ⟨⟨j,l_j,y_j⟩,hi_j,hS_j,hE_j,hp_j,hu_j,hD_j⟩
  dsimp only at hi_j hS_j hE_j hp_j hu_j hD_j ⊢
  have hb_j:=Nat.le_trans (Nat.le_trans (bc_ fm (Ky.mk 6 f.r [])) hfd.len) (Nat.mul_le_mul_left 2 hpl)
  refine Zi 2 (fun hr2=>?_) fun hr2=>?_
  ·refine Zz 8 ?_
   refine s_ 0 [0,1,2,3,4,5,6,7,8,9] zk zs (Zz 6 ?_)
   refine R_ rfl (H_ ef_ rfl rfl) rfl (R_ rfl (aR_ (k:=(Ky.mk 6 [] f.r)) (adr:=afm) eJ_ bA_ Z_ rfl rfl zf) rfl (Zz 6 ?_))
   refine Q_ (ι:={y:Nat×List Stp×PSt // y.1≤List.length (lat fm (Ky.mk 6 [] f.r))∧y.2.2.ok y.2.1∧Eng p A y.2.1∧l_j <+: y.2.1∧eD_ p (lat fm (Ky.mk 6 [] f.r)) y.1 (fun u=>hu_ l (lat x.into (Fc.a f,Pc.r u)) fun s=>I_ (Fc.a s.fact) u.t f.b∈fcs y.2.1)∧Fre D y.2.1}) (fun y=>[(0,zp_ B.g 0),(2,.int .i64 (n:Int)),(4,zp_ b1 0),(23,.slice (Prod.fst (afm (Ky.mk 5 f.r []))) (List.length (lat fm (Ky.mk 5 f.r []))) (Prod.snd (afm (Ky.mk 5 f.r [])))),(24,.int .i64 (List.length (lat fm (Ky.mk 5 f.r [])):Int)),(25,.int .i64 (i:Int)),(55,.slice (Prod.fst (afm (Ky.mk 6 f.r []))) (List.length (lat fm (Ky.mk 6 f.r []))) (Prod.snd (afm (Ky.mk 6 f.r [])))),(56,.int .i64 (List.length (lat fm (Ky.mk 6 f.r [])):Int)),(57,.int .i64 (j:Int)),(117,.slice (Prod.fst (afm (Ky.mk 6 [] f.r))) (List.length (lat fm (Ky.mk 6 [] f.r))) (Prod.snd (afm (Ky.mk 6 [] f.r)))),(118,.int .i64 (List.length (lat fm (Ky.mk 6 [] f.r)):Int)),(119,.int .i64 (y.1.1:Int))]) (fun y=>((B.g,.cells #[.slice B.pad (List.length p) B.pcap,.map (some B.pb),y.1.2.2.sv,.map (some B.kb),.map (some B.ab),.map (some B.ub),.map (some B.ob),.map (some B.ib),.map (some B.rb),.map (some B.sb)] 105 (0,0))::((B.kb,.map y.1.2.2.es y.1.2.2.c)::((b1,.cells #[.int .i64 f.kind,str f.a,str f.b,str f.r,.int .i64 f.lo,.int .i64 f.hi] 24 (0,0))::y.1.2.2.h)))) (fun y=>[ax_ y.1.2.1,af_ B.pad (List.flatMap Pc.cells p),mlF Tryz.prog 111 Ky.val N_ B.pb fm afm,imF D,mlF Tryz.prog 114 aU_ N_ B.ob x.frm aob,mlF Tryz.prog 114 aU_ N_ B.ib x.into aib]) (fun y=>List.length (lat fm (Ky.mk 6 [] f.r)) - y.1.1) ⟨((0:Nat),l_j,y_j),by simp,by exact hS_j,by exact hE_j,List.prefix_refl _,(eD_.zero),by exact hD_j⟩ zl zp zh ?_
   rintro ⟨⟨m,l_m,y_m⟩,hi_m,hS_m,hE_m,hp_m,hu_m,hD_m⟩
   dsimp only at hi_m hS_m hE_m hp_m hu_m hD_m ⊢
   have hb_m:=Nat.le_trans (Nat.le_trans (bc_ fm (Ky.mk 6 [] f.r)) hfd.len) (Nat.mul_le_mul_left 2 hpl)
   refine Zi 2 (fun hr3=>?_) fun hr3=>?_
   ·refine Zz 6 ?_
    exact end0 Tryz.results68 ⟨(l_m,y_m),hS_m,hE_m,((((List.prefix_refl l).trans hp_i).trans hp_j).trans hp_m),hD_m,⟨(hu_i.done (by omega)).mono fun x hx=>ai_ (hp_j.trans hp_m) hx,(hu_j.done (by omega)).mono fun x hx=>hx.mono fun s hs=>ai_ hp_m hs,hu_m.done (by omega)⟩⟩ rfl (g_ d_ (g_ d_ F_)) zf
   obtain⟨hlx4,x4,hx4,hmx4⟩:=zge (show m<List.length (lat fm (Ky.mk 6 [] f.r)) by omega)
   obtain⟨k_x4,z_x4,e_x4,hz_x4,hk_x4⟩:=hfd.snd _ _ (bb_.1 hmx4)
   subst e_x4
   have hlz_x4:k_x4<List.length p:=(List.getElem?_eq_some_iff.1 hz_x4).1
   have hmz_x4:z_x4∈p:=List.mem_of_getElem? hz_x4
   refine Zz 10 ?_
   refine i_ (X_ f_ o_ rfl rfl (fun v _ h=>G_ (n:=1) D_ (by decide) (by exact (aw_ h.2.2.1 (Ky.mk 6 [] f.r))) hx4) (by omega) (by first|omega|(simp;done))) rfl ?_
   refine i_ (at_ (ad:=(Prod.fst (afm (Ky.mk 6 [] f.r)))) O_ rfl (fun v _ h=>by exact (aw_ h.2.2.1 (Ky.mk 6 [] f.r))) (t_ D_ hx4 0 _ rfl)) rfl (Zz 5 ?_)
   refine s_ 0 [0,1,2,3,4,5,6,7,8,9,10,11,12,13,14,15,16,17] zk zs (Zz 14 ?_)
   refine R_ rfl (H_ gE_ rfl rfl) rfl (R_ rfl (aR_ (k:=(f.a,z_x4.r)) (adr:=aib) ca_ aO_ Z_ rfl rfl zf) rfl (Zz 6 ?_))
   refine Q_ (ι:={y:Nat×List Stp×PSt // y.1≤List.length (lat x.into (f.a,z_x4.r))∧y.2.2.ok y.2.1∧Eng p A y.2.1∧l_m <+: y.2.1∧fD_ l (lat x.into (f.a,z_x4.r)) y.1 (fun s=>I_ (Fc.a s.fact) z_x4.t f.b∈fcs y.2.1)∧Fre D y.2.1}) (fun y=>[(0,zp_ B.g 0),(2,.int .i64 (n:Int)),(4,zp_ b1 0),(23,.slice (Prod.fst (afm (Ky.mk 5 f.r []))) (List.length (lat fm (Ky.mk 5 f.r []))) (Prod.snd (afm (Ky.mk 5 f.r [])))),(24,.int .i64 (List.length (lat fm (Ky.mk 5 f.r [])):Int)),(25,.int .i64 (i:Int)),(55,.slice (Prod.fst (afm (Ky.mk 6 f.r []))) (List.length (lat fm (Ky.mk 6 f.r []))) (Prod.snd (afm (Ky.mk 6 f.r [])))),(56,.int .i64 (List.length (lat fm (Ky.mk 6 f.r [])):Int)),(57,.int .i64 (j:Int)),(117,.slice (Prod.fst (afm (Ky.mk 6 [] f.r))) (List.length (lat fm (Ky.mk 6 [] f.r))) (Prod.snd (afm (Ky.mk 6 [] f.r)))),(118,.int .i64 (List.length (lat fm (Ky.mk 6 [] f.r)):Int)),(119,.int .i64 (m:Int)),(13,.int .i64 (k_x4:Int)),(138,.slice (Prod.fst (aib (f.a,z_x4.r))) (List.length (lat x.into (f.a,z_x4.r))) (Prod.snd (aib (f.a,z_x4.r)))),(139,.int .i64 (List.length (lat x.into (f.a,z_x4.r)):Int)),(140,.int .i64 (y.1.1:Int))]) (fun y=>((B.g,.cells #[.slice B.pad (List.length p) B.pcap,.map (some B.pb),y.1.2.2.sv,.map (some B.kb),.map (some B.ab),.map (some B.ub),.map (some B.ob),.map (some B.ib),.map (some B.rb),.map (some B.sb)] 105 (0,0))::((B.kb,.map y.1.2.2.es y.1.2.2.c)::((b1,.cells #[.int .i64 f.kind,str f.a,str f.b,str f.r,.int .i64 f.lo,.int .i64 f.hi] 24 (0,0))::y.1.2.2.h)))) (fun y=>[ax_ y.1.2.1,af_ B.pad (List.flatMap Pc.cells p),mlF Tryz.prog 111 Ky.val N_ B.pb fm afm,imF D,mlF Tryz.prog 114 aU_ N_ B.ob x.frm aob,mlF Tryz.prog 114 aU_ N_ B.ib x.into aib]) (fun y=>List.length (lat x.into (f.a,z_x4.r)) - y.1.1) ⟨((0:Nat),l_m,y_m),by simp,by exact hS_m,by exact hE_m,List.prefix_refl _,(fD_.zero),by exact hD_m⟩ zl zp zh ?_
   rintro ⟨⟨o,l_o,y_o⟩,hi_o,hS_o,hE_o,hp_o,hu_o,hD_o⟩
   dsimp only at hi_o hS_o hE_o hp_o hu_o hD_o ⊢
   have hb_o:=Nat.le_trans (bc_ x.into (f.a,z_x4.r)) (Nat.le_trans hxl.into hn1)
   refine Zi 2 (fun hr4=>?_) fun hr4=>?_
   ·refine Zz 11 ?_
    exact y_ ⟨(m+1,l_o,y_o),hlx4,hS_o,hE_o,(hp_m.trans ((List.prefix_refl l_m).trans hp_o)),(hu_m.step (fun x hx=>hx.mono fun s hs=>ai_ ((List.prefix_refl l_m).trans hp_o) hs) hx4 hz_x4 (by exact hu_o.done (by omega))),hD_o⟩ (by dsimp only;omega) zl zp zh
   obtain⟨hlx5,x5,hx5,hmx5⟩:=zge (show o<List.length (lat x.into (f.a,z_x4.r)) by omega)
   obtain⟨k_x5,s_x5,e_x5,hj_x5,hQ_x5,hk_x5⟩:=(hx.into _ _).1 (bb_.1 hmx5)
   subst e_x5
   have hg_x5:l[k_x5]? = some s_x5:=dG_ hj_x5
   have hc_x5:l_o[k_x5]? = some s_x5:=dR_ (((((List.prefix_refl l).trans hp_i).trans hp_j).trans hp_m).trans hp_o) hg_x5
   have hlc_x5:k_x5<List.length l_o:=(List.getElem?_eq_some_iff.1 hc_x5).1
   dsimp only at hk_x5 hQ_x5
   refine Zz 10 ?_
   refine i_ (X_ f_ o_ rfl rfl (fun v _ h=>G_ (n:=1) D_ (by decide) (by exact (aw_ h.2.2.2.2.2.1 (f.a,z_x4.r))) hx5) (by omega) (by first|omega|(simp;done))) rfl ?_
   refine i_ (at_ (ad:=(Prod.fst (aib (f.a,z_x4.r)))) O_ rfl (fun v _ h=>by exact (aw_ h.2.2.2.2.2.1 (f.a,z_x4.r))) (t_ D_ hx5 0 _ rfl)) rfl (Zz 3 ?_)
   refine eF_ (iy_ B.g (gpF B p) 105) ((b1,.cells #[.int .i64 f.kind,str f.a,str f.b,str f.r,.int .i64 f.lo,.int .i64 f.hi] 24 (0,0))::[]) zk ?_
   refine dU_ 8 [0,1,2,3,5,10,11,12,13,14,15,16,17,18,19,21,22,23] zk (ab_ (F:=(gpF B p)) (ac_ d_ (c_ d_)) fun v a b=>b) (L_ rfl (az_ rfl) rfl (L_ rfl (az_ rfl) rfl (L_ rfl (cM_ rfl) rfl (L_ rfl (bh_ aA_ rfl rfl rfl ei_) rfl (L_ rfl (az_ rfl) rfl (L_ rfl (az_ rfl) rfl (L_ rfl (cM_ rfl) rfl (L_ rfl (bh_ aA_ rfl rfl rfl ej_) rfl (L_ rfl (eo_ (F:=(gpF B p)) fF_ rfl zf (fun _=>rfl)) rfl ?_)))))))))
   refine L_ rfl (az_ rfl) rfl ?_
   refine L_ rfl (X_ ad_ Y_ rfl rfl (fun v _ h=>G_ (n:=10) Pc.cells_len (by decide) (by exact h.2.2.1) hz_x4) (by omega) (by first|omega|(simp;done))) rfl ?_
   refine L_ rfl (cY_ aM_ rfl rfl rfl M_) rfl (L_ rfl (at_ (ad:=B.pad) U_ rfl zf (t_ Pc.cells_len hz_x4 6 _ rfl)) rfl (L_ rfl (bh_ aq_ rfl rfl rfl M_) rfl (L_ rfl (bx_ 0 U_ rfl rfl rfl) rfl (L_ rfl (az_ rfl) rfl (L_ rfl (az_ rfl) rfl (L_ rfl (az_ rfl) rfl (dP_ ?_)))))))
   refine bW_ 4 24 rfl rfl zk ?_ ?_
   ·refine Zz 3 ?_
    refine W_ (ab_ (F:=(gpF B p)) (ac_ d_ (c_ d_)) fun v a b=>b) (dU_ 4 [6,7,8] zk (ab_ (F:=(gpF B p)) (ac_ d_ (c_ d_)) fun v a b=>b) (L_ rfl (ah_ hS_o.1 P_ ap_ rfl rfl (by omega) (by omega)) rfl (L_ rfl (bh_ ba_ rfl rfl rfl B_) rfl (L_ rfl (dF_ aq_ rfl rfl rfl M_) rfl (dP_ ?_)))))
    refine bW_ 9 24 rfl rfl zk ?_ ?_
    ·refine i_ (av_ hS_o.1 zp U_ rfl (t_ Stp.cells_len hc_x5 2 _ rfl)) rfl (Zz 2 ?_)
     refine W_ (ab_ (F:=(gpF B p)) (ac_ d_ (c_ d_)) fun v a b=>b) ?_
     refine bW_ 20 24 rfl rfl zk ?_ ?_
     ·refine n_ (dD_ (Fc.a s_x5.fact) z_x4.t f.b) rfl m_ zt rfl fun _=>Zz 2 ?_
      refine W_ (ab_ (F:=(gpF B p)) (ac_ d_ (c_ d_)) fun v a b=>b) (j_ 24 rfl zk (S_ f_ o_ A_ rfl rfl rfl rfl rfl rfl fun b2=>?_))
      refine cx_ (fun v h1 h=>(cc_ h1 d_ (by exact h.2.2.2.1):¬ D b2)) fun hnd_b2=>?_
      refine aB_ (List.flatMap N_ [(k_x5:Int),(n:Int)]) d_ rfl ?_
      refine Zz 2 ?_
      refine W_ (ab_ (F:=(gpF B p)) (ac_ d_ (c_ d_)) fun v a b=>b.2) (j_ 25 rfl zk (n_ (cb_ B p 7 (k_x4:Int) (I_ (Fc.a s_x5.fact) z_x4.t f.b) (some ⟨b2,0,none⟩) 2 [(k_x5:Int),(n:Int)] l_o y_o.sv y_o.es y_o.c y_o.h hS_o.1 hS_o.2 (Nat.le_trans (hB _ hE_o) (by decide))) rfl zp zf rfl fun⟨⟨l1,y1⟩,hl1,hy1⟩=>?_))
      dsimp only
      simp only[PSt.own,List.cons_append]
      have hE1:Eng p A l1:=bD_ hl1 hE_o (pl_ hE_o hv hfr hz_x4 hk_x4 (hAt.pre (((((List.prefix_refl l).trans hp_i).trans hp_j).trans hp_m).trans hp_o)) hc_x5 hQ_x5 hk_x5) (show (7:Int)≤14 from by decide)
      have hq1:l_o <+: l1:=bB_ hl1
      have hm1:=bC_ hl1;dsimp only at hm1
      have hD1:Fre D l1:=cd_ hl1 hD_o (fun _=>bO_ hnd_b2)
      refine Zz 2 ?_
      refine W_ (ab_ (F:=(gpF B p)) (ac_ d_ (c_ V_)) fun v a b=>b.2.2) (Zz 2 ?_)
      refine u_ (q_ d_ (q_ d_ (ak_ V_))) (Zz 5 ?_)
      exact y_ ⟨(o+1,l1,y1),hlx5,hy1,hE1,(hp_o.trans ((List.prefix_refl l_o).trans hq1)),(hu_o.step (fun x hx=>ai_ ((List.prefix_refl l_o).trans hq1) hx) hx5 hg_x5 (by exact hm1)),hD1⟩ (by dsimp only;omega) zl zp zf
     refine S_ f_ o_ A_ rfl rfl rfl rfl rfl rfl fun b3=>?_
     refine cx_ (fun v h1 h=>(cc_ h1 d_ (by exact h.2.2.2.1):¬ D b3)) fun hnd_b3=>?_
     refine aB_ (List.flatMap N_ [(k_x5:Int),(n:Int)]) d_ rfl ?_
     refine Zz 2 ?_
     refine W_ (ab_ (F:=(gpF B p)) (ac_ d_ (c_ d_)) fun v a b=>b.2) (j_ 20 rfl zk (n_ (dD_ (Fc.a s_x5.fact) z_x4.t f.b) rfl m_ zt rfl fun _=>Zz 2 ?_))
     refine W_ (ab_ (F:=(gpF B p)) (ac_ d_ (c_ d_)) fun v a b=>b.2) (j_ 25 rfl zk (n_ (cb_ B p 7 (k_x4:Int) (I_ (Fc.a s_x5.fact) z_x4.t f.b) (some ⟨b3,0,none⟩) 2 [(k_x5:Int),(n:Int)] l_o y_o.sv y_o.es y_o.c y_o.h hS_o.1 hS_o.2 (Nat.le_trans (hB _ hE_o) (by decide))) rfl zp zf rfl fun⟨⟨l2,y2⟩,hl2,hy2⟩=>?_))
     dsimp only
     simp only[PSt.own,List.cons_append]
     have hE2:Eng p A l2:=bD_ hl2 hE_o (pl_ hE_o hv hfr hz_x4 hk_x4 (hAt.pre (((((List.prefix_refl l).trans hp_i).trans hp_j).trans hp_m).trans hp_o)) hc_x5 hQ_x5 hk_x5) (show (7:Int)≤14 from by decide)
     have hq2:l_o <+: l2:=bB_ hl2
     have hm2:=bC_ hl2;dsimp only at hm2
     have hD2:Fre D l2:=cd_ hl2 hD_o (fun _=>bO_ hnd_b3)
     refine Zz 2 ?_
     refine W_ (ab_ (F:=(gpF B p)) (ac_ d_ (c_ V_)) fun v a b=>b.2.2) (Zz 2 ?_)
     refine u_ (q_ d_ (q_ d_ (ak_ V_))) (Zz 5 ?_)
     exact y_ ⟨(o+1,l2,y2),hlx5,hy2,hE2,(hp_o.trans ((List.prefix_refl l_o).trans hq2)),(hu_o.step (fun x hx=>ai_ ((List.prefix_refl l_o).trans hq2) hx) hx5 hg_x5 (by exact hm2)),hD2⟩ (by dsimp only;omega) zl zp zf
    refine S_ f_ o_ A_ rfl rfl rfl rfl rfl rfl fun b4=>?_
    refine cx_ (fun v h1 h=>(cc_ h1 d_ (by exact h.2.2.2.1):¬ D b4)) fun hnd_b4=>?_
    refine aB_ (List.flatMap N_ [(k_x5:Int),(n:Int)]) d_ rfl ?_
    refine Zz 2 ?_
    refine W_ (ab_ (F:=(gpF B p)) (ac_ d_ (c_ d_)) fun v a b=>b.2) (j_ 9 rfl zk (i_ (av_ hS_o.1 zp U_ rfl (t_ Stp.cells_len hc_x5 2 _ rfl)) rfl (Zz 2 ?_)))
    refine W_ (ab_ (F:=(gpF B p)) (ac_ d_ (c_ d_)) fun v a b=>b.2) (j_ 20 rfl zk (n_ (dD_ (Fc.a s_x5.fact) z_x4.t f.b) rfl m_ zt rfl fun _=>Zz 2 ?_))
    refine W_ (ab_ (F:=(gpF B p)) (ac_ d_ (c_ d_)) fun v a b=>b.2) (j_ 25 rfl zk (n_ (cb_ B p 7 (k_x4:Int) (I_ (Fc.a s_x5.fact) z_x4.t f.b) (some ⟨b4,0,none⟩) 2 [(k_x5:Int),(n:Int)] l_o y_o.sv y_o.es y_o.c y_o.h hS_o.1 hS_o.2 (Nat.le_trans (hB _ hE_o) (by decide))) rfl zp zf rfl fun⟨⟨l3,y3⟩,hl3,hy3⟩=>?_))
    dsimp only
    simp only[PSt.own,List.cons_append]
    have hE3:Eng p A l3:=bD_ hl3 hE_o (pl_ hE_o hv hfr hz_x4 hk_x4 (hAt.pre (((((List.prefix_refl l).trans hp_i).trans hp_j).trans hp_m).trans hp_o)) hc_x5 hQ_x5 hk_x5) (show (7:Int)≤14 from by decide)
    have hq3:l_o <+: l3:=bB_ hl3
    have hm3:=bC_ hl3;dsimp only at hm3
    have hD3:Fre D l3:=cd_ hl3 hD_o (fun _=>bO_ hnd_b4)
    refine Zz 2 ?_
    refine W_ (ab_ (F:=(gpF B p)) (ac_ d_ (c_ V_)) fun v a b=>b.2.2) (Zz 2 ?_)
    refine u_ (q_ d_ (q_ d_ (ak_ V_))) (Zz 5 ?_)
    exact y_ ⟨(o+1,l3,y3),hlx5,hy3,hE3,(hp_o.trans ((List.prefix_refl l_o).trans hq3)),(hu_o.step (fun x hx=>ai_ ((List.prefix_refl l_o).trans hq3) hx) hx5 hg_x5 (by exact hm3)),hD3⟩ (by dsimp only;omega) zl zp zf
   refine S_ f_ o_ A_ rfl rfl rfl rfl rfl rfl fun b5=>?_
   refine cx_ (fun v h1 h=>(cc_ h1 d_ (by exact h.2.2.2.1):¬ D b5)) fun hnd_b5=>?_
   refine aB_ (List.flatMap N_ [(k_x5:Int),(n:Int)]) d_ rfl ?_
   refine Zz 2 ?_
   refine W_ (ab_ (F:=(gpF B p)) (ac_ d_ (c_ d_)) fun v a b=>b.2) (j_ 4 rfl zk (Zz 3 ?_))
   refine W_ (ab_ (F:=(gpF B p)) (ac_ d_ (c_ d_)) fun v a b=>b.2) (dU_ 3 [6,7,8] zk (ab_ (F:=(gpF B p)) (ac_ d_ (c_ d_)) fun v a b=>b.2) (L_ rfl (ah_ hS_o.1 P_ ap_ rfl rfl (by omega) (by omega)) rfl (L_ rfl (bh_ ba_ rfl rfl rfl B_) rfl (L_ rfl (dF_ aq_ rfl rfl rfl M_) rfl (dP_ (j_ 9 rfl zk (i_ (av_ hS_o.1 zp U_ rfl (t_ Stp.cells_len hc_x5 2 _ rfl)) rfl (Zz 2 ?_))))))))
   refine W_ (ab_ (F:=(gpF B p)) (ac_ d_ (c_ d_)) fun v a b=>b.2) (j_ 20 rfl zk (n_ (dD_ (Fc.a s_x5.fact) z_x4.t f.b) rfl m_ zt rfl fun _=>Zz 2 ?_))
   refine W_ (ab_ (F:=(gpF B p)) (ac_ d_ (c_ d_)) fun v a b=>b.2) (j_ 25 rfl zk (n_ (cb_ B p 7 (k_x4:Int) (I_ (Fc.a s_x5.fact) z_x4.t f.b) (some ⟨b5,0,none⟩) 2 [(k_x5:Int),(n:Int)] l_o y_o.sv y_o.es y_o.c y_o.h hS_o.1 hS_o.2 (Nat.le_trans (hB _ hE_o) (by decide))) rfl zp zf rfl fun⟨⟨l4,y4⟩,hl4,hy4⟩=>?_))
   dsimp only
   simp only[PSt.own,List.cons_append]
   have hE4:Eng p A l4:=bD_ hl4 hE_o (pl_ hE_o hv hfr hz_x4 hk_x4 (hAt.pre (((((List.prefix_refl l).trans hp_i).trans hp_j).trans hp_m).trans hp_o)) hc_x5 hQ_x5 hk_x5) (show (7:Int)≤14 from by decide)
   have hq4:l_o <+: l4:=bB_ hl4
   have hm4:=bC_ hl4;dsimp only at hm4
   have hD4:Fre D l4:=cd_ hl4 hD_o (fun _=>bO_ hnd_b5)
   refine Zz 2 ?_
   refine W_ (ab_ (F:=(gpF B p)) (ac_ d_ (c_ V_)) fun v a b=>b.2.2) (Zz 2 ?_)
   refine u_ (q_ d_ (q_ d_ (ak_ V_))) (Zz 5 ?_)
   exact y_ ⟨(o+1,l4,y4),hlx5,hy4,hE4,(hp_o.trans ((List.prefix_refl l_o).trans hq4)),(hu_o.step (fun x hx=>ai_ ((List.prefix_refl l_o).trans hq4) hx) hx5 hg_x5 (by exact hm4)),hD4⟩ (by dsimp only;omega) zl zp zf
  obtain⟨hlx2,x2,hx2,hmx2⟩:=zge (show j<List.length (lat fm (Ky.mk 6 f.r [])) by omega)
  obtain⟨k_x2,z_x2,e_x2,hz_x2,hk_x2⟩:=hfd.snd _ _ (bb_.1 hmx2)
  subst e_x2
  have hlz_x2:k_x2<List.length p:=(List.getElem?_eq_some_iff.1 hz_x2).1
  have hmz_x2:z_x2∈p:=List.mem_of_getElem? hz_x2
  refine Zz 10 ?_
  refine i_ (X_ f_ o_ rfl rfl (fun v _ h=>G_ (n:=1) D_ (by decide) (by exact (aw_ h.2.2.1 (Ky.mk 6 f.r []))) hx2) (by omega) (by first|omega|(simp;done))) rfl ?_
  refine i_ (at_ (ad:=(Prod.fst (afm (Ky.mk 6 f.r [])))) O_ rfl (fun v _ h=>by exact (aw_ h.2.2.1 (Ky.mk 6 f.r []))) (t_ D_ hx2 0 _ rfl)) rfl (Zz 5 ?_)
  refine s_ 0 [0,1,2,3,4,5,6,7,8,9,10,11,12,13,14,15,16,17] zk zs (Zz 14 ?_)
  refine R_ rfl (H_ gE_ rfl rfl) rfl (R_ rfl (aR_ (k:=(f.b,z_x2.s)) (adr:=aob) ca_ aO_ Z_ rfl rfl zf) rfl (Zz 6 ?_))
  refine Q_ (ι:={y:Nat×List Stp×PSt // y.1≤List.length (lat x.frm (f.b,z_x2.s))∧y.2.2.ok y.2.1∧Eng p A y.2.1∧l_j <+: y.2.1∧fD_ l (lat x.frm (f.b,z_x2.s)) y.1 (fun s=>I_ f.a z_x2.t (Fc.b s.fact)∈fcs y.2.1)∧Fre D y.2.1}) (fun y=>[(0,zp_ B.g 0),(2,.int .i64 (n:Int)),(4,zp_ b1 0),(23,.slice (Prod.fst (afm (Ky.mk 5 f.r []))) (List.length (lat fm (Ky.mk 5 f.r []))) (Prod.snd (afm (Ky.mk 5 f.r [])))),(24,.int .i64 (List.length (lat fm (Ky.mk 5 f.r [])):Int)),(25,.int .i64 (i:Int)),(55,.slice (Prod.fst (afm (Ky.mk 6 f.r []))) (List.length (lat fm (Ky.mk 6 f.r []))) (Prod.snd (afm (Ky.mk 6 f.r [])))),(56,.int .i64 (List.length (lat fm (Ky.mk 6 f.r [])):Int)),(57,.int .i64 (j:Int)),(9,.int .i64 (k_x2:Int)),(76,.slice (Prod.fst (aob (f.b,z_x2.s))) (List.length (lat x.frm (f.b,z_x2.s))) (Prod.snd (aob (f.b,z_x2.s)))),(77,.int .i64 (List.length (lat x.frm (f.b,z_x2.s)):Int)),(78,.int .i64 (y.1.1:Int))]) (fun y=>((B.g,.cells #[.slice B.pad (List.length p) B.pcap,.map (some B.pb),y.1.2.2.sv,.map (some B.kb),.map (some B.ab),.map (some B.ub),.map (some B.ob),.map (some B.ib),.map (some B.rb),.map (some B.sb)] 105 (0,0))::((B.kb,.map y.1.2.2.es y.1.2.2.c)::((b1,.cells #[.int .i64 f.kind,str f.a,str f.b,str f.r,.int .i64 f.lo,.int .i64 f.hi] 24 (0,0))::y.1.2.2.h)))) (fun y=>[ax_ y.1.2.1,af_ B.pad (List.flatMap Pc.cells p),mlF Tryz.prog 111 Ky.val N_ B.pb fm afm,imF D,mlF Tryz.prog 114 aU_ N_ B.ob x.frm aob,mlF Tryz.prog 114 aU_ N_ B.ib x.into aib]) (fun y=>List.length (lat x.frm (f.b,z_x2.s)) - y.1.1) ⟨((0:Nat),l_j,y_j),by simp,by exact hS_j,by exact hE_j,List.prefix_refl _,(fD_.zero),by exact hD_j⟩ zl zp zh ?_
  rintro ⟨⟨k,l_k,y_k⟩,hi_k,hS_k,hE_k,hp_k,hu_k,hD_k⟩
  dsimp only at hi_k hS_k hE_k hp_k hu_k hD_k ⊢
  have hb_k:=Nat.le_trans (bc_ x.frm (f.b,z_x2.s)) (Nat.le_trans hxl.frm hn1)
  refine Zi 2 (fun hr5=>?_) fun hr5=>?_
  ·refine Zz 11 ?_
   exact y_ ⟨(j+1,l_k,y_k),hlx2,hS_k,hE_k,(hp_j.trans ((List.prefix_refl l_j).trans hp_k)),(hu_j.step (fun x hx=>hx.mono fun s hs=>ai_ ((List.prefix_refl l_j).trans hp_k) hs) hx2 hz_x2 (by exact hu_k.done (by omega))),hD_k⟩ (by dsimp only;omega) zl zp zh
  obtain⟨hlx3,x3,hx3,hmx3⟩:=zge (show k<List.length (lat x.frm (f.b,z_x2.s)) by omega)
  obtain⟨k_x3,s_x3,e_x3,hj_x3,hQ_x3,hk_x3⟩:=(hx.frm _ _).1 (bb_.1 hmx3)
  subst e_x3
  have hg_x3:l[k_x3]? = some s_x3:=dG_ hj_x3
  have hc_x3:l_k[k_x3]? = some s_x3:=dR_ ((((List.prefix_refl l).trans hp_i).trans hp_j).trans hp_k) hg_x3
  have hlc_x3:k_x3<List.length l_k:=(List.getElem?_eq_some_iff.1 hc_x3).1
  dsimp only at hk_x3 hQ_x3
  refine Zz 10 ?_
  refine i_ (X_ f_ o_ rfl rfl (fun v _ h=>G_ (n:=1) D_ (by decide) (by exact (aw_ h.2.2.2.2.1 (f.b,z_x2.s))) hx3) (by omega) (by first|omega|(simp;done))) rfl ?_
  refine i_ (at_ (ad:=(Prod.fst (aob (f.b,z_x2.s)))) O_ rfl (fun v _ h=>by exact (aw_ h.2.2.2.2.1 (f.b,z_x2.s))) (t_ D_ hx3 0 _ rfl)) rfl (Zz 3 ?_)
  refine eF_ (iy_ B.g (gpF B p) 105) ((b1,.cells #[.int .i64 f.kind,str f.a,str f.b,str f.r,.int .i64 f.lo,.int .i64 f.hi] 24 (0,0))::[]) zk ?_
  refine dU_ 8 [0,1,2,3,4,5,6,7,8,9,10,11,12,13,15,21,22,23] zk (ab_ (F:=(gpF B p)) (ac_ d_ (c_ d_)) fun v a b=>b) (L_ rfl (az_ rfl) rfl (L_ rfl (bh_ aq_ rfl rfl rfl M_) rfl (L_ rfl (bx_ 0 U_ rfl rfl rfl) rfl (L_ rfl (az_ rfl) rfl (L_ rfl (cM_ rfl) rfl (L_ rfl (bh_ aA_ rfl rfl rfl ej_) rfl (L_ rfl (eo_ (F:=(gpF B p)) fF_ rfl zf (fun _=>rfl)) rfl (L_ rfl (az_ rfl) rfl ?_))))))))
  refine L_ rfl (X_ ad_ Y_ rfl rfl (fun v _ h=>G_ (n:=10) Pc.cells_len (by decide) (by exact h.2.2.1) hz_x2) (by omega) (by first|omega|(simp;done))) rfl ?_
  refine L_ rfl (cY_ aM_ rfl rfl rfl M_) rfl (L_ rfl (at_ (ad:=B.pad) U_ rfl zf (t_ Pc.cells_len hz_x2 6 _ rfl)) rfl (L_ rfl (az_ rfl) rfl (L_ rfl (cM_ rfl) rfl (L_ rfl (bh_ aA_ rfl rfl rfl ei_) rfl (L_ rfl (az_ rfl) rfl (L_ rfl (az_ rfl) rfl (L_ rfl (az_ rfl) rfl (L_ rfl (az_ rfl) rfl (dP_ ?_)))))))))
  refine bW_ 14 24 rfl rfl zk ?_ ?_
  ·refine Zz 3 ?_
   refine W_ (ab_ (F:=(gpF B p)) (ac_ d_ (c_ d_)) fun v a b=>b) (dU_ 4 [16,17,18] zk (ab_ (F:=(gpF B p)) (ac_ d_ (c_ d_)) fun v a b=>b) (L_ rfl (ah_ hS_k.1 P_ ap_ rfl rfl (by omega) (by omega)) rfl (L_ rfl (bh_ ba_ rfl rfl rfl B_) rfl (L_ rfl (dF_ aq_ rfl rfl rfl M_) rfl (dP_ ?_)))))
   refine bW_ 19 24 rfl rfl zk ?_ ?_
   ·refine i_ (av_ hS_k.1 zp U_ rfl (t_ Stp.cells_len hc_x3 3 _ rfl)) rfl (Zz 2 ?_)
    refine W_ (ab_ (F:=(gpF B p)) (ac_ d_ (c_ d_)) fun v a b=>b) ?_
    refine bW_ 20 24 rfl rfl zk ?_ ?_
    ·refine n_ (dD_ f.a z_x2.t (Fc.b s_x3.fact)) rfl m_ zt rfl fun _=>Zz 2 ?_
     refine W_ (ab_ (F:=(gpF B p)) (ac_ d_ (c_ d_)) fun v a b=>b) (j_ 24 rfl zk (S_ f_ o_ A_ rfl rfl rfl rfl rfl rfl fun b6=>?_))
     refine cx_ (fun v h1 h=>(cc_ h1 d_ (by exact h.2.2.2.1):¬ D b6)) fun hnd_b6=>?_
     refine aB_ (List.flatMap N_ [(n:Int),(k_x3:Int)]) d_ rfl ?_
     refine Zz 2 ?_
     refine W_ (ab_ (F:=(gpF B p)) (ac_ d_ (c_ d_)) fun v a b=>b.2) (j_ 25 rfl zk (n_ (cb_ B p 7 (k_x2:Int) (I_ f.a z_x2.t (Fc.b s_x3.fact)) (some ⟨b6,0,none⟩) 2 [(n:Int),(k_x3:Int)] l_k y_k.sv y_k.es y_k.c y_k.h hS_k.1 hS_k.2 (Nat.le_trans (hB _ hE_k) (by decide))) rfl zp zf rfl fun⟨⟨l5,y5⟩,hl5,hy5⟩=>?_))
     dsimp only
     simp only[PSt.own,List.cons_append]
     have hE5:Eng p A l5:=bD_ hl5 hE_k (pm_ hE_k hv hfr hz_x2 hk_x2 (hAt.pre ((((List.prefix_refl l).trans hp_i).trans hp_j).trans hp_k)) hc_x3 hQ_x3 hk_x3) (show (7:Int)≤14 from by decide)
     have hq5:l_k <+: l5:=bB_ hl5
     have hm5:=bC_ hl5;dsimp only at hm5
     have hD5:Fre D l5:=cd_ hl5 hD_k (fun _=>bO_ hnd_b6)
     refine Zz 2 ?_
     refine W_ (ab_ (F:=(gpF B p)) (ac_ d_ (c_ V_)) fun v a b=>b.2.2) (Zz 2 ?_)
     refine u_ (q_ d_ (q_ d_ (ak_ V_))) (Zz 5 ?_)
     exact y_ ⟨(k+1,l5,y5),hlx3,hy5,hE5,(hp_k.trans ((List.prefix_refl l_k).trans hq5)),(hu_k.step (fun x hx=>ai_ ((List.prefix_refl l_k).trans hq5) hx) hx3 hg_x3 (by exact hm5)),hD5⟩ (by dsimp only;omega) zl zp zf
    refine S_ f_ o_ A_ rfl rfl rfl rfl rfl rfl fun b7=>?_
    refine cx_ (fun v h1 h=>(cc_ h1 d_ (by exact h.2.2.2.1):¬ D b7)) fun hnd_b7=>?_
    refine aB_ (List.flatMap N_ [(n:Int),(k_x3:Int)]) d_ rfl ?_
    refine Zz 2 ?_
    refine W_ (ab_ (F:=(gpF B p)) (ac_ d_ (c_ d_)) fun v a b=>b.2) (j_ 20 rfl zk (n_ (dD_ f.a z_x2.t (Fc.b s_x3.fact)) rfl m_ zt rfl fun _=>Zz 2 ?_))
    refine W_ (ab_ (F:=(gpF B p)) (ac_ d_ (c_ d_)) fun v a b=>b.2) (j_ 25 rfl zk (n_ (cb_ B p 7 (k_x2:Int) (I_ f.a z_x2.t (Fc.b s_x3.fact)) (some ⟨b7,0,none⟩) 2 [(n:Int),(k_x3:Int)] l_k y_k.sv y_k.es y_k.c y_k.h hS_k.1 hS_k.2 (Nat.le_trans (hB _ hE_k) (by decide))) rfl zp zf rfl fun⟨⟨l6,y6⟩,hl6,hy6⟩=>?_))
    dsimp only
    simp only[PSt.own,List.cons_append]
    have hE6:Eng p A l6:=bD_ hl6 hE_k (pm_ hE_k hv hfr hz_x2 hk_x2 (hAt.pre ((((List.prefix_refl l).trans hp_i).trans hp_j).trans hp_k)) hc_x3 hQ_x3 hk_x3) (show (7:Int)≤14 from by decide)
    have hq6:l_k <+: l6:=bB_ hl6
    have hm6:=bC_ hl6;dsimp only at hm6
    have hD6:Fre D l6:=cd_ hl6 hD_k (fun _=>bO_ hnd_b7)
    refine Zz 2 ?_
    refine W_ (ab_ (F:=(gpF B p)) (ac_ d_ (c_ V_)) fun v a b=>b.2.2) (Zz 2 ?_)
    refine u_ (q_ d_ (q_ d_ (ak_ V_))) (Zz 5 ?_)
    exact y_ ⟨(k+1,l6,y6),hlx3,hy6,hE6,(hp_k.trans ((List.prefix_refl l_k).trans hq6)),(hu_k.step (fun x hx=>ai_ ((List.prefix_refl l_k).trans hq6) hx) hx3 hg_x3 (by exact hm6)),hD6⟩ (by dsimp only;omega) zl zp zf
   refine S_ f_ o_ A_ rfl rfl rfl rfl rfl rfl fun b8=>?_
   refine cx_ (fun v h1 h=>(cc_ h1 d_ (by exact h.2.2.2.1):¬ D b8)) fun hnd_b8=>?_
   refine aB_ (List.flatMap N_ [(n:Int),(k_x3:Int)]) d_ rfl ?_
   refine Zz 2 ?_
   refine W_ (ab_ (F:=(gpF B p)) (ac_ d_ (c_ d_)) fun v a b=>b.2) (j_ 19 rfl zk (i_ (av_ hS_k.1 zp U_ rfl (t_ Stp.cells_len hc_x3 3 _ rfl)) rfl (Zz 2 ?_)))
   refine W_ (ab_ (F:=(gpF B p)) (ac_ d_ (c_ d_)) fun v a b=>b.2) (j_ 20 rfl zk (n_ (dD_ f.a z_x2.t (Fc.b s_x3.fact)) rfl m_ zt rfl fun _=>Zz 2 ?_))
   refine W_ (ab_ (F:=(gpF B p)) (ac_ d_ (c_ d_)) fun v a b=>b.2) (j_ 25 rfl zk (n_ (cb_ B p 7 (k_x2:Int) (I_ f.a z_x2.t (Fc.b s_x3.fact)) (some ⟨b8,0,none⟩) 2 [(n:Int),(k_x3:Int)] l_k y_k.sv y_k.es y_k.c y_k.h hS_k.1 hS_k.2 (Nat.le_trans (hB _ hE_k) (by decide))) rfl zp zf rfl fun⟨⟨l7,y7⟩,hl7,hy7⟩=>?_))
   dsimp only
   simp only[PSt.own,List.cons_append]
   have hE7:Eng p A l7:=bD_ hl7 hE_k (pm_ hE_k hv hfr hz_x2 hk_x2 (hAt.pre ((((List.prefix_refl l).trans hp_i).trans hp_j).trans hp_k)) hc_x3 hQ_x3 hk_x3) (show (7:Int)≤14 from by decide)
   have hq7:l_k <+: l7:=bB_ hl7
   have hm7:=bC_ hl7;dsimp only at hm7
   have hD7:Fre D l7:=cd_ hl7 hD_k (fun _=>bO_ hnd_b8)
   refine Zz 2 ?_
   refine W_ (ab_ (F:=(gpF B p)) (ac_ d_ (c_ V_)) fun v a b=>b.2.2) (Zz 2 ?_)
   refine u_ (q_ d_ (q_ d_ (ak_ V_))) (Zz 5 ?_)
   exact y_ ⟨(k+1,l7,y7),hlx3,hy7,hE7,(hp_k.trans ((List.prefix_refl l_k).trans hq7)),(hu_k.step (fun x hx=>ai_ ((List.prefix_refl l_k).trans hq7) hx) hx3 hg_x3 (by exact hm7)),hD7⟩ (by dsimp only;omega) zl zp zf
  refine S_ f_ o_ A_ rfl rfl rfl rfl rfl rfl fun b9=>?_
  refine cx_ (fun v h1 h=>(cc_ h1 d_ (by exact h.2.2.2.1):¬ D b9)) fun hnd_b9=>?_
  refine aB_ (List.flatMap N_ [(n:Int),(k_x3:Int)]) d_ rfl ?_
  refine Zz 2 ?_
  refine W_ (ab_ (F:=(gpF B p)) (ac_ d_ (c_ d_)) fun v a b=>b.2) (j_ 14 rfl zk (Zz 3 ?_))
  refine W_ (ab_ (F:=(gpF B p)) (ac_ d_ (c_ d_)) fun v a b=>b.2) (dU_ 3 [16,17,18] zk (ab_ (F:=(gpF B p)) (ac_ d_ (c_ d_)) fun v a b=>b.2) (L_ rfl (ah_ hS_k.1 P_ ap_ rfl rfl (by omega) (by omega)) rfl (L_ rfl (bh_ ba_ rfl rfl rfl B_) rfl (L_ rfl (dF_ aq_ rfl rfl rfl M_) rfl (dP_ (j_ 19 rfl zk (i_ (av_ hS_k.1 zp U_ rfl (t_ Stp.cells_len hc_x3 3 _ rfl)) rfl (Zz 2 ?_))))))))
  refine W_ (ab_ (F:=(gpF B p)) (ac_ d_ (c_ d_)) fun v a b=>b.2) (j_ 20 rfl zk (n_ (dD_ f.a z_x2.t (Fc.b s_x3.fact)) rfl m_ zt rfl fun _=>Zz 2 ?_))
  refine W_ (ab_ (F:=(gpF B p)) (ac_ d_ (c_ d_)) fun v a b=>b.2) (j_ 25 rfl zk (n_ (cb_ B p 7 (k_x2:Int) (I_ f.a z_x2.t (Fc.b s_x3.fact)) (some ⟨b9,0,none⟩) 2 [(n:Int),(k_x3:Int)] l_k y_k.sv y_k.es y_k.c y_k.h hS_k.1 hS_k.2 (Nat.le_trans (hB _ hE_k) (by decide))) rfl zp zf rfl fun⟨⟨l8,y8⟩,hl8,hy8⟩=>?_))
  dsimp only
  simp only[PSt.own,List.cons_append]
  have hE8:Eng p A l8:=bD_ hl8 hE_k (pm_ hE_k hv hfr hz_x2 hk_x2 (hAt.pre ((((List.prefix_refl l).trans hp_i).trans hp_j).trans hp_k)) hc_x3 hQ_x3 hk_x3) (show (7:Int)≤14 from by decide)
  have hq8:l_k <+: l8:=bB_ hl8
  have hm8:=bC_ hl8;dsimp only at hm8
  have hD8:Fre D l8:=cd_ hl8 hD_k (fun _=>bO_ hnd_b9)
  refine Zz 2 ?_
  refine W_ (ab_ (F:=(gpF B p)) (ac_ d_ (c_ V_)) fun v a b=>b.2.2) (Zz 2 ?_)
  refine u_ (q_ d_ (q_ d_ (ak_ V_))) (Zz 5 ?_)
  exact y_ ⟨(k+1,l8,y8),hlx3,hy8,hE8,(hp_k.trans ((List.prefix_refl l_k).trans hq8)),(hu_k.step (fun x hx=>ai_ ((List.prefix_refl l_k).trans hq8) hx) hx3 hg_x3 (by exact hm8)),hD8⟩ (by dsimp only;omega) zl zp zf
 obtain⟨hlx1,x1,hx1,hmx1⟩:=zge (show i<List.length (lat fm (Ky.mk 5 f.r [])) by omega)
 obtain⟨k_x1,z_x1,e_x1,hz_x1,hk_x1⟩:=hfd.snd _ _ (bb_.1 hmx1)
 subst e_x1
 have hlz_x1:k_x1<List.length p:=(List.getElem?_eq_some_iff.1 hz_x1).1
 have hmz_x1:z_x1∈p:=List.mem_of_getElem? hz_x1
 refine Zz 10 ?_
 refine i_ (X_ f_ o_ rfl rfl (fun v _ h=>G_ (n:=1) D_ (by decide) (by exact (aw_ h.2.2.1 (Ky.mk 5 f.r []))) hx1) (by omega) (by first|omega|(simp;done))) rfl ?_
 refine i_ (at_ (ad:=(Prod.fst (afm (Ky.mk 5 f.r [])))) O_ rfl (fun v _ h=>by exact (aw_ h.2.2.1 (Ky.mk 5 f.r []))) (t_ D_ hx1 0 _ rfl)) rfl (Zz 3 ?_)
 refine eF_ (iy_ B.g (gpF B p) 105) ((b1,.cells #[.int .i64 f.kind,str f.a,str f.b,str f.r,.int .i64 f.lo,.int .i64 f.hi] 24 (0,0))::[]) zk ?_
 refine dU_ 3 [0,1,2,3,4,5,6,7,8,9,10,11,12,14,15] zk (ab_ (F:=(gpF B p)) (ac_ d_ (c_ d_)) fun v a b=>b) (L_ rfl (az_ rfl) rfl (L_ rfl (bh_ aq_ rfl rfl rfl M_) rfl (L_ rfl (bx_ 0 U_ rfl rfl rfl) rfl (L_ rfl (az_ rfl) rfl (L_ rfl (cM_ rfl) rfl (L_ rfl (bh_ aA_ rfl rfl rfl ej_) rfl (L_ rfl (eo_ (F:=(gpF B p)) fF_ rfl zf (fun _=>rfl)) rfl (L_ rfl (az_ rfl) rfl ?_))))))))
 refine L_ rfl (X_ ad_ Y_ rfl rfl (fun v _ h=>G_ (n:=10) Pc.cells_len (by decide) (by exact h.2.2.1) hz_x1) (by omega) (by first|omega|(simp;done))) rfl ?_
 refine L_ rfl (cY_ aM_ rfl rfl rfl M_) rfl (L_ rfl (at_ (ad:=B.pad) U_ rfl zf (t_ Pc.cells_len hz_x1 6 _ rfl)) rfl (L_ rfl (bh_ aq_ rfl rfl rfl M_) rfl (L_ rfl (bx_ 0 U_ rfl rfl rfl) rfl (L_ rfl (az_ rfl) rfl (L_ rfl (az_ rfl) rfl (dP_ ?_))))))
 refine bW_ 13 16 rfl rfl zk ?_ ?_
 ·refine n_ (dD_ f.a z_x1.t f.b) rfl m_ zt rfl fun _=>Zz 2 ?_
  refine W_ (ab_ (F:=(gpF B p)) (ac_ d_ (c_ d_)) fun v a b=>b) (j_ 16 rfl zk (S_ f_ o_ A_ rfl rfl rfl rfl rfl rfl fun b10=>?_))
  refine cx_ (fun v h1 h=>(cc_ h1 d_ (by exact h.2.2.2.1):¬ D b10)) fun hnd_b10=>?_
  refine aB_ (List.flatMap N_ [(n:Int)]) d_ rfl ?_
  refine Zz 2 ?_
  refine W_ (ab_ (F:=(gpF B p)) (ac_ d_ (c_ d_)) fun v a b=>b.2) (j_ 17 rfl zk (n_ (cb_ B p 6 (k_x1:Int) (I_ f.a z_x1.t f.b) (some ⟨b10,0,none⟩) 1 [(n:Int)] l_i y_i.sv y_i.es y_i.c y_i.h hS_i.1 hS_i.2 (Nat.le_trans (hB _ hE_i) (by decide))) rfl zp zf rfl fun⟨⟨l9,y9⟩,hl9,hy9⟩=>?_))
  dsimp only
  simp only[PSt.own,List.cons_append]
  have hE9:Eng p A l9:=bD_ hl9 hE_i (cor6 hz_x1 hk_x1 (hAt.pre ((List.prefix_refl l).trans hp_i))) (show (6:Int)≤14 from by decide)
  have hq9:l_i <+: l9:=bB_ hl9
  have hm9:=bC_ hl9;dsimp only at hm9
  have hD9:Fre D l9:=cd_ hl9 hD_i (fun _=>bO_ hnd_b10)
  refine Zz 2 ?_
  refine W_ (ab_ (F:=(gpF B p)) (ac_ d_ (c_ V_)) fun v a b=>b.2.2) (Zz 2 ?_)
  refine u_ (q_ d_ (q_ d_ (ak_ V_))) (Zz 5 ?_)
  exact y_ ⟨(i+1,l9,y9),hlx1,hy9,hE9,(hp_i.trans ((List.prefix_refl l_i).trans hq9)),(hu_i.step (fun x hx=>ai_ ((List.prefix_refl l_i).trans hq9) hx) hx1 hz_x1 (by exact hm9)),hD9⟩ (by dsimp only;omega) zl zp zf
 refine S_ f_ o_ A_ rfl rfl rfl rfl rfl rfl fun b11=>?_
 refine cx_ (fun v h1 h=>(cc_ h1 d_ (by exact h.2.2.2.1):¬ D b11)) fun hnd_b11=>?_
 refine aB_ (List.flatMap N_ [(n:Int)]) d_ rfl ?_
 refine Zz 2 ?_
 refine W_ (ab_ (F:=(gpF B p)) (ac_ d_ (c_ d_)) fun v a b=>b.2) (j_ 13 rfl zk (n_ (dD_ f.a z_x1.t f.b) rfl m_ zt rfl fun _=>Zz 2 ?_))
 refine W_ (ab_ (F:=(gpF B p)) (ac_ d_ (c_ d_)) fun v a b=>b.2) (j_ 17 rfl zk (n_ (cb_ B p 6 (k_x1:Int) (I_ f.a z_x1.t f.b) (some ⟨b11,0,none⟩) 1 [(n:Int)] l_i y_i.sv y_i.es y_i.c y_i.h hS_i.1 hS_i.2 (Nat.le_trans (hB _ hE_i) (by decide))) rfl zp zf rfl fun⟨⟨l10,y10⟩,hl10,hy10⟩=>?_))
 dsimp only
 simp only[PSt.own,List.cons_append]
 have hE10:Eng p A l10:=bD_ hl10 hE_i (cor6 hz_x1 hk_x1 (hAt.pre ((List.prefix_refl l).trans hp_i))) (show (6:Int)≤14 from by decide)
 have hq10:l_i <+: l10:=bB_ hl10
 have hm10:=bC_ hl10;dsimp only at hm10
 have hD10:Fre D l10:=cd_ hl10 hD_i (fun _=>bO_ hnd_b11)
 refine Zz 2 ?_
 refine W_ (ab_ (F:=(gpF B p)) (ac_ d_ (c_ V_)) fun v a b=>b.2.2) (Zz 2 ?_)
 refine u_ (q_ d_ (q_ d_ (ak_ V_))) (Zz 5 ?_)
 exact y_ ⟨(i+1,l10,y10),hlx1,hy10,hE10,(hp_i.trans ((List.prefix_refl l_i).trans hq10)),(hu_i.step (fun x hx=>ai_ ((List.prefix_refl l_i).trans hq10) hx) hx1 hz_x1 (by exact hm10)),hD10⟩ (by dsimp only;omega) zl zp zf
theorem nD_ (B:PB) (p:List Pc) (A:List Str) (fm:List (Ky×Int)) (afm:Ky→Option Addr×Nat) (x:Jx) (aab aub:Str→Option Addr×Nat) (aob aib arb asb:eO_→Option Addr×Nat) (hv:∀ z∈p,z.vok) (hfd:Fnd p fm) (hpl:p.length≤16384) (n n1:Nat) (f:Fc) (l:List Stp) (y:PSt) (hS:y.ok l) (hE:Eng p A l) (hB:∀ l,Eng p A l→l.length≤65536) (D:Nat→Prop) (hD:Fre D l) (hx:x.of (l.take n1)) (hxl:x.len n1) (hn1:n1≤65536) (hform:f.form) (hn:n<65536) (hk:f.kind=2) (hfr:f.r≠[]) (hAt:At l n (I_ f.a f.r f.b)):Tri Tryz.prog 69 #[zp_ B.g 0,Fc.val f,.int .i64 (n:Int)] (y.own B p) [af_ B.pad (List.flatMap Pc.cells p),mlF Tryz.prog 111 Ky.val N_ B.pb fm afm,ax_ l,imF D,mlF Tryz.prog 9 str N_ B.ab x.above aab] (fun _:{y:List Stp×PSt // y.2.ok y.1∧Eng p A y.1∧l <+: y.1∧Fre D y.1∧RawL p fm x f l y.1}=>.tuple #[]) (fun y=>y.1.2.own B p) (fun y=>[ax_ y.1.1]):=by
 refine w_ Tryz.func69 rfl rfl Tryz.ntmps69 rfl fun v0=>?_
 refine Zz 2 ?_
 refine as_ rfl rfl fun b1=>Zz 5 ?_
 refine s_ 0 [0,1,2,3,4,5,6,7,8] zk zs (Zz 6 ?_)
 refine R_ rfl (aR_ (k:=f.b) (adr:=aab) dV_ be_ Z_ rfl rfl zf) rfl (Zz 6 ?_)
 refine Q_ (ι:={y:Nat×List Stp×PSt // y.1≤List.length (lat x.above f.b)∧y.2.2.ok y.2.1∧Eng p A y.2.1∧l <+: y.2.1∧fD_ l (lat x.above f.b) y.1 (fun s=>Und p fm (Ky.mk 4 f.r (Fc.b s.fact)) fun u=>C_ f.a u.c∈fcs y.2.1)∧Fre D y.2.1}) (fun y=>[(0,zp_ B.g 0),(2,.int .i64 (n:Int)),(4,zp_ b1 0),(18,.slice (Prod.fst (aab f.b)) (List.length (lat x.above f.b)) (Prod.snd (aab f.b))),(19,.int .i64 (List.length (lat x.above f.b):Int)),(20,.int .i64 (y.1.1:Int))]) (fun y=>((B.g,.cells #[.slice B.pad (List.length p) B.pcap,.map (some B.pb),y.1.2.2.sv,.map (some B.kb),.map (some B.ab),.map (some B.ub),.map (some B.ob),.map (some B.ib),.map (some B.rb),.map (some B.sb)] 105 (0,0))::((B.kb,.map y.1.2.2.es y.1.2.2.c)::((b1,.cells #[.int .i64 f.kind,str f.a,str f.b,str f.r,.int .i64 f.lo,.int .i64 f.hi] 24 (0,0))::y.1.2.2.h)))) (fun y=>[ax_ y.1.2.1,af_ B.pad (List.flatMap Pc.cells p),mlF Tryz.prog 111 Ky.val N_ B.pb fm afm,imF D,mlF Tryz.prog 9 str N_ B.ab x.above aab]) (fun y=>List.length (lat x.above f.b) - y.1.1) ⟨((0:Nat),l,y),by simp,by exact hS,by exact hE,List.prefix_refl _,(fD_.zero),by exact hD⟩ zl zp zf ?_
 rintro ⟨⟨i,l_i,y_i⟩,hi_i,hS_i,hE_i,hp_i,hu_i,hD_i⟩
 dsimp only at hi_i hS_i hE_i hp_i hu_i hD_i ⊢
 have hb_i:=Nat.le_trans (bc_ x.above f.b) (Nat.le_trans hxl.above hn1)
 refine Zi 2 (fun hr1=>?_) fun hr1=>?_
 ·refine Zz 8 ?_
  refine s_ 7 [0,1,2,3,4,5] zk zs (Zz 7 ?_)
  refine j_ 6 rfl zk (n_ (cZ_ f.b [33]) rfl m_ zt rfl fun _=>Zz 3 ?_)
  refine j_ 7 rfl zk (eH_ (k:=(C_ f.b [33])) fe_ dZ_ A_ rfl rfl hS_i.2 zp rfl fun rl1 nl1 hrl1 hnl1=>Zz 3 ?_)
  refine s_ 0 [8,9,10,11,12] zk zs (Zz 13 ?_)
  cases rl1
  ·replace hrl1:=zdf hrl1
   refine Zz 3 ?_
   exact end0 Tryz.results69 ⟨(l_i,y_i),hS_i,hE_i,((List.prefix_refl l).trans hp_i),hD_i,⟨hu_i.done (by omega),fun q=>absurd (ai_ ((List.prefix_refl l).trans hp_i) q) hrl1⟩⟩ rfl (g_ d_ (g_ d_ F_)) zf
  replace hrl1:=zdt hrl1
  refine Zz 5 ?_
  refine n_ (cZ_ f.a [33]) rfl m_ zt rfl fun _=>Zz 2 ?_
  refine S_ f_ o_ A_ rfl rfl rfl rfl rfl rfl fun b2=>?_
  refine cx_ (fun v h1 h=>(cc_ h1 d_ (by exact h.2.2.2.1):¬ D b2)) fun hnd_b2=>?_
  refine aB_ (List.flatMap N_ [(n:Int),nl1]) d_ rfl ?_
  refine n_ (cb_ B p 9 (-1) (C_ f.a [33]) (some ⟨b2,0,none⟩) 2 [(n:Int),nl1] l_i y_i.sv y_i.es y_i.c y_i.h hS_i.1 hS_i.2 (Nat.le_trans (hB _ hE_i) (by decide))) rfl zp zf rfl fun⟨⟨l1,y1⟩,hl1,hy1⟩=>?_
  dsimp only
  simp only[PSt.own,List.cons_append]
  have hE1:Eng p A l1:=bD_ hl1 hE_i (by obtain⟨q1,e1,a1⟩:=hj_ (hnl1 rfl);rw[e1];exact cor9b (hAt.pre ((List.prefix_refl l).trans hp_i)) a1) (show (9:Int)≤14 from by decide)
  have hq1:l_i <+: l1:=bB_ hl1
  have hm1:=bC_ hl1;dsimp only at hm1
  have hD1:Fre D l1:=cd_ hl1 hD_i (fun _=>bO_ hnd_b2)
  refine Zz 2 ?_
  exact end0 Tryz.results69 ⟨(l1,y1),hy1,hE1,(((List.prefix_refl l).trans hp_i).trans hq1),hD1,⟨(hu_i.done (by omega)).mono fun s hs=>hs.mono fun x hx=>ai_ ((List.prefix_refl l_i).trans hq1) hx,fun _=>hm1⟩⟩ rfl zp zf
 obtain⟨hlx1,x1,hx1,hmx1⟩:=zge (show i<List.length (lat x.above f.b) by omega)
 obtain⟨k_x1,s_x1,e_x1,hj_x1,hQ_x1,hk_x1⟩:=(hx.above _ _).1 (bb_.1 hmx1)
 subst e_x1
 have hg_x1:l[k_x1]? = some s_x1:=dG_ hj_x1
 have hc_x1:l_i[k_x1]? = some s_x1:=dR_ ((List.prefix_refl l).trans hp_i) hg_x1
 have hlc_x1:k_x1<List.length l_i:=(List.getElem?_eq_some_iff.1 hc_x1).1
 dsimp only at hk_x1 hQ_x1
 refine Zz 10 ?_
 refine i_ (X_ f_ o_ rfl rfl (fun v _ h=>G_ (n:=1) D_ (by decide) (by exact (aw_ h.2.2.2.2.1 f.b)) hx1) (by omega) (by first|omega|(simp;done))) rfl ?_
 refine i_ (at_ (ad:=(Prod.fst (aab f.b))) O_ rfl (fun v _ h=>by exact (aw_ h.2.2.2.2.1 f.b)) (t_ D_ hx1 0 _ rfl)) rfl (Zz 5 ?_)
 refine s_ 0 [0,1,2,3,4,5,6,7,8,9,10,11,12,13,14,15,16,17,18] zk zs (Zz 11 ?_)
 refine R_ rfl (ah_ hS_i.1 P_ ap_ rfl rfl (by omega) (by omega)) rfl (Zz 1 ?_)
 refine R_ rfl (dF_ aq_ rfl rfl rfl M_) rfl (R_ rfl (av_ hS_i.1 zp U_ rfl (t_ Stp.cells_len hc_x1 3 _ rfl)) rfl (R_ rfl (H_ ef_ rfl rfl) rfl (R_ rfl (aR_ (k:=(Ky.mk 4 f.r (Fc.b s_x1.fact))) (adr:=afm) eJ_ bA_ Z_ rfl rfl zf) rfl (Zz 6 ?_))))
 refine Q_ (ι:={y:Nat×List Stp×PSt // y.1≤List.length (lat fm (Ky.mk 4 f.r (Fc.b s_x1.fact)))∧y.2.2.ok y.2.1∧Eng p A y.2.1∧l_i <+: y.2.1∧eD_ p (lat fm (Ky.mk 4 f.r (Fc.b s_x1.fact))) y.1 (fun u=>C_ f.a u.c∈fcs y.2.1)∧Fre D y.2.1}) (fun y=>[(0,zp_ B.g 0),(2,.int .i64 (n:Int)),(4,zp_ b1 0),(18,.slice (Prod.fst (aab f.b)) (List.length (lat x.above f.b)) (Prod.snd (aab f.b))),(19,.int .i64 (List.length (lat x.above f.b):Int)),(20,.int .i64 (i:Int)),(7,.int .i64 (k_x1:Int)),(40,.slice (Prod.fst (afm (Ky.mk 4 f.r (Fc.b s_x1.fact)))) (List.length (lat fm (Ky.mk 4 f.r (Fc.b s_x1.fact)))) (Prod.snd (afm (Ky.mk 4 f.r (Fc.b s_x1.fact))))),(41,.int .i64 (List.length (lat fm (Ky.mk 4 f.r (Fc.b s_x1.fact))):Int)),(42,.int .i64 (y.1.1:Int))]) (fun y=>((B.g,.cells #[.slice B.pad (List.length p) B.pcap,.map (some B.pb),y.1.2.2.sv,.map (some B.kb),.map (some B.ab),.map (some B.ub),.map (some B.ob),.map (some B.ib),.map (some B.rb),.map (some B.sb)] 105 (0,0))::((B.kb,.map y.1.2.2.es y.1.2.2.c)::((b1,.cells #[.int .i64 f.kind,str f.a,str f.b,str f.r,.int .i64 f.lo,.int .i64 f.hi] 24 (0,0))::y.1.2.2.h)))) (fun y=>[ax_ y.1.2.1,af_ B.pad (List.flatMap Pc.cells p),mlF Tryz.prog 111 Ky.val N_ B.pb fm afm,imF D,mlF Tryz.prog 9 str N_ B.ab x.above aab]) (fun y=>List.length (lat fm (Ky.mk 4 f.r (Fc.b s_x1.fact))) - y.1.1) ⟨((0:Nat),l_i,y_i),by simp,by exact hS_i,by exact hE_i,List.prefix_refl _,(eD_.zero),by exact hD_i⟩ zl zp zh ?_
 rintro ⟨⟨j,l_j,y_j⟩,hi_j,hS_j,hE_j,hp_j,hu_j,hD_j⟩
 dsimp only at hi_j hS_j hE_j hp_j hu_j hD_j ⊢
 have hb_j:=Nat.le_trans (Nat.le_trans (bc_ fm (Ky.mk 4 f.r (Fc.b s_x1.fact))) hfd.len) (Nat.mul_le_mul_left 2 hpl)
 refine Zi 2 (fun hr2=>?_) fun hr2=>?_
 ·refine Zz 11 ?_
  exact y_ ⟨(i+1,l_j,y_j),hlx1,hS_j,hE_j,(hp_i.trans ((List.prefix_refl l_i).trans hp_j)),(hu_i.step (fun x hx=>hx.mono fun s hs=>ai_ ((List.prefix_refl l_i).trans hp_j) hs) hx1 hg_x1 (by exact hu_j.done (by omega))),hD_j⟩ (by dsimp only;omega) zl zp zh
 obtain⟨hlx2,x2,hx2,hmx2⟩:=zge (show j<List.length (lat fm (Ky.mk 4 f.r (Fc.b s_x1.fact))) by omega)
 obtain⟨k_x2,z_x2,e_x2,hz_x2,hk_x2⟩:=hfd.snd _ _ (bb_.1 hmx2)
 subst e_x2
 have hlz_x2:k_x2<List.length p:=(List.getElem?_eq_some_iff.1 hz_x2).1
 have hmz_x2:z_x2∈p:=List.mem_of_getElem? hz_x2
 refine Zz 10 ?_
 refine i_ (X_ f_ o_ rfl rfl (fun v _ h=>G_ (n:=1) D_ (by decide) (by exact (aw_ h.2.2.1 (Ky.mk 4 f.r (Fc.b s_x1.fact)))) hx2) (by omega) (by first|omega|(simp;done))) rfl ?_
 refine i_ (at_ (ad:=(Prod.fst (afm (Ky.mk 4 f.r (Fc.b s_x1.fact))))) O_ rfl (fun v _ h=>by exact (aw_ h.2.2.1 (Ky.mk 4 f.r (Fc.b s_x1.fact)))) (t_ D_ hx2 0 _ rfl)) rfl (Zz 3 ?_)
 refine eF_ (iy_ B.g (gpF B p) 105) ((b1,.cells #[.int .i64 f.kind,str f.a,str f.b,str f.r,.int .i64 f.lo,.int .i64 f.hi] 24 (0,0))::[]) zk ?_
 refine dU_ 3 [0,1,2,3,4,5,6,7,8,9,10,12,13,14] zk (ab_ (F:=(gpF B p)) (ac_ d_ (c_ d_)) fun v a b=>b) (L_ rfl (az_ rfl) rfl (L_ rfl (bh_ aq_ rfl rfl rfl M_) rfl (L_ rfl (bx_ 0 U_ rfl rfl rfl) rfl (L_ rfl (az_ rfl) rfl (L_ rfl (cM_ rfl) rfl (L_ rfl (bh_ aA_ rfl rfl rfl ej_) rfl (L_ rfl (eo_ (F:=(gpF B p)) fF_ rfl zf (fun _=>rfl)) rfl (L_ rfl (az_ rfl) rfl ?_))))))))
 refine L_ rfl (X_ ad_ Y_ rfl rfl (fun v _ h=>G_ (n:=10) Pc.cells_len (by decide) (by exact h.2.2.1) hz_x2) (by omega) (by first|omega|(simp;done))) rfl ?_
 refine L_ rfl (cY_ aM_ rfl rfl rfl M_) rfl (L_ rfl (at_ (ad:=B.pad) U_ rfl zf (t_ Pc.cells_len hz_x2 3 _ rfl)) rfl (L_ rfl (az_ rfl) rfl (L_ rfl (az_ rfl) rfl (L_ rfl (az_ rfl) rfl (dP_ ?_)))))
 refine bW_ 11 15 rfl rfl zk ?_ ?_
 ·refine n_ (cZ_ f.a z_x2.c) rfl m_ zt rfl fun _=>Zz 2 ?_
  refine W_ (ab_ (F:=(gpF B p)) (ac_ d_ (c_ d_)) fun v a b=>b) (j_ 15 rfl zk (S_ f_ o_ A_ rfl rfl rfl rfl rfl rfl fun b3=>?_))
  refine cx_ (fun v h1 h=>(cc_ h1 d_ (by exact h.2.2.2.1):¬ D b3)) fun hnd_b3=>?_
  refine aB_ (List.flatMap N_ [(n:Int),(k_x1:Int)]) d_ rfl ?_
  refine Zz 2 ?_
  refine W_ (ab_ (F:=(gpF B p)) (ac_ d_ (c_ d_)) fun v a b=>b.2) (j_ 16 rfl zk (n_ (cb_ B p 8 (k_x2:Int) (C_ f.a z_x2.c) (some ⟨b3,0,none⟩) 2 [(n:Int),(k_x1:Int)] l_j y_j.sv y_j.es y_j.c y_j.h hS_j.1 hS_j.2 (Nat.le_trans (hB _ hE_j) (by decide))) rfl zp zf rfl fun⟨⟨l2,y2⟩,hl2,hy2⟩=>?_))
  dsimp only
  simp only[PSt.own,List.cons_append]
  have hE2:Eng p A l2:=bD_ hl2 hE_j (un_ hE_j hv hfr (dR_ ((((List.prefix_refl l).trans hp_i).trans hp_j)) hg_x1) hQ_x1 hk_x1 hz_x2 hk_x2 (hAt.pre (((List.prefix_refl l).trans hp_i).trans hp_j))) (show (8:Int)≤14 from by decide)
  have hq2:l_j <+: l2:=bB_ hl2
  have hm2:=bC_ hl2;dsimp only at hm2
  have hD2:Fre D l2:=cd_ hl2 hD_j (fun _=>bO_ hnd_b3)
  refine Zz 2 ?_
  refine W_ (ab_ (F:=(gpF B p)) (ac_ d_ (c_ V_)) fun v a b=>b.2.2) (Zz 2 ?_)
  refine u_ (q_ d_ (q_ d_ (ak_ V_))) (Zz 5 ?_)
  exact y_ ⟨(j+1,l2,y2),hlx2,hy2,hE2,(hp_j.trans ((List.prefix_refl l_j).trans hq2)),(hu_j.step (fun x hx=>ai_ ((List.prefix_refl l_j).trans hq2) hx) hx2 hz_x2 (by exact hm2)),hD2⟩ (by dsimp only;omega) zl zp zf
 refine S_ f_ o_ A_ rfl rfl rfl rfl rfl rfl fun b4=>?_
 refine cx_ (fun v h1 h=>(cc_ h1 d_ (by exact h.2.2.2.1):¬ D b4)) fun hnd_b4=>?_
 refine aB_ (List.flatMap N_ [(n:Int),(k_x1:Int)]) d_ rfl ?_
 refine Zz 2 ?_
 refine W_ (ab_ (F:=(gpF B p)) (ac_ d_ (c_ d_)) fun v a b=>b.2) (j_ 11 rfl zk (n_ (cZ_ f.a z_x2.c) rfl m_ zt rfl fun _=>Zz 2 ?_))
 refine W_ (ab_ (F:=(gpF B p)) (ac_ d_ (c_ d_)) fun v a b=>b.2) (j_ 16 rfl zk (n_ (cb_ B p 8 (k_x2:Int) (C_ f.a z_x2.c) (some ⟨b4,0,none⟩) 2 [(n:Int),(k_x1:Int)] l_j y_j.sv y_j.es y_j.c y_j.h hS_j.1 hS_j.2 (Nat.le_trans (hB _ hE_j) (by decide))) rfl zp zf rfl fun⟨⟨l3,y3⟩,hl3,hy3⟩=>?_))
 dsimp only
 simp only[PSt.own,List.cons_append]
 have hE3:Eng p A l3:=bD_ hl3 hE_j (un_ hE_j hv hfr (dR_ ((((List.prefix_refl l).trans hp_i).trans hp_j)) hg_x1) hQ_x1 hk_x1 hz_x2 hk_x2 (hAt.pre (((List.prefix_refl l).trans hp_i).trans hp_j))) (show (8:Int)≤14 from by decide)
 have hq3:l_j <+: l3:=bB_ hl3
 have hm3:=bC_ hl3;dsimp only at hm3
 have hD3:Fre D l3:=cd_ hl3 hD_j (fun _=>bO_ hnd_b4)
 refine Zz 2 ?_
 refine W_ (ab_ (F:=(gpF B p)) (ac_ d_ (c_ V_)) fun v a b=>b.2.2) (Zz 2 ?_)
 refine u_ (q_ d_ (q_ d_ (ak_ V_))) (Zz 5 ?_)
 exact y_ ⟨(j+1,l3,y3),hlx2,hy3,hE3,(hp_j.trans ((List.prefix_refl l_j).trans hq3)),(hu_j.step (fun x hx=>ai_ ((List.prefix_refl l_j).trans hq3) hx) hx2 hz_x2 (by exact hm3)),hD3⟩ (by dsimp only;omega) zl zp zf
theorem outP_c (B:PB) (p:List Pc) (A:List Str) (fm:List (Ky×Int)) (afm:Ky→Option Addr×Nat) (x:Jx) (aab aub:Str→Option Addr×Nat) (aob aib arb asb:eO_→Option Addr×Nat) (hv:∀ z∈p,z.vok) (hfd:Fnd p fm) (hpl:p.length≤16384) (n n1:Nat) (f:Fc) (l:List Stp) (y:PSt) (hS:y.ok l) (hE:Eng p A l) (hB:∀ l,Eng p A l→l.length≤65536) (D:Nat→Prop) (hD:Fre D l) (hx:x.of (l.take n1)) (hxl:x.len n1) (hn1:n1≤65536) (hform:f.form) (hn:n<65536) (hk:f.kind=3) (hAt:At l n (T_ f.a f.r f.lo f.hi)):Tri Tryz.prog 71 #[zp_ B.g 0,Fc.val f,.int .i64 (n:Int)] (y.own B p) [af_ B.pad (List.flatMap Pc.cells p),mlF Tryz.prog 111 Ky.val N_ B.pb fm afm,ax_ l,imF D] (fun _:{y:List Stp×PSt // y.2.ok y.1∧Eng p A y.1∧l <+: y.1∧Fre D y.1∧RawO p fm f y.1}=>.tuple #[]) (fun y=>y.1.2.own B p) (fun y=>[ax_ y.1.1]):=by
 refine w_ Tryz.func71 rfl rfl Tryz.ntmps71 rfl fun v0=>?_
 refine Zz 2 ?_
 refine as_ rfl rfl fun b1=>Zz 4 ?_
 refine s_ 0 [0,1,2,3,4,5,6,7,8,9] zk zs (Zz 6 ?_)
 refine R_ rfl (H_ ef_ rfl rfl) rfl (R_ rfl (aR_ (k:=(Ky.mk 9 f.r [])) (adr:=afm) eJ_ bA_ Z_ rfl rfl zf) rfl (Zz 6 ?_))
 refine Q_ (ι:={y:Nat×List Stp×PSt // y.1≤List.length (lat fm (Ky.mk 9 f.r []))∧y.2.2.ok y.2.1∧Eng p A y.2.1∧l <+: y.2.1∧eD_ p (lat fm (Ky.mk 9 f.r [])) y.1 (fun x=>x.lo≤f.lo→f.hi≤x.hi→C_ f.a x.c∈fcs y.2.1)∧Fre D y.2.1}) (fun y=>[(0,zp_ B.g 0),(2,.int .i64 (n:Int)),(4,zp_ b1 0),(16,.slice (Prod.fst (afm (Ky.mk 9 f.r []))) (List.length (lat fm (Ky.mk 9 f.r []))) (Prod.snd (afm (Ky.mk 9 f.r [])))),(17,.int .i64 (List.length (lat fm (Ky.mk 9 f.r [])):Int)),(18,.int .i64 (y.1.1:Int))]) (fun y=>((B.g,.cells #[.slice B.pad (List.length p) B.pcap,.map (some B.pb),y.1.2.2.sv,.map (some B.kb),.map (some B.ab),.map (some B.ub),.map (some B.ob),.map (some B.ib),.map (some B.rb),.map (some B.sb)] 105 (0,0))::((B.kb,.map y.1.2.2.es y.1.2.2.c)::((b1,.cells #[.int .i64 f.kind,str f.a,str f.b,str f.r,.int .i64 f.lo,.int .i64 f.hi] 24 (0,0))::y.1.2.2.h)))) (fun y=>[ax_ y.1.2.1,af_ B.pad (List.flatMap Pc.cells p),mlF Tryz.prog 111 Ky.val N_ B.pb fm afm,imF D]) (fun y=>List.length (lat fm (Ky.mk 9 f.r [])) - y.1.1) ⟨((0:Nat),l,y),by simp,by exact hS,by exact hE,List.prefix_refl _,(eD_.zero),by exact hD⟩ zl zp zf ?_
 rintro ⟨⟨i,l_i,y_i⟩,hi_i,hS_i,hE_i,hp_i,hu_i,hD_i⟩
 dsimp only at hi_i hS_i hE_i hp_i hu_i hD_i ⊢
 have hb_i:=Nat.le_trans (Nat.le_trans (bc_ fm (Ky.mk 9 f.r [])) hfd.len) (Nat.mul_le_mul_left 2 hpl)
 refine Zi 2 (fun hr1=>?_) fun hr1=>?_
 ·refine Zz 6 ?_
  exact end0 Tryz.results71 ⟨(l_i,y_i),hS_i,hE_i,((List.prefix_refl l).trans hp_i),hD_i,hu_i.done (by omega)⟩ rfl (g_ d_ (g_ d_ F_)) zf
 obtain⟨hlx1,x1,hx1,hmx1⟩:=zge (show i<List.length (lat fm (Ky.mk 9 f.r [])) by omega)
 obtain⟨k_x1,z_x1,e_x1,hz_x1,hk_x1⟩:=hfd.snd _ _ (bb_.1 hmx1)
 subst e_x1
 have hlz_x1:k_x1<List.length p:=(List.getElem?_eq_some_iff.1 hz_x1).1
 have hmz_x1:z_x1∈p:=List.mem_of_getElem? hz_x1
 refine Zz 10 ?_
 refine i_ (X_ f_ o_ rfl rfl (fun v _ h=>G_ (n:=1) D_ (by decide) (by exact (aw_ h.2.2.1 (Ky.mk 9 f.r []))) hx1) (by omega) (by first|omega|(simp;done))) rfl ?_
 refine i_ (at_ (ad:=(Prod.fst (afm (Ky.mk 9 f.r [])))) O_ rfl (fun v _ h=>by exact (aw_ h.2.2.1 (Ky.mk 9 f.r []))) (t_ D_ hx1 0 _ rfl)) rfl (Zz 12 ?_)
 refine J_ aN_ rfl fun b2=>z_ 0 Y_ rfl rfl rfl rfl rfl rfl (Zi 8 (fun hr2=>?_) fun hr2=>?_)
 ·refine Zz 17 ?_
  exact y_ ⟨(i+1,l_i,y_i),hlx1,hS_i,hE_i,(hp_i.trans (List.prefix_refl l_i)),(hu_i.step (fun x hx=>fun q0 q1=>ai_ (List.prefix_refl l_i) (hx q0 q1)) hx1 hz_x1 (by intro q1 q2;exfalso;first|omega|(simp_all;omega))),hD_i⟩ (by dsimp only;omega) zl (g_ (c_ d_) (g_ (c_ d_) (g_ (c_ d_) F_))) zh
 refine Zi 10 (fun hr3=>?_) fun hr3=>?_
 ·refine Zz 11 ?_
  exact y_ ⟨(i+1,l_i,y_i),hlx1,hS_i,hE_i,(hp_i.trans (List.prefix_refl l_i)),(hu_i.step (fun x hx=>fun q0 q1=>ai_ (List.prefix_refl l_i) (hx q0 q1)) hx1 hz_x1 (by intro q1 q2;exfalso;first|omega|(simp_all;omega))),hD_i⟩ (by dsimp only;omega) zl (g_ (c_ d_) (g_ (c_ d_) (g_ (c_ d_) F_))) zh
 refine Zz 10 ?_
 refine n_ (cZ_ f.a z_x1.c) rfl m_ zt rfl fun _=>Zz 2 ?_
 refine S_ f_ o_ A_ rfl rfl rfl rfl rfl rfl fun b3=>?_
 refine cx_ (fun v h1 h=>(cc_ h1 d_ (by exact h.2.2.2.1):¬ D b3)) fun hnd_b3=>?_
 refine aB_ (List.flatMap N_ [(n:Int)]) d_ rfl ?_
 refine n_ (cb_ B p 14 (k_x1:Int) (C_ f.a z_x1.c) (some ⟨b3,0,none⟩) 1 [(n:Int)] l_i y_i.sv y_i.es y_i.c y_i.h hS_i.1 hS_i.2 (Nat.le_trans (hB _ hE_i) (by decide))) rfl (g_ (c_ d_) (g_ (c_ d_) (c_ F_))) zf rfl fun⟨⟨l1,y1⟩,hl1,hy1⟩=>?_
 dsimp only
 simp only[PSt.own,List.cons_append]
 have hE1:Eng p A l1:=bD_ hl1 hE_i (cor14 hz_x1 hk_x1 (hAt.pre ((List.prefix_refl l).trans hp_i)) (by omega) (by omega)) (show (14:Int)≤14 from by decide)
 have hq1:l_i <+: l1:=bB_ hl1
 have hm1:=bC_ hl1;dsimp only at hm1
 have hD1:Fre D l1:=cd_ hl1 hD_i (fun _=>bO_ hnd_b3)
 refine Zz 2 ?_
 refine u_ (q_ d_ (q_ d_ (q_ (e_ d_) (ak_ V_)))) (Zz 5 ?_)
 exact y_ ⟨(i+1,l1,y1),hlx1,hy1,hE1,(hp_i.trans ((List.prefix_refl l_i).trans hq1)),(hu_i.step (fun x hx=>fun q0 q1=>ai_ ((List.prefix_refl l_i).trans hq1) (hx q0 q1)) hx1 hz_x1 (by exact fun _ _=>hm1)),hD1⟩ (by dsimp only;omega) zl zp zf
end Go.Proofs.YtkeanlfhghlgiaaGreatDoor
