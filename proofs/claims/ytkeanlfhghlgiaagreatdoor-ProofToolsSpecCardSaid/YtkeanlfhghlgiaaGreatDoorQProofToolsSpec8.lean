/-
  Part of the proof of the law ProofToolsSpec over this seat: the small logic, the data, the contracts of functions (no condition).
-/
import Derived.Test.YtkeanlfhghlgiaaGreatDoorQProofToolsSpec7
import Derived.Test.YtkeanlfhghlgiaaGreatDoorQProofToolsSpec5
import Derived.Test.YtkeanlfhghlgiaaGreatDoorQProofToolsSpec3
import Derived.Test.YtkeanlfhghlgiaaGreatDoorQProofToolsSpec6
set_option linter.unusedVariables false
set_option linter.unusedSimpArgs false
set_option linter.unusedSectionVars false
set_option maxHeartbeats 1000000
namespace Go.Proofs.YtkeanlfhghlgiaaGreatDoor
open Go Go.Sx Go.Proofs
attribute [local irreducible] Code.wp wpList wpAnyH
open Go.Vs
def ivC (i:Int×Int):List Value:=[.int .i64 i.1,.int .i64 i.2]
theorem mn_ (i:Int×Int):(ivC i).length=2:=rfl
def ivV (i:Int×Int):Value:=.agg (ivC i).toArray
def fL_ (i:Int×Int):Int:=if min i.1 i.2 < -1099511627776∨1099511627776<max i.1 i.2 then 1 else if i.2<i.1 then 80 else 0
def iV_ (e:Int) (i:Int×Int):Int:=if e≠0 then e else fL_ i
def fU_ (l:List (Int×Int)):Int:=l.foldl iV_ 0
theorem nv_ {l:List (Int×Int)} {i:Nat} {x:Int×Int} (h:l[i]? = some x):fU_ (List.take (i+1) l)=iV_ (fU_ (List.take i l)) x:=by
  unfold fU_;rw[List.take_add_one,h,Option.toList_some,List.foldl_append];rfl
def qc_ (a b:Int×Int):Bool:=decide (fU_ [a,b]=0)&&(decide (b.1≤a.1)&&decide (a.2≤b.2))
theorem tx_ {a b:Int×Int} (ha:-1099511627776≤a.1∧a.1≤a.2∧a.2≤1099511627776) (hb:-1099511627776≤b.1∧b.1≤b.2∧b.2≤1099511627776):qc_ a b=decide (b.1≤a.1∧a.2≤b.2):=by
  have e:∀ i:Int×Int,-1099511627776≤i.1∧i.1≤i.2∧i.2≤1099511627776→fL_ i=0:=fun i h=>by
    unfold fL_;rw[if_neg (by omega),if_neg (by omega)]
  have e2:fU_ [a,b]=0:=by simp[fU_,iV_,e a ha,e b hb]
  unfold qc_;rw[e2,Bool.eq_iff_iff];simp
theorem oK_:jb_ Tryz.prog 149 [(0,1),(1,1)] [.int .i64 0,.int .i64 0]:=⟨_,Tryz.zeroValue149,cv_,fun w=>by simp[o_]⟩
theorem qd_ (i:Int×Int):Fn0 Tryz.prog 186 #[ivV i] (.int .i64 (fL_ i)):=by
 refine w_ Tryz.func186 rfl rfl Tryz.ntmps186 rfl fun v0=>?_
 refine Zz 2 ?_
 refine as_ rfl rfl fun b1=>Zz 10 ?_
 refine i_ (dg_ rfl rfl) rfl ?_
 refine Zi 0 (fun hr1=>?_) fun hr1=>?_
 ·refine Zz 10 ?_
  refine i_ (cC_ rfl rfl) rfl (aJ_ rfl rfl ?_)
  refine Zi 0 (fun hr2=>?_) fun hr2=>?_
  ·refine Zi 13 (fun hr3=>?_) fun hr3=>?_
   ·refine Zz 11 ?_
    exact al_ Tryz.results186 () (cq_ rfl (by unfold fL_;first|(rw[if_pos (by omega)])|(rw[if_neg (by omega),if_pos (by omega)])|(rw[if_neg (by omega),if_neg (by omega)]))) m_ zt
   refine Zz 9 ?_
   exact al_ Tryz.results186 () (cq_ rfl (by unfold fL_;first|(rw[if_pos (by omega)])|(rw[if_neg (by omega),if_pos (by omega)])|(rw[if_neg (by omega),if_neg (by omega)]))) m_ zt
  refine Zz 10 ?_
  exact al_ Tryz.results186 () (cq_ rfl (by unfold fL_;first|(rw[if_pos (by omega)])|(rw[if_neg (by omega),if_pos (by omega)])|(rw[if_neg (by omega),if_neg (by omega)]))) m_ zt
 refine Zz 17 ?_
 exact al_ Tryz.results186 () (cq_ rfl (by unfold fL_;first|(rw[if_pos (by omega)])|(rw[if_neg (by omega),if_pos (by omega)])|(rw[if_neg (by omega),if_neg (by omega)]))) m_ zt
theorem tw_ (e:Int) (i:Int×Int):Fn0 Tryz.prog 185 #[.int .i64 e,ivV i] (.int .i64 (iV_ e i)):=by
 refine w_ Tryz.func185 rfl rfl Tryz.ntmps185 rfl fun v0=>?_
 refine Zz 2 ?_
 refine as_ rfl rfl fun b1=>Zi 7 (fun hr1=>?_) fun hr1=>?_
 ·refine Zz 8 ?_
  refine n_ (qd_ i) rfl m_ zt rfl fun _=>Zz 4 ?_
  exact al_ Tryz.results185 () (cq_ rfl (by unfold iV_;first|(rw[if_pos (by assumption)])|(rw[if_neg (by omega)]))) m_ zt
 refine Zz 10 ?_
 exact al_ Tryz.results185 () (cq_ rfl (by unfold iV_;first|(rw[if_pos (by assumption)])|(rw[if_neg (by omega)]))) m_ zt
theorem ov_ (l:List (Int×Int)) (ad:Option Addr) (cap:Nat) (hl:l.length≤1000000):Tri Tryz.prog 184 #[.slice ad (List.length l) cap,.int .i64 0,.func (.func 185) #[] #[]] [] [af_ ad (List.flatMap ivC l)] (fun _:Unit=>.int .i64 (fU_ l)) (fun _=>[]) (fun _=>[]):=by
 refine w_ Tryz.func184 rfl rfl Tryz.ntmps184 rfl fun v0=>?_
 refine Zz 14 ?_
 refine Q_ (ι:={y:Nat // y≤l.length}) (fun y=>[(1,.int .i64 (fU_ (List.take y.1 l))),(2,.func (.func 185) #[] #[]),(9,.slice ad (List.length l) cap),(10,.int .i64 (List.length l:Int)),(11,.int .i64 (y.1:Int))]) (fun y=>([])) (fun y=>[af_ ad (List.flatMap ivC l)]) (fun y=>l.length - y.1) ⟨(0:Nat),by simp⟩ zl m_ zh ?_
 rintro ⟨i,hi⟩
 dsimp only at hi ⊢
 refine Zi 2 (fun hr1=>?_) fun hr1=>?_
 ·refine Zz 13 ?_
  exact al_ Tryz.results184 () (cq_ rfl (by rw[List.take_of_length_le (by omega)])) m_ zt
 obtain⟨hlx1,x1,hx1,hmx1⟩:=zge (show i<List.length l by omega)
 refine Zz 10 ?_
 refine i_ (X_ cf_ qQ_ rfl rfl (fun v _ h=>G_ (n:=2) mn_ (by decide) (by exact h.1) hx1) (by omega) (by first|omega|(simp;done))) rfl ?_
 refine i_ (bi_ (ad:=ad) (us:=ivC x1) Tryz.isAgg149 qQ_ rfl zf (mn_ _) (t_ mn_ hx1)) rfl (J_ Tryz.zeroValue149 rfl fun b1=>z_ 0 qQ_ rfl rfl rfl rfl rfl rfl (Zz 6 ?_))
 refine au_ (tw_ (fU_ (List.take i l)) x1) rfl rfl m_ zt rfl fun _=>Zz 8 ?_
 exact y_ ⟨i+1,hlx1⟩ (by dsimp only;omega) ⟨(cq_ rfl (nv_ hx1).symm),rfl,rfl,rfl,rfl,trivial⟩ m_ zh
theorem ty_ (l:List (Int×Int)) (ad:Option Addr) (cap:Nat) (hl:l.length≤1000000):Tri Tryz.prog 165 #[.slice ad (List.length l) cap] [] [af_ ad (List.flatMap ivC l)] (fun _:Unit=>.int .i64 (fU_ l)) (fun _=>[]) (fun _=>[]):=by
  refine w_ Tryz.func165 rfl rfl Tryz.ntmps165 rfl fun v0=>?_
  refine Zz 8 ?_
  refine n_ (ov_ l ad cap hl) rfl m_ zf rfl fun _=>Zz 4 ?_
  exact al_ Tryz.results165 () rfl m_ zt
theorem qF_ (i j:Int×Int):Fn0 Tryz.prog 125 #[ivV i,ivV j] (.bool (qc_ i j)):=by
 refine w_ Tryz.func125 rfl rfl Tryz.ntmps125 rfl fun v0=>?_
 refine Zz 2 ?_
 refine as_ rfl rfl fun b1=>as_ rfl rfl fun b2=>Zz 7 ?_
 refine S_ cf_ qQ_ Tryz.zeroValue149 rfl rfl rfl rfl rfl rfl fun b3=>?_
 refine aB_ (List.flatMap ivC [i,j]) d_ rfl ?_
 refine n_ (ty_ [i,j] (some ⟨b3,0,none⟩) 2 (by simp)) rfl m_ zf rfl fun _=>?_
 refine Zi 0 (fun hr1=>?_) fun hr1=>?_
 ·refine Zz 18 ?_
  exact al_ Tryz.results125 () (x_ rfl (by unfold qc_;simp_all<;>omega)) m_ zt
 refine Zi 10 (fun hr2=>?_) fun hr2=>?_
 ·refine Zz 12 ?_
  exact al_ Tryz.results125 () (x_ rfl (by unfold qc_;simp_all<;>omega)) m_ zt
 refine Zz 11 ?_
 refine aQ_ (ff_ rfl rfl) rfl fun r3 hr3=>Zz 5 ?_
 exact al_ Tryz.results125 () (x_ rfl (by unfold qc_;simp_all<;>omega)) m_ zt
theorem nW_ (a b c d:Int) (ha:-1099511627776≤a∧a≤b∧b≤1099511627776) (hb:-1099511627776≤c∧c≤d∧d≤1099511627776):Fn0 Tryz.prog 125 #[ivV (a,b),ivV (c,d)] (.bool (decide (c≤a∧b≤d))):=by
  have:=qF_ (a,b) (c,d)
  rw[tx_ ha hb]at this
  exact this
theorem iY_ {α:Type} {p:α→Bool} {l:List α} {i:Nat} {x:α} (h:l[i]? = some x):List.filter p (List.take (i+1) l)=List.filter p (List.take i l)++(if p x then [x] else []):=by
  rw[List.take_add_one,h,Option.toList_some,List.filter_append]
  congr 1
  simp[List.filter_cons]
theorem out_c (B:EngB) (E:Emt Tryz.prog 24) (A:EngA) (pm:List (Ky×Pc)) (x:Ix) (f:Fc) (nw fm:List Fc) (Hs:Hp) (hS:E.St nw fm Hs) (hpl:∀ k,(lat pm k).length≤1000000000) (hxl:∀ k,(lat x.above k).length≤1000000000∧(lat x.under k).length≤1000000000) (hyl:∀ k,(lat x.frm k).length≤1000000000∧(lat x.into k).length≤1000000000∧(lat x.ranges k).length≤1000000000∧(lat x.firms k).length≤1000000000) (hf:-1099511627776≤f.lo∧f.lo≤f.hi∧f.hi≤1099511627776) (hq:∀ y∈lat pm (Ky.mk 9 f.r []),-1099511627776≤y.lo∧y.lo≤y.hi∧y.hi≤1099511627776):Tri Tryz.prog 100 #[zp_ B.g 0,Fc.val f] Hs [gF B E,pF B pm A,aF B x A,uF B x A,oF B x A,iF B x A,rF B x A,sF B x A,E.ef] (fun _:{H':Hp // E.St (emits E.stp (pT_ pm f) nw) fm H'}=>.tuple #[]) (fun y=>y.1) (fun _=>[]):=by
 refine w_ Tryz.func100 rfl rfl Tryz.ntmps100 rfl fun v0=>?_
 refine Zz 2 ?_
 refine as_ rfl rfl fun b1=>Zz 4 ?_
 refine s_ 0 [0,1,2,3,4,5,6,7,8,9] zk zs (Zz 6 ?_)
 refine R_ rfl (H_ ew_ rfl rfl) rfl (R_ rfl (aR_ (k:=(Ky.mk 9 f.r [])) (adr:=A.p) gU_ bY_ cB_ rfl rfl zf) rfl (Zz 6 ?_))
 refine Q_ (ι:={y:Nat×Hp // y.1≤List.length (lat pm (Ky.mk 9 f.r []))∧E.St (emits E.stp (List.map (fun y=>C_ f.a y.c) (List.filter (fun y=>decide (Pc.lo y≤Fc.lo f∧Fc.hi f≤Pc.hi y)) (List.take y.1 (lat pm (Ky.mk 9 f.r []))))) nw) fm y.2}) (fun y=>[(0,zp_ B.g 0),(3,zp_ b1 0),(13,.slice (Prod.fst (A.p (Ky.mk 9 f.r []))) (List.length (lat pm (Ky.mk 9 f.r []))) (Prod.snd (A.p (Ky.mk 9 f.r [])))),(14,.int .i64 (List.length (lat pm (Ky.mk 9 f.r [])):Int)),(15,.int .i64 (y.1.1:Int))]) (fun y=>((b1,.cells #[.int .i64 f.kind,str f.a,str f.b,str f.r,.int .i64 f.lo,.int .i64 f.hi] 24 (0,0))::y.1.2)) (fun y=>[gF B E,pF B pm A,aF B x A,uF B x A,oF B x A,iF B x A,rF B x A,sF B x A,E.ef]) (fun y=>List.length (lat pm (Ky.mk 9 f.r [])) - y.1.1) ⟨((0:Nat),Hs),by simp,by exact hS⟩ zl zp zh ?_
 rintro ⟨⟨i,Hs_i⟩,hi_i,hS_i⟩
 dsimp only at hi_i hS_i ⊢
 have hb_i:=hpl (Ky.mk 9 f.r [])
 refine Zi 2 (fun hr1=>?_) fun hr1=>?_
 ·refine Zz 6 ?_
  exact end0 Tryz.results100 ⟨Hs_i,by unfold pT_;rw[List.take_of_length_le (by omega)]at hS_i;exact hS_i⟩ rfl F_ zt
 obtain⟨hlx1,x1,hx1,hmx1⟩:=zge (show i<List.length (lat pm (Ky.mk 9 f.r [])) by omega)
 refine Zz 10 ?_
 refine i_ (X_ ad_ Y_ rfl rfl (fun v _ h=>G_ (n:=10) Pc.cells_len (by decide) (by exact (aw_ h.2.1 (Ky.mk 9 f.r []))) hx1) (by omega) (by first|omega|(simp;done))) rfl ?_
 refine i_ (bi_ (ad:=(Prod.fst (A.p (Ky.mk 9 f.r [])))) (us:=Pc.cells x1) eb_ Y_ rfl (fun v _ h=>by exact (aw_ h.2.1 (Ky.mk 9 f.r []))) (Pc.cells_len _) (t_ Pc.cells_len hx1)) rfl (J_ aN_ rfl fun b2=>z_ 0 Y_ rfl rfl rfl rfl rfl rfl (Zz 8 ?_))
 refine i_ (H_ oK_ rfl rfl) rfl (Zz 4 ?_)
 refine i_ (H_ oK_ rfl rfl) rfl (br_ (nW_ f.lo f.hi x1.lo x1.hi hf (hq x1 hmx1)) rfl m_ zt rfl fun r2 hr2=>Zz 2 ?_)
 cases r2
 ·replace hr2:=zdf hr2
  refine Zz 8 ?_
  exact y_ ⟨(i+1,Hs_i),hlx1,(by rw[iY_ hx1];first|(rw[if_pos (decide_eq_true (by assumption)),List.map_append,aC_];exact hS_i)|(rw[if_neg (by rw[decide_eq_false (by assumption)];decide),List.append_nil];exact hS_i))⟩ (by dsimp only;omega) zl (g_ (c_ d_) F_) zh
 replace hr2:=zdt hr2
 refine cO_ rfl ?_
 refine ae_ ((b2,.cells #[.int .i64 x1.kind,str x1.a,str x1.b,str x1.c,str x1.r,str x1.s,str x1.t,.int .i64 x1.lo,.int .i64 x1.hi,.int .i64 x1.frm] 52 (0,0))::((b1,.cells #[.int .i64 f.kind,str f.a,str f.b,str f.r,.int .i64 f.lo,.int .i64 f.hi] 24 (0,0))::[])) zk ?_
 refine s_ 2 [0,1,2,3,4,5,6,7] zk zs (Zz 9 ?_)
 refine j_ 8 rfl zk (n_ (fu_ f.a x1.c) rfl m_ zt rfl fun _=>Zz 3 ?_)
 refine j_ 9 rfl zk (au_ (first:=[]) (cap:=E.caps) (E.emit (C_ f.a x1.c) (emits E.stp (List.map (fun y=>C_ f.a y.c) (List.filter (fun y=>decide (Pc.lo y≤Fc.lo f∧Fc.hi f≤Pc.hi y)) (List.take i (lat pm (Ky.mk 9 f.r []))))) nw) fm Hs_i hS_i) rfl rfl (c_ F_) zf rfl fun⟨Hs1,hS1⟩=>?_)
 dsimp only
 refine Zz 10 ?_
 exact y_ ⟨(i+1,Hs1),hlx1,(by rw[iY_ hx1];first|(rw[if_pos (decide_eq_true (by assumption)),List.map_append,aC_];exact hS1)|(rw[if_neg (by rw[decide_eq_false (by assumption)];decide),List.append_nil];exact hS1))⟩ (by dsimp only;omega) zl zp zh
theorem dJ_ {f:Fc} {l:List Fc} {i:Nat} {x:Fc} (h:l[i]? = some x):fJ_ f (List.take (i+1) l)=fJ_ f (List.take i l)++(if (!cz_ f x&&decide (cT_ f x≠f∧cT_ f x≠x))=true then [cT_ f x] else []):=by
  unfold fJ_
  rw[iY_ h,List.map_append]
  congr 1
  split<;>simp
theorem eW_ {α:Type} {p:α→Bool} {l:List α} {i:Nat} {x:α} (h:l[i]? = some x):List.any (List.take (i+1) l) p=(List.any (List.take i l) p||p x):=by
  rw[List.take_add_one,h,Option.toList_some,List.any_append];simp
theorem meet_c (B:EngB) (E:Emt Tryz.prog 24) (A:EngA) (pm:List (Ky×Pc)) (x:Ix) (f:Fc) (nw fm:List Fc) (Hs:Hp) (hS:E.St nw fm Hs) (hpl:∀ k,(lat pm k).length≤1000000000) (hxl:∀ k,(lat x.above k).length≤1000000000∧(lat x.under k).length≤1000000000) (hyl:∀ k,(lat x.frm k).length≤1000000000∧(lat x.into k).length≤1000000000∧(lat x.ranges k).length≤1000000000∧(lat x.firms k).length≤1000000000):Tri Tryz.prog 99 #[zp_ B.g 0,Fc.val f] Hs [gF B E,pF B pm A,aF B x A,uF B x A,oF B x A,iF B x A,rF B x A,sF B x A,E.ef] (fun _:{H':Hp // E.St (emits E.stp (fJ_ f (eq_ x f (decide (f∈fm)))++gT_ f (eq_ x f (decide (f∈fm)))) nw) fm H'}=>.tuple #[]) (fun y=>y.1) (fun _=>[]):=by
 refine w_ Tryz.func99 rfl rfl Tryz.ntmps99 rfl fun v0=>?_
 refine Zz 2 ?_
 refine as_ rfl rfl fun b1=>Zz 8 ?_
 refine i_ (H_ fg_ rfl rfl) rfl (J_ cu_ rfl fun b2=>z_ 0 dh_ rfl rfl rfl rfl rfl rfl (Zz 4 ?_))
 refine s_ 0 [0,1,2,3,4,5,6] zk zs (Zz 5 ?_)
 refine R_ rfl (aR_ (k:=(f.a,f.r)) (adr:=A.s) cK_ ra_ mH_ rfl rfl zf) rfl (Zz 7 ?_)
 refine s_ 0 [0,1,2,3,4,5] zk zs (Zz 5 ?_)
 refine cI_ rfl (mJ_ (f:=f) hS fe_ aL_ eP_ rfl rfl (c_ F_)) rfl fun r1 hr1=>Zz 3 ?_
 cases r1
 ·replace hr1:=zdf hr1
  refine Zz 17 ?_
  refine Q_ (ι:={y:Nat×Hp×Bool // y.1≤List.length (lat x.firms (f.a,f.r))∧E.St (emits E.stp (fJ_ f (List.take y.1 (lat x.firms (f.a,f.r)))) nw) fm y.2.1∧y.2.2=List.any (List.take y.1 (lat x.firms (f.a,f.r))) (cz_ f)}) (fun y=>[(0,zp_ B.g 0),(3,zp_ b1 0),(6,.bool y.1.2.2),(35,.slice (Prod.fst (A.s (f.a,f.r))) (List.length (lat x.firms (f.a,f.r))) (Prod.snd (A.s (f.a,f.r)))),(36,.int .i64 (List.length (lat x.firms (f.a,f.r)):Int)),(37,.int .i64 (y.1.1:Int))]) (fun y=>((b1,.cells #[.int .i64 f.kind,str f.a,str f.b,str f.r,.int .i64 f.lo,.int .i64 f.hi] 24 (0,0))::y.1.2.1)) (fun y=>[gF B E,pF B pm A,aF B x A,uF B x A,oF B x A,iF B x A,rF B x A,sF B x A,E.ef]) (fun y=>List.length (lat x.firms (f.a,f.r)) - y.1.1) ⟨((0:Nat),Hs,false),by simp,by exact hS,by simp⟩ zl (g_ (c_ d_) F_) zh ?_
  rintro ⟨⟨i,Hs_i,e⟩,hi_i,hS_i,he⟩
  dsimp only at hi_i hS_i he ⊢
  have hb_i:=(hyl (f.a,f.r)).2.2.2
  refine Zi 2 (fun hr2=>?_) fun hr2=>?_
  ·refine Zz 11 ?_
   cases e
   ·refine Zz 3 ?_
    exact end0 Tryz.results99 ⟨Hs_i,by have hL:(eq_ x f (decide (f∈fm)))=(lat x.firms (f.a,f.r)):=(by unfold eq_;rw[decide_eq_false (by assumption)]<;>rfl);rw[hL,aC_];have e9:List.take i (lat x.firms (f.a,f.r))=(lat x.firms (f.a,f.r)):=List.take_of_length_le (by omega);rw[e9]at he hS_i;unfold gT_;rw[if_neg (by rw[← he];decide)];exact hS_i⟩ rfl F_ zt
   refine cO_ rfl ?_
   refine ae_ ((b1,.cells #[.int .i64 f.kind,str f.a,str f.b,str f.r,.int .i64 f.lo,.int .i64 f.hi] 24 (0,0))::[]) zk ?_
   refine s_ 2 [0,1,2,3,4,5] zk zs (Zz 7 ?_)
   refine j_ 6 rfl zk (n_ (fu_ f.a [33]) rfl m_ zt rfl fun _=>Zz 3 ?_)
   refine j_ 7 rfl zk (au_ (first:=[]) (cap:=E.caps) (E.emit (C_ f.a [33]) (emits E.stp (fJ_ f (List.take i (lat x.firms (f.a,f.r)))) nw) fm Hs_i hS_i) rfl rfl F_ zf rfl fun⟨Hs1,hS1⟩=>?_)
   dsimp only
   refine Zz 5 ?_
   exact end0 Tryz.results99 ⟨Hs1,by have hL:(eq_ x f (decide (f∈fm)))=(lat x.firms (f.a,f.r)):=(by unfold eq_;rw[decide_eq_false (by assumption)]<;>rfl);rw[hL,aC_];have e9:List.take i (lat x.firms (f.a,f.r))=(lat x.firms (f.a,f.r)):=List.take_of_length_le (by omega);rw[e9]at he hS1;unfold gT_;rw[if_pos he.symm];exact hS1⟩ rfl l_ zt
  obtain⟨hlx1,x1,hx1,hmx1⟩:=zge (show i<List.length (lat x.firms (f.a,f.r)) by omega)
  refine Zz 10 ?_
  refine i_ (X_ aj_ B_ rfl rfl (fun v _ h=>G_ (n:=6) Fc.cells_len (by decide) (by exact (aw_ h.2.2.2.2.2.2.2.1 (f.a,f.r))) hx1) (by omega) (by first|omega|(simp;done))) rfl ?_
  refine i_ (bi_ (ad:=(Prod.fst (A.s (f.a,f.r)))) (us:=Fc.cells x1) aX_ B_ rfl (fun v _ h=>by exact (aw_ h.2.2.2.2.2.2.2.1 (f.a,f.r))) (Fc.cells_len _) (t_ Fc.cells_len hx1)) rfl (J_ aa_ rfl fun b3=>z_ 0 B_ rfl rfl rfl rfl rfl rfl (Zz 4 ?_))
  refine s_ 0 [0,1,2,3,4,5,6,7,8,9,10,11] zk zs (Zz 4 ?_)
  refine R_ rfl (cC_ rfl rfl) rfl (Zz 4 ?_)
  refine R_ rfl (dg_ rfl rfl) rfl (Zi 9 (fun hr3=>?_) fun hr3=>?_)
  ·refine Zz 11 ?_
   refine n_ (ka_ f.a f.r (max f.lo x1.lo) (min f.hi x1.hi)) rfl m_ zt rfl fun _=>J_ aa_ rfl fun b4=>z_ 0 B_ rfl rfl rfl rfl rfl rfl (Zz 6 ?_)
   refine aQ_ (dw_ (p:=(T_ f.a f.r (max f.lo x1.lo) (min f.hi x1.hi))) (q:=f) rfl rfl) rfl fun r4 hr4=>Zz 1 ?_
   cases r4
   ·replace hr4:=zdf hr4
    refine Zz 14 ?_
    exact y_ ⟨(i+1,Hs_i,e),hlx1,(by rw[dJ_ hx1];first|(rw[if_pos (by rw[Bool.and_eq_true];exact⟨by simp only[cz_];rw[decide_eq_false (by omega)];rfl,decide_eq_true ⟨by assumption,by assumption⟩⟩),aC_];exact hS_i)|(rw[if_neg (by rw[Bool.and_eq_true];intro q;first|exact absurd (of_decide_eq_true q.2).1 (by assumption)|exact absurd (of_decide_eq_true q.2).2 (by assumption)|(have q1:=q.1;simp only[cz_]at q1;rw[decide_eq_true (by omega)]at q1;cases q1)),List.append_nil];exact hS_i)),by rw[eW_ hx1,← he];simp only[cz_];rw[decide_eq_false (by omega)];simp⟩ (by dsimp only;omega) zl (g_ (c_ (c_ d_)) (c_ F_)) zh
   replace hr4:=zdt hr4
   refine Zz 5 ?_
   refine aQ_ (dw_ (p:=(T_ f.a f.r (max f.lo x1.lo) (min f.hi x1.hi))) (q:=x1) rfl rfl) rfl fun r5 hr5=>Zz 3 ?_
   cases r5
   ·replace hr5:=zdf hr5
    refine Zz 8 ?_
    exact y_ ⟨(i+1,Hs_i,e),hlx1,(by rw[dJ_ hx1];first|(rw[if_pos (by rw[Bool.and_eq_true];exact⟨by simp only[cz_];rw[decide_eq_false (by omega)];rfl,decide_eq_true ⟨by assumption,by assumption⟩⟩),aC_];exact hS_i)|(rw[if_neg (by rw[Bool.and_eq_true];intro q;first|exact absurd (of_decide_eq_true q.2).1 (by assumption)|exact absurd (of_decide_eq_true q.2).2 (by assumption)|(have q1:=q.1;simp only[cz_]at q1;rw[decide_eq_true (by omega)]at q1;cases q1)),List.append_nil];exact hS_i)),by rw[eW_ hx1,← he];simp only[cz_];rw[decide_eq_false (by omega)];simp⟩ (by dsimp only;omega) zl (g_ (c_ (c_ d_)) (c_ F_)) zh
   replace hr5:=zdt hr5
   refine cO_ rfl ?_
   refine ae_ ((b4,.cells #[.int .i64 (Fc.kind (T_ f.a f.r (max f.lo x1.lo) (min f.hi x1.hi))),str (Fc.a (T_ f.a f.r (max f.lo x1.lo) (min f.hi x1.hi))),str (Fc.b (T_ f.a f.r (max f.lo x1.lo) (min f.hi x1.hi))),str (Fc.r (T_ f.a f.r (max f.lo x1.lo) (min f.hi x1.hi))),.int .i64 (Fc.lo (T_ f.a f.r (max f.lo x1.lo) (min f.hi x1.hi))),.int .i64 (Fc.hi (T_ f.a f.r (max f.lo x1.lo) (min f.hi x1.hi)))] 24 (0,0))::((b3,.cells #[.int .i64 x1.kind,str x1.a,str x1.b,str x1.r,.int .i64 x1.lo,.int .i64 x1.hi] 24 (0,0))::((b1,.cells #[.int .i64 f.kind,str f.a,str f.b,str f.r,.int .i64 f.lo,.int .i64 f.hi] 24 (0,0))::[]))) zk ?_
   refine s_ 1 [0,1,2,3,4] zk zs (Zz 6 ?_)
   refine j_ 5 rfl zk (au_ (first:=[]) (cap:=E.caps) (E.emit (T_ f.a f.r (max f.lo x1.lo) (min f.hi x1.hi)) (emits E.stp (fJ_ f (List.take i (lat x.firms (f.a,f.r)))) nw) fm Hs_i hS_i) rfl rfl (c_ (c_ F_)) zf rfl fun⟨Hs2,hS2⟩=>?_)
   dsimp only
   refine Zz 10 ?_
   exact y_ ⟨(i+1,Hs2,e),hlx1,(by rw[dJ_ hx1];first|(rw[if_pos (by rw[Bool.and_eq_true];exact⟨by simp only[cz_];rw[decide_eq_false (by omega)];rfl,decide_eq_true ⟨by assumption,by assumption⟩⟩),aC_];exact hS2)|(rw[if_neg (by rw[Bool.and_eq_true];intro q;first|exact absurd (of_decide_eq_true q.2).1 (by assumption)|exact absurd (of_decide_eq_true q.2).2 (by assumption)|(have q1:=q.1;simp only[cz_]at q1;rw[decide_eq_true (by omega)]at q1;cases q1)),List.append_nil];exact hS2)),by rw[eW_ hx1,← he];simp only[cz_];rw[decide_eq_false (by omega)];simp⟩ (by dsimp only;omega) zl zp zh
  refine Zz 12 ?_
  exact y_ ⟨(i+1,Hs_i,true),hlx1,(by rw[dJ_ hx1];first|(rw[if_pos (by rw[Bool.and_eq_true];exact⟨by simp only[cz_];rw[decide_eq_false (by omega)];rfl,decide_eq_true ⟨by assumption,by assumption⟩⟩),aC_];exact hS_i)|(rw[if_neg (by rw[Bool.and_eq_true];intro q;first|exact absurd (of_decide_eq_true q.2).1 (by assumption)|exact absurd (of_decide_eq_true q.2).2 (by assumption)|(have q1:=q.1;simp only[cz_]at q1;rw[decide_eq_true (by omega)]at q1;cases q1)),List.append_nil];exact hS_i)),by rw[eW_ hx1,← he];simp only[cz_];rw[decide_eq_true (by omega)];simp⟩ (by dsimp only;omega) zl (g_ (c_ d_) F_) zh
 replace hr1:=zdt hr1
 refine Zz 2 ?_
 refine s_ 0 [0,1,2,3,4,5,6] zk zs (Zz 5 ?_)
 refine R_ rfl (aR_ (k:=(f.a,f.r)) (adr:=A.r) cK_ ra_ mH_ rfl rfl zf) rfl (Zz 18 ?_)
 refine Q_ (ι:={y:Nat×Hp×Bool // y.1≤List.length (lat x.ranges (f.a,f.r))∧E.St (emits E.stp (fJ_ f (List.take y.1 (lat x.ranges (f.a,f.r)))) nw) fm y.2.1∧y.2.2=List.any (List.take y.1 (lat x.ranges (f.a,f.r))) (cz_ f)}) (fun y=>[(0,zp_ B.g 0),(3,zp_ b1 0),(6,.bool y.1.2.2),(35,.slice (Prod.fst (A.r (f.a,f.r))) (List.length (lat x.ranges (f.a,f.r))) (Prod.snd (A.r (f.a,f.r)))),(36,.int .i64 (List.length (lat x.ranges (f.a,f.r)):Int)),(37,.int .i64 (y.1.1:Int))]) (fun y=>((b1,.cells #[.int .i64 f.kind,str f.a,str f.b,str f.r,.int .i64 f.lo,.int .i64 f.hi] 24 (0,0))::y.1.2.1)) (fun y=>[gF B E,pF B pm A,aF B x A,uF B x A,oF B x A,iF B x A,rF B x A,sF B x A,E.ef]) (fun y=>List.length (lat x.ranges (f.a,f.r)) - y.1.1) ⟨((0:Nat),Hs,false),by simp,by exact hS,by simp⟩ zl (g_ (c_ d_) F_) zh ?_
 rintro ⟨⟨i,Hs_i,e⟩,hi_i,hS_i,he⟩
 dsimp only at hi_i hS_i he ⊢
 have hb_i:=(hyl (f.a,f.r)).2.2.1
 refine Zi 2 (fun hr6=>?_) fun hr6=>?_
 ·refine Zz 11 ?_
  cases e
  ·refine Zz 3 ?_
   exact end0 Tryz.results99 ⟨Hs_i,by have hL:(eq_ x f (decide (f∈fm)))=(lat x.ranges (f.a,f.r)):=(by unfold eq_;rw[decide_eq_true (by assumption)]<;>rfl);rw[hL,aC_];have e9:List.take i (lat x.ranges (f.a,f.r))=(lat x.ranges (f.a,f.r)):=List.take_of_length_le (by omega);rw[e9]at he hS_i;unfold gT_;rw[if_neg (by rw[← he];decide)];exact hS_i⟩ rfl F_ zt
  refine cO_ rfl ?_
  refine ae_ ((b1,.cells #[.int .i64 f.kind,str f.a,str f.b,str f.r,.int .i64 f.lo,.int .i64 f.hi] 24 (0,0))::[]) zk ?_
  refine s_ 2 [0,1,2,3,4,5] zk zs (Zz 7 ?_)
  refine j_ 6 rfl zk (n_ (fu_ f.a [33]) rfl m_ zt rfl fun _=>Zz 3 ?_)
  refine j_ 7 rfl zk (au_ (first:=[]) (cap:=E.caps) (E.emit (C_ f.a [33]) (emits E.stp (fJ_ f (List.take i (lat x.ranges (f.a,f.r)))) nw) fm Hs_i hS_i) rfl rfl F_ zf rfl fun⟨Hs3,hS3⟩=>?_)
  dsimp only
  refine Zz 5 ?_
  exact end0 Tryz.results99 ⟨Hs3,by have hL:(eq_ x f (decide (f∈fm)))=(lat x.ranges (f.a,f.r)):=(by unfold eq_;rw[decide_eq_true (by assumption)]<;>rfl);rw[hL,aC_];have e9:List.take i (lat x.ranges (f.a,f.r))=(lat x.ranges (f.a,f.r)):=List.take_of_length_le (by omega);rw[e9]at he hS3;unfold gT_;rw[if_pos he.symm];exact hS3⟩ rfl l_ zt
 obtain⟨hlx1,x1,hx1,hmx1⟩:=zge (show i<List.length (lat x.ranges (f.a,f.r)) by omega)
 refine Zz 10 ?_
 refine i_ (X_ aj_ B_ rfl rfl (fun v _ h=>G_ (n:=6) Fc.cells_len (by decide) (by exact (aw_ h.2.2.2.2.2.2.1 (f.a,f.r))) hx1) (by omega) (by first|omega|(simp;done))) rfl ?_
 refine i_ (bi_ (ad:=(Prod.fst (A.r (f.a,f.r)))) (us:=Fc.cells x1) aX_ B_ rfl (fun v _ h=>by exact (aw_ h.2.2.2.2.2.2.1 (f.a,f.r))) (Fc.cells_len _) (t_ Fc.cells_len hx1)) rfl (J_ aa_ rfl fun b5=>z_ 0 B_ rfl rfl rfl rfl rfl rfl (Zz 4 ?_))
 refine s_ 0 [0,1,2,3,4,5,6,7,8,9,10,11] zk zs (Zz 4 ?_)
 refine R_ rfl (cC_ rfl rfl) rfl (Zz 4 ?_)
 refine R_ rfl (dg_ rfl rfl) rfl (Zi 9 (fun hr7=>?_) fun hr7=>?_)
 ·refine Zz 11 ?_
  refine n_ (ka_ f.a f.r (max f.lo x1.lo) (min f.hi x1.hi)) rfl m_ zt rfl fun _=>J_ aa_ rfl fun b6=>z_ 0 B_ rfl rfl rfl rfl rfl rfl (Zz 6 ?_)
  refine aQ_ (dw_ (p:=(T_ f.a f.r (max f.lo x1.lo) (min f.hi x1.hi))) (q:=f) rfl rfl) rfl fun r8 hr8=>Zz 1 ?_
  cases r8
  ·replace hr8:=zdf hr8
   refine Zz 14 ?_
   exact y_ ⟨(i+1,Hs_i,e),hlx1,(by rw[dJ_ hx1];first|(rw[if_pos (by rw[Bool.and_eq_true];exact⟨by simp only[cz_];rw[decide_eq_false (by omega)];rfl,decide_eq_true ⟨by assumption,by assumption⟩⟩),aC_];exact hS_i)|(rw[if_neg (by rw[Bool.and_eq_true];intro q;first|exact absurd (of_decide_eq_true q.2).1 (by assumption)|exact absurd (of_decide_eq_true q.2).2 (by assumption)|(have q1:=q.1;simp only[cz_]at q1;rw[decide_eq_true (by omega)]at q1;cases q1)),List.append_nil];exact hS_i)),by rw[eW_ hx1,← he];simp only[cz_];rw[decide_eq_false (by omega)];simp⟩ (by dsimp only;omega) zl (g_ (c_ (c_ d_)) (c_ F_)) zh
  replace hr8:=zdt hr8
  refine Zz 5 ?_
  refine aQ_ (dw_ (p:=(T_ f.a f.r (max f.lo x1.lo) (min f.hi x1.hi))) (q:=x1) rfl rfl) rfl fun r9 hr9=>Zz 3 ?_
  cases r9
  ·replace hr9:=zdf hr9
   refine Zz 8 ?_
   exact y_ ⟨(i+1,Hs_i,e),hlx1,(by rw[dJ_ hx1];first|(rw[if_pos (by rw[Bool.and_eq_true];exact⟨by simp only[cz_];rw[decide_eq_false (by omega)];rfl,decide_eq_true ⟨by assumption,by assumption⟩⟩),aC_];exact hS_i)|(rw[if_neg (by rw[Bool.and_eq_true];intro q;first|exact absurd (of_decide_eq_true q.2).1 (by assumption)|exact absurd (of_decide_eq_true q.2).2 (by assumption)|(have q1:=q.1;simp only[cz_]at q1;rw[decide_eq_true (by omega)]at q1;cases q1)),List.append_nil];exact hS_i)),by rw[eW_ hx1,← he];simp only[cz_];rw[decide_eq_false (by omega)];simp⟩ (by dsimp only;omega) zl (g_ (c_ (c_ d_)) (c_ F_)) zh
  replace hr9:=zdt hr9
  refine cO_ rfl ?_
  refine ae_ ((b6,.cells #[.int .i64 (Fc.kind (T_ f.a f.r (max f.lo x1.lo) (min f.hi x1.hi))),str (Fc.a (T_ f.a f.r (max f.lo x1.lo) (min f.hi x1.hi))),str (Fc.b (T_ f.a f.r (max f.lo x1.lo) (min f.hi x1.hi))),str (Fc.r (T_ f.a f.r (max f.lo x1.lo) (min f.hi x1.hi))),.int .i64 (Fc.lo (T_ f.a f.r (max f.lo x1.lo) (min f.hi x1.hi))),.int .i64 (Fc.hi (T_ f.a f.r (max f.lo x1.lo) (min f.hi x1.hi)))] 24 (0,0))::((b5,.cells #[.int .i64 x1.kind,str x1.a,str x1.b,str x1.r,.int .i64 x1.lo,.int .i64 x1.hi] 24 (0,0))::((b1,.cells #[.int .i64 f.kind,str f.a,str f.b,str f.r,.int .i64 f.lo,.int .i64 f.hi] 24 (0,0))::[]))) zk ?_
  refine s_ 1 [0,1,2,3,4] zk zs (Zz 6 ?_)
  refine j_ 5 rfl zk (au_ (first:=[]) (cap:=E.caps) (E.emit (T_ f.a f.r (max f.lo x1.lo) (min f.hi x1.hi)) (emits E.stp (fJ_ f (List.take i (lat x.ranges (f.a,f.r)))) nw) fm Hs_i hS_i) rfl rfl (c_ (c_ F_)) zf rfl fun⟨Hs4,hS4⟩=>?_)
  dsimp only
  refine Zz 10 ?_
  exact y_ ⟨(i+1,Hs4,e),hlx1,(by rw[dJ_ hx1];first|(rw[if_pos (by rw[Bool.and_eq_true];exact⟨by simp only[cz_];rw[decide_eq_false (by omega)];rfl,decide_eq_true ⟨by assumption,by assumption⟩⟩),aC_];exact hS4)|(rw[if_neg (by rw[Bool.and_eq_true];intro q;first|exact absurd (of_decide_eq_true q.2).1 (by assumption)|exact absurd (of_decide_eq_true q.2).2 (by assumption)|(have q1:=q.1;simp only[cz_]at q1;rw[decide_eq_true (by omega)]at q1;cases q1)),List.append_nil];exact hS4)),by rw[eW_ hx1,← he];simp only[cz_];rw[decide_eq_false (by omega)];simp⟩ (by dsimp only;omega) zl zp zh
 refine Zz 12 ?_
 exact y_ ⟨(i+1,Hs_i,true),hlx1,(by rw[dJ_ hx1];first|(rw[if_pos (by rw[Bool.and_eq_true];exact⟨by simp only[cz_];rw[decide_eq_false (by omega)];rfl,decide_eq_true ⟨by assumption,by assumption⟩⟩),aC_];exact hS_i)|(rw[if_neg (by rw[Bool.and_eq_true];intro q;first|exact absurd (of_decide_eq_true q.2).1 (by assumption)|exact absurd (of_decide_eq_true q.2).2 (by assumption)|(have q1:=q.1;simp only[cz_]at q1;rw[decide_eq_true (by omega)]at q1;cases q1)),List.append_nil];exact hS_i)),by rw[eW_ hx1,← he];simp only[cz_];rw[decide_eq_true (by omega)];simp⟩ (by dsimp only;omega) zl (g_ (c_ d_) F_) zh
theorem tY_ (B:EngB) (E:Emt Tryz.prog 24) (nw fm:List Fc) (Hs:Hp) (hS:E.St nw fm Hs) (al:List Str) (aad:Option Addr) (acap:Nat) (hal:al.length≤1000000000) (hll:B.lps.length≤1000000000):Tri Tryz.prog 43 #[zp_ B.g 0,.slice aad (List.length al) acap] Hs [gF B E,af_ B.lad (List.flatMap aV_ B.lps),af_ aad (List.flatMap aV_ al),E.ef] (fun _:{H':Hp // E.St (emits E.stp (eM_ B.lps al) nw) fm H'}=>.tuple #[]) (fun y=>y.1) (fun _=>[]):=by
 refine w_ Tryz.func43 rfl rfl Tryz.ntmps43 rfl fun v0=>?_
 refine Zz 8 ?_
 refine Q_ (ι:={y:Nat×Hp // y.1≤List.length al∧E.St (emits E.stp (List.flatMap (fun a=>C_ a a::C_ a [42]::List.map (fun r=>I_ a r a) B.lps) (List.take y.1 al)) nw) fm y.2}) (fun y=>[(0,zp_ B.g 0),(8,.slice aad (List.length al) acap),(9,.int .i64 (List.length al:Int)),(10,.int .i64 (y.1.1:Int))]) (fun y=>(y.1.2)) (fun y=>[gF B E,af_ B.lad (List.flatMap aV_ B.lps),af_ aad (List.flatMap aV_ al),E.ef]) (fun y=>List.length al - y.1.1) ⟨((0:Nat),Hs),by simp,by exact hS⟩ zl ay_ zh ?_
 rintro ⟨⟨i,Hs_i⟩,hi_i,hS_i⟩
 dsimp only at hi_i hS_i ⊢
 have hb_i:=hal
 refine Zi 2 (fun hr1=>?_) fun hr1=>?_
 ·refine Zz 6 ?_
  exact end0 Tryz.results43 ⟨Hs_i,by unfold eM_;rw[List.take_of_length_le (by omega)]at hS_i;exact hS_i⟩ rfl ay_ zt
 obtain⟨hlx1,x1,hx1,hmx1⟩:=zge (show i<List.length al by omega)
 refine Zz 16 ?_
 refine ae_ ([]) zk ?_
 refine s_ 2 [0,1,2,3,4,5] zk zs (Zz 7 ?_)
 refine j_ 6 rfl zk (n_ (fu_ x1 x1) rfl m_ zt rfl fun _=>u_ oR_ (Zz 3 ?_))
 refine j_ 7 rfl zk (au_ (first:=[]) (cap:=E.caps) (E.emit (C_ x1 x1) (emits E.stp (List.flatMap (fun a=>C_ a a::C_ a [42]::List.map (fun r=>I_ a r a) B.lps) (List.take i al)) nw) fm Hs_i hS_i) rfl rfl ay_ zf rfl fun⟨Hs1,hS1⟩=>?_)
 dsimp only
 refine u_ dS_ (Zz 6 ?_)
 refine ae_ ([]) zk ?_
 refine s_ 2 [0,1,2,3,4] zk zs (Zz 6 ?_)
 refine j_ 5 rfl zk (n_ (fu_ x1 [42]) rfl m_ zt rfl fun _=>u_ oR_ (Zz 3 ?_))
 refine j_ 6 rfl zk (au_ (first:=[]) (cap:=E.caps) (E.emit (C_ x1 [42]) (E.stp (C_ x1 x1) (emits E.stp (List.flatMap (fun a=>C_ a a::C_ a [42]::List.map (fun r=>I_ a r a) B.lps) (List.take i al)) nw)) fm Hs1 hS1) rfl rfl ay_ zf rfl fun⟨Hs2,hS2⟩=>?_)
 dsimp only
 refine u_ dS_ (Zz 16 ?_)
 refine Q_ (ι:={y:Nat×Hp // y.1≤List.length B.lps∧E.St (emits E.stp (List.map (fun r=>I_ x1 r x1) (List.take y.1 B.lps)) (E.stp (C_ x1 [42]) (E.stp (C_ x1 x1) (emits E.stp (List.flatMap (fun a=>C_ a a::C_ a [42]::List.map (fun r=>I_ a r a) B.lps) (List.take i al)) nw)))) fm y.2}) (fun y=>[(0,zp_ B.g 0),(8,.slice aad (List.length al) acap),(9,.int .i64 (List.length al:Int)),(10,.int .i64 (i:Int)),(5,str x1),(32,.slice B.lad (List.length B.lps) B.lcap),(33,.int .i64 (List.length B.lps:Int)),(34,.int .i64 (y.1.1:Int))]) (fun y=>(y.1.2)) (fun y=>[gF B E,af_ B.lad (List.flatMap aV_ B.lps),af_ aad (List.flatMap aV_ al),E.ef]) (fun y=>List.length B.lps - y.1.1) ⟨((0:Nat),Hs2),by simp,by exact hS2⟩ zl ay_ zh ?_
 rintro ⟨⟨j,Hs_j⟩,hi_j,hS_j⟩
 dsimp only at hi_j hS_j ⊢
 have hb_j:=hll
 refine Zi 2 (fun hr2=>?_) fun hr2=>?_
 ·refine Zz 11 ?_
  exact y_ ⟨(i+1,Hs_j),hlx1,(by rw[gr_ hx1,aC_];have e9:List.take j B.lps=B.lps:=List.take_of_length_le (by omega);rw[e9]at hS_j;exact hS_j)⟩ (by dsimp only;omega) zl ay_ zh
 have hlx2:j<List.length B.lps:=by omega
 obtain⟨x2,hx2⟩:∃ e0,B.lps[j]? = some e0:=⟨_,List.getElem?_eq_getElem hlx2⟩
 have hmx2:x2∈B.lps:=List.mem_of_getElem? hx2
 refine Zz 15 ?_
 refine ae_ ([]) zk ?_
 refine s_ 2 [0,1,2,3,4,5,6] zk zs (Zz 8 ?_)
 refine j_ 7 rfl zk (n_ (ku_ x1 x2 x1) rfl m_ zt rfl fun _=>u_ oR_ (Zz 3 ?_))
 refine j_ 8 rfl zk (au_ (first:=[]) (cap:=E.caps) (E.emit (I_ x1 x2 x1) (emits E.stp (List.map (fun r=>I_ x1 r x1) (List.take j B.lps)) (E.stp (C_ x1 [42]) (E.stp (C_ x1 x1) (emits E.stp (List.flatMap (fun a=>C_ a a::C_ a [42]::List.map (fun r=>I_ a r a) B.lps) (List.take i al)) nw)))) fm Hs_j hS_j) rfl rfl ay_ zf rfl fun⟨Hs3,hS3⟩=>?_)
 dsimp only
 refine u_ dS_ (Zz 10 ?_)
 exact y_ ⟨(j+1,Hs3),hlx2,(by rw[dm_ hx2,aC_];exact hS3)⟩ (by dsimp only;omega) zl ay_ zh
end Go.Proofs.YtkeanlfhghlgiaaGreatDoor
namespace Go.Proofs.YtkeanlfhghlgiaaGreatDoor
open Go Go.Sx Go.Proofs
attribute [local irreducible] Code.wp wpList wpAnyH
open Go.Vs
theorem tA_ (B:EngB) (E:Emt Tryz.prog 24) (x:Ix) (f:Fc) (nw fm:List Fc) (Hs:Hp) (hS:E.St nw fm Hs) (Ha Hu Ho Hi Hr Hm:Hp) (hI:IxO 9 24 B x ⟨Ha,Hu,Ho,Hi,Hr,Hm⟩) (hxl:∀ k,(lat x.above k).length≤1000000000∧(lat x.under k).length≤1000000000) (hyl:∀ k,(lat x.frm k).length≤1000000000∧(lat x.into k).length≤1000000000∧(lat x.ranges k).length≤1000000000∧(lat x.firms k).length≤1000000000):Tri Tryz.prog 45 #[zp_ B.g 0,Fc.val f] (Ha++(Hu++(Ho++(Hi++(Hr++(Hm++Hs)))))) [gF B E] (fun _:{y:IxH // IxO 9 24 B (x.add (decide (f∈fm)) f) y}=>.tuple #[]) (fun y=>y.1.a++(y.1.u++(y.1.o++(y.1.i++(y.1.r++(y.1.s++Hs)))))) (fun _=>[]):=by
 refine w_ Tryz.func45 rfl rfl Tryz.ntmps45 rfl fun v0=>?_
 obtain⟨ha,hu,ho,hi,hr,hm⟩:=hI
 dsimp only at ha hu ho hi hr hm
 refine Zz 2 ?_
 refine as_ rfl rfl fun b1=>Zi 11 (fun hr1=>?_) fun hr1=>?_
 ·refine Zi 6 (fun hr2=>?_) fun hr2=>?_
  ·refine Zi 6 (fun hr3=>?_) fun hr3=>?_
   ·refine Zz 6 ?_
    exact end0 ez_ ⟨IxH.mk Ha Hu Ho Hi Hr Hm,by unfold Ix.add;rw[if_neg (by assumption),if_neg (by assumption),if_neg (by assumption)];exact⟨ha,hu,ho,hi,hr,hm⟩⟩ rfl zp zt
   refine Zz 10 ?_
   refine i_ (H_ fg_ rfl rfl) rfl (J_ cu_ rfl fun b2=>z_ 0 dh_ rfl rfl rfl rfl rfl rfl (Zz 3 ?_))
   refine ae_ ((b2,.cells #[str f.a,str f.r] 128 (0,0))::((b1,.cells #[.int .i64 f.kind,str f.a,str f.b,str f.r,.int .i64 f.lo,.int .i64 f.hi] 24 (0,0))::[])) zk ?_
   refine s_ 6 [0,1,2,3,4,5] zk zs (Zz 7 ?_)
   refine j_ 6 rfl zk (S_ aj_ B_ aa_ rfl rfl rfl rfl rfl rfl fun b3=>Zz 3 ?_)
   refine j_ 7 rfl zk ?_
   have hbb1:=(hyl (f.a,f.r)).2.2.1
   refine bH_ (k:=(f.a,f.r)) cK_ hr ra_ mH_ rfl rfl (c_ (c_ (c_ (e_ (e_ (e_ (e_ l_))))))) rfl fun es1 ce1 ie1 se1 ve1 Hk1 Hx1 ho1 hw1=>Zz 3 ?_
   refine s_ 2 [8,10] zk zs (Zz 3 ?_)
   refine j_ 9 rfl zk (ao_ (news:=List.flatMap Fc.cells [f]) mA_ hw1 rfl rfl zp rfl (bG_ zp) (fun u hu=>ar_ Fc.cells_one hu) (by simp only[maxLen];omega) (by omega) rfl fun sv1 Hr1 hr1=>?_)
   have hq1:=zsa hr1
   refine Zz 3 ?_
   refine j_ 11 rfl zk (aG_ (k:=(f.a,f.r)) (dd:=f) ho1 (by rw[bg_];exact hq1) rfl rfl rfl (aW_ (g_ (e_ d_) (p_ l_ l_))) fun H2 hM2=>?_)
   refine Zz 5 ?_
   refine u_ (q_ (e_ d_) (q_ (e_ d_) (ak_ (e_ d_)))) (Zz 2 ?_)
   refine s_ 0 [0,1,2,3,4,5] zk zs (Zz 5 ?_)
   refine cI_ rfl (mJ_ (f:=f) hS fe_ aL_ eP_ rfl rfl zp) rfl fun r4 hr4=>Zz 3 ?_
   cases r4
   ·replace hr4:=zdf hr4
    refine Zz 3 ?_
    exact end0 ez_ ⟨IxH.mk Ha Hu Ho Hi H2 Hm,by have e0:x.add (decide (f∈fm)) f={ x with ranges:=(x.ranges++[((f.a,f.r),f)]) }:=(by unfold Ix.add;rw[if_neg (by omega),if_neg (by omega),if_pos (by assumption),decide_eq_false (by assumption)];rfl);rw[e0];exact⟨ha,hu,ho,hi,hM2,hm⟩⟩ rfl (p_ (c_ (c_ (c_ (e_ l_)))) (p_ (c_ (c_ (c_ (e_ l_)))) (p_ (c_ (c_ (c_ (e_ l_)))) (p_ (c_ (c_ (c_ (e_ l_)))) (p_ (c_ (c_ (c_ l_))) (p_ (c_ (c_ (c_ l_))) (c_ (c_ F_)))))))) zt
   replace hr4:=zdt hr4
   refine cO_ rfl ?_
   refine ae_ ((b3,.cells #[.int .i64 f.kind,str f.a,str f.b,str f.r,.int .i64 f.lo,.int .i64 f.hi] 24 (0,0))::((b2,.cells #[str f.a,str f.r] 128 (0,0))::((b1,.cells #[.int .i64 f.kind,str f.a,str f.b,str f.r,.int .i64 f.lo,.int .i64 f.hi] 24 (0,0))::[]))) zk ?_
   refine s_ 6 [0,1,2,3,4,5] zk zs (Zz 7 ?_)
   refine j_ 6 rfl zk (S_ aj_ B_ aa_ rfl rfl rfl rfl rfl rfl fun b4=>Zz 3 ?_)
   refine j_ 7 rfl zk ?_
   have hbb3:=(hyl (f.a,f.r)).2.2.2
   refine bH_ (k:=(f.a,f.r)) cK_ hm ra_ mH_ rfl rfl zp rfl fun es3 ce3 ie3 se3 ve3 Hk3 Hx3 ho3 hw3=>Zz 2 ?_
   refine K_ zs (s_ 2 [8,10] zk zs (Zz 3 ?_))
   refine j_ 9 rfl zk (ao_ (news:=List.flatMap Fc.cells [f]) mA_ hw3 rfl rfl zp rfl (bG_ zp) (fun u hu=>ar_ Fc.cells_one hu) (by simp only[maxLen];omega) (by omega) rfl fun sv2 Hr2 hr2=>?_)
   have hq2:=zsa hr2
   refine Zz 2 ?_
   refine K_ zs (j_ 11 rfl zk (aG_ (k:=(f.a,f.r)) (dd:=f) ho3 (by rw[bg_];exact hq2) rfl rfl rfl (aW_ (g_ (e_ d_) (p_ l_ l_))) fun H4 hM4=>?_))
   refine Zz 5 ?_
   exact end0 ez_ ⟨IxH.mk Ha Hu Ho Hi H2 H4,by have e0:x.add (decide (f∈fm)) f={ x with ranges:=(x.ranges++[((f.a,f.r),f)]),firms:=(x.firms++[((f.a,f.r),f)]) }:=(by unfold Ix.add;rw[if_neg (by omega),if_neg (by omega),if_pos (by assumption),decide_eq_true (by assumption)];rfl);rw[e0];exact⟨ha,hu,ho,hi,hM2,hM4⟩⟩ rfl (p_ (e_ (c_ (c_ (c_ (c_ (e_ l_)))))) (p_ (e_ (c_ (c_ (c_ (c_ (e_ l_)))))) (p_ (e_ (c_ (c_ (c_ (c_ (e_ l_)))))) (p_ (e_ (c_ (c_ (c_ (c_ (e_ l_)))))) (p_ (e_ (c_ (c_ (c_ (c_ l_))))) (p_ l_ (c_ (c_ (c_ F_))))))))) zt
  refine Zz 4 ?_
  have hbb5:=(hxl f.b).2
  refine iz_ dV_ f.b hu (c_ (e_ l_)) fun es5 ce5 ve5 Hk5 Hx5 hw5 ho5=>?_
  refine u_ (q_ d_ (ak_ (e_ (e_ d_)))) (cg_ ?_)
  refine ae_ ((b1,.cells #[.int .i64 f.kind,str f.a,str f.b,str f.r,.int .i64 f.lo,.int .i64 f.hi] 24 (0,0))::[]) zk ?_
  refine s_ 4 [0,1,2,3,4,5,6,7,8,9,10,11,13,14] zk zs (Zz 15 ?_)
  refine bW_ 12 15 rfl rfl zk ?_ ?_
  ·refine i_ (cN_ (k:=f.b) dV_ ho5 cj_ bo_ rfl rfl 0 rfl) rfl (Zz 3 ?_)
   refine j_ 15 rfl zk (S_ E_ M_ aZ_ rfl rfl rfl rfl rfl rfl fun b5=>Zz 3 ?_)
   refine j_ 16 rfl zk (ao_ (news:=List.flatMap aV_ [f.a]) df_ hw5 rfl rfl zp rfl (by_ 0 rfl) (fun u hu=>ar_ cE_ hu) (by simp only[maxLen];omega) (by omega) rfl fun sv3 Hr3 hr3=>?_)
   have hq3:=zsa hr3
   refine Zz 3 ?_
   refine j_ 17 rfl zk (da_ (k:=f.b) (dd:=f.a) dV_ ho5 (by rw[bg_];exact hq3) (.inr rfl) cj_ rfl rfl rfl (aW_ (g_ (e_ (c_ d_)) (p_ l_ (c_ (c_ l_))))) fun H6 hM6=>?_)
   refine Zz 5 ?_
   refine u_ (q_ (e_ d_) (ak_ (e_ d_))) (Zz 2 ?_)
   refine s_ 4 [0,1,2,3,4,5,6,7,8,9] zk zs (Zz 4 ?_)
   refine R_ rfl (H_ fg_ rfl rfl) rfl (Zz 4 ?_)
   refine R_ rfl (H_ fg_ rfl rfl) rfl (cJ_ ?_)
   refine bW_ 10 11 rfl rfl zk ?_ ?_
   ·refine J_ cu_ rfl fun b6=>Zz 3 ?_
    refine j_ 11 rfl zk (J_ cu_ rfl fun b7=>Zz 3 ?_)
    refine j_ 12 rfl zk (z_ 1 dh_ rfl rfl rfl rfl rfl rfl (Zz 3 ?_))
    refine j_ 13 rfl zk (z_ 0 dh_ rfl rfl rfl rfl rfl rfl (Zz 6 ?_))
    refine ae_ ((b7,.cells #[str f.b,str f.r] 128 (0,0))::((b6,.cells #[str f.a,str f.r] 128 (0,0))::((b5,.cells #[str f.a] 9 (0,0))::((b1,.cells #[.int .i64 f.kind,str f.a,str f.b,str f.r,.int .i64 f.lo,.int .i64 f.hi] 24 (0,0))::[])))) zk ?_
    refine s_ 6 [0,1,2,3,4,5,6] zk zs (Zz 8 ?_)
    refine j_ 7 rfl zk (S_ E_ M_ aZ_ rfl rfl rfl rfl rfl rfl fun b8=>Zz 3 ?_)
    refine j_ 8 rfl zk ?_
    have hbb7:=(hyl (f.a,f.r)).1
    refine bH_ (k:=(f.a,f.r)) cK_ ho bX_ bo_ rfl rfl (c_ (c_ (c_ (c_ (c_ (e_ (e_ l_))))))) rfl fun es7 ce7 ie7 se7 ve7 Hk7 Hx7 ho7 hw7=>Zz 2 ?_
    refine K_ (fun _ a b=>⟨Vw.sat.sub (a.perm (g_ (c_ (e_ (e_ (c_ d_)))) (g_ (c_ (e_ (e_ (c_ d_)))) (g_ (c_ (e_ (e_ (c_ d_)))) (c_ (e_ (e_ (c_ d_)))))))),b⟩) (s_ 2 [9,11] zk (fun _ a b=>⟨Vw.sat.sub (a.perm (g_ (c_ (e_ (e_ (c_ d_)))) (g_ (c_ (e_ (e_ (c_ d_)))) (g_ (c_ (e_ (e_ (c_ d_)))) (c_ (e_ (e_ (c_ d_)))))))),b⟩) (Zz 3 ?_))
    refine j_ 10 rfl zk (ao_ (news:=List.flatMap aV_ [f.b]) df_ hw7 rfl rfl zp rfl (bG_ zp) (fun u hu=>ar_ cE_ hu) (by simp only[maxLen];omega) (by omega) rfl fun sv4 Hr4 hr4=>?_)
    have hq4:=zsa hr4
    refine Zz 2 ?_
    refine K_ (fun _ a b=>⟨Vw.sat.sub (a.perm (g_ (e_ (c_ (e_ (c_ d_)))) (g_ (e_ (c_ (e_ (c_ d_)))) (g_ (e_ (c_ (e_ (c_ d_)))) (e_ (c_ (e_ (c_ d_)))))))),b⟩) (j_ 12 rfl zk (aG_ (k:=(f.a,f.r)) (dd:=f.b) ho7 (by rw[bg_];exact hq4) rfl rfl rfl (aW_ (g_ (e_ d_) (p_ l_ l_))) fun H8 hM8=>?_))
    refine Zz 5 ?_
    refine u_ (q_ (e_ d_) (q_ (e_ d_) (q_ (e_ d_) (q_ (e_ d_) (ak_ (e_ d_)))))) ?_
    refine ae_ ((b8,.cells #[str f.b] 9 (0,0))::((b7,.cells #[str f.b,str f.r] 128 (0,0))::((b6,.cells #[str f.a,str f.r] 128 (0,0))::((b5,.cells #[str f.a] 9 (0,0))::((b1,.cells #[.int .i64 f.kind,str f.a,str f.b,str f.r,.int .i64 f.lo,.int .i64 f.hi] 24 (0,0))::[]))))) zk ?_
    refine s_ 6 [0,1,2,3,4,5,6] zk zs (Zz 8 ?_)
    refine j_ 7 rfl zk (S_ E_ M_ aZ_ rfl rfl rfl rfl rfl rfl fun b9=>Zz 3 ?_)
    refine j_ 8 rfl zk ?_
    have hbb9:=(hyl (f.b,f.r)).2.1
    refine bH_ (k:=(f.b,f.r)) cK_ hi bX_ bo_ rfl rfl zp rfl fun es9 ce9 ie9 se9 ve9 Hk9 Hx9 ho9 hw9=>Zz 2 ?_
    refine K_ zs (s_ 2 [9,11] zk zs (Zz 3 ?_))
    refine j_ 10 rfl zk (ao_ (news:=List.flatMap aV_ [f.a]) df_ hw9 rfl rfl zp rfl (bG_ zp) (fun u hu=>ar_ cE_ hu) (by simp only[maxLen];omega) (by omega) rfl fun sv5 Hr5 hr5=>?_)
    have hq5:=zsa hr5
    refine Zz 2 ?_
    refine K_ zs (j_ 12 rfl zk (aG_ (k:=(f.b,f.r)) (dd:=f.a) ho9 (by rw[bg_];exact hq5) rfl rfl rfl (aW_ (g_ (e_ d_) (p_ l_ l_))) fun H10 hM10=>?_))
    refine Zz 2 ?_
    refine K_ zs (Zz 2 ?_)
    exact end0 ez_ ⟨IxH.mk Ha H6 H8 H10 Hr Hm,by have e0:x.add (decide (f∈fm)) f={ x with under:=(x.under++[(f.b,f.a)]),frm:=(x.frm++[((f.a,f.r),f.b)]),into:=(x.into++[((f.b,f.r),f.a)]) }:=(by unfold Ix.add;rw[if_neg (by omega),if_pos (by assumption)]);rw[e0];exact⟨ha,hM6,hM8,hM10,hr,hm⟩⟩ rfl (p_ (e_ (c_ (c_ (c_ (c_ (c_ (c_ (e_ (e_ l_))))))))) (p_ (e_ (c_ (c_ (c_ (c_ (c_ (c_ (e_ l_)))))))) (p_ (e_ (c_ (c_ (c_ (c_ (c_ (c_ l_))))))) (p_ l_ (p_ (c_ (c_ (c_ (c_ (c_ (c_ l_)))))) (p_ (c_ (c_ (c_ (c_ (c_ (c_ l_)))))) (c_ (c_ (c_ (c_ (c_ F_))))))))))) zt
   refine J_ cu_ rfl fun b10=>Zz 3 ?_
   refine j_ 10 rfl zk (J_ cu_ rfl fun b11=>Zz 3 ?_)
   refine j_ 12 rfl zk (z_ 0 dh_ rfl rfl rfl rfl rfl rfl (Zz 3 ?_))
   refine j_ 13 rfl zk (z_ 1 dh_ rfl rfl rfl rfl rfl rfl (Zz 6 ?_))
   refine ae_ ((b11,.cells #[str f.a,str f.r] 128 (0,0))::((b10,.cells #[str f.b,str f.r] 128 (0,0))::((b5,.cells #[str f.a] 9 (0,0))::((b1,.cells #[.int .i64 f.kind,str f.a,str f.b,str f.r,.int .i64 f.lo,.int .i64 f.hi] 24 (0,0))::[])))) zk ?_
   refine s_ 6 [0,1,2,3,4,5,6] zk zs (Zz 8 ?_)
   refine j_ 7 rfl zk (S_ E_ M_ aZ_ rfl rfl rfl rfl rfl rfl fun b12=>Zz 3 ?_)
   refine j_ 8 rfl zk ?_
   have hbb11:=(hyl (f.a,f.r)).1
   refine bH_ (k:=(f.a,f.r)) cK_ ho bX_ bo_ rfl rfl (c_ (c_ (c_ (c_ (c_ (e_ (e_ l_))))))) rfl fun es11 ce11 ie11 se11 ve11 Hk11 Hx11 ho11 hw11=>Zz 2 ?_
   refine K_ (fun _ a b=>⟨Vw.sat.sub (a.perm (g_ (c_ (e_ (e_ (c_ d_)))) (g_ (c_ (e_ (e_ (c_ d_)))) (g_ (c_ (e_ (e_ (c_ d_)))) (c_ (e_ (e_ (c_ d_)))))))),b⟩) (s_ 2 [9,11] zk (fun _ a b=>⟨Vw.sat.sub (a.perm (g_ (c_ (e_ (e_ (c_ d_)))) (g_ (c_ (e_ (e_ (c_ d_)))) (g_ (c_ (e_ (e_ (c_ d_)))) (c_ (e_ (e_ (c_ d_)))))))),b⟩) (Zz 3 ?_))
   refine j_ 10 rfl zk (ao_ (news:=List.flatMap aV_ [f.b]) df_ hw11 rfl rfl zp rfl (bG_ zp) (fun u hu=>ar_ cE_ hu) (by simp only[maxLen];omega) (by omega) rfl fun sv6 Hr6 hr6=>?_)
   have hq6:=zsa hr6
   refine Zz 2 ?_
   refine K_ (fun _ a b=>⟨Vw.sat.sub (a.perm (g_ (e_ (c_ (e_ (c_ d_)))) (g_ (e_ (c_ (e_ (c_ d_)))) (g_ (e_ (c_ (e_ (c_ d_)))) (e_ (c_ (e_ (c_ d_)))))))),b⟩) (j_ 12 rfl zk (aG_ (k:=(f.a,f.r)) (dd:=f.b) ho11 (by rw[bg_];exact hq6) rfl rfl rfl (aW_ (g_ (e_ d_) (p_ l_ l_))) fun H12 hM12=>?_))
   refine Zz 5 ?_
   refine u_ (q_ (e_ d_) (q_ (e_ d_) (q_ (e_ d_) (q_ (e_ d_) (ak_ (e_ d_)))))) ?_
   refine ae_ ((b12,.cells #[str f.b] 9 (0,0))::((b11,.cells #[str f.a,str f.r] 128 (0,0))::((b10,.cells #[str f.b,str f.r] 128 (0,0))::((b5,.cells #[str f.a] 9 (0,0))::((b1,.cells #[.int .i64 f.kind,str f.a,str f.b,str f.r,.int .i64 f.lo,.int .i64 f.hi] 24 (0,0))::[]))))) zk ?_
   refine s_ 6 [0,1,2,3,4,5,6] zk zs (Zz 8 ?_)
   refine j_ 7 rfl zk (S_ E_ M_ aZ_ rfl rfl rfl rfl rfl rfl fun b13=>Zz 3 ?_)
   refine j_ 8 rfl zk ?_
   have hbb13:=(hyl (f.b,f.r)).2.1
   refine bH_ (k:=(f.b,f.r)) cK_ hi bX_ bo_ rfl rfl zp rfl fun es13 ce13 ie13 se13 ve13 Hk13 Hx13 ho13 hw13=>Zz 2 ?_
   refine K_ zs (s_ 2 [9,11] zk zs (Zz 3 ?_))
   refine j_ 10 rfl zk (ao_ (news:=List.flatMap aV_ [f.a]) df_ hw13 rfl rfl zp rfl (bG_ zp) (fun u hu=>ar_ cE_ hu) (by simp only[maxLen];omega) (by omega) rfl fun sv7 Hr7 hr7=>?_)
   have hq7:=zsa hr7
   refine Zz 2 ?_
   refine K_ zs (j_ 12 rfl zk (aG_ (k:=(f.b,f.r)) (dd:=f.a) ho13 (by rw[bg_];exact hq7) rfl rfl rfl (aW_ (g_ (e_ d_) (p_ l_ l_))) fun H14 hM14=>?_))
   refine Zz 2 ?_
   refine K_ zs (Zz 2 ?_)
   exact end0 ez_ ⟨IxH.mk Ha H6 H12 H14 Hr Hm,by have e0:x.add (decide (f∈fm)) f={ x with under:=(x.under++[(f.b,f.a)]),frm:=(x.frm++[((f.a,f.r),f.b)]),into:=(x.into++[((f.b,f.r),f.a)]) }:=(by unfold Ix.add;rw[if_neg (by omega),if_pos (by assumption)]);rw[e0];exact⟨ha,hM6,hM12,hM14,hr,hm⟩⟩ rfl (p_ (e_ (c_ (c_ (c_ (c_ (c_ (c_ (e_ (e_ l_))))))))) (p_ (e_ (c_ (c_ (c_ (c_ (c_ (c_ (e_ l_)))))))) (p_ (e_ (c_ (c_ (c_ (c_ (c_ (c_ l_))))))) (p_ l_ (p_ (c_ (c_ (c_ (c_ (c_ (c_ l_)))))) (p_ (c_ (c_ (c_ (c_ (c_ (c_ l_)))))) (c_ (c_ (c_ (c_ (c_ F_))))))))))) zt
  refine S_ E_ M_ aZ_ rfl rfl rfl rfl rfl rfl fun b14=>Zz 3 ?_
  refine j_ 12 rfl zk (i_ (cN_ (k:=f.b) dV_ ho5 cj_ bo_ rfl rfl 1 rfl) rfl (Zz 3 ?_))
  refine j_ 16 rfl zk (ao_ (news:=List.flatMap aV_ [f.a]) df_ hw5 rfl rfl zp rfl (by_ 0 rfl) (fun u hu=>ar_ cE_ hu) (by simp only[maxLen];omega) (by omega) rfl fun sv8 Hr8 hr8=>?_)
  have hq8:=zsa hr8
  refine Zz 3 ?_
  refine j_ 17 rfl zk (da_ (k:=f.b) (dd:=f.a) dV_ ho5 (by rw[bg_];exact hq8) (.inr rfl) cj_ rfl rfl rfl (aW_ (g_ (e_ (c_ d_)) (p_ l_ (c_ (c_ l_))))) fun H15 hM15=>?_)
  refine Zz 5 ?_
  refine u_ (q_ (e_ d_) (ak_ (e_ d_))) (Zz 2 ?_)
  refine s_ 4 [0,1,2,3,4,5,6,7,8,9] zk zs (Zz 4 ?_)
  refine R_ rfl (H_ fg_ rfl rfl) rfl (Zz 4 ?_)
  refine R_ rfl (H_ fg_ rfl rfl) rfl (cJ_ ?_)
  refine bW_ 10 11 rfl rfl zk ?_ ?_
  ·refine J_ cu_ rfl fun b15=>Zz 3 ?_
   refine j_ 11 rfl zk (J_ cu_ rfl fun b16=>Zz 3 ?_)
   refine j_ 12 rfl zk (z_ 1 dh_ rfl rfl rfl rfl rfl rfl (Zz 3 ?_))
   refine j_ 13 rfl zk (z_ 0 dh_ rfl rfl rfl rfl rfl rfl (Zz 6 ?_))
   refine ae_ ((b16,.cells #[str f.b,str f.r] 128 (0,0))::((b15,.cells #[str f.a,str f.r] 128 (0,0))::((b14,.cells #[str f.a] 9 (0,0))::((b1,.cells #[.int .i64 f.kind,str f.a,str f.b,str f.r,.int .i64 f.lo,.int .i64 f.hi] 24 (0,0))::[])))) zk ?_
   refine s_ 6 [0,1,2,3,4,5,6] zk zs (Zz 8 ?_)
   refine j_ 7 rfl zk (S_ E_ M_ aZ_ rfl rfl rfl rfl rfl rfl fun b17=>Zz 3 ?_)
   refine j_ 8 rfl zk ?_
   have hbb16:=(hyl (f.a,f.r)).1
   refine bH_ (k:=(f.a,f.r)) cK_ ho bX_ bo_ rfl rfl (c_ (c_ (c_ (c_ (c_ (e_ (e_ l_))))))) rfl fun es16 ce16 ie16 se16 ve16 Hk16 Hx16 ho16 hw16=>Zz 2 ?_
   refine K_ (fun _ a b=>⟨Vw.sat.sub (a.perm (g_ (c_ (e_ (e_ (c_ d_)))) (g_ (c_ (e_ (e_ (c_ d_)))) (g_ (c_ (e_ (e_ (c_ d_)))) (c_ (e_ (e_ (c_ d_)))))))),b⟩) (s_ 2 [9,11] zk (fun _ a b=>⟨Vw.sat.sub (a.perm (g_ (c_ (e_ (e_ (c_ d_)))) (g_ (c_ (e_ (e_ (c_ d_)))) (g_ (c_ (e_ (e_ (c_ d_)))) (c_ (e_ (e_ (c_ d_)))))))),b⟩) (Zz 3 ?_))
   refine j_ 10 rfl zk (ao_ (news:=List.flatMap aV_ [f.b]) df_ hw16 rfl rfl zp rfl (bG_ zp) (fun u hu=>ar_ cE_ hu) (by simp only[maxLen];omega) (by omega) rfl fun sv9 Hr9 hr9=>?_)
   have hq9:=zsa hr9
   refine Zz 2 ?_
   refine K_ (fun _ a b=>⟨Vw.sat.sub (a.perm (g_ (e_ (c_ (e_ (c_ d_)))) (g_ (e_ (c_ (e_ (c_ d_)))) (g_ (e_ (c_ (e_ (c_ d_)))) (e_ (c_ (e_ (c_ d_)))))))),b⟩) (j_ 12 rfl zk (aG_ (k:=(f.a,f.r)) (dd:=f.b) ho16 (by rw[bg_];exact hq9) rfl rfl rfl (aW_ (g_ (e_ d_) (p_ l_ l_))) fun H17 hM17=>?_))
   refine Zz 5 ?_
   refine u_ (q_ (e_ d_) (q_ (e_ d_) (q_ (e_ d_) (q_ (e_ d_) (ak_ (e_ d_)))))) ?_
   refine ae_ ((b17,.cells #[str f.b] 9 (0,0))::((b16,.cells #[str f.b,str f.r] 128 (0,0))::((b15,.cells #[str f.a,str f.r] 128 (0,0))::((b14,.cells #[str f.a] 9 (0,0))::((b1,.cells #[.int .i64 f.kind,str f.a,str f.b,str f.r,.int .i64 f.lo,.int .i64 f.hi] 24 (0,0))::[]))))) zk ?_
   refine s_ 6 [0,1,2,3,4,5,6] zk zs (Zz 8 ?_)
   refine j_ 7 rfl zk (S_ E_ M_ aZ_ rfl rfl rfl rfl rfl rfl fun b18=>Zz 3 ?_)
   refine j_ 8 rfl zk ?_
   have hbb18:=(hyl (f.b,f.r)).2.1
   refine bH_ (k:=(f.b,f.r)) cK_ hi bX_ bo_ rfl rfl zp rfl fun es18 ce18 ie18 se18 ve18 Hk18 Hx18 ho18 hw18=>Zz 2 ?_
   refine K_ zs (s_ 2 [9,11] zk zs (Zz 3 ?_))
   refine j_ 10 rfl zk (ao_ (news:=List.flatMap aV_ [f.a]) df_ hw18 rfl rfl zp rfl (bG_ zp) (fun u hu=>ar_ cE_ hu) (by simp only[maxLen];omega) (by omega) rfl fun sv10 Hr10 hr10=>?_)
   have hq10:=zsa hr10
   refine Zz 2 ?_
   refine K_ zs (j_ 12 rfl zk (aG_ (k:=(f.b,f.r)) (dd:=f.a) ho18 (by rw[bg_];exact hq10) rfl rfl rfl (aW_ (g_ (e_ d_) (p_ l_ l_))) fun H19 hM19=>?_))
   refine Zz 2 ?_
   refine K_ zs (Zz 2 ?_)
   exact end0 ez_ ⟨IxH.mk Ha H15 H17 H19 Hr Hm,by have e0:x.add (decide (f∈fm)) f={ x with under:=(x.under++[(f.b,f.a)]),frm:=(x.frm++[((f.a,f.r),f.b)]),into:=(x.into++[((f.b,f.r),f.a)]) }:=(by unfold Ix.add;rw[if_neg (by omega),if_pos (by assumption)]);rw[e0];exact⟨ha,hM15,hM17,hM19,hr,hm⟩⟩ rfl (p_ (e_ (c_ (c_ (c_ (c_ (c_ (c_ (e_ (e_ l_))))))))) (p_ (e_ (c_ (c_ (c_ (c_ (c_ (c_ (e_ l_)))))))) (p_ (e_ (c_ (c_ (c_ (c_ (c_ (c_ l_))))))) (p_ l_ (p_ (c_ (c_ (c_ (c_ (c_ (c_ l_)))))) (p_ (c_ (c_ (c_ (c_ (c_ (c_ l_)))))) (c_ (c_ (c_ (c_ (c_ F_))))))))))) zt
  refine J_ cu_ rfl fun b19=>Zz 3 ?_
  refine j_ 10 rfl zk (J_ cu_ rfl fun b20=>Zz 3 ?_)
  refine j_ 12 rfl zk (z_ 0 dh_ rfl rfl rfl rfl rfl rfl (Zz 3 ?_))
  refine j_ 13 rfl zk (z_ 1 dh_ rfl rfl rfl rfl rfl rfl (Zz 6 ?_))
  refine ae_ ((b20,.cells #[str f.a,str f.r] 128 (0,0))::((b19,.cells #[str f.b,str f.r] 128 (0,0))::((b14,.cells #[str f.a] 9 (0,0))::((b1,.cells #[.int .i64 f.kind,str f.a,str f.b,str f.r,.int .i64 f.lo,.int .i64 f.hi] 24 (0,0))::[])))) zk ?_
  refine s_ 6 [0,1,2,3,4,5,6] zk zs (Zz 8 ?_)
  refine j_ 7 rfl zk (S_ E_ M_ aZ_ rfl rfl rfl rfl rfl rfl fun b21=>Zz 3 ?_)
  refine j_ 8 rfl zk ?_
  have hbb20:=(hyl (f.a,f.r)).1
  refine bH_ (k:=(f.a,f.r)) cK_ ho bX_ bo_ rfl rfl (c_ (c_ (c_ (c_ (c_ (e_ (e_ l_))))))) rfl fun es20 ce20 ie20 se20 ve20 Hk20 Hx20 ho20 hw20=>Zz 2 ?_
  refine K_ (fun _ a b=>⟨Vw.sat.sub (a.perm (g_ (c_ (e_ (e_ (c_ d_)))) (g_ (c_ (e_ (e_ (c_ d_)))) (g_ (c_ (e_ (e_ (c_ d_)))) (c_ (e_ (e_ (c_ d_)))))))),b⟩) (s_ 2 [9,11] zk (fun _ a b=>⟨Vw.sat.sub (a.perm (g_ (c_ (e_ (e_ (c_ d_)))) (g_ (c_ (e_ (e_ (c_ d_)))) (g_ (c_ (e_ (e_ (c_ d_)))) (c_ (e_ (e_ (c_ d_)))))))),b⟩) (Zz 3 ?_))
  refine j_ 10 rfl zk (ao_ (news:=List.flatMap aV_ [f.b]) df_ hw20 rfl rfl zp rfl (bG_ zp) (fun u hu=>ar_ cE_ hu) (by simp only[maxLen];omega) (by omega) rfl fun sv11 Hr11 hr11=>?_)
  have hq11:=zsa hr11
  refine Zz 2 ?_
  refine K_ (fun _ a b=>⟨Vw.sat.sub (a.perm (g_ (e_ (c_ (e_ (c_ d_)))) (g_ (e_ (c_ (e_ (c_ d_)))) (g_ (e_ (c_ (e_ (c_ d_)))) (e_ (c_ (e_ (c_ d_)))))))),b⟩) (j_ 12 rfl zk (aG_ (k:=(f.a,f.r)) (dd:=f.b) ho20 (by rw[bg_];exact hq11) rfl rfl rfl (aW_ (g_ (e_ d_) (p_ l_ l_))) fun H21 hM21=>?_))
  refine Zz 5 ?_
  refine u_ (q_ (e_ d_) (q_ (e_ d_) (q_ (e_ d_) (q_ (e_ d_) (ak_ (e_ d_)))))) ?_
  refine ae_ ((b21,.cells #[str f.b] 9 (0,0))::((b20,.cells #[str f.a,str f.r] 128 (0,0))::((b19,.cells #[str f.b,str f.r] 128 (0,0))::((b14,.cells #[str f.a] 9 (0,0))::((b1,.cells #[.int .i64 f.kind,str f.a,str f.b,str f.r,.int .i64 f.lo,.int .i64 f.hi] 24 (0,0))::[]))))) zk ?_
  refine s_ 6 [0,1,2,3,4,5,6] zk zs (Zz 8 ?_)
  refine j_ 7 rfl zk (S_ E_ M_ aZ_ rfl rfl rfl rfl rfl rfl fun b22=>Zz 3 ?_)
  refine j_ 8 rfl zk ?_
  have hbb22:=(hyl (f.b,f.r)).2.1
  refine bH_ (k:=(f.b,f.r)) cK_ hi bX_ bo_ rfl rfl zp rfl fun es22 ce22 ie22 se22 ve22 Hk22 Hx22 ho22 hw22=>Zz 2 ?_
  refine K_ zs (s_ 2 [9,11] zk zs (Zz 3 ?_))
  refine j_ 10 rfl zk (ao_ (news:=List.flatMap aV_ [f.a]) df_ hw22 rfl rfl zp rfl (bG_ zp) (fun u hu=>ar_ cE_ hu) (by simp only[maxLen];omega) (by omega) rfl fun sv12 Hr12 hr12=>?_)
  have hq12:=zsa hr12
  refine Zz 2 ?_
  refine K_ zs (j_ 12 rfl zk (aG_ (k:=(f.b,f.r)) (dd:=f.a) ho22 (by rw[bg_];exact hq12) rfl rfl rfl (aW_ (g_ (e_ d_) (p_ l_ l_))) fun H23 hM23=>?_))
  refine Zz 2 ?_
  refine K_ zs (Zz 2 ?_)
  exact end0 ez_ ⟨IxH.mk Ha H15 H21 H23 Hr Hm,by have e0:x.add (decide (f∈fm)) f={ x with under:=(x.under++[(f.b,f.a)]),frm:=(x.frm++[((f.a,f.r),f.b)]),into:=(x.into++[((f.b,f.r),f.a)]) }:=(by unfold Ix.add;rw[if_neg (by omega),if_pos (by assumption)]);rw[e0];exact⟨ha,hM15,hM21,hM23,hr,hm⟩⟩ rfl (p_ (e_ (c_ (c_ (c_ (c_ (c_ (c_ (e_ (e_ l_))))))))) (p_ (e_ (c_ (c_ (c_ (c_ (c_ (c_ (e_ l_)))))))) (p_ (e_ (c_ (c_ (c_ (c_ (c_ (c_ l_))))))) (p_ l_ (p_ (c_ (c_ (c_ (c_ (c_ (c_ l_)))))) (p_ (c_ (c_ (c_ (c_ (c_ (c_ l_)))))) (c_ (c_ (c_ (c_ (c_ F_))))))))))) zt
 refine Zz 4 ?_
 have hbb24:=(hxl f.a).1
 refine iz_ dV_ f.a ha (c_ l_) fun es24 ce24 ve24 Hk24 Hx24 hw24 ho24=>?_
 refine u_ (q_ d_ (ak_ (e_ (e_ d_)))) ?_
 refine ae_ ((b1,.cells #[.int .i64 f.kind,str f.a,str f.b,str f.r,.int .i64 f.lo,.int .i64 f.hi] 24 (0,0))::[]) zk ?_
 refine s_ 4 [0,1,2,3,4,5,6,7,8,9,10,11,13,14] zk zs (Zz 15 ?_)
 refine bW_ 12 15 rfl rfl zk ?_ ?_
 ·refine i_ (cN_ (k:=f.a) dV_ ho24 cj_ bo_ rfl rfl 0 rfl) rfl (Zz 3 ?_)
  refine j_ 15 rfl zk (S_ E_ M_ aZ_ rfl rfl rfl rfl rfl rfl fun b23=>Zz 3 ?_)
  refine j_ 16 rfl zk (ao_ (news:=List.flatMap aV_ [f.b]) df_ hw24 rfl rfl zp rfl (by_ 0 rfl) (fun u hu=>ar_ cE_ hu) (by simp only[maxLen];omega) (by omega) rfl fun sv13 Hr13 hr13=>?_)
  have hq13:=zsa hr13
  refine Zz 3 ?_
  refine j_ 17 rfl zk (da_ (k:=f.a) (dd:=f.b) dV_ ho24 (by rw[bg_];exact hq13) (.inr rfl) cj_ rfl rfl rfl (aW_ (g_ (e_ (c_ d_)) (p_ l_ (c_ (c_ l_))))) fun H25 hM25=>?_)
  refine Zz 5 ?_
  exact end0 ez_ ⟨IxH.mk H25 Hu Ho Hi Hr Hm,by have e0:x.add (decide (f∈fm)) f={ x with above:=(x.above++[(f.a,f.b)]) }:=(by unfold Ix.add;rw[if_pos (by assumption)]);rw[e0];exact⟨hM25,hu,ho,hi,hr,hm⟩⟩ rfl (p_ l_ (p_ (c_ (c_ l_)) (p_ (c_ (c_ l_)) (p_ (c_ (c_ l_)) (p_ (c_ (c_ l_)) (p_ (c_ (c_ l_)) (c_ F_))))))) zt
 refine S_ E_ M_ aZ_ rfl rfl rfl rfl rfl rfl fun b24=>Zz 3 ?_
 refine j_ 12 rfl zk (i_ (cN_ (k:=f.a) dV_ ho24 cj_ bo_ rfl rfl 1 rfl) rfl (Zz 3 ?_))
 refine j_ 16 rfl zk (ao_ (news:=List.flatMap aV_ [f.b]) df_ hw24 rfl rfl zp rfl (by_ 0 rfl) (fun u hu=>ar_ cE_ hu) (by simp only[maxLen];omega) (by omega) rfl fun sv14 Hr14 hr14=>?_)
 have hq14:=zsa hr14
 refine Zz 3 ?_
 refine j_ 17 rfl zk (da_ (k:=f.a) (dd:=f.b) dV_ ho24 (by rw[bg_];exact hq14) (.inr rfl) cj_ rfl rfl rfl (aW_ (g_ (e_ (c_ d_)) (p_ l_ (c_ (c_ l_))))) fun H26 hM26=>?_)
 refine Zz 5 ?_
 exact end0 ez_ ⟨IxH.mk H26 Hu Ho Hi Hr Hm,by have e0:x.add (decide (f∈fm)) f={ x with above:=(x.above++[(f.a,f.b)]) }:=(by unfold Ix.add;rw[if_pos (by assumption)]);rw[e0];exact⟨hM26,hu,ho,hi,hr,hm⟩⟩ rfl (p_ l_ (p_ (c_ (c_ l_)) (p_ (c_ (c_ l_)) (p_ (c_ (c_ l_)) (p_ (c_ (c_ l_)) (p_ (c_ (c_ l_)) (c_ F_))))))) zt
end Go.Proofs.YtkeanlfhghlgiaaGreatDoor
namespace Go.Proofs.YtkeanlfhghlgiaaGreatDoor
open Go Go.Sx Go.Proofs
attribute [local irreducible] Code.wp wpList wpAnyH
open Go.Vs
theorem hf_ (x:Pc) (ro at':Str) (pm:List (Ky×Pc)) (bx bg:Nat) (g pb kb ab ub ob ib rb sb fb:Nat) (ev:Value) (lv:Value) (Hm:Hp) (hm:aS_ Ky.val Pc.cells 52 10 pm pb Hm) (hpl:pm.length≤1000000000):Tri Tryz.prog 123 #[str ro,str at',zp_ bx 0,zp_ bg 0] ((bx,.cells #[.int .i64 x.kind,str x.a,str x.b,str x.c,str x.r,str x.s,str x.t,.int .i64 x.lo,.int .i64 x.hi,.int .i64 x.frm] 52 (0,0))::(bg,.cells #[zp_ g 0] 71 (0,0))::(g,.cells #[.map (some pb),lv,.map (some kb),ev,.map (some ab),.map (some ub),.map (some ob),.map (some ib),.map (some rb),.map (some sb),.map (some fb)] 80 (0,0))::Hm) [] (fun _:{H:Hp // aS_ Ky.val Pc.cells 52 10 (pm++[((Ky.mk x.kind ro at'),x)]) pb H}=>.tuple #[]) (fun y=>(bx,.cells #[.int .i64 x.kind,str x.a,str x.b,str x.c,str x.r,str x.s,str x.t,.int .i64 x.lo,.int .i64 x.hi,.int .i64 x.frm] 52 (0,0))::(bg,.cells #[zp_ g 0] 71 (0,0))::(g,.cells #[.map (some pb),lv,.map (some kb),ev,.map (some ab),.map (some ub),.map (some ob),.map (some ib),.map (some rb),.map (some sb),.map (some fb)] 80 (0,0))::y.1) (fun _=>[]):=by
  refine w_ Tryz.func123 rfl rfl Tryz.ntmps123 rfl fun v0=>?_
  refine Zz 6 ?_
  refine i_ (H_ ew_ rfl rfl) rfl (J_ Tryz.zeroValue145 rfl fun b1=>z_ 0 Tryz.sizeOf145 rfl rfl rfl rfl rfl rfl (Zz 2 ?_))
  refine ae_ ((b1,.cells #[.int .i64 x.kind,str ro,str at'] 145 (0,0))::((bx,.cells #[.int .i64 x.kind,str x.a,str x.b,str x.c,str x.r,str x.s,str x.t,.int .i64 x.lo,.int .i64 x.hi,.int .i64 x.frm] 52 (0,0))::((bg,.cells #[zp_ g 0] 71 (0,0))::((g,.cells #[.map (some pb),lv,.map (some kb),ev,.map (some ab),.map (some ub),.map (some ob),.map (some ib),.map (some rb),.map (some sb),.map (some fb)] 80 (0,0))::[])))) zk ?_
  refine s_ 6 [0,1,2,3,4,5] zk zs (Zz 7 ?_)
  refine j_ 6 rfl zk (S_ ad_ Y_ aN_ rfl rfl rfl rfl rfl rfl fun b2=>Zz 2 ?_)
  refine K_ zs (j_ 7 rfl zk ?_)
  have hbb1:=Nat.le_trans (bc_ pm (Ky.mk x.kind ro at')) hpl
  refine bH_ (k:=(Ky.mk x.kind ro at')) gU_ hm bY_ cB_ rfl rfl (c_ (c_ (c_ (c_ F_)))) rfl fun es1 ce1 ie1 se1 ve1 Hk1 Hx1 ho1 hw1=>Zz 2 ?_
  refine K_ (fun _ a b=>⟨Vw.sat.sub (a.perm (g_ (c_ (e_ (e_ (c_ d_)))) (g_ (c_ (e_ (e_ (c_ d_)))) (g_ (c_ (e_ (e_ (c_ d_)))) (c_ (e_ (e_ (c_ d_)))))))),b⟩) (s_ 2 [8,10] zk (fun _ a b=>⟨Vw.sat.sub (a.perm (g_ (c_ (e_ (e_ (c_ d_)))) (g_ (c_ (e_ (e_ (c_ d_)))) (g_ (c_ (e_ (e_ (c_ d_)))) (c_ (e_ (e_ (c_ d_)))))))),b⟩) (Zz 3 ?_))
  refine j_ 9 rfl zk (ao_ (news:=List.flatMap Pc.cells [x]) elt_pc hw1 rfl rfl zp rfl (bG_ zp) (fun u hu=>ar_ Pc.cells_one hu) (by simp only[maxLen];omega) (by omega) rfl fun sv1 Hr1 hr1=>?_)
  have hq1:=zsa hr1
  refine Zz 2 ?_
  refine K_ (fun _ a b=>⟨Vw.sat.sub (a.perm (g_ (e_ (c_ (e_ (c_ d_)))) (g_ (e_ (c_ (e_ (c_ d_)))) (g_ (e_ (c_ (e_ (c_ d_)))) (e_ (c_ (e_ (c_ d_)))))))),b⟩) (j_ 11 rfl zk (aG_ (k:=(Ky.mk x.kind ro at')) (dd:=x) ho1 (by rw[bg_];exact hq1) rfl rfl rfl (aW_ (g_ (e_ d_) (p_ l_ l_))) fun H2 hM2=>?_))
  refine Zz 2 ?_
  refine K_ zs (Zz 2 ?_)
  exact end0 Tryz.results123 ⟨H2,hM2⟩ rfl zp zt
theorem qw_ (x:Pc) (pm:List (Ky×Pc)) (lps:List Str) (g pb kb ab ub ob ib rb sb fb:Nat) (ev:Value) (lv:Value) (Hm Hl:Hp) (hm:aS_ Ky.val Pc.cells 52 10 pm pb Hm) (hl:zR 9 1 aV_ lv lps Hl) (hpl:pm.length≤900000000) (hll:lps.length≤900000000):Tri Tryz.prog 84 #[zp_ g 0,Pc.val x] ((g,.cells #[.map (some pb),lv,.map (some kb),ev,.map (some ab),.map (some ub),.map (some ob),.map (some ib),.map (some rb),.map (some sb),.map (some fb)] 80 (0,0))::(Hm++Hl)) [] (fun _:{y:Value×Hp×Hp // aS_ Ky.val Pc.cells 52 10 (pm++bZ_ x) pb y.2.1∧zR 9 1 aV_ y.1 (lps++an_ [x]) y.2.2}=>.tuple #[]) (fun y=>(g,.cells #[.map (some pb),y.1.1,.map (some kb),ev,.map (some ab),.map (some ub),.map (some ob),.map (some ib),.map (some rb),.map (some sb),.map (some fb)] 80 (0,0))::(y.1.2.1++y.1.2.2)) (fun _=>[]):=by
 refine w_ Tryz.func84 rfl rfl Tryz.ntmps84 rfl fun v0=>?_
 refine Zz 2 ?_
 refine as_ rfl rfl fun b1=>as_ rfl rfl fun b2=>Zz 4 ?_
 refine i_ (cD_ rfl rfl) rfl (Zi 13 (fun hr1=>?_) fun hr1=>?_)
 ·refine Zi 6 (fun hr2=>?_) fun hr2=>?_
  ·refine Zi 5 (fun hr3=>?_) fun hr3=>?_
   ·refine Zi 6 (fun hr4=>?_) fun hr4=>?_
    ·refine Zi 6 (fun hr5=>?_) fun hr5=>?_
     ·refine Zi 7 (fun hr6=>?_) fun hr6=>?_
      ·refine Zi 5 (fun hr7=>?_) fun hr7=>?_
       ·refine Zi 6 (fun hr8=>?_) fun hr8=>?_
        ·refine Zi 6 (fun hr9=>?_) fun hr9=>?_
         ·refine Zz 6 ?_
          have e1:pm=pm++bZ_ x:=by simp[bZ_, *]
          have e2:lps=lps++an_ [x]:=by simp[an_, *]
          exact end0 cP_ ⟨(lv,Hm,Hl),e1▸hm,e2▸hl⟩ rfl zp zt
         refine Zz 4 ?_
         refine ae_ ((b2,.cells #[.int .i64 x.kind,str x.a,str x.b,str x.c,str x.r,str x.s,str x.t,.int .i64 x.lo,.int .i64 x.hi,.int .i64 x.frm] 52 (0,0))::((b1,.cells #[zp_ g 0] 71 (0,0))::[])) zk ?_
         refine s_ 6 [0,1,2,3,5,6] zk zs (Zz 7 ?_)
         refine bW_ 4 7 rfl rfl zk ?_ ?_
         ·refine Zz 3 ?_
          refine K_ zs (j_ 7 rfl zk (S_ E_ M_ aZ_ rfl rfl rfl rfl rfl rfl fun b3=>Zz 2 ?_))
          refine K_ zs (j_ 8 rfl zk (ao_ (news:=List.flatMap aV_ [x.r]) df_ hl rfl rfl zp rfl (by_ 0 rfl) (fun u hu=>ar_ cE_ hu) (by simp only[maxLen];first|omega|(simp;omega)) (by first|omega|(simp;omega)) rfl fun sv1 Hr1 hr1=>?_))
          have hq1:=zsa hr1
          refine Zz 2 ?_
          refine K_ zs (s_ 1 [9,10] zk zs (Zz 3 ?_))
          refine j_ 11 rfl zk (u_ (q_ (e_ d_) (q_ (e_ d_) (q_ (e_ d_) (ak_ (e_ d_))))) (dq_ 3 hq1 ul_ rfl rfl rfl rfl (Zz 2 ?_)))
          refine K_ (fun _ a b=>⟨Vw.sat.sub (a.perm (g_ (c_ d_) (c_ d_))),b⟩) (Zz 2 ?_)
          have e1:pm=pm++bZ_ x:=by simp[bZ_, *]
          have e2:(lps++[x.r])=lps++an_ [x]:=by simp[an_, *]
          exact end0 cP_ ⟨(sv1,Hm,Hr1),e1▸hm,e2▸hq1⟩ rfl (g_ (c_ (c_ (c_ d_))) (p_ (c_ (c_ (c_ V_))) (c_ (c_ F_)))) zt
         refine S_ E_ M_ aZ_ rfl rfl rfl rfl rfl rfl fun b4=>Zz 2 ?_
         refine K_ zs (j_ 4 rfl zk (Zz 3 ?_))
         refine K_ zs (j_ 8 rfl zk (ao_ (news:=List.flatMap aV_ [x.r]) df_ hl rfl rfl zp rfl (by_ 0 rfl) (fun u hu=>ar_ cE_ hu) (by simp only[maxLen];first|omega|(simp;omega)) (by first|omega|(simp;omega)) rfl fun sv2 Hr2 hr2=>?_))
         have hq2:=zsa hr2
         refine Zz 2 ?_
         refine K_ zs (s_ 1 [9,10] zk zs (Zz 3 ?_))
         refine j_ 11 rfl zk (u_ (q_ (e_ d_) (q_ (e_ d_) (q_ (e_ d_) (ak_ (e_ d_))))) (dq_ 3 hq2 ul_ rfl rfl rfl rfl (Zz 2 ?_)))
         refine K_ (fun _ a b=>⟨Vw.sat.sub (a.perm (g_ (c_ d_) (c_ d_))),b⟩) (Zz 2 ?_)
         have e1:pm=pm++bZ_ x:=by simp[bZ_, *]
         have e2:(lps++[x.r])=lps++an_ [x]:=by simp[an_, *]
         exact end0 cP_ ⟨(sv2,Hm,Hr2),e1▸hm,e2▸hq2⟩ rfl (g_ (c_ (c_ (c_ d_))) (p_ (c_ (c_ (c_ V_))) (c_ (c_ F_)))) zt
        refine Zz 9 ?_
        refine au_ (hf_ x x.r [] pm b2 b1 g pb kb ab ub ob ib rb sb fb ev lv Hm hm (by first|omega|(simp;omega))) rfl rfl zp zt rfl fun⟨HP1,hP1⟩=>?_
        dsimp only
        simp only[List.cons_append]
        refine Zz 6 ?_
        refine au_ (hf_ x [] x.s (pm++[((Ky.mk x.kind x.r []),x)]) b2 b1 g pb kb ab ub ob ib rb sb fb ev lv HP1 hP1 (by first|omega|(simp;omega))) rfl rfl zp zt rfl fun⟨HP2,hP2⟩=>?_
        dsimp only
        simp only[List.cons_append]
        refine Zz 2 ?_
        have e1:((pm++[((Ky.mk x.kind x.r []),x)])++[((Ky.mk x.kind [] x.s),x)])=pm++bZ_ x:=by simp[bZ_, *]
        have e2:lps=lps++an_ [x]:=by simp[an_, *]
        exact end0 cP_ ⟨(lv,HP2,Hl),e1▸hP2,e2▸hl⟩ rfl zp zt
       refine Zz 8 ?_
       refine au_ (hf_ x x.r [] pm b2 b1 g pb kb ab ub ob ib rb sb fb ev lv Hm hm (by first|omega|(simp;omega))) rfl rfl zp zt rfl fun⟨HP3,hP3⟩=>?_
       dsimp only
       simp only[List.cons_append]
       refine Zz 2 ?_
       have e1:(pm++[((Ky.mk x.kind x.r []),x)])=pm++bZ_ x:=by simp[bZ_, *]
       have e2:lps=lps++an_ [x]:=by simp[an_, *]
       exact end0 cP_ ⟨(lv,HP3,Hl),e1▸hP3,e2▸hl⟩ rfl zp zt
      refine Zz 11 ?_
      refine au_ (hf_ x x.r [] pm b2 b1 g pb kb ab ub ob ib rb sb fb ev lv Hm hm (by first|omega|(simp;omega))) rfl rfl zp zt rfl fun⟨HP4,hP4⟩=>?_
      dsimp only
      simp only[List.cons_append]
      refine Zz 2 ?_
      have e1:(pm++[((Ky.mk x.kind x.r []),x)])=pm++bZ_ x:=by simp[bZ_, *]
      have e2:lps=lps++an_ [x]:=by simp[an_, *]
      exact end0 cP_ ⟨(lv,HP4,Hl),e1▸hP4,e2▸hl⟩ rfl zp zt
     refine Zz 9 ?_
     refine au_ (hf_ x [] x.a pm b2 b1 g pb kb ab ub ob ib rb sb fb ev lv Hm hm (by first|omega|(simp;omega))) rfl rfl zp zt rfl fun⟨HP5,hP5⟩=>?_
     dsimp only
     simp only[List.cons_append]
     refine Zz 8 ?_
     refine au_ (hf_ x x.r x.a (pm++[((Ky.mk x.kind [] x.a),x)]) b2 b1 g pb kb ab ub ob ib rb sb fb ev lv HP5 hP5 (by first|omega|(simp;omega))) rfl rfl zp zt rfl fun⟨HP6,hP6⟩=>?_
     dsimp only
     simp only[List.cons_append]
     refine Zz 2 ?_
     have e1:((pm++[((Ky.mk x.kind [] x.a),x)])++[((Ky.mk x.kind x.r x.a),x)])=pm++bZ_ x:=by simp[bZ_, *]
     have e2:lps=lps++an_ [x]:=by simp[an_, *]
     exact end0 cP_ ⟨(lv,HP6,Hl),e1▸hP6,e2▸hl⟩ rfl zp zt
    refine Zz 9 ?_
    refine au_ (hf_ x [] x.a pm b2 b1 g pb kb ab ub ob ib rb sb fb ev lv Hm hm (by first|omega|(simp;omega))) rfl rfl zp zt rfl fun⟨HP7,hP7⟩=>?_
    dsimp only
    simp only[List.cons_append]
    refine Zi 8 (fun hr10=>?_) fun hr10=>?_
    ·refine Zz 5 ?_
     have e1:(pm++[((Ky.mk x.kind [] x.a),x)])=pm++bZ_ x:=by simp[bZ_, *]
     have e2:lps=lps++an_ [x]:=by simp[an_, *]
     exact end0 cP_ ⟨(lv,HP7,Hl),e1▸hP7,e2▸hl⟩ rfl zp zt
    refine Zz 7 ?_
    refine au_ (hf_ x [] x.b (pm++[((Ky.mk x.kind [] x.a),x)]) b2 b1 g pb kb ab ub ob ib rb sb fb ev lv HP7 hP7 (by first|omega|(simp;omega))) rfl rfl zp zt rfl fun⟨HP8,hP8⟩=>?_
    dsimp only
    simp only[List.cons_append]
    refine Zz 2 ?_
    have e1:((pm++[((Ky.mk x.kind [] x.a),x)])++[((Ky.mk x.kind [] x.b),x)])=pm++bZ_ x:=by simp[bZ_, *]
    have e2:lps=lps++an_ [x]:=by simp[an_, *]
    exact end0 cP_ ⟨(lv,HP8,Hl),e1▸hP8,e2▸hl⟩ rfl zp zt
   refine Zz 8 ?_
   refine au_ (hf_ x [] x.a pm b2 b1 g pb kb ab ub ob ib rb sb fb ev lv Hm hm (by first|omega|(simp;omega))) rfl rfl zp zt rfl fun⟨HP9,hP9⟩=>?_
   dsimp only
   simp only[List.cons_append]
   refine Zz 2 ?_
   have e1:(pm++[((Ky.mk x.kind [] x.a),x)])=pm++bZ_ x:=by simp[bZ_, *]
   have e2:lps=lps++an_ [x]:=by simp[an_, *]
   exact end0 cP_ ⟨(lv,HP9,Hl),e1▸hP9,e2▸hl⟩ rfl zp zt
  refine Zz 11 ?_
  refine au_ (hf_ x [] x.a pm b2 b1 g pb kb ab ub ob ib rb sb fb ev lv Hm hm (by first|omega|(simp;omega))) rfl rfl zp zt rfl fun⟨HP10,hP10⟩=>?_
  dsimp only
  simp only[List.cons_append]
  refine Zz 2 ?_
  have e1:(pm++[((Ky.mk x.kind [] x.a),x)])=pm++bZ_ x:=by simp[bZ_, *]
  have e2:lps=lps++an_ [x]:=by simp[an_, *]
  exact end0 cP_ ⟨(lv,HP10,Hl),e1▸hP10,e2▸hl⟩ rfl zp zt
 refine Zz 11 ?_
 refine au_ (hf_ x [] x.a pm b2 b1 g pb kb ab ub ob ib rb sb fb ev lv Hm hm (by first|omega|(simp;omega))) rfl rfl zp zt rfl fun⟨HP11,hP11⟩=>?_
 dsimp only
 simp only[List.cons_append]
 refine Zz 2 ?_
 have e1:(pm++[((Ky.mk x.kind [] x.a),x)])=pm++bZ_ x:=by simp[bZ_, *]
 have e2:lps=lps++an_ [x]:=by simp[an_, *]
 exact end0 cP_ ⟨(lv,HP11,Hl),e1▸hP11,e2▸hl⟩ rfl zp zt
structure NewE where
  g:Nat
  pb:Nat
  kb:Nat
  ab:Nat
  ub:Nat
  ob:Nat
  ib:Nat
  rb:Nat
  sb:Nat
  fb:Nat
  lv:Value
  hm:Hp
  hl:Hp
def NewE.ok (ps:List Pc) (y:NewE):Prop:=aS_ Ky.val Pc.cells 52 10 (aI_ ps) y.pb y.hm∧zR 9 1 aV_ y.lv (an_ ps) y.hl
def NewE.own (y:NewE):Hp:=(y.g,.cells #[.map (some y.pb),y.lv,.map (some y.kb),.nilFunc,.map (some y.ab),.map (some y.ub),.map (some y.ob),.map (some y.ib),.map (some y.rb),.map (some y.sb),.map (some y.fb)] 80 (0,0))::(y.kb,.map #[] 0)::(y.ab,.map #[] 0)::(y.ub,.map #[] 0)::(y.ob,.map #[] 0)::(y.ib,.map #[] 0)::(y.rb,.map #[] 0)::(y.sb,.map #[] 0)::(y.fb,.map #[] 0)::(y.hm++y.hl)
theorem fo_ {p:List Pc} {i:Nat} {x:Pc} (h:p[i]? = some x):uniq [] (List.take (i+1) p)=if x.zf∈uniq [] (List.take i p) then uniq [] (List.take i p) else uniq [] (List.take i p)++[x.zf]:=by
  have key:∀ (l:List Pc) (r:List Pc),uniq l (r++[x])=if x.zf∈uniq l r then uniq l r else uniq l r++[x.zf]:=by
    intro l r
    induction r generalizing l with
    | nil=>rfl
    | cons y r ih=>exact ih _
  rw[List.take_add_one,h,Option.toList_some]
  exact key _ _
theorem pO_ (l:List Pc) (x:Pc):aI_ (l++[x])=aI_ l++bZ_ x:=by simp[aI_]
theorem mj_ (l:List Pc) (x:Pc):an_ (l++[x])=an_ l++an_ [x]:=by simp[an_]
theorem rj_ (x:Pc):(bZ_ x).length≤2:=by unfold bZ_;(repeat' split)<;>simp
theorem kh_:∀ l:List Pc,(aI_ l).length≤2*l.length
  | []=>by simp[aI_]
  | x::l=>by
    have:=kh_ l
    have h2:=rj_ x
    simp only[aI_,List.flatMap_cons,List.length_append,List.length_cons]at this ⊢
    omega
theorem ji_ (l:List Pc):(an_ l).length≤l.length:=by
  simp only[an_,List.length_map];exact List.length_filter_le _ _
theorem nm_ (p:List Pc) (pad:Option Addr) (pcap:Nat) (hp:p.length≤100000000):Tri Tryz.prog 40 #[.slice pad (List.length p) pcap] [] [af_ pad (List.flatMap Pc.cells p)] (fun y:{y:NewE // y.ok (uniq [] p)}=>zp_ y.1.g 0) (fun y=>y.1.own) (fun _=>[]):=by
 refine w_ Tryz.func40 rfl rfl Tryz.ntmps40 rfl fun v0=>?_
 refine Zz 7 ?_
 refine bR_ rfl fun b1=>bR_ rfl fun b2=>bR_ rfl fun b3=>bR_ rfl fun b4=>bR_ rfl fun b5=>bR_ rfl fun b6=>bR_ rfl fun b7=>bR_ rfl fun b8=>bR_ rfl fun b9=>i_ (H_ strt80 rfl rfl) rfl ?_
 refine as_ rfl rfl fun b10=>Zz 5 ?_
 refine bR_ rfl fun b11=>Zz 12 ?_
 refine Q_ (ι:={y:Nat×Array MapEntry×Nat×Hp×Value×Hp // y.1≤List.length p∧SetE Pc.val y.2.1 (uniq [] (List.take y.1 p))∧aS_ Ky.val Pc.cells 52 10 (aI_ (uniq [] (List.take y.1 p))) b1 y.2.2.2.1∧zR 9 1 aV_ y.2.2.2.2.1 (an_ (uniq [] (List.take y.1 p))) y.2.2.2.2.2}) (fun y=>[(3,zp_ b10 0),(4,.map (some b11)),(19,.slice pad (List.length p) pcap),(20,.int .i64 (List.length p:Int)),(21,.int .i64 (y.1.1:Int))]) (fun y=>((b10,.cells #[.map (some b1),y.1.2.2.2.2.1,.map (some b2),.nilFunc,.map (some b3),.map (some b4),.map (some b5),.map (some b6),.map (some b7),.map (some b8),.map (some b9)] 80 (0,0))::((b11,.map y.1.2.1 y.1.2.2.1)::((b2,.map #[] 0)::((b3,.map #[] 0)::((b4,.map #[] 0)::((b5,.map #[] 0)::((b6,.map #[] 0)::((b7,.map #[] 0)::((b8,.map #[] 0)::((b9,.map #[] 0)::(y.1.2.2.2.1++y.1.2.2.2.2.2)))))))))))) (fun y=>[af_ pad (List.flatMap Pc.cells p)]) (fun y=>List.length p - y.1.1) ⟨((0:Nat),#[],0,[(b1,.map #[] 0)],(.slice none 0 0),[]),by simp,by exact SetE.nil,by exact aS_.nil _ _,(aE_.nil 9 1)⟩ zl zp zh ?_
 rintro ⟨⟨i,es,cs,Hm,sv_L,H_L⟩,hi,hE,hm,hr_L⟩
 dsimp only at hi hE hm hr_L ⊢
 have hbu:=ip_ (List.take i p) []
 have hbt:=List.length_take_le i p
 simp only[List.length_nil]at hbu
 have hbp:(aI_ (uniq [] (List.take i p))).length≤900000000:=by have:=kh_ (uniq [] (List.take i p));omega
 have hbl:(an_ (uniq [] (List.take i p))).length≤900000000:=by have:=ji_ (uniq [] (List.take i p));omega
 refine Zi 2 (fun hr1=>?_) fun hr1=>?_
 ·refine Zz 13 ?_
  have e9:List.take i p=p:=List.take_of_length_le (by omega)
  rw[e9]at hm hr_L
  exact al_ Tryz.results40 ⟨NewE.mk b10 b1 b2 b3 b4 b5 b6 b7 b8 b9 sv_L Hm H_L,hm,hr_L⟩ rfl (g_ d_ (g_ (c_ d_) (g_ (c_ d_) (g_ (c_ d_) (g_ (c_ d_) (g_ (c_ d_) (g_ (c_ d_) (g_ (c_ d_) (g_ (c_ d_) (p_ (c_ l_) F_)))))))))) zt
 obtain⟨hlx1,x1,hx1,hmx1⟩:=zge (show i<List.length p by omega)
 refine Zz 12 ?_
 refine J_ aN_ rfl fun b12=>z_ 0 Y_ rfl rfl rfl rfl rfl rfl (Zz 5 ?_)
 refine z_ 0 o_ rfl rfl rfl rfl rfl rfl (Zz 6 ?_)
 refine aQ_ (fG_ (k:=Pc.zf x1) (q:=(uniq [] (List.take i p))) mm_ Tryz.runUnderlying124 eP_ rfl rfl hE (fun v h _=>(h.own _ (List.mem_of_getElem? (i:=2) rfl)).1)) rfl fun r2 hr2=>i_ (bt_ rfl) rfl (Zz 2 ?_)
 cases r2
 ·replace hr2:=zdf hr2
  refine Zz 5 ?_
  refine kl_ (k:=Pc.zf x1) (q:=(uniq [] (List.take i p))) 2 mm_ (.inr rfl) Tryz.runUnderlying124 rfl rfl rfl rfl hE fun es1 c1 hE1=>Zz 5 ?_
  refine n_ (qw_ x1.zf (aI_ (uniq [] (List.take i p))) (an_ (uniq [] (List.take i p))) b10 b1 b2 b3 b4 b5 b6 b7 b8 b9 .nilFunc sv_L Hm H_L hm hr_L  hbp hbl) rfl (g_ (c_ d_) (p_ (c_ (c_ (c_ (c_ (c_ (c_ (c_ (c_ (c_ (c_ l_)))))))))) (c_ (c_ (c_ (c_ (c_ (c_ (c_ (c_ (c_ F_))))))))))) zt rfl fun⟨⟨lv1,HA1,HA2⟩,hA1,hA2⟩=>?_
  dsimp only
  simp only[List.cons_append,List.append_assoc]
  refine Zz 2 ?_
  refine u_ (q_ d_ (q_ (e_ (e_ d_)) (q_ (e_ (e_ d_)) (q_ (e_ (e_ d_)) (q_ (e_ (e_ d_)) (q_ (e_ (e_ d_)) (q_ (e_ (e_ d_)) (q_ (e_ (e_ d_)) (q_ (e_ (e_ d_)) (q_ (e_ (e_ d_)) (ak_ (e_ V_)))))))))))) (Zz 5 ?_)
  exact y_ ⟨(i+1,es1,c1,HA1,lv1,HA2),hlx1,by rw[fo_ hx1];exact hE1,by rw[fo_ hx1,if_neg (by assumption),pO_];exact hA1,(by rw[fo_ hx1,if_neg (by assumption),mj_];exact hA2)⟩ (by dsimp only;omega) zl zp zh
 replace hr2:=zdt hr2
 refine Zz 8 ?_
 exact y_ ⟨(i+1,es,cs,Hm,sv_L,H_L),hlx1,by rw[fo_ hx1,if_pos (by assumption)];exact hE,by rw[fo_ hx1,if_pos (by assumption)];exact hm,(by rw[fo_ hx1,if_pos (by assumption)];exact hr_L)⟩ (by dsimp only;omega) zl (g_ (c_ d_) (g_ (c_ d_) (g_ (c_ d_) (g_ (c_ d_) (g_ (c_ d_) (g_ (c_ d_) (g_ (c_ d_) (g_ (c_ d_) (g_ (c_ d_) (g_ (c_ d_) (p_ (c_ l_) F_))))))))))) zh
end Go.Proofs.YtkeanlfhghlgiaaGreatDoor
namespace Go.Proofs.YtkeanlfhghlgiaaGreatDoor
open Go Go.Sx Go.Proofs
attribute [local irreducible] Code.wp wpList wpAnyH
open Go.Vs
theorem jR_ {P:Program} {N:Nf} {fr:Fr} {H:Hp} {Γ:List Fct} {ty:TypeId} {K:Type} [DecidableEq K] {kv:K→Value} {t kt et:TypeId} {x:Operand} {mb c:Nat} {es:Array MapEntry} {q:List K} (hE:SetE kv es q) (hu:∀ w,(underlying t).run P w=.ok (.map kt et) w) (hx:Fr.ev fr x=some (.map (some mb))) (hm:∀ v,v.sat H→am_ Γ v→v.w.heap[mb]? = some (.map es c)) :
    Yld P N fr H Γ (.call ⟨.builtin .len,#[x],#[t]⟩) ty (.int .i64 (q.length:Int)):=by
  rw[← hE.size];exact qC_ hu hx hm
def andF (a b:Fct):Fct where
  p v:=a.p v∧b.p v
  mono:=fun v v' h ⟨h1,h2⟩=>⟨a.mono v v' h h1,b.mono v v' h h2⟩
def StA (b9 kb fb:Nat) (nw fm:List Fc) (H:Hp):Prop:=∃ sv es c es' c' q Hq,H=(b9,.cells #[sv] 37 (0,0))::(kb,.map es c)::([(fb,.map es' c')]++Hq)∧aE_ 24 6 sv nw.length (nw.flatMap Fc.cells) Hq∧SetE Fc.val es nw∧SetE Fc.val es' q∧∀ f,f∈q↔f∈fm
theorem tK_ (f:Fc) (nw fm:List Fc) (m:Nat) (hm:m≤65536) (g b7 b8 b9 kb fb:Nat) (c0 c1 c3 c4 c5 c6 c7 c8 c9 c10 sv:Value) (es es2:Array MapEntry) (c c2:Nat) (q:List Fc) (Hq:Hp) (hr:aE_ 24 6 sv nw.length (nw.flatMap Fc.cells) Hq) (hE:SetE Fc.val es nw) (hF:SetE Fc.val es2 q) (hq:∀ f,f∈q↔f∈fm):Tri Tryz.prog 41 #[Fc.val f,zp_ b7 0,zp_ b8 0,zp_ b9 0] ((b9,.cells #[sv] 37 (0,0))::(kb,.map es c)::([(fb,.map es2 c2)]++Hq)) [eu_ b7 (.cells #[zp_ g 0] 71 (0,0)),eu_ b8 (.cells #[.int .i64 (m:Int)] 3 (0,0)),eu_ g (.cells #[c0,c1,.map (some kb),c3,c4,c5,c6,c7,c8,c9,c10] 80 (0,0))] (fun _:{H:Hp // StA b9 kb fb (bm_ m f nw) fm H}=>.tuple #[]) (fun y=>y.1) (fun _=>[]):=by
 refine w_ Tryz.func41 rfl rfl Tryz.ntmps41 rfl fun v0=>?_
 refine Zz 2 ?_
 refine as_ rfl rfl fun b1=>Zz 4 ?_
 refine s_ 8 [0,1,2,3,4,5,6,7] zk zs (Zz 4 ?_)
 refine R_ rfl (jR_ hE aL_ rfl (fun v h _=>(h.own _ (List.mem_of_getElem? (i:=2) rfl)).1)) rfl (Zi 1 (fun hr1=>?_) fun hr1=>?_)
 ·refine Zz 2 ?_
  refine s_ 0 [8,9,10,11,12,13,14,15] zk zs (Zz 14 ?_)
  have e0:bm_ m f nw=nw:=by unfold bm_;rw[if_neg (by rintro ⟨q1,q2⟩;first|omega|exact absurd (by assumption) q2)]
  exact end0 Tryz.results41 ⟨_,sv,es,c,es2,c2,q,Hq,rfl,by rw[e0];exact hr,by rw[e0];exact hE,hF,hq⟩ rfl zp zt
 refine Zz 2 ?_
 refine s_ 0 [8,9,10,11,12,13,14,15] zk zs (Zz 5 ?_)
 refine bK_ rfl rfl rfl (fG_ (k:=f) fe_ aL_ eP_ rfl rfl hE (fun v h _=>(h.own _ (List.mem_of_getElem? (i:=2) rfl)).1)) rfl fun r2 hr2=>fH_ rfl rfl rfl (bt_ rfl) rfl (Zz 4 ?_)
 cases r2
 ·replace hr2:=zdf hr2
  refine Zz 2 ?_
  refine ae_ ((b1,.cells #[.int .i64 f.kind,str f.a,str f.b,str f.r,.int .i64 f.lo,.int .i64 f.hi] 24 (0,0))::((b9,.cells #[sv] 37 (0,0))::[])) zk ?_
  refine s_ 1 [0,1,2,3,4] zk zs (Zz 6 ?_)
  refine j_ 5 rfl zk (kl_ (k:=f) 2 fe_ (.inr rfl) aL_ rfl rfl rfl rfl hE fun ej1 cj1 hj1=>Zz 8 ?_)
  refine S_ aj_ B_ aa_ rfl rfl rfl rfl rfl rfl fun b2=>?_
  refine ao_ (news:=List.flatMap Fc.cells [f]) mA_ hr rfl rfl (c_ (c_ (c_ (c_ V_)))) rfl (by_ 0 rfl) (fun u hu=>ar_ Fc.cells_one hu) (by simp only[maxLen];omega) (by omega) rfl fun sv1 Hr1 hr1=>?_
  have hq1:=zsa hr1
  refine u_ (q_ (e_ d_) (q_ (e_ d_) (q_ (e_ d_) (ak_ (e_ d_))))) (dq_ 2 hq1 Tryz.sizeOf37 rfl rfl rfl rfl (Zz 2 ?_))
  have e0:bm_ m f nw=nw++[f]:=by unfold bm_;rw[if_pos ⟨by omega,by assumption⟩]
  exact end0 Tryz.results41 ⟨_,sv1,ej1,cj1,es2,c2,q,Hr1,rfl,by rw[e0];exact hq1,by rw[e0];rw[if_neg (by assumption)]at hj1;exact hj1,hF,hq⟩ rfl (g_ (c_ (c_ d_)) (g_ (c_ (c_ d_)) (p_ (c_ (c_ V_)) (c_ F_)))) zt
 replace hr2:=zdt hr2
 refine Zz 3 ?_
 have e0:bm_ m f nw=nw:=by unfold bm_;rw[if_neg (by rintro ⟨q1,q2⟩;first|omega|exact absurd (by assumption) q2)]
 exact end0 Tryz.results41 ⟨_,sv,es,c,es2,c2,q,Hq,rfl,by rw[e0];exact hr,by rw[e0];exact hE,hF,hq⟩ rfl zp zt
end Go.Proofs.YtkeanlfhghlgiaaGreatDoor
namespace Go.Proofs.YtkeanlfhghlgiaaGreatDoor
open Go Go.Sx Go.Proofs
attribute [local irreducible] Code.wp wpList wpAnyH
open Go.Vs
def EA (m:Nat) (hm:m≤65536) (B:EngB) (b7 b8 b9 kb fb:Nat):Emt Tryz.prog 24 where
 stp:=bm_ m
 kof:=idk
 St:=StA b9 kb fb
 fn:=41
 caps:=[zp_ b7 0,zp_ b8 0,zp_ b9 0]
 ef:=andF (eu_ b7 (.cells #[zp_ B.g 0] 71 (0,0))) (andF (eu_ b8 (.cells #[.int .i64 (m:Int)] 3 (0,0))) (eu_ B.g (.cells #[.map (some B.pb),.slice B.lad B.lps.length B.lcap,.map (some kb),.func (.func 41) #[] #[zp_ b7 0,zp_ b8 0,zp_ b9 0],.map (some B.ab),.map (some B.ub),.map (some B.ob),.map (some B.ib),.map (some B.rb),.map (some B.sb),.map (some fb)] 80 (0,0))))
 kb:=kb
 fb:=fb
 grows:=fb_ m
 emit:=fun f nw fm H hS=>by
   obtain⟨sv,es,c,es2,c2,q,Hq,rfl,h1,h2,h3,h4⟩:=hS
   exact mP_ [] (tK_ f nw fm m hm B.g b7 b8 b9 kb fb _ _ _ _ _ _ _ _ _ _ sv es es2 c c2 q Hq h1 h2 h3 h4) (fun v _ h=>⟨h.1.1,h.1.2.1,h.1.2.2,trivial⟩)
 known:=fun hS=>by
   obtain⟨sv,es,c,es2,c2,q,Hq,rfl,h1,h2,h3,h4⟩:=hS
   exact⟨es,c,by simp,h2⟩
 firm:=fun hS=>by
   obtain⟨sv,es,c,es2,c2,q,Hq,rfl,h1,h2,h3,h4⟩:=hS
   exact⟨es2,c2,q,by simp,h3,h4⟩
 setf:=fun {nw fm H} f hS=>by
   obtain⟨sv,es,c,es2,c2,q,Hq,rfl,h1,h2,h3,h4⟩:=hS
   refine⟨es2,c2,q,(b9,.cells #[sv] 37 (0,0))::(kb,.map es c)::Hq,ak_ zp,h3,h4,fun es' c' h5=>⟨(b9,.cells #[sv] 37 (0,0))::(kb,.map es c)::([(fb,.map es' c')]++Hq),⟨sv,es,c,es',c',_,Hq,rfl,h1,h2,h5,?_⟩,ak_ zp⟩⟩
   intro z
   split
   · rename_i hz;rw[h4,List.mem_cons];constructor
     · exact .inr
     · rintro (rfl|h)
       · exact (h4 _).1 hz
       · exact h
   · rw[List.mem_append,List.mem_singleton,h4,List.mem_cons,or_comm]
end Go.Proofs.YtkeanlfhghlgiaaGreatDoor
namespace Go.Proofs.YtkeanlfhghlgiaaGreatDoor
open Go Go.Sx Go.Proofs
attribute [local irreducible] Code.wp wpList wpAnyH
open Go.Vs
def fvC (v:Value):List Value:=[v]
theorem hH_ (v:Value):(fvC v).length=1:=rfl
theorem pv_ {P:Program} {N:Nf} {fr:Fr} {H:Hp} {Γ:List Fct} {ty:TypeId} {t e:TypeId} {n sz:Nat} {parts:List (Nat×Operand)} {vs:List (Nat×Value)} {z cs:List Value} (hz:∀ w,(zeroValue t).run P w=.ok (.agg z.toArray) w) (hu:∀ w,(underlying t).run P w=.ok (.array n e) w) (hs:∀ w,(sizeOf e).run P w=.ok sz w) (hx:Fr.evp fr parts=some vs) (hf:jl_ (fun i=>some (i*sz,sz)) z vs=some cs) :
    Yld P N fr H Γ (.build t parts.toArray) ty (.agg cs.toArray) :=
  lh_ (fun a h1 w=>by
    have:=h1.evp hx
    rw[List.map_toArray,this]
    have hf':=hn_ _ _ _ _ hf
    simp only[Instr.build,Sem.run_bind,hz,Result.andThen_ok,hu,hs,Value.cells,hf',Sem.run_pure])
def rlV (g:Nat) (k:Nat):List Value:=if k=1 then [(Value.func (.func 89) #[zp_ g 0] #[]),(Value.func (.func 90) #[zp_ g 0] #[]),(Value.func (.func 91) #[zp_ g 0] #[]),(Value.func (.func 92) #[zp_ g 0] #[]),(Value.func (.func 93) #[zp_ g 0] #[]),(Value.func (.func 94) #[zp_ g 0] #[])] else if k=2 then [(Value.func (.func 95) #[zp_ g 0] #[]),(Value.func (.func 96) #[zp_ g 0] #[]),(Value.func (.func 97) #[zp_ g 0] #[]),(Value.func (.func 98) #[zp_ g 0] #[])] else [(Value.func (.func 99) #[zp_ g 0] #[]),(Value.func (.func 100) #[zp_ g 0] #[])]
theorem ta_ (g:Nat):Tri Tryz.prog 44 #[zp_ g 0] [] [] (fun y:Nat×Nat×Nat=>.agg #[.slice none 0 0,.slice (some ⟨y.1,0,none⟩) 6 6,.slice (some ⟨y.2.1,0,none⟩) 4 4,.slice (some ⟨y.2.2,0,none⟩) 2 2]) (fun _=>[]) (fun y=>[af_ (some ⟨y.1,0,none⟩) (List.flatMap fvC (rlV g 1)),af_ (some ⟨y.2.1,0,none⟩) (List.flatMap fvC (rlV g 2)),af_ (some ⟨y.2.2,0,none⟩) (List.flatMap fvC (rlV g 3))]):=by
  refine w_ Tryz.func44 rfl rfl Tryz.ntmps44 rfl fun v0=>?_
  refine Zz 2 ?_
  refine J_ Tryz.zeroValue83 rfl fun b1=>Zz 5 ?_
  refine i_ (cD_ (us:=[zp_ g 0]) (vs:=[]) rfl rfl) rfl (Zz 1 ?_)
  refine i_ (cD_ (us:=[zp_ g 0]) (vs:=[]) rfl rfl) rfl (Zz 1 ?_)
  refine i_ (cD_ (us:=[zp_ g 0]) (vs:=[]) rfl rfl) rfl (Zz 1 ?_)
  refine i_ (cD_ (us:=[zp_ g 0]) (vs:=[]) rfl rfl) rfl (Zz 1 ?_)
  refine i_ (cD_ (us:=[zp_ g 0]) (vs:=[]) rfl rfl) rfl (Zz 1 ?_)
  refine i_ (cD_ (us:=[zp_ g 0]) (vs:=[]) rfl rfl) rfl (S_ bj_ eX_ Tryz.zeroValue75 rfl rfl rfl rfl rfl rfl fun b2=>?_)
  refine aB_ (List.flatMap fvC [(Value.func (.func 89) #[zp_ g 0] #[]),(Value.func (.func 90) #[zp_ g 0] #[]),(Value.func (.func 91) #[zp_ g 0] #[]),(Value.func (.func 92) #[zp_ g 0] #[]),(Value.func (.func 93) #[zp_ g 0] #[]),(Value.func (.func 94) #[zp_ g 0] #[])]) d_ rfl ?_
  refine Zz 1 ?_
  refine i_ (cD_ (us:=[zp_ g 0]) (vs:=[]) rfl rfl) rfl (Zz 1 ?_)
  refine i_ (cD_ (us:=[zp_ g 0]) (vs:=[]) rfl rfl) rfl (Zz 1 ?_)
  refine i_ (cD_ (us:=[zp_ g 0]) (vs:=[]) rfl rfl) rfl (Zz 1 ?_)
  refine i_ (cD_ (us:=[zp_ g 0]) (vs:=[]) rfl rfl) rfl (S_ bj_ eX_ Tryz.zeroValue75 rfl rfl rfl rfl rfl rfl fun b3=>?_)
  refine aB_ (List.flatMap fvC [(Value.func (.func 95) #[zp_ g 0] #[]),(Value.func (.func 96) #[zp_ g 0] #[]),(Value.func (.func 97) #[zp_ g 0] #[]),(Value.func (.func 98) #[zp_ g 0] #[])]) d_ rfl ?_
  refine Zz 1 ?_
  refine i_ (cD_ (us:=[zp_ g 0]) (vs:=[]) rfl rfl) rfl (Zz 1 ?_)
  refine i_ (cD_ (us:=[zp_ g 0]) (vs:=[]) rfl rfl) rfl (S_ bj_ eX_ Tryz.zeroValue75 rfl rfl rfl rfl rfl rfl fun b4=>?_)
  refine aB_ (List.flatMap fvC [(Value.func (.func 99) #[zp_ g 0] #[]),(Value.func (.func 100) #[zp_ g 0] #[])]) d_ rfl ?_
  refine i_ (pv_ Tryz.zeroValue83 qZ_ Tryz.sizeOf82 rfl rfl) rfl (z_ 0 Tryz.sizeOf83 rfl rfl rfl rfl rfl rfl (Zz 3 ?_))
  exact fy_ (b2,b3,b4) (fun aa v h1 h2=>dk_ (us:=[.slice none 0 0,.slice (some ⟨b2,0,none⟩) (List.length [(Value.func (.func 89) #[zp_ g 0] #[]),(Value.func (.func 90) #[zp_ g 0] #[]),(Value.func (.func 91) #[zp_ g 0] #[]),(Value.func (.func 92) #[zp_ g 0] #[]),(Value.func (.func 93) #[zp_ g 0] #[]),(Value.func (.func 94) #[zp_ g 0] #[])]) 6,.slice (some ⟨b3,0,none⟩) (List.length [(Value.func (.func 95) #[zp_ g 0] #[]),(Value.func (.func 96) #[zp_ g 0] #[]),(Value.func (.func 97) #[zp_ g 0] #[]),(Value.func (.func 98) #[zp_ g 0] #[])]) 4,.slice (some ⟨b4,0,none⟩) (List.length [(Value.func (.func 99) #[zp_ g 0] #[]),(Value.func (.func 100) #[zp_ g 0] #[])]) 2]) 0 Tryz.results44 Tryz.isAgg83 Tryz.sizeOf83 rfl rfl rfl aa v h1 h2) m_ zf
end Go.Proofs.YtkeanlfhghlgiaaGreatDoor
namespace Go.Proofs.YtkeanlfhghlgiaaGreatDoor
open Go Go.Sx Go.Proofs
attribute [local irreducible] Code.wp wpList wpAnyH
open Go.Vs
theorem fa_ (B:EngB) (E:Emt Tryz.prog 24) (A0:EngA) (pm:List (Ky×Pc)) (x:Ix) (f:Fc) (nw fm:List Fc) (Hs:Hp) (hS:E.St nw fm Hs) (Ha Hu Ho Hi Hr Hm:Hp) (hI:IxO 9 24 B x ⟨Ha,Hu,Ho,Hi,Hr,Hm⟩) {n:FuncId} {args:Array Value} {ret:Hp→Prop} (hT:∀ A:EngA,A.p=A0.p→Tri Tryz.prog n args Hs [gF B E,pF B pm A,aF B x A,uF B x A,oF B x A,iF B x A,rF B x A,sF B x A,E.ef] (fun _:{H':Hp // ret H'}=>.tuple #[]) (fun y=>y.1) (fun _=>[])) :
    Tri Tryz.prog n args ((Ha++(Hu++(Ho++(Hi++(Hr++Hm)))))++Hs) [gF B E,pF B pm A0,E.ef] (fun _:{H':Hp // ret H'}=>.tuple #[]) (fun y=>(Ha++(Hu++(Ho++(Hi++(Hr++Hm)))))++y.1) (fun _=>[]):=by
  obtain⟨ha,hu,ho,hi,hr,hm⟩:=hI
  dsimp only at ha hu ho hi hr hm
  obtain⟨a1,k1⟩:=ha.lent (P:=Tryz.prog) dV_
  obtain⟨a2,k2⟩:=hu.lent (P:=Tryz.prog) dV_
  obtain⟨a3,k3⟩:=ho.lent (P:=Tryz.prog) cK_
  obtain⟨a4,k4⟩:=hi.lent (P:=Tryz.prog) cK_
  obtain⟨a5,k5⟩:=hr.lent (P:=Tryz.prog) cK_
  obtain⟨a6,k6⟩:=hm.lent (P:=Tryz.prog) cK_
  refine mP_ _ (hT ⟨A0.p,a1,a2,a3,a4,a5,a6⟩ rfl) fun v hB h=>⟨h.1,h.2.1,k1 v fun p hp=>hB p (by simp[hp]),k2 v fun p hp=>hB p (by simp[hp]),k3 v fun p hp=>hB p (by simp[hp]),k4 v fun p hp=>hB p (by simp[hp]),k5 v fun p hp=>hB p (by simp[hp]),k6 v fun p hp=>hB p (by simp[hp]),h.2.2.1,trivial⟩
theorem rl10_c (B:EngB) (E:Emt Tryz.prog 24) (A0:EngA) (pm:List (Ky×Pc)) (x:Ix) (f:Fc) (nw fm:List Fc) (Hs:Hp) (hS:E.St nw fm Hs) (Ha Hu Ho Hi Hr Hm:Hp) (hI:IxO 9 24 B x ⟨Ha,Hu,Ho,Hi,Hr,Hm⟩) (hpl:∀ k,(lat pm k).length≤1000000000) (hxl:∀ k,(lat x.above k).length≤1000000000∧(lat x.under k).length≤1000000000) (hyl:∀ k,(lat x.frm k).length≤1000000000∧(lat x.into k).length≤1000000000∧(lat x.ranges k).length≤1000000000∧(lat x.firms k).length≤1000000000) (hf:f.kind=3→-1099511627776≤f.lo∧f.lo≤f.hi∧f.hi≤1099511627776) (hq:f.kind=3→∀ y∈lat pm (Ky.mk 9 f.r []),-1099511627776≤y.lo∧y.lo≤y.hi∧y.hi≤1099511627776) (hk:f.kind=1):Tri Tryz.prog 89 #[zp_ B.g 0,f.val] ((Ha++(Hu++(Ho++(Hi++(Hr++Hm)))))++Hs) [gF B E,pF B pm A0,E.ef] (fun _:{H':Hp // E.St (rl E.stp E.kof pm x f 0 (nw,fm)).1 (rl E.stp E.kof pm x f 0 (nw,fm)).2 H'}=>.tuple #[]) (fun y=>(Ha++(Hu++(Ho++(Hi++(Hr++Hm)))))++y.1) (fun _=>[]):=by
  refine fa_ B E A0 pm x f nw fm Hs hS Ha Hu Ho Hi Hr Hm hI fun A hA=>?_
  have h:=qo_ B E A pm x f nw fm Hs hS hpl hxl hyl
  have e:rl E.stp E.kof pm x f 0 (nw,fm)=_:=if_pos hk
  rw[e]
  exact h
theorem rl11_c (B:EngB) (E:Emt Tryz.prog 24) (A0:EngA) (pm:List (Ky×Pc)) (x:Ix) (f:Fc) (nw fm:List Fc) (Hs:Hp) (hS:E.St nw fm Hs) (Ha Hu Ho Hi Hr Hm:Hp) (hI:IxO 9 24 B x ⟨Ha,Hu,Ho,Hi,Hr,Hm⟩) (hpl:∀ k,(lat pm k).length≤1000000000) (hxl:∀ k,(lat x.above k).length≤1000000000∧(lat x.under k).length≤1000000000) (hyl:∀ k,(lat x.frm k).length≤1000000000∧(lat x.into k).length≤1000000000∧(lat x.ranges k).length≤1000000000∧(lat x.firms k).length≤1000000000) (hf:f.kind=3→-1099511627776≤f.lo∧f.lo≤f.hi∧f.hi≤1099511627776) (hq:f.kind=3→∀ y∈lat pm (Ky.mk 9 f.r []),-1099511627776≤y.lo∧y.lo≤y.hi∧y.hi≤1099511627776) (hk:f.kind=1):Tri Tryz.prog 90 #[zp_ B.g 0,f.val] ((Ha++(Hu++(Ho++(Hi++(Hr++Hm)))))++Hs) [gF B E,pF B pm A0,E.ef] (fun _:{H':Hp // E.St (rl E.stp E.kof pm x f 1 (nw,fm)).1 (rl E.stp E.kof pm x f 1 (nw,fm)).2 H'}=>.tuple #[]) (fun y=>(Ha++(Hu++(Ho++(Hi++(Hr++Hm)))))++y.1) (fun _=>[]):=by
  refine fa_ B E A0 pm x f nw fm Hs hS Ha Hu Ho Hi Hr Hm hI fun A hA=>?_
  have h:=both_c B E A pm x f nw fm Hs hS hpl hxl hyl
  have e:rl E.stp E.kof pm x f 1 (nw,fm)=_:=if_pos hk
  rw[e]
  exact h
theorem rl12_c (B:EngB) (E:Emt Tryz.prog 24) (A0:EngA) (pm:List (Ky×Pc)) (x:Ix) (f:Fc) (nw fm:List Fc) (Hs:Hp) (hS:E.St nw fm Hs) (Ha Hu Ho Hi Hr Hm:Hp) (hI:IxO 9 24 B x ⟨Ha,Hu,Ho,Hi,Hr,Hm⟩) (hpl:∀ k,(lat pm k).length≤1000000000) (hxl:∀ k,(lat x.above k).length≤1000000000∧(lat x.under k).length≤1000000000) (hyl:∀ k,(lat x.frm k).length≤1000000000∧(lat x.into k).length≤1000000000∧(lat x.ranges k).length≤1000000000∧(lat x.firms k).length≤1000000000) (hf:f.kind=3→-1099511627776≤f.lo∧f.lo≤f.hi∧f.hi≤1099511627776) (hq:f.kind=3→∀ y∈lat pm (Ky.mk 9 f.r []),-1099511627776≤y.lo∧y.lo≤y.hi∧y.hi≤1099511627776) (hk:f.kind=1):Tri Tryz.prog 91 #[zp_ B.g 0,f.val] ((Ha++(Hu++(Ho++(Hi++(Hr++Hm)))))++Hs) [gF B E,pF B pm A0,E.ef] (fun _:{H':Hp // E.St (rl E.stp E.kof pm x f 2 (nw,fm)).1 (rl E.stp E.kof pm x f 2 (nw,fm)).2 H'}=>.tuple #[]) (fun y=>(Ha++(Hu++(Ho++(Hi++(Hr++Hm)))))++y.1) (fun _=>[]):=by
  refine fa_ B E A0 pm x f nw fm Hs hS Ha Hu Ho Hi Hr Hm hI fun A hA=>?_
  have h:=some_c B E A pm x f nw fm Hs hS hpl hxl hyl
  have e:rl E.stp E.kof pm x f 2 (nw,fm)=_:=if_pos hk
  rw[e]
  exact h
theorem rl13_c (B:EngB) (E:Emt Tryz.prog 24) (A0:EngA) (pm:List (Ky×Pc)) (x:Ix) (f:Fc) (nw fm:List Fc) (Hs:Hp) (hS:E.St nw fm Hs) (Ha Hu Ho Hi Hr Hm:Hp) (hI:IxO 9 24 B x ⟨Ha,Hu,Ho,Hi,Hr,Hm⟩) (hpl:∀ k,(lat pm k).length≤1000000000) (hxl:∀ k,(lat x.above k).length≤1000000000∧(lat x.under k).length≤1000000000) (hyl:∀ k,(lat x.frm k).length≤1000000000∧(lat x.into k).length≤1000000000∧(lat x.ranges k).length≤1000000000∧(lat x.firms k).length≤1000000000) (hf:f.kind=3→-1099511627776≤f.lo∧f.lo≤f.hi∧f.hi≤1099511627776) (hq:f.kind=3→∀ y∈lat pm (Ky.mk 9 f.r []),-1099511627776≤y.lo∧y.lo≤y.hi∧y.hi≤1099511627776) (hk:f.kind=1):Tri Tryz.prog 92 #[zp_ B.g 0,f.val] ((Ha++(Hu++(Ho++(Hi++(Hr++Hm)))))++Hs) [gF B E,pF B pm A0,E.ef] (fun _:{H':Hp // E.St (rl E.stp E.kof pm x f 3 (nw,fm)).1 (rl E.stp E.kof pm x f 3 (nw,fm)).2 H'}=>.tuple #[]) (fun y=>(Ha++(Hu++(Ho++(Hi++(Hr++Hm)))))++y.1) (fun _=>[]):=by
  refine fa_ B E A0 pm x f nw fm Hs hS Ha Hu Ho Hi Hr Hm hI fun A hA=>?_
  have h:=oA_ B E A pm x f nw fm Hs hS hpl hxl hyl
  have e:rl E.stp E.kof pm x f 3 (nw,fm)=_:=if_pos hk
  rw[e]
  exact h
theorem rl14_c (B:EngB) (E:Emt Tryz.prog 24) (A0:EngA) (pm:List (Ky×Pc)) (x:Ix) (f:Fc) (nw fm:List Fc) (Hs:Hp) (hS:E.St nw fm Hs) (Ha Hu Ho Hi Hr Hm:Hp) (hI:IxO 9 24 B x ⟨Ha,Hu,Ho,Hi,Hr,Hm⟩) (hpl:∀ k,(lat pm k).length≤1000000000) (hxl:∀ k,(lat x.above k).length≤1000000000∧(lat x.under k).length≤1000000000) (hyl:∀ k,(lat x.frm k).length≤1000000000∧(lat x.into k).length≤1000000000∧(lat x.ranges k).length≤1000000000∧(lat x.firms k).length≤1000000000) (hf:f.kind=3→-1099511627776≤f.lo∧f.lo≤f.hi∧f.hi≤1099511627776) (hq:f.kind=3→∀ y∈lat pm (Ky.mk 9 f.r []),-1099511627776≤y.lo∧y.lo≤y.hi∧y.hi≤1099511627776) (hk:f.kind=1):Tri Tryz.prog 93 #[zp_ B.g 0,f.val] ((Ha++(Hu++(Ho++(Hi++(Hr++Hm)))))++Hs) [gF B E,pF B pm A0,E.ef] (fun _:{H':Hp // E.St (rl E.stp E.kof pm x f 4 (nw,fm)).1 (rl E.stp E.kof pm x f 4 (nw,fm)).2 H'}=>.tuple #[]) (fun y=>(Ha++(Hu++(Ho++(Hi++(Hr++Hm)))))++y.1) (fun _=>[]):=by
  refine fa_ B E A0 pm x f nw fm Hs hS Ha Hu Ho Hi Hr Hm hI fun A hA=>?_
  have h:=nG_ B E A pm x f nw fm Hs hS hpl hxl hyl
  have e:rl E.stp E.kof pm x f 4 (nw,fm)=_:=if_pos hk
  rw[e]
  exact h
theorem rl15_c (B:EngB) (E:Emt Tryz.prog 24) (A0:EngA) (pm:List (Ky×Pc)) (x:Ix) (f:Fc) (nw fm:List Fc) (Hs:Hp) (hS:E.St nw fm Hs) (Ha Hu Ho Hi Hr Hm:Hp) (hI:IxO 9 24 B x ⟨Ha,Hu,Ho,Hi,Hr,Hm⟩) (hpl:∀ k,(lat pm k).length≤1000000000) (hxl:∀ k,(lat x.above k).length≤1000000000∧(lat x.under k).length≤1000000000) (hyl:∀ k,(lat x.frm k).length≤1000000000∧(lat x.into k).length≤1000000000∧(lat x.ranges k).length≤1000000000∧(lat x.firms k).length≤1000000000) (hf:f.kind=3→-1099511627776≤f.lo∧f.lo≤f.hi∧f.hi≤1099511627776) (hq:f.kind=3→∀ y∈lat pm (Ky.mk 9 f.r []),-1099511627776≤y.lo∧y.lo≤y.hi∧y.hi≤1099511627776) (hk:f.kind=1):Tri Tryz.prog 94 #[zp_ B.g 0,f.val] ((Ha++(Hu++(Ho++(Hi++(Hr++Hm)))))++Hs) [gF B E,pF B pm A0,E.ef] (fun _:{H':Hp // E.St (rl E.stp E.kof pm x f 5 (nw,fm)).1 (rl E.stp E.kof pm x f 5 (nw,fm)).2 H'}=>.tuple #[]) (fun y=>(Ha++(Hu++(Ho++(Hi++(Hr++Hm)))))++y.1) (fun _=>[]):=by
  refine fa_ B E A0 pm x f nw fm Hs hS Ha Hu Ho Hi Hr Hm hI fun A hA=>?_
  have h:=sQ_ B E A pm x f nw fm Hs hS hpl hxl hyl
  have e:rl E.stp E.kof pm x f 5 (nw,fm)=_:=if_pos hk
  rw[e]
  exact h
theorem rl20_c (B:EngB) (E:Emt Tryz.prog 24) (A0:EngA) (pm:List (Ky×Pc)) (x:Ix) (f:Fc) (nw fm:List Fc) (Hs:Hp) (hS:E.St nw fm Hs) (Ha Hu Ho Hi Hr Hm:Hp) (hI:IxO 9 24 B x ⟨Ha,Hu,Ho,Hi,Hr,Hm⟩) (hpl:∀ k,(lat pm k).length≤1000000000) (hxl:∀ k,(lat x.above k).length≤1000000000∧(lat x.under k).length≤1000000000) (hyl:∀ k,(lat x.frm k).length≤1000000000∧(lat x.into k).length≤1000000000∧(lat x.ranges k).length≤1000000000∧(lat x.firms k).length≤1000000000) (hf:f.kind=3→-1099511627776≤f.lo∧f.lo≤f.hi∧f.hi≤1099511627776) (hq:f.kind=3→∀ y∈lat pm (Ky.mk 9 f.r []),-1099511627776≤y.lo∧y.lo≤y.hi∧y.hi≤1099511627776) (hk:f.kind=2):Tri Tryz.prog 95 #[zp_ B.g 0,f.val] ((Ha++(Hu++(Ho++(Hi++(Hr++Hm)))))++Hs) [gF B E,pF B pm A0,E.ef] (fun _:{H':Hp // E.St (rl E.stp E.kof pm x f 0 (nw,fm)).1 (rl E.stp E.kof pm x f 0 (nw,fm)).2 H'}=>.tuple #[]) (fun y=>(Ha++(Hu++(Ho++(Hi++(Hr++Hm)))))++y.1) (fun _=>[]):=by
  refine fa_ B E A0 pm x f nw fm Hs hS Ha Hu Ho Hi Hr Hm hI fun A hA=>?_
  have h:=qh_ B E A pm x f nw fm Hs hS hpl hxl hyl
  have e:rl E.stp E.kof pm x f 0 (nw,fm)=_:=(if_neg (by rw[hk];decide)).trans (if_pos hk)
  rw[e]
  exact h
theorem rl21_c (B:EngB) (E:Emt Tryz.prog 24) (A0:EngA) (pm:List (Ky×Pc)) (x:Ix) (f:Fc) (nw fm:List Fc) (Hs:Hp) (hS:E.St nw fm Hs) (Ha Hu Ho Hi Hr Hm:Hp) (hI:IxO 9 24 B x ⟨Ha,Hu,Ho,Hi,Hr,Hm⟩) (hpl:∀ k,(lat pm k).length≤1000000000) (hxl:∀ k,(lat x.above k).length≤1000000000∧(lat x.under k).length≤1000000000) (hyl:∀ k,(lat x.frm k).length≤1000000000∧(lat x.into k).length≤1000000000∧(lat x.ranges k).length≤1000000000∧(lat x.firms k).length≤1000000000) (hf:f.kind=3→-1099511627776≤f.lo∧f.lo≤f.hi∧f.hi≤1099511627776) (hq:f.kind=3→∀ y∈lat pm (Ky.mk 9 f.r []),-1099511627776≤y.lo∧y.lo≤y.hi∧y.hi≤1099511627776) (hk:f.kind=2):Tri Tryz.prog 96 #[zp_ B.g 0,f.val] ((Ha++(Hu++(Ho++(Hi++(Hr++Hm)))))++Hs) [gF B E,pF B pm A0,E.ef] (fun _:{H':Hp // E.St (rl E.stp E.kof pm x f 1 (nw,fm)).1 (rl E.stp E.kof pm x f 1 (nw,fm)).2 H'}=>.tuple #[]) (fun y=>(Ha++(Hu++(Ho++(Hi++(Hr++Hm)))))++y.1) (fun _=>[]):=by
  refine fa_ B E A0 pm x f nw fm Hs hS Ha Hu Ho Hi Hr Hm hI fun A hA=>?_
  have h:=tW_ B E A pm x f nw fm Hs hS hpl hxl hyl
  have e:rl E.stp E.kof pm x f 1 (nw,fm)=_:=(if_neg (by rw[hk];decide)).trans (if_pos hk)
  rw[e]
  exact h
theorem rl22_c (B:EngB) (E:Emt Tryz.prog 24) (A0:EngA) (pm:List (Ky×Pc)) (x:Ix) (f:Fc) (nw fm:List Fc) (Hs:Hp) (hS:E.St nw fm Hs) (Ha Hu Ho Hi Hr Hm:Hp) (hI:IxO 9 24 B x ⟨Ha,Hu,Ho,Hi,Hr,Hm⟩) (hpl:∀ k,(lat pm k).length≤1000000000) (hxl:∀ k,(lat x.above k).length≤1000000000∧(lat x.under k).length≤1000000000) (hyl:∀ k,(lat x.frm k).length≤1000000000∧(lat x.into k).length≤1000000000∧(lat x.ranges k).length≤1000000000∧(lat x.firms k).length≤1000000000) (hf:f.kind=3→-1099511627776≤f.lo∧f.lo≤f.hi∧f.hi≤1099511627776) (hq:f.kind=3→∀ y∈lat pm (Ky.mk 9 f.r []),-1099511627776≤y.lo∧y.lo≤y.hi∧y.hi≤1099511627776) (hk:f.kind=2):Tri Tryz.prog 97 #[zp_ B.g 0,f.val] ((Ha++(Hu++(Ho++(Hi++(Hr++Hm)))))++Hs) [gF B E,pF B pm A0,E.ef] (fun _:{H':Hp // E.St (rl E.stp E.kof pm x f 2 (nw,fm)).1 (rl E.stp E.kof pm x f 2 (nw,fm)).2 H'}=>.tuple #[]) (fun y=>(Ha++(Hu++(Ho++(Hi++(Hr++Hm)))))++y.1) (fun _=>[]):=by
  refine fa_ B E A0 pm x f nw fm Hs hS Ha Hu Ho Hi Hr Hm hI fun A hA=>?_
  have h:=oz_ B E A pm x f nw fm Hs hS hpl hxl hyl
  have e:rl E.stp E.kof pm x f 2 (nw,fm)=_:=(if_neg (by rw[hk];decide)).trans (if_pos hk)
  rw[e]
  exact h
theorem rl23_c (B:EngB) (E:Emt Tryz.prog 24) (A0:EngA) (pm:List (Ky×Pc)) (x:Ix) (f:Fc) (nw fm:List Fc) (Hs:Hp) (hS:E.St nw fm Hs) (Ha Hu Ho Hi Hr Hm:Hp) (hI:IxO 9 24 B x ⟨Ha,Hu,Ho,Hi,Hr,Hm⟩) (hpl:∀ k,(lat pm k).length≤1000000000) (hxl:∀ k,(lat x.above k).length≤1000000000∧(lat x.under k).length≤1000000000) (hyl:∀ k,(lat x.frm k).length≤1000000000∧(lat x.into k).length≤1000000000∧(lat x.ranges k).length≤1000000000∧(lat x.firms k).length≤1000000000) (hf:f.kind=3→-1099511627776≤f.lo∧f.lo≤f.hi∧f.hi≤1099511627776) (hq:f.kind=3→∀ y∈lat pm (Ky.mk 9 f.r []),-1099511627776≤y.lo∧y.lo≤y.hi∧y.hi≤1099511627776) (hk:f.kind=2):Tri Tryz.prog 98 #[zp_ B.g 0,f.val] ((Ha++(Hu++(Ho++(Hi++(Hr++Hm)))))++Hs) [gF B E,pF B pm A0,E.ef] (fun _:{H':Hp // E.St (rl E.stp E.kof pm x f 3 (nw,fm)).1 (rl E.stp E.kof pm x f 3 (nw,fm)).2 H'}=>.tuple #[]) (fun y=>(Ha++(Hu++(Ho++(Hi++(Hr++Hm)))))++y.1) (fun _=>[]):=by
  refine fa_ B E A0 pm x f nw fm Hs hS Ha Hu Ho Hi Hr Hm hI fun A hA=>?_
  have h:=nF_ B E A pm x f nw fm Hs hS hpl hxl hyl
  have e:rl E.stp E.kof pm x f 3 (nw,fm)=_:=(if_neg (by rw[hk];decide)).trans (if_pos hk)
  rw[e]
  exact h
theorem rl30_c (B:EngB) (E:Emt Tryz.prog 24) (A0:EngA) (pm:List (Ky×Pc)) (x:Ix) (f:Fc) (nw fm:List Fc) (Hs:Hp) (hS:E.St nw fm Hs) (Ha Hu Ho Hi Hr Hm:Hp) (hI:IxO 9 24 B x ⟨Ha,Hu,Ho,Hi,Hr,Hm⟩) (hpl:∀ k,(lat pm k).length≤1000000000) (hxl:∀ k,(lat x.above k).length≤1000000000∧(lat x.under k).length≤1000000000) (hyl:∀ k,(lat x.frm k).length≤1000000000∧(lat x.into k).length≤1000000000∧(lat x.ranges k).length≤1000000000∧(lat x.firms k).length≤1000000000) (hf:f.kind=3→-1099511627776≤f.lo∧f.lo≤f.hi∧f.hi≤1099511627776) (hq:f.kind=3→∀ y∈lat pm (Ky.mk 9 f.r []),-1099511627776≤y.lo∧y.lo≤y.hi∧y.hi≤1099511627776) (hk:f.kind=3):Tri Tryz.prog 99 #[zp_ B.g 0,f.val] ((Ha++(Hu++(Ho++(Hi++(Hr++Hm)))))++Hs) [gF B E,pF B pm A0,E.ef] (fun _:{H':Hp // E.St (rl E.stp E.kof pm x f 0 (nw,fm)).1 (rl E.stp E.kof pm x f 0 (nw,fm)).2 H'}=>.tuple #[]) (fun y=>(Ha++(Hu++(Ho++(Hi++(Hr++Hm)))))++y.1) (fun _=>[]):=by
  refine fa_ B E A0 pm x f nw fm Hs hS Ha Hu Ho Hi Hr Hm hI fun A hA=>?_
  have h:=meet_c B E A pm x f nw fm Hs hS hpl hxl hyl
  have e:rl E.stp E.kof pm x f 0 (nw,fm)=_:=(if_neg (by rw[hk];decide)).trans (if_neg (by rw[hk];decide))
  rw[e]
  exact h
theorem rl31_c (B:EngB) (E:Emt Tryz.prog 24) (A0:EngA) (pm:List (Ky×Pc)) (x:Ix) (f:Fc) (nw fm:List Fc) (Hs:Hp) (hS:E.St nw fm Hs) (Ha Hu Ho Hi Hr Hm:Hp) (hI:IxO 9 24 B x ⟨Ha,Hu,Ho,Hi,Hr,Hm⟩) (hpl:∀ k,(lat pm k).length≤1000000000) (hxl:∀ k,(lat x.above k).length≤1000000000∧(lat x.under k).length≤1000000000) (hyl:∀ k,(lat x.frm k).length≤1000000000∧(lat x.into k).length≤1000000000∧(lat x.ranges k).length≤1000000000∧(lat x.firms k).length≤1000000000) (hf:f.kind=3→-1099511627776≤f.lo∧f.lo≤f.hi∧f.hi≤1099511627776) (hq:f.kind=3→∀ y∈lat pm (Ky.mk 9 f.r []),-1099511627776≤y.lo∧y.lo≤y.hi∧y.hi≤1099511627776) (hk:f.kind=3):Tri Tryz.prog 100 #[zp_ B.g 0,f.val] ((Ha++(Hu++(Ho++(Hi++(Hr++Hm)))))++Hs) [gF B E,pF B pm A0,E.ef] (fun _:{H':Hp // E.St (rl E.stp E.kof pm x f 1 (nw,fm)).1 (rl E.stp E.kof pm x f 1 (nw,fm)).2 H'}=>.tuple #[]) (fun y=>(Ha++(Hu++(Ho++(Hi++(Hr++Hm)))))++y.1) (fun _=>[]):=by
  refine fa_ B E A0 pm x f nw fm Hs hS Ha Hu Ho Hi Hr Hm hI fun A hA=>?_
  have h:=out_c B E A pm x f nw fm Hs hS hpl hxl hyl (hf hk) (hq hk)
  have e:rl E.stp E.kof pm x f 1 (nw,fm)=_:=(if_neg (by rw[hk];decide)).trans (if_neg (by rw[hk];decide))
  rw[e]
  exact h
end Go.Proofs.YtkeanlfhghlgiaaGreatDoor
namespace Go.Proofs.YtkeanlfhghlgiaaGreatDoor
open Go Go.Sx Go.Proofs
attribute [local irreducible] Code.wp wpList wpAnyH
open Go.Vs
section
variable {N:Nf} {v0:Vw} {H0:Hp} {fr:Fr}
theorem iA_ {k:Act→World→Prop} {F:Hp}:∀ (B:Hp) {H:Hp} {Γ:List Fct},H.Perm (B++F)→Ok N v0 H0 k fr F (B.reverse.map (fun p=>eu_ p.1 p.2)++Γ)→Ok N v0 H0 k fr H Γ
  | [],H,Γ,hH,h=>u_ hH h
  | (b,o)::B,H,Γ,hH,h=>by
    refine hD_ (eu_ b o) (F:=B++F) hH (fun _ h1 h2 _=>⟨h1,h2⟩) ?_
    refine iA_ B (.refl _) ?_
    simpa using h
end
end Go.Proofs.YtkeanlfhghlgiaaGreatDoor
