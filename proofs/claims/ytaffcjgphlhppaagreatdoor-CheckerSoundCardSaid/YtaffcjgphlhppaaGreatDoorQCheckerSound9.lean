/-
  Part of the proof of the law CheckerSound over this seat: the small logic, the data, the contracts of functions (no condition).
-/
import Derived.Test.YtaffcjgphlhppaaGreatDoorQCheckerSound8
import Derived.Test.YtaffcjgphlhppaaGreatDoorQCheckerSound6
import Derived.Test.YtaffcjgphlhppaaGreatDoorQCheckerSound5
set_option linter.unusedVariables false
set_option linter.unusedSimpArgs false
set_option linter.unusedSectionVars false
set_option maxHeartbeats 1000000
namespace Go.Proofs.YtaffcjgphlhppaaGreatDoor
open Go Go.Sx Go.Proofs
attribute [local irreducible] Code.wp wpList wpAnyH
open Go.Vs
def ivC (i:Int×Int):List Value:=[.int .i64 i.1,.int .i64 i.2]
theorem mv_ (i:Int×Int):(ivC i).length=2:=rfl
def ivV (i:Int×Int):Value:=.agg (ivC i).toArray
def eU_ (i:Int×Int):Int:=if min i.1 i.2 < -1099511627776∨1099511627776<max i.1 i.2 then 1 else if i.2<i.1 then 80 else 0
def ig_ (e:Int) (i:Int×Int):Int:=if e≠0 then e else eU_ i
def fi_ (l:List (Int×Int)):Int:=l.foldl ig_ 0
theorem nN_ {l:List (Int×Int)} {i:Nat} {x:Int×Int} (h:l[i]? = some x):fi_ (List.take (i+1) l)=ig_ (fi_ (List.take i l)) x:=by
  unfold fi_;rw[List.take_add_one,h,Option.toList_some,List.foldl_append];rfl
def qb_ (a b:Int×Int):Bool:=decide (fi_ [a,b]=0)&&(decide (b.1≤a.1)&&decide (a.2≤b.2))
theorem ts_ {a b:Int×Int} (ha:-1099511627776≤a.1∧a.1≤a.2∧a.2≤1099511627776) (hb:-1099511627776≤b.1∧b.1≤b.2∧b.2≤1099511627776):qb_ a b=decide (b.1≤a.1∧a.2≤b.2):=by
  have e:∀ i:Int×Int,-1099511627776≤i.1∧i.1≤i.2∧i.2≤1099511627776→eU_ i=0:=fun i h=>by
    unfold eU_;rw[if_neg (by omega),if_neg (by omega)]
  have e2:fi_ [a,b]=0:=by simp[fi_,ig_,e a ha,e b hb]
  unfold qb_;rw[e2,Bool.eq_iff_iff];simp
theorem fl_:hy_ Tryz.prog 196 [(0,1),(1,1)] [.int .i64 0,.int .i64 0]:=⟨_,ae_,ct_,fun w=>by simp[aq_]⟩
theorem qd_ (i:Int×Int):Fn0 Tryz.prog 223 #[ivV i] (.int .i64 (eU_ i)):=by
 refine t_ Tryz.func223 rfl rfl Tryz.ntmps223 rfl fun v0=>?_
 refine Zz 2 ?_
 refine ag_ rfl rfl fun b1=>Zz 10 ?_
 refine d_ (in_ rfl rfl) rfl ?_
 refine Zi 0 (fun hr1=>?_) fun hr1=>?_
 ·refine Zz 10 ?_
  refine d_ (jU_ rfl rfl) rfl (y_ rfl rfl ?_)
  refine Zi 0 (fun hr2=>?_) fun hr2=>?_
  ·refine Zi 13 (fun hr3=>?_) fun hr3=>?_
   ·refine Zz 11 ?_
    exact J_ Tryz.results223 () (au_ rfl (by unfold eU_;first|(rw[if_pos (by omega)])|(rw[if_neg (by omega),if_pos (by omega)])|(rw[if_neg (by omega),if_neg (by omega)]))) g_ zt
   refine Zz 9 ?_
   exact J_ Tryz.results223 () (au_ rfl (by unfold eU_;first|(rw[if_pos (by omega)])|(rw[if_neg (by omega),if_pos (by omega)])|(rw[if_neg (by omega),if_neg (by omega)]))) g_ zt
  refine Zz 10 ?_
  exact J_ Tryz.results223 () (au_ rfl (by unfold eU_;first|(rw[if_pos (by omega)])|(rw[if_neg (by omega),if_pos (by omega)])|(rw[if_neg (by omega),if_neg (by omega)]))) g_ zt
 refine Zz 17 ?_
 exact J_ Tryz.results223 () (au_ rfl (by unfold eU_;first|(rw[if_pos (by omega)])|(rw[if_neg (by omega),if_pos (by omega)])|(rw[if_neg (by omega),if_neg (by omega)]))) g_ zt
theorem tp_ (e:Int) (i:Int×Int):Fn0 Tryz.prog 222 #[.int .i64 e,ivV i] (.int .i64 (ig_ e i)):=by
 refine t_ Tryz.func222 rfl rfl Tryz.ntmps222 rfl fun v0=>?_
 refine Zz 2 ?_
 refine ag_ rfl rfl fun b1=>Zi 7 (fun hr1=>?_) fun hr1=>?_
 ·refine Zz 8 ?_
  refine q_ (qd_ i) rfl g_ zt rfl fun _=>Zz 4 ?_
  exact J_ Tryz.results222 () (au_ rfl (by unfold ig_;first|(rw[if_pos (by assumption)])|(rw[if_neg (by omega)]))) g_ zt
 refine Zz 10 ?_
 exact J_ Tryz.results222 () (au_ rfl (by unfold ig_;first|(rw[if_pos (by assumption)])|(rw[if_neg (by omega)]))) g_ zt
theorem oA_ (l:List (Int×Int)) (ad:Option Addr) (cap:Nat) (hl:l.length≤1000000):Tri Tryz.prog 221 #[.slice ad (List.length l) cap,.int .i64 0,.func (.func 222) #[] #[]] [] [at_ ad (List.flatMap ivC l)] (fun _:Unit=>.int .i64 (fi_ l)) (fun _=>[]) (fun _=>[]):=by
 refine t_ Tryz.func221 rfl rfl Tryz.ntmps221 rfl fun v0=>?_
 refine Zz 14 ?_
 refine av_ (ι:={y:Nat // y≤l.length}) (fun y=>[(1,.int .i64 (fi_ (List.take y.1 l))),(2,.func (.func 222) #[] #[]),(9,.slice ad (List.length l) cap),(10,.int .i64 (List.length l:Int)),(11,.int .i64 (y.1:Int))]) (fun y=>([])) (fun y=>[at_ ad (List.flatMap ivC l)]) (fun y=>l.length - y.1) ⟨(0:Nat),by simp⟩ zl g_ zh ?_
 rintro ⟨i,hi⟩
 dsimp only at hi ⊢
 refine Zi 2 (fun hr1=>?_) fun hr1=>?_
 ·refine Zz 13 ?_
  exact J_ Tryz.results221 () (au_ rfl (by rw[List.take_of_length_le (by omega)])) g_ zt
 obtain⟨hlx1,x1,hx1,hmx1⟩:=zge (show i<List.length l by omega)
 refine Zz 10 ?_
 refine d_ (X_ bK_ T_ rfl rfl (fun v _ h=>I_ (n:=2) mv_ (by decide) (by exact h.1) hx1) (by omega) (by first|omega|(simp;done))) rfl ?_
 refine d_ (aA_ (ad:=ad) (us:=ivC x1) il_ T_ rfl zf (mv_ _) (G_ mv_ hx1)) rfl (C_ ae_ rfl fun b1=>w_ 0 T_ rfl rfl rfl rfl rfl rfl (Zz 6 ?_))
 refine aR_ (tp_ (fi_ (List.take i l)) x1) rfl rfl g_ zt rfl fun _=>Zz 8 ?_
 exact Q_ ⟨i+1,hlx1⟩ (by dsimp only;omega) ⟨(au_ rfl (nN_ hx1).symm),rfl,rfl,rfl,rfl,trivial⟩ g_ zh
theorem pj_ (l:List (Int×Int)) (ad:Option Addr) (cap:Nat) (hl:l.length≤1000000):Tri Tryz.prog 196 #[.slice ad (List.length l) cap] [] [at_ ad (List.flatMap ivC l)] (fun _:Unit=>.int .i64 (fi_ l)) (fun _=>[]) (fun _=>[]):=by
  refine t_ Tryz.func196 rfl rfl Tryz.ntmps196 rfl fun v0=>?_
  refine Zz 8 ?_
  refine q_ (oA_ l ad cap hl) rfl g_ zf rfl fun _=>Zz 4 ?_
  exact J_ Tryz.results196 () rfl g_ zt
theorem qH_ (i j:Int×Int):Fn0 Tryz.prog 162 #[ivV i,ivV j] (.bool (qb_ i j)):=by
 refine t_ Tryz.func162 rfl rfl Tryz.ntmps162 rfl fun v0=>?_
 refine Zz 2 ?_
 refine ag_ rfl rfl fun b1=>ag_ rfl rfl fun b2=>Zz 7 ?_
 refine ap_ bK_ T_ ae_ rfl rfl rfl rfl rfl rfl fun b3=>?_
 refine bu_ (List.flatMap ivC [i,j]) e_ rfl ?_
 refine q_ (pj_ [i,j] (some ⟨b3,0,none⟩) 2 (by simp)) rfl g_ zf rfl fun _=>?_
 refine Zi 0 (fun hr1=>?_) fun hr1=>?_
 ·refine Zz 18 ?_
  exact J_ Tryz.results162 () (f_ rfl (by unfold qb_;simp_all<;>omega)) g_ zt
 refine Zi 10 (fun hr2=>?_) fun hr2=>?_
 ·refine Zz 12 ?_
  exact J_ Tryz.results162 () (f_ rfl (by unfold qb_;simp_all<;>omega)) g_ zt
 refine Zz 11 ?_
 refine O_ (dV_ rfl rfl) rfl fun r3 hr3=>Zz 5 ?_
 exact J_ Tryz.results162 () (f_ rfl (by unfold qb_;simp_all<;>omega)) g_ zt
theorem hZ_ (a b c d:Int) (ha:-1099511627776≤a∧a≤b∧b≤1099511627776) (hb:-1099511627776≤c∧c≤d∧d≤1099511627776):Fn0 Tryz.prog 162 #[ivV (a,b),ivV (c,d)] (.bool (decide (c≤a∧b≤d))):=by
  have:=qH_ (a,b) (c,d)
  rw[ts_ ha hb]at this
  exact this
theorem jl_ {α:Type} {p:α→Bool} {l:List α} {i:Nat} {x:α} (h:l[i]? = some x):List.filter p (List.take (i+1) l)=List.filter p (List.take i l)++(if p x then [x] else []):=by
  rw[List.take_add_one,h,Option.toList_some,List.filter_append]
  congr 1
  simp[List.filter_cons]
theorem out_c (B:EngB) (E:Emt Tryz.prog 24) (A:EngA) (pm:List (Ky×Pc)) (x:Ix) (f:Fc) (nw fm:List Fc) (Hs:Hp) (hS:E.St nw fm Hs) (hpl:∀ k,(lat pm k).length≤1000000000) (hxl:∀ k,(lat x.above k).length≤1000000000∧(lat x.under k).length≤1000000000) (hyl:∀ k,(lat x.frm k).length≤1000000000∧(lat x.into k).length≤1000000000∧(lat x.ranges k).length≤1000000000∧(lat x.firms k).length≤1000000000) (hf:-1099511627776≤f.lo∧f.lo≤f.hi∧f.hi≤1099511627776) (hq:∀ y∈lat pm (Ky.mk 9 f.r []),-1099511627776≤y.lo∧y.lo≤y.hi∧y.hi≤1099511627776):Tri Tryz.prog 111 #[zp_ B.g 0,Fc.val f] Hs [gF B E,pF B pm A,aF B x A,uF B x A,oF B x A,iF B x A,rF B x A,sF B x A,E.ef] (fun _:{H':Hp // E.St (emits E.stp (pT_ pm f) nw) fm H'}=>.tuple #[]) (fun y=>y.1) (fun _=>[]):=by
 refine t_ Tryz.func111 rfl rfl Tryz.ntmps111 rfl fun v0=>?_
 refine Zz 2 ?_
 refine ag_ rfl rfl fun b1=>Zz 4 ?_
 refine n_ 0 [0,1,2,3,4,5,6,7,8,9] zk zs (Zz 6 ?_)
 refine Z_ rfl (K_ ex_ rfl rfl) rfl (Z_ rfl (cb_ (k:=(Ky.mk 9 f.r [])) (adr:=A.p) he_ bM_ cH_ rfl rfl zf) rfl (Zz 6 ?_))
 refine av_ (ι:={y:Nat×Hp // y.1≤List.length (lat pm (Ky.mk 9 f.r []))∧E.St (emits E.stp (List.map (fun y=>M_ f.a y.c) (List.filter (fun y=>decide (Pc.lo y≤Fc.lo f∧Fc.hi f≤Pc.hi y)) (List.take y.1 (lat pm (Ky.mk 9 f.r []))))) nw) fm y.2}) (fun y=>[(0,zp_ B.g 0),(3,zp_ b1 0),(13,.slice (Prod.fst (A.p (Ky.mk 9 f.r []))) (List.length (lat pm (Ky.mk 9 f.r []))) (Prod.snd (A.p (Ky.mk 9 f.r [])))),(14,.int .i64 (List.length (lat pm (Ky.mk 9 f.r [])):Int)),(15,.int .i64 (y.1.1:Int))]) (fun y=>((b1,.cells #[.int .i64 f.kind,str f.a,str f.b,str f.r,.int .i64 f.lo,.int .i64 f.hi] 24 (0,0))::y.1.2)) (fun y=>[gF B E,pF B pm A,aF B x A,uF B x A,oF B x A,iF B x A,rF B x A,sF B x A,E.ef]) (fun y=>List.length (lat pm (Ky.mk 9 f.r [])) - y.1.1) ⟨((0:Nat),Hs),by simp,by exact hS⟩ zl zp zh ?_
 rintro ⟨⟨i,Hs_i⟩,hi_i,hS_i⟩
 dsimp only at hi_i hS_i ⊢
 have hb_i:=hpl (Ky.mk 9 f.r [])
 refine Zi 2 (fun hr1=>?_) fun hr1=>?_
 ·refine Zz 6 ?_
  exact cW_ Tryz.results111 ⟨Hs_i,by unfold pT_;rw[List.take_of_length_le (by omega)]at hS_i;exact hS_i⟩ rfl P_ zt
 obtain⟨hlx1,x1,hx1,hmx1⟩:=zge (show i<List.length (lat pm (Ky.mk 9 f.r [])) by omega)
 refine Zz 10 ?_
 refine d_ (X_ aJ_ am_ rfl rfl (fun v _ h=>I_ (n:=10) Pc.cells_len (by decide) (by exact (bs_ h.2.1 (Ky.mk 9 f.r []))) hx1) (by omega) (by first|omega|(simp;done))) rfl ?_
 refine d_ (aA_ (ad:=(Prod.fst (A.p (Ky.mk 9 f.r [])))) (us:=Pc.cells x1) dJ_ am_ rfl (fun v _ h=>by exact (bs_ h.2.1 (Ky.mk 9 f.r []))) (Pc.cells_len _) (G_ Pc.cells_len hx1)) rfl (C_ bv_ rfl fun b2=>w_ 0 am_ rfl rfl rfl rfl rfl rfl (Zz 8 ?_))
 refine d_ (K_ fl_ rfl rfl) rfl (Zz 4 ?_)
 refine d_ (K_ fl_ rfl rfl) rfl (S_ (hZ_ f.lo f.hi x1.lo x1.hi hf (hq x1 hmx1)) rfl g_ zt rfl fun r2 hr2=>Zz 2 ?_)
 cases r2
 ·replace hr2:=zdf hr2
  refine Zz 8 ?_
  exact Q_ ⟨(i+1,Hs_i),hlx1,(by rw[jl_ hx1];first|(rw[if_pos (decide_eq_true (by assumption)),List.map_append,aF_];exact hS_i)|(rw[if_neg (by rw[decide_eq_false (by assumption)];decide),List.append_nil];exact hS_i))⟩ (by dsimp only;omega) zl (o_ (c_ e_) P_) zh
 replace hr2:=zdt hr2
 refine L_ rfl ?_
 refine ax_ ((b2,.cells #[.int .i64 x1.kind,str x1.a,str x1.b,str x1.c,str x1.r,str x1.s,str x1.t,.int .i64 x1.lo,.int .i64 x1.hi,.int .i64 x1.frm] 73 (0,0))::((b1,.cells #[.int .i64 f.kind,str f.a,str f.b,str f.r,.int .i64 f.lo,.int .i64 f.hi] 24 (0,0))::[])) zk ?_
 refine n_ 2 [0,1,2,3,4,5,6,7] zk zs (Zz 9 ?_)
 refine i_ 8 rfl zk (q_ (fA_ f.a x1.c) rfl g_ zt rfl fun _=>Zz 3 ?_)
 refine i_ 9 rfl zk (aR_ (first:=[]) (cap:=E.caps) (E.emit (M_ f.a x1.c) (emits E.stp (List.map (fun y=>M_ f.a y.c) (List.filter (fun y=>decide (Pc.lo y≤Fc.lo f∧Fc.hi f≤Pc.hi y)) (List.take i (lat pm (Ky.mk 9 f.r []))))) nw) fm Hs_i hS_i) rfl rfl (c_ P_) zf rfl fun⟨Hs1,hS1⟩=>?_)
 dsimp only
 refine Zz 10 ?_
 exact Q_ ⟨(i+1,Hs1),hlx1,(by rw[jl_ hx1];first|(rw[if_pos (decide_eq_true (by assumption)),List.map_append,aF_];exact hS1)|(rw[if_neg (by rw[decide_eq_false (by assumption)];decide),List.append_nil];exact hS1))⟩ (by dsimp only;omega) zl zp zh
theorem dS_ {f:Fc} {l:List Fc} {i:Nat} {x:Fc} (h:l[i]? = some x):fP_ f (List.take (i+1) l)=fP_ f (List.take i l)++(if (!cD_ f x&&decide (dE_ f x≠f∧dE_ f x≠x))=true then [dE_ f x] else []):=by
  unfold fP_
  rw[jl_ h,List.map_append]
  congr 1
  split<;>simp
theorem fd_ {α:Type} {p:α→Bool} {l:List α} {i:Nat} {x:α} (h:l[i]? = some x):List.any (List.take (i+1) l) p=(List.any (List.take i l) p||p x):=by
  rw[List.take_add_one,h,Option.toList_some,List.any_append];simp
theorem meet_c (B:EngB) (E:Emt Tryz.prog 24) (A:EngA) (pm:List (Ky×Pc)) (x:Ix) (f:Fc) (nw fm:List Fc) (Hs:Hp) (hS:E.St nw fm Hs) (hpl:∀ k,(lat pm k).length≤1000000000) (hxl:∀ k,(lat x.above k).length≤1000000000∧(lat x.under k).length≤1000000000) (hyl:∀ k,(lat x.frm k).length≤1000000000∧(lat x.into k).length≤1000000000∧(lat x.ranges k).length≤1000000000∧(lat x.firms k).length≤1000000000):Tri Tryz.prog 110 #[zp_ B.g 0,Fc.val f] Hs [gF B E,pF B pm A,aF B x A,uF B x A,oF B x A,iF B x A,rF B x A,sF B x A,E.ef] (fun _:{H':Hp // E.St (emits E.stp (fP_ f (ep_ x f (decide (f∈fm)))++hc_ f (ep_ x f (decide (f∈fm)))) nw) fm H'}=>.tuple #[]) (fun y=>y.1) (fun _=>[]):=by
 refine t_ Tryz.func110 rfl rfl Tryz.ntmps110 rfl fun v0=>?_
 refine Zz 2 ?_
 refine ag_ rfl rfl fun b1=>Zz 8 ?_
 refine d_ (K_ fm_ rfl rfl) rfl (C_ co_ rfl fun b2=>w_ 0 dn_ rfl rfl rfl rfl rfl rfl (Zz 4 ?_))
 refine n_ 0 [0,1,2,3,4,5,6] zk zs (Zz 5 ?_)
 refine Z_ rfl (cb_ (k:=(f.a,f.r)) (adr:=A.s) cO_ pH_ mT_ rfl rfl zf) rfl (Zz 7 ?_)
 refine n_ 0 [0,1,2,3,4,5] zk zs (Zz 5 ?_)
 refine cj_ rfl (mU_ (f:=f) hS iI_ aQ_ cw_ rfl rfl (c_ P_)) rfl fun r1 hr1=>Zz 3 ?_
 cases r1
 ·replace hr1:=zdf hr1
  refine Zz 17 ?_
  refine av_ (ι:={y:Nat×Hp×Bool // y.1≤List.length (lat x.firms (f.a,f.r))∧E.St (emits E.stp (fP_ f (List.take y.1 (lat x.firms (f.a,f.r)))) nw) fm y.2.1∧y.2.2=List.any (List.take y.1 (lat x.firms (f.a,f.r))) (cD_ f)}) (fun y=>[(0,zp_ B.g 0),(3,zp_ b1 0),(6,.bool y.1.2.2),(35,.slice (Prod.fst (A.s (f.a,f.r))) (List.length (lat x.firms (f.a,f.r))) (Prod.snd (A.s (f.a,f.r)))),(36,.int .i64 (List.length (lat x.firms (f.a,f.r)):Int)),(37,.int .i64 (y.1.1:Int))]) (fun y=>((b1,.cells #[.int .i64 f.kind,str f.a,str f.b,str f.r,.int .i64 f.lo,.int .i64 f.hi] 24 (0,0))::y.1.2.1)) (fun y=>[gF B E,pF B pm A,aF B x A,uF B x A,oF B x A,iF B x A,rF B x A,sF B x A,E.ef]) (fun y=>List.length (lat x.firms (f.a,f.r)) - y.1.1) ⟨((0:Nat),Hs,false),by simp,by exact hS,by simp⟩ zl (o_ (c_ e_) P_) zh ?_
  rintro ⟨⟨i,Hs_i,e⟩,hi_i,hS_i,he⟩
  dsimp only at hi_i hS_i he ⊢
  have hb_i:=(hyl (f.a,f.r)).2.2.2
  refine Zi 2 (fun hr2=>?_) fun hr2=>?_
  ·refine Zz 11 ?_
   cases e
   ·refine Zz 3 ?_
    exact cW_ Tryz.results110 ⟨Hs_i,by have hL:(ep_ x f (decide (f∈fm)))=(lat x.firms (f.a,f.r)):=(by unfold ep_;rw[decide_eq_false (by assumption)]<;>rfl);rw[hL,aF_];have e9:List.take i (lat x.firms (f.a,f.r))=(lat x.firms (f.a,f.r)):=List.take_of_length_le (by omega);rw[e9]at he hS_i;unfold hc_;rw[if_neg (by rw[← he];decide)];exact hS_i⟩ rfl P_ zt
   refine L_ rfl ?_
   refine ax_ ((b1,.cells #[.int .i64 f.kind,str f.a,str f.b,str f.r,.int .i64 f.lo,.int .i64 f.hi] 24 (0,0))::[]) zk ?_
   refine n_ 2 [0,1,2,3,4,5] zk zs (Zz 7 ?_)
   refine i_ 6 rfl zk (q_ (fA_ f.a [33]) rfl g_ zt rfl fun _=>Zz 3 ?_)
   refine i_ 7 rfl zk (aR_ (first:=[]) (cap:=E.caps) (E.emit (M_ f.a [33]) (emits E.stp (fP_ f (List.take i (lat x.firms (f.a,f.r)))) nw) fm Hs_i hS_i) rfl rfl P_ zf rfl fun⟨Hs1,hS1⟩=>?_)
   dsimp only
   refine Zz 5 ?_
   exact cW_ Tryz.results110 ⟨Hs1,by have hL:(ep_ x f (decide (f∈fm)))=(lat x.firms (f.a,f.r)):=(by unfold ep_;rw[decide_eq_false (by assumption)]<;>rfl);rw[hL,aF_];have e9:List.take i (lat x.firms (f.a,f.r))=(lat x.firms (f.a,f.r)):=List.take_of_length_le (by omega);rw[e9]at he hS1;unfold hc_;rw[if_pos he.symm];exact hS1⟩ rfl u_ zt
  obtain⟨hlx1,x1,hx1,hmx1⟩:=zge (show i<List.length (lat x.firms (f.a,f.r)) by omega)
  refine Zz 10 ?_
  refine d_ (X_ E_ x_ rfl rfl (fun v _ h=>I_ (n:=6) Fc.cells_len (by decide) (by exact (bs_ h.2.2.2.2.2.2.2.1 (f.a,f.r))) hx1) (by omega) (by first|omega|(simp;done))) rfl ?_
  refine d_ (aA_ (ad:=(Prod.fst (A.s (f.a,f.r)))) (us:=Fc.cells x1) aI_ x_ rfl (fun v _ h=>by exact (bs_ h.2.2.2.2.2.2.2.1 (f.a,f.r))) (Fc.cells_len _) (G_ Fc.cells_len hx1)) rfl (C_ ad_ rfl fun b3=>w_ 0 x_ rfl rfl rfl rfl rfl rfl (Zz 4 ?_))
  refine n_ 0 [0,1,2,3,4,5,6,7,8,9,10,11] zk zs (Zz 4 ?_)
  refine Z_ rfl (jU_ rfl rfl) rfl (Zz 4 ?_)
  refine Z_ rfl (in_ rfl rfl) rfl (Zi 9 (fun hr3=>?_) fun hr3=>?_)
  ·refine Zz 11 ?_
   refine q_ (kf_ f.a f.r (max f.lo x1.lo) (min f.hi x1.hi)) rfl g_ zt rfl fun _=>C_ ad_ rfl fun b4=>w_ 0 x_ rfl rfl rfl rfl rfl rfl (Zz 6 ?_)
   refine O_ (fs_ (p:=(D_ f.a f.r (max f.lo x1.lo) (min f.hi x1.hi))) (q:=f) rfl rfl) rfl fun r4 hr4=>Zz 1 ?_
   cases r4
   ·replace hr4:=zdf hr4
    refine Zz 14 ?_
    exact Q_ ⟨(i+1,Hs_i,e),hlx1,(by rw[dS_ hx1];first|(rw[if_pos (by rw[Bool.and_eq_true];exact⟨by simp only[cD_];rw[decide_eq_false (by omega)];rfl,decide_eq_true ⟨by assumption,by assumption⟩⟩),aF_];exact hS_i)|(rw[if_neg (by rw[Bool.and_eq_true];intro q;first|exact absurd (of_decide_eq_true q.2).1 (by assumption)|exact absurd (of_decide_eq_true q.2).2 (by assumption)|(have q1:=q.1;simp only[cD_]at q1;rw[decide_eq_true (by omega)]at q1;cases q1)),List.append_nil];exact hS_i)),by rw[fd_ hx1,← he];simp only[cD_];rw[decide_eq_false (by omega)];simp⟩ (by dsimp only;omega) zl (o_ (c_ (c_ e_)) (c_ P_)) zh
   replace hr4:=zdt hr4
   refine Zz 5 ?_
   refine O_ (fs_ (p:=(D_ f.a f.r (max f.lo x1.lo) (min f.hi x1.hi))) (q:=x1) rfl rfl) rfl fun r5 hr5=>Zz 3 ?_
   cases r5
   ·replace hr5:=zdf hr5
    refine Zz 8 ?_
    exact Q_ ⟨(i+1,Hs_i,e),hlx1,(by rw[dS_ hx1];first|(rw[if_pos (by rw[Bool.and_eq_true];exact⟨by simp only[cD_];rw[decide_eq_false (by omega)];rfl,decide_eq_true ⟨by assumption,by assumption⟩⟩),aF_];exact hS_i)|(rw[if_neg (by rw[Bool.and_eq_true];intro q;first|exact absurd (of_decide_eq_true q.2).1 (by assumption)|exact absurd (of_decide_eq_true q.2).2 (by assumption)|(have q1:=q.1;simp only[cD_]at q1;rw[decide_eq_true (by omega)]at q1;cases q1)),List.append_nil];exact hS_i)),by rw[fd_ hx1,← he];simp only[cD_];rw[decide_eq_false (by omega)];simp⟩ (by dsimp only;omega) zl (o_ (c_ (c_ e_)) (c_ P_)) zh
   replace hr5:=zdt hr5
   refine L_ rfl ?_
   refine ax_ ((b4,.cells #[.int .i64 (Fc.kind (D_ f.a f.r (max f.lo x1.lo) (min f.hi x1.hi))),str (Fc.a (D_ f.a f.r (max f.lo x1.lo) (min f.hi x1.hi))),str (Fc.b (D_ f.a f.r (max f.lo x1.lo) (min f.hi x1.hi))),str (Fc.r (D_ f.a f.r (max f.lo x1.lo) (min f.hi x1.hi))),.int .i64 (Fc.lo (D_ f.a f.r (max f.lo x1.lo) (min f.hi x1.hi))),.int .i64 (Fc.hi (D_ f.a f.r (max f.lo x1.lo) (min f.hi x1.hi)))] 24 (0,0))::((b3,.cells #[.int .i64 x1.kind,str x1.a,str x1.b,str x1.r,.int .i64 x1.lo,.int .i64 x1.hi] 24 (0,0))::((b1,.cells #[.int .i64 f.kind,str f.a,str f.b,str f.r,.int .i64 f.lo,.int .i64 f.hi] 24 (0,0))::[]))) zk ?_
   refine n_ 1 [0,1,2,3,4] zk zs (Zz 6 ?_)
   refine i_ 5 rfl zk (aR_ (first:=[]) (cap:=E.caps) (E.emit (D_ f.a f.r (max f.lo x1.lo) (min f.hi x1.hi)) (emits E.stp (fP_ f (List.take i (lat x.firms (f.a,f.r)))) nw) fm Hs_i hS_i) rfl rfl (c_ (c_ P_)) zf rfl fun⟨Hs2,hS2⟩=>?_)
   dsimp only
   refine Zz 10 ?_
   exact Q_ ⟨(i+1,Hs2,e),hlx1,(by rw[dS_ hx1];first|(rw[if_pos (by rw[Bool.and_eq_true];exact⟨by simp only[cD_];rw[decide_eq_false (by omega)];rfl,decide_eq_true ⟨by assumption,by assumption⟩⟩),aF_];exact hS2)|(rw[if_neg (by rw[Bool.and_eq_true];intro q;first|exact absurd (of_decide_eq_true q.2).1 (by assumption)|exact absurd (of_decide_eq_true q.2).2 (by assumption)|(have q1:=q.1;simp only[cD_]at q1;rw[decide_eq_true (by omega)]at q1;cases q1)),List.append_nil];exact hS2)),by rw[fd_ hx1,← he];simp only[cD_];rw[decide_eq_false (by omega)];simp⟩ (by dsimp only;omega) zl zp zh
  refine Zz 12 ?_
  exact Q_ ⟨(i+1,Hs_i,true),hlx1,(by rw[dS_ hx1];first|(rw[if_pos (by rw[Bool.and_eq_true];exact⟨by simp only[cD_];rw[decide_eq_false (by omega)];rfl,decide_eq_true ⟨by assumption,by assumption⟩⟩),aF_];exact hS_i)|(rw[if_neg (by rw[Bool.and_eq_true];intro q;first|exact absurd (of_decide_eq_true q.2).1 (by assumption)|exact absurd (of_decide_eq_true q.2).2 (by assumption)|(have q1:=q.1;simp only[cD_]at q1;rw[decide_eq_true (by omega)]at q1;cases q1)),List.append_nil];exact hS_i)),by rw[fd_ hx1,← he];simp only[cD_];rw[decide_eq_true (by omega)];simp⟩ (by dsimp only;omega) zl (o_ (c_ e_) P_) zh
 replace hr1:=zdt hr1
 refine Zz 2 ?_
 refine n_ 0 [0,1,2,3,4,5,6] zk zs (Zz 5 ?_)
 refine Z_ rfl (cb_ (k:=(f.a,f.r)) (adr:=A.r) cO_ pH_ mT_ rfl rfl zf) rfl (Zz 18 ?_)
 refine av_ (ι:={y:Nat×Hp×Bool // y.1≤List.length (lat x.ranges (f.a,f.r))∧E.St (emits E.stp (fP_ f (List.take y.1 (lat x.ranges (f.a,f.r)))) nw) fm y.2.1∧y.2.2=List.any (List.take y.1 (lat x.ranges (f.a,f.r))) (cD_ f)}) (fun y=>[(0,zp_ B.g 0),(3,zp_ b1 0),(6,.bool y.1.2.2),(35,.slice (Prod.fst (A.r (f.a,f.r))) (List.length (lat x.ranges (f.a,f.r))) (Prod.snd (A.r (f.a,f.r)))),(36,.int .i64 (List.length (lat x.ranges (f.a,f.r)):Int)),(37,.int .i64 (y.1.1:Int))]) (fun y=>((b1,.cells #[.int .i64 f.kind,str f.a,str f.b,str f.r,.int .i64 f.lo,.int .i64 f.hi] 24 (0,0))::y.1.2.1)) (fun y=>[gF B E,pF B pm A,aF B x A,uF B x A,oF B x A,iF B x A,rF B x A,sF B x A,E.ef]) (fun y=>List.length (lat x.ranges (f.a,f.r)) - y.1.1) ⟨((0:Nat),Hs,false),by simp,by exact hS,by simp⟩ zl (o_ (c_ e_) P_) zh ?_
 rintro ⟨⟨i,Hs_i,e⟩,hi_i,hS_i,he⟩
 dsimp only at hi_i hS_i he ⊢
 have hb_i:=(hyl (f.a,f.r)).2.2.1
 refine Zi 2 (fun hr6=>?_) fun hr6=>?_
 ·refine Zz 11 ?_
  cases e
  ·refine Zz 3 ?_
   exact cW_ Tryz.results110 ⟨Hs_i,by have hL:(ep_ x f (decide (f∈fm)))=(lat x.ranges (f.a,f.r)):=(by unfold ep_;rw[decide_eq_true (by assumption)]<;>rfl);rw[hL,aF_];have e9:List.take i (lat x.ranges (f.a,f.r))=(lat x.ranges (f.a,f.r)):=List.take_of_length_le (by omega);rw[e9]at he hS_i;unfold hc_;rw[if_neg (by rw[← he];decide)];exact hS_i⟩ rfl P_ zt
  refine L_ rfl ?_
  refine ax_ ((b1,.cells #[.int .i64 f.kind,str f.a,str f.b,str f.r,.int .i64 f.lo,.int .i64 f.hi] 24 (0,0))::[]) zk ?_
  refine n_ 2 [0,1,2,3,4,5] zk zs (Zz 7 ?_)
  refine i_ 6 rfl zk (q_ (fA_ f.a [33]) rfl g_ zt rfl fun _=>Zz 3 ?_)
  refine i_ 7 rfl zk (aR_ (first:=[]) (cap:=E.caps) (E.emit (M_ f.a [33]) (emits E.stp (fP_ f (List.take i (lat x.ranges (f.a,f.r)))) nw) fm Hs_i hS_i) rfl rfl P_ zf rfl fun⟨Hs3,hS3⟩=>?_)
  dsimp only
  refine Zz 5 ?_
  exact cW_ Tryz.results110 ⟨Hs3,by have hL:(ep_ x f (decide (f∈fm)))=(lat x.ranges (f.a,f.r)):=(by unfold ep_;rw[decide_eq_true (by assumption)]<;>rfl);rw[hL,aF_];have e9:List.take i (lat x.ranges (f.a,f.r))=(lat x.ranges (f.a,f.r)):=List.take_of_length_le (by omega);rw[e9]at he hS3;unfold hc_;rw[if_pos he.symm];exact hS3⟩ rfl u_ zt
 obtain⟨hlx1,x1,hx1,hmx1⟩:=zge (show i<List.length (lat x.ranges (f.a,f.r)) by omega)
 refine Zz 10 ?_
 refine d_ (X_ E_ x_ rfl rfl (fun v _ h=>I_ (n:=6) Fc.cells_len (by decide) (by exact (bs_ h.2.2.2.2.2.2.1 (f.a,f.r))) hx1) (by omega) (by first|omega|(simp;done))) rfl ?_
 refine d_ (aA_ (ad:=(Prod.fst (A.r (f.a,f.r)))) (us:=Fc.cells x1) aI_ x_ rfl (fun v _ h=>by exact (bs_ h.2.2.2.2.2.2.1 (f.a,f.r))) (Fc.cells_len _) (G_ Fc.cells_len hx1)) rfl (C_ ad_ rfl fun b5=>w_ 0 x_ rfl rfl rfl rfl rfl rfl (Zz 4 ?_))
 refine n_ 0 [0,1,2,3,4,5,6,7,8,9,10,11] zk zs (Zz 4 ?_)
 refine Z_ rfl (jU_ rfl rfl) rfl (Zz 4 ?_)
 refine Z_ rfl (in_ rfl rfl) rfl (Zi 9 (fun hr7=>?_) fun hr7=>?_)
 ·refine Zz 11 ?_
  refine q_ (kf_ f.a f.r (max f.lo x1.lo) (min f.hi x1.hi)) rfl g_ zt rfl fun _=>C_ ad_ rfl fun b6=>w_ 0 x_ rfl rfl rfl rfl rfl rfl (Zz 6 ?_)
  refine O_ (fs_ (p:=(D_ f.a f.r (max f.lo x1.lo) (min f.hi x1.hi))) (q:=f) rfl rfl) rfl fun r8 hr8=>Zz 1 ?_
  cases r8
  ·replace hr8:=zdf hr8
   refine Zz 14 ?_
   exact Q_ ⟨(i+1,Hs_i,e),hlx1,(by rw[dS_ hx1];first|(rw[if_pos (by rw[Bool.and_eq_true];exact⟨by simp only[cD_];rw[decide_eq_false (by omega)];rfl,decide_eq_true ⟨by assumption,by assumption⟩⟩),aF_];exact hS_i)|(rw[if_neg (by rw[Bool.and_eq_true];intro q;first|exact absurd (of_decide_eq_true q.2).1 (by assumption)|exact absurd (of_decide_eq_true q.2).2 (by assumption)|(have q1:=q.1;simp only[cD_]at q1;rw[decide_eq_true (by omega)]at q1;cases q1)),List.append_nil];exact hS_i)),by rw[fd_ hx1,← he];simp only[cD_];rw[decide_eq_false (by omega)];simp⟩ (by dsimp only;omega) zl (o_ (c_ (c_ e_)) (c_ P_)) zh
  replace hr8:=zdt hr8
  refine Zz 5 ?_
  refine O_ (fs_ (p:=(D_ f.a f.r (max f.lo x1.lo) (min f.hi x1.hi))) (q:=x1) rfl rfl) rfl fun r9 hr9=>Zz 3 ?_
  cases r9
  ·replace hr9:=zdf hr9
   refine Zz 8 ?_
   exact Q_ ⟨(i+1,Hs_i,e),hlx1,(by rw[dS_ hx1];first|(rw[if_pos (by rw[Bool.and_eq_true];exact⟨by simp only[cD_];rw[decide_eq_false (by omega)];rfl,decide_eq_true ⟨by assumption,by assumption⟩⟩),aF_];exact hS_i)|(rw[if_neg (by rw[Bool.and_eq_true];intro q;first|exact absurd (of_decide_eq_true q.2).1 (by assumption)|exact absurd (of_decide_eq_true q.2).2 (by assumption)|(have q1:=q.1;simp only[cD_]at q1;rw[decide_eq_true (by omega)]at q1;cases q1)),List.append_nil];exact hS_i)),by rw[fd_ hx1,← he];simp only[cD_];rw[decide_eq_false (by omega)];simp⟩ (by dsimp only;omega) zl (o_ (c_ (c_ e_)) (c_ P_)) zh
  replace hr9:=zdt hr9
  refine L_ rfl ?_
  refine ax_ ((b6,.cells #[.int .i64 (Fc.kind (D_ f.a f.r (max f.lo x1.lo) (min f.hi x1.hi))),str (Fc.a (D_ f.a f.r (max f.lo x1.lo) (min f.hi x1.hi))),str (Fc.b (D_ f.a f.r (max f.lo x1.lo) (min f.hi x1.hi))),str (Fc.r (D_ f.a f.r (max f.lo x1.lo) (min f.hi x1.hi))),.int .i64 (Fc.lo (D_ f.a f.r (max f.lo x1.lo) (min f.hi x1.hi))),.int .i64 (Fc.hi (D_ f.a f.r (max f.lo x1.lo) (min f.hi x1.hi)))] 24 (0,0))::((b5,.cells #[.int .i64 x1.kind,str x1.a,str x1.b,str x1.r,.int .i64 x1.lo,.int .i64 x1.hi] 24 (0,0))::((b1,.cells #[.int .i64 f.kind,str f.a,str f.b,str f.r,.int .i64 f.lo,.int .i64 f.hi] 24 (0,0))::[]))) zk ?_
  refine n_ 1 [0,1,2,3,4] zk zs (Zz 6 ?_)
  refine i_ 5 rfl zk (aR_ (first:=[]) (cap:=E.caps) (E.emit (D_ f.a f.r (max f.lo x1.lo) (min f.hi x1.hi)) (emits E.stp (fP_ f (List.take i (lat x.ranges (f.a,f.r)))) nw) fm Hs_i hS_i) rfl rfl (c_ (c_ P_)) zf rfl fun⟨Hs4,hS4⟩=>?_)
  dsimp only
  refine Zz 10 ?_
  exact Q_ ⟨(i+1,Hs4,e),hlx1,(by rw[dS_ hx1];first|(rw[if_pos (by rw[Bool.and_eq_true];exact⟨by simp only[cD_];rw[decide_eq_false (by omega)];rfl,decide_eq_true ⟨by assumption,by assumption⟩⟩),aF_];exact hS4)|(rw[if_neg (by rw[Bool.and_eq_true];intro q;first|exact absurd (of_decide_eq_true q.2).1 (by assumption)|exact absurd (of_decide_eq_true q.2).2 (by assumption)|(have q1:=q.1;simp only[cD_]at q1;rw[decide_eq_true (by omega)]at q1;cases q1)),List.append_nil];exact hS4)),by rw[fd_ hx1,← he];simp only[cD_];rw[decide_eq_false (by omega)];simp⟩ (by dsimp only;omega) zl zp zh
 refine Zz 12 ?_
 exact Q_ ⟨(i+1,Hs_i,true),hlx1,(by rw[dS_ hx1];first|(rw[if_pos (by rw[Bool.and_eq_true];exact⟨by simp only[cD_];rw[decide_eq_false (by omega)];rfl,decide_eq_true ⟨by assumption,by assumption⟩⟩),aF_];exact hS_i)|(rw[if_neg (by rw[Bool.and_eq_true];intro q;first|exact absurd (of_decide_eq_true q.2).1 (by assumption)|exact absurd (of_decide_eq_true q.2).2 (by assumption)|(have q1:=q.1;simp only[cD_]at q1;rw[decide_eq_true (by omega)]at q1;cases q1)),List.append_nil];exact hS_i)),by rw[fd_ hx1,← he];simp only[cD_];rw[decide_eq_true (by omega)];simp⟩ (by dsimp only;omega) zl (o_ (c_ e_) P_) zh
theorem tM_ (B:EngB) (E:Emt Tryz.prog 24) (nw fm:List Fc) (Hs:Hp) (hS:E.St nw fm Hs) (al:List Str) (aad:Option Addr) (acap:Nat) (hal:al.length≤1000000000) (hll:B.lps.length≤1000000000):Tri Tryz.prog 50 #[zp_ B.g 0,.slice aad (List.length al) acap] Hs [gF B E,at_ B.lad (List.flatMap bw_ B.lps),at_ aad (List.flatMap bw_ al),E.ef] (fun _:{H':Hp // E.St (emits E.stp (gh_ B.lps al) nw) fm H'}=>.tuple #[]) (fun y=>y.1) (fun _=>[]):=by
 refine t_ Tryz.func50 rfl rfl Tryz.ntmps50 rfl fun v0=>?_
 refine Zz 8 ?_
 refine av_ (ι:={y:Nat×Hp // y.1≤List.length al∧E.St (emits E.stp (List.flatMap (fun a=>M_ a a::M_ a [42]::List.map (fun r=>ah_ a r a) B.lps) (List.take y.1 al)) nw) fm y.2}) (fun y=>[(0,zp_ B.g 0),(8,.slice aad (List.length al) acap),(9,.int .i64 (List.length al:Int)),(10,.int .i64 (y.1.1:Int))]) (fun y=>(y.1.2)) (fun y=>[gF B E,at_ B.lad (List.flatMap bw_ B.lps),at_ aad (List.flatMap bw_ al),E.ef]) (fun y=>List.length al - y.1.1) ⟨((0:Nat),Hs),by simp,by exact hS⟩ zl bH_ zh ?_
 rintro ⟨⟨i,Hs_i⟩,hi_i,hS_i⟩
 dsimp only at hi_i hS_i ⊢
 have hb_i:=hal
 refine Zi 2 (fun hr1=>?_) fun hr1=>?_
 ·refine Zz 6 ?_
  exact cW_ Tryz.results50 ⟨Hs_i,by unfold gh_;rw[List.take_of_length_le (by omega)]at hS_i;exact hS_i⟩ rfl bH_ zt
 obtain⟨hlx1,x1,hx1,hmx1⟩:=zge (show i<List.length al by omega)
 refine Zz 16 ?_
 refine ax_ ([]) zk ?_
 refine n_ 2 [0,1,2,3,4,5] zk zs (Zz 7 ?_)
 refine i_ 6 rfl zk (q_ (fA_ x1 x1) rfl g_ zt rfl fun _=>ac_ lF_ (Zz 3 ?_))
 refine i_ 7 rfl zk (aR_ (first:=[]) (cap:=E.caps) (E.emit (M_ x1 x1) (emits E.stp (List.flatMap (fun a=>M_ a a::M_ a [42]::List.map (fun r=>ah_ a r a) B.lps) (List.take i al)) nw) fm Hs_i hS_i) rfl rfl bH_ zf rfl fun⟨Hs1,hS1⟩=>?_)
 dsimp only
 refine ac_ iF_ (Zz 6 ?_)
 refine ax_ ([]) zk ?_
 refine n_ 2 [0,1,2,3,4] zk zs (Zz 6 ?_)
 refine i_ 5 rfl zk (q_ (fA_ x1 [42]) rfl g_ zt rfl fun _=>ac_ lF_ (Zz 3 ?_))
 refine i_ 6 rfl zk (aR_ (first:=[]) (cap:=E.caps) (E.emit (M_ x1 [42]) (E.stp (M_ x1 x1) (emits E.stp (List.flatMap (fun a=>M_ a a::M_ a [42]::List.map (fun r=>ah_ a r a) B.lps) (List.take i al)) nw)) fm Hs1 hS1) rfl rfl bH_ zf rfl fun⟨Hs2,hS2⟩=>?_)
 dsimp only
 refine ac_ iF_ (Zz 16 ?_)
 refine av_ (ι:={y:Nat×Hp // y.1≤List.length B.lps∧E.St (emits E.stp (List.map (fun r=>ah_ x1 r x1) (List.take y.1 B.lps)) (E.stp (M_ x1 [42]) (E.stp (M_ x1 x1) (emits E.stp (List.flatMap (fun a=>M_ a a::M_ a [42]::List.map (fun r=>ah_ a r a) B.lps) (List.take i al)) nw)))) fm y.2}) (fun y=>[(0,zp_ B.g 0),(8,.slice aad (List.length al) acap),(9,.int .i64 (List.length al:Int)),(10,.int .i64 (i:Int)),(5,str x1),(32,.slice B.lad (List.length B.lps) B.lcap),(33,.int .i64 (List.length B.lps:Int)),(34,.int .i64 (y.1.1:Int))]) (fun y=>(y.1.2)) (fun y=>[gF B E,at_ B.lad (List.flatMap bw_ B.lps),at_ aad (List.flatMap bw_ al),E.ef]) (fun y=>List.length B.lps - y.1.1) ⟨((0:Nat),Hs2),by simp,by exact hS2⟩ zl bH_ zh ?_
 rintro ⟨⟨j,Hs_j⟩,hi_j,hS_j⟩
 dsimp only at hi_j hS_j ⊢
 have hb_j:=hll
 refine Zi 2 (fun hr2=>?_) fun hr2=>?_
 ·refine Zz 11 ?_
  exact Q_ ⟨(i+1,Hs_j),hlx1,(by rw[gA_ hx1,aF_];have e9:List.take j B.lps=B.lps:=List.take_of_length_le (by omega);rw[e9]at hS_j;exact hS_j)⟩ (by dsimp only;omega) zl bH_ zh
 have hlx2:j<List.length B.lps:=by omega
 obtain⟨x2,hx2⟩:∃ e0,B.lps[j]? = some e0:=⟨_,List.getElem?_eq_getElem hlx2⟩
 have hmx2:x2∈B.lps:=List.mem_of_getElem? hx2
 refine Zz 15 ?_
 refine ax_ ([]) zk ?_
 refine n_ 2 [0,1,2,3,4,5,6] zk zs (Zz 8 ?_)
 refine i_ 7 rfl zk (q_ (kE_ x1 x2 x1) rfl g_ zt rfl fun _=>ac_ lF_ (Zz 3 ?_))
 refine i_ 8 rfl zk (aR_ (first:=[]) (cap:=E.caps) (E.emit (ah_ x1 x2 x1) (emits E.stp (List.map (fun r=>ah_ x1 r x1) (List.take j B.lps)) (E.stp (M_ x1 [42]) (E.stp (M_ x1 x1) (emits E.stp (List.flatMap (fun a=>M_ a a::M_ a [42]::List.map (fun r=>ah_ a r a) B.lps) (List.take i al)) nw)))) fm Hs_j hS_j) rfl rfl bH_ zf rfl fun⟨Hs3,hS3⟩=>?_)
 dsimp only
 refine ac_ iF_ (Zz 10 ?_)
 exact Q_ ⟨(j+1,Hs3),hlx2,(by rw[eE_ hx2,aF_];exact hS3)⟩ (by dsimp only;omega) zl bH_ zh
end Go.Proofs.YtaffcjgphlhppaaGreatDoor
namespace Go.Proofs.YtaffcjgphlhppaaGreatDoor
open Go Go.Sx Go.Proofs
attribute [local irreducible] Code.wp wpList wpAnyH
open Go.Vs
theorem lN_:KeyT Tryz.prog 9 str:=nL_ aM_
theorem iV_ {P:Program} {N:Nf} {fr:Fr} {H:Hp} {Γ:List Fct} {op:Op} {ty:TypeId} {kn:Str→Bool} {q:List Str} {k:Str} (hkn:∀ s,kn s=true↔s∈q) {i:Decidable (k∈q)} (h:Yld P N fr H Γ op ty (.bool (@decide (k∈q) i))):Yld P N fr H Γ op ty (.bool (kn k)):=by
  have e:@decide (k∈q) i=kn k:=by rw[Bool.eq_iff_iff,hkn];exact decide_eq_true_iff
  rwa [e]at h
def jG_:List Value:=[.int .i64 0,.int .i64 0,.nilFunc,.int .i64 0,.int .i64 0,.func (.func 128) #[] #[],.int .i64 0,.int .i64 0,.func (.func 130) #[] #[],.int .i64 1,.int .i64 1,.func (.func 131) #[] #[],.int .i64 2,.int .i64 2,.func (.func 132) #[] #[],.int .i64 1,.int .i64 3,.func (.func 133) #[] #[],.int .i64 1,.int .i64 5,.func (.func 135) #[] #[],.int .i64 2,.int .i64 6,.func (.func 136) #[] #[],.int .i64 2,.int .i64 4,.func (.func 137) #[] #[],.int .i64 2,.int .i64 0,.func (.func 138) #[] #[],.int .i64 0,.int .i64 7,.func (.func 139) #[] #[],.int .i64 1,.int .i64 8,.func (.func 140) #[] #[],.int .i64 2,.int .i64 0,.func (.func 141) #[] #[],.int .i64 2,.int .i64 0,.func (.func 142) #[] #[],.int .i64 1,.int .i64 9,.func (.func 143) #[] #[],.int .i64 1,.int .i64 0,.func (.func 144) #[] #[],.int .i64 1,.int .i64 0,.func (.func 145) #[] #[]]
def dx_ (pv:Value) (ab:Nat) (fv:Value):List Value:=pv::.map (some ab)::fv::jG_
theorem oV_:hy_ Tryz.prog 145 [(0,1),(1,6),(7,1),(8,10)] [.pointer none,.int .i64 0,str [],str [],str [],.int .i64 0,.int .i64 0,.slice none 0 0,.int .i64 0,str [],str [],str [],str [],str [],str [],.int .i64 0,.int .i64 0,.int .i64 0]:=⟨_,Tryz.zeroValue145,cu_,fun w=>by simp[x_,dj_,am_,Tryz.sizeOf74]⟩
set_option maxHeartbeats 1000000 in
theorem to_ (kn:Str→Bool) (q:List Str) (hkn:∀ s,kn s=true↔s∈q) (es:Array MapEntry) (ec:Nat) (hE:SetE str es q) (vb ab:Nat) (pv fv:Value) (x:Pc) (f:Fc) (lad:Option Addr) (lcap:Nat):Tri Tryz.prog 128 #[.agg #[zp_ vb 0,.int .i64 f.kind,str f.a,str f.b,str f.r,.int .i64 f.lo,.int .i64 f.hi,.slice lad (List.length ([]:List Fc)) lcap,.int .i64 x.kind,str x.a,str x.b,str x.c,str x.r,str x.s,str x.t,.int .i64 x.lo,.int .i64 x.hi,.int .i64 x.frm]] [] [by_ vb (.cells (dx_ pv ab fv).toArray 83 (0,0)),by_ ab (.map es ec),at_ lad (List.flatMap Fc.cells ([]:List Fc))] (fun _:Unit=>.bool (gy_ kn x f zfc zfc)) (fun _=>[]) (fun _=>[]):=by
 refine t_ Tryz.func128 rfl rfl Tryz.ntmps128 rfl fun v0=>?_
 refine Zz 2 ?_
 refine ag_ rfl rfl fun b1=>Zz 5 ?_
 refine n_ 12 [0,1,2,3,4,5,6,7,8,9] zk zs (Zz 8 ?_)
 refine cj_ rfl (iV_ hkn (dL_ (k:=f.a) lN_ fD_ cw_ rfl rfl hE (fun v _ h=>(by exact h.2.1:(by_ ab (.map es ec)).p v).2))) rfl fun r1 hr1=>Zz 2 ?_
 cases r1
 ·refine n_ 0 [10,11,12,13,14,15,16,17,18,19,20,21] zk zs (Zz 16 ?_)
  exact J_ Tryz.results128 () (f_ rfl (by simp only[gy_,hr1,if_true,if_false,decide_true,decide_false,Bool.and_true,Bool.and_false,Bool.true_and,Bool.false_and,Bool.or_true,Bool.or_false,Bool.true_or,Bool.false_or,Bool.not_true,Bool.not_false,ne_eq,not_true_eq_false,not_false_eq_true,true_and,and_true,false_and,and_false,true_or,or_true,false_or,or_false,ite_true,ite_false,Bool.false_eq_true])) g_ zt
 refine n_ 4 [10,11,12,13,14,15,16,17] zk zs (Zz 9 ?_)
 refine i_ 18 rfl zk (y_ rfl rfl (q_ (bB_ f.a f.a) rfl g_ zt rfl fun _=>Zz 3 ?_))
 refine n_ 0 [19,20,21] zk zs (aC_ rfl rfl rfl (Y_ (p:=f) (q:=(M_ f.a f.a)) rfl rfl) rfl fun r2 hr2=>Zz 6 ?_)
 exact J_ Tryz.results128 () (f_ rfl (by rw[← hr2];simp only[gy_,hr1,if_true,if_false,decide_true,decide_false,Bool.and_true,Bool.and_false,Bool.true_and,Bool.false_and,Bool.or_true,Bool.or_false,Bool.true_or,Bool.false_or,Bool.not_true,Bool.not_false,ne_eq,not_true_eq_false,not_false_eq_true,true_and,and_true,false_and,and_false,true_or,or_true,false_or,or_false,ite_true,ite_false,Bool.false_eq_true])) g_ zt
set_option maxHeartbeats 1000000 in
theorem tn_ (kn:Str→Bool) (q:List Str) (hkn:∀ s,kn s=true↔s∈q) (es:Array MapEntry) (ec:Nat) (hE:SetE str es q) (vb ab:Nat) (pv fv:Value) (x:Pc) (f:Fc) (lad:Option Addr) (lcap:Nat):Tri Tryz.prog 130 #[.agg #[zp_ vb 0,.int .i64 f.kind,str f.a,str f.b,str f.r,.int .i64 f.lo,.int .i64 f.hi,.slice lad (List.length ([]:List Fc)) lcap,.int .i64 x.kind,str x.a,str x.b,str x.c,str x.r,str x.s,str x.t,.int .i64 x.lo,.int .i64 x.hi,.int .i64 x.frm]] [] [by_ vb (.cells (dx_ pv ab fv).toArray 83 (0,0)),by_ ab (.map es ec),at_ lad (List.flatMap Fc.cells ([]:List Fc))] (fun _:Unit=>.bool (gx_ kn x f zfc zfc)) (fun _=>[]) (fun _=>[]):=by
 refine t_ Tryz.func130 rfl rfl Tryz.ntmps130 rfl fun v0=>?_
 refine Zz 2 ?_
 refine ag_ rfl rfl fun b1=>Zz 5 ?_
 refine n_ 9 [0,1,2,3,4,5,6,7,8,9] zk zs (Zz 8 ?_)
 refine cj_ rfl (iV_ hkn (dL_ (k:=f.a) lN_ fD_ cw_ rfl rfl hE (fun v _ h=>(by exact h.2.1:(by_ ab (.map es ec)).p v).2))) rfl fun r1 hr1=>Zz 2 ?_
 cases r1
 ·refine n_ 0 [10,11,12,13,14,15,16,17,18] zk zs (Zz 13 ?_)
  exact J_ Tryz.results130 () (f_ rfl (by simp only[gx_,hr1,if_true,if_false,decide_true,decide_false,Bool.and_true,Bool.and_false,Bool.true_and,Bool.false_and,Bool.or_true,Bool.or_false,Bool.true_or,Bool.false_or,Bool.not_true,Bool.not_false,ne_eq,not_true_eq_false,not_false_eq_true,true_and,and_true,false_and,and_false,true_or,or_true,false_or,or_false,ite_true,ite_false,Bool.false_eq_true])) g_ zt
 refine n_ 4 [10,11,12,13,14] zk zs (Zz 6 ?_)
 refine i_ 15 rfl zk (y_ rfl rfl (q_ (bB_ f.a [42]) rfl g_ zt rfl fun _=>Zz 3 ?_))
 refine n_ 0 [16,17,18] zk zs (aC_ rfl rfl rfl (Y_ (p:=f) (q:=(M_ f.a [42])) rfl rfl) rfl fun r2 hr2=>Zz 6 ?_)
 exact J_ Tryz.results130 () (f_ rfl (by rw[← hr2];simp only[gx_,hr1,if_true,if_false,decide_true,decide_false,Bool.and_true,Bool.and_false,Bool.true_and,Bool.false_and,Bool.or_true,Bool.or_false,Bool.true_or,Bool.false_or,Bool.not_true,Bool.not_false,ne_eq,not_true_eq_false,not_false_eq_true,true_and,and_true,false_and,and_false,true_or,or_true,false_or,or_false,ite_true,ite_false,Bool.false_eq_true])) g_ zt
set_option maxHeartbeats 1000000 in
theorem tm_ (kn:Str→Bool) (q:List Str) (hkn:∀ s,kn s=true↔s∈q) (es:Array MapEntry) (ec:Nat) (hE:SetE str es q) (vb ab:Nat) (pv fv:Value) (x:Pc) (f ga:Fc) (lad:Option Addr) (lcap:Nat):Tri Tryz.prog 131 #[.agg #[zp_ vb 0,.int .i64 f.kind,str f.a,str f.b,str f.r,.int .i64 f.lo,.int .i64 f.hi,.slice lad (List.length [ga]) lcap,.int .i64 x.kind,str x.a,str x.b,str x.c,str x.r,str x.s,str x.t,.int .i64 x.lo,.int .i64 x.hi,.int .i64 x.frm]] [] [by_ vb (.cells (dx_ pv ab fv).toArray 83 (0,0)),by_ ab (.map es ec),at_ lad (List.flatMap Fc.cells [ga])] (fun _:Unit=>.bool (gw_ kn x f ga zfc)) (fun _=>[]) (fun _=>[]):=by
 refine t_ Tryz.func131 rfl rfl Tryz.ntmps131 rfl fun v0=>?_
 refine Zz 2 ?_
 refine ag_ rfl rfl fun b1=>Zz 5 ?_
 refine n_ 15 [0,1,2,3,4,5,6,7,8,9] zk zs (Zz 2 ?_)
 refine Z_ rfl (X_ E_ x_ rfl rfl (fun v _ h=>I_ (n:=6) Fc.cells_len (by decide) (by exact h.2.2.1) (show [ga][0]? = some _ from rfl)) (by omega) (by first|omega|(simp;done))) rfl ?_
 refine Z_ rfl (aA_ (ad:=lad) (us:=Fc.cells ga) aI_ x_ rfl zf (Fc.cells_len _) (G_ Fc.cells_len (show [ga][0]? = some _ from rfl))) rfl (Zz 7 ?_)
 refine i_ 10 rfl zk (q_ (bB_ f.a x.a) rfl g_ zt rfl fun _=>Zz 3 ?_)
 refine n_ 12 [11,12] zk zs (cj_ rfl (Y_ (p:=ga) (q:=(M_ f.a x.a)) rfl rfl) rfl fun r1 hr1=>Zz 2 ?_)
 cases r1
 ·replace hr1:=zdf hr1
  refine n_ 0 [13,14,15,16,17,18,19,20,21,22,23,24] zk zs (Zz 16 ?_)
  exact J_ Tryz.results131 () (f_ rfl (by have p1:=eq_false hr1;simp only[gw_,p1,if_true,if_false,decide_true,decide_false,Bool.and_true,Bool.and_false,Bool.true_and,Bool.false_and,Bool.or_true,Bool.or_false,Bool.true_or,Bool.false_or,Bool.not_true,Bool.not_false,ne_eq,not_true_eq_false,not_false_eq_true,true_and,and_true,false_and,and_false,true_or,or_true,false_or,or_false,ite_true,ite_false,Bool.false_eq_true])) g_ zt
 replace hr1:=zdt hr1
 refine n_ 4 [13,14,15,16,17,18,19,20] zk zs (Zz 9 ?_)
 refine i_ 21 rfl zk (y_ rfl rfl (q_ (bB_ f.a x.c) rfl g_ zt rfl fun _=>Zz 3 ?_))
 refine n_ 0 [22,23,24] zk zs (aC_ rfl rfl rfl (Y_ (p:=f) (q:=(M_ f.a x.c)) rfl rfl) rfl fun r2 hr2=>Zz 6 ?_)
 exact J_ Tryz.results131 () (f_ rfl (by have p1:=eq_true hr1;rw[← hr2];simp only[gw_,p1,if_true,if_false,decide_true,decide_false,Bool.and_true,Bool.and_false,Bool.true_and,Bool.false_and,Bool.or_true,Bool.or_false,Bool.true_or,Bool.false_or,Bool.not_true,Bool.not_false,ne_eq,not_true_eq_false,not_false_eq_true,true_and,and_true,false_and,and_false,true_or,or_true,false_or,or_false,ite_true,ite_false,Bool.false_eq_true])) g_ zt
set_option maxHeartbeats 1000000 in
theorem tl_ (kn:Str→Bool) (q:List Str) (hkn:∀ s,kn s=true↔s∈q) (es:Array MapEntry) (ec:Nat) (hE:SetE str es q) (vb ab:Nat) (pv fv:Value) (x:Pc) (f ga gb:Fc) (lad:Option Addr) (lcap:Nat):Tri Tryz.prog 132 #[.agg #[zp_ vb 0,.int .i64 f.kind,str f.a,str f.b,str f.r,.int .i64 f.lo,.int .i64 f.hi,.slice lad (List.length [ga,gb]) lcap,.int .i64 x.kind,str x.a,str x.b,str x.c,str x.r,str x.s,str x.t,.int .i64 x.lo,.int .i64 x.hi,.int .i64 x.frm]] [] [by_ vb (.cells (dx_ pv ab fv).toArray 83 (0,0)),by_ ab (.map es ec),at_ lad (List.flatMap Fc.cells [ga,gb])] (fun _:Unit=>.bool (gf_ kn x f ga gb)) (fun _=>[]) (fun _=>[]):=by
 refine t_ Tryz.func132 rfl rfl Tryz.ntmps132 rfl fun v0=>?_
 refine Zz 2 ?_
 refine ag_ rfl rfl fun b1=>Zz 5 ?_
 refine n_ 29 [0,1,2,3,4,5,6,7,8,9] zk zs (Zz 2 ?_)
 refine Z_ rfl (X_ E_ x_ rfl rfl (fun v _ h=>I_ (n:=6) Fc.cells_len (by decide) (by exact h.2.2.1) (show [ga,gb][0]? = some _ from rfl)) (by omega) (by first|omega|(simp;done))) rfl ?_
 refine Z_ rfl (aA_ (ad:=lad) (us:=Fc.cells ga) aI_ x_ rfl zf (Fc.cells_len _) (G_ Fc.cells_len (show [ga,gb][0]? = some _ from rfl))) rfl (Zz 7 ?_)
 refine i_ 10 rfl zk (q_ (bB_ f.a x.a) rfl g_ zt rfl fun _=>Zz 3 ?_)
 refine n_ 26 [11,12] zk zs (cj_ rfl (Y_ (p:=ga) (q:=(M_ f.a x.a)) rfl rfl) rfl fun r1 hr1=>Zz 2 ?_)
 cases r1
 ·replace hr1:=zdf hr1
  refine n_ 0 [13,14,15,16,17,18,19,20,21,22,23,24,25,26,27,28,29,30,31,32,33,34,35,36,37,38] zk zs (Zz 30 ?_)
  exact J_ Tryz.results132 () (f_ rfl (by have p1:=eq_false hr1;simp only[gf_,p1,if_true,if_false,decide_true,decide_false,Bool.and_true,Bool.and_false,Bool.true_and,Bool.false_and,Bool.or_true,Bool.or_false,Bool.true_or,Bool.false_or,Bool.not_true,Bool.not_false,ne_eq,not_true_eq_false,not_false_eq_true,true_and,and_true,false_and,and_false,true_or,or_true,false_or,or_false,ite_true,ite_false,Bool.false_eq_true])) g_ zt
 replace hr1:=zdt hr1
 refine n_ 16 [13,14,15,16,17,18,19,20,21,22] zk zs (Zz 2 ?_)
 refine bQ_ rfl rfl rfl (X_ E_ x_ rfl rfl (fun v _ h=>I_ (n:=6) Fc.cells_len (by decide) (by exact h.2.2.1) (show [ga,gb][1]? = some _ from rfl)) (by omega) (by first|omega|(simp;done))) rfl ?_
 refine bQ_ rfl rfl rfl (aA_ (ad:=lad) (us:=Fc.cells gb) aI_ x_ rfl zf (Fc.cells_len _) (G_ Fc.cells_len (show [ga,gb][1]? = some _ from rfl))) rfl (Zz 7 ?_)
 refine i_ 23 rfl zk (y_ rfl rfl (q_ (bB_ f.a x.b) rfl g_ zt rfl fun _=>Zz 3 ?_))
 refine n_ 12 [24,25,26] zk zs (aC_ rfl rfl rfl (Y_ (p:=gb) (q:=(M_ f.a x.b)) rfl rfl) rfl fun r2 hr2=>Zz 3 ?_)
 cases r2
 ·replace hr2:=zdf hr2
  refine n_ 0 [27,28,29,30,31,32,33,34,35,36,37,38] zk zs (Zz 16 ?_)
  exact J_ Tryz.results132 () (f_ rfl (by have p1:=eq_true hr1;have p2:=eq_false hr2;simp only[gf_,p1,p2,if_true,if_false,decide_true,decide_false,Bool.and_true,Bool.and_false,Bool.true_and,Bool.false_and,Bool.or_true,Bool.or_false,Bool.true_or,Bool.false_or,Bool.not_true,Bool.not_false,ne_eq,not_true_eq_false,not_false_eq_true,true_and,and_true,false_and,and_false,true_or,or_true,false_or,or_false,ite_true,ite_false,Bool.false_eq_true])) g_ zt
 replace hr2:=zdt hr2
 refine n_ 4 [27,28,29,30,31,32,33,34] zk zs (Zz 9 ?_)
 refine i_ 35 rfl zk (y_ rfl rfl (q_ (bB_ f.a x.c) rfl g_ zt rfl fun _=>Zz 3 ?_))
 refine n_ 0 [36,37,38] zk zs (aC_ rfl rfl rfl (Y_ (p:=f) (q:=(M_ f.a x.c)) rfl rfl) rfl fun r3 hr3=>Zz 6 ?_)
 exact J_ Tryz.results132 () (f_ rfl (by have p1:=eq_true hr1;have p2:=eq_true hr2;rw[← hr3];simp only[gf_,p1,p2,if_true,if_false,decide_true,decide_false,Bool.and_true,Bool.and_false,Bool.true_and,Bool.false_and,Bool.or_true,Bool.or_false,Bool.true_or,Bool.false_or,Bool.not_true,Bool.not_false,ne_eq,not_true_eq_false,not_false_eq_true,true_and,and_true,false_and,and_false,true_or,or_true,false_or,or_false,ite_true,ite_false,Bool.false_eq_true])) g_ zt
set_option maxHeartbeats 1000000 in
theorem tk_ (kn:Str→Bool) (q:List Str) (hkn:∀ s,kn s=true↔s∈q) (es:Array MapEntry) (ec:Nat) (hE:SetE str es q) (vb ab:Nat) (pv fv:Value) (x:Pc) (f ga:Fc) (lad:Option Addr) (lcap:Nat):Tri Tryz.prog 133 #[.agg #[zp_ vb 0,.int .i64 f.kind,str f.a,str f.b,str f.r,.int .i64 f.lo,.int .i64 f.hi,.slice lad (List.length [ga]) lcap,.int .i64 x.kind,str x.a,str x.b,str x.c,str x.r,str x.s,str x.t,.int .i64 x.lo,.int .i64 x.hi,.int .i64 x.frm]] [] [by_ vb (.cells (dx_ pv ab fv).toArray 83 (0,0)),by_ ab (.map es ec),at_ lad (List.flatMap Fc.cells [ga])] (fun _:Unit=>.bool (gv_ kn x f ga zfc)) (fun _=>[]) (fun _=>[]):=by
 refine t_ Tryz.func133 rfl rfl Tryz.ntmps133 rfl fun v0=>?_
 refine Zz 2 ?_
 refine ag_ rfl rfl fun b1=>Zz 5 ?_
 refine n_ 18 [0,1,2,3,4,5,6,7,8,9] zk zs (Zz 2 ?_)
 refine Z_ rfl (X_ E_ x_ rfl rfl (fun v _ h=>I_ (n:=6) Fc.cells_len (by decide) (by exact h.2.2.1) (show [ga][0]? = some _ from rfl)) (by omega) (by first|omega|(simp;done))) rfl ?_
 refine Z_ rfl (aA_ (ad:=lad) (us:=Fc.cells ga) aI_ x_ rfl zf (Fc.cells_len _) (G_ Fc.cells_len (show [ga][0]? = some _ from rfl))) rfl (Zz 7 ?_)
 refine i_ 10 rfl zk (q_ (bB_ f.a x.a) rfl g_ zt rfl fun _=>Zz 3 ?_)
 refine n_ 15 [11,12] zk zs (cj_ rfl (Y_ (p:=ga) (q:=(M_ f.a x.a)) rfl rfl) rfl fun r1 hr1=>Zz 2 ?_)
 cases r1
 ·replace hr1:=zdf hr1
  refine n_ 0 [13,14,15,16,17,18,19,20,21,22,23,24,25,26,27] zk zs (Zz 19 ?_)
  exact J_ Tryz.results133 () (f_ rfl (by have p1:=eq_false hr1;simp only[gv_,p1,if_true,if_false,decide_true,decide_false,Bool.and_true,Bool.and_false,Bool.true_and,Bool.false_and,Bool.or_true,Bool.or_false,Bool.true_or,Bool.false_or,Bool.not_true,Bool.not_false,ne_eq,not_true_eq_false,not_false_eq_true,true_and,and_true,false_and,and_false,true_or,or_true,false_or,or_false,ite_true,ite_false,Bool.false_eq_true])) g_ zt
 replace hr1:=zdt hr1
 refine n_ 4 [13,14,15,16,17,18,19,20,21,22,23] zk zs (Zz 12 ?_)
 refine i_ 24 rfl zk (y_ rfl rfl (q_ (eT_ f.a x.r x.c) rfl g_ zt rfl fun _=>Zz 3 ?_))
 refine n_ 0 [25,26,27] zk zs (aC_ rfl rfl rfl (Y_ (p:=f) (q:=(ah_ f.a x.r x.c)) rfl rfl) rfl fun r2 hr2=>Zz 6 ?_)
 exact J_ Tryz.results133 () (f_ rfl (by have p1:=eq_true hr1;rw[← hr2];simp only[gv_,p1,if_true,if_false,decide_true,decide_false,Bool.and_true,Bool.and_false,Bool.true_and,Bool.false_and,Bool.or_true,Bool.or_false,Bool.true_or,Bool.false_or,Bool.not_true,Bool.not_false,ne_eq,not_true_eq_false,not_false_eq_true,true_and,and_true,false_and,and_false,true_or,or_true,false_or,or_false,ite_true,ite_false,Bool.false_eq_true])) g_ zt
set_option maxHeartbeats 1000000 in
theorem tj_ (kn:Str→Bool) (q:List Str) (hkn:∀ s,kn s=true↔s∈q) (es:Array MapEntry) (ec:Nat) (hE:SetE str es q) (vb ab:Nat) (pv fv:Value) (x:Pc) (f ga:Fc) (lad:Option Addr) (lcap:Nat):Tri Tryz.prog 135 #[.agg #[zp_ vb 0,.int .i64 f.kind,str f.a,str f.b,str f.r,.int .i64 f.lo,.int .i64 f.hi,.slice lad (List.length [ga]) lcap,.int .i64 x.kind,str x.a,str x.b,str x.c,str x.r,str x.s,str x.t,.int .i64 x.lo,.int .i64 x.hi,.int .i64 x.frm]] [] [by_ vb (.cells (dx_ pv ab fv).toArray 83 (0,0)),by_ ab (.map es ec),at_ lad (List.flatMap Fc.cells [ga])] (fun _:Unit=>.bool (gu_ kn x f ga zfc)) (fun _=>[]) (fun _=>[]):=by
 refine t_ Tryz.func135 rfl rfl Tryz.ntmps135 rfl fun v0=>?_
 refine Zz 2 ?_
 refine ag_ rfl rfl fun b1=>Zz 5 ?_
 refine n_ 18 [0,1,2,3,4,5,6,7,8,9,10,11,12] zk zs (Zz 2 ?_)
 refine Z_ rfl (X_ E_ x_ rfl rfl (fun v _ h=>I_ (n:=6) Fc.cells_len (by decide) (by exact h.2.2.1) (show [ga][0]? = some _ from rfl)) (by omega) (by first|omega|(simp;done))) rfl ?_
 refine Z_ rfl (aA_ (ad:=lad) (us:=Fc.cells ga) aI_ x_ rfl zf (Fc.cells_len _) (G_ Fc.cells_len (show [ga][0]? = some _ from rfl))) rfl (Zz 10 ?_)
 refine i_ 13 rfl zk (q_ (eT_ f.a x.r f.b) rfl g_ zt rfl fun _=>Zz 3 ?_)
 refine n_ 15 [14,15] zk zs (cj_ rfl (Y_ (p:=ga) (q:=(ah_ f.a x.r f.b)) rfl rfl) rfl fun r1 hr1=>Zz 2 ?_)
 cases r1
 ·replace hr1:=zdf hr1
  refine n_ 0 [16,17,18,19,20,21,22,23,24,25,26,27,28,29,30] zk zs (Zz 19 ?_)
  exact J_ Tryz.results135 () (f_ rfl (by have p1:=eq_false hr1;simp only[gu_,p1,if_true,if_false,decide_true,decide_false,Bool.and_true,Bool.and_false,Bool.true_and,Bool.false_and,Bool.or_true,Bool.or_false,Bool.true_or,Bool.false_or,Bool.not_true,Bool.not_false,ne_eq,not_true_eq_false,not_false_eq_true,true_and,and_true,false_and,and_false,true_or,or_true,false_or,or_false,ite_true,ite_false,Bool.false_eq_true])) g_ zt
 replace hr1:=zdt hr1
 refine n_ 4 [16,17,18,19,20,21,22,23,24,25,26] zk zs (Zz 12 ?_)
 refine i_ 27 rfl zk (y_ rfl rfl (q_ (eT_ f.a x.t f.b) rfl g_ zt rfl fun _=>Zz 3 ?_))
 refine n_ 0 [28,29,30] zk zs (aC_ rfl rfl rfl (Y_ (p:=f) (q:=(ah_ f.a x.t f.b)) rfl rfl) rfl fun r2 hr2=>Zz 6 ?_)
 exact J_ Tryz.results135 () (f_ rfl (by have p1:=eq_true hr1;rw[← hr2];simp only[gu_,p1,if_true,if_false,decide_true,decide_false,Bool.and_true,Bool.and_false,Bool.true_and,Bool.false_and,Bool.or_true,Bool.or_false,Bool.true_or,Bool.false_or,Bool.not_true,Bool.not_false,ne_eq,not_true_eq_false,not_false_eq_true,true_and,and_true,false_and,and_false,true_or,or_true,false_or,or_false,ite_true,ite_false,Bool.false_eq_true])) g_ zt
set_option maxHeartbeats 1000000 in
theorem ti_ (kn:Str→Bool) (q:List Str) (hkn:∀ s,kn s=true↔s∈q) (es:Array MapEntry) (ec:Nat) (hE:SetE str es q) (vb ab:Nat) (pv fv:Value) (x:Pc) (f ga gb:Fc) (lad:Option Addr) (lcap:Nat):Tri Tryz.prog 136 #[.agg #[zp_ vb 0,.int .i64 f.kind,str f.a,str f.b,str f.r,.int .i64 f.lo,.int .i64 f.hi,.slice lad (List.length [ga,gb]) lcap,.int .i64 x.kind,str x.a,str x.b,str x.c,str x.r,str x.s,str x.t,.int .i64 x.lo,.int .i64 x.hi,.int .i64 x.frm]] [] [by_ vb (.cells (dx_ pv ab fv).toArray 83 (0,0)),by_ ab (.map es ec),at_ lad (List.flatMap Fc.cells [ga,gb])] (fun _:Unit=>.bool (ge_ kn x f ga gb)) (fun _=>[]) (fun _=>[]):=by
 refine t_ Tryz.func136 rfl rfl Tryz.ntmps136 rfl fun v0=>?_
 refine Zz 2 ?_
 refine ag_ rfl rfl fun b1=>Zz 7 ?_
 refine d_ (X_ E_ x_ rfl rfl (fun v _ h=>I_ (n:=6) Fc.cells_len (by decide) (by exact h.2.2.1) (show [ga,gb][0]? = some _ from rfl)) (by omega) (by first|omega|(simp;done))) rfl ?_
 refine Zz 1 ?_
 refine d_ (bn_ (ad:=lad) ai_ rfl zf (G_ Fc.cells_len (show [ga,gb][0]? = some _ from rfl) 2 _ rfl)) rfl (Zz 5 ?_)
 refine n_ 33 [0,1,2,3,4,5,6,7,8,9,10] zk zs (Zz 2 ?_)
 refine Z_ rfl (X_ E_ x_ rfl rfl (fun v _ h=>I_ (n:=6) Fc.cells_len (by decide) (by exact h.2.2.1) (show [ga,gb][0]? = some _ from rfl)) (by omega) (by first|omega|(simp;done))) rfl ?_
 refine Z_ rfl (aA_ (ad:=lad) (us:=Fc.cells ga) aI_ x_ rfl zf (Fc.cells_len _) (G_ Fc.cells_len (show [ga,gb][0]? = some _ from rfl))) rfl (Zz 8 ?_)
 refine i_ 11 rfl zk (q_ (eT_ f.a x.r ga.b) rfl g_ zt rfl fun _=>Zz 3 ?_)
 refine n_ 30 [12,13] zk zs (cj_ rfl (Y_ (p:=ga) (q:=(ah_ f.a x.r ga.b)) rfl rfl) rfl fun r1 hr1=>Zz 2 ?_)
 cases r1
 ·replace hr1:=zdf hr1
  refine n_ 0 [14,15,16,17,18,19,20,21,22,23,24,25,26,27,28,29,30,31,32,33,34,35,36,37,38,39,40,41,42,43] zk zs (Zz 34 ?_)
  exact J_ Tryz.results136 () (f_ rfl (by have p1:=eq_false hr1;simp only[ge_,p1,if_true,if_false,decide_true,decide_false,Bool.and_true,Bool.and_false,Bool.true_and,Bool.false_and,Bool.or_true,Bool.or_false,Bool.true_or,Bool.false_or,Bool.not_true,Bool.not_false,ne_eq,not_true_eq_false,not_false_eq_true,true_and,and_true,false_and,and_false,true_or,or_true,false_or,or_false,ite_true,ite_false,Bool.false_eq_true])) g_ zt
 replace hr1:=zdt hr1
 refine n_ 19 [14,15,16,17,18,19,20,21,22,23,24] zk zs (Zz 2 ?_)
 refine bQ_ rfl rfl rfl (X_ E_ x_ rfl rfl (fun v _ h=>I_ (n:=6) Fc.cells_len (by decide) (by exact h.2.2.1) (show [ga,gb][1]? = some _ from rfl)) (by omega) (by first|omega|(simp;done))) rfl ?_
 refine bQ_ rfl rfl rfl (aA_ (ad:=lad) (us:=Fc.cells gb) aI_ x_ rfl zf (Fc.cells_len _) (G_ Fc.cells_len (show [ga,gb][1]? = some _ from rfl))) rfl (Zz 8 ?_)
 refine i_ 25 rfl zk (y_ rfl rfl (q_ (eT_ ga.b x.s f.b) rfl g_ zt rfl fun _=>Zz 3 ?_))
 refine n_ 15 [26,27,28] zk zs (aC_ rfl rfl rfl (Y_ (p:=gb) (q:=(ah_ ga.b x.s f.b)) rfl rfl) rfl fun r2 hr2=>Zz 3 ?_)
 cases r2
 ·replace hr2:=zdf hr2
  refine n_ 0 [29,30,31,32,33,34,35,36,37,38,39,40,41,42,43] zk zs (Zz 19 ?_)
  exact J_ Tryz.results136 () (f_ rfl (by have p1:=eq_true hr1;have p2:=eq_false hr2;simp only[ge_,p1,p2,if_true,if_false,decide_true,decide_false,Bool.and_true,Bool.and_false,Bool.true_and,Bool.false_and,Bool.or_true,Bool.or_false,Bool.true_or,Bool.false_or,Bool.not_true,Bool.not_false,ne_eq,not_true_eq_false,not_false_eq_true,true_and,and_true,false_and,and_false,true_or,or_true,false_or,or_false,ite_true,ite_false,Bool.false_eq_true])) g_ zt
 replace hr2:=zdt hr2
 refine n_ 4 [29,30,31,32,33,34,35,36,37,38,39] zk zs (Zz 12 ?_)
 refine i_ 40 rfl zk (y_ rfl rfl (q_ (eT_ f.a x.t f.b) rfl g_ zt rfl fun _=>Zz 3 ?_))
 refine n_ 0 [41,42,43] zk zs (aC_ rfl rfl rfl (Y_ (p:=f) (q:=(ah_ f.a x.t f.b)) rfl rfl) rfl fun r3 hr3=>Zz 6 ?_)
 exact J_ Tryz.results136 () (f_ rfl (by have p1:=eq_true hr1;have p2:=eq_true hr2;rw[← hr3];simp only[ge_,p1,p2,if_true,if_false,decide_true,decide_false,Bool.and_true,Bool.and_false,Bool.true_and,Bool.false_and,Bool.or_true,Bool.or_false,Bool.true_or,Bool.false_or,Bool.not_true,Bool.not_false,ne_eq,not_true_eq_false,not_false_eq_true,true_and,and_true,false_and,and_false,true_or,or_true,false_or,or_false,ite_true,ite_false,Bool.false_eq_true])) g_ zt
set_option maxHeartbeats 1000000 in
theorem th_ (kn:Str→Bool) (q:List Str) (hkn:∀ s,kn s=true↔s∈q) (es:Array MapEntry) (ec:Nat) (hE:SetE str es q) (vb ab:Nat) (pv fv:Value) (x:Pc) (f ga gb:Fc) (lad:Option Addr) (lcap:Nat):Tri Tryz.prog 137 #[.agg #[zp_ vb 0,.int .i64 f.kind,str f.a,str f.b,str f.r,.int .i64 f.lo,.int .i64 f.hi,.slice lad (List.length [ga,gb]) lcap,.int .i64 x.kind,str x.a,str x.b,str x.c,str x.r,str x.s,str x.t,.int .i64 x.lo,.int .i64 x.hi,.int .i64 x.frm]] [] [by_ vb (.cells (dx_ pv ab fv).toArray 83 (0,0)),by_ ab (.map es ec),at_ lad (List.flatMap Fc.cells [ga,gb])] (fun _:Unit=>.bool (gd_ kn x f ga gb)) (fun _=>[]) (fun _=>[]):=by
 refine t_ Tryz.func137 rfl rfl Tryz.ntmps137 rfl fun v0=>?_
 refine Zz 2 ?_
 refine ag_ rfl rfl fun b1=>Zz 7 ?_
 refine d_ (X_ E_ x_ rfl rfl (fun v _ h=>I_ (n:=6) Fc.cells_len (by decide) (by exact h.2.2.1) (show [ga,gb][0]? = some _ from rfl)) (by omega) (by first|omega|(simp;done))) rfl ?_
 refine Zz 1 ?_
 refine d_ (bn_ (ad:=lad) ai_ rfl zf (G_ Fc.cells_len (show [ga,gb][0]? = some _ from rfl) 2 _ rfl)) rfl (Zz 5 ?_)
 refine n_ 27 [0,1,2,3,4,5,6,7,8,9,10] zk zs (Zz 2 ?_)
 refine Z_ rfl (X_ E_ x_ rfl rfl (fun v _ h=>I_ (n:=6) Fc.cells_len (by decide) (by exact h.2.2.1) (show [ga,gb][0]? = some _ from rfl)) (by omega) (by first|omega|(simp;done))) rfl ?_
 refine Z_ rfl (aA_ (ad:=lad) (us:=Fc.cells ga) aI_ x_ rfl zf (Fc.cells_len _) (G_ Fc.cells_len (show [ga,gb][0]? = some _ from rfl))) rfl (Zz 8 ?_)
 refine i_ 11 rfl zk (q_ (eT_ f.a x.r ga.b) rfl g_ zt rfl fun _=>Zz 3 ?_)
 refine n_ 24 [12,13] zk zs (cj_ rfl (Y_ (p:=ga) (q:=(ah_ f.a x.r ga.b)) rfl rfl) rfl fun r1 hr1=>Zz 2 ?_)
 cases r1
 ·replace hr1:=zdf hr1
  refine n_ 0 [14,15,16,17,18,19,20,21,22,23,24,25,26,27,28,29,30,31,32,33,34,35,36,37] zk zs (Zz 28 ?_)
  exact J_ Tryz.results137 () (f_ rfl (by have p1:=eq_false hr1;simp only[gd_,p1,if_true,if_false,decide_true,decide_false,Bool.and_true,Bool.and_false,Bool.true_and,Bool.false_and,Bool.or_true,Bool.or_false,Bool.true_or,Bool.false_or,Bool.not_true,Bool.not_false,ne_eq,not_true_eq_false,not_false_eq_true,true_and,and_true,false_and,and_false,true_or,or_true,false_or,or_false,ite_true,ite_false,Bool.false_eq_true])) g_ zt
 replace hr1:=zdt hr1
 refine n_ 16 [14,15,16,17,18,19,20,21] zk zs (Zz 2 ?_)
 refine bQ_ rfl rfl rfl (X_ E_ x_ rfl rfl (fun v _ h=>I_ (n:=6) Fc.cells_len (by decide) (by exact h.2.2.1) (show [ga,gb][1]? = some _ from rfl)) (by omega) (by first|omega|(simp;done))) rfl ?_
 refine bQ_ rfl rfl rfl (aA_ (ad:=lad) (us:=Fc.cells gb) aI_ x_ rfl zf (Fc.cells_len _) (G_ Fc.cells_len (show [ga,gb][1]? = some _ from rfl))) rfl (Zz 5 ?_)
 refine i_ 22 rfl zk (y_ rfl rfl (q_ (bB_ ga.b x.a) rfl g_ zt rfl fun _=>Zz 3 ?_))
 refine n_ 12 [23,24,25] zk zs (aC_ rfl rfl rfl (Y_ (p:=gb) (q:=(M_ ga.b x.a)) rfl rfl) rfl fun r2 hr2=>Zz 3 ?_)
 cases r2
 ·replace hr2:=zdf hr2
  refine n_ 0 [26,27,28,29,30,31,32,33,34,35,36,37] zk zs (Zz 16 ?_)
  exact J_ Tryz.results137 () (f_ rfl (by have p1:=eq_true hr1;have p2:=eq_false hr2;simp only[gd_,p1,p2,if_true,if_false,decide_true,decide_false,Bool.and_true,Bool.and_false,Bool.true_and,Bool.false_and,Bool.or_true,Bool.or_false,Bool.true_or,Bool.false_or,Bool.not_true,Bool.not_false,ne_eq,not_true_eq_false,not_false_eq_true,true_and,and_true,false_and,and_false,true_or,or_true,false_or,or_false,ite_true,ite_false,Bool.false_eq_true])) g_ zt
 replace hr2:=zdt hr2
 refine n_ 4 [26,27,28,29,30,31,32,33] zk zs (Zz 9 ?_)
 refine i_ 34 rfl zk (y_ rfl rfl (q_ (bB_ f.a x.c) rfl g_ zt rfl fun _=>Zz 3 ?_))
 refine n_ 0 [35,36,37] zk zs (aC_ rfl rfl rfl (Y_ (p:=f) (q:=(M_ f.a x.c)) rfl rfl) rfl fun r3 hr3=>Zz 6 ?_)
 exact J_ Tryz.results137 () (f_ rfl (by have p1:=eq_true hr1;have p2:=eq_true hr2;rw[← hr3];simp only[gd_,p1,p2,if_true,if_false,decide_true,decide_false,Bool.and_true,Bool.and_false,Bool.true_and,Bool.false_and,Bool.or_true,Bool.or_false,Bool.true_or,Bool.false_or,Bool.not_true,Bool.not_false,ne_eq,not_true_eq_false,not_false_eq_true,true_and,and_true,false_and,and_false,true_or,or_true,false_or,or_false,ite_true,ite_false,Bool.false_eq_true])) g_ zt
set_option maxHeartbeats 1000000 in
theorem tg_ (kn:Str→Bool) (q:List Str) (hkn:∀ s,kn s=true↔s∈q) (es:Array MapEntry) (ec:Nat) (hE:SetE str es q) (vb ab:Nat) (pv fv:Value) (x:Pc) (f ga gb:Fc) (lad:Option Addr) (lcap:Nat):Tri Tryz.prog 138 #[.agg #[zp_ vb 0,.int .i64 f.kind,str f.a,str f.b,str f.r,.int .i64 f.lo,.int .i64 f.hi,.slice lad (List.length [ga,gb]) lcap,.int .i64 x.kind,str x.a,str x.b,str x.c,str x.r,str x.s,str x.t,.int .i64 x.lo,.int .i64 x.hi,.int .i64 x.frm]] [] [by_ vb (.cells (dx_ pv ab fv).toArray 83 (0,0)),by_ ab (.map es ec),at_ lad (List.flatMap Fc.cells [ga,gb])] (fun _:Unit=>.bool (gc_ kn x f ga gb)) (fun _=>[]) (fun _=>[]):=by
 refine t_ Tryz.func138 rfl rfl Tryz.ntmps138 rfl fun v0=>?_
 refine Zz 2 ?_
 refine ag_ rfl rfl fun b1=>Zz 7 ?_
 refine d_ (X_ E_ x_ rfl rfl (fun v _ h=>I_ (n:=6) Fc.cells_len (by decide) (by exact h.2.2.1) (show [ga,gb][0]? = some _ from rfl)) (by omega) (by first|omega|(simp;done))) rfl ?_
 refine Zz 1 ?_
 refine d_ (bn_ (ad:=lad) ai_ rfl zf (G_ Fc.cells_len (show [ga,gb][0]? = some _ from rfl) 2 _ rfl)) rfl (Zz 5 ?_)
 refine n_ 21 [0,1,2,3,4,5,6,7,8,9,10,11,12] zk zs (Zz 2 ?_)
 refine Z_ rfl (X_ E_ x_ rfl rfl (fun v _ h=>I_ (n:=6) Fc.cells_len (by decide) (by exact h.2.2.1) (show [ga,gb][0]? = some _ from rfl)) (by omega) (by first|omega|(simp;done))) rfl ?_
 refine Z_ rfl (aA_ (ad:=lad) (us:=Fc.cells ga) aI_ x_ rfl zf (Fc.cells_len _) (G_ Fc.cells_len (show [ga,gb][0]? = some _ from rfl))) rfl (Zz 5 ?_)
 refine Z_ rfl (X_ E_ x_ rfl rfl (fun v _ h=>I_ (n:=6) Fc.cells_len (by decide) (by exact h.2.2.1) (show [ga,gb][0]? = some _ from rfl)) (by omega) (by first|omega|(simp;done))) rfl ?_
 refine Zz 1 ?_
 refine Z_ rfl (bn_ (ad:=lad) ai_ rfl zf (G_ Fc.cells_len (show [ga,gb][0]? = some _ from rfl) 3 _ rfl)) rfl (Zz 2 ?_)
 refine i_ 13 rfl zk (q_ (eT_ f.a ga.r ga.b) rfl g_ zt rfl fun _=>Zz 3 ?_)
 refine n_ 18 [14,15] zk zs (cj_ rfl (Y_ (p:=ga) (q:=(ah_ f.a ga.r ga.b)) rfl rfl) rfl fun r1 hr1=>Zz 2 ?_)
 cases r1
 ·replace hr1:=zdf hr1
  refine n_ 0 [16,17,18,19,20,21,22,23,24,25,26,27,28,29,30,31,32,33] zk zs (Zz 22 ?_)
  exact J_ Tryz.results138 () (f_ rfl (by have p1:=eq_false hr1;simp only[gc_,p1,if_true,if_false,decide_true,decide_false,Bool.and_true,Bool.and_false,Bool.true_and,Bool.false_and,Bool.or_true,Bool.or_false,Bool.true_or,Bool.false_or,Bool.not_true,Bool.not_false,ne_eq,not_true_eq_false,not_false_eq_true,true_and,and_true,false_and,and_false,true_or,or_true,false_or,or_false,ite_true,ite_false,Bool.false_eq_true])) g_ zt
 replace hr1:=zdt hr1
 refine n_ 13 [16,17,18,19,20] zk zs (Zz 2 ?_)
 refine bQ_ rfl rfl rfl (X_ E_ x_ rfl rfl (fun v _ h=>I_ (n:=6) Fc.cells_len (by decide) (by exact h.2.2.1) (show [ga,gb][1]? = some _ from rfl)) (by omega) (by first|omega|(simp;done))) rfl ?_
 refine bQ_ rfl rfl rfl (aA_ (ad:=lad) (us:=Fc.cells gb) aI_ x_ rfl zf (Fc.cells_len _) (G_ Fc.cells_len (show [ga,gb][1]? = some _ from rfl))) rfl (Zz 2 ?_)
 refine i_ 21 rfl zk (y_ rfl rfl (q_ (bB_ ga.b [33]) rfl g_ zt rfl fun _=>Zz 3 ?_))
 refine n_ 9 [22,23,24] zk zs (aC_ rfl rfl rfl (Y_ (p:=gb) (q:=(M_ ga.b [33])) rfl rfl) rfl fun r2 hr2=>Zz 3 ?_)
 cases r2
 ·replace hr2:=zdf hr2
  refine n_ 0 [25,26,27,28,29,30,31,32,33] zk zs (Zz 13 ?_)
  exact J_ Tryz.results138 () (f_ rfl (by have p1:=eq_true hr1;have p2:=eq_false hr2;simp only[gc_,p1,p2,if_true,if_false,decide_true,decide_false,Bool.and_true,Bool.and_false,Bool.true_and,Bool.false_and,Bool.or_true,Bool.or_false,Bool.true_or,Bool.false_or,Bool.not_true,Bool.not_false,ne_eq,not_true_eq_false,not_false_eq_true,true_and,and_true,false_and,and_false,true_or,or_true,false_or,or_false,ite_true,ite_false,Bool.false_eq_true])) g_ zt
 replace hr2:=zdt hr2
 refine n_ 4 [25,26,27,28,29] zk zs (Zz 6 ?_)
 refine i_ 30 rfl zk (y_ rfl rfl (q_ (bB_ f.a [33]) rfl g_ zt rfl fun _=>Zz 3 ?_))
 refine n_ 0 [31,32,33] zk zs (aC_ rfl rfl rfl (Y_ (p:=f) (q:=(M_ f.a [33])) rfl rfl) rfl fun r3 hr3=>Zz 6 ?_)
 exact J_ Tryz.results138 () (f_ rfl (by have p1:=eq_true hr1;have p2:=eq_true hr2;rw[← hr3];simp only[gc_,p1,p2,if_true,if_false,decide_true,decide_false,Bool.and_true,Bool.and_false,Bool.true_and,Bool.false_and,Bool.or_true,Bool.or_false,Bool.true_or,Bool.false_or,Bool.not_true,Bool.not_false,ne_eq,not_true_eq_false,not_false_eq_true,true_and,and_true,false_and,and_false,true_or,or_true,false_or,or_false,ite_true,ite_false,Bool.false_eq_true])) g_ zt
set_option maxHeartbeats 1000000 in
theorem rI_ (kn:Str→Bool) (q:List Str) (hkn:∀ s,kn s=true↔s∈q) (es:Array MapEntry) (ec:Nat) (hE:SetE str es q) (vb ab:Nat) (pv fv:Value) (x:Pc) (f:Fc) (lad:Option Addr) (lcap:Nat):Tri Tryz.prog 139 #[.agg #[zp_ vb 0,.int .i64 f.kind,str f.a,str f.b,str f.r,.int .i64 f.lo,.int .i64 f.hi,.slice lad (List.length ([]:List Fc)) lcap,.int .i64 x.kind,str x.a,str x.b,str x.c,str x.r,str x.s,str x.t,.int .i64 x.lo,.int .i64 x.hi,.int .i64 x.frm]] [] [by_ vb (.cells (dx_ pv ab fv).toArray 83 (0,0)),by_ ab (.map es ec),at_ lad (List.flatMap Fc.cells ([]:List Fc))] (fun _:Unit=>.bool (er_ kn x f zfc zfc)) (fun _=>[]) (fun _=>[]):=by
 refine t_ Tryz.func139 rfl rfl Tryz.ntmps139 rfl fun v0=>?_
 refine Zz 2 ?_
 refine ag_ rfl rfl fun b1=>Zz 5 ?_
 refine n_ 15 [0,1,2,3,4,5,6,7,8,9] zk zs (Zz 8 ?_)
 refine cj_ rfl (iV_ hkn (dL_ (k:=f.a) lN_ fD_ cw_ rfl rfl hE (fun v _ h=>(by exact h.2.1:(by_ ab (.map es ec)).p v).2))) rfl fun r1 hr1=>Zz 2 ?_
 cases r1
 ·refine n_ 0 [10,11,12,13,14,15,16,17,18,19,20,21,22,23,24] zk zs (Zz 19 ?_)
  exact J_ Tryz.results139 () (f_ rfl (by simp only[er_,hr1,if_true,if_false,decide_true,decide_false,Bool.and_true,Bool.and_false,Bool.true_and,Bool.false_and,Bool.or_true,Bool.or_false,Bool.true_or,Bool.false_or,Bool.not_true,Bool.not_false,ne_eq,not_true_eq_false,not_false_eq_true,true_and,and_true,false_and,and_false,true_or,or_true,false_or,or_false,ite_true,ite_false,Bool.false_eq_true])) g_ zt
 refine n_ 4 [10,11,12,13,14,15,16,17,18,19,20] zk zs (Zz 12 ?_)
 refine i_ 21 rfl zk (y_ rfl rfl (q_ (eT_ f.a x.r f.a) rfl g_ zt rfl fun _=>Zz 3 ?_))
 refine n_ 0 [22,23,24] zk zs (aC_ rfl rfl rfl (Y_ (p:=f) (q:=(ah_ f.a x.r f.a)) rfl rfl) rfl fun r2 hr2=>Zz 6 ?_)
 exact J_ Tryz.results139 () (f_ rfl (by rw[← hr2];simp only[er_,hr1,if_true,if_false,decide_true,decide_false,Bool.and_true,Bool.and_false,Bool.true_and,Bool.false_and,Bool.or_true,Bool.or_false,Bool.true_or,Bool.false_or,Bool.not_true,Bool.not_false,ne_eq,not_true_eq_false,not_false_eq_true,true_and,and_true,false_and,and_false,true_or,or_true,false_or,or_false,ite_true,ite_false,Bool.false_eq_true])) g_ zt
set_option maxHeartbeats 1000000 in
theorem rH_ (kn:Str→Bool) (q:List Str) (hkn:∀ s,kn s=true↔s∈q) (es:Array MapEntry) (ec:Nat) (hE:SetE str es q) (vb ab:Nat) (pv fv:Value) (x:Pc) (f ga:Fc) (lad:Option Addr) (lcap:Nat):Tri Tryz.prog 140 #[.agg #[zp_ vb 0,.int .i64 f.kind,str f.a,str f.b,str f.r,.int .i64 f.lo,.int .i64 f.hi,.slice lad (List.length [ga]) lcap,.int .i64 x.kind,str x.a,str x.b,str x.c,str x.r,str x.s,str x.t,.int .i64 x.lo,.int .i64 x.hi,.int .i64 x.frm]] [] [by_ vb (.cells (dx_ pv ab fv).toArray 83 (0,0)),by_ ab (.map es ec),at_ lad (List.flatMap Fc.cells [ga])] (fun _:Unit=>.bool (eq_ kn x f ga zfc)) (fun _=>[]) (fun _=>[]):=by
 refine t_ Tryz.func140 rfl rfl Tryz.ntmps140 rfl fun v0=>?_
 refine Zz 2 ?_
 refine ag_ rfl rfl fun b1=>Zz 5 ?_
 refine n_ 21 [0,1,2,3,4,5,6,7,8,9] zk zs (Zz 2 ?_)
 refine Z_ rfl (X_ E_ x_ rfl rfl (fun v _ h=>I_ (n:=6) Fc.cells_len (by decide) (by exact h.2.2.1) (show [ga][0]? = some _ from rfl)) (by omega) (by first|omega|(simp;done))) rfl ?_
 refine Z_ rfl (aA_ (ad:=lad) (us:=Fc.cells ga) aI_ x_ rfl zf (Fc.cells_len _) (G_ Fc.cells_len (show [ga][0]? = some _ from rfl))) rfl (Zz 7 ?_)
 refine i_ 10 rfl zk (q_ (bB_ f.a x.a) rfl g_ zt rfl fun _=>Zz 3 ?_)
 refine n_ 18 [11,12] zk zs (cj_ rfl (Y_ (p:=ga) (q:=(M_ f.a x.a)) rfl rfl) rfl fun r1 hr1=>Zz 2 ?_)
 cases r1
 ·replace hr1:=zdf hr1
  refine n_ 0 [13,14,15,16,17,18,19,20,21,22,23,24,25,26,27,28,29,30] zk zs (Zz 22 ?_)
  exact J_ Tryz.results140 () (f_ rfl (by have p1:=eq_false hr1;simp only[eq_,p1,if_true,if_false,decide_true,decide_false,Bool.and_true,Bool.and_false,Bool.true_and,Bool.false_and,Bool.or_true,Bool.or_false,Bool.true_or,Bool.false_or,Bool.not_true,Bool.not_false,ne_eq,not_true_eq_false,not_false_eq_true,true_and,and_true,false_and,and_false,true_or,or_true,false_or,or_false,ite_true,ite_false,Bool.false_eq_true])) g_ zt
 replace hr1:=zdt hr1
 refine n_ 4 [13,14,15,16,17,18,19,20,21,22,23,24,25,26] zk zs (Zz 15 ?_)
 refine i_ 27 rfl zk (y_ rfl rfl (q_ (fo_ f.a x.r x.lo x.hi) rfl g_ zt rfl fun _=>Zz 3 ?_))
 refine n_ 0 [28,29,30] zk zs (aC_ rfl rfl rfl (Y_ (p:=f) (q:=(D_ f.a x.r x.lo x.hi)) rfl rfl) rfl fun r2 hr2=>Zz 6 ?_)
 exact J_ Tryz.results140 () (f_ rfl (by have p1:=eq_true hr1;rw[← hr2];simp only[eq_,p1,if_true,if_false,decide_true,decide_false,Bool.and_true,Bool.and_false,Bool.true_and,Bool.false_and,Bool.or_true,Bool.or_false,Bool.true_or,Bool.false_or,Bool.not_true,Bool.not_false,ne_eq,not_true_eq_false,not_false_eq_true,true_and,and_true,false_and,and_false,true_or,or_true,false_or,or_false,ite_true,ite_false,Bool.false_eq_true])) g_ zt
set_option maxHeartbeats 1000000 in
theorem rD_ (kn:Str→Bool) (q:List Str) (hkn:∀ s,kn s=true↔s∈q) (es:Array MapEntry) (ec:Nat) (hE:SetE str es q) (vb ab:Nat) (pv fv:Value) (x:Pc) (f ga:Fc) (lad:Option Addr) (lcap:Nat):Tri Tryz.prog 144 #[.agg #[zp_ vb 0,.int .i64 f.kind,str f.a,str f.b,str f.r,.int .i64 f.lo,.int .i64 f.hi,.slice lad (List.length [ga]) lcap,.int .i64 x.kind,str x.a,str x.b,str x.c,str x.r,str x.s,str x.t,.int .i64 x.lo,.int .i64 x.hi,.int .i64 x.frm]] [] [by_ vb (.cells (dx_ pv ab fv).toArray 83 (0,0)),by_ ab (.map es ec),at_ lad (List.flatMap Fc.cells [ga])] (fun _:Unit=>.bool (eF_ kn x f ga zfc)) (fun _=>[]) (fun _=>[]):=by
  refine t_ Tryz.func144 rfl rfl Tryz.ntmps144 rfl fun v0=>?_
  refine Zz 2 ?_
  refine ag_ rfl rfl fun b1=>Zz 5 ?_
  refine n_ 3 [0,1,2,3,4,5,6] zk zs (Zz 2 ?_)
  refine Z_ rfl (X_ E_ x_ rfl rfl (fun v _ h=>I_ (n:=6) Fc.cells_len (by decide) (by exact h.2.2.1) (show [ga][0]? = some _ from rfl)) (by omega) (by first|omega|(simp;done))) rfl ?_
  refine Z_ rfl (aA_ (ad:=lad) (us:=Fc.cells ga) aI_ x_ rfl zf (Fc.cells_len _) (G_ Fc.cells_len (show [ga][0]? = some _ from rfl))) rfl (Zz 4 ?_)
  refine i_ 7 rfl zk (q_ (bB_ f.a [33]) rfl g_ zt rfl fun _=>Zz 3 ?_)
  refine n_ 0 [8,9] zk zs (cj_ rfl (Y_ (p:=ga) (q:=(M_ f.a [33])) rfl rfl) rfl fun r1 hr1=>Zz 5 ?_)
  exact J_ Tryz.results144 () (f_ rfl (by rw[← hr1];simp only[eF_,if_true,if_false,decide_true,decide_false,Bool.and_true,Bool.and_false,Bool.true_and,Bool.false_and,Bool.or_true,Bool.or_false,Bool.true_or,Bool.false_or,Bool.not_true,Bool.not_false,ne_eq,not_true_eq_false,not_false_eq_true,true_and,and_true,false_and,and_false,true_or,or_true,false_or,or_false,ite_true,ite_false,Bool.false_eq_true])) g_ zt
end Go.Proofs.YtaffcjgphlhppaaGreatDoor
namespace Go.Proofs.YtaffcjgphlhppaaGreatDoor
open Go Go.Sx Go.Proofs
attribute [local irreducible] Code.wp wpList wpAnyH
open Go.Vs
theorem oU_:hy_ Tryz.prog 243 [(0,1)] [.nilFunc]:=⟨_,Tryz.zeroValue243,cs_,fun w=>by simp[Tryz.sizeOf241]⟩
theorem ivG_c (a b:Int):Fn0 Tryz.prog 242 #[.int .i64 a,.int .i64 b] (.bool (decide (b<a))):=by
  refine t_ Tryz.func242 rfl rfl Tryz.ntmps242 rfl fun v0=>?_
  refine Zz 9 ?_
  refine O_ (dl_ rfl rfl) rfl fun r1 hr1=>Zz 4 ?_
  exact J_ Tryz.results242 () (f_ rfl (hr1).symm) g_ zt
theorem ivL_c (a b:Int):Fn0 Tryz.prog 243 #[.int .i64 a,.int .i64 b] (.bool (decide (a<b))):=by
  refine t_ Tryz.func243 rfl rfl Tryz.ntmps243 rfl fun v0=>?_
  refine Zz 9 ?_
  refine O_ (db_ rfl rfl) rfl fun r1 hr1=>Zz 4 ?_
  exact J_ Tryz.results243 () (f_ rfl (hr1).symm) g_ zt
theorem ivGr_c:Fn0 Tryz.prog 209 #[] (.agg #[.func (.func 242) #[] #[]]):=by
  refine t_ Tryz.func209 rfl rfl Tryz.ntmps209 rfl fun v0=>?_
  refine Zz 2 ?_
  refine C_ Tryz.zeroValue243 rfl fun b1=>Zz 4 ?_
  refine d_ (K_ oU_ rfl rfl) rfl (w_ 0 Tryz.sizeOf243 rfl rfl rfl rfl rfl rfl (Zz 3 ?_))
  exact ej_ () (fun aa v h1 h2=>cd_ (us:=[.func (.func 242) #[] #[]]) 0 Tryz.results209 Tryz.isAgg243 Tryz.sizeOf243 rfl rfl rfl aa v h1 h2) g_ zt
theorem ivLe_c:Fn0 Tryz.prog 211 #[] (.agg #[.func (.func 243) #[] #[]]):=by
  refine t_ Tryz.func211 rfl rfl Tryz.ntmps211 rfl fun v0=>?_
  refine Zz 2 ?_
  refine C_ Tryz.zeroValue243 rfl fun b1=>Zz 4 ?_
  refine d_ (K_ oU_ rfl rfl) rfl (w_ 0 Tryz.sizeOf243 rfl rfl rfl rfl rfl rfl (Zz 3 ?_))
  exact ej_ () (fun aa v h1 h2=>cd_ (us:=[.func (.func 243) #[] #[]]) 0 Tryz.results211 Tryz.isAgg243 Tryz.sizeOf243 rfl rfl rfl aa v h1 h2) g_ zt
theorem tr_ (a b:Int):Fn0 Tryz.prog 210 #[.agg #[.func (.func 242) #[] #[]],.int .i64 a,.int .i64 b] (.int .i64 (max a b)):=by
 refine t_ Tryz.func210 rfl rfl Tryz.ntmps210 rfl fun v0=>?_
 refine Zz 2 ?_
 refine ag_ rfl rfl fun b1=>Zz 10 ?_
 refine bP_ (ivG_c a b) rfl rfl g_ zt rfl fun r1 hr1=>Zz 2 ?_
 cases r1
 ·replace hr1:=zdf hr1
  refine Zz 10 ?_
  exact J_ Tryz.results210 () (au_ rfl (by omega)) g_ zt
 replace hr1:=zdt hr1
 refine Zz 8 ?_
 exact J_ Tryz.results210 () (au_ rfl (by omega)) g_ zt
theorem tq_ (a b:Int):Fn0 Tryz.prog 210 #[.agg #[.func (.func 243) #[] #[]],.int .i64 a,.int .i64 b] (.int .i64 (min a b)):=by
 refine t_ Tryz.func210 rfl rfl Tryz.ntmps210 rfl fun v0=>?_
 refine Zz 2 ?_
 refine ag_ rfl rfl fun b1=>Zz 10 ?_
 refine bP_ (ivL_c a b) rfl rfl g_ zt rfl fun r1 hr1=>Zz 2 ?_
 cases r1
 ·replace hr1:=zdf hr1
  refine Zz 10 ?_
  exact J_ Tryz.results210 () (au_ rfl (by omega)) g_ zt
 replace hr1:=zdt hr1
 refine Zz 8 ?_
 exact J_ Tryz.results210 () (au_ rfl (by omega)) g_ zt
def rN_ (i:Int×Int):Prop:=-1099511627776≤i.1∧i.1≤i.2∧i.2≤1099511627776
theorem qc_ {a b:Int×Int} (ha:rN_ a) (hb:rN_ b):fi_ [a,b]=0:=by
  have e:∀ i:Int×Int,rN_ i→eU_ i=0:=fun i h=>by
    obtain⟨h1,h2,h3⟩:=h
    unfold eU_;rw[if_neg (by omega),if_neg (by omega)]
  simp[fi_,ig_,e a ha,e b hb]
def fK_ (i j:Int×Int):(Int×Int)×Int:=if max i.1 j.1≤min i.2 j.2 then ((max i.1 j.1,min i.2 j.2),0) else ((0,0),80)
theorem rn_ {P:Program} {N:Nat} {fr:Fr} {H:Hp} {fn:Func} {t s b n:Nat} {ty T:TypeId} {us:List Value} {u:Value} (i:Nat) (hr:fn.results=#[.cell t ty,.tmp s]) (ha:∀ w,(isAgg ty).run P w=.ok true w) (hs:∀ w,(sizeOf ty).run P w=.ok n w) (hn:us.length=n) (hx:Fr.get fr t=some (zp_ b 0)) (hu:Fr.get fr s=some u)
    (hi:H[i]? = some (b,.cells us.toArray T (0,0))) (a:Act) (v:Vw) (h1:Fr.sat N fr a) (h2:v.sat H):(results fn a.tmps).run P v.w=.ok (.tuple #[.agg us.toArray,u]) v.w:=by
  have e:=h1.val t _ hx
  have e':=h1.val s _ hu
  have hl:=cl_ (t:=ty) (w:=v.w) (b:=b) (off:=0) ha hs hn (fun j y hj=>by rw[Nat.zero_add,fb_ h2 hi];simpa using hj)
  simp[results,hr,e,e',asAddr,hl]
theorem iL_ (i j:Int×Int) (hi:rN_ i) (hj:rN_ j):Tri Tryz.prog 182 #[ivV i,ivV j] [] [] (fun y:{y:(Int×Int)×Int // y=fK_ i j}=>.tuple #[ivV y.1.1,.int .i64 y.1.2]) (fun _=>[]) (fun _=>[]):=by
 refine t_ Tryz.func182 rfl rfl Tryz.ntmps182 rfl fun v0=>?_
 refine Zz 2 ?_
 refine ag_ rfl rfl fun b1=>ag_ rfl rfl fun b2=>C_ ae_ rfl fun b3=>Zz 8 ?_
 refine ap_ bK_ T_ ae_ rfl rfl rfl rfl rfl rfl fun b4=>?_
 refine bu_ (List.flatMap ivC [i,j]) e_ rfl ?_
 refine q_ (pj_ [i,j] (some ⟨b4,0,none⟩) 2 (by simp)) rfl g_ zf rfl fun _=>Zi 6 (fun hr1=>?_) fun hr1=>?_
 ·refine Zz 6 ?_
  refine ax_ ((b2,.cells #[.int .i64 (Prod.fst j),.int .i64 (Prod.snd j)] 196 (0,0))::((b1,.cells #[.int .i64 (Prod.fst i),.int .i64 (Prod.snd i)] 196 (0,0))::[])) zk ?_
  refine n_ 6 [1,2,3,4,7,8,9,10] zk zs (Zz 9 ?_)
  refine i_ 0 rfl zk (q_ (ivGr_c) rfl g_ zt rfl fun _=>Zz 3 ?_)
  refine i_ 5 rfl zk (q_ (tr_ (Prod.fst i) (Prod.fst j)) rfl g_ zt rfl fun _=>Zz 3 ?_)
  refine i_ 6 rfl zk (q_ (ivLe_c) rfl g_ zt rfl fun _=>Zz 3 ?_)
  refine i_ 11 rfl zk (q_ (tq_ (Prod.snd i) (Prod.snd j)) rfl g_ zt rfl fun _=>Zz 3 ?_)
  refine n_ 1 [12] zk zs (Z_ rfl (K_ fl_ rfl rfl) rfl (dB_ (i_ 13 rfl zk (w_ 0 T_ rfl rfl rfl rfl rfl rfl (Zi 12 (fun hr2=>?_) fun hr2=>?_)))))
  ·refine Zz 8 ?_
   refine w_ 0 T_ rfl rfl rfl rfl rfl rfl (Zz 4 ?_)
   have hz:fK_ i j=(((max (Prod.fst i) (Prod.fst j)),(min (Prod.snd i) (Prod.snd j))),0):=by unfold fK_;first|rw[if_pos (by omega)]|rw[if_neg (by omega)]
   exact ej_ ⟨fK_ i j,rfl⟩ (fun aa v h1 h2=>by rw[hz];exact rn_ 0 Tryz.results182 il_ T_ rfl rfl rfl rfl aa v h1 h2) g_ zt
  refine Zz 5 ?_
  refine d_ (K_ fl_ rfl rfl) rfl (w_ 0 T_ rfl rfl rfl rfl rfl rfl (Zz 4 ?_))
  have hz:fK_ i j=((0,0),80):=by unfold fK_;first|rw[if_pos (by omega)]|rw[if_neg (by omega)]
  exact ej_ ⟨fK_ i j,rfl⟩ (fun aa v h1 h2=>by rw[hz];exact rn_ 0 Tryz.results182 il_ T_ rfl rfl rfl rfl aa v h1 h2) g_ zt
 exfalso;exact hr1 (qc_ hi hj)
theorem lM_ (feat:Str) (kn:Str→Bool) (q:List Str) (hkn:∀ s,kn s=true↔s∈q) (es:Array MapEntry) (ec:Nat) (hE:SetE str es q) (vb ab:Nat) (pv fv:Value) (x:Pc) (f ga:Fc) (lad:Option Addr) (lcap:Nat):TriX Tryz.prog 183 #[.agg #[zp_ vb 0,.int .i64 f.kind,str f.a,str f.b,str f.r,.int .i64 f.lo,.int .i64 f.hi,.slice lad (List.length [ga]) lcap,.int .i64 x.kind,str x.a,str x.b,str x.c,str x.r,str x.s,str x.t,.int .i64 x.lo,.int .i64 x.hi,.int .i64 x.frm],.int .i64 0,str feat] [] [by_ vb (.cells (dx_ pv ab fv).toArray 83 (0,0)),by_ ab (.map es ec),at_ lad (List.flatMap Fc.cells [ga])] (fun _:{u:Unit // ga=D_ f.a feat ga.lo ga.hi}=>.agg #[.int .i64 ga.lo,.int .i64 ga.hi]) (fun _=>[]) (fun _=>[]) (¬ ga=D_ f.a feat ga.lo ga.hi):=by
  refine bc_ Tryz.func183 rfl rfl Tryz.ntmps183 rfl fun v0=>?_
  refine Zz 2 ?_
  refine ag_ rfl rfl fun b1=>C_ ae_ rfl fun b2=>Zz 7 ?_
  refine d_ (X_ E_ x_ rfl rfl (fun v _ h=>I_ (n:=6) Fc.cells_len (by decide) (by exact h.2.2.1) (show [ga][0]? = some _ from rfl)) (by omega) (by first|omega|(simp;done))) rfl ?_
  refine d_ (aA_ (ad:=lad) (us:=Fc.cells ga) aI_ x_ rfl zf (Fc.cells_len _) (G_ Fc.cells_len (show [ga][0]? = some _ from rfl))) rfl (C_ ad_ rfl fun b3=>w_ 0 x_ rfl rfl rfl rfl rfl rfl (Zz 4 ?_))
  refine n_ 3 [0,1,2,3,4,5,6,7,8] zk zs (Zz 10 ?_)
  refine i_ 9 rfl zk (q_ (fo_ f.a feat ga.lo ga.hi) rfl g_ zt rfl fun _=>Zz 3 ?_)
  refine n_ 1 [10] zk zs (cj_ rfl (Y_ (p:=ga) (q:=(D_ f.a feat ga.lo ga.hi)) rfl rfl) rfl fun r1 hr1=>dB_ (i_ 11 rfl zk ?_))
  refine aa_ (dI_ r1) rfl g_ zt rfl (fun hb=>cF_ ((by rw[hb]at hr1;exact of_decide_eq_false hr1))) fun⟨_,hn1⟩=>?_
  try dsimp only
  have hspn:ga=D_ f.a feat ga.lo ga.hi:=of_decide_eq_true (hr1.trans hn1)
  refine Zz 11 ?_
  refine d_ (K_ fl_ rfl rfl) rfl (w_ 1 T_ rfl rfl rfl rfl rfl rfl (Zz 3 ?_))
  refine cf_ ?_
  exact ej_ ⟨(),hspn⟩ (fun aa v h1 h2=>cd_ (us:=[_,_]) 1 Tryz.results183 il_ T_ rfl rfl rfl aa v h1 h2) g_ zt
theorem eR_ (feat:Str) (kn:Str→Bool) (q:List Str) (hkn:∀ s,kn s=true↔s∈q) (es:Array MapEntry) (ec:Nat) (hE:SetE str es q) (vb ab:Nat) (pv fv:Value) (x:Pc) (f ga gb:Fc) (lad:Option Addr) (lcap:Nat):TriX Tryz.prog 183 #[.agg #[zp_ vb 0,.int .i64 f.kind,str f.a,str f.b,str f.r,.int .i64 f.lo,.int .i64 f.hi,.slice lad (List.length [ga,gb]) lcap,.int .i64 x.kind,str x.a,str x.b,str x.c,str x.r,str x.s,str x.t,.int .i64 x.lo,.int .i64 x.hi,.int .i64 x.frm],.int .i64 0,str feat] [] [by_ vb (.cells (dx_ pv ab fv).toArray 83 (0,0)),by_ ab (.map es ec),at_ lad (List.flatMap Fc.cells [ga,gb])] (fun _:{u:Unit // ga=D_ f.a feat ga.lo ga.hi}=>.agg #[.int .i64 ga.lo,.int .i64 ga.hi]) (fun _=>[]) (fun _=>[]) (¬ ga=D_ f.a feat ga.lo ga.hi):=by
  refine bc_ Tryz.func183 rfl rfl Tryz.ntmps183 rfl fun v0=>?_
  refine Zz 2 ?_
  refine ag_ rfl rfl fun b1=>C_ ae_ rfl fun b2=>Zz 7 ?_
  refine d_ (X_ E_ x_ rfl rfl (fun v _ h=>I_ (n:=6) Fc.cells_len (by decide) (by exact h.2.2.1) (show [ga,gb][0]? = some _ from rfl)) (by omega) (by first|omega|(simp;done))) rfl ?_
  refine d_ (aA_ (ad:=lad) (us:=Fc.cells ga) aI_ x_ rfl zf (Fc.cells_len _) (G_ Fc.cells_len (show [ga,gb][0]? = some _ from rfl))) rfl (C_ ad_ rfl fun b3=>w_ 0 x_ rfl rfl rfl rfl rfl rfl (Zz 4 ?_))
  refine n_ 3 [0,1,2,3,4,5,6,7,8] zk zs (Zz 10 ?_)
  refine i_ 9 rfl zk (q_ (fo_ f.a feat ga.lo ga.hi) rfl g_ zt rfl fun _=>Zz 3 ?_)
  refine n_ 1 [10] zk zs (cj_ rfl (Y_ (p:=ga) (q:=(D_ f.a feat ga.lo ga.hi)) rfl rfl) rfl fun r1 hr1=>dB_ (i_ 11 rfl zk ?_))
  refine aa_ (dI_ r1) rfl g_ zt rfl (fun hb=>cF_ ((by rw[hb]at hr1;exact of_decide_eq_false hr1))) fun⟨_,hn1⟩=>?_
  try dsimp only
  have hspn:ga=D_ f.a feat ga.lo ga.hi:=of_decide_eq_true (hr1.trans hn1)
  refine Zz 11 ?_
  refine d_ (K_ fl_ rfl rfl) rfl (w_ 1 T_ rfl rfl rfl rfl rfl rfl (Zz 3 ?_))
  refine cf_ ?_
  exact ej_ ⟨(),hspn⟩ (fun aa v h1 h2=>cd_ (us:=[_,_]) 1 Tryz.results183 il_ T_ rfl rfl rfl aa v h1 h2) g_ zt
theorem cC_ (feat:Str) (kn:Str→Bool) (q:List Str) (hkn:∀ s,kn s=true↔s∈q) (es:Array MapEntry) (ec:Nat) (hE:SetE str es q) (vb ab:Nat) (pv fv:Value) (x:Pc) (f ga gb:Fc) (lad:Option Addr) (lcap:Nat):TriX Tryz.prog 183 #[.agg #[zp_ vb 0,.int .i64 f.kind,str f.a,str f.b,str f.r,.int .i64 f.lo,.int .i64 f.hi,.slice lad (List.length [ga,gb]) lcap,.int .i64 x.kind,str x.a,str x.b,str x.c,str x.r,str x.s,str x.t,.int .i64 x.lo,.int .i64 x.hi,.int .i64 x.frm],.int .i64 1,str feat] [] [by_ vb (.cells (dx_ pv ab fv).toArray 83 (0,0)),by_ ab (.map es ec),at_ lad (List.flatMap Fc.cells [ga,gb])] (fun _:{u:Unit // gb=D_ f.a feat gb.lo gb.hi}=>.agg #[.int .i64 gb.lo,.int .i64 gb.hi]) (fun _=>[]) (fun _=>[]) (¬ gb=D_ f.a feat gb.lo gb.hi):=by
  refine bc_ Tryz.func183 rfl rfl Tryz.ntmps183 rfl fun v0=>?_
  refine Zz 2 ?_
  refine ag_ rfl rfl fun b1=>C_ ae_ rfl fun b2=>Zz 7 ?_
  refine d_ (X_ E_ x_ rfl rfl (fun v _ h=>I_ (n:=6) Fc.cells_len (by decide) (by exact h.2.2.1) (show [ga,gb][1]? = some _ from rfl)) (by omega) (by first|omega|(simp;done))) rfl ?_
  refine d_ (aA_ (ad:=lad) (us:=Fc.cells gb) aI_ x_ rfl zf (Fc.cells_len _) (G_ Fc.cells_len (show [ga,gb][1]? = some _ from rfl))) rfl (C_ ad_ rfl fun b3=>w_ 0 x_ rfl rfl rfl rfl rfl rfl (Zz 4 ?_))
  refine n_ 3 [0,1,2,3,4,5,6,7,8] zk zs (Zz 10 ?_)
  refine i_ 9 rfl zk (q_ (fo_ f.a feat gb.lo gb.hi) rfl g_ zt rfl fun _=>Zz 3 ?_)
  refine n_ 1 [10] zk zs (cj_ rfl (Y_ (p:=gb) (q:=(D_ f.a feat gb.lo gb.hi)) rfl rfl) rfl fun r1 hr1=>dB_ (i_ 11 rfl zk ?_))
  refine aa_ (dI_ r1) rfl g_ zt rfl (fun hb=>cF_ ((by rw[hb]at hr1;exact of_decide_eq_false hr1))) fun⟨_,hn1⟩=>?_
  try dsimp only
  have hspn:gb=D_ f.a feat gb.lo gb.hi:=of_decide_eq_true (hr1.trans hn1)
  refine Zz 11 ?_
  refine d_ (K_ fl_ rfl rfl) rfl (w_ 1 T_ rfl rfl rfl rfl rfl rfl (Zz 3 ?_))
  refine cf_ ?_
  exact ej_ ⟨(),hspn⟩ (fun aa v h1 h2=>cd_ (us:=[_,_]) 1 Tryz.results183 il_ T_ rfl rfl rfl aa v h1 h2) g_ zt
end Go.Proofs.YtaffcjgphlhppaaGreatDoor
