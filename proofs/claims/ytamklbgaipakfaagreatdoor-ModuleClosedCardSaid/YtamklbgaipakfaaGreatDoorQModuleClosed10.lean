/-
  Part of the proof of the law ModuleClosed over this seat: the small logic, the data, the contracts of functions (no condition).
-/
import Derived.Test.YtamklbgaipakfaaGreatDoorQModuleClosed9
import Derived.Test.YtamklbgaipakfaaGreatDoorQModuleClosed8
import Derived.Test.YtamklbgaipakfaaGreatDoorQModuleClosed6
set_option linter.unusedVariables false
set_option linter.unusedSimpArgs false
set_option linter.unusedSectionVars false
set_option maxHeartbeats 1000000
namespace Go.Proofs.YtamklbgaipakfaaGreatDoor
open Go Go.Sx Go.Proofs
attribute [local irreducible] Code.wp wpList wpAnyH
open Go.Vs
theorem fc_ {α β:Type} {g:α→β} {l:List α} {i:Nat} {x:α} (h:l[i]? = some x):List.map g (List.take (i+1) l)=List.map g (List.take i l)++[g x]:=by
  rw[List.take_add_one,h,Option.toList_some,List.map_append];rfl
theorem gg_ (a b:Str):Fn0 Tryz.prog 138 #[str a,str b] (Fc.val (ap_ a b)):=by
  refine l_ Tryz.func138 rfl rfl Tryz.ntmps138 rfl fun v0=>?_
  refine Zz 2 ?_
  refine F_ aP_ rfl fun b1=>Zz 6 ?_
  refine d_ (u_ la_ rfl rfl) rfl (w_ 0 ay_ rfl rfl rfl rfl rfl rfl (Zz 3 ?_))
  exact fw_ () (fun aa v h1 h2=>dM_ (us:=Fc.cells (ap_ a b)) 0 Tryz.results138 gf_ ay_ rfl rfl rfl aa v h1 h2) g_ zt
theorem lz_ (a r b:Str):Fn0 Tryz.prog 139 #[str a,str r,str b] (Fc.val (aA_ a r b)):=by
  refine l_ Tryz.func139 rfl rfl Tryz.ntmps139 rfl fun v0=>?_
  refine Zz 2 ?_
  refine F_ aP_ rfl fun b1=>Zz 7 ?_
  refine d_ (u_ la_ rfl rfl) rfl (w_ 0 ay_ rfl rfl rfl rfl rfl rfl (Zz 3 ?_))
  exact fw_ () (fun aa v h1 h2=>dM_ (us:=Fc.cells (aA_ a r b)) 0 Tryz.results139 gf_ ay_ rfl rfl rfl aa v h1 h2) g_ zt
theorem pL_ (a r:Str) (lo hi:Int):Fn0 Tryz.prog 212 #[str a,str r,.int .i64 lo,.int .i64 hi] (Fc.val (ak_ a r lo hi)):=by
  refine l_ Tryz.func212 rfl rfl Tryz.ntmps212 rfl fun v0=>?_
  refine Zz 2 ?_
  refine F_ aP_ rfl fun b1=>Zz 8 ?_
  refine d_ (u_ la_ rfl rfl) rfl (w_ 0 ay_ rfl rfl rfl rfl rfl rfl (Zz 3 ?_))
  exact fw_ () (fun aa v h1 h2=>dM_ (us:=Fc.cells (ak_ a r lo hi)) 0 Tryz.results212 gf_ ay_ rfl rfl rfl aa v h1 h2) g_ zt
theorem sD_ (B:EngB) (E:Emt Tryz.prog 67) (A:EngA) (pm:List (Ky×Pc)) (x:Ix) (f:Fc) (nw fm:List Fc) (Hs:Hp) (hS:E.St nw fm Hs) (hpl:∀ k,(lat pm k).length≤1000000000) (hxl:∀ k,(lat x.above k).length≤1000000000∧(lat x.under k).length≤1000000000) (hyl:∀ k,(lat x.frm k).length≤1000000000∧(lat x.into k).length≤1000000000∧(lat x.ranges k).length≤1000000000∧(lat x.firms k).length≤1000000000):Tri Tryz.prog 140 #[zp_ B.g 0,Fc.val f] Hs [gF B E,pF B pm A,aF B x A,uF B x A,oF B x A,iF B x A,rF B x A,sF B x A,E.ef] (fun _:{H':Hp // E.St (emits E.stp (gP_ pm f) nw) fm H'}=>.tuple #[]) (fun y=>y.1) (fun _=>[]):=by
 refine l_ Tryz.func140 rfl rfl Tryz.ntmps140 rfl fun v0=>?_
 refine Zz 2 ?_
 refine O_ rfl rfl fun b1=>Zz 4 ?_
 refine t_ 0 [0,1,2,3,4,5,6,7,8,9] zk zs (Zz 6 ?_)
 refine T_ rfl (u_ eS_ rfl rfl) rfl (T_ rfl (bT_ (k:=(Ky.mk 1 [] f.b)) (adr:=A.p) ht_ bH_ ct_ rfl rfl zf) rfl (Zz 6 ?_))
 refine ab_ (ι:={y:Nat×Hp // y.1≤List.length (lat pm (Ky.mk 1 [] f.b))∧E.St (emits E.stp (List.map (fun y=>ap_ f.a y.c) (List.take y.1 (lat pm (Ky.mk 1 [] f.b)))) nw) fm y.2}) (fun y=>[(0,zp_ B.g 0),(3,zp_ b1 0),(13,.slice (Prod.fst (A.p (Ky.mk 1 [] f.b))) (List.length (lat pm (Ky.mk 1 [] f.b))) (Prod.snd (A.p (Ky.mk 1 [] f.b)))),(14,.int .i64 (List.length (lat pm (Ky.mk 1 [] f.b)):Int)),(15,.int .i64 (y.1.1:Int))]) (fun y=>((b1,.cells #[.int .i64 f.kind,str f.a,str f.b,str f.r,.int .i64 f.lo,.int .i64 f.hi] 67 (0,0))::y.1.2)) (fun y=>[gF B E,pF B pm A,aF B x A,uF B x A,oF B x A,iF B x A,rF B x A,sF B x A,E.ef]) (fun y=>List.length (lat pm (Ky.mk 1 [] f.b)) - y.1.1) ⟨((0:Nat),Hs),by simp,by exact hS⟩ zl zp zh ?_
 rintro ⟨⟨i,Hs_i⟩,hi_i,hS_i⟩
 dsimp only at hi_i hS_i ⊢
 have hb_i:=hpl (Ky.mk 1 [] f.b)
 refine Zi 2 (fun hr1=>?_) fun hr1=>?_
 ·refine Zz 6 ?_
  exact bQ_ Tryz.results140 ⟨Hs_i,by unfold gP_;rw[List.take_of_length_le (by omega)]at hS_i;exact hS_i⟩ rfl J_ zt
 obtain⟨hlx1,x1,hx1,hmx1⟩:=zge (show i<List.length (lat pm (Ky.mk 1 [] f.b)) by omega)
 refine Zz 10 ?_
 refine d_ (M_ s_ H_ rfl rfl (fun v _ h=>A_ (n:=10) Pc.cells_len (by decide) (by exact (bj_ h.2.1 (Ky.mk 1 [] f.b))) hx1) (by omega) (by first|omega|(simp;done))) rfl ?_
 refine d_ (Z_ (ad:=(Prod.fst (A.p (Ky.mk 1 [] f.b)))) (us:=Pc.cells x1) eA_ H_ rfl (fun v _ h=>by exact (bj_ h.2.1 (Ky.mk 1 [] f.b))) (Pc.cells_len _) (x_ Pc.cells_len hx1)) rfl (F_ S_ rfl fun b2=>w_ 0 H_ rfl rfl rfl rfl rfl rfl (Zz 2 ?_))
 refine ag_ ((b2,.cells #[.int .i64 x1.kind,str x1.a,str x1.b,str x1.c,str x1.r,str x1.s,str x1.t,.int .i64 x1.lo,.int .i64 x1.hi,.int .i64 x1.frm] 58 (0,0))::((b1,.cells #[.int .i64 f.kind,str f.a,str f.b,str f.r,.int .i64 f.lo,.int .i64 f.hi] 67 (0,0))::[])) zk ?_
 refine t_ 2 [0,1,2,3,4,5,6,7] zk zs (Zz 9 ?_)
 refine j_ 8 rfl zk (f_ (gg_ f.a x1.c) rfl g_ zt rfl fun _=>Zz 3 ?_)
 refine j_ 9 rfl zk (Q_ (first:=[]) (cap:=E.caps) (E.emit (ap_ f.a x1.c) (emits E.stp (List.map (fun y=>ap_ f.a y.c) (List.take i (lat pm (Ky.mk 1 [] f.b)))) nw) fm Hs_i hS_i) rfl rfl (c_ J_) zf rfl fun⟨Hs1,hS1⟩=>?_)
 dsimp only
 refine Zz 10 ?_
 exact B_ ⟨(i+1,Hs1),hlx1,(by rw[fc_ hx1,aD_];exact hS1)⟩ (by dsimp only;omega) zl zp zh
theorem some_c (B:EngB) (E:Emt Tryz.prog 67) (A:EngA) (pm:List (Ky×Pc)) (x:Ix) (f:Fc) (nw fm:List Fc) (Hs:Hp) (hS:E.St nw fm Hs) (hpl:∀ k,(lat pm k).length≤1000000000) (hxl:∀ k,(lat x.above k).length≤1000000000∧(lat x.under k).length≤1000000000) (hyl:∀ k,(lat x.frm k).length≤1000000000∧(lat x.into k).length≤1000000000∧(lat x.ranges k).length≤1000000000∧(lat x.firms k).length≤1000000000):Tri Tryz.prog 142 #[zp_ B.g 0,Fc.val f] Hs [gF B E,pF B pm A,aF B x A,uF B x A,oF B x A,iF B x A,rF B x A,sF B x A,E.ef] (fun _:{H':Hp // E.St (emits E.stp (mp_ pm f) nw) fm H'}=>.tuple #[]) (fun y=>y.1) (fun _=>[]):=by
 refine l_ Tryz.func142 rfl rfl Tryz.ntmps142 rfl fun v0=>?_
 refine Zz 2 ?_
 refine O_ rfl rfl fun b1=>Zz 4 ?_
 refine t_ 0 [0,1,2,3,4,5,6,7,8,9] zk zs (Zz 6 ?_)
 refine T_ rfl (u_ eS_ rfl rfl) rfl (T_ rfl (bT_ (k:=(Ky.mk 3 [] f.b)) (adr:=A.p) ht_ bH_ ct_ rfl rfl zf) rfl (Zz 6 ?_))
 refine ab_ (ι:={y:Nat×Hp // y.1≤List.length (lat pm (Ky.mk 3 [] f.b))∧E.St (emits E.stp (List.map (fun y=>aA_ f.a y.r y.c) (List.take y.1 (lat pm (Ky.mk 3 [] f.b)))) nw) fm y.2}) (fun y=>[(0,zp_ B.g 0),(3,zp_ b1 0),(13,.slice (Prod.fst (A.p (Ky.mk 3 [] f.b))) (List.length (lat pm (Ky.mk 3 [] f.b))) (Prod.snd (A.p (Ky.mk 3 [] f.b)))),(14,.int .i64 (List.length (lat pm (Ky.mk 3 [] f.b)):Int)),(15,.int .i64 (y.1.1:Int))]) (fun y=>((b1,.cells #[.int .i64 f.kind,str f.a,str f.b,str f.r,.int .i64 f.lo,.int .i64 f.hi] 67 (0,0))::y.1.2)) (fun y=>[gF B E,pF B pm A,aF B x A,uF B x A,oF B x A,iF B x A,rF B x A,sF B x A,E.ef]) (fun y=>List.length (lat pm (Ky.mk 3 [] f.b)) - y.1.1) ⟨((0:Nat),Hs),by simp,by exact hS⟩ zl zp zh ?_
 rintro ⟨⟨i,Hs_i⟩,hi_i,hS_i⟩
 dsimp only at hi_i hS_i ⊢
 have hb_i:=hpl (Ky.mk 3 [] f.b)
 refine Zi 2 (fun hr1=>?_) fun hr1=>?_
 ·refine Zz 6 ?_
  exact bQ_ Tryz.results142 ⟨Hs_i,by unfold mp_;rw[List.take_of_length_le (by omega)]at hS_i;exact hS_i⟩ rfl J_ zt
 obtain⟨hlx1,x1,hx1,hmx1⟩:=zge (show i<List.length (lat pm (Ky.mk 3 [] f.b)) by omega)
 refine Zz 10 ?_
 refine d_ (M_ s_ H_ rfl rfl (fun v _ h=>A_ (n:=10) Pc.cells_len (by decide) (by exact (bj_ h.2.1 (Ky.mk 3 [] f.b))) hx1) (by omega) (by first|omega|(simp;done))) rfl ?_
 refine d_ (Z_ (ad:=(Prod.fst (A.p (Ky.mk 3 [] f.b)))) (us:=Pc.cells x1) eA_ H_ rfl (fun v _ h=>by exact (bj_ h.2.1 (Ky.mk 3 [] f.b))) (Pc.cells_len _) (x_ Pc.cells_len hx1)) rfl (F_ S_ rfl fun b2=>w_ 0 H_ rfl rfl rfl rfl rfl rfl (Zz 2 ?_))
 refine ag_ ((b2,.cells #[.int .i64 x1.kind,str x1.a,str x1.b,str x1.c,str x1.r,str x1.s,str x1.t,.int .i64 x1.lo,.int .i64 x1.hi,.int .i64 x1.frm] 58 (0,0))::((b1,.cells #[.int .i64 f.kind,str f.a,str f.b,str f.r,.int .i64 f.lo,.int .i64 f.hi] 67 (0,0))::[])) zk ?_
 refine t_ 2 [0,1,2,3,4,5,6,7,8,9] zk zs (Zz 11 ?_)
 refine j_ 10 rfl zk (f_ (lz_ f.a x1.r x1.c) rfl g_ zt rfl fun _=>Zz 3 ?_)
 refine j_ 11 rfl zk (Q_ (first:=[]) (cap:=E.caps) (E.emit (aA_ f.a x1.r x1.c) (emits E.stp (List.map (fun y=>aA_ f.a y.r y.c) (List.take i (lat pm (Ky.mk 3 [] f.b)))) nw) fm Hs_i hS_i) rfl rfl (c_ J_) zf rfl fun⟨Hs1,hS1⟩=>?_)
 dsimp only
 refine Zz 10 ?_
 exact B_ ⟨(i+1,Hs1),hlx1,(by rw[fc_ hx1,aD_];exact hS1)⟩ (by dsimp only;omega) zl zp zh
theorem sy_ (B:EngB) (E:Emt Tryz.prog 67) (A:EngA) (pm:List (Ky×Pc)) (x:Ix) (f:Fc) (nw fm:List Fc) (Hs:Hp) (hS:E.St nw fm Hs) (hpl:∀ k,(lat pm k).length≤1000000000) (hxl:∀ k,(lat x.above k).length≤1000000000∧(lat x.under k).length≤1000000000) (hyl:∀ k,(lat x.frm k).length≤1000000000∧(lat x.into k).length≤1000000000∧(lat x.ranges k).length≤1000000000∧(lat x.firms k).length≤1000000000):Tri Tryz.prog 146 #[zp_ B.g 0,Fc.val f] Hs [gF B E,pF B pm A,aF B x A,uF B x A,oF B x A,iF B x A,rF B x A,sF B x A,E.ef] (fun _:{H':Hp // E.St (emits E.stp (gL_ pm f) nw) fm H'}=>.tuple #[]) (fun y=>y.1) (fun _=>[]):=by
 refine l_ Tryz.func146 rfl rfl Tryz.ntmps146 rfl fun v0=>?_
 refine Zz 2 ?_
 refine O_ rfl rfl fun b1=>Zz 4 ?_
 refine t_ 0 [0,1,2,3,4,5,6,7,8,9] zk zs (Zz 6 ?_)
 refine T_ rfl (u_ eS_ rfl rfl) rfl (T_ rfl (bT_ (k:=(Ky.mk 5 f.r [])) (adr:=A.p) ht_ bH_ ct_ rfl rfl zf) rfl (Zz 6 ?_))
 refine ab_ (ι:={y:Nat×Hp // y.1≤List.length (lat pm (Ky.mk 5 f.r []))∧E.St (emits E.stp (List.map (fun y=>aA_ f.a y.t f.b) (List.take y.1 (lat pm (Ky.mk 5 f.r [])))) nw) fm y.2}) (fun y=>[(0,zp_ B.g 0),(3,zp_ b1 0),(13,.slice (Prod.fst (A.p (Ky.mk 5 f.r []))) (List.length (lat pm (Ky.mk 5 f.r []))) (Prod.snd (A.p (Ky.mk 5 f.r [])))),(14,.int .i64 (List.length (lat pm (Ky.mk 5 f.r [])):Int)),(15,.int .i64 (y.1.1:Int))]) (fun y=>((b1,.cells #[.int .i64 f.kind,str f.a,str f.b,str f.r,.int .i64 f.lo,.int .i64 f.hi] 67 (0,0))::y.1.2)) (fun y=>[gF B E,pF B pm A,aF B x A,uF B x A,oF B x A,iF B x A,rF B x A,sF B x A,E.ef]) (fun y=>List.length (lat pm (Ky.mk 5 f.r [])) - y.1.1) ⟨((0:Nat),Hs),by simp,by exact hS⟩ zl zp zh ?_
 rintro ⟨⟨i,Hs_i⟩,hi_i,hS_i⟩
 dsimp only at hi_i hS_i ⊢
 have hb_i:=hpl (Ky.mk 5 f.r [])
 refine Zi 2 (fun hr1=>?_) fun hr1=>?_
 ·refine Zz 6 ?_
  exact bQ_ Tryz.results146 ⟨Hs_i,by unfold gL_;rw[List.take_of_length_le (by omega)]at hS_i;exact hS_i⟩ rfl J_ zt
 obtain⟨hlx1,x1,hx1,hmx1⟩:=zge (show i<List.length (lat pm (Ky.mk 5 f.r [])) by omega)
 refine Zz 10 ?_
 refine d_ (M_ s_ H_ rfl rfl (fun v _ h=>A_ (n:=10) Pc.cells_len (by decide) (by exact (bj_ h.2.1 (Ky.mk 5 f.r []))) hx1) (by omega) (by first|omega|(simp;done))) rfl ?_
 refine d_ (Z_ (ad:=(Prod.fst (A.p (Ky.mk 5 f.r [])))) (us:=Pc.cells x1) eA_ H_ rfl (fun v _ h=>by exact (bj_ h.2.1 (Ky.mk 5 f.r []))) (Pc.cells_len _) (x_ Pc.cells_len hx1)) rfl (F_ S_ rfl fun b2=>w_ 0 H_ rfl rfl rfl rfl rfl rfl (Zz 2 ?_))
 refine ag_ ((b2,.cells #[.int .i64 x1.kind,str x1.a,str x1.b,str x1.c,str x1.r,str x1.s,str x1.t,.int .i64 x1.lo,.int .i64 x1.hi,.int .i64 x1.frm] 58 (0,0))::((b1,.cells #[.int .i64 f.kind,str f.a,str f.b,str f.r,.int .i64 f.lo,.int .i64 f.hi] 67 (0,0))::[])) zk ?_
 refine t_ 2 [0,1,2,3,4,5,6,7,8,9] zk zs (Zz 11 ?_)
 refine j_ 10 rfl zk (f_ (lz_ f.a x1.t f.b) rfl g_ zt rfl fun _=>Zz 3 ?_)
 refine j_ 11 rfl zk (Q_ (first:=[]) (cap:=E.caps) (E.emit (aA_ f.a x1.t f.b) (emits E.stp (List.map (fun y=>aA_ f.a y.t f.b) (List.take i (lat pm (Ky.mk 5 f.r [])))) nw) fm Hs_i hS_i) rfl rfl (c_ J_) zf rfl fun⟨Hs1,hS1⟩=>?_)
 dsimp only
 refine Zz 10 ?_
 exact B_ ⟨(i+1,Hs1),hlx1,(by rw[fc_ hx1,aD_];exact hS1)⟩ (by dsimp only;omega) zl zp zh
theorem gN_ {α β:Type} {g:α→List β} {l:List α} {i:Nat} {x:α} (h:l[i]? = some x):List.flatMap g (List.take (i+1) l)=List.flatMap g (List.take i l)++g x:=by
  rw[List.take_add_one,h,Option.toList_some,List.flatMap_append];simp
theorem jX_ {stp:Fc→List Fc→List Fc} {kof:List Fc→List Fc} {f:Fc} {l:List Pc} {i:Nat} {x:Pc} {s:List Fc} (h:l[i]? = some x):eB_ stp kof f (List.take (i+1) l) s=if ap_ f.a x.a∈kof (eB_ stp kof f (List.take i l) s)∧ap_ f.a x.b∈kof (eB_ stp kof f (List.take i l) s) then stp (ap_ f.a x.c) (eB_ stp kof f (List.take i l) s) else eB_ stp kof f (List.take i l) s:=by
  unfold eB_
  rw[List.take_add_one,h,Option.toList_some,List.foldl_append];rfl
theorem kS_ {stp:Fc→List Fc→List Fc} {kof:List Fc→List Fc} {f:Fc} {l:List Pc} {i:Nat} {x:Pc} {s:List Fc×List Fc} (h:l[i]? = some x):cn_ stp kof f (List.take (i+1) l) s=(stp (ak_ f.a x.r x.lo x.hi) (cn_ stp kof f (List.take i l) s).1,if ak_ f.a x.r x.lo x.hi∈kof (cn_ stp kof f (List.take i l) s).1 then (cn_ stp kof f (List.take i l) s).2 else ak_ f.a x.r x.lo x.hi::(cn_ stp kof f (List.take i l) s).2):=by
  unfold cn_
  rw[List.take_add_one,h,Option.toList_some,List.foldl_append];rfl
theorem both_c (B:EngB) (E:Emt Tryz.prog 67) (A:EngA) (pm:List (Ky×Pc)) (x:Ix) (f:Fc) (nw fm:List Fc) (Hs:Hp) (hS:E.St nw fm Hs) (hpl:∀ k,(lat pm k).length≤1000000000) (hxl:∀ k,(lat x.above k).length≤1000000000∧(lat x.under k).length≤1000000000) (hyl:∀ k,(lat x.frm k).length≤1000000000∧(lat x.into k).length≤1000000000∧(lat x.ranges k).length≤1000000000∧(lat x.firms k).length≤1000000000):Tri Tryz.prog 141 #[zp_ B.g 0,Fc.val f] Hs [gF B E,pF B pm A,aF B x A,uF B x A,oF B x A,iF B x A,rF B x A,sF B x A,E.ef] (fun _:{H':Hp // E.St (eB_ E.stp E.kof f (lat pm (Ky.mk 2 [] f.b)) nw) fm H'}=>.tuple #[]) (fun y=>y.1) (fun _=>[]):=by
 refine l_ Tryz.func141 rfl rfl Tryz.ntmps141 rfl fun v0=>?_
 refine Zz 2 ?_
 refine O_ rfl rfl fun b1=>Zz 4 ?_
 refine t_ 0 [0,1,2,3,4,5,6,7,8,9] zk zs (Zz 6 ?_)
 refine T_ rfl (u_ eS_ rfl rfl) rfl (T_ rfl (bT_ (k:=(Ky.mk 2 [] f.b)) (adr:=A.p) ht_ bH_ ct_ rfl rfl zf) rfl (Zz 6 ?_))
 refine ab_ (ι:={y:Nat×Hp // y.1≤List.length (lat pm (Ky.mk 2 [] f.b))∧E.St (eB_ E.stp E.kof f (List.take y.1 (lat pm (Ky.mk 2 [] f.b))) nw) fm y.2}) (fun y=>[(0,zp_ B.g 0),(3,zp_ b1 0),(13,.slice (Prod.fst (A.p (Ky.mk 2 [] f.b))) (List.length (lat pm (Ky.mk 2 [] f.b))) (Prod.snd (A.p (Ky.mk 2 [] f.b)))),(14,.int .i64 (List.length (lat pm (Ky.mk 2 [] f.b)):Int)),(15,.int .i64 (y.1.1:Int))]) (fun y=>((b1,.cells #[.int .i64 f.kind,str f.a,str f.b,str f.r,.int .i64 f.lo,.int .i64 f.hi] 67 (0,0))::y.1.2)) (fun y=>[gF B E,pF B pm A,aF B x A,uF B x A,oF B x A,iF B x A,rF B x A,sF B x A,E.ef]) (fun y=>List.length (lat pm (Ky.mk 2 [] f.b)) - y.1.1) ⟨((0:Nat),Hs),by simp,by exact hS⟩ zl zp zh ?_
 rintro ⟨⟨i,Hs_i⟩,hi_i,hS_i⟩
 dsimp only at hi_i hS_i ⊢
 have hb_i:=hpl (Ky.mk 2 [] f.b)
 refine Zi 2 (fun hr1=>?_) fun hr1=>?_
 ·refine Zz 6 ?_
  exact bQ_ Tryz.results141 ⟨Hs_i,by rw[List.take_of_length_le (by omega)]at hS_i;exact hS_i⟩ rfl J_ zt
 obtain⟨hlx1,x1,hx1,hmx1⟩:=zge (show i<List.length (lat pm (Ky.mk 2 [] f.b)) by omega)
 refine Zz 10 ?_
 refine d_ (M_ s_ H_ rfl rfl (fun v _ h=>A_ (n:=10) Pc.cells_len (by decide) (by exact (bj_ h.2.1 (Ky.mk 2 [] f.b))) hx1) (by omega) (by first|omega|(simp;done))) rfl ?_
 refine d_ (Z_ (ad:=(Prod.fst (A.p (Ky.mk 2 [] f.b)))) (us:=Pc.cells x1) eA_ H_ rfl (fun v _ h=>by exact (bj_ h.2.1 (Ky.mk 2 [] f.b))) (Pc.cells_len _) (x_ Pc.cells_len hx1)) rfl (F_ S_ rfl fun b2=>w_ 0 H_ rfl rfl rfl rfl rfl rfl (Zz 4 ?_))
 refine t_ 14 [0,1,2,3,4,5,6,7] zk zs (Zz 9 ?_)
 refine j_ 8 rfl zk (f_ (gg_ f.a x1.a) rfl g_ zt rfl fun _=>Zz 3 ?_)
 refine t_ 11 [9,10] zk zs (gY_ rfl (hZ_ (f:=(ap_ f.a x1.a)) hS_i jk_ aL_ cI_ rfl rfl (c_ J_)) rfl fun r2 hr2=>Zz 2 ?_)
 cases r2
 ·replace hr2:=zdf hr2
  refine t_ 0 [11,12,13,14,15,16,17,18,19,20,21] zk zs (Zz 22 ?_)
  exact B_ ⟨(i+1,Hs_i),hlx1,(by rw[jX_ hx1];first|(rw[if_pos ⟨by assumption,by assumption⟩];exact hS_i)|(rw[if_neg (fun q=>absurd q.1 (by assumption))];exact hS_i)|(rw[if_neg (fun q=>absurd q.2 (by assumption))];exact hS_i))⟩ (by dsimp only;omega) zl (o_ (c_ e_) J_) zh
 replace hr2:=zdt hr2
 refine t_ 3 [11,12,13,14,15,16,17,18] zk zs (Zz 9 ?_)
 refine j_ 19 rfl zk (aM_ rfl rfl (f_ (gg_ f.a x1.b) rfl g_ zt rfl fun _=>Zz 3 ?_))
 refine t_ 0 [20,21] zk zs (eT_ rfl rfl rfl (hZ_ (f:=(ap_ f.a x1.b)) hS_i jk_ aL_ cI_ rfl rfl (c_ J_)) rfl fun r3 hr3=>Zz 4 ?_)
 cases r3
 ·replace hr3:=zdf hr3
  refine Zz 8 ?_
  exact B_ ⟨(i+1,Hs_i),hlx1,(by rw[jX_ hx1];first|(rw[if_pos ⟨by assumption,by assumption⟩];exact hS_i)|(rw[if_neg (fun q=>absurd q.1 (by assumption))];exact hS_i)|(rw[if_neg (fun q=>absurd q.2 (by assumption))];exact hS_i))⟩ (by dsimp only;omega) zl (o_ (c_ e_) J_) zh
 replace hr3:=zdt hr3
 refine bC_ rfl ?_
 refine ag_ ((b2,.cells #[.int .i64 x1.kind,str x1.a,str x1.b,str x1.c,str x1.r,str x1.s,str x1.t,.int .i64 x1.lo,.int .i64 x1.hi,.int .i64 x1.frm] 58 (0,0))::((b1,.cells #[.int .i64 f.kind,str f.a,str f.b,str f.r,.int .i64 f.lo,.int .i64 f.hi] 67 (0,0))::[])) zk ?_
 refine t_ 2 [0,1,2,3,4,5,6,7] zk zs (Zz 9 ?_)
 refine j_ 8 rfl zk (f_ (gg_ f.a x1.c) rfl g_ zt rfl fun _=>Zz 3 ?_)
 refine j_ 9 rfl zk (Q_ (first:=[]) (cap:=E.caps) (E.emit (ap_ f.a x1.c) (eB_ E.stp E.kof f (List.take i (lat pm (Ky.mk 2 [] f.b))) nw) fm Hs_i hS_i) rfl rfl (c_ J_) zf rfl fun⟨Hs1,hS1⟩=>?_)
 dsimp only
 refine Zz 10 ?_
 exact B_ ⟨(i+1,Hs1),hlx1,(by rw[jX_ hx1];first|(rw[if_pos ⟨by assumption,by assumption⟩];exact hS1)|(rw[if_neg (fun q=>absurd q.1 (by assumption))];exact hS1)|(rw[if_neg (fun q=>absurd q.2 (by assumption))];exact hS1))⟩ (by dsimp only;omega) zl zp zh
theorem uC_ (B:EngB) (E:Emt Tryz.prog 67) (A:EngA) (pm:List (Ky×Pc)) (x:Ix) (f:Fc) (nw fm:List Fc) (Hs:Hp) (hS:E.St nw fm Hs) (hpl:∀ k,(lat pm k).length≤1000000000) (hxl:∀ k,(lat x.above k).length≤1000000000∧(lat x.under k).length≤1000000000) (hyl:∀ k,(lat x.frm k).length≤1000000000∧(lat x.into k).length≤1000000000∧(lat x.ranges k).length≤1000000000∧(lat x.firms k).length≤1000000000):Tri Tryz.prog 145 #[zp_ B.g 0,Fc.val f] Hs [gF B E,pF B pm A,aF B x A,uF B x A,oF B x A,iF B x A,rF B x A,sF B x A,E.ef] (fun _:{H':Hp // E.St (Prod.fst (cn_ E.stp E.kof f (lat pm (Ky.mk 8 [] f.b)) (nw,fm))) (Prod.snd (cn_ E.stp E.kof f (lat pm (Ky.mk 8 [] f.b)) (nw,fm))) H'}=>.tuple #[]) (fun y=>y.1) (fun _=>[]):=by
 refine l_ Tryz.func145 rfl rfl Tryz.ntmps145 rfl fun v0=>?_
 refine Zz 2 ?_
 refine O_ rfl rfl fun b1=>Zz 4 ?_
 refine t_ 0 [0,1,2,3,4,5,6,7,8,9] zk zs (Zz 6 ?_)
 refine T_ rfl (u_ eS_ rfl rfl) rfl (T_ rfl (bT_ (k:=(Ky.mk 8 [] f.b)) (adr:=A.p) ht_ bH_ ct_ rfl rfl zf) rfl (Zz 6 ?_))
 refine ab_ (ι:={y:Nat×Hp // y.1≤List.length (lat pm (Ky.mk 8 [] f.b))∧E.St (Prod.fst (cn_ E.stp E.kof f (List.take y.1 (lat pm (Ky.mk 8 [] f.b))) (nw,fm))) (Prod.snd (cn_ E.stp E.kof f (List.take y.1 (lat pm (Ky.mk 8 [] f.b))) (nw,fm))) y.2}) (fun y=>[(0,zp_ B.g 0),(3,zp_ b1 0),(14,.slice (Prod.fst (A.p (Ky.mk 8 [] f.b))) (List.length (lat pm (Ky.mk 8 [] f.b))) (Prod.snd (A.p (Ky.mk 8 [] f.b)))),(15,.int .i64 (List.length (lat pm (Ky.mk 8 [] f.b)):Int)),(16,.int .i64 (y.1.1:Int))]) (fun y=>((b1,.cells #[.int .i64 f.kind,str f.a,str f.b,str f.r,.int .i64 f.lo,.int .i64 f.hi] 67 (0,0))::y.1.2)) (fun y=>[gF B E,pF B pm A,aF B x A,uF B x A,oF B x A,iF B x A,rF B x A,sF B x A,E.ef]) (fun y=>List.length (lat pm (Ky.mk 8 [] f.b)) - y.1.1) ⟨((0:Nat),Hs),by simp,by exact hS⟩ zl zp zh ?_
 rintro ⟨⟨i,Hs_i⟩,hi_i,hS_i⟩
 dsimp only at hi_i hS_i ⊢
 have hb_i:=hpl (Ky.mk 8 [] f.b)
 refine Zi 2 (fun hr1=>?_) fun hr1=>?_
 ·refine Zz 6 ?_
  exact bQ_ Tryz.results145 ⟨Hs_i,by rw[List.take_of_length_le (by omega)]at hS_i;exact hS_i⟩ rfl J_ zt
 obtain⟨hlx1,x1,hx1,hmx1⟩:=zge (show i<List.length (lat pm (Ky.mk 8 [] f.b)) by omega)
 refine Zz 10 ?_
 refine d_ (M_ s_ H_ rfl rfl (fun v _ h=>A_ (n:=10) Pc.cells_len (by decide) (by exact (bj_ h.2.1 (Ky.mk 8 [] f.b))) hx1) (by omega) (by first|omega|(simp;done))) rfl ?_
 refine d_ (Z_ (ad:=(Prod.fst (A.p (Ky.mk 8 [] f.b)))) (us:=Pc.cells x1) eA_ H_ rfl (fun v _ h=>by exact (bj_ h.2.1 (Ky.mk 8 [] f.b))) (Pc.cells_len _) (x_ Pc.cells_len hx1)) rfl (F_ S_ rfl fun b2=>w_ 0 H_ rfl rfl rfl rfl rfl rfl (Zz 12 ?_))
 refine f_ (pL_ f.a x1.r x1.lo x1.hi) rfl g_ zt rfl fun _=>F_ aP_ rfl fun b3=>w_ 0 ay_ rfl rfl rfl rfl rfl rfl (Zz 5 ?_)
 refine t_ 0 [0,1,2,3,4,5,6] zk zs (Zz 5 ?_)
 refine gY_ rfl (hZ_ (f:=(ak_ f.a x1.r x1.lo x1.hi)) hS_i jk_ aL_ cI_ rfl rfl (c_ (c_ J_))) rfl fun r2 hr2=>T_ rfl (aT_ rfl) rfl (Zz 3 ?_)
 cases r2
 ·replace hr2:=zdf hr2
  refine bC_ rfl ?_
  refine ag_ ((b3,.cells #[.int .i64 (Fc.kind (ak_ f.a x1.r x1.lo x1.hi)),str (Fc.a (ak_ f.a x1.r x1.lo x1.hi)),str (Fc.b (ak_ f.a x1.r x1.lo x1.hi)),str (Fc.r (ak_ f.a x1.r x1.lo x1.hi)),.int .i64 (Fc.lo (ak_ f.a x1.r x1.lo x1.hi)),.int .i64 (Fc.hi (ak_ f.a x1.r x1.lo x1.hi))] 67 (0,0))::((b2,.cells #[.int .i64 x1.kind,str x1.a,str x1.b,str x1.c,str x1.r,str x1.s,str x1.t,.int .i64 x1.lo,.int .i64 x1.hi,.int .i64 x1.frm] 58 (0,0))::((b1,.cells #[.int .i64 f.kind,str f.a,str f.b,str f.r,.int .i64 f.lo,.int .i64 f.hi] 67 (0,0))::[]))) zk ?_
  refine t_ 1 [0,1,2,3,4] zk zs (Zz 6 ?_)
  refine j_ 5 rfl zk (tE_ (f:=(ak_ f.a x1.r x1.lo x1.hi)) hS_i jk_ (.inr rfl) aL_ rfl rfl rfl (c_ (c_ J_)) fun Hs1 hS1=>Zz 5 ?_)
  refine ag_ ((b3,.cells #[.int .i64 (Fc.kind (ak_ f.a x1.r x1.lo x1.hi)),str (Fc.a (ak_ f.a x1.r x1.lo x1.hi)),str (Fc.b (ak_ f.a x1.r x1.lo x1.hi)),str (Fc.r (ak_ f.a x1.r x1.lo x1.hi)),.int .i64 (Fc.lo (ak_ f.a x1.r x1.lo x1.hi)),.int .i64 (Fc.hi (ak_ f.a x1.r x1.lo x1.hi))] 67 (0,0))::((b2,.cells #[.int .i64 x1.kind,str x1.a,str x1.b,str x1.c,str x1.r,str x1.s,str x1.t,.int .i64 x1.lo,.int .i64 x1.hi,.int .i64 x1.frm] 58 (0,0))::((b1,.cells #[.int .i64 f.kind,str f.a,str f.b,str f.r,.int .i64 f.lo,.int .i64 f.hi] 67 (0,0))::[]))) zk ?_
  refine t_ 1 [0,1,2,3,4] zk zs (Zz 6 ?_)
  refine j_ 5 rfl zk (Q_ (first:=[]) (cap:=E.caps) (E.emit (ak_ f.a x1.r x1.lo x1.hi) (Prod.fst (cn_ E.stp E.kof f (List.take i (lat pm (Ky.mk 8 [] f.b))) (nw,fm))) ((ak_ f.a x1.r x1.lo x1.hi)::(Prod.snd (cn_ E.stp E.kof f (List.take i (lat pm (Ky.mk 8 [] f.b))) (nw,fm)))) Hs1 hS1) rfl rfl n_ zf rfl fun⟨Hs2,hS2⟩=>?_)
  dsimp only
  refine Zz 10 ?_
  exact B_ ⟨(i+1,Hs2),hlx1,(by rw[kS_ hx1];dsimp only;first|(rw[if_pos (by assumption)];exact hS2)|(rw[if_neg (by assumption)];exact hS2))⟩ (by dsimp only;omega) zl zp zh
 replace hr2:=zdt hr2
 refine Zz 3 ?_
 refine ag_ ((b3,.cells #[.int .i64 (Fc.kind (ak_ f.a x1.r x1.lo x1.hi)),str (Fc.a (ak_ f.a x1.r x1.lo x1.hi)),str (Fc.b (ak_ f.a x1.r x1.lo x1.hi)),str (Fc.r (ak_ f.a x1.r x1.lo x1.hi)),.int .i64 (Fc.lo (ak_ f.a x1.r x1.lo x1.hi)),.int .i64 (Fc.hi (ak_ f.a x1.r x1.lo x1.hi))] 67 (0,0))::((b2,.cells #[.int .i64 x1.kind,str x1.a,str x1.b,str x1.c,str x1.r,str x1.s,str x1.t,.int .i64 x1.lo,.int .i64 x1.hi,.int .i64 x1.frm] 58 (0,0))::((b1,.cells #[.int .i64 f.kind,str f.a,str f.b,str f.r,.int .i64 f.lo,.int .i64 f.hi] 67 (0,0))::[]))) zk ?_
 refine t_ 1 [0,1,2,3,4] zk zs (Zz 6 ?_)
 refine j_ 5 rfl zk (Q_ (first:=[]) (cap:=E.caps) (E.emit (ak_ f.a x1.r x1.lo x1.hi) (Prod.fst (cn_ E.stp E.kof f (List.take i (lat pm (Ky.mk 8 [] f.b))) (nw,fm))) (Prod.snd (cn_ E.stp E.kof f (List.take i (lat pm (Ky.mk 8 [] f.b))) (nw,fm))) Hs_i hS_i) rfl rfl (c_ (c_ J_)) zf rfl fun⟨Hs3,hS3⟩=>?_)
 dsimp only
 refine Zz 10 ?_
 exact B_ ⟨(i+1,Hs3),hlx1,(by rw[kS_ hx1];dsimp only;first|(rw[if_pos (by assumption)];exact hS3)|(rw[if_neg (by assumption)];exact hS3))⟩ (by dsimp only;omega) zl zp zh
theorem qy_ (B:EngB) (E:Emt Tryz.prog 67) (A:EngA) (pm:List (Ky×Pc)) (x:Ix) (f:Fc) (nw fm:List Fc) (Hs:Hp) (hS:E.St nw fm Hs) (hpl:∀ k,(lat pm k).length≤1000000000) (hxl:∀ k,(lat x.above k).length≤1000000000∧(lat x.under k).length≤1000000000) (hyl:∀ k,(lat x.frm k).length≤1000000000∧(lat x.into k).length≤1000000000∧(lat x.ranges k).length≤1000000000∧(lat x.firms k).length≤1000000000):Tri Tryz.prog 143 #[zp_ B.g 0,Fc.val f] Hs [gF B E,pF B pm A,aF B x A,uF B x A,oF B x A,iF B x A,rF B x A,sF B x A,E.ef] (fun _:{H':Hp // E.St (emits E.stp (fR_ pm x f) nw) fm H'}=>.tuple #[]) (fun y=>y.1) (fun _=>[]):=by
 refine l_ Tryz.func143 rfl rfl Tryz.ntmps143 rfl fun v0=>?_
 refine Zz 2 ?_
 refine O_ rfl rfl fun b1=>Zz 4 ?_
 refine t_ 0 [0,1,2,3,4,5,6,7,8,9] zk zs (Zz 6 ?_)
 refine T_ rfl (u_ eS_ rfl rfl) rfl (T_ rfl (bT_ (k:=(Ky.mk 4 [] f.b)) (adr:=A.p) ht_ bH_ ct_ rfl rfl zf) rfl (Zz 6 ?_))
 refine ab_ (ι:={y:Nat×Hp // y.1≤List.length (lat pm (Ky.mk 4 [] f.b))∧E.St (emits E.stp (List.flatMap (fun y=>List.map (fun a=>ap_ a y.c) (lat x.into (Fc.a f,Pc.r y))) (List.take y.1 (lat pm (Ky.mk 4 [] f.b)))) nw) fm y.2}) (fun y=>[(0,zp_ B.g 0),(3,zp_ b1 0),(15,.slice (Prod.fst (A.p (Ky.mk 4 [] f.b))) (List.length (lat pm (Ky.mk 4 [] f.b))) (Prod.snd (A.p (Ky.mk 4 [] f.b)))),(16,.int .i64 (List.length (lat pm (Ky.mk 4 [] f.b)):Int)),(17,.int .i64 (y.1.1:Int))]) (fun y=>((b1,.cells #[.int .i64 f.kind,str f.a,str f.b,str f.r,.int .i64 f.lo,.int .i64 f.hi] 67 (0,0))::y.1.2)) (fun y=>[gF B E,pF B pm A,aF B x A,uF B x A,oF B x A,iF B x A,rF B x A,sF B x A,E.ef]) (fun y=>List.length (lat pm (Ky.mk 4 [] f.b)) - y.1.1) ⟨((0:Nat),Hs),by simp,by exact hS⟩ zl zp zh ?_
 rintro ⟨⟨i,Hs_i⟩,hi_i,hS_i⟩
 dsimp only at hi_i hS_i ⊢
 have hb_i:=hpl (Ky.mk 4 [] f.b)
 refine Zi 2 (fun hr1=>?_) fun hr1=>?_
 ·refine Zz 6 ?_
  exact bQ_ Tryz.results143 ⟨Hs_i,by unfold fR_;rw[List.take_of_length_le (by omega)]at hS_i;exact hS_i⟩ rfl J_ zt
 obtain⟨hlx1,x1,hx1,hmx1⟩:=zge (show i<List.length (lat pm (Ky.mk 4 [] f.b)) by omega)
 refine Zz 10 ?_
 refine d_ (M_ s_ H_ rfl rfl (fun v _ h=>A_ (n:=10) Pc.cells_len (by decide) (by exact (bj_ h.2.1 (Ky.mk 4 [] f.b))) hx1) (by omega) (by first|omega|(simp;done))) rfl ?_
 refine d_ (Z_ (ad:=(Prod.fst (A.p (Ky.mk 4 [] f.b)))) (us:=Pc.cells x1) eA_ H_ rfl (fun v _ h=>by exact (bj_ h.2.1 (Ky.mk 4 [] f.b))) (Pc.cells_len _) (x_ Pc.cells_len hx1)) rfl (F_ S_ rfl fun b2=>w_ 0 H_ rfl rfl rfl rfl rfl rfl (Zz 4 ?_))
 refine t_ 0 [0,1,2,3,4,5,6,7,8,9,10,11] zk zs (Zz 8 ?_)
 refine T_ rfl (u_ fK_ rfl rfl) rfl (T_ rfl (bT_ (k:=(f.a,x1.r)) (adr:=A.i) cZ_ bG_ bi_ rfl rfl zf) rfl (Zz 6 ?_))
 refine ab_ (ι:={y:Nat×Hp // y.1≤List.length (lat x.into (f.a,x1.r))∧E.St (emits E.stp (List.map (fun a=>ap_ a x1.c) (List.take y.1 (lat x.into (f.a,x1.r)))) (emits E.stp (List.flatMap (fun y=>List.map (fun a=>ap_ a y.c) (lat x.into (Fc.a f,Pc.r y))) (List.take i (lat pm (Ky.mk 4 [] f.b)))) nw)) fm y.2}) (fun y=>[(0,zp_ B.g 0),(3,zp_ b1 0),(15,.slice (Prod.fst (A.p (Ky.mk 4 [] f.b))) (List.length (lat pm (Ky.mk 4 [] f.b))) (Prod.snd (A.p (Ky.mk 4 [] f.b)))),(16,.int .i64 (List.length (lat pm (Ky.mk 4 [] f.b)):Int)),(17,.int .i64 (i:Int)),(5,zp_ b2 0),(30,.slice (Prod.fst (A.i (f.a,x1.r))) (List.length (lat x.into (f.a,x1.r))) (Prod.snd (A.i (f.a,x1.r)))),(31,.int .i64 (List.length (lat x.into (f.a,x1.r)):Int)),(32,.int .i64 (y.1.1:Int))]) (fun y=>((b2,.cells #[.int .i64 x1.kind,str x1.a,str x1.b,str x1.c,str x1.r,str x1.s,str x1.t,.int .i64 x1.lo,.int .i64 x1.hi,.int .i64 x1.frm] 58 (0,0))::((b1,.cells #[.int .i64 f.kind,str f.a,str f.b,str f.r,.int .i64 f.lo,.int .i64 f.hi] 67 (0,0))::y.1.2))) (fun y=>[gF B E,pF B pm A,aF B x A,uF B x A,oF B x A,iF B x A,rF B x A,sF B x A,E.ef]) (fun y=>List.length (lat x.into (f.a,x1.r)) - y.1.1) ⟨((0:Nat),Hs_i),by simp,by exact hS_i⟩ zl zp zh ?_
 rintro ⟨⟨j,Hs_j⟩,hi_j,hS_j⟩
 dsimp only at hi_j hS_j ⊢
 have hb_j:=(hyl (f.a,x1.r)).2.1
 refine Zi 2 (fun hr2=>?_) fun hr2=>?_
 ·refine Zz 11 ?_
  exact B_ ⟨(i+1,Hs_j),hlx1,(by rw[gN_ hx1,aD_];have e9:List.take j (lat x.into (Fc.a f,Pc.r x1))=(lat x.into (Fc.a f,Pc.r x1)):=List.take_of_length_le (by omega);rw[e9]at hS_j;exact hS_j)⟩ (by dsimp only;omega) zl (o_ (c_ e_) J_) zh
 obtain⟨hlx2,x2,hx2,hmx2⟩:=zge (show j<List.length (lat x.into (f.a,x1.r)) by omega)
 refine Zz 10 ?_
 refine d_ (M_ p_ K_ rfl rfl (fun v _ h=>A_ (n:=1) ar_ (by decide) (by exact (bj_ h.2.2.2.2.2.1 (f.a,x1.r))) hx2) (by omega) (by first|omega|(simp;done))) rfl ?_
 refine d_ (bt_ (ad:=(Prod.fst (A.i (f.a,x1.r)))) aq_ rfl (fun v _ h=>by exact (bj_ h.2.2.2.2.2.1 (f.a,x1.r))) (x_ ar_ hx2 0 _ rfl)) rfl (Zz 3 ?_)
 refine ag_ ((b2,.cells #[.int .i64 x1.kind,str x1.a,str x1.b,str x1.c,str x1.r,str x1.s,str x1.t,.int .i64 x1.lo,.int .i64 x1.hi,.int .i64 x1.frm] 58 (0,0))::((b1,.cells #[.int .i64 f.kind,str f.a,str f.b,str f.r,.int .i64 f.lo,.int .i64 f.hi] 67 (0,0))::[])) zk ?_
 refine t_ 2 [0,1,2,3,4,5,6] zk zs (Zz 8 ?_)
 refine j_ 7 rfl zk (f_ (gg_ x2 x1.c) rfl g_ zt rfl fun _=>Zz 3 ?_)
 refine j_ 8 rfl zk (Q_ (first:=[]) (cap:=E.caps) (E.emit (ap_ x2 x1.c) (emits E.stp (List.map (fun a=>ap_ a x1.c) (List.take j (lat x.into (f.a,x1.r)))) (emits E.stp (List.flatMap (fun y=>List.map (fun a=>ap_ a y.c) (lat x.into (Fc.a f,Pc.r y))) (List.take i (lat pm (Ky.mk 4 [] f.b)))) nw)) fm Hs_j hS_j) rfl rfl zp zf rfl fun⟨Hs1,hS1⟩=>?_)
 dsimp only
 refine Zz 10 ?_
 exact B_ ⟨(j+1,Hs1),hlx2,(by rw[fc_ hx2,aD_];exact hS1)⟩ (by dsimp only;omega) zl zp zh
theorem qx_ (B:EngB) (E:Emt Tryz.prog 67) (A:EngA) (pm:List (Ky×Pc)) (x:Ix) (f:Fc) (nw fm:List Fc) (Hs:Hp) (hS:E.St nw fm Hs) (hpl:∀ k,(lat pm k).length≤1000000000) (hxl:∀ k,(lat x.above k).length≤1000000000∧(lat x.under k).length≤1000000000) (hyl:∀ k,(lat x.frm k).length≤1000000000∧(lat x.into k).length≤1000000000∧(lat x.ranges k).length≤1000000000∧(lat x.firms k).length≤1000000000):Tri Tryz.prog 148 #[zp_ B.g 0,Fc.val f] Hs [gF B E,pF B pm A,aF B x A,uF B x A,oF B x A,iF B x A,rF B x A,sF B x A,E.ef] (fun _:{H':Hp // E.St (emits E.stp (fQ_ pm x f) nw) fm H'}=>.tuple #[]) (fun y=>y.1) (fun _=>[]):=by
 refine l_ Tryz.func148 rfl rfl Tryz.ntmps148 rfl fun v0=>?_
 refine Zz 2 ?_
 refine O_ rfl rfl fun b1=>Zz 4 ?_
 refine t_ 0 [0,1,2,3,4,5,6,7,8] zk zs (Zz 6 ?_)
 refine T_ rfl (bT_ (k:=f.b) (adr:=A.a) jj_ ce_ bi_ rfl rfl zf) rfl (Zz 6 ?_)
 refine ab_ (ι:={y:Nat×Hp // y.1≤List.length (lat x.above f.b)∧E.St (emits E.stp (List.flatMap (fun y=>List.map (fun a=>ap_ f.a a.c) (lat pm (Ky.mk 4 f.r y))) (List.take y.1 (lat x.above f.b))) nw) fm y.2}) (fun y=>[(0,zp_ B.g 0),(3,zp_ b1 0),(14,.slice (Prod.fst (A.a f.b)) (List.length (lat x.above f.b)) (Prod.snd (A.a f.b))),(15,.int .i64 (List.length (lat x.above f.b):Int)),(16,.int .i64 (y.1.1:Int))]) (fun y=>((b1,.cells #[.int .i64 f.kind,str f.a,str f.b,str f.r,.int .i64 f.lo,.int .i64 f.hi] 67 (0,0))::y.1.2)) (fun y=>[gF B E,pF B pm A,aF B x A,uF B x A,oF B x A,iF B x A,rF B x A,sF B x A,E.ef]) (fun y=>List.length (lat x.above f.b) - y.1.1) ⟨((0:Nat),Hs),by simp,by exact hS⟩ zl zp zh ?_
 rintro ⟨⟨i,Hs_i⟩,hi_i,hS_i⟩
 dsimp only at hi_i hS_i ⊢
 have hb_i:=(hxl f.b).1
 refine Zi 2 (fun hr1=>?_) fun hr1=>?_
 ·refine Zz 6 ?_
  exact bQ_ Tryz.results148 ⟨Hs_i,by unfold fQ_;rw[List.take_of_length_le (by omega)]at hS_i;exact hS_i⟩ rfl J_ zt
 obtain⟨hlx1,x1,hx1,hmx1⟩:=zge (show i<List.length (lat x.above f.b) by omega)
 refine Zz 10 ?_
 refine d_ (M_ p_ K_ rfl rfl (fun v _ h=>A_ (n:=1) ar_ (by decide) (by exact (bj_ h.2.2.1 f.b)) hx1) (by omega) (by first|omega|(simp;done))) rfl ?_
 refine d_ (bt_ (ad:=(Prod.fst (A.a f.b))) aq_ rfl (fun v _ h=>by exact (bj_ h.2.2.1 f.b)) (x_ ar_ hx1 0 _ rfl)) rfl (Zz 5 ?_)
 refine t_ 0 [0,1,2,3,4,5,6,7,8,9,10] zk zs (Zz 7 ?_)
 refine T_ rfl (u_ eS_ rfl rfl) rfl (T_ rfl (bT_ (k:=(Ky.mk 4 f.r x1)) (adr:=A.p) ht_ bH_ ct_ rfl rfl zf) rfl (Zz 6 ?_))
 refine ab_ (ι:={y:Nat×Hp // y.1≤List.length (lat pm (Ky.mk 4 f.r x1))∧E.St (emits E.stp (List.map (fun a=>ap_ f.a a.c) (List.take y.1 (lat pm (Ky.mk 4 f.r x1)))) (emits E.stp (List.flatMap (fun y=>List.map (fun a=>ap_ f.a a.c) (lat pm (Ky.mk 4 f.r y))) (List.take i (lat x.above f.b))) nw)) fm y.2}) (fun y=>[(0,zp_ B.g 0),(3,zp_ b1 0),(14,.slice (Prod.fst (A.a f.b)) (List.length (lat x.above f.b)) (Prod.snd (A.a f.b))),(15,.int .i64 (List.length (lat x.above f.b):Int)),(16,.int .i64 (i:Int)),(28,.slice (Prod.fst (A.p (Ky.mk 4 f.r x1))) (List.length (lat pm (Ky.mk 4 f.r x1))) (Prod.snd (A.p (Ky.mk 4 f.r x1)))),(29,.int .i64 (List.length (lat pm (Ky.mk 4 f.r x1)):Int)),(30,.int .i64 (y.1.1:Int))]) (fun y=>((b1,.cells #[.int .i64 f.kind,str f.a,str f.b,str f.r,.int .i64 f.lo,.int .i64 f.hi] 67 (0,0))::y.1.2)) (fun y=>[gF B E,pF B pm A,aF B x A,uF B x A,oF B x A,iF B x A,rF B x A,sF B x A,E.ef]) (fun y=>List.length (lat pm (Ky.mk 4 f.r x1)) - y.1.1) ⟨((0:Nat),Hs_i),by simp,by exact hS_i⟩ zl zp zh ?_
 rintro ⟨⟨j,Hs_j⟩,hi_j,hS_j⟩
 dsimp only at hi_j hS_j ⊢
 have hb_j:=hpl (Ky.mk 4 f.r x1)
 refine Zi 2 (fun hr2=>?_) fun hr2=>?_
 ·refine Zz 11 ?_
  exact B_ ⟨(i+1,Hs_j),hlx1,(by rw[gN_ hx1,aD_];have e9:List.take j (lat pm (Ky.mk 4 f.r x1))=(lat pm (Ky.mk 4 f.r x1)):=List.take_of_length_le (by omega);rw[e9]at hS_j;exact hS_j)⟩ (by dsimp only;omega) zl (o_ e_ aY_) zh
 obtain⟨hlx2,x2,hx2,hmx2⟩:=zge (show j<List.length (lat pm (Ky.mk 4 f.r x1)) by omega)
 refine Zz 10 ?_
 refine d_ (M_ s_ H_ rfl rfl (fun v _ h=>A_ (n:=10) Pc.cells_len (by decide) (by exact (bj_ h.2.1 (Ky.mk 4 f.r x1))) hx2) (by omega) (by first|omega|(simp;done))) rfl ?_
 refine d_ (Z_ (ad:=(Prod.fst (A.p (Ky.mk 4 f.r x1)))) (us:=Pc.cells x2) eA_ H_ rfl (fun v _ h=>by exact (bj_ h.2.1 (Ky.mk 4 f.r x1))) (Pc.cells_len _) (x_ Pc.cells_len hx2)) rfl (F_ S_ rfl fun b2=>w_ 0 H_ rfl rfl rfl rfl rfl rfl (Zz 2 ?_))
 refine ag_ ((b2,.cells #[.int .i64 x2.kind,str x2.a,str x2.b,str x2.c,str x2.r,str x2.s,str x2.t,.int .i64 x2.lo,.int .i64 x2.hi,.int .i64 x2.frm] 58 (0,0))::((b1,.cells #[.int .i64 f.kind,str f.a,str f.b,str f.r,.int .i64 f.lo,.int .i64 f.hi] 67 (0,0))::[])) zk ?_
 refine t_ 2 [0,1,2,3,4,5,6,7] zk zs (Zz 9 ?_)
 refine j_ 8 rfl zk (f_ (gg_ f.a x2.c) rfl g_ zt rfl fun _=>Zz 3 ?_)
 refine j_ 9 rfl zk (Q_ (first:=[]) (cap:=E.caps) (E.emit (ap_ f.a x2.c) (emits E.stp (List.map (fun a=>ap_ f.a a.c) (List.take j (lat pm (Ky.mk 4 f.r x1)))) (emits E.stp (List.flatMap (fun y=>List.map (fun a=>ap_ f.a a.c) (lat pm (Ky.mk 4 f.r y))) (List.take i (lat x.above f.b))) nw)) fm Hs_j hS_j) rfl rfl (c_ J_) zf rfl fun⟨Hs1,hS1⟩=>?_)
 dsimp only
 refine Zz 10 ?_
 exact B_ ⟨(j+1,Hs1),hlx2,(by rw[fc_ hx2,aD_];exact hS1)⟩ (by dsimp only;omega) zl zp zh
theorem vD_ (B:EngB) (E:Emt Tryz.prog 67) (A:EngA) (pm:List (Ky×Pc)) (x:Ix) (f:Fc) (nw fm:List Fc) (Hs:Hp) (hS:E.St nw fm Hs) (hpl:∀ k,(lat pm k).length≤1000000000) (hxl:∀ k,(lat x.above k).length≤1000000000∧(lat x.under k).length≤1000000000) (hyl:∀ k,(lat x.frm k).length≤1000000000∧(lat x.into k).length≤1000000000∧(lat x.ranges k).length≤1000000000∧(lat x.firms k).length≤1000000000):Tri Tryz.prog 147 #[zp_ B.g 0,Fc.val f] Hs [gF B E,pF B pm A,aF B x A,uF B x A,oF B x A,iF B x A,rF B x A,sF B x A,E.ef] (fun _:{H':Hp // E.St (emits E.stp (fN_ pm x f++ho_ pm x f) nw) fm H'}=>.tuple #[]) (fun y=>y.1) (fun _=>[]):=by
 refine l_ Tryz.func147 rfl rfl Tryz.ntmps147 rfl fun v0=>?_
 refine Zz 2 ?_
 refine O_ rfl rfl fun b1=>Zz 5 ?_
 refine t_ 0 [0,1,2,3,4,5,6,7,8,9] zk zs (Zz 6 ?_)
 refine T_ rfl (u_ eS_ rfl rfl) rfl (T_ rfl (bT_ (k:=(Ky.mk 6 f.r [])) (adr:=A.p) ht_ bH_ ct_ rfl rfl zf) rfl (Zz 6 ?_))
 refine ab_ (ι:={y:Nat×Hp // y.1≤List.length (lat pm (Ky.mk 6 f.r []))∧E.St (emits E.stp (List.flatMap (fun y=>List.map (fun a=>aA_ f.a y.t a) (lat x.frm (Fc.b f,Pc.s y))) (List.take y.1 (lat pm (Ky.mk 6 f.r [])))) nw) fm y.2}) (fun y=>[(0,zp_ B.g 0),(3,zp_ b1 0),(19,.slice (Prod.fst (A.p (Ky.mk 6 f.r []))) (List.length (lat pm (Ky.mk 6 f.r []))) (Prod.snd (A.p (Ky.mk 6 f.r [])))),(20,.int .i64 (List.length (lat pm (Ky.mk 6 f.r [])):Int)),(21,.int .i64 (y.1.1:Int))]) (fun y=>((b1,.cells #[.int .i64 f.kind,str f.a,str f.b,str f.r,.int .i64 f.lo,.int .i64 f.hi] 67 (0,0))::y.1.2)) (fun y=>[gF B E,pF B pm A,aF B x A,uF B x A,oF B x A,iF B x A,rF B x A,sF B x A,E.ef]) (fun y=>List.length (lat pm (Ky.mk 6 f.r [])) - y.1.1) ⟨((0:Nat),Hs),by simp,by exact hS⟩ zl zp zh ?_
 rintro ⟨⟨i,Hs_i⟩,hi_i,hS_i⟩
 dsimp only at hi_i hS_i ⊢
 have hb_i:=hpl (Ky.mk 6 f.r [])
 refine Zi 2 (fun hr1=>?_) fun hr1=>?_
 ·refine Zz 8 ?_
  refine t_ 0 [0,1,2,3,4,5,6,7,8,9] zk zs (Zz 6 ?_)
  refine T_ rfl (u_ eS_ rfl rfl) rfl (T_ rfl (bT_ (k:=(Ky.mk 6 [] f.r)) (adr:=A.p) ht_ bH_ ct_ rfl rfl zf) rfl (Zz 6 ?_))
  refine ab_ (ι:={y:Nat×Hp // y.1≤List.length (lat pm (Ky.mk 6 [] f.r))∧E.St (emits E.stp (List.flatMap (fun y=>List.map (fun a=>aA_ a y.t f.b) (lat x.into (Fc.a f,Pc.r y))) (List.take y.1 (lat pm (Ky.mk 6 [] f.r)))) (emits E.stp (fN_ pm x f) nw)) fm y.2}) (fun y=>[(0,zp_ B.g 0),(3,zp_ b1 0),(19,.slice (Prod.fst (A.p (Ky.mk 6 f.r []))) (List.length (lat pm (Ky.mk 6 f.r []))) (Prod.snd (A.p (Ky.mk 6 f.r [])))),(20,.int .i64 (List.length (lat pm (Ky.mk 6 f.r [])):Int)),(21,.int .i64 (i:Int)),(60,.slice (Prod.fst (A.p (Ky.mk 6 [] f.r))) (List.length (lat pm (Ky.mk 6 [] f.r))) (Prod.snd (A.p (Ky.mk 6 [] f.r)))),(61,.int .i64 (List.length (lat pm (Ky.mk 6 [] f.r)):Int)),(62,.int .i64 (y.1.1:Int))]) (fun y=>((b1,.cells #[.int .i64 f.kind,str f.a,str f.b,str f.r,.int .i64 f.lo,.int .i64 f.hi] 67 (0,0))::y.1.2)) (fun y=>[gF B E,pF B pm A,aF B x A,uF B x A,oF B x A,iF B x A,rF B x A,sF B x A,E.ef]) (fun y=>List.length (lat pm (Ky.mk 6 [] f.r)) - y.1.1) ⟨((0:Nat),Hs_i),by simp,by have e9:List.take i (lat pm (Ky.mk 6 f.r []))=(lat pm (Ky.mk 6 f.r [])):=List.take_of_length_le (by omega);rw[e9]at hS_i;exact hS_i⟩ zl (o_ e_ aY_) zh ?_
  rintro ⟨⟨k,Hs_k⟩,hi_k,hS_k⟩
  dsimp only at hi_k hS_k ⊢
  have hb_k:=hpl (Ky.mk 6 [] f.r)
  refine Zi 2 (fun hr2=>?_) fun hr2=>?_
  ·refine Zz 6 ?_
   exact bQ_ Tryz.results147 ⟨Hs_k,by rw[aD_];unfold ho_;have e8:List.take k (lat pm (Ky.mk 6 [] f.r))=lat pm (Ky.mk 6 [] f.r):=List.take_of_length_le (by omega);rw[e8]at hS_k;exact hS_k⟩ rfl J_ zt
  obtain⟨hlx3,x3,hx3,hmx3⟩:=zge (show k<List.length (lat pm (Ky.mk 6 [] f.r)) by omega)
  refine Zz 10 ?_
  refine d_ (M_ s_ H_ rfl rfl (fun v _ h=>A_ (n:=10) Pc.cells_len (by decide) (by exact (bj_ h.2.1 (Ky.mk 6 [] f.r))) hx3) (by omega) (by first|omega|(simp;done))) rfl ?_
  refine d_ (Z_ (ad:=(Prod.fst (A.p (Ky.mk 6 [] f.r)))) (us:=Pc.cells x3) eA_ H_ rfl (fun v _ h=>by exact (bj_ h.2.1 (Ky.mk 6 [] f.r))) (Pc.cells_len _) (x_ Pc.cells_len hx3)) rfl (F_ S_ rfl fun b2=>w_ 0 H_ rfl rfl rfl rfl rfl rfl (Zz 4 ?_))
  refine t_ 0 [0,1,2,3,4,5,6,7,8,9,10,11] zk zs (Zz 8 ?_)
  refine T_ rfl (u_ fK_ rfl rfl) rfl (T_ rfl (bT_ (k:=(f.a,x3.r)) (adr:=A.i) cZ_ bG_ bi_ rfl rfl zf) rfl (Zz 6 ?_))
  refine ab_ (ι:={y:Nat×Hp // y.1≤List.length (lat x.into (f.a,x3.r))∧E.St (emits E.stp (List.map (fun a=>aA_ a x3.t f.b) (List.take y.1 (lat x.into (f.a,x3.r)))) (emits E.stp (List.flatMap (fun y=>List.map (fun a=>aA_ a y.t f.b) (lat x.into (Fc.a f,Pc.r y))) (List.take k (lat pm (Ky.mk 6 [] f.r)))) (emits E.stp (fN_ pm x f) nw))) fm y.2}) (fun y=>[(0,zp_ B.g 0),(3,zp_ b1 0),(19,.slice (Prod.fst (A.p (Ky.mk 6 f.r []))) (List.length (lat pm (Ky.mk 6 f.r []))) (Prod.snd (A.p (Ky.mk 6 f.r [])))),(20,.int .i64 (List.length (lat pm (Ky.mk 6 f.r [])):Int)),(21,.int .i64 (i:Int)),(60,.slice (Prod.fst (A.p (Ky.mk 6 [] f.r))) (List.length (lat pm (Ky.mk 6 [] f.r))) (Prod.snd (A.p (Ky.mk 6 [] f.r)))),(61,.int .i64 (List.length (lat pm (Ky.mk 6 [] f.r)):Int)),(62,.int .i64 (k:Int)),(9,zp_ b2 0),(75,.slice (Prod.fst (A.i (f.a,x3.r))) (List.length (lat x.into (f.a,x3.r))) (Prod.snd (A.i (f.a,x3.r)))),(76,.int .i64 (List.length (lat x.into (f.a,x3.r)):Int)),(77,.int .i64 (y.1.1:Int))]) (fun y=>((b2,.cells #[.int .i64 x3.kind,str x3.a,str x3.b,str x3.c,str x3.r,str x3.s,str x3.t,.int .i64 x3.lo,.int .i64 x3.hi,.int .i64 x3.frm] 58 (0,0))::((b1,.cells #[.int .i64 f.kind,str f.a,str f.b,str f.r,.int .i64 f.lo,.int .i64 f.hi] 67 (0,0))::y.1.2))) (fun y=>[gF B E,pF B pm A,aF B x A,uF B x A,oF B x A,iF B x A,rF B x A,sF B x A,E.ef]) (fun y=>List.length (lat x.into (f.a,x3.r)) - y.1.1) ⟨((0:Nat),Hs_k),by simp,by exact hS_k⟩ zl zp zh ?_
  rintro ⟨⟨l,Hs_l⟩,hi_l,hS_l⟩
  dsimp only at hi_l hS_l ⊢
  have hb_l:=(hyl (f.a,x3.r)).2.1
  refine Zi 2 (fun hr3=>?_) fun hr3=>?_
  ·refine Zz 11 ?_
   exact B_ ⟨(k+1,Hs_l),hlx3,(by rw[gN_ hx3,aD_];have e9:List.take l (lat x.into (Fc.a f,Pc.r x3))=(lat x.into (Fc.a f,Pc.r x3)):=List.take_of_length_le (by omega);rw[e9]at hS_l;exact hS_l)⟩ (by dsimp only;omega) zl (o_ (c_ e_) J_) zh
  obtain⟨hlx4,x4,hx4,hmx4⟩:=zge (show l<List.length (lat x.into (f.a,x3.r)) by omega)
  refine Zz 10 ?_
  refine d_ (M_ p_ K_ rfl rfl (fun v _ h=>A_ (n:=1) ar_ (by decide) (by exact (bj_ h.2.2.2.2.2.1 (f.a,x3.r))) hx4) (by omega) (by first|omega|(simp;done))) rfl ?_
  refine d_ (bt_ (ad:=(Prod.fst (A.i (f.a,x3.r)))) aq_ rfl (fun v _ h=>by exact (bj_ h.2.2.2.2.2.1 (f.a,x3.r))) (x_ ar_ hx4 0 _ rfl)) rfl (Zz 3 ?_)
  refine ag_ ((b2,.cells #[.int .i64 x3.kind,str x3.a,str x3.b,str x3.c,str x3.r,str x3.s,str x3.t,.int .i64 x3.lo,.int .i64 x3.hi,.int .i64 x3.frm] 58 (0,0))::((b1,.cells #[.int .i64 f.kind,str f.a,str f.b,str f.r,.int .i64 f.lo,.int .i64 f.hi] 67 (0,0))::[])) zk ?_
  refine t_ 2 [0,1,2,3,4,5,6,7,8] zk zs (Zz 10 ?_)
  refine j_ 9 rfl zk (f_ (lz_ x4 x3.t f.b) rfl g_ zt rfl fun _=>Zz 3 ?_)
  refine j_ 10 rfl zk (Q_ (first:=[]) (cap:=E.caps) (E.emit (aA_ x4 x3.t f.b) (emits E.stp (List.map (fun a=>aA_ a x3.t f.b) (List.take l (lat x.into (f.a,x3.r)))) (emits E.stp (List.flatMap (fun y=>List.map (fun a=>aA_ a y.t f.b) (lat x.into (Fc.a f,Pc.r y))) (List.take k (lat pm (Ky.mk 6 [] f.r)))) (emits E.stp (fN_ pm x f) nw))) fm Hs_l hS_l) rfl rfl zp zf rfl fun⟨Hs1,hS1⟩=>?_)
  dsimp only
  refine Zz 10 ?_
  exact B_ ⟨(l+1,Hs1),hlx4,(by rw[fc_ hx4,aD_];exact hS1)⟩ (by dsimp only;omega) zl zp zh
 obtain⟨hlx1,x1,hx1,hmx1⟩:=zge (show i<List.length (lat pm (Ky.mk 6 f.r [])) by omega)
 refine Zz 10 ?_
 refine d_ (M_ s_ H_ rfl rfl (fun v _ h=>A_ (n:=10) Pc.cells_len (by decide) (by exact (bj_ h.2.1 (Ky.mk 6 f.r []))) hx1) (by omega) (by first|omega|(simp;done))) rfl ?_
 refine d_ (Z_ (ad:=(Prod.fst (A.p (Ky.mk 6 f.r [])))) (us:=Pc.cells x1) eA_ H_ rfl (fun v _ h=>by exact (bj_ h.2.1 (Ky.mk 6 f.r []))) (Pc.cells_len _) (x_ Pc.cells_len hx1)) rfl (F_ S_ rfl fun b3=>w_ 0 H_ rfl rfl rfl rfl rfl rfl (Zz 4 ?_))
 refine t_ 0 [0,1,2,3,4,5,6,7,8,9,10,11] zk zs (Zz 8 ?_)
 refine T_ rfl (u_ fK_ rfl rfl) rfl (T_ rfl (bT_ (k:=(f.b,x1.s)) (adr:=A.o) cZ_ bG_ bi_ rfl rfl zf) rfl (Zz 6 ?_))
 refine ab_ (ι:={y:Nat×Hp // y.1≤List.length (lat x.frm (f.b,x1.s))∧E.St (emits E.stp (List.map (fun a=>aA_ f.a x1.t a) (List.take y.1 (lat x.frm (f.b,x1.s)))) (emits E.stp (List.flatMap (fun y=>List.map (fun a=>aA_ f.a y.t a) (lat x.frm (Fc.b f,Pc.s y))) (List.take i (lat pm (Ky.mk 6 f.r [])))) nw)) fm y.2}) (fun y=>[(0,zp_ B.g 0),(3,zp_ b1 0),(19,.slice (Prod.fst (A.p (Ky.mk 6 f.r []))) (List.length (lat pm (Ky.mk 6 f.r []))) (Prod.snd (A.p (Ky.mk 6 f.r [])))),(20,.int .i64 (List.length (lat pm (Ky.mk 6 f.r [])):Int)),(21,.int .i64 (i:Int)),(5,zp_ b3 0),(34,.slice (Prod.fst (A.o (f.b,x1.s))) (List.length (lat x.frm (f.b,x1.s))) (Prod.snd (A.o (f.b,x1.s)))),(35,.int .i64 (List.length (lat x.frm (f.b,x1.s)):Int)),(36,.int .i64 (y.1.1:Int))]) (fun y=>((b3,.cells #[.int .i64 x1.kind,str x1.a,str x1.b,str x1.c,str x1.r,str x1.s,str x1.t,.int .i64 x1.lo,.int .i64 x1.hi,.int .i64 x1.frm] 58 (0,0))::((b1,.cells #[.int .i64 f.kind,str f.a,str f.b,str f.r,.int .i64 f.lo,.int .i64 f.hi] 67 (0,0))::y.1.2))) (fun y=>[gF B E,pF B pm A,aF B x A,uF B x A,oF B x A,iF B x A,rF B x A,sF B x A,E.ef]) (fun y=>List.length (lat x.frm (f.b,x1.s)) - y.1.1) ⟨((0:Nat),Hs_i),by simp,by exact hS_i⟩ zl zp zh ?_
 rintro ⟨⟨j,Hs_j⟩,hi_j,hS_j⟩
 dsimp only at hi_j hS_j ⊢
 have hb_j:=(hyl (f.b,x1.s)).1
 refine Zi 2 (fun hr4=>?_) fun hr4=>?_
 ·refine Zz 11 ?_
  exact B_ ⟨(i+1,Hs_j),hlx1,(by rw[gN_ hx1,aD_];have e9:List.take j (lat x.frm (Fc.b f,Pc.s x1))=(lat x.frm (Fc.b f,Pc.s x1)):=List.take_of_length_le (by omega);rw[e9]at hS_j;exact hS_j)⟩ (by dsimp only;omega) zl (o_ (c_ e_) J_) zh
 obtain⟨hlx2,x2,hx2,hmx2⟩:=zge (show j<List.length (lat x.frm (f.b,x1.s)) by omega)
 refine Zz 10 ?_
 refine d_ (M_ p_ K_ rfl rfl (fun v _ h=>A_ (n:=1) ar_ (by decide) (by exact (bj_ h.2.2.2.2.1 (f.b,x1.s))) hx2) (by omega) (by first|omega|(simp;done))) rfl ?_
 refine d_ (bt_ (ad:=(Prod.fst (A.o (f.b,x1.s)))) aq_ rfl (fun v _ h=>by exact (bj_ h.2.2.2.2.1 (f.b,x1.s))) (x_ ar_ hx2 0 _ rfl)) rfl (Zz 3 ?_)
 refine ag_ ((b3,.cells #[.int .i64 x1.kind,str x1.a,str x1.b,str x1.c,str x1.r,str x1.s,str x1.t,.int .i64 x1.lo,.int .i64 x1.hi,.int .i64 x1.frm] 58 (0,0))::((b1,.cells #[.int .i64 f.kind,str f.a,str f.b,str f.r,.int .i64 f.lo,.int .i64 f.hi] 67 (0,0))::[])) zk ?_
 refine t_ 2 [0,1,2,3,4,5,6,7,8] zk zs (Zz 10 ?_)
 refine j_ 9 rfl zk (f_ (lz_ f.a x1.t x2) rfl g_ zt rfl fun _=>Zz 3 ?_)
 refine j_ 10 rfl zk (Q_ (first:=[]) (cap:=E.caps) (E.emit (aA_ f.a x1.t x2) (emits E.stp (List.map (fun a=>aA_ f.a x1.t a) (List.take j (lat x.frm (f.b,x1.s)))) (emits E.stp (List.flatMap (fun y=>List.map (fun a=>aA_ f.a y.t a) (lat x.frm (Fc.b f,Pc.s y))) (List.take i (lat pm (Ky.mk 6 f.r [])))) nw)) fm Hs_j hS_j) rfl rfl zp zf rfl fun⟨Hs2,hS2⟩=>?_)
 dsimp only
 refine Zz 10 ?_
 exact B_ ⟨(j+1,Hs2),hlx2,(by rw[fc_ hx2,aD_];exact hS2)⟩ (by dsimp only;omega) zl zp zh
theorem pr_ (B:EngB) (E:Emt Tryz.prog 67) (A:EngA) (pm:List (Ky×Pc)) (x:Ix) (f:Fc) (nw fm:List Fc) (Hs:Hp) (hS:E.St nw fm Hs) (hpl:∀ k,(lat pm k).length≤1000000000) (hxl:∀ k,(lat x.above k).length≤1000000000∧(lat x.under k).length≤1000000000) (hyl:∀ k,(lat x.frm k).length≤1000000000∧(lat x.into k).length≤1000000000∧(lat x.ranges k).length≤1000000000∧(lat x.firms k).length≤1000000000):Tri Tryz.prog 144 #[zp_ B.g 0,Fc.val f] Hs [gF B E,pF B pm A,aF B x A,uF B x A,oF B x A,iF B x A,rF B x A,sF B x A,E.ef] (fun _:{H':Hp // E.St (emits E.stp (dI_ x f) nw) fm H'}=>.tuple #[]) (fun y=>y.1) (fun _=>[]):=by
 refine l_ Tryz.func144 rfl rfl Tryz.ntmps144 rfl fun v0=>?_
 refine Zz 2 ?_
 refine O_ rfl rfl fun b1=>Zi 6 (fun hr1=>?_) fun hr1=>?_
 ·refine Zz 5 ?_
  exact bQ_ Tryz.results144 ⟨Hs,by unfold dI_;rw[if_neg (by assumption)];exact hS⟩ rfl J_ zt
 refine Zz 5 ?_
 refine t_ 0 [0,1,2,3,4,5,6,7,8] zk zs (Zz 6 ?_)
 refine T_ rfl (bT_ (k:=f.a) (adr:=A.u) jj_ ce_ bi_ rfl rfl zf) rfl (Zz 6 ?_)
 refine ab_ (ι:={y:Nat×Hp // y.1≤List.length (lat x.under f.a)∧E.St (emits E.stp (List.map (fun a=>ap_ a [33]) (List.take y.1 (lat x.under f.a))) nw) fm y.2}) (fun y=>[(0,zp_ B.g 0),(15,.slice (Prod.fst (A.u f.a)) (List.length (lat x.under f.a)) (Prod.snd (A.u f.a))),(16,.int .i64 (List.length (lat x.under f.a):Int)),(17,.int .i64 (y.1.1:Int))]) (fun y=>(y.1.2)) (fun y=>[gF B E,pF B pm A,aF B x A,uF B x A,oF B x A,iF B x A,rF B x A,sF B x A,E.ef]) (fun y=>List.length (lat x.under f.a) - y.1.1) ⟨((0:Nat),Hs),by simp,by exact hS⟩ zl J_ zh ?_
 rintro ⟨⟨i,Hs_i⟩,hi_i,hS_i⟩
 dsimp only at hi_i hS_i ⊢
 have hb_i:=(hxl f.a).2
 refine Zi 2 (fun hr2=>?_) fun hr2=>?_
 ·refine Zz 6 ?_
  exact bQ_ Tryz.results144 ⟨Hs_i,by unfold dI_;rw[if_pos (by assumption)];rw[List.take_of_length_le (by omega)]at hS_i;exact hS_i⟩ rfl aY_ zt
 obtain⟨hlx1,x1,hx1,hmx1⟩:=zge (show i<List.length (lat x.under f.a) by omega)
 refine Zz 10 ?_
 refine d_ (M_ p_ K_ rfl rfl (fun v _ h=>A_ (n:=1) ar_ (by decide) (by exact (bj_ h.2.2.2.1 f.a)) hx1) (by omega) (by first|omega|(simp;done))) rfl ?_
 refine d_ (bt_ (ad:=(Prod.fst (A.u f.a))) aq_ rfl (fun v _ h=>by exact (bj_ h.2.2.2.1 f.a)) (x_ ar_ hx1 0 _ rfl)) rfl (Zz 3 ?_)
 refine ag_ ([]) zk ?_
 refine t_ 2 [0,1,2,3,4] zk zs (Zz 6 ?_)
 refine j_ 5 rfl zk (f_ (gg_ x1 [33]) rfl g_ zt rfl fun _=>D_ re_ (Zz 3 ?_))
 refine j_ 6 rfl zk (Q_ (first:=[]) (cap:=E.caps) (E.emit (ap_ x1 [33]) (emits E.stp (List.map (fun a=>ap_ a [33]) (List.take i (lat x.under f.a))) nw) fm Hs_i hS_i) rfl rfl aY_ zf rfl fun⟨Hs1,hS1⟩=>?_)
 dsimp only
 refine D_ if_ (Zz 10 ?_)
 exact B_ ⟨(i+1,Hs1),hlx1,(by rw[fc_ hx1,aD_];exact hS1)⟩ (by dsimp only;omega) zl aY_ zh
theorem pq_ (B:EngB) (E:Emt Tryz.prog 67) (A:EngA) (pm:List (Ky×Pc)) (x:Ix) (f:Fc) (nw fm:List Fc) (Hs:Hp) (hS:E.St nw fm Hs) (hpl:∀ k,(lat pm k).length≤1000000000) (hxl:∀ k,(lat x.above k).length≤1000000000∧(lat x.under k).length≤1000000000) (hyl:∀ k,(lat x.frm k).length≤1000000000∧(lat x.into k).length≤1000000000∧(lat x.ranges k).length≤1000000000∧(lat x.firms k).length≤1000000000):Tri Tryz.prog 149 #[zp_ B.g 0,Fc.val f] Hs [gF B E,pF B pm A,aF B x A,uF B x A,oF B x A,iF B x A,rF B x A,sF B x A,E.ef] (fun _:{H':Hp // E.St (if ap_ f.b [33]∈E.kof nw then E.stp (ap_ f.a [33]) nw else nw) fm H'}=>.tuple #[]) (fun y=>y.1) (fun _=>[]):=by
 refine l_ Tryz.func149 rfl rfl Tryz.ntmps149 rfl fun v0=>?_
 refine Zz 2 ?_
 refine O_ rfl rfl fun b1=>Zz 4 ?_
 refine t_ 2 [0,1,2,3,4,5] zk zs (Zz 7 ?_)
 refine j_ 6 rfl zk (f_ (gg_ f.b [33]) rfl g_ zt rfl fun _=>Zz 3 ?_)
 refine t_ 0 [7] zk zs (gY_ rfl (hZ_ (f:=(ap_ f.b [33])) hS jk_ aL_ cI_ rfl rfl J_) rfl fun r1 hr1=>Zz 3 ?_)
 cases r1
 ·replace hr1:=zdf hr1
  refine Zz 3 ?_
  exact bQ_ Tryz.results149 ⟨Hs,by first|(rw[if_pos (by assumption)];exact hS)|(rw[if_neg (by assumption)];exact hS)⟩ rfl J_ zt
 replace hr1:=zdt hr1
 refine bC_ rfl ?_
 refine ag_ ((b1,.cells #[.int .i64 f.kind,str f.a,str f.b,str f.r,.int .i64 f.lo,.int .i64 f.hi] 67 (0,0))::[]) zk ?_
 refine t_ 2 [0,1,2,3,4,5] zk zs (Zz 7 ?_)
 refine j_ 6 rfl zk (f_ (gg_ f.a [33]) rfl g_ zt rfl fun _=>Zz 3 ?_)
 refine j_ 7 rfl zk (Q_ (first:=[]) (cap:=E.caps) (E.emit (ap_ f.a [33]) nw fm Hs hS) rfl rfl J_ zf rfl fun⟨Hs1,hS1⟩=>?_)
 dsimp only
 refine Zz 5 ?_
 exact bQ_ Tryz.results149 ⟨Hs1,by first|(rw[if_pos (by assumption)];exact hS1)|(rw[if_neg (by assumption)];exact hS1)⟩ rfl n_ zt
end Go.Proofs.YtamklbgaipakfaaGreatDoor
namespace Go.Proofs.YtamklbgaipakfaaGreatDoor
open Go Go.Sx Go.Proofs
attribute [local irreducible] Code.wp wpList wpAnyH
open Go.Vs
def ivC (i:Int×Int):List Value:=[.int .i64 i.1,.int .i64 i.2]
theorem nv_ (i:Int×Int):(ivC i).length=2:=rfl
def ivV (i:Int×Int):Value:=.agg (ivC i).toArray
def gn_ (i:Int×Int):Int:=if min i.1 i.2 < -1099511627776∨1099511627776<max i.1 i.2 then 1 else if i.2<i.1 then 80 else 0
def jR_ (e:Int) (i:Int×Int):Int:=if e≠0 then e else gn_ i
def gu_ (l:List (Int×Int)):Int:=l.foldl jR_ 0
theorem pd_ {l:List (Int×Int)} {i:Nat} {x:Int×Int} (h:l[i]? = some x):gu_ (List.take (i+1) l)=jR_ (gu_ (List.take i l)) x:=by
  unfold gu_;rw[List.take_add_one,h,Option.toList_some,List.foldl_append];rfl
def st_ (a b:Int×Int):Bool:=decide (gu_ [a,b]=0)&&(decide (b.1≤a.1)&&decide (a.2≤b.2))
theorem vl_ {a b:Int×Int} (ha:-1099511627776≤a.1∧a.1≤a.2∧a.2≤1099511627776) (hb:-1099511627776≤b.1∧b.1≤b.2∧b.2≤1099511627776):st_ a b=decide (b.1≤a.1∧a.2≤b.2):=by
  have e:∀ i:Int×Int,-1099511627776≤i.1∧i.1≤i.2∧i.2≤1099511627776→gn_ i=0:=fun i h=>by
    unfold gn_;rw[if_neg (by omega),if_neg (by omega)]
  have e2:gu_ [a,b]=0:=by simp[gu_,jR_,e a ha,e b hb]
  unfold st_;rw[e2,Bool.eq_iff_iff];simp
theorem qU_:io_ Tryz.prog 255 [(0,1),(1,1)] [.int .i64 0,.int .i64 0]:=⟨_,Tryz.zeroValue255,cD_,fun w=>by simp[as_]⟩
theorem su_ (i:Int×Int):Fn0 Tryz.prog 280 #[ivV i] (.int .i64 (gn_ i)):=by
 refine l_ Tryz.func280 rfl rfl Tryz.ntmps280 rfl fun v0=>?_
 refine Zz 2 ?_
 refine O_ rfl rfl fun b1=>Zz 10 ?_
 refine d_ (iN_ rfl rfl) rfl ?_
 refine Zi 0 (fun hr1=>?_) fun hr1=>?_
 ·refine Zz 10 ?_
  refine d_ (kP_ rfl rfl) rfl (aM_ rfl rfl ?_)
  refine Zi 0 (fun hr2=>?_) fun hr2=>?_
  ·refine Zi 13 (fun hr3=>?_) fun hr3=>?_
   ·refine Zz 11 ?_
    exact I_ Tryz.results280 () (P_ rfl (by unfold gn_;first|(rw[if_pos (by omega)])|(rw[if_neg (by omega),if_pos (by omega)])|(rw[if_neg (by omega),if_neg (by omega)]))) g_ zt
   refine Zz 9 ?_
   exact I_ Tryz.results280 () (P_ rfl (by unfold gn_;first|(rw[if_pos (by omega)])|(rw[if_neg (by omega),if_pos (by omega)])|(rw[if_neg (by omega),if_neg (by omega)]))) g_ zt
  refine Zz 10 ?_
  exact I_ Tryz.results280 () (P_ rfl (by unfold gn_;first|(rw[if_pos (by omega)])|(rw[if_neg (by omega),if_pos (by omega)])|(rw[if_neg (by omega),if_neg (by omega)]))) g_ zt
 refine Zz 17 ?_
 exact I_ Tryz.results280 () (P_ rfl (by unfold gn_;first|(rw[if_pos (by omega)])|(rw[if_neg (by omega),if_pos (by omega)])|(rw[if_neg (by omega),if_neg (by omega)]))) g_ zt
theorem vk_ (e:Int) (i:Int×Int):Fn0 Tryz.prog 279 #[.int .i64 e,ivV i] (.int .i64 (jR_ e i)):=by
 refine l_ Tryz.func279 rfl rfl Tryz.ntmps279 rfl fun v0=>?_
 refine Zz 2 ?_
 refine O_ rfl rfl fun b1=>Zi 7 (fun hr1=>?_) fun hr1=>?_
 ·refine Zz 8 ?_
  refine f_ (su_ i) rfl g_ zt rfl fun _=>Zz 4 ?_
  exact I_ Tryz.results279 () (P_ rfl (by unfold jR_;first|(rw[if_pos (by assumption)])|(rw[if_neg (by omega)]))) g_ zt
 refine Zz 10 ?_
 exact I_ Tryz.results279 () (P_ rfl (by unfold jR_;first|(rw[if_pos (by assumption)])|(rw[if_neg (by omega)]))) g_ zt
theorem qs_ (l:List (Int×Int)) (ad:Option Addr) (cap:Nat) (hl:l.length≤1000000):Tri Tryz.prog 278 #[.slice ad (List.length l) cap,.int .i64 0,.func (.func 279) #[] #[]] [] [ah_ ad (List.flatMap ivC l)] (fun _:Unit=>.int .i64 (gu_ l)) (fun _=>[]) (fun _=>[]):=by
 refine l_ Tryz.func278 rfl rfl Tryz.ntmps278 rfl fun v0=>?_
 refine Zz 14 ?_
 refine ab_ (ι:={y:Nat // y≤l.length}) (fun y=>[(1,.int .i64 (gu_ (List.take y.1 l))),(2,.func (.func 279) #[] #[]),(9,.slice ad (List.length l) cap),(10,.int .i64 (List.length l:Int)),(11,.int .i64 (y.1:Int))]) (fun y=>([])) (fun y=>[ah_ ad (List.flatMap ivC l)]) (fun y=>l.length - y.1) ⟨(0:Nat),by simp⟩ zl g_ zh ?_
 rintro ⟨i,hi⟩
 dsimp only at hi ⊢
 refine Zi 2 (fun hr1=>?_) fun hr1=>?_
 ·refine Zz 13 ?_
  exact I_ Tryz.results278 () (P_ rfl (by rw[List.take_of_length_le (by omega)])) g_ zt
 obtain⟨hlx1,x1,hx1,hmx1⟩:=zge (show i<List.length l by omega)
 refine Zz 10 ?_
 refine d_ (M_ cc_ tm_ rfl rfl (fun v _ h=>A_ (n:=2) nv_ (by decide) (by exact h.1) hx1) (by omega) (by first|omega|(simp;done))) rfl ?_
 refine d_ (Z_ (ad:=ad) (us:=ivC x1) Tryz.isAgg255 tm_ rfl zf (nv_ _) (x_ nv_ hx1)) rfl (F_ Tryz.zeroValue255 rfl fun b1=>w_ 0 tm_ rfl rfl rfl rfl rfl rfl (Zz 6 ?_))
 refine Q_ (vk_ (gu_ (List.take i l)) x1) rfl rfl g_ zt rfl fun _=>Zz 8 ?_
 exact B_ ⟨i+1,hlx1⟩ (by dsimp only;omega) ⟨(P_ rfl (pd_ hx1).symm),rfl,rfl,rfl,rfl,trivial⟩ g_ zh
theorem vm_ (l:List (Int×Int)) (ad:Option Addr) (cap:Nat) (hl:l.length≤1000000):Tri Tryz.prog 257 #[.slice ad (List.length l) cap] [] [ah_ ad (List.flatMap ivC l)] (fun _:Unit=>.int .i64 (gu_ l)) (fun _=>[]) (fun _=>[]):=by
  refine l_ Tryz.func257 rfl rfl Tryz.ntmps257 rfl fun v0=>?_
  refine Zz 8 ?_
  refine f_ (qs_ l ad cap hl) rfl g_ zf rfl fun _=>Zz 4 ?_
  exact I_ Tryz.results257 () rfl g_ zt
theorem sX_ (i j:Int×Int):Fn0 Tryz.prog 213 #[ivV i,ivV j] (.bool (st_ i j)):=by
 refine l_ Tryz.func213 rfl rfl Tryz.ntmps213 rfl fun v0=>?_
 refine Zz 2 ?_
 refine O_ rfl rfl fun b1=>O_ rfl rfl fun b2=>Zz 7 ?_
 refine C_ cc_ tm_ Tryz.zeroValue255 rfl rfl rfl rfl rfl rfl fun b3=>?_
 refine aj_ (List.flatMap ivC [i,j]) e_ rfl ?_
 refine f_ (vm_ [i,j] (some ⟨b3,0,none⟩) 2 (by simp)) rfl g_ zf rfl fun _=>?_
 refine Zi 0 (fun hr1=>?_) fun hr1=>?_
 ·refine Zz 18 ?_
  exact I_ Tryz.results213 () (m_ rfl (by unfold st_;simp_all<;>omega)) g_ zt
 refine Zi 10 (fun hr2=>?_) fun hr2=>?_
 ·refine Zz 12 ?_
  exact I_ Tryz.results213 () (m_ rfl (by unfold st_;simp_all<;>omega)) g_ zt
 refine Zz 11 ?_
 refine E_ (fJ_ rfl rfl) rfl fun r3 hr3=>Zz 5 ?_
 exact I_ Tryz.results213 () (m_ rfl (by unfold st_;simp_all<;>omega)) g_ zt
theorem pH_ (a b c d:Int) (ha:-1099511627776≤a∧a≤b∧b≤1099511627776) (hb:-1099511627776≤c∧c≤d∧d≤1099511627776):Fn0 Tryz.prog 213 #[ivV (a,b),ivV (c,d)] (.bool (decide (c≤a∧b≤d))):=by
  have:=sX_ (a,b) (c,d)
  rw[vl_ ha hb]at this
  exact this
theorem jW_ {α:Type} {p:α→Bool} {l:List α} {i:Nat} {x:α} (h:l[i]? = some x):List.filter p (List.take (i+1) l)=List.filter p (List.take i l)++(if p x then [x] else []):=by
  rw[List.take_add_one,h,Option.toList_some,List.filter_append]
  congr 1
  simp[List.filter_cons]
theorem out_c (B:EngB) (E:Emt Tryz.prog 67) (A:EngA) (pm:List (Ky×Pc)) (x:Ix) (f:Fc) (nw fm:List Fc) (Hs:Hp) (hS:E.St nw fm Hs) (hpl:∀ k,(lat pm k).length≤1000000000) (hxl:∀ k,(lat x.above k).length≤1000000000∧(lat x.under k).length≤1000000000) (hyl:∀ k,(lat x.frm k).length≤1000000000∧(lat x.into k).length≤1000000000∧(lat x.ranges k).length≤1000000000∧(lat x.firms k).length≤1000000000) (hf:-1099511627776≤f.lo∧f.lo≤f.hi∧f.hi≤1099511627776) (hq:∀ y∈lat pm (Ky.mk 9 f.r []),-1099511627776≤y.lo∧y.lo≤y.hi∧y.hi≤1099511627776):Tri Tryz.prog 151 #[zp_ B.g 0,Fc.val f] Hs [gF B E,pF B pm A,aF B x A,uF B x A,oF B x A,iF B x A,rF B x A,sF B x A,E.ef] (fun _:{H':Hp // E.St (emits E.stp (sf_ pm f) nw) fm H'}=>.tuple #[]) (fun y=>y.1) (fun _=>[]):=by
 refine l_ Tryz.func151 rfl rfl Tryz.ntmps151 rfl fun v0=>?_
 refine Zz 2 ?_
 refine O_ rfl rfl fun b1=>Zz 4 ?_
 refine t_ 0 [0,1,2,3,4,5,6,7,8,9] zk zs (Zz 6 ?_)
 refine T_ rfl (u_ eS_ rfl rfl) rfl (T_ rfl (bT_ (k:=(Ky.mk 9 f.r [])) (adr:=A.p) ht_ bH_ ct_ rfl rfl zf) rfl (Zz 6 ?_))
 refine ab_ (ι:={y:Nat×Hp // y.1≤List.length (lat pm (Ky.mk 9 f.r []))∧E.St (emits E.stp (List.map (fun y=>ap_ f.a y.c) (List.filter (fun y=>decide (Pc.lo y≤Fc.lo f∧Fc.hi f≤Pc.hi y)) (List.take y.1 (lat pm (Ky.mk 9 f.r []))))) nw) fm y.2}) (fun y=>[(0,zp_ B.g 0),(3,zp_ b1 0),(13,.slice (Prod.fst (A.p (Ky.mk 9 f.r []))) (List.length (lat pm (Ky.mk 9 f.r []))) (Prod.snd (A.p (Ky.mk 9 f.r [])))),(14,.int .i64 (List.length (lat pm (Ky.mk 9 f.r [])):Int)),(15,.int .i64 (y.1.1:Int))]) (fun y=>((b1,.cells #[.int .i64 f.kind,str f.a,str f.b,str f.r,.int .i64 f.lo,.int .i64 f.hi] 67 (0,0))::y.1.2)) (fun y=>[gF B E,pF B pm A,aF B x A,uF B x A,oF B x A,iF B x A,rF B x A,sF B x A,E.ef]) (fun y=>List.length (lat pm (Ky.mk 9 f.r [])) - y.1.1) ⟨((0:Nat),Hs),by simp,by exact hS⟩ zl zp zh ?_
 rintro ⟨⟨i,Hs_i⟩,hi_i,hS_i⟩
 dsimp only at hi_i hS_i ⊢
 have hb_i:=hpl (Ky.mk 9 f.r [])
 refine Zi 2 (fun hr1=>?_) fun hr1=>?_
 ·refine Zz 6 ?_
  exact bQ_ Tryz.results151 ⟨Hs_i,by unfold sf_;rw[List.take_of_length_le (by omega)]at hS_i;exact hS_i⟩ rfl J_ zt
 obtain⟨hlx1,x1,hx1,hmx1⟩:=zge (show i<List.length (lat pm (Ky.mk 9 f.r [])) by omega)
 refine Zz 10 ?_
 refine d_ (M_ s_ H_ rfl rfl (fun v _ h=>A_ (n:=10) Pc.cells_len (by decide) (by exact (bj_ h.2.1 (Ky.mk 9 f.r []))) hx1) (by omega) (by first|omega|(simp;done))) rfl ?_
 refine d_ (Z_ (ad:=(Prod.fst (A.p (Ky.mk 9 f.r [])))) (us:=Pc.cells x1) eA_ H_ rfl (fun v _ h=>by exact (bj_ h.2.1 (Ky.mk 9 f.r []))) (Pc.cells_len _) (x_ Pc.cells_len hx1)) rfl (F_ S_ rfl fun b2=>w_ 0 H_ rfl rfl rfl rfl rfl rfl (Zz 8 ?_))
 refine d_ (u_ qU_ rfl rfl) rfl (Zz 4 ?_)
 refine d_ (u_ qU_ rfl rfl) rfl (ac_ (pH_ f.lo f.hi x1.lo x1.hi hf (hq x1 hmx1)) rfl g_ zt rfl fun r2 hr2=>Zz 2 ?_)
 cases r2
 ·replace hr2:=zdf hr2
  refine Zz 8 ?_
  exact B_ ⟨(i+1,Hs_i),hlx1,(by rw[jW_ hx1];first|(rw[if_pos (decide_eq_true (by assumption)),List.map_append,aD_];exact hS_i)|(rw[if_neg (by rw[decide_eq_false (by assumption)];decide),List.append_nil];exact hS_i))⟩ (by dsimp only;omega) zl (o_ (c_ e_) J_) zh
 replace hr2:=zdt hr2
 refine bC_ rfl ?_
 refine ag_ ((b2,.cells #[.int .i64 x1.kind,str x1.a,str x1.b,str x1.c,str x1.r,str x1.s,str x1.t,.int .i64 x1.lo,.int .i64 x1.hi,.int .i64 x1.frm] 58 (0,0))::((b1,.cells #[.int .i64 f.kind,str f.a,str f.b,str f.r,.int .i64 f.lo,.int .i64 f.hi] 67 (0,0))::[])) zk ?_
 refine t_ 2 [0,1,2,3,4,5,6,7] zk zs (Zz 9 ?_)
 refine j_ 8 rfl zk (f_ (gg_ f.a x1.c) rfl g_ zt rfl fun _=>Zz 3 ?_)
 refine j_ 9 rfl zk (Q_ (first:=[]) (cap:=E.caps) (E.emit (ap_ f.a x1.c) (emits E.stp (List.map (fun y=>ap_ f.a y.c) (List.filter (fun y=>decide (Pc.lo y≤Fc.lo f∧Fc.hi f≤Pc.hi y)) (List.take i (lat pm (Ky.mk 9 f.r []))))) nw) fm Hs_i hS_i) rfl rfl (c_ J_) zf rfl fun⟨Hs1,hS1⟩=>?_)
 dsimp only
 refine Zz 10 ?_
 exact B_ ⟨(i+1,Hs1),hlx1,(by rw[jW_ hx1];first|(rw[if_pos (decide_eq_true (by assumption)),List.map_append,aD_];exact hS1)|(rw[if_neg (by rw[decide_eq_false (by assumption)];decide),List.append_nil];exact hS1))⟩ (by dsimp only;omega) zl zp zh
theorem eo_ {f:Fc} {l:List Fc} {i:Nat} {x:Fc} (h:l[i]? = some x):gl_ f (List.take (i+1) l)=gl_ f (List.take i l)++(if (!cL_ f x&&decide (dX_ f x≠f∧dX_ f x≠x))=true then [dX_ f x] else []):=by
  unfold gl_
  rw[jW_ h,List.map_append]
  congr 1
  split<;>simp
theorem fC_ {α:Type} {p:α→Bool} {l:List α} {i:Nat} {x:α} (h:l[i]? = some x):List.any (List.take (i+1) l) p=(List.any (List.take i l) p||p x):=by
  rw[List.take_add_one,h,Option.toList_some,List.any_append];simp
theorem meet_c (B:EngB) (E:Emt Tryz.prog 67) (A:EngA) (pm:List (Ky×Pc)) (x:Ix) (f:Fc) (nw fm:List Fc) (Hs:Hp) (hS:E.St nw fm Hs) (hpl:∀ k,(lat pm k).length≤1000000000) (hxl:∀ k,(lat x.above k).length≤1000000000∧(lat x.under k).length≤1000000000) (hyl:∀ k,(lat x.frm k).length≤1000000000∧(lat x.into k).length≤1000000000∧(lat x.ranges k).length≤1000000000∧(lat x.firms k).length≤1000000000):Tri Tryz.prog 150 #[zp_ B.g 0,Fc.val f] Hs [gF B E,pF B pm A,aF B x A,uF B x A,oF B x A,iF B x A,rF B x A,sF B x A,E.ef] (fun _:{H':Hp // E.St (emits E.stp (gl_ f (eO_ x f (decide (f∈fm)))++hs_ f (eO_ x f (decide (f∈fm)))) nw) fm H'}=>.tuple #[]) (fun y=>y.1) (fun _=>[]):=by
 refine l_ Tryz.func150 rfl rfl Tryz.ntmps150 rfl fun v0=>?_
 refine Zz 2 ?_
 refine O_ rfl rfl fun b1=>Zz 8 ?_
 refine d_ (u_ fK_ rfl rfl) rfl (F_ cx_ rfl fun b2=>w_ 0 dL_ rfl rfl rfl rfl rfl rfl (Zz 4 ?_))
 refine t_ 0 [0,1,2,3,4,5,6] zk zs (Zz 5 ?_)
 refine T_ rfl (bT_ (k:=(f.a,f.r)) (adr:=A.s) cZ_ rO_ nZ_ rfl rfl zf) rfl (Zz 7 ?_)
 refine t_ 0 [0,1,2,3,4,5] zk zs (Zz 5 ?_)
 refine gY_ rfl (oc_ (f:=f) hS jk_ aL_ cI_ rfl rfl (c_ J_)) rfl fun r1 hr1=>Zz 3 ?_
 cases r1
 ·replace hr1:=zdf hr1
  refine Zz 17 ?_
  refine ab_ (ι:={y:Nat×Hp×Bool // y.1≤List.length (lat x.firms (f.a,f.r))∧E.St (emits E.stp (gl_ f (List.take y.1 (lat x.firms (f.a,f.r)))) nw) fm y.2.1∧y.2.2=List.any (List.take y.1 (lat x.firms (f.a,f.r))) (cL_ f)}) (fun y=>[(0,zp_ B.g 0),(3,zp_ b1 0),(6,.bool y.1.2.2),(35,.slice (Prod.fst (A.s (f.a,f.r))) (List.length (lat x.firms (f.a,f.r))) (Prod.snd (A.s (f.a,f.r)))),(36,.int .i64 (List.length (lat x.firms (f.a,f.r)):Int)),(37,.int .i64 (y.1.1:Int))]) (fun y=>((b1,.cells #[.int .i64 f.kind,str f.a,str f.b,str f.r,.int .i64 f.lo,.int .i64 f.hi] 67 (0,0))::y.1.2.1)) (fun y=>[gF B E,pF B pm A,aF B x A,uF B x A,oF B x A,iF B x A,rF B x A,sF B x A,E.ef]) (fun y=>List.length (lat x.firms (f.a,f.r)) - y.1.1) ⟨((0:Nat),Hs,false),by simp,by exact hS,by simp⟩ zl (o_ (c_ e_) J_) zh ?_
  rintro ⟨⟨i,Hs_i,e⟩,hi_i,hS_i,he⟩
  dsimp only at hi_i hS_i he ⊢
  have hb_i:=(hyl (f.a,f.r)).2.2.2
  refine Zi 2 (fun hr2=>?_) fun hr2=>?_
  ·refine Zz 11 ?_
   cases e
   ·refine Zz 3 ?_
    exact bQ_ Tryz.results150 ⟨Hs_i,by have hL:(eO_ x f (decide (f∈fm)))=(lat x.firms (f.a,f.r)):=(by unfold eO_;rw[decide_eq_false (by assumption)]<;>rfl);rw[hL,aD_];have e9:List.take i (lat x.firms (f.a,f.r))=(lat x.firms (f.a,f.r)):=List.take_of_length_le (by omega);rw[e9]at he hS_i;unfold hs_;rw[if_neg (by rw[← he];decide)];exact hS_i⟩ rfl J_ zt
   refine bC_ rfl ?_
   refine ag_ ((b1,.cells #[.int .i64 f.kind,str f.a,str f.b,str f.r,.int .i64 f.lo,.int .i64 f.hi] 67 (0,0))::[]) zk ?_
   refine t_ 2 [0,1,2,3,4,5] zk zs (Zz 7 ?_)
   refine j_ 6 rfl zk (f_ (gg_ f.a [33]) rfl g_ zt rfl fun _=>Zz 3 ?_)
   refine j_ 7 rfl zk (Q_ (first:=[]) (cap:=E.caps) (E.emit (ap_ f.a [33]) (emits E.stp (gl_ f (List.take i (lat x.firms (f.a,f.r)))) nw) fm Hs_i hS_i) rfl rfl J_ zf rfl fun⟨Hs1,hS1⟩=>?_)
   dsimp only
   refine Zz 5 ?_
   exact bQ_ Tryz.results150 ⟨Hs1,by have hL:(eO_ x f (decide (f∈fm)))=(lat x.firms (f.a,f.r)):=(by unfold eO_;rw[decide_eq_false (by assumption)]<;>rfl);rw[hL,aD_];have e9:List.take i (lat x.firms (f.a,f.r))=(lat x.firms (f.a,f.r)):=List.take_of_length_le (by omega);rw[e9]at he hS1;unfold hs_;rw[if_pos he.symm];exact hS1⟩ rfl n_ zt
  obtain⟨hlx1,x1,hx1,hmx1⟩:=zge (show i<List.length (lat x.firms (f.a,f.r)) by omega)
  refine Zz 10 ?_
  refine d_ (M_ at_ ay_ rfl rfl (fun v _ h=>A_ (n:=6) Fc.cells_len (by decide) (by exact (bj_ h.2.2.2.2.2.2.2.1 (f.a,f.r))) hx1) (by omega) (by first|omega|(simp;done))) rfl ?_
  refine d_ (Z_ (ad:=(Prod.fst (A.s (f.a,f.r)))) (us:=Fc.cells x1) gf_ ay_ rfl (fun v _ h=>by exact (bj_ h.2.2.2.2.2.2.2.1 (f.a,f.r))) (Fc.cells_len _) (x_ Fc.cells_len hx1)) rfl (F_ aP_ rfl fun b3=>w_ 0 ay_ rfl rfl rfl rfl rfl rfl (Zz 4 ?_))
  refine t_ 0 [0,1,2,3,4,5,6,7,8,9,10,11] zk zs (Zz 4 ?_)
  refine T_ rfl (kP_ rfl rfl) rfl (Zz 4 ?_)
  refine T_ rfl (iN_ rfl rfl) rfl (Zi 9 (fun hr3=>?_) fun hr3=>?_)
  ·refine Zz 11 ?_
   refine f_ (pL_ f.a f.r (max f.lo x1.lo) (min f.hi x1.hi)) rfl g_ zt rfl fun _=>F_ aP_ rfl fun b4=>w_ 0 ay_ rfl rfl rfl rfl rfl rfl (Zz 6 ?_)
   refine E_ (hX_ (p:=(ak_ f.a f.r (max f.lo x1.lo) (min f.hi x1.hi))) (q:=f) rfl rfl) rfl fun r4 hr4=>Zz 1 ?_
   cases r4
   ·replace hr4:=zdf hr4
    refine Zz 14 ?_
    exact B_ ⟨(i+1,Hs_i,e),hlx1,(by rw[eo_ hx1];first|(rw[if_pos (by rw[Bool.and_eq_true];exact⟨by simp only[cL_];rw[decide_eq_false (by omega)];rfl,decide_eq_true ⟨by assumption,by assumption⟩⟩),aD_];exact hS_i)|(rw[if_neg (by rw[Bool.and_eq_true];intro q;first|exact absurd (of_decide_eq_true q.2).1 (by assumption)|exact absurd (of_decide_eq_true q.2).2 (by assumption)|(have q1:=q.1;simp only[cL_]at q1;rw[decide_eq_true (by omega)]at q1;cases q1)),List.append_nil];exact hS_i)),by rw[fC_ hx1,← he];simp only[cL_];rw[decide_eq_false (by omega)];simp⟩ (by dsimp only;omega) zl (o_ (c_ (c_ e_)) (c_ J_)) zh
   replace hr4:=zdt hr4
   refine Zz 5 ?_
   refine E_ (hX_ (p:=(ak_ f.a f.r (max f.lo x1.lo) (min f.hi x1.hi))) (q:=x1) rfl rfl) rfl fun r5 hr5=>Zz 3 ?_
   cases r5
   ·replace hr5:=zdf hr5
    refine Zz 8 ?_
    exact B_ ⟨(i+1,Hs_i,e),hlx1,(by rw[eo_ hx1];first|(rw[if_pos (by rw[Bool.and_eq_true];exact⟨by simp only[cL_];rw[decide_eq_false (by omega)];rfl,decide_eq_true ⟨by assumption,by assumption⟩⟩),aD_];exact hS_i)|(rw[if_neg (by rw[Bool.and_eq_true];intro q;first|exact absurd (of_decide_eq_true q.2).1 (by assumption)|exact absurd (of_decide_eq_true q.2).2 (by assumption)|(have q1:=q.1;simp only[cL_]at q1;rw[decide_eq_true (by omega)]at q1;cases q1)),List.append_nil];exact hS_i)),by rw[fC_ hx1,← he];simp only[cL_];rw[decide_eq_false (by omega)];simp⟩ (by dsimp only;omega) zl (o_ (c_ (c_ e_)) (c_ J_)) zh
   replace hr5:=zdt hr5
   refine bC_ rfl ?_
   refine ag_ ((b4,.cells #[.int .i64 (Fc.kind (ak_ f.a f.r (max f.lo x1.lo) (min f.hi x1.hi))),str (Fc.a (ak_ f.a f.r (max f.lo x1.lo) (min f.hi x1.hi))),str (Fc.b (ak_ f.a f.r (max f.lo x1.lo) (min f.hi x1.hi))),str (Fc.r (ak_ f.a f.r (max f.lo x1.lo) (min f.hi x1.hi))),.int .i64 (Fc.lo (ak_ f.a f.r (max f.lo x1.lo) (min f.hi x1.hi))),.int .i64 (Fc.hi (ak_ f.a f.r (max f.lo x1.lo) (min f.hi x1.hi)))] 67 (0,0))::((b3,.cells #[.int .i64 x1.kind,str x1.a,str x1.b,str x1.r,.int .i64 x1.lo,.int .i64 x1.hi] 67 (0,0))::((b1,.cells #[.int .i64 f.kind,str f.a,str f.b,str f.r,.int .i64 f.lo,.int .i64 f.hi] 67 (0,0))::[]))) zk ?_
   refine t_ 1 [0,1,2,3,4] zk zs (Zz 6 ?_)
   refine j_ 5 rfl zk (Q_ (first:=[]) (cap:=E.caps) (E.emit (ak_ f.a f.r (max f.lo x1.lo) (min f.hi x1.hi)) (emits E.stp (gl_ f (List.take i (lat x.firms (f.a,f.r)))) nw) fm Hs_i hS_i) rfl rfl (c_ (c_ J_)) zf rfl fun⟨Hs2,hS2⟩=>?_)
   dsimp only
   refine Zz 10 ?_
   exact B_ ⟨(i+1,Hs2,e),hlx1,(by rw[eo_ hx1];first|(rw[if_pos (by rw[Bool.and_eq_true];exact⟨by simp only[cL_];rw[decide_eq_false (by omega)];rfl,decide_eq_true ⟨by assumption,by assumption⟩⟩),aD_];exact hS2)|(rw[if_neg (by rw[Bool.and_eq_true];intro q;first|exact absurd (of_decide_eq_true q.2).1 (by assumption)|exact absurd (of_decide_eq_true q.2).2 (by assumption)|(have q1:=q.1;simp only[cL_]at q1;rw[decide_eq_true (by omega)]at q1;cases q1)),List.append_nil];exact hS2)),by rw[fC_ hx1,← he];simp only[cL_];rw[decide_eq_false (by omega)];simp⟩ (by dsimp only;omega) zl zp zh
  refine Zz 12 ?_
  exact B_ ⟨(i+1,Hs_i,true),hlx1,(by rw[eo_ hx1];first|(rw[if_pos (by rw[Bool.and_eq_true];exact⟨by simp only[cL_];rw[decide_eq_false (by omega)];rfl,decide_eq_true ⟨by assumption,by assumption⟩⟩),aD_];exact hS_i)|(rw[if_neg (by rw[Bool.and_eq_true];intro q;first|exact absurd (of_decide_eq_true q.2).1 (by assumption)|exact absurd (of_decide_eq_true q.2).2 (by assumption)|(have q1:=q.1;simp only[cL_]at q1;rw[decide_eq_true (by omega)]at q1;cases q1)),List.append_nil];exact hS_i)),by rw[fC_ hx1,← he];simp only[cL_];rw[decide_eq_true (by omega)];simp⟩ (by dsimp only;omega) zl (o_ (c_ e_) J_) zh
 replace hr1:=zdt hr1
 refine Zz 2 ?_
 refine t_ 0 [0,1,2,3,4,5,6] zk zs (Zz 5 ?_)
 refine T_ rfl (bT_ (k:=(f.a,f.r)) (adr:=A.r) cZ_ rO_ nZ_ rfl rfl zf) rfl (Zz 18 ?_)
 refine ab_ (ι:={y:Nat×Hp×Bool // y.1≤List.length (lat x.ranges (f.a,f.r))∧E.St (emits E.stp (gl_ f (List.take y.1 (lat x.ranges (f.a,f.r)))) nw) fm y.2.1∧y.2.2=List.any (List.take y.1 (lat x.ranges (f.a,f.r))) (cL_ f)}) (fun y=>[(0,zp_ B.g 0),(3,zp_ b1 0),(6,.bool y.1.2.2),(35,.slice (Prod.fst (A.r (f.a,f.r))) (List.length (lat x.ranges (f.a,f.r))) (Prod.snd (A.r (f.a,f.r)))),(36,.int .i64 (List.length (lat x.ranges (f.a,f.r)):Int)),(37,.int .i64 (y.1.1:Int))]) (fun y=>((b1,.cells #[.int .i64 f.kind,str f.a,str f.b,str f.r,.int .i64 f.lo,.int .i64 f.hi] 67 (0,0))::y.1.2.1)) (fun y=>[gF B E,pF B pm A,aF B x A,uF B x A,oF B x A,iF B x A,rF B x A,sF B x A,E.ef]) (fun y=>List.length (lat x.ranges (f.a,f.r)) - y.1.1) ⟨((0:Nat),Hs,false),by simp,by exact hS,by simp⟩ zl (o_ (c_ e_) J_) zh ?_
 rintro ⟨⟨i,Hs_i,e⟩,hi_i,hS_i,he⟩
 dsimp only at hi_i hS_i he ⊢
 have hb_i:=(hyl (f.a,f.r)).2.2.1
 refine Zi 2 (fun hr6=>?_) fun hr6=>?_
 ·refine Zz 11 ?_
  cases e
  ·refine Zz 3 ?_
   exact bQ_ Tryz.results150 ⟨Hs_i,by have hL:(eO_ x f (decide (f∈fm)))=(lat x.ranges (f.a,f.r)):=(by unfold eO_;rw[decide_eq_true (by assumption)]<;>rfl);rw[hL,aD_];have e9:List.take i (lat x.ranges (f.a,f.r))=(lat x.ranges (f.a,f.r)):=List.take_of_length_le (by omega);rw[e9]at he hS_i;unfold hs_;rw[if_neg (by rw[← he];decide)];exact hS_i⟩ rfl J_ zt
  refine bC_ rfl ?_
  refine ag_ ((b1,.cells #[.int .i64 f.kind,str f.a,str f.b,str f.r,.int .i64 f.lo,.int .i64 f.hi] 67 (0,0))::[]) zk ?_
  refine t_ 2 [0,1,2,3,4,5] zk zs (Zz 7 ?_)
  refine j_ 6 rfl zk (f_ (gg_ f.a [33]) rfl g_ zt rfl fun _=>Zz 3 ?_)
  refine j_ 7 rfl zk (Q_ (first:=[]) (cap:=E.caps) (E.emit (ap_ f.a [33]) (emits E.stp (gl_ f (List.take i (lat x.ranges (f.a,f.r)))) nw) fm Hs_i hS_i) rfl rfl J_ zf rfl fun⟨Hs3,hS3⟩=>?_)
  dsimp only
  refine Zz 5 ?_
  exact bQ_ Tryz.results150 ⟨Hs3,by have hL:(eO_ x f (decide (f∈fm)))=(lat x.ranges (f.a,f.r)):=(by unfold eO_;rw[decide_eq_true (by assumption)]<;>rfl);rw[hL,aD_];have e9:List.take i (lat x.ranges (f.a,f.r))=(lat x.ranges (f.a,f.r)):=List.take_of_length_le (by omega);rw[e9]at he hS3;unfold hs_;rw[if_pos he.symm];exact hS3⟩ rfl n_ zt
 obtain⟨hlx1,x1,hx1,hmx1⟩:=zge (show i<List.length (lat x.ranges (f.a,f.r)) by omega)
 refine Zz 10 ?_
 refine d_ (M_ at_ ay_ rfl rfl (fun v _ h=>A_ (n:=6) Fc.cells_len (by decide) (by exact (bj_ h.2.2.2.2.2.2.1 (f.a,f.r))) hx1) (by omega) (by first|omega|(simp;done))) rfl ?_
 refine d_ (Z_ (ad:=(Prod.fst (A.r (f.a,f.r)))) (us:=Fc.cells x1) gf_ ay_ rfl (fun v _ h=>by exact (bj_ h.2.2.2.2.2.2.1 (f.a,f.r))) (Fc.cells_len _) (x_ Fc.cells_len hx1)) rfl (F_ aP_ rfl fun b5=>w_ 0 ay_ rfl rfl rfl rfl rfl rfl (Zz 4 ?_))
 refine t_ 0 [0,1,2,3,4,5,6,7,8,9,10,11] zk zs (Zz 4 ?_)
 refine T_ rfl (kP_ rfl rfl) rfl (Zz 4 ?_)
 refine T_ rfl (iN_ rfl rfl) rfl (Zi 9 (fun hr7=>?_) fun hr7=>?_)
 ·refine Zz 11 ?_
  refine f_ (pL_ f.a f.r (max f.lo x1.lo) (min f.hi x1.hi)) rfl g_ zt rfl fun _=>F_ aP_ rfl fun b6=>w_ 0 ay_ rfl rfl rfl rfl rfl rfl (Zz 6 ?_)
  refine E_ (hX_ (p:=(ak_ f.a f.r (max f.lo x1.lo) (min f.hi x1.hi))) (q:=f) rfl rfl) rfl fun r8 hr8=>Zz 1 ?_
  cases r8
  ·replace hr8:=zdf hr8
   refine Zz 14 ?_
   exact B_ ⟨(i+1,Hs_i,e),hlx1,(by rw[eo_ hx1];first|(rw[if_pos (by rw[Bool.and_eq_true];exact⟨by simp only[cL_];rw[decide_eq_false (by omega)];rfl,decide_eq_true ⟨by assumption,by assumption⟩⟩),aD_];exact hS_i)|(rw[if_neg (by rw[Bool.and_eq_true];intro q;first|exact absurd (of_decide_eq_true q.2).1 (by assumption)|exact absurd (of_decide_eq_true q.2).2 (by assumption)|(have q1:=q.1;simp only[cL_]at q1;rw[decide_eq_true (by omega)]at q1;cases q1)),List.append_nil];exact hS_i)),by rw[fC_ hx1,← he];simp only[cL_];rw[decide_eq_false (by omega)];simp⟩ (by dsimp only;omega) zl (o_ (c_ (c_ e_)) (c_ J_)) zh
  replace hr8:=zdt hr8
  refine Zz 5 ?_
  refine E_ (hX_ (p:=(ak_ f.a f.r (max f.lo x1.lo) (min f.hi x1.hi))) (q:=x1) rfl rfl) rfl fun r9 hr9=>Zz 3 ?_
  cases r9
  ·replace hr9:=zdf hr9
   refine Zz 8 ?_
   exact B_ ⟨(i+1,Hs_i,e),hlx1,(by rw[eo_ hx1];first|(rw[if_pos (by rw[Bool.and_eq_true];exact⟨by simp only[cL_];rw[decide_eq_false (by omega)];rfl,decide_eq_true ⟨by assumption,by assumption⟩⟩),aD_];exact hS_i)|(rw[if_neg (by rw[Bool.and_eq_true];intro q;first|exact absurd (of_decide_eq_true q.2).1 (by assumption)|exact absurd (of_decide_eq_true q.2).2 (by assumption)|(have q1:=q.1;simp only[cL_]at q1;rw[decide_eq_true (by omega)]at q1;cases q1)),List.append_nil];exact hS_i)),by rw[fC_ hx1,← he];simp only[cL_];rw[decide_eq_false (by omega)];simp⟩ (by dsimp only;omega) zl (o_ (c_ (c_ e_)) (c_ J_)) zh
  replace hr9:=zdt hr9
  refine bC_ rfl ?_
  refine ag_ ((b6,.cells #[.int .i64 (Fc.kind (ak_ f.a f.r (max f.lo x1.lo) (min f.hi x1.hi))),str (Fc.a (ak_ f.a f.r (max f.lo x1.lo) (min f.hi x1.hi))),str (Fc.b (ak_ f.a f.r (max f.lo x1.lo) (min f.hi x1.hi))),str (Fc.r (ak_ f.a f.r (max f.lo x1.lo) (min f.hi x1.hi))),.int .i64 (Fc.lo (ak_ f.a f.r (max f.lo x1.lo) (min f.hi x1.hi))),.int .i64 (Fc.hi (ak_ f.a f.r (max f.lo x1.lo) (min f.hi x1.hi)))] 67 (0,0))::((b5,.cells #[.int .i64 x1.kind,str x1.a,str x1.b,str x1.r,.int .i64 x1.lo,.int .i64 x1.hi] 67 (0,0))::((b1,.cells #[.int .i64 f.kind,str f.a,str f.b,str f.r,.int .i64 f.lo,.int .i64 f.hi] 67 (0,0))::[]))) zk ?_
  refine t_ 1 [0,1,2,3,4] zk zs (Zz 6 ?_)
  refine j_ 5 rfl zk (Q_ (first:=[]) (cap:=E.caps) (E.emit (ak_ f.a f.r (max f.lo x1.lo) (min f.hi x1.hi)) (emits E.stp (gl_ f (List.take i (lat x.ranges (f.a,f.r)))) nw) fm Hs_i hS_i) rfl rfl (c_ (c_ J_)) zf rfl fun⟨Hs4,hS4⟩=>?_)
  dsimp only
  refine Zz 10 ?_
  exact B_ ⟨(i+1,Hs4,e),hlx1,(by rw[eo_ hx1];first|(rw[if_pos (by rw[Bool.and_eq_true];exact⟨by simp only[cL_];rw[decide_eq_false (by omega)];rfl,decide_eq_true ⟨by assumption,by assumption⟩⟩),aD_];exact hS4)|(rw[if_neg (by rw[Bool.and_eq_true];intro q;first|exact absurd (of_decide_eq_true q.2).1 (by assumption)|exact absurd (of_decide_eq_true q.2).2 (by assumption)|(have q1:=q.1;simp only[cL_]at q1;rw[decide_eq_true (by omega)]at q1;cases q1)),List.append_nil];exact hS4)),by rw[fC_ hx1,← he];simp only[cL_];rw[decide_eq_false (by omega)];simp⟩ (by dsimp only;omega) zl zp zh
 refine Zz 12 ?_
 exact B_ ⟨(i+1,Hs_i,true),hlx1,(by rw[eo_ hx1];first|(rw[if_pos (by rw[Bool.and_eq_true];exact⟨by simp only[cL_];rw[decide_eq_false (by omega)];rfl,decide_eq_true ⟨by assumption,by assumption⟩⟩),aD_];exact hS_i)|(rw[if_neg (by rw[Bool.and_eq_true];intro q;first|exact absurd (of_decide_eq_true q.2).1 (by assumption)|exact absurd (of_decide_eq_true q.2).2 (by assumption)|(have q1:=q.1;simp only[cL_]at q1;rw[decide_eq_true (by omega)]at q1;cases q1)),List.append_nil];exact hS_i)),by rw[fC_ hx1,← he];simp only[cL_];rw[decide_eq_true (by omega)];simp⟩ (by dsimp only;omega) zl (o_ (c_ e_) J_) zh
theorem vF_ (B:EngB) (E:Emt Tryz.prog 67) (nw fm:List Fc) (Hs:Hp) (hS:E.St nw fm Hs) (al:List Str) (aad:Option Addr) (acap:Nat) (hal:al.length≤1000000000) (hll:B.lps.length≤1000000000):Tri Tryz.prog 72 #[zp_ B.g 0,.slice aad (List.length al) acap] Hs [gF B E,ah_ B.lad (List.flatMap ax_ B.lps),ah_ aad (List.flatMap ax_ al),E.ef] (fun _:{H':Hp // E.St (emits E.stp (gv_ B.lps al) nw) fm H'}=>.tuple #[]) (fun y=>y.1) (fun _=>[]):=by
 refine l_ Tryz.func72 rfl rfl Tryz.ntmps72 rfl fun v0=>?_
 refine Zz 8 ?_
 refine ab_ (ι:={y:Nat×Hp // y.1≤List.length al∧E.St (emits E.stp (List.flatMap (fun a=>ap_ a a::ap_ a [42]::List.map (fun r=>aA_ a r a) B.lps) (List.take y.1 al)) nw) fm y.2}) (fun y=>[(0,zp_ B.g 0),(8,.slice aad (List.length al) acap),(9,.int .i64 (List.length al:Int)),(10,.int .i64 (y.1.1:Int))]) (fun y=>(y.1.2)) (fun y=>[gF B E,ah_ B.lad (List.flatMap ax_ B.lps),ah_ aad (List.flatMap ax_ al),E.ef]) (fun y=>List.length al - y.1.1) ⟨((0:Nat),Hs),by simp,by exact hS⟩ zl aY_ zh ?_
 rintro ⟨⟨i,Hs_i⟩,hi_i,hS_i⟩
 dsimp only at hi_i hS_i ⊢
 have hb_i:=hal
 refine Zi 2 (fun hr1=>?_) fun hr1=>?_
 ·refine Zz 6 ?_
  exact bQ_ Tryz.results72 ⟨Hs_i,by unfold gv_;rw[List.take_of_length_le (by omega)]at hS_i;exact hS_i⟩ rfl aY_ zt
 obtain⟨hlx1,x1,hx1,hmx1⟩:=zge (show i<List.length al by omega)
 refine Zz 16 ?_
 refine ag_ ([]) zk ?_
 refine t_ 2 [0,1,2,3,4,5] zk zs (Zz 7 ?_)
 refine j_ 6 rfl zk (f_ (gg_ x1 x1) rfl g_ zt rfl fun _=>D_ re_ (Zz 3 ?_))
 refine j_ 7 rfl zk (Q_ (first:=[]) (cap:=E.caps) (E.emit (ap_ x1 x1) (emits E.stp (List.flatMap (fun a=>ap_ a a::ap_ a [42]::List.map (fun r=>aA_ a r a) B.lps) (List.take i al)) nw) fm Hs_i hS_i) rfl rfl aY_ zf rfl fun⟨Hs1,hS1⟩=>?_)
 dsimp only
 refine D_ if_ (Zz 6 ?_)
 refine ag_ ([]) zk ?_
 refine t_ 2 [0,1,2,3,4] zk zs (Zz 6 ?_)
 refine j_ 5 rfl zk (f_ (gg_ x1 [42]) rfl g_ zt rfl fun _=>D_ re_ (Zz 3 ?_))
 refine j_ 6 rfl zk (Q_ (first:=[]) (cap:=E.caps) (E.emit (ap_ x1 [42]) (E.stp (ap_ x1 x1) (emits E.stp (List.flatMap (fun a=>ap_ a a::ap_ a [42]::List.map (fun r=>aA_ a r a) B.lps) (List.take i al)) nw)) fm Hs1 hS1) rfl rfl aY_ zf rfl fun⟨Hs2,hS2⟩=>?_)
 dsimp only
 refine D_ if_ (Zz 16 ?_)
 refine ab_ (ι:={y:Nat×Hp // y.1≤List.length B.lps∧E.St (emits E.stp (List.map (fun r=>aA_ x1 r x1) (List.take y.1 B.lps)) (E.stp (ap_ x1 [42]) (E.stp (ap_ x1 x1) (emits E.stp (List.flatMap (fun a=>ap_ a a::ap_ a [42]::List.map (fun r=>aA_ a r a) B.lps) (List.take i al)) nw)))) fm y.2}) (fun y=>[(0,zp_ B.g 0),(8,.slice aad (List.length al) acap),(9,.int .i64 (List.length al:Int)),(10,.int .i64 (i:Int)),(5,str x1),(32,.slice B.lad (List.length B.lps) B.lcap),(33,.int .i64 (List.length B.lps:Int)),(34,.int .i64 (y.1.1:Int))]) (fun y=>(y.1.2)) (fun y=>[gF B E,ah_ B.lad (List.flatMap ax_ B.lps),ah_ aad (List.flatMap ax_ al),E.ef]) (fun y=>List.length B.lps - y.1.1) ⟨((0:Nat),Hs2),by simp,by exact hS2⟩ zl aY_ zh ?_
 rintro ⟨⟨j,Hs_j⟩,hi_j,hS_j⟩
 dsimp only at hi_j hS_j ⊢
 have hb_j:=hll
 refine Zi 2 (fun hr2=>?_) fun hr2=>?_
 ·refine Zz 11 ?_
  exact B_ ⟨(i+1,Hs_j),hlx1,(by rw[gN_ hx1,aD_];have e9:List.take j B.lps=B.lps:=List.take_of_length_le (by omega);rw[e9]at hS_j;exact hS_j)⟩ (by dsimp only;omega) zl aY_ zh
 have hlx2:j<List.length B.lps:=by omega
 obtain⟨x2,hx2⟩:∃ e0,B.lps[j]? = some e0:=⟨_,List.getElem?_eq_getElem hlx2⟩
 have hmx2:x2∈B.lps:=List.mem_of_getElem? hx2
 refine Zz 15 ?_
 refine ag_ ([]) zk ?_
 refine t_ 2 [0,1,2,3,4,5,6] zk zs (Zz 8 ?_)
 refine j_ 7 rfl zk (f_ (lz_ x1 x2 x1) rfl g_ zt rfl fun _=>D_ re_ (Zz 3 ?_))
 refine j_ 8 rfl zk (Q_ (first:=[]) (cap:=E.caps) (E.emit (aA_ x1 x2 x1) (emits E.stp (List.map (fun r=>aA_ x1 r x1) (List.take j B.lps)) (E.stp (ap_ x1 [42]) (E.stp (ap_ x1 x1) (emits E.stp (List.flatMap (fun a=>ap_ a a::ap_ a [42]::List.map (fun r=>aA_ a r a) B.lps) (List.take i al)) nw)))) fm Hs_j hS_j) rfl rfl aY_ zf rfl fun⟨Hs3,hS3⟩=>?_)
 dsimp only
 refine D_ if_ (Zz 10 ?_)
 exact B_ ⟨(j+1,Hs3),hlx2,(by rw[fc_ hx2,aD_];exact hS3)⟩ (by dsimp only;omega) zl aY_ zh
end Go.Proofs.YtamklbgaipakfaaGreatDoor
