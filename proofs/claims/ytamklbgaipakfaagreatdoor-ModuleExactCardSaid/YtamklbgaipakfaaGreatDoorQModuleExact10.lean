/-
  Part of the proof of the law ModuleExact over this seat: the small logic, the data, the contracts of functions (no condition).
-/
import Derived.Test.YtamklbgaipakfaaGreatDoorQModuleExact9
import Derived.Test.YtamklbgaipakfaaGreatDoorQModuleExact8
import Derived.Test.YtamklbgaipakfaaGreatDoorQModuleExact6
set_option linter.unusedVariables false
set_option linter.unusedSimpArgs false
set_option linter.unusedSectionVars false
set_option maxHeartbeats 1000000
namespace Go.Proofs.YtamklbgaipakfaaGreatDoor
open Go Go.Sx Go.Proofs
attribute [local irreducible] Code.wp wpList wpAnyH
open Go.Vs
theorem fj_ {α β:Type} {g:α→β} {l:List α} {i:Nat} {x:α} (h:l[i]? = some x):List.map g (List.take (i+1) l)=List.map g (List.take i l)++[g x]:=by
  rw[List.take_add_one,h,Option.toList_some,List.map_append];rfl
theorem gs_ (a b:Str):Fn0 Tryz.prog 138 #[str a,str b] (Fc.val (ar_ a b)):=by
  refine l_ Tryz.func138 rfl rfl Tryz.ntmps138 rfl fun v0=>?_
  refine Zz 2 ?_
  refine K_ aQ_ rfl fun b1=>Zz 6 ?_
  refine d_ (w_ lj_ rfl rfl) rfl (x_ 0 aA_ rfl rfl rfl rfl rfl rfl (Zz 3 ?_))
  exact fE_ () (fun aa v h1 h2=>dV_ (us:=Fc.cells (ar_ a b)) 0 Tryz.results138 gq_ aA_ rfl rfl rfl aa v h1 h2) g_ zt
theorem lJ_ (a r b:Str):Fn0 Tryz.prog 139 #[str a,str r,str b] (Fc.val (ax_ a r b)):=by
  refine l_ Tryz.func139 rfl rfl Tryz.ntmps139 rfl fun v0=>?_
  refine Zz 2 ?_
  refine K_ aQ_ rfl fun b1=>Zz 7 ?_
  refine d_ (w_ lj_ rfl rfl) rfl (x_ 0 aA_ rfl rfl rfl rfl rfl rfl (Zz 3 ?_))
  exact fE_ () (fun aa v h1 h2=>dV_ (us:=Fc.cells (ax_ a r b)) 0 Tryz.results139 gq_ aA_ rfl rfl rfl aa v h1 h2) g_ zt
theorem qg_ (a r:Str) (lo hi:Int):Fn0 Tryz.prog 212 #[str a,str r,.int .i64 lo,.int .i64 hi] (Fc.val (ak_ a r lo hi)):=by
  refine l_ Tryz.func212 rfl rfl Tryz.ntmps212 rfl fun v0=>?_
  refine Zz 2 ?_
  refine K_ aQ_ rfl fun b1=>Zz 8 ?_
  refine d_ (w_ lj_ rfl rfl) rfl (x_ 0 aA_ rfl rfl rfl rfl rfl rfl (Zz 3 ?_))
  exact fE_ () (fun aa v h1 h2=>dV_ (us:=Fc.cells (ak_ a r lo hi)) 0 Tryz.results212 gq_ aA_ rfl rfl rfl aa v h1 h2) g_ zt
theorem sQ_ (B:EngB) (E:Emt Tryz.prog 67) (A:EngA) (pm:List (Ky×Pc)) (x:Ix) (f:Fc) (nw fm:List Fc) (Hs:Hp) (hS:E.St nw fm Hs) (hpl:∀ k,(lat pm k).length≤1000000000) (hxl:∀ k,(lat x.above k).length≤1000000000∧(lat x.under k).length≤1000000000) (hyl:∀ k,(lat x.frm k).length≤1000000000∧(lat x.into k).length≤1000000000∧(lat x.ranges k).length≤1000000000∧(lat x.firms k).length≤1000000000):Tri Tryz.prog 140 #[zp_ B.g 0,Fc.val f] Hs [gF B E,pF B pm A,aF B x A,uF B x A,oF B x A,iF B x A,rF B x A,sF B x A,E.ef] (fun _:{H':Hp // E.St (emits E.stp (hc_ pm f) nw) fm H'}=>.tuple #[]) (fun y=>y.1) (fun _=>[]):=by
 refine l_ Tryz.func140 rfl rfl Tryz.ntmps140 rfl fun v0=>?_
 refine Zz 2 ?_
 refine U_ rfl rfl fun b1=>Zz 4 ?_
 refine z_ 0 [0,1,2,3,4,5,6,7,8,9] zk zs (Zz 6 ?_)
 refine P_ rfl (w_ fa_ rfl rfl) rfl (P_ rfl (cc_ (k:=(Ky.mk 1 [] f.b)) (adr:=A.p) hC_ bQ_ cC_ rfl rfl zf) rfl (Zz 6 ?_))
 refine ai_ (ι:={y:Nat×Hp // y.1≤List.length (lat pm (Ky.mk 1 [] f.b))∧E.St (emits E.stp (List.map (fun y=>ar_ f.a y.c) (List.take y.1 (lat pm (Ky.mk 1 [] f.b)))) nw) fm y.2}) (fun y=>[(0,zp_ B.g 0),(3,zp_ b1 0),(13,.slice (Prod.fst (A.p (Ky.mk 1 [] f.b))) (List.length (lat pm (Ky.mk 1 [] f.b))) (Prod.snd (A.p (Ky.mk 1 [] f.b)))),(14,.int .i64 (List.length (lat pm (Ky.mk 1 [] f.b)):Int)),(15,.int .i64 (y.1.1:Int))]) (fun y=>((b1,.cells #[.int .i64 f.kind,str f.a,str f.b,str f.r,.int .i64 f.lo,.int .i64 f.hi] 67 (0,0))::y.1.2)) (fun y=>[gF B E,pF B pm A,aF B x A,uF B x A,oF B x A,iF B x A,rF B x A,sF B x A,E.ef]) (fun y=>List.length (lat pm (Ky.mk 1 [] f.b)) - y.1.1) ⟨((0:Nat),Hs),by simp,by exact hS⟩ zl zp zh ?_
 rintro ⟨⟨i,Hs_i⟩,hi_i,hS_i⟩
 dsimp only at hi_i hS_i ⊢
 have hb_i:=hpl (Ky.mk 1 [] f.b)
 refine Zi 2 (fun hr1=>?_) fun hr1=>?_
 ·refine Zz 6 ?_
  exact bX_ Tryz.results140 ⟨Hs_i,by unfold hc_;rw[List.take_of_length_le (by omega)]at hS_i;exact hS_i⟩ rfl M_ zt
 obtain⟨hlx1,x1,hx1,hmx1⟩:=zge (show i<List.length (lat pm (Ky.mk 1 [] f.b)) by omega)
 refine Zz 10 ?_
 refine d_ (L_ q_ F_ rfl rfl (fun v _ h=>y_ (n:=10) Pc.cells_len (by decide) (by exact (bo_ h.2.1 (Ky.mk 1 [] f.b))) hx1) (by omega) (by first|omega|(simp;done))) rfl ?_
 refine d_ (af_ (ad:=(Prod.fst (A.p (Ky.mk 1 [] f.b)))) (us:=Pc.cells x1) eI_ F_ rfl (fun v _ h=>by exact (bo_ h.2.1 (Ky.mk 1 [] f.b))) (Pc.cells_len _) (u_ Pc.cells_len hx1)) rfl (K_ Z_ rfl fun b2=>x_ 0 F_ rfl rfl rfl rfl rfl rfl (Zz 2 ?_))
 refine am_ ((b2,.cells #[.int .i64 x1.kind,str x1.a,str x1.b,str x1.c,str x1.r,str x1.s,str x1.t,.int .i64 x1.lo,.int .i64 x1.hi,.int .i64 x1.frm] 58 (0,0))::((b1,.cells #[.int .i64 f.kind,str f.a,str f.b,str f.r,.int .i64 f.lo,.int .i64 f.hi] 67 (0,0))::[])) zk ?_
 refine z_ 2 [0,1,2,3,4,5,6,7] zk zs (Zz 9 ?_)
 refine j_ 8 rfl zk (f_ (gs_ f.a x1.c) rfl g_ zt rfl fun _=>Zz 3 ?_)
 refine j_ 9 rfl zk (Y_ (first:=[]) (cap:=E.caps) (E.emit (ar_ f.a x1.c) (emits E.stp (List.map (fun y=>ar_ f.a y.c) (List.take i (lat pm (Ky.mk 1 [] f.b)))) nw) fm Hs_i hS_i) rfl rfl (c_ M_) zf rfl fun⟨Hs1,hS1⟩=>?_)
 dsimp only
 refine Zz 10 ?_
 exact J_ ⟨(i+1,Hs1),hlx1,(by rw[fj_ hx1,aC_];exact hS1)⟩ (by dsimp only;omega) zl zp zh
theorem some_c (B:EngB) (E:Emt Tryz.prog 67) (A:EngA) (pm:List (Ky×Pc)) (x:Ix) (f:Fc) (nw fm:List Fc) (Hs:Hp) (hS:E.St nw fm Hs) (hpl:∀ k,(lat pm k).length≤1000000000) (hxl:∀ k,(lat x.above k).length≤1000000000∧(lat x.under k).length≤1000000000) (hyl:∀ k,(lat x.frm k).length≤1000000000∧(lat x.into k).length≤1000000000∧(lat x.ranges k).length≤1000000000∧(lat x.firms k).length≤1000000000):Tri Tryz.prog 142 #[zp_ B.g 0,Fc.val f] Hs [gF B E,pF B pm A,aF B x A,uF B x A,oF B x A,iF B x A,rF B x A,sF B x A,E.ef] (fun _:{H':Hp // E.St (emits E.stp (mB_ pm f) nw) fm H'}=>.tuple #[]) (fun y=>y.1) (fun _=>[]):=by
 refine l_ Tryz.func142 rfl rfl Tryz.ntmps142 rfl fun v0=>?_
 refine Zz 2 ?_
 refine U_ rfl rfl fun b1=>Zz 4 ?_
 refine z_ 0 [0,1,2,3,4,5,6,7,8,9] zk zs (Zz 6 ?_)
 refine P_ rfl (w_ fa_ rfl rfl) rfl (P_ rfl (cc_ (k:=(Ky.mk 3 [] f.b)) (adr:=A.p) hC_ bQ_ cC_ rfl rfl zf) rfl (Zz 6 ?_))
 refine ai_ (ι:={y:Nat×Hp // y.1≤List.length (lat pm (Ky.mk 3 [] f.b))∧E.St (emits E.stp (List.map (fun y=>ax_ f.a y.r y.c) (List.take y.1 (lat pm (Ky.mk 3 [] f.b)))) nw) fm y.2}) (fun y=>[(0,zp_ B.g 0),(3,zp_ b1 0),(13,.slice (Prod.fst (A.p (Ky.mk 3 [] f.b))) (List.length (lat pm (Ky.mk 3 [] f.b))) (Prod.snd (A.p (Ky.mk 3 [] f.b)))),(14,.int .i64 (List.length (lat pm (Ky.mk 3 [] f.b)):Int)),(15,.int .i64 (y.1.1:Int))]) (fun y=>((b1,.cells #[.int .i64 f.kind,str f.a,str f.b,str f.r,.int .i64 f.lo,.int .i64 f.hi] 67 (0,0))::y.1.2)) (fun y=>[gF B E,pF B pm A,aF B x A,uF B x A,oF B x A,iF B x A,rF B x A,sF B x A,E.ef]) (fun y=>List.length (lat pm (Ky.mk 3 [] f.b)) - y.1.1) ⟨((0:Nat),Hs),by simp,by exact hS⟩ zl zp zh ?_
 rintro ⟨⟨i,Hs_i⟩,hi_i,hS_i⟩
 dsimp only at hi_i hS_i ⊢
 have hb_i:=hpl (Ky.mk 3 [] f.b)
 refine Zi 2 (fun hr1=>?_) fun hr1=>?_
 ·refine Zz 6 ?_
  exact bX_ Tryz.results142 ⟨Hs_i,by unfold mB_;rw[List.take_of_length_le (by omega)]at hS_i;exact hS_i⟩ rfl M_ zt
 obtain⟨hlx1,x1,hx1,hmx1⟩:=zge (show i<List.length (lat pm (Ky.mk 3 [] f.b)) by omega)
 refine Zz 10 ?_
 refine d_ (L_ q_ F_ rfl rfl (fun v _ h=>y_ (n:=10) Pc.cells_len (by decide) (by exact (bo_ h.2.1 (Ky.mk 3 [] f.b))) hx1) (by omega) (by first|omega|(simp;done))) rfl ?_
 refine d_ (af_ (ad:=(Prod.fst (A.p (Ky.mk 3 [] f.b)))) (us:=Pc.cells x1) eI_ F_ rfl (fun v _ h=>by exact (bo_ h.2.1 (Ky.mk 3 [] f.b))) (Pc.cells_len _) (u_ Pc.cells_len hx1)) rfl (K_ Z_ rfl fun b2=>x_ 0 F_ rfl rfl rfl rfl rfl rfl (Zz 2 ?_))
 refine am_ ((b2,.cells #[.int .i64 x1.kind,str x1.a,str x1.b,str x1.c,str x1.r,str x1.s,str x1.t,.int .i64 x1.lo,.int .i64 x1.hi,.int .i64 x1.frm] 58 (0,0))::((b1,.cells #[.int .i64 f.kind,str f.a,str f.b,str f.r,.int .i64 f.lo,.int .i64 f.hi] 67 (0,0))::[])) zk ?_
 refine z_ 2 [0,1,2,3,4,5,6,7,8,9] zk zs (Zz 11 ?_)
 refine j_ 10 rfl zk (f_ (lJ_ f.a x1.r x1.c) rfl g_ zt rfl fun _=>Zz 3 ?_)
 refine j_ 11 rfl zk (Y_ (first:=[]) (cap:=E.caps) (E.emit (ax_ f.a x1.r x1.c) (emits E.stp (List.map (fun y=>ax_ f.a y.r y.c) (List.take i (lat pm (Ky.mk 3 [] f.b)))) nw) fm Hs_i hS_i) rfl rfl (c_ M_) zf rfl fun⟨Hs1,hS1⟩=>?_)
 dsimp only
 refine Zz 10 ?_
 exact J_ ⟨(i+1,Hs1),hlx1,(by rw[fj_ hx1,aC_];exact hS1)⟩ (by dsimp only;omega) zl zp zh
theorem sJ_ (B:EngB) (E:Emt Tryz.prog 67) (A:EngA) (pm:List (Ky×Pc)) (x:Ix) (f:Fc) (nw fm:List Fc) (Hs:Hp) (hS:E.St nw fm Hs) (hpl:∀ k,(lat pm k).length≤1000000000) (hxl:∀ k,(lat x.above k).length≤1000000000∧(lat x.under k).length≤1000000000) (hyl:∀ k,(lat x.frm k).length≤1000000000∧(lat x.into k).length≤1000000000∧(lat x.ranges k).length≤1000000000∧(lat x.firms k).length≤1000000000):Tri Tryz.prog 146 #[zp_ B.g 0,Fc.val f] Hs [gF B E,pF B pm A,aF B x A,uF B x A,oF B x A,iF B x A,rF B x A,sF B x A,E.ef] (fun _:{H':Hp // E.St (emits E.stp (gY_ pm f) nw) fm H'}=>.tuple #[]) (fun y=>y.1) (fun _=>[]):=by
 refine l_ Tryz.func146 rfl rfl Tryz.ntmps146 rfl fun v0=>?_
 refine Zz 2 ?_
 refine U_ rfl rfl fun b1=>Zz 4 ?_
 refine z_ 0 [0,1,2,3,4,5,6,7,8,9] zk zs (Zz 6 ?_)
 refine P_ rfl (w_ fa_ rfl rfl) rfl (P_ rfl (cc_ (k:=(Ky.mk 5 f.r [])) (adr:=A.p) hC_ bQ_ cC_ rfl rfl zf) rfl (Zz 6 ?_))
 refine ai_ (ι:={y:Nat×Hp // y.1≤List.length (lat pm (Ky.mk 5 f.r []))∧E.St (emits E.stp (List.map (fun y=>ax_ f.a y.t f.b) (List.take y.1 (lat pm (Ky.mk 5 f.r [])))) nw) fm y.2}) (fun y=>[(0,zp_ B.g 0),(3,zp_ b1 0),(13,.slice (Prod.fst (A.p (Ky.mk 5 f.r []))) (List.length (lat pm (Ky.mk 5 f.r []))) (Prod.snd (A.p (Ky.mk 5 f.r [])))),(14,.int .i64 (List.length (lat pm (Ky.mk 5 f.r [])):Int)),(15,.int .i64 (y.1.1:Int))]) (fun y=>((b1,.cells #[.int .i64 f.kind,str f.a,str f.b,str f.r,.int .i64 f.lo,.int .i64 f.hi] 67 (0,0))::y.1.2)) (fun y=>[gF B E,pF B pm A,aF B x A,uF B x A,oF B x A,iF B x A,rF B x A,sF B x A,E.ef]) (fun y=>List.length (lat pm (Ky.mk 5 f.r [])) - y.1.1) ⟨((0:Nat),Hs),by simp,by exact hS⟩ zl zp zh ?_
 rintro ⟨⟨i,Hs_i⟩,hi_i,hS_i⟩
 dsimp only at hi_i hS_i ⊢
 have hb_i:=hpl (Ky.mk 5 f.r [])
 refine Zi 2 (fun hr1=>?_) fun hr1=>?_
 ·refine Zz 6 ?_
  exact bX_ Tryz.results146 ⟨Hs_i,by unfold gY_;rw[List.take_of_length_le (by omega)]at hS_i;exact hS_i⟩ rfl M_ zt
 obtain⟨hlx1,x1,hx1,hmx1⟩:=zge (show i<List.length (lat pm (Ky.mk 5 f.r [])) by omega)
 refine Zz 10 ?_
 refine d_ (L_ q_ F_ rfl rfl (fun v _ h=>y_ (n:=10) Pc.cells_len (by decide) (by exact (bo_ h.2.1 (Ky.mk 5 f.r []))) hx1) (by omega) (by first|omega|(simp;done))) rfl ?_
 refine d_ (af_ (ad:=(Prod.fst (A.p (Ky.mk 5 f.r [])))) (us:=Pc.cells x1) eI_ F_ rfl (fun v _ h=>by exact (bo_ h.2.1 (Ky.mk 5 f.r []))) (Pc.cells_len _) (u_ Pc.cells_len hx1)) rfl (K_ Z_ rfl fun b2=>x_ 0 F_ rfl rfl rfl rfl rfl rfl (Zz 2 ?_))
 refine am_ ((b2,.cells #[.int .i64 x1.kind,str x1.a,str x1.b,str x1.c,str x1.r,str x1.s,str x1.t,.int .i64 x1.lo,.int .i64 x1.hi,.int .i64 x1.frm] 58 (0,0))::((b1,.cells #[.int .i64 f.kind,str f.a,str f.b,str f.r,.int .i64 f.lo,.int .i64 f.hi] 67 (0,0))::[])) zk ?_
 refine z_ 2 [0,1,2,3,4,5,6,7,8,9] zk zs (Zz 11 ?_)
 refine j_ 10 rfl zk (f_ (lJ_ f.a x1.t f.b) rfl g_ zt rfl fun _=>Zz 3 ?_)
 refine j_ 11 rfl zk (Y_ (first:=[]) (cap:=E.caps) (E.emit (ax_ f.a x1.t f.b) (emits E.stp (List.map (fun y=>ax_ f.a y.t f.b) (List.take i (lat pm (Ky.mk 5 f.r [])))) nw) fm Hs_i hS_i) rfl rfl (c_ M_) zf rfl fun⟨Hs1,hS1⟩=>?_)
 dsimp only
 refine Zz 10 ?_
 exact J_ ⟨(i+1,Hs1),hlx1,(by rw[fj_ hx1,aC_];exact hS1)⟩ (by dsimp only;omega) zl zp zh
theorem ha_ {α β:Type} {g:α→List β} {l:List α} {i:Nat} {x:α} (h:l[i]? = some x):List.flatMap g (List.take (i+1) l)=List.flatMap g (List.take i l)++g x:=by
  rw[List.take_add_one,h,Option.toList_some,List.flatMap_append];simp
theorem ki_ {stp:Fc→List Fc→List Fc} {kof:List Fc→List Fc} {f:Fc} {l:List Pc} {i:Nat} {x:Pc} {s:List Fc} (h:l[i]? = some x):eJ_ stp kof f (List.take (i+1) l) s=if ar_ f.a x.a∈kof (eJ_ stp kof f (List.take i l) s)∧ar_ f.a x.b∈kof (eJ_ stp kof f (List.take i l) s) then stp (ar_ f.a x.c) (eJ_ stp kof f (List.take i l) s) else eJ_ stp kof f (List.take i l) s:=by
  unfold eJ_
  rw[List.take_add_one,h,Option.toList_some,List.foldl_append];rfl
theorem lb_ {stp:Fc→List Fc→List Fc} {kof:List Fc→List Fc} {f:Fc} {l:List Pc} {i:Nat} {x:Pc} {s:List Fc×List Fc} (h:l[i]? = some x):cv_ stp kof f (List.take (i+1) l) s=(stp (ak_ f.a x.r x.lo x.hi) (cv_ stp kof f (List.take i l) s).1,if ak_ f.a x.r x.lo x.hi∈kof (cv_ stp kof f (List.take i l) s).1 then (cv_ stp kof f (List.take i l) s).2 else ak_ f.a x.r x.lo x.hi::(cv_ stp kof f (List.take i l) s).2):=by
  unfold cv_
  rw[List.take_add_one,h,Option.toList_some,List.foldl_append];rfl
theorem both_c (B:EngB) (E:Emt Tryz.prog 67) (A:EngA) (pm:List (Ky×Pc)) (x:Ix) (f:Fc) (nw fm:List Fc) (Hs:Hp) (hS:E.St nw fm Hs) (hpl:∀ k,(lat pm k).length≤1000000000) (hxl:∀ k,(lat x.above k).length≤1000000000∧(lat x.under k).length≤1000000000) (hyl:∀ k,(lat x.frm k).length≤1000000000∧(lat x.into k).length≤1000000000∧(lat x.ranges k).length≤1000000000∧(lat x.firms k).length≤1000000000):Tri Tryz.prog 141 #[zp_ B.g 0,Fc.val f] Hs [gF B E,pF B pm A,aF B x A,uF B x A,oF B x A,iF B x A,rF B x A,sF B x A,E.ef] (fun _:{H':Hp // E.St (eJ_ E.stp E.kof f (lat pm (Ky.mk 2 [] f.b)) nw) fm H'}=>.tuple #[]) (fun y=>y.1) (fun _=>[]):=by
 refine l_ Tryz.func141 rfl rfl Tryz.ntmps141 rfl fun v0=>?_
 refine Zz 2 ?_
 refine U_ rfl rfl fun b1=>Zz 4 ?_
 refine z_ 0 [0,1,2,3,4,5,6,7,8,9] zk zs (Zz 6 ?_)
 refine P_ rfl (w_ fa_ rfl rfl) rfl (P_ rfl (cc_ (k:=(Ky.mk 2 [] f.b)) (adr:=A.p) hC_ bQ_ cC_ rfl rfl zf) rfl (Zz 6 ?_))
 refine ai_ (ι:={y:Nat×Hp // y.1≤List.length (lat pm (Ky.mk 2 [] f.b))∧E.St (eJ_ E.stp E.kof f (List.take y.1 (lat pm (Ky.mk 2 [] f.b))) nw) fm y.2}) (fun y=>[(0,zp_ B.g 0),(3,zp_ b1 0),(13,.slice (Prod.fst (A.p (Ky.mk 2 [] f.b))) (List.length (lat pm (Ky.mk 2 [] f.b))) (Prod.snd (A.p (Ky.mk 2 [] f.b)))),(14,.int .i64 (List.length (lat pm (Ky.mk 2 [] f.b)):Int)),(15,.int .i64 (y.1.1:Int))]) (fun y=>((b1,.cells #[.int .i64 f.kind,str f.a,str f.b,str f.r,.int .i64 f.lo,.int .i64 f.hi] 67 (0,0))::y.1.2)) (fun y=>[gF B E,pF B pm A,aF B x A,uF B x A,oF B x A,iF B x A,rF B x A,sF B x A,E.ef]) (fun y=>List.length (lat pm (Ky.mk 2 [] f.b)) - y.1.1) ⟨((0:Nat),Hs),by simp,by exact hS⟩ zl zp zh ?_
 rintro ⟨⟨i,Hs_i⟩,hi_i,hS_i⟩
 dsimp only at hi_i hS_i ⊢
 have hb_i:=hpl (Ky.mk 2 [] f.b)
 refine Zi 2 (fun hr1=>?_) fun hr1=>?_
 ·refine Zz 6 ?_
  exact bX_ Tryz.results141 ⟨Hs_i,by rw[List.take_of_length_le (by omega)]at hS_i;exact hS_i⟩ rfl M_ zt
 obtain⟨hlx1,x1,hx1,hmx1⟩:=zge (show i<List.length (lat pm (Ky.mk 2 [] f.b)) by omega)
 refine Zz 10 ?_
 refine d_ (L_ q_ F_ rfl rfl (fun v _ h=>y_ (n:=10) Pc.cells_len (by decide) (by exact (bo_ h.2.1 (Ky.mk 2 [] f.b))) hx1) (by omega) (by first|omega|(simp;done))) rfl ?_
 refine d_ (af_ (ad:=(Prod.fst (A.p (Ky.mk 2 [] f.b)))) (us:=Pc.cells x1) eI_ F_ rfl (fun v _ h=>by exact (bo_ h.2.1 (Ky.mk 2 [] f.b))) (Pc.cells_len _) (u_ Pc.cells_len hx1)) rfl (K_ Z_ rfl fun b2=>x_ 0 F_ rfl rfl rfl rfl rfl rfl (Zz 4 ?_))
 refine z_ 14 [0,1,2,3,4,5,6,7] zk zs (Zz 9 ?_)
 refine j_ 8 rfl zk (f_ (gs_ f.a x1.a) rfl g_ zt rfl fun _=>Zz 3 ?_)
 refine z_ 11 [9,10] zk zs (gt_ rfl (ih_ (f:=(ar_ f.a x1.a)) hS_i jr_ aO_ cR_ rfl rfl (c_ M_)) rfl fun r2 hr2=>Zz 2 ?_)
 cases r2
 ·replace hr2:=zdf hr2
  refine z_ 0 [11,12,13,14,15,16,17,18,19,20,21] zk zs (Zz 22 ?_)
  exact J_ ⟨(i+1,Hs_i),hlx1,(by rw[ki_ hx1];first|(rw[if_pos ⟨by assumption,by assumption⟩];exact hS_i)|(rw[if_neg (fun q=>absurd q.1 (by assumption))];exact hS_i)|(rw[if_neg (fun q=>absurd q.2 (by assumption))];exact hS_i))⟩ (by dsimp only;omega) zl (p_ (c_ e_) M_) zh
 replace hr2:=zdt hr2
 refine z_ 3 [11,12,13,14,15,16,17,18] zk zs (Zz 9 ?_)
 refine j_ 19 rfl zk (aF_ rfl rfl (f_ (gs_ f.a x1.b) rfl g_ zt rfl fun _=>Zz 3 ?_))
 refine z_ 0 [20,21] zk zs (gO_ rfl rfl rfl (ih_ (f:=(ar_ f.a x1.b)) hS_i jr_ aO_ cR_ rfl rfl (c_ M_)) rfl fun r3 hr3=>Zz 4 ?_)
 cases r3
 ·replace hr3:=zdf hr3
  refine Zz 8 ?_
  exact J_ ⟨(i+1,Hs_i),hlx1,(by rw[ki_ hx1];first|(rw[if_pos ⟨by assumption,by assumption⟩];exact hS_i)|(rw[if_neg (fun q=>absurd q.1 (by assumption))];exact hS_i)|(rw[if_neg (fun q=>absurd q.2 (by assumption))];exact hS_i))⟩ (by dsimp only;omega) zl (p_ (c_ e_) M_) zh
 replace hr3:=zdt hr3
 refine bg_ rfl ?_
 refine am_ ((b2,.cells #[.int .i64 x1.kind,str x1.a,str x1.b,str x1.c,str x1.r,str x1.s,str x1.t,.int .i64 x1.lo,.int .i64 x1.hi,.int .i64 x1.frm] 58 (0,0))::((b1,.cells #[.int .i64 f.kind,str f.a,str f.b,str f.r,.int .i64 f.lo,.int .i64 f.hi] 67 (0,0))::[])) zk ?_
 refine z_ 2 [0,1,2,3,4,5,6,7] zk zs (Zz 9 ?_)
 refine j_ 8 rfl zk (f_ (gs_ f.a x1.c) rfl g_ zt rfl fun _=>Zz 3 ?_)
 refine j_ 9 rfl zk (Y_ (first:=[]) (cap:=E.caps) (E.emit (ar_ f.a x1.c) (eJ_ E.stp E.kof f (List.take i (lat pm (Ky.mk 2 [] f.b))) nw) fm Hs_i hS_i) rfl rfl (c_ M_) zf rfl fun⟨Hs1,hS1⟩=>?_)
 dsimp only
 refine Zz 10 ?_
 exact J_ ⟨(i+1,Hs1),hlx1,(by rw[ki_ hx1];first|(rw[if_pos ⟨by assumption,by assumption⟩];exact hS1)|(rw[if_neg (fun q=>absurd q.1 (by assumption))];exact hS1)|(rw[if_neg (fun q=>absurd q.2 (by assumption))];exact hS1))⟩ (by dsimp only;omega) zl zp zh
theorem uQ_ (B:EngB) (E:Emt Tryz.prog 67) (A:EngA) (pm:List (Ky×Pc)) (x:Ix) (f:Fc) (nw fm:List Fc) (Hs:Hp) (hS:E.St nw fm Hs) (hpl:∀ k,(lat pm k).length≤1000000000) (hxl:∀ k,(lat x.above k).length≤1000000000∧(lat x.under k).length≤1000000000) (hyl:∀ k,(lat x.frm k).length≤1000000000∧(lat x.into k).length≤1000000000∧(lat x.ranges k).length≤1000000000∧(lat x.firms k).length≤1000000000):Tri Tryz.prog 145 #[zp_ B.g 0,Fc.val f] Hs [gF B E,pF B pm A,aF B x A,uF B x A,oF B x A,iF B x A,rF B x A,sF B x A,E.ef] (fun _:{H':Hp // E.St (Prod.fst (cv_ E.stp E.kof f (lat pm (Ky.mk 8 [] f.b)) (nw,fm))) (Prod.snd (cv_ E.stp E.kof f (lat pm (Ky.mk 8 [] f.b)) (nw,fm))) H'}=>.tuple #[]) (fun y=>y.1) (fun _=>[]):=by
 refine l_ Tryz.func145 rfl rfl Tryz.ntmps145 rfl fun v0=>?_
 refine Zz 2 ?_
 refine U_ rfl rfl fun b1=>Zz 4 ?_
 refine z_ 0 [0,1,2,3,4,5,6,7,8,9] zk zs (Zz 6 ?_)
 refine P_ rfl (w_ fa_ rfl rfl) rfl (P_ rfl (cc_ (k:=(Ky.mk 8 [] f.b)) (adr:=A.p) hC_ bQ_ cC_ rfl rfl zf) rfl (Zz 6 ?_))
 refine ai_ (ι:={y:Nat×Hp // y.1≤List.length (lat pm (Ky.mk 8 [] f.b))∧E.St (Prod.fst (cv_ E.stp E.kof f (List.take y.1 (lat pm (Ky.mk 8 [] f.b))) (nw,fm))) (Prod.snd (cv_ E.stp E.kof f (List.take y.1 (lat pm (Ky.mk 8 [] f.b))) (nw,fm))) y.2}) (fun y=>[(0,zp_ B.g 0),(3,zp_ b1 0),(14,.slice (Prod.fst (A.p (Ky.mk 8 [] f.b))) (List.length (lat pm (Ky.mk 8 [] f.b))) (Prod.snd (A.p (Ky.mk 8 [] f.b)))),(15,.int .i64 (List.length (lat pm (Ky.mk 8 [] f.b)):Int)),(16,.int .i64 (y.1.1:Int))]) (fun y=>((b1,.cells #[.int .i64 f.kind,str f.a,str f.b,str f.r,.int .i64 f.lo,.int .i64 f.hi] 67 (0,0))::y.1.2)) (fun y=>[gF B E,pF B pm A,aF B x A,uF B x A,oF B x A,iF B x A,rF B x A,sF B x A,E.ef]) (fun y=>List.length (lat pm (Ky.mk 8 [] f.b)) - y.1.1) ⟨((0:Nat),Hs),by simp,by exact hS⟩ zl zp zh ?_
 rintro ⟨⟨i,Hs_i⟩,hi_i,hS_i⟩
 dsimp only at hi_i hS_i ⊢
 have hb_i:=hpl (Ky.mk 8 [] f.b)
 refine Zi 2 (fun hr1=>?_) fun hr1=>?_
 ·refine Zz 6 ?_
  exact bX_ Tryz.results145 ⟨Hs_i,by rw[List.take_of_length_le (by omega)]at hS_i;exact hS_i⟩ rfl M_ zt
 obtain⟨hlx1,x1,hx1,hmx1⟩:=zge (show i<List.length (lat pm (Ky.mk 8 [] f.b)) by omega)
 refine Zz 10 ?_
 refine d_ (L_ q_ F_ rfl rfl (fun v _ h=>y_ (n:=10) Pc.cells_len (by decide) (by exact (bo_ h.2.1 (Ky.mk 8 [] f.b))) hx1) (by omega) (by first|omega|(simp;done))) rfl ?_
 refine d_ (af_ (ad:=(Prod.fst (A.p (Ky.mk 8 [] f.b)))) (us:=Pc.cells x1) eI_ F_ rfl (fun v _ h=>by exact (bo_ h.2.1 (Ky.mk 8 [] f.b))) (Pc.cells_len _) (u_ Pc.cells_len hx1)) rfl (K_ Z_ rfl fun b2=>x_ 0 F_ rfl rfl rfl rfl rfl rfl (Zz 12 ?_))
 refine f_ (qg_ f.a x1.r x1.lo x1.hi) rfl g_ zt rfl fun _=>K_ aQ_ rfl fun b3=>x_ 0 aA_ rfl rfl rfl rfl rfl rfl (Zz 5 ?_)
 refine z_ 0 [0,1,2,3,4,5,6] zk zs (Zz 5 ?_)
 refine gt_ rfl (ih_ (f:=(ak_ f.a x1.r x1.lo x1.hi)) hS_i jr_ aO_ cR_ rfl rfl (c_ (c_ M_))) rfl fun r2 hr2=>P_ rfl (bb_ rfl) rfl (Zz 3 ?_)
 cases r2
 ·replace hr2:=zdf hr2
  refine bg_ rfl ?_
  refine am_ ((b3,.cells #[.int .i64 (Fc.kind (ak_ f.a x1.r x1.lo x1.hi)),str (Fc.a (ak_ f.a x1.r x1.lo x1.hi)),str (Fc.b (ak_ f.a x1.r x1.lo x1.hi)),str (Fc.r (ak_ f.a x1.r x1.lo x1.hi)),.int .i64 (Fc.lo (ak_ f.a x1.r x1.lo x1.hi)),.int .i64 (Fc.hi (ak_ f.a x1.r x1.lo x1.hi))] 67 (0,0))::((b2,.cells #[.int .i64 x1.kind,str x1.a,str x1.b,str x1.c,str x1.r,str x1.s,str x1.t,.int .i64 x1.lo,.int .i64 x1.hi,.int .i64 x1.frm] 58 (0,0))::((b1,.cells #[.int .i64 f.kind,str f.a,str f.b,str f.r,.int .i64 f.lo,.int .i64 f.hi] 67 (0,0))::[]))) zk ?_
  refine z_ 1 [0,1,2,3,4] zk zs (Zz 6 ?_)
  refine j_ 5 rfl zk (tR_ (f:=(ak_ f.a x1.r x1.lo x1.hi)) hS_i jr_ (.inr rfl) aO_ rfl rfl rfl (c_ (c_ M_)) fun Hs1 hS1=>Zz 5 ?_)
  refine am_ ((b3,.cells #[.int .i64 (Fc.kind (ak_ f.a x1.r x1.lo x1.hi)),str (Fc.a (ak_ f.a x1.r x1.lo x1.hi)),str (Fc.b (ak_ f.a x1.r x1.lo x1.hi)),str (Fc.r (ak_ f.a x1.r x1.lo x1.hi)),.int .i64 (Fc.lo (ak_ f.a x1.r x1.lo x1.hi)),.int .i64 (Fc.hi (ak_ f.a x1.r x1.lo x1.hi))] 67 (0,0))::((b2,.cells #[.int .i64 x1.kind,str x1.a,str x1.b,str x1.c,str x1.r,str x1.s,str x1.t,.int .i64 x1.lo,.int .i64 x1.hi,.int .i64 x1.frm] 58 (0,0))::((b1,.cells #[.int .i64 f.kind,str f.a,str f.b,str f.r,.int .i64 f.lo,.int .i64 f.hi] 67 (0,0))::[]))) zk ?_
  refine z_ 1 [0,1,2,3,4] zk zs (Zz 6 ?_)
  refine j_ 5 rfl zk (Y_ (first:=[]) (cap:=E.caps) (E.emit (ak_ f.a x1.r x1.lo x1.hi) (Prod.fst (cv_ E.stp E.kof f (List.take i (lat pm (Ky.mk 8 [] f.b))) (nw,fm))) ((ak_ f.a x1.r x1.lo x1.hi)::(Prod.snd (cv_ E.stp E.kof f (List.take i (lat pm (Ky.mk 8 [] f.b))) (nw,fm)))) Hs1 hS1) rfl rfl o_ zf rfl fun⟨Hs2,hS2⟩=>?_)
  dsimp only
  refine Zz 10 ?_
  exact J_ ⟨(i+1,Hs2),hlx1,(by rw[lb_ hx1];dsimp only;first|(rw[if_pos (by assumption)];exact hS2)|(rw[if_neg (by assumption)];exact hS2))⟩ (by dsimp only;omega) zl zp zh
 replace hr2:=zdt hr2
 refine Zz 3 ?_
 refine am_ ((b3,.cells #[.int .i64 (Fc.kind (ak_ f.a x1.r x1.lo x1.hi)),str (Fc.a (ak_ f.a x1.r x1.lo x1.hi)),str (Fc.b (ak_ f.a x1.r x1.lo x1.hi)),str (Fc.r (ak_ f.a x1.r x1.lo x1.hi)),.int .i64 (Fc.lo (ak_ f.a x1.r x1.lo x1.hi)),.int .i64 (Fc.hi (ak_ f.a x1.r x1.lo x1.hi))] 67 (0,0))::((b2,.cells #[.int .i64 x1.kind,str x1.a,str x1.b,str x1.c,str x1.r,str x1.s,str x1.t,.int .i64 x1.lo,.int .i64 x1.hi,.int .i64 x1.frm] 58 (0,0))::((b1,.cells #[.int .i64 f.kind,str f.a,str f.b,str f.r,.int .i64 f.lo,.int .i64 f.hi] 67 (0,0))::[]))) zk ?_
 refine z_ 1 [0,1,2,3,4] zk zs (Zz 6 ?_)
 refine j_ 5 rfl zk (Y_ (first:=[]) (cap:=E.caps) (E.emit (ak_ f.a x1.r x1.lo x1.hi) (Prod.fst (cv_ E.stp E.kof f (List.take i (lat pm (Ky.mk 8 [] f.b))) (nw,fm))) (Prod.snd (cv_ E.stp E.kof f (List.take i (lat pm (Ky.mk 8 [] f.b))) (nw,fm))) Hs_i hS_i) rfl rfl (c_ (c_ M_)) zf rfl fun⟨Hs3,hS3⟩=>?_)
 dsimp only
 refine Zz 10 ?_
 exact J_ ⟨(i+1,Hs3),hlx1,(by rw[lb_ hx1];dsimp only;first|(rw[if_pos (by assumption)];exact hS3)|(rw[if_neg (by assumption)];exact hS3))⟩ (by dsimp only;omega) zl zp zh
theorem qR_ (B:EngB) (E:Emt Tryz.prog 67) (A:EngA) (pm:List (Ky×Pc)) (x:Ix) (f:Fc) (nw fm:List Fc) (Hs:Hp) (hS:E.St nw fm Hs) (hpl:∀ k,(lat pm k).length≤1000000000) (hxl:∀ k,(lat x.above k).length≤1000000000∧(lat x.under k).length≤1000000000) (hyl:∀ k,(lat x.frm k).length≤1000000000∧(lat x.into k).length≤1000000000∧(lat x.ranges k).length≤1000000000∧(lat x.firms k).length≤1000000000):Tri Tryz.prog 143 #[zp_ B.g 0,Fc.val f] Hs [gF B E,pF B pm A,aF B x A,uF B x A,oF B x A,iF B x A,rF B x A,sF B x A,E.ef] (fun _:{H':Hp // E.St (emits E.stp (fY_ pm x f) nw) fm H'}=>.tuple #[]) (fun y=>y.1) (fun _=>[]):=by
 refine l_ Tryz.func143 rfl rfl Tryz.ntmps143 rfl fun v0=>?_
 refine Zz 2 ?_
 refine U_ rfl rfl fun b1=>Zz 4 ?_
 refine z_ 0 [0,1,2,3,4,5,6,7,8,9] zk zs (Zz 6 ?_)
 refine P_ rfl (w_ fa_ rfl rfl) rfl (P_ rfl (cc_ (k:=(Ky.mk 4 [] f.b)) (adr:=A.p) hC_ bQ_ cC_ rfl rfl zf) rfl (Zz 6 ?_))
 refine ai_ (ι:={y:Nat×Hp // y.1≤List.length (lat pm (Ky.mk 4 [] f.b))∧E.St (emits E.stp (List.flatMap (fun y=>List.map (fun a=>ar_ a y.c) (lat x.into (Fc.a f,Pc.r y))) (List.take y.1 (lat pm (Ky.mk 4 [] f.b)))) nw) fm y.2}) (fun y=>[(0,zp_ B.g 0),(3,zp_ b1 0),(15,.slice (Prod.fst (A.p (Ky.mk 4 [] f.b))) (List.length (lat pm (Ky.mk 4 [] f.b))) (Prod.snd (A.p (Ky.mk 4 [] f.b)))),(16,.int .i64 (List.length (lat pm (Ky.mk 4 [] f.b)):Int)),(17,.int .i64 (y.1.1:Int))]) (fun y=>((b1,.cells #[.int .i64 f.kind,str f.a,str f.b,str f.r,.int .i64 f.lo,.int .i64 f.hi] 67 (0,0))::y.1.2)) (fun y=>[gF B E,pF B pm A,aF B x A,uF B x A,oF B x A,iF B x A,rF B x A,sF B x A,E.ef]) (fun y=>List.length (lat pm (Ky.mk 4 [] f.b)) - y.1.1) ⟨((0:Nat),Hs),by simp,by exact hS⟩ zl zp zh ?_
 rintro ⟨⟨i,Hs_i⟩,hi_i,hS_i⟩
 dsimp only at hi_i hS_i ⊢
 have hb_i:=hpl (Ky.mk 4 [] f.b)
 refine Zi 2 (fun hr1=>?_) fun hr1=>?_
 ·refine Zz 6 ?_
  exact bX_ Tryz.results143 ⟨Hs_i,by unfold fY_;rw[List.take_of_length_le (by omega)]at hS_i;exact hS_i⟩ rfl M_ zt
 obtain⟨hlx1,x1,hx1,hmx1⟩:=zge (show i<List.length (lat pm (Ky.mk 4 [] f.b)) by omega)
 refine Zz 10 ?_
 refine d_ (L_ q_ F_ rfl rfl (fun v _ h=>y_ (n:=10) Pc.cells_len (by decide) (by exact (bo_ h.2.1 (Ky.mk 4 [] f.b))) hx1) (by omega) (by first|omega|(simp;done))) rfl ?_
 refine d_ (af_ (ad:=(Prod.fst (A.p (Ky.mk 4 [] f.b)))) (us:=Pc.cells x1) eI_ F_ rfl (fun v _ h=>by exact (bo_ h.2.1 (Ky.mk 4 [] f.b))) (Pc.cells_len _) (u_ Pc.cells_len hx1)) rfl (K_ Z_ rfl fun b2=>x_ 0 F_ rfl rfl rfl rfl rfl rfl (Zz 4 ?_))
 refine z_ 0 [0,1,2,3,4,5,6,7,8,9,10,11] zk zs (Zz 8 ?_)
 refine P_ rfl (w_ fQ_ rfl rfl) rfl (P_ rfl (cc_ (k:=(f.a,x1.r)) (adr:=A.i) di_ bP_ bn_ rfl rfl zf) rfl (Zz 6 ?_))
 refine ai_ (ι:={y:Nat×Hp // y.1≤List.length (lat x.into (f.a,x1.r))∧E.St (emits E.stp (List.map (fun a=>ar_ a x1.c) (List.take y.1 (lat x.into (f.a,x1.r)))) (emits E.stp (List.flatMap (fun y=>List.map (fun a=>ar_ a y.c) (lat x.into (Fc.a f,Pc.r y))) (List.take i (lat pm (Ky.mk 4 [] f.b)))) nw)) fm y.2}) (fun y=>[(0,zp_ B.g 0),(3,zp_ b1 0),(15,.slice (Prod.fst (A.p (Ky.mk 4 [] f.b))) (List.length (lat pm (Ky.mk 4 [] f.b))) (Prod.snd (A.p (Ky.mk 4 [] f.b)))),(16,.int .i64 (List.length (lat pm (Ky.mk 4 [] f.b)):Int)),(17,.int .i64 (i:Int)),(5,zp_ b2 0),(30,.slice (Prod.fst (A.i (f.a,x1.r))) (List.length (lat x.into (f.a,x1.r))) (Prod.snd (A.i (f.a,x1.r)))),(31,.int .i64 (List.length (lat x.into (f.a,x1.r)):Int)),(32,.int .i64 (y.1.1:Int))]) (fun y=>((b2,.cells #[.int .i64 x1.kind,str x1.a,str x1.b,str x1.c,str x1.r,str x1.s,str x1.t,.int .i64 x1.lo,.int .i64 x1.hi,.int .i64 x1.frm] 58 (0,0))::((b1,.cells #[.int .i64 f.kind,str f.a,str f.b,str f.r,.int .i64 f.lo,.int .i64 f.hi] 67 (0,0))::y.1.2))) (fun y=>[gF B E,pF B pm A,aF B x A,uF B x A,oF B x A,iF B x A,rF B x A,sF B x A,E.ef]) (fun y=>List.length (lat x.into (f.a,x1.r)) - y.1.1) ⟨((0:Nat),Hs_i),by simp,by exact hS_i⟩ zl zp zh ?_
 rintro ⟨⟨j,Hs_j⟩,hi_j,hS_j⟩
 dsimp only at hi_j hS_j ⊢
 have hb_j:=(hyl (f.a,x1.r)).2.1
 refine Zi 2 (fun hr2=>?_) fun hr2=>?_
 ·refine Zz 11 ?_
  exact J_ ⟨(i+1,Hs_j),hlx1,(by rw[ha_ hx1,aC_];have e9:List.take j (lat x.into (Fc.a f,Pc.r x1))=(lat x.into (Fc.a f,Pc.r x1)):=List.take_of_length_le (by omega);rw[e9]at hS_j;exact hS_j)⟩ (by dsimp only;omega) zl (p_ (c_ e_) M_) zh
 obtain⟨hlx2,x2,hx2,hmx2⟩:=zge (show j<List.length (lat x.into (f.a,x1.r)) by omega)
 refine Zz 10 ?_
 refine d_ (L_ n_ O_ rfl rfl (fun v _ h=>y_ (n:=1) at_ (by decide) (by exact (bo_ h.2.2.2.2.2.1 (f.a,x1.r))) hx2) (by omega) (by first|omega|(simp;done))) rfl ?_
 refine d_ (ba_ (ad:=(Prod.fst (A.i (f.a,x1.r)))) av_ rfl (fun v _ h=>by exact (bo_ h.2.2.2.2.2.1 (f.a,x1.r))) (u_ at_ hx2 0 _ rfl)) rfl (Zz 3 ?_)
 refine am_ ((b2,.cells #[.int .i64 x1.kind,str x1.a,str x1.b,str x1.c,str x1.r,str x1.s,str x1.t,.int .i64 x1.lo,.int .i64 x1.hi,.int .i64 x1.frm] 58 (0,0))::((b1,.cells #[.int .i64 f.kind,str f.a,str f.b,str f.r,.int .i64 f.lo,.int .i64 f.hi] 67 (0,0))::[])) zk ?_
 refine z_ 2 [0,1,2,3,4,5,6] zk zs (Zz 8 ?_)
 refine j_ 7 rfl zk (f_ (gs_ x2 x1.c) rfl g_ zt rfl fun _=>Zz 3 ?_)
 refine j_ 8 rfl zk (Y_ (first:=[]) (cap:=E.caps) (E.emit (ar_ x2 x1.c) (emits E.stp (List.map (fun a=>ar_ a x1.c) (List.take j (lat x.into (f.a,x1.r)))) (emits E.stp (List.flatMap (fun y=>List.map (fun a=>ar_ a y.c) (lat x.into (Fc.a f,Pc.r y))) (List.take i (lat pm (Ky.mk 4 [] f.b)))) nw)) fm Hs_j hS_j) rfl rfl zp zf rfl fun⟨Hs1,hS1⟩=>?_)
 dsimp only
 refine Zz 10 ?_
 exact J_ ⟨(j+1,Hs1),hlx2,(by rw[fj_ hx2,aC_];exact hS1)⟩ (by dsimp only;omega) zl zp zh
theorem qQ_ (B:EngB) (E:Emt Tryz.prog 67) (A:EngA) (pm:List (Ky×Pc)) (x:Ix) (f:Fc) (nw fm:List Fc) (Hs:Hp) (hS:E.St nw fm Hs) (hpl:∀ k,(lat pm k).length≤1000000000) (hxl:∀ k,(lat x.above k).length≤1000000000∧(lat x.under k).length≤1000000000) (hyl:∀ k,(lat x.frm k).length≤1000000000∧(lat x.into k).length≤1000000000∧(lat x.ranges k).length≤1000000000∧(lat x.firms k).length≤1000000000):Tri Tryz.prog 148 #[zp_ B.g 0,Fc.val f] Hs [gF B E,pF B pm A,aF B x A,uF B x A,oF B x A,iF B x A,rF B x A,sF B x A,E.ef] (fun _:{H':Hp // E.St (emits E.stp (fX_ pm x f) nw) fm H'}=>.tuple #[]) (fun y=>y.1) (fun _=>[]):=by
 refine l_ Tryz.func148 rfl rfl Tryz.ntmps148 rfl fun v0=>?_
 refine Zz 2 ?_
 refine U_ rfl rfl fun b1=>Zz 4 ?_
 refine z_ 0 [0,1,2,3,4,5,6,7,8] zk zs (Zz 6 ?_)
 refine P_ rfl (cc_ (k:=f.b) (adr:=A.a) jq_ cl_ bn_ rfl rfl zf) rfl (Zz 6 ?_)
 refine ai_ (ι:={y:Nat×Hp // y.1≤List.length (lat x.above f.b)∧E.St (emits E.stp (List.flatMap (fun y=>List.map (fun a=>ar_ f.a a.c) (lat pm (Ky.mk 4 f.r y))) (List.take y.1 (lat x.above f.b))) nw) fm y.2}) (fun y=>[(0,zp_ B.g 0),(3,zp_ b1 0),(14,.slice (Prod.fst (A.a f.b)) (List.length (lat x.above f.b)) (Prod.snd (A.a f.b))),(15,.int .i64 (List.length (lat x.above f.b):Int)),(16,.int .i64 (y.1.1:Int))]) (fun y=>((b1,.cells #[.int .i64 f.kind,str f.a,str f.b,str f.r,.int .i64 f.lo,.int .i64 f.hi] 67 (0,0))::y.1.2)) (fun y=>[gF B E,pF B pm A,aF B x A,uF B x A,oF B x A,iF B x A,rF B x A,sF B x A,E.ef]) (fun y=>List.length (lat x.above f.b) - y.1.1) ⟨((0:Nat),Hs),by simp,by exact hS⟩ zl zp zh ?_
 rintro ⟨⟨i,Hs_i⟩,hi_i,hS_i⟩
 dsimp only at hi_i hS_i ⊢
 have hb_i:=(hxl f.b).1
 refine Zi 2 (fun hr1=>?_) fun hr1=>?_
 ·refine Zz 6 ?_
  exact bX_ Tryz.results148 ⟨Hs_i,by unfold fX_;rw[List.take_of_length_le (by omega)]at hS_i;exact hS_i⟩ rfl M_ zt
 obtain⟨hlx1,x1,hx1,hmx1⟩:=zge (show i<List.length (lat x.above f.b) by omega)
 refine Zz 10 ?_
 refine d_ (L_ n_ O_ rfl rfl (fun v _ h=>y_ (n:=1) at_ (by decide) (by exact (bo_ h.2.2.1 f.b)) hx1) (by omega) (by first|omega|(simp;done))) rfl ?_
 refine d_ (ba_ (ad:=(Prod.fst (A.a f.b))) av_ rfl (fun v _ h=>by exact (bo_ h.2.2.1 f.b)) (u_ at_ hx1 0 _ rfl)) rfl (Zz 5 ?_)
 refine z_ 0 [0,1,2,3,4,5,6,7,8,9,10] zk zs (Zz 7 ?_)
 refine P_ rfl (w_ fa_ rfl rfl) rfl (P_ rfl (cc_ (k:=(Ky.mk 4 f.r x1)) (adr:=A.p) hC_ bQ_ cC_ rfl rfl zf) rfl (Zz 6 ?_))
 refine ai_ (ι:={y:Nat×Hp // y.1≤List.length (lat pm (Ky.mk 4 f.r x1))∧E.St (emits E.stp (List.map (fun a=>ar_ f.a a.c) (List.take y.1 (lat pm (Ky.mk 4 f.r x1)))) (emits E.stp (List.flatMap (fun y=>List.map (fun a=>ar_ f.a a.c) (lat pm (Ky.mk 4 f.r y))) (List.take i (lat x.above f.b))) nw)) fm y.2}) (fun y=>[(0,zp_ B.g 0),(3,zp_ b1 0),(14,.slice (Prod.fst (A.a f.b)) (List.length (lat x.above f.b)) (Prod.snd (A.a f.b))),(15,.int .i64 (List.length (lat x.above f.b):Int)),(16,.int .i64 (i:Int)),(28,.slice (Prod.fst (A.p (Ky.mk 4 f.r x1))) (List.length (lat pm (Ky.mk 4 f.r x1))) (Prod.snd (A.p (Ky.mk 4 f.r x1)))),(29,.int .i64 (List.length (lat pm (Ky.mk 4 f.r x1)):Int)),(30,.int .i64 (y.1.1:Int))]) (fun y=>((b1,.cells #[.int .i64 f.kind,str f.a,str f.b,str f.r,.int .i64 f.lo,.int .i64 f.hi] 67 (0,0))::y.1.2)) (fun y=>[gF B E,pF B pm A,aF B x A,uF B x A,oF B x A,iF B x A,rF B x A,sF B x A,E.ef]) (fun y=>List.length (lat pm (Ky.mk 4 f.r x1)) - y.1.1) ⟨((0:Nat),Hs_i),by simp,by exact hS_i⟩ zl zp zh ?_
 rintro ⟨⟨j,Hs_j⟩,hi_j,hS_j⟩
 dsimp only at hi_j hS_j ⊢
 have hb_j:=hpl (Ky.mk 4 f.r x1)
 refine Zi 2 (fun hr2=>?_) fun hr2=>?_
 ·refine Zz 11 ?_
  exact J_ ⟨(i+1,Hs_j),hlx1,(by rw[ha_ hx1,aC_];have e9:List.take j (lat pm (Ky.mk 4 f.r x1))=(lat pm (Ky.mk 4 f.r x1)):=List.take_of_length_le (by omega);rw[e9]at hS_j;exact hS_j)⟩ (by dsimp only;omega) zl (p_ e_ aZ_) zh
 obtain⟨hlx2,x2,hx2,hmx2⟩:=zge (show j<List.length (lat pm (Ky.mk 4 f.r x1)) by omega)
 refine Zz 10 ?_
 refine d_ (L_ q_ F_ rfl rfl (fun v _ h=>y_ (n:=10) Pc.cells_len (by decide) (by exact (bo_ h.2.1 (Ky.mk 4 f.r x1))) hx2) (by omega) (by first|omega|(simp;done))) rfl ?_
 refine d_ (af_ (ad:=(Prod.fst (A.p (Ky.mk 4 f.r x1)))) (us:=Pc.cells x2) eI_ F_ rfl (fun v _ h=>by exact (bo_ h.2.1 (Ky.mk 4 f.r x1))) (Pc.cells_len _) (u_ Pc.cells_len hx2)) rfl (K_ Z_ rfl fun b2=>x_ 0 F_ rfl rfl rfl rfl rfl rfl (Zz 2 ?_))
 refine am_ ((b2,.cells #[.int .i64 x2.kind,str x2.a,str x2.b,str x2.c,str x2.r,str x2.s,str x2.t,.int .i64 x2.lo,.int .i64 x2.hi,.int .i64 x2.frm] 58 (0,0))::((b1,.cells #[.int .i64 f.kind,str f.a,str f.b,str f.r,.int .i64 f.lo,.int .i64 f.hi] 67 (0,0))::[])) zk ?_
 refine z_ 2 [0,1,2,3,4,5,6,7] zk zs (Zz 9 ?_)
 refine j_ 8 rfl zk (f_ (gs_ f.a x2.c) rfl g_ zt rfl fun _=>Zz 3 ?_)
 refine j_ 9 rfl zk (Y_ (first:=[]) (cap:=E.caps) (E.emit (ar_ f.a x2.c) (emits E.stp (List.map (fun a=>ar_ f.a a.c) (List.take j (lat pm (Ky.mk 4 f.r x1)))) (emits E.stp (List.flatMap (fun y=>List.map (fun a=>ar_ f.a a.c) (lat pm (Ky.mk 4 f.r y))) (List.take i (lat x.above f.b))) nw)) fm Hs_j hS_j) rfl rfl (c_ M_) zf rfl fun⟨Hs1,hS1⟩=>?_)
 dsimp only
 refine Zz 10 ?_
 exact J_ ⟨(j+1,Hs1),hlx2,(by rw[fj_ hx2,aC_];exact hS1)⟩ (by dsimp only;omega) zl zp zh
theorem vU_ (B:EngB) (E:Emt Tryz.prog 67) (A:EngA) (pm:List (Ky×Pc)) (x:Ix) (f:Fc) (nw fm:List Fc) (Hs:Hp) (hS:E.St nw fm Hs) (hpl:∀ k,(lat pm k).length≤1000000000) (hxl:∀ k,(lat x.above k).length≤1000000000∧(lat x.under k).length≤1000000000) (hyl:∀ k,(lat x.frm k).length≤1000000000∧(lat x.into k).length≤1000000000∧(lat x.ranges k).length≤1000000000∧(lat x.firms k).length≤1000000000):Tri Tryz.prog 147 #[zp_ B.g 0,Fc.val f] Hs [gF B E,pF B pm A,aF B x A,uF B x A,oF B x A,iF B x A,rF B x A,sF B x A,E.ef] (fun _:{H':Hp // E.St (emits E.stp (fT_ pm x f++hx_ pm x f) nw) fm H'}=>.tuple #[]) (fun y=>y.1) (fun _=>[]):=by
 refine l_ Tryz.func147 rfl rfl Tryz.ntmps147 rfl fun v0=>?_
 refine Zz 2 ?_
 refine U_ rfl rfl fun b1=>Zz 5 ?_
 refine z_ 0 [0,1,2,3,4,5,6,7,8,9] zk zs (Zz 6 ?_)
 refine P_ rfl (w_ fa_ rfl rfl) rfl (P_ rfl (cc_ (k:=(Ky.mk 6 f.r [])) (adr:=A.p) hC_ bQ_ cC_ rfl rfl zf) rfl (Zz 6 ?_))
 refine ai_ (ι:={y:Nat×Hp // y.1≤List.length (lat pm (Ky.mk 6 f.r []))∧E.St (emits E.stp (List.flatMap (fun y=>List.map (fun a=>ax_ f.a y.t a) (lat x.frm (Fc.b f,Pc.s y))) (List.take y.1 (lat pm (Ky.mk 6 f.r [])))) nw) fm y.2}) (fun y=>[(0,zp_ B.g 0),(3,zp_ b1 0),(19,.slice (Prod.fst (A.p (Ky.mk 6 f.r []))) (List.length (lat pm (Ky.mk 6 f.r []))) (Prod.snd (A.p (Ky.mk 6 f.r [])))),(20,.int .i64 (List.length (lat pm (Ky.mk 6 f.r [])):Int)),(21,.int .i64 (y.1.1:Int))]) (fun y=>((b1,.cells #[.int .i64 f.kind,str f.a,str f.b,str f.r,.int .i64 f.lo,.int .i64 f.hi] 67 (0,0))::y.1.2)) (fun y=>[gF B E,pF B pm A,aF B x A,uF B x A,oF B x A,iF B x A,rF B x A,sF B x A,E.ef]) (fun y=>List.length (lat pm (Ky.mk 6 f.r [])) - y.1.1) ⟨((0:Nat),Hs),by simp,by exact hS⟩ zl zp zh ?_
 rintro ⟨⟨i,Hs_i⟩,hi_i,hS_i⟩
 dsimp only at hi_i hS_i ⊢
 have hb_i:=hpl (Ky.mk 6 f.r [])
 refine Zi 2 (fun hr1=>?_) fun hr1=>?_
 ·refine Zz 8 ?_
  refine z_ 0 [0,1,2,3,4,5,6,7,8,9] zk zs (Zz 6 ?_)
  refine P_ rfl (w_ fa_ rfl rfl) rfl (P_ rfl (cc_ (k:=(Ky.mk 6 [] f.r)) (adr:=A.p) hC_ bQ_ cC_ rfl rfl zf) rfl (Zz 6 ?_))
  refine ai_ (ι:={y:Nat×Hp // y.1≤List.length (lat pm (Ky.mk 6 [] f.r))∧E.St (emits E.stp (List.flatMap (fun y=>List.map (fun a=>ax_ a y.t f.b) (lat x.into (Fc.a f,Pc.r y))) (List.take y.1 (lat pm (Ky.mk 6 [] f.r)))) (emits E.stp (fT_ pm x f) nw)) fm y.2}) (fun y=>[(0,zp_ B.g 0),(3,zp_ b1 0),(19,.slice (Prod.fst (A.p (Ky.mk 6 f.r []))) (List.length (lat pm (Ky.mk 6 f.r []))) (Prod.snd (A.p (Ky.mk 6 f.r [])))),(20,.int .i64 (List.length (lat pm (Ky.mk 6 f.r [])):Int)),(21,.int .i64 (i:Int)),(60,.slice (Prod.fst (A.p (Ky.mk 6 [] f.r))) (List.length (lat pm (Ky.mk 6 [] f.r))) (Prod.snd (A.p (Ky.mk 6 [] f.r)))),(61,.int .i64 (List.length (lat pm (Ky.mk 6 [] f.r)):Int)),(62,.int .i64 (y.1.1:Int))]) (fun y=>((b1,.cells #[.int .i64 f.kind,str f.a,str f.b,str f.r,.int .i64 f.lo,.int .i64 f.hi] 67 (0,0))::y.1.2)) (fun y=>[gF B E,pF B pm A,aF B x A,uF B x A,oF B x A,iF B x A,rF B x A,sF B x A,E.ef]) (fun y=>List.length (lat pm (Ky.mk 6 [] f.r)) - y.1.1) ⟨((0:Nat),Hs_i),by simp,by have e9:List.take i (lat pm (Ky.mk 6 f.r []))=(lat pm (Ky.mk 6 f.r [])):=List.take_of_length_le (by omega);rw[e9]at hS_i;exact hS_i⟩ zl (p_ e_ aZ_) zh ?_
  rintro ⟨⟨k,Hs_k⟩,hi_k,hS_k⟩
  dsimp only at hi_k hS_k ⊢
  have hb_k:=hpl (Ky.mk 6 [] f.r)
  refine Zi 2 (fun hr2=>?_) fun hr2=>?_
  ·refine Zz 6 ?_
   exact bX_ Tryz.results147 ⟨Hs_k,by rw[aC_];unfold hx_;have e8:List.take k (lat pm (Ky.mk 6 [] f.r))=lat pm (Ky.mk 6 [] f.r):=List.take_of_length_le (by omega);rw[e8]at hS_k;exact hS_k⟩ rfl M_ zt
  obtain⟨hlx3,x3,hx3,hmx3⟩:=zge (show k<List.length (lat pm (Ky.mk 6 [] f.r)) by omega)
  refine Zz 10 ?_
  refine d_ (L_ q_ F_ rfl rfl (fun v _ h=>y_ (n:=10) Pc.cells_len (by decide) (by exact (bo_ h.2.1 (Ky.mk 6 [] f.r))) hx3) (by omega) (by first|omega|(simp;done))) rfl ?_
  refine d_ (af_ (ad:=(Prod.fst (A.p (Ky.mk 6 [] f.r)))) (us:=Pc.cells x3) eI_ F_ rfl (fun v _ h=>by exact (bo_ h.2.1 (Ky.mk 6 [] f.r))) (Pc.cells_len _) (u_ Pc.cells_len hx3)) rfl (K_ Z_ rfl fun b2=>x_ 0 F_ rfl rfl rfl rfl rfl rfl (Zz 4 ?_))
  refine z_ 0 [0,1,2,3,4,5,6,7,8,9,10,11] zk zs (Zz 8 ?_)
  refine P_ rfl (w_ fQ_ rfl rfl) rfl (P_ rfl (cc_ (k:=(f.a,x3.r)) (adr:=A.i) di_ bP_ bn_ rfl rfl zf) rfl (Zz 6 ?_))
  refine ai_ (ι:={y:Nat×Hp // y.1≤List.length (lat x.into (f.a,x3.r))∧E.St (emits E.stp (List.map (fun a=>ax_ a x3.t f.b) (List.take y.1 (lat x.into (f.a,x3.r)))) (emits E.stp (List.flatMap (fun y=>List.map (fun a=>ax_ a y.t f.b) (lat x.into (Fc.a f,Pc.r y))) (List.take k (lat pm (Ky.mk 6 [] f.r)))) (emits E.stp (fT_ pm x f) nw))) fm y.2}) (fun y=>[(0,zp_ B.g 0),(3,zp_ b1 0),(19,.slice (Prod.fst (A.p (Ky.mk 6 f.r []))) (List.length (lat pm (Ky.mk 6 f.r []))) (Prod.snd (A.p (Ky.mk 6 f.r [])))),(20,.int .i64 (List.length (lat pm (Ky.mk 6 f.r [])):Int)),(21,.int .i64 (i:Int)),(60,.slice (Prod.fst (A.p (Ky.mk 6 [] f.r))) (List.length (lat pm (Ky.mk 6 [] f.r))) (Prod.snd (A.p (Ky.mk 6 [] f.r)))),(61,.int .i64 (List.length (lat pm (Ky.mk 6 [] f.r)):Int)),(62,.int .i64 (k:Int)),(9,zp_ b2 0),(75,.slice (Prod.fst (A.i (f.a,x3.r))) (List.length (lat x.into (f.a,x3.r))) (Prod.snd (A.i (f.a,x3.r)))),(76,.int .i64 (List.length (lat x.into (f.a,x3.r)):Int)),(77,.int .i64 (y.1.1:Int))]) (fun y=>((b2,.cells #[.int .i64 x3.kind,str x3.a,str x3.b,str x3.c,str x3.r,str x3.s,str x3.t,.int .i64 x3.lo,.int .i64 x3.hi,.int .i64 x3.frm] 58 (0,0))::((b1,.cells #[.int .i64 f.kind,str f.a,str f.b,str f.r,.int .i64 f.lo,.int .i64 f.hi] 67 (0,0))::y.1.2))) (fun y=>[gF B E,pF B pm A,aF B x A,uF B x A,oF B x A,iF B x A,rF B x A,sF B x A,E.ef]) (fun y=>List.length (lat x.into (f.a,x3.r)) - y.1.1) ⟨((0:Nat),Hs_k),by simp,by exact hS_k⟩ zl zp zh ?_
  rintro ⟨⟨l,Hs_l⟩,hi_l,hS_l⟩
  dsimp only at hi_l hS_l ⊢
  have hb_l:=(hyl (f.a,x3.r)).2.1
  refine Zi 2 (fun hr3=>?_) fun hr3=>?_
  ·refine Zz 11 ?_
   exact J_ ⟨(k+1,Hs_l),hlx3,(by rw[ha_ hx3,aC_];have e9:List.take l (lat x.into (Fc.a f,Pc.r x3))=(lat x.into (Fc.a f,Pc.r x3)):=List.take_of_length_le (by omega);rw[e9]at hS_l;exact hS_l)⟩ (by dsimp only;omega) zl (p_ (c_ e_) M_) zh
  obtain⟨hlx4,x4,hx4,hmx4⟩:=zge (show l<List.length (lat x.into (f.a,x3.r)) by omega)
  refine Zz 10 ?_
  refine d_ (L_ n_ O_ rfl rfl (fun v _ h=>y_ (n:=1) at_ (by decide) (by exact (bo_ h.2.2.2.2.2.1 (f.a,x3.r))) hx4) (by omega) (by first|omega|(simp;done))) rfl ?_
  refine d_ (ba_ (ad:=(Prod.fst (A.i (f.a,x3.r)))) av_ rfl (fun v _ h=>by exact (bo_ h.2.2.2.2.2.1 (f.a,x3.r))) (u_ at_ hx4 0 _ rfl)) rfl (Zz 3 ?_)
  refine am_ ((b2,.cells #[.int .i64 x3.kind,str x3.a,str x3.b,str x3.c,str x3.r,str x3.s,str x3.t,.int .i64 x3.lo,.int .i64 x3.hi,.int .i64 x3.frm] 58 (0,0))::((b1,.cells #[.int .i64 f.kind,str f.a,str f.b,str f.r,.int .i64 f.lo,.int .i64 f.hi] 67 (0,0))::[])) zk ?_
  refine z_ 2 [0,1,2,3,4,5,6,7,8] zk zs (Zz 10 ?_)
  refine j_ 9 rfl zk (f_ (lJ_ x4 x3.t f.b) rfl g_ zt rfl fun _=>Zz 3 ?_)
  refine j_ 10 rfl zk (Y_ (first:=[]) (cap:=E.caps) (E.emit (ax_ x4 x3.t f.b) (emits E.stp (List.map (fun a=>ax_ a x3.t f.b) (List.take l (lat x.into (f.a,x3.r)))) (emits E.stp (List.flatMap (fun y=>List.map (fun a=>ax_ a y.t f.b) (lat x.into (Fc.a f,Pc.r y))) (List.take k (lat pm (Ky.mk 6 [] f.r)))) (emits E.stp (fT_ pm x f) nw))) fm Hs_l hS_l) rfl rfl zp zf rfl fun⟨Hs1,hS1⟩=>?_)
  dsimp only
  refine Zz 10 ?_
  exact J_ ⟨(l+1,Hs1),hlx4,(by rw[fj_ hx4,aC_];exact hS1)⟩ (by dsimp only;omega) zl zp zh
 obtain⟨hlx1,x1,hx1,hmx1⟩:=zge (show i<List.length (lat pm (Ky.mk 6 f.r [])) by omega)
 refine Zz 10 ?_
 refine d_ (L_ q_ F_ rfl rfl (fun v _ h=>y_ (n:=10) Pc.cells_len (by decide) (by exact (bo_ h.2.1 (Ky.mk 6 f.r []))) hx1) (by omega) (by first|omega|(simp;done))) rfl ?_
 refine d_ (af_ (ad:=(Prod.fst (A.p (Ky.mk 6 f.r [])))) (us:=Pc.cells x1) eI_ F_ rfl (fun v _ h=>by exact (bo_ h.2.1 (Ky.mk 6 f.r []))) (Pc.cells_len _) (u_ Pc.cells_len hx1)) rfl (K_ Z_ rfl fun b3=>x_ 0 F_ rfl rfl rfl rfl rfl rfl (Zz 4 ?_))
 refine z_ 0 [0,1,2,3,4,5,6,7,8,9,10,11] zk zs (Zz 8 ?_)
 refine P_ rfl (w_ fQ_ rfl rfl) rfl (P_ rfl (cc_ (k:=(f.b,x1.s)) (adr:=A.o) di_ bP_ bn_ rfl rfl zf) rfl (Zz 6 ?_))
 refine ai_ (ι:={y:Nat×Hp // y.1≤List.length (lat x.frm (f.b,x1.s))∧E.St (emits E.stp (List.map (fun a=>ax_ f.a x1.t a) (List.take y.1 (lat x.frm (f.b,x1.s)))) (emits E.stp (List.flatMap (fun y=>List.map (fun a=>ax_ f.a y.t a) (lat x.frm (Fc.b f,Pc.s y))) (List.take i (lat pm (Ky.mk 6 f.r [])))) nw)) fm y.2}) (fun y=>[(0,zp_ B.g 0),(3,zp_ b1 0),(19,.slice (Prod.fst (A.p (Ky.mk 6 f.r []))) (List.length (lat pm (Ky.mk 6 f.r []))) (Prod.snd (A.p (Ky.mk 6 f.r [])))),(20,.int .i64 (List.length (lat pm (Ky.mk 6 f.r [])):Int)),(21,.int .i64 (i:Int)),(5,zp_ b3 0),(34,.slice (Prod.fst (A.o (f.b,x1.s))) (List.length (lat x.frm (f.b,x1.s))) (Prod.snd (A.o (f.b,x1.s)))),(35,.int .i64 (List.length (lat x.frm (f.b,x1.s)):Int)),(36,.int .i64 (y.1.1:Int))]) (fun y=>((b3,.cells #[.int .i64 x1.kind,str x1.a,str x1.b,str x1.c,str x1.r,str x1.s,str x1.t,.int .i64 x1.lo,.int .i64 x1.hi,.int .i64 x1.frm] 58 (0,0))::((b1,.cells #[.int .i64 f.kind,str f.a,str f.b,str f.r,.int .i64 f.lo,.int .i64 f.hi] 67 (0,0))::y.1.2))) (fun y=>[gF B E,pF B pm A,aF B x A,uF B x A,oF B x A,iF B x A,rF B x A,sF B x A,E.ef]) (fun y=>List.length (lat x.frm (f.b,x1.s)) - y.1.1) ⟨((0:Nat),Hs_i),by simp,by exact hS_i⟩ zl zp zh ?_
 rintro ⟨⟨j,Hs_j⟩,hi_j,hS_j⟩
 dsimp only at hi_j hS_j ⊢
 have hb_j:=(hyl (f.b,x1.s)).1
 refine Zi 2 (fun hr4=>?_) fun hr4=>?_
 ·refine Zz 11 ?_
  exact J_ ⟨(i+1,Hs_j),hlx1,(by rw[ha_ hx1,aC_];have e9:List.take j (lat x.frm (Fc.b f,Pc.s x1))=(lat x.frm (Fc.b f,Pc.s x1)):=List.take_of_length_le (by omega);rw[e9]at hS_j;exact hS_j)⟩ (by dsimp only;omega) zl (p_ (c_ e_) M_) zh
 obtain⟨hlx2,x2,hx2,hmx2⟩:=zge (show j<List.length (lat x.frm (f.b,x1.s)) by omega)
 refine Zz 10 ?_
 refine d_ (L_ n_ O_ rfl rfl (fun v _ h=>y_ (n:=1) at_ (by decide) (by exact (bo_ h.2.2.2.2.1 (f.b,x1.s))) hx2) (by omega) (by first|omega|(simp;done))) rfl ?_
 refine d_ (ba_ (ad:=(Prod.fst (A.o (f.b,x1.s)))) av_ rfl (fun v _ h=>by exact (bo_ h.2.2.2.2.1 (f.b,x1.s))) (u_ at_ hx2 0 _ rfl)) rfl (Zz 3 ?_)
 refine am_ ((b3,.cells #[.int .i64 x1.kind,str x1.a,str x1.b,str x1.c,str x1.r,str x1.s,str x1.t,.int .i64 x1.lo,.int .i64 x1.hi,.int .i64 x1.frm] 58 (0,0))::((b1,.cells #[.int .i64 f.kind,str f.a,str f.b,str f.r,.int .i64 f.lo,.int .i64 f.hi] 67 (0,0))::[])) zk ?_
 refine z_ 2 [0,1,2,3,4,5,6,7,8] zk zs (Zz 10 ?_)
 refine j_ 9 rfl zk (f_ (lJ_ f.a x1.t x2) rfl g_ zt rfl fun _=>Zz 3 ?_)
 refine j_ 10 rfl zk (Y_ (first:=[]) (cap:=E.caps) (E.emit (ax_ f.a x1.t x2) (emits E.stp (List.map (fun a=>ax_ f.a x1.t a) (List.take j (lat x.frm (f.b,x1.s)))) (emits E.stp (List.flatMap (fun y=>List.map (fun a=>ax_ f.a y.t a) (lat x.frm (Fc.b f,Pc.s y))) (List.take i (lat pm (Ky.mk 6 f.r [])))) nw)) fm Hs_j hS_j) rfl rfl zp zf rfl fun⟨Hs2,hS2⟩=>?_)
 dsimp only
 refine Zz 10 ?_
 exact J_ ⟨(j+1,Hs2),hlx2,(by rw[fj_ hx2,aC_];exact hS2)⟩ (by dsimp only;omega) zl zp zh
theorem pN_ (B:EngB) (E:Emt Tryz.prog 67) (A:EngA) (pm:List (Ky×Pc)) (x:Ix) (f:Fc) (nw fm:List Fc) (Hs:Hp) (hS:E.St nw fm Hs) (hpl:∀ k,(lat pm k).length≤1000000000) (hxl:∀ k,(lat x.above k).length≤1000000000∧(lat x.under k).length≤1000000000) (hyl:∀ k,(lat x.frm k).length≤1000000000∧(lat x.into k).length≤1000000000∧(lat x.ranges k).length≤1000000000∧(lat x.firms k).length≤1000000000):Tri Tryz.prog 144 #[zp_ B.g 0,Fc.val f] Hs [gF B E,pF B pm A,aF B x A,uF B x A,oF B x A,iF B x A,rF B x A,sF B x A,E.ef] (fun _:{H':Hp // E.St (emits E.stp (dR_ x f) nw) fm H'}=>.tuple #[]) (fun y=>y.1) (fun _=>[]):=by
 refine l_ Tryz.func144 rfl rfl Tryz.ntmps144 rfl fun v0=>?_
 refine Zz 2 ?_
 refine U_ rfl rfl fun b1=>Zi 6 (fun hr1=>?_) fun hr1=>?_
 ·refine Zz 5 ?_
  exact bX_ Tryz.results144 ⟨Hs,by unfold dR_;rw[if_neg (by assumption)];exact hS⟩ rfl M_ zt
 refine Zz 5 ?_
 refine z_ 0 [0,1,2,3,4,5,6,7,8] zk zs (Zz 6 ?_)
 refine P_ rfl (cc_ (k:=f.a) (adr:=A.u) jq_ cl_ bn_ rfl rfl zf) rfl (Zz 6 ?_)
 refine ai_ (ι:={y:Nat×Hp // y.1≤List.length (lat x.under f.a)∧E.St (emits E.stp (List.map (fun a=>ar_ a [33]) (List.take y.1 (lat x.under f.a))) nw) fm y.2}) (fun y=>[(0,zp_ B.g 0),(15,.slice (Prod.fst (A.u f.a)) (List.length (lat x.under f.a)) (Prod.snd (A.u f.a))),(16,.int .i64 (List.length (lat x.under f.a):Int)),(17,.int .i64 (y.1.1:Int))]) (fun y=>(y.1.2)) (fun y=>[gF B E,pF B pm A,aF B x A,uF B x A,oF B x A,iF B x A,rF B x A,sF B x A,E.ef]) (fun y=>List.length (lat x.under f.a) - y.1.1) ⟨((0:Nat),Hs),by simp,by exact hS⟩ zl M_ zh ?_
 rintro ⟨⟨i,Hs_i⟩,hi_i,hS_i⟩
 dsimp only at hi_i hS_i ⊢
 have hb_i:=(hxl f.a).2
 refine Zi 2 (fun hr2=>?_) fun hr2=>?_
 ·refine Zz 6 ?_
  exact bX_ Tryz.results144 ⟨Hs_i,by unfold dR_;rw[if_pos (by assumption)];rw[List.take_of_length_le (by omega)]at hS_i;exact hS_i⟩ rfl aZ_ zt
 obtain⟨hlx1,x1,hx1,hmx1⟩:=zge (show i<List.length (lat x.under f.a) by omega)
 refine Zz 10 ?_
 refine d_ (L_ n_ O_ rfl rfl (fun v _ h=>y_ (n:=1) at_ (by decide) (by exact (bo_ h.2.2.2.1 f.a)) hx1) (by omega) (by first|omega|(simp;done))) rfl ?_
 refine d_ (ba_ (ad:=(Prod.fst (A.u f.a))) av_ rfl (fun v _ h=>by exact (bo_ h.2.2.2.1 f.a)) (u_ at_ hx1 0 _ rfl)) rfl (Zz 3 ?_)
 refine am_ ([]) zk ?_
 refine z_ 2 [0,1,2,3,4] zk zs (Zz 6 ?_)
 refine j_ 5 rfl zk (f_ (gs_ x1 [33]) rfl g_ zt rfl fun _=>C_ rs_ (Zz 3 ?_))
 refine j_ 6 rfl zk (Y_ (first:=[]) (cap:=E.caps) (E.emit (ar_ x1 [33]) (emits E.stp (List.map (fun a=>ar_ a [33]) (List.take i (lat x.under f.a))) nw) fm Hs_i hS_i) rfl rfl aZ_ zf rfl fun⟨Hs1,hS1⟩=>?_)
 dsimp only
 refine C_ im_ (Zz 10 ?_)
 exact J_ ⟨(i+1,Hs1),hlx1,(by rw[fj_ hx1,aC_];exact hS1)⟩ (by dsimp only;omega) zl aZ_ zh
theorem pM_ (B:EngB) (E:Emt Tryz.prog 67) (A:EngA) (pm:List (Ky×Pc)) (x:Ix) (f:Fc) (nw fm:List Fc) (Hs:Hp) (hS:E.St nw fm Hs) (hpl:∀ k,(lat pm k).length≤1000000000) (hxl:∀ k,(lat x.above k).length≤1000000000∧(lat x.under k).length≤1000000000) (hyl:∀ k,(lat x.frm k).length≤1000000000∧(lat x.into k).length≤1000000000∧(lat x.ranges k).length≤1000000000∧(lat x.firms k).length≤1000000000):Tri Tryz.prog 149 #[zp_ B.g 0,Fc.val f] Hs [gF B E,pF B pm A,aF B x A,uF B x A,oF B x A,iF B x A,rF B x A,sF B x A,E.ef] (fun _:{H':Hp // E.St (if ar_ f.b [33]∈E.kof nw then E.stp (ar_ f.a [33]) nw else nw) fm H'}=>.tuple #[]) (fun y=>y.1) (fun _=>[]):=by
 refine l_ Tryz.func149 rfl rfl Tryz.ntmps149 rfl fun v0=>?_
 refine Zz 2 ?_
 refine U_ rfl rfl fun b1=>Zz 4 ?_
 refine z_ 2 [0,1,2,3,4,5] zk zs (Zz 7 ?_)
 refine j_ 6 rfl zk (f_ (gs_ f.b [33]) rfl g_ zt rfl fun _=>Zz 3 ?_)
 refine z_ 0 [7] zk zs (gt_ rfl (ih_ (f:=(ar_ f.b [33])) hS jr_ aO_ cR_ rfl rfl M_) rfl fun r1 hr1=>Zz 3 ?_)
 cases r1
 ·replace hr1:=zdf hr1
  refine Zz 3 ?_
  exact bX_ Tryz.results149 ⟨Hs,by first|(rw[if_pos (by assumption)];exact hS)|(rw[if_neg (by assumption)];exact hS)⟩ rfl M_ zt
 replace hr1:=zdt hr1
 refine bg_ rfl ?_
 refine am_ ((b1,.cells #[.int .i64 f.kind,str f.a,str f.b,str f.r,.int .i64 f.lo,.int .i64 f.hi] 67 (0,0))::[]) zk ?_
 refine z_ 2 [0,1,2,3,4,5] zk zs (Zz 7 ?_)
 refine j_ 6 rfl zk (f_ (gs_ f.a [33]) rfl g_ zt rfl fun _=>Zz 3 ?_)
 refine j_ 7 rfl zk (Y_ (first:=[]) (cap:=E.caps) (E.emit (ar_ f.a [33]) nw fm Hs hS) rfl rfl M_ zf rfl fun⟨Hs1,hS1⟩=>?_)
 dsimp only
 refine Zz 5 ?_
 exact bX_ Tryz.results149 ⟨Hs1,by first|(rw[if_pos (by assumption)];exact hS1)|(rw[if_neg (by assumption)];exact hS1)⟩ rfl o_ zt
end Go.Proofs.YtamklbgaipakfaaGreatDoor
namespace Go.Proofs.YtamklbgaipakfaaGreatDoor
open Go Go.Sx Go.Proofs
attribute [local irreducible] Code.wp wpList wpAnyH
open Go.Vs
def ivC (i:Int×Int):List Value:=[.int .i64 i.1,.int .i64 i.2]
theorem nK_ (i:Int×Int):(ivC i).length=2:=rfl
def ivV (i:Int×Int):Value:=.agg (ivC i).toArray
def gz_ (i:Int×Int):Int:=if min i.1 i.2 < -1099511627776∨1099511627776<max i.1 i.2 then 1 else if i.2<i.1 then 80 else 0
def kc_ (e:Int) (i:Int×Int):Int:=if e≠0 then e else gz_ i
def gF_ (l:List (Int×Int)):Int:=l.foldl kc_ 0
theorem pz_ {l:List (Int×Int)} {i:Nat} {x:Int×Int} (h:l[i]? = some x):gF_ (List.take (i+1) l)=kc_ (gF_ (List.take i l)) x:=by
  unfold gF_;rw[List.take_add_one,h,Option.toList_some,List.foldl_append];rfl
def sE_ (a b:Int×Int):Bool:=decide (gF_ [a,b]=0)&&(decide (b.1≤a.1)&&decide (a.2≤b.2))
theorem vD_ {a b:Int×Int} (ha:-1099511627776≤a.1∧a.1≤a.2∧a.2≤1099511627776) (hb:-1099511627776≤b.1∧b.1≤b.2∧b.2≤1099511627776):sE_ a b=decide (b.1≤a.1∧a.2≤b.2):=by
  have e:∀ i:Int×Int,-1099511627776≤i.1∧i.1≤i.2∧i.2≤1099511627776→gz_ i=0:=fun i h=>by
    unfold gz_;rw[if_neg (by omega),if_neg (by omega)]
  have e2:gF_ [a,b]=0:=by simp[gF_,kc_,e a ha,e b hb]
  unfold sE_;rw[e2,Bool.eq_iff_iff];simp
theorem rj_:iv_ Tryz.prog 255 [(0,1),(1,1)] [.int .i64 0,.int .i64 0]:=⟨_,Tryz.zeroValue255,cM_,fun w=>by simp[ao_]⟩
theorem sF_ (i:Int×Int):Fn0 Tryz.prog 280 #[ivV i] (.int .i64 (gz_ i)):=by
 refine l_ Tryz.func280 rfl rfl Tryz.ntmps280 rfl fun v0=>?_
 refine Zz 2 ?_
 refine U_ rfl rfl fun b1=>Zz 10 ?_
 refine d_ (iV_ rfl rfl) rfl ?_
 refine Zi 0 (fun hr1=>?_) fun hr1=>?_
 ·refine Zz 10 ?_
  refine d_ (kY_ rfl rfl) rfl (aF_ rfl rfl ?_)
  refine Zi 0 (fun hr2=>?_) fun hr2=>?_
  ·refine Zi 13 (fun hr3=>?_) fun hr3=>?_
   ·refine Zz 11 ?_
    exact N_ Tryz.results280 () (V_ rfl (by unfold gz_;first|(rw[if_pos (by omega)])|(rw[if_neg (by omega),if_pos (by omega)])|(rw[if_neg (by omega),if_neg (by omega)]))) g_ zt
   refine Zz 9 ?_
   exact N_ Tryz.results280 () (V_ rfl (by unfold gz_;first|(rw[if_pos (by omega)])|(rw[if_neg (by omega),if_pos (by omega)])|(rw[if_neg (by omega),if_neg (by omega)]))) g_ zt
  refine Zz 10 ?_
  exact N_ Tryz.results280 () (V_ rfl (by unfold gz_;first|(rw[if_pos (by omega)])|(rw[if_neg (by omega),if_pos (by omega)])|(rw[if_neg (by omega),if_neg (by omega)]))) g_ zt
 refine Zz 17 ?_
 exact N_ Tryz.results280 () (V_ rfl (by unfold gz_;first|(rw[if_pos (by omega)])|(rw[if_neg (by omega),if_pos (by omega)])|(rw[if_neg (by omega),if_neg (by omega)]))) g_ zt
theorem vC_ (e:Int) (i:Int×Int):Fn0 Tryz.prog 279 #[.int .i64 e,ivV i] (.int .i64 (kc_ e i)):=by
 refine l_ Tryz.func279 rfl rfl Tryz.ntmps279 rfl fun v0=>?_
 refine Zz 2 ?_
 refine U_ rfl rfl fun b1=>Zi 7 (fun hr1=>?_) fun hr1=>?_
 ·refine Zz 8 ?_
  refine f_ (sF_ i) rfl g_ zt rfl fun _=>Zz 4 ?_
  exact N_ Tryz.results279 () (V_ rfl (by unfold kc_;first|(rw[if_pos (by assumption)])|(rw[if_neg (by omega)]))) g_ zt
 refine Zz 10 ?_
 exact N_ Tryz.results279 () (V_ rfl (by unfold kc_;first|(rw[if_pos (by assumption)])|(rw[if_neg (by omega)]))) g_ zt
theorem qL_ (l:List (Int×Int)) (ad:Option Addr) (cap:Nat) (hl:l.length≤1000000):Tri Tryz.prog 278 #[.slice ad (List.length l) cap,.int .i64 0,.func (.func 279) #[] #[]] [] [al_ ad (List.flatMap ivC l)] (fun _:Unit=>.int .i64 (gF_ l)) (fun _=>[]) (fun _=>[]):=by
 refine l_ Tryz.func278 rfl rfl Tryz.ntmps278 rfl fun v0=>?_
 refine Zz 14 ?_
 refine ai_ (ι:={y:Nat // y≤l.length}) (fun y=>[(1,.int .i64 (gF_ (List.take y.1 l))),(2,.func (.func 279) #[] #[]),(9,.slice ad (List.length l) cap),(10,.int .i64 (List.length l:Int)),(11,.int .i64 (y.1:Int))]) (fun y=>([])) (fun y=>[al_ ad (List.flatMap ivC l)]) (fun y=>l.length - y.1) ⟨(0:Nat),by simp⟩ zl g_ zh ?_
 rintro ⟨i,hi⟩
 dsimp only at hi ⊢
 refine Zi 2 (fun hr1=>?_) fun hr1=>?_
 ·refine Zz 13 ?_
  exact N_ Tryz.results278 () (V_ rfl (by rw[List.take_of_length_le (by omega)])) g_ zt
 obtain⟨hlx1,x1,hx1,hmx1⟩:=zge (show i<List.length l by omega)
 refine Zz 10 ?_
 refine d_ (L_ cj_ tz_ rfl rfl (fun v _ h=>y_ (n:=2) nK_ (by decide) (by exact h.1) hx1) (by omega) (by first|omega|(simp;done))) rfl ?_
 refine d_ (af_ (ad:=ad) (us:=ivC x1) Tryz.isAgg255 tz_ rfl zf (nK_ _) (u_ nK_ hx1)) rfl (K_ Tryz.zeroValue255 rfl fun b1=>x_ 0 tz_ rfl rfl rfl rfl rfl rfl (Zz 6 ?_))
 refine Y_ (vC_ (gF_ (List.take i l)) x1) rfl rfl g_ zt rfl fun _=>Zz 8 ?_
 exact J_ ⟨i+1,hlx1⟩ (by dsimp only;omega) ⟨(V_ rfl (pz_ hx1).symm),rfl,rfl,rfl,rfl,trivial⟩ g_ zh
theorem vE_ (l:List (Int×Int)) (ad:Option Addr) (cap:Nat) (hl:l.length≤1000000):Tri Tryz.prog 257 #[.slice ad (List.length l) cap] [] [al_ ad (List.flatMap ivC l)] (fun _:Unit=>.int .i64 (gF_ l)) (fun _=>[]) (fun _=>[]):=by
  refine l_ Tryz.func257 rfl rfl Tryz.ntmps257 rfl fun v0=>?_
  refine Zz 8 ?_
  refine f_ (qL_ l ad cap hl) rfl g_ zf rfl fun _=>Zz 4 ?_
  exact N_ Tryz.results257 () rfl g_ zt
theorem tk_ (i j:Int×Int):Fn0 Tryz.prog 213 #[ivV i,ivV j] (.bool (sE_ i j)):=by
 refine l_ Tryz.func213 rfl rfl Tryz.ntmps213 rfl fun v0=>?_
 refine Zz 2 ?_
 refine U_ rfl rfl fun b1=>U_ rfl rfl fun b2=>Zz 7 ?_
 refine E_ cj_ tz_ Tryz.zeroValue255 rfl rfl rfl rfl rfl rfl fun b3=>?_
 refine ap_ (List.flatMap ivC [i,j]) e_ rfl ?_
 refine f_ (vE_ [i,j] (some ⟨b3,0,none⟩) 2 (by simp)) rfl g_ zf rfl fun _=>?_
 refine Zi 0 (fun hr1=>?_) fun hr1=>?_
 ·refine Zz 18 ?_
  exact N_ Tryz.results213 () (m_ rfl (by unfold sE_;simp_all<;>omega)) g_ zt
 refine Zi 10 (fun hr2=>?_) fun hr2=>?_
 ·refine Zz 12 ?_
  exact N_ Tryz.results213 () (m_ rfl (by unfold sE_;simp_all<;>omega)) g_ zt
 refine Zz 11 ?_
 refine D_ (fu_ rfl rfl) rfl fun r3 hr3=>Zz 5 ?_
 exact N_ Tryz.results213 () (m_ rfl (by unfold sE_;simp_all<;>omega)) g_ zt
theorem qc_ (a b c d:Int) (ha:-1099511627776≤a∧a≤b∧b≤1099511627776) (hb:-1099511627776≤c∧c≤d∧d≤1099511627776):Fn0 Tryz.prog 213 #[ivV (a,b),ivV (c,d)] (.bool (decide (c≤a∧b≤d))):=by
  have:=tk_ (a,b) (c,d)
  rw[vD_ ha hb]at this
  exact this
theorem kh_ {α:Type} {p:α→Bool} {l:List α} {i:Nat} {x:α} (h:l[i]? = some x):List.filter p (List.take (i+1) l)=List.filter p (List.take i l)++(if p x then [x] else []):=by
  rw[List.take_add_one,h,Option.toList_some,List.filter_append]
  congr 1
  simp[List.filter_cons]
theorem out_c (B:EngB) (E:Emt Tryz.prog 67) (A:EngA) (pm:List (Ky×Pc)) (x:Ix) (f:Fc) (nw fm:List Fc) (Hs:Hp) (hS:E.St nw fm Hs) (hpl:∀ k,(lat pm k).length≤1000000000) (hxl:∀ k,(lat x.above k).length≤1000000000∧(lat x.under k).length≤1000000000) (hyl:∀ k,(lat x.frm k).length≤1000000000∧(lat x.into k).length≤1000000000∧(lat x.ranges k).length≤1000000000∧(lat x.firms k).length≤1000000000) (hf:-1099511627776≤f.lo∧f.lo≤f.hi∧f.hi≤1099511627776) (hq:∀ y∈lat pm (Ky.mk 9 f.r []),-1099511627776≤y.lo∧y.lo≤y.hi∧y.hi≤1099511627776):Tri Tryz.prog 151 #[zp_ B.g 0,Fc.val f] Hs [gF B E,pF B pm A,aF B x A,uF B x A,oF B x A,iF B x A,rF B x A,sF B x A,E.ef] (fun _:{H':Hp // E.St (emits E.stp (ss_ pm f) nw) fm H'}=>.tuple #[]) (fun y=>y.1) (fun _=>[]):=by
 refine l_ Tryz.func151 rfl rfl Tryz.ntmps151 rfl fun v0=>?_
 refine Zz 2 ?_
 refine U_ rfl rfl fun b1=>Zz 4 ?_
 refine z_ 0 [0,1,2,3,4,5,6,7,8,9] zk zs (Zz 6 ?_)
 refine P_ rfl (w_ fa_ rfl rfl) rfl (P_ rfl (cc_ (k:=(Ky.mk 9 f.r [])) (adr:=A.p) hC_ bQ_ cC_ rfl rfl zf) rfl (Zz 6 ?_))
 refine ai_ (ι:={y:Nat×Hp // y.1≤List.length (lat pm (Ky.mk 9 f.r []))∧E.St (emits E.stp (List.map (fun y=>ar_ f.a y.c) (List.filter (fun y=>decide (Pc.lo y≤Fc.lo f∧Fc.hi f≤Pc.hi y)) (List.take y.1 (lat pm (Ky.mk 9 f.r []))))) nw) fm y.2}) (fun y=>[(0,zp_ B.g 0),(3,zp_ b1 0),(13,.slice (Prod.fst (A.p (Ky.mk 9 f.r []))) (List.length (lat pm (Ky.mk 9 f.r []))) (Prod.snd (A.p (Ky.mk 9 f.r [])))),(14,.int .i64 (List.length (lat pm (Ky.mk 9 f.r [])):Int)),(15,.int .i64 (y.1.1:Int))]) (fun y=>((b1,.cells #[.int .i64 f.kind,str f.a,str f.b,str f.r,.int .i64 f.lo,.int .i64 f.hi] 67 (0,0))::y.1.2)) (fun y=>[gF B E,pF B pm A,aF B x A,uF B x A,oF B x A,iF B x A,rF B x A,sF B x A,E.ef]) (fun y=>List.length (lat pm (Ky.mk 9 f.r [])) - y.1.1) ⟨((0:Nat),Hs),by simp,by exact hS⟩ zl zp zh ?_
 rintro ⟨⟨i,Hs_i⟩,hi_i,hS_i⟩
 dsimp only at hi_i hS_i ⊢
 have hb_i:=hpl (Ky.mk 9 f.r [])
 refine Zi 2 (fun hr1=>?_) fun hr1=>?_
 ·refine Zz 6 ?_
  exact bX_ Tryz.results151 ⟨Hs_i,by unfold ss_;rw[List.take_of_length_le (by omega)]at hS_i;exact hS_i⟩ rfl M_ zt
 obtain⟨hlx1,x1,hx1,hmx1⟩:=zge (show i<List.length (lat pm (Ky.mk 9 f.r [])) by omega)
 refine Zz 10 ?_
 refine d_ (L_ q_ F_ rfl rfl (fun v _ h=>y_ (n:=10) Pc.cells_len (by decide) (by exact (bo_ h.2.1 (Ky.mk 9 f.r []))) hx1) (by omega) (by first|omega|(simp;done))) rfl ?_
 refine d_ (af_ (ad:=(Prod.fst (A.p (Ky.mk 9 f.r [])))) (us:=Pc.cells x1) eI_ F_ rfl (fun v _ h=>by exact (bo_ h.2.1 (Ky.mk 9 f.r []))) (Pc.cells_len _) (u_ Pc.cells_len hx1)) rfl (K_ Z_ rfl fun b2=>x_ 0 F_ rfl rfl rfl rfl rfl rfl (Zz 8 ?_))
 refine d_ (w_ rj_ rfl rfl) rfl (Zz 4 ?_)
 refine d_ (w_ rj_ rfl rfl) rfl (aj_ (qc_ f.lo f.hi x1.lo x1.hi hf (hq x1 hmx1)) rfl g_ zt rfl fun r2 hr2=>Zz 2 ?_)
 cases r2
 ·replace hr2:=zdf hr2
  refine Zz 8 ?_
  exact J_ ⟨(i+1,Hs_i),hlx1,(by rw[kh_ hx1];first|(rw[if_pos (decide_eq_true (by assumption)),List.map_append,aC_];exact hS_i)|(rw[if_neg (by rw[decide_eq_false (by assumption)];decide),List.append_nil];exact hS_i))⟩ (by dsimp only;omega) zl (p_ (c_ e_) M_) zh
 replace hr2:=zdt hr2
 refine bg_ rfl ?_
 refine am_ ((b2,.cells #[.int .i64 x1.kind,str x1.a,str x1.b,str x1.c,str x1.r,str x1.s,str x1.t,.int .i64 x1.lo,.int .i64 x1.hi,.int .i64 x1.frm] 58 (0,0))::((b1,.cells #[.int .i64 f.kind,str f.a,str f.b,str f.r,.int .i64 f.lo,.int .i64 f.hi] 67 (0,0))::[])) zk ?_
 refine z_ 2 [0,1,2,3,4,5,6,7] zk zs (Zz 9 ?_)
 refine j_ 8 rfl zk (f_ (gs_ f.a x1.c) rfl g_ zt rfl fun _=>Zz 3 ?_)
 refine j_ 9 rfl zk (Y_ (first:=[]) (cap:=E.caps) (E.emit (ar_ f.a x1.c) (emits E.stp (List.map (fun y=>ar_ f.a y.c) (List.filter (fun y=>decide (Pc.lo y≤Fc.lo f∧Fc.hi f≤Pc.hi y)) (List.take i (lat pm (Ky.mk 9 f.r []))))) nw) fm Hs_i hS_i) rfl rfl (c_ M_) zf rfl fun⟨Hs1,hS1⟩=>?_)
 dsimp only
 refine Zz 10 ?_
 exact J_ ⟨(i+1,Hs1),hlx1,(by rw[kh_ hx1];first|(rw[if_pos (decide_eq_true (by assumption)),List.map_append,aC_];exact hS1)|(rw[if_neg (by rw[decide_eq_false (by assumption)];decide),List.append_nil];exact hS1))⟩ (by dsimp only;omega) zl zp zh
theorem eu_ {f:Fc} {l:List Fc} {i:Nat} {x:Fc} (h:l[i]? = some x):gx_ f (List.take (i+1) l)=gx_ f (List.take i l)++(if (!cV_ f x&&decide (ei_ f x≠f∧ei_ f x≠x))=true then [ei_ f x] else []):=by
  unfold gx_
  rw[kh_ h,List.map_append]
  congr 1
  split<;>simp
theorem fJ_ {α:Type} {p:α→Bool} {l:List α} {i:Nat} {x:α} (h:l[i]? = some x):List.any (List.take (i+1) l) p=(List.any (List.take i l) p||p x):=by
  rw[List.take_add_one,h,Option.toList_some,List.any_append];simp
theorem meet_c (B:EngB) (E:Emt Tryz.prog 67) (A:EngA) (pm:List (Ky×Pc)) (x:Ix) (f:Fc) (nw fm:List Fc) (Hs:Hp) (hS:E.St nw fm Hs) (hpl:∀ k,(lat pm k).length≤1000000000) (hxl:∀ k,(lat x.above k).length≤1000000000∧(lat x.under k).length≤1000000000) (hyl:∀ k,(lat x.frm k).length≤1000000000∧(lat x.into k).length≤1000000000∧(lat x.ranges k).length≤1000000000∧(lat x.firms k).length≤1000000000):Tri Tryz.prog 150 #[zp_ B.g 0,Fc.val f] Hs [gF B E,pF B pm A,aF B x A,uF B x A,oF B x A,iF B x A,rF B x A,sF B x A,E.ef] (fun _:{H':Hp // E.St (emits E.stp (gx_ f (eW_ x f (decide (f∈fm)))++hB_ f (eW_ x f (decide (f∈fm)))) nw) fm H'}=>.tuple #[]) (fun y=>y.1) (fun _=>[]):=by
 refine l_ Tryz.func150 rfl rfl Tryz.ntmps150 rfl fun v0=>?_
 refine Zz 2 ?_
 refine U_ rfl rfl fun b1=>Zz 8 ?_
 refine d_ (w_ fQ_ rfl rfl) rfl (K_ cG_ rfl fun b2=>x_ 0 dU_ rfl rfl rfl rfl rfl rfl (Zz 4 ?_))
 refine z_ 0 [0,1,2,3,4,5,6] zk zs (Zz 5 ?_)
 refine P_ rfl (cc_ (k:=(f.a,f.r)) (adr:=A.s) di_ sc_ or_ rfl rfl zf) rfl (Zz 7 ?_)
 refine z_ 0 [0,1,2,3,4,5] zk zs (Zz 5 ?_)
 refine gt_ rfl (ou_ (f:=f) hS jr_ aO_ cR_ rfl rfl (c_ M_)) rfl fun r1 hr1=>Zz 3 ?_
 cases r1
 ·replace hr1:=zdf hr1
  refine Zz 17 ?_
  refine ai_ (ι:={y:Nat×Hp×Bool // y.1≤List.length (lat x.firms (f.a,f.r))∧E.St (emits E.stp (gx_ f (List.take y.1 (lat x.firms (f.a,f.r)))) nw) fm y.2.1∧y.2.2=List.any (List.take y.1 (lat x.firms (f.a,f.r))) (cV_ f)}) (fun y=>[(0,zp_ B.g 0),(3,zp_ b1 0),(6,.bool y.1.2.2),(35,.slice (Prod.fst (A.s (f.a,f.r))) (List.length (lat x.firms (f.a,f.r))) (Prod.snd (A.s (f.a,f.r)))),(36,.int .i64 (List.length (lat x.firms (f.a,f.r)):Int)),(37,.int .i64 (y.1.1:Int))]) (fun y=>((b1,.cells #[.int .i64 f.kind,str f.a,str f.b,str f.r,.int .i64 f.lo,.int .i64 f.hi] 67 (0,0))::y.1.2.1)) (fun y=>[gF B E,pF B pm A,aF B x A,uF B x A,oF B x A,iF B x A,rF B x A,sF B x A,E.ef]) (fun y=>List.length (lat x.firms (f.a,f.r)) - y.1.1) ⟨((0:Nat),Hs,false),by simp,by exact hS,by simp⟩ zl (p_ (c_ e_) M_) zh ?_
  rintro ⟨⟨i,Hs_i,e⟩,hi_i,hS_i,he⟩
  dsimp only at hi_i hS_i he ⊢
  have hb_i:=(hyl (f.a,f.r)).2.2.2
  refine Zi 2 (fun hr2=>?_) fun hr2=>?_
  ·refine Zz 11 ?_
   cases e
   ·refine Zz 3 ?_
    exact bX_ Tryz.results150 ⟨Hs_i,by have hL:(eW_ x f (decide (f∈fm)))=(lat x.firms (f.a,f.r)):=(by unfold eW_;rw[decide_eq_false (by assumption)]<;>rfl);rw[hL,aC_];have e9:List.take i (lat x.firms (f.a,f.r))=(lat x.firms (f.a,f.r)):=List.take_of_length_le (by omega);rw[e9]at he hS_i;unfold hB_;rw[if_neg (by rw[← he];decide)];exact hS_i⟩ rfl M_ zt
   refine bg_ rfl ?_
   refine am_ ((b1,.cells #[.int .i64 f.kind,str f.a,str f.b,str f.r,.int .i64 f.lo,.int .i64 f.hi] 67 (0,0))::[]) zk ?_
   refine z_ 2 [0,1,2,3,4,5] zk zs (Zz 7 ?_)
   refine j_ 6 rfl zk (f_ (gs_ f.a [33]) rfl g_ zt rfl fun _=>Zz 3 ?_)
   refine j_ 7 rfl zk (Y_ (first:=[]) (cap:=E.caps) (E.emit (ar_ f.a [33]) (emits E.stp (gx_ f (List.take i (lat x.firms (f.a,f.r)))) nw) fm Hs_i hS_i) rfl rfl M_ zf rfl fun⟨Hs1,hS1⟩=>?_)
   dsimp only
   refine Zz 5 ?_
   exact bX_ Tryz.results150 ⟨Hs1,by have hL:(eW_ x f (decide (f∈fm)))=(lat x.firms (f.a,f.r)):=(by unfold eW_;rw[decide_eq_false (by assumption)]<;>rfl);rw[hL,aC_];have e9:List.take i (lat x.firms (f.a,f.r))=(lat x.firms (f.a,f.r)):=List.take_of_length_le (by omega);rw[e9]at he hS1;unfold hB_;rw[if_pos he.symm];exact hS1⟩ rfl o_ zt
  obtain⟨hlx1,x1,hx1,hmx1⟩:=zge (show i<List.length (lat x.firms (f.a,f.r)) by omega)
  refine Zz 10 ?_
  refine d_ (L_ aw_ aA_ rfl rfl (fun v _ h=>y_ (n:=6) Fc.cells_len (by decide) (by exact (bo_ h.2.2.2.2.2.2.2.1 (f.a,f.r))) hx1) (by omega) (by first|omega|(simp;done))) rfl ?_
  refine d_ (af_ (ad:=(Prod.fst (A.s (f.a,f.r)))) (us:=Fc.cells x1) gq_ aA_ rfl (fun v _ h=>by exact (bo_ h.2.2.2.2.2.2.2.1 (f.a,f.r))) (Fc.cells_len _) (u_ Fc.cells_len hx1)) rfl (K_ aQ_ rfl fun b3=>x_ 0 aA_ rfl rfl rfl rfl rfl rfl (Zz 4 ?_))
  refine z_ 0 [0,1,2,3,4,5,6,7,8,9,10,11] zk zs (Zz 4 ?_)
  refine P_ rfl (kY_ rfl rfl) rfl (Zz 4 ?_)
  refine P_ rfl (iV_ rfl rfl) rfl (Zi 9 (fun hr3=>?_) fun hr3=>?_)
  ·refine Zz 11 ?_
   refine f_ (qg_ f.a f.r (max f.lo x1.lo) (min f.hi x1.hi)) rfl g_ zt rfl fun _=>K_ aQ_ rfl fun b4=>x_ 0 aA_ rfl rfl rfl rfl rfl rfl (Zz 6 ?_)
   refine D_ (gI_ (p:=(ak_ f.a f.r (max f.lo x1.lo) (min f.hi x1.hi))) (q:=f) rfl rfl) rfl fun r4 hr4=>Zz 1 ?_
   cases r4
   ·replace hr4:=zdf hr4
    refine Zz 14 ?_
    exact J_ ⟨(i+1,Hs_i,e),hlx1,(by rw[eu_ hx1];first|(rw[if_pos (by rw[Bool.and_eq_true];exact⟨by simp only[cV_];rw[decide_eq_false (by omega)];rfl,decide_eq_true ⟨by assumption,by assumption⟩⟩),aC_];exact hS_i)|(rw[if_neg (by rw[Bool.and_eq_true];intro q;first|exact absurd (of_decide_eq_true q.2).1 (by assumption)|exact absurd (of_decide_eq_true q.2).2 (by assumption)|(have q1:=q.1;simp only[cV_]at q1;rw[decide_eq_true (by omega)]at q1;cases q1)),List.append_nil];exact hS_i)),by rw[fJ_ hx1,← he];simp only[cV_];rw[decide_eq_false (by omega)];simp⟩ (by dsimp only;omega) zl (p_ (c_ (c_ e_)) (c_ M_)) zh
   replace hr4:=zdt hr4
   refine Zz 5 ?_
   refine D_ (gI_ (p:=(ak_ f.a f.r (max f.lo x1.lo) (min f.hi x1.hi))) (q:=x1) rfl rfl) rfl fun r5 hr5=>Zz 3 ?_
   cases r5
   ·replace hr5:=zdf hr5
    refine Zz 8 ?_
    exact J_ ⟨(i+1,Hs_i,e),hlx1,(by rw[eu_ hx1];first|(rw[if_pos (by rw[Bool.and_eq_true];exact⟨by simp only[cV_];rw[decide_eq_false (by omega)];rfl,decide_eq_true ⟨by assumption,by assumption⟩⟩),aC_];exact hS_i)|(rw[if_neg (by rw[Bool.and_eq_true];intro q;first|exact absurd (of_decide_eq_true q.2).1 (by assumption)|exact absurd (of_decide_eq_true q.2).2 (by assumption)|(have q1:=q.1;simp only[cV_]at q1;rw[decide_eq_true (by omega)]at q1;cases q1)),List.append_nil];exact hS_i)),by rw[fJ_ hx1,← he];simp only[cV_];rw[decide_eq_false (by omega)];simp⟩ (by dsimp only;omega) zl (p_ (c_ (c_ e_)) (c_ M_)) zh
   replace hr5:=zdt hr5
   refine bg_ rfl ?_
   refine am_ ((b4,.cells #[.int .i64 (Fc.kind (ak_ f.a f.r (max f.lo x1.lo) (min f.hi x1.hi))),str (Fc.a (ak_ f.a f.r (max f.lo x1.lo) (min f.hi x1.hi))),str (Fc.b (ak_ f.a f.r (max f.lo x1.lo) (min f.hi x1.hi))),str (Fc.r (ak_ f.a f.r (max f.lo x1.lo) (min f.hi x1.hi))),.int .i64 (Fc.lo (ak_ f.a f.r (max f.lo x1.lo) (min f.hi x1.hi))),.int .i64 (Fc.hi (ak_ f.a f.r (max f.lo x1.lo) (min f.hi x1.hi)))] 67 (0,0))::((b3,.cells #[.int .i64 x1.kind,str x1.a,str x1.b,str x1.r,.int .i64 x1.lo,.int .i64 x1.hi] 67 (0,0))::((b1,.cells #[.int .i64 f.kind,str f.a,str f.b,str f.r,.int .i64 f.lo,.int .i64 f.hi] 67 (0,0))::[]))) zk ?_
   refine z_ 1 [0,1,2,3,4] zk zs (Zz 6 ?_)
   refine j_ 5 rfl zk (Y_ (first:=[]) (cap:=E.caps) (E.emit (ak_ f.a f.r (max f.lo x1.lo) (min f.hi x1.hi)) (emits E.stp (gx_ f (List.take i (lat x.firms (f.a,f.r)))) nw) fm Hs_i hS_i) rfl rfl (c_ (c_ M_)) zf rfl fun⟨Hs2,hS2⟩=>?_)
   dsimp only
   refine Zz 10 ?_
   exact J_ ⟨(i+1,Hs2,e),hlx1,(by rw[eu_ hx1];first|(rw[if_pos (by rw[Bool.and_eq_true];exact⟨by simp only[cV_];rw[decide_eq_false (by omega)];rfl,decide_eq_true ⟨by assumption,by assumption⟩⟩),aC_];exact hS2)|(rw[if_neg (by rw[Bool.and_eq_true];intro q;first|exact absurd (of_decide_eq_true q.2).1 (by assumption)|exact absurd (of_decide_eq_true q.2).2 (by assumption)|(have q1:=q.1;simp only[cV_]at q1;rw[decide_eq_true (by omega)]at q1;cases q1)),List.append_nil];exact hS2)),by rw[fJ_ hx1,← he];simp only[cV_];rw[decide_eq_false (by omega)];simp⟩ (by dsimp only;omega) zl zp zh
  refine Zz 12 ?_
  exact J_ ⟨(i+1,Hs_i,true),hlx1,(by rw[eu_ hx1];first|(rw[if_pos (by rw[Bool.and_eq_true];exact⟨by simp only[cV_];rw[decide_eq_false (by omega)];rfl,decide_eq_true ⟨by assumption,by assumption⟩⟩),aC_];exact hS_i)|(rw[if_neg (by rw[Bool.and_eq_true];intro q;first|exact absurd (of_decide_eq_true q.2).1 (by assumption)|exact absurd (of_decide_eq_true q.2).2 (by assumption)|(have q1:=q.1;simp only[cV_]at q1;rw[decide_eq_true (by omega)]at q1;cases q1)),List.append_nil];exact hS_i)),by rw[fJ_ hx1,← he];simp only[cV_];rw[decide_eq_true (by omega)];simp⟩ (by dsimp only;omega) zl (p_ (c_ e_) M_) zh
 replace hr1:=zdt hr1
 refine Zz 2 ?_
 refine z_ 0 [0,1,2,3,4,5,6] zk zs (Zz 5 ?_)
 refine P_ rfl (cc_ (k:=(f.a,f.r)) (adr:=A.r) di_ sc_ or_ rfl rfl zf) rfl (Zz 18 ?_)
 refine ai_ (ι:={y:Nat×Hp×Bool // y.1≤List.length (lat x.ranges (f.a,f.r))∧E.St (emits E.stp (gx_ f (List.take y.1 (lat x.ranges (f.a,f.r)))) nw) fm y.2.1∧y.2.2=List.any (List.take y.1 (lat x.ranges (f.a,f.r))) (cV_ f)}) (fun y=>[(0,zp_ B.g 0),(3,zp_ b1 0),(6,.bool y.1.2.2),(35,.slice (Prod.fst (A.r (f.a,f.r))) (List.length (lat x.ranges (f.a,f.r))) (Prod.snd (A.r (f.a,f.r)))),(36,.int .i64 (List.length (lat x.ranges (f.a,f.r)):Int)),(37,.int .i64 (y.1.1:Int))]) (fun y=>((b1,.cells #[.int .i64 f.kind,str f.a,str f.b,str f.r,.int .i64 f.lo,.int .i64 f.hi] 67 (0,0))::y.1.2.1)) (fun y=>[gF B E,pF B pm A,aF B x A,uF B x A,oF B x A,iF B x A,rF B x A,sF B x A,E.ef]) (fun y=>List.length (lat x.ranges (f.a,f.r)) - y.1.1) ⟨((0:Nat),Hs,false),by simp,by exact hS,by simp⟩ zl (p_ (c_ e_) M_) zh ?_
 rintro ⟨⟨i,Hs_i,e⟩,hi_i,hS_i,he⟩
 dsimp only at hi_i hS_i he ⊢
 have hb_i:=(hyl (f.a,f.r)).2.2.1
 refine Zi 2 (fun hr6=>?_) fun hr6=>?_
 ·refine Zz 11 ?_
  cases e
  ·refine Zz 3 ?_
   exact bX_ Tryz.results150 ⟨Hs_i,by have hL:(eW_ x f (decide (f∈fm)))=(lat x.ranges (f.a,f.r)):=(by unfold eW_;rw[decide_eq_true (by assumption)]<;>rfl);rw[hL,aC_];have e9:List.take i (lat x.ranges (f.a,f.r))=(lat x.ranges (f.a,f.r)):=List.take_of_length_le (by omega);rw[e9]at he hS_i;unfold hB_;rw[if_neg (by rw[← he];decide)];exact hS_i⟩ rfl M_ zt
  refine bg_ rfl ?_
  refine am_ ((b1,.cells #[.int .i64 f.kind,str f.a,str f.b,str f.r,.int .i64 f.lo,.int .i64 f.hi] 67 (0,0))::[]) zk ?_
  refine z_ 2 [0,1,2,3,4,5] zk zs (Zz 7 ?_)
  refine j_ 6 rfl zk (f_ (gs_ f.a [33]) rfl g_ zt rfl fun _=>Zz 3 ?_)
  refine j_ 7 rfl zk (Y_ (first:=[]) (cap:=E.caps) (E.emit (ar_ f.a [33]) (emits E.stp (gx_ f (List.take i (lat x.ranges (f.a,f.r)))) nw) fm Hs_i hS_i) rfl rfl M_ zf rfl fun⟨Hs3,hS3⟩=>?_)
  dsimp only
  refine Zz 5 ?_
  exact bX_ Tryz.results150 ⟨Hs3,by have hL:(eW_ x f (decide (f∈fm)))=(lat x.ranges (f.a,f.r)):=(by unfold eW_;rw[decide_eq_true (by assumption)]<;>rfl);rw[hL,aC_];have e9:List.take i (lat x.ranges (f.a,f.r))=(lat x.ranges (f.a,f.r)):=List.take_of_length_le (by omega);rw[e9]at he hS3;unfold hB_;rw[if_pos he.symm];exact hS3⟩ rfl o_ zt
 obtain⟨hlx1,x1,hx1,hmx1⟩:=zge (show i<List.length (lat x.ranges (f.a,f.r)) by omega)
 refine Zz 10 ?_
 refine d_ (L_ aw_ aA_ rfl rfl (fun v _ h=>y_ (n:=6) Fc.cells_len (by decide) (by exact (bo_ h.2.2.2.2.2.2.1 (f.a,f.r))) hx1) (by omega) (by first|omega|(simp;done))) rfl ?_
 refine d_ (af_ (ad:=(Prod.fst (A.r (f.a,f.r)))) (us:=Fc.cells x1) gq_ aA_ rfl (fun v _ h=>by exact (bo_ h.2.2.2.2.2.2.1 (f.a,f.r))) (Fc.cells_len _) (u_ Fc.cells_len hx1)) rfl (K_ aQ_ rfl fun b5=>x_ 0 aA_ rfl rfl rfl rfl rfl rfl (Zz 4 ?_))
 refine z_ 0 [0,1,2,3,4,5,6,7,8,9,10,11] zk zs (Zz 4 ?_)
 refine P_ rfl (kY_ rfl rfl) rfl (Zz 4 ?_)
 refine P_ rfl (iV_ rfl rfl) rfl (Zi 9 (fun hr7=>?_) fun hr7=>?_)
 ·refine Zz 11 ?_
  refine f_ (qg_ f.a f.r (max f.lo x1.lo) (min f.hi x1.hi)) rfl g_ zt rfl fun _=>K_ aQ_ rfl fun b6=>x_ 0 aA_ rfl rfl rfl rfl rfl rfl (Zz 6 ?_)
  refine D_ (gI_ (p:=(ak_ f.a f.r (max f.lo x1.lo) (min f.hi x1.hi))) (q:=f) rfl rfl) rfl fun r8 hr8=>Zz 1 ?_
  cases r8
  ·replace hr8:=zdf hr8
   refine Zz 14 ?_
   exact J_ ⟨(i+1,Hs_i,e),hlx1,(by rw[eu_ hx1];first|(rw[if_pos (by rw[Bool.and_eq_true];exact⟨by simp only[cV_];rw[decide_eq_false (by omega)];rfl,decide_eq_true ⟨by assumption,by assumption⟩⟩),aC_];exact hS_i)|(rw[if_neg (by rw[Bool.and_eq_true];intro q;first|exact absurd (of_decide_eq_true q.2).1 (by assumption)|exact absurd (of_decide_eq_true q.2).2 (by assumption)|(have q1:=q.1;simp only[cV_]at q1;rw[decide_eq_true (by omega)]at q1;cases q1)),List.append_nil];exact hS_i)),by rw[fJ_ hx1,← he];simp only[cV_];rw[decide_eq_false (by omega)];simp⟩ (by dsimp only;omega) zl (p_ (c_ (c_ e_)) (c_ M_)) zh
  replace hr8:=zdt hr8
  refine Zz 5 ?_
  refine D_ (gI_ (p:=(ak_ f.a f.r (max f.lo x1.lo) (min f.hi x1.hi))) (q:=x1) rfl rfl) rfl fun r9 hr9=>Zz 3 ?_
  cases r9
  ·replace hr9:=zdf hr9
   refine Zz 8 ?_
   exact J_ ⟨(i+1,Hs_i,e),hlx1,(by rw[eu_ hx1];first|(rw[if_pos (by rw[Bool.and_eq_true];exact⟨by simp only[cV_];rw[decide_eq_false (by omega)];rfl,decide_eq_true ⟨by assumption,by assumption⟩⟩),aC_];exact hS_i)|(rw[if_neg (by rw[Bool.and_eq_true];intro q;first|exact absurd (of_decide_eq_true q.2).1 (by assumption)|exact absurd (of_decide_eq_true q.2).2 (by assumption)|(have q1:=q.1;simp only[cV_]at q1;rw[decide_eq_true (by omega)]at q1;cases q1)),List.append_nil];exact hS_i)),by rw[fJ_ hx1,← he];simp only[cV_];rw[decide_eq_false (by omega)];simp⟩ (by dsimp only;omega) zl (p_ (c_ (c_ e_)) (c_ M_)) zh
  replace hr9:=zdt hr9
  refine bg_ rfl ?_
  refine am_ ((b6,.cells #[.int .i64 (Fc.kind (ak_ f.a f.r (max f.lo x1.lo) (min f.hi x1.hi))),str (Fc.a (ak_ f.a f.r (max f.lo x1.lo) (min f.hi x1.hi))),str (Fc.b (ak_ f.a f.r (max f.lo x1.lo) (min f.hi x1.hi))),str (Fc.r (ak_ f.a f.r (max f.lo x1.lo) (min f.hi x1.hi))),.int .i64 (Fc.lo (ak_ f.a f.r (max f.lo x1.lo) (min f.hi x1.hi))),.int .i64 (Fc.hi (ak_ f.a f.r (max f.lo x1.lo) (min f.hi x1.hi)))] 67 (0,0))::((b5,.cells #[.int .i64 x1.kind,str x1.a,str x1.b,str x1.r,.int .i64 x1.lo,.int .i64 x1.hi] 67 (0,0))::((b1,.cells #[.int .i64 f.kind,str f.a,str f.b,str f.r,.int .i64 f.lo,.int .i64 f.hi] 67 (0,0))::[]))) zk ?_
  refine z_ 1 [0,1,2,3,4] zk zs (Zz 6 ?_)
  refine j_ 5 rfl zk (Y_ (first:=[]) (cap:=E.caps) (E.emit (ak_ f.a f.r (max f.lo x1.lo) (min f.hi x1.hi)) (emits E.stp (gx_ f (List.take i (lat x.ranges (f.a,f.r)))) nw) fm Hs_i hS_i) rfl rfl (c_ (c_ M_)) zf rfl fun⟨Hs4,hS4⟩=>?_)
  dsimp only
  refine Zz 10 ?_
  exact J_ ⟨(i+1,Hs4,e),hlx1,(by rw[eu_ hx1];first|(rw[if_pos (by rw[Bool.and_eq_true];exact⟨by simp only[cV_];rw[decide_eq_false (by omega)];rfl,decide_eq_true ⟨by assumption,by assumption⟩⟩),aC_];exact hS4)|(rw[if_neg (by rw[Bool.and_eq_true];intro q;first|exact absurd (of_decide_eq_true q.2).1 (by assumption)|exact absurd (of_decide_eq_true q.2).2 (by assumption)|(have q1:=q.1;simp only[cV_]at q1;rw[decide_eq_true (by omega)]at q1;cases q1)),List.append_nil];exact hS4)),by rw[fJ_ hx1,← he];simp only[cV_];rw[decide_eq_false (by omega)];simp⟩ (by dsimp only;omega) zl zp zh
 refine Zz 12 ?_
 exact J_ ⟨(i+1,Hs_i,true),hlx1,(by rw[eu_ hx1];first|(rw[if_pos (by rw[Bool.and_eq_true];exact⟨by simp only[cV_];rw[decide_eq_false (by omega)];rfl,decide_eq_true ⟨by assumption,by assumption⟩⟩),aC_];exact hS_i)|(rw[if_neg (by rw[Bool.and_eq_true];intro q;first|exact absurd (of_decide_eq_true q.2).1 (by assumption)|exact absurd (of_decide_eq_true q.2).2 (by assumption)|(have q1:=q.1;simp only[cV_]at q1;rw[decide_eq_true (by omega)]at q1;cases q1)),List.append_nil];exact hS_i)),by rw[fJ_ hx1,← he];simp only[cV_];rw[decide_eq_true (by omega)];simp⟩ (by dsimp only;omega) zl (p_ (c_ e_) M_) zh
theorem vX_ (B:EngB) (E:Emt Tryz.prog 67) (nw fm:List Fc) (Hs:Hp) (hS:E.St nw fm Hs) (al:List Str) (aad:Option Addr) (acap:Nat) (hal:al.length≤1000000000) (hll:B.lps.length≤1000000000):Tri Tryz.prog 72 #[zp_ B.g 0,.slice aad (List.length al) acap] Hs [gF B E,al_ B.lad (List.flatMap aE_ B.lps),al_ aad (List.flatMap aE_ al),E.ef] (fun _:{H':Hp // E.St (emits E.stp (gG_ B.lps al) nw) fm H'}=>.tuple #[]) (fun y=>y.1) (fun _=>[]):=by
 refine l_ Tryz.func72 rfl rfl Tryz.ntmps72 rfl fun v0=>?_
 refine Zz 8 ?_
 refine ai_ (ι:={y:Nat×Hp // y.1≤List.length al∧E.St (emits E.stp (List.flatMap (fun a=>ar_ a a::ar_ a [42]::List.map (fun r=>ax_ a r a) B.lps) (List.take y.1 al)) nw) fm y.2}) (fun y=>[(0,zp_ B.g 0),(8,.slice aad (List.length al) acap),(9,.int .i64 (List.length al:Int)),(10,.int .i64 (y.1.1:Int))]) (fun y=>(y.1.2)) (fun y=>[gF B E,al_ B.lad (List.flatMap aE_ B.lps),al_ aad (List.flatMap aE_ al),E.ef]) (fun y=>List.length al - y.1.1) ⟨((0:Nat),Hs),by simp,by exact hS⟩ zl aZ_ zh ?_
 rintro ⟨⟨i,Hs_i⟩,hi_i,hS_i⟩
 dsimp only at hi_i hS_i ⊢
 have hb_i:=hal
 refine Zi 2 (fun hr1=>?_) fun hr1=>?_
 ·refine Zz 6 ?_
  exact bX_ Tryz.results72 ⟨Hs_i,by unfold gG_;rw[List.take_of_length_le (by omega)]at hS_i;exact hS_i⟩ rfl aZ_ zt
 obtain⟨hlx1,x1,hx1,hmx1⟩:=zge (show i<List.length al by omega)
 refine Zz 16 ?_
 refine am_ ([]) zk ?_
 refine z_ 2 [0,1,2,3,4,5] zk zs (Zz 7 ?_)
 refine j_ 6 rfl zk (f_ (gs_ x1 x1) rfl g_ zt rfl fun _=>C_ rs_ (Zz 3 ?_))
 refine j_ 7 rfl zk (Y_ (first:=[]) (cap:=E.caps) (E.emit (ar_ x1 x1) (emits E.stp (List.flatMap (fun a=>ar_ a a::ar_ a [42]::List.map (fun r=>ax_ a r a) B.lps) (List.take i al)) nw) fm Hs_i hS_i) rfl rfl aZ_ zf rfl fun⟨Hs1,hS1⟩=>?_)
 dsimp only
 refine C_ im_ (Zz 6 ?_)
 refine am_ ([]) zk ?_
 refine z_ 2 [0,1,2,3,4] zk zs (Zz 6 ?_)
 refine j_ 5 rfl zk (f_ (gs_ x1 [42]) rfl g_ zt rfl fun _=>C_ rs_ (Zz 3 ?_))
 refine j_ 6 rfl zk (Y_ (first:=[]) (cap:=E.caps) (E.emit (ar_ x1 [42]) (E.stp (ar_ x1 x1) (emits E.stp (List.flatMap (fun a=>ar_ a a::ar_ a [42]::List.map (fun r=>ax_ a r a) B.lps) (List.take i al)) nw)) fm Hs1 hS1) rfl rfl aZ_ zf rfl fun⟨Hs2,hS2⟩=>?_)
 dsimp only
 refine C_ im_ (Zz 16 ?_)
 refine ai_ (ι:={y:Nat×Hp // y.1≤List.length B.lps∧E.St (emits E.stp (List.map (fun r=>ax_ x1 r x1) (List.take y.1 B.lps)) (E.stp (ar_ x1 [42]) (E.stp (ar_ x1 x1) (emits E.stp (List.flatMap (fun a=>ar_ a a::ar_ a [42]::List.map (fun r=>ax_ a r a) B.lps) (List.take i al)) nw)))) fm y.2}) (fun y=>[(0,zp_ B.g 0),(8,.slice aad (List.length al) acap),(9,.int .i64 (List.length al:Int)),(10,.int .i64 (i:Int)),(5,str x1),(32,.slice B.lad (List.length B.lps) B.lcap),(33,.int .i64 (List.length B.lps:Int)),(34,.int .i64 (y.1.1:Int))]) (fun y=>(y.1.2)) (fun y=>[gF B E,al_ B.lad (List.flatMap aE_ B.lps),al_ aad (List.flatMap aE_ al),E.ef]) (fun y=>List.length B.lps - y.1.1) ⟨((0:Nat),Hs2),by simp,by exact hS2⟩ zl aZ_ zh ?_
 rintro ⟨⟨j,Hs_j⟩,hi_j,hS_j⟩
 dsimp only at hi_j hS_j ⊢
 have hb_j:=hll
 refine Zi 2 (fun hr2=>?_) fun hr2=>?_
 ·refine Zz 11 ?_
  exact J_ ⟨(i+1,Hs_j),hlx1,(by rw[ha_ hx1,aC_];have e9:List.take j B.lps=B.lps:=List.take_of_length_le (by omega);rw[e9]at hS_j;exact hS_j)⟩ (by dsimp only;omega) zl aZ_ zh
 have hlx2:j<List.length B.lps:=by omega
 obtain⟨x2,hx2⟩:∃ e0,B.lps[j]? = some e0:=⟨_,List.getElem?_eq_getElem hlx2⟩
 have hmx2:x2∈B.lps:=List.mem_of_getElem? hx2
 refine Zz 15 ?_
 refine am_ ([]) zk ?_
 refine z_ 2 [0,1,2,3,4,5,6] zk zs (Zz 8 ?_)
 refine j_ 7 rfl zk (f_ (lJ_ x1 x2 x1) rfl g_ zt rfl fun _=>C_ rs_ (Zz 3 ?_))
 refine j_ 8 rfl zk (Y_ (first:=[]) (cap:=E.caps) (E.emit (ax_ x1 x2 x1) (emits E.stp (List.map (fun r=>ax_ x1 r x1) (List.take j B.lps)) (E.stp (ar_ x1 [42]) (E.stp (ar_ x1 x1) (emits E.stp (List.flatMap (fun a=>ar_ a a::ar_ a [42]::List.map (fun r=>ax_ a r a) B.lps) (List.take i al)) nw)))) fm Hs_j hS_j) rfl rfl aZ_ zf rfl fun⟨Hs3,hS3⟩=>?_)
 dsimp only
 refine C_ im_ (Zz 10 ?_)
 exact J_ ⟨(j+1,Hs3),hlx2,(by rw[fj_ hx2,aC_];exact hS3)⟩ (by dsimp only;omega) zl aZ_ zh
end Go.Proofs.YtamklbgaipakfaaGreatDoor
