/-
  Part of the proof of the law ProofSound over this seat: the small logic, the data, the contracts of functions (no condition).
-/
import Derived.Test.YtkeanlfhghlgiaaGreatDoorQProofSound6
import Derived.Test.YtkeanlfhghlgiaaGreatDoorQProofSound5
import Derived.Test.YtkeanlfhghlgiaaGreatDoorQProofSound3
set_option linter.unusedVariables false
set_option linter.unusedSimpArgs false
set_option linter.unusedSectionVars false
set_option maxHeartbeats 1000000
namespace Go.Proofs.YtkeanlfhghlgiaaGreatDoor
open Go Go.Sx Go.Proofs
attribute [local irreducible] Code.wp wpList wpAnyH
open Go.Vs
theorem dh_ {α β:Type} {g:α→β} {l:List α} {i:Nat} {x:α} (h:l[i]? = some x):List.map g (List.take (i+1) l)=List.map g (List.take i l)++[g x]:=by
  rw[List.take_add_one,h,Option.toList_some,List.map_append];rfl
theorem fh_ (a b:Str):Fn0 Tryz.prog 49 #[str a,str b] (Fc.val (y_ a b)):=by
  refine u_ Tryz.func49 rfl rfl Tryz.ntmps49 rfl fun v0=>?_
  refine Zz 2 ?_
  refine L_ Z_ rfl fun b1=>Zz 6 ?_
  refine i_ (F_ dv_ rfl rfl) rfl (A_ 0 z_ rfl rfl rfl rfl rfl rfl (Zz 3 ?_))
  exact fk_ () (fun aa v h1 h2=>db_ (us:=Fc.cells (y_ a b)) 0 Tryz.results49 ba_ z_ rfl rfl rfl aa v h1 h2) m_ zt
theorem jP_ (a r b:Str):Fn0 Tryz.prog 88 #[str a,str r,str b] (Fc.val (E_ a r b)):=by
  refine u_ Tryz.func88 rfl rfl Tryz.ntmps88 rfl fun v0=>?_
  refine Zz 2 ?_
  refine L_ Z_ rfl fun b1=>Zz 7 ?_
  refine i_ (F_ dv_ rfl rfl) rfl (A_ 0 z_ rfl rfl rfl rfl rfl rfl (Zz 3 ?_))
  exact fk_ () (fun aa v h1 h2=>db_ (us:=Fc.cells (E_ a r b)) 0 Tryz.results88 ba_ z_ rfl rfl rfl aa v h1 h2) m_ zt
theorem ju_ (a r:Str) (lo hi:Int):Fn0 Tryz.prog 50 #[str a,str r,.int .i64 lo,.int .i64 hi] (Fc.val (M_ a r lo hi)):=by
  refine u_ Tryz.func50 rfl rfl Tryz.ntmps50 rfl fun v0=>?_
  refine Zz 2 ?_
  refine L_ Z_ rfl fun b1=>Zz 8 ?_
  refine i_ (F_ dv_ rfl rfl) rfl (A_ 0 z_ rfl rfl rfl rfl rfl rfl (Zz 3 ?_))
  exact fk_ () (fun aa v h1 h2=>db_ (us:=Fc.cells (M_ a r lo hi)) 0 Tryz.results50 ba_ z_ rfl rfl rfl aa v h1 h2) m_ zt
theorem oZ_ (B:EngB) (E:Emt Tryz.prog 24) (A:EngA) (pm:List (Ky×Pc)) (x:Ix) (f:Fc) (nw fm:List Fc) (Hs:Hp) (hS:E.St nw fm Hs) (hpl:∀ k,(lat pm k).length≤1000000000) (hxl:∀ k,(lat x.above k).length≤1000000000∧(lat x.under k).length≤1000000000) (hyl:∀ k,(lat x.frm k).length≤1000000000∧(lat x.into k).length≤1000000000∧(lat x.ranges k).length≤1000000000∧(lat x.firms k).length≤1000000000):Tri Tryz.prog 89 #[zp_ B.g 0,Fc.val f] Hs [gF B E,pF B pm A,aF B x A,uF B x A,oF B x A,iF B x A,rF B x A,sF B x A,E.ef] (fun _:{H':Hp // E.St (emits E.stp (fY_ pm f) nw) fm H'}=>.tuple #[]) (fun y=>y.1) (fun _=>[]):=by
 refine u_ Tryz.func89 rfl rfl Tryz.ntmps89 rfl fun v0=>?_
 refine Zz 2 ?_
 refine aA_ rfl rfl fun b1=>Zz 4 ?_
 refine q_ 0 [0,1,2,3,4,5,6,7,8,9] zk zs (Zz 6 ?_)
 refine T_ rfl (F_ eh_ rfl rfl) rfl (T_ rfl (aN_ (k:=(Ky.mk 1 [] f.b)) (adr:=A.p) gt_ bP_ cw_ rfl rfl zf) rfl (Zz 6 ?_))
 refine X_ (ι:={y:Nat×Hp // y.1≤List.length (lat pm (Ky.mk 1 [] f.b))∧E.St (emits E.stp (List.map (fun y=>y_ f.a y.c) (List.take y.1 (lat pm (Ky.mk 1 [] f.b)))) nw) fm y.2}) (fun y=>[(0,zp_ B.g 0),(3,zp_ b1 0),(13,.slice (Prod.fst (A.p (Ky.mk 1 [] f.b))) (List.length (lat pm (Ky.mk 1 [] f.b))) (Prod.snd (A.p (Ky.mk 1 [] f.b)))),(14,.int .i64 (List.length (lat pm (Ky.mk 1 [] f.b)):Int)),(15,.int .i64 (y.1.1:Int))]) (fun y=>((b1,.cells #[.int .i64 f.kind,str f.a,str f.b,str f.r,.int .i64 f.lo,.int .i64 f.hi] 24 (0,0))::y.1.2)) (fun y=>[gF B E,pF B pm A,aF B x A,uF B x A,oF B x A,iF B x A,rF B x A,sF B x A,E.ef]) (fun y=>List.length (lat pm (Ky.mk 1 [] f.b)) - y.1.1) ⟨((0:Nat),Hs),by simp,by exact hS⟩ zl zp zh ?_
 rintro ⟨⟨i,Hs_i⟩,hi_i,hS_i⟩
 dsimp only at hi_i hS_i ⊢
 have hb_i:=hpl (Ky.mk 1 [] f.b)
 refine Zi 2 (fun hr1=>?_) fun hr1=>?_
 ·refine Zz 6 ?_
  exact bM_ Tryz.results89 ⟨Hs_i,by unfold fY_;rw[List.take_of_length_le (by omega)]at hS_i;exact hS_i⟩ rfl K_ zt
 obtain⟨hlx1,x1,hx1,hmx1⟩:=zge (show i<List.length (lat pm (Ky.mk 1 [] f.b)) by omega)
 refine Zz 10 ?_
 refine i_ (aa_ W_ R_ rfl rfl (fun v _ h=>H_ (n:=10) Pc.cells_len (by decide) (by exact (ap_ h.2.1 (Ky.mk 1 [] f.b))) hx1) (by omega) (by first|omega|(simp;done))) rfl ?_
 refine i_ (bk_ (ad:=(Prod.fst (A.p (Ky.mk 1 [] f.b)))) (us:=Pc.cells x1) dO_ R_ rfl (fun v _ h=>by exact (ap_ h.2.1 (Ky.mk 1 [] f.b))) (Pc.cells_len _) (x_ Pc.cells_len hx1)) rfl (L_ aL_ rfl fun b2=>A_ 0 R_ rfl rfl rfl rfl rfl rfl (Zz 2 ?_))
 refine af_ ((b2,.cells #[.int .i64 x1.kind,str x1.a,str x1.b,str x1.c,str x1.r,str x1.s,str x1.t,.int .i64 x1.lo,.int .i64 x1.hi,.int .i64 x1.frm] 52 (0,0))::((b1,.cells #[.int .i64 f.kind,str f.a,str f.b,str f.r,.int .i64 f.lo,.int .i64 f.hi] 24 (0,0))::[])) zk ?_
 refine q_ 2 [0,1,2,3,4,5,6,7] zk zs (Zz 9 ?_)
 refine l_ 8 rfl zk (n_ (fh_ f.a x1.c) rfl m_ zt rfl fun _=>Zz 3 ?_)
 refine l_ 9 rfl zk (ao_ (first:=[]) (cap:=E.caps) (E.emit (y_ f.a x1.c) (emits E.stp (List.map (fun y=>y_ f.a y.c) (List.take i (lat pm (Ky.mk 1 [] f.b)))) nw) fm Hs_i hS_i) rfl rfl (c_ K_) zf rfl fun⟨Hs1,hS1⟩=>?_)
 dsimp only
 refine Zz 10 ?_
 exact C_ ⟨(i+1,Hs1),hlx1,(by rw[dh_ hx1,at_];exact hS1)⟩ (by dsimp only;omega) zl zp zh
theorem some_c (B:EngB) (E:Emt Tryz.prog 24) (A:EngA) (pm:List (Ky×Pc)) (x:Ix) (f:Fc) (nw fm:List Fc) (Hs:Hp) (hS:E.St nw fm Hs) (hpl:∀ k,(lat pm k).length≤1000000000) (hxl:∀ k,(lat x.above k).length≤1000000000∧(lat x.under k).length≤1000000000) (hyl:∀ k,(lat x.frm k).length≤1000000000∧(lat x.into k).length≤1000000000∧(lat x.ranges k).length≤1000000000∧(lat x.firms k).length≤1000000000):Tri Tryz.prog 91 #[zp_ B.g 0,Fc.val f] Hs [gF B E,pF B pm A,aF B x A,uF B x A,oF B x A,iF B x A,rF B x A,sF B x A,E.ef] (fun _:{H':Hp // E.St (emits E.stp (kH_ pm f) nw) fm H'}=>.tuple #[]) (fun y=>y.1) (fun _=>[]):=by
 refine u_ Tryz.func91 rfl rfl Tryz.ntmps91 rfl fun v0=>?_
 refine Zz 2 ?_
 refine aA_ rfl rfl fun b1=>Zz 4 ?_
 refine q_ 0 [0,1,2,3,4,5,6,7,8,9] zk zs (Zz 6 ?_)
 refine T_ rfl (F_ eh_ rfl rfl) rfl (T_ rfl (aN_ (k:=(Ky.mk 3 [] f.b)) (adr:=A.p) gt_ bP_ cw_ rfl rfl zf) rfl (Zz 6 ?_))
 refine X_ (ι:={y:Nat×Hp // y.1≤List.length (lat pm (Ky.mk 3 [] f.b))∧E.St (emits E.stp (List.map (fun y=>E_ f.a y.r y.c) (List.take y.1 (lat pm (Ky.mk 3 [] f.b)))) nw) fm y.2}) (fun y=>[(0,zp_ B.g 0),(3,zp_ b1 0),(13,.slice (Prod.fst (A.p (Ky.mk 3 [] f.b))) (List.length (lat pm (Ky.mk 3 [] f.b))) (Prod.snd (A.p (Ky.mk 3 [] f.b)))),(14,.int .i64 (List.length (lat pm (Ky.mk 3 [] f.b)):Int)),(15,.int .i64 (y.1.1:Int))]) (fun y=>((b1,.cells #[.int .i64 f.kind,str f.a,str f.b,str f.r,.int .i64 f.lo,.int .i64 f.hi] 24 (0,0))::y.1.2)) (fun y=>[gF B E,pF B pm A,aF B x A,uF B x A,oF B x A,iF B x A,rF B x A,sF B x A,E.ef]) (fun y=>List.length (lat pm (Ky.mk 3 [] f.b)) - y.1.1) ⟨((0:Nat),Hs),by simp,by exact hS⟩ zl zp zh ?_
 rintro ⟨⟨i,Hs_i⟩,hi_i,hS_i⟩
 dsimp only at hi_i hS_i ⊢
 have hb_i:=hpl (Ky.mk 3 [] f.b)
 refine Zi 2 (fun hr1=>?_) fun hr1=>?_
 ·refine Zz 6 ?_
  exact bM_ Tryz.results91 ⟨Hs_i,by unfold kH_;rw[List.take_of_length_le (by omega)]at hS_i;exact hS_i⟩ rfl K_ zt
 obtain⟨hlx1,x1,hx1,hmx1⟩:=zge (show i<List.length (lat pm (Ky.mk 3 [] f.b)) by omega)
 refine Zz 10 ?_
 refine i_ (aa_ W_ R_ rfl rfl (fun v _ h=>H_ (n:=10) Pc.cells_len (by decide) (by exact (ap_ h.2.1 (Ky.mk 3 [] f.b))) hx1) (by omega) (by first|omega|(simp;done))) rfl ?_
 refine i_ (bk_ (ad:=(Prod.fst (A.p (Ky.mk 3 [] f.b)))) (us:=Pc.cells x1) dO_ R_ rfl (fun v _ h=>by exact (ap_ h.2.1 (Ky.mk 3 [] f.b))) (Pc.cells_len _) (x_ Pc.cells_len hx1)) rfl (L_ aL_ rfl fun b2=>A_ 0 R_ rfl rfl rfl rfl rfl rfl (Zz 2 ?_))
 refine af_ ((b2,.cells #[.int .i64 x1.kind,str x1.a,str x1.b,str x1.c,str x1.r,str x1.s,str x1.t,.int .i64 x1.lo,.int .i64 x1.hi,.int .i64 x1.frm] 52 (0,0))::((b1,.cells #[.int .i64 f.kind,str f.a,str f.b,str f.r,.int .i64 f.lo,.int .i64 f.hi] 24 (0,0))::[])) zk ?_
 refine q_ 2 [0,1,2,3,4,5,6,7,8,9] zk zs (Zz 11 ?_)
 refine l_ 10 rfl zk (n_ (jP_ f.a x1.r x1.c) rfl m_ zt rfl fun _=>Zz 3 ?_)
 refine l_ 11 rfl zk (ao_ (first:=[]) (cap:=E.caps) (E.emit (E_ f.a x1.r x1.c) (emits E.stp (List.map (fun y=>E_ f.a y.r y.c) (List.take i (lat pm (Ky.mk 3 [] f.b)))) nw) fm Hs_i hS_i) rfl rfl (c_ K_) zf rfl fun⟨Hs1,hS1⟩=>?_)
 dsimp only
 refine Zz 10 ?_
 exact C_ ⟨(i+1,Hs1),hlx1,(by rw[dh_ hx1,at_];exact hS1)⟩ (by dsimp only;omega) zl zp zh
theorem oR_ (B:EngB) (E:Emt Tryz.prog 24) (A:EngA) (pm:List (Ky×Pc)) (x:Ix) (f:Fc) (nw fm:List Fc) (Hs:Hp) (hS:E.St nw fm Hs) (hpl:∀ k,(lat pm k).length≤1000000000) (hxl:∀ k,(lat x.above k).length≤1000000000∧(lat x.under k).length≤1000000000) (hyl:∀ k,(lat x.frm k).length≤1000000000∧(lat x.into k).length≤1000000000∧(lat x.ranges k).length≤1000000000∧(lat x.firms k).length≤1000000000):Tri Tryz.prog 95 #[zp_ B.g 0,Fc.val f] Hs [gF B E,pF B pm A,aF B x A,uF B x A,oF B x A,iF B x A,rF B x A,sF B x A,E.ef] (fun _:{H':Hp // E.St (emits E.stp (fT_ pm f) nw) fm H'}=>.tuple #[]) (fun y=>y.1) (fun _=>[]):=by
 refine u_ Tryz.func95 rfl rfl Tryz.ntmps95 rfl fun v0=>?_
 refine Zz 2 ?_
 refine aA_ rfl rfl fun b1=>Zz 4 ?_
 refine q_ 0 [0,1,2,3,4,5,6,7,8,9] zk zs (Zz 6 ?_)
 refine T_ rfl (F_ eh_ rfl rfl) rfl (T_ rfl (aN_ (k:=(Ky.mk 5 f.r [])) (adr:=A.p) gt_ bP_ cw_ rfl rfl zf) rfl (Zz 6 ?_))
 refine X_ (ι:={y:Nat×Hp // y.1≤List.length (lat pm (Ky.mk 5 f.r []))∧E.St (emits E.stp (List.map (fun y=>E_ f.a y.t f.b) (List.take y.1 (lat pm (Ky.mk 5 f.r [])))) nw) fm y.2}) (fun y=>[(0,zp_ B.g 0),(3,zp_ b1 0),(13,.slice (Prod.fst (A.p (Ky.mk 5 f.r []))) (List.length (lat pm (Ky.mk 5 f.r []))) (Prod.snd (A.p (Ky.mk 5 f.r [])))),(14,.int .i64 (List.length (lat pm (Ky.mk 5 f.r [])):Int)),(15,.int .i64 (y.1.1:Int))]) (fun y=>((b1,.cells #[.int .i64 f.kind,str f.a,str f.b,str f.r,.int .i64 f.lo,.int .i64 f.hi] 24 (0,0))::y.1.2)) (fun y=>[gF B E,pF B pm A,aF B x A,uF B x A,oF B x A,iF B x A,rF B x A,sF B x A,E.ef]) (fun y=>List.length (lat pm (Ky.mk 5 f.r [])) - y.1.1) ⟨((0:Nat),Hs),by simp,by exact hS⟩ zl zp zh ?_
 rintro ⟨⟨i,Hs_i⟩,hi_i,hS_i⟩
 dsimp only at hi_i hS_i ⊢
 have hb_i:=hpl (Ky.mk 5 f.r [])
 refine Zi 2 (fun hr1=>?_) fun hr1=>?_
 ·refine Zz 6 ?_
  exact bM_ Tryz.results95 ⟨Hs_i,by unfold fT_;rw[List.take_of_length_le (by omega)]at hS_i;exact hS_i⟩ rfl K_ zt
 obtain⟨hlx1,x1,hx1,hmx1⟩:=zge (show i<List.length (lat pm (Ky.mk 5 f.r [])) by omega)
 refine Zz 10 ?_
 refine i_ (aa_ W_ R_ rfl rfl (fun v _ h=>H_ (n:=10) Pc.cells_len (by decide) (by exact (ap_ h.2.1 (Ky.mk 5 f.r []))) hx1) (by omega) (by first|omega|(simp;done))) rfl ?_
 refine i_ (bk_ (ad:=(Prod.fst (A.p (Ky.mk 5 f.r [])))) (us:=Pc.cells x1) dO_ R_ rfl (fun v _ h=>by exact (ap_ h.2.1 (Ky.mk 5 f.r []))) (Pc.cells_len _) (x_ Pc.cells_len hx1)) rfl (L_ aL_ rfl fun b2=>A_ 0 R_ rfl rfl rfl rfl rfl rfl (Zz 2 ?_))
 refine af_ ((b2,.cells #[.int .i64 x1.kind,str x1.a,str x1.b,str x1.c,str x1.r,str x1.s,str x1.t,.int .i64 x1.lo,.int .i64 x1.hi,.int .i64 x1.frm] 52 (0,0))::((b1,.cells #[.int .i64 f.kind,str f.a,str f.b,str f.r,.int .i64 f.lo,.int .i64 f.hi] 24 (0,0))::[])) zk ?_
 refine q_ 2 [0,1,2,3,4,5,6,7,8,9] zk zs (Zz 11 ?_)
 refine l_ 10 rfl zk (n_ (jP_ f.a x1.t f.b) rfl m_ zt rfl fun _=>Zz 3 ?_)
 refine l_ 11 rfl zk (ao_ (first:=[]) (cap:=E.caps) (E.emit (E_ f.a x1.t f.b) (emits E.stp (List.map (fun y=>E_ f.a y.t f.b) (List.take i (lat pm (Ky.mk 5 f.r [])))) nw) fm Hs_i hS_i) rfl rfl (c_ K_) zf rfl fun⟨Hs1,hS1⟩=>?_)
 dsimp only
 refine Zz 10 ?_
 exact C_ ⟨(i+1,Hs1),hlx1,(by rw[dh_ hx1,at_];exact hS1)⟩ (by dsimp only;omega) zl zp zh
theorem fW_ {α β:Type} {g:α→List β} {l:List α} {i:Nat} {x:α} (h:l[i]? = some x):List.flatMap g (List.take (i+1) l)=List.flatMap g (List.take i l)++g x:=by
  rw[List.take_add_one,h,Option.toList_some,List.flatMap_append];simp
theorem iw_ {stp:Fc→List Fc→List Fc} {kof:List Fc→List Fc} {f:Fc} {l:List Pc} {i:Nat} {x:Pc} {s:List Fc} (h:l[i]? = some x):dQ_ stp kof f (List.take (i+1) l) s=if y_ f.a x.a∈kof (dQ_ stp kof f (List.take i l) s)∧y_ f.a x.b∈kof (dQ_ stp kof f (List.take i l) s) then stp (y_ f.a x.c) (dQ_ stp kof f (List.take i l) s) else dQ_ stp kof f (List.take i l) s:=by
  unfold dQ_
  rw[List.take_add_one,h,Option.toList_some,List.foldl_append];rfl
theorem jn_ {stp:Fc→List Fc→List Fc} {kof:List Fc→List Fc} {f:Fc} {l:List Pc} {i:Nat} {x:Pc} {s:List Fc×List Fc} (h:l[i]? = some x):cb_ stp kof f (List.take (i+1) l) s=(stp (M_ f.a x.r x.lo x.hi) (cb_ stp kof f (List.take i l) s).1,if M_ f.a x.r x.lo x.hi∈kof (cb_ stp kof f (List.take i l) s).1 then (cb_ stp kof f (List.take i l) s).2 else M_ f.a x.r x.lo x.hi::(cb_ stp kof f (List.take i l) s).2):=by
  unfold cb_
  rw[List.take_add_one,h,Option.toList_some,List.foldl_append];rfl
theorem both_c (B:EngB) (E:Emt Tryz.prog 24) (A:EngA) (pm:List (Ky×Pc)) (x:Ix) (f:Fc) (nw fm:List Fc) (Hs:Hp) (hS:E.St nw fm Hs) (hpl:∀ k,(lat pm k).length≤1000000000) (hxl:∀ k,(lat x.above k).length≤1000000000∧(lat x.under k).length≤1000000000) (hyl:∀ k,(lat x.frm k).length≤1000000000∧(lat x.into k).length≤1000000000∧(lat x.ranges k).length≤1000000000∧(lat x.firms k).length≤1000000000):Tri Tryz.prog 90 #[zp_ B.g 0,Fc.val f] Hs [gF B E,pF B pm A,aF B x A,uF B x A,oF B x A,iF B x A,rF B x A,sF B x A,E.ef] (fun _:{H':Hp // E.St (dQ_ E.stp E.kof f (lat pm (Ky.mk 2 [] f.b)) nw) fm H'}=>.tuple #[]) (fun y=>y.1) (fun _=>[]):=by
 refine u_ Tryz.func90 rfl rfl Tryz.ntmps90 rfl fun v0=>?_
 refine Zz 2 ?_
 refine aA_ rfl rfl fun b1=>Zz 4 ?_
 refine q_ 0 [0,1,2,3,4,5,6,7,8,9] zk zs (Zz 6 ?_)
 refine T_ rfl (F_ eh_ rfl rfl) rfl (T_ rfl (aN_ (k:=(Ky.mk 2 [] f.b)) (adr:=A.p) gt_ bP_ cw_ rfl rfl zf) rfl (Zz 6 ?_))
 refine X_ (ι:={y:Nat×Hp // y.1≤List.length (lat pm (Ky.mk 2 [] f.b))∧E.St (dQ_ E.stp E.kof f (List.take y.1 (lat pm (Ky.mk 2 [] f.b))) nw) fm y.2}) (fun y=>[(0,zp_ B.g 0),(3,zp_ b1 0),(13,.slice (Prod.fst (A.p (Ky.mk 2 [] f.b))) (List.length (lat pm (Ky.mk 2 [] f.b))) (Prod.snd (A.p (Ky.mk 2 [] f.b)))),(14,.int .i64 (List.length (lat pm (Ky.mk 2 [] f.b)):Int)),(15,.int .i64 (y.1.1:Int))]) (fun y=>((b1,.cells #[.int .i64 f.kind,str f.a,str f.b,str f.r,.int .i64 f.lo,.int .i64 f.hi] 24 (0,0))::y.1.2)) (fun y=>[gF B E,pF B pm A,aF B x A,uF B x A,oF B x A,iF B x A,rF B x A,sF B x A,E.ef]) (fun y=>List.length (lat pm (Ky.mk 2 [] f.b)) - y.1.1) ⟨((0:Nat),Hs),by simp,by exact hS⟩ zl zp zh ?_
 rintro ⟨⟨i,Hs_i⟩,hi_i,hS_i⟩
 dsimp only at hi_i hS_i ⊢
 have hb_i:=hpl (Ky.mk 2 [] f.b)
 refine Zi 2 (fun hr1=>?_) fun hr1=>?_
 ·refine Zz 6 ?_
  exact bM_ Tryz.results90 ⟨Hs_i,by rw[List.take_of_length_le (by omega)]at hS_i;exact hS_i⟩ rfl K_ zt
 obtain⟨hlx1,x1,hx1,hmx1⟩:=zge (show i<List.length (lat pm (Ky.mk 2 [] f.b)) by omega)
 refine Zz 10 ?_
 refine i_ (aa_ W_ R_ rfl rfl (fun v _ h=>H_ (n:=10) Pc.cells_len (by decide) (by exact (ap_ h.2.1 (Ky.mk 2 [] f.b))) hx1) (by omega) (by first|omega|(simp;done))) rfl ?_
 refine i_ (bk_ (ad:=(Prod.fst (A.p (Ky.mk 2 [] f.b)))) (us:=Pc.cells x1) dO_ R_ rfl (fun v _ h=>by exact (ap_ h.2.1 (Ky.mk 2 [] f.b))) (Pc.cells_len _) (x_ Pc.cells_len hx1)) rfl (L_ aL_ rfl fun b2=>A_ 0 R_ rfl rfl rfl rfl rfl rfl (Zz 4 ?_))
 refine q_ 14 [0,1,2,3,4,5,6,7] zk zs (Zz 9 ?_)
 refine l_ 8 rfl zk (n_ (fh_ f.a x1.a) rfl m_ zt rfl fun _=>Zz 3 ?_)
 refine q_ 11 [9,10] zk zs (cL_ rfl (gW_ (f:=(y_ f.a x1.a)) hS_i eO_ aH_ eB_ rfl rfl (c_ K_)) rfl fun r2 hr2=>Zz 2 ?_)
 cases r2
 ·replace hr2:=zdf hr2
  refine q_ 0 [11,12,13,14,15,16,17,18,19,20,21] zk zs (Zz 22 ?_)
  exact C_ ⟨(i+1,Hs_i),hlx1,(by rw[iw_ hx1];first|(rw[if_pos ⟨by assumption,by assumption⟩];exact hS_i)|(rw[if_neg (fun q=>absurd q.1 (by assumption))];exact hS_i)|(rw[if_neg (fun q=>absurd q.2 (by assumption))];exact hS_i))⟩ (by dsimp only;omega) zl (f_ (c_ d_) K_) zh
 replace hr2:=zdt hr2
 refine q_ 3 [11,12,13,14,15,16,17,18] zk zs (Zz 9 ?_)
 refine l_ 19 rfl zk (aK_ rfl rfl (n_ (fh_ f.a x1.b) rfl m_ zt rfl fun _=>Zz 3 ?_))
 refine q_ 0 [20,21] zk zs (bD_ rfl rfl rfl (gW_ (f:=(y_ f.a x1.b)) hS_i eO_ aH_ eB_ rfl rfl (c_ K_)) rfl fun r3 hr3=>Zz 4 ?_)
 cases r3
 ·replace hr3:=zdf hr3
  refine Zz 8 ?_
  exact C_ ⟨(i+1,Hs_i),hlx1,(by rw[iw_ hx1];first|(rw[if_pos ⟨by assumption,by assumption⟩];exact hS_i)|(rw[if_neg (fun q=>absurd q.1 (by assumption))];exact hS_i)|(rw[if_neg (fun q=>absurd q.2 (by assumption))];exact hS_i))⟩ (by dsimp only;omega) zl (f_ (c_ d_) K_) zh
 replace hr3:=zdt hr3
 refine cH_ rfl ?_
 refine af_ ((b2,.cells #[.int .i64 x1.kind,str x1.a,str x1.b,str x1.c,str x1.r,str x1.s,str x1.t,.int .i64 x1.lo,.int .i64 x1.hi,.int .i64 x1.frm] 52 (0,0))::((b1,.cells #[.int .i64 f.kind,str f.a,str f.b,str f.r,.int .i64 f.lo,.int .i64 f.hi] 24 (0,0))::[])) zk ?_
 refine q_ 2 [0,1,2,3,4,5,6,7] zk zs (Zz 9 ?_)
 refine l_ 8 rfl zk (n_ (fh_ f.a x1.c) rfl m_ zt rfl fun _=>Zz 3 ?_)
 refine l_ 9 rfl zk (ao_ (first:=[]) (cap:=E.caps) (E.emit (y_ f.a x1.c) (dQ_ E.stp E.kof f (List.take i (lat pm (Ky.mk 2 [] f.b))) nw) fm Hs_i hS_i) rfl rfl (c_ K_) zf rfl fun⟨Hs1,hS1⟩=>?_)
 dsimp only
 refine Zz 10 ?_
 exact C_ ⟨(i+1,Hs1),hlx1,(by rw[iw_ hx1];first|(rw[if_pos ⟨by assumption,by assumption⟩];exact hS1)|(rw[if_neg (fun q=>absurd q.1 (by assumption))];exact hS1)|(rw[if_neg (fun q=>absurd q.2 (by assumption))];exact hS1))⟩ (by dsimp only;omega) zl zp zh
theorem ru_ (B:EngB) (E:Emt Tryz.prog 24) (A:EngA) (pm:List (Ky×Pc)) (x:Ix) (f:Fc) (nw fm:List Fc) (Hs:Hp) (hS:E.St nw fm Hs) (hpl:∀ k,(lat pm k).length≤1000000000) (hxl:∀ k,(lat x.above k).length≤1000000000∧(lat x.under k).length≤1000000000) (hyl:∀ k,(lat x.frm k).length≤1000000000∧(lat x.into k).length≤1000000000∧(lat x.ranges k).length≤1000000000∧(lat x.firms k).length≤1000000000):Tri Tryz.prog 94 #[zp_ B.g 0,Fc.val f] Hs [gF B E,pF B pm A,aF B x A,uF B x A,oF B x A,iF B x A,rF B x A,sF B x A,E.ef] (fun _:{H':Hp // E.St (Prod.fst (cb_ E.stp E.kof f (lat pm (Ky.mk 8 [] f.b)) (nw,fm))) (Prod.snd (cb_ E.stp E.kof f (lat pm (Ky.mk 8 [] f.b)) (nw,fm))) H'}=>.tuple #[]) (fun y=>y.1) (fun _=>[]):=by
 refine u_ Tryz.func94 rfl rfl Tryz.ntmps94 rfl fun v0=>?_
 refine Zz 2 ?_
 refine aA_ rfl rfl fun b1=>Zz 4 ?_
 refine q_ 0 [0,1,2,3,4,5,6,7,8,9] zk zs (Zz 6 ?_)
 refine T_ rfl (F_ eh_ rfl rfl) rfl (T_ rfl (aN_ (k:=(Ky.mk 8 [] f.b)) (adr:=A.p) gt_ bP_ cw_ rfl rfl zf) rfl (Zz 6 ?_))
 refine X_ (ι:={y:Nat×Hp // y.1≤List.length (lat pm (Ky.mk 8 [] f.b))∧E.St (Prod.fst (cb_ E.stp E.kof f (List.take y.1 (lat pm (Ky.mk 8 [] f.b))) (nw,fm))) (Prod.snd (cb_ E.stp E.kof f (List.take y.1 (lat pm (Ky.mk 8 [] f.b))) (nw,fm))) y.2}) (fun y=>[(0,zp_ B.g 0),(3,zp_ b1 0),(14,.slice (Prod.fst (A.p (Ky.mk 8 [] f.b))) (List.length (lat pm (Ky.mk 8 [] f.b))) (Prod.snd (A.p (Ky.mk 8 [] f.b)))),(15,.int .i64 (List.length (lat pm (Ky.mk 8 [] f.b)):Int)),(16,.int .i64 (y.1.1:Int))]) (fun y=>((b1,.cells #[.int .i64 f.kind,str f.a,str f.b,str f.r,.int .i64 f.lo,.int .i64 f.hi] 24 (0,0))::y.1.2)) (fun y=>[gF B E,pF B pm A,aF B x A,uF B x A,oF B x A,iF B x A,rF B x A,sF B x A,E.ef]) (fun y=>List.length (lat pm (Ky.mk 8 [] f.b)) - y.1.1) ⟨((0:Nat),Hs),by simp,by exact hS⟩ zl zp zh ?_
 rintro ⟨⟨i,Hs_i⟩,hi_i,hS_i⟩
 dsimp only at hi_i hS_i ⊢
 have hb_i:=hpl (Ky.mk 8 [] f.b)
 refine Zi 2 (fun hr1=>?_) fun hr1=>?_
 ·refine Zz 6 ?_
  exact bM_ Tryz.results94 ⟨Hs_i,by rw[List.take_of_length_le (by omega)]at hS_i;exact hS_i⟩ rfl K_ zt
 obtain⟨hlx1,x1,hx1,hmx1⟩:=zge (show i<List.length (lat pm (Ky.mk 8 [] f.b)) by omega)
 refine Zz 10 ?_
 refine i_ (aa_ W_ R_ rfl rfl (fun v _ h=>H_ (n:=10) Pc.cells_len (by decide) (by exact (ap_ h.2.1 (Ky.mk 8 [] f.b))) hx1) (by omega) (by first|omega|(simp;done))) rfl ?_
 refine i_ (bk_ (ad:=(Prod.fst (A.p (Ky.mk 8 [] f.b)))) (us:=Pc.cells x1) dO_ R_ rfl (fun v _ h=>by exact (ap_ h.2.1 (Ky.mk 8 [] f.b))) (Pc.cells_len _) (x_ Pc.cells_len hx1)) rfl (L_ aL_ rfl fun b2=>A_ 0 R_ rfl rfl rfl rfl rfl rfl (Zz 12 ?_))
 refine n_ (ju_ f.a x1.r x1.lo x1.hi) rfl m_ zt rfl fun _=>L_ Z_ rfl fun b3=>A_ 0 z_ rfl rfl rfl rfl rfl rfl (Zz 5 ?_)
 refine q_ 0 [0,1,2,3,4,5,6] zk zs (Zz 5 ?_)
 refine cL_ rfl (gW_ (f:=(M_ f.a x1.r x1.lo x1.hi)) hS_i eO_ aH_ eB_ rfl rfl (c_ (c_ K_))) rfl fun r2 hr2=>T_ rfl (bI_ rfl) rfl (Zz 3 ?_)
 cases r2
 ·replace hr2:=zdf hr2
  refine cH_ rfl ?_
  refine af_ ((b3,.cells #[.int .i64 (Fc.kind (M_ f.a x1.r x1.lo x1.hi)),str (Fc.a (M_ f.a x1.r x1.lo x1.hi)),str (Fc.b (M_ f.a x1.r x1.lo x1.hi)),str (Fc.r (M_ f.a x1.r x1.lo x1.hi)),.int .i64 (Fc.lo (M_ f.a x1.r x1.lo x1.hi)),.int .i64 (Fc.hi (M_ f.a x1.r x1.lo x1.hi))] 24 (0,0))::((b2,.cells #[.int .i64 x1.kind,str x1.a,str x1.b,str x1.c,str x1.r,str x1.s,str x1.t,.int .i64 x1.lo,.int .i64 x1.hi,.int .i64 x1.frm] 52 (0,0))::((b1,.cells #[.int .i64 f.kind,str f.a,str f.b,str f.r,.int .i64 f.lo,.int .i64 f.hi] 24 (0,0))::[]))) zk ?_
  refine q_ 1 [0,1,2,3,4] zk zs (Zz 6 ?_)
  refine l_ 5 rfl zk (qi_ (f:=(M_ f.a x1.r x1.lo x1.hi)) hS_i eO_ (.inr rfl) aH_ rfl rfl rfl (c_ (c_ K_)) fun Hs1 hS1=>Zz 5 ?_)
  refine af_ ((b3,.cells #[.int .i64 (Fc.kind (M_ f.a x1.r x1.lo x1.hi)),str (Fc.a (M_ f.a x1.r x1.lo x1.hi)),str (Fc.b (M_ f.a x1.r x1.lo x1.hi)),str (Fc.r (M_ f.a x1.r x1.lo x1.hi)),.int .i64 (Fc.lo (M_ f.a x1.r x1.lo x1.hi)),.int .i64 (Fc.hi (M_ f.a x1.r x1.lo x1.hi))] 24 (0,0))::((b2,.cells #[.int .i64 x1.kind,str x1.a,str x1.b,str x1.c,str x1.r,str x1.s,str x1.t,.int .i64 x1.lo,.int .i64 x1.hi,.int .i64 x1.frm] 52 (0,0))::((b1,.cells #[.int .i64 f.kind,str f.a,str f.b,str f.r,.int .i64 f.lo,.int .i64 f.hi] 24 (0,0))::[]))) zk ?_
  refine q_ 1 [0,1,2,3,4] zk zs (Zz 6 ?_)
  refine l_ 5 rfl zk (ao_ (first:=[]) (cap:=E.caps) (E.emit (M_ f.a x1.r x1.lo x1.hi) (Prod.fst (cb_ E.stp E.kof f (List.take i (lat pm (Ky.mk 8 [] f.b))) (nw,fm))) ((M_ f.a x1.r x1.lo x1.hi)::(Prod.snd (cb_ E.stp E.kof f (List.take i (lat pm (Ky.mk 8 [] f.b))) (nw,fm)))) Hs1 hS1) rfl rfl j_ zf rfl fun⟨Hs2,hS2⟩=>?_)
  dsimp only
  refine Zz 10 ?_
  exact C_ ⟨(i+1,Hs2),hlx1,(by rw[jn_ hx1];dsimp only;first|(rw[if_pos (by assumption)];exact hS2)|(rw[if_neg (by assumption)];exact hS2))⟩ (by dsimp only;omega) zl zp zh
 replace hr2:=zdt hr2
 refine Zz 3 ?_
 refine af_ ((b3,.cells #[.int .i64 (Fc.kind (M_ f.a x1.r x1.lo x1.hi)),str (Fc.a (M_ f.a x1.r x1.lo x1.hi)),str (Fc.b (M_ f.a x1.r x1.lo x1.hi)),str (Fc.r (M_ f.a x1.r x1.lo x1.hi)),.int .i64 (Fc.lo (M_ f.a x1.r x1.lo x1.hi)),.int .i64 (Fc.hi (M_ f.a x1.r x1.lo x1.hi))] 24 (0,0))::((b2,.cells #[.int .i64 x1.kind,str x1.a,str x1.b,str x1.c,str x1.r,str x1.s,str x1.t,.int .i64 x1.lo,.int .i64 x1.hi,.int .i64 x1.frm] 52 (0,0))::((b1,.cells #[.int .i64 f.kind,str f.a,str f.b,str f.r,.int .i64 f.lo,.int .i64 f.hi] 24 (0,0))::[]))) zk ?_
 refine q_ 1 [0,1,2,3,4] zk zs (Zz 6 ?_)
 refine l_ 5 rfl zk (ao_ (first:=[]) (cap:=E.caps) (E.emit (M_ f.a x1.r x1.lo x1.hi) (Prod.fst (cb_ E.stp E.kof f (List.take i (lat pm (Ky.mk 8 [] f.b))) (nw,fm))) (Prod.snd (cb_ E.stp E.kof f (List.take i (lat pm (Ky.mk 8 [] f.b))) (nw,fm))) Hs_i hS_i) rfl rfl (c_ (c_ K_)) zf rfl fun⟨Hs3,hS3⟩=>?_)
 dsimp only
 refine Zz 10 ?_
 exact C_ ⟨(i+1,Hs3),hlx1,(by rw[jn_ hx1];dsimp only;first|(rw[if_pos (by assumption)];exact hS3)|(rw[if_neg (by assumption)];exact hS3))⟩ (by dsimp only;omega) zl zp zh
theorem nx_ (B:EngB) (E:Emt Tryz.prog 24) (A:EngA) (pm:List (Ky×Pc)) (x:Ix) (f:Fc) (nw fm:List Fc) (Hs:Hp) (hS:E.St nw fm Hs) (hpl:∀ k,(lat pm k).length≤1000000000) (hxl:∀ k,(lat x.above k).length≤1000000000∧(lat x.under k).length≤1000000000) (hyl:∀ k,(lat x.frm k).length≤1000000000∧(lat x.into k).length≤1000000000∧(lat x.ranges k).length≤1000000000∧(lat x.firms k).length≤1000000000):Tri Tryz.prog 92 #[zp_ B.g 0,Fc.val f] Hs [gF B E,pF B pm A,aF B x A,uF B x A,oF B x A,iF B x A,rF B x A,sF B x A,E.ef] (fun _:{H':Hp // E.St (emits E.stp (fd_ pm x f) nw) fm H'}=>.tuple #[]) (fun y=>y.1) (fun _=>[]):=by
 refine u_ Tryz.func92 rfl rfl Tryz.ntmps92 rfl fun v0=>?_
 refine Zz 2 ?_
 refine aA_ rfl rfl fun b1=>Zz 4 ?_
 refine q_ 0 [0,1,2,3,4,5,6,7,8,9] zk zs (Zz 6 ?_)
 refine T_ rfl (F_ eh_ rfl rfl) rfl (T_ rfl (aN_ (k:=(Ky.mk 4 [] f.b)) (adr:=A.p) gt_ bP_ cw_ rfl rfl zf) rfl (Zz 6 ?_))
 refine X_ (ι:={y:Nat×Hp // y.1≤List.length (lat pm (Ky.mk 4 [] f.b))∧E.St (emits E.stp (List.flatMap (fun y=>List.map (fun a=>y_ a y.c) (lat x.into (Fc.a f,Pc.r y))) (List.take y.1 (lat pm (Ky.mk 4 [] f.b)))) nw) fm y.2}) (fun y=>[(0,zp_ B.g 0),(3,zp_ b1 0),(15,.slice (Prod.fst (A.p (Ky.mk 4 [] f.b))) (List.length (lat pm (Ky.mk 4 [] f.b))) (Prod.snd (A.p (Ky.mk 4 [] f.b)))),(16,.int .i64 (List.length (lat pm (Ky.mk 4 [] f.b)):Int)),(17,.int .i64 (y.1.1:Int))]) (fun y=>((b1,.cells #[.int .i64 f.kind,str f.a,str f.b,str f.r,.int .i64 f.lo,.int .i64 f.hi] 24 (0,0))::y.1.2)) (fun y=>[gF B E,pF B pm A,aF B x A,uF B x A,oF B x A,iF B x A,rF B x A,sF B x A,E.ef]) (fun y=>List.length (lat pm (Ky.mk 4 [] f.b)) - y.1.1) ⟨((0:Nat),Hs),by simp,by exact hS⟩ zl zp zh ?_
 rintro ⟨⟨i,Hs_i⟩,hi_i,hS_i⟩
 dsimp only at hi_i hS_i ⊢
 have hb_i:=hpl (Ky.mk 4 [] f.b)
 refine Zi 2 (fun hr1=>?_) fun hr1=>?_
 ·refine Zz 6 ?_
  exact bM_ Tryz.results92 ⟨Hs_i,by unfold fd_;rw[List.take_of_length_le (by omega)]at hS_i;exact hS_i⟩ rfl K_ zt
 obtain⟨hlx1,x1,hx1,hmx1⟩:=zge (show i<List.length (lat pm (Ky.mk 4 [] f.b)) by omega)
 refine Zz 10 ?_
 refine i_ (aa_ W_ R_ rfl rfl (fun v _ h=>H_ (n:=10) Pc.cells_len (by decide) (by exact (ap_ h.2.1 (Ky.mk 4 [] f.b))) hx1) (by omega) (by first|omega|(simp;done))) rfl ?_
 refine i_ (bk_ (ad:=(Prod.fst (A.p (Ky.mk 4 [] f.b)))) (us:=Pc.cells x1) dO_ R_ rfl (fun v _ h=>by exact (ap_ h.2.1 (Ky.mk 4 [] f.b))) (Pc.cells_len _) (x_ Pc.cells_len hx1)) rfl (L_ aL_ rfl fun b2=>A_ 0 R_ rfl rfl rfl rfl rfl rfl (Zz 4 ?_))
 refine q_ 0 [0,1,2,3,4,5,6,7,8,9,10,11] zk zs (Zz 8 ?_)
 refine T_ rfl (F_ eQ_ rfl rfl) rfl (T_ rfl (aN_ (k:=(f.a,x1.r)) (adr:=A.i) cC_ bO_ bj_ rfl rfl zf) rfl (Zz 6 ?_))
 refine X_ (ι:={y:Nat×Hp // y.1≤List.length (lat x.into (f.a,x1.r))∧E.St (emits E.stp (List.map (fun a=>y_ a x1.c) (List.take y.1 (lat x.into (f.a,x1.r)))) (emits E.stp (List.flatMap (fun y=>List.map (fun a=>y_ a y.c) (lat x.into (Fc.a f,Pc.r y))) (List.take i (lat pm (Ky.mk 4 [] f.b)))) nw)) fm y.2}) (fun y=>[(0,zp_ B.g 0),(3,zp_ b1 0),(15,.slice (Prod.fst (A.p (Ky.mk 4 [] f.b))) (List.length (lat pm (Ky.mk 4 [] f.b))) (Prod.snd (A.p (Ky.mk 4 [] f.b)))),(16,.int .i64 (List.length (lat pm (Ky.mk 4 [] f.b)):Int)),(17,.int .i64 (i:Int)),(5,zp_ b2 0),(30,.slice (Prod.fst (A.i (f.a,x1.r))) (List.length (lat x.into (f.a,x1.r))) (Prod.snd (A.i (f.a,x1.r)))),(31,.int .i64 (List.length (lat x.into (f.a,x1.r)):Int)),(32,.int .i64 (y.1.1:Int))]) (fun y=>((b2,.cells #[.int .i64 x1.kind,str x1.a,str x1.b,str x1.c,str x1.r,str x1.s,str x1.t,.int .i64 x1.lo,.int .i64 x1.hi,.int .i64 x1.frm] 52 (0,0))::((b1,.cells #[.int .i64 f.kind,str f.a,str f.b,str f.r,.int .i64 f.lo,.int .i64 f.hi] 24 (0,0))::y.1.2))) (fun y=>[gF B E,pF B pm A,aF B x A,uF B x A,oF B x A,iF B x A,rF B x A,sF B x A,E.ef]) (fun y=>List.length (lat x.into (f.a,x1.r)) - y.1.1) ⟨((0:Nat),Hs_i),by simp,by exact hS_i⟩ zl zp zh ?_
 rintro ⟨⟨j,Hs_j⟩,hi_j,hS_j⟩
 dsimp only at hi_j hS_j ⊢
 have hb_j:=(hyl (f.a,x1.r)).2.1
 refine Zi 2 (fun hr2=>?_) fun hr2=>?_
 ·refine Zz 11 ?_
  exact C_ ⟨(i+1,Hs_j),hlx1,(by rw[fW_ hx1,at_];have e9:List.take j (lat x.into (Fc.a f,Pc.r x1))=(lat x.into (Fc.a f,Pc.r x1)):=List.take_of_length_le (by omega);rw[e9]at hS_j;exact hS_j)⟩ (by dsimp only;omega) zl (f_ (c_ d_) K_) zh
 obtain⟨hlx2,x2,hx2,hmx2⟩:=zge (show j<List.length (lat x.into (f.a,x1.r)) by omega)
 refine Zz 10 ?_
 refine i_ (aa_ B_ J_ rfl rfl (fun v _ h=>H_ (n:=1) au_ (by decide) (by exact (ap_ h.2.2.2.2.2.1 (f.a,x1.r))) hx2) (by omega) (by first|omega|(simp;done))) rfl ?_
 refine i_ (ay_ (ad:=(Prod.fst (A.i (f.a,x1.r)))) O_ rfl (fun v _ h=>by exact (ap_ h.2.2.2.2.2.1 (f.a,x1.r))) (x_ au_ hx2 0 _ rfl)) rfl (Zz 3 ?_)
 refine af_ ((b2,.cells #[.int .i64 x1.kind,str x1.a,str x1.b,str x1.c,str x1.r,str x1.s,str x1.t,.int .i64 x1.lo,.int .i64 x1.hi,.int .i64 x1.frm] 52 (0,0))::((b1,.cells #[.int .i64 f.kind,str f.a,str f.b,str f.r,.int .i64 f.lo,.int .i64 f.hi] 24 (0,0))::[])) zk ?_
 refine q_ 2 [0,1,2,3,4,5,6] zk zs (Zz 8 ?_)
 refine l_ 7 rfl zk (n_ (fh_ x2 x1.c) rfl m_ zt rfl fun _=>Zz 3 ?_)
 refine l_ 8 rfl zk (ao_ (first:=[]) (cap:=E.caps) (E.emit (y_ x2 x1.c) (emits E.stp (List.map (fun a=>y_ a x1.c) (List.take j (lat x.into (f.a,x1.r)))) (emits E.stp (List.flatMap (fun y=>List.map (fun a=>y_ a y.c) (lat x.into (Fc.a f,Pc.r y))) (List.take i (lat pm (Ky.mk 4 [] f.b)))) nw)) fm Hs_j hS_j) rfl rfl zp zf rfl fun⟨Hs1,hS1⟩=>?_)
 dsimp only
 refine Zz 10 ?_
 exact C_ ⟨(j+1,Hs1),hlx2,(by rw[dh_ hx2,at_];exact hS1)⟩ (by dsimp only;omega) zl zp zh
theorem nw_ (B:EngB) (E:Emt Tryz.prog 24) (A:EngA) (pm:List (Ky×Pc)) (x:Ix) (f:Fc) (nw fm:List Fc) (Hs:Hp) (hS:E.St nw fm Hs) (hpl:∀ k,(lat pm k).length≤1000000000) (hxl:∀ k,(lat x.above k).length≤1000000000∧(lat x.under k).length≤1000000000) (hyl:∀ k,(lat x.frm k).length≤1000000000∧(lat x.into k).length≤1000000000∧(lat x.ranges k).length≤1000000000∧(lat x.firms k).length≤1000000000):Tri Tryz.prog 97 #[zp_ B.g 0,Fc.val f] Hs [gF B E,pF B pm A,aF B x A,uF B x A,oF B x A,iF B x A,rF B x A,sF B x A,E.ef] (fun _:{H':Hp // E.St (emits E.stp (fc_ pm x f) nw) fm H'}=>.tuple #[]) (fun y=>y.1) (fun _=>[]):=by
 refine u_ Tryz.func97 rfl rfl Tryz.ntmps97 rfl fun v0=>?_
 refine Zz 2 ?_
 refine aA_ rfl rfl fun b1=>Zz 4 ?_
 refine q_ 0 [0,1,2,3,4,5,6,7,8] zk zs (Zz 6 ?_)
 refine T_ rfl (aN_ (k:=f.b) (adr:=A.a) dI_ cc_ bj_ rfl rfl zf) rfl (Zz 6 ?_)
 refine X_ (ι:={y:Nat×Hp // y.1≤List.length (lat x.above f.b)∧E.St (emits E.stp (List.flatMap (fun y=>List.map (fun a=>y_ f.a a.c) (lat pm (Ky.mk 4 f.r y))) (List.take y.1 (lat x.above f.b))) nw) fm y.2}) (fun y=>[(0,zp_ B.g 0),(3,zp_ b1 0),(14,.slice (Prod.fst (A.a f.b)) (List.length (lat x.above f.b)) (Prod.snd (A.a f.b))),(15,.int .i64 (List.length (lat x.above f.b):Int)),(16,.int .i64 (y.1.1:Int))]) (fun y=>((b1,.cells #[.int .i64 f.kind,str f.a,str f.b,str f.r,.int .i64 f.lo,.int .i64 f.hi] 24 (0,0))::y.1.2)) (fun y=>[gF B E,pF B pm A,aF B x A,uF B x A,oF B x A,iF B x A,rF B x A,sF B x A,E.ef]) (fun y=>List.length (lat x.above f.b) - y.1.1) ⟨((0:Nat),Hs),by simp,by exact hS⟩ zl zp zh ?_
 rintro ⟨⟨i,Hs_i⟩,hi_i,hS_i⟩
 dsimp only at hi_i hS_i ⊢
 have hb_i:=(hxl f.b).1
 refine Zi 2 (fun hr1=>?_) fun hr1=>?_
 ·refine Zz 6 ?_
  exact bM_ Tryz.results97 ⟨Hs_i,by unfold fc_;rw[List.take_of_length_le (by omega)]at hS_i;exact hS_i⟩ rfl K_ zt
 obtain⟨hlx1,x1,hx1,hmx1⟩:=zge (show i<List.length (lat x.above f.b) by omega)
 refine Zz 10 ?_
 refine i_ (aa_ B_ J_ rfl rfl (fun v _ h=>H_ (n:=1) au_ (by decide) (by exact (ap_ h.2.2.1 f.b)) hx1) (by omega) (by first|omega|(simp;done))) rfl ?_
 refine i_ (ay_ (ad:=(Prod.fst (A.a f.b))) O_ rfl (fun v _ h=>by exact (ap_ h.2.2.1 f.b)) (x_ au_ hx1 0 _ rfl)) rfl (Zz 5 ?_)
 refine q_ 0 [0,1,2,3,4,5,6,7,8,9,10] zk zs (Zz 7 ?_)
 refine T_ rfl (F_ eh_ rfl rfl) rfl (T_ rfl (aN_ (k:=(Ky.mk 4 f.r x1)) (adr:=A.p) gt_ bP_ cw_ rfl rfl zf) rfl (Zz 6 ?_))
 refine X_ (ι:={y:Nat×Hp // y.1≤List.length (lat pm (Ky.mk 4 f.r x1))∧E.St (emits E.stp (List.map (fun a=>y_ f.a a.c) (List.take y.1 (lat pm (Ky.mk 4 f.r x1)))) (emits E.stp (List.flatMap (fun y=>List.map (fun a=>y_ f.a a.c) (lat pm (Ky.mk 4 f.r y))) (List.take i (lat x.above f.b))) nw)) fm y.2}) (fun y=>[(0,zp_ B.g 0),(3,zp_ b1 0),(14,.slice (Prod.fst (A.a f.b)) (List.length (lat x.above f.b)) (Prod.snd (A.a f.b))),(15,.int .i64 (List.length (lat x.above f.b):Int)),(16,.int .i64 (i:Int)),(28,.slice (Prod.fst (A.p (Ky.mk 4 f.r x1))) (List.length (lat pm (Ky.mk 4 f.r x1))) (Prod.snd (A.p (Ky.mk 4 f.r x1)))),(29,.int .i64 (List.length (lat pm (Ky.mk 4 f.r x1)):Int)),(30,.int .i64 (y.1.1:Int))]) (fun y=>((b1,.cells #[.int .i64 f.kind,str f.a,str f.b,str f.r,.int .i64 f.lo,.int .i64 f.hi] 24 (0,0))::y.1.2)) (fun y=>[gF B E,pF B pm A,aF B x A,uF B x A,oF B x A,iF B x A,rF B x A,sF B x A,E.ef]) (fun y=>List.length (lat pm (Ky.mk 4 f.r x1)) - y.1.1) ⟨((0:Nat),Hs_i),by simp,by exact hS_i⟩ zl zp zh ?_
 rintro ⟨⟨j,Hs_j⟩,hi_j,hS_j⟩
 dsimp only at hi_j hS_j ⊢
 have hb_j:=hpl (Ky.mk 4 f.r x1)
 refine Zi 2 (fun hr2=>?_) fun hr2=>?_
 ·refine Zz 11 ?_
  exact C_ ⟨(i+1,Hs_j),hlx1,(by rw[fW_ hx1,at_];have e9:List.take j (lat pm (Ky.mk 4 f.r x1))=(lat pm (Ky.mk 4 f.r x1)):=List.take_of_length_le (by omega);rw[e9]at hS_j;exact hS_j)⟩ (by dsimp only;omega) zl (f_ d_ bc_) zh
 obtain⟨hlx2,x2,hx2,hmx2⟩:=zge (show j<List.length (lat pm (Ky.mk 4 f.r x1)) by omega)
 refine Zz 10 ?_
 refine i_ (aa_ W_ R_ rfl rfl (fun v _ h=>H_ (n:=10) Pc.cells_len (by decide) (by exact (ap_ h.2.1 (Ky.mk 4 f.r x1))) hx2) (by omega) (by first|omega|(simp;done))) rfl ?_
 refine i_ (bk_ (ad:=(Prod.fst (A.p (Ky.mk 4 f.r x1)))) (us:=Pc.cells x2) dO_ R_ rfl (fun v _ h=>by exact (ap_ h.2.1 (Ky.mk 4 f.r x1))) (Pc.cells_len _) (x_ Pc.cells_len hx2)) rfl (L_ aL_ rfl fun b2=>A_ 0 R_ rfl rfl rfl rfl rfl rfl (Zz 2 ?_))
 refine af_ ((b2,.cells #[.int .i64 x2.kind,str x2.a,str x2.b,str x2.c,str x2.r,str x2.s,str x2.t,.int .i64 x2.lo,.int .i64 x2.hi,.int .i64 x2.frm] 52 (0,0))::((b1,.cells #[.int .i64 f.kind,str f.a,str f.b,str f.r,.int .i64 f.lo,.int .i64 f.hi] 24 (0,0))::[])) zk ?_
 refine q_ 2 [0,1,2,3,4,5,6,7] zk zs (Zz 9 ?_)
 refine l_ 8 rfl zk (n_ (fh_ f.a x2.c) rfl m_ zt rfl fun _=>Zz 3 ?_)
 refine l_ 9 rfl zk (ao_ (first:=[]) (cap:=E.caps) (E.emit (y_ f.a x2.c) (emits E.stp (List.map (fun a=>y_ f.a a.c) (List.take j (lat pm (Ky.mk 4 f.r x1)))) (emits E.stp (List.flatMap (fun y=>List.map (fun a=>y_ f.a a.c) (lat pm (Ky.mk 4 f.r y))) (List.take i (lat x.above f.b))) nw)) fm Hs_j hS_j) rfl rfl (c_ K_) zf rfl fun⟨Hs1,hS1⟩=>?_)
 dsimp only
 refine Zz 10 ?_
 exact C_ ⟨(j+1,Hs1),hlx2,(by rw[dh_ hx2,at_];exact hS1)⟩ (by dsimp only;omega) zl zp zh
theorem ss_ (B:EngB) (E:Emt Tryz.prog 24) (A:EngA) (pm:List (Ky×Pc)) (x:Ix) (f:Fc) (nw fm:List Fc) (Hs:Hp) (hS:E.St nw fm Hs) (hpl:∀ k,(lat pm k).length≤1000000000) (hxl:∀ k,(lat x.above k).length≤1000000000∧(lat x.under k).length≤1000000000) (hyl:∀ k,(lat x.frm k).length≤1000000000∧(lat x.into k).length≤1000000000∧(lat x.ranges k).length≤1000000000∧(lat x.firms k).length≤1000000000):Tri Tryz.prog 96 #[zp_ B.g 0,Fc.val f] Hs [gF B E,pF B pm A,aF B x A,uF B x A,oF B x A,iF B x A,rF B x A,sF B x A,E.ef] (fun _:{H':Hp // E.St (emits E.stp (eV_ pm x f++gr_ pm x f) nw) fm H'}=>.tuple #[]) (fun y=>y.1) (fun _=>[]):=by
 refine u_ Tryz.func96 rfl rfl Tryz.ntmps96 rfl fun v0=>?_
 refine Zz 2 ?_
 refine aA_ rfl rfl fun b1=>Zz 5 ?_
 refine q_ 0 [0,1,2,3,4,5,6,7,8,9] zk zs (Zz 6 ?_)
 refine T_ rfl (F_ eh_ rfl rfl) rfl (T_ rfl (aN_ (k:=(Ky.mk 6 f.r [])) (adr:=A.p) gt_ bP_ cw_ rfl rfl zf) rfl (Zz 6 ?_))
 refine X_ (ι:={y:Nat×Hp // y.1≤List.length (lat pm (Ky.mk 6 f.r []))∧E.St (emits E.stp (List.flatMap (fun y=>List.map (fun a=>E_ f.a y.t a) (lat x.frm (Fc.b f,Pc.s y))) (List.take y.1 (lat pm (Ky.mk 6 f.r [])))) nw) fm y.2}) (fun y=>[(0,zp_ B.g 0),(3,zp_ b1 0),(19,.slice (Prod.fst (A.p (Ky.mk 6 f.r []))) (List.length (lat pm (Ky.mk 6 f.r []))) (Prod.snd (A.p (Ky.mk 6 f.r [])))),(20,.int .i64 (List.length (lat pm (Ky.mk 6 f.r [])):Int)),(21,.int .i64 (y.1.1:Int))]) (fun y=>((b1,.cells #[.int .i64 f.kind,str f.a,str f.b,str f.r,.int .i64 f.lo,.int .i64 f.hi] 24 (0,0))::y.1.2)) (fun y=>[gF B E,pF B pm A,aF B x A,uF B x A,oF B x A,iF B x A,rF B x A,sF B x A,E.ef]) (fun y=>List.length (lat pm (Ky.mk 6 f.r [])) - y.1.1) ⟨((0:Nat),Hs),by simp,by exact hS⟩ zl zp zh ?_
 rintro ⟨⟨i,Hs_i⟩,hi_i,hS_i⟩
 dsimp only at hi_i hS_i ⊢
 have hb_i:=hpl (Ky.mk 6 f.r [])
 refine Zi 2 (fun hr1=>?_) fun hr1=>?_
 ·refine Zz 8 ?_
  refine q_ 0 [0,1,2,3,4,5,6,7,8,9] zk zs (Zz 6 ?_)
  refine T_ rfl (F_ eh_ rfl rfl) rfl (T_ rfl (aN_ (k:=(Ky.mk 6 [] f.r)) (adr:=A.p) gt_ bP_ cw_ rfl rfl zf) rfl (Zz 6 ?_))
  refine X_ (ι:={y:Nat×Hp // y.1≤List.length (lat pm (Ky.mk 6 [] f.r))∧E.St (emits E.stp (List.flatMap (fun y=>List.map (fun a=>E_ a y.t f.b) (lat x.into (Fc.a f,Pc.r y))) (List.take y.1 (lat pm (Ky.mk 6 [] f.r)))) (emits E.stp (eV_ pm x f) nw)) fm y.2}) (fun y=>[(0,zp_ B.g 0),(3,zp_ b1 0),(19,.slice (Prod.fst (A.p (Ky.mk 6 f.r []))) (List.length (lat pm (Ky.mk 6 f.r []))) (Prod.snd (A.p (Ky.mk 6 f.r [])))),(20,.int .i64 (List.length (lat pm (Ky.mk 6 f.r [])):Int)),(21,.int .i64 (i:Int)),(60,.slice (Prod.fst (A.p (Ky.mk 6 [] f.r))) (List.length (lat pm (Ky.mk 6 [] f.r))) (Prod.snd (A.p (Ky.mk 6 [] f.r)))),(61,.int .i64 (List.length (lat pm (Ky.mk 6 [] f.r)):Int)),(62,.int .i64 (y.1.1:Int))]) (fun y=>((b1,.cells #[.int .i64 f.kind,str f.a,str f.b,str f.r,.int .i64 f.lo,.int .i64 f.hi] 24 (0,0))::y.1.2)) (fun y=>[gF B E,pF B pm A,aF B x A,uF B x A,oF B x A,iF B x A,rF B x A,sF B x A,E.ef]) (fun y=>List.length (lat pm (Ky.mk 6 [] f.r)) - y.1.1) ⟨((0:Nat),Hs_i),by simp,by have e9:List.take i (lat pm (Ky.mk 6 f.r []))=(lat pm (Ky.mk 6 f.r [])):=List.take_of_length_le (by omega);rw[e9]at hS_i;exact hS_i⟩ zl (f_ d_ bc_) zh ?_
  rintro ⟨⟨k,Hs_k⟩,hi_k,hS_k⟩
  dsimp only at hi_k hS_k ⊢
  have hb_k:=hpl (Ky.mk 6 [] f.r)
  refine Zi 2 (fun hr2=>?_) fun hr2=>?_
  ·refine Zz 6 ?_
   exact bM_ Tryz.results96 ⟨Hs_k,by rw[at_];unfold gr_;have e8:List.take k (lat pm (Ky.mk 6 [] f.r))=lat pm (Ky.mk 6 [] f.r):=List.take_of_length_le (by omega);rw[e8]at hS_k;exact hS_k⟩ rfl K_ zt
  obtain⟨hlx3,x3,hx3,hmx3⟩:=zge (show k<List.length (lat pm (Ky.mk 6 [] f.r)) by omega)
  refine Zz 10 ?_
  refine i_ (aa_ W_ R_ rfl rfl (fun v _ h=>H_ (n:=10) Pc.cells_len (by decide) (by exact (ap_ h.2.1 (Ky.mk 6 [] f.r))) hx3) (by omega) (by first|omega|(simp;done))) rfl ?_
  refine i_ (bk_ (ad:=(Prod.fst (A.p (Ky.mk 6 [] f.r)))) (us:=Pc.cells x3) dO_ R_ rfl (fun v _ h=>by exact (ap_ h.2.1 (Ky.mk 6 [] f.r))) (Pc.cells_len _) (x_ Pc.cells_len hx3)) rfl (L_ aL_ rfl fun b2=>A_ 0 R_ rfl rfl rfl rfl rfl rfl (Zz 4 ?_))
  refine q_ 0 [0,1,2,3,4,5,6,7,8,9,10,11] zk zs (Zz 8 ?_)
  refine T_ rfl (F_ eQ_ rfl rfl) rfl (T_ rfl (aN_ (k:=(f.a,x3.r)) (adr:=A.i) cC_ bO_ bj_ rfl rfl zf) rfl (Zz 6 ?_))
  refine X_ (ι:={y:Nat×Hp // y.1≤List.length (lat x.into (f.a,x3.r))∧E.St (emits E.stp (List.map (fun a=>E_ a x3.t f.b) (List.take y.1 (lat x.into (f.a,x3.r)))) (emits E.stp (List.flatMap (fun y=>List.map (fun a=>E_ a y.t f.b) (lat x.into (Fc.a f,Pc.r y))) (List.take k (lat pm (Ky.mk 6 [] f.r)))) (emits E.stp (eV_ pm x f) nw))) fm y.2}) (fun y=>[(0,zp_ B.g 0),(3,zp_ b1 0),(19,.slice (Prod.fst (A.p (Ky.mk 6 f.r []))) (List.length (lat pm (Ky.mk 6 f.r []))) (Prod.snd (A.p (Ky.mk 6 f.r [])))),(20,.int .i64 (List.length (lat pm (Ky.mk 6 f.r [])):Int)),(21,.int .i64 (i:Int)),(60,.slice (Prod.fst (A.p (Ky.mk 6 [] f.r))) (List.length (lat pm (Ky.mk 6 [] f.r))) (Prod.snd (A.p (Ky.mk 6 [] f.r)))),(61,.int .i64 (List.length (lat pm (Ky.mk 6 [] f.r)):Int)),(62,.int .i64 (k:Int)),(9,zp_ b2 0),(75,.slice (Prod.fst (A.i (f.a,x3.r))) (List.length (lat x.into (f.a,x3.r))) (Prod.snd (A.i (f.a,x3.r)))),(76,.int .i64 (List.length (lat x.into (f.a,x3.r)):Int)),(77,.int .i64 (y.1.1:Int))]) (fun y=>((b2,.cells #[.int .i64 x3.kind,str x3.a,str x3.b,str x3.c,str x3.r,str x3.s,str x3.t,.int .i64 x3.lo,.int .i64 x3.hi,.int .i64 x3.frm] 52 (0,0))::((b1,.cells #[.int .i64 f.kind,str f.a,str f.b,str f.r,.int .i64 f.lo,.int .i64 f.hi] 24 (0,0))::y.1.2))) (fun y=>[gF B E,pF B pm A,aF B x A,uF B x A,oF B x A,iF B x A,rF B x A,sF B x A,E.ef]) (fun y=>List.length (lat x.into (f.a,x3.r)) - y.1.1) ⟨((0:Nat),Hs_k),by simp,by exact hS_k⟩ zl zp zh ?_
  rintro ⟨⟨l,Hs_l⟩,hi_l,hS_l⟩
  dsimp only at hi_l hS_l ⊢
  have hb_l:=(hyl (f.a,x3.r)).2.1
  refine Zi 2 (fun hr3=>?_) fun hr3=>?_
  ·refine Zz 11 ?_
   exact C_ ⟨(k+1,Hs_l),hlx3,(by rw[fW_ hx3,at_];have e9:List.take l (lat x.into (Fc.a f,Pc.r x3))=(lat x.into (Fc.a f,Pc.r x3)):=List.take_of_length_le (by omega);rw[e9]at hS_l;exact hS_l)⟩ (by dsimp only;omega) zl (f_ (c_ d_) K_) zh
  obtain⟨hlx4,x4,hx4,hmx4⟩:=zge (show l<List.length (lat x.into (f.a,x3.r)) by omega)
  refine Zz 10 ?_
  refine i_ (aa_ B_ J_ rfl rfl (fun v _ h=>H_ (n:=1) au_ (by decide) (by exact (ap_ h.2.2.2.2.2.1 (f.a,x3.r))) hx4) (by omega) (by first|omega|(simp;done))) rfl ?_
  refine i_ (ay_ (ad:=(Prod.fst (A.i (f.a,x3.r)))) O_ rfl (fun v _ h=>by exact (ap_ h.2.2.2.2.2.1 (f.a,x3.r))) (x_ au_ hx4 0 _ rfl)) rfl (Zz 3 ?_)
  refine af_ ((b2,.cells #[.int .i64 x3.kind,str x3.a,str x3.b,str x3.c,str x3.r,str x3.s,str x3.t,.int .i64 x3.lo,.int .i64 x3.hi,.int .i64 x3.frm] 52 (0,0))::((b1,.cells #[.int .i64 f.kind,str f.a,str f.b,str f.r,.int .i64 f.lo,.int .i64 f.hi] 24 (0,0))::[])) zk ?_
  refine q_ 2 [0,1,2,3,4,5,6,7,8] zk zs (Zz 10 ?_)
  refine l_ 9 rfl zk (n_ (jP_ x4 x3.t f.b) rfl m_ zt rfl fun _=>Zz 3 ?_)
  refine l_ 10 rfl zk (ao_ (first:=[]) (cap:=E.caps) (E.emit (E_ x4 x3.t f.b) (emits E.stp (List.map (fun a=>E_ a x3.t f.b) (List.take l (lat x.into (f.a,x3.r)))) (emits E.stp (List.flatMap (fun y=>List.map (fun a=>E_ a y.t f.b) (lat x.into (Fc.a f,Pc.r y))) (List.take k (lat pm (Ky.mk 6 [] f.r)))) (emits E.stp (eV_ pm x f) nw))) fm Hs_l hS_l) rfl rfl zp zf rfl fun⟨Hs1,hS1⟩=>?_)
  dsimp only
  refine Zz 10 ?_
  exact C_ ⟨(l+1,Hs1),hlx4,(by rw[dh_ hx4,at_];exact hS1)⟩ (by dsimp only;omega) zl zp zh
 obtain⟨hlx1,x1,hx1,hmx1⟩:=zge (show i<List.length (lat pm (Ky.mk 6 f.r [])) by omega)
 refine Zz 10 ?_
 refine i_ (aa_ W_ R_ rfl rfl (fun v _ h=>H_ (n:=10) Pc.cells_len (by decide) (by exact (ap_ h.2.1 (Ky.mk 6 f.r []))) hx1) (by omega) (by first|omega|(simp;done))) rfl ?_
 refine i_ (bk_ (ad:=(Prod.fst (A.p (Ky.mk 6 f.r [])))) (us:=Pc.cells x1) dO_ R_ rfl (fun v _ h=>by exact (ap_ h.2.1 (Ky.mk 6 f.r []))) (Pc.cells_len _) (x_ Pc.cells_len hx1)) rfl (L_ aL_ rfl fun b3=>A_ 0 R_ rfl rfl rfl rfl rfl rfl (Zz 4 ?_))
 refine q_ 0 [0,1,2,3,4,5,6,7,8,9,10,11] zk zs (Zz 8 ?_)
 refine T_ rfl (F_ eQ_ rfl rfl) rfl (T_ rfl (aN_ (k:=(f.b,x1.s)) (adr:=A.o) cC_ bO_ bj_ rfl rfl zf) rfl (Zz 6 ?_))
 refine X_ (ι:={y:Nat×Hp // y.1≤List.length (lat x.frm (f.b,x1.s))∧E.St (emits E.stp (List.map (fun a=>E_ f.a x1.t a) (List.take y.1 (lat x.frm (f.b,x1.s)))) (emits E.stp (List.flatMap (fun y=>List.map (fun a=>E_ f.a y.t a) (lat x.frm (Fc.b f,Pc.s y))) (List.take i (lat pm (Ky.mk 6 f.r [])))) nw)) fm y.2}) (fun y=>[(0,zp_ B.g 0),(3,zp_ b1 0),(19,.slice (Prod.fst (A.p (Ky.mk 6 f.r []))) (List.length (lat pm (Ky.mk 6 f.r []))) (Prod.snd (A.p (Ky.mk 6 f.r [])))),(20,.int .i64 (List.length (lat pm (Ky.mk 6 f.r [])):Int)),(21,.int .i64 (i:Int)),(5,zp_ b3 0),(34,.slice (Prod.fst (A.o (f.b,x1.s))) (List.length (lat x.frm (f.b,x1.s))) (Prod.snd (A.o (f.b,x1.s)))),(35,.int .i64 (List.length (lat x.frm (f.b,x1.s)):Int)),(36,.int .i64 (y.1.1:Int))]) (fun y=>((b3,.cells #[.int .i64 x1.kind,str x1.a,str x1.b,str x1.c,str x1.r,str x1.s,str x1.t,.int .i64 x1.lo,.int .i64 x1.hi,.int .i64 x1.frm] 52 (0,0))::((b1,.cells #[.int .i64 f.kind,str f.a,str f.b,str f.r,.int .i64 f.lo,.int .i64 f.hi] 24 (0,0))::y.1.2))) (fun y=>[gF B E,pF B pm A,aF B x A,uF B x A,oF B x A,iF B x A,rF B x A,sF B x A,E.ef]) (fun y=>List.length (lat x.frm (f.b,x1.s)) - y.1.1) ⟨((0:Nat),Hs_i),by simp,by exact hS_i⟩ zl zp zh ?_
 rintro ⟨⟨j,Hs_j⟩,hi_j,hS_j⟩
 dsimp only at hi_j hS_j ⊢
 have hb_j:=(hyl (f.b,x1.s)).1
 refine Zi 2 (fun hr4=>?_) fun hr4=>?_
 ·refine Zz 11 ?_
  exact C_ ⟨(i+1,Hs_j),hlx1,(by rw[fW_ hx1,at_];have e9:List.take j (lat x.frm (Fc.b f,Pc.s x1))=(lat x.frm (Fc.b f,Pc.s x1)):=List.take_of_length_le (by omega);rw[e9]at hS_j;exact hS_j)⟩ (by dsimp only;omega) zl (f_ (c_ d_) K_) zh
 obtain⟨hlx2,x2,hx2,hmx2⟩:=zge (show j<List.length (lat x.frm (f.b,x1.s)) by omega)
 refine Zz 10 ?_
 refine i_ (aa_ B_ J_ rfl rfl (fun v _ h=>H_ (n:=1) au_ (by decide) (by exact (ap_ h.2.2.2.2.1 (f.b,x1.s))) hx2) (by omega) (by first|omega|(simp;done))) rfl ?_
 refine i_ (ay_ (ad:=(Prod.fst (A.o (f.b,x1.s)))) O_ rfl (fun v _ h=>by exact (ap_ h.2.2.2.2.1 (f.b,x1.s))) (x_ au_ hx2 0 _ rfl)) rfl (Zz 3 ?_)
 refine af_ ((b3,.cells #[.int .i64 x1.kind,str x1.a,str x1.b,str x1.c,str x1.r,str x1.s,str x1.t,.int .i64 x1.lo,.int .i64 x1.hi,.int .i64 x1.frm] 52 (0,0))::((b1,.cells #[.int .i64 f.kind,str f.a,str f.b,str f.r,.int .i64 f.lo,.int .i64 f.hi] 24 (0,0))::[])) zk ?_
 refine q_ 2 [0,1,2,3,4,5,6,7,8] zk zs (Zz 10 ?_)
 refine l_ 9 rfl zk (n_ (jP_ f.a x1.t x2) rfl m_ zt rfl fun _=>Zz 3 ?_)
 refine l_ 10 rfl zk (ao_ (first:=[]) (cap:=E.caps) (E.emit (E_ f.a x1.t x2) (emits E.stp (List.map (fun a=>E_ f.a x1.t a) (List.take j (lat x.frm (f.b,x1.s)))) (emits E.stp (List.flatMap (fun y=>List.map (fun a=>E_ f.a y.t a) (lat x.frm (Fc.b f,Pc.s y))) (List.take i (lat pm (Ky.mk 6 f.r [])))) nw)) fm Hs_j hS_j) rfl rfl zp zf rfl fun⟨Hs2,hS2⟩=>?_)
 dsimp only
 refine Zz 10 ?_
 exact C_ ⟨(j+1,Hs2),hlx2,(by rw[dh_ hx2,at_];exact hS2)⟩ (by dsimp only;omega) zl zp zh
theorem mI_ (B:EngB) (E:Emt Tryz.prog 24) (A:EngA) (pm:List (Ky×Pc)) (x:Ix) (f:Fc) (nw fm:List Fc) (Hs:Hp) (hS:E.St nw fm Hs) (hpl:∀ k,(lat pm k).length≤1000000000) (hxl:∀ k,(lat x.above k).length≤1000000000∧(lat x.under k).length≤1000000000) (hyl:∀ k,(lat x.frm k).length≤1000000000∧(lat x.into k).length≤1000000000∧(lat x.ranges k).length≤1000000000∧(lat x.firms k).length≤1000000000):Tri Tryz.prog 93 #[zp_ B.g 0,Fc.val f] Hs [gF B E,pF B pm A,aF B x A,uF B x A,oF B x A,iF B x A,rF B x A,sF B x A,E.ef] (fun _:{H':Hp // E.St (emits E.stp (cU_ x f) nw) fm H'}=>.tuple #[]) (fun y=>y.1) (fun _=>[]):=by
 refine u_ Tryz.func93 rfl rfl Tryz.ntmps93 rfl fun v0=>?_
 refine Zz 2 ?_
 refine aA_ rfl rfl fun b1=>Zi 6 (fun hr1=>?_) fun hr1=>?_
 ·refine Zz 5 ?_
  exact bM_ Tryz.results93 ⟨Hs,by unfold cU_;rw[if_neg (by assumption)];exact hS⟩ rfl K_ zt
 refine Zz 5 ?_
 refine q_ 0 [0,1,2,3,4,5,6,7,8] zk zs (Zz 6 ?_)
 refine T_ rfl (aN_ (k:=f.a) (adr:=A.u) dI_ cc_ bj_ rfl rfl zf) rfl (Zz 6 ?_)
 refine X_ (ι:={y:Nat×Hp // y.1≤List.length (lat x.under f.a)∧E.St (emits E.stp (List.map (fun a=>y_ a [33]) (List.take y.1 (lat x.under f.a))) nw) fm y.2}) (fun y=>[(0,zp_ B.g 0),(15,.slice (Prod.fst (A.u f.a)) (List.length (lat x.under f.a)) (Prod.snd (A.u f.a))),(16,.int .i64 (List.length (lat x.under f.a):Int)),(17,.int .i64 (y.1.1:Int))]) (fun y=>(y.1.2)) (fun y=>[gF B E,pF B pm A,aF B x A,uF B x A,oF B x A,iF B x A,rF B x A,sF B x A,E.ef]) (fun y=>List.length (lat x.under f.a) - y.1.1) ⟨((0:Nat),Hs),by simp,by exact hS⟩ zl K_ zh ?_
 rintro ⟨⟨i,Hs_i⟩,hi_i,hS_i⟩
 dsimp only at hi_i hS_i ⊢
 have hb_i:=(hxl f.a).2
 refine Zi 2 (fun hr2=>?_) fun hr2=>?_
 ·refine Zz 6 ?_
  exact bM_ Tryz.results93 ⟨Hs_i,by unfold cU_;rw[if_pos (by assumption)];rw[List.take_of_length_le (by omega)]at hS_i;exact hS_i⟩ rfl bc_ zt
 obtain⟨hlx1,x1,hx1,hmx1⟩:=zge (show i<List.length (lat x.under f.a) by omega)
 refine Zz 10 ?_
 refine i_ (aa_ B_ J_ rfl rfl (fun v _ h=>H_ (n:=1) au_ (by decide) (by exact (ap_ h.2.2.2.1 f.a)) hx1) (by omega) (by first|omega|(simp;done))) rfl ?_
 refine i_ (ay_ (ad:=(Prod.fst (A.u f.a))) O_ rfl (fun v _ h=>by exact (ap_ h.2.2.2.1 f.a)) (x_ au_ hx1 0 _ rfl)) rfl (Zz 3 ?_)
 refine af_ ([]) zk ?_
 refine q_ 2 [0,1,2,3,4] zk zs (Zz 6 ?_)
 refine l_ 5 rfl zk (n_ (fh_ x1 [33]) rfl m_ zt rfl fun _=>w_ nM_ (Zz 3 ?_))
 refine l_ 6 rfl zk (ao_ (first:=[]) (cap:=E.caps) (E.emit (y_ x1 [33]) (emits E.stp (List.map (fun a=>y_ a [33]) (List.take i (lat x.under f.a))) nw) fm Hs_i hS_i) rfl rfl bc_ zf rfl fun⟨Hs1,hS1⟩=>?_)
 dsimp only
 refine w_ eR_ (Zz 10 ?_)
 exact C_ ⟨(i+1,Hs1),hlx1,(by rw[dh_ hx1,at_];exact hS1)⟩ (by dsimp only;omega) zl bc_ zh
theorem mH_ (B:EngB) (E:Emt Tryz.prog 24) (A:EngA) (pm:List (Ky×Pc)) (x:Ix) (f:Fc) (nw fm:List Fc) (Hs:Hp) (hS:E.St nw fm Hs) (hpl:∀ k,(lat pm k).length≤1000000000) (hxl:∀ k,(lat x.above k).length≤1000000000∧(lat x.under k).length≤1000000000) (hyl:∀ k,(lat x.frm k).length≤1000000000∧(lat x.into k).length≤1000000000∧(lat x.ranges k).length≤1000000000∧(lat x.firms k).length≤1000000000):Tri Tryz.prog 98 #[zp_ B.g 0,Fc.val f] Hs [gF B E,pF B pm A,aF B x A,uF B x A,oF B x A,iF B x A,rF B x A,sF B x A,E.ef] (fun _:{H':Hp // E.St (if y_ f.b [33]∈E.kof nw then E.stp (y_ f.a [33]) nw else nw) fm H'}=>.tuple #[]) (fun y=>y.1) (fun _=>[]):=by
 refine u_ Tryz.func98 rfl rfl Tryz.ntmps98 rfl fun v0=>?_
 refine Zz 2 ?_
 refine aA_ rfl rfl fun b1=>Zz 4 ?_
 refine q_ 2 [0,1,2,3,4,5] zk zs (Zz 7 ?_)
 refine l_ 6 rfl zk (n_ (fh_ f.b [33]) rfl m_ zt rfl fun _=>Zz 3 ?_)
 refine q_ 0 [7] zk zs (cL_ rfl (gW_ (f:=(y_ f.b [33])) hS eO_ aH_ eB_ rfl rfl K_) rfl fun r1 hr1=>Zz 3 ?_)
 cases r1
 ·replace hr1:=zdf hr1
  refine Zz 3 ?_
  exact bM_ Tryz.results98 ⟨Hs,by first|(rw[if_pos (by assumption)];exact hS)|(rw[if_neg (by assumption)];exact hS)⟩ rfl K_ zt
 replace hr1:=zdt hr1
 refine cH_ rfl ?_
 refine af_ ((b1,.cells #[.int .i64 f.kind,str f.a,str f.b,str f.r,.int .i64 f.lo,.int .i64 f.hi] 24 (0,0))::[]) zk ?_
 refine q_ 2 [0,1,2,3,4,5] zk zs (Zz 7 ?_)
 refine l_ 6 rfl zk (n_ (fh_ f.a [33]) rfl m_ zt rfl fun _=>Zz 3 ?_)
 refine l_ 7 rfl zk (ao_ (first:=[]) (cap:=E.caps) (E.emit (y_ f.a [33]) nw fm Hs hS) rfl rfl K_ zf rfl fun⟨Hs1,hS1⟩=>?_)
 dsimp only
 refine Zz 5 ?_
 exact bM_ Tryz.results98 ⟨Hs1,by first|(rw[if_pos (by assumption)];exact hS1)|(rw[if_neg (by assumption)];exact hS1)⟩ rfl j_ zt
end Go.Proofs.YtkeanlfhghlgiaaGreatDoor
namespace Go.Proofs.YtkeanlfhghlgiaaGreatDoor
open Go Go.Sx Go.Proofs
attribute [local irreducible] Code.wp wpList wpAnyH
open Go.Vs
def ivC (i:Int×Int):List Value:=[.int .i64 i.1,.int .i64 i.2]
theorem ls_ (i:Int×Int):(ivC i).length=2:=rfl
def ivV (i:Int×Int):Value:=.agg (ivC i).toArray
def fy_ (i:Int×Int):Int:=if min i.1 i.2 < -1099511627776∨1099511627776<max i.1 i.2 then 1 else if i.2<i.1 then 80 else 0
def iq_ (e:Int) (i:Int×Int):Int:=if e≠0 then e else fy_ i
def fE_ (l:List (Int×Int)):Int:=l.foldl iq_ 0
theorem mx_ {l:List (Int×Int)} {i:Nat} {x:Int×Int} (h:l[i]? = some x):fE_ (List.take (i+1) l)=iq_ (fE_ (List.take i l)) x:=by
  unfold fE_;rw[List.take_add_one,h,Option.toList_some,List.foldl_append];rfl
def oM_ (a b:Int×Int):Bool:=decide (fE_ [a,b]=0)&&(decide (b.1≤a.1)&&decide (a.2≤b.2))
theorem rY_ {a b:Int×Int} (ha:-1099511627776≤a.1∧a.1≤a.2∧a.2≤1099511627776) (hb:-1099511627776≤b.1∧b.1≤b.2∧b.2≤1099511627776):oM_ a b=decide (b.1≤a.1∧a.2≤b.2):=by
  have e:∀ i:Int×Int,-1099511627776≤i.1∧i.1≤i.2∧i.2≤1099511627776→fy_ i=0:=fun i h=>by
    unfold fy_;rw[if_neg (by omega),if_neg (by omega)]
  have e2:fE_ [a,b]=0:=by simp[fE_,iq_,e a ha,e b hb]
  unfold oM_;rw[e2,Bool.eq_iff_iff];simp
theorem nG_:iy_ Tryz.prog 149 [(0,1),(1,1)] [.int .i64 0,.int .i64 0]:=⟨_,Tryz.zeroValue149,cl_,fun w=>by simp[s_]⟩
theorem oN_ (i:Int×Int):Fn0 Tryz.prog 186 #[ivV i] (.int .i64 (fy_ i)):=by
 refine u_ Tryz.func186 rfl rfl Tryz.ntmps186 rfl fun v0=>?_
 refine Zz 2 ?_
 refine aA_ rfl rfl fun b1=>Zz 10 ?_
 refine i_ (cY_ rfl rfl) rfl ?_
 refine Zi 0 (fun hr1=>?_) fun hr1=>?_
 ·refine Zz 10 ?_
  refine i_ (de_ rfl rfl) rfl (aK_ rfl rfl ?_)
  refine Zi 0 (fun hr2=>?_) fun hr2=>?_
  ·refine Zi 13 (fun hr3=>?_) fun hr3=>?_
   ·refine Zz 11 ?_
    exact al_ Tryz.results186 () (cs_ rfl (by unfold fy_;first|(rw[if_pos (by omega)])|(rw[if_neg (by omega),if_pos (by omega)])|(rw[if_neg (by omega),if_neg (by omega)]))) m_ zt
   refine Zz 9 ?_
   exact al_ Tryz.results186 () (cs_ rfl (by unfold fy_;first|(rw[if_pos (by omega)])|(rw[if_neg (by omega),if_pos (by omega)])|(rw[if_neg (by omega),if_neg (by omega)]))) m_ zt
  refine Zz 10 ?_
  exact al_ Tryz.results186 () (cs_ rfl (by unfold fy_;first|(rw[if_pos (by omega)])|(rw[if_neg (by omega),if_pos (by omega)])|(rw[if_neg (by omega),if_neg (by omega)]))) m_ zt
 refine Zz 17 ?_
 exact al_ Tryz.results186 () (cs_ rfl (by unfold fy_;first|(rw[if_pos (by omega)])|(rw[if_neg (by omega),if_pos (by omega)])|(rw[if_neg (by omega),if_neg (by omega)]))) m_ zt
theorem rX_ (e:Int) (i:Int×Int):Fn0 Tryz.prog 185 #[.int .i64 e,ivV i] (.int .i64 (iq_ e i)):=by
 refine u_ Tryz.func185 rfl rfl Tryz.ntmps185 rfl fun v0=>?_
 refine Zz 2 ?_
 refine aA_ rfl rfl fun b1=>Zi 7 (fun hr1=>?_) fun hr1=>?_
 ·refine Zz 8 ?_
  refine n_ (oN_ i) rfl m_ zt rfl fun _=>Zz 4 ?_
  exact al_ Tryz.results185 () (cs_ rfl (by unfold iq_;first|(rw[if_pos (by assumption)])|(rw[if_neg (by omega)]))) m_ zt
 refine Zz 10 ?_
 exact al_ Tryz.results185 () (cs_ rfl (by unfold iq_;first|(rw[if_pos (by assumption)])|(rw[if_neg (by omega)]))) m_ zt
theorem ns_ (l:List (Int×Int)) (ad:Option Addr) (cap:Nat) (hl:l.length≤1000000):Tri Tryz.prog 184 #[.slice ad (List.length l) cap,.int .i64 0,.func (.func 185) #[] #[]] [] [aq_ ad (List.flatMap ivC l)] (fun _:Unit=>.int .i64 (fE_ l)) (fun _=>[]) (fun _=>[]):=by
 refine u_ Tryz.func184 rfl rfl Tryz.ntmps184 rfl fun v0=>?_
 refine Zz 14 ?_
 refine X_ (ι:={y:Nat // y≤l.length}) (fun y=>[(1,.int .i64 (fE_ (List.take y.1 l))),(2,.func (.func 185) #[] #[]),(9,.slice ad (List.length l) cap),(10,.int .i64 (List.length l:Int)),(11,.int .i64 (y.1:Int))]) (fun y=>([])) (fun y=>[aq_ ad (List.flatMap ivC l)]) (fun y=>l.length - y.1) ⟨(0:Nat),by simp⟩ zl m_ zh ?_
 rintro ⟨i,hi⟩
 dsimp only at hi ⊢
 refine Zi 2 (fun hr1=>?_) fun hr1=>?_
 ·refine Zz 13 ?_
  exact al_ Tryz.results184 () (cs_ rfl (by rw[List.take_of_length_le (by omega)])) m_ zt
 obtain⟨hlx1,x1,hx1,hmx1⟩:=zge (show i<List.length l by omega)
 refine Zz 10 ?_
 refine i_ (aa_ bX_ pE_ rfl rfl (fun v _ h=>H_ (n:=2) ls_ (by decide) (by exact h.1) hx1) (by omega) (by first|omega|(simp;done))) rfl ?_
 refine i_ (bk_ (ad:=ad) (us:=ivC x1) Tryz.isAgg149 pE_ rfl zf (ls_ _) (x_ ls_ hx1)) rfl (L_ Tryz.zeroValue149 rfl fun b1=>A_ 0 pE_ rfl rfl rfl rfl rfl rfl (Zz 6 ?_))
 refine ao_ (rX_ (fE_ (List.take i l)) x1) rfl rfl m_ zt rfl fun _=>Zz 8 ?_
 exact C_ ⟨i+1,hlx1⟩ (by dsimp only;omega) ⟨(cs_ rfl (mx_ hx1).symm),rfl,rfl,rfl,rfl,trivial⟩ m_ zh
theorem rZ_ (l:List (Int×Int)) (ad:Option Addr) (cap:Nat) (hl:l.length≤1000000):Tri Tryz.prog 165 #[.slice ad (List.length l) cap] [] [aq_ ad (List.flatMap ivC l)] (fun _:Unit=>.int .i64 (fE_ l)) (fun _=>[]) (fun _=>[]):=by
  refine u_ Tryz.func165 rfl rfl Tryz.ntmps165 rfl fun v0=>?_
  refine Zz 8 ?_
  refine n_ (ns_ l ad cap hl) rfl m_ zf rfl fun _=>Zz 4 ?_
  exact al_ Tryz.results165 () rfl m_ zt
theorem pr_ (i j:Int×Int):Fn0 Tryz.prog 125 #[ivV i,ivV j] (.bool (oM_ i j)):=by
 refine u_ Tryz.func125 rfl rfl Tryz.ntmps125 rfl fun v0=>?_
 refine Zz 2 ?_
 refine aA_ rfl rfl fun b1=>aA_ rfl rfl fun b2=>Zz 7 ?_
 refine Q_ bX_ pE_ Tryz.zeroValue149 rfl rfl rfl rfl rfl rfl fun b3=>?_
 refine aJ_ (List.flatMap ivC [i,j]) d_ rfl ?_
 refine n_ (rZ_ [i,j] (some ⟨b3,0,none⟩) 2 (by simp)) rfl m_ zf rfl fun _=>?_
 refine Zi 0 (fun hr1=>?_) fun hr1=>?_
 ·refine Zz 18 ?_
  exact al_ Tryz.results125 () (t_ rfl (by unfold oM_;simp_all<;>omega)) m_ zt
 refine Zi 10 (fun hr2=>?_) fun hr2=>?_
 ·refine Zz 12 ?_
  exact al_ Tryz.results125 () (t_ rfl (by unfold oM_;simp_all<;>omega)) m_ zt
 refine Zz 11 ?_
 refine aT_ (eP_ rfl rfl) rfl fun r3 hr3=>Zz 5 ?_
 exact al_ Tryz.results125 () (t_ rfl (by unfold oM_;simp_all<;>omega)) m_ zt
theorem mV_ (a b c d:Int) (ha:-1099511627776≤a∧a≤b∧b≤1099511627776) (hb:-1099511627776≤c∧c≤d∧d≤1099511627776):Fn0 Tryz.prog 125 #[ivV (a,b),ivV (c,d)] (.bool (decide (c≤a∧b≤d))):=by
  have:=pr_ (a,b) (c,d)
  rw[rY_ ha hb]at this
  exact this
theorem iu_ {α:Type} {p:α→Bool} {l:List α} {i:Nat} {x:α} (h:l[i]? = some x):List.filter p (List.take (i+1) l)=List.filter p (List.take i l)++(if p x then [x] else []):=by
  rw[List.take_add_one,h,Option.toList_some,List.filter_append]
  congr 1
  simp[List.filter_cons]
theorem out_c (B:EngB) (E:Emt Tryz.prog 24) (A:EngA) (pm:List (Ky×Pc)) (x:Ix) (f:Fc) (nw fm:List Fc) (Hs:Hp) (hS:E.St nw fm Hs) (hpl:∀ k,(lat pm k).length≤1000000000) (hxl:∀ k,(lat x.above k).length≤1000000000∧(lat x.under k).length≤1000000000) (hyl:∀ k,(lat x.frm k).length≤1000000000∧(lat x.into k).length≤1000000000∧(lat x.ranges k).length≤1000000000∧(lat x.firms k).length≤1000000000) (hf:-1099511627776≤f.lo∧f.lo≤f.hi∧f.hi≤1099511627776) (hq:∀ y∈lat pm (Ky.mk 9 f.r []),-1099511627776≤y.lo∧y.lo≤y.hi∧y.hi≤1099511627776):Tri Tryz.prog 100 #[zp_ B.g 0,Fc.val f] Hs [gF B E,pF B pm A,aF B x A,uF B x A,oF B x A,iF B x A,rF B x A,sF B x A,E.ef] (fun _:{H':Hp // E.St (emits E.stp (oD_ pm f) nw) fm H'}=>.tuple #[]) (fun y=>y.1) (fun _=>[]):=by
 refine u_ Tryz.func100 rfl rfl Tryz.ntmps100 rfl fun v0=>?_
 refine Zz 2 ?_
 refine aA_ rfl rfl fun b1=>Zz 4 ?_
 refine q_ 0 [0,1,2,3,4,5,6,7,8,9] zk zs (Zz 6 ?_)
 refine T_ rfl (F_ eh_ rfl rfl) rfl (T_ rfl (aN_ (k:=(Ky.mk 9 f.r [])) (adr:=A.p) gt_ bP_ cw_ rfl rfl zf) rfl (Zz 6 ?_))
 refine X_ (ι:={y:Nat×Hp // y.1≤List.length (lat pm (Ky.mk 9 f.r []))∧E.St (emits E.stp (List.map (fun y=>y_ f.a y.c) (List.filter (fun y=>decide (Pc.lo y≤Fc.lo f∧Fc.hi f≤Pc.hi y)) (List.take y.1 (lat pm (Ky.mk 9 f.r []))))) nw) fm y.2}) (fun y=>[(0,zp_ B.g 0),(3,zp_ b1 0),(13,.slice (Prod.fst (A.p (Ky.mk 9 f.r []))) (List.length (lat pm (Ky.mk 9 f.r []))) (Prod.snd (A.p (Ky.mk 9 f.r [])))),(14,.int .i64 (List.length (lat pm (Ky.mk 9 f.r [])):Int)),(15,.int .i64 (y.1.1:Int))]) (fun y=>((b1,.cells #[.int .i64 f.kind,str f.a,str f.b,str f.r,.int .i64 f.lo,.int .i64 f.hi] 24 (0,0))::y.1.2)) (fun y=>[gF B E,pF B pm A,aF B x A,uF B x A,oF B x A,iF B x A,rF B x A,sF B x A,E.ef]) (fun y=>List.length (lat pm (Ky.mk 9 f.r [])) - y.1.1) ⟨((0:Nat),Hs),by simp,by exact hS⟩ zl zp zh ?_
 rintro ⟨⟨i,Hs_i⟩,hi_i,hS_i⟩
 dsimp only at hi_i hS_i ⊢
 have hb_i:=hpl (Ky.mk 9 f.r [])
 refine Zi 2 (fun hr1=>?_) fun hr1=>?_
 ·refine Zz 6 ?_
  exact bM_ Tryz.results100 ⟨Hs_i,by unfold oD_;rw[List.take_of_length_le (by omega)]at hS_i;exact hS_i⟩ rfl K_ zt
 obtain⟨hlx1,x1,hx1,hmx1⟩:=zge (show i<List.length (lat pm (Ky.mk 9 f.r [])) by omega)
 refine Zz 10 ?_
 refine i_ (aa_ W_ R_ rfl rfl (fun v _ h=>H_ (n:=10) Pc.cells_len (by decide) (by exact (ap_ h.2.1 (Ky.mk 9 f.r []))) hx1) (by omega) (by first|omega|(simp;done))) rfl ?_
 refine i_ (bk_ (ad:=(Prod.fst (A.p (Ky.mk 9 f.r [])))) (us:=Pc.cells x1) dO_ R_ rfl (fun v _ h=>by exact (ap_ h.2.1 (Ky.mk 9 f.r []))) (Pc.cells_len _) (x_ Pc.cells_len hx1)) rfl (L_ aL_ rfl fun b2=>A_ 0 R_ rfl rfl rfl rfl rfl rfl (Zz 8 ?_))
 refine i_ (F_ nG_ rfl rfl) rfl (Zz 4 ?_)
 refine i_ (F_ nG_ rfl rfl) rfl (bm_ (mV_ f.lo f.hi x1.lo x1.hi hf (hq x1 hmx1)) rfl m_ zt rfl fun r2 hr2=>Zz 2 ?_)
 cases r2
 ·replace hr2:=zdf hr2
  refine Zz 8 ?_
  exact C_ ⟨(i+1,Hs_i),hlx1,(by rw[iu_ hx1];first|(rw[if_pos (decide_eq_true (by assumption)),List.map_append,at_];exact hS_i)|(rw[if_neg (by rw[decide_eq_false (by assumption)];decide),List.append_nil];exact hS_i))⟩ (by dsimp only;omega) zl (f_ (c_ d_) K_) zh
 replace hr2:=zdt hr2
 refine cH_ rfl ?_
 refine af_ ((b2,.cells #[.int .i64 x1.kind,str x1.a,str x1.b,str x1.c,str x1.r,str x1.s,str x1.t,.int .i64 x1.lo,.int .i64 x1.hi,.int .i64 x1.frm] 52 (0,0))::((b1,.cells #[.int .i64 f.kind,str f.a,str f.b,str f.r,.int .i64 f.lo,.int .i64 f.hi] 24 (0,0))::[])) zk ?_
 refine q_ 2 [0,1,2,3,4,5,6,7] zk zs (Zz 9 ?_)
 refine l_ 8 rfl zk (n_ (fh_ f.a x1.c) rfl m_ zt rfl fun _=>Zz 3 ?_)
 refine l_ 9 rfl zk (ao_ (first:=[]) (cap:=E.caps) (E.emit (y_ f.a x1.c) (emits E.stp (List.map (fun y=>y_ f.a y.c) (List.filter (fun y=>decide (Pc.lo y≤Fc.lo f∧Fc.hi f≤Pc.hi y)) (List.take i (lat pm (Ky.mk 9 f.r []))))) nw) fm Hs_i hS_i) rfl rfl (c_ K_) zf rfl fun⟨Hs1,hS1⟩=>?_)
 dsimp only
 refine Zz 10 ?_
 exact C_ ⟨(i+1,Hs1),hlx1,(by rw[iu_ hx1];first|(rw[if_pos (decide_eq_true (by assumption)),List.map_append,at_];exact hS1)|(rw[if_neg (by rw[decide_eq_false (by assumption)];decide),List.append_nil];exact hS1))⟩ (by dsimp only;omega) zl zp zh
theorem dx_ {f:Fc} {l:List Fc} {i:Nat} {x:Fc} (h:l[i]? = some x):fw_ f (List.take (i+1) l)=fw_ f (List.take i l)++(if (!cu_ f x&&decide (cM_ f x≠f∧cM_ f x≠x))=true then [cM_ f x] else []):=by
  unfold fw_
  rw[iu_ h,List.map_append]
  congr 1
  split<;>simp
theorem eG_ {α:Type} {p:α→Bool} {l:List α} {i:Nat} {x:α} (h:l[i]? = some x):List.any (List.take (i+1) l) p=(List.any (List.take i l) p||p x):=by
  rw[List.take_add_one,h,Option.toList_some,List.any_append];simp
theorem meet_c (B:EngB) (E:Emt Tryz.prog 24) (A:EngA) (pm:List (Ky×Pc)) (x:Ix) (f:Fc) (nw fm:List Fc) (Hs:Hp) (hS:E.St nw fm Hs) (hpl:∀ k,(lat pm k).length≤1000000000) (hxl:∀ k,(lat x.above k).length≤1000000000∧(lat x.under k).length≤1000000000) (hyl:∀ k,(lat x.frm k).length≤1000000000∧(lat x.into k).length≤1000000000∧(lat x.ranges k).length≤1000000000∧(lat x.firms k).length≤1000000000):Tri Tryz.prog 99 #[zp_ B.g 0,Fc.val f] Hs [gF B E,pF B pm A,aF B x A,uF B x A,oF B x A,iF B x A,rF B x A,sF B x A,E.ef] (fun _:{H':Hp // E.St (emits E.stp (fw_ f (eb_ x f (decide (f∈fm)))++gs_ f (eb_ x f (decide (f∈fm)))) nw) fm H'}=>.tuple #[]) (fun y=>y.1) (fun _=>[]):=by
 refine u_ Tryz.func99 rfl rfl Tryz.ntmps99 rfl fun v0=>?_
 refine Zz 2 ?_
 refine aA_ rfl rfl fun b1=>Zz 8 ?_
 refine i_ (F_ eQ_ rfl rfl) rfl (L_ ck_ rfl fun b2=>A_ 0 cZ_ rfl rfl rfl rfl rfl rfl (Zz 4 ?_))
 refine q_ 0 [0,1,2,3,4,5,6] zk zs (Zz 5 ?_)
 refine T_ rfl (aN_ (k:=(f.a,f.r)) (adr:=A.s) cC_ pO_ lM_ rfl rfl zf) rfl (Zz 7 ?_)
 refine q_ 0 [0,1,2,3,4,5] zk zs (Zz 5 ?_)
 refine cL_ rfl (lO_ (f:=f) hS eO_ aH_ eB_ rfl rfl (c_ K_)) rfl fun r1 hr1=>Zz 3 ?_
 cases r1
 ·replace hr1:=zdf hr1
  refine Zz 17 ?_
  refine X_ (ι:={y:Nat×Hp×Bool // y.1≤List.length (lat x.firms (f.a,f.r))∧E.St (emits E.stp (fw_ f (List.take y.1 (lat x.firms (f.a,f.r)))) nw) fm y.2.1∧y.2.2=List.any (List.take y.1 (lat x.firms (f.a,f.r))) (cu_ f)}) (fun y=>[(0,zp_ B.g 0),(3,zp_ b1 0),(6,.bool y.1.2.2),(35,.slice (Prod.fst (A.s (f.a,f.r))) (List.length (lat x.firms (f.a,f.r))) (Prod.snd (A.s (f.a,f.r)))),(36,.int .i64 (List.length (lat x.firms (f.a,f.r)):Int)),(37,.int .i64 (y.1.1:Int))]) (fun y=>((b1,.cells #[.int .i64 f.kind,str f.a,str f.b,str f.r,.int .i64 f.lo,.int .i64 f.hi] 24 (0,0))::y.1.2.1)) (fun y=>[gF B E,pF B pm A,aF B x A,uF B x A,oF B x A,iF B x A,rF B x A,sF B x A,E.ef]) (fun y=>List.length (lat x.firms (f.a,f.r)) - y.1.1) ⟨((0:Nat),Hs,false),by simp,by exact hS,by simp⟩ zl (f_ (c_ d_) K_) zh ?_
  rintro ⟨⟨i,Hs_i,e⟩,hi_i,hS_i,he⟩
  dsimp only at hi_i hS_i he ⊢
  have hb_i:=(hyl (f.a,f.r)).2.2.2
  refine Zi 2 (fun hr2=>?_) fun hr2=>?_
  ·refine Zz 11 ?_
   cases e
   ·refine Zz 3 ?_
    exact bM_ Tryz.results99 ⟨Hs_i,by have hL:(eb_ x f (decide (f∈fm)))=(lat x.firms (f.a,f.r)):=(by unfold eb_;rw[decide_eq_false (by assumption)]<;>rfl);rw[hL,at_];have e9:List.take i (lat x.firms (f.a,f.r))=(lat x.firms (f.a,f.r)):=List.take_of_length_le (by omega);rw[e9]at he hS_i;unfold gs_;rw[if_neg (by rw[← he];decide)];exact hS_i⟩ rfl K_ zt
   refine cH_ rfl ?_
   refine af_ ((b1,.cells #[.int .i64 f.kind,str f.a,str f.b,str f.r,.int .i64 f.lo,.int .i64 f.hi] 24 (0,0))::[]) zk ?_
   refine q_ 2 [0,1,2,3,4,5] zk zs (Zz 7 ?_)
   refine l_ 6 rfl zk (n_ (fh_ f.a [33]) rfl m_ zt rfl fun _=>Zz 3 ?_)
   refine l_ 7 rfl zk (ao_ (first:=[]) (cap:=E.caps) (E.emit (y_ f.a [33]) (emits E.stp (fw_ f (List.take i (lat x.firms (f.a,f.r)))) nw) fm Hs_i hS_i) rfl rfl K_ zf rfl fun⟨Hs1,hS1⟩=>?_)
   dsimp only
   refine Zz 5 ?_
   exact bM_ Tryz.results99 ⟨Hs1,by have hL:(eb_ x f (decide (f∈fm)))=(lat x.firms (f.a,f.r)):=(by unfold eb_;rw[decide_eq_false (by assumption)]<;>rfl);rw[hL,at_];have e9:List.take i (lat x.firms (f.a,f.r))=(lat x.firms (f.a,f.r)):=List.take_of_length_le (by omega);rw[e9]at he hS1;unfold gs_;rw[if_pos he.symm];exact hS1⟩ rfl j_ zt
  obtain⟨hlx1,x1,hx1,hmx1⟩:=zge (show i<List.length (lat x.firms (f.a,f.r)) by omega)
  refine Zz 10 ?_
  refine i_ (aa_ ah_ z_ rfl rfl (fun v _ h=>H_ (n:=6) Fc.cells_len (by decide) (by exact (ap_ h.2.2.2.2.2.2.2.1 (f.a,f.r))) hx1) (by omega) (by first|omega|(simp;done))) rfl ?_
  refine i_ (bk_ (ad:=(Prod.fst (A.s (f.a,f.r)))) (us:=Fc.cells x1) ba_ z_ rfl (fun v _ h=>by exact (ap_ h.2.2.2.2.2.2.2.1 (f.a,f.r))) (Fc.cells_len _) (x_ Fc.cells_len hx1)) rfl (L_ Z_ rfl fun b3=>A_ 0 z_ rfl rfl rfl rfl rfl rfl (Zz 4 ?_))
  refine q_ 0 [0,1,2,3,4,5,6,7,8,9,10,11] zk zs (Zz 4 ?_)
  refine T_ rfl (de_ rfl rfl) rfl (Zz 4 ?_)
  refine T_ rfl (cY_ rfl rfl) rfl (Zi 9 (fun hr3=>?_) fun hr3=>?_)
  ·refine Zz 11 ?_
   refine n_ (ju_ f.a f.r (max f.lo x1.lo) (min f.hi x1.hi)) rfl m_ zt rfl fun _=>L_ Z_ rfl fun b4=>A_ 0 z_ rfl rfl rfl rfl rfl rfl (Zz 6 ?_)
   refine aT_ (dB_ (p:=(M_ f.a f.r (max f.lo x1.lo) (min f.hi x1.hi))) (q:=f) rfl rfl) rfl fun r4 hr4=>Zz 1 ?_
   cases r4
   ·replace hr4:=zdf hr4
    refine Zz 14 ?_
    exact C_ ⟨(i+1,Hs_i,e),hlx1,(by rw[dx_ hx1];first|(rw[if_pos (by rw[Bool.and_eq_true];exact⟨by simp only[cu_];rw[decide_eq_false (by omega)];rfl,decide_eq_true ⟨by assumption,by assumption⟩⟩),at_];exact hS_i)|(rw[if_neg (by rw[Bool.and_eq_true];intro q;first|exact absurd (of_decide_eq_true q.2).1 (by assumption)|exact absurd (of_decide_eq_true q.2).2 (by assumption)|(have q1:=q.1;simp only[cu_]at q1;rw[decide_eq_true (by omega)]at q1;cases q1)),List.append_nil];exact hS_i)),by rw[eG_ hx1,← he];simp only[cu_];rw[decide_eq_false (by omega)];simp⟩ (by dsimp only;omega) zl (f_ (c_ (c_ d_)) (c_ K_)) zh
   replace hr4:=zdt hr4
   refine Zz 5 ?_
   refine aT_ (dB_ (p:=(M_ f.a f.r (max f.lo x1.lo) (min f.hi x1.hi))) (q:=x1) rfl rfl) rfl fun r5 hr5=>Zz 3 ?_
   cases r5
   ·replace hr5:=zdf hr5
    refine Zz 8 ?_
    exact C_ ⟨(i+1,Hs_i,e),hlx1,(by rw[dx_ hx1];first|(rw[if_pos (by rw[Bool.and_eq_true];exact⟨by simp only[cu_];rw[decide_eq_false (by omega)];rfl,decide_eq_true ⟨by assumption,by assumption⟩⟩),at_];exact hS_i)|(rw[if_neg (by rw[Bool.and_eq_true];intro q;first|exact absurd (of_decide_eq_true q.2).1 (by assumption)|exact absurd (of_decide_eq_true q.2).2 (by assumption)|(have q1:=q.1;simp only[cu_]at q1;rw[decide_eq_true (by omega)]at q1;cases q1)),List.append_nil];exact hS_i)),by rw[eG_ hx1,← he];simp only[cu_];rw[decide_eq_false (by omega)];simp⟩ (by dsimp only;omega) zl (f_ (c_ (c_ d_)) (c_ K_)) zh
   replace hr5:=zdt hr5
   refine cH_ rfl ?_
   refine af_ ((b4,.cells #[.int .i64 (Fc.kind (M_ f.a f.r (max f.lo x1.lo) (min f.hi x1.hi))),str (Fc.a (M_ f.a f.r (max f.lo x1.lo) (min f.hi x1.hi))),str (Fc.b (M_ f.a f.r (max f.lo x1.lo) (min f.hi x1.hi))),str (Fc.r (M_ f.a f.r (max f.lo x1.lo) (min f.hi x1.hi))),.int .i64 (Fc.lo (M_ f.a f.r (max f.lo x1.lo) (min f.hi x1.hi))),.int .i64 (Fc.hi (M_ f.a f.r (max f.lo x1.lo) (min f.hi x1.hi)))] 24 (0,0))::((b3,.cells #[.int .i64 x1.kind,str x1.a,str x1.b,str x1.r,.int .i64 x1.lo,.int .i64 x1.hi] 24 (0,0))::((b1,.cells #[.int .i64 f.kind,str f.a,str f.b,str f.r,.int .i64 f.lo,.int .i64 f.hi] 24 (0,0))::[]))) zk ?_
   refine q_ 1 [0,1,2,3,4] zk zs (Zz 6 ?_)
   refine l_ 5 rfl zk (ao_ (first:=[]) (cap:=E.caps) (E.emit (M_ f.a f.r (max f.lo x1.lo) (min f.hi x1.hi)) (emits E.stp (fw_ f (List.take i (lat x.firms (f.a,f.r)))) nw) fm Hs_i hS_i) rfl rfl (c_ (c_ K_)) zf rfl fun⟨Hs2,hS2⟩=>?_)
   dsimp only
   refine Zz 10 ?_
   exact C_ ⟨(i+1,Hs2,e),hlx1,(by rw[dx_ hx1];first|(rw[if_pos (by rw[Bool.and_eq_true];exact⟨by simp only[cu_];rw[decide_eq_false (by omega)];rfl,decide_eq_true ⟨by assumption,by assumption⟩⟩),at_];exact hS2)|(rw[if_neg (by rw[Bool.and_eq_true];intro q;first|exact absurd (of_decide_eq_true q.2).1 (by assumption)|exact absurd (of_decide_eq_true q.2).2 (by assumption)|(have q1:=q.1;simp only[cu_]at q1;rw[decide_eq_true (by omega)]at q1;cases q1)),List.append_nil];exact hS2)),by rw[eG_ hx1,← he];simp only[cu_];rw[decide_eq_false (by omega)];simp⟩ (by dsimp only;omega) zl zp zh
  refine Zz 12 ?_
  exact C_ ⟨(i+1,Hs_i,true),hlx1,(by rw[dx_ hx1];first|(rw[if_pos (by rw[Bool.and_eq_true];exact⟨by simp only[cu_];rw[decide_eq_false (by omega)];rfl,decide_eq_true ⟨by assumption,by assumption⟩⟩),at_];exact hS_i)|(rw[if_neg (by rw[Bool.and_eq_true];intro q;first|exact absurd (of_decide_eq_true q.2).1 (by assumption)|exact absurd (of_decide_eq_true q.2).2 (by assumption)|(have q1:=q.1;simp only[cu_]at q1;rw[decide_eq_true (by omega)]at q1;cases q1)),List.append_nil];exact hS_i)),by rw[eG_ hx1,← he];simp only[cu_];rw[decide_eq_true (by omega)];simp⟩ (by dsimp only;omega) zl (f_ (c_ d_) K_) zh
 replace hr1:=zdt hr1
 refine Zz 2 ?_
 refine q_ 0 [0,1,2,3,4,5,6] zk zs (Zz 5 ?_)
 refine T_ rfl (aN_ (k:=(f.a,f.r)) (adr:=A.r) cC_ pO_ lM_ rfl rfl zf) rfl (Zz 18 ?_)
 refine X_ (ι:={y:Nat×Hp×Bool // y.1≤List.length (lat x.ranges (f.a,f.r))∧E.St (emits E.stp (fw_ f (List.take y.1 (lat x.ranges (f.a,f.r)))) nw) fm y.2.1∧y.2.2=List.any (List.take y.1 (lat x.ranges (f.a,f.r))) (cu_ f)}) (fun y=>[(0,zp_ B.g 0),(3,zp_ b1 0),(6,.bool y.1.2.2),(35,.slice (Prod.fst (A.r (f.a,f.r))) (List.length (lat x.ranges (f.a,f.r))) (Prod.snd (A.r (f.a,f.r)))),(36,.int .i64 (List.length (lat x.ranges (f.a,f.r)):Int)),(37,.int .i64 (y.1.1:Int))]) (fun y=>((b1,.cells #[.int .i64 f.kind,str f.a,str f.b,str f.r,.int .i64 f.lo,.int .i64 f.hi] 24 (0,0))::y.1.2.1)) (fun y=>[gF B E,pF B pm A,aF B x A,uF B x A,oF B x A,iF B x A,rF B x A,sF B x A,E.ef]) (fun y=>List.length (lat x.ranges (f.a,f.r)) - y.1.1) ⟨((0:Nat),Hs,false),by simp,by exact hS,by simp⟩ zl (f_ (c_ d_) K_) zh ?_
 rintro ⟨⟨i,Hs_i,e⟩,hi_i,hS_i,he⟩
 dsimp only at hi_i hS_i he ⊢
 have hb_i:=(hyl (f.a,f.r)).2.2.1
 refine Zi 2 (fun hr6=>?_) fun hr6=>?_
 ·refine Zz 11 ?_
  cases e
  ·refine Zz 3 ?_
   exact bM_ Tryz.results99 ⟨Hs_i,by have hL:(eb_ x f (decide (f∈fm)))=(lat x.ranges (f.a,f.r)):=(by unfold eb_;rw[decide_eq_true (by assumption)]<;>rfl);rw[hL,at_];have e9:List.take i (lat x.ranges (f.a,f.r))=(lat x.ranges (f.a,f.r)):=List.take_of_length_le (by omega);rw[e9]at he hS_i;unfold gs_;rw[if_neg (by rw[← he];decide)];exact hS_i⟩ rfl K_ zt
  refine cH_ rfl ?_
  refine af_ ((b1,.cells #[.int .i64 f.kind,str f.a,str f.b,str f.r,.int .i64 f.lo,.int .i64 f.hi] 24 (0,0))::[]) zk ?_
  refine q_ 2 [0,1,2,3,4,5] zk zs (Zz 7 ?_)
  refine l_ 6 rfl zk (n_ (fh_ f.a [33]) rfl m_ zt rfl fun _=>Zz 3 ?_)
  refine l_ 7 rfl zk (ao_ (first:=[]) (cap:=E.caps) (E.emit (y_ f.a [33]) (emits E.stp (fw_ f (List.take i (lat x.ranges (f.a,f.r)))) nw) fm Hs_i hS_i) rfl rfl K_ zf rfl fun⟨Hs3,hS3⟩=>?_)
  dsimp only
  refine Zz 5 ?_
  exact bM_ Tryz.results99 ⟨Hs3,by have hL:(eb_ x f (decide (f∈fm)))=(lat x.ranges (f.a,f.r)):=(by unfold eb_;rw[decide_eq_true (by assumption)]<;>rfl);rw[hL,at_];have e9:List.take i (lat x.ranges (f.a,f.r))=(lat x.ranges (f.a,f.r)):=List.take_of_length_le (by omega);rw[e9]at he hS3;unfold gs_;rw[if_pos he.symm];exact hS3⟩ rfl j_ zt
 obtain⟨hlx1,x1,hx1,hmx1⟩:=zge (show i<List.length (lat x.ranges (f.a,f.r)) by omega)
 refine Zz 10 ?_
 refine i_ (aa_ ah_ z_ rfl rfl (fun v _ h=>H_ (n:=6) Fc.cells_len (by decide) (by exact (ap_ h.2.2.2.2.2.2.1 (f.a,f.r))) hx1) (by omega) (by first|omega|(simp;done))) rfl ?_
 refine i_ (bk_ (ad:=(Prod.fst (A.r (f.a,f.r)))) (us:=Fc.cells x1) ba_ z_ rfl (fun v _ h=>by exact (ap_ h.2.2.2.2.2.2.1 (f.a,f.r))) (Fc.cells_len _) (x_ Fc.cells_len hx1)) rfl (L_ Z_ rfl fun b5=>A_ 0 z_ rfl rfl rfl rfl rfl rfl (Zz 4 ?_))
 refine q_ 0 [0,1,2,3,4,5,6,7,8,9,10,11] zk zs (Zz 4 ?_)
 refine T_ rfl (de_ rfl rfl) rfl (Zz 4 ?_)
 refine T_ rfl (cY_ rfl rfl) rfl (Zi 9 (fun hr7=>?_) fun hr7=>?_)
 ·refine Zz 11 ?_
  refine n_ (ju_ f.a f.r (max f.lo x1.lo) (min f.hi x1.hi)) rfl m_ zt rfl fun _=>L_ Z_ rfl fun b6=>A_ 0 z_ rfl rfl rfl rfl rfl rfl (Zz 6 ?_)
  refine aT_ (dB_ (p:=(M_ f.a f.r (max f.lo x1.lo) (min f.hi x1.hi))) (q:=f) rfl rfl) rfl fun r8 hr8=>Zz 1 ?_
  cases r8
  ·replace hr8:=zdf hr8
   refine Zz 14 ?_
   exact C_ ⟨(i+1,Hs_i,e),hlx1,(by rw[dx_ hx1];first|(rw[if_pos (by rw[Bool.and_eq_true];exact⟨by simp only[cu_];rw[decide_eq_false (by omega)];rfl,decide_eq_true ⟨by assumption,by assumption⟩⟩),at_];exact hS_i)|(rw[if_neg (by rw[Bool.and_eq_true];intro q;first|exact absurd (of_decide_eq_true q.2).1 (by assumption)|exact absurd (of_decide_eq_true q.2).2 (by assumption)|(have q1:=q.1;simp only[cu_]at q1;rw[decide_eq_true (by omega)]at q1;cases q1)),List.append_nil];exact hS_i)),by rw[eG_ hx1,← he];simp only[cu_];rw[decide_eq_false (by omega)];simp⟩ (by dsimp only;omega) zl (f_ (c_ (c_ d_)) (c_ K_)) zh
  replace hr8:=zdt hr8
  refine Zz 5 ?_
  refine aT_ (dB_ (p:=(M_ f.a f.r (max f.lo x1.lo) (min f.hi x1.hi))) (q:=x1) rfl rfl) rfl fun r9 hr9=>Zz 3 ?_
  cases r9
  ·replace hr9:=zdf hr9
   refine Zz 8 ?_
   exact C_ ⟨(i+1,Hs_i,e),hlx1,(by rw[dx_ hx1];first|(rw[if_pos (by rw[Bool.and_eq_true];exact⟨by simp only[cu_];rw[decide_eq_false (by omega)];rfl,decide_eq_true ⟨by assumption,by assumption⟩⟩),at_];exact hS_i)|(rw[if_neg (by rw[Bool.and_eq_true];intro q;first|exact absurd (of_decide_eq_true q.2).1 (by assumption)|exact absurd (of_decide_eq_true q.2).2 (by assumption)|(have q1:=q.1;simp only[cu_]at q1;rw[decide_eq_true (by omega)]at q1;cases q1)),List.append_nil];exact hS_i)),by rw[eG_ hx1,← he];simp only[cu_];rw[decide_eq_false (by omega)];simp⟩ (by dsimp only;omega) zl (f_ (c_ (c_ d_)) (c_ K_)) zh
  replace hr9:=zdt hr9
  refine cH_ rfl ?_
  refine af_ ((b6,.cells #[.int .i64 (Fc.kind (M_ f.a f.r (max f.lo x1.lo) (min f.hi x1.hi))),str (Fc.a (M_ f.a f.r (max f.lo x1.lo) (min f.hi x1.hi))),str (Fc.b (M_ f.a f.r (max f.lo x1.lo) (min f.hi x1.hi))),str (Fc.r (M_ f.a f.r (max f.lo x1.lo) (min f.hi x1.hi))),.int .i64 (Fc.lo (M_ f.a f.r (max f.lo x1.lo) (min f.hi x1.hi))),.int .i64 (Fc.hi (M_ f.a f.r (max f.lo x1.lo) (min f.hi x1.hi)))] 24 (0,0))::((b5,.cells #[.int .i64 x1.kind,str x1.a,str x1.b,str x1.r,.int .i64 x1.lo,.int .i64 x1.hi] 24 (0,0))::((b1,.cells #[.int .i64 f.kind,str f.a,str f.b,str f.r,.int .i64 f.lo,.int .i64 f.hi] 24 (0,0))::[]))) zk ?_
  refine q_ 1 [0,1,2,3,4] zk zs (Zz 6 ?_)
  refine l_ 5 rfl zk (ao_ (first:=[]) (cap:=E.caps) (E.emit (M_ f.a f.r (max f.lo x1.lo) (min f.hi x1.hi)) (emits E.stp (fw_ f (List.take i (lat x.ranges (f.a,f.r)))) nw) fm Hs_i hS_i) rfl rfl (c_ (c_ K_)) zf rfl fun⟨Hs4,hS4⟩=>?_)
  dsimp only
  refine Zz 10 ?_
  exact C_ ⟨(i+1,Hs4,e),hlx1,(by rw[dx_ hx1];first|(rw[if_pos (by rw[Bool.and_eq_true];exact⟨by simp only[cu_];rw[decide_eq_false (by omega)];rfl,decide_eq_true ⟨by assumption,by assumption⟩⟩),at_];exact hS4)|(rw[if_neg (by rw[Bool.and_eq_true];intro q;first|exact absurd (of_decide_eq_true q.2).1 (by assumption)|exact absurd (of_decide_eq_true q.2).2 (by assumption)|(have q1:=q.1;simp only[cu_]at q1;rw[decide_eq_true (by omega)]at q1;cases q1)),List.append_nil];exact hS4)),by rw[eG_ hx1,← he];simp only[cu_];rw[decide_eq_false (by omega)];simp⟩ (by dsimp only;omega) zl zp zh
 refine Zz 12 ?_
 exact C_ ⟨(i+1,Hs_i,true),hlx1,(by rw[dx_ hx1];first|(rw[if_pos (by rw[Bool.and_eq_true];exact⟨by simp only[cu_];rw[decide_eq_false (by omega)];rfl,decide_eq_true ⟨by assumption,by assumption⟩⟩),at_];exact hS_i)|(rw[if_neg (by rw[Bool.and_eq_true];intro q;first|exact absurd (of_decide_eq_true q.2).1 (by assumption)|exact absurd (of_decide_eq_true q.2).2 (by assumption)|(have q1:=q.1;simp only[cu_]at q1;rw[decide_eq_true (by omega)]at q1;cases q1)),List.append_nil];exact hS_i)),by rw[eG_ hx1,← he];simp only[cu_];rw[decide_eq_true (by omega)];simp⟩ (by dsimp only;omega) zl (f_ (c_ d_) K_) zh
theorem su_ (B:EngB) (E:Emt Tryz.prog 24) (nw fm:List Fc) (Hs:Hp) (hS:E.St nw fm Hs) (al:List Str) (aad:Option Addr) (acap:Nat) (hal:al.length≤1000000000) (hll:B.lps.length≤1000000000):Tri Tryz.prog 43 #[zp_ B.g 0,.slice aad (List.length al) acap] Hs [gF B E,aq_ B.lad (List.flatMap aS_ B.lps),aq_ aad (List.flatMap aS_ al),E.ef] (fun _:{H':Hp // E.St (emits E.stp (ey_ B.lps al) nw) fm H'}=>.tuple #[]) (fun y=>y.1) (fun _=>[]):=by
 refine u_ Tryz.func43 rfl rfl Tryz.ntmps43 rfl fun v0=>?_
 refine Zz 8 ?_
 refine X_ (ι:={y:Nat×Hp // y.1≤List.length al∧E.St (emits E.stp (List.flatMap (fun a=>y_ a a::y_ a [42]::List.map (fun r=>E_ a r a) B.lps) (List.take y.1 al)) nw) fm y.2}) (fun y=>[(0,zp_ B.g 0),(8,.slice aad (List.length al) acap),(9,.int .i64 (List.length al:Int)),(10,.int .i64 (y.1.1:Int))]) (fun y=>(y.1.2)) (fun y=>[gF B E,aq_ B.lad (List.flatMap aS_ B.lps),aq_ aad (List.flatMap aS_ al),E.ef]) (fun y=>List.length al - y.1.1) ⟨((0:Nat),Hs),by simp,by exact hS⟩ zl bc_ zh ?_
 rintro ⟨⟨i,Hs_i⟩,hi_i,hS_i⟩
 dsimp only at hi_i hS_i ⊢
 have hb_i:=hal
 refine Zi 2 (fun hr1=>?_) fun hr1=>?_
 ·refine Zz 6 ?_
  exact bM_ Tryz.results43 ⟨Hs_i,by unfold ey_;rw[List.take_of_length_le (by omega)]at hS_i;exact hS_i⟩ rfl bc_ zt
 obtain⟨hlx1,x1,hx1,hmx1⟩:=zge (show i<List.length al by omega)
 refine Zz 16 ?_
 refine af_ ([]) zk ?_
 refine q_ 2 [0,1,2,3,4,5] zk zs (Zz 7 ?_)
 refine l_ 6 rfl zk (n_ (fh_ x1 x1) rfl m_ zt rfl fun _=>w_ nM_ (Zz 3 ?_))
 refine l_ 7 rfl zk (ao_ (first:=[]) (cap:=E.caps) (E.emit (y_ x1 x1) (emits E.stp (List.flatMap (fun a=>y_ a a::y_ a [42]::List.map (fun r=>E_ a r a) B.lps) (List.take i al)) nw) fm Hs_i hS_i) rfl rfl bc_ zf rfl fun⟨Hs1,hS1⟩=>?_)
 dsimp only
 refine w_ eR_ (Zz 6 ?_)
 refine af_ ([]) zk ?_
 refine q_ 2 [0,1,2,3,4] zk zs (Zz 6 ?_)
 refine l_ 5 rfl zk (n_ (fh_ x1 [42]) rfl m_ zt rfl fun _=>w_ nM_ (Zz 3 ?_))
 refine l_ 6 rfl zk (ao_ (first:=[]) (cap:=E.caps) (E.emit (y_ x1 [42]) (E.stp (y_ x1 x1) (emits E.stp (List.flatMap (fun a=>y_ a a::y_ a [42]::List.map (fun r=>E_ a r a) B.lps) (List.take i al)) nw)) fm Hs1 hS1) rfl rfl bc_ zf rfl fun⟨Hs2,hS2⟩=>?_)
 dsimp only
 refine w_ eR_ (Zz 16 ?_)
 refine X_ (ι:={y:Nat×Hp // y.1≤List.length B.lps∧E.St (emits E.stp (List.map (fun r=>E_ x1 r x1) (List.take y.1 B.lps)) (E.stp (y_ x1 [42]) (E.stp (y_ x1 x1) (emits E.stp (List.flatMap (fun a=>y_ a a::y_ a [42]::List.map (fun r=>E_ a r a) B.lps) (List.take i al)) nw)))) fm y.2}) (fun y=>[(0,zp_ B.g 0),(8,.slice aad (List.length al) acap),(9,.int .i64 (List.length al:Int)),(10,.int .i64 (i:Int)),(5,str x1),(32,.slice B.lad (List.length B.lps) B.lcap),(33,.int .i64 (List.length B.lps:Int)),(34,.int .i64 (y.1.1:Int))]) (fun y=>(y.1.2)) (fun y=>[gF B E,aq_ B.lad (List.flatMap aS_ B.lps),aq_ aad (List.flatMap aS_ al),E.ef]) (fun y=>List.length B.lps - y.1.1) ⟨((0:Nat),Hs2),by simp,by exact hS2⟩ zl bc_ zh ?_
 rintro ⟨⟨j,Hs_j⟩,hi_j,hS_j⟩
 dsimp only at hi_j hS_j ⊢
 have hb_j:=hll
 refine Zi 2 (fun hr2=>?_) fun hr2=>?_
 ·refine Zz 11 ?_
  exact C_ ⟨(i+1,Hs_j),hlx1,(by rw[fW_ hx1,at_];have e9:List.take j B.lps=B.lps:=List.take_of_length_le (by omega);rw[e9]at hS_j;exact hS_j)⟩ (by dsimp only;omega) zl bc_ zh
 have hlx2:j<List.length B.lps:=by omega
 obtain⟨x2,hx2⟩:∃ e0,B.lps[j]? = some e0:=⟨_,List.getElem?_eq_getElem hlx2⟩
 have hmx2:x2∈B.lps:=List.mem_of_getElem? hx2
 refine Zz 15 ?_
 refine af_ ([]) zk ?_
 refine q_ 2 [0,1,2,3,4,5,6] zk zs (Zz 8 ?_)
 refine l_ 7 rfl zk (n_ (jP_ x1 x2 x1) rfl m_ zt rfl fun _=>w_ nM_ (Zz 3 ?_))
 refine l_ 8 rfl zk (ao_ (first:=[]) (cap:=E.caps) (E.emit (E_ x1 x2 x1) (emits E.stp (List.map (fun r=>E_ x1 r x1) (List.take j B.lps)) (E.stp (y_ x1 [42]) (E.stp (y_ x1 x1) (emits E.stp (List.flatMap (fun a=>y_ a a::y_ a [42]::List.map (fun r=>E_ a r a) B.lps) (List.take i al)) nw)))) fm Hs_j hS_j) rfl rfl bc_ zf rfl fun⟨Hs3,hS3⟩=>?_)
 dsimp only
 refine w_ eR_ (Zz 10 ?_)
 exact C_ ⟨(j+1,Hs3),hlx2,(by rw[dh_ hx2,at_];exact hS3)⟩ (by dsimp only;omega) zl bc_ zh
end Go.Proofs.YtkeanlfhghlgiaaGreatDoor
