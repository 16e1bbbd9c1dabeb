/-
  Part of the proof of the law ProofFindSpec over this seat: the small logic, the data, the contracts of functions (no condition).
-/
import Derived.Test.YtkeanlfhghlgiaaGreatDoorQProofFindSpec7
import Derived.Test.YtkeanlfhghlgiaaGreatDoorQProofFindSpec5
import Derived.Test.YtkeanlfhghlgiaaGreatDoorQProofFindSpec3
set_option linter.unusedVariables false
set_option linter.unusedSimpArgs false
set_option linter.unusedSectionVars false
set_option maxHeartbeats 1000000
namespace Go.Proofs.YtkeanlfhghlgiaaGreatDoor
open Go Go.Sx Go.Proofs
attribute [local irreducible] Code.wp wpList wpAnyH
open Go.Vs
theorem dS_ {α β:Type} {g:α→β} {l:List α} {i:Nat} {x:α} (h:l[i]? = some x):List.map g (List.take (i+1) l)=List.map g (List.take i l)++[g x]:=by
  rw[List.take_add_one,h,Option.toList_some,List.map_append];rfl
theorem fY_ (a b:Str):Fn0 Tryz.prog 49 #[str a,str b] (Fc.val (D_ a b)):=by
  refine x_ Tryz.func49 rfl rfl Tryz.ntmps49 rfl fun v0=>?_
  refine Zz 2 ?_
  refine J_ F_ rfl fun b1=>Zz 6 ?_
  refine i_ (L_ dJ_ rfl rfl) rfl (w_ 0 q_ rfl rfl rfl rfl rfl rfl (Zz 3 ?_))
  exact er_ () (fun aa v h1 h2=>cQ_ (us:=Fc.cells (D_ a b)) 0 Tryz.results49 bc_ q_ rfl rfl rfl aa v h1 h2) j_ zt
theorem lf_ (a r b:Str):Fn0 Tryz.prog 88 #[str a,str r,str b] (Fc.val (I_ a r b)):=by
  refine x_ Tryz.func88 rfl rfl Tryz.ntmps88 rfl fun v0=>?_
  refine Zz 2 ?_
  refine J_ F_ rfl fun b1=>Zz 7 ?_
  refine i_ (L_ dJ_ rfl rfl) rfl (w_ 0 q_ rfl rfl rfl rfl rfl rfl (Zz 3 ?_))
  exact er_ () (fun aa v h1 h2=>cQ_ (us:=Fc.cells (I_ a r b)) 0 Tryz.results88 bc_ q_ rfl rfl rfl aa v h1 h2) j_ zt
theorem kH_ (a r:Str) (lo hi:Int):Fn0 Tryz.prog 50 #[str a,str r,.int .i64 lo,.int .i64 hi] (Fc.val (R_ a r lo hi)):=by
  refine x_ Tryz.func50 rfl rfl Tryz.ntmps50 rfl fun v0=>?_
  refine Zz 2 ?_
  refine J_ F_ rfl fun b1=>Zz 8 ?_
  refine i_ (L_ dJ_ rfl rfl) rfl (w_ 0 q_ rfl rfl rfl rfl rfl rfl (Zz 3 ?_))
  exact er_ () (fun aa v h1 h2=>cQ_ (us:=Fc.cells (R_ a r lo hi)) 0 Tryz.results50 bc_ q_ rfl rfl rfl aa v h1 h2) j_ zt
theorem qM_ (B:EngB) (E:Emt Tryz.prog 24) (A:EngA) (pm:List (Ky×Pc)) (x:Ix) (f:Fc) (nw fm:List Fc) (Hs:Hp) (hS:E.St nw fm Hs) (hpl:∀ k,(lat pm k).length≤1000000000) (hxl:∀ k,(lat x.above k).length≤1000000000∧(lat x.under k).length≤1000000000) (hyl:∀ k,(lat x.frm k).length≤1000000000∧(lat x.into k).length≤1000000000∧(lat x.ranges k).length≤1000000000∧(lat x.firms k).length≤1000000000):Tri Tryz.prog 89 #[zp_ B.g 0,Fc.val f] Hs [gF B E,pF B pm A,aF B x A,uF B x A,oF B x A,iF B x A,rF B x A,sF B x A,E.ef] (fun _:{H':Hp // E.St (emits E.stp (gS_ pm f) nw) fm H'}=>.tuple #[]) (fun y=>y.1) (fun _=>[]):=by
 refine x_ Tryz.func89 rfl rfl Tryz.ntmps89 rfl fun v0=>?_
 refine Zz 2 ?_
 refine ay_ rfl rfl fun b1=>Zz 4 ?_
 refine p_ 0 [0,1,2,3,4,5,6,7,8,9] zk zs (Zz 6 ?_)
 refine aa_ rfl (L_ eR_ rfl rfl) rfl (aa_ rfl (bb_ (k:=(Ky.mk 1 [] f.b)) (adr:=A.p) hu_ ch_ cW_ rfl rfl zf) rfl (Zz 6 ?_))
 refine U_ (ι:={y:Nat×Hp // y.1≤List.length (lat pm (Ky.mk 1 [] f.b))∧E.St (emits E.stp (List.map (fun y=>D_ f.a y.c) (List.take y.1 (lat pm (Ky.mk 1 [] f.b)))) nw) fm y.2}) (fun y=>[(0,zp_ B.g 0),(3,zp_ b1 0),(13,.slice (Prod.fst (A.p (Ky.mk 1 [] f.b))) (List.length (lat pm (Ky.mk 1 [] f.b))) (Prod.snd (A.p (Ky.mk 1 [] f.b)))),(14,.int .i64 (List.length (lat pm (Ky.mk 1 [] f.b)):Int)),(15,.int .i64 (y.1.1:Int))]) (fun y=>((b1,.cells #[.int .i64 f.kind,str f.a,str f.b,str f.r,.int .i64 f.lo,.int .i64 f.hi] 24 (0,0))::y.1.2)) (fun y=>[gF B E,pF B pm A,aF B x A,uF B x A,oF B x A,iF B x A,rF B x A,sF B x A,E.ef]) (fun y=>List.length (lat pm (Ky.mk 1 [] f.b)) - y.1.1) ⟨((0:Nat),Hs),by simp,by exact hS⟩ zl zp zh ?_
 rintro ⟨⟨i,Hs_i⟩,hi_i,hS_i⟩
 dsimp only at hi_i hS_i ⊢
 have hb_i:=hpl (Ky.mk 1 [] f.b)
 refine Zi 2 (fun hr1=>?_) fun hr1=>?_
 ·refine Zz 6 ?_
  exact cd_ Tryz.results89 ⟨Hs_i,by unfold gS_;rw[List.take_of_length_le (by omega)]at hS_i;exact hS_i⟩ rfl B_ zt
 obtain⟨hlx1,x1,hx1,hmx1⟩:=zge (show i<List.length (lat pm (Ky.mk 1 [] f.b)) by omega)
 refine Zz 10 ?_
 refine i_ (ag_ aj_ W_ rfl rfl (fun v _ h=>Q_ (n:=10) Pc.cells_len (by decide) (by exact (aA_ h.2.1 (Ky.mk 1 [] f.b))) hx1) (by omega) (by first|omega|(simp;done))) rfl ?_
 refine i_ (bB_ (ad:=(Prod.fst (A.p (Ky.mk 1 [] f.b)))) (us:=Pc.cells x1) ey_ W_ rfl (fun v _ h=>by exact (aA_ h.2.1 (Ky.mk 1 [] f.b))) (Pc.cells_len _) (H_ Pc.cells_len hx1)) rfl (J_ aH_ rfl fun b2=>w_ 0 W_ rfl rfl rfl rfl rfl rfl (Zz 2 ?_))
 refine ab_ ((b2,.cells #[.int .i64 x1.kind,str x1.a,str x1.b,str x1.c,str x1.r,str x1.s,str x1.t,.int .i64 x1.lo,.int .i64 x1.hi,.int .i64 x1.frm] 52 (0,0))::((b1,.cells #[.int .i64 f.kind,str f.a,str f.b,str f.r,.int .i64 f.lo,.int .i64 f.hi] 24 (0,0))::[])) zk ?_
 refine p_ 2 [0,1,2,3,4,5,6,7] zk zs (Zz 9 ?_)
 refine m_ 8 rfl zk (o_ (fY_ f.a x1.c) rfl j_ zt rfl fun _=>Zz 3 ?_)
 refine m_ 9 rfl zk (az_ (first:=[]) (cap:=E.caps) (E.emit (D_ f.a x1.c) (emits E.stp (List.map (fun y=>D_ f.a y.c) (List.take i (lat pm (Ky.mk 1 [] f.b)))) nw) fm Hs_i hS_i) rfl rfl (c_ B_) zf rfl fun⟨Hs1,hS1⟩=>?_)
 dsimp only
 refine Zz 10 ?_
 exact u_ ⟨(i+1,Hs1),hlx1,(by rw[dS_ hx1,aE_];exact hS1)⟩ (by dsimp only;omega) zl zp zh
theorem some_c (B:EngB) (E:Emt Tryz.prog 24) (A:EngA) (pm:List (Ky×Pc)) (x:Ix) (f:Fc) (nw fm:List Fc) (Hs:Hp) (hS:E.St nw fm Hs) (hpl:∀ k,(lat pm k).length≤1000000000) (hxl:∀ k,(lat x.above k).length≤1000000000∧(lat x.under k).length≤1000000000) (hyl:∀ k,(lat x.frm k).length≤1000000000∧(lat x.into k).length≤1000000000∧(lat x.ranges k).length≤1000000000∧(lat x.firms k).length≤1000000000):Tri Tryz.prog 91 #[zp_ B.g 0,Fc.val f] Hs [gF B E,pF B pm A,aF B x A,uF B x A,oF B x A,iF B x A,rF B x A,sF B x A,E.ef] (fun _:{H':Hp // E.St (emits E.stp (lZ_ pm f) nw) fm H'}=>.tuple #[]) (fun y=>y.1) (fun _=>[]):=by
 refine x_ Tryz.func91 rfl rfl Tryz.ntmps91 rfl fun v0=>?_
 refine Zz 2 ?_
 refine ay_ rfl rfl fun b1=>Zz 4 ?_
 refine p_ 0 [0,1,2,3,4,5,6,7,8,9] zk zs (Zz 6 ?_)
 refine aa_ rfl (L_ eR_ rfl rfl) rfl (aa_ rfl (bb_ (k:=(Ky.mk 3 [] f.b)) (adr:=A.p) hu_ ch_ cW_ rfl rfl zf) rfl (Zz 6 ?_))
 refine U_ (ι:={y:Nat×Hp // y.1≤List.length (lat pm (Ky.mk 3 [] f.b))∧E.St (emits E.stp (List.map (fun y=>I_ f.a y.r y.c) (List.take y.1 (lat pm (Ky.mk 3 [] f.b)))) nw) fm y.2}) (fun y=>[(0,zp_ B.g 0),(3,zp_ b1 0),(13,.slice (Prod.fst (A.p (Ky.mk 3 [] f.b))) (List.length (lat pm (Ky.mk 3 [] f.b))) (Prod.snd (A.p (Ky.mk 3 [] f.b)))),(14,.int .i64 (List.length (lat pm (Ky.mk 3 [] f.b)):Int)),(15,.int .i64 (y.1.1:Int))]) (fun y=>((b1,.cells #[.int .i64 f.kind,str f.a,str f.b,str f.r,.int .i64 f.lo,.int .i64 f.hi] 24 (0,0))::y.1.2)) (fun y=>[gF B E,pF B pm A,aF B x A,uF B x A,oF B x A,iF B x A,rF B x A,sF B x A,E.ef]) (fun y=>List.length (lat pm (Ky.mk 3 [] f.b)) - y.1.1) ⟨((0:Nat),Hs),by simp,by exact hS⟩ zl zp zh ?_
 rintro ⟨⟨i,Hs_i⟩,hi_i,hS_i⟩
 dsimp only at hi_i hS_i ⊢
 have hb_i:=hpl (Ky.mk 3 [] f.b)
 refine Zi 2 (fun hr1=>?_) fun hr1=>?_
 ·refine Zz 6 ?_
  exact cd_ Tryz.results91 ⟨Hs_i,by unfold lZ_;rw[List.take_of_length_le (by omega)]at hS_i;exact hS_i⟩ rfl B_ zt
 obtain⟨hlx1,x1,hx1,hmx1⟩:=zge (show i<List.length (lat pm (Ky.mk 3 [] f.b)) by omega)
 refine Zz 10 ?_
 refine i_ (ag_ aj_ W_ rfl rfl (fun v _ h=>Q_ (n:=10) Pc.cells_len (by decide) (by exact (aA_ h.2.1 (Ky.mk 3 [] f.b))) hx1) (by omega) (by first|omega|(simp;done))) rfl ?_
 refine i_ (bB_ (ad:=(Prod.fst (A.p (Ky.mk 3 [] f.b)))) (us:=Pc.cells x1) ey_ W_ rfl (fun v _ h=>by exact (aA_ h.2.1 (Ky.mk 3 [] f.b))) (Pc.cells_len _) (H_ Pc.cells_len hx1)) rfl (J_ aH_ rfl fun b2=>w_ 0 W_ rfl rfl rfl rfl rfl rfl (Zz 2 ?_))
 refine ab_ ((b2,.cells #[.int .i64 x1.kind,str x1.a,str x1.b,str x1.c,str x1.r,str x1.s,str x1.t,.int .i64 x1.lo,.int .i64 x1.hi,.int .i64 x1.frm] 52 (0,0))::((b1,.cells #[.int .i64 f.kind,str f.a,str f.b,str f.r,.int .i64 f.lo,.int .i64 f.hi] 24 (0,0))::[])) zk ?_
 refine p_ 2 [0,1,2,3,4,5,6,7,8,9] zk zs (Zz 11 ?_)
 refine m_ 10 rfl zk (o_ (lf_ f.a x1.r x1.c) rfl j_ zt rfl fun _=>Zz 3 ?_)
 refine m_ 11 rfl zk (az_ (first:=[]) (cap:=E.caps) (E.emit (I_ f.a x1.r x1.c) (emits E.stp (List.map (fun y=>I_ f.a y.r y.c) (List.take i (lat pm (Ky.mk 3 [] f.b)))) nw) fm Hs_i hS_i) rfl rfl (c_ B_) zf rfl fun⟨Hs1,hS1⟩=>?_)
 dsimp only
 refine Zz 10 ?_
 exact u_ ⟨(i+1,Hs1),hlx1,(by rw[dS_ hx1,aE_];exact hS1)⟩ (by dsimp only;omega) zl zp zh
theorem qF_ (B:EngB) (E:Emt Tryz.prog 24) (A:EngA) (pm:List (Ky×Pc)) (x:Ix) (f:Fc) (nw fm:List Fc) (Hs:Hp) (hS:E.St nw fm Hs) (hpl:∀ k,(lat pm k).length≤1000000000) (hxl:∀ k,(lat x.above k).length≤1000000000∧(lat x.under k).length≤1000000000) (hyl:∀ k,(lat x.frm k).length≤1000000000∧(lat x.into k).length≤1000000000∧(lat x.ranges k).length≤1000000000∧(lat x.firms k).length≤1000000000):Tri Tryz.prog 95 #[zp_ B.g 0,Fc.val f] Hs [gF B E,pF B pm A,aF B x A,uF B x A,oF B x A,iF B x A,rF B x A,sF B x A,E.ef] (fun _:{H':Hp // E.St (emits E.stp (gM_ pm f) nw) fm H'}=>.tuple #[]) (fun y=>y.1) (fun _=>[]):=by
 refine x_ Tryz.func95 rfl rfl Tryz.ntmps95 rfl fun v0=>?_
 refine Zz 2 ?_
 refine ay_ rfl rfl fun b1=>Zz 4 ?_
 refine p_ 0 [0,1,2,3,4,5,6,7,8,9] zk zs (Zz 6 ?_)
 refine aa_ rfl (L_ eR_ rfl rfl) rfl (aa_ rfl (bb_ (k:=(Ky.mk 5 f.r [])) (adr:=A.p) hu_ ch_ cW_ rfl rfl zf) rfl (Zz 6 ?_))
 refine U_ (ι:={y:Nat×Hp // y.1≤List.length (lat pm (Ky.mk 5 f.r []))∧E.St (emits E.stp (List.map (fun y=>I_ f.a y.t f.b) (List.take y.1 (lat pm (Ky.mk 5 f.r [])))) nw) fm y.2}) (fun y=>[(0,zp_ B.g 0),(3,zp_ b1 0),(13,.slice (Prod.fst (A.p (Ky.mk 5 f.r []))) (List.length (lat pm (Ky.mk 5 f.r []))) (Prod.snd (A.p (Ky.mk 5 f.r [])))),(14,.int .i64 (List.length (lat pm (Ky.mk 5 f.r [])):Int)),(15,.int .i64 (y.1.1:Int))]) (fun y=>((b1,.cells #[.int .i64 f.kind,str f.a,str f.b,str f.r,.int .i64 f.lo,.int .i64 f.hi] 24 (0,0))::y.1.2)) (fun y=>[gF B E,pF B pm A,aF B x A,uF B x A,oF B x A,iF B x A,rF B x A,sF B x A,E.ef]) (fun y=>List.length (lat pm (Ky.mk 5 f.r [])) - y.1.1) ⟨((0:Nat),Hs),by simp,by exact hS⟩ zl zp zh ?_
 rintro ⟨⟨i,Hs_i⟩,hi_i,hS_i⟩
 dsimp only at hi_i hS_i ⊢
 have hb_i:=hpl (Ky.mk 5 f.r [])
 refine Zi 2 (fun hr1=>?_) fun hr1=>?_
 ·refine Zz 6 ?_
  exact cd_ Tryz.results95 ⟨Hs_i,by unfold gM_;rw[List.take_of_length_le (by omega)]at hS_i;exact hS_i⟩ rfl B_ zt
 obtain⟨hlx1,x1,hx1,hmx1⟩:=zge (show i<List.length (lat pm (Ky.mk 5 f.r [])) by omega)
 refine Zz 10 ?_
 refine i_ (ag_ aj_ W_ rfl rfl (fun v _ h=>Q_ (n:=10) Pc.cells_len (by decide) (by exact (aA_ h.2.1 (Ky.mk 5 f.r []))) hx1) (by omega) (by first|omega|(simp;done))) rfl ?_
 refine i_ (bB_ (ad:=(Prod.fst (A.p (Ky.mk 5 f.r [])))) (us:=Pc.cells x1) ey_ W_ rfl (fun v _ h=>by exact (aA_ h.2.1 (Ky.mk 5 f.r []))) (Pc.cells_len _) (H_ Pc.cells_len hx1)) rfl (J_ aH_ rfl fun b2=>w_ 0 W_ rfl rfl rfl rfl rfl rfl (Zz 2 ?_))
 refine ab_ ((b2,.cells #[.int .i64 x1.kind,str x1.a,str x1.b,str x1.c,str x1.r,str x1.s,str x1.t,.int .i64 x1.lo,.int .i64 x1.hi,.int .i64 x1.frm] 52 (0,0))::((b1,.cells #[.int .i64 f.kind,str f.a,str f.b,str f.r,.int .i64 f.lo,.int .i64 f.hi] 24 (0,0))::[])) zk ?_
 refine p_ 2 [0,1,2,3,4,5,6,7,8,9] zk zs (Zz 11 ?_)
 refine m_ 10 rfl zk (o_ (lf_ f.a x1.t f.b) rfl j_ zt rfl fun _=>Zz 3 ?_)
 refine m_ 11 rfl zk (az_ (first:=[]) (cap:=E.caps) (E.emit (I_ f.a x1.t f.b) (emits E.stp (List.map (fun y=>I_ f.a y.t f.b) (List.take i (lat pm (Ky.mk 5 f.r [])))) nw) fm Hs_i hS_i) rfl rfl (c_ B_) zf rfl fun⟨Hs1,hS1⟩=>?_)
 dsimp only
 refine Zz 10 ?_
 exact u_ ⟨(i+1,Hs1),hlx1,(by rw[dS_ hx1,aE_];exact hS1)⟩ (by dsimp only;omega) zl zp zh
theorem gQ_ {α β:Type} {g:α→List β} {l:List α} {i:Nat} {x:α} (h:l[i]? = some x):List.flatMap g (List.take (i+1) l)=List.flatMap g (List.take i l)++g x:=by
  rw[List.take_add_one,h,Option.toList_some,List.flatMap_append];simp
theorem jD_ {stp:Fc→List Fc→List Fc} {kof:List Fc→List Fc} {f:Fc} {l:List Pc} {i:Nat} {x:Pc} {s:List Fc} (h:l[i]? = some x):eA_ stp kof f (List.take (i+1) l) s=if D_ f.a x.a∈kof (eA_ stp kof f (List.take i l) s)∧D_ f.a x.b∈kof (eA_ stp kof f (List.take i l) s) then stp (D_ f.a x.c) (eA_ stp kof f (List.take i l) s) else eA_ stp kof f (List.take i l) s:=by
  unfold eA_
  rw[List.take_add_one,h,Option.toList_some,List.foldl_append];rfl
theorem ky_ {stp:Fc→List Fc→List Fc} {kof:List Fc→List Fc} {f:Fc} {l:List Pc} {i:Nat} {x:Pc} {s:List Fc×List Fc} (h:l[i]? = some x):cy_ stp kof f (List.take (i+1) l) s=(stp (R_ f.a x.r x.lo x.hi) (cy_ stp kof f (List.take i l) s).1,if R_ f.a x.r x.lo x.hi∈kof (cy_ stp kof f (List.take i l) s).1 then (cy_ stp kof f (List.take i l) s).2 else R_ f.a x.r x.lo x.hi::(cy_ stp kof f (List.take i l) s).2):=by
  unfold cy_
  rw[List.take_add_one,h,Option.toList_some,List.foldl_append];rfl
theorem both_c (B:EngB) (E:Emt Tryz.prog 24) (A:EngA) (pm:List (Ky×Pc)) (x:Ix) (f:Fc) (nw fm:List Fc) (Hs:Hp) (hS:E.St nw fm Hs) (hpl:∀ k,(lat pm k).length≤1000000000) (hxl:∀ k,(lat x.above k).length≤1000000000∧(lat x.under k).length≤1000000000) (hyl:∀ k,(lat x.frm k).length≤1000000000∧(lat x.into k).length≤1000000000∧(lat x.ranges k).length≤1000000000∧(lat x.firms k).length≤1000000000):Tri Tryz.prog 90 #[zp_ B.g 0,Fc.val f] Hs [gF B E,pF B pm A,aF B x A,uF B x A,oF B x A,iF B x A,rF B x A,sF B x A,E.ef] (fun _:{H':Hp // E.St (eA_ E.stp E.kof f (lat pm (Ky.mk 2 [] f.b)) nw) fm H'}=>.tuple #[]) (fun y=>y.1) (fun _=>[]):=by
 refine x_ Tryz.func90 rfl rfl Tryz.ntmps90 rfl fun v0=>?_
 refine Zz 2 ?_
 refine ay_ rfl rfl fun b1=>Zz 4 ?_
 refine p_ 0 [0,1,2,3,4,5,6,7,8,9] zk zs (Zz 6 ?_)
 refine aa_ rfl (L_ eR_ rfl rfl) rfl (aa_ rfl (bb_ (k:=(Ky.mk 2 [] f.b)) (adr:=A.p) hu_ ch_ cW_ rfl rfl zf) rfl (Zz 6 ?_))
 refine U_ (ι:={y:Nat×Hp // y.1≤List.length (lat pm (Ky.mk 2 [] f.b))∧E.St (eA_ E.stp E.kof f (List.take y.1 (lat pm (Ky.mk 2 [] f.b))) nw) fm y.2}) (fun y=>[(0,zp_ B.g 0),(3,zp_ b1 0),(13,.slice (Prod.fst (A.p (Ky.mk 2 [] f.b))) (List.length (lat pm (Ky.mk 2 [] f.b))) (Prod.snd (A.p (Ky.mk 2 [] f.b)))),(14,.int .i64 (List.length (lat pm (Ky.mk 2 [] f.b)):Int)),(15,.int .i64 (y.1.1:Int))]) (fun y=>((b1,.cells #[.int .i64 f.kind,str f.a,str f.b,str f.r,.int .i64 f.lo,.int .i64 f.hi] 24 (0,0))::y.1.2)) (fun y=>[gF B E,pF B pm A,aF B x A,uF B x A,oF B x A,iF B x A,rF B x A,sF B x A,E.ef]) (fun y=>List.length (lat pm (Ky.mk 2 [] f.b)) - y.1.1) ⟨((0:Nat),Hs),by simp,by exact hS⟩ zl zp zh ?_
 rintro ⟨⟨i,Hs_i⟩,hi_i,hS_i⟩
 dsimp only at hi_i hS_i ⊢
 have hb_i:=hpl (Ky.mk 2 [] f.b)
 refine Zi 2 (fun hr1=>?_) fun hr1=>?_
 ·refine Zz 6 ?_
  exact cd_ Tryz.results90 ⟨Hs_i,by rw[List.take_of_length_le (by omega)]at hS_i;exact hS_i⟩ rfl B_ zt
 obtain⟨hlx1,x1,hx1,hmx1⟩:=zge (show i<List.length (lat pm (Ky.mk 2 [] f.b)) by omega)
 refine Zz 10 ?_
 refine i_ (ag_ aj_ W_ rfl rfl (fun v _ h=>Q_ (n:=10) Pc.cells_len (by decide) (by exact (aA_ h.2.1 (Ky.mk 2 [] f.b))) hx1) (by omega) (by first|omega|(simp;done))) rfl ?_
 refine i_ (bB_ (ad:=(Prod.fst (A.p (Ky.mk 2 [] f.b)))) (us:=Pc.cells x1) ey_ W_ rfl (fun v _ h=>by exact (aA_ h.2.1 (Ky.mk 2 [] f.b))) (Pc.cells_len _) (H_ Pc.cells_len hx1)) rfl (J_ aH_ rfl fun b2=>w_ 0 W_ rfl rfl rfl rfl rfl rfl (Zz 4 ?_))
 refine p_ 14 [0,1,2,3,4,5,6,7] zk zs (Zz 9 ?_)
 refine m_ 8 rfl zk (o_ (fY_ f.a x1.a) rfl j_ zt rfl fun _=>Zz 3 ?_)
 refine p_ 11 [9,10] zk zs (cP_ rfl (hW_ (f:=(D_ f.a x1.a)) hS_i fH_ aW_ fq_ rfl rfl (c_ B_)) rfl fun r2 hr2=>Zz 2 ?_)
 cases r2
 ·replace hr2:=zdf hr2
  refine p_ 0 [11,12,13,14,15,16,17,18,19,20,21] zk zs (Zz 22 ?_)
  exact u_ ⟨(i+1,Hs_i),hlx1,(by rw[jD_ hx1];first|(rw[if_pos ⟨by assumption,by assumption⟩];exact hS_i)|(rw[if_neg (fun q=>absurd q.1 (by assumption))];exact hS_i)|(rw[if_neg (fun q=>absurd q.2 (by assumption))];exact hS_i))⟩ (by dsimp only;omega) zl (f_ (c_ d_) B_) zh
 replace hr2:=zdt hr2
 refine p_ 3 [11,12,13,14,15,16,17,18] zk zs (Zz 9 ?_)
 refine m_ 19 rfl zk (aw_ rfl rfl (o_ (fY_ f.a x1.b) rfl j_ zt rfl fun _=>Zz 3 ?_))
 refine p_ 0 [20,21] zk zs (bz_ rfl rfl rfl (hW_ (f:=(D_ f.a x1.b)) hS_i fH_ aW_ fq_ rfl rfl (c_ B_)) rfl fun r3 hr3=>Zz 4 ?_)
 cases r3
 ·replace hr3:=zdf hr3
  refine Zz 8 ?_
  exact u_ ⟨(i+1,Hs_i),hlx1,(by rw[jD_ hx1];first|(rw[if_pos ⟨by assumption,by assumption⟩];exact hS_i)|(rw[if_neg (fun q=>absurd q.1 (by assumption))];exact hS_i)|(rw[if_neg (fun q=>absurd q.2 (by assumption))];exact hS_i))⟩ (by dsimp only;omega) zl (f_ (c_ d_) B_) zh
 replace hr3:=zdt hr3
 refine dl_ rfl ?_
 refine ab_ ((b2,.cells #[.int .i64 x1.kind,str x1.a,str x1.b,str x1.c,str x1.r,str x1.s,str x1.t,.int .i64 x1.lo,.int .i64 x1.hi,.int .i64 x1.frm] 52 (0,0))::((b1,.cells #[.int .i64 f.kind,str f.a,str f.b,str f.r,.int .i64 f.lo,.int .i64 f.hi] 24 (0,0))::[])) zk ?_
 refine p_ 2 [0,1,2,3,4,5,6,7] zk zs (Zz 9 ?_)
 refine m_ 8 rfl zk (o_ (fY_ f.a x1.c) rfl j_ zt rfl fun _=>Zz 3 ?_)
 refine m_ 9 rfl zk (az_ (first:=[]) (cap:=E.caps) (E.emit (D_ f.a x1.c) (eA_ E.stp E.kof f (List.take i (lat pm (Ky.mk 2 [] f.b))) nw) fm Hs_i hS_i) rfl rfl (c_ B_) zf rfl fun⟨Hs1,hS1⟩=>?_)
 dsimp only
 refine Zz 10 ?_
 exact u_ ⟨(i+1,Hs1),hlx1,(by rw[jD_ hx1];first|(rw[if_pos ⟨by assumption,by assumption⟩];exact hS1)|(rw[if_neg (fun q=>absurd q.1 (by assumption))];exact hS1)|(rw[if_neg (fun q=>absurd q.2 (by assumption))];exact hS1))⟩ (by dsimp only;omega) zl zp zh
theorem tq_ (B:EngB) (E:Emt Tryz.prog 24) (A:EngA) (pm:List (Ky×Pc)) (x:Ix) (f:Fc) (nw fm:List Fc) (Hs:Hp) (hS:E.St nw fm Hs) (hpl:∀ k,(lat pm k).length≤1000000000) (hxl:∀ k,(lat x.above k).length≤1000000000∧(lat x.under k).length≤1000000000) (hyl:∀ k,(lat x.frm k).length≤1000000000∧(lat x.into k).length≤1000000000∧(lat x.ranges k).length≤1000000000∧(lat x.firms k).length≤1000000000):Tri Tryz.prog 94 #[zp_ B.g 0,Fc.val f] Hs [gF B E,pF B pm A,aF B x A,uF B x A,oF B x A,iF B x A,rF B x A,sF B x A,E.ef] (fun _:{H':Hp // E.St (Prod.fst (cy_ E.stp E.kof f (lat pm (Ky.mk 8 [] f.b)) (nw,fm))) (Prod.snd (cy_ E.stp E.kof f (lat pm (Ky.mk 8 [] f.b)) (nw,fm))) H'}=>.tuple #[]) (fun y=>y.1) (fun _=>[]):=by
 refine x_ Tryz.func94 rfl rfl Tryz.ntmps94 rfl fun v0=>?_
 refine Zz 2 ?_
 refine ay_ rfl rfl fun b1=>Zz 4 ?_
 refine p_ 0 [0,1,2,3,4,5,6,7,8,9] zk zs (Zz 6 ?_)
 refine aa_ rfl (L_ eR_ rfl rfl) rfl (aa_ rfl (bb_ (k:=(Ky.mk 8 [] f.b)) (adr:=A.p) hu_ ch_ cW_ rfl rfl zf) rfl (Zz 6 ?_))
 refine U_ (ι:={y:Nat×Hp // y.1≤List.length (lat pm (Ky.mk 8 [] f.b))∧E.St (Prod.fst (cy_ E.stp E.kof f (List.take y.1 (lat pm (Ky.mk 8 [] f.b))) (nw,fm))) (Prod.snd (cy_ E.stp E.kof f (List.take y.1 (lat pm (Ky.mk 8 [] f.b))) (nw,fm))) y.2}) (fun y=>[(0,zp_ B.g 0),(3,zp_ b1 0),(14,.slice (Prod.fst (A.p (Ky.mk 8 [] f.b))) (List.length (lat pm (Ky.mk 8 [] f.b))) (Prod.snd (A.p (Ky.mk 8 [] f.b)))),(15,.int .i64 (List.length (lat pm (Ky.mk 8 [] f.b)):Int)),(16,.int .i64 (y.1.1:Int))]) (fun y=>((b1,.cells #[.int .i64 f.kind,str f.a,str f.b,str f.r,.int .i64 f.lo,.int .i64 f.hi] 24 (0,0))::y.1.2)) (fun y=>[gF B E,pF B pm A,aF B x A,uF B x A,oF B x A,iF B x A,rF B x A,sF B x A,E.ef]) (fun y=>List.length (lat pm (Ky.mk 8 [] f.b)) - y.1.1) ⟨((0:Nat),Hs),by simp,by exact hS⟩ zl zp zh ?_
 rintro ⟨⟨i,Hs_i⟩,hi_i,hS_i⟩
 dsimp only at hi_i hS_i ⊢
 have hb_i:=hpl (Ky.mk 8 [] f.b)
 refine Zi 2 (fun hr1=>?_) fun hr1=>?_
 ·refine Zz 6 ?_
  exact cd_ Tryz.results94 ⟨Hs_i,by rw[List.take_of_length_le (by omega)]at hS_i;exact hS_i⟩ rfl B_ zt
 obtain⟨hlx1,x1,hx1,hmx1⟩:=zge (show i<List.length (lat pm (Ky.mk 8 [] f.b)) by omega)
 refine Zz 10 ?_
 refine i_ (ag_ aj_ W_ rfl rfl (fun v _ h=>Q_ (n:=10) Pc.cells_len (by decide) (by exact (aA_ h.2.1 (Ky.mk 8 [] f.b))) hx1) (by omega) (by first|omega|(simp;done))) rfl ?_
 refine i_ (bB_ (ad:=(Prod.fst (A.p (Ky.mk 8 [] f.b)))) (us:=Pc.cells x1) ey_ W_ rfl (fun v _ h=>by exact (aA_ h.2.1 (Ky.mk 8 [] f.b))) (Pc.cells_len _) (H_ Pc.cells_len hx1)) rfl (J_ aH_ rfl fun b2=>w_ 0 W_ rfl rfl rfl rfl rfl rfl (Zz 12 ?_))
 refine o_ (kH_ f.a x1.r x1.lo x1.hi) rfl j_ zt rfl fun _=>J_ F_ rfl fun b3=>w_ 0 q_ rfl rfl rfl rfl rfl rfl (Zz 5 ?_)
 refine p_ 0 [0,1,2,3,4,5,6] zk zs (Zz 5 ?_)
 refine cP_ rfl (hW_ (f:=(R_ f.a x1.r x1.lo x1.hi)) hS_i fH_ aW_ fq_ rfl rfl (c_ (c_ B_))) rfl fun r2 hr2=>aa_ rfl (bC_ rfl) rfl (Zz 3 ?_)
 cases r2
 ·replace hr2:=zdf hr2
  refine dl_ rfl ?_
  refine ab_ ((b3,.cells #[.int .i64 (Fc.kind (R_ f.a x1.r x1.lo x1.hi)),str (Fc.a (R_ f.a x1.r x1.lo x1.hi)),str (Fc.b (R_ f.a x1.r x1.lo x1.hi)),str (Fc.r (R_ f.a x1.r x1.lo x1.hi)),.int .i64 (Fc.lo (R_ f.a x1.r x1.lo x1.hi)),.int .i64 (Fc.hi (R_ f.a x1.r x1.lo x1.hi))] 24 (0,0))::((b2,.cells #[.int .i64 x1.kind,str x1.a,str x1.b,str x1.c,str x1.r,str x1.s,str x1.t,.int .i64 x1.lo,.int .i64 x1.hi,.int .i64 x1.frm] 52 (0,0))::((b1,.cells #[.int .i64 f.kind,str f.a,str f.b,str f.r,.int .i64 f.lo,.int .i64 f.hi] 24 (0,0))::[]))) zk ?_
  refine p_ 1 [0,1,2,3,4] zk zs (Zz 6 ?_)
  refine m_ 5 rfl zk (sb_ (f:=(R_ f.a x1.r x1.lo x1.hi)) hS_i fH_ (.inr rfl) aW_ rfl rfl rfl (c_ (c_ B_)) fun Hs1 hS1=>Zz 5 ?_)
  refine ab_ ((b3,.cells #[.int .i64 (Fc.kind (R_ f.a x1.r x1.lo x1.hi)),str (Fc.a (R_ f.a x1.r x1.lo x1.hi)),str (Fc.b (R_ f.a x1.r x1.lo x1.hi)),str (Fc.r (R_ f.a x1.r x1.lo x1.hi)),.int .i64 (Fc.lo (R_ f.a x1.r x1.lo x1.hi)),.int .i64 (Fc.hi (R_ f.a x1.r x1.lo x1.hi))] 24 (0,0))::((b2,.cells #[.int .i64 x1.kind,str x1.a,str x1.b,str x1.c,str x1.r,str x1.s,str x1.t,.int .i64 x1.lo,.int .i64 x1.hi,.int .i64 x1.frm] 52 (0,0))::((b1,.cells #[.int .i64 f.kind,str f.a,str f.b,str f.r,.int .i64 f.lo,.int .i64 f.hi] 24 (0,0))::[]))) zk ?_
  refine p_ 1 [0,1,2,3,4] zk zs (Zz 6 ?_)
  refine m_ 5 rfl zk (az_ (first:=[]) (cap:=E.caps) (E.emit (R_ f.a x1.r x1.lo x1.hi) (Prod.fst (cy_ E.stp E.kof f (List.take i (lat pm (Ky.mk 8 [] f.b))) (nw,fm))) ((R_ f.a x1.r x1.lo x1.hi)::(Prod.snd (cy_ E.stp E.kof f (List.take i (lat pm (Ky.mk 8 [] f.b))) (nw,fm)))) Hs1 hS1) rfl rfl n_ zf rfl fun⟨Hs2,hS2⟩=>?_)
  dsimp only
  refine Zz 10 ?_
  exact u_ ⟨(i+1,Hs2),hlx1,(by rw[ky_ hx1];dsimp only;first|(rw[if_pos (by assumption)];exact hS2)|(rw[if_neg (by assumption)];exact hS2))⟩ (by dsimp only;omega) zl zp zh
 replace hr2:=zdt hr2
 refine Zz 3 ?_
 refine ab_ ((b3,.cells #[.int .i64 (Fc.kind (R_ f.a x1.r x1.lo x1.hi)),str (Fc.a (R_ f.a x1.r x1.lo x1.hi)),str (Fc.b (R_ f.a x1.r x1.lo x1.hi)),str (Fc.r (R_ f.a x1.r x1.lo x1.hi)),.int .i64 (Fc.lo (R_ f.a x1.r x1.lo x1.hi)),.int .i64 (Fc.hi (R_ f.a x1.r x1.lo x1.hi))] 24 (0,0))::((b2,.cells #[.int .i64 x1.kind,str x1.a,str x1.b,str x1.c,str x1.r,str x1.s,str x1.t,.int .i64 x1.lo,.int .i64 x1.hi,.int .i64 x1.frm] 52 (0,0))::((b1,.cells #[.int .i64 f.kind,str f.a,str f.b,str f.r,.int .i64 f.lo,.int .i64 f.hi] 24 (0,0))::[]))) zk ?_
 refine p_ 1 [0,1,2,3,4] zk zs (Zz 6 ?_)
 refine m_ 5 rfl zk (az_ (first:=[]) (cap:=E.caps) (E.emit (R_ f.a x1.r x1.lo x1.hi) (Prod.fst (cy_ E.stp E.kof f (List.take i (lat pm (Ky.mk 8 [] f.b))) (nw,fm))) (Prod.snd (cy_ E.stp E.kof f (List.take i (lat pm (Ky.mk 8 [] f.b))) (nw,fm))) Hs_i hS_i) rfl rfl (c_ (c_ B_)) zf rfl fun⟨Hs3,hS3⟩=>?_)
 dsimp only
 refine Zz 10 ?_
 exact u_ ⟨(i+1,Hs3),hlx1,(by rw[ky_ hx1];dsimp only;first|(rw[if_pos (by assumption)];exact hS3)|(rw[if_neg (by assumption)];exact hS3))⟩ (by dsimp only;omega) zl zp zh
theorem pi_ (B:EngB) (E:Emt Tryz.prog 24) (A:EngA) (pm:List (Ky×Pc)) (x:Ix) (f:Fc) (nw fm:List Fc) (Hs:Hp) (hS:E.St nw fm Hs) (hpl:∀ k,(lat pm k).length≤1000000000) (hxl:∀ k,(lat x.above k).length≤1000000000∧(lat x.under k).length≤1000000000) (hyl:∀ k,(lat x.frm k).length≤1000000000∧(lat x.into k).length≤1000000000∧(lat x.ranges k).length≤1000000000∧(lat x.firms k).length≤1000000000):Tri Tryz.prog 92 #[zp_ B.g 0,Fc.val f] Hs [gF B E,pF B pm A,aF B x A,uF B x A,oF B x A,iF B x A,rF B x A,sF B x A,E.ef] (fun _:{H':Hp // E.St (emits E.stp (fU_ pm x f) nw) fm H'}=>.tuple #[]) (fun y=>y.1) (fun _=>[]):=by
 refine x_ Tryz.func92 rfl rfl Tryz.ntmps92 rfl fun v0=>?_
 refine Zz 2 ?_
 refine ay_ rfl rfl fun b1=>Zz 4 ?_
 refine p_ 0 [0,1,2,3,4,5,6,7,8,9] zk zs (Zz 6 ?_)
 refine aa_ rfl (L_ eR_ rfl rfl) rfl (aa_ rfl (bb_ (k:=(Ky.mk 4 [] f.b)) (adr:=A.p) hu_ ch_ cW_ rfl rfl zf) rfl (Zz 6 ?_))
 refine U_ (ι:={y:Nat×Hp // y.1≤List.length (lat pm (Ky.mk 4 [] f.b))∧E.St (emits E.stp (List.flatMap (fun y=>List.map (fun a=>D_ a y.c) (lat x.into (Fc.a f,Pc.r y))) (List.take y.1 (lat pm (Ky.mk 4 [] f.b)))) nw) fm y.2}) (fun y=>[(0,zp_ B.g 0),(3,zp_ b1 0),(15,.slice (Prod.fst (A.p (Ky.mk 4 [] f.b))) (List.length (lat pm (Ky.mk 4 [] f.b))) (Prod.snd (A.p (Ky.mk 4 [] f.b)))),(16,.int .i64 (List.length (lat pm (Ky.mk 4 [] f.b)):Int)),(17,.int .i64 (y.1.1:Int))]) (fun y=>((b1,.cells #[.int .i64 f.kind,str f.a,str f.b,str f.r,.int .i64 f.lo,.int .i64 f.hi] 24 (0,0))::y.1.2)) (fun y=>[gF B E,pF B pm A,aF B x A,uF B x A,oF B x A,iF B x A,rF B x A,sF B x A,E.ef]) (fun y=>List.length (lat pm (Ky.mk 4 [] f.b)) - y.1.1) ⟨((0:Nat),Hs),by simp,by exact hS⟩ zl zp zh ?_
 rintro ⟨⟨i,Hs_i⟩,hi_i,hS_i⟩
 dsimp only at hi_i hS_i ⊢
 have hb_i:=hpl (Ky.mk 4 [] f.b)
 refine Zi 2 (fun hr1=>?_) fun hr1=>?_
 ·refine Zz 6 ?_
  exact cd_ Tryz.results92 ⟨Hs_i,by unfold fU_;rw[List.take_of_length_le (by omega)]at hS_i;exact hS_i⟩ rfl B_ zt
 obtain⟨hlx1,x1,hx1,hmx1⟩:=zge (show i<List.length (lat pm (Ky.mk 4 [] f.b)) by omega)
 refine Zz 10 ?_
 refine i_ (ag_ aj_ W_ rfl rfl (fun v _ h=>Q_ (n:=10) Pc.cells_len (by decide) (by exact (aA_ h.2.1 (Ky.mk 4 [] f.b))) hx1) (by omega) (by first|omega|(simp;done))) rfl ?_
 refine i_ (bB_ (ad:=(Prod.fst (A.p (Ky.mk 4 [] f.b)))) (us:=Pc.cells x1) ey_ W_ rfl (fun v _ h=>by exact (aA_ h.2.1 (Ky.mk 4 [] f.b))) (Pc.cells_len _) (H_ Pc.cells_len hx1)) rfl (J_ aH_ rfl fun b2=>w_ 0 W_ rfl rfl rfl rfl rfl rfl (Zz 4 ?_))
 refine p_ 0 [0,1,2,3,4,5,6,7,8,9,10,11] zk zs (Zz 8 ?_)
 refine aa_ rfl (L_ fJ_ rfl rfl) rfl (aa_ rfl (bb_ (k:=(f.a,x1.r)) (adr:=A.i) de_ cg_ bx_ rfl rfl zf) rfl (Zz 6 ?_))
 refine U_ (ι:={y:Nat×Hp // y.1≤List.length (lat x.into (f.a,x1.r))∧E.St (emits E.stp (List.map (fun a=>D_ a x1.c) (List.take y.1 (lat x.into (f.a,x1.r)))) (emits E.stp (List.flatMap (fun y=>List.map (fun a=>D_ a y.c) (lat x.into (Fc.a f,Pc.r y))) (List.take i (lat pm (Ky.mk 4 [] f.b)))) nw)) fm y.2}) (fun y=>[(0,zp_ B.g 0),(3,zp_ b1 0),(15,.slice (Prod.fst (A.p (Ky.mk 4 [] f.b))) (List.length (lat pm (Ky.mk 4 [] f.b))) (Prod.snd (A.p (Ky.mk 4 [] f.b)))),(16,.int .i64 (List.length (lat pm (Ky.mk 4 [] f.b)):Int)),(17,.int .i64 (i:Int)),(5,zp_ b2 0),(30,.slice (Prod.fst (A.i (f.a,x1.r))) (List.length (lat x.into (f.a,x1.r))) (Prod.snd (A.i (f.a,x1.r)))),(31,.int .i64 (List.length (lat x.into (f.a,x1.r)):Int)),(32,.int .i64 (y.1.1:Int))]) (fun y=>((b2,.cells #[.int .i64 x1.kind,str x1.a,str x1.b,str x1.c,str x1.r,str x1.s,str x1.t,.int .i64 x1.lo,.int .i64 x1.hi,.int .i64 x1.frm] 52 (0,0))::((b1,.cells #[.int .i64 f.kind,str f.a,str f.b,str f.r,.int .i64 f.lo,.int .i64 f.hi] 24 (0,0))::y.1.2))) (fun y=>[gF B E,pF B pm A,aF B x A,uF B x A,oF B x A,iF B x A,rF B x A,sF B x A,E.ef]) (fun y=>List.length (lat x.into (f.a,x1.r)) - y.1.1) ⟨((0:Nat),Hs_i),by simp,by exact hS_i⟩ zl zp zh ?_
 rintro ⟨⟨j,Hs_j⟩,hi_j,hS_j⟩
 dsimp only at hi_j hS_j ⊢
 have hb_j:=(hyl (f.a,x1.r)).2.1
 refine Zi 2 (fun hr2=>?_) fun hr2=>?_
 ·refine Zz 11 ?_
  exact u_ ⟨(i+1,Hs_j),hlx1,(by rw[gQ_ hx1,aE_];have e9:List.take j (lat x.into (Fc.a f,Pc.r x1))=(lat x.into (Fc.a f,Pc.r x1)):=List.take_of_length_le (by omega);rw[e9]at hS_j;exact hS_j)⟩ (by dsimp only;omega) zl (f_ (c_ d_) B_) zh
 obtain⟨hlx2,x2,hx2,hmx2⟩:=zge (show j<List.length (lat x.into (f.a,x1.r)) by omega)
 refine Zz 10 ?_
 refine i_ (ag_ G_ E_ rfl rfl (fun v _ h=>Q_ (n:=1) as_ (by decide) (by exact (aA_ h.2.2.2.2.2.1 (f.a,x1.r))) hx2) (by omega) (by first|omega|(simp;done))) rfl ?_
 refine i_ (aM_ (ad:=(Prod.fst (A.i (f.a,x1.r)))) V_ rfl (fun v _ h=>by exact (aA_ h.2.2.2.2.2.1 (f.a,x1.r))) (H_ as_ hx2 0 _ rfl)) rfl (Zz 3 ?_)
 refine ab_ ((b2,.cells #[.int .i64 x1.kind,str x1.a,str x1.b,str x1.c,str x1.r,str x1.s,str x1.t,.int .i64 x1.lo,.int .i64 x1.hi,.int .i64 x1.frm] 52 (0,0))::((b1,.cells #[.int .i64 f.kind,str f.a,str f.b,str f.r,.int .i64 f.lo,.int .i64 f.hi] 24 (0,0))::[])) zk ?_
 refine p_ 2 [0,1,2,3,4,5,6] zk zs (Zz 8 ?_)
 refine m_ 7 rfl zk (o_ (fY_ x2 x1.c) rfl j_ zt rfl fun _=>Zz 3 ?_)
 refine m_ 8 rfl zk (az_ (first:=[]) (cap:=E.caps) (E.emit (D_ x2 x1.c) (emits E.stp (List.map (fun a=>D_ a x1.c) (List.take j (lat x.into (f.a,x1.r)))) (emits E.stp (List.flatMap (fun y=>List.map (fun a=>D_ a y.c) (lat x.into (Fc.a f,Pc.r y))) (List.take i (lat pm (Ky.mk 4 [] f.b)))) nw)) fm Hs_j hS_j) rfl rfl zp zf rfl fun⟨Hs1,hS1⟩=>?_)
 dsimp only
 refine Zz 10 ?_
 exact u_ ⟨(j+1,Hs1),hlx2,(by rw[dS_ hx2,aE_];exact hS1)⟩ (by dsimp only;omega) zl zp zh
theorem ph_ (B:EngB) (E:Emt Tryz.prog 24) (A:EngA) (pm:List (Ky×Pc)) (x:Ix) (f:Fc) (nw fm:List Fc) (Hs:Hp) (hS:E.St nw fm Hs) (hpl:∀ k,(lat pm k).length≤1000000000) (hxl:∀ k,(lat x.above k).length≤1000000000∧(lat x.under k).length≤1000000000) (hyl:∀ k,(lat x.frm k).length≤1000000000∧(lat x.into k).length≤1000000000∧(lat x.ranges k).length≤1000000000∧(lat x.firms k).length≤1000000000):Tri Tryz.prog 97 #[zp_ B.g 0,Fc.val f] Hs [gF B E,pF B pm A,aF B x A,uF B x A,oF B x A,iF B x A,rF B x A,sF B x A,E.ef] (fun _:{H':Hp // E.St (emits E.stp (fT_ pm x f) nw) fm H'}=>.tuple #[]) (fun y=>y.1) (fun _=>[]):=by
 refine x_ Tryz.func97 rfl rfl Tryz.ntmps97 rfl fun v0=>?_
 refine Zz 2 ?_
 refine ay_ rfl rfl fun b1=>Zz 4 ?_
 refine p_ 0 [0,1,2,3,4,5,6,7,8] zk zs (Zz 6 ?_)
 refine aa_ rfl (bb_ (k:=f.b) (adr:=A.a) es_ cz_ bx_ rfl rfl zf) rfl (Zz 6 ?_)
 refine U_ (ι:={y:Nat×Hp // y.1≤List.length (lat x.above f.b)∧E.St (emits E.stp (List.flatMap (fun y=>List.map (fun a=>D_ f.a a.c) (lat pm (Ky.mk 4 f.r y))) (List.take y.1 (lat x.above f.b))) nw) fm y.2}) (fun y=>[(0,zp_ B.g 0),(3,zp_ b1 0),(14,.slice (Prod.fst (A.a f.b)) (List.length (lat x.above f.b)) (Prod.snd (A.a f.b))),(15,.int .i64 (List.length (lat x.above f.b):Int)),(16,.int .i64 (y.1.1:Int))]) (fun y=>((b1,.cells #[.int .i64 f.kind,str f.a,str f.b,str f.r,.int .i64 f.lo,.int .i64 f.hi] 24 (0,0))::y.1.2)) (fun y=>[gF B E,pF B pm A,aF B x A,uF B x A,oF B x A,iF B x A,rF B x A,sF B x A,E.ef]) (fun y=>List.length (lat x.above f.b) - y.1.1) ⟨((0:Nat),Hs),by simp,by exact hS⟩ zl zp zh ?_
 rintro ⟨⟨i,Hs_i⟩,hi_i,hS_i⟩
 dsimp only at hi_i hS_i ⊢
 have hb_i:=(hxl f.b).1
 refine Zi 2 (fun hr1=>?_) fun hr1=>?_
 ·refine Zz 6 ?_
  exact cd_ Tryz.results97 ⟨Hs_i,by unfold fT_;rw[List.take_of_length_le (by omega)]at hS_i;exact hS_i⟩ rfl B_ zt
 obtain⟨hlx1,x1,hx1,hmx1⟩:=zge (show i<List.length (lat x.above f.b) by omega)
 refine Zz 10 ?_
 refine i_ (ag_ G_ E_ rfl rfl (fun v _ h=>Q_ (n:=1) as_ (by decide) (by exact (aA_ h.2.2.1 f.b)) hx1) (by omega) (by first|omega|(simp;done))) rfl ?_
 refine i_ (aM_ (ad:=(Prod.fst (A.a f.b))) V_ rfl (fun v _ h=>by exact (aA_ h.2.2.1 f.b)) (H_ as_ hx1 0 _ rfl)) rfl (Zz 5 ?_)
 refine p_ 0 [0,1,2,3,4,5,6,7,8,9,10] zk zs (Zz 7 ?_)
 refine aa_ rfl (L_ eR_ rfl rfl) rfl (aa_ rfl (bb_ (k:=(Ky.mk 4 f.r x1)) (adr:=A.p) hu_ ch_ cW_ rfl rfl zf) rfl (Zz 6 ?_))
 refine U_ (ι:={y:Nat×Hp // y.1≤List.length (lat pm (Ky.mk 4 f.r x1))∧E.St (emits E.stp (List.map (fun a=>D_ f.a a.c) (List.take y.1 (lat pm (Ky.mk 4 f.r x1)))) (emits E.stp (List.flatMap (fun y=>List.map (fun a=>D_ f.a a.c) (lat pm (Ky.mk 4 f.r y))) (List.take i (lat x.above f.b))) nw)) fm y.2}) (fun y=>[(0,zp_ B.g 0),(3,zp_ b1 0),(14,.slice (Prod.fst (A.a f.b)) (List.length (lat x.above f.b)) (Prod.snd (A.a f.b))),(15,.int .i64 (List.length (lat x.above f.b):Int)),(16,.int .i64 (i:Int)),(28,.slice (Prod.fst (A.p (Ky.mk 4 f.r x1))) (List.length (lat pm (Ky.mk 4 f.r x1))) (Prod.snd (A.p (Ky.mk 4 f.r x1)))),(29,.int .i64 (List.length (lat pm (Ky.mk 4 f.r x1)):Int)),(30,.int .i64 (y.1.1:Int))]) (fun y=>((b1,.cells #[.int .i64 f.kind,str f.a,str f.b,str f.r,.int .i64 f.lo,.int .i64 f.hi] 24 (0,0))::y.1.2)) (fun y=>[gF B E,pF B pm A,aF B x A,uF B x A,oF B x A,iF B x A,rF B x A,sF B x A,E.ef]) (fun y=>List.length (lat pm (Ky.mk 4 f.r x1)) - y.1.1) ⟨((0:Nat),Hs_i),by simp,by exact hS_i⟩ zl zp zh ?_
 rintro ⟨⟨j,Hs_j⟩,hi_j,hS_j⟩
 dsimp only at hi_j hS_j ⊢
 have hb_j:=hpl (Ky.mk 4 f.r x1)
 refine Zi 2 (fun hr2=>?_) fun hr2=>?_
 ·refine Zz 11 ?_
  exact u_ ⟨(i+1,Hs_j),hlx1,(by rw[gQ_ hx1,aE_];have e9:List.take j (lat pm (Ky.mk 4 f.r x1))=(lat pm (Ky.mk 4 f.r x1)):=List.take_of_length_le (by omega);rw[e9]at hS_j;exact hS_j)⟩ (by dsimp only;omega) zl (f_ d_ aD_) zh
 obtain⟨hlx2,x2,hx2,hmx2⟩:=zge (show j<List.length (lat pm (Ky.mk 4 f.r x1)) by omega)
 refine Zz 10 ?_
 refine i_ (ag_ aj_ W_ rfl rfl (fun v _ h=>Q_ (n:=10) Pc.cells_len (by decide) (by exact (aA_ h.2.1 (Ky.mk 4 f.r x1))) hx2) (by omega) (by first|omega|(simp;done))) rfl ?_
 refine i_ (bB_ (ad:=(Prod.fst (A.p (Ky.mk 4 f.r x1)))) (us:=Pc.cells x2) ey_ W_ rfl (fun v _ h=>by exact (aA_ h.2.1 (Ky.mk 4 f.r x1))) (Pc.cells_len _) (H_ Pc.cells_len hx2)) rfl (J_ aH_ rfl fun b2=>w_ 0 W_ rfl rfl rfl rfl rfl rfl (Zz 2 ?_))
 refine ab_ ((b2,.cells #[.int .i64 x2.kind,str x2.a,str x2.b,str x2.c,str x2.r,str x2.s,str x2.t,.int .i64 x2.lo,.int .i64 x2.hi,.int .i64 x2.frm] 52 (0,0))::((b1,.cells #[.int .i64 f.kind,str f.a,str f.b,str f.r,.int .i64 f.lo,.int .i64 f.hi] 24 (0,0))::[])) zk ?_
 refine p_ 2 [0,1,2,3,4,5,6,7] zk zs (Zz 9 ?_)
 refine m_ 8 rfl zk (o_ (fY_ f.a x2.c) rfl j_ zt rfl fun _=>Zz 3 ?_)
 refine m_ 9 rfl zk (az_ (first:=[]) (cap:=E.caps) (E.emit (D_ f.a x2.c) (emits E.stp (List.map (fun a=>D_ f.a a.c) (List.take j (lat pm (Ky.mk 4 f.r x1)))) (emits E.stp (List.flatMap (fun y=>List.map (fun a=>D_ f.a a.c) (lat pm (Ky.mk 4 f.r y))) (List.take i (lat x.above f.b))) nw)) fm Hs_j hS_j) rfl rfl (c_ B_) zf rfl fun⟨Hs1,hS1⟩=>?_)
 dsimp only
 refine Zz 10 ?_
 exact u_ ⟨(j+1,Hs1),hlx2,(by rw[dS_ hx2,aE_];exact hS1)⟩ (by dsimp only;omega) zl zp zh
theorem ur_ (B:EngB) (E:Emt Tryz.prog 24) (A:EngA) (pm:List (Ky×Pc)) (x:Ix) (f:Fc) (nw fm:List Fc) (Hs:Hp) (hS:E.St nw fm Hs) (hpl:∀ k,(lat pm k).length≤1000000000) (hxl:∀ k,(lat x.above k).length≤1000000000∧(lat x.under k).length≤1000000000) (hyl:∀ k,(lat x.frm k).length≤1000000000∧(lat x.into k).length≤1000000000∧(lat x.ranges k).length≤1000000000∧(lat x.firms k).length≤1000000000):Tri Tryz.prog 96 #[zp_ B.g 0,Fc.val f] Hs [gF B E,pF B pm A,aF B x A,uF B x A,oF B x A,iF B x A,rF B x A,sF B x A,E.ef] (fun _:{H':Hp // E.St (emits E.stp (fN_ pm x f++hr_ pm x f) nw) fm H'}=>.tuple #[]) (fun y=>y.1) (fun _=>[]):=by
 refine x_ Tryz.func96 rfl rfl Tryz.ntmps96 rfl fun v0=>?_
 refine Zz 2 ?_
 refine ay_ rfl rfl fun b1=>Zz 5 ?_
 refine p_ 0 [0,1,2,3,4,5,6,7,8,9] zk zs (Zz 6 ?_)
 refine aa_ rfl (L_ eR_ rfl rfl) rfl (aa_ rfl (bb_ (k:=(Ky.mk 6 f.r [])) (adr:=A.p) hu_ ch_ cW_ rfl rfl zf) rfl (Zz 6 ?_))
 refine U_ (ι:={y:Nat×Hp // y.1≤List.length (lat pm (Ky.mk 6 f.r []))∧E.St (emits E.stp (List.flatMap (fun y=>List.map (fun a=>I_ f.a y.t a) (lat x.frm (Fc.b f,Pc.s y))) (List.take y.1 (lat pm (Ky.mk 6 f.r [])))) nw) fm y.2}) (fun y=>[(0,zp_ B.g 0),(3,zp_ b1 0),(19,.slice (Prod.fst (A.p (Ky.mk 6 f.r []))) (List.length (lat pm (Ky.mk 6 f.r []))) (Prod.snd (A.p (Ky.mk 6 f.r [])))),(20,.int .i64 (List.length (lat pm (Ky.mk 6 f.r [])):Int)),(21,.int .i64 (y.1.1:Int))]) (fun y=>((b1,.cells #[.int .i64 f.kind,str f.a,str f.b,str f.r,.int .i64 f.lo,.int .i64 f.hi] 24 (0,0))::y.1.2)) (fun y=>[gF B E,pF B pm A,aF B x A,uF B x A,oF B x A,iF B x A,rF B x A,sF B x A,E.ef]) (fun y=>List.length (lat pm (Ky.mk 6 f.r [])) - y.1.1) ⟨((0:Nat),Hs),by simp,by exact hS⟩ zl zp zh ?_
 rintro ⟨⟨i,Hs_i⟩,hi_i,hS_i⟩
 dsimp only at hi_i hS_i ⊢
 have hb_i:=hpl (Ky.mk 6 f.r [])
 refine Zi 2 (fun hr1=>?_) fun hr1=>?_
 ·refine Zz 8 ?_
  refine p_ 0 [0,1,2,3,4,5,6,7,8,9] zk zs (Zz 6 ?_)
  refine aa_ rfl (L_ eR_ rfl rfl) rfl (aa_ rfl (bb_ (k:=(Ky.mk 6 [] f.r)) (adr:=A.p) hu_ ch_ cW_ rfl rfl zf) rfl (Zz 6 ?_))
  refine U_ (ι:={y:Nat×Hp // y.1≤List.length (lat pm (Ky.mk 6 [] f.r))∧E.St (emits E.stp (List.flatMap (fun y=>List.map (fun a=>I_ a y.t f.b) (lat x.into (Fc.a f,Pc.r y))) (List.take y.1 (lat pm (Ky.mk 6 [] f.r)))) (emits E.stp (fN_ pm x f) nw)) fm y.2}) (fun y=>[(0,zp_ B.g 0),(3,zp_ b1 0),(19,.slice (Prod.fst (A.p (Ky.mk 6 f.r []))) (List.length (lat pm (Ky.mk 6 f.r []))) (Prod.snd (A.p (Ky.mk 6 f.r [])))),(20,.int .i64 (List.length (lat pm (Ky.mk 6 f.r [])):Int)),(21,.int .i64 (i:Int)),(60,.slice (Prod.fst (A.p (Ky.mk 6 [] f.r))) (List.length (lat pm (Ky.mk 6 [] f.r))) (Prod.snd (A.p (Ky.mk 6 [] f.r)))),(61,.int .i64 (List.length (lat pm (Ky.mk 6 [] f.r)):Int)),(62,.int .i64 (y.1.1:Int))]) (fun y=>((b1,.cells #[.int .i64 f.kind,str f.a,str f.b,str f.r,.int .i64 f.lo,.int .i64 f.hi] 24 (0,0))::y.1.2)) (fun y=>[gF B E,pF B pm A,aF B x A,uF B x A,oF B x A,iF B x A,rF B x A,sF B x A,E.ef]) (fun y=>List.length (lat pm (Ky.mk 6 [] f.r)) - y.1.1) ⟨((0:Nat),Hs_i),by simp,by have e9:List.take i (lat pm (Ky.mk 6 f.r []))=(lat pm (Ky.mk 6 f.r [])):=List.take_of_length_le (by omega);rw[e9]at hS_i;exact hS_i⟩ zl (f_ d_ aD_) zh ?_
  rintro ⟨⟨k,Hs_k⟩,hi_k,hS_k⟩
  dsimp only at hi_k hS_k ⊢
  have hb_k:=hpl (Ky.mk 6 [] f.r)
  refine Zi 2 (fun hr2=>?_) fun hr2=>?_
  ·refine Zz 6 ?_
   exact cd_ Tryz.results96 ⟨Hs_k,by rw[aE_];unfold hr_;have e8:List.take k (lat pm (Ky.mk 6 [] f.r))=lat pm (Ky.mk 6 [] f.r):=List.take_of_length_le (by omega);rw[e8]at hS_k;exact hS_k⟩ rfl B_ zt
  obtain⟨hlx3,x3,hx3,hmx3⟩:=zge (show k<List.length (lat pm (Ky.mk 6 [] f.r)) by omega)
  refine Zz 10 ?_
  refine i_ (ag_ aj_ W_ rfl rfl (fun v _ h=>Q_ (n:=10) Pc.cells_len (by decide) (by exact (aA_ h.2.1 (Ky.mk 6 [] f.r))) hx3) (by omega) (by first|omega|(simp;done))) rfl ?_
  refine i_ (bB_ (ad:=(Prod.fst (A.p (Ky.mk 6 [] f.r)))) (us:=Pc.cells x3) ey_ W_ rfl (fun v _ h=>by exact (aA_ h.2.1 (Ky.mk 6 [] f.r))) (Pc.cells_len _) (H_ Pc.cells_len hx3)) rfl (J_ aH_ rfl fun b2=>w_ 0 W_ rfl rfl rfl rfl rfl rfl (Zz 4 ?_))
  refine p_ 0 [0,1,2,3,4,5,6,7,8,9,10,11] zk zs (Zz 8 ?_)
  refine aa_ rfl (L_ fJ_ rfl rfl) rfl (aa_ rfl (bb_ (k:=(f.a,x3.r)) (adr:=A.i) de_ cg_ bx_ rfl rfl zf) rfl (Zz 6 ?_))
  refine U_ (ι:={y:Nat×Hp // y.1≤List.length (lat x.into (f.a,x3.r))∧E.St (emits E.stp (List.map (fun a=>I_ a x3.t f.b) (List.take y.1 (lat x.into (f.a,x3.r)))) (emits E.stp (List.flatMap (fun y=>List.map (fun a=>I_ a y.t f.b) (lat x.into (Fc.a f,Pc.r y))) (List.take k (lat pm (Ky.mk 6 [] f.r)))) (emits E.stp (fN_ pm x f) nw))) fm y.2}) (fun y=>[(0,zp_ B.g 0),(3,zp_ b1 0),(19,.slice (Prod.fst (A.p (Ky.mk 6 f.r []))) (List.length (lat pm (Ky.mk 6 f.r []))) (Prod.snd (A.p (Ky.mk 6 f.r [])))),(20,.int .i64 (List.length (lat pm (Ky.mk 6 f.r [])):Int)),(21,.int .i64 (i:Int)),(60,.slice (Prod.fst (A.p (Ky.mk 6 [] f.r))) (List.length (lat pm (Ky.mk 6 [] f.r))) (Prod.snd (A.p (Ky.mk 6 [] f.r)))),(61,.int .i64 (List.length (lat pm (Ky.mk 6 [] f.r)):Int)),(62,.int .i64 (k:Int)),(9,zp_ b2 0),(75,.slice (Prod.fst (A.i (f.a,x3.r))) (List.length (lat x.into (f.a,x3.r))) (Prod.snd (A.i (f.a,x3.r)))),(76,.int .i64 (List.length (lat x.into (f.a,x3.r)):Int)),(77,.int .i64 (y.1.1:Int))]) (fun y=>((b2,.cells #[.int .i64 x3.kind,str x3.a,str x3.b,str x3.c,str x3.r,str x3.s,str x3.t,.int .i64 x3.lo,.int .i64 x3.hi,.int .i64 x3.frm] 52 (0,0))::((b1,.cells #[.int .i64 f.kind,str f.a,str f.b,str f.r,.int .i64 f.lo,.int .i64 f.hi] 24 (0,0))::y.1.2))) (fun y=>[gF B E,pF B pm A,aF B x A,uF B x A,oF B x A,iF B x A,rF B x A,sF B x A,E.ef]) (fun y=>List.length (lat x.into (f.a,x3.r)) - y.1.1) ⟨((0:Nat),Hs_k),by simp,by exact hS_k⟩ zl zp zh ?_
  rintro ⟨⟨l,Hs_l⟩,hi_l,hS_l⟩
  dsimp only at hi_l hS_l ⊢
  have hb_l:=(hyl (f.a,x3.r)).2.1
  refine Zi 2 (fun hr3=>?_) fun hr3=>?_
  ·refine Zz 11 ?_
   exact u_ ⟨(k+1,Hs_l),hlx3,(by rw[gQ_ hx3,aE_];have e9:List.take l (lat x.into (Fc.a f,Pc.r x3))=(lat x.into (Fc.a f,Pc.r x3)):=List.take_of_length_le (by omega);rw[e9]at hS_l;exact hS_l)⟩ (by dsimp only;omega) zl (f_ (c_ d_) B_) zh
  obtain⟨hlx4,x4,hx4,hmx4⟩:=zge (show l<List.length (lat x.into (f.a,x3.r)) by omega)
  refine Zz 10 ?_
  refine i_ (ag_ G_ E_ rfl rfl (fun v _ h=>Q_ (n:=1) as_ (by decide) (by exact (aA_ h.2.2.2.2.2.1 (f.a,x3.r))) hx4) (by omega) (by first|omega|(simp;done))) rfl ?_
  refine i_ (aM_ (ad:=(Prod.fst (A.i (f.a,x3.r)))) V_ rfl (fun v _ h=>by exact (aA_ h.2.2.2.2.2.1 (f.a,x3.r))) (H_ as_ hx4 0 _ rfl)) rfl (Zz 3 ?_)
  refine ab_ ((b2,.cells #[.int .i64 x3.kind,str x3.a,str x3.b,str x3.c,str x3.r,str x3.s,str x3.t,.int .i64 x3.lo,.int .i64 x3.hi,.int .i64 x3.frm] 52 (0,0))::((b1,.cells #[.int .i64 f.kind,str f.a,str f.b,str f.r,.int .i64 f.lo,.int .i64 f.hi] 24 (0,0))::[])) zk ?_
  refine p_ 2 [0,1,2,3,4,5,6,7,8] zk zs (Zz 10 ?_)
  refine m_ 9 rfl zk (o_ (lf_ x4 x3.t f.b) rfl j_ zt rfl fun _=>Zz 3 ?_)
  refine m_ 10 rfl zk (az_ (first:=[]) (cap:=E.caps) (E.emit (I_ x4 x3.t f.b) (emits E.stp (List.map (fun a=>I_ a x3.t f.b) (List.take l (lat x.into (f.a,x3.r)))) (emits E.stp (List.flatMap (fun y=>List.map (fun a=>I_ a y.t f.b) (lat x.into (Fc.a f,Pc.r y))) (List.take k (lat pm (Ky.mk 6 [] f.r)))) (emits E.stp (fN_ pm x f) nw))) fm Hs_l hS_l) rfl rfl zp zf rfl fun⟨Hs1,hS1⟩=>?_)
  dsimp only
  refine Zz 10 ?_
  exact u_ ⟨(l+1,Hs1),hlx4,(by rw[dS_ hx4,aE_];exact hS1)⟩ (by dsimp only;omega) zl zp zh
 obtain⟨hlx1,x1,hx1,hmx1⟩:=zge (show i<List.length (lat pm (Ky.mk 6 f.r [])) by omega)
 refine Zz 10 ?_
 refine i_ (ag_ aj_ W_ rfl rfl (fun v _ h=>Q_ (n:=10) Pc.cells_len (by decide) (by exact (aA_ h.2.1 (Ky.mk 6 f.r []))) hx1) (by omega) (by first|omega|(simp;done))) rfl ?_
 refine i_ (bB_ (ad:=(Prod.fst (A.p (Ky.mk 6 f.r [])))) (us:=Pc.cells x1) ey_ W_ rfl (fun v _ h=>by exact (aA_ h.2.1 (Ky.mk 6 f.r []))) (Pc.cells_len _) (H_ Pc.cells_len hx1)) rfl (J_ aH_ rfl fun b3=>w_ 0 W_ rfl rfl rfl rfl rfl rfl (Zz 4 ?_))
 refine p_ 0 [0,1,2,3,4,5,6,7,8,9,10,11] zk zs (Zz 8 ?_)
 refine aa_ rfl (L_ fJ_ rfl rfl) rfl (aa_ rfl (bb_ (k:=(f.b,x1.s)) (adr:=A.o) de_ cg_ bx_ rfl rfl zf) rfl (Zz 6 ?_))
 refine U_ (ι:={y:Nat×Hp // y.1≤List.length (lat x.frm (f.b,x1.s))∧E.St (emits E.stp (List.map (fun a=>I_ f.a x1.t a) (List.take y.1 (lat x.frm (f.b,x1.s)))) (emits E.stp (List.flatMap (fun y=>List.map (fun a=>I_ f.a y.t a) (lat x.frm (Fc.b f,Pc.s y))) (List.take i (lat pm (Ky.mk 6 f.r [])))) nw)) fm y.2}) (fun y=>[(0,zp_ B.g 0),(3,zp_ b1 0),(19,.slice (Prod.fst (A.p (Ky.mk 6 f.r []))) (List.length (lat pm (Ky.mk 6 f.r []))) (Prod.snd (A.p (Ky.mk 6 f.r [])))),(20,.int .i64 (List.length (lat pm (Ky.mk 6 f.r [])):Int)),(21,.int .i64 (i:Int)),(5,zp_ b3 0),(34,.slice (Prod.fst (A.o (f.b,x1.s))) (List.length (lat x.frm (f.b,x1.s))) (Prod.snd (A.o (f.b,x1.s)))),(35,.int .i64 (List.length (lat x.frm (f.b,x1.s)):Int)),(36,.int .i64 (y.1.1:Int))]) (fun y=>((b3,.cells #[.int .i64 x1.kind,str x1.a,str x1.b,str x1.c,str x1.r,str x1.s,str x1.t,.int .i64 x1.lo,.int .i64 x1.hi,.int .i64 x1.frm] 52 (0,0))::((b1,.cells #[.int .i64 f.kind,str f.a,str f.b,str f.r,.int .i64 f.lo,.int .i64 f.hi] 24 (0,0))::y.1.2))) (fun y=>[gF B E,pF B pm A,aF B x A,uF B x A,oF B x A,iF B x A,rF B x A,sF B x A,E.ef]) (fun y=>List.length (lat x.frm (f.b,x1.s)) - y.1.1) ⟨((0:Nat),Hs_i),by simp,by exact hS_i⟩ zl zp zh ?_
 rintro ⟨⟨j,Hs_j⟩,hi_j,hS_j⟩
 dsimp only at hi_j hS_j ⊢
 have hb_j:=(hyl (f.b,x1.s)).1
 refine Zi 2 (fun hr4=>?_) fun hr4=>?_
 ·refine Zz 11 ?_
  exact u_ ⟨(i+1,Hs_j),hlx1,(by rw[gQ_ hx1,aE_];have e9:List.take j (lat x.frm (Fc.b f,Pc.s x1))=(lat x.frm (Fc.b f,Pc.s x1)):=List.take_of_length_le (by omega);rw[e9]at hS_j;exact hS_j)⟩ (by dsimp only;omega) zl (f_ (c_ d_) B_) zh
 obtain⟨hlx2,x2,hx2,hmx2⟩:=zge (show j<List.length (lat x.frm (f.b,x1.s)) by omega)
 refine Zz 10 ?_
 refine i_ (ag_ G_ E_ rfl rfl (fun v _ h=>Q_ (n:=1) as_ (by decide) (by exact (aA_ h.2.2.2.2.1 (f.b,x1.s))) hx2) (by omega) (by first|omega|(simp;done))) rfl ?_
 refine i_ (aM_ (ad:=(Prod.fst (A.o (f.b,x1.s)))) V_ rfl (fun v _ h=>by exact (aA_ h.2.2.2.2.1 (f.b,x1.s))) (H_ as_ hx2 0 _ rfl)) rfl (Zz 3 ?_)
 refine ab_ ((b3,.cells #[.int .i64 x1.kind,str x1.a,str x1.b,str x1.c,str x1.r,str x1.s,str x1.t,.int .i64 x1.lo,.int .i64 x1.hi,.int .i64 x1.frm] 52 (0,0))::((b1,.cells #[.int .i64 f.kind,str f.a,str f.b,str f.r,.int .i64 f.lo,.int .i64 f.hi] 24 (0,0))::[])) zk ?_
 refine p_ 2 [0,1,2,3,4,5,6,7,8] zk zs (Zz 10 ?_)
 refine m_ 9 rfl zk (o_ (lf_ f.a x1.t x2) rfl j_ zt rfl fun _=>Zz 3 ?_)
 refine m_ 10 rfl zk (az_ (first:=[]) (cap:=E.caps) (E.emit (I_ f.a x1.t x2) (emits E.stp (List.map (fun a=>I_ f.a x1.t a) (List.take j (lat x.frm (f.b,x1.s)))) (emits E.stp (List.flatMap (fun y=>List.map (fun a=>I_ f.a y.t a) (lat x.frm (Fc.b f,Pc.s y))) (List.take i (lat pm (Ky.mk 6 f.r [])))) nw)) fm Hs_j hS_j) rfl rfl zp zf rfl fun⟨Hs2,hS2⟩=>?_)
 dsimp only
 refine Zz 10 ?_
 exact u_ ⟨(j+1,Hs2),hlx2,(by rw[dS_ hx2,aE_];exact hS2)⟩ (by dsimp only;omega) zl zp zh
theorem on_ (B:EngB) (E:Emt Tryz.prog 24) (A:EngA) (pm:List (Ky×Pc)) (x:Ix) (f:Fc) (nw fm:List Fc) (Hs:Hp) (hS:E.St nw fm Hs) (hpl:∀ k,(lat pm k).length≤1000000000) (hxl:∀ k,(lat x.above k).length≤1000000000∧(lat x.under k).length≤1000000000) (hyl:∀ k,(lat x.frm k).length≤1000000000∧(lat x.into k).length≤1000000000∧(lat x.ranges k).length≤1000000000∧(lat x.firms k).length≤1000000000):Tri Tryz.prog 93 #[zp_ B.g 0,Fc.val f] Hs [gF B E,pF B pm A,aF B x A,uF B x A,oF B x A,iF B x A,rF B x A,sF B x A,E.ef] (fun _:{H':Hp // E.St (emits E.stp (dF_ x f) nw) fm H'}=>.tuple #[]) (fun y=>y.1) (fun _=>[]):=by
 refine x_ Tryz.func93 rfl rfl Tryz.ntmps93 rfl fun v0=>?_
 refine Zz 2 ?_
 refine ay_ rfl rfl fun b1=>Zi 6 (fun hr1=>?_) fun hr1=>?_
 ·refine Zz 5 ?_
  exact cd_ Tryz.results93 ⟨Hs,by unfold dF_;rw[if_neg (by assumption)];exact hS⟩ rfl B_ zt
 refine Zz 5 ?_
 refine p_ 0 [0,1,2,3,4,5,6,7,8] zk zs (Zz 6 ?_)
 refine aa_ rfl (bb_ (k:=f.a) (adr:=A.u) es_ cz_ bx_ rfl rfl zf) rfl (Zz 6 ?_)
 refine U_ (ι:={y:Nat×Hp // y.1≤List.length (lat x.under f.a)∧E.St (emits E.stp (List.map (fun a=>D_ a [33]) (List.take y.1 (lat x.under f.a))) nw) fm y.2}) (fun y=>[(0,zp_ B.g 0),(15,.slice (Prod.fst (A.u f.a)) (List.length (lat x.under f.a)) (Prod.snd (A.u f.a))),(16,.int .i64 (List.length (lat x.under f.a):Int)),(17,.int .i64 (y.1.1:Int))]) (fun y=>(y.1.2)) (fun y=>[gF B E,pF B pm A,aF B x A,uF B x A,oF B x A,iF B x A,rF B x A,sF B x A,E.ef]) (fun y=>List.length (lat x.under f.a) - y.1.1) ⟨((0:Nat),Hs),by simp,by exact hS⟩ zl B_ zh ?_
 rintro ⟨⟨i,Hs_i⟩,hi_i,hS_i⟩
 dsimp only at hi_i hS_i ⊢
 have hb_i:=(hxl f.a).2
 refine Zi 2 (fun hr2=>?_) fun hr2=>?_
 ·refine Zz 6 ?_
  exact cd_ Tryz.results93 ⟨Hs_i,by unfold dF_;rw[if_pos (by assumption)];rw[List.take_of_length_le (by omega)]at hS_i;exact hS_i⟩ rfl aD_ zt
 obtain⟨hlx1,x1,hx1,hmx1⟩:=zge (show i<List.length (lat x.under f.a) by omega)
 refine Zz 10 ?_
 refine i_ (ag_ G_ E_ rfl rfl (fun v _ h=>Q_ (n:=1) as_ (by decide) (by exact (aA_ h.2.2.2.1 f.a)) hx1) (by omega) (by first|omega|(simp;done))) rfl ?_
 refine i_ (aM_ (ad:=(Prod.fst (A.u f.a))) V_ rfl (fun v _ h=>by exact (aA_ h.2.2.2.1 f.a)) (H_ as_ hx1 0 _ rfl)) rfl (Zz 3 ?_)
 refine ab_ ([]) zk ?_
 refine p_ 2 [0,1,2,3,4] zk zs (Zz 6 ?_)
 refine m_ 5 rfl zk (o_ (fY_ x1 [33]) rfl j_ zt rfl fun _=>y_ jK_ (Zz 3 ?_))
 refine m_ 6 rfl zk (az_ (first:=[]) (cap:=E.caps) (E.emit (D_ x1 [33]) (emits E.stp (List.map (fun a=>D_ a [33]) (List.take i (lat x.under f.a))) nw) fm Hs_i hS_i) rfl rfl aD_ zf rfl fun⟨Hs1,hS1⟩=>?_)
 dsimp only
 refine y_ eV_ (Zz 10 ?_)
 exact u_ ⟨(i+1,Hs1),hlx1,(by rw[dS_ hx1,aE_];exact hS1)⟩ (by dsimp only;omega) zl aD_ zh
theorem om_ (B:EngB) (E:Emt Tryz.prog 24) (A:EngA) (pm:List (Ky×Pc)) (x:Ix) (f:Fc) (nw fm:List Fc) (Hs:Hp) (hS:E.St nw fm Hs) (hpl:∀ k,(lat pm k).length≤1000000000) (hxl:∀ k,(lat x.above k).length≤1000000000∧(lat x.under k).length≤1000000000) (hyl:∀ k,(lat x.frm k).length≤1000000000∧(lat x.into k).length≤1000000000∧(lat x.ranges k).length≤1000000000∧(lat x.firms k).length≤1000000000):Tri Tryz.prog 98 #[zp_ B.g 0,Fc.val f] Hs [gF B E,pF B pm A,aF B x A,uF B x A,oF B x A,iF B x A,rF B x A,sF B x A,E.ef] (fun _:{H':Hp // E.St (if D_ f.b [33]∈E.kof nw then E.stp (D_ f.a [33]) nw else nw) fm H'}=>.tuple #[]) (fun y=>y.1) (fun _=>[]):=by
 refine x_ Tryz.func98 rfl rfl Tryz.ntmps98 rfl fun v0=>?_
 refine Zz 2 ?_
 refine ay_ rfl rfl fun b1=>Zz 4 ?_
 refine p_ 2 [0,1,2,3,4,5] zk zs (Zz 7 ?_)
 refine m_ 6 rfl zk (o_ (fY_ f.b [33]) rfl j_ zt rfl fun _=>Zz 3 ?_)
 refine p_ 0 [7] zk zs (cP_ rfl (hW_ (f:=(D_ f.b [33])) hS fH_ aW_ fq_ rfl rfl B_) rfl fun r1 hr1=>Zz 3 ?_)
 cases r1
 ·replace hr1:=zdf hr1
  refine Zz 3 ?_
  exact cd_ Tryz.results98 ⟨Hs,by first|(rw[if_pos (by assumption)];exact hS)|(rw[if_neg (by assumption)];exact hS)⟩ rfl B_ zt
 replace hr1:=zdt hr1
 refine dl_ rfl ?_
 refine ab_ ((b1,.cells #[.int .i64 f.kind,str f.a,str f.b,str f.r,.int .i64 f.lo,.int .i64 f.hi] 24 (0,0))::[]) zk ?_
 refine p_ 2 [0,1,2,3,4,5] zk zs (Zz 7 ?_)
 refine m_ 6 rfl zk (o_ (fY_ f.a [33]) rfl j_ zt rfl fun _=>Zz 3 ?_)
 refine m_ 7 rfl zk (az_ (first:=[]) (cap:=E.caps) (E.emit (D_ f.a [33]) nw fm Hs hS) rfl rfl B_ zf rfl fun⟨Hs1,hS1⟩=>?_)
 dsimp only
 refine Zz 5 ?_
 exact cd_ Tryz.results98 ⟨Hs1,by first|(rw[if_pos (by assumption)];exact hS1)|(rw[if_neg (by assumption)];exact hS1)⟩ rfl n_ zt
end Go.Proofs.YtkeanlfhghlgiaaGreatDoor
namespace Go.Proofs.YtkeanlfhghlgiaaGreatDoor
open Go Go.Sx Go.Proofs
attribute [local irreducible] Code.wp wpList wpAnyH
open Go.Vs
def ivC (i:Int×Int):List Value:=[.int .i64 i.1,.int .i64 i.2]
theorem mO_ (i:Int×Int):(ivC i).length=2:=rfl
def ivV (i:Int×Int):Value:=.agg (ivC i).toArray
def gu_ (i:Int×Int):Int:=if min i.1 i.2 < -1099511627776∨1099511627776<max i.1 i.2 then 1 else if i.2<i.1 then 80 else 0
def jx_ (e:Int) (i:Int×Int):Int:=if e≠0 then e else gu_ i
def gy_ (l:List (Int×Int)):Int:=l.foldl jx_ 0
theorem oa_ {l:List (Int×Int)} {i:Nat} {x:Int×Int} (h:l[i]? = some x):gy_ (List.take (i+1) l)=jx_ (gy_ (List.take i l)) x:=by
  unfold gy_;rw[List.take_add_one,h,Option.toList_some,List.foldl_append];rfl
def qz_ (a b:Int×Int):Bool:=decide (gy_ [a,b]=0)&&(decide (b.1≤a.1)&&decide (a.2≤b.2))
theorem tV_ {a b:Int×Int} (ha:-1099511627776≤a.1∧a.1≤a.2∧a.2≤1099511627776) (hb:-1099511627776≤b.1∧b.1≤b.2∧b.2≤1099511627776):qz_ a b=decide (b.1≤a.1∧a.2≤b.2):=by
  have e:∀ i:Int×Int,-1099511627776≤i.1∧i.1≤i.2∧i.2≤1099511627776→gu_ i=0:=fun i h=>by
    unfold gu_;rw[if_neg (by omega),if_neg (by omega)]
  have e2:gy_ [a,b]=0:=by simp[gy_,jx_,e a ha,e b hb]
  unfold qz_;rw[e2,Bool.eq_iff_iff];simp
theorem pr_:jF_ Tryz.prog 149 [(0,1),(1,1)] [.int .i64 0,.int .i64 0]:=⟨_,Tryz.zeroValue149,cJ_,fun w=>by simp[A_]⟩
theorem qA_ (i:Int×Int):Fn0 Tryz.prog 186 #[ivV i] (.int .i64 (gu_ i)):=by
 refine x_ Tryz.func186 rfl rfl Tryz.ntmps186 rfl fun v0=>?_
 refine Zz 2 ?_
 refine ay_ rfl rfl fun b1=>Zz 10 ?_
 refine i_ (dx_ rfl rfl) rfl ?_
 refine Zi 0 (fun hr1=>?_) fun hr1=>?_
 ·refine Zz 10 ?_
  refine i_ (dI_ rfl rfl) rfl (aw_ rfl rfl ?_)
  refine Zi 0 (fun hr2=>?_) fun hr2=>?_
  ·refine Zi 13 (fun hr3=>?_) fun hr3=>?_
   ·refine Zz 11 ?_
    exact S_ Tryz.results186 () (ca_ rfl (by unfold gu_;first|(rw[if_pos (by omega)])|(rw[if_neg (by omega),if_pos (by omega)])|(rw[if_neg (by omega),if_neg (by omega)]))) j_ zt
   refine Zz 9 ?_
   exact S_ Tryz.results186 () (ca_ rfl (by unfold gu_;first|(rw[if_pos (by omega)])|(rw[if_neg (by omega),if_pos (by omega)])|(rw[if_neg (by omega),if_neg (by omega)]))) j_ zt
  refine Zz 10 ?_
  exact S_ Tryz.results186 () (ca_ rfl (by unfold gu_;first|(rw[if_pos (by omega)])|(rw[if_neg (by omega),if_pos (by omega)])|(rw[if_neg (by omega),if_neg (by omega)]))) j_ zt
 refine Zz 17 ?_
 exact S_ Tryz.results186 () (ca_ rfl (by unfold gu_;first|(rw[if_pos (by omega)])|(rw[if_neg (by omega),if_pos (by omega)])|(rw[if_neg (by omega),if_neg (by omega)]))) j_ zt
theorem tU_ (e:Int) (i:Int×Int):Fn0 Tryz.prog 185 #[.int .i64 e,ivV i] (.int .i64 (jx_ e i)):=by
 refine x_ Tryz.func185 rfl rfl Tryz.ntmps185 rfl fun v0=>?_
 refine Zz 2 ?_
 refine ay_ rfl rfl fun b1=>Zi 7 (fun hr1=>?_) fun hr1=>?_
 ·refine Zz 8 ?_
  refine o_ (qA_ i) rfl j_ zt rfl fun _=>Zz 4 ?_
  exact S_ Tryz.results185 () (ca_ rfl (by unfold jx_;first|(rw[if_pos (by assumption)])|(rw[if_neg (by omega)]))) j_ zt
 refine Zz 10 ?_
 exact S_ Tryz.results185 () (ca_ rfl (by unfold jx_;first|(rw[if_pos (by assumption)])|(rw[if_neg (by omega)]))) j_ zt
theorem pa_ (l:List (Int×Int)) (ad:Option Addr) (cap:Nat) (hl:l.length≤1000000):Tri Tryz.prog 184 #[.slice ad (List.length l) cap,.int .i64 0,.func (.func 185) #[] #[]] [] [af_ ad (List.flatMap ivC l)] (fun _:Unit=>.int .i64 (gy_ l)) (fun _=>[]) (fun _=>[]):=by
 refine x_ Tryz.func184 rfl rfl Tryz.ntmps184 rfl fun v0=>?_
 refine Zz 14 ?_
 refine U_ (ι:={y:Nat // y≤l.length}) (fun y=>[(1,.int .i64 (gy_ (List.take y.1 l))),(2,.func (.func 185) #[] #[]),(9,.slice ad (List.length l) cap),(10,.int .i64 (List.length l:Int)),(11,.int .i64 (y.1:Int))]) (fun y=>([])) (fun y=>[af_ ad (List.flatMap ivC l)]) (fun y=>l.length - y.1) ⟨(0:Nat),by simp⟩ zl j_ zh ?_
 rintro ⟨i,hi⟩
 dsimp only at hi ⊢
 refine Zi 2 (fun hr1=>?_) fun hr1=>?_
 ·refine Zz 13 ?_
  exact S_ Tryz.results184 () (ca_ rfl (by rw[List.take_of_length_le (by omega)])) j_ zt
 obtain⟨hlx1,x1,hx1,hmx1⟩:=zge (show i<List.length l by omega)
 refine Zz 10 ?_
 refine i_ (ag_ ct_ ru_ rfl rfl (fun v _ h=>Q_ (n:=2) mO_ (by decide) (by exact h.1) hx1) (by omega) (by first|omega|(simp;done))) rfl ?_
 refine i_ (bB_ (ad:=ad) (us:=ivC x1) Tryz.isAgg149 ru_ rfl zf (mO_ _) (H_ mO_ hx1)) rfl (J_ Tryz.zeroValue149 rfl fun b1=>w_ 0 ru_ rfl rfl rfl rfl rfl rfl (Zz 6 ?_))
 refine az_ (tU_ (gy_ (List.take i l)) x1) rfl rfl j_ zt rfl fun _=>Zz 8 ?_
 exact u_ ⟨i+1,hlx1⟩ (by dsimp only;omega) ⟨(ca_ rfl (oa_ hx1).symm),rfl,rfl,rfl,rfl,trivial⟩ j_ zh
theorem tW_ (l:List (Int×Int)) (ad:Option Addr) (cap:Nat) (hl:l.length≤1000000):Tri Tryz.prog 165 #[.slice ad (List.length l) cap] [] [af_ ad (List.flatMap ivC l)] (fun _:Unit=>.int .i64 (gy_ l)) (fun _=>[]) (fun _=>[]):=by
  refine x_ Tryz.func165 rfl rfl Tryz.ntmps165 rfl fun v0=>?_
  refine Zz 8 ?_
  refine o_ (pa_ l ad cap hl) rfl j_ zf rfl fun _=>Zz 4 ?_
  exact S_ Tryz.results165 () rfl j_ zt
theorem rg_ (i j:Int×Int):Fn0 Tryz.prog 125 #[ivV i,ivV j] (.bool (qz_ i j)):=by
 refine x_ Tryz.func125 rfl rfl Tryz.ntmps125 rfl fun v0=>?_
 refine Zz 2 ?_
 refine ay_ rfl rfl fun b1=>ay_ rfl rfl fun b2=>Zz 7 ?_
 refine N_ ct_ ru_ Tryz.zeroValue149 rfl rfl rfl rfl rfl rfl fun b3=>?_
 refine ar_ (List.flatMap ivC [i,j]) d_ rfl ?_
 refine o_ (tW_ [i,j] (some ⟨b3,0,none⟩) 2 (by simp)) rfl j_ zf rfl fun _=>?_
 refine Zi 0 (fun hr1=>?_) fun hr1=>?_
 ·refine Zz 18 ?_
  exact S_ Tryz.results125 () (g_ rfl (by unfold qz_;simp_all<;>omega)) j_ zt
 refine Zi 10 (fun hr2=>?_) fun hr2=>?_
 ·refine Zz 12 ?_
  exact S_ Tryz.results125 () (g_ rfl (by unfold qz_;simp_all<;>omega)) j_ zt
 refine Zz 11 ?_
 refine O_ (dH_ rfl rfl) rfl fun r3 hr3=>Zz 5 ?_
 exact S_ Tryz.results125 () (g_ rfl (by unfold qz_;simp_all<;>omega)) j_ zt
theorem oB_ (a b c d:Int) (ha:-1099511627776≤a∧a≤b∧b≤1099511627776) (hb:-1099511627776≤c∧c≤d∧d≤1099511627776):Fn0 Tryz.prog 125 #[ivV (a,b),ivV (c,d)] (.bool (decide (c≤a∧b≤d))):=by
  have:=rg_ (a,b) (c,d)
  rw[tV_ ha hb]at this
  exact this
theorem jC_ {α:Type} {p:α→Bool} {l:List α} {i:Nat} {x:α} (h:l[i]? = some x):List.filter p (List.take (i+1) l)=List.filter p (List.take i l)++(if p x then [x] else []):=by
  rw[List.take_add_one,h,Option.toList_some,List.filter_append]
  congr 1
  simp[List.filter_cons]
theorem out_c (B:EngB) (E:Emt Tryz.prog 24) (A:EngA) (pm:List (Ky×Pc)) (x:Ix) (f:Fc) (nw fm:List Fc) (Hs:Hp) (hS:E.St nw fm Hs) (hpl:∀ k,(lat pm k).length≤1000000000) (hxl:∀ k,(lat x.above k).length≤1000000000∧(lat x.under k).length≤1000000000) (hyl:∀ k,(lat x.frm k).length≤1000000000∧(lat x.into k).length≤1000000000∧(lat x.ranges k).length≤1000000000∧(lat x.firms k).length≤1000000000) (hf:-1099511627776≤f.lo∧f.lo≤f.hi∧f.hi≤1099511627776) (hq:∀ y∈lat pm (Ky.mk 9 f.r []),-1099511627776≤y.lo∧y.lo≤y.hi∧y.hi≤1099511627776):Tri Tryz.prog 100 #[zp_ B.g 0,Fc.val f] Hs [gF B E,pF B pm A,aF B x A,uF B x A,oF B x A,iF B x A,rF B x A,sF B x A,E.ef] (fun _:{H':Hp // E.St (emits E.stp (qq_ pm f) nw) fm H'}=>.tuple #[]) (fun y=>y.1) (fun _=>[]):=by
 refine x_ Tryz.func100 rfl rfl Tryz.ntmps100 rfl fun v0=>?_
 refine Zz 2 ?_
 refine ay_ rfl rfl fun b1=>Zz 4 ?_
 refine p_ 0 [0,1,2,3,4,5,6,7,8,9] zk zs (Zz 6 ?_)
 refine aa_ rfl (L_ eR_ rfl rfl) rfl (aa_ rfl (bb_ (k:=(Ky.mk 9 f.r [])) (adr:=A.p) hu_ ch_ cW_ rfl rfl zf) rfl (Zz 6 ?_))
 refine U_ (ι:={y:Nat×Hp // y.1≤List.length (lat pm (Ky.mk 9 f.r []))∧E.St (emits E.stp (List.map (fun y=>D_ f.a y.c) (List.filter (fun y=>decide (Pc.lo y≤Fc.lo f∧Fc.hi f≤Pc.hi y)) (List.take y.1 (lat pm (Ky.mk 9 f.r []))))) nw) fm y.2}) (fun y=>[(0,zp_ B.g 0),(3,zp_ b1 0),(13,.slice (Prod.fst (A.p (Ky.mk 9 f.r []))) (List.length (lat pm (Ky.mk 9 f.r []))) (Prod.snd (A.p (Ky.mk 9 f.r [])))),(14,.int .i64 (List.length (lat pm (Ky.mk 9 f.r [])):Int)),(15,.int .i64 (y.1.1:Int))]) (fun y=>((b1,.cells #[.int .i64 f.kind,str f.a,str f.b,str f.r,.int .i64 f.lo,.int .i64 f.hi] 24 (0,0))::y.1.2)) (fun y=>[gF B E,pF B pm A,aF B x A,uF B x A,oF B x A,iF B x A,rF B x A,sF B x A,E.ef]) (fun y=>List.length (lat pm (Ky.mk 9 f.r [])) - y.1.1) ⟨((0:Nat),Hs),by simp,by exact hS⟩ zl zp zh ?_
 rintro ⟨⟨i,Hs_i⟩,hi_i,hS_i⟩
 dsimp only at hi_i hS_i ⊢
 have hb_i:=hpl (Ky.mk 9 f.r [])
 refine Zi 2 (fun hr1=>?_) fun hr1=>?_
 ·refine Zz 6 ?_
  exact cd_ Tryz.results100 ⟨Hs_i,by unfold qq_;rw[List.take_of_length_le (by omega)]at hS_i;exact hS_i⟩ rfl B_ zt
 obtain⟨hlx1,x1,hx1,hmx1⟩:=zge (show i<List.length (lat pm (Ky.mk 9 f.r [])) by omega)
 refine Zz 10 ?_
 refine i_ (ag_ aj_ W_ rfl rfl (fun v _ h=>Q_ (n:=10) Pc.cells_len (by decide) (by exact (aA_ h.2.1 (Ky.mk 9 f.r []))) hx1) (by omega) (by first|omega|(simp;done))) rfl ?_
 refine i_ (bB_ (ad:=(Prod.fst (A.p (Ky.mk 9 f.r [])))) (us:=Pc.cells x1) ey_ W_ rfl (fun v _ h=>by exact (aA_ h.2.1 (Ky.mk 9 f.r []))) (Pc.cells_len _) (H_ Pc.cells_len hx1)) rfl (J_ aH_ rfl fun b2=>w_ 0 W_ rfl rfl rfl rfl rfl rfl (Zz 8 ?_))
 refine i_ (L_ pr_ rfl rfl) rfl (Zz 4 ?_)
 refine i_ (L_ pr_ rfl rfl) rfl (ae_ (oB_ f.lo f.hi x1.lo x1.hi hf (hq x1 hmx1)) rfl j_ zt rfl fun r2 hr2=>Zz 2 ?_)
 cases r2
 ·replace hr2:=zdf hr2
  refine Zz 8 ?_
  exact u_ ⟨(i+1,Hs_i),hlx1,(by rw[jC_ hx1];first|(rw[if_pos (decide_eq_true (by assumption)),List.map_append,aE_];exact hS_i)|(rw[if_neg (by rw[decide_eq_false (by assumption)];decide),List.append_nil];exact hS_i))⟩ (by dsimp only;omega) zl (f_ (c_ d_) B_) zh
 replace hr2:=zdt hr2
 refine dl_ rfl ?_
 refine ab_ ((b2,.cells #[.int .i64 x1.kind,str x1.a,str x1.b,str x1.c,str x1.r,str x1.s,str x1.t,.int .i64 x1.lo,.int .i64 x1.hi,.int .i64 x1.frm] 52 (0,0))::((b1,.cells #[.int .i64 f.kind,str f.a,str f.b,str f.r,.int .i64 f.lo,.int .i64 f.hi] 24 (0,0))::[])) zk ?_
 refine p_ 2 [0,1,2,3,4,5,6,7] zk zs (Zz 9 ?_)
 refine m_ 8 rfl zk (o_ (fY_ f.a x1.c) rfl j_ zt rfl fun _=>Zz 3 ?_)
 refine m_ 9 rfl zk (az_ (first:=[]) (cap:=E.caps) (E.emit (D_ f.a x1.c) (emits E.stp (List.map (fun y=>D_ f.a y.c) (List.filter (fun y=>decide (Pc.lo y≤Fc.lo f∧Fc.hi f≤Pc.hi y)) (List.take i (lat pm (Ky.mk 9 f.r []))))) nw) fm Hs_i hS_i) rfl rfl (c_ B_) zf rfl fun⟨Hs1,hS1⟩=>?_)
 dsimp only
 refine Zz 10 ?_
 exact u_ ⟨(i+1,Hs1),hlx1,(by rw[jC_ hx1];first|(rw[if_pos (decide_eq_true (by assumption)),List.map_append,aE_];exact hS1)|(rw[if_neg (by rw[decide_eq_false (by assumption)];decide),List.append_nil];exact hS1))⟩ (by dsimp only;omega) zl zp zh
theorem eg_ {f:Fc} {l:List Fc} {i:Nat} {x:Fc} (h:l[i]? = some x):gt_ f (List.take (i+1) l)=gt_ f (List.take i l)++(if (!cT_ f x&&decide (dr_ f x≠f∧dr_ f x≠x))=true then [dr_ f x] else []):=by
  unfold gt_
  rw[jC_ h,List.map_append]
  congr 1
  split<;>simp
theorem fx_ {α:Type} {p:α→Bool} {l:List α} {i:Nat} {x:α} (h:l[i]? = some x):List.any (List.take (i+1) l) p=(List.any (List.take i l) p||p x):=by
  rw[List.take_add_one,h,Option.toList_some,List.any_append];simp
theorem meet_c (B:EngB) (E:Emt Tryz.prog 24) (A:EngA) (pm:List (Ky×Pc)) (x:Ix) (f:Fc) (nw fm:List Fc) (Hs:Hp) (hS:E.St nw fm Hs) (hpl:∀ k,(lat pm k).length≤1000000000) (hxl:∀ k,(lat x.above k).length≤1000000000∧(lat x.under k).length≤1000000000) (hyl:∀ k,(lat x.frm k).length≤1000000000∧(lat x.into k).length≤1000000000∧(lat x.ranges k).length≤1000000000∧(lat x.firms k).length≤1000000000):Tri Tryz.prog 99 #[zp_ B.g 0,Fc.val f] Hs [gF B E,pF B pm A,aF B x A,uF B x A,oF B x A,iF B x A,rF B x A,sF B x A,E.ef] (fun _:{H':Hp // E.St (emits E.stp (gt_ f (eJ_ x f (decide (f∈fm)))++ht_ f (eJ_ x f (decide (f∈fm)))) nw) fm H'}=>.tuple #[]) (fun y=>y.1) (fun _=>[]):=by
 refine x_ Tryz.func99 rfl rfl Tryz.ntmps99 rfl fun v0=>?_
 refine Zz 2 ?_
 refine ay_ rfl rfl fun b1=>Zz 8 ?_
 refine i_ (L_ fJ_ rfl rfl) rfl (J_ cH_ rfl fun b2=>w_ 0 dK_ rfl rfl rfl rfl rfl rfl (Zz 4 ?_))
 refine p_ 0 [0,1,2,3,4,5,6] zk zs (Zz 5 ?_)
 refine aa_ rfl (bb_ (k:=(f.a,f.r)) (adr:=A.s) de_ rE_ nj_ rfl rfl zf) rfl (Zz 7 ?_)
 refine p_ 0 [0,1,2,3,4,5] zk zs (Zz 5 ?_)
 refine cP_ rfl (nl_ (f:=f) hS fH_ aW_ fq_ rfl rfl (c_ B_)) rfl fun r1 hr1=>Zz 3 ?_
 cases r1
 ·replace hr1:=zdf hr1
  refine Zz 17 ?_
  refine U_ (ι:={y:Nat×Hp×Bool // y.1≤List.length (lat x.firms (f.a,f.r))∧E.St (emits E.stp (gt_ f (List.take y.1 (lat x.firms (f.a,f.r)))) nw) fm y.2.1∧y.2.2=List.any (List.take y.1 (lat x.firms (f.a,f.r))) (cT_ f)}) (fun y=>[(0,zp_ B.g 0),(3,zp_ b1 0),(6,.bool y.1.2.2),(35,.slice (Prod.fst (A.s (f.a,f.r))) (List.length (lat x.firms (f.a,f.r))) (Prod.snd (A.s (f.a,f.r)))),(36,.int .i64 (List.length (lat x.firms (f.a,f.r)):Int)),(37,.int .i64 (y.1.1:Int))]) (fun y=>((b1,.cells #[.int .i64 f.kind,str f.a,str f.b,str f.r,.int .i64 f.lo,.int .i64 f.hi] 24 (0,0))::y.1.2.1)) (fun y=>[gF B E,pF B pm A,aF B x A,uF B x A,oF B x A,iF B x A,rF B x A,sF B x A,E.ef]) (fun y=>List.length (lat x.firms (f.a,f.r)) - y.1.1) ⟨((0:Nat),Hs,false),by simp,by exact hS,by simp⟩ zl (f_ (c_ d_) B_) zh ?_
  rintro ⟨⟨i,Hs_i,e⟩,hi_i,hS_i,he⟩
  dsimp only at hi_i hS_i he ⊢
  have hb_i:=(hyl (f.a,f.r)).2.2.2
  refine Zi 2 (fun hr2=>?_) fun hr2=>?_
  ·refine Zz 11 ?_
   cases e
   ·refine Zz 3 ?_
    exact cd_ Tryz.results99 ⟨Hs_i,by have hL:(eJ_ x f (decide (f∈fm)))=(lat x.firms (f.a,f.r)):=(by unfold eJ_;rw[decide_eq_false (by assumption)]<;>rfl);rw[hL,aE_];have e9:List.take i (lat x.firms (f.a,f.r))=(lat x.firms (f.a,f.r)):=List.take_of_length_le (by omega);rw[e9]at he hS_i;unfold ht_;rw[if_neg (by rw[← he];decide)];exact hS_i⟩ rfl B_ zt
   refine dl_ rfl ?_
   refine ab_ ((b1,.cells #[.int .i64 f.kind,str f.a,str f.b,str f.r,.int .i64 f.lo,.int .i64 f.hi] 24 (0,0))::[]) zk ?_
   refine p_ 2 [0,1,2,3,4,5] zk zs (Zz 7 ?_)
   refine m_ 6 rfl zk (o_ (fY_ f.a [33]) rfl j_ zt rfl fun _=>Zz 3 ?_)
   refine m_ 7 rfl zk (az_ (first:=[]) (cap:=E.caps) (E.emit (D_ f.a [33]) (emits E.stp (gt_ f (List.take i (lat x.firms (f.a,f.r)))) nw) fm Hs_i hS_i) rfl rfl B_ zf rfl fun⟨Hs1,hS1⟩=>?_)
   dsimp only
   refine Zz 5 ?_
   exact cd_ Tryz.results99 ⟨Hs1,by have hL:(eJ_ x f (decide (f∈fm)))=(lat x.firms (f.a,f.r)):=(by unfold eJ_;rw[decide_eq_false (by assumption)]<;>rfl);rw[hL,aE_];have e9:List.take i (lat x.firms (f.a,f.r))=(lat x.firms (f.a,f.r)):=List.take_of_length_le (by omega);rw[e9]at he hS1;unfold ht_;rw[if_pos he.symm];exact hS1⟩ rfl n_ zt
  obtain⟨hlx1,x1,hx1,hmx1⟩:=zge (show i<List.length (lat x.firms (f.a,f.r)) by omega)
  refine Zz 10 ?_
  refine i_ (ag_ z_ q_ rfl rfl (fun v _ h=>Q_ (n:=6) Fc.cells_len (by decide) (by exact (aA_ h.2.2.2.2.2.2.2.1 (f.a,f.r))) hx1) (by omega) (by first|omega|(simp;done))) rfl ?_
  refine i_ (bB_ (ad:=(Prod.fst (A.s (f.a,f.r)))) (us:=Fc.cells x1) bc_ q_ rfl (fun v _ h=>by exact (aA_ h.2.2.2.2.2.2.2.1 (f.a,f.r))) (Fc.cells_len _) (H_ Fc.cells_len hx1)) rfl (J_ F_ rfl fun b3=>w_ 0 q_ rfl rfl rfl rfl rfl rfl (Zz 4 ?_))
  refine p_ 0 [0,1,2,3,4,5,6,7,8,9,10,11] zk zs (Zz 4 ?_)
  refine aa_ rfl (dI_ rfl rfl) rfl (Zz 4 ?_)
  refine aa_ rfl (dx_ rfl rfl) rfl (Zi 9 (fun hr3=>?_) fun hr3=>?_)
  ·refine Zz 11 ?_
   refine o_ (kH_ f.a f.r (max f.lo x1.lo) (min f.hi x1.hi)) rfl j_ zt rfl fun _=>J_ F_ rfl fun b4=>w_ 0 q_ rfl rfl rfl rfl rfl rfl (Zz 6 ?_)
   refine O_ (ej_ (p:=(R_ f.a f.r (max f.lo x1.lo) (min f.hi x1.hi))) (q:=f) rfl rfl) rfl fun r4 hr4=>Zz 1 ?_
   cases r4
   ·replace hr4:=zdf hr4
    refine Zz 14 ?_
    exact u_ ⟨(i+1,Hs_i,e),hlx1,(by rw[eg_ hx1];first|(rw[if_pos (by rw[Bool.and_eq_true];exact⟨by simp only[cT_];rw[decide_eq_false (by omega)];rfl,decide_eq_true ⟨by assumption,by assumption⟩⟩),aE_];exact hS_i)|(rw[if_neg (by rw[Bool.and_eq_true];intro q;first|exact absurd (of_decide_eq_true q.2).1 (by assumption)|exact absurd (of_decide_eq_true q.2).2 (by assumption)|(have q1:=q.1;simp only[cT_]at q1;rw[decide_eq_true (by omega)]at q1;cases q1)),List.append_nil];exact hS_i)),by rw[fx_ hx1,← he];simp only[cT_];rw[decide_eq_false (by omega)];simp⟩ (by dsimp only;omega) zl (f_ (c_ (c_ d_)) (c_ B_)) zh
   replace hr4:=zdt hr4
   refine Zz 5 ?_
   refine O_ (ej_ (p:=(R_ f.a f.r (max f.lo x1.lo) (min f.hi x1.hi))) (q:=x1) rfl rfl) rfl fun r5 hr5=>Zz 3 ?_
   cases r5
   ·replace hr5:=zdf hr5
    refine Zz 8 ?_
    exact u_ ⟨(i+1,Hs_i,e),hlx1,(by rw[eg_ hx1];first|(rw[if_pos (by rw[Bool.and_eq_true];exact⟨by simp only[cT_];rw[decide_eq_false (by omega)];rfl,decide_eq_true ⟨by assumption,by assumption⟩⟩),aE_];exact hS_i)|(rw[if_neg (by rw[Bool.and_eq_true];intro q;first|exact absurd (of_decide_eq_true q.2).1 (by assumption)|exact absurd (of_decide_eq_true q.2).2 (by assumption)|(have q1:=q.1;simp only[cT_]at q1;rw[decide_eq_true (by omega)]at q1;cases q1)),List.append_nil];exact hS_i)),by rw[fx_ hx1,← he];simp only[cT_];rw[decide_eq_false (by omega)];simp⟩ (by dsimp only;omega) zl (f_ (c_ (c_ d_)) (c_ B_)) zh
   replace hr5:=zdt hr5
   refine dl_ rfl ?_
   refine ab_ ((b4,.cells #[.int .i64 (Fc.kind (R_ f.a f.r (max f.lo x1.lo) (min f.hi x1.hi))),str (Fc.a (R_ f.a f.r (max f.lo x1.lo) (min f.hi x1.hi))),str (Fc.b (R_ f.a f.r (max f.lo x1.lo) (min f.hi x1.hi))),str (Fc.r (R_ f.a f.r (max f.lo x1.lo) (min f.hi x1.hi))),.int .i64 (Fc.lo (R_ f.a f.r (max f.lo x1.lo) (min f.hi x1.hi))),.int .i64 (Fc.hi (R_ f.a f.r (max f.lo x1.lo) (min f.hi x1.hi)))] 24 (0,0))::((b3,.cells #[.int .i64 x1.kind,str x1.a,str x1.b,str x1.r,.int .i64 x1.lo,.int .i64 x1.hi] 24 (0,0))::((b1,.cells #[.int .i64 f.kind,str f.a,str f.b,str f.r,.int .i64 f.lo,.int .i64 f.hi] 24 (0,0))::[]))) zk ?_
   refine p_ 1 [0,1,2,3,4] zk zs (Zz 6 ?_)
   refine m_ 5 rfl zk (az_ (first:=[]) (cap:=E.caps) (E.emit (R_ f.a f.r (max f.lo x1.lo) (min f.hi x1.hi)) (emits E.stp (gt_ f (List.take i (lat x.firms (f.a,f.r)))) nw) fm Hs_i hS_i) rfl rfl (c_ (c_ B_)) zf rfl fun⟨Hs2,hS2⟩=>?_)
   dsimp only
   refine Zz 10 ?_
   exact u_ ⟨(i+1,Hs2,e),hlx1,(by rw[eg_ hx1];first|(rw[if_pos (by rw[Bool.and_eq_true];exact⟨by simp only[cT_];rw[decide_eq_false (by omega)];rfl,decide_eq_true ⟨by assumption,by assumption⟩⟩),aE_];exact hS2)|(rw[if_neg (by rw[Bool.and_eq_true];intro q;first|exact absurd (of_decide_eq_true q.2).1 (by assumption)|exact absurd (of_decide_eq_true q.2).2 (by assumption)|(have q1:=q.1;simp only[cT_]at q1;rw[decide_eq_true (by omega)]at q1;cases q1)),List.append_nil];exact hS2)),by rw[fx_ hx1,← he];simp only[cT_];rw[decide_eq_false (by omega)];simp⟩ (by dsimp only;omega) zl zp zh
  refine Zz 12 ?_
  exact u_ ⟨(i+1,Hs_i,true),hlx1,(by rw[eg_ hx1];first|(rw[if_pos (by rw[Bool.and_eq_true];exact⟨by simp only[cT_];rw[decide_eq_false (by omega)];rfl,decide_eq_true ⟨by assumption,by assumption⟩⟩),aE_];exact hS_i)|(rw[if_neg (by rw[Bool.and_eq_true];intro q;first|exact absurd (of_decide_eq_true q.2).1 (by assumption)|exact absurd (of_decide_eq_true q.2).2 (by assumption)|(have q1:=q.1;simp only[cT_]at q1;rw[decide_eq_true (by omega)]at q1;cases q1)),List.append_nil];exact hS_i)),by rw[fx_ hx1,← he];simp only[cT_];rw[decide_eq_true (by omega)];simp⟩ (by dsimp only;omega) zl (f_ (c_ d_) B_) zh
 replace hr1:=zdt hr1
 refine Zz 2 ?_
 refine p_ 0 [0,1,2,3,4,5,6] zk zs (Zz 5 ?_)
 refine aa_ rfl (bb_ (k:=(f.a,f.r)) (adr:=A.r) de_ rE_ nj_ rfl rfl zf) rfl (Zz 18 ?_)
 refine U_ (ι:={y:Nat×Hp×Bool // y.1≤List.length (lat x.ranges (f.a,f.r))∧E.St (emits E.stp (gt_ f (List.take y.1 (lat x.ranges (f.a,f.r)))) nw) fm y.2.1∧y.2.2=List.any (List.take y.1 (lat x.ranges (f.a,f.r))) (cT_ f)}) (fun y=>[(0,zp_ B.g 0),(3,zp_ b1 0),(6,.bool y.1.2.2),(35,.slice (Prod.fst (A.r (f.a,f.r))) (List.length (lat x.ranges (f.a,f.r))) (Prod.snd (A.r (f.a,f.r)))),(36,.int .i64 (List.length (lat x.ranges (f.a,f.r)):Int)),(37,.int .i64 (y.1.1:Int))]) (fun y=>((b1,.cells #[.int .i64 f.kind,str f.a,str f.b,str f.r,.int .i64 f.lo,.int .i64 f.hi] 24 (0,0))::y.1.2.1)) (fun y=>[gF B E,pF B pm A,aF B x A,uF B x A,oF B x A,iF B x A,rF B x A,sF B x A,E.ef]) (fun y=>List.length (lat x.ranges (f.a,f.r)) - y.1.1) ⟨((0:Nat),Hs,false),by simp,by exact hS,by simp⟩ zl (f_ (c_ d_) B_) zh ?_
 rintro ⟨⟨i,Hs_i,e⟩,hi_i,hS_i,he⟩
 dsimp only at hi_i hS_i he ⊢
 have hb_i:=(hyl (f.a,f.r)).2.2.1
 refine Zi 2 (fun hr6=>?_) fun hr6=>?_
 ·refine Zz 11 ?_
  cases e
  ·refine Zz 3 ?_
   exact cd_ Tryz.results99 ⟨Hs_i,by have hL:(eJ_ x f (decide (f∈fm)))=(lat x.ranges (f.a,f.r)):=(by unfold eJ_;rw[decide_eq_true (by assumption)]<;>rfl);rw[hL,aE_];have e9:List.take i (lat x.ranges (f.a,f.r))=(lat x.ranges (f.a,f.r)):=List.take_of_length_le (by omega);rw[e9]at he hS_i;unfold ht_;rw[if_neg (by rw[← he];decide)];exact hS_i⟩ rfl B_ zt
  refine dl_ rfl ?_
  refine ab_ ((b1,.cells #[.int .i64 f.kind,str f.a,str f.b,str f.r,.int .i64 f.lo,.int .i64 f.hi] 24 (0,0))::[]) zk ?_
  refine p_ 2 [0,1,2,3,4,5] zk zs (Zz 7 ?_)
  refine m_ 6 rfl zk (o_ (fY_ f.a [33]) rfl j_ zt rfl fun _=>Zz 3 ?_)
  refine m_ 7 rfl zk (az_ (first:=[]) (cap:=E.caps) (E.emit (D_ f.a [33]) (emits E.stp (gt_ f (List.take i (lat x.ranges (f.a,f.r)))) nw) fm Hs_i hS_i) rfl rfl B_ zf rfl fun⟨Hs3,hS3⟩=>?_)
  dsimp only
  refine Zz 5 ?_
  exact cd_ Tryz.results99 ⟨Hs3,by have hL:(eJ_ x f (decide (f∈fm)))=(lat x.ranges (f.a,f.r)):=(by unfold eJ_;rw[decide_eq_true (by assumption)]<;>rfl);rw[hL,aE_];have e9:List.take i (lat x.ranges (f.a,f.r))=(lat x.ranges (f.a,f.r)):=List.take_of_length_le (by omega);rw[e9]at he hS3;unfold ht_;rw[if_pos he.symm];exact hS3⟩ rfl n_ zt
 obtain⟨hlx1,x1,hx1,hmx1⟩:=zge (show i<List.length (lat x.ranges (f.a,f.r)) by omega)
 refine Zz 10 ?_
 refine i_ (ag_ z_ q_ rfl rfl (fun v _ h=>Q_ (n:=6) Fc.cells_len (by decide) (by exact (aA_ h.2.2.2.2.2.2.1 (f.a,f.r))) hx1) (by omega) (by first|omega|(simp;done))) rfl ?_
 refine i_ (bB_ (ad:=(Prod.fst (A.r (f.a,f.r)))) (us:=Fc.cells x1) bc_ q_ rfl (fun v _ h=>by exact (aA_ h.2.2.2.2.2.2.1 (f.a,f.r))) (Fc.cells_len _) (H_ Fc.cells_len hx1)) rfl (J_ F_ rfl fun b5=>w_ 0 q_ rfl rfl rfl rfl rfl rfl (Zz 4 ?_))
 refine p_ 0 [0,1,2,3,4,5,6,7,8,9,10,11] zk zs (Zz 4 ?_)
 refine aa_ rfl (dI_ rfl rfl) rfl (Zz 4 ?_)
 refine aa_ rfl (dx_ rfl rfl) rfl (Zi 9 (fun hr7=>?_) fun hr7=>?_)
 ·refine Zz 11 ?_
  refine o_ (kH_ f.a f.r (max f.lo x1.lo) (min f.hi x1.hi)) rfl j_ zt rfl fun _=>J_ F_ rfl fun b6=>w_ 0 q_ rfl rfl rfl rfl rfl rfl (Zz 6 ?_)
  refine O_ (ej_ (p:=(R_ f.a f.r (max f.lo x1.lo) (min f.hi x1.hi))) (q:=f) rfl rfl) rfl fun r8 hr8=>Zz 1 ?_
  cases r8
  ·replace hr8:=zdf hr8
   refine Zz 14 ?_
   exact u_ ⟨(i+1,Hs_i,e),hlx1,(by rw[eg_ hx1];first|(rw[if_pos (by rw[Bool.and_eq_true];exact⟨by simp only[cT_];rw[decide_eq_false (by omega)];rfl,decide_eq_true ⟨by assumption,by assumption⟩⟩),aE_];exact hS_i)|(rw[if_neg (by rw[Bool.and_eq_true];intro q;first|exact absurd (of_decide_eq_true q.2).1 (by assumption)|exact absurd (of_decide_eq_true q.2).2 (by assumption)|(have q1:=q.1;simp only[cT_]at q1;rw[decide_eq_true (by omega)]at q1;cases q1)),List.append_nil];exact hS_i)),by rw[fx_ hx1,← he];simp only[cT_];rw[decide_eq_false (by omega)];simp⟩ (by dsimp only;omega) zl (f_ (c_ (c_ d_)) (c_ B_)) zh
  replace hr8:=zdt hr8
  refine Zz 5 ?_
  refine O_ (ej_ (p:=(R_ f.a f.r (max f.lo x1.lo) (min f.hi x1.hi))) (q:=x1) rfl rfl) rfl fun r9 hr9=>Zz 3 ?_
  cases r9
  ·replace hr9:=zdf hr9
   refine Zz 8 ?_
   exact u_ ⟨(i+1,Hs_i,e),hlx1,(by rw[eg_ hx1];first|(rw[if_pos (by rw[Bool.and_eq_true];exact⟨by simp only[cT_];rw[decide_eq_false (by omega)];rfl,decide_eq_true ⟨by assumption,by assumption⟩⟩),aE_];exact hS_i)|(rw[if_neg (by rw[Bool.and_eq_true];intro q;first|exact absurd (of_decide_eq_true q.2).1 (by assumption)|exact absurd (of_decide_eq_true q.2).2 (by assumption)|(have q1:=q.1;simp only[cT_]at q1;rw[decide_eq_true (by omega)]at q1;cases q1)),List.append_nil];exact hS_i)),by rw[fx_ hx1,← he];simp only[cT_];rw[decide_eq_false (by omega)];simp⟩ (by dsimp only;omega) zl (f_ (c_ (c_ d_)) (c_ B_)) zh
  replace hr9:=zdt hr9
  refine dl_ rfl ?_
  refine ab_ ((b6,.cells #[.int .i64 (Fc.kind (R_ f.a f.r (max f.lo x1.lo) (min f.hi x1.hi))),str (Fc.a (R_ f.a f.r (max f.lo x1.lo) (min f.hi x1.hi))),str (Fc.b (R_ f.a f.r (max f.lo x1.lo) (min f.hi x1.hi))),str (Fc.r (R_ f.a f.r (max f.lo x1.lo) (min f.hi x1.hi))),.int .i64 (Fc.lo (R_ f.a f.r (max f.lo x1.lo) (min f.hi x1.hi))),.int .i64 (Fc.hi (R_ f.a f.r (max f.lo x1.lo) (min f.hi x1.hi)))] 24 (0,0))::((b5,.cells #[.int .i64 x1.kind,str x1.a,str x1.b,str x1.r,.int .i64 x1.lo,.int .i64 x1.hi] 24 (0,0))::((b1,.cells #[.int .i64 f.kind,str f.a,str f.b,str f.r,.int .i64 f.lo,.int .i64 f.hi] 24 (0,0))::[]))) zk ?_
  refine p_ 1 [0,1,2,3,4] zk zs (Zz 6 ?_)
  refine m_ 5 rfl zk (az_ (first:=[]) (cap:=E.caps) (E.emit (R_ f.a f.r (max f.lo x1.lo) (min f.hi x1.hi)) (emits E.stp (gt_ f (List.take i (lat x.ranges (f.a,f.r)))) nw) fm Hs_i hS_i) rfl rfl (c_ (c_ B_)) zf rfl fun⟨Hs4,hS4⟩=>?_)
  dsimp only
  refine Zz 10 ?_
  exact u_ ⟨(i+1,Hs4,e),hlx1,(by rw[eg_ hx1];first|(rw[if_pos (by rw[Bool.and_eq_true];exact⟨by simp only[cT_];rw[decide_eq_false (by omega)];rfl,decide_eq_true ⟨by assumption,by assumption⟩⟩),aE_];exact hS4)|(rw[if_neg (by rw[Bool.and_eq_true];intro q;first|exact absurd (of_decide_eq_true q.2).1 (by assumption)|exact absurd (of_decide_eq_true q.2).2 (by assumption)|(have q1:=q.1;simp only[cT_]at q1;rw[decide_eq_true (by omega)]at q1;cases q1)),List.append_nil];exact hS4)),by rw[fx_ hx1,← he];simp only[cT_];rw[decide_eq_false (by omega)];simp⟩ (by dsimp only;omega) zl zp zh
 refine Zz 12 ?_
 exact u_ ⟨(i+1,Hs_i,true),hlx1,(by rw[eg_ hx1];first|(rw[if_pos (by rw[Bool.and_eq_true];exact⟨by simp only[cT_];rw[decide_eq_false (by omega)];rfl,decide_eq_true ⟨by assumption,by assumption⟩⟩),aE_];exact hS_i)|(rw[if_neg (by rw[Bool.and_eq_true];intro q;first|exact absurd (of_decide_eq_true q.2).1 (by assumption)|exact absurd (of_decide_eq_true q.2).2 (by assumption)|(have q1:=q.1;simp only[cT_]at q1;rw[decide_eq_true (by omega)]at q1;cases q1)),List.append_nil];exact hS_i)),by rw[fx_ hx1,← he];simp only[cT_];rw[decide_eq_true (by omega)];simp⟩ (by dsimp only;omega) zl (f_ (c_ d_) B_) zh
theorem ut_ (B:EngB) (E:Emt Tryz.prog 24) (nw fm:List Fc) (Hs:Hp) (hS:E.St nw fm Hs) (al:List Str) (aad:Option Addr) (acap:Nat) (hal:al.length≤1000000000) (hll:B.lps.length≤1000000000):Tri Tryz.prog 43 #[zp_ B.g 0,.slice aad (List.length al) acap] Hs [gF B E,af_ B.lad (List.flatMap aL_ B.lps),af_ aad (List.flatMap aL_ al),E.ef] (fun _:{H':Hp // E.St (emits E.stp (eY_ B.lps al) nw) fm H'}=>.tuple #[]) (fun y=>y.1) (fun _=>[]):=by
 refine x_ Tryz.func43 rfl rfl Tryz.ntmps43 rfl fun v0=>?_
 refine Zz 8 ?_
 refine U_ (ι:={y:Nat×Hp // y.1≤List.length al∧E.St (emits E.stp (List.flatMap (fun a=>D_ a a::D_ a [42]::List.map (fun r=>I_ a r a) B.lps) (List.take y.1 al)) nw) fm y.2}) (fun y=>[(0,zp_ B.g 0),(8,.slice aad (List.length al) acap),(9,.int .i64 (List.length al:Int)),(10,.int .i64 (y.1.1:Int))]) (fun y=>(y.1.2)) (fun y=>[gF B E,af_ B.lad (List.flatMap aL_ B.lps),af_ aad (List.flatMap aL_ al),E.ef]) (fun y=>List.length al - y.1.1) ⟨((0:Nat),Hs),by simp,by exact hS⟩ zl aD_ zh ?_
 rintro ⟨⟨i,Hs_i⟩,hi_i,hS_i⟩
 dsimp only at hi_i hS_i ⊢
 have hb_i:=hal
 refine Zi 2 (fun hr1=>?_) fun hr1=>?_
 ·refine Zz 6 ?_
  exact cd_ Tryz.results43 ⟨Hs_i,by unfold eY_;rw[List.take_of_length_le (by omega)]at hS_i;exact hS_i⟩ rfl aD_ zt
 obtain⟨hlx1,x1,hx1,hmx1⟩:=zge (show i<List.length al by omega)
 refine Zz 16 ?_
 refine ab_ ([]) zk ?_
 refine p_ 2 [0,1,2,3,4,5] zk zs (Zz 7 ?_)
 refine m_ 6 rfl zk (o_ (fY_ x1 x1) rfl j_ zt rfl fun _=>y_ jK_ (Zz 3 ?_))
 refine m_ 7 rfl zk (az_ (first:=[]) (cap:=E.caps) (E.emit (D_ x1 x1) (emits E.stp (List.flatMap (fun a=>D_ a a::D_ a [42]::List.map (fun r=>I_ a r a) B.lps) (List.take i al)) nw) fm Hs_i hS_i) rfl rfl aD_ zf rfl fun⟨Hs1,hS1⟩=>?_)
 dsimp only
 refine y_ eV_ (Zz 6 ?_)
 refine ab_ ([]) zk ?_
 refine p_ 2 [0,1,2,3,4] zk zs (Zz 6 ?_)
 refine m_ 5 rfl zk (o_ (fY_ x1 [42]) rfl j_ zt rfl fun _=>y_ jK_ (Zz 3 ?_))
 refine m_ 6 rfl zk (az_ (first:=[]) (cap:=E.caps) (E.emit (D_ x1 [42]) (E.stp (D_ x1 x1) (emits E.stp (List.flatMap (fun a=>D_ a a::D_ a [42]::List.map (fun r=>I_ a r a) B.lps) (List.take i al)) nw)) fm Hs1 hS1) rfl rfl aD_ zf rfl fun⟨Hs2,hS2⟩=>?_)
 dsimp only
 refine y_ eV_ (Zz 16 ?_)
 refine U_ (ι:={y:Nat×Hp // y.1≤List.length B.lps∧E.St (emits E.stp (List.map (fun r=>I_ x1 r x1) (List.take y.1 B.lps)) (E.stp (D_ x1 [42]) (E.stp (D_ x1 x1) (emits E.stp (List.flatMap (fun a=>D_ a a::D_ a [42]::List.map (fun r=>I_ a r a) B.lps) (List.take i al)) nw)))) fm y.2}) (fun y=>[(0,zp_ B.g 0),(8,.slice aad (List.length al) acap),(9,.int .i64 (List.length al:Int)),(10,.int .i64 (i:Int)),(5,str x1),(32,.slice B.lad (List.length B.lps) B.lcap),(33,.int .i64 (List.length B.lps:Int)),(34,.int .i64 (y.1.1:Int))]) (fun y=>(y.1.2)) (fun y=>[gF B E,af_ B.lad (List.flatMap aL_ B.lps),af_ aad (List.flatMap aL_ al),E.ef]) (fun y=>List.length B.lps - y.1.1) ⟨((0:Nat),Hs2),by simp,by exact hS2⟩ zl aD_ zh ?_
 rintro ⟨⟨j,Hs_j⟩,hi_j,hS_j⟩
 dsimp only at hi_j hS_j ⊢
 have hb_j:=hll
 refine Zi 2 (fun hr2=>?_) fun hr2=>?_
 ·refine Zz 11 ?_
  exact u_ ⟨(i+1,Hs_j),hlx1,(by rw[gQ_ hx1,aE_];have e9:List.take j B.lps=B.lps:=List.take_of_length_le (by omega);rw[e9]at hS_j;exact hS_j)⟩ (by dsimp only;omega) zl aD_ zh
 have hlx2:j<List.length B.lps:=by omega
 obtain⟨x2,hx2⟩:∃ e0,B.lps[j]? = some e0:=⟨_,List.getElem?_eq_getElem hlx2⟩
 have hmx2:x2∈B.lps:=List.mem_of_getElem? hx2
 refine Zz 15 ?_
 refine ab_ ([]) zk ?_
 refine p_ 2 [0,1,2,3,4,5,6] zk zs (Zz 8 ?_)
 refine m_ 7 rfl zk (o_ (lf_ x1 x2 x1) rfl j_ zt rfl fun _=>y_ jK_ (Zz 3 ?_))
 refine m_ 8 rfl zk (az_ (first:=[]) (cap:=E.caps) (E.emit (I_ x1 x2 x1) (emits E.stp (List.map (fun r=>I_ x1 r x1) (List.take j B.lps)) (E.stp (D_ x1 [42]) (E.stp (D_ x1 x1) (emits E.stp (List.flatMap (fun a=>D_ a a::D_ a [42]::List.map (fun r=>I_ a r a) B.lps) (List.take i al)) nw)))) fm Hs_j hS_j) rfl rfl aD_ zf rfl fun⟨Hs3,hS3⟩=>?_)
 dsimp only
 refine y_ eV_ (Zz 10 ?_)
 exact u_ ⟨(j+1,Hs3),hlx2,(by rw[dS_ hx2,aE_];exact hS3)⟩ (by dsimp only;omega) zl aD_ zh
end Go.Proofs.YtkeanlfhghlgiaaGreatDoor
