/-
  Part of the proof of the law CheckerTrusts over this seat: the small logic, the data, the contracts of functions (no condition).
-/
import Derived.Test.YtaffcjgphlhppaaGreatDoorQCheckerTrusts14
import Derived.Shelf.SlSortCmp.NoneTotal
import Derived.Test.YtaffcjgphlhppaaGreatDoorProg
import Derived.Test.YtaffcjgphlhppaaGreatDoorQCheckerTrusts3
import Derived.Test.YtaffcjgphlhppaaGreatDoorQCheckerTrusts7
set_option linter.unusedVariables false
set_option linter.unusedSimpArgs false
set_option linter.unusedSectionVars false
set_option maxHeartbeats 1000000
namespace Go.Proofs.YtaffcjgphlhppaaGreatDoor
open Go Go.Sx Go.Proofs
attribute [local irreducible] Code.wp wpList wpAnyH
open Go.Vs
theorem gf_ (B:EngB) (E:Emt Tryz.prog 24) (A0:EngA) (pm:List (Ky×Pc)) (x:Ix) (f:Fc) (nw fm:List Fc) (Hs:Hp) (hS:E.St nw fm Hs) (Ha Hu Ho Hi Hr Hm:Hp) (hI:IxO 9 24 B x ⟨Ha,Hu,Ho,Hi,Hr,Hm⟩) {n:FuncId} {args:Array Value} {ret:Hp→Prop} (hT:∀ A:EngA,A.p=A0.p→Tri Tryz.prog n args Hs [gF B E,pF B pm A,aF B x A,uF B x A,oF B x A,iF B x A,rF B x A,sF B x A,E.ef] (fun _:{H':Hp // ret H'}=>.tuple #[]) (fun y=>y.1) (fun _=>[])) :
    Tri Tryz.prog n args ((Ha++(Hu++(Ho++(Hi++(Hr++Hm)))))++Hs) [gF B E,pF B pm A0,E.ef] (fun _:{H':Hp // ret H'}=>.tuple #[]) (fun y=>(Ha++(Hu++(Ho++(Hi++(Hr++Hm)))))++y.1) (fun _=>[]):=by
  obtain⟨ha,hu,ho,hi,hr,hm⟩:=hI;dsimp only at ha hu ho hi hr hm;obtain⟨a1,k1⟩:=ha.lent (P:=Tryz.prog) kj_;obtain⟨a2,k2⟩:=hu.lent (P:=Tryz.prog) kj_;obtain⟨a3,k3⟩:=ho.lent (P:=Tryz.prog) dt_;obtain⟨a4,k4⟩:=hi.lent (P:=Tryz.prog) dt_;obtain⟨a5,k5⟩:=hr.lent (P:=Tryz.prog) dt_;obtain⟨a6,k6⟩:=hm.lent (P:=Tryz.prog) dt_;refine jS_ _ (hT ⟨A0.p,a1,a2,a3,a4,a5,a6⟩ rfl) fun v hB h=>⟨h.1,h.2.1,k1 v fun p hp=>hB p (by simp[hp]),k2 v fun p hp=>hB p (by simp[hp]),k3 v fun p hp=>hB p (by simp[hp]),k4 v fun p hp=>hB p (by simp[hp]),k5 v fun p hp=>hB p (by simp[hp]),k6 v fun p hp=>hB p (by simp[hp]),h.2.2.1,trivial⟩
theorem rl10_c (B:EngB) (E:Emt Tryz.prog 24) (A0:EngA) (pm:List (Ky×Pc)) (x:Ix) (f:Fc) (nw fm:List Fc) (Hs:Hp) (hS:E.St nw fm Hs) (Ha Hu Ho Hi Hr Hm:Hp) (hI:IxO 9 24 B x ⟨Ha,Hu,Ho,Hi,Hr,Hm⟩) (hpl:∀ k,(lat pm k).length≤1000000000) (hxl:∀ k,(lat x.above k).length≤1000000000∧(lat x.under k).length≤1000000000) (hyl:∀ k,(lat x.frm k).length≤1000000000∧(lat x.into k).length≤1000000000∧(lat x.ranges k).length≤1000000000∧(lat x.firms k).length≤1000000000) (hf:f.kind=3→-1099511627776≤f.lo∧f.lo≤f.hi∧f.hi≤1099511627776) (hq:f.kind=3→∀ y∈lat pm (Ky.mk 9 f.r []),-1099511627776≤y.lo∧y.lo≤y.hi∧y.hi≤1099511627776) (hk:f.kind=1):Tri Tryz.prog 100 #[zp_ B.g 0,f.val] ((Ha++(Hu++(Ho++(Hi++(Hr++Hm)))))++Hs) [gF B E,pF B pm A0,E.ef] (fun _:{H':Hp // E.St (rl E.stp E.kof pm x f 0 (nw,fm)).1 (rl E.stp E.kof pm x f 0 (nw,fm)).2 H'}=>.tuple #[]) (fun y=>(Ha++(Hu++(Ho++(Hi++(Hr++Hm)))))++y.1) (fun _=>[]):=by
  refine gf_ B E A0 pm x f nw fm Hs hS Ha Hu Ho Hi Hr Hm hI fun A hA=>?_;have h:=sP_ B E A pm x f nw fm Hs hS hpl hxl hyl;have e:rl E.stp E.kof pm x f 0 (nw,fm)=_:=if_pos hk;rw[e];exact h
theorem rl11_c (B:EngB) (E:Emt Tryz.prog 24) (A0:EngA) (pm:List (Ky×Pc)) (x:Ix) (f:Fc) (nw fm:List Fc) (Hs:Hp) (hS:E.St nw fm Hs) (Ha Hu Ho Hi Hr Hm:Hp) (hI:IxO 9 24 B x ⟨Ha,Hu,Ho,Hi,Hr,Hm⟩) (hpl:∀ k,(lat pm k).length≤1000000000) (hxl:∀ k,(lat x.above k).length≤1000000000∧(lat x.under k).length≤1000000000) (hyl:∀ k,(lat x.frm k).length≤1000000000∧(lat x.into k).length≤1000000000∧(lat x.ranges k).length≤1000000000∧(lat x.firms k).length≤1000000000) (hf:f.kind=3→-1099511627776≤f.lo∧f.lo≤f.hi∧f.hi≤1099511627776) (hq:f.kind=3→∀ y∈lat pm (Ky.mk 9 f.r []),-1099511627776≤y.lo∧y.lo≤y.hi∧y.hi≤1099511627776) (hk:f.kind=1):Tri Tryz.prog 101 #[zp_ B.g 0,f.val] ((Ha++(Hu++(Ho++(Hi++(Hr++Hm)))))++Hs) [gF B E,pF B pm A0,E.ef] (fun _:{H':Hp // E.St (rl E.stp E.kof pm x f 1 (nw,fm)).1 (rl E.stp E.kof pm x f 1 (nw,fm)).2 H'}=>.tuple #[]) (fun y=>(Ha++(Hu++(Ho++(Hi++(Hr++Hm)))))++y.1) (fun _=>[]):=by
  refine gf_ B E A0 pm x f nw fm Hs hS Ha Hu Ho Hi Hr Hm hI fun A hA=>?_;have h:=both_c B E A pm x f nw fm Hs hS hpl hxl hyl;have e:rl E.stp E.kof pm x f 1 (nw,fm)=_:=if_pos hk;rw[e];exact h
theorem rl12_c (B:EngB) (E:Emt Tryz.prog 24) (A0:EngA) (pm:List (Ky×Pc)) (x:Ix) (f:Fc) (nw fm:List Fc) (Hs:Hp) (hS:E.St nw fm Hs) (Ha Hu Ho Hi Hr Hm:Hp) (hI:IxO 9 24 B x ⟨Ha,Hu,Ho,Hi,Hr,Hm⟩) (hpl:∀ k,(lat pm k).length≤1000000000) (hxl:∀ k,(lat x.above k).length≤1000000000∧(lat x.under k).length≤1000000000) (hyl:∀ k,(lat x.frm k).length≤1000000000∧(lat x.into k).length≤1000000000∧(lat x.ranges k).length≤1000000000∧(lat x.firms k).length≤1000000000) (hf:f.kind=3→-1099511627776≤f.lo∧f.lo≤f.hi∧f.hi≤1099511627776) (hq:f.kind=3→∀ y∈lat pm (Ky.mk 9 f.r []),-1099511627776≤y.lo∧y.lo≤y.hi∧y.hi≤1099511627776) (hk:f.kind=1):Tri Tryz.prog 102 #[zp_ B.g 0,f.val] ((Ha++(Hu++(Ho++(Hi++(Hr++Hm)))))++Hs) [gF B E,pF B pm A0,E.ef] (fun _:{H':Hp // E.St (rl E.stp E.kof pm x f 2 (nw,fm)).1 (rl E.stp E.kof pm x f 2 (nw,fm)).2 H'}=>.tuple #[]) (fun y=>(Ha++(Hu++(Ho++(Hi++(Hr++Hm)))))++y.1) (fun _=>[]):=by
  refine gf_ B E A0 pm x f nw fm Hs hS Ha Hu Ho Hi Hr Hm hI fun A hA=>?_;have h:=some_c B E A pm x f nw fm Hs hS hpl hxl hyl;have e:rl E.stp E.kof pm x f 2 (nw,fm)=_:=if_pos hk;rw[e];exact h
theorem rl13_c (B:EngB) (E:Emt Tryz.prog 24) (A0:EngA) (pm:List (Ky×Pc)) (x:Ix) (f:Fc) (nw fm:List Fc) (Hs:Hp) (hS:E.St nw fm Hs) (Ha Hu Ho Hi Hr Hm:Hp) (hI:IxO 9 24 B x ⟨Ha,Hu,Ho,Hi,Hr,Hm⟩) (hpl:∀ k,(lat pm k).length≤1000000000) (hxl:∀ k,(lat x.above k).length≤1000000000∧(lat x.under k).length≤1000000000) (hyl:∀ k,(lat x.frm k).length≤1000000000∧(lat x.into k).length≤1000000000∧(lat x.ranges k).length≤1000000000∧(lat x.firms k).length≤1000000000) (hf:f.kind=3→-1099511627776≤f.lo∧f.lo≤f.hi∧f.hi≤1099511627776) (hq:f.kind=3→∀ y∈lat pm (Ky.mk 9 f.r []),-1099511627776≤y.lo∧y.lo≤y.hi∧y.hi≤1099511627776) (hk:f.kind=1):Tri Tryz.prog 103 #[zp_ B.g 0,f.val] ((Ha++(Hu++(Ho++(Hi++(Hr++Hm)))))++Hs) [gF B E,pF B pm A0,E.ef] (fun _:{H':Hp // E.St (rl E.stp E.kof pm x f 3 (nw,fm)).1 (rl E.stp E.kof pm x f 3 (nw,fm)).2 H'}=>.tuple #[]) (fun y=>(Ha++(Hu++(Ho++(Hi++(Hr++Hm)))))++y.1) (fun _=>[]):=by
  refine gf_ B E A0 pm x f nw fm Hs hS Ha Hu Ho Hi Hr Hm hI fun A hA=>?_;have h:=qY_ B E A pm x f nw fm Hs hS hpl hxl hyl;have e:rl E.stp E.kof pm x f 3 (nw,fm)=_:=if_pos hk;rw[e];exact h
theorem rl14_c (B:EngB) (E:Emt Tryz.prog 24) (A0:EngA) (pm:List (Ky×Pc)) (x:Ix) (f:Fc) (nw fm:List Fc) (Hs:Hp) (hS:E.St nw fm Hs) (Ha Hu Ho Hi Hr Hm:Hp) (hI:IxO 9 24 B x ⟨Ha,Hu,Ho,Hi,Hr,Hm⟩) (hpl:∀ k,(lat pm k).length≤1000000000) (hxl:∀ k,(lat x.above k).length≤1000000000∧(lat x.under k).length≤1000000000) (hyl:∀ k,(lat x.frm k).length≤1000000000∧(lat x.into k).length≤1000000000∧(lat x.ranges k).length≤1000000000∧(lat x.firms k).length≤1000000000) (hf:f.kind=3→-1099511627776≤f.lo∧f.lo≤f.hi∧f.hi≤1099511627776) (hq:f.kind=3→∀ y∈lat pm (Ky.mk 9 f.r []),-1099511627776≤y.lo∧y.lo≤y.hi∧y.hi≤1099511627776) (hk:f.kind=1):Tri Tryz.prog 104 #[zp_ B.g 0,f.val] ((Ha++(Hu++(Ho++(Hi++(Hr++Hm)))))++Hs) [gF B E,pF B pm A0,E.ef] (fun _:{H':Hp // E.St (rl E.stp E.kof pm x f 4 (nw,fm)).1 (rl E.stp E.kof pm x f 4 (nw,fm)).2 H'}=>.tuple #[]) (fun y=>(Ha++(Hu++(Ho++(Hi++(Hr++Hm)))))++y.1) (fun _=>[]):=by
  refine gf_ B E A0 pm x f nw fm Hs hS Ha Hu Ho Hi Hr Hm hI fun A hA=>?_;have h:=qg_ B E A pm x f nw fm Hs hS hpl hxl hyl;have e:rl E.stp E.kof pm x f 4 (nw,fm)=_:=if_pos hk;rw[e];exact h
theorem rl15_c (B:EngB) (E:Emt Tryz.prog 24) (A0:EngA) (pm:List (Ky×Pc)) (x:Ix) (f:Fc) (nw fm:List Fc) (Hs:Hp) (hS:E.St nw fm Hs) (Ha Hu Ho Hi Hr Hm:Hp) (hI:IxO 9 24 B x ⟨Ha,Hu,Ho,Hi,Hr,Hm⟩) (hpl:∀ k,(lat pm k).length≤1000000000) (hxl:∀ k,(lat x.above k).length≤1000000000∧(lat x.under k).length≤1000000000) (hyl:∀ k,(lat x.frm k).length≤1000000000∧(lat x.into k).length≤1000000000∧(lat x.ranges k).length≤1000000000∧(lat x.firms k).length≤1000000000) (hf:f.kind=3→-1099511627776≤f.lo∧f.lo≤f.hi∧f.hi≤1099511627776) (hq:f.kind=3→∀ y∈lat pm (Ky.mk 9 f.r []),-1099511627776≤y.lo∧y.lo≤y.hi∧y.hi≤1099511627776) (hk:f.kind=1):Tri Tryz.prog 105 #[zp_ B.g 0,f.val] ((Ha++(Hu++(Ho++(Hi++(Hr++Hm)))))++Hs) [gF B E,pF B pm A0,E.ef] (fun _:{H':Hp // E.St (rl E.stp E.kof pm x f 5 (nw,fm)).1 (rl E.stp E.kof pm x f 5 (nw,fm)).2 H'}=>.tuple #[]) (fun y=>(Ha++(Hu++(Ho++(Hi++(Hr++Hm)))))++y.1) (fun _=>[]):=by
  refine gf_ B E A0 pm x f nw fm Hs hS Ha Hu Ho Hi Hr Hm hI fun A hA=>?_;have h:=vl_ B E A pm x f nw fm Hs hS hpl hxl hyl;have e:rl E.stp E.kof pm x f 5 (nw,fm)=_:=if_pos hk;rw[e];exact h
theorem rl20_c (B:EngB) (E:Emt Tryz.prog 24) (A0:EngA) (pm:List (Ky×Pc)) (x:Ix) (f:Fc) (nw fm:List Fc) (Hs:Hp) (hS:E.St nw fm Hs) (Ha Hu Ho Hi Hr Hm:Hp) (hI:IxO 9 24 B x ⟨Ha,Hu,Ho,Hi,Hr,Hm⟩) (hpl:∀ k,(lat pm k).length≤1000000000) (hxl:∀ k,(lat x.above k).length≤1000000000∧(lat x.under k).length≤1000000000) (hyl:∀ k,(lat x.frm k).length≤1000000000∧(lat x.into k).length≤1000000000∧(lat x.ranges k).length≤1000000000∧(lat x.firms k).length≤1000000000) (hf:f.kind=3→-1099511627776≤f.lo∧f.lo≤f.hi∧f.hi≤1099511627776) (hq:f.kind=3→∀ y∈lat pm (Ky.mk 9 f.r []),-1099511627776≤y.lo∧y.lo≤y.hi∧y.hi≤1099511627776) (hk:f.kind=2):Tri Tryz.prog 106 #[zp_ B.g 0,f.val] ((Ha++(Hu++(Ho++(Hi++(Hr++Hm)))))++Hs) [gF B E,pF B pm A0,E.ef] (fun _:{H':Hp // E.St (rl E.stp E.kof pm x f 0 (nw,fm)).1 (rl E.stp E.kof pm x f 0 (nw,fm)).2 H'}=>.tuple #[]) (fun y=>(Ha++(Hu++(Ho++(Hi++(Hr++Hm)))))++y.1) (fun _=>[]):=by
  refine gf_ B E A0 pm x f nw fm Hs hS Ha Hu Ho Hi Hr Hm hI fun A hA=>?_;have h:=sJ_ B E A pm x f nw fm Hs hS hpl hxl hyl;have e:rl E.stp E.kof pm x f 0 (nw,fm)=_:=(if_neg (by rw[hk];decide)).trans (if_pos hk);rw[e];exact h
theorem rl21_c (B:EngB) (E:Emt Tryz.prog 24) (A0:EngA) (pm:List (Ky×Pc)) (x:Ix) (f:Fc) (nw fm:List Fc) (Hs:Hp) (hS:E.St nw fm Hs) (Ha Hu Ho Hi Hr Hm:Hp) (hI:IxO 9 24 B x ⟨Ha,Hu,Ho,Hi,Hr,Hm⟩) (hpl:∀ k,(lat pm k).length≤1000000000) (hxl:∀ k,(lat x.above k).length≤1000000000∧(lat x.under k).length≤1000000000) (hyl:∀ k,(lat x.frm k).length≤1000000000∧(lat x.into k).length≤1000000000∧(lat x.ranges k).length≤1000000000∧(lat x.firms k).length≤1000000000) (hf:f.kind=3→-1099511627776≤f.lo∧f.lo≤f.hi∧f.hi≤1099511627776) (hq:f.kind=3→∀ y∈lat pm (Ky.mk 9 f.r []),-1099511627776≤y.lo∧y.lo≤y.hi∧y.hi≤1099511627776) (hk:f.kind=2):Tri Tryz.prog 107 #[zp_ B.g 0,f.val] ((Ha++(Hu++(Ho++(Hi++(Hr++Hm)))))++Hs) [gF B E,pF B pm A0,E.ef] (fun _:{H':Hp // E.St (rl E.stp E.kof pm x f 1 (nw,fm)).1 (rl E.stp E.kof pm x f 1 (nw,fm)).2 H'}=>.tuple #[]) (fun y=>(Ha++(Hu++(Ho++(Hi++(Hr++Hm)))))++y.1) (fun _=>[]):=by
  refine gf_ B E A0 pm x f nw fm Hs hS Ha Hu Ho Hi Hr Hm hI fun A hA=>?_;have h:=wz_ B E A pm x f nw fm Hs hS hpl hxl hyl;have e:rl E.stp E.kof pm x f 1 (nw,fm)=_:=(if_neg (by rw[hk];decide)).trans (if_pos hk);rw[e];exact h
theorem rl22_c (B:EngB) (E:Emt Tryz.prog 24) (A0:EngA) (pm:List (Ky×Pc)) (x:Ix) (f:Fc) (nw fm:List Fc) (Hs:Hp) (hS:E.St nw fm Hs) (Ha Hu Ho Hi Hr Hm:Hp) (hI:IxO 9 24 B x ⟨Ha,Hu,Ho,Hi,Hr,Hm⟩) (hpl:∀ k,(lat pm k).length≤1000000000) (hxl:∀ k,(lat x.above k).length≤1000000000∧(lat x.under k).length≤1000000000) (hyl:∀ k,(lat x.frm k).length≤1000000000∧(lat x.into k).length≤1000000000∧(lat x.ranges k).length≤1000000000∧(lat x.firms k).length≤1000000000) (hf:f.kind=3→-1099511627776≤f.lo∧f.lo≤f.hi∧f.hi≤1099511627776) (hq:f.kind=3→∀ y∈lat pm (Ky.mk 9 f.r []),-1099511627776≤y.lo∧y.lo≤y.hi∧y.hi≤1099511627776) (hk:f.kind=2):Tri Tryz.prog 108 #[zp_ B.g 0,f.val] ((Ha++(Hu++(Ho++(Hi++(Hr++Hm)))))++Hs) [gF B E,pF B pm A0,E.ef] (fun _:{H':Hp // E.St (rl E.stp E.kof pm x f 2 (nw,fm)).1 (rl E.stp E.kof pm x f 2 (nw,fm)).2 H'}=>.tuple #[]) (fun y=>(Ha++(Hu++(Ho++(Hi++(Hr++Hm)))))++y.1) (fun _=>[]):=by
  refine gf_ B E A0 pm x f nw fm Hs hS Ha Hu Ho Hi Hr Hm hI fun A hA=>?_;have h:=qX_ B E A pm x f nw fm Hs hS hpl hxl hyl;have e:rl E.stp E.kof pm x f 2 (nw,fm)=_:=(if_neg (by rw[hk];decide)).trans (if_pos hk);rw[e];exact h
theorem rl23_c (B:EngB) (E:Emt Tryz.prog 24) (A0:EngA) (pm:List (Ky×Pc)) (x:Ix) (f:Fc) (nw fm:List Fc) (Hs:Hp) (hS:E.St nw fm Hs) (Ha Hu Ho Hi Hr Hm:Hp) (hI:IxO 9 24 B x ⟨Ha,Hu,Ho,Hi,Hr,Hm⟩) (hpl:∀ k,(lat pm k).length≤1000000000) (hxl:∀ k,(lat x.above k).length≤1000000000∧(lat x.under k).length≤1000000000) (hyl:∀ k,(lat x.frm k).length≤1000000000∧(lat x.into k).length≤1000000000∧(lat x.ranges k).length≤1000000000∧(lat x.firms k).length≤1000000000) (hf:f.kind=3→-1099511627776≤f.lo∧f.lo≤f.hi∧f.hi≤1099511627776) (hq:f.kind=3→∀ y∈lat pm (Ky.mk 9 f.r []),-1099511627776≤y.lo∧y.lo≤y.hi∧y.hi≤1099511627776) (hk:f.kind=2):Tri Tryz.prog 109 #[zp_ B.g 0,f.val] ((Ha++(Hu++(Ho++(Hi++(Hr++Hm)))))++Hs) [gF B E,pF B pm A0,E.ef] (fun _:{H':Hp // E.St (rl E.stp E.kof pm x f 3 (nw,fm)).1 (rl E.stp E.kof pm x f 3 (nw,fm)).2 H'}=>.tuple #[]) (fun y=>(Ha++(Hu++(Ho++(Hi++(Hr++Hm)))))++y.1) (fun _=>[]):=by
  refine gf_ B E A0 pm x f nw fm Hs hS Ha Hu Ho Hi Hr Hm hI fun A hA=>?_;have h:=qf_ B E A pm x f nw fm Hs hS hpl hxl hyl;have e:rl E.stp E.kof pm x f 3 (nw,fm)=_:=(if_neg (by rw[hk];decide)).trans (if_pos hk);rw[e];exact h
theorem rl30_c (B:EngB) (E:Emt Tryz.prog 24) (A0:EngA) (pm:List (Ky×Pc)) (x:Ix) (f:Fc) (nw fm:List Fc) (Hs:Hp) (hS:E.St nw fm Hs) (Ha Hu Ho Hi Hr Hm:Hp) (hI:IxO 9 24 B x ⟨Ha,Hu,Ho,Hi,Hr,Hm⟩) (hpl:∀ k,(lat pm k).length≤1000000000) (hxl:∀ k,(lat x.above k).length≤1000000000∧(lat x.under k).length≤1000000000) (hyl:∀ k,(lat x.frm k).length≤1000000000∧(lat x.into k).length≤1000000000∧(lat x.ranges k).length≤1000000000∧(lat x.firms k).length≤1000000000) (hf:f.kind=3→-1099511627776≤f.lo∧f.lo≤f.hi∧f.hi≤1099511627776) (hq:f.kind=3→∀ y∈lat pm (Ky.mk 9 f.r []),-1099511627776≤y.lo∧y.lo≤y.hi∧y.hi≤1099511627776) (hk:f.kind=3):Tri Tryz.prog 110 #[zp_ B.g 0,f.val] ((Ha++(Hu++(Ho++(Hi++(Hr++Hm)))))++Hs) [gF B E,pF B pm A0,E.ef] (fun _:{H':Hp // E.St (rl E.stp E.kof pm x f 0 (nw,fm)).1 (rl E.stp E.kof pm x f 0 (nw,fm)).2 H'}=>.tuple #[]) (fun y=>(Ha++(Hu++(Ho++(Hi++(Hr++Hm)))))++y.1) (fun _=>[]):=by
  refine gf_ B E A0 pm x f nw fm Hs hS Ha Hu Ho Hi Hr Hm hI fun A hA=>?_;have h:=meet_c B E A pm x f nw fm Hs hS hpl hxl hyl;have e:rl E.stp E.kof pm x f 0 (nw,fm)=_:=(if_neg (by rw[hk];decide)).trans (if_neg (by rw[hk];decide));rw[e];exact h
theorem rl31_c (B:EngB) (E:Emt Tryz.prog 24) (A0:EngA) (pm:List (Ky×Pc)) (x:Ix) (f:Fc) (nw fm:List Fc) (Hs:Hp) (hS:E.St nw fm Hs) (Ha Hu Ho Hi Hr Hm:Hp) (hI:IxO 9 24 B x ⟨Ha,Hu,Ho,Hi,Hr,Hm⟩) (hpl:∀ k,(lat pm k).length≤1000000000) (hxl:∀ k,(lat x.above k).length≤1000000000∧(lat x.under k).length≤1000000000) (hyl:∀ k,(lat x.frm k).length≤1000000000∧(lat x.into k).length≤1000000000∧(lat x.ranges k).length≤1000000000∧(lat x.firms k).length≤1000000000) (hf:f.kind=3→-1099511627776≤f.lo∧f.lo≤f.hi∧f.hi≤1099511627776) (hq:f.kind=3→∀ y∈lat pm (Ky.mk 9 f.r []),-1099511627776≤y.lo∧y.lo≤y.hi∧y.hi≤1099511627776) (hk:f.kind=3):Tri Tryz.prog 111 #[zp_ B.g 0,f.val] ((Ha++(Hu++(Ho++(Hi++(Hr++Hm)))))++Hs) [gF B E,pF B pm A0,E.ef] (fun _:{H':Hp // E.St (rl E.stp E.kof pm x f 1 (nw,fm)).1 (rl E.stp E.kof pm x f 1 (nw,fm)).2 H'}=>.tuple #[]) (fun y=>(Ha++(Hu++(Ho++(Hi++(Hr++Hm)))))++y.1) (fun _=>[]):=by
  refine gf_ B E A0 pm x f nw fm Hs hS Ha Hu Ho Hi Hr Hm hI fun A hA=>?_;have h:=out_c B E A pm x f nw fm Hs hS hpl hxl hyl (hf hk) (hq hk);have e:rl E.stp E.kof pm x f 1 (nw,fm)=_:=(if_neg (by rw[hk];decide)).trans (if_neg (by rw[hk];decide));rw[e];exact h
end Go.Proofs.YtaffcjgphlhppaaGreatDoor
namespace Go.Proofs.YtaffcjgphlhppaaGreatDoor
open Go Go.Sx Go.Proofs
attribute [local irreducible] Code.wp wpList wpAnyH
open Go.Vs
section
variable {N:Nf} {v0:Vw} {H0:Hp} {fr:Fr}
theorem pC_ {k:Act→World→Prop} {F:Hp}:∀ (B:Hp) {H:Hp} {Γ:List Fct},H.Perm (B++F)→Ok N v0 H0 k fr F (B.reverse.map (fun p=>bJ_ p.1 p.2)++Γ)→Ok N v0 H0 k fr H Γ
  | [],H,Γ,hH,h=>S_ hH h
  | (b,o)::B,H,Γ,hH,h=>by
    refine ib_ (bJ_ b o) (F:=B++F) hH (fun _ h1 h2 _=>⟨h1,h2⟩) ?_;refine pC_ B (.refl _) ?_;simpa using h
end
end Go.Proofs.YtaffcjgphlhppaaGreatDoor
namespace Go.Proofs.YtaffcjgphlhppaaGreatDoor
open Go Go.Sx Go.Proofs
attribute [local irreducible] Code.wp wpList wpAnyH
open Go.Vs
theorem sK_ {P:Program} (w:World) (d:Nat) (t e:TypeId) (a:Option Addr) (l c:Nat) (h:P.underlying t=some (.slice e)):(Op.equalIn (d+1) t (.slice a l c) (.slice none 0 0)).run P w=.ok a.isNone w:=by
  cases a<;>simp[Op.equalIn,run_underlying h]
theorem wp_ {P:Program} (w:World) (t e:TypeId) (a:Option Addr) (l c:Nat) (h:P.underlying t=some (.slice e)):(Op.equal t (.slice a l c) (.slice none 0 0)).run P w=.ok a.isNone w:=sK_ w 9999 t e a l c h
theorem sX_ {P:Program} {N:Nf} {fr:Fr} {H:Hp} {Γ:List Fct} {ty t t' e:TypeId} {x y:Operand} {ad:Option Addr} {m c:Nat} (hu:P.underlying t=some (.slice e)) (hx:Fr.ev fr x=some (.slice ad m c)) (hy:Fr.ev fr y=some (.slice none 0 0)):Yld P N fr H Γ (.binOp .eql t x y t') ty (.bool (decide (ad=none))) :=
  fun a v h1 _ _ _ _ _=>by
    have he:decide (ad=none)=ad.isNone:=by cases ad<;>simp
    simp[execOp,h1.ev hx,h1.ev hy,eqGuard,binOp,wp_ v.w t e ad m c hu,he]
theorem tH_ {v:Vw} {cs:List Value} (h:bH_ v none cs):cs=[]:=by
 rcases h with h|⟨b,off,arr,T,fz,h1,_⟩
 ·exact h
 cases h1
theorem pc_ (b:Nat) (e:TypeId) (sz:Nat):bk_ e sz (.slice (some ⟨b,0,none⟩) 0 0) 0 [] [(b,.cells #[] e (0,0))]:=⟨by simp,.inr ⟨b,0,#[],rfl,rfl,Nat.le_refl _,by simp[maxLen],by simp,by simp⟩⟩
theorem uR_ (l:List Str) (ad:Option Addr) (cap:Nat) (hc:l.length≤cap) (hl:l.length≤1000000000):Tri Tryz.prog 96 #[.slice ad (List.length l) cap] [] [aC_ ad (List.flatMap by_ l)] (fun y:{y:Value×Hp // zR 9 1 by_ y.1 l y.2}=>y.1.1) (fun y=>y.1.2) (fun _=>[]):=by
 refine w_ Tryz.func96 rfl rfl Tryz.ntmps96 rfl fun v0=>?_;refine Zz 9 ?_;refine J_ (sX_ ix_ rfl rfl) rfl fun r1 hr1=>Zz 2 ?_
 cases r1
 ·replace hr1:=zdf hr1
  refine Zz 5 ?_;refine nz_ D_ X_ rfl fun b1=>S_ e_ (Zz 1 ?_)
  refine eo_ (news:=List.flatMap by_ l) ec_ (pc_ b1 9 1) rfl rfl (fun q=>absurd q hr1) hc bx_ (by rw[ej_ by_ 1 aK_]) zf (fun u hu=>be_ do_ hu) (by simp only[maxLen];omega) (by omega) rfl fun sv1 Hr1 hr1=>?_;refine S_ List.perm_append_comm ?_;have hq1:bk_ 9 1 sv1 (List.length (([]:List Str)++l)) (List.flatMap by_ (([]:List Str)++l)) Hr1:=by rw[List.length_append,List.flatMap_append];exact hr1
  refine Zz 4 ?_;exact T_ Tryz.results96 ⟨(sv1,Hr1),by simpa using hq1⟩ rfl bx_ zt
 replace hr1:=zdt hr1;refine Zz 7 ?_;refine ok_get (p:=List.flatMap by_ l=[]) (fun v _ h=>by have q:=h.1;subst hr1;exact tH_ q) fun hz=>?_;have hz2:l=[]:=List.eq_nil_of_length_eq_zero (by have:=congrArg List.length hz;rwa [ej_ by_ 1 aK_,Nat.mul_one]at this);exact T_ Tryz.results96 ⟨(.slice none 0 0,[]),by subst hz2;exact bk_.nil _ _⟩ rfl j_ zt
def atS (p:List Pc):List Str:=Lib.compact ((dl_ p++[[42],[33]]).mergeSort fun x y=>decide (x≤y))
theorem wI_ (p:List Pc):(atS p).length≤3*p.length+2:=by
  have:=iP_ ((dl_ p++[[42],[33]]).mergeSort fun x y=>decide (x≤y));have h2:=fe_ p;rw[List.length_mergeSort,List.length_append]at this;simp only[List.length_cons,List.length_nil]at this;unfold atS;omega
theorem oO_ (p:List Pc) (x:Str):x∈atS p↔x∈dl_ p∨x=[42]∨x=[33]:=by
  unfold atS;rw[lk_,List.mem_mergeSort,List.mem_append];simp
theorem atS_c (p:List Pc) (pad:Option Addr) (pcap:Nat) (hp:p.length≤100000000):Tri Tryz.prog 49 #[.slice pad (List.length p) pcap] [] [aC_ pad (List.flatMap Pc.cells p)] (fun y:{y:Option Addr×Nat // (atS p).length≤y.2∧y.2≤maxLen∧(y.1=none→y.2=0)}=>.slice y.1.1 (atS p).length y.1.2) (fun _=>[]) (fun y=>[aC_ y.1.1 ((atS p).flatMap by_)]):=by
  refine w_ Tryz.func49 rfl rfl Tryz.ntmps49 rfl fun v0=>?_;refine Zz 8 ?_;refine n_ (rN_ p pad pcap (by omega)) rfl j_ zf rfl fun⟨⟨aad,acap⟩,hac,ham⟩=>?_;dsimp only;refine n_ (uR_ (dl_ p) aad acap hac (by have:=fe_ p;omega)) rfl j_ zf rfl fun⟨⟨svc,Hcl⟩,hcl⟩=>?_;dsimp only;refine S_ ke_ (af_ D_ X_ aP_ rfl rfl rfl rfl rfl rfl fun b1=>?_);refine aJ_ (news:=List.flatMap by_ [[42],[33]]) ec_ hcl rfl rfl ad_ rfl (bF_ 0 rfl) (fun u hu=>be_ do_ hu) (by simp only[maxLen];(have:=fe_ p;(try simp only[List.length_append,List.length_cons,List.length_nil]);omega)) (by (have:=fe_ p;(try simp only[List.length_append,List.length_cons,List.length_nil]);omega)) rfl fun sv1 Hr1 hr1=>?_;refine S_ List.perm_append_comm ?_;have hq1:=zsa hr1;refine Zz 6 ?_;refine n_ (rv_ hq1 (by (have:=fe_ p;(try simp only[List.length_append,List.length_cons,List.length_nil]);omega))) rfl ad_ zt rfl fun⟨Hso1,hs1⟩=>?_;dsimp only;have hso1:bk_ 9 1 sv1 (List.length ((((dl_ p)++[[42],[33]])).mergeSort fun x y=>decide (x≤y))) (List.flatMap by_ ((((dl_ p)++[[42],[33]])).mergeSort fun x y=>decide (x≤y))) Hso1:=by rw[List.length_mergeSort];exact hs1
  refine Zz 2 ?_;refine S_ (da_ cL_) (Zz 3 ?_);refine n_ (mM_ hso1 (by rw[List.length_mergeSort];(have:=fe_ p;(try simp only[List.length_append,List.length_cons,List.length_nil]);omega))) rfl ad_ zt rfl fun⟨⟨svk2,Hk2⟩,hk2⟩=>?_;dsimp only;refine Zz 4 ?_;refine dv_ hk2 A_ fun ad2 cp2 had2 hcad2 hmad2 hzad2=>?_;exact T_ Tryz.results49 ⟨(ad2,cp2),hcad2,hmad2,hzad2⟩ (jg_ rfl had2) j_ zf
end Go.Proofs.YtaffcjgphlhppaaGreatDoor
namespace Go.Proofs
open Go.Shelf
def Tryz.sortFc_ren:Go.Shelf.Ren:=⟨fun|6=>53|15=>113|14=>112|28=>171|29=>172|20=>163|21=>164|22=>165|23=>166|24=>167|25=>168|26=>169|27=>170|46=>197|47=>198|48=>199|49=>200|50=>201|57=>224|n=>n,fun|22=>47|24=>24|25=>118|3=>3|39=>165|0=>0|53=>206|55=>88|4=>4|46=>199|45=>198|50=>203|5=>5|9=>9|66=>230|70=>159|76=>252|77=>253|n=>n,fun|n=>n⟩
theorem Tryz.sortFc:Go.Proofs.SlLaysF0.n6 Tryz.prog Tryz.sortFc_ren:={
  mixed:=by kernel_rfl
  f6:=⟨Tryz.f53.name,by decide,Tryz.func53.trans (congrArg some (by kernel_rfl))⟩
  f14:=⟨Tryz.f112.name,by decide,Tryz.func112.trans (congrArg some (by kernel_rfl))⟩
  f15:=Tryz.func113.trans (congrArg some (by kernel_rfl))
  f20:=⟨Tryz.f163.name,by decide,Tryz.func163.trans (congrArg some (by kernel_rfl))⟩
  f21:=⟨Tryz.f164.name,by decide,Tryz.func164.trans (congrArg some (by kernel_rfl))⟩
  f22:=⟨Tryz.f165.name,by decide,Tryz.func165.trans (congrArg some (by kernel_rfl))⟩
  f23:=⟨Tryz.f166.name,by decide,Tryz.func166.trans (congrArg some (by kernel_rfl))⟩
  f24:=⟨Tryz.f167.name,by decide,Tryz.func167.trans (congrArg some (by kernel_rfl))⟩
  f25:=⟨Tryz.f168.name,by decide,Tryz.func168.trans (congrArg some (by kernel_rfl))⟩
  f26:=⟨Tryz.f169.name,by decide,Tryz.func169.trans (congrArg some (by kernel_rfl))⟩
  f27:=⟨Tryz.f170.name,by decide,Tryz.func170.trans (congrArg some (by kernel_rfl))⟩
  f28:=Tryz.func171.trans (congrArg some (by kernel_rfl))
  f29:=Tryz.func172.trans (congrArg some (by kernel_rfl))
  f46:=⟨Tryz.f197.name,by decide,Tryz.func197.trans (congrArg some (by kernel_rfl))⟩
  f47:=Tryz.func198.trans (congrArg some (by kernel_rfl))
  f48:=Tryz.func199.trans (congrArg some (by kernel_rfl))
  f49:=⟨Tryz.f200.name,by decide,Tryz.func200.trans (congrArg some (by kernel_rfl))⟩
  f50:=⟨Tryz.f201.name,by decide,Tryz.func201.trans (congrArg some (by kernel_rfl))⟩
  f57:=⟨Tryz.f224.name,by decide,Tryz.func224.trans (congrArg some (by kernel_rfl))⟩
  t0:=Tryz.underlying0
  a0:=Tryz.isAgg0
  z0:=Tryz.sizeOf0
  v0:=Tryz.zeroValue0
  t3:=Tryz.underlying3
  a3:=Tryz.isAgg3
  z3:=Tryz.sizeOf3
  v3:=Tryz.zeroValue3
  t4:=Tryz.underlying4
  a4:=Tryz.isAgg4
  z4:=Tryz.sizeOf4
  v4:=Tryz.zeroValue4
  t5:=Tryz.underlying5
  a5:=Tryz.isAgg5
  z5:=Tryz.sizeOf5
  v5:=Tryz.zeroValue5
  t9:=Tryz.underlying9
  a9:=Tryz.isAgg9
  z9:=Tryz.sizeOf9
  v9:=Tryz.zeroValue9
  t22:=Tryz.underlying47
  a22:=Tryz.isAgg47
  z22:=Tryz.sizeOf47
  v22:=Tryz.zeroValue47
  t25:=Tryz.underlying118
  a25:=Tryz.isAgg118
  z25:=Tryz.sizeOf118
  v25:=Tryz.zeroValue118
  t39:=Tryz.underlying165
  a39:=Tryz.isAgg165
  z39:=Tryz.sizeOf165
  v39:=Tryz.zeroValue165
  t45:=Tryz.underlying198
  a45:=Tryz.isAgg198
  z45:=Tryz.sizeOf198
  v45:=Tryz.zeroValue198
  t46:=Tryz.underlying199
  a46:=Tryz.isAgg199
  z46:=Tryz.sizeOf199
  v46:=Tryz.zeroValue199
  t50:=Tryz.underlying203
  a50:=Tryz.isAgg203
  z50:=Tryz.sizeOf203
  v50:=Tryz.zeroValue203
  t53:=Tryz.underlying206
  a53:=Tryz.isAgg206
  z53:=Tryz.sizeOf206
  v53:=Tryz.zeroValue206
  t55:=Tryz.underlying88
  a55:=Tryz.isAgg88
  z55:=Tryz.sizeOf88
  v55:=Tryz.zeroValue88
  t66:=Tryz.underlying230
  a66:=Tryz.isAgg230
  z66:=Tryz.sizeOf230
  v66:=Tryz.zeroValue230
  t70:=Tryz.underlying159
  a70:=Tryz.isAgg159
  z70:=Tryz.sizeOf159
  v70:=Tryz.zeroValue159
  t76:=Tryz.underlying252
  a76:=Tryz.isAgg252
  z76:=Tryz.sizeOf252
  v76:=Tryz.zeroValue252
  t77:=Tryz.underlying253
  a77:=Tryz.isAgg253
  z77:=Tryz.sizeOf253
  v77:=Tryz.zeroValue253 }
end Go.Proofs
namespace Go.Proofs.YtaffcjgphlhppaaGreatDoor
open Go Go.Sx Go.Proofs
attribute [local irreducible] Code.wp wpList wpAnyH
open Go.Vs
instance:Inhabited Fc:=⟨⟨0,[],[],[],0,0⟩⟩
theorem mO_ (x y:Int):Fn0 Tryz.prog 115 #[.int .i64 x,.int .i64 y] (.int .i64 (Lib.compareInt x y)) :=
  eq_ (callable Tryz.func115 rfl rfl) fun v _ _=>(Tryz.cmp_Compare_int x y v.w).mono (by rintro e w' ⟨rfl,rfl⟩;exact⟨rfl,⟨rfl,rfl,rfl,Nat.le_refl _,fun _ _=>rfl⟩,.inr (Nat.le_refl _)⟩)
theorem mN_ (x y:Str):Fn0 Tryz.prog 116 #[str x,str y] (.int .i64 (Lib.compareBytes x y)) :=
  eq_ (callable Tryz.func116 rfl rfl) fun v _ _=>(Tryz.strings_Compare ⟨x.toArray⟩ ⟨y.toArray⟩ v.w).mono (by rintro e w' ⟨rfl,rfl⟩;exact⟨rfl,⟨rfl,rfl,rfl,Nat.le_refl _,fun _ _=>rfl⟩,.inr (Nat.le_refl _)⟩)
def orF:List Int→Int
  | []=>0
  | x::l=>if x=0 then orF l else x
theorem tZ_:∀ {l:List Int} {i:Nat} {x:Int},(∀ y∈l.take i,y=0)→l[i]? = some x→x≠0→orF l=x
  | [],_,_,_,h,_=>by simp at h
  | y::l,0,x,_,h,hx=>by simp at h;subst h;simp[orF,hx]
  | y::l,i+1,x,h0,h,hx=>by
    have hy:y=0:=h0 y (by simp);rw[orF,if_pos hy];exact tZ_ (i:=i) (fun z hz=>h0 z (by rw[List.take_succ_cons];exact List.mem_cons_of_mem _ hz)) (by simpa using h) hx
theorem pz_:∀ {l:List Int},(∀ y∈l,y=0)→orF l=0
  | [],_=>rfl
  | y::l,h=>by rw[orF,if_pos (h y (by simp))];exact pz_ fun z hz=>h z (by simp[hz])
theorem cI_neg (x y:Int):Lib.compareInt x y<0↔x<y:=by unfold Lib.compareInt;(repeat' split)<;>omega
theorem wB_ (x y:Int):Lib.compareInt x y=0↔x=y:=by unfold Lib.compareInt;(repeat' split)<;>omega
theorem uU_:∀ (x y:Str),Lib.compareBytes x y<0↔x<y
 | [],[]=>by simp[Lib.compareBytes]
 | [],b::y=>by simp[Lib.compareBytes]
 | a::x,[]=>by simp[Lib.compareBytes]
 | a::x,b::y=>by
   rw[Lib.compareBytes,List.cons_lt_cons_iff]
   by_cases h1:a<b
   · rw[if_pos h1];simp[h1]
   · by_cases h2:b<a
     · rw[if_neg h1,if_pos h2]
       have:a≠b:=fun e=>by subst e;exact h1 h2
       simp[h1,this]
     · have e:a=b:=UInt8.le_antisymm (UInt8.not_lt.1 h2) (UInt8.not_lt.1 h1)
       rw[if_neg h1,if_neg h2,uU_ x y];simp[e]
theorem rM_:∀ (x y:Str),Lib.compareBytes x y=0↔x=y
 | [],[]=>by simp[Lib.compareBytes]
 | [],b::y=>by simp[Lib.compareBytes]
 | a::x,[]=>by simp[Lib.compareBytes]
 | a::x,b::y=>by
   rw[Lib.compareBytes]
   by_cases h1:a<b
   · rw[if_pos h1]
     have:a≠b:=fun e=>by subst e;exact absurd h1 (UInt8.lt_irrefl a)
     simp[this]
   · by_cases h2:b<a
     · rw[if_neg h1,if_pos h2]
       have:a≠b:=fun e=>by subst e;exact h1 h2
       simp[this]
     · have e:a=b:=UInt8.le_antisymm (UInt8.not_lt.1 h2) (UInt8.not_lt.1 h1)
       rw[if_neg h1,if_neg h2,rM_ x y];simp[e]
def lv_ (x y:Fc):Int:=orF [Lib.compareInt x.kind y.kind,Lib.compareBytes x.a y.a,Lib.compareBytes x.b y.b,Lib.compareBytes x.r y.r,Lib.compareInt x.lo y.lo,Lib.compareInt x.hi y.hi]
theorem jb_ (x:Int) (l:List Int):orF (x::l)<0↔x<0∨x=0∧orF l<0:=by
  rw[orF];split<;>omega
theorem uQ_ (x y:Fc):lv_ x y<0↔x.lt y:=by
  unfold lv_ Fc.lt;rw[jb_,jb_,jb_,jb_,jb_,jb_];simp only[cI_neg,wB_,uU_,rM_,orF,Int.lt_irrefl,and_false,or_false]
theorem orF_c (l:List Int) (ad:Option Addr) (cap:Nat) (hl:l.length≤1000):Tri Tryz.prog 114 #[.slice ad (List.length l) cap] [] [aC_ ad (List.flatMap eS_ l)] (fun _:Unit=>.int .i64 (orF l)) (fun _=>[]) (fun _=>[]):=by
 refine w_ Tryz.func114 rfl rfl Tryz.ntmps114 rfl fun v0=>?_;refine Zz 19 ?_;refine aF_ (ι:={y:Nat // y≤l.length∧∀ z∈l.take y,z=0}) (fun y=>[(3,.int .i64 0),(6,.slice ad (List.length l) cap),(7,.int .i64 (List.length l:Int)),(8,.int .i64 (y.1:Int))]) (fun y=>([])) (fun y=>[aC_ ad (List.flatMap eS_ l)]) (fun y=>l.length - y.1) ⟨(0:Nat),by simp,by simp⟩ zl j_ zh ?_;rintro ⟨i,hi,h0⟩;dsimp only at hi h0 ⊢;refine Zi 2 (fun hr1=>?_) fun hr1=>?_
 ·refine Zz 13 ?_
  exact T_ Tryz.results114 () (aG_ rfl (pz_ fun y hy=>h0 y (by rw[List.take_of_length_le (by omega)];exact hy)).symm) j_ zt
 obtain⟨hlx1,x1,hx1,hmx1⟩:=zge (show i<List.length l by omega);refine Zi 19 (fun hr2=>?_) fun hr2=>?_
 ·refine Zz 10 ?_
  exact aa_ ⟨i+1,hlx1,fun y hy=>by rw[List.take_add_one,hx1]at hy;simp only[Option.toList_some,List.mem_append,List.mem_singleton]at hy;rcases hy with hy|rfl;exact h0 y hy;omega⟩ (by dsimp only;omega) zl j_ zh
 refine Zz 10 ?_;exact T_ Tryz.results114 () (aG_ rfl (tZ_ h0 hx1 (by assumption)).symm) j_ zt
theorem cmpF_c (x y:Fc):Fn0 Tryz.prog 54 #[Fc.val x,Fc.val y] (.int .i64 (lv_ x y)):=by
  refine w_ Tryz.func54 rfl rfl Tryz.ntmps54 rfl fun v0=>?_;refine Zz 2 ?_;refine ah_ rfl rfl fun b1=>ah_ rfl rfl fun b2=>Zz 5 ?_
  refine o_ 9 [0,1,2,3,5,6,7,8,10,11,12,13,15,16,17,18,20,21,22,23,25,26,27,28] zk zs (Zz 25 ?_);refine i_ 4 rfl zk (n_ (mO_ x.kind y.kind) rfl j_ zt rfl fun _=>Zz 3 ?_);refine i_ 9 rfl zk (n_ (mN_ x.a y.a) rfl j_ zt rfl fun _=>Zz 3 ?_);refine i_ 14 rfl zk (n_ (mN_ x.b y.b) rfl j_ zt rfl fun _=>Zz 3 ?_);refine i_ 19 rfl zk (n_ (mN_ x.r y.r) rfl j_ zt rfl fun _=>Zz 3 ?_);refine i_ 24 rfl zk (n_ (mO_ x.lo y.lo) rfl j_ zt rfl fun _=>Zz 3 ?_);refine i_ 29 rfl zk (n_ (mO_ x.hi y.hi) rfl j_ zt rfl fun _=>Zz 3 ?_);refine i_ 30 rfl zk (af_ aQ_ aw_ dd_ rfl rfl rfl rfl rfl rfl fun b3=>?_);refine bh_ (List.flatMap eS_ [(Lib.compareInt x.kind y.kind),(Lib.compareBytes x.a y.a),(Lib.compareBytes x.b y.b),(Lib.compareBytes x.r y.r),(Lib.compareInt x.lo y.lo),(Lib.compareInt x.hi y.hi)]) e_ rfl ?_;refine Zz 3 ?_;refine i_ 31 rfl zk (n_ (orF_c [(Lib.compareInt x.kind y.kind),(Lib.compareBytes x.a y.a),(Lib.compareBytes x.b y.b),(Lib.compareBytes x.r y.r),(Lib.compareInt x.lo y.lo),(Lib.compareInt x.hi y.hi)] (some ⟨b3,0,none⟩) 6 (by simp)) rfl j_ zf rfl fun _=>Zz 3 ?_);refine o_ 0 [32] zk zs (Zz 5 ?_);exact T_ Tryz.results54 () (aG_ rfl (by rfl)) j_ zt
end Go.Proofs.YtaffcjgphlhppaaGreatDoor
namespace Go.Proofs.YtaffcjgphlhppaaGreatDoor
open Go Go.Sx Go.Proofs
attribute [local irreducible] Code.wp wpList wpAnyH
open Go.Vs
structure Cl where
  atoms:List Str
  aad:Option Addr
  acap:Nat
  facts:List Fc
  fad:Option Addr
  fcap:Nat
def Cl.cells (c:Cl):List Value:=[.slice c.aad c.atoms.length c.acap,.slice c.fad c.facts.length c.fcap]
theorem Cl.cells_len (c:Cl):c.cells.length=2:=rfl
def Cl.val (c:Cl):Value:=.agg c.cells.toArray
def Cl.row (c:Cl):List Fct:=[aC_ c.aad (List.flatMap by_ c.atoms),aC_ c.fad (List.flatMap Fc.cells c.facts)]
def Cl.no:Cl:=Cl.mk [] none 0 [] none 0
structure Cl.ok (c:Cl):Prop where
  al:c.atoms.length≤c.acap
  am:c.acap≤maxLen
  az:c.aad=none→c.acap=0
  fl:c.facts.length≤c.fcap
  fm:c.fcap≤maxLen
  fz:c.fad=none→c.fcap=0
theorem vE_ {s:Str} (h:cp_ s=true):s≠[]:=fun e=>by subst e;revert h;decide
theorem ss_ {s:Str} (h:bb_ s=true):s≠[]:=fun e=>by subst e;revert h;decide
theorem rU_ {p:Pc} (h:p.valid=true):p.vok:=by
 unfold Pc.valid at h
 split at h
 ·simp at h
 rename_i h1
 split at h
 ·simp at h
 rename_i h2
 split at h
 ·simp at h
 have hk:p.kind=1∨p.kind=2∨p.kind=3∨p.kind=4∨p.kind=5∨p.kind=6∨p.kind=7∨p.kind=8∨p.kind=9:=by omega
 have hn:∀ {b:Bool} {s:Str},cs_ b s cp_=true→b=true→s≠[]:=fun h1 h2=>by
   subst h2;simp[cs_]at h1;exact vE_ h1
 have hn':∀ {b:Bool} {s:Str},cs_ b s bb_=true→b=true→s≠[]:=fun h1 h2=>by
   subst h2;simp[cs_]at h1;exact ss_ h1
 simp only[Bool.and_eq_true]at h;obtain⟨⟨⟨⟨⟨_,_⟩,_⟩,hr⟩,hs⟩,ht⟩:=h;unfold Pc.rok at *;refine⟨⟨fun q=>?_,fun q=>?_,fun q=>?_⟩,fun q=>?_⟩
 ·rcases q with q|q|q|q|q|q|q<;>rw[q]at hr
  ·exact hn hr (by decide)
  ·exact hn hr (by decide)
  ·exact hn hr (by decide)
  ·exact hn' hr (by decide)
  ·exact hn hr (by decide)
  ·exact hn hr (by decide)
  exact hn' hr (by decide)
 ·rw[q]at hs ht;exact⟨hn hs (by decide),hn ht (by decide)⟩
 ·rw[q]at ht;exact hn ht (by decide)
 rcases q with q|q<;>rw[q]at h2<;>have:(nus 8).numbers=true∧(nus 9).numbers=true:=by decide
 all_goals simp only[this.1,this.2,true_and]at h2;omega
theorem uS_ {p:List Pc} (h:bT_ p=0):p.length≤16384∧p.all Pc.valid=true:=by
 unfold bT_ at h
 split at h
 ·simp at h
 split at h
 ·exact⟨by omega,by assumption⟩
 simp at h
theorem sT_ {p:List Pc} (h:bT_ p=0):∀ x∈p,x.vok:=fun x hx=>rU_ (List.all_eq_true.1 (uS_ h).2 x hx)
section
variable {P:Program} {N:Nf} {v0:Vw} {H0:Hp} {fr:Fr} {H F Ha Hu Ho Hi Hr Hm Hs:Hp} {Γ:List Fct}
theorem ge_ {fn:Func} {t s b n:Nat} {ty T:TypeId} {us:List Value} {u:Value} (i:Nat) (hr:fn.results=#[.cell t ty,.tmp s]) (ha:∀ w,(isAgg ty).run P w=.ok true w) (hs:∀ w,(sizeOf ty).run P w=.ok n w) (hn:us.length=n) (hx:Fr.get fr t=some (zp_ b 0)) (hu:Fr.get fr s=some u)
    (hi:H[i]? = some (b,.cells us.toArray T (0,0))) (a:Act) (v:Vw) (h1:Fr.sat N fr a) (h2:v.sat H):(results fn a.tmps).run P v.w=.ok (.tuple #[.agg us.toArray,u]) v.w:=by
  have e:=h1.val t _ hx;have e2:=h1.val s _ hu;have hl:=cK_ (t:=ty) (w:=v.w) (b:=b) (off:=0) ha hs hn (fun j y hj=>by rw[Nat.zero_add,fu_ h2 hi];simpa using hj);simp[results,hr,e,e2,asAddr,hl]
theorem qI_ (h:H.Perm ((Ha++(Hu++(Ho++(Hi++(Hr++(Hm++Hs))))))++F)):H.Perm (((Ha++(Hu++(Ho++(Hi++(Hr++Hm)))))++Hs)++F):=by simpa [List.append_assoc] using h
theorem ol_:(((Ha++(Hu++(Ho++(Hi++(Hr++Hm)))))++Hs)++F).Perm (Ha++(Hu++(Ho++(Hi++(Hr++(Hm++(Hs++F))))))):=by simp[List.append_assoc]
theorem vL_ {a b c:Nat×Obj} {Hq:Hp}:((Ha++(Hu++(Ho++(Hi++(Hr++(Hm++(a::b::([c]++Hq))))))))++F).Perm (Ha++(Hu++(Ho++(Hi++(Hr++(Hm++(a::b::([c]++(Hq++F))))))))):=by simp[List.append_assoc]
end
theorem gc_:hN_ Tryz.prog 49 [(0,1),(1,1)] [.slice none 0 0,.slice none 0 0]:=⟨_,Tryz.zeroValue49,dr_,fun w=>by simp[eA_,ez_]⟩
end Go.Proofs.YtaffcjgphlhppaaGreatDoor
namespace Go.Proofs.YtaffcjgphlhppaaGreatDoor
open Go Go.Sx Go.Proofs
attribute [local irreducible] Code.wp wpList wpAnyH
open Go.Vs Go.Shelf Go.RowKit
theorem oW_ {v v':Vw} (h:v.to [] v' []) (hs:¬ v.sl):∃ q os,v'.w=Sort.grow (v.w.drewN q) os:=by
 have hd:v.w.drawn≤v'.w.drawn:=h.dr.resolve_left hs;refine⟨v'.w.drawn - v.w.drawn,v'.w.heap.extract v.w.heap.size v'.w.heap.size,?_⟩
 have hh:v'.w.heap=v.w.heap++v'.w.heap.extract v.w.heap.size v'.w.heap.size:=by
   apply Array.ext_getElem?
   intro i;have hsz:=h.size;rw[Array.getElem?_append]
   split
   · rename_i hi;exact h.block i hi (by simp)
   · rename_i hi
     rw[Array.getElem?_extract]
     split
     · congr 1;omega
     · rw[Array.getElem?_eq_none (by omega)]
 have e1:=h.os;have e2:=h.tape;have e3:=h.output;obtain⟨im',⟨hp,tp,dn,os',ou⟩,sl'⟩:=v';simp only at e1 e2 e3 hh hd;simp only[Sort.grow,World.drewN,World.mk.injEq];exact⟨hh,e2,by omega,e1,e3⟩
theorem ww_ (blk off size:Nat) (w:World):CmpLays Tryz.prog 54 #[] Fc.cells 6 lv_ blk off size w:=fun m os dk _ x y=>by
  have h:=(cmpF_c x y).run ⟨fun _=>False,sortWorldK Fc.cells 6 w blk off m dk os,False⟩ ⟨by simp,by simp,fun _ h=>h.elim⟩ trivial;refine h.mono ?_;rintro e w' ⟨_,v',rfl,rfl,_,_,ht⟩;obtain⟨q,os',hw⟩:=oW_ ht (fun h=>h);exact⟨rfl,q,os',hw⟩
theorem ltF (x y:Fc):ltOf lv_ x y=decide (x.lt y):=by unfold ltOf;rw[decide_eq_decide];exact uQ_ x y
theorem swoF:Sort.SWO (ltOf lv_) where
 irrefl x:=by rw[ltF];exact decide_eq_false x.lt_irr
 trans x y z h1 h2:=by rw[ltF,decide_eq_true_eq]at *;exact Fc.lt_trans h1 h2
 ntrans x y z h1 h2:=by
   rw[ltF,decide_eq_false_iff_not]at *;intro h;rcases Fc.lt_tri x y with g|g|g
   · exact h1 g
   · subst g;exact h2 h
   · exact h2 (Fc.lt_trans g h)
theorem totF (x y:Fc) (h1:ltOf lv_ x y=false) (h2:ltOf lv_ y x=false):x=y:=by
 rw[ltF,decide_eq_false_iff_not]at h1 h2;rcases Fc.lt_tri x y with g|g|g
 ·exact absurd g h1
 ·exact g
 exact absurd g h2
theorem mG_ (xs:List Fc):Sort.flatK Fc.cells 6 xs.toArray=(xs.flatMap Fc.cells).toArray:=by
 apply Array.ext_getElem?
 intro t;have e0:(xs.flatMap Fc.cells).toArray[t]? = (xs.flatMap Fc.cells)[t]? := by simp
 rw[e0]
 by_cases ht:t<xs.length*6
 ·have hd:t / 6<xs.length:=by omega
  have:=kR_ Fc.cells 6 Fc.cells_len xs (t / 6) (t%6) xs[t / 6] (List.getElem?_eq_getElem hd) (Nat.mod_lt _ (by decide));rw[show t / 6*6+t%6=t by omega]at this;rw[this];simp only[Sort.flatK,Array.getElem?_map,List.size_toArray];rw[Array.getElem?_eq_getElem (by simpa using ht)];simp only[Array.getElem_range,Option.map_some];rw[getElem!_pos xs.toArray (t / 6) (by simpa using hd)];have hl:t%6<(Fc.cells xs[t / 6]).length:=by rw[Fc.cells_len];omega
  rw[List.getElem?_eq_getElem hl];simp only[List.getElem_toArray];rw[getElem!_pos (Fc.cells xs[t / 6]) (t%6) hl]
 rw[List.getElem?_eq_none (by rw[ej_ Fc.cells 6 Fc.cells_len];omega),Array.getElem?_eq_none (by simp[Sort.flatK];omega)]
theorem pa_ {P:Program} {Γ:List Fct} {f:FuncId} {args:Array Value} {r:Value} {g:Nat} {cur:Array Value} {T:TypeId} {d:Array Value} (hc:gT_ P f)
    (h:∀ v:Vw,v.sat [(g,.cells cur T (0,0))]→Calls P f args v.w fun e w'=>e=.returned r∧∃ n os,w'=Sort.grow (Sort.putRow id (Sort.ahead v.w n) g 0 d) os) :
    Tri P f args [(g,.cells cur T (0,0))] Γ (fun _:Unit=>r) (fun _=>[(g,.cells (Sort.putCells id 0 d cur) T (0,0))]) (fun _=>[]) :=
  ⟨hc,fun v h1 _=>(h v h1).mono fun e w' ⟨he,n,os,hw⟩=>by
    have hg:=(h1.own _ List.mem_cons_self);have hlt:g<v.w.heap.size:=(Array.getElem?_eq_some_iff.1 hg.1).1
    have hb:∀ b,b<v.w.heap.size→w'.heap[b]? = if b=g then some (.cells (Sort.putCells id 0 d cur) T (0,0)) else v.w.heap[b]? := fun b hb=>by
      rw[hw];simp only[Sort.grow,Sort.putRow,Sort.mapBlock,Sort.ahead];rw[Array.getElem?_append_left (by simpa using hb),Array.getElem?_modify]
      by_cases e:b=g
      · subst e
        simp only[if_true,hg.1,Option.map_some,Sort.onCells]
      · rw[if_neg (fun q=>e q.symm),if_neg e]
    have hsz:v.w.heap.size≤w'.heap.size:=by rw[hw];simp[Sort.grow,Sort.putRow,Sort.mapBlock,Sort.ahead]
    refine⟨(),⟨v.im,w',v.sl⟩,he,rfl,⟨fun p hp=>?_,by simp,fun b hbb=>Nat.lt_of_lt_of_le (h1.lt b hbb) hsz⟩,trivial,⟨by rw[hw];rfl,by rw[hw];rfl,by rw[hw];rfl,hsz,fun b hbb hn=>?_,fun _ h=>h,fun _ h=>.inl h,fun b hm=>.inl (by simpa using hm),rfl,.inr (by rw[hw];exact Nat.le_add_right _ _)⟩⟩
    · simp only[List.mem_singleton]at hp
      subst hp;exact⟨by show w'.heap[g]? = _;rw[hb g hlt,if_pos rfl],hg.2⟩
    · have hn':b≠g:=by simpa using hn
      show w'.heap[b]? = _
      rw[hb b hbb,if_neg hn']⟩
theorem sk_ {cur:Array Value} {d:List Value} (hs:d.length≤cur.size):(Sort.putCells id 0 d.toArray cur).toList.take d.length=d:=by
 apply List.ext_getElem?
 intro j;rw[List.getElem?_take]
 split
 ·rename_i hj
  simp only[Sort.putCells,Array.getElem?_toList,Array.getElem?_mapIdx];rw[Array.getElem?_eq_getElem (by omega)];simp only[Option.map_some,Nat.zero_le,true_and,Nat.zero_add,List.size_toArray,hj,if_true,Nat.sub_zero];rw[List.getElem?_eq_getElem hj,getElem!_pos d.toArray j (by simpa using hj)];rfl
 rename_i hj
 rw[List.getElem?_eq_none (by omega)]
theorem sl_ {cur d:Array Value}:(Sort.putCells id 0 d cur).size=cur.size:=by simp[Sort.putCells]
theorem holdsV {g:Nat} {cur:Array Value} {T:TypeId} {xs:List Value} {v:Vw} (hs:v.sat [(g,.cells cur T (0,0))]) (ht:cur.toList.take xs.length=xs):Sort.Holds id v.w g 0 xs.toArray:=by
 intro j hj;have hb:=(hs.own _ List.mem_cons_self).1;simp only[List.size_toArray]at hj
 have hc:cur[j]? = some xs[j]:=by
   have:=congrArg (fun l=>l[j]?) ht;simp only[List.getElem?_take,hj,if_true,Array.getElem?_toList]at this;rw[this,List.getElem?_eq_getElem hj]
 refine⟨?_,?_⟩
 ·simp only[World.cell?,Nat.zero_add,hb,Option.isSome_none,Bool.false_eq_true,if_false]
  rw[hc,getElem!_pos xs.toArray j (by simpa using hj)];rfl
 simp[World.frozen?,hb]
def jx_ (xs:List Fc):List Fc:=xs.mergeSort fun x y=>!(ltOf lv_) y x
theorem hs_ (xs:List Fc):(jx_ xs).length=xs.length:=List.length_mergeSort _
theorem tt_ (xs:List Fc) (x:Fc):x∈jx_ xs↔x∈xs:=List.mem_mergeSort
theorem ts_ {xs:List Fc} (h:xs.Nodup):Srt (jx_ xs):=by
 have h1:(jx_ xs).Pairwise fun x y=>(!(ltOf lv_) y x)=true:=List.pairwise_mergeSort
   (fun a b c h1 h2=>by simp only[Bool.not_eq_true']at *;exact swoF.ntrans c b a h2 h1)
   (fun a b=>by
     simp only[Bool.or_eq_true,Bool.not_eq_true'];rw[ltF,ltF,decide_eq_false_iff_not,decide_eq_false_iff_not];rcases Fc.lt_tri a b with g|g|g
     · exact .inl fun q=>Fc.lt_irr a (Fc.lt_trans g q)
     · subst g;exact .inl a.lt_irr
     · exact .inr fun q=>Fc.lt_irr a (Fc.lt_trans q g)) xs
 have h2:(jx_ xs).Nodup:=(List.mergeSort_perm xs _).nodup_iff.2 h;refine (h1.and h2).imp ?_;rintro x y ⟨a,b⟩;simp only[Bool.not_eq_true',ltF,decide_eq_false_iff_not]at a;rcases Fc.lt_tri x y with g|g|g
 ·exact g
 ·exact absurd g b
 exact absurd g a
theorem vu_ {sv:Value} {xs:List Fc} {Hr:Hp} (h:bk_ 24 6 sv xs.length (xs.flatMap Fc.cells) Hr) (hl:xs.length≤1000000000000) :
    Tri Tryz.prog 53 #[sv,.func (.func 54) #[] #[]] Hr [] (fun _:{y:Hp // bk_ 24 6 sv (jx_ xs).length ((jx_ xs).flatMap Fc.cells) y}=>.tuple #[]) (fun y=>y.1) (fun _=>[]):=by
  rcases h.2 with⟨rfl,h2,rfl⟩|⟨g,cap,cur,rfl,rfl,h3,h4,h5,h6⟩
  · obtain rfl:xs=[]:=List.eq_nil_of_length_eq_zero h2
    have T:=eq_ (P:=Tryz.prog) (H:=[]) (Γ:=[]) (callable Tryz.func53 rfl rfl) (fun v _ _=>(AnyF.slices_SortFunc_none Tryz.sortFc none 0 (.func (.func 54) #[] #[]) v.w).mono (by rintro e w' ⟨rfl,rfl⟩;exact⟨rfl,⟨rfl,rfl,rfl,Nat.le_refl _,fun _ _=>rfl⟩,.inr (Nat.le_refl _)⟩));exact⟨T.callable,fun v a b=>(T.run v a b).mono (by rintro e w' ⟨x,v',e1,e2,e3,e4,e5⟩;exact⟨⟨[],by simpa [jx_] using bk_.nil _ _⟩,v',e1,e2,e3,e4,e5⟩)⟩
  · have hx:(xs.flatMap Fc.cells).length=xs.length*6:=ej_ Fc.cells 6 Fc.cells_len xs
    have T:=pa_ (P:=Tryz.prog) (Γ:=[]) (r:=.tuple #[]) (g:=g) (cur:=cur) (T:=24) (d:=((jx_ xs).flatMap Fc.cells).toArray) (f:=53) (args:=#[.slice (some ⟨g,0,none⟩) xs.length cap,.func (.func 54) #[] #[]]) (callable Tryz.func53 rfl rfl) (fun v hs=>by
      have hh:=AnyQ.slices_SortFunc_total Tryz.sortFc 6 aS_ y_ Fc.cells Fc.cells_len (fun x u hu=>List.all_eq_true.1 x.cells_one u hu) lv_ swoF 54 #[] g 0 cap xs.toArray v.w (fun args w=>(callable Tryz.func54 rfl rfl) args w) (ww_ g 0 _ v.w) (by unfold Sort.HoldsK;rw[mG_];exact holdsV hs (by rw[hx];exact h6)) (Array.getElem?_eq_some_iff.1 (hs.own _ List.mem_cons_self).1).1 (by simp;omega) totF;refine hh.mono ?_;rintro e w' ⟨rfl,n,os,rfl⟩;refine⟨rfl,n,os,?_⟩;unfold sortWorldK Sort.putRowK;rw[show ((xs.toArray.toList.mergeSort fun x y=>!(ltOf lv_) y x))=jx_ xs from rfl,mG_])
    refine⟨T.callable,fun v a b=>(T.run v a b).mono ?_⟩;rintro e w' ⟨x,v',e1,e2,e3,e4,e5⟩;have hy:((jx_ xs).flatMap Fc.cells).length=xs.length*6:=by rw[ej_ Fc.cells 6 Fc.cells_len,hs_]
    refine⟨⟨_,by rw[hy,hs_],.inr ⟨g,cap,_,by rw[hs_],rfl,by rw[hs_];exact h3,h4,by rw[sl_];exact h5,?_⟩⟩,v',e1,e2,e3,e4,e5⟩;have:=sk_ (cur:=cur) (d:=(jx_ xs).flatMap Fc.cells) (by rw[hy,h5];omega);rw[hy]at this;rw[hs_];exact this
end Go.Proofs.YtaffcjgphlhppaaGreatDoor
namespace Go.Proofs.YtaffcjgphlhppaaGreatDoor
open Go Go.Sx Go.Proofs
attribute [local irreducible] Code.wp wpList wpAnyH
open Go.Vs
section
variable {P:Program} {N:Nf} {v0:Vw} {H0:Hp} {fr:Fr} {H F:Hp} {Γ:List Fct} {K D:Type} [DecidableEq K]
theorem mD_:∀ (B:Hp) {v:Vw},aB_ (B.map fun p=>bJ_ p.1 p.2) v→∀ p∈B,v.im p.1∧v.w.heap[p.1]? = some p.2
 | [],_,_,_,h=>by simp at h
 | q::B,v,h,p,hp=>by
   rcases List.mem_cons.1 hp with rfl|hp
   · exact h.1
   · exact mD_ B h.2 p hp
theorem ub_ {k:Act→World→Prop} {kv:K→Value} {cells:D→List Value} {kt e:TypeId} {sz mb:Nat} {l:List (K×D)} {Hm:Hp} (hK:KeyT P kt kv) (hm:ey_ kv cells e sz l mb Hm) (hH:H.Perm (Hm++F))
    (h:∀ adr,Ok N v0 H0 k fr F (mlF P kt kv cells mb l adr::Γ)):Ok N v0 H0 k fr H Γ:=by
  obtain⟨adr,ha⟩:=hm.lent hK;refine pC_ Hm hH (pD_ (fun v _ hv=>?_) (h adr));rw[fA_]at hv;refine⟨ha v fun p hp=>?_,hv.2⟩;have:=hv.1;exact mD_ Hm.reverse (by rw[List.map_reverse]at *;exact this) p (List.mem_reverse.2 hp)
theorem gA_ {tF:TypeId} {E:Emt P tF} {nw fm:List Fc} {Hs:Hp} {ty t kt et:TypeId} {x:Operand} (hS:E.St nw fm Hs) (hu:∀ w,(underlying t).run P w=.ok (.map kt et) w) (hx:Fr.ev fr x=some (.map (some E.kb))) (hp:H.Perm (Hs++F)) :
    Yld P N fr H Γ (.call ⟨.builtin .len,#[x],#[t]⟩) ty (.int .i64 ((E.kof nw).length:Int)):=by
  obtain⟨es,c,g1,g2⟩:=E.known hS;exact lH_ g2 hu hx fun v h _=>mh_ hp g1 h
end
def qQ_ (x:Ix) (n:Nat):Prop:=x.above.length≤n∧x.under.length≤n∧x.frm.length≤n∧x.into.length≤n∧x.ranges.length≤n∧x.firms.length≤n
theorem us_:qQ_ Ix.nil 0:=by simp[qQ_,Ix.nil]
theorem km_ {x:Ix} {n:Nat} (h:qQ_ x n) (b:Bool) (f:Fc):qQ_ (x.add b f) (n+1):=by
 obtain⟨h1,h2,h3,h4,h5,h6⟩:=h;unfold Ix.add qQ_
 split
 ·simp;omega
 split
 ·simp;omega
 split
 ·cases b<;>simp<;>omega
 omega
theorem pS_ {x:Ix} {n:Nat} (h:qQ_ x n) (hn:n≤1000000000):(∀ k,(lat x.above k).length≤1000000000∧(lat x.under k).length≤1000000000)∧(∀ k,(lat x.frm k).length≤1000000000∧(lat x.into k).length≤1000000000∧(lat x.ranges k).length≤1000000000∧(lat x.firms k).length≤1000000000):=by
 obtain⟨h1,h2,h3,h4,h5,h6⟩:=h;refine⟨fun k=>⟨?_,?_⟩,fun k=>⟨?_,?_,?_,?_⟩⟩
 ·have:=gY_ x.above k;omega
 ·have:=gY_ x.under k;omega
 ·have:=gY_ x.frm k;omega
 ·have:=gY_ x.into k;omega
 ·have:=gY_ x.ranges k;omega
 have:=gY_ x.firms k;omega
theorem vB_ (B:EngB) (E:Emt Tryz.prog 24) (A0:EngA) (pm:List (Ky×Pc)) (x:Ix) (f:Fc) (nw fm:List Fc) (Hs:Hp) (hS:E.St nw fm Hs) (Ha Hu Ho Hi Hr Hm:Hp) (hI:IxO 9 24 B x ⟨Ha,Hu,Ho,Hi,Hr,Hm⟩) (hpl:∀ k,(lat pm k).length≤1000000000) (hxl:∀ k,(lat x.above k).length≤1000000000∧(lat x.under k).length≤1000000000) (hyl:∀ k,(lat x.frm k).length≤1000000000∧(lat x.into k).length≤1000000000∧(lat x.ranges k).length≤1000000000∧(lat x.firms k).length≤1000000000) (hf:f.kind=3→-1099511627776≤f.lo∧f.lo≤f.hi∧f.hi≤1099511627776) (hq:f.kind=3→∀ y∈lat pm (Ky.mk 9 f.r []),-1099511627776≤y.lo∧y.lo≤y.hi∧y.hi≤1099511627776) (hk:f.kind=1):∀ (j:Nat) {fv:Value},(rlV B.g 1)[j]? = some fv→∃ n:Nat,fv=.func (.func n) #[zp_ B.g 0] #[]∧Tri Tryz.prog n #[zp_ B.g 0,f.val] ((Ha++(Hu++(Ho++(Hi++(Hr++Hm)))))++Hs) [gF B E,pF B pm A0,E.ef] (fun _:{H':Hp // E.St (rl E.stp E.kof pm x f j (nw,fm)).1 (rl E.stp E.kof pm x f j (nw,fm)).2 H'}=>.tuple #[]) (fun y=>(Ha++(Hu++(Ho++(Hi++(Hr++Hm)))))++y.1) (fun _=>[])
  | 0,_,h=>⟨100,(Option.some.inj h).symm,rl10_c B E A0 pm x f nw fm Hs hS Ha Hu Ho Hi Hr Hm hI hpl hxl hyl hf hq hk⟩
  | 1,_,h=>⟨101,(Option.some.inj h).symm,rl11_c B E A0 pm x f nw fm Hs hS Ha Hu Ho Hi Hr Hm hI hpl hxl hyl hf hq hk⟩
  | 2,_,h=>⟨102,(Option.some.inj h).symm,rl12_c B E A0 pm x f nw fm Hs hS Ha Hu Ho Hi Hr Hm hI hpl hxl hyl hf hq hk⟩
  | 3,_,h=>⟨103,(Option.some.inj h).symm,rl13_c B E A0 pm x f nw fm Hs hS Ha Hu Ho Hi Hr Hm hI hpl hxl hyl hf hq hk⟩
  | 4,_,h=>⟨104,(Option.some.inj h).symm,rl14_c B E A0 pm x f nw fm Hs hS Ha Hu Ho Hi Hr Hm hI hpl hxl hyl hf hq hk⟩
  | 5,_,h=>⟨105,(Option.some.inj h).symm,rl15_c B E A0 pm x f nw fm Hs hS Ha Hu Ho Hi Hr Hm hI hpl hxl hyl hf hq hk⟩
  | j+6,_,h=>by simp[rlV]at h
theorem vA_ (B:EngB) (E:Emt Tryz.prog 24) (A0:EngA) (pm:List (Ky×Pc)) (x:Ix) (f:Fc) (nw fm:List Fc) (Hs:Hp) (hS:E.St nw fm Hs) (Ha Hu Ho Hi Hr Hm:Hp) (hI:IxO 9 24 B x ⟨Ha,Hu,Ho,Hi,Hr,Hm⟩) (hpl:∀ k,(lat pm k).length≤1000000000) (hxl:∀ k,(lat x.above k).length≤1000000000∧(lat x.under k).length≤1000000000) (hyl:∀ k,(lat x.frm k).length≤1000000000∧(lat x.into k).length≤1000000000∧(lat x.ranges k).length≤1000000000∧(lat x.firms k).length≤1000000000) (hf:f.kind=3→-1099511627776≤f.lo∧f.lo≤f.hi∧f.hi≤1099511627776) (hq:f.kind=3→∀ y∈lat pm (Ky.mk 9 f.r []),-1099511627776≤y.lo∧y.lo≤y.hi∧y.hi≤1099511627776) (hk:f.kind=2):∀ (j:Nat) {fv:Value},(rlV B.g 2)[j]? = some fv→∃ n:Nat,fv=.func (.func n) #[zp_ B.g 0] #[]∧Tri Tryz.prog n #[zp_ B.g 0,f.val] ((Ha++(Hu++(Ho++(Hi++(Hr++Hm)))))++Hs) [gF B E,pF B pm A0,E.ef] (fun _:{H':Hp // E.St (rl E.stp E.kof pm x f j (nw,fm)).1 (rl E.stp E.kof pm x f j (nw,fm)).2 H'}=>.tuple #[]) (fun y=>(Ha++(Hu++(Ho++(Hi++(Hr++Hm)))))++y.1) (fun _=>[])
  | 0,_,h=>⟨106,(Option.some.inj h).symm,rl20_c B E A0 pm x f nw fm Hs hS Ha Hu Ho Hi Hr Hm hI hpl hxl hyl hf hq hk⟩
  | 1,_,h=>⟨107,(Option.some.inj h).symm,rl21_c B E A0 pm x f nw fm Hs hS Ha Hu Ho Hi Hr Hm hI hpl hxl hyl hf hq hk⟩
  | 2,_,h=>⟨108,(Option.some.inj h).symm,rl22_c B E A0 pm x f nw fm Hs hS Ha Hu Ho Hi Hr Hm hI hpl hxl hyl hf hq hk⟩
  | 3,_,h=>⟨109,(Option.some.inj h).symm,rl23_c B E A0 pm x f nw fm Hs hS Ha Hu Ho Hi Hr Hm hI hpl hxl hyl hf hq hk⟩
  | j+4,_,h=>by simp[rlV]at h
theorem vz_ (B:EngB) (E:Emt Tryz.prog 24) (A0:EngA) (pm:List (Ky×Pc)) (x:Ix) (f:Fc) (nw fm:List Fc) (Hs:Hp) (hS:E.St nw fm Hs) (Ha Hu Ho Hi Hr Hm:Hp) (hI:IxO 9 24 B x ⟨Ha,Hu,Ho,Hi,Hr,Hm⟩) (hpl:∀ k,(lat pm k).length≤1000000000) (hxl:∀ k,(lat x.above k).length≤1000000000∧(lat x.under k).length≤1000000000) (hyl:∀ k,(lat x.frm k).length≤1000000000∧(lat x.into k).length≤1000000000∧(lat x.ranges k).length≤1000000000∧(lat x.firms k).length≤1000000000) (hf:f.kind=3→-1099511627776≤f.lo∧f.lo≤f.hi∧f.hi≤1099511627776) (hq:f.kind=3→∀ y∈lat pm (Ky.mk 9 f.r []),-1099511627776≤y.lo∧y.lo≤y.hi∧y.hi≤1099511627776) (hk:f.kind=3):∀ (j:Nat) {fv:Value},(rlV B.g 3)[j]? = some fv→∃ n:Nat,fv=.func (.func n) #[zp_ B.g 0] #[]∧Tri Tryz.prog n #[zp_ B.g 0,f.val] ((Ha++(Hu++(Ho++(Hi++(Hr++Hm)))))++Hs) [gF B E,pF B pm A0,E.ef] (fun _:{H':Hp // E.St (rl E.stp E.kof pm x f j (nw,fm)).1 (rl E.stp E.kof pm x f j (nw,fm)).2 H'}=>.tuple #[]) (fun y=>(Ha++(Hu++(Ho++(Hi++(Hr++Hm)))))++y.1) (fun _=>[])
  | 0,_,h=>⟨110,(Option.some.inj h).symm,rl30_c B E A0 pm x f nw fm Hs hS Ha Hu Ho Hi Hr Hm hI hpl hxl hyl hf hq hk⟩
  | 1,_,h=>⟨111,(Option.some.inj h).symm,rl31_c B E A0 pm x f nw fm Hs hS Ha Hu Ho Hi Hr Hm hI hpl hxl hyl hf hq hk⟩
  | j+2,_,h=>by simp[rlV]at h
def lw_ (p:List Pc) (bu:Int) (c:Cl) (e:Int):Prop :=
  if bT_ p≠0 then c=Cl.no∧e=bT_ p
  else if bu<0∨1073741824<bu then c=Cl.no∧e=1
  else (e=0∧c.ok∧c.atoms=atS p∧mU_ p (atS p) (min bu 65536).toNat (some c.facts))∨(c=Cl.no∧e=(if bu<65536 then 3 else 2)∧mU_ p (atS p) (min bu 65536).toNat none)
theorem uZ_ {p:List Pc} {bu:Int} (h:bT_ p≠0):lw_ p bu Cl.no (bT_ p):=by unfold lw_;rw[if_pos h];exact⟨rfl,rfl⟩
theorem qu_ {p:List Pc} {bu:Int} (h:bT_ p=0) (hb:bu<0∨1073741824<bu):lw_ p bu Cl.no 1:=by unfold lw_;rw[if_neg (by simp[h]),if_pos hb];exact⟨rfl,rfl⟩
theorem wK_ {p:List Pc} {bu:Int} {m n:Nat} {c:Cl} {q fm:List Fc} {x:Ix} (hc:bT_ p=0) (h1:¬ bu<0) (h2:¬ 1073741824<bu) (hm:min bu 65536=(m:Int)) (hk:c.ok) (ha:c.atoms=atS p) (hL:LoopA (uniq [] p) (atS p) m n q fm x) (hn:q.length≤n) (hl:q.length≤m) (hf:c.facts=jx_ q):lw_ p bu c 0:=by
  unfold lw_;rw[if_neg (by simp[hc]),if_neg (by omega)];have e:n=q.length:=Nat.le_antisymm hL.le hn;subst e;refine .inl ⟨rfl,hk,ha,?_⟩;rw[hm,hf];exact⟨ts_ hL.nd,fun y=>by rw[tt_,← qN_ hL hl,oY_],by rw[hs_];simpa using hl⟩
theorem fl_ {p:List Pc} {bu:Int} {m:Nat} {e:Int} {M:List Fc} (hc:bT_ p=0) (h1:¬ bu<0) (h2:¬ 1073741824<bu) (hm:min bu 65536=(m:Int)) (he:e=if bu<65536 then 3 else 2) (nd:M.Nodup) (hd:∀ y∈M,Der (uniq [] p) (atS p) y) (hl:m<M.length):lw_ p bu Cl.no e:=by
  unfold lw_;rw[if_neg (by simp[hc]),if_neg (by omega)];exact .inr ⟨rfl,he,M,nd,fun y hy=>oY_.1 (hd y hy),by rw[hm];simpa using hl⟩
end Go.Proofs.YtaffcjgphlhppaaGreatDoor
namespace Go.Proofs.YtaffcjgphlhppaaGreatDoor
open Go Go.Sx Go.Proofs
attribute [local irreducible] Code.wp wpList wpAnyH
open Go.Vs
set_option maxHeartbeats 4000000 in
theorem all_c (p:List Pc) (pad:Option Addr) (pcap:Nat) (bu:Int) (hsm:∀ x∈p,x.sm) (hp:p.length≤100000000):Tri Tryz.prog 20 #[.slice pad (List.length p) pcap,.int .i64 bu] [] [aC_ pad (List.flatMap Pc.cells p),iu_] (fun y:{y:Cl×Int // lw_ p bu y.1 y.2}=>.tuple #[y.1.1.val,.int .i64 y.1.2]) (fun _=>[]) (fun y=>y.1.1.row):=by
 refine w_ Tryz.func20 rfl rfl Tryz.ntmps20 rfl fun v0=>?_;refine Zz 2 ?_;refine E_ Tryz.zeroValue49 rfl fun b1=>Zz 3 ?_
 refine sb_ (Zz 4 ?_);refine n_ (oM_ p pad pcap (by omega) hsm) rfl j_ zf rfl fun _=>Zi 6 (fun hr1=>?_) fun hr1=>?_
 ·have hchk:=hr1
  refine Zi 9 (fun hr2=>?_) fun hr2=>?_
  ·have hb0:=hr2
   refine Zi 4 (fun hr3=>?_) fun hr3=>?_
   ·have hb1:=hr3
    refine Zz 7 ?_;obtain⟨m,hm0'⟩:∃ m:Nat,min bu 65536=(m:Int):=⟨(min bu 65536).toNat,by omega⟩;have hm:m≤65536:=by omega
    have hvk:=tj_ (sT_ hchk);have hpl:∀ k,(lat (aX_ (uniq [] p)) k).length≤1000000000:=fun k=>by have h1:=gY_ (aX_ (uniq [] p)) k;have h2:=mc_ (uniq [] p);have h3:=jQ_ p [];simp only[List.length_nil]at h3;omega
    refine Zz 2 ?_;refine n_ (pG_ p pad pcap (by omega)) rfl j_ zf rfl fun⟨⟨g,pb,kb,ab,ub,ob,ib,rb,sb,fb,lv,hm0,hl0⟩,hy⟩=>?_;dsimp only;dsimp only[NewE.own,NewE.ok]at hy ⊢;obtain⟨hym,hyl⟩:=hy;simp only[List.cons_append,List.append_assoc];refine dv_ hyl (c_ (c_ (c_ (c_ (c_ (c_ (c_ (c_ (c_ (s_ A_)))))))))) fun lad lcap hlad hclad hmlad hzlad=>?_;subst hlad;refine E_ Tryz.zeroValue102 rfl fun b2=>S_ (aW_ e_ (aW_ e_ (aW_ e_ (aW_ e_ (aW_ e_ (aW_ e_ (aW_ e_ (aW_ e_ (aW_ e_ (aW_ e_ (da_ cL_))))))))))) (z_ 0 Tryz.sizeOf102 rfl rfl rfl rfl rfl rfl (Zz 5 ?_))
    refine d_ (bG_ (jM_ rfl rfl) (congrArg (Value.int .i64) hm0')) rfl (E_ dd_ rfl fun b3=>z_ 0 aw_ rfl rfl rfl rfl rfl rfl (Zz 4 ?_));refine E_ oU_ rfl fun b4=>Zz 5 ?_
    refine d_ (bU_ rfl rfl) rfl (Zz 2 ?_);refine z_ 3 fr_ rfl rfl rfl rfl rfl rfl (Zz 3 ?_);refine ib_ (bJ_ b2 (.cells #[zp_ g 0] 102 (0,0))) (da_ (c_ (c_ e_))) (fun _ h1 h2 _=>⟨h1,h2⟩) ?_;refine ib_ (bJ_ b3 (.cells #[.int .i64 (m:Int)] 3 (0,0))) (da_ (c_ e_)) (fun _ h1 h2 _=>⟨h1,h2⟩) ?_;refine ib_ (bJ_ g (.cells #[.map (some pb),.slice lad (List.length (aD_ (uniq [] p))) lcap,.map (some kb),.func (.func 48) #[] #[zp_ b2 0,zp_ b3 0,zp_ b4 0],.map (some ab),.map (some ub),.map (some ob),.map (some ib),.map (some rb),.map (some sb),.map (some fb)] 111 (0,0))) (da_ (c_ e_)) (fun _ h1 h2 _=>⟨h1,h2⟩) ?_;refine ub_ is_ hym (c_ (c_ (c_ (c_ (c_ (c_ (c_ (c_ (c_ ad_))))))))) fun adr=>?_;refine Zz 2 ?_;refine n_ (atS_c p pad pcap (by omega)) rfl j_ zf rfl fun⟨⟨aad,acap⟩,hac,ham,haz⟩=>?_;dsimp only;refine Zz 7 ?_;refine n_ (wD_ (EngB.mk g pb ab ub ob ib rb sb lad lcap (aD_ (uniq [] p))) (EA m hm (EngB.mk g pb ab ub ob ib rb sb lad lcap (aD_ (uniq [] p))) b2 b3 b4 kb fb) [] [] [(b4,.cells #[.slice none 0 0] 47 (0,0)),(kb,.map #[] 0),(fb,.map #[] 0)] ⟨.slice none 0 0,#[],0,#[],0,[],[],rfl,bk_.nil _ _,SetE.nil,SetE.nil,by simp⟩ (atS p) aad acap (by have:=wI_ p;omega) (by have:=ld_ (uniq [] p);have h3:=jQ_ p [];simp only[List.length_nil]at h3;show (aD_ (uniq [] p)).length≤_;omega)) rfl (t_ e_ (t_ e_ (c_ (c_ (c_ (c_ (c_ (c_ e_)))))))) (fun v _ h=>by exact⟨h.2.2.1,h.2.2.2.2.2.1,h.1,⟨h.2.2.2.2.1,h.2.2.2.1,h.2.2.1⟩,trivial⟩) rfl fun⟨Hs1,hS1⟩=>?_;dsimp only;refine Zz 2 ?_;refine S_ (aW_ (s_ e_) (aW_ (s_ e_) (aW_ (s_ e_) (aW_ (s_ e_) (aW_ (s_ e_) (aW_ (s_ e_) (da_ cL_))))))) (Zz 3 ?_);refine n_ (vy_ g) rfl j_ zt rfl fun⟨r1,r2,r3⟩=>?_;dsimp only;refine E_ Tryz.zeroValue115 rfl fun b5=>z_ 0 Tryz.sizeOf115 rfl rfl rfl rfl rfl rfl (Zz 3 ?_)
    refine sd_ (Zz 8 ?_);refine aF_ (ι:={y:Nat×List Fc×List Fc×Ix×Hp×Hp×Hp×Hp×Hp×Hp×Hp // LoopA (uniq [] p) (atS p) m y.1 y.2.1 y.2.2.1 y.2.2.2.1∧((EA m hm (EngB.mk g pb ab ub ob ib rb sb lad lcap (aD_ (uniq [] p))) b2 b3 b4 kb fb)).St y.2.1 y.2.2.1 y.2.2.2.2.2.2.2.2.2.2∧IxO 9 24 (EngB.mk g pb ab ub ob ib rb sb lad lcap (aD_ (uniq [] p))) y.2.2.2.1 ⟨y.2.2.2.2.1,y.2.2.2.2.2.1,y.2.2.2.2.2.2.1,y.2.2.2.2.2.2.2.1,y.2.2.2.2.2.2.2.2.1,y.2.2.2.2.2.2.2.2.2.1⟩∧qQ_ y.2.2.2.1 y.1}) (fun y=>[(0,.slice pad (List.length p) pcap),(1,.int .i64 bu),(4,zp_ b1 0),(7,zp_ b2 0),(8,zp_ b3 0),(9,zp_ b4 0),(10,.slice aad (List.length (atS p)) acap),(11,zp_ b5 0),(12,.int .i64 (y.1.1:Int))]) (fun y=>((b1,.cells #[.slice none 0 0,.slice none 0 0] 49 (0,0))::((b5,.cells #[.slice none 0 0,.slice (some ⟨r1,0,none⟩) 6 6,.slice (some ⟨r2,0,none⟩) 4 4,.slice (some ⟨r3,0,none⟩) 2 2] 115 (0,0))::(y.1.2.2.2.2.1++(y.1.2.2.2.2.2.1++(y.1.2.2.2.2.2.2.1++(y.1.2.2.2.2.2.2.2.1++(y.1.2.2.2.2.2.2.2.2.1++(y.1.2.2.2.2.2.2.2.2.2.1++y.1.2.2.2.2.2.2.2.2.2.2))))))))) (fun y=>[aC_ (some ⟨r1,0,none⟩) (List.flatMap fvC (rlV g 1)),aC_ (some ⟨r2,0,none⟩) (List.flatMap fvC (rlV g 2)),aC_ (some ⟨r3,0,none⟩) (List.flatMap fvC (rlV g 3)),aC_ aad (List.flatMap by_ (atS p)),mlF Tryz.prog 191 Ky.val Pc.cells pb (aX_ (uniq [] p)) adr,bJ_ g (.cells #[.map (some pb),.slice lad (List.length (aD_ (uniq [] p))) lcap,.map (some kb),.func (.func 48) #[] #[zp_ b2 0,zp_ b3 0,zp_ b4 0],.map (some ab),.map (some ub),.map (some ob),.map (some ib),.map (some rb),.map (some sb),.map (some fb)] 111 (0,0)),bJ_ b3 (.cells #[.int .i64 (m:Int)] 3 (0,0)),bJ_ b2 (.cells #[zp_ g 0] 102 (0,0)),aC_ lad (List.flatMap by_ (aD_ (uniq [] p))),aC_ pad (List.flatMap Pc.cells p),iu_]) (fun y=>m+1 - y.1.1) ⟨((0:Nat),(emits (bz_ m) (hn_ (aD_ (uniq [] p)) (atS p)) []),([]:List Fc),Ix.nil,[(ab,.map #[] 0)],[(ub,.map #[] 0)],[(ob,.map #[] 0)],[(ib,.map #[] 0)],[(rb,.map #[] 0)],[(sb,.map #[] 0)],Hs1),pN_ hvk rfl,by exact hS1,⟨ey_.nil _ _,ey_.nil _ _,ey_.nil _ _,ey_.nil _ _,ey_.nil _ _,ey_.nil _ _⟩,us_⟩ zl (t_ (c_ (c_ (c_ (c_ (c_ (c_ (c_ e_))))))) (t_ e_ (t_ e_ (t_ e_ (t_ e_ (t_ e_ (t_ e_ (t_ e_ bx_)))))))) zh ?_;rintro ⟨⟨n,q,fm,x,Ha,Hu,Ho,Hi,Hr,Hm,Hs⟩,hL,hS,hI,hz⟩;dsimp only at hL hS hI hz ⊢;obtain⟨sv1,es1,ce1,ef1,cf1,qf1,Hq1,hHs1,hrQ1,hEk1,hEf1,hqf1⟩:=hS;subst hHs1;have hqm:=hL.len;have hnq:=hL.le;obtain⟨hxl,hyl⟩:=pS_ hz (by omega);refine p_ (S_ (aW_ e_ (aW_ e_ (aW_ (s_ (s_ (s_ (s_ (s_ (s_ e_)))))) (da_ (s_ (s_ (s_ (s_ (s_ (s_ e_)))))))))) (Zz 4 ?_));refine d_ (qw_ hrQ1 G_ rfl) rfl ?_;refine Zi 0 (fun hr4=>?_) fun hr4=>?_
    ·refine Zz 8 ?_
     refine o_ 0 [0,1,2,3,4,5,6] zk zs (Zz 4 ?_);refine B_ rfl (bG_ (gA_ (E:=(EA m hm (EngB.mk g pb ab ub ob ib rb sb lad lcap (aD_ (uniq [] p))) b2 b3 b4 kb fb)) (nw:=q) (Hs:=((b4,.cells #[sv1] 47 (0,0))::(kb,.map es1 ce1)::([(fb,.map ef1 cf1)]++Hq1))) ⟨sv1,es1,ce1,ef1,cf1,qf1,Hq1,rfl,hrQ1,hEk1,hEf1,hqf1⟩ aZ_ rfl zp) (show _=Value.int .i64 (List.length q:Int) from rfl)) rfl (Zi 1 (fun hr5=>?_) fun hr5=>?_)
     ·refine Zz 9 ?_
      refine n_ (vu_ hrQ1 (by omega)) rfl zp zt rfl fun⟨Hq9,hq9⟩=>?_;dsimp only;refine Zz 2 ?_;refine S_ (aW_ (s_ e_) (aW_ (s_ e_) (aW_ (s_ e_) (da_ (s_ e_))))) (p_ (dv_ hq9 (c_ (c_ (c_ (c_ A_)))) fun fad fcap hfad hcfad hmfad hzfad=>?_));subst hfad;refine Zz 3 ?_;refine d_ (F_ gc_ rfl rfl) rfl (z_ 0 bj_ rfl rfl rfl rfl rfl rfl (Zz 4 ?_));exact eQ_ ⟨((Cl.mk (atS p) aad acap (jx_ q) fad fcap),0),wK_ hchk hb0 hb1 hm0' ⟨hac,ham,haz,hcfad,hmfad,hzfad⟩ rfl hL (by omega) (by omega) rfl⟩ (fun aa v h1 h2=>ge_ (us:=Cl.cells (Cl.mk (atS p) aad acap (jx_ q) fad fcap)) 0 dC_ ea_ bj_ rfl rfl rfl rfl aa v h1 h2) j_ zf
     refine Zi 8 (fun hr6=>?_) fun hr6=>?_
     ·refine Zz 7 ?_
      refine d_ (F_ gc_ rfl rfl) rfl (z_ 0 bj_ rfl rfl rfl rfl rfl rfl (Zz 4 ?_));exact eQ_ ⟨((Cl.mk [] none 0 [] none 0),2),fl_ hchk hb0 hb1 hm0' (by rw[if_neg (by assumption)]) hL.nd hL.der (by omega)⟩ (fun aa v h1 h2=>ge_ (us:=Cl.cells (Cl.mk [] none 0 [] none 0)) 0 dC_ ea_ bj_ rfl rfl rfl rfl aa v h1 h2) j_ (fun v _ h=>by exact⟨.inl rfl,.inl rfl,trivial⟩)
     refine Zz 5 ?_;refine d_ (F_ gc_ rfl rfl) rfl (z_ 0 bj_ rfl rfl rfl rfl rfl rfl (Zz 4 ?_));exact eQ_ ⟨((Cl.mk [] none 0 [] none 0),3),fl_ hchk hb0 hb1 hm0' (by rw[if_pos (by assumption)]) hL.nd hL.der (by omega)⟩ (fun aa v h1 h2=>ge_ (us:=Cl.cells (Cl.mk [] none 0 [] none 0)) 0 dC_ ea_ bj_ rfl rfl rfl rfl aa v h1 h2) j_ (fun v _ h=>by exact⟨.inl rfl,.inl rfl,trivial⟩)
    have hlf:n<List.length q:=by omega
    obtain⟨f,hf⟩:∃ e0,q[n]? = some e0:=⟨_,List.getElem?_eq_getElem hlf⟩;have hmf:f∈q:=List.mem_of_getElem? hf;have hfd:=hL.der f hmf;have hform:=hfd.form hvk;obtain⟨hxl1,hyl1⟩:=pS_ (km_ hz (decide (f∈fm)) f) (by omega);refine Zz 11 ?_;refine d_ (rQ_ hrQ1 G_ y_ rfl rfl (by omega) (by omega)) rfl (d_ (rP_ hrQ1 zp aS_ y_ rfl (Fc.cells_len _) (by decide) (K_ Fc.cells_len hf)) rfl (E_ ag_ rfl fun b6=>z_ 0 y_ rfl rfl rfl rfl rfl rfl (Zz 6 ?_)));refine n_ (wi_ (EngB.mk g pb ab ub ob ib rb sb lad lcap (aD_ (uniq [] p))) (EA m hm (EngB.mk g pb ab ub ob ib rb sb lad lcap (aD_ (uniq [] p))) b2 b3 b4 kb fb) x f q fm ((b4,.cells #[sv1] 47 (0,0))::(kb,.map es1 ce1)::([(fb,.map ef1 cf1)]++Hq1)) ⟨sv1,es1,ce1,ef1,cf1,qf1,Hq1,rfl,hrQ1,hEk1,hEf1,hqf1⟩ Ha Hu Ho Hi Hr Hm hI hxl hyl) rfl (L_ (c_ (c_ (c_ (c_ (c_ A_))))) (L_ (c_ (c_ (c_ (c_ (c_ A_))))) (L_ (c_ (c_ (c_ (c_ (c_ A_))))) (L_ (c_ (c_ (c_ (c_ (c_ A_))))) (L_ (c_ (c_ (c_ (c_ (c_ A_))))) (L_ (c_ (c_ (c_ (c_ (c_ A_))))) (t_ (c_ (c_ (c_ e_))) (t_ (c_ (c_ (c_ e_))) (L_ (c_ (c_ (c_ A_))) (c_ (c_ ad_))))))))))) zf rfl fun⟨⟨Ha1,Hu1,Ho1,Hi1,Hr1,Hm1⟩,hI1⟩=>?_;dsimp only;refine S_ vL_ (Zz 2 ?_);refine S_ (aW_ (s_ (s_ (s_ (s_ (s_ (s_ e_)))))) (aW_ (s_ (s_ (s_ (s_ (s_ (s_ e_)))))) (aW_ (s_ (s_ (s_ (s_ (s_ (s_ (s_ (s_ e_)))))))) (aW_ (s_ (s_ (s_ (s_ (s_ (s_ (s_ (s_ e_)))))))) (da_ (s_ (s_ (s_ (s_ (s_ (s_ (s_ cL_)))))))))))) (Zz 4 ?_);rcases kQ_ hform with hk|hk|hk
    ·refine d_ (bG_ (eE_ se_ Tryz.sizeOf114 rfl rfl (by omega) (by omega)) (show _=zp_ b5 1 from by rw[hk];rfl)) rfl ?_
     refine Zz 6 ?_;refine fv_ (H':=((b1,.cells #[.slice none 0 0,.slice none 0 0] 49 (0,0))::((b5,.cells #[.slice none 0 0,.slice (some ⟨r1,0,none⟩) 6 6,.slice (some ⟨r2,0,none⟩) 4 4,.slice (some ⟨r3,0,none⟩) 2 2] 115 (0,0))::((b6,.cells #[.int .i64 f.kind,str f.a,str f.b,str f.r,.int .i64 f.lo,.int .i64 f.hi] 24 (0,0))::(Ha1++(Hu1++(Ho1++(Hi1++(Hr1++(Hm1++((b4,.cells #[sv1] 47 (0,0))::(kb,.map es1 ce1)::([(fb,.map ef1 cf1)]++Hq1)))))))))))) (t_ (c_ (c_ (c_ e_))) (t_ (c_ (c_ (c_ e_))) (t_ (c_ (c_ e_)) (L_ (c_ (c_ A_)) (L_ (c_ (c_ A_)) (L_ (c_ (c_ A_)) (L_ (c_ (c_ A_)) (L_ (c_ (c_ A_)) (L_ (c_ (c_ A_)) (t_ e_ (t_ e_ (L_ A_ bx_)))))))))))) (fun v _ h=>h) ?_;refine aF_ (ι:={y:Nat×Hp // y.1≤6∧((EA m hm (EngB.mk g pb ab ub ob ib rb sb lad lcap (aD_ (uniq [] p))) b2 b3 b4 kb fb)).St (rls (bz_ m) idk (aX_ (uniq [] p)) (Ix.add x (decide (f∈fm)) f) f y.1 (q,fm)).1 (rls (bz_ m) idk (aX_ (uniq [] p)) (Ix.add x (decide (f∈fm)) f) f y.1 (q,fm)).2 y.2∧(y.1=0∨((rls (bz_ m) idk (aX_ (uniq [] p)) (Ix.add x (decide (f∈fm)) f) f y.1 (q,fm)).1).length≤m)}) (fun y=>[(0,.slice pad (List.length p) pcap),(1,.int .i64 bu),(4,zp_ b1 0),(7,zp_ b2 0),(8,zp_ b3 0),(9,zp_ b4 0),(10,.slice aad (List.length (atS p)) acap),(11,zp_ b5 0),(12,.int .i64 (n:Int)),(13,zp_ b6 0),(60,.slice (some ⟨r1,0,none⟩) 6 6),(61,.int .i64 6),(62,.int .i64 (y.1.1:Int))]) (fun y=>((b1,.cells #[.slice none 0 0,.slice none 0 0] 49 (0,0))::((b5,.cells #[.slice none 0 0,.slice (some ⟨r1,0,none⟩) 6 6,.slice (some ⟨r2,0,none⟩) 4 4,.slice (some ⟨r3,0,none⟩) 2 2] 115 (0,0))::((b6,.cells #[.int .i64 f.kind,str f.a,str f.b,str f.r,.int .i64 f.lo,.int .i64 f.hi] 24 (0,0))::(Ha1++(Hu1++(Ho1++(Hi1++(Hr1++(Hm1++y.1.2)))))))))) (fun y=>[aC_ (some ⟨r1,0,none⟩) (List.flatMap fvC (rlV g 1)),aC_ (some ⟨r2,0,none⟩) (List.flatMap fvC (rlV g 2)),aC_ (some ⟨r3,0,none⟩) (List.flatMap fvC (rlV g 3)),aC_ aad (List.flatMap by_ (atS p)),mlF Tryz.prog 191 Ky.val Pc.cells pb (aX_ (uniq [] p)) adr,bJ_ g (.cells #[.map (some pb),.slice lad (List.length (aD_ (uniq [] p))) lcap,.map (some kb),.func (.func 48) #[] #[zp_ b2 0,zp_ b3 0,zp_ b4 0],.map (some ab),.map (some ub),.map (some ob),.map (some ib),.map (some rb),.map (some sb),.map (some fb)] 111 (0,0)),bJ_ b3 (.cells #[.int .i64 (m:Int)] 3 (0,0)),bJ_ b2 (.cells #[zp_ g 0] 102 (0,0)),aC_ lad (List.flatMap by_ (aD_ (uniq [] p))),aC_ pad (List.flatMap Pc.cells p),iu_]) (fun y=>6 - y.1.1) ⟨((0:Nat),((b4,.cells #[sv1] 47 (0,0))::(kb,.map es1 ce1)::([(fb,.map ef1 cf1)]++Hq1))),by omega,by exact⟨sv1,es1,ce1,ef1,cf1,qf1,Hq1,rfl,hrQ1,hEk1,hEf1,hqf1⟩,.inl rfl⟩ zl zp zh ?_;rintro ⟨⟨j,Hs⟩,hj,hS2,hjm⟩;dsimp only at hj hS2 hjm ⊢;refine Zi 2 (fun hr7=>?_) fun hr7=>?_
     ·have ej:j=6:=by omega
      have hjl:((rls (bz_ m) idk (aX_ (uniq [] p)) (Ix.add x (decide (f∈fm)) f) f j (q,fm)).1).length≤m:=hjm.resolve_left (by omega);rw[ej]at hjl hS2;refine Zz 12 ?_;exact aa_ ⟨(n+1,(rls (bz_ m) idk (aX_ (uniq [] p)) (Ix.add x (decide (f∈fm)) f) f 6 (q,fm)).1,(rls (bz_ m) idk (aX_ (uniq [] p)) (Ix.add x (decide (f∈fm)) f) f 6 (q,fm)).2,(Ix.add x (decide (f∈fm)) f),Ha1,Hu1,Ho1,Hi1,Hr1,Hm1,Hs),(jC_ hvk hL hf (by have e:nrl f=6:=(by unfold nrl;simp[hk]);rw[e]) (by omega)),(by exact hS2),hI1,(km_ hz _ f)⟩ (by dsimp only;omega) zl (t_ e_ (t_ e_ (L_ (c_ A_) (L_ (c_ A_) (L_ (c_ A_) (L_ (c_ A_) (L_ (c_ A_) (L_ (c_ A_) ad_)))))))) zh
     have hlfv:j<List.length (rlV g 1):=by show j<6;omega
     obtain⟨fv,hfv⟩:∃ e0,(rlV g 1)[j]? = some e0:=⟨_,List.getElem?_eq_getElem hlfv⟩;have hmfv:fv∈(rlV g 1):=List.mem_of_getElem? hfv;refine Zz 10 ?_;refine d_ (ab_ bs_ fr_ rfl rfl (fun v _ h=>O_ (n:=1) jh_ (by decide) (by exact h.1) hfv) (by omega) (by omega)) rfl (d_ (bm_ (ad:=(some ⟨r1,0,none⟩)) Tryz.isAgg106 rfl zf (K_ jh_ hfv 0 _ rfl)) rfl (Zz 7 ?_));obtain⟨nr,rfl,hT⟩:=vB_ (EngB.mk g pb ab ub ob ib rb sb lad lcap (aD_ (uniq [] p))) (EA m hm (EngB.mk g pb ab ub ob ib rb sb lad lcap (aD_ (uniq [] p))) b2 b3 b4 kb fb) (EngA.mk adr (fun _=>(none,0)) (fun _=>(none,0)) (fun _=>(none,0)) (fun _=>(none,0)) (fun _=>(none,0)) (fun _=>(none,0))) (aX_ (uniq [] p)) (Ix.add x (decide (f∈fm)) f) f (rls (bz_ m) idk (aX_ (uniq [] p)) (Ix.add x (decide (f∈fm)) f) f j (q,fm)).1 (rls (bz_ m) idk (aX_ (uniq [] p)) (Ix.add x (decide (f∈fm)) f) f j (q,fm)).2 Hs hS2 Ha1 Hu1 Ho1 Hi1 Hr1 Hm1 hI1 hpl hxl1 hyl1 (fun hk=>(jp_ hform hk).2.2) (fun _ y hy=>(hvk y (pm9.1 hy).1).num (.inr (pm9.1 hy).2.1)) hk j hfv;refine aq_ (first:=[zp_ g 0]) (vs:=[Fc.val f]) (cap:=[]) hT rfl rfl (qI_ (L_ (c_ (c_ (c_ A_))) (L_ (c_ (c_ (c_ A_))) (L_ (c_ (c_ (c_ A_))) (L_ (c_ (c_ (c_ A_))) (L_ (c_ (c_ (c_ A_))) (L_ (c_ (c_ (c_ A_))) (c_ (c_ ad_))))))))) (fun v _ h=>by exact⟨h.2.2.2.2.2.1,h.2.2.2.2.1,⟨h.2.2.2.2.2.2.2.1,h.2.2.2.2.2.2.1,h.2.2.2.2.2.1⟩,trivial⟩) rfl fun⟨Hs3,hS3⟩=>S_ ol_ (Zz 2 ?_)
     refine S_ (aW_ (s_ (s_ (s_ (s_ (s_ (s_ (s_ e_))))))) (aW_ (s_ (s_ (s_ (s_ (s_ (s_ (s_ e_))))))) (da_ (s_ (s_ (s_ (s_ (s_ (s_ cL_))))))))) (Zz 2 ?_);refine o_ 0 [0,1,2,3,4,5,6] zk zs (Zz 4 ?_);refine B_ rfl (bG_ (gA_ (E:=(EA m hm (EngB.mk g pb ab ub ob ib rb sb lad lcap (aD_ (uniq [] p))) b2 b3 b4 kb fb)) (nw:=(rls (bz_ m) idk (aX_ (uniq [] p)) (Ix.add x (decide (f∈fm)) f) f (j+1) (q,fm)).1) (Hs:=Hs3) hS3 aZ_ rfl zp) (show _=Value.int .i64 (List.length (rls (bz_ m) idk (aX_ (uniq [] p)) (Ix.add x (decide (f∈fm)) f) f (j+1) (q,fm)).1:Int) from rfl)) rfl (Zi 1 (fun hr8=>?_) fun hr8=>?_)
     ·refine Zz 11 ?_
      exact aa_ ⟨(j+1,Hs3),hlfv,by exact hS3,.inr (by dsimp only;omega)⟩ (by dsimp only;omega) zl zp zh
     refine Zz 9 ?_;refine o_ 0 [0,1,2,3,4,5,6] zk zs (Zz 4 ?_);refine B_ rfl (bG_ (gA_ (E:=(EA m hm (EngB.mk g pb ab ub ob ib rb sb lad lcap (aD_ (uniq [] p))) b2 b3 b4 kb fb)) (nw:=(rls (bz_ m) idk (aX_ (uniq [] p)) (Ix.add x (decide (f∈fm)) f) f (j+1) (q,fm)).1) (Hs:=Hs3) hS3 aZ_ rfl zp) (show _=Value.int .i64 (List.length (rls (bz_ m) idk (aX_ (uniq [] p)) (Ix.add x (decide (f∈fm)) f) f (j+1) (q,fm)).1:Int) from rfl)) rfl (Zi 1 (fun hr9=>?_) fun hr9=>?_)
     ·omega
     refine Zi 8 (fun hr10=>?_) fun hr10=>?_
     ·refine Zz 7 ?_
      refine d_ (F_ gc_ rfl rfl) rfl (z_ 0 bj_ rfl rfl rfl rfl rfl rfl (Zz 4 ?_));exact eQ_ ⟨((Cl.mk [] none 0 [] none 0),2),fl_ hchk hb0 hb1 hm0' (by rw[if_neg (by assumption)]) (cP_ hvk hL hf (j+1) rfl).1 (cP_ hvk hL hf (j+1) rfl).2.2.1 (by omega)⟩ (fun aa v h1 h2=>ge_ (us:=Cl.cells (Cl.mk [] none 0 [] none 0)) 0 dC_ ea_ bj_ rfl rfl rfl rfl aa v h1 h2) j_ (fun v _ h=>by exact⟨.inl rfl,.inl rfl,trivial⟩)
     refine Zz 5 ?_;refine d_ (F_ gc_ rfl rfl) rfl (z_ 0 bj_ rfl rfl rfl rfl rfl rfl (Zz 4 ?_));exact eQ_ ⟨((Cl.mk [] none 0 [] none 0),3),fl_ hchk hb0 hb1 hm0' (by rw[if_pos (by assumption)]) (cP_ hvk hL hf (j+1) rfl).1 (cP_ hvk hL hf (j+1) rfl).2.2.1 (by omega)⟩ (fun aa v h1 h2=>ge_ (us:=Cl.cells (Cl.mk [] none 0 [] none 0)) 0 dC_ ea_ bj_ rfl rfl rfl rfl aa v h1 h2) j_ (fun v _ h=>by exact⟨.inl rfl,.inl rfl,trivial⟩)
    ·refine d_ (bG_ (eE_ se_ Tryz.sizeOf114 rfl rfl (by omega) (by omega)) (show _=zp_ b5 2 from by rw[hk];rfl)) rfl ?_
     refine Zz 6 ?_;refine fv_ (H':=((b1,.cells #[.slice none 0 0,.slice none 0 0] 49 (0,0))::((b5,.cells #[.slice none 0 0,.slice (some ⟨r1,0,none⟩) 6 6,.slice (some ⟨r2,0,none⟩) 4 4,.slice (some ⟨r3,0,none⟩) 2 2] 115 (0,0))::((b6,.cells #[.int .i64 f.kind,str f.a,str f.b,str f.r,.int .i64 f.lo,.int .i64 f.hi] 24 (0,0))::(Ha1++(Hu1++(Ho1++(Hi1++(Hr1++(Hm1++((b4,.cells #[sv1] 47 (0,0))::(kb,.map es1 ce1)::([(fb,.map ef1 cf1)]++Hq1)))))))))))) (t_ (c_ (c_ (c_ e_))) (t_ (c_ (c_ (c_ e_))) (t_ (c_ (c_ e_)) (L_ (c_ (c_ A_)) (L_ (c_ (c_ A_)) (L_ (c_ (c_ A_)) (L_ (c_ (c_ A_)) (L_ (c_ (c_ A_)) (L_ (c_ (c_ A_)) (t_ e_ (t_ e_ (L_ A_ bx_)))))))))))) (fun v _ h=>h) ?_;refine aF_ (ι:={y:Nat×Hp // y.1≤4∧((EA m hm (EngB.mk g pb ab ub ob ib rb sb lad lcap (aD_ (uniq [] p))) b2 b3 b4 kb fb)).St (rls (bz_ m) idk (aX_ (uniq [] p)) (Ix.add x (decide (f∈fm)) f) f y.1 (q,fm)).1 (rls (bz_ m) idk (aX_ (uniq [] p)) (Ix.add x (decide (f∈fm)) f) f y.1 (q,fm)).2 y.2∧(y.1=0∨((rls (bz_ m) idk (aX_ (uniq [] p)) (Ix.add x (decide (f∈fm)) f) f y.1 (q,fm)).1).length≤m)}) (fun y=>[(0,.slice pad (List.length p) pcap),(1,.int .i64 bu),(4,zp_ b1 0),(7,zp_ b2 0),(8,zp_ b3 0),(9,zp_ b4 0),(10,.slice aad (List.length (atS p)) acap),(11,zp_ b5 0),(12,.int .i64 (n:Int)),(13,zp_ b6 0),(60,.slice (some ⟨r2,0,none⟩) 4 4),(61,.int .i64 4),(62,.int .i64 (y.1.1:Int))]) (fun y=>((b1,.cells #[.slice none 0 0,.slice none 0 0] 49 (0,0))::((b5,.cells #[.slice none 0 0,.slice (some ⟨r1,0,none⟩) 6 6,.slice (some ⟨r2,0,none⟩) 4 4,.slice (some ⟨r3,0,none⟩) 2 2] 115 (0,0))::((b6,.cells #[.int .i64 f.kind,str f.a,str f.b,str f.r,.int .i64 f.lo,.int .i64 f.hi] 24 (0,0))::(Ha1++(Hu1++(Ho1++(Hi1++(Hr1++(Hm1++y.1.2)))))))))) (fun y=>[aC_ (some ⟨r1,0,none⟩) (List.flatMap fvC (rlV g 1)),aC_ (some ⟨r2,0,none⟩) (List.flatMap fvC (rlV g 2)),aC_ (some ⟨r3,0,none⟩) (List.flatMap fvC (rlV g 3)),aC_ aad (List.flatMap by_ (atS p)),mlF Tryz.prog 191 Ky.val Pc.cells pb (aX_ (uniq [] p)) adr,bJ_ g (.cells #[.map (some pb),.slice lad (List.length (aD_ (uniq [] p))) lcap,.map (some kb),.func (.func 48) #[] #[zp_ b2 0,zp_ b3 0,zp_ b4 0],.map (some ab),.map (some ub),.map (some ob),.map (some ib),.map (some rb),.map (some sb),.map (some fb)] 111 (0,0)),bJ_ b3 (.cells #[.int .i64 (m:Int)] 3 (0,0)),bJ_ b2 (.cells #[zp_ g 0] 102 (0,0)),aC_ lad (List.flatMap by_ (aD_ (uniq [] p))),aC_ pad (List.flatMap Pc.cells p),iu_]) (fun y=>4 - y.1.1) ⟨((0:Nat),((b4,.cells #[sv1] 47 (0,0))::(kb,.map es1 ce1)::([(fb,.map ef1 cf1)]++Hq1))),by omega,by exact⟨sv1,es1,ce1,ef1,cf1,qf1,Hq1,rfl,hrQ1,hEk1,hEf1,hqf1⟩,.inl rfl⟩ zl zp zh ?_;rintro ⟨⟨j,Hs⟩,hj,hS2,hjm⟩;dsimp only at hj hS2 hjm ⊢;refine Zi 2 (fun hr11=>?_) fun hr11=>?_
     ·have ej:j=4:=by omega
      have hjl:((rls (bz_ m) idk (aX_ (uniq [] p)) (Ix.add x (decide (f∈fm)) f) f j (q,fm)).1).length≤m:=hjm.resolve_left (by omega);rw[ej]at hjl hS2;refine Zz 12 ?_;exact aa_ ⟨(n+1,(rls (bz_ m) idk (aX_ (uniq [] p)) (Ix.add x (decide (f∈fm)) f) f 4 (q,fm)).1,(rls (bz_ m) idk (aX_ (uniq [] p)) (Ix.add x (decide (f∈fm)) f) f 4 (q,fm)).2,(Ix.add x (decide (f∈fm)) f),Ha1,Hu1,Ho1,Hi1,Hr1,Hm1,Hs),(jC_ hvk hL hf (by have e:nrl f=4:=(by unfold nrl;simp[hk]);rw[e]) (by omega)),(by exact hS2),hI1,(km_ hz _ f)⟩ (by dsimp only;omega) zl (t_ e_ (t_ e_ (L_ (c_ A_) (L_ (c_ A_) (L_ (c_ A_) (L_ (c_ A_) (L_ (c_ A_) (L_ (c_ A_) ad_)))))))) zh
     have hlfv:j<List.length (rlV g 2):=by show j<4;omega
     obtain⟨fv,hfv⟩:∃ e0,(rlV g 2)[j]? = some e0:=⟨_,List.getElem?_eq_getElem hlfv⟩;have hmfv:fv∈(rlV g 2):=List.mem_of_getElem? hfv;refine Zz 10 ?_;refine d_ (ab_ bs_ fr_ rfl rfl (fun v _ h=>O_ (n:=1) jh_ (by decide) (by exact h.2.1) hfv) (by omega) (by omega)) rfl (d_ (bm_ (ad:=(some ⟨r2,0,none⟩)) Tryz.isAgg106 rfl zf (K_ jh_ hfv 0 _ rfl)) rfl (Zz 7 ?_));obtain⟨nr,rfl,hT⟩:=vA_ (EngB.mk g pb ab ub ob ib rb sb lad lcap (aD_ (uniq [] p))) (EA m hm (EngB.mk g pb ab ub ob ib rb sb lad lcap (aD_ (uniq [] p))) b2 b3 b4 kb fb) (EngA.mk adr (fun _=>(none,0)) (fun _=>(none,0)) (fun _=>(none,0)) (fun _=>(none,0)) (fun _=>(none,0)) (fun _=>(none,0))) (aX_ (uniq [] p)) (Ix.add x (decide (f∈fm)) f) f (rls (bz_ m) idk (aX_ (uniq [] p)) (Ix.add x (decide (f∈fm)) f) f j (q,fm)).1 (rls (bz_ m) idk (aX_ (uniq [] p)) (Ix.add x (decide (f∈fm)) f) f j (q,fm)).2 Hs hS2 Ha1 Hu1 Ho1 Hi1 Hr1 Hm1 hI1 hpl hxl1 hyl1 (fun hk=>(jp_ hform hk).2.2) (fun _ y hy=>(hvk y (pm9.1 hy).1).num (.inr (pm9.1 hy).2.1)) hk j hfv;refine aq_ (first:=[zp_ g 0]) (vs:=[Fc.val f]) (cap:=[]) hT rfl rfl (qI_ (L_ (c_ (c_ (c_ A_))) (L_ (c_ (c_ (c_ A_))) (L_ (c_ (c_ (c_ A_))) (L_ (c_ (c_ (c_ A_))) (L_ (c_ (c_ (c_ A_))) (L_ (c_ (c_ (c_ A_))) (c_ (c_ ad_))))))))) (fun v _ h=>by exact⟨h.2.2.2.2.2.1,h.2.2.2.2.1,⟨h.2.2.2.2.2.2.2.1,h.2.2.2.2.2.2.1,h.2.2.2.2.2.1⟩,trivial⟩) rfl fun⟨Hs3,hS3⟩=>S_ ol_ (Zz 2 ?_)
     refine S_ (aW_ (s_ (s_ (s_ (s_ (s_ (s_ (s_ e_))))))) (aW_ (s_ (s_ (s_ (s_ (s_ (s_ (s_ e_))))))) (da_ (s_ (s_ (s_ (s_ (s_ (s_ cL_))))))))) (Zz 2 ?_);refine o_ 0 [0,1,2,3,4,5,6] zk zs (Zz 4 ?_);refine B_ rfl (bG_ (gA_ (E:=(EA m hm (EngB.mk g pb ab ub ob ib rb sb lad lcap (aD_ (uniq [] p))) b2 b3 b4 kb fb)) (nw:=(rls (bz_ m) idk (aX_ (uniq [] p)) (Ix.add x (decide (f∈fm)) f) f (j+1) (q,fm)).1) (Hs:=Hs3) hS3 aZ_ rfl zp) (show _=Value.int .i64 (List.length (rls (bz_ m) idk (aX_ (uniq [] p)) (Ix.add x (decide (f∈fm)) f) f (j+1) (q,fm)).1:Int) from rfl)) rfl (Zi 1 (fun hr12=>?_) fun hr12=>?_)
     ·refine Zz 11 ?_
      exact aa_ ⟨(j+1,Hs3),hlfv,by exact hS3,.inr (by dsimp only;omega)⟩ (by dsimp only;omega) zl zp zh
     refine Zz 9 ?_;refine o_ 0 [0,1,2,3,4,5,6] zk zs (Zz 4 ?_);refine B_ rfl (bG_ (gA_ (E:=(EA m hm (EngB.mk g pb ab ub ob ib rb sb lad lcap (aD_ (uniq [] p))) b2 b3 b4 kb fb)) (nw:=(rls (bz_ m) idk (aX_ (uniq [] p)) (Ix.add x (decide (f∈fm)) f) f (j+1) (q,fm)).1) (Hs:=Hs3) hS3 aZ_ rfl zp) (show _=Value.int .i64 (List.length (rls (bz_ m) idk (aX_ (uniq [] p)) (Ix.add x (decide (f∈fm)) f) f (j+1) (q,fm)).1:Int) from rfl)) rfl (Zi 1 (fun hr13=>?_) fun hr13=>?_)
     ·omega
     refine Zi 8 (fun hr14=>?_) fun hr14=>?_
     ·refine Zz 7 ?_
      refine d_ (F_ gc_ rfl rfl) rfl (z_ 0 bj_ rfl rfl rfl rfl rfl rfl (Zz 4 ?_));exact eQ_ ⟨((Cl.mk [] none 0 [] none 0),2),fl_ hchk hb0 hb1 hm0' (by rw[if_neg (by assumption)]) (cP_ hvk hL hf (j+1) rfl).1 (cP_ hvk hL hf (j+1) rfl).2.2.1 (by omega)⟩ (fun aa v h1 h2=>ge_ (us:=Cl.cells (Cl.mk [] none 0 [] none 0)) 0 dC_ ea_ bj_ rfl rfl rfl rfl aa v h1 h2) j_ (fun v _ h=>by exact⟨.inl rfl,.inl rfl,trivial⟩)
     refine Zz 5 ?_;refine d_ (F_ gc_ rfl rfl) rfl (z_ 0 bj_ rfl rfl rfl rfl rfl rfl (Zz 4 ?_));exact eQ_ ⟨((Cl.mk [] none 0 [] none 0),3),fl_ hchk hb0 hb1 hm0' (by rw[if_pos (by assumption)]) (cP_ hvk hL hf (j+1) rfl).1 (cP_ hvk hL hf (j+1) rfl).2.2.1 (by omega)⟩ (fun aa v h1 h2=>ge_ (us:=Cl.cells (Cl.mk [] none 0 [] none 0)) 0 dC_ ea_ bj_ rfl rfl rfl rfl aa v h1 h2) j_ (fun v _ h=>by exact⟨.inl rfl,.inl rfl,trivial⟩)
    refine d_ (bG_ (eE_ se_ Tryz.sizeOf114 rfl rfl (by omega) (by omega)) (show _=zp_ b5 3 from by rw[hk];rfl)) rfl ?_;refine Zz 6 ?_;refine fv_ (H':=((b1,.cells #[.slice none 0 0,.slice none 0 0] 49 (0,0))::((b5,.cells #[.slice none 0 0,.slice (some ⟨r1,0,none⟩) 6 6,.slice (some ⟨r2,0,none⟩) 4 4,.slice (some ⟨r3,0,none⟩) 2 2] 115 (0,0))::((b6,.cells #[.int .i64 f.kind,str f.a,str f.b,str f.r,.int .i64 f.lo,.int .i64 f.hi] 24 (0,0))::(Ha1++(Hu1++(Ho1++(Hi1++(Hr1++(Hm1++((b4,.cells #[sv1] 47 (0,0))::(kb,.map es1 ce1)::([(fb,.map ef1 cf1)]++Hq1)))))))))))) (t_ (c_ (c_ (c_ e_))) (t_ (c_ (c_ (c_ e_))) (t_ (c_ (c_ e_)) (L_ (c_ (c_ A_)) (L_ (c_ (c_ A_)) (L_ (c_ (c_ A_)) (L_ (c_ (c_ A_)) (L_ (c_ (c_ A_)) (L_ (c_ (c_ A_)) (t_ e_ (t_ e_ (L_ A_ bx_)))))))))))) (fun v _ h=>h) ?_;refine aF_ (ι:={y:Nat×Hp // y.1≤2∧((EA m hm (EngB.mk g pb ab ub ob ib rb sb lad lcap (aD_ (uniq [] p))) b2 b3 b4 kb fb)).St (rls (bz_ m) idk (aX_ (uniq [] p)) (Ix.add x (decide (f∈fm)) f) f y.1 (q,fm)).1 (rls (bz_ m) idk (aX_ (uniq [] p)) (Ix.add x (decide (f∈fm)) f) f y.1 (q,fm)).2 y.2∧(y.1=0∨((rls (bz_ m) idk (aX_ (uniq [] p)) (Ix.add x (decide (f∈fm)) f) f y.1 (q,fm)).1).length≤m)}) (fun y=>[(0,.slice pad (List.length p) pcap),(1,.int .i64 bu),(4,zp_ b1 0),(7,zp_ b2 0),(8,zp_ b3 0),(9,zp_ b4 0),(10,.slice aad (List.length (atS p)) acap),(11,zp_ b5 0),(12,.int .i64 (n:Int)),(13,zp_ b6 0),(60,.slice (some ⟨r3,0,none⟩) 2 2),(61,.int .i64 2),(62,.int .i64 (y.1.1:Int))]) (fun y=>((b1,.cells #[.slice none 0 0,.slice none 0 0] 49 (0,0))::((b5,.cells #[.slice none 0 0,.slice (some ⟨r1,0,none⟩) 6 6,.slice (some ⟨r2,0,none⟩) 4 4,.slice (some ⟨r3,0,none⟩) 2 2] 115 (0,0))::((b6,.cells #[.int .i64 f.kind,str f.a,str f.b,str f.r,.int .i64 f.lo,.int .i64 f.hi] 24 (0,0))::(Ha1++(Hu1++(Ho1++(Hi1++(Hr1++(Hm1++y.1.2)))))))))) (fun y=>[aC_ (some ⟨r1,0,none⟩) (List.flatMap fvC (rlV g 1)),aC_ (some ⟨r2,0,none⟩) (List.flatMap fvC (rlV g 2)),aC_ (some ⟨r3,0,none⟩) (List.flatMap fvC (rlV g 3)),aC_ aad (List.flatMap by_ (atS p)),mlF Tryz.prog 191 Ky.val Pc.cells pb (aX_ (uniq [] p)) adr,bJ_ g (.cells #[.map (some pb),.slice lad (List.length (aD_ (uniq [] p))) lcap,.map (some kb),.func (.func 48) #[] #[zp_ b2 0,zp_ b3 0,zp_ b4 0],.map (some ab),.map (some ub),.map (some ob),.map (some ib),.map (some rb),.map (some sb),.map (some fb)] 111 (0,0)),bJ_ b3 (.cells #[.int .i64 (m:Int)] 3 (0,0)),bJ_ b2 (.cells #[zp_ g 0] 102 (0,0)),aC_ lad (List.flatMap by_ (aD_ (uniq [] p))),aC_ pad (List.flatMap Pc.cells p),iu_]) (fun y=>2 - y.1.1) ⟨((0:Nat),((b4,.cells #[sv1] 47 (0,0))::(kb,.map es1 ce1)::([(fb,.map ef1 cf1)]++Hq1))),by omega,by exact⟨sv1,es1,ce1,ef1,cf1,qf1,Hq1,rfl,hrQ1,hEk1,hEf1,hqf1⟩,.inl rfl⟩ zl zp zh ?_;rintro ⟨⟨j,Hs⟩,hj,hS2,hjm⟩;dsimp only at hj hS2 hjm ⊢;refine Zi 2 (fun hr15=>?_) fun hr15=>?_
    ·have ej:j=2:=by omega
     have hjl:((rls (bz_ m) idk (aX_ (uniq [] p)) (Ix.add x (decide (f∈fm)) f) f j (q,fm)).1).length≤m:=hjm.resolve_left (by omega);rw[ej]at hjl hS2;refine Zz 12 ?_;exact aa_ ⟨(n+1,(rls (bz_ m) idk (aX_ (uniq [] p)) (Ix.add x (decide (f∈fm)) f) f 2 (q,fm)).1,(rls (bz_ m) idk (aX_ (uniq [] p)) (Ix.add x (decide (f∈fm)) f) f 2 (q,fm)).2,(Ix.add x (decide (f∈fm)) f),Ha1,Hu1,Ho1,Hi1,Hr1,Hm1,Hs),(jC_ hvk hL hf (by have e:nrl f=2:=(by unfold nrl;simp[hk]);rw[e]) (by omega)),(by exact hS2),hI1,(km_ hz _ f)⟩ (by dsimp only;omega) zl (t_ e_ (t_ e_ (L_ (c_ A_) (L_ (c_ A_) (L_ (c_ A_) (L_ (c_ A_) (L_ (c_ A_) (L_ (c_ A_) ad_)))))))) zh
    have hlfv:j<List.length (rlV g 3):=by show j<2;omega
    obtain⟨fv,hfv⟩:∃ e0,(rlV g 3)[j]? = some e0:=⟨_,List.getElem?_eq_getElem hlfv⟩;have hmfv:fv∈(rlV g 3):=List.mem_of_getElem? hfv;refine Zz 10 ?_;refine d_ (ab_ bs_ fr_ rfl rfl (fun v _ h=>O_ (n:=1) jh_ (by decide) (by exact h.2.2.1) hfv) (by omega) (by omega)) rfl (d_ (bm_ (ad:=(some ⟨r3,0,none⟩)) Tryz.isAgg106 rfl zf (K_ jh_ hfv 0 _ rfl)) rfl (Zz 7 ?_));obtain⟨nr,rfl,hT⟩:=vz_ (EngB.mk g pb ab ub ob ib rb sb lad lcap (aD_ (uniq [] p))) (EA m hm (EngB.mk g pb ab ub ob ib rb sb lad lcap (aD_ (uniq [] p))) b2 b3 b4 kb fb) (EngA.mk adr (fun _=>(none,0)) (fun _=>(none,0)) (fun _=>(none,0)) (fun _=>(none,0)) (fun _=>(none,0)) (fun _=>(none,0))) (aX_ (uniq [] p)) (Ix.add x (decide (f∈fm)) f) f (rls (bz_ m) idk (aX_ (uniq [] p)) (Ix.add x (decide (f∈fm)) f) f j (q,fm)).1 (rls (bz_ m) idk (aX_ (uniq [] p)) (Ix.add x (decide (f∈fm)) f) f j (q,fm)).2 Hs hS2 Ha1 Hu1 Ho1 Hi1 Hr1 Hm1 hI1 hpl hxl1 hyl1 (fun hk=>(jp_ hform hk).2.2) (fun _ y hy=>(hvk y (pm9.1 hy).1).num (.inr (pm9.1 hy).2.1)) hk j hfv;refine aq_ (first:=[zp_ g 0]) (vs:=[Fc.val f]) (cap:=[]) hT rfl rfl (qI_ (L_ (c_ (c_ (c_ A_))) (L_ (c_ (c_ (c_ A_))) (L_ (c_ (c_ (c_ A_))) (L_ (c_ (c_ (c_ A_))) (L_ (c_ (c_ (c_ A_))) (L_ (c_ (c_ (c_ A_))) (c_ (c_ ad_))))))))) (fun v _ h=>by exact⟨h.2.2.2.2.2.1,h.2.2.2.2.1,⟨h.2.2.2.2.2.2.2.1,h.2.2.2.2.2.2.1,h.2.2.2.2.2.1⟩,trivial⟩) rfl fun⟨Hs3,hS3⟩=>S_ ol_ (Zz 2 ?_)
    refine S_ (aW_ (s_ (s_ (s_ (s_ (s_ (s_ (s_ e_))))))) (aW_ (s_ (s_ (s_ (s_ (s_ (s_ (s_ e_))))))) (da_ (s_ (s_ (s_ (s_ (s_ (s_ cL_))))))))) (Zz 2 ?_);refine o_ 0 [0,1,2,3,4,5,6] zk zs (Zz 4 ?_);refine B_ rfl (bG_ (gA_ (E:=(EA m hm (EngB.mk g pb ab ub ob ib rb sb lad lcap (aD_ (uniq [] p))) b2 b3 b4 kb fb)) (nw:=(rls (bz_ m) idk (aX_ (uniq [] p)) (Ix.add x (decide (f∈fm)) f) f (j+1) (q,fm)).1) (Hs:=Hs3) hS3 aZ_ rfl zp) (show _=Value.int .i64 (List.length (rls (bz_ m) idk (aX_ (uniq [] p)) (Ix.add x (decide (f∈fm)) f) f (j+1) (q,fm)).1:Int) from rfl)) rfl (Zi 1 (fun hr16=>?_) fun hr16=>?_)
    ·refine Zz 11 ?_
     exact aa_ ⟨(j+1,Hs3),hlfv,by exact hS3,.inr (by dsimp only;omega)⟩ (by dsimp only;omega) zl zp zh
    refine Zz 9 ?_;refine o_ 0 [0,1,2,3,4,5,6] zk zs (Zz 4 ?_);refine B_ rfl (bG_ (gA_ (E:=(EA m hm (EngB.mk g pb ab ub ob ib rb sb lad lcap (aD_ (uniq [] p))) b2 b3 b4 kb fb)) (nw:=(rls (bz_ m) idk (aX_ (uniq [] p)) (Ix.add x (decide (f∈fm)) f) f (j+1) (q,fm)).1) (Hs:=Hs3) hS3 aZ_ rfl zp) (show _=Value.int .i64 (List.length (rls (bz_ m) idk (aX_ (uniq [] p)) (Ix.add x (decide (f∈fm)) f) f (j+1) (q,fm)).1:Int) from rfl)) rfl (Zi 1 (fun hr17=>?_) fun hr17=>?_)
    ·omega
    refine Zi 8 (fun hr18=>?_) fun hr18=>?_
    ·refine Zz 7 ?_
     refine d_ (F_ gc_ rfl rfl) rfl (z_ 0 bj_ rfl rfl rfl rfl rfl rfl (Zz 4 ?_));exact eQ_ ⟨((Cl.mk [] none 0 [] none 0),2),fl_ hchk hb0 hb1 hm0' (by rw[if_neg (by assumption)]) (cP_ hvk hL hf (j+1) rfl).1 (cP_ hvk hL hf (j+1) rfl).2.2.1 (by omega)⟩ (fun aa v h1 h2=>ge_ (us:=Cl.cells (Cl.mk [] none 0 [] none 0)) 0 dC_ ea_ bj_ rfl rfl rfl rfl aa v h1 h2) j_ (fun v _ h=>by exact⟨.inl rfl,.inl rfl,trivial⟩)
    refine Zz 5 ?_;refine d_ (F_ gc_ rfl rfl) rfl (z_ 0 bj_ rfl rfl rfl rfl rfl rfl (Zz 4 ?_));exact eQ_ ⟨((Cl.mk [] none 0 [] none 0),3),fl_ hchk hb0 hb1 hm0' (by rw[if_pos (by assumption)]) (cP_ hvk hL hf (j+1) rfl).1 (cP_ hvk hL hf (j+1) rfl).2.2.1 (by omega)⟩ (fun aa v h1 h2=>ge_ (us:=Cl.cells (Cl.mk [] none 0 [] none 0)) 0 dC_ ea_ bj_ rfl rfl rfl rfl aa v h1 h2) j_ (fun v _ h=>by exact⟨.inl rfl,.inl rfl,trivial⟩)
   refine Zz 6 ?_;refine d_ (F_ gc_ rfl rfl) rfl (z_ 0 bj_ rfl rfl rfl rfl rfl rfl (Zz 4 ?_));exact eQ_ ⟨((Cl.mk [] none 0 [] none 0),1),qu_ (by assumption) (by omega)⟩ (fun aa v h1 h2=>ge_ (us:=Cl.cells (Cl.mk [] none 0 [] none 0)) 0 dC_ ea_ bj_ rfl rfl rfl rfl aa v h1 h2) j_ (fun v _ h=>by exact⟨.inl rfl,.inl rfl,trivial⟩)
  refine Zz 9 ?_;refine d_ (F_ gc_ rfl rfl) rfl (z_ 0 bj_ rfl rfl rfl rfl rfl rfl (Zz 4 ?_));exact eQ_ ⟨((Cl.mk [] none 0 [] none 0),1),qu_ (by assumption) (by omega)⟩ (fun aa v h1 h2=>ge_ (us:=Cl.cells (Cl.mk [] none 0 [] none 0)) 0 dC_ ea_ bj_ rfl rfl rfl rfl aa v h1 h2) j_ (fun v _ h=>by exact⟨.inl rfl,.inl rfl,trivial⟩)
 refine Zz 5 ?_;refine d_ (F_ gc_ rfl rfl) rfl (Zz 1 ?_);refine z_ 0 bj_ rfl rfl rfl rfl rfl rfl (Zz 4 ?_);exact eQ_ ⟨((Cl.mk [] none 0 [] none 0),(bT_ p)),uZ_ (by assumption)⟩ (fun aa v h1 h2=>ge_ (us:=Cl.cells (Cl.mk [] none 0 [] none 0)) 0 dC_ ea_ bj_ rfl rfl rfl rfl aa v h1 h2) j_ (fun v _ h=>by exact⟨.inl rfl,.inl rfl,trivial⟩)
end Go.Proofs.YtaffcjgphlhppaaGreatDoor
namespace Go.Proofs.YtaffcjgphlhppaaGreatDoor
open Go Go.Sx Go.Proofs
attribute [local irreducible] Code.wp wpList wpAnyH
open Go.Vs
abbrev SrtS (l:List Str):Prop:=l.Pairwise fun x y=>x<y
end Go.Proofs.YtaffcjgphlhppaaGreatDoor
namespace Go.Proofs.YtaffcjgphlhppaaGreatDoor
open Go Go.Sx Go.Proofs
attribute [local irreducible] Code.wp wpList wpAnyH
open Go.Vs
theorem SrtS.nodup {l:List Str} (h:SrtS l):l.Nodup:=by
  unfold List.Nodup;refine List.Pairwise.imp ?_ h;intro a b hab e;exact rt_ b (e▸hab)
def qi_ (fs:List Fc) (f:Fc):Bool:=fs.any fun x=>(decide (x=f)||decide (x=W_ f.a [33]))||((decide (f=M_ f.a f.r f.lo f.hi)&&decide (x=M_ f.a f.r x.lo x.hi))&&(decide (f.lo≤x.lo)&&decide (x.hi≤f.hi)))
def mL_ (f x:Fc):Bool:=(decide (x=f)||decide (x=W_ f.a [33]))||((decide (f=M_ f.a f.r f.lo f.hi)&&decide (x=M_ f.a f.r x.lo x.hi))&&(decide (f.lo≤x.lo)&&decide (x.hi≤f.hi)))
theorem any_no {α:Type} {p:α→Bool} {l:List α} {j:Nat} {x:α} (h:∀ y∈l.take j,p y=false) (hx:l[j]? = some x) (hp:p x=false):∀ y∈l.take (j+1),p y=false:=fun y hy=>by
 rw[List.take_add_one,hx]at hy;simp only[Option.toList_some,List.mem_append,List.mem_singleton]at hy;rcases hy with hy|rfl
 ·exact h y hy
 exact hp
theorem rO_ {α:Type} {p:α→Bool} {l:List α} {j:Nat} (h:∀ y∈l.take j,p y=false) (hj:l.length≤j):false=l.any p:=by
  rw[List.take_of_length_le hj]at h
  symm;rw[List.any_eq_false];exact fun y hy=>by simp[h y hy]
theorem iQ_ {α:Type} {p:α→Bool} {l:List α} {x:α} (hx:x∈l) (hp:p x=true):true=l.any p:=(List.any_eq_true.2 ⟨x,hx,hp⟩).symm
theorem der_c (c:Cl) (f:Fc) (hf:c.facts.length≤1000000000000):Tri Tryz.prog 21 #[Cl.val c,Fc.val f] [] [aC_ c.fad (List.flatMap Fc.cells c.facts)] (fun _:Unit=>.bool (qi_ c.facts f)) (fun _=>[]) (fun _=>[]):=by
 refine w_ Tryz.func21 rfl rfl Tryz.ntmps21 rfl fun v0=>?_;refine Zz 2 ?_;refine ah_ rfl rfl fun b1=>ah_ rfl rfl fun b2=>Zz 7 ?_
 refine n_ (gC_ f.a [33]) rfl j_ zt rfl fun _=>E_ ag_ rfl fun b3=>z_ 0 y_ rfl rfl rfl rfl rfl rfl (Zz 4 ?_)
 refine o_ 3 [0,1,2,3,4,5,6,7,8] zk zs (Zz 10 ?_);refine i_ 9 rfl zk (n_ (lS_ f.a f.r f.lo f.hi) rfl j_ zt rfl fun _=>Zz 3 ?_);refine o_ 0 [10,11] zk zs (cC_ rfl (ar_ (p:=f) (q:=(M_ f.a f.r f.lo f.hi)) rfl rfl) rfl fun r1 hr1=>Zz 14 ?_);cases r1
 ·replace hr1:=zdf hr1
  refine aF_ (ι:={y:Nat // y≤List.length c.facts∧∀ z∈List.take y c.facts,mL_ f z=false}) (fun y=>[(2,zp_ b1 0),(3,zp_ b2 0),(5,zp_ b3 0),(6,.bool false),(24,.slice c.fad (List.length c.facts) c.fcap),(25,.int .i64 (List.length c.facts:Int)),(26,.int .i64 (y.1:Int))]) (fun y=>((b3,.cells #[.int .i64 (Fc.kind (W_ f.a [33])),str (Fc.a (W_ f.a [33])),str (Fc.b (W_ f.a [33])),str (Fc.r (W_ f.a [33])),.int .i64 (Fc.lo (W_ f.a [33])),.int .i64 (Fc.hi (W_ f.a [33]))] 24 (0,0))::((b2,.cells #[.int .i64 f.kind,str f.a,str f.b,str f.r,.int .i64 f.lo,.int .i64 f.hi] 24 (0,0))::((b1,.cells #[.slice c.aad (List.length c.atoms) c.acap,.slice c.fad (List.length c.facts) c.fcap] 49 (0,0))::[])))) (fun y=>[aC_ c.fad (List.flatMap Fc.cells c.facts)]) (fun y=>List.length c.facts - y.1) ⟨(0:Nat),by simp,by simp⟩ zl zp zh ?_;rintro ⟨j,hj,hall⟩;dsimp only at hj hall ⊢;refine Zi 2 (fun hr2=>?_) fun hr2=>?_
  ·refine Zz 12 ?_
   exact T_ iB_ () (l_ rfl (rO_ hall (by omega))) j_ zt
  obtain⟨hlx2,x2,hx2,hmx2⟩:=zge (show j<List.length c.facts by omega);refine Zz 12 ?_;refine E_ ag_ rfl fun b4=>z_ 0 y_ rfl rfl rfl rfl rfl rfl (Zz 7 ?_)
  refine J_ (ar_ (p:=x2) (q:=f) rfl rfl) rfl fun r3 hr3=>Zz 1 ?_
  cases r3
  ·replace hr3:=zdf hr3
   refine Zz 5 ?_;refine J_ (ar_ (p:=x2) (q:=(W_ f.a [33])) rfl rfl) rfl fun r4 hr4=>Zz 3 ?_
   cases r4
   ·replace hr4:=zdf hr4
    refine Zz 5 ?_;refine o_ 0 [0,1,2,3,4,5,6,7,8,9,10,11,12,13,14,15,16,17,18,19,20,21,22,23,24,25,26,27] zk zs (Zz 39 ?_);exact aa_ ⟨j+1,hlx2,any_no hall hx2 (by have p1:=eq_false hr1;have p2:=eq_true hr2;have p3:=eq_false hr3;have p4:=eq_false hr4;simp only[mL_,p1,p2,p3,p4,if_true,if_false,decide_true,decide_false,Bool.and_true,Bool.and_false,Bool.true_and,Bool.false_and,Bool.or_true,Bool.or_false,Bool.true_or,Bool.false_or,Bool.not_true,Bool.not_false,ne_eq,not_true_eq_false,not_false_eq_true,true_and,and_true,false_and,and_false,true_or,or_true,false_or,or_false,ite_true,ite_false,Bool.false_eq_true])⟩ (by dsimp only;omega) zl (t_ (c_ e_) (t_ (c_ e_) (c_ e_))) zh
   replace hr4:=zdt hr4;refine Zz 7 ?_;exact T_ iB_ () (l_ rfl (iQ_ hmx2 (by have p1:=eq_false hr1;have p2:=eq_true hr2;have p3:=eq_false hr3;have p4:=eq_true hr4;simp only[mL_,p1,p2,p3,p4,if_true,if_false,decide_true,decide_false,Bool.and_true,Bool.and_false,Bool.true_and,Bool.false_and,Bool.or_true,Bool.or_false,Bool.true_or,Bool.false_or,Bool.not_true,Bool.not_false,ne_eq,not_true_eq_false,not_false_eq_true,true_and,and_true,false_and,and_false,true_or,or_true,false_or,or_false,ite_true,ite_false,Bool.false_eq_true]))) j_ zt
  replace hr3:=zdt hr3;refine Zz 13 ?_;exact T_ iB_ () (l_ rfl (iQ_ hmx2 (by have p1:=eq_false hr1;have p2:=eq_true hr2;have p3:=eq_true hr3;simp only[mL_,p1,p2,p3,if_true,if_false,decide_true,decide_false,Bool.and_true,Bool.and_false,Bool.true_and,Bool.false_and,Bool.or_true,Bool.or_false,Bool.true_or,Bool.false_or,Bool.not_true,Bool.not_false,ne_eq,not_true_eq_false,not_false_eq_true,true_and,and_true,false_and,and_false,true_or,or_true,false_or,or_false,ite_true,ite_false,Bool.false_eq_true]))) j_ zt
 replace hr1:=zdt hr1;refine aF_ (ι:={y:Nat // y≤List.length c.facts∧∀ z∈List.take y c.facts,mL_ f z=false}) (fun y=>[(2,zp_ b1 0),(3,zp_ b2 0),(5,zp_ b3 0),(6,.bool true),(24,.slice c.fad (List.length c.facts) c.fcap),(25,.int .i64 (List.length c.facts:Int)),(26,.int .i64 (y.1:Int))]) (fun y=>((b3,.cells #[.int .i64 (Fc.kind (W_ f.a [33])),str (Fc.a (W_ f.a [33])),str (Fc.b (W_ f.a [33])),str (Fc.r (W_ f.a [33])),.int .i64 (Fc.lo (W_ f.a [33])),.int .i64 (Fc.hi (W_ f.a [33]))] 24 (0,0))::((b2,.cells #[.int .i64 f.kind,str f.a,str f.b,str f.r,.int .i64 f.lo,.int .i64 f.hi] 24 (0,0))::((b1,.cells #[.slice c.aad (List.length c.atoms) c.acap,.slice c.fad (List.length c.facts) c.fcap] 49 (0,0))::[])))) (fun y=>[aC_ c.fad (List.flatMap Fc.cells c.facts)]) (fun y=>List.length c.facts - y.1) ⟨(0:Nat),by simp,by simp⟩ zl zp zh ?_;rintro ⟨j,hj,hall⟩;dsimp only at hj hall ⊢;refine Zi 2 (fun hr5=>?_) fun hr5=>?_
 ·refine Zz 12 ?_
  exact T_ iB_ () (l_ rfl (rO_ hall (by omega))) j_ zt
 obtain⟨hlx2,x2,hx2,hmx2⟩:=zge (show j<List.length c.facts by omega);refine Zz 12 ?_;refine E_ ag_ rfl fun b5=>z_ 0 y_ rfl rfl rfl rfl rfl rfl (Zz 7 ?_)
 refine J_ (ar_ (p:=x2) (q:=f) rfl rfl) rfl fun r6 hr6=>Zz 1 ?_
 cases r6
 ·replace hr6:=zdf hr6
  refine Zz 5 ?_;refine J_ (ar_ (p:=x2) (q:=(W_ f.a [33])) rfl rfl) rfl fun r7 hr7=>Zz 3 ?_
  cases r7
  ·replace hr7:=zdf hr7
   refine Zz 5 ?_;refine o_ 17 [0,1,2,3,4,5,6,7,8,9,10] zk zs (Zz 12 ?_);refine i_ 11 rfl zk (Y_ rfl rfl (n_ (lS_ f.a f.r x2.lo x2.hi) rfl j_ zt rfl fun _=>Zz 3 ?_));refine o_ 13 [12,13,14] zk zs (aI_ rfl rfl rfl (ar_ (p:=x2) (q:=(M_ f.a f.r x2.lo x2.hi)) rfl rfl) rfl fun r8 hr8=>Zz 3 ?_);cases r8
   ·replace hr8:=zdf hr8
    refine o_ 0 [15,16,17,18,19,20,21,22,23,24,25,26,27] zk zs (Zz 24 ?_);exact aa_ ⟨j+1,hlx2,any_no hall hx2 (by have p1:=eq_true hr1;have p2:=eq_true hr5;have p3:=eq_false hr6;have p4:=eq_false hr7;have p5:=eq_false hr8;simp only[mL_,p1,p2,p3,p4,p5,if_true,if_false,decide_true,decide_false,Bool.and_true,Bool.and_false,Bool.true_and,Bool.false_and,Bool.or_true,Bool.or_false,Bool.true_or,Bool.false_or,Bool.not_true,Bool.not_false,ne_eq,not_true_eq_false,not_false_eq_true,true_and,and_true,false_and,and_false,true_or,or_true,false_or,or_false,ite_true,ite_false,Bool.false_eq_true])⟩ (by dsimp only;omega) zl (t_ (c_ e_) (t_ (c_ e_) (c_ e_))) zh
   replace hr8:=zdt hr8;refine o_ 6 [15,16,17,18,19,20,21] zk zs (Zi 4 (fun hr9=>?_) fun hr9=>?_)
   ·refine Zz 3 ?_
    refine o_ 0 [22,23,24,25,26,27] zk zs (Zz 17 ?_);exact aa_ ⟨j+1,hlx2,any_no hall hx2 (by have p1:=eq_true hr1;have p2:=eq_true hr5;have p3:=eq_false hr6;have p4:=eq_false hr7;have p5:=eq_true hr8;have p6:=eq_false hr9;simp only[mL_,p1,p2,p3,p4,p5,p6,if_true,if_false,decide_true,decide_false,Bool.and_true,Bool.and_false,Bool.true_and,Bool.false_and,Bool.or_true,Bool.or_false,Bool.true_or,Bool.false_or,Bool.not_true,Bool.not_false,ne_eq,not_true_eq_false,not_false_eq_true,true_and,and_true,false_and,and_false,true_or,or_true,false_or,or_false,ite_true,ite_false,Bool.false_eq_true])⟩ (by dsimp only;omega) zl (t_ (c_ e_) (t_ (c_ e_) (c_ e_))) zh
   refine Zz 3 ?_;refine o_ 0 [22,23,24,25,26,27] zk zs (Zi 4 (fun hr10=>?_) fun hr10=>?_)
   ·refine Zz 12 ?_
    exact aa_ ⟨j+1,hlx2,any_no hall hx2 (by have p1:=eq_true hr1;have p2:=eq_true hr5;have p3:=eq_false hr6;have p4:=eq_false hr7;have p5:=eq_true hr8;have p6:=eq_true hr9;have p7:=eq_false hr10;simp only[mL_,p1,p2,p3,p4,p5,p6,p7,if_true,if_false,decide_true,decide_false,Bool.and_true,Bool.and_false,Bool.true_and,Bool.false_and,Bool.or_true,Bool.or_false,Bool.true_or,Bool.false_or,Bool.not_true,Bool.not_false,ne_eq,not_true_eq_false,not_false_eq_true,true_and,and_true,false_and,and_false,true_or,or_true,false_or,or_false,ite_true,ite_false,Bool.false_eq_true])⟩ (by dsimp only;omega) zl (t_ (c_ e_) (t_ (c_ e_) (c_ e_))) zh
   refine Zz 11 ?_;exact T_ iB_ () (l_ rfl (iQ_ hmx2 (by have p1:=eq_true hr1;have p2:=eq_true hr5;have p3:=eq_false hr6;have p4:=eq_false hr7;have p5:=eq_true hr8;have p6:=eq_true hr9;have p7:=eq_true hr10;simp only[mL_,p1,p2,p3,p4,p5,p6,p7,if_true,if_false,decide_true,decide_false,Bool.and_true,Bool.and_false,Bool.true_and,Bool.false_and,Bool.or_true,Bool.or_false,Bool.true_or,Bool.false_or,Bool.not_true,Bool.not_false,ne_eq,not_true_eq_false,not_false_eq_true,true_and,and_true,false_and,and_false,true_or,or_true,false_or,or_false,ite_true,ite_false,Bool.false_eq_true]))) j_ zt
  replace hr7:=zdt hr7;refine Zz 7 ?_;exact T_ iB_ () (l_ rfl (iQ_ hmx2 (by have p1:=eq_true hr1;have p2:=eq_true hr5;have p3:=eq_false hr6;have p4:=eq_true hr7;simp only[mL_,p1,p2,p3,p4,if_true,if_false,decide_true,decide_false,Bool.and_true,Bool.and_false,Bool.true_and,Bool.false_and,Bool.or_true,Bool.or_false,Bool.true_or,Bool.false_or,Bool.not_true,Bool.not_false,ne_eq,not_true_eq_false,not_false_eq_true,true_and,and_true,false_and,and_false,true_or,or_true,false_or,or_false,ite_true,ite_false,Bool.false_eq_true]))) j_ zt
 replace hr6:=zdt hr6;refine Zz 13 ?_;exact T_ iB_ () (l_ rfl (iQ_ hmx2 (by have p1:=eq_true hr1;have p2:=eq_true hr5;have p3:=eq_true hr6;simp only[mL_,p1,p2,p3,if_true,if_false,decide_true,decide_false,Bool.and_true,Bool.and_false,Bool.true_and,Bool.false_and,Bool.or_true,Bool.or_false,Bool.true_or,Bool.false_or,Bool.not_true,Bool.not_false,ne_eq,not_true_eq_false,not_false_eq_true,true_and,and_true,false_and,and_false,true_or,or_true,false_or,or_false,ite_true,ite_false,Bool.false_eq_true]))) j_ zt
end Go.Proofs.YtaffcjgphlhppaaGreatDoor
