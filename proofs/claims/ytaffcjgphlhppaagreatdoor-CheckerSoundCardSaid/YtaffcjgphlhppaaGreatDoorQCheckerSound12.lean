/-
  Part of the proof of the law CheckerSound over this seat: the small logic, the data, the contracts of functions (no condition).
-/
import Derived.Test.YtaffcjgphlhppaaGreatDoorQCheckerSound11
import Derived.Shelf.SlSortCmp.NoneTotal
import Derived.Test.YtaffcjgphlhppaaGreatDoorProg
import Derived.Test.YtaffcjgphlhppaaGreatDoorQCheckerSound2
import Derived.Test.YtaffcjgphlhppaaGreatDoorQCheckerSound5
set_option linter.unusedVariables false
set_option linter.unusedSimpArgs false
set_option linter.unusedSectionVars false
set_option maxHeartbeats 1000000
namespace Go.Proofs.YtaffcjgphlhppaaGreatDoor
open Go Go.Sx Go.Proofs
attribute [local irreducible] Code.wp wpList wpAnyH
open Go.Vs
def fvC (v:Value):List Value:=[v]
theorem hO_ (v:Value):(fvC v).length=1:=rfl
theorem pv_ {P:Program} {N:Nf} {fr:Fr} {H:Hp} {Γ:List Fct} {ty:TypeId} {t e:TypeId} {n sz:Nat} {parts:List (Nat×Operand)} {vs:List (Nat×Value)} {z cs:List Value} (hz:∀ w,(zeroValue t).run P w=.ok (.agg z.toArray) w) (hu:∀ w,(underlying t).run P w=.ok (.array n e) w) (hs:∀ w,(sizeOf e).run P w=.ok sz w) (hx:Fr.evp fr parts=some vs) (hf:jA_ (fun i=>some (i*sz,sz)) z vs=some cs) :
    Yld P N fr H Γ (.build t parts.toArray) ty (.agg cs.toArray) :=
  iW_ (fun a h1 w=>by
    have:=h1.evp hx
    rw[List.map_toArray,this]
    have hf':=ht_ _ _ _ _ hf
    simp only[Instr.build,Sem.run_bind,hz,Result.andThen_ok,hu,hs,Value.cells,hf',Sem.run_pure])
def rlV (g:Nat) (k:Nat):List Value:=if k=1 then [(Value.func (.func 100) #[zp_ g 0] #[]),(Value.func (.func 101) #[zp_ g 0] #[]),(Value.func (.func 102) #[zp_ g 0] #[]),(Value.func (.func 103) #[zp_ g 0] #[]),(Value.func (.func 104) #[zp_ g 0] #[]),(Value.func (.func 105) #[zp_ g 0] #[])] else if k=2 then [(Value.func (.func 106) #[zp_ g 0] #[]),(Value.func (.func 107) #[zp_ g 0] #[]),(Value.func (.func 108) #[zp_ g 0] #[]),(Value.func (.func 109) #[zp_ g 0] #[])] else [(Value.func (.func 110) #[zp_ g 0] #[]),(Value.func (.func 111) #[zp_ g 0] #[])]
theorem sM_ (g:Nat):Tri Tryz.prog 51 #[zp_ g 0] [] [] (fun y:Nat×Nat×Nat=>.agg #[.slice none 0 0,.slice (some ⟨y.1,0,none⟩) 6 6,.slice (some ⟨y.2.1,0,none⟩) 4 4,.slice (some ⟨y.2.2,0,none⟩) 2 2]) (fun _=>[]) (fun y=>[at_ (some ⟨y.1,0,none⟩) (List.flatMap fvC (rlV g 1)),at_ (some ⟨y.2.1,0,none⟩) (List.flatMap fvC (rlV g 2)),at_ (some ⟨y.2.2,0,none⟩) (List.flatMap fvC (rlV g 3))]):=by
  refine t_ Tryz.func51 rfl rfl Tryz.ntmps51 rfl fun v0=>?_
  refine Zz 2 ?_
  refine C_ Tryz.zeroValue115 rfl fun b1=>Zz 5 ?_
  refine d_ (bI_ (us:=[zp_ g 0]) (vs:=[]) rfl rfl) rfl (Zz 1 ?_)
  refine d_ (bI_ (us:=[zp_ g 0]) (vs:=[]) rfl rfl) rfl (Zz 1 ?_)
  refine d_ (bI_ (us:=[zp_ g 0]) (vs:=[]) rfl rfl) rfl (Zz 1 ?_)
  refine d_ (bI_ (us:=[zp_ g 0]) (vs:=[]) rfl rfl) rfl (Zz 1 ?_)
  refine d_ (bI_ (us:=[zp_ g 0]) (vs:=[]) rfl rfl) rfl (Zz 1 ?_)
  refine d_ (bI_ (us:=[zp_ g 0]) (vs:=[]) rfl rfl) rfl (ap_ bg_ eA_ Tryz.zeroValue106 rfl rfl rfl rfl rfl rfl fun b2=>?_)
  refine bu_ (List.flatMap fvC [(Value.func (.func 100) #[zp_ g 0] #[]),(Value.func (.func 101) #[zp_ g 0] #[]),(Value.func (.func 102) #[zp_ g 0] #[]),(Value.func (.func 103) #[zp_ g 0] #[]),(Value.func (.func 104) #[zp_ g 0] #[]),(Value.func (.func 105) #[zp_ g 0] #[])]) e_ rfl ?_
  refine Zz 1 ?_
  refine d_ (bI_ (us:=[zp_ g 0]) (vs:=[]) rfl rfl) rfl (Zz 1 ?_)
  refine d_ (bI_ (us:=[zp_ g 0]) (vs:=[]) rfl rfl) rfl (Zz 1 ?_)
  refine d_ (bI_ (us:=[zp_ g 0]) (vs:=[]) rfl rfl) rfl (Zz 1 ?_)
  refine d_ (bI_ (us:=[zp_ g 0]) (vs:=[]) rfl rfl) rfl (ap_ bg_ eA_ Tryz.zeroValue106 rfl rfl rfl rfl rfl rfl fun b3=>?_)
  refine bu_ (List.flatMap fvC [(Value.func (.func 106) #[zp_ g 0] #[]),(Value.func (.func 107) #[zp_ g 0] #[]),(Value.func (.func 108) #[zp_ g 0] #[]),(Value.func (.func 109) #[zp_ g 0] #[])]) e_ rfl ?_
  refine Zz 1 ?_
  refine d_ (bI_ (us:=[zp_ g 0]) (vs:=[]) rfl rfl) rfl (Zz 1 ?_)
  refine d_ (bI_ (us:=[zp_ g 0]) (vs:=[]) rfl rfl) rfl (ap_ bg_ eA_ Tryz.zeroValue106 rfl rfl rfl rfl rfl rfl fun b4=>?_)
  refine bu_ (List.flatMap fvC [(Value.func (.func 110) #[zp_ g 0] #[]),(Value.func (.func 111) #[zp_ g 0] #[])]) e_ rfl ?_
  refine d_ (pv_ Tryz.zeroValue115 pG_ Tryz.sizeOf114 rfl rfl) rfl (w_ 0 Tryz.sizeOf115 rfl rfl rfl rfl rfl rfl (Zz 3 ?_))
  exact ej_ (b2,b3,b4) (fun aa v h1 h2=>cd_ (us:=[.slice none 0 0,.slice (some ⟨b2,0,none⟩) (List.length [(Value.func (.func 100) #[zp_ g 0] #[]),(Value.func (.func 101) #[zp_ g 0] #[]),(Value.func (.func 102) #[zp_ g 0] #[]),(Value.func (.func 103) #[zp_ g 0] #[]),(Value.func (.func 104) #[zp_ g 0] #[]),(Value.func (.func 105) #[zp_ g 0] #[])]) 6,.slice (some ⟨b3,0,none⟩) (List.length [(Value.func (.func 106) #[zp_ g 0] #[]),(Value.func (.func 107) #[zp_ g 0] #[]),(Value.func (.func 108) #[zp_ g 0] #[]),(Value.func (.func 109) #[zp_ g 0] #[])]) 4,.slice (some ⟨b4,0,none⟩) (List.length [(Value.func (.func 110) #[zp_ g 0] #[]),(Value.func (.func 111) #[zp_ g 0] #[])]) 2]) 0 Tryz.results51 Tryz.isAgg115 Tryz.sizeOf115 rfl rfl rfl aa v h1 h2) g_ zf
end Go.Proofs.YtaffcjgphlhppaaGreatDoor
namespace Go.Proofs.YtaffcjgphlhppaaGreatDoor
open Go Go.Sx Go.Proofs
attribute [local irreducible] Code.wp wpList wpAnyH
open Go.Vs
theorem fh_ (B:EngB) (E:Emt Tryz.prog 24) (A0:EngA) (pm:List (Ky×Pc)) (x:Ix) (f:Fc) (nw fm:List Fc) (Hs:Hp) (hS:E.St nw fm Hs) (Ha Hu Ho Hi Hr Hm:Hp) (hI:IxO 9 24 B x ⟨Ha,Hu,Ho,Hi,Hr,Hm⟩) {n:FuncId} {args:Array Value} {ret:Hp→Prop} (hT:∀ A:EngA,A.p=A0.p→Tri Tryz.prog n args Hs [gF B E,pF B pm A,aF B x A,uF B x A,oF B x A,iF B x A,rF B x A,sF B x A,E.ef] (fun _:{H':Hp // ret H'}=>.tuple #[]) (fun y=>y.1) (fun _=>[])) :
    Tri Tryz.prog n args ((Ha++(Hu++(Ho++(Hi++(Hr++Hm)))))++Hs) [gF B E,pF B pm A0,E.ef] (fun _:{H':Hp // ret H'}=>.tuple #[]) (fun y=>(Ha++(Hu++(Ho++(Hi++(Hr++Hm)))))++y.1) (fun _=>[]):=by
  obtain⟨ha,hu,ho,hi,hr,hm⟩:=hI
  dsimp only at ha hu ho hi hr hm
  obtain⟨a1,k1⟩:=ha.lent (P:=Tryz.prog) iH_
  obtain⟨a2,k2⟩:=hu.lent (P:=Tryz.prog) iH_
  obtain⟨a3,k3⟩:=ho.lent (P:=Tryz.prog) cO_
  obtain⟨a4,k4⟩:=hi.lent (P:=Tryz.prog) cO_
  obtain⟨a5,k5⟩:=hr.lent (P:=Tryz.prog) cO_
  obtain⟨a6,k6⟩:=hm.lent (P:=Tryz.prog) cO_
  refine it_ _ (hT ⟨A0.p,a1,a2,a3,a4,a5,a6⟩ rfl) fun v hB h=>⟨h.1,h.2.1,k1 v fun p hp=>hB p (by simp[hp]),k2 v fun p hp=>hB p (by simp[hp]),k3 v fun p hp=>hB p (by simp[hp]),k4 v fun p hp=>hB p (by simp[hp]),k5 v fun p hp=>hB p (by simp[hp]),k6 v fun p hp=>hB p (by simp[hp]),h.2.2.1,trivial⟩
theorem rl10_c (B:EngB) (E:Emt Tryz.prog 24) (A0:EngA) (pm:List (Ky×Pc)) (x:Ix) (f:Fc) (nw fm:List Fc) (Hs:Hp) (hS:E.St nw fm Hs) (Ha Hu Ho Hi Hr Hm:Hp) (hI:IxO 9 24 B x ⟨Ha,Hu,Ho,Hi,Hr,Hm⟩) (hpl:∀ k,(lat pm k).length≤1000000000) (hxl:∀ k,(lat x.above k).length≤1000000000∧(lat x.under k).length≤1000000000) (hyl:∀ k,(lat x.frm k).length≤1000000000∧(lat x.into k).length≤1000000000∧(lat x.ranges k).length≤1000000000∧(lat x.firms k).length≤1000000000) (hf:f.kind=3→-1099511627776≤f.lo∧f.lo≤f.hi∧f.hi≤1099511627776) (hq:f.kind=3→∀ y∈lat pm (Ky.mk 9 f.r []),-1099511627776≤y.lo∧y.lo≤y.hi∧y.hi≤1099511627776) (hk:f.kind=1):Tri Tryz.prog 100 #[zp_ B.g 0,f.val] ((Ha++(Hu++(Ho++(Hi++(Hr++Hm)))))++Hs) [gF B E,pF B pm A0,E.ef] (fun _:{H':Hp // E.St (rl E.stp E.kof pm x f 0 (nw,fm)).1 (rl E.stp E.kof pm x f 0 (nw,fm)).2 H'}=>.tuple #[]) (fun y=>(Ha++(Hu++(Ho++(Hi++(Hr++Hm)))))++y.1) (fun _=>[]):=by
  refine fh_ B E A0 pm x f nw fm Hs hS Ha Hu Ho Hi Hr Hm hI fun A hA=>?_
  have h:=qp_ B E A pm x f nw fm Hs hS hpl hxl hyl
  have e:rl E.stp E.kof pm x f 0 (nw,fm)=_:=if_pos hk
  rw[e]
  exact h
theorem rl11_c (B:EngB) (E:Emt Tryz.prog 24) (A0:EngA) (pm:List (Ky×Pc)) (x:Ix) (f:Fc) (nw fm:List Fc) (Hs:Hp) (hS:E.St nw fm Hs) (Ha Hu Ho Hi Hr Hm:Hp) (hI:IxO 9 24 B x ⟨Ha,Hu,Ho,Hi,Hr,Hm⟩) (hpl:∀ k,(lat pm k).length≤1000000000) (hxl:∀ k,(lat x.above k).length≤1000000000∧(lat x.under k).length≤1000000000) (hyl:∀ k,(lat x.frm k).length≤1000000000∧(lat x.into k).length≤1000000000∧(lat x.ranges k).length≤1000000000∧(lat x.firms k).length≤1000000000) (hf:f.kind=3→-1099511627776≤f.lo∧f.lo≤f.hi∧f.hi≤1099511627776) (hq:f.kind=3→∀ y∈lat pm (Ky.mk 9 f.r []),-1099511627776≤y.lo∧y.lo≤y.hi∧y.hi≤1099511627776) (hk:f.kind=1):Tri Tryz.prog 101 #[zp_ B.g 0,f.val] ((Ha++(Hu++(Ho++(Hi++(Hr++Hm)))))++Hs) [gF B E,pF B pm A0,E.ef] (fun _:{H':Hp // E.St (rl E.stp E.kof pm x f 1 (nw,fm)).1 (rl E.stp E.kof pm x f 1 (nw,fm)).2 H'}=>.tuple #[]) (fun y=>(Ha++(Hu++(Ho++(Hi++(Hr++Hm)))))++y.1) (fun _=>[]):=by
  refine fh_ B E A0 pm x f nw fm Hs hS Ha Hu Ho Hi Hr Hm hI fun A hA=>?_
  have h:=both_c B E A pm x f nw fm Hs hS hpl hxl hyl
  have e:rl E.stp E.kof pm x f 1 (nw,fm)=_:=if_pos hk
  rw[e]
  exact h
theorem rl12_c (B:EngB) (E:Emt Tryz.prog 24) (A0:EngA) (pm:List (Ky×Pc)) (x:Ix) (f:Fc) (nw fm:List Fc) (Hs:Hp) (hS:E.St nw fm Hs) (Ha Hu Ho Hi Hr Hm:Hp) (hI:IxO 9 24 B x ⟨Ha,Hu,Ho,Hi,Hr,Hm⟩) (hpl:∀ k,(lat pm k).length≤1000000000) (hxl:∀ k,(lat x.above k).length≤1000000000∧(lat x.under k).length≤1000000000) (hyl:∀ k,(lat x.frm k).length≤1000000000∧(lat x.into k).length≤1000000000∧(lat x.ranges k).length≤1000000000∧(lat x.firms k).length≤1000000000) (hf:f.kind=3→-1099511627776≤f.lo∧f.lo≤f.hi∧f.hi≤1099511627776) (hq:f.kind=3→∀ y∈lat pm (Ky.mk 9 f.r []),-1099511627776≤y.lo∧y.lo≤y.hi∧y.hi≤1099511627776) (hk:f.kind=1):Tri Tryz.prog 102 #[zp_ B.g 0,f.val] ((Ha++(Hu++(Ho++(Hi++(Hr++Hm)))))++Hs) [gF B E,pF B pm A0,E.ef] (fun _:{H':Hp // E.St (rl E.stp E.kof pm x f 2 (nw,fm)).1 (rl E.stp E.kof pm x f 2 (nw,fm)).2 H'}=>.tuple #[]) (fun y=>(Ha++(Hu++(Ho++(Hi++(Hr++Hm)))))++y.1) (fun _=>[]):=by
  refine fh_ B E A0 pm x f nw fm Hs hS Ha Hu Ho Hi Hr Hm hI fun A hA=>?_
  have h:=some_c B E A pm x f nw fm Hs hS hpl hxl hyl
  have e:rl E.stp E.kof pm x f 2 (nw,fm)=_:=if_pos hk
  rw[e]
  exact h
theorem rl13_c (B:EngB) (E:Emt Tryz.prog 24) (A0:EngA) (pm:List (Ky×Pc)) (x:Ix) (f:Fc) (nw fm:List Fc) (Hs:Hp) (hS:E.St nw fm Hs) (Ha Hu Ho Hi Hr Hm:Hp) (hI:IxO 9 24 B x ⟨Ha,Hu,Ho,Hi,Hr,Hm⟩) (hpl:∀ k,(lat pm k).length≤1000000000) (hxl:∀ k,(lat x.above k).length≤1000000000∧(lat x.under k).length≤1000000000) (hyl:∀ k,(lat x.frm k).length≤1000000000∧(lat x.into k).length≤1000000000∧(lat x.ranges k).length≤1000000000∧(lat x.firms k).length≤1000000000) (hf:f.kind=3→-1099511627776≤f.lo∧f.lo≤f.hi∧f.hi≤1099511627776) (hq:f.kind=3→∀ y∈lat pm (Ky.mk 9 f.r []),-1099511627776≤y.lo∧y.lo≤y.hi∧y.hi≤1099511627776) (hk:f.kind=1):Tri Tryz.prog 103 #[zp_ B.g 0,f.val] ((Ha++(Hu++(Ho++(Hi++(Hr++Hm)))))++Hs) [gF B E,pF B pm A0,E.ef] (fun _:{H':Hp // E.St (rl E.stp E.kof pm x f 3 (nw,fm)).1 (rl E.stp E.kof pm x f 3 (nw,fm)).2 H'}=>.tuple #[]) (fun y=>(Ha++(Hu++(Ho++(Hi++(Hr++Hm)))))++y.1) (fun _=>[]):=by
  refine fh_ B E A0 pm x f nw fm Hs hS Ha Hu Ho Hi Hr Hm hI fun A hA=>?_
  have h:=oF_ B E A pm x f nw fm Hs hS hpl hxl hyl
  have e:rl E.stp E.kof pm x f 3 (nw,fm)=_:=if_pos hk
  rw[e]
  exact h
theorem rl14_c (B:EngB) (E:Emt Tryz.prog 24) (A0:EngA) (pm:List (Ky×Pc)) (x:Ix) (f:Fc) (nw fm:List Fc) (Hs:Hp) (hS:E.St nw fm Hs) (Ha Hu Ho Hi Hr Hm:Hp) (hI:IxO 9 24 B x ⟨Ha,Hu,Ho,Hi,Hr,Hm⟩) (hpl:∀ k,(lat pm k).length≤1000000000) (hxl:∀ k,(lat x.above k).length≤1000000000∧(lat x.under k).length≤1000000000) (hyl:∀ k,(lat x.frm k).length≤1000000000∧(lat x.into k).length≤1000000000∧(lat x.ranges k).length≤1000000000∧(lat x.firms k).length≤1000000000) (hf:f.kind=3→-1099511627776≤f.lo∧f.lo≤f.hi∧f.hi≤1099511627776) (hq:f.kind=3→∀ y∈lat pm (Ky.mk 9 f.r []),-1099511627776≤y.lo∧y.lo≤y.hi∧y.hi≤1099511627776) (hk:f.kind=1):Tri Tryz.prog 104 #[zp_ B.g 0,f.val] ((Ha++(Hu++(Ho++(Hi++(Hr++Hm)))))++Hs) [gF B E,pF B pm A0,E.ef] (fun _:{H':Hp // E.St (rl E.stp E.kof pm x f 4 (nw,fm)).1 (rl E.stp E.kof pm x f 4 (nw,fm)).2 H'}=>.tuple #[]) (fun y=>(Ha++(Hu++(Ho++(Hi++(Hr++Hm)))))++y.1) (fun _=>[]):=by
  refine fh_ B E A0 pm x f nw fm Hs hS Ha Hu Ho Hi Hr Hm hI fun A hA=>?_
  have h:=nX_ B E A pm x f nw fm Hs hS hpl hxl hyl
  have e:rl E.stp E.kof pm x f 4 (nw,fm)=_:=if_pos hk
  rw[e]
  exact h
theorem rl15_c (B:EngB) (E:Emt Tryz.prog 24) (A0:EngA) (pm:List (Ky×Pc)) (x:Ix) (f:Fc) (nw fm:List Fc) (Hs:Hp) (hS:E.St nw fm Hs) (Ha Hu Ho Hi Hr Hm:Hp) (hI:IxO 9 24 B x ⟨Ha,Hu,Ho,Hi,Hr,Hm⟩) (hpl:∀ k,(lat pm k).length≤1000000000) (hxl:∀ k,(lat x.above k).length≤1000000000∧(lat x.under k).length≤1000000000) (hyl:∀ k,(lat x.frm k).length≤1000000000∧(lat x.into k).length≤1000000000∧(lat x.ranges k).length≤1000000000∧(lat x.firms k).length≤1000000000) (hf:f.kind=3→-1099511627776≤f.lo∧f.lo≤f.hi∧f.hi≤1099511627776) (hq:f.kind=3→∀ y∈lat pm (Ky.mk 9 f.r []),-1099511627776≤y.lo∧y.lo≤y.hi∧y.hi≤1099511627776) (hk:f.kind=1):Tri Tryz.prog 105 #[zp_ B.g 0,f.val] ((Ha++(Hu++(Ho++(Hi++(Hr++Hm)))))++Hs) [gF B E,pF B pm A0,E.ef] (fun _:{H':Hp // E.St (rl E.stp E.kof pm x f 5 (nw,fm)).1 (rl E.stp E.kof pm x f 5 (nw,fm)).2 H'}=>.tuple #[]) (fun y=>(Ha++(Hu++(Ho++(Hi++(Hr++Hm)))))++y.1) (fun _=>[]):=by
  refine fh_ B E A0 pm x f nw fm Hs hS Ha Hu Ho Hi Hr Hm hI fun A hA=>?_
  have h:=sy_ B E A pm x f nw fm Hs hS hpl hxl hyl
  have e:rl E.stp E.kof pm x f 5 (nw,fm)=_:=if_pos hk
  rw[e]
  exact h
theorem rl20_c (B:EngB) (E:Emt Tryz.prog 24) (A0:EngA) (pm:List (Ky×Pc)) (x:Ix) (f:Fc) (nw fm:List Fc) (Hs:Hp) (hS:E.St nw fm Hs) (Ha Hu Ho Hi Hr Hm:Hp) (hI:IxO 9 24 B x ⟨Ha,Hu,Ho,Hi,Hr,Hm⟩) (hpl:∀ k,(lat pm k).length≤1000000000) (hxl:∀ k,(lat x.above k).length≤1000000000∧(lat x.under k).length≤1000000000) (hyl:∀ k,(lat x.frm k).length≤1000000000∧(lat x.into k).length≤1000000000∧(lat x.ranges k).length≤1000000000∧(lat x.firms k).length≤1000000000) (hf:f.kind=3→-1099511627776≤f.lo∧f.lo≤f.hi∧f.hi≤1099511627776) (hq:f.kind=3→∀ y∈lat pm (Ky.mk 9 f.r []),-1099511627776≤y.lo∧y.lo≤y.hi∧y.hi≤1099511627776) (hk:f.kind=2):Tri Tryz.prog 106 #[zp_ B.g 0,f.val] ((Ha++(Hu++(Ho++(Hi++(Hr++Hm)))))++Hs) [gF B E,pF B pm A0,E.ef] (fun _:{H':Hp // E.St (rl E.stp E.kof pm x f 0 (nw,fm)).1 (rl E.stp E.kof pm x f 0 (nw,fm)).2 H'}=>.tuple #[]) (fun y=>(Ha++(Hu++(Ho++(Hi++(Hr++Hm)))))++y.1) (fun _=>[]):=by
  refine fh_ B E A0 pm x f nw fm Hs hS Ha Hu Ho Hi Hr Hm hI fun A hA=>?_
  have h:=qh_ B E A pm x f nw fm Hs hS hpl hxl hyl
  have e:rl E.stp E.kof pm x f 0 (nw,fm)=_:=(if_neg (by rw[hk];decide)).trans (if_pos hk)
  rw[e]
  exact h
theorem rl21_c (B:EngB) (E:Emt Tryz.prog 24) (A0:EngA) (pm:List (Ky×Pc)) (x:Ix) (f:Fc) (nw fm:List Fc) (Hs:Hp) (hS:E.St nw fm Hs) (Ha Hu Ho Hi Hr Hm:Hp) (hI:IxO 9 24 B x ⟨Ha,Hu,Ho,Hi,Hr,Hm⟩) (hpl:∀ k,(lat pm k).length≤1000000000) (hxl:∀ k,(lat x.above k).length≤1000000000∧(lat x.under k).length≤1000000000) (hyl:∀ k,(lat x.frm k).length≤1000000000∧(lat x.into k).length≤1000000000∧(lat x.ranges k).length≤1000000000∧(lat x.firms k).length≤1000000000) (hf:f.kind=3→-1099511627776≤f.lo∧f.lo≤f.hi∧f.hi≤1099511627776) (hq:f.kind=3→∀ y∈lat pm (Ky.mk 9 f.r []),-1099511627776≤y.lo∧y.lo≤y.hi∧y.hi≤1099511627776) (hk:f.kind=2):Tri Tryz.prog 107 #[zp_ B.g 0,f.val] ((Ha++(Hu++(Ho++(Hi++(Hr++Hm)))))++Hs) [gF B E,pF B pm A0,E.ef] (fun _:{H':Hp // E.St (rl E.stp E.kof pm x f 1 (nw,fm)).1 (rl E.stp E.kof pm x f 1 (nw,fm)).2 H'}=>.tuple #[]) (fun y=>(Ha++(Hu++(Ho++(Hi++(Hr++Hm)))))++y.1) (fun _=>[]):=by
  refine fh_ B E A0 pm x f nw fm Hs hS Ha Hu Ho Hi Hr Hm hI fun A hA=>?_
  have h:=tJ_ B E A pm x f nw fm Hs hS hpl hxl hyl
  have e:rl E.stp E.kof pm x f 1 (nw,fm)=_:=(if_neg (by rw[hk];decide)).trans (if_pos hk)
  rw[e]
  exact h
theorem rl22_c (B:EngB) (E:Emt Tryz.prog 24) (A0:EngA) (pm:List (Ky×Pc)) (x:Ix) (f:Fc) (nw fm:List Fc) (Hs:Hp) (hS:E.St nw fm Hs) (Ha Hu Ho Hi Hr Hm:Hp) (hI:IxO 9 24 B x ⟨Ha,Hu,Ho,Hi,Hr,Hm⟩) (hpl:∀ k,(lat pm k).length≤1000000000) (hxl:∀ k,(lat x.above k).length≤1000000000∧(lat x.under k).length≤1000000000) (hyl:∀ k,(lat x.frm k).length≤1000000000∧(lat x.into k).length≤1000000000∧(lat x.ranges k).length≤1000000000∧(lat x.firms k).length≤1000000000) (hf:f.kind=3→-1099511627776≤f.lo∧f.lo≤f.hi∧f.hi≤1099511627776) (hq:f.kind=3→∀ y∈lat pm (Ky.mk 9 f.r []),-1099511627776≤y.lo∧y.lo≤y.hi∧y.hi≤1099511627776) (hk:f.kind=2):Tri Tryz.prog 108 #[zp_ B.g 0,f.val] ((Ha++(Hu++(Ho++(Hi++(Hr++Hm)))))++Hs) [gF B E,pF B pm A0,E.ef] (fun _:{H':Hp // E.St (rl E.stp E.kof pm x f 2 (nw,fm)).1 (rl E.stp E.kof pm x f 2 (nw,fm)).2 H'}=>.tuple #[]) (fun y=>(Ha++(Hu++(Ho++(Hi++(Hr++Hm)))))++y.1) (fun _=>[]):=by
  refine fh_ B E A0 pm x f nw fm Hs hS Ha Hu Ho Hi Hr Hm hI fun A hA=>?_
  have h:=oE_ B E A pm x f nw fm Hs hS hpl hxl hyl
  have e:rl E.stp E.kof pm x f 2 (nw,fm)=_:=(if_neg (by rw[hk];decide)).trans (if_pos hk)
  rw[e]
  exact h
theorem rl23_c (B:EngB) (E:Emt Tryz.prog 24) (A0:EngA) (pm:List (Ky×Pc)) (x:Ix) (f:Fc) (nw fm:List Fc) (Hs:Hp) (hS:E.St nw fm Hs) (Ha Hu Ho Hi Hr Hm:Hp) (hI:IxO 9 24 B x ⟨Ha,Hu,Ho,Hi,Hr,Hm⟩) (hpl:∀ k,(lat pm k).length≤1000000000) (hxl:∀ k,(lat x.above k).length≤1000000000∧(lat x.under k).length≤1000000000) (hyl:∀ k,(lat x.frm k).length≤1000000000∧(lat x.into k).length≤1000000000∧(lat x.ranges k).length≤1000000000∧(lat x.firms k).length≤1000000000) (hf:f.kind=3→-1099511627776≤f.lo∧f.lo≤f.hi∧f.hi≤1099511627776) (hq:f.kind=3→∀ y∈lat pm (Ky.mk 9 f.r []),-1099511627776≤y.lo∧y.lo≤y.hi∧y.hi≤1099511627776) (hk:f.kind=2):Tri Tryz.prog 109 #[zp_ B.g 0,f.val] ((Ha++(Hu++(Ho++(Hi++(Hr++Hm)))))++Hs) [gF B E,pF B pm A0,E.ef] (fun _:{H':Hp // E.St (rl E.stp E.kof pm x f 3 (nw,fm)).1 (rl E.stp E.kof pm x f 3 (nw,fm)).2 H'}=>.tuple #[]) (fun y=>(Ha++(Hu++(Ho++(Hi++(Hr++Hm)))))++y.1) (fun _=>[]):=by
  refine fh_ B E A0 pm x f nw fm Hs hS Ha Hu Ho Hi Hr Hm hI fun A hA=>?_
  have h:=nW_ B E A pm x f nw fm Hs hS hpl hxl hyl
  have e:rl E.stp E.kof pm x f 3 (nw,fm)=_:=(if_neg (by rw[hk];decide)).trans (if_pos hk)
  rw[e]
  exact h
theorem rl30_c (B:EngB) (E:Emt Tryz.prog 24) (A0:EngA) (pm:List (Ky×Pc)) (x:Ix) (f:Fc) (nw fm:List Fc) (Hs:Hp) (hS:E.St nw fm Hs) (Ha Hu Ho Hi Hr Hm:Hp) (hI:IxO 9 24 B x ⟨Ha,Hu,Ho,Hi,Hr,Hm⟩) (hpl:∀ k,(lat pm k).length≤1000000000) (hxl:∀ k,(lat x.above k).length≤1000000000∧(lat x.under k).length≤1000000000) (hyl:∀ k,(lat x.frm k).length≤1000000000∧(lat x.into k).length≤1000000000∧(lat x.ranges k).length≤1000000000∧(lat x.firms k).length≤1000000000) (hf:f.kind=3→-1099511627776≤f.lo∧f.lo≤f.hi∧f.hi≤1099511627776) (hq:f.kind=3→∀ y∈lat pm (Ky.mk 9 f.r []),-1099511627776≤y.lo∧y.lo≤y.hi∧y.hi≤1099511627776) (hk:f.kind=3):Tri Tryz.prog 110 #[zp_ B.g 0,f.val] ((Ha++(Hu++(Ho++(Hi++(Hr++Hm)))))++Hs) [gF B E,pF B pm A0,E.ef] (fun _:{H':Hp // E.St (rl E.stp E.kof pm x f 0 (nw,fm)).1 (rl E.stp E.kof pm x f 0 (nw,fm)).2 H'}=>.tuple #[]) (fun y=>(Ha++(Hu++(Ho++(Hi++(Hr++Hm)))))++y.1) (fun _=>[]):=by
  refine fh_ B E A0 pm x f nw fm Hs hS Ha Hu Ho Hi Hr Hm hI fun A hA=>?_
  have h:=meet_c B E A pm x f nw fm Hs hS hpl hxl hyl
  have e:rl E.stp E.kof pm x f 0 (nw,fm)=_:=(if_neg (by rw[hk];decide)).trans (if_neg (by rw[hk];decide))
  rw[e]
  exact h
theorem rl31_c (B:EngB) (E:Emt Tryz.prog 24) (A0:EngA) (pm:List (Ky×Pc)) (x:Ix) (f:Fc) (nw fm:List Fc) (Hs:Hp) (hS:E.St nw fm Hs) (Ha Hu Ho Hi Hr Hm:Hp) (hI:IxO 9 24 B x ⟨Ha,Hu,Ho,Hi,Hr,Hm⟩) (hpl:∀ k,(lat pm k).length≤1000000000) (hxl:∀ k,(lat x.above k).length≤1000000000∧(lat x.under k).length≤1000000000) (hyl:∀ k,(lat x.frm k).length≤1000000000∧(lat x.into k).length≤1000000000∧(lat x.ranges k).length≤1000000000∧(lat x.firms k).length≤1000000000) (hf:f.kind=3→-1099511627776≤f.lo∧f.lo≤f.hi∧f.hi≤1099511627776) (hq:f.kind=3→∀ y∈lat pm (Ky.mk 9 f.r []),-1099511627776≤y.lo∧y.lo≤y.hi∧y.hi≤1099511627776) (hk:f.kind=3):Tri Tryz.prog 111 #[zp_ B.g 0,f.val] ((Ha++(Hu++(Ho++(Hi++(Hr++Hm)))))++Hs) [gF B E,pF B pm A0,E.ef] (fun _:{H':Hp // E.St (rl E.stp E.kof pm x f 1 (nw,fm)).1 (rl E.stp E.kof pm x f 1 (nw,fm)).2 H'}=>.tuple #[]) (fun y=>(Ha++(Hu++(Ho++(Hi++(Hr++Hm)))))++y.1) (fun _=>[]):=by
  refine fh_ B E A0 pm x f nw fm Hs hS Ha Hu Ho Hi Hr Hm hI fun A hA=>?_
  have h:=out_c B E A pm x f nw fm Hs hS hpl hxl hyl (hf hk) (hq hk)
  have e:rl E.stp E.kof pm x f 1 (nw,fm)=_:=(if_neg (by rw[hk];decide)).trans (if_neg (by rw[hk];decide))
  rw[e]
  exact h
end Go.Proofs.YtaffcjgphlhppaaGreatDoor
namespace Go.Proofs.YtaffcjgphlhppaaGreatDoor
open Go Go.Sx Go.Proofs
attribute [local irreducible] Code.wp wpList wpAnyH
open Go.Vs
section
variable {N:Nf} {v0:Vw} {H0:Hp} {fr:Fr}
theorem nx_ {k:Act→World→Prop} {F:Hp}:∀ (B:Hp) {H:Hp} {Γ:List Fct},H.Perm (B++F)→Ok N v0 H0 k fr F (B.reverse.map (fun p=>by_ p.1 p.2)++Γ)→Ok N v0 H0 k fr H Γ
  | [],H,Γ,hH,h=>ac_ hH h
  | (b,o)::B,H,Γ,hH,h=>by
    refine gP_ (by_ b o) (F:=B++F) hH (fun _ h1 h2 _=>⟨h1,h2⟩) ?_
    refine nx_ B (.refl _) ?_
    simpa using h
end
end Go.Proofs.YtaffcjgphlhppaaGreatDoor
namespace Go.Proofs.YtaffcjgphlhppaaGreatDoor
open Go Go.Sx Go.Proofs
attribute [local irreducible] Code.wp wpList wpAnyH
open Go.Vs
theorem qj_ {P:Program} (w:World) (d:Nat) (t e:TypeId) (a:Option Addr) (l c:Nat) (h:P.underlying t=some (.slice e)):(Op.equalIn (d+1) t (.slice a l c) (.slice none 0 0)).run P w=.ok a.isNone w:=by
  cases a<;>simp[Op.equalIn,run_underlying h]
theorem tA_ {P:Program} (w:World) (t e:TypeId) (a:Option Addr) (l c:Nat) (h:P.underlying t=some (.slice e)):(Op.equal t (.slice a l c) (.slice none 0 0)).run P w=.ok a.isNone w:=qj_ w 9999 t e a l c h
theorem qx_ {P:Program} {N:Nf} {fr:Fr} {H:Hp} {Γ:List Fct} {ty t t' e:TypeId} {x y:Operand} {ad:Option Addr} {m c:Nat} (hu:P.underlying t=some (.slice e)) (hx:Fr.ev fr x=some (.slice ad m c)) (hy:Fr.ev fr y=some (.slice none 0 0)):Yld P N fr H Γ (.binOp .eql t x y t') ty (.bool (decide (ad=none))) :=
  fun a v h1 _ _ _ _ _=>by
    have he:decide (ad=none)=ad.isNone:=by cases ad<;>simp
    simp[execOp,h1.ev hx,h1.ev hy,eqGuard,binOp,tA_ v.w t e ad m c hu,he]
theorem re_ {v:Vw} {cs:List Value} (h:bE_ v none cs):cs=[]:=by
 rcases h with h|⟨b,off,arr,T,fz,h1,_⟩
 ·exact h
 cases h1
theorem qR_ (b:Nat) (e:TypeId) (sz:Nat):bA_ e sz (.slice (some ⟨b,0,none⟩) 0 0) 0 [] [(b,.cells #[] e (0,0))]:=⟨by simp,.inr ⟨b,0,#[],rfl,rfl,Nat.le_refl _,by simp[maxLen],by simp,by simp⟩⟩
theorem sg_ (l:List Str) (ad:Option Addr) (cap:Nat) (hc:l.length≤cap) (hl:l.length≤1000000000):Tri Tryz.prog 96 #[.slice ad (List.length l) cap] [] [at_ ad (List.flatMap bw_ l)] (fun y:{y:Value×Hp // zR 9 1 bw_ y.1 l y.2}=>y.1.1) (fun y=>y.1.2) (fun _=>[]):=by
 refine t_ Tryz.func96 rfl rfl Tryz.ntmps96 rfl fun v0=>?_
 refine Zz 9 ?_
 refine O_ (qx_ lo_ rfl rfl) rfl fun r1 hr1=>Zz 2 ?_
 cases r1
 ·replace hr1:=zdf hr1
  refine Zz 5 ?_
  refine pU_ N_ al_ rfl fun b1=>ac_ e_ (Zz 1 ?_)
  refine fO_ (news:=List.flatMap bw_ l) dm_ (qR_ b1 9 1) rfl rfl (fun q=>absurd q hr1) hc bH_ (by rw[el_ bw_ 1 aS_]) zf (fun u hu=>ba_ cJ_ hu) (by simp only[maxLen];omega) (by omega) rfl fun sv1 Hr1 hr1=>?_
  refine ac_ List.perm_append_comm ?_
  have hq1:bA_ 9 1 sv1 (List.length (([]:List Str)++l)) (List.flatMap bw_ (([]:List Str)++l)) Hr1:=by rw[List.length_append,List.flatMap_append];exact hr1
  refine Zz 4 ?_
  exact J_ Tryz.results96 ⟨(sv1,Hr1),by simpa using hq1⟩ rfl bH_ zt
 replace hr1:=zdt hr1
 refine Zz 7 ?_
 refine ok_get (p:=List.flatMap bw_ l=[]) (fun v _ h=>by have q:=h.1;subst hr1;exact re_ q) fun hz=>?_
 have hz2:l=[]:=List.eq_nil_of_length_eq_zero (by have:=congrArg List.length hz;rwa [el_ bw_ 1 aS_,Nat.mul_one]at this)
 exact J_ Tryz.results96 ⟨(.slice none 0 0,[]),by subst hz2;exact bA_.nil _ _⟩ rfl g_ zt
def atS (p:List Pc):List Str:=Lib.compact ((cG_ p++[[42],[33]]).mergeSort fun x y=>decide (x≤y))
theorem tQ_ (p:List Pc):(atS p).length≤3*p.length+2:=by
  have:=hv_ ((cG_ p++[[42],[33]]).mergeSort fun x y=>decide (x≤y))
  have h2:=em_ p
  rw[List.length_mergeSort,List.length_append]at this
  simp only[List.length_cons,List.length_nil]at this
  unfold atS;omega
theorem mL_ (p:List Pc) (x:Str):x∈atS p↔x∈cG_ p∨x=[42]∨x=[33]:=by
  unfold atS
  rw[jB_,List.mem_mergeSort,List.mem_append]
  simp
theorem atS_c (p:List Pc) (pad:Option Addr) (pcap:Nat) (hp:p.length≤100000000):Tri Tryz.prog 49 #[.slice pad (List.length p) pcap] [] [at_ pad (List.flatMap Pc.cells p)] (fun y:{y:Option Addr×Nat // (atS p).length≤y.2∧y.2≤maxLen∧(y.1=none→y.2=0)}=>.slice y.1.1 (atS p).length y.1.2) (fun _=>[]) (fun y=>[at_ y.1.1 ((atS p).flatMap bw_)]):=by
  refine t_ Tryz.func49 rfl rfl Tryz.ntmps49 rfl fun v0=>?_
  refine Zz 8 ?_
  refine q_ (pr_ p pad pcap (by omega)) rfl g_ zf rfl fun⟨⟨aad,acap⟩,hac,ham⟩=>?_
  dsimp only
  refine q_ (sg_ (cG_ p) aad acap hac (by have:=em_ p;omega)) rfl g_ zf rfl fun⟨⟨svc,Hcl⟩,hcl⟩=>?_
  dsimp only
  refine ac_ iF_ (ap_ N_ al_ br_ rfl rfl rfl rfl rfl rfl fun b1=>?_)
  refine aH_ (news:=List.flatMap bw_ [[42],[33]]) dm_ hcl rfl rfl P_ rfl (bJ_ 0 rfl) (fun u hu=>ba_ cJ_ hu) (by simp only[maxLen];(have:=em_ p;(try simp only[List.length_append,List.length_cons,List.length_nil]);omega)) (by (have:=em_ p;(try simp only[List.length_append,List.length_cons,List.length_nil]);omega)) rfl fun sv1 Hr1 hr1=>?_
  refine ac_ List.perm_append_comm ?_
  have hq1:=zsa hr1
  refine Zz 6 ?_
  refine q_ (oY_ hq1 (by (have:=em_ p;(try simp only[List.length_append,List.length_cons,List.length_nil]);omega))) rfl P_ zt rfl fun⟨Hso1,hs1⟩=>?_
  dsimp only
  have hso1:bA_ 9 1 sv1 (List.length ((((cG_ p)++[[42],[33]])).mergeSort fun x y=>decide (x≤y))) (List.flatMap bw_ ((((cG_ p)++[[42],[33]])).mergeSort fun x y=>decide (x≤y))) Hso1:=by rw[List.length_mergeSort];exact hs1
  refine Zz 2 ?_
  refine ac_ (cA_ cp_) (Zz 3 ?_)
  refine q_ (kU_ hso1 (by rw[List.length_mergeSort];(have:=em_ p;(try simp only[List.length_append,List.length_cons,List.length_nil]);omega))) rfl P_ zt rfl fun⟨⟨svk2,Hk2⟩,hk2⟩=>?_
  dsimp only
  refine Zz 4 ?_
  refine dz_ hk2 u_ fun ad2 cp2 had2 hcad2 hmad2 hzad2=>?_
  exact J_ Tryz.results49 ⟨(ad2,cp2),hcad2,hmad2,hzad2⟩ (hN_ rfl had2) g_ zf
end Go.Proofs.YtaffcjgphlhppaaGreatDoor
namespace Go.Proofs
open Go.Shelf
def Tryz.sortFc_ren:Go.Shelf.Ren:=⟨fun|6=>53|15=>113|14=>112|28=>171|29=>172|20=>163|21=>164|22=>165|23=>166|24=>167|25=>168|26=>169|27=>170|46=>197|47=>198|48=>199|49=>200|50=>201|57=>224|n=>n,fun|22=>47|24=>24|25=>118|3=>3|39=>165|0=>0|53=>206|55=>88|4=>4|46=>199|45=>198|50=>203|5=>5|9=>9|66=>230|70=>159|76=>252|77=>253|n=>n,fun|n=>n⟩
theorem Tryz.sortFc:Go.Proofs.SlLaysF0.n6 Tryz.prog Tryz.sortFc_ren:={
  mixed:=by kernel_rfl
  f6:=⟨Tryz.f53.name,by decide,Tryz.func53.trans (congrArg some (by kernel_rfl))⟩
  f14:=⟨Tryz.f112.name,by decide,Tryz.func112.trans (congrArg some (by kernel_rfl))⟩
  f15:=Tryz.func113.trans (congrArg some (by kernel_rfl))
  f20:=⟨Tryz.f163.name,by decide,Tryz.func163.trans (congrArg some (by kernel_rfl))⟩
  f21:=⟨Tryz.f164.name,by decide,Tryz.func164.trans (congrArg some (by kernel_rfl))⟩
  f22:=⟨Tryz.f165.name,by decide,Tryz.func165.trans (congrArg some (by kernel_rfl))⟩
  f23:=⟨Tryz.f166.name,by decide,Tryz.func166.trans (congrArg some (by kernel_rfl))⟩
  f24:=⟨Tryz.f167.name,by decide,Tryz.func167.trans (congrArg some (by kernel_rfl))⟩
  f25:=⟨Tryz.f168.name,by decide,Tryz.func168.trans (congrArg some (by kernel_rfl))⟩
  f26:=⟨Tryz.f169.name,by decide,Tryz.func169.trans (congrArg some (by kernel_rfl))⟩
  f27:=⟨Tryz.f170.name,by decide,Tryz.func170.trans (congrArg some (by kernel_rfl))⟩
  f28:=Tryz.func171.trans (congrArg some (by kernel_rfl))
  f29:=Tryz.func172.trans (congrArg some (by kernel_rfl))
  f46:=⟨Tryz.f197.name,by decide,Tryz.func197.trans (congrArg some (by kernel_rfl))⟩
  f47:=Tryz.func198.trans (congrArg some (by kernel_rfl))
  f48:=Tryz.func199.trans (congrArg some (by kernel_rfl))
  f49:=⟨Tryz.f200.name,by decide,Tryz.func200.trans (congrArg some (by kernel_rfl))⟩
  f50:=⟨Tryz.f201.name,by decide,Tryz.func201.trans (congrArg some (by kernel_rfl))⟩
  f57:=⟨Tryz.f224.name,by decide,Tryz.func224.trans (congrArg some (by kernel_rfl))⟩
  t0:=Tryz.underlying0
  a0:=Tryz.isAgg0
  z0:=Tryz.sizeOf0
  v0:=Tryz.zeroValue0
  t3:=Tryz.underlying3
  a3:=Tryz.isAgg3
  z3:=Tryz.sizeOf3
  v3:=Tryz.zeroValue3
  t4:=Tryz.underlying4
  a4:=Tryz.isAgg4
  z4:=Tryz.sizeOf4
  v4:=Tryz.zeroValue4
  t5:=Tryz.underlying5
  a5:=Tryz.isAgg5
  z5:=Tryz.sizeOf5
  v5:=Tryz.zeroValue5
  t9:=Tryz.underlying9
  a9:=Tryz.isAgg9
  z9:=Tryz.sizeOf9
  v9:=Tryz.zeroValue9
  t22:=Tryz.underlying47
  a22:=Tryz.isAgg47
  z22:=Tryz.sizeOf47
  v22:=Tryz.zeroValue47
  t25:=Tryz.underlying118
  a25:=Tryz.isAgg118
  z25:=Tryz.sizeOf118
  v25:=Tryz.zeroValue118
  t39:=Tryz.underlying165
  a39:=Tryz.isAgg165
  z39:=Tryz.sizeOf165
  v39:=Tryz.zeroValue165
  t45:=Tryz.underlying198
  a45:=Tryz.isAgg198
  z45:=Tryz.sizeOf198
  v45:=Tryz.zeroValue198
  t46:=Tryz.underlying199
  a46:=Tryz.isAgg199
  z46:=Tryz.sizeOf199
  v46:=Tryz.zeroValue199
  t50:=Tryz.underlying203
  a50:=Tryz.isAgg203
  z50:=Tryz.sizeOf203
  v50:=Tryz.zeroValue203
  t53:=Tryz.underlying206
  a53:=Tryz.isAgg206
  z53:=Tryz.sizeOf206
  v53:=Tryz.zeroValue206
  t55:=Tryz.underlying88
  a55:=Tryz.isAgg88
  z55:=Tryz.sizeOf88
  v55:=Tryz.zeroValue88
  t66:=Tryz.underlying230
  a66:=Tryz.isAgg230
  z66:=Tryz.sizeOf230
  v66:=Tryz.zeroValue230
  t70:=Tryz.underlying159
  a70:=Tryz.isAgg159
  z70:=Tryz.sizeOf159
  v70:=Tryz.zeroValue159
  t76:=Tryz.underlying252
  a76:=Tryz.isAgg252
  z76:=Tryz.sizeOf252
  v76:=Tryz.zeroValue252
  t77:=Tryz.underlying253
  a77:=Tryz.isAgg253
  z77:=Tryz.sizeOf253
  v77:=Tryz.zeroValue253 }
end Go.Proofs
namespace Go.Proofs.YtaffcjgphlhppaaGreatDoor
open Go Go.Sx Go.Proofs
attribute [local irreducible] Code.wp wpList wpAnyH
open Go.Vs
instance:Inhabited Fc:=⟨⟨0,[],[],[],0,0⟩⟩
theorem kW_ (x y:Int):Fn0 Tryz.prog 115 #[.int .i64 x,.int .i64 y] (.int .i64 (Lib.compareInt x y)) :=
  ew_ (callable Tryz.func115 rfl rfl) fun v _ _=>(Tryz.cmp_Compare_int x y v.w).mono (by rintro e w' ⟨rfl,rfl⟩;exact⟨rfl,⟨rfl,rfl,rfl,Nat.le_refl _,fun _ _=>rfl⟩,.inr (Nat.le_refl _)⟩)
theorem kV_ (x y:Str):Fn0 Tryz.prog 116 #[str x,str y] (.int .i64 (Lib.compareBytes x y)) :=
  ew_ (callable Tryz.func116 rfl rfl) fun v _ _=>(Tryz.strings_Compare ⟨x.toArray⟩ ⟨y.toArray⟩ v.w).mono (by rintro e w' ⟨rfl,rfl⟩;exact⟨rfl,⟨rfl,rfl,rfl,Nat.le_refl _,fun _ _=>rfl⟩,.inr (Nat.le_refl _)⟩)
def orF:List Int→Int
  | []=>0
  | x::l=>if x=0 then orF l else x
theorem ru_:∀ {l:List Int} {i:Nat} {x:Int},(∀ y∈l.take i,y=0)→l[i]? = some x→x≠0→orF l=x
  | [],_,_,_,h,_=>by simp at h
  | y::l,0,x,_,h,hx=>by simp at h;subst h;simp[orF,hx]
  | y::l,i+1,x,h0,h,hx=>by
    have hy:y=0:=h0 y (by simp)
    rw[orF,if_pos hy]
    exact ru_ (i:=i) (fun z hz=>h0 z (by rw[List.take_succ_cons];exact List.mem_cons_of_mem _ hz)) (by simpa using h) hx
theorem nu_:∀ {l:List Int},(∀ y∈l,y=0)→orF l=0
  | [],_=>rfl
  | y::l,h=>by rw[orF,if_pos (h y (by simp))];exact nu_ fun z hz=>h z (by simp[hz])
theorem cI_neg (x y:Int):Lib.compareInt x y<0↔x<y:=by unfold Lib.compareInt;(repeat' split)<;>omega
theorem tL_ (x y:Int):Lib.compareInt x y=0↔x=y:=by unfold Lib.compareInt;(repeat' split)<;>omega
theorem sj_:∀ (x y:Str),Lib.compareBytes x y<0↔x<y
 | [],[]=>by simp[Lib.compareBytes]
 | [],b::y=>by simp[Lib.compareBytes]
 | a::x,[]=>by simp[Lib.compareBytes]
 | a::x,b::y=>by
   rw[Lib.compareBytes,List.cons_lt_cons_iff]
   by_cases h1:a<b
   · rw[if_pos h1];simp[h1]
   · by_cases h2:b<a
     · rw[if_neg h1,if_pos h2]
       have:a≠b:=fun e=>by subst e;exact h1 h2
       simp[h1,this]
     · have e:a=b:=UInt8.le_antisymm (UInt8.not_lt.1 h2) (UInt8.not_lt.1 h1)
       rw[if_neg h1,if_neg h2,sj_ x y];simp[e]
theorem pq_:∀ (x y:Str),Lib.compareBytes x y=0↔x=y
 | [],[]=>by simp[Lib.compareBytes]
 | [],b::y=>by simp[Lib.compareBytes]
 | a::x,[]=>by simp[Lib.compareBytes]
 | a::x,b::y=>by
   rw[Lib.compareBytes]
   by_cases h1:a<b
   · rw[if_pos h1]
     have:a≠b:=fun e=>by subst e;exact absurd h1 (UInt8.lt_irrefl a)
     simp[this]
   · by_cases h2:b<a
     · rw[if_neg h1,if_pos h2]
       have:a≠b:=fun e=>by subst e;exact h1 h2
       simp[this]
     · have e:a=b:=UInt8.le_antisymm (UInt8.not_lt.1 h2) (UInt8.not_lt.1 h1)
       rw[if_neg h1,if_neg h2,pq_ x y];simp[e]
def jL_ (x y:Fc):Int:=orF [Lib.compareInt x.kind y.kind,Lib.compareBytes x.a y.a,Lib.compareBytes x.b y.b,Lib.compareBytes x.r y.r,Lib.compareInt x.lo y.lo,Lib.compareInt x.hi y.hi]
theorem hJ_ (x:Int) (l:List Int):orF (x::l)<0↔x<0∨x=0∧orF l<0:=by
  rw[orF];split<;>omega
theorem sf_ (x y:Fc):jL_ x y<0↔x.lt y:=by
  unfold jL_ Fc.lt
  rw[hJ_,hJ_,hJ_,hJ_,hJ_,hJ_]
  simp only[cI_neg,tL_,sj_,pq_,orF,Int.lt_irrefl,and_false,or_false]
theorem orF_c (l:List Int) (ad:Option Addr) (cap:Nat) (hl:l.length≤1000):Tri Tryz.prog 114 #[.slice ad (List.length l) cap] [] [at_ ad (List.flatMap dY_ l)] (fun _:Unit=>.int .i64 (orF l)) (fun _=>[]) (fun _=>[]):=by
 refine t_ Tryz.func114 rfl rfl Tryz.ntmps114 rfl fun v0=>?_
 refine Zz 19 ?_
 refine av_ (ι:={y:Nat // y≤l.length∧∀ z∈l.take y,z=0}) (fun y=>[(3,.int .i64 0),(6,.slice ad (List.length l) cap),(7,.int .i64 (List.length l:Int)),(8,.int .i64 (y.1:Int))]) (fun y=>([])) (fun y=>[at_ ad (List.flatMap dY_ l)]) (fun y=>l.length - y.1) ⟨(0:Nat),by simp,by simp⟩ zl g_ zh ?_
 rintro ⟨i,hi,h0⟩
 dsimp only at hi h0 ⊢
 refine Zi 2 (fun hr1=>?_) fun hr1=>?_
 ·refine Zz 13 ?_
  exact J_ Tryz.results114 () (au_ rfl (nu_ fun y hy=>h0 y (by rw[List.take_of_length_le (by omega)];exact hy)).symm) g_ zt
 obtain⟨hlx1,x1,hx1,hmx1⟩:=zge (show i<List.length l by omega)
 refine Zi 19 (fun hr2=>?_) fun hr2=>?_
 ·refine Zz 10 ?_
  exact Q_ ⟨i+1,hlx1,fun y hy=>by rw[List.take_add_one,hx1]at hy;simp only[Option.toList_some,List.mem_append,List.mem_singleton]at hy;rcases hy with hy|rfl;exact h0 y hy;omega⟩ (by dsimp only;omega) zl g_ zh
 refine Zz 10 ?_
 exact J_ Tryz.results114 () (au_ rfl (ru_ h0 hx1 (by assumption)).symm) g_ zt
theorem cmpF_c (x y:Fc):Fn0 Tryz.prog 54 #[Fc.val x,Fc.val y] (.int .i64 (jL_ x y)):=by
  refine t_ Tryz.func54 rfl rfl Tryz.ntmps54 rfl fun v0=>?_
  refine Zz 2 ?_
  refine ag_ rfl rfl fun b1=>ag_ rfl rfl fun b2=>Zz 5 ?_
  refine n_ 9 [0,1,2,3,5,6,7,8,10,11,12,13,15,16,17,18,20,21,22,23,25,26,27,28] zk zs (Zz 25 ?_)
  refine i_ 4 rfl zk (q_ (kW_ x.kind y.kind) rfl g_ zt rfl fun _=>Zz 3 ?_)
  refine i_ 9 rfl zk (q_ (kV_ x.a y.a) rfl g_ zt rfl fun _=>Zz 3 ?_)
  refine i_ 14 rfl zk (q_ (kV_ x.b y.b) rfl g_ zt rfl fun _=>Zz 3 ?_)
  refine i_ 19 rfl zk (q_ (kV_ x.r y.r) rfl g_ zt rfl fun _=>Zz 3 ?_)
  refine i_ 24 rfl zk (q_ (kW_ x.lo y.lo) rfl g_ zt rfl fun _=>Zz 3 ?_)
  refine i_ 29 rfl zk (q_ (kW_ x.hi y.hi) rfl g_ zt rfl fun _=>Zz 3 ?_)
  refine i_ 30 rfl zk (ap_ aG_ aq_ cx_ rfl rfl rfl rfl rfl rfl fun b3=>?_)
  refine bu_ (List.flatMap dY_ [(Lib.compareInt x.kind y.kind),(Lib.compareBytes x.a y.a),(Lib.compareBytes x.b y.b),(Lib.compareBytes x.r y.r),(Lib.compareInt x.lo y.lo),(Lib.compareInt x.hi y.hi)]) e_ rfl ?_
  refine Zz 3 ?_
  refine i_ 31 rfl zk (q_ (orF_c [(Lib.compareInt x.kind y.kind),(Lib.compareBytes x.a y.a),(Lib.compareBytes x.b y.b),(Lib.compareBytes x.r y.r),(Lib.compareInt x.lo y.lo),(Lib.compareInt x.hi y.hi)] (some ⟨b3,0,none⟩) 6 (by simp)) rfl g_ zf rfl fun _=>Zz 3 ?_)
  refine n_ 0 [32] zk zs (Zz 5 ?_)
  exact J_ Tryz.results54 () (au_ rfl (by rfl)) g_ zt
end Go.Proofs.YtaffcjgphlhppaaGreatDoor
namespace Go.Proofs.YtaffcjgphlhppaaGreatDoor
open Go Go.Sx Go.Proofs
attribute [local irreducible] Code.wp wpList wpAnyH
open Go.Vs
structure Cl where
  atoms:List Str
  aad:Option Addr
  acap:Nat
  facts:List Fc
  fad:Option Addr
  fcap:Nat
def Cl.cells (c:Cl):List Value:=[.slice c.aad c.atoms.length c.acap,.slice c.fad c.facts.length c.fcap]
theorem Cl.cells_len (c:Cl):c.cells.length=2:=rfl
def Cl.val (c:Cl):Value:=.agg c.cells.toArray
def Cl.row (c:Cl):List Fct:=[at_ c.aad (List.flatMap bw_ c.atoms),at_ c.fad (List.flatMap Fc.cells c.facts)]
def Cl.no:Cl:=Cl.mk [] none 0 [] none 0
structure Cl.ok (c:Cl):Prop where
  al:c.atoms.length≤c.acap
  am:c.acap≤maxLen
  az:c.aad=none→c.acap=0
  fl:c.facts.length≤c.fcap
  fm:c.fcap≤maxLen
  fz:c.fad=none→c.fcap=0
theorem sS_ {s:Str} (h:di_ s=true):s≠[]:=fun e=>by subst e;revert h;decide
theorem pR_ {s:Str} (h:bm_ s=true):s≠[]:=fun e=>by subst e;revert h;decide
theorem py_ {p:Pc} (h:p.valid=true):p.vok:=by
 unfold Pc.valid at h
 split at h
 ·simp at h
 rename_i h1
 split at h
 ·simp at h
 rename_i h2
 split at h
 ·simp at h
 have hk:p.kind=1∨p.kind=2∨p.kind=3∨p.kind=4∨p.kind=5∨p.kind=6∨p.kind=7∨p.kind=8∨p.kind=9:=by omega
 have hn:∀ {b:Bool} {s:Str},cr_ b s di_=true→b=true→s≠[]:=fun h1 h2=>by
   subst h2;simp[cr_]at h1;exact sS_ h1
 have hn':∀ {b:Bool} {s:Str},cr_ b s bm_=true→b=true→s≠[]:=fun h1 h2=>by
   subst h2;simp[cr_]at h1;exact pR_ h1
 simp only[Bool.and_eq_true]at h
 obtain⟨⟨⟨⟨⟨_,_⟩,_⟩,hr⟩,hs⟩,ht⟩:=h
 unfold Pc.rok at *
 refine⟨⟨fun q=>?_,fun q=>?_,fun q=>?_⟩,fun q=>?_⟩
 ·rcases q with q|q|q|q|q|q|q<;>rw[q]at hr
  ·exact hn hr (by decide)
  ·exact hn hr (by decide)
  ·exact hn hr (by decide)
  ·exact hn' hr (by decide)
  ·exact hn hr (by decide)
  ·exact hn hr (by decide)
  exact hn' hr (by decide)
 ·rw[q]at hs ht;exact⟨hn hs (by decide),hn ht (by decide)⟩
 ·rw[q]at ht;exact hn ht (by decide)
 rcases q with q|q<;>rw[q]at h2<;>have:(nus 8).numbers=true∧(nus 9).numbers=true:=by decide
 all_goals simp only[this.1,this.2,true_and]at h2;omega
theorem sh_ {p:List Pc} (h:bT_ p=0):p.length≤16384∧p.all Pc.valid=true:=by
 unfold bT_ at h
 split at h
 ·simp at h
 split at h
 ·exact⟨by omega,by assumption⟩
 simp at h
theorem qt_ {p:List Pc} (h:bT_ p=0):∀ x∈p,x.vok:=fun x hx=>py_ (List.all_eq_true.1 (sh_ h).2 x hx)
section
variable {P:Program} {N:Nf} {v0:Vw} {H0:Hp} {fr:Fr} {H F Ha Hu Ho Hi Hr Hm Hs:Hp} {Γ:List Fct}
theorem fg_ {fn:Func} {t s b n:Nat} {ty T:TypeId} {us:List Value} {u:Value} (i:Nat) (hr:fn.results=#[.cell t ty,.tmp s]) (ha:∀ w,(isAgg ty).run P w=.ok true w) (hs:∀ w,(sizeOf ty).run P w=.ok n w) (hn:us.length=n) (hx:Fr.get fr t=some (zp_ b 0)) (hu:Fr.get fr s=some u)
    (hi:H[i]? = some (b,.cells us.toArray T (0,0))) (a:Act) (v:Vw) (h1:Fr.sat N fr a) (h2:v.sat H):(results fn a.tmps).run P v.w=.ok (.tuple #[.agg us.toArray,u]) v.w:=by
  have e:=h1.val t _ hx
  have e2:=h1.val s _ hu
  have hl:=cl_ (t:=ty) (w:=v.w) (b:=b) (off:=0) ha hs hn (fun j y hj=>by rw[Nat.zero_add,fb_ h2 hi];simpa using hj)
  simp[results,hr,e,e2,asAddr,hl]
theorem os_ (h:H.Perm ((Ha++(Hu++(Ho++(Hi++(Hr++(Hm++Hs))))))++F)):H.Perm (((Ha++(Hu++(Ho++(Hi++(Hr++Hm)))))++Hs)++F):=by simpa [List.append_assoc] using h
theorem mp_:(((Ha++(Hu++(Ho++(Hi++(Hr++Hm)))))++Hs)++F).Perm (Ha++(Hu++(Ho++(Hi++(Hr++(Hm++(Hs++F))))))):=by simp[List.append_assoc]
theorem sX_ {a b c:Nat×Obj} {Hq:Hp}:((Ha++(Hu++(Ho++(Hi++(Hr++(Hm++(a::b::([c]++Hq))))))))++F).Perm (Ha++(Hu++(Ho++(Hi++(Hr++(Hm++(a::b::([c]++(Hq++F))))))))):=by simp[List.append_assoc]
end
theorem ff_:hy_ Tryz.prog 49 [(0,1),(1,1)] [.slice none 0 0,.slice none 0 0]:=⟨_,Tryz.zeroValue49,cM_,fun w=>by simp[fe_,dj_]⟩
end Go.Proofs.YtaffcjgphlhppaaGreatDoor
namespace Go.Proofs.YtaffcjgphlhppaaGreatDoor
open Go Go.Sx Go.Proofs
attribute [local irreducible] Code.wp wpList wpAnyH
open Go.Vs Go.Shelf Go.RowKit
theorem mV_ {v v':Vw} (h:v.to [] v' []) (hs:¬ v.sl):∃ q os,v'.w=Sort.grow (v.w.drewN q) os:=by
 have hd:v.w.drawn≤v'.w.drawn:=h.dr.resolve_left hs
 refine⟨v'.w.drawn - v.w.drawn,v'.w.heap.extract v.w.heap.size v'.w.heap.size,?_⟩
 have hh:v'.w.heap=v.w.heap++v'.w.heap.extract v.w.heap.size v'.w.heap.size:=by
   apply Array.ext_getElem?
   intro i
   have hsz:=h.size
   rw[Array.getElem?_append]
   split
   · rename_i hi;exact h.block i hi (by simp)
   · rename_i hi
     rw[Array.getElem?_extract]
     split
     · congr 1;omega
     · rw[Array.getElem?_eq_none (by omega)]
 have e1:=h.os;have e2:=h.tape;have e3:=h.output
 obtain⟨im',⟨hp,tp,dn,os',ou⟩,sl'⟩:=v'
 simp only at e1 e2 e3 hh hd
 simp only[Sort.grow,World.drewN,World.mk.injEq]
 exact⟨hh,e2,by omega,e1,e3⟩
theorem tG_ (blk off size:Nat) (w:World):CmpLays Tryz.prog 54 #[] Fc.cells 6 jL_ blk off size w:=fun m os dk _ x y=>by
  have h:=(cmpF_c x y).run ⟨fun _=>False,sortWorldK Fc.cells 6 w blk off m dk os,False⟩ ⟨by simp,by simp,fun _ h=>h.elim⟩ trivial
  refine h.mono ?_
  rintro e w' ⟨_,v',rfl,rfl,_,_,ht⟩
  obtain⟨q,os',hw⟩:=mV_ ht (fun h=>h)
  exact⟨rfl,q,os',hw⟩
theorem ltF (x y:Fc):ltOf jL_ x y=decide (x.lt y):=by unfold ltOf;rw[decide_eq_decide];exact sf_ x y
theorem swoF:Sort.SWO (ltOf jL_) where
 irrefl x:=by rw[ltF];exact decide_eq_false x.lt_irr
 trans x y z h1 h2:=by rw[ltF,decide_eq_true_eq]at *;exact Fc.lt_trans h1 h2
 ntrans x y z h1 h2:=by
   rw[ltF,decide_eq_false_iff_not]at *
   intro h
   rcases Fc.lt_tri x y with g|g|g
   · exact h1 g
   · subst g;exact h2 h
   · exact h2 (Fc.lt_trans g h)
theorem totF (x y:Fc) (h1:ltOf jL_ x y=false) (h2:ltOf jL_ y x=false):x=y:=by
 rw[ltF,decide_eq_false_iff_not]at h1 h2
 rcases Fc.lt_tri x y with g|g|g
 ·exact absurd g h1
 ·exact g
 exact absurd g h2
theorem kP_ (xs:List Fc):Sort.flatK Fc.cells 6 xs.toArray=(xs.flatMap Fc.cells).toArray:=by
 apply Array.ext_getElem?
 intro t
 have e0:(xs.flatMap Fc.cells).toArray[t]? = (xs.flatMap Fc.cells)[t]? := by simp
 rw[e0]
 by_cases ht:t<xs.length*6
 ·have hd:t / 6<xs.length:=by omega
  have:=jk_ Fc.cells 6 Fc.cells_len xs (t / 6) (t%6) xs[t / 6] (List.getElem?_eq_getElem hd) (Nat.mod_lt _ (by decide))
  rw[show t / 6*6+t%6=t by omega]at this
  rw[this]
  simp only[Sort.flatK,Array.getElem?_map,List.size_toArray]
  rw[Array.getElem?_eq_getElem (by simpa using ht)]
  simp only[Array.getElem_range,Option.map_some]
  rw[getElem!_pos xs.toArray (t / 6) (by simpa using hd)]
  have hl:t%6<(Fc.cells xs[t / 6]).length:=by rw[Fc.cells_len];omega
  rw[List.getElem?_eq_getElem hl]
  simp only[List.getElem_toArray]
  rw[getElem!_pos (Fc.cells xs[t / 6]) (t%6) hl]
 rw[List.getElem?_eq_none (by rw[el_ Fc.cells 6 Fc.cells_len];omega),Array.getElem?_eq_none (by simp[Sort.flatK];omega)]
theorem mZ_ {P:Program} {Γ:List Fct} {f:FuncId} {args:Array Value} {r:Value} {g:Nat} {cur:Array Value} {T:TypeId} {d:Array Value} (hc:fN_ P f)
    (h:∀ v:Vw,v.sat [(g,.cells cur T (0,0))]→Calls P f args v.w fun e w'=>e=.returned r∧∃ n os,w'=Sort.grow (Sort.putRow id (Sort.ahead v.w n) g 0 d) os) :
    Tri P f args [(g,.cells cur T (0,0))] Γ (fun _:Unit=>r) (fun _=>[(g,.cells (Sort.putCells id 0 d cur) T (0,0))]) (fun _=>[]) :=
  ⟨hc,fun v h1 _=>(h v h1).mono fun e w' ⟨he,n,os,hw⟩=>by
    have hg:=(h1.own _ List.mem_cons_self)
    have hlt:g<v.w.heap.size:=(Array.getElem?_eq_some_iff.1 hg.1).1
    have hb:∀ b,b<v.w.heap.size→w'.heap[b]? = if b=g then some (.cells (Sort.putCells id 0 d cur) T (0,0)) else v.w.heap[b]? := fun b hb=>by
      rw[hw]
      simp only[Sort.grow,Sort.putRow,Sort.mapBlock,Sort.ahead]
      rw[Array.getElem?_append_left (by simpa using hb),Array.getElem?_modify]
      by_cases e:b=g
      · subst e
        simp only[if_true,hg.1,Option.map_some,Sort.onCells]
      · rw[if_neg (fun q=>e q.symm),if_neg e]
    have hsz:v.w.heap.size≤w'.heap.size:=by rw[hw];simp[Sort.grow,Sort.putRow,Sort.mapBlock,Sort.ahead]
    refine⟨(),⟨v.im,w',v.sl⟩,he,rfl,⟨fun p hp=>?_,by simp,fun b hbb=>Nat.lt_of_lt_of_le (h1.lt b hbb) hsz⟩,trivial,⟨by rw[hw];rfl,by rw[hw];rfl,by rw[hw];rfl,hsz,fun b hbb hn=>?_,fun _ h=>h,fun _ h=>.inl h,fun b hm=>.inl (by simpa using hm),rfl,.inr (by rw[hw];exact Nat.le_add_right _ _)⟩⟩
    · simp only[List.mem_singleton]at hp
      subst hp
      exact⟨by show w'.heap[g]? = _;rw[hb g hlt,if_pos rfl],hg.2⟩
    · have hn':b≠g:=by simpa using hn
      show w'.heap[b]? = _
      rw[hb b hbb,if_neg hn']⟩
theorem pM_ {cur:Array Value} {d:List Value} (hs:d.length≤cur.size):(Sort.putCells id 0 d.toArray cur).toList.take d.length=d:=by
 apply List.ext_getElem?
 intro j
 rw[List.getElem?_take]
 split
 ·rename_i hj
  simp only[Sort.putCells,Array.getElem?_toList,Array.getElem?_mapIdx]
  rw[Array.getElem?_eq_getElem (by omega)]
  simp only[Option.map_some,Nat.zero_le,true_and,Nat.zero_add,List.size_toArray,hj,if_true,Nat.sub_zero]
  rw[List.getElem?_eq_getElem hj,getElem!_pos d.toArray j (by simpa using hj)]
  rfl
 rename_i hj
 rw[List.getElem?_eq_none (by omega)]
theorem pN_ {cur d:Array Value}:(Sort.putCells id 0 d cur).size=cur.size:=by simp[Sort.putCells]
theorem holdsV {g:Nat} {cur:Array Value} {T:TypeId} {xs:List Value} {v:Vw} (hs:v.sat [(g,.cells cur T (0,0))]) (ht:cur.toList.take xs.length=xs):Sort.Holds id v.w g 0 xs.toArray:=by
 intro j hj
 have hb:=(hs.own _ List.mem_cons_self).1
 simp only[List.size_toArray]at hj
 have hc:cur[j]? = some xs[j]:=by
   have:=congrArg (fun l=>l[j]?) ht
   simp only[List.getElem?_take,hj,if_true,Array.getElem?_toList]at this
   rw[this,List.getElem?_eq_getElem hj]
 refine⟨?_,?_⟩
 ·simp only[World.cell?,Nat.zero_add,hb,Option.isSome_none,Bool.false_eq_true,if_false]
  rw[hc,getElem!_pos xs.toArray j (by simpa using hj)]
  rfl
 simp[World.frozen?,hb]
def ib_ (xs:List Fc):List Fc:=xs.mergeSort fun x y=>!(ltOf jL_) y x
theorem gl_ (xs:List Fc):(ib_ xs).length=xs.length:=List.length_mergeSort _
theorem qQ_ (xs:List Fc) (x:Fc):x∈ib_ xs↔x∈xs:=List.mem_mergeSort
theorem qP_ {xs:List Fc} (h:xs.Nodup):Srt (ib_ xs):=by
 have h1:(ib_ xs).Pairwise fun x y=>(!(ltOf jL_) y x)=true:=List.pairwise_mergeSort
   (fun a b c h1 h2=>by simp only[Bool.not_eq_true']at *;exact swoF.ntrans c b a h2 h1)
   (fun a b=>by
     simp only[Bool.or_eq_true,Bool.not_eq_true']
     rw[ltF,ltF,decide_eq_false_iff_not,decide_eq_false_iff_not]
     rcases Fc.lt_tri a b with g|g|g
     · exact .inl fun q=>Fc.lt_irr a (Fc.lt_trans g q)
     · subst g;exact .inl a.lt_irr
     · exact .inr fun q=>Fc.lt_irr a (Fc.lt_trans q g)) xs
 have h2:(ib_ xs).Nodup:=(List.mergeSort_perm xs _).nodup_iff.2 h
 refine (h1.and h2).imp ?_
 rintro x y ⟨a,b⟩
 simp only[Bool.not_eq_true',ltF,decide_eq_false_iff_not]at a
 rcases Fc.lt_tri x y with g|g|g
 ·exact g
 ·exact absurd g b
 exact absurd g a
theorem sG_ {sv:Value} {xs:List Fc} {Hr:Hp} (h:bA_ 24 6 sv xs.length (xs.flatMap Fc.cells) Hr) (hl:xs.length≤1000000000000) :
    Tri Tryz.prog 53 #[sv,.func (.func 54) #[] #[]] Hr [] (fun _:{y:Hp // bA_ 24 6 sv (ib_ xs).length ((ib_ xs).flatMap Fc.cells) y}=>.tuple #[]) (fun y=>y.1) (fun _=>[]):=by
  rcases h.2 with⟨rfl,h2,rfl⟩|⟨g,cap,cur,rfl,rfl,h3,h4,h5,h6⟩
  · obtain rfl:xs=[]:=List.eq_nil_of_length_eq_zero h2
    have T:=ew_ (P:=Tryz.prog) (H:=[]) (Γ:=[]) (callable Tryz.func53 rfl rfl) (fun v _ _=>(AnyF.slices_SortFunc_none Tryz.sortFc none 0 (.func (.func 54) #[] #[]) v.w).mono (by rintro e w' ⟨rfl,rfl⟩;exact⟨rfl,⟨rfl,rfl,rfl,Nat.le_refl _,fun _ _=>rfl⟩,.inr (Nat.le_refl _)⟩))
    exact⟨T.callable,fun v a b=>(T.run v a b).mono (by rintro e w' ⟨x,v',e1,e2,e3,e4,e5⟩;exact⟨⟨[],by simpa [ib_] using bA_.nil _ _⟩,v',e1,e2,e3,e4,e5⟩)⟩
  · have hx:(xs.flatMap Fc.cells).length=xs.length*6:=el_ Fc.cells 6 Fc.cells_len xs
    have T:=mZ_ (P:=Tryz.prog) (Γ:=[]) (r:=.tuple #[]) (g:=g) (cur:=cur) (T:=24) (d:=((ib_ xs).flatMap Fc.cells).toArray) (f:=53) (args:=#[.slice (some ⟨g,0,none⟩) xs.length cap,.func (.func 54) #[] #[]]) (callable Tryz.func53 rfl rfl) (fun v hs=>by
      have hh:=AnyQ.slices_SortFunc_total Tryz.sortFc 6 aI_ x_ Fc.cells Fc.cells_len (fun x u hu=>List.all_eq_true.1 x.cells_one u hu) jL_ swoF 54 #[] g 0 cap xs.toArray v.w (fun args w=>(callable Tryz.func54 rfl rfl) args w) (tG_ g 0 _ v.w) (by unfold Sort.HoldsK;rw[kP_];exact holdsV hs (by rw[hx];exact h6)) (Array.getElem?_eq_some_iff.1 (hs.own _ List.mem_cons_self).1).1 (by simp;omega) totF
      refine hh.mono ?_
      rintro e w' ⟨rfl,n,os,rfl⟩
      refine⟨rfl,n,os,?_⟩
      unfold sortWorldK Sort.putRowK
      rw[show ((xs.toArray.toList.mergeSort fun x y=>!(ltOf jL_) y x))=ib_ xs from rfl,kP_])
    refine⟨T.callable,fun v a b=>(T.run v a b).mono ?_⟩
    rintro e w' ⟨x,v',e1,e2,e3,e4,e5⟩
    have hy:((ib_ xs).flatMap Fc.cells).length=xs.length*6:=by rw[el_ Fc.cells 6 Fc.cells_len,gl_]
    refine⟨⟨_,by rw[hy,gl_],.inr ⟨g,cap,_,by rw[gl_],rfl,by rw[gl_];exact h3,h4,by rw[pN_];exact h5,?_⟩⟩,v',e1,e2,e3,e4,e5⟩
    have:=pM_ (cur:=cur) (d:=(ib_ xs).flatMap Fc.cells) (by rw[hy,h5];omega)
    rw[hy]at this
    rw[gl_];exact this
end Go.Proofs.YtaffcjgphlhppaaGreatDoor
namespace Go.Proofs.YtaffcjgphlhppaaGreatDoor
open Go Go.Sx Go.Proofs
attribute [local irreducible] Code.wp wpList wpAnyH
open Go.Vs
section
variable {P:Program} {N:Nf} {v0:Vw} {H0:Hp} {fr:Fr} {H F:Hp} {Γ:List Fct} {K D:Type} [DecidableEq K]
theorem kM_:∀ (B:Hp) {v:Vw},aj_ (B.map fun p=>by_ p.1 p.2) v→∀ p∈B,v.im p.1∧v.w.heap[p.1]? = some p.2
 | [],_,_,_,h=>by simp at h
 | q::B,v,h,p,hp=>by
   rcases List.mem_cons.1 hp with rfl|hp
   · exact h.1
   · exact kM_ B h.2 p hp
theorem rw_ {k:Act→World→Prop} {kv:K→Value} {cells:D→List Value} {kt e:TypeId} {sz mb:Nat} {l:List (K×D)} {Hm:Hp} (hK:KeyT P kt kv) (hm:dK_ kv cells e sz l mb Hm) (hH:H.Perm (Hm++F))
    (h:∀ adr,Ok N v0 H0 k fr F (mlF P kt kv cells mb l adr::Γ)):Ok N v0 H0 k fr H Γ:=by
  obtain⟨adr,ha⟩:=hm.lent hK
  refine nx_ Hm hH (ny_ (fun v _ hv=>?_) (h adr))
  rw[eG_]at hv
  refine⟨ha v fun p hp=>?_,hv.2⟩
  have:=hv.1
  exact kM_ Hm.reverse (by rw[List.map_reverse]at *;exact this) p (List.mem_reverse.2 hp)
theorem fy_ {tF:TypeId} {E:Emt P tF} {nw fm:List Fc} {Hs:Hp} {ty t kt et:TypeId} {x:Operand} (hS:E.St nw fm Hs) (hu:∀ w,(underlying t).run P w=.ok (.map kt et) w) (hx:Fr.ev fr x=some (.map (some E.kb))) (hp:H.Perm (Hs++F)) :
    Yld P N fr H Γ (.call ⟨.builtin .len,#[x],#[t]⟩) ty (.int .i64 ((E.kof nw).length:Int)):=by
  obtain⟨es,c,g1,g2⟩:=E.known hS
  exact jW_ g2 hu hx fun v h _=>kp_ hp g1 h
end
def oy_ (x:Ix) (n:Nat):Prop:=x.above.length≤n∧x.under.length≤n∧x.frm.length≤n∧x.into.length≤n∧x.ranges.length≤n∧x.firms.length≤n
theorem rM_:oy_ Ix.nil 0:=by simp[oy_,Ix.nil]
theorem iK_ {x:Ix} {n:Nat} (h:oy_ x n) (b:Bool) (f:Fc):oy_ (x.add b f) (n+1):=by
 obtain⟨h1,h2,h3,h4,h5,h6⟩:=h
 unfold Ix.add oy_
 split
 ·simp;omega
 split
 ·simp;omega
 split
 ·cases b<;>simp<;>omega
 omega
theorem nM_ {x:Ix} {n:Nat} (h:oy_ x n) (hn:n≤1000000000):(∀ k,(lat x.above k).length≤1000000000∧(lat x.under k).length≤1000000000)∧(∀ k,(lat x.frm k).length≤1000000000∧(lat x.into k).length≤1000000000∧(lat x.ranges k).length≤1000000000∧(lat x.firms k).length≤1000000000):=by
 obtain⟨h1,h2,h3,h4,h5,h6⟩:=h
 refine⟨fun k=>⟨?_,?_⟩,fun k=>⟨?_,?_,?_,?_⟩⟩
 ·have:=fR_ x.above k;omega
 ·have:=fR_ x.under k;omega
 ·have:=fR_ x.frm k;omega
 ·have:=fR_ x.into k;omega
 ·have:=fR_ x.ranges k;omega
 have:=fR_ x.firms k;omega
theorem sP_ (B:EngB) (E:Emt Tryz.prog 24) (A0:EngA) (pm:List (Ky×Pc)) (x:Ix) (f:Fc) (nw fm:List Fc) (Hs:Hp) (hS:E.St nw fm Hs) (Ha Hu Ho Hi Hr Hm:Hp) (hI:IxO 9 24 B x ⟨Ha,Hu,Ho,Hi,Hr,Hm⟩) (hpl:∀ k,(lat pm k).length≤1000000000) (hxl:∀ k,(lat x.above k).length≤1000000000∧(lat x.under k).length≤1000000000) (hyl:∀ k,(lat x.frm k).length≤1000000000∧(lat x.into k).length≤1000000000∧(lat x.ranges k).length≤1000000000∧(lat x.firms k).length≤1000000000) (hf:f.kind=3→-1099511627776≤f.lo∧f.lo≤f.hi∧f.hi≤1099511627776) (hq:f.kind=3→∀ y∈lat pm (Ky.mk 9 f.r []),-1099511627776≤y.lo∧y.lo≤y.hi∧y.hi≤1099511627776) (hk:f.kind=1):∀ (j:Nat) {fv:Value},(rlV B.g 1)[j]? = some fv→∃ n:Nat,fv=.func (.func n) #[zp_ B.g 0] #[]∧Tri Tryz.prog n #[zp_ B.g 0,f.val] ((Ha++(Hu++(Ho++(Hi++(Hr++Hm)))))++Hs) [gF B E,pF B pm A0,E.ef] (fun _:{H':Hp // E.St (rl E.stp E.kof pm x f j (nw,fm)).1 (rl E.stp E.kof pm x f j (nw,fm)).2 H'}=>.tuple #[]) (fun y=>(Ha++(Hu++(Ho++(Hi++(Hr++Hm)))))++y.1) (fun _=>[])
  | 0,_,h=>⟨100,(Option.some.inj h).symm,rl10_c B E A0 pm x f nw fm Hs hS Ha Hu Ho Hi Hr Hm hI hpl hxl hyl hf hq hk⟩
  | 1,_,h=>⟨101,(Option.some.inj h).symm,rl11_c B E A0 pm x f nw fm Hs hS Ha Hu Ho Hi Hr Hm hI hpl hxl hyl hf hq hk⟩
  | 2,_,h=>⟨102,(Option.some.inj h).symm,rl12_c B E A0 pm x f nw fm Hs hS Ha Hu Ho Hi Hr Hm hI hpl hxl hyl hf hq hk⟩
  | 3,_,h=>⟨103,(Option.some.inj h).symm,rl13_c B E A0 pm x f nw fm Hs hS Ha Hu Ho Hi Hr Hm hI hpl hxl hyl hf hq hk⟩
  | 4,_,h=>⟨104,(Option.some.inj h).symm,rl14_c B E A0 pm x f nw fm Hs hS Ha Hu Ho Hi Hr Hm hI hpl hxl hyl hf hq hk⟩
  | 5,_,h=>⟨105,(Option.some.inj h).symm,rl15_c B E A0 pm x f nw fm Hs hS Ha Hu Ho Hi Hr Hm hI hpl hxl hyl hf hq hk⟩
  | j+6,_,h=>by simp[rlV]at h
theorem sO_ (B:EngB) (E:Emt Tryz.prog 24) (A0:EngA) (pm:List (Ky×Pc)) (x:Ix) (f:Fc) (nw fm:List Fc) (Hs:Hp) (hS:E.St nw fm Hs) (Ha Hu Ho Hi Hr Hm:Hp) (hI:IxO 9 24 B x ⟨Ha,Hu,Ho,Hi,Hr,Hm⟩) (hpl:∀ k,(lat pm k).length≤1000000000) (hxl:∀ k,(lat x.above k).length≤1000000000∧(lat x.under k).length≤1000000000) (hyl:∀ k,(lat x.frm k).length≤1000000000∧(lat x.into k).length≤1000000000∧(lat x.ranges k).length≤1000000000∧(lat x.firms k).length≤1000000000) (hf:f.kind=3→-1099511627776≤f.lo∧f.lo≤f.hi∧f.hi≤1099511627776) (hq:f.kind=3→∀ y∈lat pm (Ky.mk 9 f.r []),-1099511627776≤y.lo∧y.lo≤y.hi∧y.hi≤1099511627776) (hk:f.kind=2):∀ (j:Nat) {fv:Value},(rlV B.g 2)[j]? = some fv→∃ n:Nat,fv=.func (.func n) #[zp_ B.g 0] #[]∧Tri Tryz.prog n #[zp_ B.g 0,f.val] ((Ha++(Hu++(Ho++(Hi++(Hr++Hm)))))++Hs) [gF B E,pF B pm A0,E.ef] (fun _:{H':Hp // E.St (rl E.stp E.kof pm x f j (nw,fm)).1 (rl E.stp E.kof pm x f j (nw,fm)).2 H'}=>.tuple #[]) (fun y=>(Ha++(Hu++(Ho++(Hi++(Hr++Hm)))))++y.1) (fun _=>[])
  | 0,_,h=>⟨106,(Option.some.inj h).symm,rl20_c B E A0 pm x f nw fm Hs hS Ha Hu Ho Hi Hr Hm hI hpl hxl hyl hf hq hk⟩
  | 1,_,h=>⟨107,(Option.some.inj h).symm,rl21_c B E A0 pm x f nw fm Hs hS Ha Hu Ho Hi Hr Hm hI hpl hxl hyl hf hq hk⟩
  | 2,_,h=>⟨108,(Option.some.inj h).symm,rl22_c B E A0 pm x f nw fm Hs hS Ha Hu Ho Hi Hr Hm hI hpl hxl hyl hf hq hk⟩
  | 3,_,h=>⟨109,(Option.some.inj h).symm,rl23_c B E A0 pm x f nw fm Hs hS Ha Hu Ho Hi Hr Hm hI hpl hxl hyl hf hq hk⟩
  | j+4,_,h=>by simp[rlV]at h
theorem sN_ (B:EngB) (E:Emt Tryz.prog 24) (A0:EngA) (pm:List (Ky×Pc)) (x:Ix) (f:Fc) (nw fm:List Fc) (Hs:Hp) (hS:E.St nw fm Hs) (Ha Hu Ho Hi Hr Hm:Hp) (hI:IxO 9 24 B x ⟨Ha,Hu,Ho,Hi,Hr,Hm⟩) (hpl:∀ k,(lat pm k).length≤1000000000) (hxl:∀ k,(lat x.above k).length≤1000000000∧(lat x.under k).length≤1000000000) (hyl:∀ k,(lat x.frm k).length≤1000000000∧(lat x.into k).length≤1000000000∧(lat x.ranges k).length≤1000000000∧(lat x.firms k).length≤1000000000) (hf:f.kind=3→-1099511627776≤f.lo∧f.lo≤f.hi∧f.hi≤1099511627776) (hq:f.kind=3→∀ y∈lat pm (Ky.mk 9 f.r []),-1099511627776≤y.lo∧y.lo≤y.hi∧y.hi≤1099511627776) (hk:f.kind=3):∀ (j:Nat) {fv:Value},(rlV B.g 3)[j]? = some fv→∃ n:Nat,fv=.func (.func n) #[zp_ B.g 0] #[]∧Tri Tryz.prog n #[zp_ B.g 0,f.val] ((Ha++(Hu++(Ho++(Hi++(Hr++Hm)))))++Hs) [gF B E,pF B pm A0,E.ef] (fun _:{H':Hp // E.St (rl E.stp E.kof pm x f j (nw,fm)).1 (rl E.stp E.kof pm x f j (nw,fm)).2 H'}=>.tuple #[]) (fun y=>(Ha++(Hu++(Ho++(Hi++(Hr++Hm)))))++y.1) (fun _=>[])
  | 0,_,h=>⟨110,(Option.some.inj h).symm,rl30_c B E A0 pm x f nw fm Hs hS Ha Hu Ho Hi Hr Hm hI hpl hxl hyl hf hq hk⟩
  | 1,_,h=>⟨111,(Option.some.inj h).symm,rl31_c B E A0 pm x f nw fm Hs hS Ha Hu Ho Hi Hr Hm hI hpl hxl hyl hf hq hk⟩
  | j+2,_,h=>by simp[rlV]at h
def kZ_ (p:List Pc) (bu:Int) (c:Cl) (e:Int):Prop :=
  if bT_ p≠0 then c=Cl.no∧e=bT_ p
  else if bu<0∨1073741824<bu then c=Cl.no∧e=1
  else (e=0∧c.ok∧c.atoms=atS p∧la_ p (atS p) (min bu 65536).toNat (some c.facts))∨(c=Cl.no∧e=(if bu<65536 then 3 else 2)∧la_ p (atS p) (min bu 65536).toNat none)
theorem sn_ {p:List Pc} {bu:Int} (h:bT_ p≠0):kZ_ p bu Cl.no (bT_ p):=by unfold kZ_;rw[if_pos h];exact⟨rfl,rfl⟩
theorem oh_ {p:List Pc} {bu:Int} (h:bT_ p=0) (hb:bu<0∨1073741824<bu):kZ_ p bu Cl.no 1:=by unfold kZ_;rw[if_neg (by simp[h]),if_pos hb];exact⟨rfl,rfl⟩
theorem tT_ {p:List Pc} {bu:Int} {m n:Nat} {c:Cl} {q fm:List Fc} {x:Ix} (hc:bT_ p=0) (h1:¬ bu<0) (h2:¬ 1073741824<bu) (hm:min bu 65536=(m:Int)) (hk:c.ok) (ha:c.atoms=atS p) (hL:LoopA (uniq [] p) (atS p) m n q fm x) (hn:q.length≤n) (hl:q.length≤m) (hf:c.facts=ib_ q):kZ_ p bu c 0:=by
  unfold kZ_
  rw[if_neg (by simp[hc]),if_neg (by omega)]
  have e:n=q.length:=Nat.le_antisymm hL.le hn
  subst e
  refine .inl ⟨rfl,hk,ha,?_⟩
  rw[hm,hf]
  exact⟨qP_ hL.nd,fun y=>by rw[qQ_,← ow_ hL hl,mX_],by rw[gl_];simpa using hl⟩
theorem eu_ {p:List Pc} {bu:Int} {m:Nat} {e:Int} {M:List Fc} (hc:bT_ p=0) (h1:¬ bu<0) (h2:¬ 1073741824<bu) (hm:min bu 65536=(m:Int)) (he:e=if bu<65536 then 3 else 2) (nd:M.Nodup) (hd:∀ y∈M,Der (uniq [] p) (atS p) y) (hl:m<M.length):kZ_ p bu Cl.no e:=by
  unfold kZ_
  rw[if_neg (by simp[hc]),if_neg (by omega)]
  exact .inr ⟨rfl,he,M,nd,fun y hy=>mX_.1 (hd y hy),by rw[hm];simpa using hl⟩
end Go.Proofs.YtaffcjgphlhppaaGreatDoor
namespace Go.Proofs.YtaffcjgphlhppaaGreatDoor
open Go Go.Sx Go.Proofs
attribute [local irreducible] Code.wp wpList wpAnyH
open Go.Vs
set_option maxHeartbeats 4000000 in
theorem all_c (p:List Pc) (pad:Option Addr) (pcap:Nat) (bu:Int) (hsm:∀ x∈p,x.sm) (hp:p.length≤100000000):Tri Tryz.prog 20 #[.slice pad (List.length p) pcap,.int .i64 bu] [] [at_ pad (List.flatMap Pc.cells p),ia_] (fun y:{y:Cl×Int // kZ_ p bu y.1 y.2}=>.tuple #[y.1.1.val,.int .i64 y.1.2]) (fun _=>[]) (fun y=>y.1.1.row):=by
 refine t_ Tryz.func20 rfl rfl Tryz.ntmps20 rfl fun v0=>?_
 refine Zz 2 ?_
 refine C_ Tryz.zeroValue49 rfl fun b1=>Zz 3 ?_
 refine pD_ (Zz 4 ?_)
 refine q_ (mI_ p pad pcap (by omega) hsm) rfl g_ zf rfl fun _=>Zi 6 (fun hr1=>?_) fun hr1=>?_
 ·have hchk:=hr1
  refine Zi 9 (fun hr2=>?_) fun hr2=>?_
  ·have hb0:=hr2
   refine Zi 4 (fun hr3=>?_) fun hr3=>?_
   ·have hb1:=hr3
    refine Zz 7 ?_
    obtain⟨m,hm0'⟩:∃ m:Nat,min bu 65536=(m:Int):=⟨(min bu 65536).toNat,by omega⟩
    have hm:m≤65536:=by omega
    have hvk:=qI_ (qt_ hchk)
    have hpl:∀ k,(lat (aP_ (uniq [] p)) k).length≤1000000000:=fun k=>by have h1:=fR_ (aP_ (uniq [] p)) k;have h2:=km_ (uniq [] p);have h3:=ir_ p [];simp only[List.length_nil]at h3;omega
    refine Zz 2 ?_
    refine q_ (nB_ p pad pcap (by omega)) rfl g_ zf rfl fun⟨⟨g,pb,kb,ab,ub,ob,ib,rb,sb,fb,lv,hm0,hl0⟩,hy⟩=>?_
    dsimp only
    dsimp only[NewE.own,NewE.ok]at hy ⊢
    obtain⟨hym,hyl⟩:=hy
    simp only[List.cons_append,List.append_assoc]
    refine dz_ hyl (c_ (c_ (c_ (c_ (c_ (c_ (c_ (c_ (c_ (j_ u_)))))))))) fun lad lcap hlad hclad hmlad hzlad=>?_
    subst hlad
    refine C_ Tryz.zeroValue102 rfl fun b2=>ac_ (aN_ e_ (aN_ e_ (aN_ e_ (aN_ e_ (aN_ e_ (aN_ e_ (aN_ e_ (aN_ e_ (aN_ e_ (aN_ e_ (cA_ cp_))))))))))) (w_ 0 Tryz.sizeOf102 rfl rfl rfl rfl rfl rfl (Zz 5 ?_))
    refine d_ (bF_ (in_ rfl rfl) (congrArg (Value.int .i64) hm0')) rfl (C_ cx_ rfl fun b3=>w_ 0 aq_ rfl rfl rfl rfl rfl rfl (Zz 4 ?_))
    refine C_ mT_ rfl fun b4=>Zz 5 ?_
    refine d_ (bI_ rfl rfl) rfl (Zz 2 ?_)
    refine w_ 3 eA_ rfl rfl rfl rfl rfl rfl (Zz 3 ?_)
    refine gP_ (by_ b2 (.cells #[zp_ g 0] 102 (0,0))) (cA_ (c_ (c_ e_))) (fun _ h1 h2 _=>⟨h1,h2⟩) ?_
    refine gP_ (by_ b3 (.cells #[.int .i64 (m:Int)] 3 (0,0))) (cA_ (c_ e_)) (fun _ h1 h2 _=>⟨h1,h2⟩) ?_
    refine gP_ (by_ g (.cells #[.map (some pb),.slice lad (List.length (an_ (uniq [] p))) lcap,.map (some kb),.func (.func 48) #[] #[zp_ b2 0,zp_ b3 0,zp_ b4 0],.map (some ab),.map (some ub),.map (some ob),.map (some ib),.map (some rb),.map (some sb),.map (some fb)] 111 (0,0))) (cA_ (c_ e_)) (fun _ h1 h2 _=>⟨h1,h2⟩) ?_
    refine rw_ he_ hym (c_ (c_ (c_ (c_ (c_ (c_ (c_ (c_ (c_ P_))))))))) fun adr=>?_
    refine Zz 2 ?_
    refine q_ (atS_c p pad pcap (by omega)) rfl g_ zf rfl fun⟨⟨aad,acap⟩,hac,ham,haz⟩=>?_
    dsimp only
    refine Zz 7 ?_
    refine q_ (tM_ (EngB.mk g pb ab ub ob ib rb sb lad lcap (an_ (uniq [] p))) (EA m hm (EngB.mk g pb ab ub ob ib rb sb lad lcap (an_ (uniq [] p))) b2 b3 b4 kb fb) [] [] [(b4,.cells #[.slice none 0 0] 47 (0,0)),(kb,.map #[] 0),(fb,.map #[] 0)] ⟨.slice none 0 0,#[],0,#[],0,[],[],rfl,bA_.nil _ _,SetE.nil,SetE.nil,by simp⟩ (atS p) aad acap (by have:=tQ_ p;omega) (by have:=jx_ (uniq [] p);have h3:=ir_ p [];simp only[List.length_nil]at h3;show (an_ (uniq [] p)).length≤_;omega)) rfl (o_ e_ (o_ e_ (c_ (c_ (c_ (c_ (c_ (c_ e_)))))))) (fun v _ h=>by exact⟨h.2.2.1,h.2.2.2.2.2.1,h.1,⟨h.2.2.2.2.1,h.2.2.2.1,h.2.2.1⟩,trivial⟩) rfl fun⟨Hs1,hS1⟩=>?_
    dsimp only
    refine Zz 2 ?_
    refine ac_ (aN_ (j_ e_) (aN_ (j_ e_) (aN_ (j_ e_) (aN_ (j_ e_) (aN_ (j_ e_) (aN_ (j_ e_) (cA_ cp_))))))) (Zz 3 ?_)
    refine q_ (sM_ g) rfl g_ zt rfl fun⟨r1,r2,r3⟩=>?_
    dsimp only
    refine C_ Tryz.zeroValue115 rfl fun b5=>w_ 0 Tryz.sizeOf115 rfl rfl rfl rfl rfl rfl (Zz 3 ?_)
    refine pF_ (Zz 8 ?_)
    refine av_ (ι:={y:Nat×List Fc×List Fc×Ix×Hp×Hp×Hp×Hp×Hp×Hp×Hp // LoopA (uniq [] p) (atS p) m y.1 y.2.1 y.2.2.1 y.2.2.2.1∧((EA m hm (EngB.mk g pb ab ub ob ib rb sb lad lcap (an_ (uniq [] p))) b2 b3 b4 kb fb)).St y.2.1 y.2.2.1 y.2.2.2.2.2.2.2.2.2.2∧IxO 9 24 (EngB.mk g pb ab ub ob ib rb sb lad lcap (an_ (uniq [] p))) y.2.2.2.1 ⟨y.2.2.2.2.1,y.2.2.2.2.2.1,y.2.2.2.2.2.2.1,y.2.2.2.2.2.2.2.1,y.2.2.2.2.2.2.2.2.1,y.2.2.2.2.2.2.2.2.2.1⟩∧oy_ y.2.2.2.1 y.1}) (fun y=>[(0,.slice pad (List.length p) pcap),(1,.int .i64 bu),(4,zp_ b1 0),(7,zp_ b2 0),(8,zp_ b3 0),(9,zp_ b4 0),(10,.slice aad (List.length (atS p)) acap),(11,zp_ b5 0),(12,.int .i64 (y.1.1:Int))]) (fun y=>((b1,.cells #[.slice none 0 0,.slice none 0 0] 49 (0,0))::((b5,.cells #[.slice none 0 0,.slice (some ⟨r1,0,none⟩) 6 6,.slice (some ⟨r2,0,none⟩) 4 4,.slice (some ⟨r3,0,none⟩) 2 2] 115 (0,0))::(y.1.2.2.2.2.1++(y.1.2.2.2.2.2.1++(y.1.2.2.2.2.2.2.1++(y.1.2.2.2.2.2.2.2.1++(y.1.2.2.2.2.2.2.2.2.1++(y.1.2.2.2.2.2.2.2.2.2.1++y.1.2.2.2.2.2.2.2.2.2.2))))))))) (fun y=>[at_ (some ⟨r1,0,none⟩) (List.flatMap fvC (rlV g 1)),at_ (some ⟨r2,0,none⟩) (List.flatMap fvC (rlV g 2)),at_ (some ⟨r3,0,none⟩) (List.flatMap fvC (rlV g 3)),at_ aad (List.flatMap bw_ (atS p)),mlF Tryz.prog 191 Ky.val Pc.cells pb (aP_ (uniq [] p)) adr,by_ g (.cells #[.map (some pb),.slice lad (List.length (an_ (uniq [] p))) lcap,.map (some kb),.func (.func 48) #[] #[zp_ b2 0,zp_ b3 0,zp_ b4 0],.map (some ab),.map (some ub),.map (some ob),.map (some ib),.map (some rb),.map (some sb),.map (some fb)] 111 (0,0)),by_ b3 (.cells #[.int .i64 (m:Int)] 3 (0,0)),by_ b2 (.cells #[zp_ g 0] 102 (0,0)),at_ lad (List.flatMap bw_ (an_ (uniq [] p))),at_ pad (List.flatMap Pc.cells p),ia_]) (fun y=>m+1 - y.1.1) ⟨((0:Nat),(emits (bo_ m) (gh_ (an_ (uniq [] p)) (atS p)) []),([]:List Fc),Ix.nil,[(ab,.map #[] 0)],[(ub,.map #[] 0)],[(ob,.map #[] 0)],[(ib,.map #[] 0)],[(rb,.map #[] 0)],[(sb,.map #[] 0)],Hs1),nJ_ hvk rfl,by exact hS1,⟨dK_.nil _ _,dK_.nil _ _,dK_.nil _ _,dK_.nil _ _,dK_.nil _ _,dK_.nil _ _⟩,rM_⟩ zl (o_ (c_ (c_ (c_ (c_ (c_ (c_ (c_ e_))))))) (o_ e_ (o_ e_ (o_ e_ (o_ e_ (o_ e_ (o_ e_ (o_ e_ bH_)))))))) zh ?_
    rintro ⟨⟨n,q,fm,x,Ha,Hu,Ho,Hi,Hr,Hm,Hs⟩,hL,hS,hI,hz⟩
    dsimp only at hL hS hI hz ⊢
    obtain⟨sv1,es1,ce1,ef1,cf1,qf1,Hq1,hHs1,hrQ1,hEk1,hEf1,hqf1⟩:=hS
    subst hHs1
    have hqm:=hL.len
    have hnq:=hL.le
    obtain⟨hxl,hyl⟩:=nM_ hz (by omega)
    refine s_ (ac_ (aN_ e_ (aN_ e_ (aN_ (j_ (j_ (j_ (j_ (j_ (j_ e_)))))) (cA_ (j_ (j_ (j_ (j_ (j_ (j_ e_)))))))))) (Zz 4 ?_))
    refine d_ (ok_ hrQ1 E_ rfl) rfl ?_
    refine Zi 0 (fun hr4=>?_) fun hr4=>?_
    ·refine Zz 8 ?_
     refine n_ 0 [0,1,2,3,4,5,6] zk zs (Zz 4 ?_)
     refine Z_ rfl (bF_ (fy_ (E:=(EA m hm (EngB.mk g pb ab ub ob ib rb sb lad lcap (an_ (uniq [] p))) b2 b3 b4 kb fb)) (nw:=q) (Hs:=((b4,.cells #[sv1] 47 (0,0))::(kb,.map es1 ce1)::([(fb,.map ef1 cf1)]++Hq1))) ⟨sv1,es1,ce1,ef1,cf1,qf1,Hq1,rfl,hrQ1,hEk1,hEf1,hqf1⟩ aQ_ rfl zp) (show _=Value.int .i64 (List.length q:Int) from rfl)) rfl (Zi 1 (fun hr5=>?_) fun hr5=>?_)
     ·refine Zz 9 ?_
      refine q_ (sG_ hrQ1 (by omega)) rfl zp zt rfl fun⟨Hq9,hq9⟩=>?_
      dsimp only
      refine Zz 2 ?_
      refine ac_ (aN_ (j_ e_) (aN_ (j_ e_) (aN_ (j_ e_) (cA_ (j_ e_))))) (s_ (dz_ hq9 (c_ (c_ (c_ (c_ u_)))) fun fad fcap hfad hcfad hmfad hzfad=>?_))
      subst hfad
      refine Zz 3 ?_
      refine d_ (K_ ff_ rfl rfl) rfl (w_ 0 aY_ rfl rfl rfl rfl rfl rfl (Zz 4 ?_))
      exact ej_ ⟨((Cl.mk (atS p) aad acap (ib_ q) fad fcap),0),tT_ hchk hb0 hb1 hm0' ⟨hac,ham,haz,hcfad,hmfad,hzfad⟩ rfl hL (by omega) (by omega) rfl⟩ (fun aa v h1 h2=>fg_ (us:=Cl.cells (Cl.mk (atS p) aad acap (ib_ q) fad fcap)) 0 cT_ dk_ aY_ rfl rfl rfl rfl aa v h1 h2) g_ zf
     refine Zi 8 (fun hr6=>?_) fun hr6=>?_
     ·refine Zz 7 ?_
      refine d_ (K_ ff_ rfl rfl) rfl (w_ 0 aY_ rfl rfl rfl rfl rfl rfl (Zz 4 ?_))
      exact ej_ ⟨((Cl.mk [] none 0 [] none 0),2),eu_ hchk hb0 hb1 hm0' (by rw[if_neg (by assumption)]) hL.nd hL.der (by omega)⟩ (fun aa v h1 h2=>fg_ (us:=Cl.cells (Cl.mk [] none 0 [] none 0)) 0 cT_ dk_ aY_ rfl rfl rfl rfl aa v h1 h2) g_ (fun v _ h=>by exact⟨.inl rfl,.inl rfl,trivial⟩)
     refine Zz 5 ?_
     refine d_ (K_ ff_ rfl rfl) rfl (w_ 0 aY_ rfl rfl rfl rfl rfl rfl (Zz 4 ?_))
     exact ej_ ⟨((Cl.mk [] none 0 [] none 0),3),eu_ hchk hb0 hb1 hm0' (by rw[if_pos (by assumption)]) hL.nd hL.der (by omega)⟩ (fun aa v h1 h2=>fg_ (us:=Cl.cells (Cl.mk [] none 0 [] none 0)) 0 cT_ dk_ aY_ rfl rfl rfl rfl aa v h1 h2) g_ (fun v _ h=>by exact⟨.inl rfl,.inl rfl,trivial⟩)
    have hlf:n<List.length q:=by omega
    obtain⟨f,hf⟩:∃ e0,q[n]? = some e0:=⟨_,List.getElem?_eq_getElem hlf⟩
    have hmf:f∈q:=List.mem_of_getElem? hf
    have hfd:=hL.der f hmf
    have hform:=hfd.form hvk
    obtain⟨hxl1,hyl1⟩:=nM_ (iK_ hz (decide (f∈fm)) f) (by omega)
    refine Zz 11 ?_
    refine d_ (pu_ hrQ1 E_ x_ rfl rfl (by omega) (by omega)) rfl (d_ (pt_ hrQ1 zp aI_ x_ rfl (Fc.cells_len _) (by decide) (G_ Fc.cells_len hf)) rfl (C_ ad_ rfl fun b6=>w_ 0 x_ rfl rfl rfl rfl rfl rfl (Zz 6 ?_)))
    refine q_ (tu_ (EngB.mk g pb ab ub ob ib rb sb lad lcap (an_ (uniq [] p))) (EA m hm (EngB.mk g pb ab ub ob ib rb sb lad lcap (an_ (uniq [] p))) b2 b3 b4 kb fb) x f q fm ((b4,.cells #[sv1] 47 (0,0))::(kb,.map es1 ce1)::([(fb,.map ef1 cf1)]++Hq1)) ⟨sv1,es1,ce1,ef1,cf1,qf1,Hq1,rfl,hrQ1,hEk1,hEf1,hqf1⟩ Ha Hu Ho Hi Hr Hm hI hxl hyl) rfl (B_ (c_ (c_ (c_ (c_ (c_ u_))))) (B_ (c_ (c_ (c_ (c_ (c_ u_))))) (B_ (c_ (c_ (c_ (c_ (c_ u_))))) (B_ (c_ (c_ (c_ (c_ (c_ u_))))) (B_ (c_ (c_ (c_ (c_ (c_ u_))))) (B_ (c_ (c_ (c_ (c_ (c_ u_))))) (o_ (c_ (c_ (c_ e_))) (o_ (c_ (c_ (c_ e_))) (B_ (c_ (c_ (c_ u_))) (c_ (c_ P_))))))))))) zf rfl fun⟨⟨Ha1,Hu1,Ho1,Hi1,Hr1,Hm1⟩,hI1⟩=>?_
    dsimp only
    refine ac_ sX_ (Zz 2 ?_)
    refine ac_ (aN_ (j_ (j_ (j_ (j_ (j_ (j_ e_)))))) (aN_ (j_ (j_ (j_ (j_ (j_ (j_ e_)))))) (aN_ (j_ (j_ (j_ (j_ (j_ (j_ (j_ (j_ e_)))))))) (aN_ (j_ (j_ (j_ (j_ (j_ (j_ (j_ (j_ e_)))))))) (cA_ (j_ (j_ (j_ (j_ (j_ (j_ (j_ cp_)))))))))))) (Zz 4 ?_)
    rcases jj_ hform with hk|hk|hk
    ·refine d_ (bF_ (dM_ pG_ Tryz.sizeOf114 rfl rfl (by omega) (by omega)) (show _=zp_ b5 1 from by rw[hk];rfl)) rfl ?_
     refine Zz 6 ?_
     refine eC_ (H':=((b1,.cells #[.slice none 0 0,.slice none 0 0] 49 (0,0))::((b5,.cells #[.slice none 0 0,.slice (some ⟨r1,0,none⟩) 6 6,.slice (some ⟨r2,0,none⟩) 4 4,.slice (some ⟨r3,0,none⟩) 2 2] 115 (0,0))::((b6,.cells #[.int .i64 f.kind,str f.a,str f.b,str f.r,.int .i64 f.lo,.int .i64 f.hi] 24 (0,0))::(Ha1++(Hu1++(Ho1++(Hi1++(Hr1++(Hm1++((b4,.cells #[sv1] 47 (0,0))::(kb,.map es1 ce1)::([(fb,.map ef1 cf1)]++Hq1)))))))))))) (o_ (c_ (c_ (c_ e_))) (o_ (c_ (c_ (c_ e_))) (o_ (c_ (c_ e_)) (B_ (c_ (c_ u_)) (B_ (c_ (c_ u_)) (B_ (c_ (c_ u_)) (B_ (c_ (c_ u_)) (B_ (c_ (c_ u_)) (B_ (c_ (c_ u_)) (o_ e_ (o_ e_ (B_ u_ bH_)))))))))))) (fun v _ h=>h) ?_
     refine av_ (ι:={y:Nat×Hp // y.1≤6∧((EA m hm (EngB.mk g pb ab ub ob ib rb sb lad lcap (an_ (uniq [] p))) b2 b3 b4 kb fb)).St (rls (bo_ m) idk (aP_ (uniq [] p)) (Ix.add x (decide (f∈fm)) f) f y.1 (q,fm)).1 (rls (bo_ m) idk (aP_ (uniq [] p)) (Ix.add x (decide (f∈fm)) f) f y.1 (q,fm)).2 y.2∧(y.1=0∨((rls (bo_ m) idk (aP_ (uniq [] p)) (Ix.add x (decide (f∈fm)) f) f y.1 (q,fm)).1).length≤m)}) (fun y=>[(0,.slice pad (List.length p) pcap),(1,.int .i64 bu),(4,zp_ b1 0),(7,zp_ b2 0),(8,zp_ b3 0),(9,zp_ b4 0),(10,.slice aad (List.length (atS p)) acap),(11,zp_ b5 0),(12,.int .i64 (n:Int)),(13,zp_ b6 0),(60,.slice (some ⟨r1,0,none⟩) 6 6),(61,.int .i64 6),(62,.int .i64 (y.1.1:Int))]) (fun y=>((b1,.cells #[.slice none 0 0,.slice none 0 0] 49 (0,0))::((b5,.cells #[.slice none 0 0,.slice (some ⟨r1,0,none⟩) 6 6,.slice (some ⟨r2,0,none⟩) 4 4,.slice (some ⟨r3,0,none⟩) 2 2] 115 (0,0))::((b6,.cells #[.int .i64 f.kind,str f.a,str f.b,str f.r,.int .i64 f.lo,.int .i64 f.hi] 24 (0,0))::(Ha1++(Hu1++(Ho1++(Hi1++(Hr1++(Hm1++y.1.2)))))))))) (fun y=>[at_ (some ⟨r1,0,none⟩) (List.flatMap fvC (rlV g 1)),at_ (some ⟨r2,0,none⟩) (List.flatMap fvC (rlV g 2)),at_ (some ⟨r3,0,none⟩) (List.flatMap fvC (rlV g 3)),at_ aad (List.flatMap bw_ (atS p)),mlF Tryz.prog 191 Ky.val Pc.cells pb (aP_ (uniq [] p)) adr,by_ g (.cells #[.map (some pb),.slice lad (List.length (an_ (uniq [] p))) lcap,.map (some kb),.func (.func 48) #[] #[zp_ b2 0,zp_ b3 0,zp_ b4 0],.map (some ab),.map (some ub),.map (some ob),.map (some ib),.map (some rb),.map (some sb),.map (some fb)] 111 (0,0)),by_ b3 (.cells #[.int .i64 (m:Int)] 3 (0,0)),by_ b2 (.cells #[zp_ g 0] 102 (0,0)),at_ lad (List.flatMap bw_ (an_ (uniq [] p))),at_ pad (List.flatMap Pc.cells p),ia_]) (fun y=>6 - y.1.1) ⟨((0:Nat),((b4,.cells #[sv1] 47 (0,0))::(kb,.map es1 ce1)::([(fb,.map ef1 cf1)]++Hq1))),by omega,by exact⟨sv1,es1,ce1,ef1,cf1,qf1,Hq1,rfl,hrQ1,hEk1,hEf1,hqf1⟩,.inl rfl⟩ zl zp zh ?_
     rintro ⟨⟨j,Hs⟩,hj,hS2,hjm⟩
     dsimp only at hj hS2 hjm ⊢
     refine Zi 2 (fun hr7=>?_) fun hr7=>?_
     ·have ej:j=6:=by omega
      have hjl:((rls (bo_ m) idk (aP_ (uniq [] p)) (Ix.add x (decide (f∈fm)) f) f j (q,fm)).1).length≤m:=hjm.resolve_left (by omega)
      rw[ej]at hjl hS2
      refine Zz 12 ?_
      exact Q_ ⟨(n+1,(rls (bo_ m) idk (aP_ (uniq [] p)) (Ix.add x (decide (f∈fm)) f) f 6 (q,fm)).1,(rls (bo_ m) idk (aP_ (uniq [] p)) (Ix.add x (decide (f∈fm)) f) f 6 (q,fm)).2,(Ix.add x (decide (f∈fm)) f),Ha1,Hu1,Ho1,Hi1,Hr1,Hm1,Hs),(if_ hvk hL hf (by have e:nrl f=6:=(by unfold nrl;simp[hk]);rw[e]) (by omega)),(by exact hS2),hI1,(iK_ hz _ f)⟩ (by dsimp only;omega) zl (o_ e_ (o_ e_ (B_ (c_ u_) (B_ (c_ u_) (B_ (c_ u_) (B_ (c_ u_) (B_ (c_ u_) (B_ (c_ u_) P_)))))))) zh
     have hlfv:j<List.length (rlV g 1):=by show j<6;omega
     obtain⟨fv,hfv⟩:∃ e0,(rlV g 1)[j]? = some e0:=⟨_,List.getElem?_eq_getElem hlfv⟩
     have hmfv:fv∈(rlV g 1):=List.mem_of_getElem? hfv
     refine Zz 10 ?_
     refine d_ (X_ bg_ eA_ rfl rfl (fun v _ h=>I_ (n:=1) hO_ (by decide) (by exact h.1) hfv) (by omega) (by omega)) rfl (d_ (bn_ (ad:=(some ⟨r1,0,none⟩)) Tryz.isAgg106 rfl zf (G_ hO_ hfv 0 _ rfl)) rfl (Zz 7 ?_))
     obtain⟨nr,rfl,hT⟩:=sP_ (EngB.mk g pb ab ub ob ib rb sb lad lcap (an_ (uniq [] p))) (EA m hm (EngB.mk g pb ab ub ob ib rb sb lad lcap (an_ (uniq [] p))) b2 b3 b4 kb fb) (EngA.mk adr (fun _=>(none,0)) (fun _=>(none,0)) (fun _=>(none,0)) (fun _=>(none,0)) (fun _=>(none,0)) (fun _=>(none,0))) (aP_ (uniq [] p)) (Ix.add x (decide (f∈fm)) f) f (rls (bo_ m) idk (aP_ (uniq [] p)) (Ix.add x (decide (f∈fm)) f) f j (q,fm)).1 (rls (bo_ m) idk (aP_ (uniq [] p)) (Ix.add x (decide (f∈fm)) f) f j (q,fm)).2 Hs hS2 Ha1 Hu1 Ho1 Hi1 Hr1 Hm1 hI1 hpl hxl1 hyl1 (fun hk=>(hU_ hform hk).2.2) (fun _ y hy=>(hvk y (pm9.1 hy).1).num (.inr (pm9.1 hy).2.1)) hk j hfv
     refine aR_ (first:=[zp_ g 0]) (vs:=[Fc.val f]) (cap:=[]) hT rfl rfl (os_ (B_ (c_ (c_ (c_ u_))) (B_ (c_ (c_ (c_ u_))) (B_ (c_ (c_ (c_ u_))) (B_ (c_ (c_ (c_ u_))) (B_ (c_ (c_ (c_ u_))) (B_ (c_ (c_ (c_ u_))) (c_ (c_ P_))))))))) (fun v _ h=>by exact⟨h.2.2.2.2.2.1,h.2.2.2.2.1,⟨h.2.2.2.2.2.2.2.1,h.2.2.2.2.2.2.1,h.2.2.2.2.2.1⟩,trivial⟩) rfl fun⟨Hs3,hS3⟩=>ac_ mp_ (Zz 2 ?_)
     refine ac_ (aN_ (j_ (j_ (j_ (j_ (j_ (j_ (j_ e_))))))) (aN_ (j_ (j_ (j_ (j_ (j_ (j_ (j_ e_))))))) (cA_ (j_ (j_ (j_ (j_ (j_ (j_ cp_))))))))) (Zz 2 ?_)
     refine n_ 0 [0,1,2,3,4,5,6] zk zs (Zz 4 ?_)
     refine Z_ rfl (bF_ (fy_ (E:=(EA m hm (EngB.mk g pb ab ub ob ib rb sb lad lcap (an_ (uniq [] p))) b2 b3 b4 kb fb)) (nw:=(rls (bo_ m) idk (aP_ (uniq [] p)) (Ix.add x (decide (f∈fm)) f) f (j+1) (q,fm)).1) (Hs:=Hs3) hS3 aQ_ rfl zp) (show _=Value.int .i64 (List.length (rls (bo_ m) idk (aP_ (uniq [] p)) (Ix.add x (decide (f∈fm)) f) f (j+1) (q,fm)).1:Int) from rfl)) rfl (Zi 1 (fun hr8=>?_) fun hr8=>?_)
     ·refine Zz 11 ?_
      exact Q_ ⟨(j+1,Hs3),hlfv,by exact hS3,.inr (by dsimp only;omega)⟩ (by dsimp only;omega) zl zp zh
     refine Zz 9 ?_
     refine n_ 0 [0,1,2,3,4,5,6] zk zs (Zz 4 ?_)
     refine Z_ rfl (bF_ (fy_ (E:=(EA m hm (EngB.mk g pb ab ub ob ib rb sb lad lcap (an_ (uniq [] p))) b2 b3 b4 kb fb)) (nw:=(rls (bo_ m) idk (aP_ (uniq [] p)) (Ix.add x (decide (f∈fm)) f) f (j+1) (q,fm)).1) (Hs:=Hs3) hS3 aQ_ rfl zp) (show _=Value.int .i64 (List.length (rls (bo_ m) idk (aP_ (uniq [] p)) (Ix.add x (decide (f∈fm)) f) f (j+1) (q,fm)).1:Int) from rfl)) rfl (Zi 1 (fun hr9=>?_) fun hr9=>?_)
     ·omega
     refine Zi 8 (fun hr10=>?_) fun hr10=>?_
     ·refine Zz 7 ?_
      refine d_ (K_ ff_ rfl rfl) rfl (w_ 0 aY_ rfl rfl rfl rfl rfl rfl (Zz 4 ?_))
      exact ej_ ⟨((Cl.mk [] none 0 [] none 0),2),eu_ hchk hb0 hb1 hm0' (by rw[if_neg (by assumption)]) (cn_ hvk hL hf (j+1) rfl).1 (cn_ hvk hL hf (j+1) rfl).2.2.1 (by omega)⟩ (fun aa v h1 h2=>fg_ (us:=Cl.cells (Cl.mk [] none 0 [] none 0)) 0 cT_ dk_ aY_ rfl rfl rfl rfl aa v h1 h2) g_ (fun v _ h=>by exact⟨.inl rfl,.inl rfl,trivial⟩)
     refine Zz 5 ?_
     refine d_ (K_ ff_ rfl rfl) rfl (w_ 0 aY_ rfl rfl rfl rfl rfl rfl (Zz 4 ?_))
     exact ej_ ⟨((Cl.mk [] none 0 [] none 0),3),eu_ hchk hb0 hb1 hm0' (by rw[if_pos (by assumption)]) (cn_ hvk hL hf (j+1) rfl).1 (cn_ hvk hL hf (j+1) rfl).2.2.1 (by omega)⟩ (fun aa v h1 h2=>fg_ (us:=Cl.cells (Cl.mk [] none 0 [] none 0)) 0 cT_ dk_ aY_ rfl rfl rfl rfl aa v h1 h2) g_ (fun v _ h=>by exact⟨.inl rfl,.inl rfl,trivial⟩)
    ·refine d_ (bF_ (dM_ pG_ Tryz.sizeOf114 rfl rfl (by omega) (by omega)) (show _=zp_ b5 2 from by rw[hk];rfl)) rfl ?_
     refine Zz 6 ?_
     refine eC_ (H':=((b1,.cells #[.slice none 0 0,.slice none 0 0] 49 (0,0))::((b5,.cells #[.slice none 0 0,.slice (some ⟨r1,0,none⟩) 6 6,.slice (some ⟨r2,0,none⟩) 4 4,.slice (some ⟨r3,0,none⟩) 2 2] 115 (0,0))::((b6,.cells #[.int .i64 f.kind,str f.a,str f.b,str f.r,.int .i64 f.lo,.int .i64 f.hi] 24 (0,0))::(Ha1++(Hu1++(Ho1++(Hi1++(Hr1++(Hm1++((b4,.cells #[sv1] 47 (0,0))::(kb,.map es1 ce1)::([(fb,.map ef1 cf1)]++Hq1)))))))))))) (o_ (c_ (c_ (c_ e_))) (o_ (c_ (c_ (c_ e_))) (o_ (c_ (c_ e_)) (B_ (c_ (c_ u_)) (B_ (c_ (c_ u_)) (B_ (c_ (c_ u_)) (B_ (c_ (c_ u_)) (B_ (c_ (c_ u_)) (B_ (c_ (c_ u_)) (o_ e_ (o_ e_ (B_ u_ bH_)))))))))))) (fun v _ h=>h) ?_
     refine av_ (ι:={y:Nat×Hp // y.1≤4∧((EA m hm (EngB.mk g pb ab ub ob ib rb sb lad lcap (an_ (uniq [] p))) b2 b3 b4 kb fb)).St (rls (bo_ m) idk (aP_ (uniq [] p)) (Ix.add x (decide (f∈fm)) f) f y.1 (q,fm)).1 (rls (bo_ m) idk (aP_ (uniq [] p)) (Ix.add x (decide (f∈fm)) f) f y.1 (q,fm)).2 y.2∧(y.1=0∨((rls (bo_ m) idk (aP_ (uniq [] p)) (Ix.add x (decide (f∈fm)) f) f y.1 (q,fm)).1).length≤m)}) (fun y=>[(0,.slice pad (List.length p) pcap),(1,.int .i64 bu),(4,zp_ b1 0),(7,zp_ b2 0),(8,zp_ b3 0),(9,zp_ b4 0),(10,.slice aad (List.length (atS p)) acap),(11,zp_ b5 0),(12,.int .i64 (n:Int)),(13,zp_ b6 0),(60,.slice (some ⟨r2,0,none⟩) 4 4),(61,.int .i64 4),(62,.int .i64 (y.1.1:Int))]) (fun y=>((b1,.cells #[.slice none 0 0,.slice none 0 0] 49 (0,0))::((b5,.cells #[.slice none 0 0,.slice (some ⟨r1,0,none⟩) 6 6,.slice (some ⟨r2,0,none⟩) 4 4,.slice (some ⟨r3,0,none⟩) 2 2] 115 (0,0))::((b6,.cells #[.int .i64 f.kind,str f.a,str f.b,str f.r,.int .i64 f.lo,.int .i64 f.hi] 24 (0,0))::(Ha1++(Hu1++(Ho1++(Hi1++(Hr1++(Hm1++y.1.2)))))))))) (fun y=>[at_ (some ⟨r1,0,none⟩) (List.flatMap fvC (rlV g 1)),at_ (some ⟨r2,0,none⟩) (List.flatMap fvC (rlV g 2)),at_ (some ⟨r3,0,none⟩) (List.flatMap fvC (rlV g 3)),at_ aad (List.flatMap bw_ (atS p)),mlF Tryz.prog 191 Ky.val Pc.cells pb (aP_ (uniq [] p)) adr,by_ g (.cells #[.map (some pb),.slice lad (List.length (an_ (uniq [] p))) lcap,.map (some kb),.func (.func 48) #[] #[zp_ b2 0,zp_ b3 0,zp_ b4 0],.map (some ab),.map (some ub),.map (some ob),.map (some ib),.map (some rb),.map (some sb),.map (some fb)] 111 (0,0)),by_ b3 (.cells #[.int .i64 (m:Int)] 3 (0,0)),by_ b2 (.cells #[zp_ g 0] 102 (0,0)),at_ lad (List.flatMap bw_ (an_ (uniq [] p))),at_ pad (List.flatMap Pc.cells p),ia_]) (fun y=>4 - y.1.1) ⟨((0:Nat),((b4,.cells #[sv1] 47 (0,0))::(kb,.map es1 ce1)::([(fb,.map ef1 cf1)]++Hq1))),by omega,by exact⟨sv1,es1,ce1,ef1,cf1,qf1,Hq1,rfl,hrQ1,hEk1,hEf1,hqf1⟩,.inl rfl⟩ zl zp zh ?_
     rintro ⟨⟨j,Hs⟩,hj,hS2,hjm⟩
     dsimp only at hj hS2 hjm ⊢
     refine Zi 2 (fun hr11=>?_) fun hr11=>?_
     ·have ej:j=4:=by omega
      have hjl:((rls (bo_ m) idk (aP_ (uniq [] p)) (Ix.add x (decide (f∈fm)) f) f j (q,fm)).1).length≤m:=hjm.resolve_left (by omega)
      rw[ej]at hjl hS2
      refine Zz 12 ?_
      exact Q_ ⟨(n+1,(rls (bo_ m) idk (aP_ (uniq [] p)) (Ix.add x (decide (f∈fm)) f) f 4 (q,fm)).1,(rls (bo_ m) idk (aP_ (uniq [] p)) (Ix.add x (decide (f∈fm)) f) f 4 (q,fm)).2,(Ix.add x (decide (f∈fm)) f),Ha1,Hu1,Ho1,Hi1,Hr1,Hm1,Hs),(if_ hvk hL hf (by have e:nrl f=4:=(by unfold nrl;simp[hk]);rw[e]) (by omega)),(by exact hS2),hI1,(iK_ hz _ f)⟩ (by dsimp only;omega) zl (o_ e_ (o_ e_ (B_ (c_ u_) (B_ (c_ u_) (B_ (c_ u_) (B_ (c_ u_) (B_ (c_ u_) (B_ (c_ u_) P_)))))))) zh
     have hlfv:j<List.length (rlV g 2):=by show j<4;omega
     obtain⟨fv,hfv⟩:∃ e0,(rlV g 2)[j]? = some e0:=⟨_,List.getElem?_eq_getElem hlfv⟩
     have hmfv:fv∈(rlV g 2):=List.mem_of_getElem? hfv
     refine Zz 10 ?_
     refine d_ (X_ bg_ eA_ rfl rfl (fun v _ h=>I_ (n:=1) hO_ (by decide) (by exact h.2.1) hfv) (by omega) (by omega)) rfl (d_ (bn_ (ad:=(some ⟨r2,0,none⟩)) Tryz.isAgg106 rfl zf (G_ hO_ hfv 0 _ rfl)) rfl (Zz 7 ?_))
     obtain⟨nr,rfl,hT⟩:=sO_ (EngB.mk g pb ab ub ob ib rb sb lad lcap (an_ (uniq [] p))) (EA m hm (EngB.mk g pb ab ub ob ib rb sb lad lcap (an_ (uniq [] p))) b2 b3 b4 kb fb) (EngA.mk adr (fun _=>(none,0)) (fun _=>(none,0)) (fun _=>(none,0)) (fun _=>(none,0)) (fun _=>(none,0)) (fun _=>(none,0))) (aP_ (uniq [] p)) (Ix.add x (decide (f∈fm)) f) f (rls (bo_ m) idk (aP_ (uniq [] p)) (Ix.add x (decide (f∈fm)) f) f j (q,fm)).1 (rls (bo_ m) idk (aP_ (uniq [] p)) (Ix.add x (decide (f∈fm)) f) f j (q,fm)).2 Hs hS2 Ha1 Hu1 Ho1 Hi1 Hr1 Hm1 hI1 hpl hxl1 hyl1 (fun hk=>(hU_ hform hk).2.2) (fun _ y hy=>(hvk y (pm9.1 hy).1).num (.inr (pm9.1 hy).2.1)) hk j hfv
     refine aR_ (first:=[zp_ g 0]) (vs:=[Fc.val f]) (cap:=[]) hT rfl rfl (os_ (B_ (c_ (c_ (c_ u_))) (B_ (c_ (c_ (c_ u_))) (B_ (c_ (c_ (c_ u_))) (B_ (c_ (c_ (c_ u_))) (B_ (c_ (c_ (c_ u_))) (B_ (c_ (c_ (c_ u_))) (c_ (c_ P_))))))))) (fun v _ h=>by exact⟨h.2.2.2.2.2.1,h.2.2.2.2.1,⟨h.2.2.2.2.2.2.2.1,h.2.2.2.2.2.2.1,h.2.2.2.2.2.1⟩,trivial⟩) rfl fun⟨Hs3,hS3⟩=>ac_ mp_ (Zz 2 ?_)
     refine ac_ (aN_ (j_ (j_ (j_ (j_ (j_ (j_ (j_ e_))))))) (aN_ (j_ (j_ (j_ (j_ (j_ (j_ (j_ e_))))))) (cA_ (j_ (j_ (j_ (j_ (j_ (j_ cp_))))))))) (Zz 2 ?_)
     refine n_ 0 [0,1,2,3,4,5,6] zk zs (Zz 4 ?_)
     refine Z_ rfl (bF_ (fy_ (E:=(EA m hm (EngB.mk g pb ab ub ob ib rb sb lad lcap (an_ (uniq [] p))) b2 b3 b4 kb fb)) (nw:=(rls (bo_ m) idk (aP_ (uniq [] p)) (Ix.add x (decide (f∈fm)) f) f (j+1) (q,fm)).1) (Hs:=Hs3) hS3 aQ_ rfl zp) (show _=Value.int .i64 (List.length (rls (bo_ m) idk (aP_ (uniq [] p)) (Ix.add x (decide (f∈fm)) f) f (j+1) (q,fm)).1:Int) from rfl)) rfl (Zi 1 (fun hr12=>?_) fun hr12=>?_)
     ·refine Zz 11 ?_
      exact Q_ ⟨(j+1,Hs3),hlfv,by exact hS3,.inr (by dsimp only;omega)⟩ (by dsimp only;omega) zl zp zh
     refine Zz 9 ?_
     refine n_ 0 [0,1,2,3,4,5,6] zk zs (Zz 4 ?_)
     refine Z_ rfl (bF_ (fy_ (E:=(EA m hm (EngB.mk g pb ab ub ob ib rb sb lad lcap (an_ (uniq [] p))) b2 b3 b4 kb fb)) (nw:=(rls (bo_ m) idk (aP_ (uniq [] p)) (Ix.add x (decide (f∈fm)) f) f (j+1) (q,fm)).1) (Hs:=Hs3) hS3 aQ_ rfl zp) (show _=Value.int .i64 (List.length (rls (bo_ m) idk (aP_ (uniq [] p)) (Ix.add x (decide (f∈fm)) f) f (j+1) (q,fm)).1:Int) from rfl)) rfl (Zi 1 (fun hr13=>?_) fun hr13=>?_)
     ·omega
     refine Zi 8 (fun hr14=>?_) fun hr14=>?_
     ·refine Zz 7 ?_
      refine d_ (K_ ff_ rfl rfl) rfl (w_ 0 aY_ rfl rfl rfl rfl rfl rfl (Zz 4 ?_))
      exact ej_ ⟨((Cl.mk [] none 0 [] none 0),2),eu_ hchk hb0 hb1 hm0' (by rw[if_neg (by assumption)]) (cn_ hvk hL hf (j+1) rfl).1 (cn_ hvk hL hf (j+1) rfl).2.2.1 (by omega)⟩ (fun aa v h1 h2=>fg_ (us:=Cl.cells (Cl.mk [] none 0 [] none 0)) 0 cT_ dk_ aY_ rfl rfl rfl rfl aa v h1 h2) g_ (fun v _ h=>by exact⟨.inl rfl,.inl rfl,trivial⟩)
     refine Zz 5 ?_
     refine d_ (K_ ff_ rfl rfl) rfl (w_ 0 aY_ rfl rfl rfl rfl rfl rfl (Zz 4 ?_))
     exact ej_ ⟨((Cl.mk [] none 0 [] none 0),3),eu_ hchk hb0 hb1 hm0' (by rw[if_pos (by assumption)]) (cn_ hvk hL hf (j+1) rfl).1 (cn_ hvk hL hf (j+1) rfl).2.2.1 (by omega)⟩ (fun aa v h1 h2=>fg_ (us:=Cl.cells (Cl.mk [] none 0 [] none 0)) 0 cT_ dk_ aY_ rfl rfl rfl rfl aa v h1 h2) g_ (fun v _ h=>by exact⟨.inl rfl,.inl rfl,trivial⟩)
    refine d_ (bF_ (dM_ pG_ Tryz.sizeOf114 rfl rfl (by omega) (by omega)) (show _=zp_ b5 3 from by rw[hk];rfl)) rfl ?_
    refine Zz 6 ?_
    refine eC_ (H':=((b1,.cells #[.slice none 0 0,.slice none 0 0] 49 (0,0))::((b5,.cells #[.slice none 0 0,.slice (some ⟨r1,0,none⟩) 6 6,.slice (some ⟨r2,0,none⟩) 4 4,.slice (some ⟨r3,0,none⟩) 2 2] 115 (0,0))::((b6,.cells #[.int .i64 f.kind,str f.a,str f.b,str f.r,.int .i64 f.lo,.int .i64 f.hi] 24 (0,0))::(Ha1++(Hu1++(Ho1++(Hi1++(Hr1++(Hm1++((b4,.cells #[sv1] 47 (0,0))::(kb,.map es1 ce1)::([(fb,.map ef1 cf1)]++Hq1)))))))))))) (o_ (c_ (c_ (c_ e_))) (o_ (c_ (c_ (c_ e_))) (o_ (c_ (c_ e_)) (B_ (c_ (c_ u_)) (B_ (c_ (c_ u_)) (B_ (c_ (c_ u_)) (B_ (c_ (c_ u_)) (B_ (c_ (c_ u_)) (B_ (c_ (c_ u_)) (o_ e_ (o_ e_ (B_ u_ bH_)))))))))))) (fun v _ h=>h) ?_
    refine av_ (ι:={y:Nat×Hp // y.1≤2∧((EA m hm (EngB.mk g pb ab ub ob ib rb sb lad lcap (an_ (uniq [] p))) b2 b3 b4 kb fb)).St (rls (bo_ m) idk (aP_ (uniq [] p)) (Ix.add x (decide (f∈fm)) f) f y.1 (q,fm)).1 (rls (bo_ m) idk (aP_ (uniq [] p)) (Ix.add x (decide (f∈fm)) f) f y.1 (q,fm)).2 y.2∧(y.1=0∨((rls (bo_ m) idk (aP_ (uniq [] p)) (Ix.add x (decide (f∈fm)) f) f y.1 (q,fm)).1).length≤m)}) (fun y=>[(0,.slice pad (List.length p) pcap),(1,.int .i64 bu),(4,zp_ b1 0),(7,zp_ b2 0),(8,zp_ b3 0),(9,zp_ b4 0),(10,.slice aad (List.length (atS p)) acap),(11,zp_ b5 0),(12,.int .i64 (n:Int)),(13,zp_ b6 0),(60,.slice (some ⟨r3,0,none⟩) 2 2),(61,.int .i64 2),(62,.int .i64 (y.1.1:Int))]) (fun y=>((b1,.cells #[.slice none 0 0,.slice none 0 0] 49 (0,0))::((b5,.cells #[.slice none 0 0,.slice (some ⟨r1,0,none⟩) 6 6,.slice (some ⟨r2,0,none⟩) 4 4,.slice (some ⟨r3,0,none⟩) 2 2] 115 (0,0))::((b6,.cells #[.int .i64 f.kind,str f.a,str f.b,str f.r,.int .i64 f.lo,.int .i64 f.hi] 24 (0,0))::(Ha1++(Hu1++(Ho1++(Hi1++(Hr1++(Hm1++y.1.2)))))))))) (fun y=>[at_ (some ⟨r1,0,none⟩) (List.flatMap fvC (rlV g 1)),at_ (some ⟨r2,0,none⟩) (List.flatMap fvC (rlV g 2)),at_ (some ⟨r3,0,none⟩) (List.flatMap fvC (rlV g 3)),at_ aad (List.flatMap bw_ (atS p)),mlF Tryz.prog 191 Ky.val Pc.cells pb (aP_ (uniq [] p)) adr,by_ g (.cells #[.map (some pb),.slice lad (List.length (an_ (uniq [] p))) lcap,.map (some kb),.func (.func 48) #[] #[zp_ b2 0,zp_ b3 0,zp_ b4 0],.map (some ab),.map (some ub),.map (some ob),.map (some ib),.map (some rb),.map (some sb),.map (some fb)] 111 (0,0)),by_ b3 (.cells #[.int .i64 (m:Int)] 3 (0,0)),by_ b2 (.cells #[zp_ g 0] 102 (0,0)),at_ lad (List.flatMap bw_ (an_ (uniq [] p))),at_ pad (List.flatMap Pc.cells p),ia_]) (fun y=>2 - y.1.1) ⟨((0:Nat),((b4,.cells #[sv1] 47 (0,0))::(kb,.map es1 ce1)::([(fb,.map ef1 cf1)]++Hq1))),by omega,by exact⟨sv1,es1,ce1,ef1,cf1,qf1,Hq1,rfl,hrQ1,hEk1,hEf1,hqf1⟩,.inl rfl⟩ zl zp zh ?_
    rintro ⟨⟨j,Hs⟩,hj,hS2,hjm⟩
    dsimp only at hj hS2 hjm ⊢
    refine Zi 2 (fun hr15=>?_) fun hr15=>?_
    ·have ej:j=2:=by omega
     have hjl:((rls (bo_ m) idk (aP_ (uniq [] p)) (Ix.add x (decide (f∈fm)) f) f j (q,fm)).1).length≤m:=hjm.resolve_left (by omega)
     rw[ej]at hjl hS2
     refine Zz 12 ?_
     exact Q_ ⟨(n+1,(rls (bo_ m) idk (aP_ (uniq [] p)) (Ix.add x (decide (f∈fm)) f) f 2 (q,fm)).1,(rls (bo_ m) idk (aP_ (uniq [] p)) (Ix.add x (decide (f∈fm)) f) f 2 (q,fm)).2,(Ix.add x (decide (f∈fm)) f),Ha1,Hu1,Ho1,Hi1,Hr1,Hm1,Hs),(if_ hvk hL hf (by have e:nrl f=2:=(by unfold nrl;simp[hk]);rw[e]) (by omega)),(by exact hS2),hI1,(iK_ hz _ f)⟩ (by dsimp only;omega) zl (o_ e_ (o_ e_ (B_ (c_ u_) (B_ (c_ u_) (B_ (c_ u_) (B_ (c_ u_) (B_ (c_ u_) (B_ (c_ u_) P_)))))))) zh
    have hlfv:j<List.length (rlV g 3):=by show j<2;omega
    obtain⟨fv,hfv⟩:∃ e0,(rlV g 3)[j]? = some e0:=⟨_,List.getElem?_eq_getElem hlfv⟩
    have hmfv:fv∈(rlV g 3):=List.mem_of_getElem? hfv
    refine Zz 10 ?_
    refine d_ (X_ bg_ eA_ rfl rfl (fun v _ h=>I_ (n:=1) hO_ (by decide) (by exact h.2.2.1) hfv) (by omega) (by omega)) rfl (d_ (bn_ (ad:=(some ⟨r3,0,none⟩)) Tryz.isAgg106 rfl zf (G_ hO_ hfv 0 _ rfl)) rfl (Zz 7 ?_))
    obtain⟨nr,rfl,hT⟩:=sN_ (EngB.mk g pb ab ub ob ib rb sb lad lcap (an_ (uniq [] p))) (EA m hm (EngB.mk g pb ab ub ob ib rb sb lad lcap (an_ (uniq [] p))) b2 b3 b4 kb fb) (EngA.mk adr (fun _=>(none,0)) (fun _=>(none,0)) (fun _=>(none,0)) (fun _=>(none,0)) (fun _=>(none,0)) (fun _=>(none,0))) (aP_ (uniq [] p)) (Ix.add x (decide (f∈fm)) f) f (rls (bo_ m) idk (aP_ (uniq [] p)) (Ix.add x (decide (f∈fm)) f) f j (q,fm)).1 (rls (bo_ m) idk (aP_ (uniq [] p)) (Ix.add x (decide (f∈fm)) f) f j (q,fm)).2 Hs hS2 Ha1 Hu1 Ho1 Hi1 Hr1 Hm1 hI1 hpl hxl1 hyl1 (fun hk=>(hU_ hform hk).2.2) (fun _ y hy=>(hvk y (pm9.1 hy).1).num (.inr (pm9.1 hy).2.1)) hk j hfv
    refine aR_ (first:=[zp_ g 0]) (vs:=[Fc.val f]) (cap:=[]) hT rfl rfl (os_ (B_ (c_ (c_ (c_ u_))) (B_ (c_ (c_ (c_ u_))) (B_ (c_ (c_ (c_ u_))) (B_ (c_ (c_ (c_ u_))) (B_ (c_ (c_ (c_ u_))) (B_ (c_ (c_ (c_ u_))) (c_ (c_ P_))))))))) (fun v _ h=>by exact⟨h.2.2.2.2.2.1,h.2.2.2.2.1,⟨h.2.2.2.2.2.2.2.1,h.2.2.2.2.2.2.1,h.2.2.2.2.2.1⟩,trivial⟩) rfl fun⟨Hs3,hS3⟩=>ac_ mp_ (Zz 2 ?_)
    refine ac_ (aN_ (j_ (j_ (j_ (j_ (j_ (j_ (j_ e_))))))) (aN_ (j_ (j_ (j_ (j_ (j_ (j_ (j_ e_))))))) (cA_ (j_ (j_ (j_ (j_ (j_ (j_ cp_))))))))) (Zz 2 ?_)
    refine n_ 0 [0,1,2,3,4,5,6] zk zs (Zz 4 ?_)
    refine Z_ rfl (bF_ (fy_ (E:=(EA m hm (EngB.mk g pb ab ub ob ib rb sb lad lcap (an_ (uniq [] p))) b2 b3 b4 kb fb)) (nw:=(rls (bo_ m) idk (aP_ (uniq [] p)) (Ix.add x (decide (f∈fm)) f) f (j+1) (q,fm)).1) (Hs:=Hs3) hS3 aQ_ rfl zp) (show _=Value.int .i64 (List.length (rls (bo_ m) idk (aP_ (uniq [] p)) (Ix.add x (decide (f∈fm)) f) f (j+1) (q,fm)).1:Int) from rfl)) rfl (Zi 1 (fun hr16=>?_) fun hr16=>?_)
    ·refine Zz 11 ?_
     exact Q_ ⟨(j+1,Hs3),hlfv,by exact hS3,.inr (by dsimp only;omega)⟩ (by dsimp only;omega) zl zp zh
    refine Zz 9 ?_
    refine n_ 0 [0,1,2,3,4,5,6] zk zs (Zz 4 ?_)
    refine Z_ rfl (bF_ (fy_ (E:=(EA m hm (EngB.mk g pb ab ub ob ib rb sb lad lcap (an_ (uniq [] p))) b2 b3 b4 kb fb)) (nw:=(rls (bo_ m) idk (aP_ (uniq [] p)) (Ix.add x (decide (f∈fm)) f) f (j+1) (q,fm)).1) (Hs:=Hs3) hS3 aQ_ rfl zp) (show _=Value.int .i64 (List.length (rls (bo_ m) idk (aP_ (uniq [] p)) (Ix.add x (decide (f∈fm)) f) f (j+1) (q,fm)).1:Int) from rfl)) rfl (Zi 1 (fun hr17=>?_) fun hr17=>?_)
    ·omega
    refine Zi 8 (fun hr18=>?_) fun hr18=>?_
    ·refine Zz 7 ?_
     refine d_ (K_ ff_ rfl rfl) rfl (w_ 0 aY_ rfl rfl rfl rfl rfl rfl (Zz 4 ?_))
     exact ej_ ⟨((Cl.mk [] none 0 [] none 0),2),eu_ hchk hb0 hb1 hm0' (by rw[if_neg (by assumption)]) (cn_ hvk hL hf (j+1) rfl).1 (cn_ hvk hL hf (j+1) rfl).2.2.1 (by omega)⟩ (fun aa v h1 h2=>fg_ (us:=Cl.cells (Cl.mk [] none 0 [] none 0)) 0 cT_ dk_ aY_ rfl rfl rfl rfl aa v h1 h2) g_ (fun v _ h=>by exact⟨.inl rfl,.inl rfl,trivial⟩)
    refine Zz 5 ?_
    refine d_ (K_ ff_ rfl rfl) rfl (w_ 0 aY_ rfl rfl rfl rfl rfl rfl (Zz 4 ?_))
    exact ej_ ⟨((Cl.mk [] none 0 [] none 0),3),eu_ hchk hb0 hb1 hm0' (by rw[if_pos (by assumption)]) (cn_ hvk hL hf (j+1) rfl).1 (cn_ hvk hL hf (j+1) rfl).2.2.1 (by omega)⟩ (fun aa v h1 h2=>fg_ (us:=Cl.cells (Cl.mk [] none 0 [] none 0)) 0 cT_ dk_ aY_ rfl rfl rfl rfl aa v h1 h2) g_ (fun v _ h=>by exact⟨.inl rfl,.inl rfl,trivial⟩)
   refine Zz 6 ?_
   refine d_ (K_ ff_ rfl rfl) rfl (w_ 0 aY_ rfl rfl rfl rfl rfl rfl (Zz 4 ?_))
   exact ej_ ⟨((Cl.mk [] none 0 [] none 0),1),oh_ (by assumption) (by omega)⟩ (fun aa v h1 h2=>fg_ (us:=Cl.cells (Cl.mk [] none 0 [] none 0)) 0 cT_ dk_ aY_ rfl rfl rfl rfl aa v h1 h2) g_ (fun v _ h=>by exact⟨.inl rfl,.inl rfl,trivial⟩)
  refine Zz 9 ?_
  refine d_ (K_ ff_ rfl rfl) rfl (w_ 0 aY_ rfl rfl rfl rfl rfl rfl (Zz 4 ?_))
  exact ej_ ⟨((Cl.mk [] none 0 [] none 0),1),oh_ (by assumption) (by omega)⟩ (fun aa v h1 h2=>fg_ (us:=Cl.cells (Cl.mk [] none 0 [] none 0)) 0 cT_ dk_ aY_ rfl rfl rfl rfl aa v h1 h2) g_ (fun v _ h=>by exact⟨.inl rfl,.inl rfl,trivial⟩)
 refine Zz 5 ?_
 refine d_ (K_ ff_ rfl rfl) rfl (Zz 1 ?_)
 refine w_ 0 aY_ rfl rfl rfl rfl rfl rfl (Zz 4 ?_)
 exact ej_ ⟨((Cl.mk [] none 0 [] none 0),(bT_ p)),sn_ (by assumption)⟩ (fun aa v h1 h2=>fg_ (us:=Cl.cells (Cl.mk [] none 0 [] none 0)) 0 cT_ dk_ aY_ rfl rfl rfl rfl aa v h1 h2) g_ (fun v _ h=>by exact⟨.inl rfl,.inl rfl,trivial⟩)
end Go.Proofs.YtaffcjgphlhppaaGreatDoor
namespace Go.Proofs.YtaffcjgphlhppaaGreatDoor
open Go Go.Sx Go.Proofs
attribute [local irreducible] Code.wp wpList wpAnyH
open Go.Vs
abbrev SrtS (l:List Str):Prop:=l.Pairwise fun x y=>x<y
end Go.Proofs.YtaffcjgphlhppaaGreatDoor
