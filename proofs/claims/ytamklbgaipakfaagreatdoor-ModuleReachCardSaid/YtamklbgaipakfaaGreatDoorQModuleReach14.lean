/-
  Part of the proof of the law ModuleReach over this seat: the small logic, the data, the contracts of functions (no condition).
-/
import Derived.Test.YtamklbgaipakfaaGreatDoorQModuleReach13
import Derived.Test.YtamklbgaipakfaaGreatDoorQModuleReach2
import Derived.Test.YtamklbgaipakfaaGreatDoorQModuleReach9
import Derived.Test.YtamklbgaipakfaaGreatDoorQModuleReach12
import Derived.Test.YtamklbgaipakfaaGreatDoorQModuleReach7
set_option linter.unusedVariables false
set_option linter.unusedSimpArgs false
set_option linter.unusedSectionVars false
set_option maxHeartbeats 1000000
namespace Go.Proofs.YtamklbgaipakfaaGreatDoor
open Go Go.Sx Go.Proofs
attribute [local irreducible] Code.wp wpList wpAnyH
open Go.Vs
theorem kM_ (ls:List Ax) (lad:Option Addr) (lcap:Nat) (p:List Pc) (ad:Option Addr) (cap:Nat) (S:List Str) (sad:Option Addr) (scap:Nat):Tri Tryz.prog 38 #[.slice lad (List.length ls) lcap,.slice ad (List.length p) cap,.slice sad (List.length S) scap] [] [] (fun y:Nat×Nat×Nat=>.func (.func 80) #[] #[zp_ y.1 0,zp_ y.2.1 0,zp_ y.2.2 0]) (fun _=>[]) (fun y=>[bJ_ y.1 (.cells #[.slice ad (List.length p) cap] 54 (0,0)),bJ_ y.2.1 (.cells #[.slice sad (List.length S) scap] 23 (0,0)),bJ_ y.2.2 (.cells #[.slice lad (List.length ls) lcap] 22 (0,0))]):=by
  refine o_ Tryz.func38 rfl rfl Tryz.ntmps38 rfl fun v0=>?_
  refine Zz 2 ?_
  refine ah_ rfl rfl fun b1=>ah_ rfl rfl fun b2=>ah_ rfl rfl fun b3=>Zz 5 ?_
  refine c_ (eO_ rfl rfl) rfl (Zz 4 ?_)
  refine eL_ (bJ_ b1 (.cells #[.slice lad (List.length ls) lcap] 22 (0,0))) (ds_ (C_ (C_ t_))) (fun _ h1 h2 _=>⟨h1,h2⟩) ?_
  refine eL_ (bJ_ b2 (.cells #[.slice ad (List.length p) cap] 54 (0,0))) (ds_ (C_ t_)) (fun _ h1 h2 _=>⟨h1,h2⟩) ?_
  refine eL_ (bJ_ b3 (.cells #[.slice sad (List.length S) scap] 23 (0,0))) (ds_ t_) (fun _ h1 h2 _=>⟨h1,h2⟩) ?_
  exact G_ Tryz.results38 (b2,b3,b1) rfl f_ zf
theorem qM_ {σ:Type} {lq:Nat} {Gj:σ→Hp} {lst:σ→List Int} (ls:List Ax) (lad:Option Addr) (lcap:Nat) (p:List Pc) (ad:Option Addr) (cap:Nat) (S:List Str) (sad:Option Addr) (scap:Nat) (bp bs bl:Nat) (Fx Fy:Fct) (hY:∀ s x,((lst s).length<100000000∧0≤x∧x<(List.length ls:Int))→im_ Tryz.prog lq (.int .i64 x) (Gj s) [Fx,Fy] (fun _:{s':σ // lst s'=lst s++[x]}=>.bool true) (fun s'=>Gj s'.1) (fun _=>[])) (s0:σ) (hs0:lst s0=[]) (hp:p.length≤100000000) (hS:S.length≤100000000) (hll:ls.length≤100000000):Tri Tryz.prog 80 #[.func (.yield lq) #[] #[],zp_ bp 0,zp_ bs 0,zp_ bl 0] (Gj s0) [bJ_ bp (.cells #[.slice ad (List.length p) cap] 54 (0,0)),bJ_ bs (.cells #[.slice sad (List.length S) scap] 23 (0,0)),bJ_ bl (.cells #[.slice lad (List.length ls) lcap] 22 (0,0)),aw_ ad (List.flatMap Pc.cells p),aw_ sad (List.flatMap aH_ S),cH_ lad ls,Fx,Fy] (fun _:{s':σ // lst s'=ee_ ls p S (List.length ls)}=>.tuple #[]) (fun s'=>Gj s'.1) (fun _=>[]):=by
 refine o_ Tryz.func80 rfl rfl Tryz.ntmps80 rfl fun v0=>?_
 refine m_ ?_
 refine d_ ?_
 refine c_ (ch_ eH_ rfl zf rfl) rfl ?_
 refine c_ (ch_ fw_ rfl zf rfl) rfl ?_
 refine i_ (oE_ p ad cap S sad scap hp hS) rfl f_ zf rfl fun⟨⟨kb,esK,cK,Kq,svU,Uq,HUq⟩,hEK,hBK,hrU,hRR⟩=>?_
 dsimp only
 dsimp only at hEK hBK hrU hRR
 simp only[List.cons_append,List.append_assoc]
 refine c_ (q_ rfl) rfl ?_
 refine c_ (cv_ rfl rfl) rfl ?_
 refine c_ (cv_ rfl rfl) rfl ?_
 refine c_ (n_ rfl) rfl ?_
 refine c_ (n_ rfl) rfl ?_
 refine j_ ?_
 refine e_ rfl ?_
 refine m_ ?_
 refine d_ ?_
 refine ek_ rfl fun b1=>?_
 refine c_ (n_ rfl) rfl ?_
 refine j_ ?_
 refine e_ rfl ?_
 refine m_ ?_
 refine m_ ?_
 refine d_ ?_
 refine c_ (q_ rfl) rfl ?_
 refine c_ (eC_ hrU Tryz.runUnderlying79 rfl) rfl ?_
 refine c_ (q_ rfl) rfl ?_
 refine j_ ?_
 refine e_ rfl ?_
 refine aB_ ?_
 refine aO_ (ι:={y:Nat×Array MapEntry×Nat×List Int // y.1≤List.length Uq∧SetE (fun n:Int=>.int .i64 n) y.2.1 y.2.2.2∧iV_ p Uq y.2.2.2 y.1}) (fun y=>[(0,.func (.yield lq) #[] #[]),(1,zp_ bp 0),(3,zp_ bl 0),(7,.map (some b1)),(20,svU),(21,.int .i64 (List.length Uq:Int)),(22,.int .i64 (y.1.1:Int))]) (fun y=>((b1,.map y.1.2.1 y.1.2.2.1)::(HUq++(Gj s0)))) (fun y=>[bJ_ bp (.cells #[.slice ad (List.length p) cap] 54 (0,0)),bJ_ bs (.cells #[.slice sad (List.length S) scap] 23 (0,0)),bJ_ bl (.cells #[.slice lad (List.length ls) lcap] 22 (0,0)),aw_ ad (List.flatMap Pc.cells p),aw_ sad (List.flatMap aH_ S),cH_ lad ls,Fx,Fy]) (fun y=>List.length Uq - y.1.1) ⟨((0:Nat),#[],0,([]:List Int)),by simp,SetE.nil,iV_.zero⟩ zl zp zh ?_
 rintro ⟨⟨i,es3,c3,q⟩,hi_i,hE3,hq⟩
 dsimp only at hi_i hE3 hq ⊢
 refine m_ ?_
 refine d_ ?_
 refine s_ (bR_ rfl rfl) rfl fun r1 hr1=>?_
 refine j_ ?_
 refine e_ rfl ?_
 refine m_ ?_
 cases r1
 ·replace hr1:=zdf hr1
  refine F_ rfl ?_
  refine cp_ rfl ?_
  refine e_ rfl ?_
  refine m_ ?_
  refine d_ ?_
  refine c_ (ch_ iS_ rfl zf rfl) rfl ?_
  refine c_ (bM_ ae_ rfl) rfl ?_
  refine c_ (q_ rfl) rfl ?_
  refine j_ ?_
  refine e_ rfl ?_
  refine aB_ ?_
  have hqd:=hq.done (S:=S) (by rw[← hRR.ul];omega) hRR
  refine aO_ (ι:={y:Nat×σ // y.1≤List.length ls∧lst y.2=ee_ ls p S y.1}) (fun y=>[(0,.func (.yield lq) #[] #[]),(1,zp_ bp 0),(3,zp_ bl 0),(7,.map (some b1)),(21,.int .i64 (List.length Uq:Int)),(22,.int .i64 (i:Int)),(35,.slice lad (List.length ls) lcap),(36,.int .i64 (List.length ls:Int)),(37,.int .i64 (y.1.1:Int))]) (fun y=>((b1,.map es3 c3)::(Gj y.1.2))) (fun y=>[bJ_ bp (.cells #[.slice ad (List.length p) cap] 54 (0,0)),bJ_ bs (.cells #[.slice sad (List.length S) scap] 23 (0,0)),bJ_ bl (.cells #[.slice lad (List.length ls) lcap] 22 (0,0)),aw_ ad (List.flatMap Pc.cells p),aw_ sad (List.flatMap aH_ S),cH_ lad ls,Fx,Fy]) (fun y=>List.length ls - y.1.1) ⟨((0:Nat),s0),by simp,(by rw[pG_];exact hs0)⟩ zl zp zh ?_
  rintro ⟨⟨k,s⟩,hi_k,hls⟩
  dsimp only at hi_k hls ⊢
  refine m_ ?_
  refine d_ ?_
  refine s_ (bR_ rfl rfl) rfl fun r2 hr2=>?_
  refine j_ ?_
  refine e_ rfl ?_
  refine m_ ?_
  cases r2
  ·replace hr2:=zdf hr2
   refine F_ rfl ?_
   refine cp_ rfl ?_
   refine co_ rfl ?_
   exact fd_ Tryz.results80 ⟨s,by rw[show List.length ls=k by omega];exact hls⟩ rfl bo_ zt
  replace hr2:=zdt hr2
  have hla1:k<List.length ls:=by omega
  obtain⟨a1,ha1⟩:∃ e0,ls[k]? = some e0:=⟨_,List.getElem?_eq_getElem hla1⟩
  have hma1:a1∈ls:=List.mem_of_getElem? ha1
  refine E_ rfl ?_
  refine ai_ ?_
  refine e_ rfl ?_
  refine m_ ?_
  refine aB_ ?_
  refine m_ ?_
  refine d_ ?_
  refine c_ (q_ rfl) rfl ?_
  refine c_ (T_ ae_ ad_ rfl rfl (fun v _ h=>J_ (n:=16) Ax.cells_len (by decide) (by exact h.2.2.2.2.2.1.1) ha1) (by omega) (by first|omega|(simp;done))) rfl ?_
  refine c_ (al_ (ad:=lad) (us:=Ax.cells a1) bB_ ad_ rfl (fun v _ h=>by exact h.2.2.2.2.2.1.1) (Ax.cells_len _) (H_ Ax.cells_len ha1)) rfl ?_
  refine au_ bm_ rfl fun b2=>?_
  refine c_ (n_ rfl) rfl ?_
  refine aa_ 0 ad_ rfl rfl rfl rfl rfl rfl ?_
  refine j_ ?_
  refine e_ rfl ?_
  refine m_ ?_
  refine d_ ?_
  refine c_ (A_ p_ rfl rfl rfl ab_) rfl ?_
  refine c_ (M_ 0 ay_ rfl rfl rfl) rfl ?_
  refine s_ (V_ rfl rfl) rfl fun r3 hr3=>?_
  refine c_ (q_ rfl) rfl ?_
  cases r3
  ·replace hr3:=znb hr3
   refine ag_ rfl rfl ?_
   refine c_ (A_ p_ rfl rfl rfl ab_) rfl ?_
   refine ag_ rfl rfl ?_
   refine c_ (M_ 0 ay_ rfl rfl rfl) rfl ?_
   refine ag_ rfl rfl ?_
   refine s_ (V_ rfl rfl) rfl fun r4 hr4=>?_
   refine c_ (bS_ rfl rfl) rfl ?_
   refine c_ (q_ rfl) rfl ?_
   cases r4
   ·replace hr4:=znb hr4
    refine ag_ rfl rfl ?_
    refine c_ (A_ p_ rfl rfl rfl ab_) rfl ?_
    refine ag_ rfl rfl ?_
    refine c_ (M_ 0 ay_ rfl rfl rfl) rfl ?_
    refine ag_ rfl rfl ?_
    refine s_ (V_ rfl rfl) rfl fun r5 hr5=>?_
    refine c_ (bS_ rfl rfl) rfl ?_
    refine c_ (n_ rfl) rfl ?_
    refine j_ ?_
    refine e_ rfl ?_
    refine m_ ?_
    cases r5
    ·replace hr5:=znb hr5
     by_cases hq9:(k:Int)∈q
     ·have hM:Mat ls p S (k:Int):=qL_ hqd hq9
      refine fm_ (ι:={s':σ // lst s'=lst s++[(k:Int)]}) (fun _=>[(0,.func (.yield lq) #[] #[]),(1,zp_ bp 0),(3,zp_ bl 0),(7,.map (some b1)),(21,.int .i64 (List.length Uq:Int)),(22,.int .i64 (i:Int)),(35,.slice lad (List.length ls) lcap),(36,.int .i64 (List.length ls:Int)),(37,.int .i64 (k:Int)),(66,.bool false)]) (fun z=>((b2,.cells #[.int .i64 (Ax.kind a1),.bool (Ax.opn a1),.int .i64 (Con.kind (Ax.left a1)),str (Con.name (Ax.left a1)),.int .i64 (Con.lo (Ax.left a1)),.int .i64 (Con.hi (Ax.left a1)),.slice (Con.ad (Ax.left a1)) (List.length (Con.parts (Ax.left a1))) (Con.cap (Ax.left a1)),.int .i64 (Con.kind (Ax.right a1)),str (Con.name (Ax.right a1)),.int .i64 (Con.lo (Ax.right a1)),.int .i64 (Con.hi (Ax.right a1)),.slice (Con.ad (Ax.right a1)) (List.length (Con.parts (Ax.right a1))) (Con.cap (Ax.right a1)),.slice (Ax.ad a1) (List.length (Ax.roles a1)) (Ax.cap a1),str (Ax.role a1),str (Ax.a a1),str (Ax.b a1)] 48 (0,0))::((b1,.map es3 c3)::(Gj z.1)))) (fun _=>[bJ_ bp (.cells #[.slice ad (List.length p) cap] 54 (0,0)),bJ_ bs (.cells #[.slice sad (List.length S) scap] 23 (0,0)),bJ_ bl (.cells #[.slice lad (List.length ls) lcap] 22 (0,0)),aw_ ad (List.flatMap Pc.cells p),aw_ sad (List.flatMap aH_ S),cH_ lad ls,Fx,Fy]) ?_ ?_
      ·refine bj_ ?_
       refine ax_ aj_ (q_ rfl) rfl rfl ?_
       refine ax_ aj_ (q_ rfl) rfl rfl ?_
       refine cm_ aj_ rfl rfl ?_
       refine ax_ aj_ (q_ rfl) rfl rfl ?_
       refine cm_ aj_ rfl rfl ?_
       refine ax_ aj_ (q_ rfl) rfl rfl ?_
       refine cm_ aj_ rfl rfl ?_
       refine kK_ aj_ (gF_ (k:=(k:Int)) nV_ Tryz.runUnderlying134 Tryz.zeroValue4 rfl rfl hE3 (fun v h _=>(h.own _ (List.mem_of_getElem? (i:=1) rfl)).1)) rfl rfl fun r6 hr6=>?_
       refine ax_ aj_ (bS_ rfl rfl) rfl rfl ?_
       refine ax_ aj_ (q_ rfl) rfl rfl ?_
       cases r6
       ·replace hr6:=zdf hr6
        exact absurd hq9 hr6
       replace hr6:=zdt hr6
       refine cm_ aj_ rfl rfl ?_
       refine ax_ aj_ (q_ rfl) rfl rfl ?_
       refine cm_ aj_ rfl rfl ?_
       refine ax_ aj_ (q_ rfl) rfl rfl ?_
       refine cm_ aj_ rfl rfl ?_
       refine eh_ (hY s (k:Int) ⟨by rw[hls];have:=fQ_ (l:=ls) (p:=p) (S:=S) k;omega,by omega,by omega⟩) rfl rfl (C_ bo_) zf rfl fun z=>?_
       refine cm_ aj_ rfl rfl ?_
       refine ax_ aj_ (aE_ rfl) rfl rfl ?_
       refine ax_ aj_ (bx_ rfl rfl) rfl rfl ?_
       refine bX_ ?_
       refine cE_ rfl ?_
       exact dd_ z zl zp zh
      rintro ⟨s',hs'⟩
      dsimp only
      refine e_ rfl ?_
      refine F_ rfl ?_
      refine ai_ ?_
      refine e_ rfl ?_
      refine d_ ?_
      refine c_ (aA_ rfl rfl rfl (be_ (by omega) (by omega))) rfl ?_
      refine c_ (q_ rfl) rfl ?_
      refine j_ ?_
      refine L_ rfl ?_
      exact R_ ⟨(k+1,s'),hla1,(by rw[ed_ hM,← hls];exact hs')⟩ (by dsimp only;omega) zl zp zh
     have hM:¬ Mat ls p S (k:Int):=sf_ hqd ha1 (by unfold eR_;omega) hq9
     refine d_ ?_
     refine c_ (q_ rfl) rfl ?_
     refine c_ (q_ rfl) rfl ?_
     refine ag_ rfl rfl ?_
     refine c_ (q_ rfl) rfl ?_
     refine ag_ rfl rfl ?_
     refine c_ (q_ rfl) rfl ?_
     refine ag_ rfl rfl ?_
     refine s_ (gF_ (k:=(k:Int)) nV_ Tryz.runUnderlying134 Tryz.zeroValue4 rfl rfl hE3 (fun v h _=>(h.own _ (List.mem_of_getElem? (i:=1) rfl)).1)) rfl fun r7 hr7=>?_
     refine c_ (bS_ rfl rfl) rfl ?_
     refine c_ (q_ rfl) rfl ?_
     cases r7
     ·replace hr7:=zdf hr7
      refine bc_ rfl rfl rfl rfl ?_
      refine bc_ rfl rfl rfl rfl ?_
      refine bc_ rfl rfl rfl rfl ?_
      refine bc_ rfl rfl rfl rfl ?_
      refine c_ (bS_ rfl rfl) rfl ?_
      refine j_ ?_
      refine e_ rfl ?_
      refine F_ rfl ?_
      refine ai_ ?_
      refine e_ rfl ?_
      refine d_ ?_
      refine c_ (aA_ rfl rfl rfl (be_ (by omega) (by omega))) rfl ?_
      refine c_ (q_ rfl) rfl ?_
      refine j_ ?_
      refine L_ rfl ?_
      exact R_ ⟨(k+1,s),hla1,(by rw[iY_ hM];exact hls)⟩ (by dsimp only;omega) zl (aF_ (C_ t_) bo_) zh
     replace hr7:=zdt hr7
     exact absurd hr7 hq9
    replace hr5:=zeb hr5
    have hM:Mat ls p S (k:Int):=ib_ ha1 (by unfold eR_;omega)
    refine fm_ (ι:={s':σ // lst s'=lst s++[(k:Int)]}) (fun _=>[(0,.func (.yield lq) #[] #[]),(1,zp_ bp 0),(3,zp_ bl 0),(7,.map (some b1)),(21,.int .i64 (List.length Uq:Int)),(22,.int .i64 (i:Int)),(35,.slice lad (List.length ls) lcap),(36,.int .i64 (List.length ls:Int)),(37,.int .i64 (k:Int)),(66,.bool false)]) (fun z=>((b2,.cells #[.int .i64 (Ax.kind a1),.bool (Ax.opn a1),.int .i64 (Con.kind (Ax.left a1)),str (Con.name (Ax.left a1)),.int .i64 (Con.lo (Ax.left a1)),.int .i64 (Con.hi (Ax.left a1)),.slice (Con.ad (Ax.left a1)) (List.length (Con.parts (Ax.left a1))) (Con.cap (Ax.left a1)),.int .i64 (Con.kind (Ax.right a1)),str (Con.name (Ax.right a1)),.int .i64 (Con.lo (Ax.right a1)),.int .i64 (Con.hi (Ax.right a1)),.slice (Con.ad (Ax.right a1)) (List.length (Con.parts (Ax.right a1))) (Con.cap (Ax.right a1)),.slice (Ax.ad a1) (List.length (Ax.roles a1)) (Ax.cap a1),str (Ax.role a1),str (Ax.a a1),str (Ax.b a1)] 48 (0,0))::((b1,.map es3 c3)::(Gj z.1)))) (fun _=>[bJ_ bp (.cells #[.slice ad (List.length p) cap] 54 (0,0)),bJ_ bs (.cells #[.slice sad (List.length S) scap] 23 (0,0)),bJ_ bl (.cells #[.slice lad (List.length ls) lcap] 22 (0,0)),aw_ ad (List.flatMap Pc.cells p),aw_ sad (List.flatMap aH_ S),cH_ lad ls,Fx,Fy]) ?_ ?_
    ·refine bj_ ?_
     refine ax_ aj_ (q_ rfl) rfl rfl ?_
     refine ax_ aj_ (q_ rfl) rfl rfl ?_
     refine fg_ aj_ rfl rfl rfl rfl ?_
     refine fg_ aj_ rfl rfl rfl rfl ?_
     refine fg_ aj_ rfl rfl rfl rfl ?_
     refine ax_ aj_ (bx_ rfl rfl) rfl rfl ?_
     refine ax_ aj_ (q_ rfl) rfl rfl ?_
     refine cm_ aj_ rfl rfl ?_
     refine ax_ aj_ (q_ rfl) rfl rfl ?_
     refine cm_ aj_ rfl rfl ?_
     refine ax_ aj_ (q_ rfl) rfl rfl ?_
     refine cm_ aj_ rfl rfl ?_
     refine eh_ (hY s (k:Int) ⟨by rw[hls];have:=fQ_ (l:=ls) (p:=p) (S:=S) k;omega,by omega,by omega⟩) rfl rfl (C_ bo_) zf rfl fun z=>?_
     refine cm_ aj_ rfl rfl ?_
     refine ax_ aj_ (aE_ rfl) rfl rfl ?_
     refine ax_ aj_ (bx_ rfl rfl) rfl rfl ?_
     refine bX_ ?_
     refine cE_ rfl ?_
     exact dd_ z zl zp zh
    rintro ⟨s',hs'⟩
    dsimp only
    refine e_ rfl ?_
    refine F_ rfl ?_
    refine ai_ ?_
    refine e_ rfl ?_
    refine d_ ?_
    refine c_ (aA_ rfl rfl rfl (be_ (by omega) (by omega))) rfl ?_
    refine c_ (q_ rfl) rfl ?_
    refine j_ ?_
    refine L_ rfl ?_
    exact R_ ⟨(k+1,s'),hla1,(by rw[ed_ hM,← hls];exact hs')⟩ (by dsimp only;omega) zl zp zh
   replace hr4:=zeb hr4
   refine bc_ rfl rfl rfl rfl ?_
   refine bc_ rfl rfl rfl rfl ?_
   refine bc_ rfl rfl rfl rfl ?_
   refine c_ (bx_ rfl rfl) rfl ?_
   refine c_ (n_ rfl) rfl ?_
   refine j_ ?_
   refine e_ rfl ?_
   refine m_ ?_
   have hM:Mat ls p S (k:Int):=ib_ ha1 (by unfold eR_;omega)
   refine fm_ (ι:={s':σ // lst s'=lst s++[(k:Int)]}) (fun _=>[(0,.func (.yield lq) #[] #[]),(1,zp_ bp 0),(3,zp_ bl 0),(7,.map (some b1)),(21,.int .i64 (List.length Uq:Int)),(22,.int .i64 (i:Int)),(35,.slice lad (List.length ls) lcap),(36,.int .i64 (List.length ls:Int)),(37,.int .i64 (k:Int)),(66,.bool false)]) (fun z=>((b2,.cells #[.int .i64 (Ax.kind a1),.bool (Ax.opn a1),.int .i64 (Con.kind (Ax.left a1)),str (Con.name (Ax.left a1)),.int .i64 (Con.lo (Ax.left a1)),.int .i64 (Con.hi (Ax.left a1)),.slice (Con.ad (Ax.left a1)) (List.length (Con.parts (Ax.left a1))) (Con.cap (Ax.left a1)),.int .i64 (Con.kind (Ax.right a1)),str (Con.name (Ax.right a1)),.int .i64 (Con.lo (Ax.right a1)),.int .i64 (Con.hi (Ax.right a1)),.slice (Con.ad (Ax.right a1)) (List.length (Con.parts (Ax.right a1))) (Con.cap (Ax.right a1)),.slice (Ax.ad a1) (List.length (Ax.roles a1)) (Ax.cap a1),str (Ax.role a1),str (Ax.a a1),str (Ax.b a1)] 48 (0,0))::((b1,.map es3 c3)::(Gj z.1)))) (fun _=>[bJ_ bp (.cells #[.slice ad (List.length p) cap] 54 (0,0)),bJ_ bs (.cells #[.slice sad (List.length S) scap] 23 (0,0)),bJ_ bl (.cells #[.slice lad (List.length ls) lcap] 22 (0,0)),aw_ ad (List.flatMap Pc.cells p),aw_ sad (List.flatMap aH_ S),cH_ lad ls,Fx,Fy]) ?_ ?_
   ·refine bj_ ?_
    refine ax_ aj_ (q_ rfl) rfl rfl ?_
    refine ax_ aj_ (q_ rfl) rfl rfl ?_
    refine fg_ aj_ rfl rfl rfl rfl ?_
    refine fg_ aj_ rfl rfl rfl rfl ?_
    refine fg_ aj_ rfl rfl rfl rfl ?_
    refine ax_ aj_ (bx_ rfl rfl) rfl rfl ?_
    refine ax_ aj_ (q_ rfl) rfl rfl ?_
    refine cm_ aj_ rfl rfl ?_
    refine ax_ aj_ (q_ rfl) rfl rfl ?_
    refine cm_ aj_ rfl rfl ?_
    refine ax_ aj_ (q_ rfl) rfl rfl ?_
    refine cm_ aj_ rfl rfl ?_
    refine eh_ (hY s (k:Int) ⟨by rw[hls];have:=fQ_ (l:=ls) (p:=p) (S:=S) k;omega,by omega,by omega⟩) rfl rfl (C_ bo_) zf rfl fun z=>?_
    refine cm_ aj_ rfl rfl ?_
    refine ax_ aj_ (aE_ rfl) rfl rfl ?_
    refine ax_ aj_ (bx_ rfl rfl) rfl rfl ?_
    refine bX_ ?_
    refine cE_ rfl ?_
    exact dd_ z zl zp zh
   rintro ⟨s',hs'⟩
   dsimp only
   refine e_ rfl ?_
   refine F_ rfl ?_
   refine ai_ ?_
   refine e_ rfl ?_
   refine d_ ?_
   refine c_ (aA_ rfl rfl rfl (be_ (by omega) (by omega))) rfl ?_
   refine c_ (q_ rfl) rfl ?_
   refine j_ ?_
   refine L_ rfl ?_
   exact R_ ⟨(k+1,s'),hla1,(by rw[ed_ hM,← hls];exact hs')⟩ (by dsimp only;omega) zl zp zh
  replace hr3:=zeb hr3
  refine bc_ rfl rfl rfl rfl ?_
  refine bc_ rfl rfl rfl rfl ?_
  refine bc_ rfl rfl rfl rfl ?_
  refine c_ (bx_ rfl rfl) rfl ?_
  refine c_ (q_ rfl) rfl ?_
  refine bc_ rfl rfl rfl rfl ?_
  refine bc_ rfl rfl rfl rfl ?_
  refine bc_ rfl rfl rfl rfl ?_
  refine c_ (bx_ rfl rfl) rfl ?_
  refine c_ (n_ rfl) rfl ?_
  refine j_ ?_
  refine e_ rfl ?_
  refine m_ ?_
  have hM:Mat ls p S (k:Int):=ib_ ha1 (by unfold eR_;omega)
  refine fm_ (ι:={s':σ // lst s'=lst s++[(k:Int)]}) (fun _=>[(0,.func (.yield lq) #[] #[]),(1,zp_ bp 0),(3,zp_ bl 0),(7,.map (some b1)),(21,.int .i64 (List.length Uq:Int)),(22,.int .i64 (i:Int)),(35,.slice lad (List.length ls) lcap),(36,.int .i64 (List.length ls:Int)),(37,.int .i64 (k:Int)),(66,.bool false)]) (fun z=>((b2,.cells #[.int .i64 (Ax.kind a1),.bool (Ax.opn a1),.int .i64 (Con.kind (Ax.left a1)),str (Con.name (Ax.left a1)),.int .i64 (Con.lo (Ax.left a1)),.int .i64 (Con.hi (Ax.left a1)),.slice (Con.ad (Ax.left a1)) (List.length (Con.parts (Ax.left a1))) (Con.cap (Ax.left a1)),.int .i64 (Con.kind (Ax.right a1)),str (Con.name (Ax.right a1)),.int .i64 (Con.lo (Ax.right a1)),.int .i64 (Con.hi (Ax.right a1)),.slice (Con.ad (Ax.right a1)) (List.length (Con.parts (Ax.right a1))) (Con.cap (Ax.right a1)),.slice (Ax.ad a1) (List.length (Ax.roles a1)) (Ax.cap a1),str (Ax.role a1),str (Ax.a a1),str (Ax.b a1)] 48 (0,0))::((b1,.map es3 c3)::(Gj z.1)))) (fun _=>[bJ_ bp (.cells #[.slice ad (List.length p) cap] 54 (0,0)),bJ_ bs (.cells #[.slice sad (List.length S) scap] 23 (0,0)),bJ_ bl (.cells #[.slice lad (List.length ls) lcap] 22 (0,0)),aw_ ad (List.flatMap Pc.cells p),aw_ sad (List.flatMap aH_ S),cH_ lad ls,Fx,Fy]) ?_ ?_
  ·refine bj_ ?_
   refine ax_ aj_ (q_ rfl) rfl rfl ?_
   refine ax_ aj_ (q_ rfl) rfl rfl ?_
   refine fg_ aj_ rfl rfl rfl rfl ?_
   refine fg_ aj_ rfl rfl rfl rfl ?_
   refine fg_ aj_ rfl rfl rfl rfl ?_
   refine ax_ aj_ (bx_ rfl rfl) rfl rfl ?_
   refine ax_ aj_ (q_ rfl) rfl rfl ?_
   refine cm_ aj_ rfl rfl ?_
   refine ax_ aj_ (q_ rfl) rfl rfl ?_
   refine cm_ aj_ rfl rfl ?_
   refine ax_ aj_ (q_ rfl) rfl rfl ?_
   refine cm_ aj_ rfl rfl ?_
   refine eh_ (hY s (k:Int) ⟨by rw[hls];have:=fQ_ (l:=ls) (p:=p) (S:=S) k;omega,by omega,by omega⟩) rfl rfl (C_ bo_) zf rfl fun z=>?_
   refine cm_ aj_ rfl rfl ?_
   refine ax_ aj_ (aE_ rfl) rfl rfl ?_
   refine ax_ aj_ (bx_ rfl rfl) rfl rfl ?_
   refine bX_ ?_
   refine cE_ rfl ?_
   exact dd_ z zl zp zh
  rintro ⟨s',hs'⟩
  dsimp only
  refine e_ rfl ?_
  refine F_ rfl ?_
  refine ai_ ?_
  refine e_ rfl ?_
  refine d_ ?_
  refine c_ (aA_ rfl rfl rfl (be_ (by omega) (by omega))) rfl ?_
  refine c_ (q_ rfl) rfl ?_
  refine j_ ?_
  refine L_ rfl ?_
  exact R_ ⟨(k+1,s'),hla1,(by rw[ed_ hM,← hls];exact hs')⟩ (by dsimp only;omega) zl zp zh
 replace hr1:=zdt hr1
 have hlw1:i<List.length Uq:=by omega
 obtain⟨w1,hw1⟩:∃ e0,Uq[i]? = some e0:=⟨_,List.getElem?_eq_getElem hlw1⟩
 have hmw1:w1∈Uq:=List.mem_of_getElem? hw1
 have hlx1:i<List.length p:=by have:=hRR.ul;omega
 obtain⟨x1,hx1⟩:∃ e0,p[i]? = some e0:=⟨_,List.getElem?_eq_getElem hlx1⟩
 have hmx1:x1∈p:=List.mem_of_getElem? hx1
 refine E_ rfl ?_
 refine ai_ ?_
 refine e_ rfl ?_
 refine m_ ?_
 refine aB_ ?_
 refine m_ ?_
 refine d_ ?_
 refine c_ (q_ rfl) rfl ?_
 refine c_ (ha_ hrU Tryz.runUnderlying79 dZ_ rfl rfl (by omega) (by omega)) rfl ?_
 refine c_ (nl_ hrU zp id_ rfl (H_ ld_ hw1 0 _ rfl)) rfl ?_
 refine c_ (n_ rfl) rfl ?_
 refine c_ (n_ rfl) rfl ?_
 refine j_ ?_
 refine e_ rfl ?_
 refine m_ ?_
 refine d_ ?_
 refine c_ (q_ rfl) rfl ?_
 refine j_ ?_
 refine e_ rfl ?_
 cases w1
 ·refine F_ rfl ?_
  refine ai_ ?_
  refine e_ rfl ?_
  refine d_ ?_
  refine c_ (aA_ rfl rfl rfl (be_ (by omega) (by omega))) rfl ?_
  refine c_ (q_ rfl) rfl ?_
  refine j_ ?_
  refine L_ rfl ?_
  exact R_ ⟨(i+1,es3,c3,q),hlw1,hE3,hq.miss hw1⟩ (by dsimp only;omega) zl zp zh
 refine E_ rfl ?_
 refine d_ ?_
 refine c_ (q_ rfl) rfl ?_
 refine c_ (ch_ eH_ rfl zf rfl) rfl ?_
 refine c_ (q_ rfl) rfl ?_
 refine c_ (T_ x_ Z_ rfl rfl (fun v _ h=>J_ (n:=10) Pc.cells_len (by decide) (by exact h.2.2.2.1) hx1) (by omega) (by first|omega|(simp;done))) rfl ?_
 refine c_ (hr_ bW_ rfl rfl rfl ab_) rfl ?_
 refine c_ (bu_ (ad:=ad) ay_ rfl zf (H_ Pc.cells_len hx1 9 _ rfl)) rfl ?_
 refine qJ_ (k:=x1.frm) 0 nV_ (.inr rfl) Tryz.runUnderlying134 rfl rfl rfl rfl hE3 fun ej1 cj1 hj1=>?_
 refine j_ ?_
 refine e_ rfl ?_
 refine d_ ?_
 refine c_ (aA_ rfl rfl rfl (be_ (by omega) (by omega))) rfl ?_
 refine c_ (q_ rfl) rfl ?_
 refine j_ ?_
 refine L_ rfl ?_
 exact R_ ⟨(i+1,ej1,cj1,(if x1.frm∈q then q else q++[x1.frm])),hlw1,hj1,hq.hit hx1 hw1⟩ (by dsimp only;omega) zl zp zh
end Go.Proofs.YtamklbgaipakfaaGreatDoor
namespace Go.Proofs.YtamklbgaipakfaaGreatDoor
open Go Go.Sx Go.Proofs
attribute [local irreducible] Code.wp wpList wpAnyH
open Go.Vs
theorem oH_ {c d e:Nat×Obj} {Q:Hp}:(c::(Q++[d,e])).Perm (e::c::(Q++[d])):=by
  have h1:(c::(Q++[d,e]))=(c::(Q++[d]))++[e]:=by simp
  rw[h1];exact List.perm_append_comm
theorem sK_ {c d:Nat×Obj} {Q:Hp}:(c::(Q++[d])).Perm (Q++[c,d]):=by
  have h1:Q++[c,d]=(Q++[c])++[d]:=by simp
  rw[h1]
  exact List.Perm.append_right _ (show ([c]++Q).Perm _ from List.perm_append_comm)
theorem lo_ {H A B C G:Hp} {b:Nat×Obj} (h:H.Perm ((b::(A++(B++C)))++G)):H.Perm ((b::A)++B++(C++G)):=by simpa [List.append_assoc] using h
def ep_ (S:List Str):Bool:=decide (S.length≤16384)&&S.all cd_
def fp_ (l:List Ax) (p:List Pc) (er:Int) (S:List Str):List Int×Int:=if er≠0 then ([],er) else if ep_ S=false then ([],1) else (ee_ l p S l.length,0)
theorem pX_ (ls:List Ax) (lad:Option Addr) (lcap:Nat) (p:List Pc) (ad:Option Addr) (cap:Nat) (S:List Str) (sad:Option Addr) (scap:Nat) (bp bs bl:Nat) (hp:p.length≤100000000) (hS:S.length≤100000000) (hll:ls.length≤100000000):Tri Tryz.prog 79 #[.slice none 0 0,.func (.func 80) #[] #[zp_ bp 0,zp_ bs 0,zp_ bl 0]] [] [bJ_ bp (.cells #[.slice ad (List.length p) cap] 54 (0,0)),bJ_ bs (.cells #[.slice sad (List.length S) scap] 23 (0,0)),bJ_ bl (.cells #[.slice lad (List.length ls) lcap] 22 (0,0)),aw_ ad (List.flatMap Pc.cells p),aw_ sad (List.flatMap aH_ S),cH_ lad ls] (fun y:{y:Value×Hp×List Int // aG_ 3 1 y.1 y.2.2.length (y.2.2.flatMap da_) y.2.1∧y.2.2=(ee_ ls p S (List.length ls))}=>y.1.1) (fun y=>y.1.2.1) (fun _=>[]):=by
 refine eq_ Tryz.func79 rfl rfl Tryz.ntmps79 rfl fun v0=>?_
 refine Zz 2 ?_
 refine ah_ rfl rfl fun b1=>Zz 10 ?_
 refine aN_ [(2,zp_ b1 0),(6,.func (.func 80) #[] #[zp_ bp 0,zp_ bs 0,zp_ bl 0])] zl ?_
 refine gI_ [bJ_ bp (.cells #[.slice ad (List.length p) cap] 54 (0,0)),bJ_ bs (.cells #[.slice sad (List.length S) scap] 23 (0,0))] (σ:={y:Value×Hp×List Int // aG_ 3 1 y.1 y.2.2.length (y.2.2.flatMap da_) y.2.1}) (α:=Int) (xv:=fun x=>.int .i64 x) (good:=fun s x=>s.1.2.2.length<100000000∧0≤x∧x<(List.length ls:Int)) (nx:=fun x s s'=>s'.1.2.2=s.1.2.2++[x]) (Rc:=fun s=>s.1.2.2=(ee_ ls p S (List.length ls))) (Γi:=[bJ_ bp (.cells #[.slice ad (List.length p) cap] 54 (0,0)),bJ_ bs (.cells #[.slice sad (List.length S) scap] 23 (0,0)),bJ_ bl (.cells #[.slice lad (List.length ls) lcap] 22 (0,0)),aw_ ad (List.flatMap Pc.cells p),aw_ sad (List.flatMap aH_ S),cH_ lad ls,bJ_ bp (.cells #[.slice ad (List.length p) cap] 54 (0,0)),bJ_ bs (.cells #[.slice sad (List.length S) scap] 23 (0,0))]) (Hj:=fun y=>(b1,.cells #[y.1.1] 27 (0,0))::y.1.2.1) (Hc:=[]) (caps:=[zp_ bp 0,zp_ bs 0,zp_ bl 0]) ⟨(.slice none 0 0,[],[]),aG_.nil _ _⟩ rfl (.refl _) zf ?_ ?_ ?_
 ·rintro l D rec hpa hst hpe ht hasg hbody ⟨⟨sv,Hq,L⟩,hr⟩ x ⟨hx1,hx2,hx3⟩
  dsimp only at hr hx1 ⊢
  refine gE_ (ι:=Unit) (Hj:=fun y:{y:Value×Hp×List Int // aG_ 3 1 y.1 y.2.2.length (y.2.2.flatMap da_) y.2.1}=>(b1,.cells #[y.1.1] 27 (0,0))::y.1.2.1) (s:=⟨(sv,Hq,L),hr⟩) (ok:=fun s'=>s'.1.2.2=L++[x]) (Γ:=[bJ_ bp (.cells #[.slice ad (List.length p) cap] 54 (0,0)),bJ_ bs (.cells #[.slice sad (List.length S) scap] 23 (0,0))]) (fun _=>[(2,zp_ b1 0),(5,.int .i64 x)]) (fun _=>(b1,.cells #[sv] 27 (0,0))::Hq) hpa hst hpe ht rfl ?_ ?_
  ·intro n v0 H0 HL
   rw[hasg]
   dsimp only
   refine dk_.2 (W_ (H':=(b1,.cells #[sv] 27 (0,0))::(Hq++HL)) (by simp) (dk_.1 ?_))
   refine bj_ ?_
   refine ax_ (bC_ _) (n_ rfl) rfl rfl ?_
   refine bX_ ?_
   refine cE_ rfl ?_
   exact dd_ () zl (F:=[]) (by rw[List.append_nil];exact .refl _) zh
  intro n v0 H0 HL _
  rw[hbody]
  refine dk_.2 (W_ (H':=(b1,.cells #[sv] 27 (0,0))::(Hq++HL)) (by simp) (dk_.1 ?_))
  refine fn_ ?_
  refine bj_ ?_
  refine ax_ (bC_ _) (M_ 0 Tryz.isAgg27 rfl rfl rfl) rfl rfl ?_
  refine ax_ (bC_ _) (q_ rfl) rfl rfl ?_
  refine kL_ (bC_ _) am_ ab_ bb_ rfl rfl rfl rfl rfl rfl fun b3=>?_
  refine iF_ (bC_ _) (news:=List.flatMap da_ [x]) fz_ hr rfl rfl zp rfl (bv_ 0 rfl) (fun u hu=>cU_ eV_ hu) (by simp only[maxLen];omega) (by omega) rfl fun sv1 Hr1 hr1=>?_
  have hq1:=zsa hr1
  refine mN_ (cT_ (bs_ t_) (ds_ (bs_ t_))) ?_
  refine ho_ (bC_ _) 1 hq1 Tryz.sizeOf27 rfl rfl rfl rfl ?_
  refine bX_ ?_
  refine cE_ rfl ?_
  exact gh_ ⟨(sv1,Hr1,(L++[x])),hq1⟩ rfl (lo_ (aF_ (C_ t_) (cq_ (C_ aY_) (cq_ bo_ t_))))
 ·intro l Gj hY
  exact qM_ (lst:=fun y=>y.1.2.2) ls lad lcap p ad cap S sad scap bp bs bl (bJ_ bp (.cells #[.slice ad (List.length p) cap] 54 (0,0))) (bJ_ bs (.cells #[.slice sad (List.length S) scap] 23 (0,0))) (fun s x h=>hY s x h) ⟨(.slice none 0 0,[],[]),aG_.nil _ _⟩ rfl hp hS hll
 rintro ⟨⟨sv,Hq,L⟩,hr⟩ hL D l r
 dsimp only at hL hr ⊢
 refine cL_ rfl ?_
 refine eQ_ ?_
 refine bj_ ?_
 refine ax_ aj_ (M_ 0 Tryz.isAgg27 rfl rfl rfl) rfl rfl ?_
 refine ax_ aj_ (n_ rfl) rfl rfl ?_
 refine bX_ ?_
 refine cL_ rfl ?_
 refine fM_ ?_
 exact ky_ (G:=(b1,.cells #[sv] 27 (0,0))::(Hq++[(l,.loop r)])) ⟨(sv,Hq,L),hr,hL⟩ (fun a v h1 h2=>by have e:=h1.val 4 sv rfl;simp[results,Tryz.results79,e]) (by unfold HLp;simp only[List.cons_append,List.append_assoc,List.nil_append];exact oH_) ⟨_,sK_⟩ rfl
theorem oc_ (ls:List Ax) (lad:Option Addr) (lcap:Nat) (p:List Pc) (ad:Option Addr) (cap:Nat) (S:List Str) (sad:Option Addr) (scap:Nat) (bp bs bl:Nat) (hp:p.length≤100000000) (hS:S.length≤100000000) (hll:ls.length≤100000000):Tri Tryz.prog 37 #[.func (.func 80) #[] #[zp_ bp 0,zp_ bs 0,zp_ bl 0]] [] [bJ_ bp (.cells #[.slice ad (List.length p) cap] 54 (0,0)),bJ_ bs (.cells #[.slice sad (List.length S) scap] 23 (0,0)),bJ_ bl (.cells #[.slice lad (List.length ls) lcap] 22 (0,0)),aw_ ad (List.flatMap Pc.cells p),aw_ sad (List.flatMap aH_ S),cH_ lad ls] (fun y:{y:Option Addr×Nat // ((ee_ ls p S (List.length ls))).length≤y.2∧y.2≤maxLen∧(y.1=none→y.2=0)}=>.slice y.1.1 ((ee_ ls p S (List.length ls))).length y.1.2) (fun _=>[]) (fun y=>[aw_ y.1.1 (((ee_ ls p S (List.length ls))).flatMap da_)]):=by
  refine o_ Tryz.func37 rfl rfl Tryz.ntmps37 rfl fun v0=>?_
  refine Zz 8 ?_
  refine i_ (pX_ ls lad lcap p ad cap S sad scap bp bs bl hp hS hll) rfl f_ zf rfl fun⟨⟨sv1,Hq1,L1⟩,hr1,hL1⟩=>?_
  dsimp only
  dsimp only at hr1 hL1 ⊢
  subst hL1
  simp only[List.append_nil]
  refine Zz 4 ?_
  refine aQ_ hr1 bh_ fun ad2 cp2 had2 hcad2 hmad2 hzad2=>?_
  exact G_ Tryz.results37 ⟨(ad2,cp2),hcad2,hmad2,hzad2⟩ (bO_ rfl had2) f_ zf
theorem me_ (s:Str) (hs:s.length≤17592186044414):Fn0 Tryz.prog 78 #[str s] (.bool (cd_ s)):=by
 refine o_ Tryz.func78 rfl rfl Tryz.ntmps78 rfl fun v0=>?_
 refine Zz 8 ?_
 refine c_ (ci_ K_ rfl) rfl (Zi 8 (fun hr1=>?_) fun hr1=>?_)
 ·refine Zi 4 (fun hr2=>?_) fun hr2=>?_
  ·refine Zi 8 (fun hr3=>?_) fun hr3=>?_
   ·refine Zi 19 (fun hr4=>?_) fun hr4=>?_
    ·refine Zz 21 ?_
     refine i_ (cI_ _ (by first|omega|(simp;omega))) rfl f_ zt rfl fun _=>?_
     refine s_ (br_ (V_ rfl rfl) (congrArg Value.bool (hm_ _))) rfl fun r5 hr5=>Zz 4 ?_
     exact G_ cQ_ () (l_ rfl (by unfold cd_;(repeat (any_goals split))<;>first|rfl|(simp_all;done)|(exfalso;simp_all;omega)|(exfalso;simp_all;done))) (.refl _) zt
    exfalso;omega
   obtain⟨c,hc⟩:∃ c,s[0]? = some c:=⟨_,List.getElem?_eq_getElem (by omega)⟩
   obtain⟨e,he⟩:∃ e,s[s.length - 1]? = some e:=⟨_,List.getElem?_eq_getElem (by omega)⟩
   have hc123 : (s[0]? = some 123) ↔ ((c.toNat : Int) = 123) := by
                               rw[hc];simp only[Option.some.injEq];exact⟨fun q=>by subst q;rfl,fun q=>UInt8.toNat_inj.1 (by show c.toNat=123;omega)⟩
   have he125 : (s[s.length - 1]? = some 125) ↔ ((e.toNat : Int) = 125) := by
                               rw[he];simp only[Option.some.injEq];exact⟨fun q=>by subst q;rfl,fun q=>UInt8.toNat_inj.1 (by show e.toNat=125;omega)⟩
   have hc60 : (s[0]? = some 60) ↔ ((c.toNat : Int) = 60) := by
                               rw[hc];simp only[Option.some.injEq];exact⟨fun q=>by subst q;rfl,fun q=>UInt8.toNat_inj.1 (by show c.toNat=60;omega)⟩
   have he62 : (s[s.length - 1]? = some 62) ↔ ((e.toNat : Int) = 62) := by
                               rw[he];simp only[Option.some.injEq];exact⟨fun q=>by subst q;rfl,fun q=>UInt8.toNat_inj.1 (by show e.toNat=62;omega)⟩
   refine Zz 4 ?_
   refine c_ (bA_ K_ rfl rfl (by decide) hc) rfl (ag_ rfl rfl ?_)
   refine Zi 0 (fun hr6=>?_) fun hr6=>?_
   ·refine Zi 15 (fun hr7=>?_) fun hr7=>?_
    ·refine Zz 21 ?_
     refine i_ (cI_ _ (by first|omega|(simp;omega))) rfl f_ zt rfl fun _=>?_
     refine s_ (br_ (V_ rfl rfl) (congrArg Value.bool (hm_ _))) rfl fun r8 hr8=>Zz 4 ?_
     exact G_ cQ_ () (l_ rfl (by unfold cd_;(repeat (any_goals split))<;>first|rfl|(simp_all;done)|(exfalso;simp_all;omega)|(exfalso;simp_all;done))) (.refl _) zt
    refine Zz 4 ?_
    refine c_ (bA_ K_ rfl rfl (by decide) hc) rfl (ag_ rfl rfl ?_)
    refine Zi 0 (fun hr9=>?_) fun hr9=>?_
    ·refine Zz 17 ?_
     refine i_ (cI_ _ (by first|omega|(simp;omega))) rfl f_ zt rfl fun _=>?_
     refine s_ (br_ (V_ rfl rfl) (congrArg Value.bool (hm_ _))) rfl fun r10 hr10=>Zz 4 ?_
     exact G_ cQ_ () (l_ rfl (by unfold cd_;(repeat (any_goals split))<;>first|rfl|(simp_all;done)|(exfalso;simp_all;omega)|(exfalso;simp_all;done))) (.refl _) zt
    refine Zz 9 ?_
    refine c_ (bA_ K_ rfl rfl (by omega) (show s[((s.length:Int) - 1).toNat]? = some e by rw[show ((s.length:Int) - 1).toNat=s.length - 1 by omega];exact he)) rfl ?_
    refine ag_ rfl rfl ?_
    refine Zi 0 (fun hr11=>?_) fun hr11=>?_
    ·refine Zz 10 ?_
     refine i_ (cI_ _ (by first|omega|(simp;omega))) rfl f_ zt rfl fun _=>?_
     refine s_ (br_ (V_ rfl rfl) (congrArg Value.bool (hm_ _))) rfl fun r12 hr12=>Zz 4 ?_
     exact G_ cQ_ () (l_ rfl (by unfold cd_;(repeat (any_goals split))<;>first|rfl|(simp_all;done)|(exfalso;simp_all;omega)|(exfalso;simp_all;done))) (.refl _) zt
    refine Zz 11 ?_
    exact G_ cQ_ () (l_ rfl (by unfold cd_;(repeat (any_goals split))<;>first|rfl|(simp_all;done)|(exfalso;simp_all;omega)|(exfalso;simp_all;done))) (.refl _) zt
   refine Zz 9 ?_
   refine c_ (bA_ K_ rfl rfl (by omega) (show s[((s.length:Int) - 1).toNat]? = some e by rw[show ((s.length:Int) - 1).toNat=s.length - 1 by omega];exact he)) rfl ?_
   refine ag_ rfl rfl ?_
   refine Zi 0 (fun hr13=>?_) fun hr13=>?_
   ·refine Zi 8 (fun hr14=>?_) fun hr14=>?_
    ·refine Zz 21 ?_
     refine i_ (cI_ _ (by first|omega|(simp;omega))) rfl f_ zt rfl fun _=>?_
     refine s_ (br_ (V_ rfl rfl) (congrArg Value.bool (hm_ _))) rfl fun r15 hr15=>Zz 4 ?_
     exact G_ cQ_ () (l_ rfl (by unfold cd_;(repeat (any_goals split))<;>first|rfl|(simp_all;done)|(exfalso;simp_all;omega)|(exfalso;simp_all;done))) (.refl _) zt
    refine Zz 4 ?_
    refine c_ (bA_ K_ rfl rfl (by decide) hc) rfl (ag_ rfl rfl ?_)
    refine Zi 0 (fun hr16=>?_) fun hr16=>?_
    ·refine Zz 17 ?_
     refine i_ (cI_ _ (by first|omega|(simp;omega))) rfl f_ zt rfl fun _=>?_
     refine s_ (br_ (V_ rfl rfl) (congrArg Value.bool (hm_ _))) rfl fun r17 hr17=>Zz 4 ?_
     exact G_ cQ_ () (l_ rfl (by unfold cd_;(repeat (any_goals split))<;>first|rfl|(simp_all;done)|(exfalso;simp_all;omega)|(exfalso;simp_all;done))) (.refl _) zt
    refine Zz 9 ?_
    refine c_ (bA_ K_ rfl rfl (by omega) (show s[((s.length:Int) - 1).toNat]? = some e by rw[show ((s.length:Int) - 1).toNat=s.length - 1 by omega];exact he)) rfl ?_
    refine ag_ rfl rfl ?_
    refine Zi 0 (fun hr18=>?_) fun hr18=>?_
    ·refine Zz 10 ?_
     refine i_ (cI_ _ (by first|omega|(simp;omega))) rfl f_ zt rfl fun _=>?_
     refine s_ (br_ (V_ rfl rfl) (congrArg Value.bool (hm_ _))) rfl fun r19 hr19=>Zz 4 ?_
     exact G_ cQ_ () (l_ rfl (by unfold cd_;(repeat (any_goals split))<;>first|rfl|(simp_all;done)|(exfalso;simp_all;omega)|(exfalso;simp_all;done))) (.refl _) zt
    refine Zz 11 ?_
    exact G_ cQ_ () (l_ rfl (by unfold cd_;(repeat (any_goals split))<;>first|rfl|(simp_all;done)|(exfalso;simp_all;omega)|(exfalso;simp_all;done))) (.refl _) zt
   refine Zz 10 ?_
   refine c_ (eB_ (i:=1) (j:=s.length - 1) (kl:=.i64) (kh:=.i64) K_ rfl rfl (show _=some (Value.int .i64 ((s.length - 1:Nat):Int)) by rw[show ((s.length - 1:Nat):Int)=(s.length:Int) - 1 by omega];rfl) (by omega) (by omega)) rfl ?_
   refine i_ (cI_ _ (by first|omega|(simp;omega))) rfl f_ zt rfl fun _=>?_
   refine s_ (br_ (V_ rfl rfl) (congrArg Value.bool (hm_ _))) rfl fun r20 hr20=>Zz 4 ?_
   exact G_ cQ_ () (l_ rfl (by unfold cd_;(repeat (any_goals split))<;>first|rfl|(simp_all;done)|(exfalso;simp_all;omega)|(exfalso;simp_all;done))) (.refl _) zt
  refine Zz 11 ?_
  exact G_ cQ_ () (l_ rfl (by unfold cd_;(repeat (any_goals split))<;>first|rfl|(simp_all;done)|(exfalso;simp_all;omega)|(exfalso;simp_all;done))) (.refl _) zt
 refine Zz 14 ?_
 exact G_ cQ_ () (l_ rfl (by unfold cd_;(repeat (any_goals split))<;>first|rfl|(simp_all;done)|(exfalso;simp_all;omega)|(exfalso;simp_all;done))) (.refl _) zt
theorem op_ (S:List Str) (sad:Option Addr) (scap:Nat) (hSl:∀ s∈S,s.length≤100000):Tri Tryz.prog 36 #[.slice sad (List.length S) scap] [] [aw_ sad (List.flatMap aH_ S)] (fun _:Unit=>.bool (ep_ S)) (fun _=>[]) (fun _=>[]):=by
 refine o_ Tryz.func36 rfl rfl Tryz.ntmps36 rfl fun v0=>?_
 refine Zi 10 (fun hr1=>?_) fun hr1=>?_
 ·refine Zz 14 ?_
  refine aO_ (ι:={y:Nat // y≤List.length S∧hG_ S y (fun _ s=>cd_ s=true)}) (fun y=>[(2,.bool false),(8,.slice sad (List.length S) scap),(9,.int .i64 (List.length S:Int)),(10,.int .i64 (y.1:Int))]) (fun y=>([])) (fun y=>[aw_ sad (List.flatMap aH_ S)]) (fun y=>List.length S - y.1) ⟨(0:Nat),by simp,hG_.zero⟩ zl f_ zh ?_
  rintro ⟨i,hi_i,hva⟩
  dsimp only at hi_i hva ⊢
  refine Zi 2 (fun hr2=>?_) fun hr2=>?_
  ·refine Zz 12 ?_
   exact G_ Tryz.results36 () (l_ rfl (by unfold ep_;rw[List.all_eq_true.2 (hva.all (by omega))];simp;omega)) f_ zt
  have hls1:i<List.length S:=by omega
  obtain⟨s1,hs1⟩:∃ e0,S[i]? = some e0:=⟨_,List.getElem?_eq_getElem hls1⟩
  have hms1:s1∈S:=List.mem_of_getElem? hs1
  refine Zz 18 ?_
  refine N_ (me_ s1 (by have:=hSl _ hms1;omega)) rfl f_ zt rfl fun r3 hr3=>?_
  refine c_ (aE_ rfl) rfl (Zz 2 ?_)
  cases r3
  ·refine Zz 7 ?_
   exact G_ Tryz.results36 () (l_ rfl (by unfold ep_;symm;rw[Bool.and_eq_false_iff];right;rw[List.all_eq_false];exact⟨s1,hms1,by simpa using hr3⟩)) f_ zt
  refine Zz 8 ?_
  exact R_ ⟨i+1,hls1,hva.step hs1 hr3⟩ (by dsimp only;omega) zl f_ zh
 refine Zz 9 ?_
 exact G_ Tryz.results36 () (l_ rfl (by unfold ep_;symm;rw[Bool.and_eq_false_iff];left;rw[decide_eq_false_iff_not];omega)) f_ zt
end Go.Proofs.YtamklbgaipakfaaGreatDoor
namespace Go.Vs
open Go Go.Sx Go.Proofs.YtamklbgaipakfaaGreatDoor
def cZ_ (l:List Thg):List Str:=(l.filter fun t=>decide (t.kind=1)).map Thg.name
theorem nM_ {l:List Thg} {t:Thg} (h:t.kind=1):cZ_ (l++[t])=cZ_ l++[t.name]:=by simp[cZ_,h]
theorem pE_ {l:List Thg} {t:Thg} (h:t.kind≠1):cZ_ (l++[t])=cZ_ l:=by simp[cZ_,h]
theorem nO_ (l:List Thg):(cZ_ l).length≤l.length:=by unfold cZ_;rw[List.length_map];exact List.length_filter_le _ _
theorem nN_ {l:List Thg} {n:Str}:n∈cZ_ l↔(⟨1,n⟩:Thg)∈l:=by
 unfold cZ_
 rw[List.mem_map]
 constructor
 ·rintro ⟨t,ht,rfl⟩
  rw[List.mem_filter,decide_eq_true_eq]at ht
  obtain⟨h1,h2⟩:=ht
  obtain⟨k,n⟩:=t
  dsimp only at h2;subst h2;exact h1
 intro h;exact⟨_,List.mem_filter.2 ⟨h,by simp⟩,rfl⟩
theorem pF_ {l:List Thg} (h:l.Nodup):(cZ_ l).Nodup:=by
  unfold cZ_ List.Nodup
  rw[List.pairwise_map]
  refine List.Pairwise.imp_of_mem (fun {a b} ha hb hab=>?_) (List.Pairwise.filter _ h)
  rw[List.mem_filter,decide_eq_true_eq]at ha hb
  intro e
  exact hab (by obtain⟨k,n⟩:=a;obtain⟨k',n'⟩:=b;dsimp only at ha hb e;rw[ha.2,hb.2,e])
def gu_ (p:List Pc) (er:Int) (v:Bool) (S X:List Str) (e:Int):Prop :=
  (er≠0∧X=[]∧e=er)∨(er=0∧v=false∧X=[]∧e=1)∨(er=0∧v=true∧e=0∧SrS X∧∀ n,n∈X↔Rch p S ⟨1,n⟩)
theorem lh_:∀ {l m:List Str},SrS l→SrS m→(∀ x,x∈l↔x∈m)→l=m
 | [],[],_,_,_=>rfl
 | [],y::m,_,_,h=>absurd ((h y).2 List.mem_cons_self) (by simp)
 | x::l,[],_,_,h=>absurd ((h x).1 List.mem_cons_self) (by simp)
 | x::l,y::m,h1,h2,h=>by
   unfold SrS at h1 h2
   rw[List.pairwise_cons]at h1 h2
   have e:x=y:=by
     rcases List.mem_cons.1 ((h x).1 List.mem_cons_self) with e|e
     · exact e
     · rcases List.mem_cons.1 ((h y).2 List.mem_cons_self) with e2|e2
       · exact e2.symm
       · exact absurd (List.lt_trans (h2.1 x e) (h1.1 y e2)) (fJ_ _)
   subst e
   rw[lh_ h1.2 h2.2 fun z=>?_]
   constructor
   · intro hz
     rcases List.mem_cons.1 ((h z).1 (List.mem_cons_of_mem _ hz)) with e|e
     · subst e;exact absurd (h1.1 _ hz) (fJ_ _)
     · exact e
   · intro hz
     rcases List.mem_cons.1 ((h z).2 (List.mem_cons_of_mem _ hz)) with e|e
     · subst e;exact absurd (h2.1 _ hz) (fJ_ _)
     · exact e
theorem gu_.uniq {p:List Pc} {er:Int} {v:Bool} {S X Y:List Str} {e f:Int} (h:gu_ p er v S X e) (g:gu_ p er v S Y f):X=Y∧e=f:=by
 rcases h with⟨h1,h2,h3⟩|⟨h1,h2,h3,h4⟩|⟨h1,h2,h3,h4,h5⟩<;>rcases g with⟨g1,g2,g3⟩|⟨g1,g2,g3,g4⟩|⟨g1,g2,g3,g4,g5⟩
 ·exact⟨h2.trans g2.symm,h3.trans g3.symm⟩
 ·exact absurd g1 h1
 ·exact absurd g1 h1
 ·exact absurd h1 g1
 ·exact⟨h3.trans g3.symm,h4.trans g4.symm⟩
 ·rw[h2]at g2;cases g2
 ·exact absurd h1 g1
 ·rw[h2]at g2;cases g2
 exact⟨lh_ h4 g4 fun n=>(h5 n).trans (g5 n).symm,h3.trans g3.symm⟩
abbrev dI_ (l:List Str):List Str:=l.mergeSort fun x y=>decide (x≤y)
theorem pD_ {p:List Pc} {S:List Str} {K done:List Thg} {U:List Bool} (hR:ReachR p S K U) (hp:done.Perm K):SrS (dI_ (cZ_ done))∧∀ n,n∈dI_ (cZ_ done)↔Rch p S ⟨1,n⟩:=by
 constructor
 ·have h1:=jq_ (cZ_ done)
  have h2:(dI_ (cZ_ done)).Nodup:=(List.mergeSort_perm _ _).nodup_iff.2 (pF_ (hp.nodup_iff.2 hR.kn))
  unfold List.Nodup at h2
  refine List.Pairwise.imp (fun {a b} hab=>?_) (h1.and h2)
  by_cases h:a<b
  ·exact h
  exact absurd (List.le_antisymm hab.1 (List.not_lt.1 h)) hab.2
 intro n
 rw[List.mem_mergeSort,nN_,hp.mem_iff,hR.known]
end Go.Vs
namespace Go.Vs
open Go Go.Sx
inductive Tre where
  | mk (con:Con) (size:Int) (ad:Option Addr) (cap:Nat) (parts:List Tre)
namespace Tre
def con:Tre→Con|mk c _ _ _ _=>c
def size:Tre→Int|mk _ n _ _ _=>n
def ad:Tre→Option Addr|mk _ _ a _ _=>a
def cap:Tre→Nat|mk _ _ _ c _=>c
def parts:Tre→List Tre|mk _ _ _ _ p=>p
def cells (t:Tre):List Value:=t.con.cells++[.int .i64 t.size,.slice t.ad t.parts.length t.cap]
def val (t:Tre):Value:=.agg t.cells.toArray
theorem cells_len (t:Tre):t.cells.length=7:=rfl
theorem cells_one (t:Tre):t.cells.all Value.oneCell'=true:=by simp[cells,Con.cells,Value.oneCell',str]
def tz:Tre→Nat
  | mk _ _ _ _ ps=>1+tzs ps
where tzs:List Tre→Nat
  | []=>0
  | p::ps=>tz p+tzs ps
theorem tz_pos (t:Tre):0<t.tz:=by cases t;simp[tz];omega
theorem qj_ {p:Tre}:∀ {ps:List Tre},p∈ps→p.tz≤tz.tzs ps
 | q::ps,h=>by
   rcases List.mem_cons.1 h with rfl|h
   · simp[tz.tzs]
   · have:=qj_ h;simp[tz.tzs];omega
theorem rH_ {t p:Tre} (h:p∈t.parts):p.tz<t.tz:=by
  cases t with
  | mk c n a cp ps=>have:=qj_ (ps:=ps) h;simp only[tz];omega
def mem:Tre→Vw→Prop
  | mk c _ a _ ps,v=>c.mem v∧bN_ v a (ps.flatMap cells)∧mems ps v
where mems:List Tre→Vw→Prop
  | [],_=>True
  | p::ps,v=>mem p v∧mems ps v
theorem mems_iff {v:Vw}:∀ {ps:List Tre},mem.mems ps v↔∀ p∈ps,p.mem v
  | []=>by simp[mem.mems]
  | p::ps=>by simp[mem.mems,mems_iff (ps:=ps)]
theorem mem_iff (t:Tre) (v:Vw):t.mem v↔t.con.mem v∧bN_ v t.ad (t.parts.flatMap cells)∧∀ p∈t.parts,p.mem v:=by
  cases t with
  | mk c n a cp ps=>simp only[mem,mems_iff,con,ad,parts]
theorem mem_mono:∀ (n:Nat) (t:Tre),t.tz≤n→∀ v v',v.le v'→t.mem v→t.mem v'
  | 0,t,h=>by have:=t.tz_pos;omega
  | n+1,t,h=>fun v v' hl hm=>by
    rw[mem_iff]at hm ⊢
    exact⟨t.con.memF.mono v v' hl hm.1,(aw_ t.ad (t.parts.flatMap cells)).mono v v' hl hm.2.1,fun p hp=>mem_mono n p (by have:=rH_ hp;omega) v v' hl (hm.2.2 p hp)⟩
def memF (t:Tre):Fct:=⟨t.mem,mem_mono t.tz t (Nat.le_refl _)⟩
theorem mem_part {t p:Tre} {v:Vw} (h:t.memF.p v) (hp:p∈t.parts):p.memF.p v:=((mem_iff t v).1 h).2.2 p hp
def wf:Tre→Prop
  | mk c n _ _ ps=>n=(c.sz:Int)∧c.parts=cons ps∧wfs ps
where
  wfs:List Tre→Prop
  | []=>True
  | p::ps=>wf p∧wfs ps
  cons:List Tre→List Con
  | []=>[]
  | p::ps=>p.con::cons ps
theorem nd_:∀ ps:List Tre,wf.cons ps=ps.map con
  | []=>rfl
  | p::ps=>by rw[wf.cons,nd_ ps];rfl
theorem on_:∀ {ps:List Tre},wf.wfs ps↔∀ p∈ps,p.wf
  | []=>by simp[wf.wfs]
  | p::ps=>by simp[wf.wfs,on_ (ps:=ps)]
theorem wf_iff (t:Tre):t.wf↔t.size=(t.con.sz:Int)∧t.con.parts=t.parts.map con∧∀ p∈t.parts,p.wf:=by
  cases t with
  | mk c n a cp ps=>simp only[wf,on_,nd_,con,size,parts]
theorem wf_part {t p:Tre} (h:t.wf) (hp:p∈t.parts):p.wf∧p.con.sz<t.con.sz:=by
  obtain⟨_,h2,h3⟩:=(wf_iff t).1 h
  exact⟨h3 p hp,Con.sz_part (by rw[h2];exact List.mem_map_of_mem hp)⟩
end Tre
def iE_ (l:List Tre):Fct:=⟨fun v=>∀ t∈l,t.mem v,fun v v' hl h t ht=>t.memF.mono v v' hl (h t ht)⟩
theorem nr_ {l:List Tre} {t:Tre} {v:Vw} (h:(iE_ l).p v) (ht:t.memF.p v):(iE_ (l++[t])).p v:=fun x hx=>by
 rcases List.mem_append.1 hx with hx|hx
 ·exact h x hx
 rw[List.mem_singleton]at hx;subst hx;exact ht
theorem szs_step {l:List Con} {i:Nat} {x:Con} (h:l[i]? = some x):Con.sz.szs (l.take (i+1))=Con.sz.szs (l.take i)+x.sz:=by
  have key:∀ (a b:List Con),Con.sz.szs (a++b)=Con.sz.szs a+Con.sz.szs b:=fun a b=>by
    induction a with
    | nil=>simp[Con.sz.szs]
    | cons c a ih=>simp[Con.sz.szs,ih];omega
  rw[List.take_add_one,h,Option.toList_some,key]
  simp[Con.sz.szs]
theorem szs_take_le {l:List Con} (i:Nat):Con.sz.szs (l.take i)≤Con.sz.szs l:=by
  induction l generalizing i with
  | nil=>simp
  | cons c l ih =>
    cases i with
    | zero=>simp[Con.sz.szs]
    | succ i=>have:=ih i;simp[Con.sz.szs];omega
theorem szs_len:∀ l:List Con,l.length≤Con.sz.szs l
  | []=>Nat.le_refl _
  | c::l=>by have:=szs_len l;have:=c.sz_pos;simp only[List.length_cons,Con.sz.szs];omega
theorem Con.parts_lt (c:Con):c.parts.length<c.sz:=by have:=szs_len c.parts;rw[Con.sz_eq];omega
theorem lN_ {a b:List Con} {i:Nat} {x y:Con} (hx:a[i]? = some x) (hy:b[i]? = some y):Con.cmp.cmps (a.drop i) (b.drop i)=if Con.cmp x y=0 then Con.cmp.cmps (a.drop (i+1)) (b.drop (i+1)) else Con.cmp x y:=by
  obtain⟨h1,e1⟩:=List.getElem?_eq_some_iff.1 hx
  obtain⟨h2,e2⟩:=List.getElem?_eq_some_iff.1 hy
  rw[List.drop_eq_getElem_cons h1,List.drop_eq_getElem_cons h2,Con.cmp.cmps,e1,e2]
theorem kX_ {a b:List Con} {i:Nat} (h1:i<a.length) (h2:b.length≤i):Con.cmp.cmps (a.drop i) (b.drop i)=1:=by
  rw[List.drop_eq_getElem_cons h1,List.drop_of_length_le h2,Con.cmp.cmps]
theorem jR_ {a b:List Con} {i:Nat} (h1:a.length≤i) (h2:i<b.length):Con.cmp.cmps (a.drop i) (b.drop i)=-1:=by
  rw[List.drop_eq_getElem_cons h2,List.drop_of_length_le h1,Con.cmp.cmps]
theorem nf_ {a b:List Con} {i:Nat} (h1:a.length≤i) (h2:b.length≤i):Con.cmp.cmps (a.drop i) (b.drop i)=0:=by
  rw[List.drop_of_length_le h1,List.drop_of_length_le h2,Con.cmp.cmps]
theorem lO_ {a b:List Str} {i:Nat} {x y:Str} (hx:a[i]? = some x) (hy:b[i]? = some y):dA_ (a.drop i) (b.drop i)=if Lib.compareBytes x y=0 then dA_ (a.drop (i+1)) (b.drop (i+1)) else Lib.compareBytes x y:=by
  obtain⟨h1,e1⟩:=List.getElem?_eq_some_iff.1 hx
  obtain⟨h2,e2⟩:=List.getElem?_eq_some_iff.1 hy
  rw[List.drop_eq_getElem_cons h1,List.drop_eq_getElem_cons h2,dA_,e1,e2]
theorem la_ {a b:List Str} {i:Nat} (h1:i<a.length) (h2:b.length≤i):dA_ (a.drop i) (b.drop i)=1:=by
  rw[List.drop_eq_getElem_cons h1,List.drop_of_length_le h2,dA_]
theorem jT_ {a b:List Str} {i:Nat} (h1:a.length≤i) (h2:i<b.length):dA_ (a.drop i) (b.drop i)=-1:=by
  rw[List.drop_eq_getElem_cons h2,List.drop_of_length_le h1,dA_]
theorem ng_ {a b:List Str} {i:Nat} (h1:a.length≤i) (h2:b.length≤i):dA_ (a.drop i) (b.drop i)=0:=by
  rw[List.drop_of_length_le h1,List.drop_of_length_le h2,dA_]
theorem hW_ (x:Int):orF [x]=x:=by simp only[orF];split<;>simp_all
theorem hV_:∀ (l:List Int) (x:Int),orF (l++[x])=if orF l=0 then x else orF l
 | [],x=>by rw[List.nil_append,hW_];simp[orF]
 | y::l,x=>by
   rw[List.cons_append,orF,orF,hV_ l x]
   by_cases h:y=0
   · rw[if_pos h,if_pos h]
   · rw[if_neg h,if_neg h,if_neg h]
theorem dm_ {l:List Int} {v x:Int} (hv:v=orF l) (h:v=0):x=orF (l++[x]):=by rw[hV_,if_pos (hv▸h)]
theorem dV_ {l:List Int} {v x:Int} (hv:v=orF l) (h:v≠0):v=orF (l++[x]):=by rw[hV_,if_neg (hv▸h)];exact hv
def fE_ (v n all fin:Int) (at':Prop):Prop:=(v≠0→n=v)∧(v=0→(n=0→all=fin∧at')∧(n≠0→all=n))
theorem jS_ {a b:List Con} {i:Nat} (h1:i≤a.length) (h2:i≤b.length) (h:a.length≤i∨b.length≤i):Con.cmp.cmps (a.drop i) (b.drop i)=Lib.compareInt (a.length:Int) (b.length:Int):=by
 unfold Lib.compareInt
 by_cases ha:a.length≤i
 ·by_cases hb:b.length≤i
  ·rw[nf_ ha hb,if_neg (by omega),if_neg (by omega)]
  rw[jR_ ha (by omega),if_pos (by omega)]
 rw[kX_ (by omega) (h.resolve_left ha),if_neg (by omega),if_pos (by omega)]
theorem jU_ {a b:List Str} {i:Nat} (h1:i≤a.length) (h2:i≤b.length) (h:a.length≤i∨b.length≤i):dA_ (a.drop i) (b.drop i)=Lib.compareInt (a.length:Int) (b.length:Int):=by
 unfold Lib.compareInt
 by_cases ha:a.length≤i
 ·by_cases hb:b.length≤i
  ·rw[ng_ ha hb,if_neg (by omega),if_neg (by omega)]
  rw[jT_ ha (by omega),if_pos (by omega)]
 rw[la_ (by omega) (h.resolve_left ha),if_neg (by omega),if_pos (by omega)]
theorem fE_.fin {v n all fin o:Int} {at':Prop} {l:List Int} (h:fE_ v n all fin at') (hv:v=orF l) (hx:n=0→v=0→at'→fin=o):(if n=0 then o else n)=(if v=0 then (if n=0 then o else n) else v)∧(v=0→(if n=0 then o else n)=all):=by
 obtain⟨h1,h2⟩:=h
 constructor
 ·by_cases hv0:v=0
  ·rw[if_pos hv0]
  rw[if_neg hv0,h1 hv0,if_neg hv0]
 intro hv0
 obtain⟨h3,h4⟩:=h2 hv0
 by_cases hn:n=0
 ·rw[if_pos hn];obtain⟨e,ha⟩:=h3 hn;rw[e,hx hn hv0 ha]
 rw[if_neg hn,h4 hn]
theorem fE_.or {v n all fin o:Int} {at':Prop} {l:List Int} (h:fE_ v n all fin at') (hv:v=orF l) (hx:n=0→v=0→at'→fin=o):(if n=0 then o else n)=orF (l++[all]):=by
 obtain⟨g1,g2⟩:=h.fin hv hx
 rw[hV_,← hv]
 by_cases hv0:v=0
 ·rw[if_pos hv0,g2 hv0]
 rw[if_neg hv0,g1,if_neg hv0]
theorem fE_.init {v all:Int} {at':Prop} (h:at'):fE_ v v all all at':=⟨fun _=>rfl,fun h0=>⟨fun _=>⟨rfl,h⟩,fun q=>absurd h0 q⟩⟩
theorem fE_.step {v all fin fin' m:Int} {at' at2:Prop} (h:fE_ v 0 all fin at') (e:fin=if m=0 then fin' else m) (h2:at'→at2):fE_ v m all fin' at2:=by
 obtain⟨h1,h3⟩:=h
 refine⟨fun hv=>absurd (h1 hv).symm hv,fun hv=>?_⟩
 obtain⟨g,_⟩:=h3 hv
 obtain⟨g1,g2⟩:=g rfl
 refine⟨fun hm=>?_,fun hm=>?_⟩
 ·rw[if_pos hm]at e;exact⟨g1.trans e,h2 g2⟩
 rw[if_neg hm]at e;exact g1.trans e
def wgL:List Con→Int
  | []=>0
  | c::l=>(if c.kind=0 then 0 else (c.sz:Int))+wgL l
def wgS:List Str→Int
  | []=>0
  | s::l=>(if s=[] then 0 else 1)+wgS l
theorem rE_ (a b:List Con):wgL (a++b)=wgL a+wgL b:=by
  induction a with
  | nil=>simp[wgL]
  | cons c a ih=>simp only[List.cons_append,wgL,ih];omega
theorem rD_ (a b:List Str):wgS (a++b)=wgS a+wgS b:=by
  induction a with
  | nil=>simp[wgS]
  | cons c a ih=>simp only[List.cons_append,wgS,ih];omega
theorem mc_ {l:List Con} {i:Nat} {x:Con} (h:l[i]? = some x):wgL (l.take (i+1))=wgL (l.take i)+(if x.kind=0 then 0 else (x.sz:Int)):=by
  rw[List.take_add_one,h,rE_];simp[wgL]
theorem mb_ {l:List Str} {i:Nat} {x:Str} (h:l[i]? = some x):wgS (l.take (i+1))=wgS (l.take i)+(if x=[] then 0 else 1):=by
  rw[List.take_add_one,h,rD_];simp[wgS]
theorem qf_ {l:List Con} (h:∀ c∈l,c.sz≤1000000):0≤wgL l∧wgL l≤1000000*l.length:=by
  induction l with
  | nil=>simp[wgL]
  | cons c l ih =>
    have h1:=h c (by simp)
    have h2:=ih fun d hd=>h d (by simp[hd])
    simp only[wgL,List.length_cons]
    split<;>omega
theorem wgS_bd (l:List Str):0≤wgS l∧wgS l≤l.length:=by
  induction l with
  | nil=>simp[wgS]
  | cons c l ih=>simp only[wgS,List.length_cons];split<;>omega
theorem Ax.wgt_eq (x:Ax):x.wgt=wgL [x.left,x.right]+(x.roles.length:Int)+wgS [x.role,x.a,x.b]:=by
  unfold Ax.wgt;simp only[wgL,wgS];omega
theorem rs_ {x:Ax} {v:Vw} (h:x.memF.p v) {c:Con} (hc:c∈[x.left,x.right]):c.memF.p v:=by
 simp only[List.mem_cons,List.not_mem_nil,or_false]at hc
 rcases hc with rfl|rfl
 ·exact h.1
 exact h.2.1
theorem gX_ {x:Ax} (hok:x.ok) (h1:x.left.sz≤1000000) (h2:x.right.sz≤1000000) {c:Con} (hc:c∈[x.left,x.right]):c.ok∧c.sz≤1000000:=by
 simp only[List.mem_cons,List.not_mem_nil,or_false]at hc
 rcases hc with rfl|rfl
 ·exact⟨hok.left,h1⟩
 exact⟨hok.right,h2⟩
theorem kY_ (c d:Con):Con.cmp c d=if orF [Lib.compareInt (c.sz:Int) (d.sz:Int),Lib.compareInt c.kind d.kind,Lib.compareBytes c.name d.name,Lib.compareInt c.lo d.lo,Lib.compareInt c.hi d.hi]=0 then Con.cmp.cmps c.parts d.parts else orF [Lib.compareInt (c.sz:Int) (d.sz:Int),Lib.compareInt c.kind d.kind,Lib.compareBytes c.name d.name,Lib.compareInt c.lo d.lo,Lib.compareInt c.hi d.hi]:=by
  rw[Con.cmp_eq]
  simp only[orF]
  (repeat' split)<;>first|rfl|omega|(simp_all;done)
end Go.Vs
namespace Go.Proofs.YtamklbgaipakfaaGreatDoor
open Go Go.Sx Go.Proofs
attribute [local irreducible] Code.wp wpList wpAnyH
open Go.Vs
theorem jB_ (l:List Ax) (ad:Option Addr) (cap:Nat) (hcap:l.length≤cap∧cap≤2199023255488) (hok:∀ x∈l,x.ok) {p:List Pc} {er:Int} (e:aD_ l=(p,er)) :
    Tri Tryz.prog 27 #[.slice ad l.length cap] [] [cH_ ad l,ck_] (fun y:{y:Option Addr×Nat // p.length≤y.2∧y.2≤maxLen∧(y.1=none→y.2=0)}=>.tuple #[.slice y.1.1 p.length y.1.2,.int .i64 er]) (fun _=>[]) (fun y=>[aw_ y.1.1 (p.flatMap Pc.cells)]):=by
  have h:=qD_ l ad cap hcap hok
  generalize aD_ l=g at h e
  subst e
  exact h
theorem kA_ {l:List Ax} {p:List Pc} {er:Int} {S:List Str} (h:er≠0):fp_ l p er S=([],er):=if_pos h
theorem jv_ {l:List Ax} {p:List Pc} {er:Int} {S:List Str} (h:¬ er≠0) (h2:ep_ S=false):fp_ l p er S=([],1):=by unfold fp_;rw[if_neg h,if_pos h2]
theorem kz_ {l:List Ax} {p:List Pc} {er:Int} {S:List Str} (h:¬ er≠0) (h2:ep_ S=true):fp_ l p er S=(ee_ l p S l.length,0):=by unfold fp_;rw[if_neg h,if_neg (by rw[h2];simp)]
theorem iZ_ {er:Int} (h:er=0):¬ er≠0:=fun q=>q h
theorem lU_ (ls:List Ax) (lad:Option Addr) (lcap:Nat) (hcap:ls.length≤lcap∧lcap≤2199023255488) (hok:∀ x∈ls,x.ok) (hll:ls.length≤100000000) (S:List Str) (sad:Option Addr) (scap:Nat) (hS:S.length≤100000000) (hSl:∀ s∈S,s.length≤100000) (p:List Pc) (er:Int) (hPL:aD_ ls=(p,er)) (hp:p.length≤100000000) (R:List Int) (e:Int) (hR:fp_ ls p er S=(R,e)):Tri Tryz.prog 11 #[.slice lad (List.length ls) lcap,.slice sad (List.length S) scap] [] [cH_ lad ls,ck_,aw_ sad (List.flatMap aH_ S)] (fun y:{y:Option Addr×Nat // R.length≤y.2∧y.2≤maxLen∧(y.1=none→y.2=0)}=>.tuple #[.slice y.1.1 R.length y.1.2,.int .i64 e]) (fun _=>[]) (fun y=>[aw_ y.1.1 (R.flatMap da_)]):=by
 refine o_ Tryz.func11 rfl rfl Tryz.ntmps11 rfl fun v0=>?_
 refine Zz 9 ?_
 refine i_ (jB_ ls lad lcap hcap hok hPL) rfl f_ zf rfl fun⟨⟨ad,cap⟩,hpc1,hpc2,hpc3⟩=>?_
 dsimp only
 refine Zi 11 (fun hr1=>?_) fun hr1=>?_
 ·refine Zz 9 ?_
  refine N_ (op_ S sad scap hSl) rfl f_ zf rfl fun r2 hr2=>c_ (aE_ rfl) rfl (Zz 2 ?_)
  cases r2
  ·refine Zz 8 ?_
   have e0:=hR.symm.trans (jv_ (iZ_ hr1) hr2)
   obtain⟨rfl,rfl⟩:=Prod.mk.inj e0
   exact fv_ Tryz.results11 ⟨(none,0),by simp[maxLen]⟩ rfl rfl rfl f_ (fun v _ h=>by exact⟨.inl rfl,trivial⟩)
  refine Zz 8 ?_
  refine i_ (kM_ ls lad lcap p ad cap S sad scap) rfl f_ zt rfl fun⟨bp,bs,bl⟩=>?_
  dsimp only
  refine i_ (oc_ ls lad lcap p ad cap S sad scap bp bs bl hp hS hll) rfl f_ zf rfl fun⟨⟨qad,qcap⟩,hq1,hq2,hq3⟩=>?_
  dsimp only
  refine Zz 5 ?_
  have e0:=hR.symm.trans (kz_ (iZ_ hr1) hr2)
  obtain⟨rfl,rfl⟩:=Prod.mk.inj e0
  exact fv_ Tryz.results11 ⟨(qad,qcap),⟨hq1,hq2,hq3⟩⟩ rfl rfl rfl f_ zf
 refine Zz 11 ?_
 have e0:=hR.symm.trans (kA_ hr1)
 obtain⟨rfl,rfl⟩:=Prod.mk.inj e0
 exact fv_ Tryz.results11 ⟨(none,0),by simp[maxLen]⟩ rfl rfl rfl f_ (fun v _ h=>by exact⟨.inl rfl,trivial⟩)
theorem sF_ (ls:List Ax) (lad:Option Addr) (lcap:Nat) (hcap:ls.length≤lcap∧lcap≤2199023255488) (hok:∀ x∈ls,x.ok) (hll:ls.length≤100000000) (S:List Str) (sad:Option Addr) (scap:Nat) (hS:S.length≤100000000) (hSl:∀ s∈S,s.length≤100000) (p:List Pc) (er:Int) (hPL:aD_ ls=(p,er)) (hp:p.length≤100000000):Tri Tryz.prog 13 #[.slice lad (List.length ls) lcap,.slice sad (List.length S) scap] [] [cH_ lad ls,ck_,aw_ sad (List.flatMap aH_ S)] (fun y:{y:List Str×Option Addr×Nat×Int // gu_ p er (ep_ S) S y.1 y.2.2.2∧y.1.length≤y.2.2.1∧y.2.2.1≤maxLen∧(y.2.1=none→y.2.2.1=0)}=>.tuple #[.slice y.1.2.1 y.1.1.length y.1.2.2.1,.int .i64 y.1.2.2.2]) (fun _=>[]) (fun y=>[aw_ y.1.2.1 (y.1.1.flatMap aH_)]):=by
 refine o_ Tryz.func13 rfl rfl Tryz.ntmps13 rfl fun v0=>?_
 refine Zz 9 ?_
 refine i_ (jB_ ls lad lcap hcap hok hPL) rfl f_ zf rfl fun⟨⟨ad,cap⟩,hpc1,hpc2,hpc3⟩=>?_
 dsimp only
 refine Zi 11 (fun hr1=>?_) fun hr1=>?_
 ·refine Zz 9 ?_
  refine N_ (op_ S sad scap hSl) rfl f_ zf rfl fun r2 hr2=>c_ (aE_ rfl) rfl (Zz 2 ?_)
  cases r2
  ·refine Zz 8 ?_
   exact fv_ Tryz.results13 ⟨([],none,0,1),.inr (.inl ⟨hr1,hr2,rfl,rfl⟩),by simp[maxLen]⟩ rfl rfl rfl f_ (fun v _ h=>by exact⟨.inl rfl,trivial⟩)
  refine Zz 7 ?_
  refine i_ (oE_ p ad cap S sad scap hp hS) rfl f_ zf rfl fun⟨⟨kb,esK,cK,Kq,svU,Uq,HUq⟩,hEK,hBK,hrU,hRR⟩=>?_
  dsimp only
  dsimp only at hEK hBK hrU hRR
  simp only[List.cons_append,List.append_assoc]
  refine Zz 11 ?_
  refine kI_ 0 Tryz.underlying78 rfl rfl rfl fun rr=>Zz 3 ?_
  refine aO_ (ι:={y:List Thg×Array Nat×Nat×Value×Hp // ItS Thg.val esK y.2.1 y.1∧cK≤y.2.2.1∧(∀ z∈y.1,z∈Kq)∧zR 9 1 aH_ y.2.2.2.1 (cZ_ y.1) y.2.2.2.2}) (fun y=>[(4,y.1.2.2.2.1),(5,.int .i64 er),(28,zp_ rr 0)]) (fun y=>((rr,.mapIter (some kb) cK y.1.2.1 y.1.2.2.1)::((kb,.map esK cK)::y.1.2.2.2.2))) (fun y=>[aw_ ad (List.flatMap Pc.cells p),cH_ lad ls,ck_,aw_ sad (List.flatMap aH_ S)]) (fun y=>List.length Kq - List.length y.1.1) ⟨(([]:List Thg),#[],cK,(.slice none 0 0),[]),ItS.nil,Nat.le_refl _,by simp,(aG_.nil _ _)⟩ zl zp zh ?_
  rintro ⟨⟨done,seen,c0,sv_X,H_X⟩,hI,hsc,hsub,hr_X⟩
  dsimp only at hI hsc hsub hr_X ⊢
  have hnl:=nO_ done
  have hdl:=eU_ hI.nd (m:=Kq) hsub
  have hkl:=eE_ p S
  have hkq2:=dE_ Kq _ hRR.kn fun t ht=>((hRR.known t).1 ht).univ
  refine Zz 2 ?_
  refine mH_ 0 1 rfl rfl rfl hBK.lt hsc rfl (fun h0=>?_) (fun e he=>?_)
  ·refine Zz 10 ?_
   refine i_ (li_ hr_X (by omega)) rfl zp zt rfl fun⟨Hq9,hq9⟩=>?_
   dsimp only
   have hs9:aG_ 9 1 sv_X (List.length (dI_ (cZ_ done))) (List.flatMap aH_ (dI_ (cZ_ done))) Hq9:=by rw[show List.length (dI_ (cZ_ done))=List.length (cZ_ done) from List.length_mergeSort _];exact hq9
   refine Zz 2 ?_
   refine W_ (cT_ (bs_ t_) (ds_ dx_)) (Zz 8 ?_)
   obtain⟨hs1,hs2⟩:=pD_ hRR (hI.end Thg.val_inj hEK h0)
   refine aQ_ hs9 (C_ bo_) fun xad xcap hxad hcxad hmxad hzxad=>?_
   subst hxad
   exact fv_ Tryz.results13 ⟨((dI_ (cZ_ done)),xad,xcap,0),.inr (.inr ⟨hr1,hr2,rfl,hs1,hs2⟩),hcxad,hmxad,hzxad⟩ rfl rfl rfl f_ zf
  obtain⟨k,hkq,hkd,hkv,hem,hI2⟩:=hI.step Thg.val_inj hEK hBK he
  refine Zz 10 ?_
  refine c_ (br_ (kk_ 0 1 rfl rfl rfl hem hBK) (show _=Value.tuple #[Thg.val k,e.val] by rw[hkv])) rfl (Zz 1 ?_)
  refine au_ aP_ rfl fun b1=>aa_ 0 aL_ rfl rfl rfl rfl rfl rfl (Zi 6 (fun hr3=>?_) fun hr3=>?_)
  ·refine Zz 5 ?_
   exact R_ ⟨((done++[k]),seen.push e.born,cK,sv_X,H_X),hI2,Nat.le_refl _,fun z hz=>by rcases List.mem_append.1 hz with hz|hz;exact hsub z hz;rw[List.mem_singleton]at hz;exact hz▸hkq,(by rw[pE_ hr3];exact hr_X)⟩ (by have:=eU_ hI2.nd (m:=Kq) (fun z hz=>by rcases List.mem_append.1 hz with hz|hz;exact hsub z hz;rw[List.mem_singleton]at hz;exact hz▸hkq);rw[List.length_append,List.length_singleton]at this;dsimp only;rw[List.length_append,List.length_singleton];omega) zl (aF_ (C_ t_) (aF_ (C_ t_) bo_)) zh
  refine Zz 7 ?_
  refine I_ D_ O_ aR_ rfl rfl rfl rfl rfl rfl fun b2=>?_
  refine aW_ (news:=List.flatMap aH_ [(Thg.name k)]) oS_ hr_X rfl rfl (C_ (C_ (C_ bo_))) rfl (bv_ 0 rfl) (fun u hu=>cU_ mi_ hu) (by simp only[maxLen];omega) (by omega) rfl fun sv1 Hr1 hr1=>?_
  refine W_ List.perm_append_comm ?_
  have hq1:=zsa hr1
  refine Zz 3 ?_
  exact R_ ⟨((done++[k]),seen.push e.born,cK,sv1,Hr1),hI2,Nat.le_refl _,fun z hz=>by rcases List.mem_append.1 hz with hz|hz;exact hsub z hz;rw[List.mem_singleton]at hz;exact hz▸hkq,(by rw[nM_ hr3];exact hq1)⟩ (by have:=eU_ hI2.nd (m:=Kq) (fun z hz=>by rcases List.mem_append.1 hz with hz|hz;exact hsub z hz;rw[List.mem_singleton]at hz;exact hz▸hkq);rw[List.length_append,List.length_singleton]at this;dsimp only;rw[List.length_append,List.length_singleton];omega) zl (aF_ (C_ (C_ t_)) (aF_ (C_ (C_ t_)) (C_ bo_))) zh
 refine Zz 11 ?_
 exact fv_ Tryz.results13 ⟨([],none,0,er),.inl ⟨hr1,rfl,rfl⟩,by simp[maxLen]⟩ rfl rfl rfl f_ (fun v _ h=>by exact⟨.inl rfl,trivial⟩)
end Go.Proofs.YtamklbgaipakfaaGreatDoor
namespace Go.Proofs.YtamklbgaipakfaaGreatDoor
open Go Go.Sx Go.Proofs
attribute [local irreducible] Code.wp wpList wpAnyH
open Go.Vs
theorem strt37:iU_ Tryz.prog 37 [(0,1)] [.slice none 0 0]:=⟨_,Tryz.zeroValue37,bD_,fun w=>by simp[fL_]⟩
theorem rj_:Elt Tryz.prog 22 48 16 216:=gU_ Tryz.underlying22 (z:=.agg #[.int .i64 0,.bool false,.int .i64 0,str [],.int .i64 0,.int .i64 0,.slice none 0 0,.int .i64 0,str [],.int .i64 0,.int .i64 0,.slice none 0 0,.slice none 0 0,str [],str [],str []]) (by kernel_rfl) rfl (by decide)
theorem Ax.cells_one (x:Ax):x.cells.all Value.oneCell'=true:=by simp[Ax.cells,Con.cells,Value.oneCell',str]
theorem part_c (ls:List Ax) (lad:Option Addr) (lcap:Nat) (p:List Pc) (ad:Option Addr) (cap:Nat) (S:List Str) (sad:Option Addr) (scap:Nat) (hp:p.length≤100000000) (hS:S.length≤100000000) (hll:ls.length≤100000000):Tri Tryz.prog 46 #[.slice lad (List.length ls) lcap,.slice ad (List.length p) cap,.slice sad (List.length S) scap] [] [aw_ ad (List.flatMap Pc.cells p),aw_ sad (List.flatMap aH_ S),cH_ lad ls] (fun y:{y:Value×Hp×List Int // aG_ 48 16 y.1 (fP_ ls y.2.2).length ((fP_ ls y.2.2).flatMap Ax.cells) y.2.1∧y.2.2=(ee_ ls p S (List.length ls))}=>.agg #[y.1.1]) (fun y=>y.1.2.1) (fun _=>[]):=by
 refine eq_ Tryz.func46 rfl rfl Tryz.ntmps46 rfl fun v0=>?_
 refine m_ ?_
 refine d_ ?_
 refine ah_ rfl rfl fun b1=>?_
 refine au_ Tryz.zeroValue37 rfl fun b2=>?_
 refine j_ ?_
 refine e_ rfl ?_
 refine m_ ?_
 refine m_ ?_
 refine d_ ?_
 refine c_ (M_ 1 iS_ rfl rfl rfl) rfl ?_
 refine c_ (q_ rfl) rfl ?_
 refine c_ (q_ rfl) rfl ?_
 refine i_ (kM_ ls lad lcap p ad cap S sad scap) rfl f_ zt rfl fun⟨bp,bs,bl⟩=>?_
 dsimp only
 refine j_ ?_
 refine e_ rfl ?_
 refine aB_ ?_
 refine eL_ (bJ_ b1 (.cells #[.slice lad (List.length ls) lcap] 22 (0,0))) (ds_ (C_ t_)) (fun _ h1 h2 _=>⟨h1,h2⟩) ?_
 refine aN_ [(3,zp_ b1 0),(6,zp_ b2 0),(11,.func (.func 80) #[] #[zp_ bp 0,zp_ bs 0,zp_ bl 0])] zl ?_
 refine gI_ [bJ_ b1 (.cells #[.slice lad (List.length ls) lcap] 22 (0,0)),cH_ lad ls] (σ:={y:Value×Hp×List Int // aG_ 48 16 y.1 (fP_ ls y.2.2).length ((fP_ ls y.2.2).flatMap Ax.cells) y.2.1∧(fP_ ls y.2.2).length=y.2.2.length}) (α:=Int) (xv:=fun x=>.int .i64 x) (good:=fun s x=>s.1.2.2.length<100000000∧0≤x∧x<(List.length ls:Int)) (nx:=fun x s s'=>s'.1.2.2=s.1.2.2++[x]) (Rc:=fun s=>s.1.2.2=(ee_ ls p S (List.length ls))) (Γi:=[bJ_ bp (.cells #[.slice ad (List.length p) cap] 54 (0,0)),bJ_ bs (.cells #[.slice sad (List.length S) scap] 23 (0,0)),bJ_ bl (.cells #[.slice lad (List.length ls) lcap] 22 (0,0)),aw_ ad (List.flatMap Pc.cells p),aw_ sad (List.flatMap aH_ S),cH_ lad ls,bJ_ b1 (.cells #[.slice lad (List.length ls) lcap] 22 (0,0)),cH_ lad ls]) (Hj:=fun y=>(b2,.cells #[y.1.1] 37 (0,0))::y.1.2.1) (Hc:=[]) (caps:=[zp_ bp 0,zp_ bs 0,zp_ bl 0]) ⟨(.slice none 0 0,[],[]),aG_.nil _ _,rfl⟩ rfl (.refl _) zf ?_ ?_ ?_
 ·rintro l D rec hpa hst hpe ht hasg hbody ⟨⟨sv,Hq,L⟩,hr,hrl⟩ x ⟨hx1,hx2,hx3⟩
  dsimp only at hr hrl hx1 ⊢
  obtain⟨a1,ha1⟩:∃ a1,ls[x.toNat]? = some a1:=⟨_,List.getElem?_eq_getElem (by omega)⟩
  refine gE_ (ι:=Unit) (Hj:=fun y:{y:Value×Hp×List Int // aG_ 48 16 y.1 (fP_ ls y.2.2).length ((fP_ ls y.2.2).flatMap Ax.cells) y.2.1∧(fP_ ls y.2.2).length=y.2.2.length}=>(b2,.cells #[y.1.1] 37 (0,0))::y.1.2.1) (s:=⟨(sv,Hq,L),hr,hrl⟩) (ok:=fun s'=>s'.1.2.2=L++[x]) (Γ:=[bJ_ b1 (.cells #[.slice lad (List.length ls) lcap] 22 (0,0)),cH_ lad ls]) (fun _=>[(3,zp_ b1 0),(6,zp_ b2 0),(7,.int .i64 x)]) (fun _=>(b2,.cells #[sv] 37 (0,0))::Hq) hpa hst hpe ht rfl ?_ ?_
  ·intro n v0 H0 HL
   rw[hasg]
   dsimp only
   refine dk_.2 (W_ (H':=(b2,.cells #[sv] 37 (0,0))::(Hq++HL)) (by simp) (dk_.1 ?_))
   refine bj_ ?_
   refine ax_ (bC_ _) (n_ rfl) rfl rfl ?_
   refine bX_ ?_
   refine cE_ rfl ?_
   exact dd_ () zl (F:=[]) (by rw[List.append_nil];exact .refl _) zh
  intro n v0 H0 HL _
  rw[hbody]
  refine dk_.2 (W_ (H':=(b2,.cells #[sv] 37 (0,0))::(Hq++HL)) (by simp) (dk_.1 ?_))
  refine fn_ ?_
  refine nu_ (HL) zk rfl rfl kb_ ?_
  refine U_ 5 [0,2,3,4,5] zk zs ?_
  refine y_ rfl (A_ bD_ rfl rfl rfl fL_) rfl ?_
  refine y_ rfl (ch_ iS_ rfl zf rfl) rfl ?_
  refine y_ rfl (q_ rfl) rfl ?_
  refine y_ rfl (T_ ae_ ad_ rfl rfl (fun v _ h=>J_ (n:=16) Ax.cells_len (by decide) (by exact h.2.1.1) ha1) (by omega) (by first|omega|(simp;done))) rfl ?_
  refine y_ rfl (al_ (ad:=lad) (us:=Ax.cells a1) bB_ ad_ rfl (fun v _ h=>by exact h.2.1.1) (Ax.cells_len _) (H_ Ax.cells_len ha1)) rfl ?_
  refine aJ_ ?_
  refine il_ 1 6 rfl rfl zk ?_ ?_
  ·refine c_ (M_ 0 iS_ rfl rfl rfl) rfl ?_
   refine j_ ?_
   refine L_ rfl ?_
   refine X_ zs ?_
   refine u_ 6 rfl zk ?_
   refine I_ ae_ ad_ bm_ rfl rfl rfl rfl rfl rfl fun b3=>?_
   refine j_ ?_
   refine L_ rfl ?_
   refine X_ (fun _ a b=>⟨Vw.sat.sub (a.perm (C_ (C_ dx_))),b⟩) ?_
   refine u_ 7 rfl zk ?_
   refine aW_ (news:=List.flatMap Ax.cells [a1]) rj_ hr rfl rfl zp rfl (bv_ 0 rfl) (fun u hu=>cU_ Ax.cells_one hu) (by simp only[maxLen];((try simp only[List.length_append,List.length_cons,List.length_nil]);omega)) (by ((try simp only[List.length_append,List.length_cons,List.length_nil]);omega)) rfl fun sv1 Hr1 hr1=>?_
   have hq1:=zsa hr1
   refine j_ ?_
   refine L_ rfl ?_
   refine X_ zs ?_
   refine U_ 1 [8] zk zs ?_
   refine y_ rfl (A_ bD_ rfl rfl rfl fL_) rfl ?_
   refine aJ_ ?_
   refine u_ 9 rfl zk ?_
   refine W_ (cT_ (bs_ t_) (ds_ (bs_ t_))) ?_
   refine dy_ 1 hq1 fL_ rfl rfl rfl rfl ?_
   refine j_ ?_
   refine L_ rfl ?_
   refine X_ (fun _ a b=>⟨Vw.sat.sub (a.perm (C_ (C_ dx_))),b⟩) ?_
   refine bp_ zk ?_
   refine co_ rfl ?_
   exact dk_.1 (gh_ ⟨(sv1,Hr1,L++[x]),by rw[gk_ ha1];exact hq1,by rw[gk_ ha1,List.length_append,List.length_append,hrl];rfl⟩ rfl (lo_ (aF_ (C_ t_) (cq_ (C_ aY_) (cq_ bo_ t_)))))
  refine I_ ae_ ad_ bm_ rfl rfl rfl rfl rfl rfl fun b4=>?_
  refine j_ ?_
  refine L_ rfl ?_
  refine X_ (fun _ a b=>⟨Vw.sat.sub (a.perm (C_ (C_ dx_))),b⟩) ?_
  refine u_ 1 rfl zk ?_
  refine c_ (M_ 1 iS_ rfl rfl rfl) rfl ?_
  refine j_ ?_
  refine L_ rfl ?_
  refine X_ (fun _ a b=>⟨Vw.sat.sub (a.perm (C_ (C_ dx_))),b⟩) ?_
  refine u_ 7 rfl zk ?_
  refine aW_ (news:=List.flatMap Ax.cells [a1]) rj_ hr rfl rfl zp rfl (bv_ 0 rfl) (fun u hu=>cU_ Ax.cells_one hu) (by simp only[maxLen];((try simp only[List.length_append,List.length_cons,List.length_nil]);omega)) (by ((try simp only[List.length_append,List.length_cons,List.length_nil]);omega)) rfl fun sv2 Hr2 hr2=>?_
  have hq2:=zsa hr2
  refine j_ ?_
  refine L_ rfl ?_
  refine X_ zs ?_
  refine U_ 1 [8] zk zs ?_
  refine y_ rfl (A_ bD_ rfl rfl rfl fL_) rfl ?_
  refine aJ_ ?_
  refine u_ 9 rfl zk ?_
  refine W_ (cT_ (bs_ t_) (ds_ (bs_ t_))) ?_
  refine dy_ 1 hq2 fL_ rfl rfl rfl rfl ?_
  refine j_ ?_
  refine L_ rfl ?_
  refine X_ (fun _ a b=>⟨Vw.sat.sub (a.perm (C_ (C_ dx_))),b⟩) ?_
  refine bp_ zk ?_
  refine co_ rfl ?_
  exact dk_.1 (gh_ ⟨(sv2,Hr2,L++[x]),by rw[gk_ ha1];exact hq2,by rw[gk_ ha1,List.length_append,List.length_append,hrl];rfl⟩ rfl (lo_ (aF_ (C_ t_) (cq_ (C_ aY_) (cq_ bo_ t_)))))
 ·intro l Gj hY
  exact qM_ (lst:=fun y=>y.1.2.2) ls lad lcap p ad cap S sad scap bp bs bl (bJ_ b1 (.cells #[.slice lad (List.length ls) lcap] 22 (0,0))) (cH_ lad ls) (fun s x h=>hY s x h) ⟨(.slice none 0 0,[],[]),aG_.nil _ _,rfl⟩ rfl hp hS hll
 rintro ⟨⟨sv,Hq,L⟩,hr,hrl⟩ hL D l r
 dsimp only at hL hr hrl ⊢
 refine cL_ rfl ?_
 refine eQ_ ?_
 refine bj_ ?_
 refine ax_ aj_ (P_ 0 Tryz.isAgg37 fK_ rfl rfl rfl) rfl rfl ?_
 refine ei_ aj_ 0 fK_ rfl rfl rfl rfl rfl (by have q:=(dL_ hr).2;simp only[Value.cells,List.all_cons,List.all_nil,q,Bool.and_true]) ?_
 refine bX_ ?_
 refine cL_ rfl ?_
 refine fM_ ?_
 exact ky_ (G:=(b2,.cells #[sv] 37 (0,0))::(Hq++[(l,.loop r)])) ⟨(sv,Hq,L),hr,hL⟩ (fun a v h1 h2=>bZ_ (us:=[sv]) 0 Tryz.results46 Tryz.isAgg37 fK_ rfl rfl rfl a v h1 h2) (by unfold HLp;simp only[List.cons_append,List.append_assoc,List.nil_append];exact oH_) ⟨_,sK_⟩ rfl
end Go.Proofs.YtamklbgaipakfaaGreatDoor
namespace Go.Proofs.YtamklbgaipakfaaGreatDoor
open Go Go.Sx Go.Proofs
attribute [local irreducible] Code.wp wpList wpAnyH
open Go.Vs
theorem rL_:iU_ Tryz.prog 223 [(0,5),(5,1),(6,1)] [.int .i64 0,str [],.int .i64 0,.int .i64 0,.slice none 0 0,.int .i64 0,.slice none 0 0]:=⟨_,gD_,cu_,fun w=>by simp[ab_,g_,Tryz.sizeOf221]⟩
theorem sv_:Elt Tryz.prog 221 223 7 96:=gU_ Tryz.underlying221 (z:=.agg #[.int .i64 0,str [],.int .i64 0,.int .i64 0,.slice none 0 0,.int .i64 0,.slice none 0 0]) (by kernel_rfl) rfl (by decide)
theorem Tre.cells_one (t:Tre):t.cells.all Value.oneCell'=true:=Go.Vs.Tre.cells_one t
theorem rf_:∀ (m:Nat) (c:Con),c.sz≤m→c.sz≤1000000→Tri Tryz.prog 179 #[Con.val c] [] [Con.memF c] (fun y:{t:Tre // t.con=c∧t.wf}=>y.1.val) (fun _=>[]) (fun y=>[y.1.memF]):=by
 intro m
 induction m with
 | zero=>intro c h;have:=Con.sz_pos c;omega
 | succ m ih =>
   intro c h hz
   refine o_ Tryz.func179 rfl rfl Tryz.ntmps179 rfl fun v0=>?_
   refine Zz 2 ?_
   refine ah_ rfl rfl fun b1=>au_ gD_ rfl fun b2=>Zz 5 ?_
   refine c_ (S_ rL_ rfl rfl) rfl (aa_ 0 cN_ rfl rfl rfl rfl rfl rfl (Zz 12 ?_))
   have hG0:True:=trivial
   refine aO_ (ι:={y:Nat×List Tre×Int×Value×Hp // y.1≤List.length (Con.parts c)∧List.map Tre.con y.2.1=List.take y.1 (Con.parts c)∧y.2.2.1=((1+Con.sz.szs (List.take y.1 (Con.parts c)):Nat):Int)∧(∀ t∈y.2.1,t.wf)∧zR 223 7 Tre.cells y.2.2.2.1 y.2.1 y.2.2.2.2}) (fun y=>[(2,zp_ b2 0),(9,.slice (Con.ad c) (List.length (Con.parts c)) (Con.cap c)),(10,.int .i64 (List.length (Con.parts c):Int)),(11,.int .i64 (y.1.1:Int))]) (fun y=>((b2,.cells #[.int .i64 (Con.kind c),str (Con.name c),.int .i64 (Con.lo c),.int .i64 (Con.hi c),.slice (Con.ad c) (List.length (Con.parts c)) (Con.cap c),.int .i64 y.1.2.2.1,y.1.2.2.2.1] 223 (0,0))::y.1.2.2.2.2)) (fun y=>[iE_ y.1.2.1,Con.memF c]) (fun y=>List.length (Con.parts c) - y.1.1) ⟨((0:Nat),([]:List Tre),1,(.slice none 0 0),[]),by simp,by simp,(by simp[Con.sz.szs]),by simp,(aG_.nil _ _)⟩ zl t_ (fun v _ h=>by exact⟨(show (iE_ ([]:List Tre)).p v from fun t ht=>by simp at ht),h.1,trivial⟩) ?_
   rintro ⟨⟨i,ts,zz,sv_T,H_T⟩,hi_i,hts,hzz,hwf,hr_T⟩
   dsimp only at hi_i hts hzz hwf hr_T ⊢
   have hzb:=szs_take_le (l:=Con.parts c) i
   have hzc:=Con.sz_eq c
   have hpl:=Con.parts_lt c
   refine Zi 2 (fun hr1=>?_) fun hr1=>?_
   · skip
     refine Zz 9 ?_
     refine aa_ 0 cN_ rfl rfl rfl rfl rfl (by have q:=(dL_ hr_T).2;simp only[Value.cells,List.all_cons,List.all_nil,q,Bool.and_true];rfl) ?_
     refine Zz 3 ?_
     refine aQ_ hr_T bo_ fun tad tcap htad hctad hmtad hztad=>?_
     subst htad
     have hti:List.take i (Con.parts c)=Con.parts c:=List.take_of_length_le (by omega)
     rw[hti]at hts hzz
     exact fB_ ⟨Tre.mk c zz tad tcap ts,rfl,(Tre.wf_iff _).2 ⟨by dsimp only[Tre.size,Tre.con];rw[hzz,Con.sz_eq],hts.symm,hwf⟩⟩ (fun aa v h1 h2=>bZ_ (us:=Tre.cells (Tre.mk c zz tad tcap ts)) 0 Tryz.results179 Tryz.isAgg223 cN_ rfl rfl rfl aa v h1 h2) f_ (fun v _ h=>by exact⟨(Tre.mem_iff _ v).2 ⟨h.2.2.1,h.1,h.2.1⟩,trivial⟩)
   · skip
     obtain⟨hlx1,x1,hx1,hmx1⟩:=zge (show i<List.length (Con.parts c) by omega)
     refine Zz 10 ?_
     refine c_ (T_ B_ g_ rfl rfl (fun v _ h=>J_ (n:=5) Con.cells_len (by decide) (by exact ((Con.mem_iff c v).1 h.2.1).1) hx1) (by omega) (by first|omega|(simp;done))) rfl ?_
     refine c_ (al_ (ad:=(Con.ad c)) (us:=Con.cells x1) w_ g_ rfl (fun v _ h=>by exact ((Con.mem_iff c v).1 h.2.1).1) (Con.cells_len _) (H_ Con.cells_len hx1)) rfl (au_ bL_ rfl fun b3=>aa_ 0 g_ rfl rfl rfl rfl rfl rfl (Zz 5 ?_))
     refine i_ (ih x1 (by have:=Con.sz_part hmx1;omega) (by have:=Con.sz_part hmx1;omega)) rfl f_ (fun v _ h=>by exact⟨(Con.mem_part (c:=c) h.2.1 hmx1),trivial⟩) rfl fun⟨q,hqc,hqw⟩=>?_
     dsimp only
     have hqs:Tre.size q=(Con.sz x1:Int):=by rw[((Tre.wf_iff q).1 hqw).1,hqc]
     have hxs:=Con.sz_part hmx1
     refine au_ gD_ rfl fun b4=>aa_ 0 cN_ rfl rfl rfl rfl rfl rfl (Zz 10 ?_)
     refine aa_ 2 ab_ rfl rfl rfl rfl rfl rfl (Zz 6 ?_)
     refine I_ bQ_ cN_ gD_ rfl rfl rfl rfl rfl rfl fun b5=>?_
     refine aW_ (news:=List.flatMap Tre.cells [q]) sv_ hr_T rfl rfl (C_ (C_ (C_ bo_))) rfl (bv_ 0 rfl) (fun u hu=>cU_ Tre.cells_one hu) (by simp only[maxLen];((try simp only[List.length_append,List.length_cons,List.length_nil]);have:=congrArg List.length hts;rw[List.length_map,List.length_take]at this;have:=Con.parts_lt c;omega)) (by ((try simp only[List.length_append,List.length_cons,List.length_nil]);have:=congrArg List.length hts;rw[List.length_map,List.length_take]at this;have:=Con.parts_lt c;omega)) rfl fun sv1 Hr1 hr1=>?_
     refine W_ List.perm_append_comm ?_
     have hq1:=zsa hr1
     refine Zz 1 ?_
     refine dy_ 3 hq1 Tryz.sizeOf221 rfl rfl rfl rfl (Zz 7 ?_)
     exact R_ ⟨(i+1,(ts++[q]),(zz+Tre.size q),sv1,Hr1),hlx1,(by rw[take_snoc hx1,List.map_append,hts];simp[hqc]),(by show zz+Tre.size q=_;rw[szs_step hx1,hzz,hqs];omega),(fun t ht=>by rcases List.mem_append.1 ht with ht|ht;exact hwf t ht;rw[List.mem_singleton]at ht;subst ht;exact hqw),hq1⟩ (by dsimp only;omega) zl (aF_ (C_ (C_ (C_ t_))) (C_ (C_ bo_))) (fun v _ h=>by exact⟨nr_ h.2.1 h.1,h.2.2.1,trivial⟩)
end Go.Proofs.YtamklbgaipakfaaGreatDoor
namespace Go.Proofs.YtamklbgaipakfaaGreatDoor
open Go Go.Sx Go.Proofs
attribute [local irreducible] Code.wp wpList wpAnyH
open Go.Vs
theorem pS_ (ts us:List Tre) (ad ae:Option Addr) (cap cpe:Nat) (hts:ts.length≤1000000) (hus:us.length≤1000000) (hC:(∀ t∈ts,∀ u∈us,Tri Tryz.prog 180 #[t.val,u.val] [] [t.memF,u.memF] (fun _:Unit=>.int .i64 (Con.cmp t.con u.con)) (fun _=>[]) (fun _=>[]))):Tri Tryz.prog 237 #[.slice ad (List.length ts) cap,.slice ae (List.length us) cpe,.func (.func 180) #[] #[]] [] [aw_ ad (List.flatMap Tre.cells ts),aw_ ae (List.flatMap Tre.cells us),iE_ ts,iE_ us] (fun _:Unit=>.int .i64 (Con.cmp.cmps (List.map Tre.con ts) (List.map Tre.con us))) (fun _=>[]) (fun _=>[]):=by
 refine o_ Tryz.func237 rfl rfl Tryz.ntmps237 rfl fun v0=>?_
 refine Zz 14 ?_
 refine aO_ (ι:={y:Nat // y≤List.length ts∧Con.cmp.cmps (List.map Tre.con ts) (List.map Tre.con us)=Con.cmp.cmps (List.drop y (List.map Tre.con ts)) (List.drop y (List.map Tre.con us))}) (fun y=>[(0,.slice ad (List.length ts) cap),(1,.slice ae (List.length us) cpe),(2,.func (.func 180) #[] #[]),(6,.int .i64 0),(11,.slice ad (List.length ts) cap),(12,.int .i64 (List.length ts:Int)),(13,.int .i64 (y.1:Int))]) (fun y=>([])) (fun y=>[aw_ ad (List.flatMap Tre.cells ts),aw_ ae (List.flatMap Tre.cells us),iE_ ts,iE_ us]) (fun y=>List.length ts - y.1) ⟨(0:Nat),by simp,rfl⟩ zl f_ zh ?_
 rintro ⟨i,hi_i,hcm⟩
 dsimp only at hi_i hcm ⊢
 refine Zi 2 (fun hr1=>?_) fun hr1=>?_
 ·refine Zi 13 (fun hr2=>?_) fun hr2=>?_
  ·refine Zz 11 ?_
   exact G_ Tryz.results237 () (Y_ rfl (by rw[hcm];symm;exact nf_ (by rw[List.length_map];omega) (by rw[List.length_map];omega))) f_ zt
  refine Zz 9 ?_
  exact G_ Tryz.results237 () (Y_ rfl (by rw[hcm];symm;exact jR_ (by rw[List.length_map];omega) (by rw[List.length_map];omega))) f_ zt
 obtain⟨hlx1,x1,hx1,hmx1⟩:=zge (show i<List.length ts by omega)
 refine Zz 11 ?_
 refine c_ (T_ bQ_ cN_ rfl rfl (fun v _ h=>J_ (n:=7) Tre.cells_len (by decide) (by exact h.1) hx1) (by omega) (by first|omega|(simp;done))) rfl ?_
 refine c_ (al_ (ad:=ad) (us:=Tre.cells x1) Tryz.isAgg223 cN_ rfl zf (Tre.cells_len _) (H_ Tre.cells_len hx1)) rfl (au_ gD_ rfl fun b1=>Zz 1 ?_)
 refine aa_ 0 cN_ rfl rfl rfl rfl rfl rfl (Zi 8 (fun hr3=>?_) fun hr3=>?_)
 ·have hly1:i<List.length us:=by omega
  obtain⟨y1,hy1⟩:∃ e0,us[i]? = some e0:=⟨_,List.getElem?_eq_getElem hly1⟩
  have hmy1:y1∈us:=List.mem_of_getElem? hy1
  refine Zz 9 ?_
  refine c_ (T_ bQ_ cN_ rfl rfl (fun v _ h=>J_ (n:=7) Tre.cells_len (by decide) (by exact h.2.1) hy1) (by omega) (by first|omega|(simp;done))) rfl ?_
  refine c_ (al_ (ad:=ae) (us:=Tre.cells y1) Tryz.isAgg223 cN_ rfl zf (Tre.cells_len _) (H_ Tre.cells_len hy1)) rfl (au_ gD_ rfl fun b2=>aa_ 0 cN_ rfl rfl rfl rfl rfl rfl (Zz 7 ?_))
  refine aM_ (hC x1 hmx1 y1 hmy1) rfl rfl f_ (fun v _ h=>by exact⟨(h.2.2.1 x1 hmx1),(h.2.2.2.1 y1 hmy1),trivial⟩) rfl fun _=>Zi 6 (fun hr4=>?_) fun hr4=>?_
  ·refine Zz 10 ?_
   exact R_ ⟨i+1,hlx1,(by rw[hcm,lN_ (by rw[List.getElem?_map,hx1];rfl) (by rw[List.getElem?_map,hy1];rfl),if_pos hr4])⟩ (by dsimp only;omega) zl f_ zh
  refine Zz 10 ?_
  exact G_ Tryz.results237 () (Y_ rfl (by rw[hcm,lN_ (by rw[List.getElem?_map,hx1];rfl) (by rw[List.getElem?_map,hy1];rfl),if_neg hr4])) f_ zt
 refine Zz 9 ?_
 exact G_ Tryz.results237 () (Y_ rfl (by rw[hcm];symm;exact kX_ (by rw[List.length_map];omega) (by rw[List.length_map];omega))) f_ zt
theorem pQ_:∀ (m:Nat) (t u:Tre),t.con.sz≤m→t.wf→u.wf→t.con.sz≤1000000→u.con.sz≤1000000→Tri Tryz.prog 180 #[Tre.val t,Tre.val u] [] [Tre.memF t,Tre.memF u] (fun _:Unit=>.int .i64 (Con.cmp t.con u.con)) (fun _=>[]) (fun _=>[]):=by
 intro m
 induction m with
 | zero=>intro t u h;have:=Con.sz_pos t.con;omega
 | succ m ih =>
   intro t u h hwt hwu hz1 hz2
   obtain⟨hs1,hp1,hw1⟩:=(Tre.wf_iff t).1 hwt
   obtain⟨hs2,hp2,hw2⟩:=(Tre.wf_iff u).1 hwu
   have hl1:(Tre.parts t).length≤1000000:=by have q:=congrArg List.length hp1;rw[List.length_map]at q;have:=Con.parts_lt t.con;omega
   have hl2:(Tre.parts u).length≤1000000:=by have q:=congrArg List.length hp2;rw[List.length_map]at q;have:=Con.parts_lt u.con;omega
   refine o_ Tryz.func180 rfl rfl Tryz.ntmps180 rfl fun v0=>?_
   refine Zz 2 ?_
   refine ah_ rfl rfl fun b1=>ah_ rfl rfl fun b2=>Zz 5 ?_
   refine U_ 8 [0,1,2,3,5,6,7,8,9,10,12,13,14,15,16,17,19,20,21,22,23,24,26,27,28,29,30,31] zk zs (Zz 29 ?_)
   refine u_ 4 rfl zk (i_ (fX_ (Tre.size t) (Tre.size u)) rfl f_ zt rfl fun _=>Zz 3 ?_)
   refine u_ 11 rfl zk (i_ (fX_ (Con.kind (Tre.con t)) (Con.kind (Tre.con u))) rfl f_ zt rfl fun _=>Zz 3 ?_)
   refine u_ 18 rfl zk (i_ (dq_ (Con.name (Tre.con t)) (Con.name (Tre.con u))) rfl f_ zt rfl fun _=>Zz 3 ?_)
   refine u_ 25 rfl zk (i_ (fX_ (Con.lo (Tre.con t)) (Con.lo (Tre.con u))) rfl f_ zt rfl fun _=>Zz 3 ?_)
   refine u_ 32 rfl zk (i_ (fX_ (Con.hi (Tre.con t)) (Con.hi (Tre.con u))) rfl f_ zt rfl fun _=>Zz 3 ?_)
   refine u_ 33 rfl zk (I_ am_ ab_ bb_ rfl rfl rfl rfl rfl rfl fun b3=>?_)
   refine ak_ (List.flatMap da_ [(Lib.compareInt (Tre.size t) (Tre.size u)),(Lib.compareInt (Con.kind (Tre.con t)) (Con.kind (Tre.con u))),(Lib.compareBytes (Con.name (Tre.con t)) (Con.name (Tre.con u))),(Lib.compareInt (Con.lo (Tre.con t)) (Con.lo (Tre.con u))),(Lib.compareInt (Con.hi (Tre.con t)) (Con.hi (Tre.con u)))]) t_ rfl ?_
   refine Zz 3 ?_
   refine u_ 34 rfl zk (i_ (kG_ [(Lib.compareInt (Tre.size t) (Tre.size u)),(Lib.compareInt (Con.kind (Tre.con t)) (Con.kind (Tre.con u))),(Lib.compareBytes (Con.name (Tre.con t)) (Con.name (Tre.con u))),(Lib.compareInt (Con.lo (Tre.con t)) (Con.lo (Tre.con u))),(Lib.compareInt (Con.hi (Tre.con t)) (Con.hi (Tre.con u)))] (some ⟨b3,0,none⟩) 5 (by simp)) rfl f_ zf rfl fun _=>Zz 3 ?_)
   refine U_ 0 [35] zk zs (Zi 8 (fun hr1=>?_) fun hr1=>?_)
   · skip
     refine Zz 11 ?_
     refine i_ (pS_ (Tre.parts t) (Tre.parts u) (Tre.ad t) (Tre.ad u) (Tre.cap t) (Tre.cap u) hl1 hl2 (fun x hx y hy=>ih x y (by have:=(Tre.wf_part hwt hx).2;omega) (Tre.wf_part hwt hx).1 (Tre.wf_part hwu hy).1 (by have:=(Tre.wf_part hwt hx).2;omega) (by have:=(Tre.wf_part hwu hy).2;omega))) rfl f_ (fun v _ h=>by exact⟨((Tre.mem_iff t v).1 h.2.1).2.1,((Tre.mem_iff u v).1 h.2.2.1).2.1,((Tre.mem_iff t v).1 h.2.1).2.2,((Tre.mem_iff u v).1 h.2.2.1).2.2,trivial⟩) rfl fun _=>?_
     refine Zz 4 ?_
     exact G_ Tryz.results180 () (Y_ rfl (by rw[kY_,← hs1,← hs2,if_pos hr1,hp1,hp2])) f_ zt
   · skip
     refine Zz 10 ?_
     exact G_ Tryz.results180 () (Y_ rfl (by rw[kY_,← hs1,← hs2,if_neg hr1])) f_ zt
theorem jV_ (c d:Con) (hz1:c.sz≤1000000) (hz2:d.sz≤1000000):Tri Tryz.prog 95 #[Con.val c,Con.val d] [] [Con.memF c,Con.memF d] (fun _:Unit=>.int .i64 (Con.cmp c d)) (fun _=>[]) (fun _=>[]):=by
  refine o_ Tryz.func95 rfl rfl Tryz.ntmps95 rfl fun v0=>?_
  refine Zz 2 ?_
  refine ah_ rfl rfl fun b1=>ah_ rfl rfl fun b2=>Zz 5 ?_
  refine U_ 4 [0,2] zk zs (Zz 3 ?_)
  refine u_ 1 rfl zk (i_ (rf_ _ c (Nat.le_refl _) hz1) rfl f_ zf rfl fun⟨q1,hq1c,hq1w⟩=>?_)
  dsimp only
  refine Zz 3 ?_
  refine u_ 3 rfl zk (i_ (rf_ _ d (Nat.le_refl _) hz2) rfl f_ zf rfl fun⟨q2,hq2c,hq2w⟩=>?_)
  dsimp only
  refine Zz 3 ?_
  refine u_ 4 rfl zk (i_ (pQ_ _ q1 q2 (Nat.le_refl _) hq1w hq2w (by rw[hq1c];exact hz1) (by rw[hq2c];exact hz2)) rfl f_ zf rfl fun _=>?_)
  refine Zz 3 ?_
  refine U_ 0 [5] zk zs (Zz 5 ?_)
  exact G_ Tryz.results95 () (Y_ rfl (by rw[hq1c,hq2c])) f_ zt
end Go.Proofs.YtamklbgaipakfaaGreatDoor
namespace Go.Proofs.YtamklbgaipakfaaGreatDoor
open Go Go.Sx Go.Proofs
attribute [local irreducible] Code.wp wpList wpAnyH
open Go.Vs
theorem lY_ {P:Program} {N:Nf} {fr:Fr} {H:Hp} {Γ:List Fct} {t t' ty:TypeId} {x y:Operand} {m n:List UInt8} (hx:Fr.ev fr x=some (str m)) (hy:Fr.ev fr y=some (str n)):Yld P N fr H Γ (.binOp .gtr t x y t') ty (.bool (decide (n<m))) :=
  fun a v h1 _ _ _ _ _=>by
    have e:decide (n<m)=!decide (m≤n):=by rw[Bool.eq_iff_iff];simp[List.not_le]
    rw[e,← sz_];simp[execOp,h1.ev hx,h1.ev hy,str,eqGuard,binOp,Op.stringOp]
theorem oP_ (s:Str):Fn0 Tryz.prog 233 #[str s] (.bool false):=by
  refine o_ Tryz.func233 rfl rfl Tryz.ntmps233 rfl fun v0=>?_
  refine Zz 9 ?_
  refine c_ (br_ (dJ_ rfl rfl) (show _=Value.bool false from congrArg Value.bool (by simp))) rfl (Zz 4 ?_)
  exact G_ Tryz.results233 () rfl f_ zt
theorem pR_ (x y:Str):Fn0 Tryz.prog 183 #[str x,str y] (.int .i64 (Lib.compareBytes x y)):=by
 refine o_ Tryz.func183 rfl rfl Tryz.ntmps183 rfl fun v0=>?_
 refine Zz 8 ?_
 refine i_ (oP_ x) rfl f_ zt rfl fun _=>Zz 6 ?_
 refine i_ (oP_ y) rfl f_ zt rfl fun _=>Zi 26 (fun hr1=>?_) fun hr1=>?_
 ·refine Zz 10 ?_
  refine s_ (lY_ rfl rfl) rfl fun r2 hr2=>Zz 2 ?_
  cases r2
  ·replace hr2:=zdf hr2
   refine Zz 9 ?_
   exact G_ Tryz.results183 () (Y_ rfl (by rw[hE_,if_neg hr1,if_neg hr2])) f_ zt
  replace hr2:=zdt hr2
  refine Zz 7 ?_
  exact G_ Tryz.results183 () (Y_ rfl (by rw[hE_,if_neg hr1,if_pos hr2])) f_ zt
 refine Zz 9 ?_
 exact G_ Tryz.results183 () (Y_ rfl (by rw[hE_,if_pos hr1])) f_ zt
theorem ja_ (lA lB:List Str) (ad ae:Option Addr) (cap cpe:Nat) (hl:lA.length≤140737488351232) (hm:lB.length≤140737488351232):Tri Tryz.prog 99 #[.slice ad (List.length lA) cap,.slice ae (List.length lB) cpe] [] [aw_ ad (List.flatMap aH_ lA),aw_ ae (List.flatMap aH_ lB)] (fun _:Unit=>.int .i64 (dA_ lA lB)) (fun _=>[]) (fun _=>[]):=by
 refine o_ Tryz.func99 rfl rfl Tryz.ntmps99 rfl fun v0=>?_
 refine Zz 14 ?_
 refine aO_ (ι:={y:Nat // y≤List.length lA∧dA_ lA lB=dA_ (List.drop y lA) (List.drop y lB)}) (fun y=>[(0,.slice ad (List.length lA) cap),(1,.slice ae (List.length lB) cpe),(4,.int .i64 0),(9,.slice ad (List.length lA) cap),(10,.int .i64 (List.length lA:Int)),(11,.int .i64 (y.1:Int))]) (fun y=>([])) (fun y=>[aw_ ad (List.flatMap aH_ lA),aw_ ae (List.flatMap aH_ lB)]) (fun y=>List.length lA - y.1) ⟨(0:Nat),by simp,rfl⟩ zl f_ zh ?_
 rintro ⟨i,hi_i,hcm⟩
 dsimp only at hi_i hcm ⊢
 refine Zi 2 (fun hr1=>?_) fun hr1=>?_
 ·refine Zi 13 (fun hr2=>?_) fun hr2=>?_
  ·refine Zz 11 ?_
   exact G_ Tryz.results99 () (Y_ rfl (by rw[hcm];symm;exact ng_ (by omega) (by omega))) f_ zt
  refine Zz 9 ?_
  exact G_ Tryz.results99 () (Y_ rfl (by rw[hcm];symm;exact jT_ (by omega) (by omega))) f_ zt
 obtain⟨hlx1,x1,hx1,hmx1⟩:=zge (show i<List.length lA by omega)
 refine Zi 23 (fun hr3=>?_) fun hr3=>?_
 ·have hly1:i<List.length lB:=by omega
  obtain⟨y1,hy1⟩:∃ e0,lB[i]? = some e0:=⟨_,List.getElem?_eq_getElem hly1⟩
  have hmy1:y1∈lB:=List.mem_of_getElem? hy1
  refine Zz 18 ?_
  refine i_ (pR_ x1 y1) rfl f_ zt rfl fun _=>Zi 6 (fun hr4=>?_) fun hr4=>?_
  ·refine Zz 10 ?_
   exact R_ ⟨i+1,hlx1,(by rw[hcm,lO_ hx1 hy1,if_pos hr4])⟩ (by dsimp only;omega) zl f_ zh
  refine Zz 10 ?_
  exact G_ Tryz.results99 () (Y_ rfl (by rw[hcm,lO_ hx1 hy1,if_neg hr4])) f_ zt
 refine Zz 9 ?_
 exact G_ Tryz.results99 () (Y_ rfl (by rw[hcm];symm;exact la_ (by omega) (by omega))) f_ zt
theorem md_ (x:Ax) (hok:x.ok) (hz1:x.left.sz≤1000000) (hz2:x.right.sz≤1000000):Tri Tryz.prog 98 #[Ax.val x] [] [Ax.memF x] (fun _:Unit=>.int .i64 x.wgt) (fun _=>[]) (fun _=>[]):=by
 refine o_ Tryz.func98 rfl rfl Tryz.ntmps98 rfl fun v0=>?_
 have hrl:=hok.len
 have hrc:=hok.cap
 refine Zz 2 ?_
 refine ah_ rfl rfl fun b1=>Zz 10 ?_
 refine I_ B_ g_ bL_ rfl rfl rfl rfl rfl rfl fun b2=>?_
 refine ak_ (List.flatMap Con.cells [(Ax.left x),(Ax.right x)]) t_ rfl ?_
 refine Zz 5 ?_
 refine aO_ (ι:={y:Nat×Int // y.1≤List.length [(Ax.left x),(Ax.right x)]∧y.2=wgL (List.take y.1 [(Ax.left x),(Ax.right x)])}) (fun y=>[(1,zp_ b1 0),(2,.int .i64 y.1.2),(11,.slice (some ⟨b2,0,none⟩) (List.length [(Ax.left x),(Ax.right x)]) 2),(12,.int .i64 2),(13,.int .i64 (y.1.1:Int))]) (fun y=>((b1,.cells #[.int .i64 (Ax.kind x),.bool (Ax.opn x),.int .i64 (Con.kind (Ax.left x)),str (Con.name (Ax.left x)),.int .i64 (Con.lo (Ax.left x)),.int .i64 (Con.hi (Ax.left x)),.slice (Con.ad (Ax.left x)) (List.length (Con.parts (Ax.left x))) (Con.cap (Ax.left x)),.int .i64 (Con.kind (Ax.right x)),str (Con.name (Ax.right x)),.int .i64 (Con.lo (Ax.right x)),.int .i64 (Con.hi (Ax.right x)),.slice (Con.ad (Ax.right x)) (List.length (Con.parts (Ax.right x))) (Con.cap (Ax.right x)),.slice (Ax.ad x) (List.length (Ax.roles x)) (Ax.cap x),str (Ax.role x),str (Ax.a x),str (Ax.b x)] 48 (0,0))::[])) (fun y=>[aw_ (some ⟨b2,0,none⟩) (List.flatMap Con.cells [(Ax.left x),(Ax.right x)]),Ax.memF x]) (fun y=>List.length [(Ax.left x),(Ax.right x)] - y.1.1) ⟨((0:Nat),0),by simp,(by simp[wgL])⟩ zl t_ zh ?_
 rintro ⟨⟨i,zz⟩,hi_i,hzz⟩
 dsimp only at hi_i hzz ⊢
 have hbd:=qf_ (l:=List.take i [(Ax.left x),(Ax.right x)]) (fun c hc=>(gX_ hok hz1 hz2 (List.mem_of_mem_take hc)).2)
 have htl:(List.take i [(Ax.left x),(Ax.right x)]).length≤2:=by rw[List.length_take];exact Nat.min_le_right _ _
 refine Zi 2 (fun hr1=>?_) fun hr1=>?_
 ·refine Zz 12 ?_
  refine c_ (aA_ rfl rfl rfl (be_ (by first|omega|(simp only[List.length_cons,List.length_nil]at *;omega)) (by first|omega|(simp only[List.length_cons,List.length_nil]at *;omega)))) rfl ?_
  refine Zz 12 ?_
  refine I_ D_ O_ aR_ rfl rfl rfl rfl rfl rfl fun b3=>?_
  refine ak_ (List.flatMap aH_ [(Ax.role x),(Ax.a x),(Ax.b x)]) t_ rfl ?_
  refine Zz 5 ?_
  have hB:zz=wgL [(Ax.left x),(Ax.right x)]:=by rw[hzz,List.take_of_length_le (by simp only[List.length_cons,List.length_nil]at *;omega)]
  refine aO_ (ι:={y:Nat×Int // y.1≤List.length [(Ax.role x),(Ax.a x),(Ax.b x)]∧y.2=wgL [(Ax.left x),(Ax.right x)]+(List.length (Ax.roles x):Int)+wgS (List.take y.1 [(Ax.role x),(Ax.a x),(Ax.b x)])}) (fun y=>[(1,zp_ b1 0),(2,.int .i64 y.1.2),(11,.slice (some ⟨b2,0,none⟩) (List.length [(Ax.left x),(Ax.right x)]) 2),(12,.int .i64 2),(13,.int .i64 (i:Int)),(36,.slice (some ⟨b3,0,none⟩) (List.length [(Ax.role x),(Ax.a x),(Ax.b x)]) 3),(37,.int .i64 3),(38,.int .i64 (y.1.1:Int))]) (fun y=>((b1,.cells #[.int .i64 (Ax.kind x),.bool (Ax.opn x),.int .i64 (Con.kind (Ax.left x)),str (Con.name (Ax.left x)),.int .i64 (Con.lo (Ax.left x)),.int .i64 (Con.hi (Ax.left x)),.slice (Con.ad (Ax.left x)) (List.length (Con.parts (Ax.left x))) (Con.cap (Ax.left x)),.int .i64 (Con.kind (Ax.right x)),str (Con.name (Ax.right x)),.int .i64 (Con.lo (Ax.right x)),.int .i64 (Con.hi (Ax.right x)),.slice (Con.ad (Ax.right x)) (List.length (Con.parts (Ax.right x))) (Con.cap (Ax.right x)),.slice (Ax.ad x) (List.length (Ax.roles x)) (Ax.cap x),str (Ax.role x),str (Ax.a x),str (Ax.b x)] 48 (0,0))::[])) (fun y=>[aw_ (some ⟨b3,0,none⟩) (List.flatMap aH_ [(Ax.role x),(Ax.a x),(Ax.b x)]),aw_ (some ⟨b2,0,none⟩) (List.flatMap Con.cells [(Ax.left x),(Ax.right x)]),Ax.memF x]) (fun y=>List.length [(Ax.role x),(Ax.a x),(Ax.b x)] - y.1.1) ⟨((0:Nat),(zz+(List.length (Ax.roles x):Int))),by simp,(by show (zz+(List.length (Ax.roles x):Int))=_;rw[hB];simp[wgS])⟩ zl t_ zh ?_
  rintro ⟨⟨j,yy⟩,hi_j,hyy⟩
  dsimp only at hi_j hyy ⊢
  have hbs:=wgS_bd (List.take j [(Ax.role x),(Ax.a x),(Ax.b x)])
  have htj:(List.take j [(Ax.role x),(Ax.a x),(Ax.b x)]).length≤3:=by rw[List.length_take];exact Nat.min_le_right _ _
  have hbl:=qf_ (l:=[(Ax.left x),(Ax.right x)]) (fun c hc=>(gX_ hok hz1 hz2 hc).2)
  refine Zi 2 (fun hr2=>?_) fun hr2=>?_
  ·refine Zz 13 ?_
   exact G_ Tryz.results98 () (Y_ rfl (by rw[hyy,Ax.wgt_eq,List.take_of_length_le (by simp only[List.length_cons,List.length_nil]at *;omega)])) f_ zt
  have hls1:j<List.length [(Ax.role x),(Ax.a x),(Ax.b x)]:=by simp only[List.length_cons,List.length_nil]at *;omega
  obtain⟨s1,hs1⟩:∃ e0,[(Ax.role x),(Ax.a x),(Ax.b x)][j]? = some e0:=⟨_,List.getElem?_eq_getElem hls1⟩
  have hms1:s1∈[(Ax.role x),(Ax.a x),(Ax.b x)]:=List.mem_of_getElem? hs1
  refine Zz 11 ?_
  refine c_ (bu_ (ad:=(some ⟨b3,0,none⟩)) ap_ rfl zf (H_ av_ hs1 0 _ rfl)) rfl (Zi 6 (fun hr3=>?_) fun hr3=>?_)
  ·refine Zz 6 ?_
   refine c_ (aA_ rfl rfl rfl (be_ (by first|omega|(simp only[List.length_cons,List.length_nil]at *;omega)) (by first|omega|(simp only[List.length_cons,List.length_nil]at *;omega)))) rfl ?_
   refine Zz 3 ?_
   exact R_ ⟨(j+1,yy),hls1,(by show yy=_;rw[mb_ hs1,if_pos hr3];omega)⟩ (by dsimp only;omega) zl t_ zh
  refine Zz 5 ?_
  refine c_ (aA_ rfl rfl rfl (be_ (by first|omega|(simp only[List.length_cons,List.length_nil]at *;omega)) (by first|omega|(simp only[List.length_cons,List.length_nil]at *;omega)))) rfl ?_
  refine Zz 4 ?_
  refine c_ (aA_ rfl rfl rfl (be_ (by first|omega|(simp only[List.length_cons,List.length_nil]at *;omega)) (by first|omega|(simp only[List.length_cons,List.length_nil]at *;omega)))) rfl ?_
  refine Zz 3 ?_
  exact R_ ⟨(j+1,(yy+1)),hls1,(by show (yy+1)=_;rw[mb_ hs1,if_neg hr3];omega)⟩ (by dsimp only;omega) zl t_ zh
 have hlc1:i<List.length [(Ax.left x),(Ax.right x)]:=by simp only[List.length_cons,List.length_nil]at *;omega
 obtain⟨c1,hc1⟩:∃ e0,[(Ax.left x),(Ax.right x)][i]? = some e0:=⟨_,List.getElem?_eq_getElem hlc1⟩
 have hmc1:c1∈[(Ax.left x),(Ax.right x)]:=List.mem_of_getElem? hc1
 have hcz:=(gX_ hok hz1 hz2 hmc1).2
 refine Zz 10 ?_
 refine c_ (T_ B_ g_ rfl rfl (fun v _ h=>J_ (n:=5) Con.cells_len (by decide) (by exact h.1) hc1) (by omega) (by first|omega|(simp;done))) rfl ?_
 refine c_ (al_ (ad:=(some ⟨b2,0,none⟩)) (us:=Con.cells c1) w_ g_ rfl zf (Con.cells_len _) (H_ Con.cells_len hc1)) rfl (au_ bL_ rfl fun b4=>aa_ 0 g_ rfl rfl rfl rfl rfl rfl (Zi 6 (fun hr4=>?_) fun hr4=>?_))
 ·refine Zz 6 ?_
  refine c_ (aA_ rfl rfl rfl (be_ (by first|omega|(simp only[List.length_cons,List.length_nil]at *;omega)) (by first|omega|(simp only[List.length_cons,List.length_nil]at *;omega)))) rfl ?_
  refine Zz 3 ?_
  exact R_ ⟨(i+1,zz),hlc1,(by show zz=_;rw[mc_ hc1,if_pos hr4];omega)⟩ (by dsimp only;omega) zl (C_ t_) zh
 refine Zz 6 ?_
 refine i_ (size_c c1 (gX_ hok hz1 hz2 hmc1).1 (gX_ hok hz1 hz2 hmc1).2) rfl f_ (fun v _ h=>by exact⟨(rs_ h.2.1 hmc1),trivial⟩) rfl fun _=>?_
 refine c_ (aA_ rfl rfl rfl (be_ (by first|omega|(simp only[List.length_cons,List.length_nil]at *;omega)) (by first|omega|(simp only[List.length_cons,List.length_nil]at *;omega)))) rfl ?_
 refine Zz 4 ?_
 refine c_ (aA_ rfl rfl rfl (be_ (by first|omega|(simp only[List.length_cons,List.length_nil]at *;omega)) (by first|omega|(simp only[List.length_cons,List.length_nil]at *;omega)))) rfl ?_
 refine Zz 3 ?_
 exact R_ ⟨(i+1,(zz+(Con.sz c1:Int))),hlc1,(by show (zz+(Con.sz c1:Int))=_;rw[mc_ hc1,if_neg hr4];omega)⟩ (by dsimp only;omega) zl (C_ t_) zh
theorem oW_ (x y:Ax) (hok1:x.ok) (hok2:y.ok) (hz1l:x.left.sz≤1000000) (hz1r:x.right.sz≤1000000) (hz2l:y.left.sz≤1000000) (hz2r:y.right.sz≤1000000):Tri Tryz.prog 50 #[Ax.val x,Ax.val y] [] [Ax.memF x,Ax.memF y] (fun _:Unit=>.int .i64 (Ax.cmp x y)) (fun _=>[]) (fun _=>[]):=by
 refine o_ Tryz.func50 rfl rfl Tryz.ntmps50 rfl fun v0=>?_
 refine Zz 2 ?_
 refine ah_ rfl rfl fun b1=>ah_ rfl rfl fun b2=>Zz 5 ?_
 refine U_ 7 [0,2,5,6,7,8] zk zs (Zz 7 ?_)
 refine u_ 1 rfl zk (i_ (md_ x hok1 hz1l hz1r) rfl f_ zf rfl fun _=>Zz 3 ?_)
 refine u_ 3 rfl zk (i_ (md_ y hok2 hz2l hz2r) rfl f_ zf rfl fun _=>Zz 3 ?_)
 refine u_ 4 rfl zk (i_ (fX_ (Ax.wgt x) (Ax.wgt y)) rfl f_ zt rfl fun _=>Zz 3 ?_)
 refine u_ 9 rfl zk (i_ (fX_ (Ax.kind x) (Ax.kind y)) rfl f_ zt rfl fun _=>Zz 3 ?_)
 refine u_ 10 rfl zk (I_ am_ ab_ bb_ rfl rfl rfl rfl rfl rfl fun b3=>?_)
 refine ak_ (List.flatMap da_ [(Lib.compareInt (Ax.wgt x) (Ax.wgt y)),(Lib.compareInt (Ax.kind x) (Ax.kind y))]) t_ rfl ?_
 refine Zz 3 ?_
 refine u_ 11 rfl zk (i_ (kG_ [(Lib.compareInt (Ax.wgt x) (Ax.wgt y)),(Lib.compareInt (Ax.kind x) (Ax.kind y))] (some ⟨b3,0,none⟩) 2 (by simp)) rfl f_ zf rfl fun _=>Zz 3 ?_)
 refine U_ 0 [12] zk zs (Zi 8 (fun hr1=>?_) fun hr1=>?_)
 ·refine Zi 9 (fun hr2=>?_) fun hr2=>?_
  ·refine Zi 9 (fun hr3=>?_) fun hr3=>?_
   ·refine Zz 7 ?_
    refine U_ 7 [0,1,2,3,5,6,7,8,10,11,12,13,15,16,17,18] zk zs (Zz 17 ?_)
    refine u_ 4 rfl zk (i_ (ja_ (Ax.roles x) (Ax.roles y) (Ax.ad x) (Ax.ad y) (Ax.cap x) (Ax.cap y) (by have:=hok1.len;have:=hok1.cap;omega) (by have:=hok2.len;have:=hok2.cap;omega)) rfl f_ (fun v _ h=>by exact⟨h.2.1.2.2,h.2.2.1.2.2,trivial⟩) rfl fun _=>?_)
    refine Zz 3 ?_
    refine u_ 9 rfl zk (i_ (dq_ (Ax.role x) (Ax.role y)) rfl f_ zt rfl fun _=>Zz 3 ?_)
    refine u_ 14 rfl zk (i_ (dq_ (Ax.a x) (Ax.a y)) rfl f_ zt rfl fun _=>Zz 3 ?_)
    refine u_ 19 rfl zk (i_ (dq_ (Ax.b x) (Ax.b y)) rfl f_ zt rfl fun _=>Zz 3 ?_)
    refine u_ 20 rfl zk (I_ am_ ab_ bb_ rfl rfl rfl rfl rfl rfl fun b4=>?_)
    refine ak_ (List.flatMap da_ [(dA_ (Ax.roles x) (Ax.roles y)),(Lib.compareBytes (Ax.role x) (Ax.role y)),(Lib.compareBytes (Ax.a x) (Ax.a y)),(Lib.compareBytes (Ax.b x) (Ax.b y))]) t_ rfl ?_
    refine Zz 3 ?_
    refine u_ 21 rfl zk (i_ (kG_ [(dA_ (Ax.roles x) (Ax.roles y)),(Lib.compareBytes (Ax.role x) (Ax.role y)),(Lib.compareBytes (Ax.a x) (Ax.a y)),(Lib.compareBytes (Ax.b x) (Ax.b y))] (some ⟨b4,0,none⟩) 4 (by simp)) rfl f_ zf rfl fun _=>Zz 3 ?_)
    refine U_ 0 [22] zk zs (Zz 5 ?_)
    exact G_ fo_ () (Y_ rfl (by unfold Ax.cmp;simp only[orF]at *;(repeat' split)<;>simp_all)) f_ zt
   refine Zz 10 ?_
   exact G_ fo_ () (Y_ rfl (by unfold Ax.cmp;simp only[orF]at *;(repeat' split)<;>simp_all)) f_ zt
  refine Zz 8 ?_
  refine i_ (jV_ (Ax.right x) (Ax.right y) hz1r hz2r) rfl f_ (fun v _ h=>by exact⟨h.2.1.2.1,h.2.2.1.2.1,trivial⟩) rfl fun _=>Zi 7 (fun hr4=>?_) fun hr4=>?_
  ·refine Zz 7 ?_
   refine U_ 7 [0,1,2,3,5,6,7,8,10,11,12,13,15,16,17,18] zk zs (Zz 17 ?_)
   refine u_ 4 rfl zk (i_ (ja_ (Ax.roles x) (Ax.roles y) (Ax.ad x) (Ax.ad y) (Ax.cap x) (Ax.cap y) (by have:=hok1.len;have:=hok1.cap;omega) (by have:=hok2.len;have:=hok2.cap;omega)) rfl f_ (fun v _ h=>by exact⟨h.2.1.2.2,h.2.2.1.2.2,trivial⟩) rfl fun _=>?_)
   refine Zz 3 ?_
   refine u_ 9 rfl zk (i_ (dq_ (Ax.role x) (Ax.role y)) rfl f_ zt rfl fun _=>Zz 3 ?_)
   refine u_ 14 rfl zk (i_ (dq_ (Ax.a x) (Ax.a y)) rfl f_ zt rfl fun _=>Zz 3 ?_)
   refine u_ 19 rfl zk (i_ (dq_ (Ax.b x) (Ax.b y)) rfl f_ zt rfl fun _=>Zz 3 ?_)
   refine u_ 20 rfl zk (I_ am_ ab_ bb_ rfl rfl rfl rfl rfl rfl fun b5=>?_)
   refine ak_ (List.flatMap da_ [(dA_ (Ax.roles x) (Ax.roles y)),(Lib.compareBytes (Ax.role x) (Ax.role y)),(Lib.compareBytes (Ax.a x) (Ax.a y)),(Lib.compareBytes (Ax.b x) (Ax.b y))]) t_ rfl ?_
   refine Zz 3 ?_
   refine u_ 21 rfl zk (i_ (kG_ [(dA_ (Ax.roles x) (Ax.roles y)),(Lib.compareBytes (Ax.role x) (Ax.role y)),(Lib.compareBytes (Ax.a x) (Ax.a y)),(Lib.compareBytes (Ax.b x) (Ax.b y))] (some ⟨b5,0,none⟩) 4 (by simp)) rfl f_ zf rfl fun _=>Zz 3 ?_)
   refine U_ 0 [22] zk zs (Zz 5 ?_)
   exact G_ fo_ () (Y_ rfl (by unfold Ax.cmp;simp only[orF]at *;(repeat' split)<;>simp_all)) f_ zt
  refine Zz 10 ?_
  exact G_ fo_ () (Y_ rfl (by unfold Ax.cmp;simp only[orF]at *;(repeat' split)<;>simp_all)) f_ zt
 refine Zz 8 ?_
 refine i_ (jV_ (Ax.left x) (Ax.left y) hz1l hz2l) rfl f_ (fun v _ h=>by exact⟨h.2.1.1,h.2.2.1.1,trivial⟩) rfl fun _=>Zi 7 (fun hr5=>?_) fun hr5=>?_
 ·refine Zi 9 (fun hr6=>?_) fun hr6=>?_
  ·refine Zz 7 ?_
   refine U_ 7 [0,1,2,3,5,6,7,8,10,11,12,13,15,16,17,18] zk zs (Zz 17 ?_)
   refine u_ 4 rfl zk (i_ (ja_ (Ax.roles x) (Ax.roles y) (Ax.ad x) (Ax.ad y) (Ax.cap x) (Ax.cap y) (by have:=hok1.len;have:=hok1.cap;omega) (by have:=hok2.len;have:=hok2.cap;omega)) rfl f_ (fun v _ h=>by exact⟨h.2.1.2.2,h.2.2.1.2.2,trivial⟩) rfl fun _=>?_)
   refine Zz 3 ?_
   refine u_ 9 rfl zk (i_ (dq_ (Ax.role x) (Ax.role y)) rfl f_ zt rfl fun _=>Zz 3 ?_)
   refine u_ 14 rfl zk (i_ (dq_ (Ax.a x) (Ax.a y)) rfl f_ zt rfl fun _=>Zz 3 ?_)
   refine u_ 19 rfl zk (i_ (dq_ (Ax.b x) (Ax.b y)) rfl f_ zt rfl fun _=>Zz 3 ?_)
   refine u_ 20 rfl zk (I_ am_ ab_ bb_ rfl rfl rfl rfl rfl rfl fun b6=>?_)
   refine ak_ (List.flatMap da_ [(dA_ (Ax.roles x) (Ax.roles y)),(Lib.compareBytes (Ax.role x) (Ax.role y)),(Lib.compareBytes (Ax.a x) (Ax.a y)),(Lib.compareBytes (Ax.b x) (Ax.b y))]) t_ rfl ?_
   refine Zz 3 ?_
   refine u_ 21 rfl zk (i_ (kG_ [(dA_ (Ax.roles x) (Ax.roles y)),(Lib.compareBytes (Ax.role x) (Ax.role y)),(Lib.compareBytes (Ax.a x) (Ax.a y)),(Lib.compareBytes (Ax.b x) (Ax.b y))] (some ⟨b6,0,none⟩) 4 (by simp)) rfl f_ zf rfl fun _=>Zz 3 ?_)
   refine U_ 0 [22] zk zs (Zz 5 ?_)
   exact G_ fo_ () (Y_ rfl (by unfold Ax.cmp;simp only[orF]at *;(repeat' split)<;>simp_all)) f_ zt
  refine Zz 10 ?_
  exact G_ fo_ () (Y_ rfl (by unfold Ax.cmp;simp only[orF]at *;(repeat' split)<;>simp_all)) f_ zt
 refine Zz 8 ?_
 refine i_ (jV_ (Ax.right x) (Ax.right y) hz1r hz2r) rfl f_ (fun v _ h=>by exact⟨h.2.1.2.1,h.2.2.1.2.1,trivial⟩) rfl fun _=>Zi 7 (fun hr7=>?_) fun hr7=>?_
 ·refine Zz 7 ?_
  refine U_ 7 [0,1,2,3,5,6,7,8,10,11,12,13,15,16,17,18] zk zs (Zz 17 ?_)
  refine u_ 4 rfl zk (i_ (ja_ (Ax.roles x) (Ax.roles y) (Ax.ad x) (Ax.ad y) (Ax.cap x) (Ax.cap y) (by have:=hok1.len;have:=hok1.cap;omega) (by have:=hok2.len;have:=hok2.cap;omega)) rfl f_ (fun v _ h=>by exact⟨h.2.1.2.2,h.2.2.1.2.2,trivial⟩) rfl fun _=>?_)
  refine Zz 3 ?_
  refine u_ 9 rfl zk (i_ (dq_ (Ax.role x) (Ax.role y)) rfl f_ zt rfl fun _=>Zz 3 ?_)
  refine u_ 14 rfl zk (i_ (dq_ (Ax.a x) (Ax.a y)) rfl f_ zt rfl fun _=>Zz 3 ?_)
  refine u_ 19 rfl zk (i_ (dq_ (Ax.b x) (Ax.b y)) rfl f_ zt rfl fun _=>Zz 3 ?_)
  refine u_ 20 rfl zk (I_ am_ ab_ bb_ rfl rfl rfl rfl rfl rfl fun b7=>?_)
  refine ak_ (List.flatMap da_ [(dA_ (Ax.roles x) (Ax.roles y)),(Lib.compareBytes (Ax.role x) (Ax.role y)),(Lib.compareBytes (Ax.a x) (Ax.a y)),(Lib.compareBytes (Ax.b x) (Ax.b y))]) t_ rfl ?_
  refine Zz 3 ?_
  refine u_ 21 rfl zk (i_ (kG_ [(dA_ (Ax.roles x) (Ax.roles y)),(Lib.compareBytes (Ax.role x) (Ax.role y)),(Lib.compareBytes (Ax.a x) (Ax.a y)),(Lib.compareBytes (Ax.b x) (Ax.b y))] (some ⟨b7,0,none⟩) 4 (by simp)) rfl f_ zf rfl fun _=>Zz 3 ?_)
  refine U_ 0 [22] zk zs (Zz 5 ?_)
  exact G_ fo_ () (Y_ rfl (by unfold Ax.cmp;simp only[orF]at *;(repeat' split)<;>simp_all)) f_ zt
 refine Zz 10 ?_
 exact G_ fo_ () (Y_ rfl (by unfold Ax.cmp;simp only[orF]at *;(repeat' split)<;>simp_all)) f_ zt
end Go.Proofs.YtamklbgaipakfaaGreatDoor
