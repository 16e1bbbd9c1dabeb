/-
  Part of the proof of the law CheckerTrusts over this seat: the small logic, the data, the contracts of functions (no condition).
-/
import Derived.Test.YtaffcjgphlhppaaGreatDoorQCheckerTrusts12
set_option linter.unusedVariables false
set_option linter.unusedSimpArgs false
set_option linter.unusedSectionVars false
set_option maxHeartbeats 1000000
namespace Go.Proofs.YtaffcjgphlhppaaGreatDoor
open Go Go.Sx Go.Proofs
attribute [local irreducible] Code.wp wpList wpAnyH
open Go.Vs
set_option maxHeartbeats 1000000 in
theorem ul_ (kn:Str→Bool) (q:List Str) (hkn:∀ s,kn s=true↔s∈q) (es:Array MapEntry) (ec:Nat) (hE:SetE str es q) (vb ab:Nat) (pv fv:Value) (x:Pc) (f ga gb:Fc) (lad:Option Addr) (lcap:Nat) (wg:wf2 ga=true) (wh:wf2 gb=true) (wf:wf2 f=true):TriX Tryz.prog 141 #[.agg #[zp_ vb 0,.int .i64 f.kind,str f.a,str f.b,str f.r,.int .i64 f.lo,.int .i64 f.hi,.slice lad (List.length [ga,gb]) lcap,.int .i64 x.kind,str x.a,str x.b,str x.c,str x.r,str x.s,str x.t,.int .i64 x.lo,.int .i64 x.hi,.int .i64 x.frm]] [] [bJ_ vb (.cells (em_ pv ab fv).toArray 83 (0,0)),bJ_ ab (.map es ec),aC_ lad (List.flatMap Fc.cells [ga,gb])] (fun _:Unit=>.bool (eY_ kn x f ga gb)) (fun _=>[]) (fun _=>[]) (eY_ kn x f ga gb=false):=by
 refine bp_ Tryz.func141 rfl rfl Tryz.ntmps141 rfl fun v0=>?_;refine Zz 2 ?_;refine ah_ rfl rfl fun b1=>Zz 5 ?_
 refine o_ 9 [0,1,2,3,5,6,7,8] zk zs (Zz 9 ?_);refine bV_ 4 14 rfl rfl zk ?_ ?_
 ·refine at_ (fN_ f.r kn q hkn es ec hE vb ab pv fv x f ga gb lad lcap) rfl j_ zf rfl (fun hb=>dk_ ((by rw[Bool.eq_false_iff];intro hq;exact hb ((ei_ wf wg wh).1 hq).1))) fun⟨_,hsp0⟩=>?_
  try dsimp only
  refine Zz 3 ?_;refine bV_ 9 14 rfl rfl zk ?_ ?_
  ·refine at_ (dh_ f.r kn q hkn es ec hE vb ab pv fv x f ga gb lad lcap) rfl j_ zf rfl (fun hb=>dk_ ((by rw[Bool.eq_false_iff];intro hq;exact hb ((ei_ wf wg wh).1 hq).2.1))) fun⟨_,hsp1⟩=>?_
   try dsimp only
   refine Zz 3 ?_;refine bV_ 10 14 rfl rfl zk ?_ ?_
   ·refine n_ (kn_ (Fc.lo ga,Fc.hi ga) (Fc.lo gb,Fc.hi gb) (fa_ wg (eG_ hsp0).1) (fa_ wh (eG_ hsp1).1)) rfl j_ zt rfl fun⟨⟨⟨mlo,mhi⟩,me⟩,hmv⟩=>?_
    dsimp only;refine Zz 3 ?_;refine o_ 3 [11,12,13] zk zs (Zz 4 ?_);refine i_ 14 rfl zk (E_ ax_ rfl fun b2=>Zz 3 ?_);refine i_ 15 rfl zk (z_ 0 an_ rfl rfl rfl rfl rfl rfl (Zz 3 ?_));refine o_ 0 [16] zk zs (Zz 6 ?_);refine o_ 16 [0,1,2] zk zs (Zi 1 (fun hr1=>?_) fun hr1=>?_)
    ·refine Zz 2 ?_
     refine o_ 0 [3,4,5,6,7,8,9,10,11,12,13,14,15,16,17,18] zk zs (Zz 20 ?_);refine cz_ ?_
     have hres:false=true↔ga=M_ f.a f.r ga.lo ga.hi∧gb=M_ f.a f.r gb.lo gb.hi∧max ga.lo gb.lo≤min ga.hi gb.hi∧f=M_ f.a f.r (max ga.lo gb.lo) (min ga.hi gb.hi):=by
       refine Iff.trans ?_ (and_iff_right hsp0).symm;refine Iff.trans ?_ (and_iff_right hsp1).symm;clear hsp0 hsp1;unfold gP_ at hmv;dsimp only at hmv;split at hmv<;>simp only[Prod.mk.injEq]at hmv<;>obtain⟨⟨rfl,rfl⟩,rfl⟩:=hmv<;>(first|(simp_all;done)|(exfalso;omega;done)|exact⟨fun hq=>by simp_all,fun hq=>absurd hq.1 (by first|assumption|omega)⟩)
     exact T_ fW_ () (l_ rfl (Bool.eq_iff_iff.2 (hres.trans (ei_ wf wg wh).symm))) j_ zt
    refine Zz 2 ?_;refine o_ 4 [3,4,5,6,7,8,9,10,11,12,13,14] zk zs (Zz 13 ?_);refine i_ 15 rfl zk (Y_ rfl rfl (n_ (go_ f.a f.r mlo mhi) rfl j_ zt rfl fun _=>Zz 3 ?_));refine o_ 0 [16,17,18] zk zs (aI_ rfl rfl rfl (ar_ (p:=f) (q:=(M_ f.a f.r mlo mhi)) rfl rfl) rfl fun r2 hr2=>Zz 6 ?_);refine cz_ ?_
    have hres:r2=true↔ga=M_ f.a f.r ga.lo ga.hi∧gb=M_ f.a f.r gb.lo gb.hi∧max ga.lo gb.lo≤min ga.hi gb.hi∧f=M_ f.a f.r (max ga.lo gb.lo) (min ga.hi gb.hi):=by
      refine Iff.trans ?_ (and_iff_right hsp0).symm;refine Iff.trans ?_ (and_iff_right hsp1).symm;clear hsp0 hsp1;rw[← hr2];clear hr2;unfold gP_ at hmv;dsimp only at hmv;split at hmv<;>simp only[Prod.mk.injEq]at hmv<;>obtain⟨⟨rfl,rfl⟩,rfl⟩:=hmv<;>(first|(simp_all;done)|(exfalso;omega;done)|exact⟨fun hq=>by simp_all,fun hq=>absurd hq.1 (by first|assumption|omega)⟩)
    exact T_ fW_ () (l_ rfl (Bool.eq_iff_iff.2 (hres.trans (ei_ wf wg wh).symm))) j_ zt
   refine E_ ax_ rfl fun b3=>Zz 3 ?_
   refine i_ 10 rfl zk (n_ (kn_ (Fc.lo ga,Fc.hi ga) (Fc.lo gb,Fc.hi gb) (fa_ wg (eG_ hsp0).1) (fa_ wh (eG_ hsp1).1)) rfl j_ zt rfl fun⟨⟨⟨mlo,mhi⟩,me⟩,hmv⟩=>?_);dsimp only;refine Zz 3 ?_;refine o_ 2 [11,12,13] zk zs (Zz 4 ?_);refine i_ 15 rfl zk (z_ 0 an_ rfl rfl rfl rfl rfl rfl (Zz 3 ?_));refine o_ 0 [16] zk zs (Zz 6 ?_);refine o_ 16 [0,1,2] zk zs (Zi 1 (fun hr3=>?_) fun hr3=>?_)
   ·refine Zz 2 ?_
    refine o_ 0 [3,4,5,6,7,8,9,10,11,12,13,14,15,16,17,18] zk zs (Zz 20 ?_);refine cz_ ?_
    have hres:false=true↔ga=M_ f.a f.r ga.lo ga.hi∧gb=M_ f.a f.r gb.lo gb.hi∧max ga.lo gb.lo≤min ga.hi gb.hi∧f=M_ f.a f.r (max ga.lo gb.lo) (min ga.hi gb.hi):=by
      refine Iff.trans ?_ (and_iff_right hsp0).symm;refine Iff.trans ?_ (and_iff_right hsp1).symm;clear hsp0 hsp1;unfold gP_ at hmv;dsimp only at hmv;split at hmv<;>simp only[Prod.mk.injEq]at hmv<;>obtain⟨⟨rfl,rfl⟩,rfl⟩:=hmv<;>(first|(simp_all;done)|(exfalso;omega;done)|exact⟨fun hq=>by simp_all,fun hq=>absurd hq.1 (by first|assumption|omega)⟩)
    exact T_ fW_ () (l_ rfl (Bool.eq_iff_iff.2 (hres.trans (ei_ wf wg wh).symm))) j_ zt
   refine Zz 2 ?_;refine o_ 4 [3,4,5,6,7,8,9,10,11,12,13,14] zk zs (Zz 13 ?_);refine i_ 15 rfl zk (Y_ rfl rfl (n_ (go_ f.a f.r mlo mhi) rfl j_ zt rfl fun _=>Zz 3 ?_));refine o_ 0 [16,17,18] zk zs (aI_ rfl rfl rfl (ar_ (p:=f) (q:=(M_ f.a f.r mlo mhi)) rfl rfl) rfl fun r4 hr4=>Zz 6 ?_);refine cz_ ?_
   have hres:r4=true↔ga=M_ f.a f.r ga.lo ga.hi∧gb=M_ f.a f.r gb.lo gb.hi∧max ga.lo gb.lo≤min ga.hi gb.hi∧f=M_ f.a f.r (max ga.lo gb.lo) (min ga.hi gb.hi):=by
     refine Iff.trans ?_ (and_iff_right hsp0).symm;refine Iff.trans ?_ (and_iff_right hsp1).symm;clear hsp0 hsp1;rw[← hr4];clear hr4;unfold gP_ at hmv;dsimp only at hmv;split at hmv<;>simp only[Prod.mk.injEq]at hmv<;>obtain⟨⟨rfl,rfl⟩,rfl⟩:=hmv<;>(first|(simp_all;done)|(exfalso;omega;done)|exact⟨fun hq=>by simp_all,fun hq=>absurd hq.1 (by first|assumption|omega)⟩)
   exact T_ fW_ () (l_ rfl (Bool.eq_iff_iff.2 (hres.trans (ei_ wf wg wh).symm))) j_ zt
  refine E_ ax_ rfl fun b4=>Zz 3 ?_
  refine i_ 9 rfl zk (at_ (dh_ f.r kn q hkn es ec hE vb ab pv fv x f ga gb lad lcap) rfl j_ zf rfl (fun hb=>dk_ ((by rw[Bool.eq_false_iff];intro hq;exact hb ((ei_ wf wg wh).1 hq).2.1))) fun⟨_,hsp1⟩=>?_);try dsimp only
  refine Zz 3 ?_;refine i_ 10 rfl zk (n_ (kn_ (Fc.lo ga,Fc.hi ga) (Fc.lo gb,Fc.hi gb) (fa_ wg (eG_ hsp0).1) (fa_ wh (eG_ hsp1).1)) rfl j_ zt rfl fun⟨⟨⟨mlo,mhi⟩,me⟩,hmv⟩=>?_);dsimp only;refine Zz 3 ?_;refine o_ 2 [11,12,13] zk zs (Zz 4 ?_);refine i_ 15 rfl zk (z_ 0 an_ rfl rfl rfl rfl rfl rfl (Zz 3 ?_));refine o_ 0 [16] zk zs (Zz 6 ?_);refine o_ 16 [0,1,2] zk zs (Zi 1 (fun hr5=>?_) fun hr5=>?_)
  ·refine Zz 2 ?_
   refine o_ 0 [3,4,5,6,7,8,9,10,11,12,13,14,15,16,17,18] zk zs (Zz 20 ?_);refine cz_ ?_
   have hres:false=true↔ga=M_ f.a f.r ga.lo ga.hi∧gb=M_ f.a f.r gb.lo gb.hi∧max ga.lo gb.lo≤min ga.hi gb.hi∧f=M_ f.a f.r (max ga.lo gb.lo) (min ga.hi gb.hi):=by
     refine Iff.trans ?_ (and_iff_right hsp0).symm;refine Iff.trans ?_ (and_iff_right hsp1).symm;clear hsp0 hsp1;unfold gP_ at hmv;dsimp only at hmv;split at hmv<;>simp only[Prod.mk.injEq]at hmv<;>obtain⟨⟨rfl,rfl⟩,rfl⟩:=hmv<;>(first|(simp_all;done)|(exfalso;omega;done)|exact⟨fun hq=>by simp_all,fun hq=>absurd hq.1 (by first|assumption|omega)⟩)
   exact T_ fW_ () (l_ rfl (Bool.eq_iff_iff.2 (hres.trans (ei_ wf wg wh).symm))) j_ zt
  refine Zz 2 ?_;refine o_ 4 [3,4,5,6,7,8,9,10,11,12,13,14] zk zs (Zz 13 ?_);refine i_ 15 rfl zk (Y_ rfl rfl (n_ (go_ f.a f.r mlo mhi) rfl j_ zt rfl fun _=>Zz 3 ?_));refine o_ 0 [16,17,18] zk zs (aI_ rfl rfl rfl (ar_ (p:=f) (q:=(M_ f.a f.r mlo mhi)) rfl rfl) rfl fun r6 hr6=>Zz 6 ?_);refine cz_ ?_
  have hres:r6=true↔ga=M_ f.a f.r ga.lo ga.hi∧gb=M_ f.a f.r gb.lo gb.hi∧max ga.lo gb.lo≤min ga.hi gb.hi∧f=M_ f.a f.r (max ga.lo gb.lo) (min ga.hi gb.hi):=by
    refine Iff.trans ?_ (and_iff_right hsp0).symm;refine Iff.trans ?_ (and_iff_right hsp1).symm;clear hsp0 hsp1;rw[← hr6];clear hr6;unfold gP_ at hmv;dsimp only at hmv;split at hmv<;>simp only[Prod.mk.injEq]at hmv<;>obtain⟨⟨rfl,rfl⟩,rfl⟩:=hmv<;>(first|(simp_all;done)|(exfalso;omega;done)|exact⟨fun hq=>by simp_all,fun hq=>absurd hq.1 (by first|assumption|omega)⟩)
  exact T_ fW_ () (l_ rfl (Bool.eq_iff_iff.2 (hres.trans (ei_ wf wg wh).symm))) j_ zt
 refine E_ ax_ rfl fun b5=>Zz 3 ?_
 refine i_ 4 rfl zk (at_ (fN_ f.r kn q hkn es ec hE vb ab pv fv x f ga gb lad lcap) rfl j_ zf rfl (fun hb=>dk_ ((by rw[Bool.eq_false_iff];intro hq;exact hb ((ei_ wf wg wh).1 hq).1))) fun⟨_,hsp0⟩=>?_);try dsimp only
 refine Zz 3 ?_;refine i_ 9 rfl zk (at_ (dh_ f.r kn q hkn es ec hE vb ab pv fv x f ga gb lad lcap) rfl j_ zf rfl (fun hb=>dk_ ((by rw[Bool.eq_false_iff];intro hq;exact hb ((ei_ wf wg wh).1 hq).2.1))) fun⟨_,hsp1⟩=>?_);try dsimp only
 refine Zz 3 ?_;refine i_ 10 rfl zk (n_ (kn_ (Fc.lo ga,Fc.hi ga) (Fc.lo gb,Fc.hi gb) (fa_ wg (eG_ hsp0).1) (fa_ wh (eG_ hsp1).1)) rfl j_ zt rfl fun⟨⟨⟨mlo,mhi⟩,me⟩,hmv⟩=>?_);dsimp only;refine Zz 3 ?_;refine o_ 2 [11,12,13] zk zs (Zz 4 ?_);refine i_ 15 rfl zk (z_ 0 an_ rfl rfl rfl rfl rfl rfl (Zz 3 ?_));refine o_ 0 [16] zk zs (Zz 6 ?_);refine o_ 16 [0,1,2] zk zs (Zi 1 (fun hr7=>?_) fun hr7=>?_)
 ·refine Zz 2 ?_
  refine o_ 0 [3,4,5,6,7,8,9,10,11,12,13,14,15,16,17,18] zk zs (Zz 20 ?_);refine cz_ ?_
  have hres:false=true↔ga=M_ f.a f.r ga.lo ga.hi∧gb=M_ f.a f.r gb.lo gb.hi∧max ga.lo gb.lo≤min ga.hi gb.hi∧f=M_ f.a f.r (max ga.lo gb.lo) (min ga.hi gb.hi):=by
    refine Iff.trans ?_ (and_iff_right hsp0).symm;refine Iff.trans ?_ (and_iff_right hsp1).symm;clear hsp0 hsp1;unfold gP_ at hmv;dsimp only at hmv;split at hmv<;>simp only[Prod.mk.injEq]at hmv<;>obtain⟨⟨rfl,rfl⟩,rfl⟩:=hmv<;>(first|(simp_all;done)|(exfalso;omega;done)|exact⟨fun hq=>by simp_all,fun hq=>absurd hq.1 (by first|assumption|omega)⟩)
  exact T_ fW_ () (l_ rfl (Bool.eq_iff_iff.2 (hres.trans (ei_ wf wg wh).symm))) j_ zt
 refine Zz 2 ?_;refine o_ 4 [3,4,5,6,7,8,9,10,11,12,13,14] zk zs (Zz 13 ?_);refine i_ 15 rfl zk (Y_ rfl rfl (n_ (go_ f.a f.r mlo mhi) rfl j_ zt rfl fun _=>Zz 3 ?_));refine o_ 0 [16,17,18] zk zs (aI_ rfl rfl rfl (ar_ (p:=f) (q:=(M_ f.a f.r mlo mhi)) rfl rfl) rfl fun r8 hr8=>Zz 6 ?_);refine cz_ ?_
 have hres:r8=true↔ga=M_ f.a f.r ga.lo ga.hi∧gb=M_ f.a f.r gb.lo gb.hi∧max ga.lo gb.lo≤min ga.hi gb.hi∧f=M_ f.a f.r (max ga.lo gb.lo) (min ga.hi gb.hi):=by
   refine Iff.trans ?_ (and_iff_right hsp0).symm;refine Iff.trans ?_ (and_iff_right hsp1).symm;clear hsp0 hsp1;rw[← hr8];clear hr8;unfold gP_ at hmv;dsimp only at hmv;split at hmv<;>simp only[Prod.mk.injEq]at hmv<;>obtain⟨⟨rfl,rfl⟩,rfl⟩:=hmv<;>(first|(simp_all;done)|(exfalso;omega;done)|exact⟨fun hq=>by simp_all,fun hq=>absurd hq.1 (by first|assumption|omega)⟩)
 exact T_ fW_ () (l_ rfl (Bool.eq_iff_iff.2 (hres.trans (ei_ wf wg wh).symm))) j_ zt
set_option maxHeartbeats 1000000 in
theorem uk_ (kn:Str→Bool) (q:List Str) (hkn:∀ s,kn s=true↔s∈q) (es:Array MapEntry) (ec:Nat) (hE:SetE str es q) (vb ab:Nat) (pv fv:Value) (x:Pc) (f ga gb:Fc) (lad:Option Addr) (lcap:Nat) (wg:wf2 ga=true) (wh:wf2 gb=true):TriX Tryz.prog 142 #[.agg #[zp_ vb 0,.int .i64 f.kind,str f.a,str f.b,str f.r,.int .i64 f.lo,.int .i64 f.hi,.slice lad (List.length [ga,gb]) lcap,.int .i64 x.kind,str x.a,str x.b,str x.c,str x.r,str x.s,str x.t,.int .i64 x.lo,.int .i64 x.hi,.int .i64 x.frm]] [] [bJ_ vb (.cells (em_ pv ab fv).toArray 83 (0,0)),bJ_ ab (.map es ec),aC_ lad (List.flatMap Fc.cells [ga,gb])] (fun _:Unit=>.bool (eX_ kn x f ga gb)) (fun _=>[]) (fun _=>[]) (eX_ kn x f ga gb=false):=by
 refine bp_ Tryz.func142 rfl rfl Tryz.ntmps142 rfl fun v0=>?_;refine Zz 2 ?_;refine ah_ rfl rfl fun b1=>Zz 5 ?_
 refine o_ 6 [0,1,2,3,4,5,7,8,9,10,11,12] zk zs (Zz 3 ?_);refine B_ rfl (ab_ G_ y_ rfl rfl (fun v _ h=>O_ (n:=6) Fc.cells_len (by decide) (by exact h.2.2.1) (show [ga,gb][0]? = some _ from rfl)) (by omega) (by first|omega|(simp;done))) rfl ?_;refine Zz 1 ?_;refine B_ rfl (bm_ (ad:=lad) al_ rfl zf (K_ Fc.cells_len (show [ga,gb][0]? = some _ from rfl) 3 _ rfl)) rfl (Zz 3 ?_);refine B_ rfl (ab_ G_ y_ rfl rfl (fun v _ h=>O_ (n:=6) Fc.cells_len (by decide) (by exact h.2.2.1) (show [ga,gb][0]? = some _ from rfl)) (by omega) (by first|omega|(simp;done))) rfl ?_;refine Zz 1 ?_;refine B_ rfl (bm_ (ad:=lad) al_ rfl zf (K_ Fc.cells_len (show [ga,gb][0]? = some _ from rfl) 3 _ rfl)) rfl (bi_ ?_);refine mS_ [6,14,15] zk (by simp) ?_;intro i hi;simp only[List.mem_cons,List.not_mem_nil,or_false]at hi;rcases hi with rfl|rfl|rfl
 ·refine⟨_,rfl,?_⟩
  refine at_ (fN_ ga.r kn q hkn es ec hE vb ab pv fv x f ga gb lad lcap) rfl j_ zf rfl (fun hb=>dk_ ((by rw[Bool.eq_false_iff];intro hq;exact hb ((aL_ wg wh).1 hq).1))) fun⟨_,hsp0⟩=>?_;try dsimp only
  refine Zz 3 ?_;refine mS_ [13,14,15] zk (by simp) ?_;intro i hi;simp only[List.mem_cons,List.not_mem_nil,or_false]at hi;rcases hi with rfl|rfl|rfl
  ·refine⟨_,rfl,?_⟩
   refine at_ (dh_ ga.r kn q hkn es ec hE vb ab pv fv x f ga gb lad lcap) rfl j_ zf rfl (fun hb=>dk_ ((by rw[Bool.eq_false_iff];intro hq;exact hb ((aL_ wg wh).1 hq).2.1))) fun⟨_,hsp1⟩=>?_;try dsimp only
   refine Zz 3 ?_;refine bV_ 14 15 rfl rfl zk ?_ ?_
   ·refine E_ ax_ rfl fun b2=>Zz 3 ?_
    refine i_ 15 rfl zk (E_ ax_ rfl fun b3=>Zz 3 ?_);refine i_ 16 rfl zk (z_ 1 an_ rfl rfl rfl rfl rfl rfl (Zz 3 ?_));refine i_ 17 rfl zk (z_ 0 an_ rfl rfl rfl rfl rfl rfl (Zz 7 ?_));refine o_ 16 [0,1,2,3,4,5] zk zs (Zi 4 (fun hr1=>?_) fun hr1=>?_)
    ·refine Zz 2 ?_
     refine o_ 9 [6,7,8,9,10,11,12] zk zs (Zi 4 (fun hr2=>?_) fun hr2=>?_)
     ·refine Zz 3 ?_
      refine o_ 0 [13,14,15,16,17,18,19,20,21] zk zs (Zz 13 ?_);refine cz_ ?_
      have hres:false=true↔ga=M_ f.a ga.r ga.lo ga.hi∧gb=M_ f.a ga.r gb.lo gb.hi∧(Fc.hi ga<Fc.lo gb∨Fc.hi gb<Fc.lo ga)∧f=W_ f.a [33]:=by
        refine Iff.trans ?_ (and_iff_right hsp0).symm;refine Iff.trans ?_ (and_iff_right hsp1).symm;clear hsp0 hsp1;simp[*]
      exact T_ ay_ () (l_ rfl (Bool.eq_iff_iff.2 (hres.trans (aL_ wg wh).symm))) j_ zt
     refine Zz 3 ?_;refine o_ 4 [13,14,15,16,17] zk zs (Zz 6 ?_);refine i_ 18 rfl zk (Y_ rfl rfl (n_ (bN_ f.a [33]) rfl j_ zt rfl fun _=>Zz 3 ?_));refine o_ 0 [19,20,21] zk zs (aI_ rfl rfl rfl (ar_ (p:=f) (q:=(W_ f.a [33])) rfl rfl) rfl fun r3 hr3=>Zz 6 ?_);refine cz_ ?_
     have hres:r3=true↔ga=M_ f.a ga.r ga.lo ga.hi∧gb=M_ f.a ga.r gb.lo gb.hi∧(Fc.hi ga<Fc.lo gb∨Fc.hi gb<Fc.lo ga)∧f=W_ f.a [33]:=by
       refine Iff.trans ?_ (and_iff_right hsp0).symm;refine Iff.trans ?_ (and_iff_right hsp1).symm;clear hsp0 hsp1;rw[← hr3];clear hr3;simp[*]
     exact T_ ay_ () (l_ rfl (Bool.eq_iff_iff.2 (hres.trans (aL_ wg wh).symm))) j_ zt
    refine Zz 2 ?_;refine o_ 4 [6,7,8,9,10,11,12,13,14,15,16,17] zk zs (Zz 13 ?_);refine i_ 18 rfl zk (Y_ rfl rfl (n_ (bN_ f.a [33]) rfl j_ zt rfl fun _=>Zz 3 ?_));refine o_ 0 [19,20,21] zk zs (aI_ rfl rfl rfl (ar_ (p:=f) (q:=(W_ f.a [33])) rfl rfl) rfl fun r4 hr4=>Zz 6 ?_);refine cz_ ?_
    have hres:r4=true↔ga=M_ f.a ga.r ga.lo ga.hi∧gb=M_ f.a ga.r gb.lo gb.hi∧(Fc.hi ga<Fc.lo gb∨Fc.hi gb<Fc.lo ga)∧f=W_ f.a [33]:=by
      refine Iff.trans ?_ (and_iff_right hsp0).symm;refine Iff.trans ?_ (and_iff_right hsp1).symm;clear hsp0 hsp1;rw[← hr4];clear hr4;simp[*]
    exact T_ ay_ () (l_ rfl (Bool.eq_iff_iff.2 (hres.trans (aL_ wg wh).symm))) j_ zt
   refine E_ ax_ rfl fun b4=>Zz 3 ?_
   refine i_ 14 rfl zk (E_ ax_ rfl fun b5=>Zz 3 ?_);refine i_ 16 rfl zk (z_ 0 an_ rfl rfl rfl rfl rfl rfl (Zz 3 ?_));refine i_ 17 rfl zk (z_ 1 an_ rfl rfl rfl rfl rfl rfl (Zz 7 ?_));refine o_ 16 [0,1,2,3,4,5] zk zs (Zi 4 (fun hr5=>?_) fun hr5=>?_)
   ·refine Zz 2 ?_
    refine o_ 9 [6,7,8,9,10,11,12] zk zs (Zi 4 (fun hr6=>?_) fun hr6=>?_)
    ·refine Zz 3 ?_
     refine o_ 0 [13,14,15,16,17,18,19,20,21] zk zs (Zz 13 ?_);refine cz_ ?_
     have hres:false=true↔ga=M_ f.a ga.r ga.lo ga.hi∧gb=M_ f.a ga.r gb.lo gb.hi∧(Fc.hi ga<Fc.lo gb∨Fc.hi gb<Fc.lo ga)∧f=W_ f.a [33]:=by
       refine Iff.trans ?_ (and_iff_right hsp0).symm;refine Iff.trans ?_ (and_iff_right hsp1).symm;clear hsp0 hsp1;simp[*]
     exact T_ ay_ () (l_ rfl (Bool.eq_iff_iff.2 (hres.trans (aL_ wg wh).symm))) j_ zt
    refine Zz 3 ?_;refine o_ 4 [13,14,15,16,17] zk zs (Zz 6 ?_);refine i_ 18 rfl zk (Y_ rfl rfl (n_ (bN_ f.a [33]) rfl j_ zt rfl fun _=>Zz 3 ?_));refine o_ 0 [19,20,21] zk zs (aI_ rfl rfl rfl (ar_ (p:=f) (q:=(W_ f.a [33])) rfl rfl) rfl fun r7 hr7=>Zz 6 ?_);refine cz_ ?_
    have hres:r7=true↔ga=M_ f.a ga.r ga.lo ga.hi∧gb=M_ f.a ga.r gb.lo gb.hi∧(Fc.hi ga<Fc.lo gb∨Fc.hi gb<Fc.lo ga)∧f=W_ f.a [33]:=by
      refine Iff.trans ?_ (and_iff_right hsp0).symm;refine Iff.trans ?_ (and_iff_right hsp1).symm;clear hsp0 hsp1;rw[← hr7];clear hr7;simp[*]
    exact T_ ay_ () (l_ rfl (Bool.eq_iff_iff.2 (hres.trans (aL_ wg wh).symm))) j_ zt
   refine Zz 2 ?_;refine o_ 4 [6,7,8,9,10,11,12,13,14,15,16,17] zk zs (Zz 13 ?_);refine i_ 18 rfl zk (Y_ rfl rfl (n_ (bN_ f.a [33]) rfl j_ zt rfl fun _=>Zz 3 ?_));refine o_ 0 [19,20,21] zk zs (aI_ rfl rfl rfl (ar_ (p:=f) (q:=(W_ f.a [33])) rfl rfl) rfl fun r8 hr8=>Zz 6 ?_);refine cz_ ?_
   have hres:r8=true↔ga=M_ f.a ga.r ga.lo ga.hi∧gb=M_ f.a ga.r gb.lo gb.hi∧(Fc.hi ga<Fc.lo gb∨Fc.hi gb<Fc.lo ga)∧f=W_ f.a [33]:=by
     refine Iff.trans ?_ (and_iff_right hsp0).symm;refine Iff.trans ?_ (and_iff_right hsp1).symm;clear hsp0 hsp1;rw[← hr8];clear hr8;simp[*]
   exact T_ ay_ () (l_ rfl (Bool.eq_iff_iff.2 (hres.trans (aL_ wg wh).symm))) j_ zt
  ·refine⟨_,rfl,?_⟩
   refine E_ ax_ rfl fun b6=>Zz 3 ?_
   refine bV_ 13 15 rfl rfl zk ?_ ?_
   ·refine at_ (dh_ ga.r kn q hkn es ec hE vb ab pv fv x f ga gb lad lcap) rfl j_ zf rfl (fun hb=>dk_ ((by rw[Bool.eq_false_iff];intro hq;exact hb ((aL_ wg wh).1 hq).2.1))) fun⟨_,hsp1⟩=>?_
    try dsimp only
    refine Zz 3 ?_;refine i_ 15 rfl zk (E_ ax_ rfl fun b7=>Zz 3 ?_);refine i_ 16 rfl zk (z_ 1 an_ rfl rfl rfl rfl rfl rfl (Zz 3 ?_));refine i_ 17 rfl zk (z_ 0 an_ rfl rfl rfl rfl rfl rfl (Zz 7 ?_));refine o_ 16 [0,1,2,3,4,5] zk zs (Zi 4 (fun hr9=>?_) fun hr9=>?_)
    ·refine Zz 2 ?_
     refine o_ 9 [6,7,8,9,10,11,12] zk zs (Zi 4 (fun hr10=>?_) fun hr10=>?_)
     ·refine Zz 3 ?_
      refine o_ 0 [13,14,15,16,17,18,19,20,21] zk zs (Zz 13 ?_);refine cz_ ?_
      have hres:false=true↔ga=M_ f.a ga.r ga.lo ga.hi∧gb=M_ f.a ga.r gb.lo gb.hi∧(Fc.hi ga<Fc.lo gb∨Fc.hi gb<Fc.lo ga)∧f=W_ f.a [33]:=by
        refine Iff.trans ?_ (and_iff_right hsp0).symm;refine Iff.trans ?_ (and_iff_right hsp1).symm;clear hsp0 hsp1;simp[*]
      exact T_ ay_ () (l_ rfl (Bool.eq_iff_iff.2 (hres.trans (aL_ wg wh).symm))) j_ zt
     refine Zz 3 ?_;refine o_ 4 [13,14,15,16,17] zk zs (Zz 6 ?_);refine i_ 18 rfl zk (Y_ rfl rfl (n_ (bN_ f.a [33]) rfl j_ zt rfl fun _=>Zz 3 ?_));refine o_ 0 [19,20,21] zk zs (aI_ rfl rfl rfl (ar_ (p:=f) (q:=(W_ f.a [33])) rfl rfl) rfl fun r11 hr11=>Zz 6 ?_);refine cz_ ?_
     have hres:r11=true↔ga=M_ f.a ga.r ga.lo ga.hi∧gb=M_ f.a ga.r gb.lo gb.hi∧(Fc.hi ga<Fc.lo gb∨Fc.hi gb<Fc.lo ga)∧f=W_ f.a [33]:=by
       refine Iff.trans ?_ (and_iff_right hsp0).symm;refine Iff.trans ?_ (and_iff_right hsp1).symm;clear hsp0 hsp1;rw[← hr11];clear hr11;simp[*]
     exact T_ ay_ () (l_ rfl (Bool.eq_iff_iff.2 (hres.trans (aL_ wg wh).symm))) j_ zt
    refine Zz 2 ?_;refine o_ 4 [6,7,8,9,10,11,12,13,14,15,16,17] zk zs (Zz 13 ?_);refine i_ 18 rfl zk (Y_ rfl rfl (n_ (bN_ f.a [33]) rfl j_ zt rfl fun _=>Zz 3 ?_));refine o_ 0 [19,20,21] zk zs (aI_ rfl rfl rfl (ar_ (p:=f) (q:=(W_ f.a [33])) rfl rfl) rfl fun r12 hr12=>Zz 6 ?_);refine cz_ ?_
    have hres:r12=true↔ga=M_ f.a ga.r ga.lo ga.hi∧gb=M_ f.a ga.r gb.lo gb.hi∧(Fc.hi ga<Fc.lo gb∨Fc.hi gb<Fc.lo ga)∧f=W_ f.a [33]:=by
      refine Iff.trans ?_ (and_iff_right hsp0).symm;refine Iff.trans ?_ (and_iff_right hsp1).symm;clear hsp0 hsp1;rw[← hr12];clear hr12;simp[*]
    exact T_ ay_ () (l_ rfl (Bool.eq_iff_iff.2 (hres.trans (aL_ wg wh).symm))) j_ zt
   refine E_ ax_ rfl fun b8=>Zz 3 ?_
   refine i_ 13 rfl zk (at_ (dh_ ga.r kn q hkn es ec hE vb ab pv fv x f ga gb lad lcap) rfl j_ zf rfl (fun hb=>dk_ ((by rw[Bool.eq_false_iff];intro hq;exact hb ((aL_ wg wh).1 hq).2.1))) fun⟨_,hsp1⟩=>?_);try dsimp only
   refine Zz 3 ?_;refine i_ 16 rfl zk (z_ 1 an_ rfl rfl rfl rfl rfl rfl (Zz 3 ?_));refine i_ 17 rfl zk (z_ 0 an_ rfl rfl rfl rfl rfl rfl (Zz 7 ?_));refine o_ 16 [0,1,2,3,4,5] zk zs (Zi 4 (fun hr13=>?_) fun hr13=>?_)
   ·refine Zz 2 ?_
    refine o_ 9 [6,7,8,9,10,11,12] zk zs (Zi 4 (fun hr14=>?_) fun hr14=>?_)
    ·refine Zz 3 ?_
     refine o_ 0 [13,14,15,16,17,18,19,20,21] zk zs (Zz 13 ?_);refine cz_ ?_
     have hres:false=true↔ga=M_ f.a ga.r ga.lo ga.hi∧gb=M_ f.a ga.r gb.lo gb.hi∧(Fc.hi ga<Fc.lo gb∨Fc.hi gb<Fc.lo ga)∧f=W_ f.a [33]:=by
       refine Iff.trans ?_ (and_iff_right hsp0).symm;refine Iff.trans ?_ (and_iff_right hsp1).symm;clear hsp0 hsp1;simp[*]
     exact T_ ay_ () (l_ rfl (Bool.eq_iff_iff.2 (hres.trans (aL_ wg wh).symm))) j_ zt
    refine Zz 3 ?_;refine o_ 4 [13,14,15,16,17] zk zs (Zz 6 ?_);refine i_ 18 rfl zk (Y_ rfl rfl (n_ (bN_ f.a [33]) rfl j_ zt rfl fun _=>Zz 3 ?_));refine o_ 0 [19,20,21] zk zs (aI_ rfl rfl rfl (ar_ (p:=f) (q:=(W_ f.a [33])) rfl rfl) rfl fun r15 hr15=>Zz 6 ?_);refine cz_ ?_
    have hres:r15=true↔ga=M_ f.a ga.r ga.lo ga.hi∧gb=M_ f.a ga.r gb.lo gb.hi∧(Fc.hi ga<Fc.lo gb∨Fc.hi gb<Fc.lo ga)∧f=W_ f.a [33]:=by
      refine Iff.trans ?_ (and_iff_right hsp0).symm;refine Iff.trans ?_ (and_iff_right hsp1).symm;clear hsp0 hsp1;rw[← hr15];clear hr15;simp[*]
    exact T_ ay_ () (l_ rfl (Bool.eq_iff_iff.2 (hres.trans (aL_ wg wh).symm))) j_ zt
   refine Zz 2 ?_;refine o_ 4 [6,7,8,9,10,11,12,13,14,15,16,17] zk zs (Zz 13 ?_);refine i_ 18 rfl zk (Y_ rfl rfl (n_ (bN_ f.a [33]) rfl j_ zt rfl fun _=>Zz 3 ?_));refine o_ 0 [19,20,21] zk zs (aI_ rfl rfl rfl (ar_ (p:=f) (q:=(W_ f.a [33])) rfl rfl) rfl fun r16 hr16=>Zz 6 ?_);refine cz_ ?_
   have hres:r16=true↔ga=M_ f.a ga.r ga.lo ga.hi∧gb=M_ f.a ga.r gb.lo gb.hi∧(Fc.hi ga<Fc.lo gb∨Fc.hi gb<Fc.lo ga)∧f=W_ f.a [33]:=by
     refine Iff.trans ?_ (and_iff_right hsp0).symm;refine Iff.trans ?_ (and_iff_right hsp1).symm;clear hsp0 hsp1;rw[← hr16];clear hr16;simp[*]
   exact T_ ay_ () (l_ rfl (Bool.eq_iff_iff.2 (hres.trans (aL_ wg wh).symm))) j_ zt
  refine⟨_,rfl,?_⟩;refine E_ ax_ rfl fun b9=>Zz 3 ?_
  refine bV_ 13 14 rfl rfl zk ?_ ?_
  ·refine at_ (dh_ ga.r kn q hkn es ec hE vb ab pv fv x f ga gb lad lcap) rfl j_ zf rfl (fun hb=>dk_ ((by rw[Bool.eq_false_iff];intro hq;exact hb ((aL_ wg wh).1 hq).2.1))) fun⟨_,hsp1⟩=>?_
   try dsimp only
   refine Zz 3 ?_;refine i_ 14 rfl zk (E_ ax_ rfl fun b10=>Zz 3 ?_);refine i_ 16 rfl zk (z_ 0 an_ rfl rfl rfl rfl rfl rfl (Zz 3 ?_));refine i_ 17 rfl zk (z_ 1 an_ rfl rfl rfl rfl rfl rfl (Zz 7 ?_));refine o_ 16 [0,1,2,3,4,5] zk zs (Zi 4 (fun hr17=>?_) fun hr17=>?_)
   ·refine Zz 2 ?_
    refine o_ 9 [6,7,8,9,10,11,12] zk zs (Zi 4 (fun hr18=>?_) fun hr18=>?_)
    ·refine Zz 3 ?_
     refine o_ 0 [13,14,15,16,17,18,19,20,21] zk zs (Zz 13 ?_);refine cz_ ?_
     have hres:false=true↔ga=M_ f.a ga.r ga.lo ga.hi∧gb=M_ f.a ga.r gb.lo gb.hi∧(Fc.hi ga<Fc.lo gb∨Fc.hi gb<Fc.lo ga)∧f=W_ f.a [33]:=by
       refine Iff.trans ?_ (and_iff_right hsp0).symm;refine Iff.trans ?_ (and_iff_right hsp1).symm;clear hsp0 hsp1;simp[*]
     exact T_ ay_ () (l_ rfl (Bool.eq_iff_iff.2 (hres.trans (aL_ wg wh).symm))) j_ zt
    refine Zz 3 ?_;refine o_ 4 [13,14,15,16,17] zk zs (Zz 6 ?_);refine i_ 18 rfl zk (Y_ rfl rfl (n_ (bN_ f.a [33]) rfl j_ zt rfl fun _=>Zz 3 ?_));refine o_ 0 [19,20,21] zk zs (aI_ rfl rfl rfl (ar_ (p:=f) (q:=(W_ f.a [33])) rfl rfl) rfl fun r19 hr19=>Zz 6 ?_);refine cz_ ?_
    have hres:r19=true↔ga=M_ f.a ga.r ga.lo ga.hi∧gb=M_ f.a ga.r gb.lo gb.hi∧(Fc.hi ga<Fc.lo gb∨Fc.hi gb<Fc.lo ga)∧f=W_ f.a [33]:=by
      refine Iff.trans ?_ (and_iff_right hsp0).symm;refine Iff.trans ?_ (and_iff_right hsp1).symm;clear hsp0 hsp1;rw[← hr19];clear hr19;simp[*]
    exact T_ ay_ () (l_ rfl (Bool.eq_iff_iff.2 (hres.trans (aL_ wg wh).symm))) j_ zt
   refine Zz 2 ?_;refine o_ 4 [6,7,8,9,10,11,12,13,14,15,16,17] zk zs (Zz 13 ?_);refine i_ 18 rfl zk (Y_ rfl rfl (n_ (bN_ f.a [33]) rfl j_ zt rfl fun _=>Zz 3 ?_));refine o_ 0 [19,20,21] zk zs (aI_ rfl rfl rfl (ar_ (p:=f) (q:=(W_ f.a [33])) rfl rfl) rfl fun r20 hr20=>Zz 6 ?_);refine cz_ ?_
   have hres:r20=true↔ga=M_ f.a ga.r ga.lo ga.hi∧gb=M_ f.a ga.r gb.lo gb.hi∧(Fc.hi ga<Fc.lo gb∨Fc.hi gb<Fc.lo ga)∧f=W_ f.a [33]:=by
     refine Iff.trans ?_ (and_iff_right hsp0).symm;refine Iff.trans ?_ (and_iff_right hsp1).symm;clear hsp0 hsp1;rw[← hr20];clear hr20;simp[*]
   exact T_ ay_ () (l_ rfl (Bool.eq_iff_iff.2 (hres.trans (aL_ wg wh).symm))) j_ zt
  refine E_ ax_ rfl fun b11=>Zz 3 ?_
  refine i_ 13 rfl zk (at_ (dh_ ga.r kn q hkn es ec hE vb ab pv fv x f ga gb lad lcap) rfl j_ zf rfl (fun hb=>dk_ ((by rw[Bool.eq_false_iff];intro hq;exact hb ((aL_ wg wh).1 hq).2.1))) fun⟨_,hsp1⟩=>?_);try dsimp only
  refine Zz 3 ?_;refine i_ 16 rfl zk (z_ 0 an_ rfl rfl rfl rfl rfl rfl (Zz 3 ?_));refine i_ 17 rfl zk (z_ 1 an_ rfl rfl rfl rfl rfl rfl (Zz 7 ?_));refine o_ 16 [0,1,2,3,4,5] zk zs (Zi 4 (fun hr21=>?_) fun hr21=>?_)
  ·refine Zz 2 ?_
   refine o_ 9 [6,7,8,9,10,11,12] zk zs (Zi 4 (fun hr22=>?_) fun hr22=>?_)
   ·refine Zz 3 ?_
    refine o_ 0 [13,14,15,16,17,18,19,20,21] zk zs (Zz 13 ?_);refine cz_ ?_
    have hres:false=true↔ga=M_ f.a ga.r ga.lo ga.hi∧gb=M_ f.a ga.r gb.lo gb.hi∧(Fc.hi ga<Fc.lo gb∨Fc.hi gb<Fc.lo ga)∧f=W_ f.a [33]:=by
      refine Iff.trans ?_ (and_iff_right hsp0).symm;refine Iff.trans ?_ (and_iff_right hsp1).symm;clear hsp0 hsp1;simp[*]
    exact T_ ay_ () (l_ rfl (Bool.eq_iff_iff.2 (hres.trans (aL_ wg wh).symm))) j_ zt
   refine Zz 3 ?_;refine o_ 4 [13,14,15,16,17] zk zs (Zz 6 ?_);refine i_ 18 rfl zk (Y_ rfl rfl (n_ (bN_ f.a [33]) rfl j_ zt rfl fun _=>Zz 3 ?_));refine o_ 0 [19,20,21] zk zs (aI_ rfl rfl rfl (ar_ (p:=f) (q:=(W_ f.a [33])) rfl rfl) rfl fun r23 hr23=>Zz 6 ?_);refine cz_ ?_
   have hres:r23=true↔ga=M_ f.a ga.r ga.lo ga.hi∧gb=M_ f.a ga.r gb.lo gb.hi∧(Fc.hi ga<Fc.lo gb∨Fc.hi gb<Fc.lo ga)∧f=W_ f.a [33]:=by
     refine Iff.trans ?_ (and_iff_right hsp0).symm;refine Iff.trans ?_ (and_iff_right hsp1).symm;clear hsp0 hsp1;rw[← hr23];clear hr23;simp[*]
   exact T_ ay_ () (l_ rfl (Bool.eq_iff_iff.2 (hres.trans (aL_ wg wh).symm))) j_ zt
  refine Zz 2 ?_;refine o_ 4 [6,7,8,9,10,11,12,13,14,15,16,17] zk zs (Zz 13 ?_);refine i_ 18 rfl zk (Y_ rfl rfl (n_ (bN_ f.a [33]) rfl j_ zt rfl fun _=>Zz 3 ?_));refine o_ 0 [19,20,21] zk zs (aI_ rfl rfl rfl (ar_ (p:=f) (q:=(W_ f.a [33])) rfl rfl) rfl fun r24 hr24=>Zz 6 ?_);refine cz_ ?_
  have hres:r24=true↔ga=M_ f.a ga.r ga.lo ga.hi∧gb=M_ f.a ga.r gb.lo gb.hi∧(Fc.hi ga<Fc.lo gb∨Fc.hi gb<Fc.lo ga)∧f=W_ f.a [33]:=by
    refine Iff.trans ?_ (and_iff_right hsp0).symm;refine Iff.trans ?_ (and_iff_right hsp1).symm;clear hsp0 hsp1;rw[← hr24];clear hr24;simp[*]
  exact T_ ay_ () (l_ rfl (Bool.eq_iff_iff.2 (hres.trans (aL_ wg wh).symm))) j_ zt
 ·refine⟨_,rfl,?_⟩
  refine E_ ax_ rfl fun b12=>Zz 3 ?_
  refine bV_ 6 15 rfl rfl zk ?_ ?_
  ·refine at_ (fN_ ga.r kn q hkn es ec hE vb ab pv fv x f ga gb lad lcap) rfl j_ zf rfl (fun hb=>dk_ ((by rw[Bool.eq_false_iff];intro hq;exact hb ((aL_ wg wh).1 hq).1))) fun⟨_,hsp0⟩=>?_
   try dsimp only
   refine Zz 3 ?_;refine bV_ 13 15 rfl rfl zk ?_ ?_
   ·refine at_ (dh_ ga.r kn q hkn es ec hE vb ab pv fv x f ga gb lad lcap) rfl j_ zf rfl (fun hb=>dk_ ((by rw[Bool.eq_false_iff];intro hq;exact hb ((aL_ wg wh).1 hq).2.1))) fun⟨_,hsp1⟩=>?_
    try dsimp only
    refine Zz 3 ?_;refine i_ 15 rfl zk (E_ ax_ rfl fun b13=>Zz 3 ?_);refine i_ 16 rfl zk (z_ 1 an_ rfl rfl rfl rfl rfl rfl (Zz 3 ?_));refine i_ 17 rfl zk (z_ 0 an_ rfl rfl rfl rfl rfl rfl (Zz 7 ?_));refine o_ 16 [0,1,2,3,4,5] zk zs (Zi 4 (fun hr25=>?_) fun hr25=>?_)
    ·refine Zz 2 ?_
     refine o_ 9 [6,7,8,9,10,11,12] zk zs (Zi 4 (fun hr26=>?_) fun hr26=>?_)
     ·refine Zz 3 ?_
      refine o_ 0 [13,14,15,16,17,18,19,20,21] zk zs (Zz 13 ?_);refine cz_ ?_
      have hres:false=true↔ga=M_ f.a ga.r ga.lo ga.hi∧gb=M_ f.a ga.r gb.lo gb.hi∧(Fc.hi ga<Fc.lo gb∨Fc.hi gb<Fc.lo ga)∧f=W_ f.a [33]:=by
        refine Iff.trans ?_ (and_iff_right hsp0).symm;refine Iff.trans ?_ (and_iff_right hsp1).symm;clear hsp0 hsp1;simp[*]
      exact T_ ay_ () (l_ rfl (Bool.eq_iff_iff.2 (hres.trans (aL_ wg wh).symm))) j_ zt
     refine Zz 3 ?_;refine o_ 4 [13,14,15,16,17] zk zs (Zz 6 ?_);refine i_ 18 rfl zk (Y_ rfl rfl (n_ (bN_ f.a [33]) rfl j_ zt rfl fun _=>Zz 3 ?_));refine o_ 0 [19,20,21] zk zs (aI_ rfl rfl rfl (ar_ (p:=f) (q:=(W_ f.a [33])) rfl rfl) rfl fun r27 hr27=>Zz 6 ?_);refine cz_ ?_
     have hres:r27=true↔ga=M_ f.a ga.r ga.lo ga.hi∧gb=M_ f.a ga.r gb.lo gb.hi∧(Fc.hi ga<Fc.lo gb∨Fc.hi gb<Fc.lo ga)∧f=W_ f.a [33]:=by
       refine Iff.trans ?_ (and_iff_right hsp0).symm;refine Iff.trans ?_ (and_iff_right hsp1).symm;clear hsp0 hsp1;rw[← hr27];clear hr27;simp[*]
     exact T_ ay_ () (l_ rfl (Bool.eq_iff_iff.2 (hres.trans (aL_ wg wh).symm))) j_ zt
    refine Zz 2 ?_;refine o_ 4 [6,7,8,9,10,11,12,13,14,15,16,17] zk zs (Zz 13 ?_);refine i_ 18 rfl zk (Y_ rfl rfl (n_ (bN_ f.a [33]) rfl j_ zt rfl fun _=>Zz 3 ?_));refine o_ 0 [19,20,21] zk zs (aI_ rfl rfl rfl (ar_ (p:=f) (q:=(W_ f.a [33])) rfl rfl) rfl fun r28 hr28=>Zz 6 ?_);refine cz_ ?_
    have hres:r28=true↔ga=M_ f.a ga.r ga.lo ga.hi∧gb=M_ f.a ga.r gb.lo gb.hi∧(Fc.hi ga<Fc.lo gb∨Fc.hi gb<Fc.lo ga)∧f=W_ f.a [33]:=by
      refine Iff.trans ?_ (and_iff_right hsp0).symm;refine Iff.trans ?_ (and_iff_right hsp1).symm;clear hsp0 hsp1;rw[← hr28];clear hr28;simp[*]
    exact T_ ay_ () (l_ rfl (Bool.eq_iff_iff.2 (hres.trans (aL_ wg wh).symm))) j_ zt
   refine E_ ax_ rfl fun b14=>Zz 3 ?_
   refine i_ 13 rfl zk (at_ (dh_ ga.r kn q hkn es ec hE vb ab pv fv x f ga gb lad lcap) rfl j_ zf rfl (fun hb=>dk_ ((by rw[Bool.eq_false_iff];intro hq;exact hb ((aL_ wg wh).1 hq).2.1))) fun⟨_,hsp1⟩=>?_);try dsimp only
   refine Zz 3 ?_;refine i_ 16 rfl zk (z_ 1 an_ rfl rfl rfl rfl rfl rfl (Zz 3 ?_));refine i_ 17 rfl zk (z_ 0 an_ rfl rfl rfl rfl rfl rfl (Zz 7 ?_));refine o_ 16 [0,1,2,3,4,5] zk zs (Zi 4 (fun hr29=>?_) fun hr29=>?_)
   ·refine Zz 2 ?_
    refine o_ 9 [6,7,8,9,10,11,12] zk zs (Zi 4 (fun hr30=>?_) fun hr30=>?_)
    ·refine Zz 3 ?_
     refine o_ 0 [13,14,15,16,17,18,19,20,21] zk zs (Zz 13 ?_);refine cz_ ?_
     have hres:false=true↔ga=M_ f.a ga.r ga.lo ga.hi∧gb=M_ f.a ga.r gb.lo gb.hi∧(Fc.hi ga<Fc.lo gb∨Fc.hi gb<Fc.lo ga)∧f=W_ f.a [33]:=by
       refine Iff.trans ?_ (and_iff_right hsp0).symm;refine Iff.trans ?_ (and_iff_right hsp1).symm;clear hsp0 hsp1;simp[*]
     exact T_ ay_ () (l_ rfl (Bool.eq_iff_iff.2 (hres.trans (aL_ wg wh).symm))) j_ zt
    refine Zz 3 ?_;refine o_ 4 [13,14,15,16,17] zk zs (Zz 6 ?_);refine i_ 18 rfl zk (Y_ rfl rfl (n_ (bN_ f.a [33]) rfl j_ zt rfl fun _=>Zz 3 ?_));refine o_ 0 [19,20,21] zk zs (aI_ rfl rfl rfl (ar_ (p:=f) (q:=(W_ f.a [33])) rfl rfl) rfl fun r31 hr31=>Zz 6 ?_);refine cz_ ?_
    have hres:r31=true↔ga=M_ f.a ga.r ga.lo ga.hi∧gb=M_ f.a ga.r gb.lo gb.hi∧(Fc.hi ga<Fc.lo gb∨Fc.hi gb<Fc.lo ga)∧f=W_ f.a [33]:=by
      refine Iff.trans ?_ (and_iff_right hsp0).symm;refine Iff.trans ?_ (and_iff_right hsp1).symm;clear hsp0 hsp1;rw[← hr31];clear hr31;simp[*]
    exact T_ ay_ () (l_ rfl (Bool.eq_iff_iff.2 (hres.trans (aL_ wg wh).symm))) j_ zt
   refine Zz 2 ?_;refine o_ 4 [6,7,8,9,10,11,12,13,14,15,16,17] zk zs (Zz 13 ?_);refine i_ 18 rfl zk (Y_ rfl rfl (n_ (bN_ f.a [33]) rfl j_ zt rfl fun _=>Zz 3 ?_));refine o_ 0 [19,20,21] zk zs (aI_ rfl rfl rfl (ar_ (p:=f) (q:=(W_ f.a [33])) rfl rfl) rfl fun r32 hr32=>Zz 6 ?_);refine cz_ ?_
   have hres:r32=true↔ga=M_ f.a ga.r ga.lo ga.hi∧gb=M_ f.a ga.r gb.lo gb.hi∧(Fc.hi ga<Fc.lo gb∨Fc.hi gb<Fc.lo ga)∧f=W_ f.a [33]:=by
     refine Iff.trans ?_ (and_iff_right hsp0).symm;refine Iff.trans ?_ (and_iff_right hsp1).symm;clear hsp0 hsp1;rw[← hr32];clear hr32;simp[*]
   exact T_ ay_ () (l_ rfl (Bool.eq_iff_iff.2 (hres.trans (aL_ wg wh).symm))) j_ zt
  refine E_ ax_ rfl fun b15=>Zz 3 ?_
  refine i_ 6 rfl zk (at_ (fN_ ga.r kn q hkn es ec hE vb ab pv fv x f ga gb lad lcap) rfl j_ zf rfl (fun hb=>dk_ ((by rw[Bool.eq_false_iff];intro hq;exact hb ((aL_ wg wh).1 hq).1))) fun⟨_,hsp0⟩=>?_);try dsimp only
  refine Zz 3 ?_;refine i_ 13 rfl zk (at_ (dh_ ga.r kn q hkn es ec hE vb ab pv fv x f ga gb lad lcap) rfl j_ zf rfl (fun hb=>dk_ ((by rw[Bool.eq_false_iff];intro hq;exact hb ((aL_ wg wh).1 hq).2.1))) fun⟨_,hsp1⟩=>?_);try dsimp only
  refine Zz 3 ?_;refine i_ 16 rfl zk (z_ 1 an_ rfl rfl rfl rfl rfl rfl (Zz 3 ?_));refine i_ 17 rfl zk (z_ 0 an_ rfl rfl rfl rfl rfl rfl (Zz 7 ?_));refine o_ 16 [0,1,2,3,4,5] zk zs (Zi 4 (fun hr33=>?_) fun hr33=>?_)
  ·refine Zz 2 ?_
   refine o_ 9 [6,7,8,9,10,11,12] zk zs (Zi 4 (fun hr34=>?_) fun hr34=>?_)
   ·refine Zz 3 ?_
    refine o_ 0 [13,14,15,16,17,18,19,20,21] zk zs (Zz 13 ?_);refine cz_ ?_
    have hres:false=true↔ga=M_ f.a ga.r ga.lo ga.hi∧gb=M_ f.a ga.r gb.lo gb.hi∧(Fc.hi ga<Fc.lo gb∨Fc.hi gb<Fc.lo ga)∧f=W_ f.a [33]:=by
      refine Iff.trans ?_ (and_iff_right hsp0).symm;refine Iff.trans ?_ (and_iff_right hsp1).symm;clear hsp0 hsp1;simp[*]
    exact T_ ay_ () (l_ rfl (Bool.eq_iff_iff.2 (hres.trans (aL_ wg wh).symm))) j_ zt
   refine Zz 3 ?_;refine o_ 4 [13,14,15,16,17] zk zs (Zz 6 ?_);refine i_ 18 rfl zk (Y_ rfl rfl (n_ (bN_ f.a [33]) rfl j_ zt rfl fun _=>Zz 3 ?_));refine o_ 0 [19,20,21] zk zs (aI_ rfl rfl rfl (ar_ (p:=f) (q:=(W_ f.a [33])) rfl rfl) rfl fun r35 hr35=>Zz 6 ?_);refine cz_ ?_
   have hres:r35=true↔ga=M_ f.a ga.r ga.lo ga.hi∧gb=M_ f.a ga.r gb.lo gb.hi∧(Fc.hi ga<Fc.lo gb∨Fc.hi gb<Fc.lo ga)∧f=W_ f.a [33]:=by
     refine Iff.trans ?_ (and_iff_right hsp0).symm;refine Iff.trans ?_ (and_iff_right hsp1).symm;clear hsp0 hsp1;rw[← hr35];clear hr35;simp[*]
   exact T_ ay_ () (l_ rfl (Bool.eq_iff_iff.2 (hres.trans (aL_ wg wh).symm))) j_ zt
  refine Zz 2 ?_;refine o_ 4 [6,7,8,9,10,11,12,13,14,15,16,17] zk zs (Zz 13 ?_);refine i_ 18 rfl zk (Y_ rfl rfl (n_ (bN_ f.a [33]) rfl j_ zt rfl fun _=>Zz 3 ?_));refine o_ 0 [19,20,21] zk zs (aI_ rfl rfl rfl (ar_ (p:=f) (q:=(W_ f.a [33])) rfl rfl) rfl fun r36 hr36=>Zz 6 ?_);refine cz_ ?_
  have hres:r36=true↔ga=M_ f.a ga.r ga.lo ga.hi∧gb=M_ f.a ga.r gb.lo gb.hi∧(Fc.hi ga<Fc.lo gb∨Fc.hi gb<Fc.lo ga)∧f=W_ f.a [33]:=by
    refine Iff.trans ?_ (and_iff_right hsp0).symm;refine Iff.trans ?_ (and_iff_right hsp1).symm;clear hsp0 hsp1;rw[← hr36];clear hr36;simp[*]
  exact T_ ay_ () (l_ rfl (Bool.eq_iff_iff.2 (hres.trans (aL_ wg wh).symm))) j_ zt
 refine⟨_,rfl,?_⟩;refine E_ ax_ rfl fun b16=>Zz 3 ?_
 refine bV_ 6 14 rfl rfl zk ?_ ?_
 ·refine at_ (fN_ ga.r kn q hkn es ec hE vb ab pv fv x f ga gb lad lcap) rfl j_ zf rfl (fun hb=>dk_ ((by rw[Bool.eq_false_iff];intro hq;exact hb ((aL_ wg wh).1 hq).1))) fun⟨_,hsp0⟩=>?_
  try dsimp only
  refine Zz 3 ?_;refine bV_ 13 14 rfl rfl zk ?_ ?_
  ·refine at_ (dh_ ga.r kn q hkn es ec hE vb ab pv fv x f ga gb lad lcap) rfl j_ zf rfl (fun hb=>dk_ ((by rw[Bool.eq_false_iff];intro hq;exact hb ((aL_ wg wh).1 hq).2.1))) fun⟨_,hsp1⟩=>?_
   try dsimp only
   refine Zz 3 ?_;refine i_ 14 rfl zk (E_ ax_ rfl fun b17=>Zz 3 ?_);refine i_ 16 rfl zk (z_ 0 an_ rfl rfl rfl rfl rfl rfl (Zz 3 ?_));refine i_ 17 rfl zk (z_ 1 an_ rfl rfl rfl rfl rfl rfl (Zz 7 ?_));refine o_ 16 [0,1,2,3,4,5] zk zs (Zi 4 (fun hr37=>?_) fun hr37=>?_)
   ·refine Zz 2 ?_
    refine o_ 9 [6,7,8,9,10,11,12] zk zs (Zi 4 (fun hr38=>?_) fun hr38=>?_)
    ·refine Zz 3 ?_
     refine o_ 0 [13,14,15,16,17,18,19,20,21] zk zs (Zz 13 ?_);refine cz_ ?_
     have hres:false=true↔ga=M_ f.a ga.r ga.lo ga.hi∧gb=M_ f.a ga.r gb.lo gb.hi∧(Fc.hi ga<Fc.lo gb∨Fc.hi gb<Fc.lo ga)∧f=W_ f.a [33]:=by
       refine Iff.trans ?_ (and_iff_right hsp0).symm;refine Iff.trans ?_ (and_iff_right hsp1).symm;clear hsp0 hsp1;simp[*]
     exact T_ ay_ () (l_ rfl (Bool.eq_iff_iff.2 (hres.trans (aL_ wg wh).symm))) j_ zt
    refine Zz 3 ?_;refine o_ 4 [13,14,15,16,17] zk zs (Zz 6 ?_);refine i_ 18 rfl zk (Y_ rfl rfl (n_ (bN_ f.a [33]) rfl j_ zt rfl fun _=>Zz 3 ?_));refine o_ 0 [19,20,21] zk zs (aI_ rfl rfl rfl (ar_ (p:=f) (q:=(W_ f.a [33])) rfl rfl) rfl fun r39 hr39=>Zz 6 ?_);refine cz_ ?_
    have hres:r39=true↔ga=M_ f.a ga.r ga.lo ga.hi∧gb=M_ f.a ga.r gb.lo gb.hi∧(Fc.hi ga<Fc.lo gb∨Fc.hi gb<Fc.lo ga)∧f=W_ f.a [33]:=by
      refine Iff.trans ?_ (and_iff_right hsp0).symm;refine Iff.trans ?_ (and_iff_right hsp1).symm;clear hsp0 hsp1;rw[← hr39];clear hr39;simp[*]
    exact T_ ay_ () (l_ rfl (Bool.eq_iff_iff.2 (hres.trans (aL_ wg wh).symm))) j_ zt
   refine Zz 2 ?_;refine o_ 4 [6,7,8,9,10,11,12,13,14,15,16,17] zk zs (Zz 13 ?_);refine i_ 18 rfl zk (Y_ rfl rfl (n_ (bN_ f.a [33]) rfl j_ zt rfl fun _=>Zz 3 ?_));refine o_ 0 [19,20,21] zk zs (aI_ rfl rfl rfl (ar_ (p:=f) (q:=(W_ f.a [33])) rfl rfl) rfl fun r40 hr40=>Zz 6 ?_);refine cz_ ?_
   have hres:r40=true↔ga=M_ f.a ga.r ga.lo ga.hi∧gb=M_ f.a ga.r gb.lo gb.hi∧(Fc.hi ga<Fc.lo gb∨Fc.hi gb<Fc.lo ga)∧f=W_ f.a [33]:=by
     refine Iff.trans ?_ (and_iff_right hsp0).symm;refine Iff.trans ?_ (and_iff_right hsp1).symm;clear hsp0 hsp1;rw[← hr40];clear hr40;simp[*]
   exact T_ ay_ () (l_ rfl (Bool.eq_iff_iff.2 (hres.trans (aL_ wg wh).symm))) j_ zt
  refine E_ ax_ rfl fun b18=>Zz 3 ?_
  refine i_ 13 rfl zk (at_ (dh_ ga.r kn q hkn es ec hE vb ab pv fv x f ga gb lad lcap) rfl j_ zf rfl (fun hb=>dk_ ((by rw[Bool.eq_false_iff];intro hq;exact hb ((aL_ wg wh).1 hq).2.1))) fun⟨_,hsp1⟩=>?_);try dsimp only
  refine Zz 3 ?_;refine i_ 16 rfl zk (z_ 0 an_ rfl rfl rfl rfl rfl rfl (Zz 3 ?_));refine i_ 17 rfl zk (z_ 1 an_ rfl rfl rfl rfl rfl rfl (Zz 7 ?_));refine o_ 16 [0,1,2,3,4,5] zk zs (Zi 4 (fun hr41=>?_) fun hr41=>?_)
  ·refine Zz 2 ?_
   refine o_ 9 [6,7,8,9,10,11,12] zk zs (Zi 4 (fun hr42=>?_) fun hr42=>?_)
   ·refine Zz 3 ?_
    refine o_ 0 [13,14,15,16,17,18,19,20,21] zk zs (Zz 13 ?_);refine cz_ ?_
    have hres:false=true↔ga=M_ f.a ga.r ga.lo ga.hi∧gb=M_ f.a ga.r gb.lo gb.hi∧(Fc.hi ga<Fc.lo gb∨Fc.hi gb<Fc.lo ga)∧f=W_ f.a [33]:=by
      refine Iff.trans ?_ (and_iff_right hsp0).symm;refine Iff.trans ?_ (and_iff_right hsp1).symm;clear hsp0 hsp1;simp[*]
    exact T_ ay_ () (l_ rfl (Bool.eq_iff_iff.2 (hres.trans (aL_ wg wh).symm))) j_ zt
   refine Zz 3 ?_;refine o_ 4 [13,14,15,16,17] zk zs (Zz 6 ?_);refine i_ 18 rfl zk (Y_ rfl rfl (n_ (bN_ f.a [33]) rfl j_ zt rfl fun _=>Zz 3 ?_));refine o_ 0 [19,20,21] zk zs (aI_ rfl rfl rfl (ar_ (p:=f) (q:=(W_ f.a [33])) rfl rfl) rfl fun r43 hr43=>Zz 6 ?_);refine cz_ ?_
   have hres:r43=true↔ga=M_ f.a ga.r ga.lo ga.hi∧gb=M_ f.a ga.r gb.lo gb.hi∧(Fc.hi ga<Fc.lo gb∨Fc.hi gb<Fc.lo ga)∧f=W_ f.a [33]:=by
     refine Iff.trans ?_ (and_iff_right hsp0).symm;refine Iff.trans ?_ (and_iff_right hsp1).symm;clear hsp0 hsp1;rw[← hr43];clear hr43;simp[*]
   exact T_ ay_ () (l_ rfl (Bool.eq_iff_iff.2 (hres.trans (aL_ wg wh).symm))) j_ zt
  refine Zz 2 ?_;refine o_ 4 [6,7,8,9,10,11,12,13,14,15,16,17] zk zs (Zz 13 ?_);refine i_ 18 rfl zk (Y_ rfl rfl (n_ (bN_ f.a [33]) rfl j_ zt rfl fun _=>Zz 3 ?_));refine o_ 0 [19,20,21] zk zs (aI_ rfl rfl rfl (ar_ (p:=f) (q:=(W_ f.a [33])) rfl rfl) rfl fun r44 hr44=>Zz 6 ?_);refine cz_ ?_
  have hres:r44=true↔ga=M_ f.a ga.r ga.lo ga.hi∧gb=M_ f.a ga.r gb.lo gb.hi∧(Fc.hi ga<Fc.lo gb∨Fc.hi gb<Fc.lo ga)∧f=W_ f.a [33]:=by
    refine Iff.trans ?_ (and_iff_right hsp0).symm;refine Iff.trans ?_ (and_iff_right hsp1).symm;clear hsp0 hsp1;rw[← hr44];clear hr44;simp[*]
  exact T_ ay_ () (l_ rfl (Bool.eq_iff_iff.2 (hres.trans (aL_ wg wh).symm))) j_ zt
 refine E_ ax_ rfl fun b19=>Zz 3 ?_
 refine i_ 6 rfl zk (at_ (fN_ ga.r kn q hkn es ec hE vb ab pv fv x f ga gb lad lcap) rfl j_ zf rfl (fun hb=>dk_ ((by rw[Bool.eq_false_iff];intro hq;exact hb ((aL_ wg wh).1 hq).1))) fun⟨_,hsp0⟩=>?_);try dsimp only
 refine Zz 3 ?_;refine i_ 13 rfl zk (at_ (dh_ ga.r kn q hkn es ec hE vb ab pv fv x f ga gb lad lcap) rfl j_ zf rfl (fun hb=>dk_ ((by rw[Bool.eq_false_iff];intro hq;exact hb ((aL_ wg wh).1 hq).2.1))) fun⟨_,hsp1⟩=>?_);try dsimp only
 refine Zz 3 ?_;refine i_ 16 rfl zk (z_ 0 an_ rfl rfl rfl rfl rfl rfl (Zz 3 ?_));refine i_ 17 rfl zk (z_ 1 an_ rfl rfl rfl rfl rfl rfl (Zz 7 ?_));refine o_ 16 [0,1,2,3,4,5] zk zs (Zi 4 (fun hr45=>?_) fun hr45=>?_)
 ·refine Zz 2 ?_
  refine o_ 9 [6,7,8,9,10,11,12] zk zs (Zi 4 (fun hr46=>?_) fun hr46=>?_)
  ·refine Zz 3 ?_
   refine o_ 0 [13,14,15,16,17,18,19,20,21] zk zs (Zz 13 ?_);refine cz_ ?_
   have hres:false=true↔ga=M_ f.a ga.r ga.lo ga.hi∧gb=M_ f.a ga.r gb.lo gb.hi∧(Fc.hi ga<Fc.lo gb∨Fc.hi gb<Fc.lo ga)∧f=W_ f.a [33]:=by
     refine Iff.trans ?_ (and_iff_right hsp0).symm;refine Iff.trans ?_ (and_iff_right hsp1).symm;clear hsp0 hsp1;simp[*]
   exact T_ ay_ () (l_ rfl (Bool.eq_iff_iff.2 (hres.trans (aL_ wg wh).symm))) j_ zt
  refine Zz 3 ?_;refine o_ 4 [13,14,15,16,17] zk zs (Zz 6 ?_);refine i_ 18 rfl zk (Y_ rfl rfl (n_ (bN_ f.a [33]) rfl j_ zt rfl fun _=>Zz 3 ?_));refine o_ 0 [19,20,21] zk zs (aI_ rfl rfl rfl (ar_ (p:=f) (q:=(W_ f.a [33])) rfl rfl) rfl fun r47 hr47=>Zz 6 ?_);refine cz_ ?_
  have hres:r47=true↔ga=M_ f.a ga.r ga.lo ga.hi∧gb=M_ f.a ga.r gb.lo gb.hi∧(Fc.hi ga<Fc.lo gb∨Fc.hi gb<Fc.lo ga)∧f=W_ f.a [33]:=by
    refine Iff.trans ?_ (and_iff_right hsp0).symm;refine Iff.trans ?_ (and_iff_right hsp1).symm;clear hsp0 hsp1;rw[← hr47];clear hr47;simp[*]
  exact T_ ay_ () (l_ rfl (Bool.eq_iff_iff.2 (hres.trans (aL_ wg wh).symm))) j_ zt
 refine Zz 2 ?_;refine o_ 4 [6,7,8,9,10,11,12,13,14,15,16,17] zk zs (Zz 13 ?_);refine i_ 18 rfl zk (Y_ rfl rfl (n_ (bN_ f.a [33]) rfl j_ zt rfl fun _=>Zz 3 ?_));refine o_ 0 [19,20,21] zk zs (aI_ rfl rfl rfl (ar_ (p:=f) (q:=(W_ f.a [33])) rfl rfl) rfl fun r48 hr48=>Zz 6 ?_);refine cz_ ?_
 have hres:r48=true↔ga=M_ f.a ga.r ga.lo ga.hi∧gb=M_ f.a ga.r gb.lo gb.hi∧(Fc.hi ga<Fc.lo gb∨Fc.hi gb<Fc.lo ga)∧f=W_ f.a [33]:=by
   refine Iff.trans ?_ (and_iff_right hsp0).symm;refine Iff.trans ?_ (and_iff_right hsp1).symm;clear hsp0 hsp1;rw[← hr48];clear hr48;simp[*]
 exact T_ ay_ () (l_ rfl (Bool.eq_iff_iff.2 (hres.trans (aL_ wg wh).symm))) j_ zt
set_option maxHeartbeats 1000000 in
theorem uj_ (kn:Str→Bool) (q:List Str) (hkn:∀ s,kn s=true↔s∈q) (es:Array MapEntry) (ec:Nat) (hE:SetE str es q) (vb ab:Nat) (pv fv:Value) (x:Pc) (f ga:Fc) (lad:Option Addr) (lcap:Nat) (wg:wf2 ga=true) (hxo:-1099511627776≤x.lo∧x.lo≤x.hi∧x.hi≤1099511627776):TriX Tryz.prog 143 #[.agg #[zp_ vb 0,.int .i64 f.kind,str f.a,str f.b,str f.r,.int .i64 f.lo,.int .i64 f.hi,.slice lad (List.length [ga]) lcap,.int .i64 x.kind,str x.a,str x.b,str x.c,str x.r,str x.s,str x.t,.int .i64 x.lo,.int .i64 x.hi,.int .i64 x.frm]] [] [bJ_ vb (.cells (em_ pv ab fv).toArray 83 (0,0)),bJ_ ab (.map es ec),aC_ lad (List.flatMap Fc.cells [ga])] (fun _:Unit=>.bool (eW_ kn x f ga zfc)) (fun _=>[]) (fun _=>[]) (eW_ kn x f ga zfc=false):=by
 refine bp_ Tryz.func143 rfl rfl Tryz.ntmps143 rfl fun v0=>?_;refine Zz 2 ?_;refine ah_ rfl rfl fun b1=>Zz 9 ?_
 refine at_ (nI_ x.r kn q hkn es ec hE vb ab pv fv x f ga lad lcap) rfl j_ zf rfl (fun hb=>dk_ ((by rw[Bool.eq_false_iff];intro hq;exact hb ((mC_ wg).1 hq).1))) fun⟨_,hsp0⟩=>?_;try dsimp only
 refine E_ ax_ rfl fun b2=>z_ 0 an_ rfl rfl rfl rfl rfl rfl (Zz 4 ?_)
 refine o_ 14 [0,1,2,3,4,5,6,7] zk zs (Zz 7 ?_);refine B_ rfl (F_ gl_ rfl rfl) rfl (bi_ (i_ 8 rfl zk (ak_ (jw_ ga.lo ga.hi x.lo x.hi (fa_ wg (eG_ hsp0).1) hxo) rfl j_ zt rfl fun r1 hr1=>Zz 3 ?_)));refine o_ 12 [9] zk zs (Zz 2 ?_);cases r1
 ·replace hr1:=zdf hr1
  refine o_ 0 [10,11,12,13,14,15,16,17,18,19,20,21] zk zs (Zz 16 ?_);refine cz_ ?_
  have hres:false=true↔ga=M_ f.a x.r ga.lo ga.hi∧(Pc.lo x≤Fc.lo ga∧Fc.hi ga≤Pc.hi x)∧f=W_ f.a x.c:=by
    refine Iff.trans ?_ (and_iff_right hsp0).symm;clear hsp0;simp[*]
  exact T_ Tryz.results143 () (l_ rfl (Bool.eq_iff_iff.2 (hres.trans (mC_ wg).symm))) j_ zt
 replace hr1:=zdt hr1;refine o_ 4 [10,11,12,13,14,15,16,17] zk zs (Zz 9 ?_);refine i_ 18 rfl zk (Y_ rfl rfl (n_ (bN_ f.a x.c) rfl j_ zt rfl fun _=>Zz 3 ?_));refine o_ 0 [19,20,21] zk zs (aI_ rfl rfl rfl (ar_ (p:=f) (q:=(W_ f.a x.c)) rfl rfl) rfl fun r2 hr2=>Zz 6 ?_);refine cz_ ?_
 have hres:r2=true↔ga=M_ f.a x.r ga.lo ga.hi∧(Pc.lo x≤Fc.lo ga∧Fc.hi ga≤Pc.hi x)∧f=W_ f.a x.c:=by
   refine Iff.trans ?_ (and_iff_right hsp0).symm;clear hsp0;rw[← hr2];clear hr2;simp[*]
 exact T_ Tryz.results143 () (l_ rfl (Bool.eq_iff_iff.2 (hres.trans (mC_ wg).symm))) j_ zt
set_option maxHeartbeats 1000000 in
theorem uh_ (kn:Str→Bool) (q:List Str) (hkn:∀ s,kn s=true↔s∈q) (es:Array MapEntry) (ec:Nat) (hE:SetE str es q) (vb ab:Nat) (pv fv:Value) (x:Pc) (f ga:Fc) (lad:Option Addr) (lcap:Nat) (wg:wf2 ga=true) (wf:wf2 f=true):TriX Tryz.prog 145 #[.agg #[zp_ vb 0,.int .i64 f.kind,str f.a,str f.b,str f.r,.int .i64 f.lo,.int .i64 f.hi,.slice lad (List.length [ga]) lcap,.int .i64 x.kind,str x.a,str x.b,str x.c,str x.r,str x.s,str x.t,.int .i64 x.lo,.int .i64 x.hi,.int .i64 x.frm]] [] [bJ_ vb (.cells (em_ pv ab fv).toArray 83 (0,0)),bJ_ ab (.map es ec),aC_ lad (List.flatMap Fc.cells [ga])] (fun _:Unit=>.bool (eV_ kn x f ga zfc)) (fun _=>[]) (fun _=>[]) (eV_ kn x f ga zfc=false):=by
 refine bp_ Tryz.func145 rfl rfl Tryz.ntmps145 rfl fun v0=>?_;refine Zz 2 ?_;refine ah_ rfl rfl fun b1=>Zz 9 ?_
 refine at_ (nI_ f.r kn q hkn es ec hE vb ab pv fv x f ga lad lcap) rfl j_ zf rfl (fun hb=>dk_ ((by rw[Bool.eq_false_iff];intro hq;exact hb ((mB_ wf wg).1 hq).1))) fun⟨_,hsp0⟩=>?_;try dsimp only
 refine E_ ax_ rfl fun b2=>z_ 0 an_ rfl rfl rfl rfl rfl rfl (Zi 7 (fun hr1=>?_) fun hr1=>?_)
 ·refine Zz 15 ?_
  refine cz_ ?_
  have hres:false=true↔ga=M_ f.a f.r ga.lo ga.hi∧f.kind=3∧(Fc.lo f≤Fc.lo ga∧Fc.hi ga≤Fc.hi f):=by
    refine Iff.trans ?_ (and_iff_right hsp0).symm;clear hsp0;simp[*]
  exact T_ Tryz.results145 () (l_ rfl (Bool.eq_iff_iff.2 (hres.trans (mB_ wf wg).symm))) j_ zt
 refine Zz 16 ?_;refine d_ (F_ gl_ rfl rfl) rfl (Y_ rfl rfl (ak_ (jw_ ga.lo ga.hi f.lo f.hi (fa_ wg (eG_ hsp0).1) (fa_ wf (by first|assumption|omega))) rfl j_ zt rfl fun r2 hr2=>Zz 5 ?_));refine cz_ ?_
 have hres:r2=true↔ga=M_ f.a f.r ga.lo ga.hi∧f.kind=3∧(Fc.lo f≤Fc.lo ga∧Fc.hi ga≤Fc.hi f):=by
   refine Iff.trans ?_ (and_iff_right hsp0).symm;clear hsp0;rw[← hr2];clear hr2;simp[*]
 exact T_ Tryz.results145 () (l_ rfl (Bool.eq_iff_iff.2 (hres.trans (mB_ wf wg).symm))) j_ zt
end Go.Proofs.YtaffcjgphlhppaaGreatDoor
namespace Go.Proofs.YtaffcjgphlhppaaGreatDoor
open Go Go.Sx Go.Proofs
attribute [local irreducible] Code.wp wpList wpAnyH
open Go.Vs
theorem vh_ {P:Program} {N:Nf} {fr:Fr} {H:Hp} {Γ:List Fct} {ty t e:TypeId} {len sz:Nat} {parts:List (Nat×Operand)} {vs:List (Nat×Value)} {z cs:List Value} (hz:∀ w,(zeroValue t).run P w=.ok (.agg z.toArray) w) (hu:∀ w,(underlying t).run P w=.ok (.array len e) w) (hs:∀ w,(sizeOf e).run P w=.ok sz w) (hx:Fr.evp fr parts=some vs)
    (hf:lj_ (fun i=>some (i*sz,sz)) z vs=some cs):Yld P N fr H Γ (.build t parts.toArray) ty (.agg cs.toArray) :=
  kA_ (fun a h1 w=>by
    have:=h1.evp hx;rw[List.map_toArray,this];have hf':=iN_ _ _ _ _ hf;simp only[Instr.build,Sem.run_bind,hz,Result.andThen_ok,hu,hs,Value.cells,hf',Sem.run_pure])
def addI {α:Type} [DecidableEq α] (y:α) (l:List α):List α:=if y∈l then l else l++[y]
theorem va_ {α:Type} [DecidableEq α] {y z:α} {l:List α}:z∈addI y l↔z∈l∨z=y:=by
 unfold addI
 by_cases h:y∈l
 ·rw[if_pos h];exact⟨.inl,fun q=>q.elim id fun e=>e▸h⟩
 rw[if_neg h,List.mem_append,List.mem_singleton]
theorem qP_ {p:List Pc} {s:Str}:eR_ p s=true↔s=[42]∨s=[33]∨s∈dl_ p:=by
 rw[jG_];simp only[eR_,Bool.or_eq_true,decide_eq_true_eq,List.any_eq_true,Bool.and_eq_true];refine or_congr Iff.rfl (or_congr Iff.rfl ?_);simp only[dH_,kW_,List.mem_flatMap,List.mem_filter];constructor
 ·rintro ⟨x,hx,hn,h⟩
  refine⟨x,hx,?_,by simpa using hn⟩;rcases h with h|h|h<;>simp[← h]
 rintro ⟨x,hx,hm,hn⟩;simp only[List.mem_cons,List.not_mem_nil,or_false]at hm;exact⟨x,hx,by simpa using hn,by rcases hm with rfl|rfl|rfl<;>simp⟩
structure VrfH where
  vb:Nat
  ab:Nat
  es:Array MapEntry
  ec:Nat
  q:List Str
structure VrfOk (p:List Pc) (y:VrfH):Prop where
  e:SetE str y.es y.q
  k:∀ s,eR_ p s=true↔s∈y.q
theorem eP_:hN_ Tryz.prog 80 [(0,1),(1,1),(2,1)] [.int .i64 0,.int .i64 0,.nilFunc]:=⟨_,Tryz.zeroValue80,dq_,fun w=>by simp[aw_,Tryz.sizeOf78]⟩
theorem strt83:hN_ Tryz.prog 83 [(0,1),(1,1),(2,1),(3,51)] [.slice none 0 0,.map none,.slice none 0 0,.int .i64 0,.int .i64 0,.nilFunc,.int .i64 0,.int .i64 0,.nilFunc,.int .i64 0,.int .i64 0,.nilFunc,.int .i64 0,.int .i64 0,.nilFunc,.int .i64 0,.int .i64 0,.nilFunc,.int .i64 0,.int .i64 0,.nilFunc,.int .i64 0,.int .i64 0,.nilFunc,.int .i64 0,.int .i64 0,.nilFunc,.int .i64 0,.int .i64 0,.nilFunc,.int .i64 0,.int .i64 0,.nilFunc,.int .i64 0,.int .i64 0,.nilFunc,.int .i64 0,.int .i64 0,.nilFunc,.int .i64 0,.int .i64 0,.nilFunc,.int .i64 0,.int .i64 0,.nilFunc,.int .i64 0,.int .i64 0,.nilFunc,.int .i64 0,.int .i64 0,.nilFunc,.int .i64 0,.int .i64 0,.nilFunc]:=⟨_,Tryz.zeroValue83,bQ_,fun w=>by simp[gb_,ez_,Tryz.sizeOf77,Tryz.sizeOf81]⟩
theorem ug_:Fn0 Tryz.prog 72 #[] (.agg lq_.toArray):=by
  refine w_ Tryz.func72 rfl rfl Tryz.ntmps72 rfl fun v0=>?_;refine Zz 2 ?_;refine E_ Tryz.zeroValue81 rfl fun b1=>Zz 4 ?_
  refine d_ (F_ eP_ rfl rfl) rfl (d_ (F_ eP_ rfl rfl) rfl (d_ (F_ eP_ rfl rfl) rfl (d_ (F_ eP_ rfl rfl) rfl (d_ (F_ eP_ rfl rfl) rfl (d_ (F_ eP_ rfl rfl) rfl (d_ (F_ eP_ rfl rfl) rfl (d_ (F_ eP_ rfl rfl) rfl (d_ (F_ eP_ rfl rfl) rfl (d_ (F_ eP_ rfl rfl) rfl ?_)))))))));refine d_ (F_ eP_ rfl rfl) rfl (d_ (F_ eP_ rfl rfl) rfl (d_ (F_ eP_ rfl rfl) rfl (d_ (F_ eP_ rfl rfl) rfl (d_ (F_ eP_ rfl rfl) rfl (d_ (F_ eP_ rfl rfl) rfl (d_ (bG_ (vh_ (sz:=3) (cs:=lq_) (z:=[.int .i64 0,.int .i64 0,.nilFunc,.int .i64 0,.int .i64 0,.nilFunc,.int .i64 0,.int .i64 0,.nilFunc,.int .i64 0,.int .i64 0,.nilFunc,.int .i64 0,.int .i64 0,.nilFunc,.int .i64 0,.int .i64 0,.nilFunc,.int .i64 0,.int .i64 0,.nilFunc,.int .i64 0,.int .i64 0,.nilFunc,.int .i64 0,.int .i64 0,.nilFunc,.int .i64 0,.int .i64 0,.nilFunc,.int .i64 0,.int .i64 0,.nilFunc,.int .i64 0,.int .i64 0,.nilFunc,.int .i64 0,.int .i64 0,.nilFunc,.int .i64 0,.int .i64 0,.nilFunc,.int .i64 0,.int .i64 0,.nilFunc,.int .i64 0,.int .i64 0,.nilFunc,.int .i64 0,.int .i64 0,.nilFunc]) Tryz.zeroValue81 Tryz.runUnderlying81 Tryz.sizeOf80 rfl zk) (show _=Value.agg #[.int .i64 0,.int .i64 0,.nilFunc,.int .i64 0,.int .i64 0,.func (.func 128) #[] #[],.int .i64 0,.int .i64 0,.func (.func 130) #[] #[],.int .i64 1,.int .i64 1,.func (.func 131) #[] #[],.int .i64 2,.int .i64 2,.func (.func 132) #[] #[],.int .i64 1,.int .i64 3,.func (.func 133) #[] #[],.int .i64 1,.int .i64 5,.func (.func 135) #[] #[],.int .i64 2,.int .i64 6,.func (.func 136) #[] #[],.int .i64 2,.int .i64 4,.func (.func 137) #[] #[],.int .i64 2,.int .i64 0,.func (.func 138) #[] #[],.int .i64 0,.int .i64 7,.func (.func 139) #[] #[],.int .i64 1,.int .i64 8,.func (.func 140) #[] #[],.int .i64 2,.int .i64 0,.func (.func 141) #[] #[],.int .i64 2,.int .i64 0,.func (.func 142) #[] #[],.int .i64 1,.int .i64 9,.func (.func 143) #[] #[],.int .i64 1,.int .i64 0,.func (.func 144) #[] #[],.int .i64 1,.int .i64 0,.func (.func 145) #[] #[]] from rfl)) rfl ?_))))));refine z_ 0 Tryz.sizeOf81 rfl rfl rfl rfl rfl rfl (Zz 3 ?_);exact eQ_ () (fun aa v h1 h2=>cf_ (us:=lq_) 0 Tryz.results72 Tryz.isAgg81 Tryz.sizeOf81 rfl rfl rfl aa v h1 h2) j_ zt
theorem pF_ (p:List Pc) (pad:Option Addr) (pcap:Nat) (hp:p.length≤10000000):Tri Tryz.prog 31 #[.slice pad (List.length p) pcap] [] [aC_ pad (List.flatMap Pc.cells p)] (fun y:{y:VrfH // VrfOk p y}=>zp_ y.1.vb 0) (fun y=>[(y.1.vb,.cells (em_ (.slice pad p.length pcap) y.1.ab (.slice none 0 0)).toArray 83 (0,0)),(y.1.ab,.map y.1.es y.1.ec)]) (fun _=>[]):=by
 refine w_ Tryz.func31 rfl rfl Tryz.ntmps31 rfl fun v0=>?_;have hal:=fe_ p;refine Zz 8 ?_;refine dg_ rfl fun b1=>hw_ (k:=[42]) 0 nJ_ (.inl rfl) gF_ rfl rfl rfl rfl SetE.nil fun ej1 cj1 hj1=>hw_ (k:=[33]) 0 nJ_ (.inl rfl) gF_ rfl rfl rfl rfl hj1 fun ej2 cj2 hj2=>Zz 1 ?_
 refine n_ (ug_) rfl j_ zt rfl fun _=>d_ (bG_ (F_ (cs:=(em_ (.slice pad p.length pcap) b1 (.slice none 0 0))) strt83 rfl zk) (show _=Value.agg (em_ (.slice pad p.length pcap) b1 (.slice none 0 0)).toArray from rfl)) rfl (ah_ rfl rfl fun b2=>Zz 7 ?_)
 refine n_ (rN_ p pad pcap (by omega)) rfl j_ zf rfl fun⟨⟨aad,acap⟩,hac,ham⟩=>?_;dsimp only;refine Zz 5 ?_;have hq0:∀ y,y∈(if [33]∈(if [42]∈([]:List Str) then ([]:List Str) else ([]:List Str)++[[42]]) then (if [42]∈([]:List Str) then ([]:List Str) else ([]:List Str)++[[42]]) else (if [42]∈([]:List Str) then ([]:List Str) else ([]:List Str)++[[42]])++[[33]])↔y=[42]∨y=[33]:=by intro y;simp
 refine aF_ (ι:={y:Nat×List Str×Array MapEntry×Nat // y.1≤List.length (dl_ p)∧SetE str y.2.2.1 y.2.1∧(∀ ux,ux∈y.2.1↔ux=[42]∨ux=[33]∨ux∈List.take y.1 (dl_ p))}) (fun y=>[(3,zp_ b2 0),(13,.slice aad (List.length (dl_ p)) acap),(14,.int .i64 (List.length (dl_ p):Int)),(15,.int .i64 (y.1.1:Int))]) (fun y=>((b2,.cells (em_ (.slice pad p.length pcap) b1 (.slice none 0 0)).toArray 83 (0,0))::((b1,.map y.1.2.2.1 y.1.2.2.2)::[]))) (fun y=>[aC_ aad (List.flatMap by_ (dl_ p)),aC_ pad (List.flatMap Pc.cells p)]) (fun y=>List.length (dl_ p) - y.1.1) ⟨((0:Nat),(if [33]∈(if [42]∈([]:List Str) then ([]:List Str) else ([]:List Str)++[[42]]) then (if [42]∈([]:List Str) then ([]:List Str) else ([]:List Str)++[[42]]) else (if [42]∈([]:List Str) then ([]:List Str) else ([]:List Str)++[[42]])++[[33]]),ej2,cj2),by simp,hj2,(fun y=>by rw[hq0 y];simp)⟩ zl zp zh ?_;rintro ⟨⟨i,q,es,ec⟩,hi,hE,hq⟩;dsimp only at hi hE hq ⊢;refine Zi 2 (fun hr1=>?_) fun hr1=>?_
 ·refine Zz 13 ?_
  have e9:List.take i (dl_ p)=dl_ p:=List.take_of_length_le (by omega);exact T_ Tryz.results31 ⟨⟨b2,b1,es,ec,q⟩,⟨hE,fun y=>by rw[qP_,hq y,e9]⟩⟩ rfl zp zt
 obtain⟨hlx1,x1,hx1,hmx1⟩:=zge (show i<List.length (dl_ p) by omega);refine Zz 21 ?_;refine hw_ (k:=x1) 1 nJ_ (.inr rfl) gF_ rfl rfl rfl rfl hE fun ej3 cj3 hj3=>Zz 7 ?_
 exact aa_ ⟨(i+1,addI x1 q,ej3,cj3),hlx1,hj3,(fun y=>by rw[va_,hq y,List.take_add_one,hx1];simp[or_assoc])⟩ (by dsimp only;omega) zl zp zh
end Go.Proofs.YtaffcjgphlhppaaGreatDoor
namespace Go.Proofs.YtaffcjgphlhppaaGreatDoor
open Go Go.Sx Go.Proofs
attribute [local irreducible] Code.wp wpList wpAnyH
open Go.Vs
def oS_ (fs:List Fc) (frm:List Int) (m:Int):Prop:=(frm.length:Int)=m∧iD_ fs frm=true
theorem gG_ {fs:List Fc} {frm:List Int} {q:Int} (h:iD_ fs frm=true) (hq:q∈frm):0≤q∧q<(fs.length:Int)∧wf2 (fs.getD q.toNat zfc)=true:=by
  have:=List.all_eq_true.1 h q hq;simpa [and_assoc] using this
theorem gp_ {α:Type} {l:List α} {i:Nat} {x d:α} (h:l[i]? = some x):l.getD i d=x:=by simp[List.getD,h]
theorem pr_ {fs:List Fc} {frm:List Int} {i:Nat} {q:Int} {x:Fc} (h:iD_ fs (List.take i frm)=true) (hq:frm[i]? = some q) (h0:0≤q) (h1:q<(fs.length:Int)) (hx:fs[q.toNat]? = some x) (hw:wf2 x=true):iD_ fs (List.take (i+1) frm)=true:=by
  unfold iD_ at *;rw[List.take_add_one,hq,Option.toList_some,List.all_append,h];have e:fs.getD q.toNat zfc=x:=gp_ hx;simp only[List.all_cons,List.all_nil,Bool.and_true,Bool.true_and,e,hw];rw[decide_eq_true h0,decide_eq_true h1];rfl
theorem pq_ {fs:List Fc} {frm:List Int} {i:Nat} {q:Int} {x:Fc} (hq:frm[i]? = some q) (hx:fs[q.toNat]? = some x):ck_ fs (List.take (i+1) frm)=ck_ fs (List.take i frm)++[x]:=by
  unfold ck_;rw[List.take_add_one,hq,Option.toList_some,List.map_append];have e:fs.getD q.toNat zfc=x:=gp_ hx;show _++[fs.getD q.toNat zfc]=_
  rw[e]
def gs_ (p:List Pc) (q k:Int):Prop:=0≤q∧q<(p.length:Int)∧(p.getD q.toNat zpc).kind=k
theorem qC_ (p:List Pc) (pad:Option Addr) (pcap:Nat) (fs:List Fc) (fad:Option Addr) (fcap:Nat) (vb ab:Nat) (s:Stp) (m:Int) (hfl:fs.length≤10000000) (hfr:s.frm.length≤1000000) (hfs:∀ x∈fs,x.sml):TriX Tryz.prog 76 #[zp_ vb 0,Stp.val s,.int .i64 m] [] [bJ_ vb (.cells (em_ (.slice pad p.length pcap) ab (.slice fad fs.length fcap)).toArray 83 (0,0)),aC_ fad (List.flatMap Fc.cells fs),aC_ s.ad (List.flatMap eS_ s.frm)] (fun y:{y:Option Addr×Nat // oS_ fs s.frm m}=>.slice y.1.1 (ck_ fs s.frm).length y.1.2) (fun _=>[]) (fun y=>[aC_ y.1.1 (List.flatMap Fc.cells (ck_ fs s.frm))]) (¬ oS_ fs s.frm m):=by
 refine bp_ Tryz.func76 rfl rfl Tryz.ntmps76 rfl fun v0=>?_;refine Zz 2 ?_;refine ah_ rfl rfl fun b1=>Zz 9 ?_
 refine J_ (aM_ rfl rfl) rfl fun r1 hr1=>?_;refine at_ (ex_ r1) rfl j_ zt rfl (fun hb=>dk_ ((fun hq=>by rw[hb]at hr1;simp[hq.1]at hr1))) fun⟨_,hn1⟩=>?_;try dsimp only
 have hlm:(List.length s.frm:Int)=m:=eq_of_beq (hr1.trans hn1);refine Zz 12 ?_;refine aF_ (ι:={y:Nat×Value×Hp // y.1≤List.length s.frm∧iD_ fs (List.take y.1 s.frm)=true∧zR 24 6 Fc.cells y.2.1 (ck_ fs (List.take y.1 s.frm)) y.2.2}) (fun y=>[(0,zp_ vb 0),(6,y.1.2.1),(16,.slice s.ad (List.length s.frm) s.cap),(17,.int .i64 (List.length s.frm:Int)),(18,.int .i64 (y.1.1:Int))]) (fun y=>(y.1.2.2)) (fun y=>[bJ_ vb (.cells (em_ (.slice pad p.length pcap) ab (.slice fad fs.length fcap)).toArray 83 (0,0)),aC_ fad (List.flatMap Fc.cells fs),aC_ s.ad (List.flatMap eS_ s.frm)]) (fun y=>List.length s.frm - y.1.1) ⟨((0:Nat),(.slice none 0 0),[]),by simp,rfl,(bk_.nil _ _)⟩ zl j_ zh ?_;rintro ⟨⟨i,sv_Rfc,H_Rfc⟩,hi_i,hA,hr_Rfc⟩;dsimp only at hi_i hA hr_Rfc ⊢;refine Zi 2 (fun hr2=>?_) fun hr2=>?_
 ·refine Zz 13 ?_
  refine cz_ ?_;have e9:List.take i s.frm=Stp.frm s:=List.take_of_length_le (by omega);rw[e9]at hA;have hr9:bk_ 24 6 sv_Rfc (List.length (ck_ fs s.frm)) (List.flatMap Fc.cells (ck_ fs s.frm)) H_Rfc:=by have q:=hr_Rfc;rwa [e9]at q
  refine dv_ hr9 bx_ fun ad2 cp2 had2 hcad2 hmad2 hzad2=>?_;exact T_ Tryz.results76 ⟨(ad2,cp2),⟨hlm,hA⟩⟩ (jg_ rfl had2) j_ zf
 have hlqa:i<List.length s.frm:=by omega
 obtain⟨qa,hqa⟩:∃ e0,s.frm[i]? = some e0:=⟨_,List.getElem?_eq_getElem hlqa⟩;have hmqa:qa∈s.frm:=List.mem_of_getElem? hqa;refine Zi 18 (fun hr3=>?_) fun hr3=>?_
 ·refine Zz 9 ?_
  refine at_ (ex_ false) rfl j_ zt rfl (fun hb=>dk_ ((fun hq=>by have z:=gG_ hq.2 hmqa;omega))) fun⟨_,hn2⟩=>?_;try dsimp only
  cases hn2
 refine Zz 14 ?_;refine J_ (ca_ rfl rfl) rfl fun r4 hr4=>Zz 1 ?_
 refine at_ (ex_ r4) rfl j_ zt rfl (fun hb=>dk_ ((fun hq=>by have z:=gG_ hq.2 hmqa;rw[hb]at hr4;exact of_decide_eq_false hr4 z.2.1))) fun⟨_,hn3⟩=>?_;try dsimp only
 have hqr:0≤qa∧qa<(List.length fs:Int):=⟨by omega,of_decide_eq_true (hr4.trans hn3)⟩;refine Zz 3 ?_;obtain⟨hlx1,x1,hx1,hmx1⟩:=zge (show (Int.toNat qa)<List.length fs by omega);refine Zz 8 ?_;refine ak_ (wR_ x1 (hfs x1 hmx1)) rfl j_ zt rfl fun r5 hr5=>?_;refine at_ (ex_ r5) rfl j_ zt rfl (fun hb=>dk_ ((fun hq=>by have z:=gG_ hq.2 hmqa;rw[hb]at hr5;rw[gp_ hx1,hr5]at z;exact absurd z.2.2 (by simp)))) fun⟨_,hn4⟩=>?_;try dsimp only
 have hwx:wf2 x1=true:=hr5.trans hn4;refine Zz 11 ?_;refine af_ G_ y_ ag_ rfl rfl rfl rfl rfl rfl fun b2=>?_;refine bh_ (List.flatMap Fc.cells [x1]) e_ rfl ?_;refine eo_ (news:=List.flatMap Fc.cells [x1]) kT_ hr_Rfc rfl rfl (fun q=>by cases q) (by simp) bx_ (by rw[ej_ Fc.cells 6 Fc.cells_len];rfl) zf (fun u hu=>be_ Fc.cells_one hu) (by simp only[maxLen];(have:=hi_i;simp only[ck_,List.length_map,List.length_take];omega)) (by (have:=hi_i;simp only[ck_,List.length_map,List.length_take];omega)) rfl fun sv1 Hr1 hr1=>?_;refine S_ List.perm_append_comm ?_;have hq1:=zsa hr1;refine Zz 8 ?_;exact aa_ ⟨(i+1,sv1,Hr1),hlqa,pr_ hA hqa hqr.1 hqr.2 hx1 hwx,(by have q:=hq1;rw[← pq_ hqa hx1]at q;exact q)⟩ (by dsimp only;omega) zl bx_ (fun _ _ h=>h.2)
end Go.Proofs.YtaffcjgphlhppaaGreatDoor
namespace Go.Proofs.YtaffcjgphlhppaaGreatDoor
open Go Go.Sx Go.Proofs
attribute [local irreducible] Code.wp wpList wpAnyH
open Go.Vs
theorem wA_ {v:Vw} {F F':Hp} {b:Nat} {x:Value} (hF:F.Perm ((b,.cells #[x] 4 (0,0))::F')) (t:TypeId) (u:Value) (hs:v.sat F) :
    CallsD Tryz.prog 74 #[zp_ b 0] (.panicking (mY_ t u)) v.w fun e u' w'=>e=.returned (.tuple #[])∧u'=.panicking [{ v:=.iface t u,recovered:=true }]∧∃ v':Vw,v'.w=w'∧v'.sat ((b,.cells #[.bool false] 4 (0,0))::F')∧v.to F v' ((b,.cells #[.bool false] 4 (0,0))::F'):=by
  have h2:=hs.perm hF;have hb:=(h2.own _ List.mem_cons_self).1;have hc:v.w.cell? ⟨b,0,none⟩=some x:=by simp[World.cell?,hb]
  have hz:v.w.frozen? ⟨b,0,none⟩=false:=by simp[World.frozen?,hb]
  have hlt:=(Array.getElem?_eq_some_iff.1 hb).1
  have hset:((v.w.setCell ⟨b,0,none⟩ (.bool false)).heap)[b]? = some (.cells #[.bool false] 4 (0,0)):=by
    simp[World.setCell,Array.getElem?_modify,hb]
  have hoth:∀ k,k≠b→((v.w.setCell ⟨b,0,none⟩ (.bool false)).heap)[k]? = v.w.heap[k]? := fun k hk=>by
    simp[World.setCell,Array.getElem?_modify,Ne.symm hk]
  obtain⟨g1,g2⟩:=fO_ (i:=0) (o':=.cells #[.bool false] 4 (0,0)) (w':=v.w.setCell ⟨b,0,none⟩ (.bool false)) h2 rfl rfl rfl rfl (Nat.le_refl _) (by simp[World.setCell]) hset hoth;simp only[List.set_cons_zero]at g1 g2;refine callsD_of_wpS Tryz.func74 rfl fun c₀ cs hu=>?_
  apply wpS_seq
  apply wpS_region
  simp[wpOpsS,go_sem,recoverD,hu,mY_,Tryz.ntmps74,Exit.thenS]
  refine wpS_cond (t:=true) (by simp[Act.eval,Array.replicate]) ?_;simp only[if_true]
  apply wpS_region
  simp[wpOpsS,go_sem,hc,hz,bodyPostS,results,Tryz.results74]
  exact⟨_,rfl,g1,g2.permL hF.symm⟩
theorem uB_ (b:Nat) (w:World):CallsD Tryz.prog 74 #[zp_ b 0] .returning w fun e u' w'=>e=.returned (.tuple #[])∧u'=.returning∧w'=w:=by
  refine callsD_of_wpS Tryz.func74 rfl fun c₀ cs hu=>?_
  apply wpS_seq
  apply wpS_region
  simp[wpOpsS,go_sem,recoverD,hu,Tryz.ntmps74,Exit.thenS]
  refine wpS_cond (t:=false) (by simp[Act.eval,Array.replicate]) ?_;simp only[Bool.false_eq_true,if_false];refine wpS_of_wp (wp_skip ?_);cases c₀
  simp_all [bodyPostS,results,Tryz.results74]
theorem ux_ (b:Nat) (w:World):(invoke (.fn (.func 74) #[zp_ b 0]) #[]).run Tryz.prog w=.ok (.enter 74 #[zp_ b 0]) w:=by
  exact callable (P:=Tryz.prog) Tryz.func74 rfl rfl #[zp_ b 0] w
theorem la_ {v0:Vw} {H0 F F':Hp} {fr:Fr} {b:Nat} {x:Value} {X:Bool} (hX:X=false) (hx:Fr.get fr 4=some (zp_ b 0)) (hF:F.Perm ((b,.cells #[x] 4 (0,0))::F')) :
    ky_ (bodyPostD Tryz.prog Tryz.f32 (ho_ v0 H0 (fun y:{y:Bool // y=X}=>.bool y.1) (fun _=>[]) (fun _=>[]))) ⟨56,[{ target:=.fn (.func 74) #[zp_ b 0],args:=#[] }]⟩ v0 H0 fr F :=
  panDf (F':=(b,.cells #[.bool false] 4 (0,0))::F') ⟨false,hX.symm⟩ (ux_ b) (fun v t u hs=>wA_ hF t u hs) (fun a v h1 h2=>by
    have e:=h1.val 4 _ hx;have hb:=(h2.own _ List.mem_cons_self).1;have hc:v.w.cell? ⟨b,0,none⟩=some (.bool false):=by simp[World.cell?,hb]
    simp[results,Tryz.results32,e,asAddr,co_ gQ_ hc]) (.refl _) rfl
theorem vK_ (p:List Pc) (pad:Option Addr) (pcap:Nat) (fs:List Fc) (fad:Option Addr) (fcap:Nat) (vb ab:Nat) (s:Stp) (k:Int) (hpl:p.length≤10000000):TriX Tryz.prog 77 #[zp_ vb 0,Stp.val s,.int .i64 k] [] [bJ_ vb (.cells (em_ (.slice pad p.length pcap) ab (.slice fad fs.length fcap)).toArray 83 (0,0)),aC_ pad (List.flatMap Pc.cells p)] (fun _:{u:Unit // gs_ p s.piece k}=>Pc.val (p.getD s.piece.toNat zpc)) (fun _=>[]) (fun _=>[]) (¬ gs_ p s.piece k):=by
 refine bp_ Tryz.func77 rfl rfl Tryz.ntmps77 rfl fun v0=>?_;refine Zz 2 ?_;refine ah_ rfl rfl fun b1=>E_ am_ rfl fun b2=>Zz 4 ?_
 refine o_ 23 [0,1,2,3] zk zs (Zi 2 (fun hr1=>?_) fun hr1=>?_)
 ·refine Zz 2 ?_
  refine o_ 1 [4,5,6,7,8,9,10,11,12,13,14,15,16,17,18,19,20,21,22,23,24,25] zk zs (Zz 23 ?_);refine i_ 26 rfl zk (at_ (ex_ false) rfl j_ zt rfl (fun hb=>dk_ ((fun hq=>by unfold gs_ at hq;omega))) fun⟨_,hn1⟩=>?_);try dsimp only
  cases hn1
 refine Zz 2 ?_;refine o_ 13 [4,5,6,7,8,9,10,11,12,13] zk zs (Zi 7 (fun hr2=>?_) fun hr2=>?_)
 ·refine Zz 3 ?_
  refine o_ 1 [14,15,16,17,18,19,20,21,22,23,24,25] zk zs (Zz 13 ?_);refine i_ 26 rfl zk (at_ (ex_ false) rfl j_ zt rfl (fun hb=>dk_ ((fun hq=>by unfold gs_ at hq;omega))) fun⟨_,hn2⟩=>?_);try dsimp only
  cases hn2
 obtain⟨hlx1,x1,hx1,hmx1⟩:=zge (show (Int.toNat s.piece)<List.length p by omega);refine Zz 3 ?_;refine o_ 1 [14,15,16,17,18,19,20,21,22,23,24,25] zk zs (Zz 10 ?_);refine aI_ rfl rfl rfl (aM_ rfl rfl) rfl fun r3 hr3=>Zz 2 ?_
 refine i_ 26 rfl zk (at_ (ex_ r3) rfl j_ zt rfl (fun hb=>dk_ ((fun hq=>by rw[hb]at hr3;have z:=hq.2.2;rw[gp_ hx1]at z;rw[z]at hr3;simp at hr3))) fun⟨_,hn3⟩=>?_);try dsimp only
 have hpk:gs_ p s.piece k:=⟨by omega,by omega,by rw[gp_ hx1];exact eq_of_beq (hr3.trans hn3)⟩;refine Zz 6 ?_;refine ap_ ((b1,.cells #[.int .i64 s.rule,.int .i64 (Fc.kind s.fact),str (Fc.a s.fact),str (Fc.b s.fact),str (Fc.r s.fact),.int .i64 (Fc.lo s.fact),.int .i64 (Fc.hi s.fact),.int .i64 s.piece,.slice s.ad (List.length s.frm) s.cap] 36 (0,0))::[]) zk ?_;refine o_ 1 [0,1,2,3,4,5,6,7] zk zs (Zz 9 ?_);refine i_ 8 rfl zk (z_ 0 U_ rfl rfl rfl rfl rfl rfl (Zz 6 ?_));refine cz_ ?_;exact eQ_ ⟨(),hpk⟩ (fun aa v h1 h2=>by rw[gp_ hx1];exact cf_ (us:=Pc.cells x1) 0 Tryz.results77 cx_ U_ rfl rfl rfl aa v h1 h2) j_ zt
end Go.Proofs.YtaffcjgphlhppaaGreatDoor
namespace Go.Proofs.YtaffcjgphlhppaaGreatDoor
open Go Go.Sx Go.Proofs
attribute [local irreducible] Code.wp wpList wpAnyH
open Go.Vs
theorem jd_ {α:Type}:∀ {l:List α},l.length=2→∃ a b,l=[a,b]
  | [a,b],_=>⟨a,b,rfl⟩
theorem rule_c (k:Int) (h1:1≤k) (h2:k≤16):∃ g:FuncId,lq_[3*k.toNat]? = some (.int .i64 (ir_ k))∧lq_[3*k.toNat+1]? = some (.int .i64 (fd_ k))∧lq_[3*k.toNat+2]? = some (.func (.func g) #[] #[]) ∧
    ∀ (kn:Str→Bool) (q:List Str) (_:∀ s,kn s=true↔s∈q) (es:Array MapEntry) (ec:Nat) (_:SetE str es q) (vb ab:Nat) (pv fv:Value) (x:Pc) (f:Fc) (lad:Option Addr) (lcap:Nat) (l:List Fc) (_:(l.length:Int)=ir_ k) (_:∀ y∈l,wf2 y=true) (_:wf2 f=true) (_:k=14→-1099511627776≤x.lo∧x.lo≤x.hi∧x.hi≤1099511627776),
    TriX Tryz.prog g #[.agg #[zp_ vb 0,.int .i64 f.kind,str f.a,str f.b,str f.r,.int .i64 f.lo,.int .i64 f.hi,.slice lad l.length lcap,.int .i64 x.kind,str x.a,str x.b,str x.c,str x.r,str x.s,str x.t,.int .i64 x.lo,.int .i64 x.hi,.int .i64 x.frm]] [] [bJ_ vb (.cells (em_ pv ab fv).toArray 83 (0,0)),bJ_ ab (.map es ec),aC_ lad (List.flatMap Fc.cells l)] (fun _:Unit=>.bool (eu_ kn k x f (l.getD 0 zfc) (l.getD 1 zfc))) (fun _=>[]) (fun _=>[]) (eu_ kn k x f (l.getD 0 zfc) (l.getD 1 zfc)=false):=by
  have hk:k=1∨k=2∨k=3∨k=4∨k=5∨k=6∨k=7∨k=8∨k=9∨k=10∨k=11∨k=12∨k=13∨k=14∨k=15∨k=16:=by omega
  rcases hk with rfl|rfl|rfl|rfl|rfl|rfl|rfl|rfl|rfl|rfl|rfl|rfl|rfl|rfl|rfl|rfl
  · refine⟨128,rfl,rfl,rfl,fun kn q hkn es ec hE vb ab pv fv x f lad lcap l hl hw wf hx=>?_⟩
    obtain rfl:l=[]:=List.eq_nil_of_length_eq_zero (by have q:(l.length:Int)=0:=hl;omega);exact ((wb_ kn q hkn es ec hE vb ab pv fv x f lad lcap).toX _)
  · refine⟨130,rfl,rfl,rfl,fun kn q hkn es ec hE vb ab pv fv x f lad lcap l hl hw wf hx=>?_⟩
    obtain rfl:l=[]:=List.eq_nil_of_length_eq_zero (by have q:(l.length:Int)=0:=hl;omega);exact ((wa_ kn q hkn es ec hE vb ab pv fv x f lad lcap).toX _)
  · refine⟨131,rfl,rfl,rfl,fun kn q hkn es ec hE vb ab pv fv x f lad lcap l hl hw wf hx=>?_⟩
    obtain⟨ga,rfl⟩:∃ ga,l=[ga]:=List.length_eq_one_iff.1 (by have q:(l.length:Int)=1:=hl;omega);exact ((vZ_ kn q hkn es ec hE vb ab pv fv x f ga lad lcap).toX _)
  · refine⟨132,rfl,rfl,rfl,fun kn q hkn es ec hE vb ab pv fv x f lad lcap l hl hw wf hx=>?_⟩
    obtain⟨ga,gb,rfl⟩:∃ ga gb,l=[ga,gb]:=jd_ (by have q:(l.length:Int)=2:=hl;omega);exact ((vY_ kn q hkn es ec hE vb ab pv fv x f ga gb lad lcap).toX _)
  · refine⟨133,rfl,rfl,rfl,fun kn q hkn es ec hE vb ab pv fv x f lad lcap l hl hw wf hx=>?_⟩
    obtain⟨ga,rfl⟩:∃ ga,l=[ga]:=List.length_eq_one_iff.1 (by have q:(l.length:Int)=1:=hl;omega);exact ((vX_ kn q hkn es ec hE vb ab pv fv x f ga lad lcap).toX _)
  · refine⟨135,rfl,rfl,rfl,fun kn q hkn es ec hE vb ab pv fv x f lad lcap l hl hw wf hx=>?_⟩
    obtain⟨ga,rfl⟩:∃ ga,l=[ga]:=List.length_eq_one_iff.1 (by have q:(l.length:Int)=1:=hl;omega);exact ((vW_ kn q hkn es ec hE vb ab pv fv x f ga lad lcap).toX _)
  · refine⟨136,rfl,rfl,rfl,fun kn q hkn es ec hE vb ab pv fv x f lad lcap l hl hw wf hx=>?_⟩
    obtain⟨ga,gb,rfl⟩:∃ ga gb,l=[ga,gb]:=jd_ (by have q:(l.length:Int)=2:=hl;omega);exact ((vV_ kn q hkn es ec hE vb ab pv fv x f ga gb lad lcap).toX _)
  · refine⟨137,rfl,rfl,rfl,fun kn q hkn es ec hE vb ab pv fv x f lad lcap l hl hw wf hx=>?_⟩
    obtain⟨ga,gb,rfl⟩:∃ ga gb,l=[ga,gb]:=jd_ (by have q:(l.length:Int)=2:=hl;omega);exact ((vU_ kn q hkn es ec hE vb ab pv fv x f ga gb lad lcap).toX _)
  · refine⟨138,rfl,rfl,rfl,fun kn q hkn es ec hE vb ab pv fv x f lad lcap l hl hw wf hx=>?_⟩
    obtain⟨ga,gb,rfl⟩:∃ ga gb,l=[ga,gb]:=jd_ (by have q:(l.length:Int)=2:=hl;omega);exact ((vT_ kn q hkn es ec hE vb ab pv fv x f ga gb lad lcap).toX _)
  · refine⟨139,rfl,rfl,rfl,fun kn q hkn es ec hE vb ab pv fv x f lad lcap l hl hw wf hx=>?_⟩
    obtain rfl:l=[]:=List.eq_nil_of_length_eq_zero (by have q:(l.length:Int)=0:=hl;omega);exact ((un_ kn q hkn es ec hE vb ab pv fv x f lad lcap).toX _)
  · refine⟨140,rfl,rfl,rfl,fun kn q hkn es ec hE vb ab pv fv x f lad lcap l hl hw wf hx=>?_⟩
    obtain⟨ga,rfl⟩:∃ ga,l=[ga]:=List.length_eq_one_iff.1 (by have q:(l.length:Int)=1:=hl;omega);exact ((um_ kn q hkn es ec hE vb ab pv fv x f ga lad lcap).toX _)
  · refine⟨141,rfl,rfl,rfl,fun kn q hkn es ec hE vb ab pv fv x f lad lcap l hl hw wf hx=>?_⟩
    obtain⟨ga,gb,rfl⟩:∃ ga gb,l=[ga,gb]:=jd_ (by have q:(l.length:Int)=2:=hl;omega);exact (ul_ kn q hkn es ec hE vb ab pv fv x f ga gb lad lcap (hw _ (by simp)) (hw _ (by simp)) wf)
  · refine⟨142,rfl,rfl,rfl,fun kn q hkn es ec hE vb ab pv fv x f lad lcap l hl hw wf hx=>?_⟩
    obtain⟨ga,gb,rfl⟩:∃ ga gb,l=[ga,gb]:=jd_ (by have q:(l.length:Int)=2:=hl;omega);exact (uk_ kn q hkn es ec hE vb ab pv fv x f ga gb lad lcap (hw _ (by simp)) (hw _ (by simp)))
  · refine⟨143,rfl,rfl,rfl,fun kn q hkn es ec hE vb ab pv fv x f lad lcap l hl hw wf hx=>?_⟩
    obtain⟨ga,rfl⟩:∃ ga,l=[ga]:=List.length_eq_one_iff.1 (by have q:(l.length:Int)=1:=hl;omega);exact (uj_ kn q hkn es ec hE vb ab pv fv x f ga lad lcap (hw _ (by simp)) (hx rfl))
  · refine⟨144,rfl,rfl,rfl,fun kn q hkn es ec hE vb ab pv fv x f lad lcap l hl hw wf hx=>?_⟩
    obtain⟨ga,rfl⟩:∃ ga,l=[ga]:=List.length_eq_one_iff.1 (by have q:(l.length:Int)=1:=hl;omega);exact ((ui_ kn q hkn es ec hE vb ab pv fv x f ga lad lcap).toX _)
  · refine⟨145,rfl,rfl,rfl,fun kn q hkn es ec hE vb ab pv fv x f lad lcap l hl hw wf hx=>?_⟩
    obtain⟨ga,rfl⟩:∃ ga,l=[ga]:=List.length_eq_one_iff.1 (by have q:(l.length:Int)=1:=hl;omega);exact (uh_ kn q hkn es ec hE vb ab pv fv x f ga lad lcap (hw _ (by simp)) wf)
theorem ta_ {P:Program} {N:Nf} {fr:Fr} {H:Hp} {Γ:List Fct} {ty t:TypeId} {x:Operand} {vb ab:Nat} {pv fv u0 u1 u2:Value} {T:TypeId} {k:Nat} (ha:∀ w,(isAgg t).run P w=.ok true w) (hs:∀ w,(sizeOf t).run P w=.ok 3 w) (h0:lq_[3*k]? = some u0) (h1:lq_[3*k+1]? = some u1) (h2:lq_[3*k+2]? = some u2)
    (hx:Fr.ev fr x=some (.pointer (some ⟨vb,3+k*3,none⟩))) (hv:∀ v,v.sat H→aB_ Γ v→(bJ_ vb (.cells (em_ pv ab fv).toArray T (0,0))).p v):Yld P N fr H Γ (.load t x) ty (.agg #[u0,u1,u2]) :=
  hp_ hx fun v g2 g4=>cK_ (n:=3) (cs:=[u0,u1,u2]) ha hs rfl fun j y hj=>by
    have hb:=(hv v g2 g4).2;have key:∀ i,(em_ pv ab fv)[3+i]? = lq_[i]? := fun i=>by rw[Nat.add_comm];rfl
    have e:∀ i u,lq_[3*k+i]? = some u→v.w.cell? ⟨vb,3+k*3+i,none⟩=some u:=fun i u hu=>by
      have:=key (3*k+i);rw[hu]at this;simp only[World.cell?,hb];rw[show 3+k*3+i=3+(3*k+i) by omega];simpa using this
    match j with
    | 0=>simp at hj;subst hj;exact e 0 _ h0
    | 1=>simp at hj;subst hj;exact e 1 _ h1
    | 2=>simp at hj;subst hj;exact e 2 _ h2
    | j+3=>simp at hj
theorem uN_ {p:List Pc} {fs:List Fc} {s:Stp} (h:¬ (1≤s.rule∧s.rule≤16)):fE_ p fs s=false:=by
  rw[Bool.eq_false_iff];intro q;simp only[fE_,Bool.and_eq_true,decide_eq_true_eq]at q;exact h ⟨q.1,q.2.1⟩
theorem corB_w {p:List Pc} {fs:List Fc} {s:Stp} (h:wf2 s.fact=false):fE_ p fs s=false:=by
  rw[Bool.eq_false_iff];intro q;simp only[fE_,Bool.and_eq_true,decide_eq_true_eq]at q;rw[h]at q;exact absurd q.2.2.1 (by simp)
theorem corB_m {p:List Pc} {fs:List Fc} {s:Stp} (h:¬ oS_ fs s.frm (ir_ s.rule)):fE_ p fs s=false:=by
  rw[Bool.eq_false_iff];intro q;simp only[fE_,Bool.and_eq_true,decide_eq_true_eq]at q;exact h ⟨q.2.2.2.1,q.2.2.2.2.1⟩
theorem uO_ {p:List Pc} {fs:List Fc} {s:Stp} (h:iF_ p s.rule s.piece=false):fE_ p fs s=false:=by
  rw[Bool.eq_false_iff];intro q;simp only[fE_,Bool.and_eq_true,decide_eq_true_eq]at q;rw[h]at q;exact absurd q.2.2.2.2.2.1 (by simp)
theorem lC_ {p:List Pc} {fs:List Fc} {s:Stp} (hr:1≤s.rule∧s.rule≤16) (wf:wf2 s.fact=true) (hm:oS_ fs s.frm (ir_ s.rule)) (hp:iF_ p s.rule s.piece=true) :
    fE_ p fs s=eu_ (eR_ p) s.rule (mf_ p s.rule s.piece) s.fact ((ck_ fs s.frm).getD 0 zfc) ((ck_ fs s.frm).getD 1 zfc):=by
  unfold fE_;rw[decide_eq_true hr.1,decide_eq_true hr.2,wf,decide_eq_true hm.1,hm.2,hp];simp only[Bool.true_and]
theorem px_ {p:List Pc} {k q:Int} (hk:fd_ k=0):iF_ p k q=decide (q=-1):=if_pos hk
theorem mg_ {p:List Pc} {k q:Int} (hk:fd_ k≠0):iF_ p k q=true↔gs_ p q (fd_ k):=by
  unfold iF_ gs_;rw[if_neg hk];simp only[Bool.and_eq_true,decide_eq_true_eq]
theorem nt_ {fs:List Fc} {frm:List Int} (h:iD_ fs frm=true):∀ y∈ck_ fs frm,wf2 y=true:=fun y hy=>by
  obtain⟨q,hq,rfl⟩:=List.mem_map.1 hy;exact (gG_ h hq).2.2
theorem ma_ {fs:List Fc} {frm:List Int}:(ck_ fs frm).length=frm.length:=by simp[ck_]
theorem tY_ {a:Nat×Obj} {F:Hp}:List.Perm (a::F) (a::F):=.refl _
theorem wQ_ {a b:Nat×Obj} {F:Hp}:List.Perm (b::a::F) (a::b::F):=.swap _ _ _
theorem rz_ {a b c:Nat×Obj} {F:Hp}:List.Perm (c::b::a::F) (a::c::b::F):=((wQ_ (F:=F)).cons c).trans (.swap _ _ _)
theorem tP_ {P:Program} {N:Nf} {fr:Fr} {H:Hp} {fn:Func} {t b:Nat} {ty T:TypeId} {u:Value} (i:Nat) (hr:fn.results=#[.cell t ty]) (ha:∀ w,(isAgg ty).run P w=.ok false w) (hx:Fr.get fr t=some (zp_ b 0)) (hi:H[i]? = some (b,.cells #[u] T (0,0))) (a:Act) (v:Vw) (h1:Fr.sat N fr a) (h2:v.sat H) :
    (results fn a.tmps).run P v.w=.ok u v.w:=by
  have e:=h1.val t _ hx;have hb:=(h2.own _ (List.mem_of_getElem? hi)).1;have hc:v.w.cell? ⟨b,0,none⟩=some u:=by simp[World.cell?,hb]
  simp[results,hr,e,asAddr,co_ ha hc]
theorem nW_ (p:List Pc) (pad:Option Addr) (pcap:Nat) (fs:List Fc) (fad:Option Addr) (fcap:Nat) (vb ab:Nat) (s:Stp) (q:List Str) (hkn:∀ s,eR_ p s=true↔s∈q) (es:Array MapEntry) (ec:Nat) (hE:SetE str es q) (hpl:p.length≤10000000) (hpv:∀ k:Int,k=14→gs_ p s.piece (fd_ k)→-1099511627776≤(p.getD s.piece.toNat zpc).lo∧(p.getD s.piece.toNat zpc).lo≤(p.getD s.piece.toNat zpc).hi∧(p.getD s.piece.toNat zpc).hi≤1099511627776) (hfl:fs.length≤10000000) (hfr:s.frm.length≤1000000) (hfs:∀ x∈fs,x.sml) (hsf:s.fact.sml):Tri Tryz.prog 32 #[zp_ vb 0,Stp.val s] [] [bJ_ vb (.cells (em_ (.slice pad p.length pcap) ab (.slice fad fs.length fcap)).toArray 83 (0,0)),bJ_ ab (.map es ec),aC_ pad (List.flatMap Pc.cells p),aC_ fad (List.flatMap Fc.cells fs),aC_ s.ad (List.flatMap eS_ s.frm)] (fun y:{y:Bool // y=fE_ p fs s}=>.bool y.1) (fun _=>[]) (fun _=>[]):=by
 refine jR_ Tryz.func32 rfl rfl Tryz.ntmps32 rfl fun v0=>?_;refine Zz 2 ?_;refine ah_ rfl rfl fun b1=>E_ cG_ rfl fun b2=>Zz 4 ?_
 refine d_ (bU_ rfl rfl) rfl (nA_ (N:=56) (D:=[]) rfl rfl rfl (Zi 6 (fun hr1=>?_) fun hr1=>?_))
 ·refine Zz 10 ?_
  refine at_ (ex_ false) rfl j_ zt rfl (fun hb=>la_ (x:=.bool false) (X:=fE_ p fs s) (uN_ (by omega)) rfl (tY_)) fun⟨_,hn1⟩=>?_;try dsimp only
  cases hn1
 refine Zi 6 (fun hr2=>?_) fun hr2=>?_
 ·refine Zz 6 ?_
  refine at_ (ex_ false) rfl j_ zt rfl (fun hb=>la_ (x:=.bool false) (X:=fE_ p fs s) (uN_ (by omega)) rfl (tY_)) fun⟨_,hn2⟩=>?_;try dsimp only
  cases hn2
 refine Zz 7 ?_;refine ak_ (wR_ s.fact hsf) rfl j_ zt rfl fun r3 hr3=>Zz 1 ?_
 refine at_ (ex_ r3) rfl j_ zt rfl (fun hb=>la_ (x:=.bool false) (X:=fE_ p fs s) (corB_w (hr3.trans hb)) rfl (tY_)) fun⟨_,hn3⟩=>?_;try dsimp only
 have wf:wf2 s.fact=true:=hr3.trans hn3;have hru:1≤Stp.rule s∧Stp.rule s≤16:=by omega
 obtain⟨gk,hr0,hr1,hr2,hT⟩:=rule_c s.rule hru.1 hru.2;refine Zz 3 ?_;refine vx_ (ι:={y:Nat // True}) (fun y=>[(0,zp_ vb 0),(3,zp_ b1 0),(4,zp_ b2 0),(5,zp_ y.1 0)]) (fun y=>((b1,.cells #[.int .i64 s.rule,.int .i64 (Fc.kind s.fact),str (Fc.a s.fact),str (Fc.b s.fact),str (Fc.r s.fact),.int .i64 (Fc.lo s.fact),.int .i64 (Fc.hi s.fact),.int .i64 s.piece,.slice s.ad (List.length s.frm) s.cap] 36 (0,0))::((b2,.cells #[.bool false] 4 (0,0))::((y.1,.cells #[.int .i64 (ir_ s.rule),.int .i64 (fd_ s.rule),.func (.func gk) #[] #[]] 80 (0,0))::[])))) (fun y=>[bJ_ vb (.cells (em_ (.slice pad p.length pcap) ab (.slice fad fs.length fcap)).toArray 83 (0,0)),bJ_ ab (.map es ec),aC_ pad (List.flatMap Pc.cells p),aC_ fad (List.flatMap Fc.cells fs),aC_ s.ad (List.flatMap eS_ s.frm)]) ?_ ?_
 ·refine ap_ ((b2,.cells #[.bool false] 4 (0,0))::((b1,.cells #[.int .i64 s.rule,.int .i64 (Fc.kind s.fact),str (Fc.a s.fact),str (Fc.b s.fact),str (Fc.r s.fact),.int .i64 (Fc.lo s.fact),.int .i64 (Fc.hi s.fact),.int .i64 s.piece,.slice s.ad (List.length s.frm) s.cap] 36 (0,0))::[])) zk ?_
  refine o_ 2 [0,1,2,3,4,5,6] zk zs (Zz 5 ?_);refine B_ rfl (bG_ (eE_ (off:=3) Tryz.runUnderlying81 Tryz.sizeOf80 rfl rfl (by omega) (by omega)) (show _=Value.pointer (some ⟨vb,3+(Int.toNat s.rule)*3,none⟩) from rfl)) rfl (B_ rfl (ta_ Tryz.isAgg80 Tryz.sizeOf80 hr0 hr1 hr2 rfl zf) rfl (bi_ (i_ 7 rfl zk (E_ Tryz.zeroValue80 rfl fun b3=>Zz 3 ?_))));refine i_ 8 rfl zk (z_ 0 Tryz.sizeOf80 rfl rfl rfl rfl rfl rfl (Zz 5 ?_));exact pI_ ⟨b3,trivial⟩ zl (t_ (c_ (c_ e_)) (t_ (c_ e_) e_)) zf
 rintro ⟨z3_7,_⟩;dsimp only;refine bR_ [(0,zp_ vb 0),(3,zp_ b1 0),(4,zp_ b2 0),(5,zp_ z3_7 0)] zl ?_;refine Zz 7 ?_;refine at_ (qC_ p pad pcap fs fad fcap vb ab s (ir_ s.rule) hfl hfr hfs) rfl j_ zf rfl (fun hb=>la_ (x:=.bool false) (X:=fE_ p fs s) (corB_m hb) rfl (wQ_)) fun⟨⟨lad,lcap⟩,hPm⟩=>?_;try dsimp only
 refine Zz 5 ?_;refine E_ am_ rfl fun b4=>Zi 7 (fun hr4=>?_) fun hr4=>?_
 ·have hz:fd_ s.rule≠0:=by omega
  refine Zz 8 ?_;refine at_ (vK_ p pad pcap fs fad fcap vb ab s (fd_ s.rule) hpl) rfl j_ zf rfl (fun hb=>la_ (x:=.bool false) (X:=fE_ p fs s) (uO_ (Bool.eq_false_iff.2 fun hq=>hb ((mg_ hz).1 hq))) rfl (rz_)) fun⟨_,hPk⟩=>?_;try dsimp only
  have hpb:iF_ p s.rule s.piece=true:=(mg_ hz).2 hPk;have hpl8:(List.getD p (Int.toNat s.piece) zpc)=mf_ p s.rule s.piece:=(if_neg hz).symm;refine z_ 0 U_ rfl rfl rfl rfl rfl rfl (Zz 11 ?_);refine d_ (F_ rr_ rfl rfl) rfl (ia_ (hT (eR_ p) q hkn es ec hE vb ab (.slice pad p.length pcap) (.slice fad fs.length fcap) (List.getD p (Int.toNat s.piece) zpc) s.fact lad lcap (ck_ fs s.frm) (by rw[ma_];exact hPm.1) (nt_ hPm.2) wf (fun h14=>hpv _ h14 hPk)) rfl rfl j_ zf rfl (fun hb=>la_ (x:=.bool false) (X:=fE_ p fs s) ((lC_ hru wf hPm hpb).trans (by rw[← hpl8];exact hb)) rfl (rz_)) fun _=>?_);refine z_ 2 fK_ rfl rfl rfl rfl rfl rfl (Zz 3 ?_);have hfin:(eu_ (eR_ p) s.rule (List.getD p (Int.toNat s.piece) zpc) s.fact (List.getD (ck_ fs s.frm) 0 zfc) (List.getD (ck_ fs s.frm) 1 zfc))=fE_ p fs s:=by have z:=lC_ hru wf hPm hpb;rw[← hpl8]at z;exact z.symm
  exact tL_ (F:=_) ⟨(eu_ (eR_ p) s.rule (List.getD p (Int.toNat s.piece) zpc) s.fact (List.getD (ck_ fs s.frm) 0 zfc) (List.getD (ck_ fs s.frm) 1 zfc)),hfin⟩ (ux_ b2) (uB_ b2) (fun a v h1 h2=>tP_ 2 Tryz.results32 gQ_ rfl rfl a v h1 h2) j_ zt
 have hz:fd_ s.rule=0:=by omega
 refine Zz 6 ?_;refine J_ (aM_ rfl rfl) rfl fun r5 hr5=>?_;refine at_ (ex_ r5) rfl j_ zt rfl (fun hb=>la_ (x:=.bool false) (X:=fE_ p fs s) (uO_ (by rw[px_ hz];rw[hb]at hr5;simpa using hr5)) rfl (rz_)) fun⟨_,hn4⟩=>?_;try dsimp only
 have hpb:iF_ p s.rule s.piece=true:=by rw[px_ hz];have z:=hr5.trans hn4;simpa using z
 have hpl8:zpc=mf_ p s.rule s.piece:=(if_pos hz).symm;refine Zz 11 ?_;refine d_ (F_ rr_ rfl rfl) rfl (ia_ (hT (eR_ p) q hkn es ec hE vb ab (.slice pad p.length pcap) (.slice fad fs.length fcap) (Pc.mk 0 [] [] [] [] [] [] 0 0 0) s.fact lad lcap (ck_ fs s.frm) (by rw[ma_];exact hPm.1) (nt_ hPm.2) wf (fun h14=>(by have:=hz;rw[h14]at this;exact absurd this (by decide)))) rfl rfl j_ zf rfl (fun hb=>la_ (x:=.bool false) (X:=fE_ p fs s) ((lC_ hru wf hPm hpb).trans (by rw[← hpl8];exact hb)) rfl (rz_)) fun _=>?_);refine z_ 2 fK_ rfl rfl rfl rfl rfl rfl (Zz 3 ?_);have hfin:(eu_ (eR_ p) s.rule (Pc.mk 0 [] [] [] [] [] [] 0 0 0) s.fact (List.getD (ck_ fs s.frm) 0 zfc) (List.getD (ck_ fs s.frm) 1 zfc))=fE_ p fs s:=by have z:=lC_ hru wf hPm hpb;rw[← hpl8]at z;exact z.symm
 exact tL_ (F:=_) ⟨(eu_ (eR_ p) s.rule (Pc.mk 0 [] [] [] [] [] [] 0 0 0) s.fact (List.getD (ck_ fs s.frm) 0 zfc) (List.getD (ck_ fs s.frm) 1 zfc)),hfin⟩ (ux_ b2) (uB_ b2) (fun a v h1 h2=>tP_ 2 Tryz.results32 gQ_ rfl rfl a v h1 h2) j_ zt
end Go.Proofs.YtaffcjgphlhppaaGreatDoor
