/-
  Part of the proof of the law CheckerTrusts over this seat: the small logic, the data, the contracts of functions (no condition).
-/
import Derived.Test.YtaffcjgphlhppaaGreatDoorQCheckerTrusts16
import Derived.Test.YtaffcjgphlhppaaGreatDoorQCheckerTrusts3
import Derived.Test.YtaffcjgphlhppaaGreatDoorRows
set_option linter.unusedVariables false
set_option linter.unusedSimpArgs false
set_option linter.unusedSectionVars false
set_option maxHeartbeats 1000000
namespace Go.Proofs.YtaffcjgphlhppaaGreatDoor
open Go Go.Sx Go.Proofs
attribute [local irreducible] Code.wp wpList wpAnyH
open Go.Vs Go.ChangeShapes Go.WideShapes Go.ChangeAt Go.RowKit
theorem own:ownKnob Tryz.prog.godebug=none:=by kernel_rfl
def gZ_ : List (String × DataW Unit) := [("math/bits.deBruijn32tab", Rows.laid_math_bits_deBruijn32tab), ("math/bits.deBruijn64tab", Rows.laid_math_bits_deBruijn64tab), ("internal/strconv.uint64pow10", Rows.laid_internal_strconv_uint64pow10), ("unicode/utf8.acceptRanges", Rows.laid_unicode_utf8_acceptRanges), ("veilstone/terms.needs", Rows.laid_veilstone_terms_needs), ("veilstone/terms.uses", Rows.laid_veilstone_terms_uses), ("veilstone/normal.uses", Rows.laid_veilstone_normal_uses), ("unicode/utf8.first", Rows.laid_unicode_utf8_first)]
theorem up_:Kids Tryz.prog (·<Tryz.prog.types.size):=kids_rows (by kernel_rfl) (by kernel_rfl)
theorem full:∀ t e,t<Tryz.prog.types.size→Tryz.prog.underlying t=some (.slice e)→0<Tryz.prog.cellsOf e:=slices_full_of _ (by kernel_rfl)
theorem mr_:Tryz.prog.types.size=305:=by kernel_rfl
theorem tysX:Tys Tryz.prog 3 4 9 46 56 54 58 53 73 22 where
  i:=Q_
  b:=Tryz.underlying4
  s:=aV_
  ss:=ix_
  c:=⟨_,Tryz.underlying56,rfl⟩
  cs:=Tryz.underlying54
  a:=⟨_,Tryz.underlying58,rfl⟩
  axs:=Tryz.underlying53
  p:=⟨_,gk_,rfl⟩
  ps:=Tryz.underlying22
  ci:=by kernel_rfl
  cb:=by kernel_rfl
  cs1:=by kernel_rfl
  css:=by kernel_rfl
  cc:=by kernel_rfl
  ccs:=by kernel_rfl
  ca:=by kernel_rfl
  cp:=by kernel_rfl
  bs:=by kernel_rfl
  bc:=by kernel_rfl
  ba:=by kernel_rfl
  bp:=by kernel_rfl
theorem lo_ {W:World} (h:laidMetH Tryz.prog gZ_ W):∃ T fz,W.heap[2]? = some (.cells (fL_ (H:=Unit) Rows.laid_veilstone_terms_needs).toArray T fz):=by
  rw[MakeChecks.laidMetH_plain _ _ _ zk]at h;exact jU_ up_ (name := "veilstone/terms.needs") h (by simp [gZ_]) (g := 2) (t := 216) zk zk (by rw [mr_]; decide) (m := 4) zk
theorem lN_ {W:World} (h:laidMetH Tryz.prog gZ_ W):∃ T fz,W.heap[0]? = some (.cells (fL_ (H:=Unit) Rows.laid_veilstone_terms_uses).toArray T fz):=by
  rw[MakeChecks.laidMetH_plain _ _ _ zk]at h;exact jU_ up_ (name := "veilstone/terms.uses") h (by simp [gZ_]) (g := 0) (t := 136) zk zk (by rw [mr_]; decide) (m := 4) zk
theorem lp_ {W:World} (h:laidMetH Tryz.prog gZ_ W):∃ T fz,W.heap[1]? = some (.cells (fL_ (H:=Unit) Rows.laid_veilstone_normal_uses).toArray T fz):=by
  rw[MakeChecks.laidMetH_plain _ _ _ zk]at h;exact jU_ up_ (name := "veilstone/normal.uses") h (by simp [gZ_]) (g := 1) (t := 151) zk zk (by rw [mr_]; decide) (m := 4) zk
theorem hr_ {W:World} (h:laidMetH Tryz.prog gZ_ W):∃ T fz,W.heap[6]? = some (.cells (fL_ (H:=Unit) Rows.laid_internal_strconv_uint64pow10).toArray T fz):=by
  rw[MakeChecks.laidMetH_plain _ _ _ zk]at h;exact jU_ up_ (name := "internal/strconv.uint64pow10") h (by simp [gZ_]) (g := 6) (t := 289) zk zk (by rw [mr_]; decide) (m := 4) zk
theorem ok_ {W:World} {g:Nat} {l:List Value} {d:List Value} (h:∃ T fz,W.heap[g]? = some (.cells l.toArray T fz)) (e:l=d):bH_ (vw W) (some ⟨g,0,none⟩) d:=by
  obtain⟨T,fz,h⟩:=h;subst e;exact .inr ⟨g,0,_,T,fz,rfl,(Array.getElem?_eq_some_iff.1 h).1,h,fun j x hj=>by rw[Nat.zero_add];simpa using hj⟩
theorem rp_ {W:World} (h:laidMetH Tryz.prog gZ_ W):dK_.p (vw W):=by
  refine⟨ok_ (lo_ h) zk,ok_ (lN_ h) zk,ok_ (lp_ h) zk,?_⟩;obtain⟨T,fz,h2⟩:=hr_ h;refine⟨trivial,(Array.getElem?_eq_some_iff.1 h2).1,T,fz,?_⟩;rw[show (Lib.pow10Tab.map fun z=>Value.int .u64 z)=fL_ (H:=Unit) Rows.laid_internal_strconv_uint64pow10 by kernel_rfl];exact h2
theorem vo_ {W:World} (h:laidMetH Tryz.prog gZ_ W):iu_.p (vw W):=(rp_ h).2.2.1
theorem tysR:TysR Tryz.prog 3 9 24 34 36 25 27 5 39 where
  f:=⟨_,nl_,rfl⟩
  cf:=by kernel_rfl
  x:=⟨_,Tryz.underlying36,rfl⟩
  xs:=Tryz.underlying25
  is:=Tryz.underlying34
  q:=⟨_,Tryz.underlying27,rfl⟩
  u:=oZ_
  us:=nk_
  cis:=by kernel_rfl
  cx:=by kernel_rfl
  cxs:=by kernel_rfl
  cq:=by kernel_rfl
  cu:=by kernel_rfl
  bi:=by kernel_rfl
  bx:=by kernel_rfl
  bu:=by kernel_rfl
end Go.Proofs.YtaffcjgphlhppaaGreatDoor
