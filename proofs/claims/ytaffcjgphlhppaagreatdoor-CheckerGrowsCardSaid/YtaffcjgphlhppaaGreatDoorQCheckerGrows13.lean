/-
  Part of the proof of the law CheckerGrows over this seat: the small logic, the data, the contracts of functions (no condition).
-/
import Derived.Test.YtaffcjgphlhppaaGreatDoorQCheckerGrows5
import Derived.Test.YtaffcjgphlhppaaGreatDoorQCheckerGrows7
import Derived.Test.YtaffcjgphlhppaaGreatDoorQCheckerGrows12
import Derived.Test.YtaffcjgphlhppaaGreatDoorQCheckerGrows3
import Derived.Test.YtaffcjgphlhppaaGreatDoorRows
set_option linter.unusedVariables false
set_option linter.unusedSimpArgs false
set_option linter.unusedSectionVars false
namespace Go.Proofs.YtaffcjgphlhppaaGreatDoor
open Go Go.Sx Go.Proofs
attribute [local irreducible] Code.wp wpList wpAnyH
open Go.Vs Go.ChangeShapes Go.WideShapes Go.ChangeAt Go.RowKit
structure TysR (P : Program) (tI tS tF tIs tX tXs tQ tU tUs : TypeId) : Prop where
  f : ∃ fs, P.underlying tF = some (.struct fs) ∧ fs.toList.map (fun f => (f.type, f.offset)) = [(tI, 0), (tS, 1), (tS, 2), (tS, 3), (tI, 4), (tI, 5)]
  cf : P.cellsOf tF = 6
  x : ∃ fs, P.underlying tX = some (.struct fs) ∧ fs.toList.map (fun f => (f.type, f.offset)) = [(tI, 0), (tF, 1), (tI, 7), (tIs, 8)]
  xs : P.underlying tXs = some (.slice tX)
  is : P.underlying tIs = some (.slice tI)
  q : ∃ fs, P.underlying tQ = some (.struct fs) ∧ fs.toList.map (fun f => (f.type, f.offset)) = [(tXs, 0)]
  u : P.underlying tU = some (.int .u8)
  us : P.underlying tUs = some (.slice tU)
  cis : P.cellsOf tIs = 1
  cx : P.cellsOf tX = 9
  cxs : P.cellsOf tXs = 1
  cq : P.cellsOf tQ = 1
  cu : P.cellsOf tU = 1
  bi : P.bytesOf tI = 8
  bx : P.bytesOf tX = 112
  bu : P.bytesOf tU = 1
structure frd (f : Fc) : Prop where
  lim : f.lim
  lo : I64 f.lo
  hi : I64 f.hi
structure srd (W : World) (s : Stp) : Prop where
  row : bD_ (vw W) s.ad (s.frm.flatMap cV_)
  fact : frd s.fact
  le : s.frm.length ≤ s.cap
  mx : s.cap ≤ 17592186044416
structure prd (W : World) (y : Pf) : Prop where
  row : bD_ (vw W) y.ad (y.l.flatMap Stp.cells)
  st : ∀ s ∈ y.l, srd W s
  le : y.l.length ≤ y.cap
  mx : y.cap ≤ 1256584717424
section
variable {H : Type} {enc : TypeId × Value → H} {P : Program} {W : World} {tI tB tS tSs tC tCs tA tAs tP tPs tF tIs tX tXs tQ tU tUs tQs : TypeId} (X : Tys P tI tB tS tSs tC tCs tA tAs tP tPs) (Y : TysR P tI tS tF tIs tX tXs tQ tU tUs)
include X Y
theorem mI_ {n : Nat} {cs : List Value} {x : DataW H × List MemPlace} (h : DataW.trod enc P W 0 (fun _ => true) true n tF cs = some x) (hw : wok (x.1.weights P tF)) : ∃ f : Fc, cs = f.cells ∧ frd f := by
  obtain ⟨fs, hu, hL⟩ := Y.f
  obtain ⟨xs, m, hn, hx, hl, hlen, hf, hwe⟩ := fields_of hu hL h
  rw [hwe] at hw
  match xs, hlen with
  | [x0, x1, x2, x3, x4, x5], _ =>
  simp only [List.map_cons, List.map_nil, DataW.weightsEach, dd_] at hw
  have f0 := hf 0 _ rfl; have f1 := hf 1 _ rfl; have f2 := hf 2 _ rfl; have f3 := hf 3 _ rfl; have f4 := hf 4 _ rfl; have f5 := hf 5 _ rfl
  simp only [List.getElem?_cons_zero, List.getElem?_cons_succ, X.ci, X.cs1] at f0 f1 f2 f3 f4 f5
  obtain ⟨k, e0, _, _⟩ := en_ X f0
  obtain ⟨a, e1, n1⟩ := Go.Vs.str_of X f1 hw.2.1
  obtain ⟨b, e2, n2⟩ := Go.Vs.str_of X f2 hw.2.2.1
  obtain ⟨r, e3, n3⟩ := Go.Vs.str_of X f3 hw.2.2.2.1
  obtain ⟨lo, e4, l1, l2⟩ := en_ X f4
  obtain ⟨hi, e5, l3, l4⟩ := en_ X f5
  rw [Y.cf] at hl
  match cs, hl with
  | [c0, c1, c2, c3, c4, c5], _ =>
  simp only [List.drop_succ_cons, List.drop_zero, List.take_succ_cons, List.take_zero, List.cons.injEq, and_true] at e0 e1 e2 e3 e4 e5
  subst e0 e1 e2 e3 e4 e5
  exact ⟨⟨k, a, b, r, lo, hi⟩, rfl, ⟨n1, n2, n3⟩, ⟨l1, l2⟩, ⟨l3, l4⟩⟩
theorem mH_ {n : Nat} {cs : List Value} {x : DataW H × List MemPlace} (h : DataW.trod enc P W 0 (fun _ => true) true n tIs cs = some x) (hw : wok (x.1.weights P tIs)) :
    ∃ (l : List Int) (ad : Option Addr) (cap : Nat), cs = [.slice ad l.length cap] ∧ bD_ (vw W) ad (l.flatMap cV_) ∧ l.length ≤ cap ∧ cap ≤ 17592186044416 := by
  obtain ⟨l, ad, cap, e, hrow, hq, hlc, hcap⟩ := iN_ cV_ 1 cS_ (by decide) (fun y : Int => -9223372036854775808 ≤ y ∧ y ≤ 9223372036854775807) Y.is X.ci (fun m' _ cs' y hy _ => en_ X hy) h hw
  rw [Y.bi] at hcap; simp only [reachBytes] at hcap
  exact ⟨l, ad, cap, e, hrow, hlc, by omega⟩
theorem of_ {n : Nat} {cs : List Value} {x : DataW H × List MemPlace} (h : DataW.trod enc P W 0 (fun _ => true) true n tX cs = some x) (hw : wok (x.1.weights P tX)) : ∃ s : Stp, cs = s.cells ∧ srd W s := by
  obtain ⟨fs, hu, hL⟩ := Y.x
  obtain ⟨xs, m, hn, hx, hl, hlen, hf, hwe⟩ := fields_of hu hL h
  rw [hwe] at hw
  match xs, hlen with
  | [x0, x1, x2, x3], _ =>
  simp only [List.map_cons, List.map_nil, DataW.weightsEach, dd_] at hw
  have f0 := hf 0 _ rfl; have f1 := hf 1 _ rfl; have f2 := hf 2 _ rfl; have f3 := hf 3 _ rfl
  simp only [List.getElem?_cons_zero, List.getElem?_cons_succ, X.ci, Y.cf, Y.cis] at f0 f1 f2 f3
  obtain ⟨k, e0, _, _⟩ := en_ X f0
  obtain ⟨f, e1, bf⟩ := mI_ X Y f1 hw.2.1
  obtain ⟨pc, e2, _, _⟩ := en_ X f2
  obtain ⟨l, ad, cap, e3, r3, l3, m3⟩ := mH_ X Y f3 hw.2.2.2.1
  rw [Y.cx] at hl
  match cs, hl with
  | [c0, c1, c2, c3, c4, c5, c6, c7, c8], _ =>
  simp only [List.drop_succ_cons, List.drop_zero, List.take_succ_cons, List.take_zero, List.cons.injEq, and_true, Fc.cells] at e0 e1 e2 e3
  refine ⟨⟨k, f, pc, ad, cap, l⟩, ?_, r3, bf, l3, m3⟩
  obtain ⟨a1, a2, a3, a4, a5, a6⟩ := e1
  rw [e0, a1, a2, a3, a4, a5, a6, e2, e3]; rfl
theorem mG_ {n : Nat} {cs : List Value} {x : DataW H × List MemPlace} (h : DataW.trod enc P W 0 (fun _ => true) true n tXs cs = some x) (hw : wok (x.1.weights P tXs)) :
    ∃ (l : List Stp) (ad : Option Addr) (cap : Nat), cs = [.slice ad l.length cap] ∧ bD_ (vw W) ad (l.flatMap Stp.cells) ∧ (∀ y ∈ l, srd W y) ∧ l.length ≤ cap ∧ cap ≤ 1256584717424 := by
  have : Inhabited Stp := ⟨⟨0, zfc, 0, none, 0, []⟩⟩
  obtain ⟨l, ad, cap, e, hrow, hq, hlc, hcap⟩ := iN_ Stp.cells 9 Stp.cells_len (by decide) (srd W) Y.xs Y.cx (fun m' _ cs' y hy hwy => of_ X Y hy hwy) h hw
  rw [Y.bx] at hcap; simp only [reachBytes] at hcap
  exact ⟨l, ad, cap, e, hrow, hq, hlc, by omega⟩
theorem og_ {n : Nat} {cs : List Value} {x : DataW H × List MemPlace} (h : DataW.trod enc P W 0 (fun _ => true) true n tQ cs = some x) (hw : wok (x.1.weights P tQ)) : ∃ y : Pf, cs = y.cells ∧ prd W y := by
  obtain ⟨fs, hu, hL⟩ := Y.q
  obtain ⟨xs, m, hn2, hx, hl, hlen, hf, hwe⟩ := fields_of hu hL h
  rw [hwe] at hw
  match xs, hlen with
  | [x0], _ =>
  simp only [List.map_cons, List.map_nil, DataW.weightsEach, dd_] at hw
  have f0 := hf 0 _ rfl
  simp only [List.getElem?_cons_zero, Y.cxs] at f0
  obtain ⟨l, ad, cap, e0, h1, h2, h3, h4⟩ := mG_ X Y f0 hw.1
  rw [Y.cq] at hl
  rw [List.drop_zero, List.take_of_length_le (by omega)] at e0
  exact ⟨⟨l, ad, cap⟩, e0, h1, h2, h3, h4⟩
variable {base : Nat} {v : Value} {d : DataW H} {ps : List MemPlace}
theorem arg_fc (hval : Value.okWide P W .any base tF v) (h : DataW.Trod enc P W 0 (fun _ => true) true tF v d ps) (hw : wok (d.weights P tF)) : ∃ f : Fc, v = f.val ∧ frd f := by
  obtain ⟨fs, hu, _⟩ := Y.f
  unfold Value.okWide at hval
  rw [hu] at hval
  obtain ⟨cs, rfl, _⟩ := hval
  obtain ⟨n, hn⟩ := h
  obtain ⟨f, e, h1⟩ := mI_ X Y hn hw
  refine ⟨f, ?_, h1⟩
  simp only [Value.cells] at e
  rw [Fc.val, ← e]
theorem oX_ (hval : Value.okWide P W .any base tQ v) (h : DataW.Trod enc P W 0 (fun _ => true) true tQ v d ps) (hw : wok (d.weights P tQ)) :
    ∃ (l : List Stp) (ad : Option Addr) (cap : Nat), v = .agg #[.slice ad l.length cap] ∧ bD_ (vw W) ad (l.flatMap Stp.cells) ∧ (∀ y ∈ l, srd W y) ∧ l.length ≤ cap ∧ cap ≤ 1256584717424 := by
  obtain ⟨fs, hu, _⟩ := Y.q
  unfold Value.okWide at hval
  rw [hu] at hval
  obtain ⟨cs, rfl, _⟩ := hval
  obtain ⟨n, hn⟩ := h
  simp only [Value.cells] at hn
  obtain ⟨y, e, h1, h2, h3, h4⟩ := og_ X Y hn hw
  refine ⟨y.l, y.ad, y.cap, ?_, h1, h2, h3, h4⟩
  obtain ⟨a⟩ := cs
  simp only at e
  subst e
  rfl
end
theorem my_ {H : Type} {enc : TypeId × Value → H} {P : Program} {W : World} {ts te : TypeId} (hs : P.underlying ts = some (.slice te)) {n : Nat} {ad : Option Addr} {len cap : Nat} {x : DataW H × List MemPlace} (h : DataW.trod enc P W 0 (fun _ => true) true n ts [.slice ad len cap] = some x) : ad = none → cap = 0 := by
  intro e
  subst e
  rcases DataW.trod_slice hs h with ⟨h0, _⟩ | ⟨a, l, c, elems, rest, m, hn, h0, _⟩
  · cases h0; rfl
  · cases h0
section
variable {H : Type} {enc : TypeId × Value → H} {P : Program} {W : World} {tI tB tS tSs tC tCs tA tAs tP tPs : TypeId} (X : Tys P tI tB tS tSs tC tCs tA tAs tP tPs) {base : Nat} {v : Value} {d : DataW H} {ps : List MemPlace}
include X
theorem lp_ (hval : Value.okWide P W .any base tPs v) (h : DataW.Trod enc P W 0 (fun _ => true) true tPs v d ps) (hw : wok (d.weights P tPs)) :
    ∃ (l : List Pc) (ad : Option Addr) (cap : Nat), v = .slice ad l.length cap ∧ bD_ (vw W) ad (l.flatMap Pc.cells) ∧ (∀ y ∈ l, y.lim) ∧ l.length ≤ cap ∧ cap ≤ 1099511627744 ∧ (ad = none → cap = 0) := by
  obtain ⟨a, len, cap, rfl⟩ := okWide_slice X.ps hval
  obtain ⟨n, hn⟩ := h
  obtain ⟨l, ad, cap', e, h1, h2, h3, h4⟩ := pcs_of X hn hw
  have z := my_ X.ps (e ▸ hn)
  simp only [Value.cells, List.cons.injEq, and_true] at e
  exact ⟨l, ad, cap', e, h1, fun y hy => by obtain ⟨q1, q2, q3, q4, q5, q6⟩ := h2 y hy; exact ⟨q1, q2, q3, q4, q5, q6⟩, h3, h4, z⟩
end
section
variable {H : Type} {enc : TypeId × Value → H} {P : Program} {W : World} {tI tS tF tIs tX tXs tQ tU tUs : TypeId} (Y : TysR P tI tS tF tIs tX tXs tQ tU tUs) {base : Nat} {v : Value} {d : DataW H} {ps : List MemPlace}
include Y
end
end Go.Proofs.YtaffcjgphlhppaaGreatDoor
namespace Go.Proofs.YtaffcjgphlhppaaGreatDoor
open Go Go.Sx Go.Proofs
attribute [local irreducible] Code.wp wpList wpAnyH
open Go.Vs Go.ChangeShapes Go.WideShapes Go.ChangeAt Go.RowKit
theorem own : ownKnob Tryz.prog.godebug = none := by kernel_rfl
def ei_ : List (String × DataW Unit) := [("math/bits.deBruijn32tab", Rows.laid_math_bits_deBruijn32tab), ("math/bits.deBruijn64tab", Rows.laid_math_bits_deBruijn64tab), ("internal/strconv.uint64pow10", Rows.laid_internal_strconv_uint64pow10), ("unicode/utf8.acceptRanges", Rows.laid_unicode_utf8_acceptRanges), ("veilstone/terms.needs", Rows.laid_veilstone_terms_needs), ("veilstone/terms.uses", Rows.laid_veilstone_terms_uses), ("veilstone/normal.uses", Rows.laid_veilstone_normal_uses), ("unicode/utf8.first", Rows.laid_unicode_utf8_first)]
theorem nf_ : Kids Tryz.prog (· < Tryz.prog.types.size) := kids_rows (by kernel_rfl) (by kernel_rfl)
theorem full : ∀ t e, t < Tryz.prog.types.size → Tryz.prog.underlying t = some (.slice e) → 0 < Tryz.prog.cellsOf e := slices_full_of _ (by kernel_rfl)
theorem hv_ : Tryz.prog.types.size = 305 := by kernel_rfl
theorem mp_ : Tys Tryz.prog 3 4 9 46 56 54 58 53 73 22 where
  i := cM_
  b := Tryz.underlying4
  s := dj_
  ss := Tryz.underlying46
  c := ⟨_, Tryz.underlying56, rfl⟩
  cs := Tryz.underlying54
  a := ⟨_, Tryz.underlying58, rfl⟩
  axs := Tryz.underlying53
  p := ⟨_, Tryz.underlying73, rfl⟩
  ps := Tryz.underlying22
  ci := by kernel_rfl
  cb := by kernel_rfl
  cs1 := by kernel_rfl
  css := by kernel_rfl
  cc := by kernel_rfl
  ccs := by kernel_rfl
  ca := by kernel_rfl
  cp := by kernel_rfl
  bs := by kernel_rfl
  bc := by kernel_rfl
  ba := by kernel_rfl
  bp := by kernel_rfl
theorem gI_ {W : World} (h : laidMetH Tryz.prog ei_ W) : ∃ T fz, W.heap[2]? = some (.cells (dv_ (H := Unit) Rows.laid_veilstone_terms_needs).toArray T fz) := by
  rw [MakeChecks.laidMetH_plain _ _ _ (by kernel_rfl)] at h
  exact fO_ nf_ (name := "veilstone/terms.needs") h (by simp [ei_]) (g := 2) (t := 216) (by kernel_rfl) (by kernel_rfl) (by rw [hv_]; decide) (m := 4) (by kernel_rfl)
theorem gY_ {W : World} (h : laidMetH Tryz.prog ei_ W) : ∃ T fz, W.heap[0]? = some (.cells (dv_ (H := Unit) Rows.laid_veilstone_terms_uses).toArray T fz) := by
  rw [MakeChecks.laidMetH_plain _ _ _ (by kernel_rfl)] at h
  exact fO_ nf_ (name := "veilstone/terms.uses") h (by simp [ei_]) (g := 0) (t := 136) (by kernel_rfl) (by kernel_rfl) (by rw [hv_]; decide) (m := 4) (by kernel_rfl)
theorem gJ_ {W : World} (h : laidMetH Tryz.prog ei_ W) : ∃ T fz, W.heap[1]? = some (.cells (dv_ (H := Unit) Rows.laid_veilstone_normal_uses).toArray T fz) := by
  rw [MakeChecks.laidMetH_plain _ _ _ (by kernel_rfl)] at h
  exact fO_ nf_ (name := "veilstone/normal.uses") h (by simp [ei_]) (g := 1) (t := 151) (by kernel_rfl) (by kernel_rfl) (by rw [hv_]; decide) (m := 4) (by kernel_rfl)
theorem eq_ {W : World} (h : laidMetH Tryz.prog ei_ W) : ∃ T fz, W.heap[6]? = some (.cells (dv_ (H := Unit) Rows.laid_internal_strconv_uint64pow10).toArray T fz) := by
  rw [MakeChecks.laidMetH_plain _ _ _ (by kernel_rfl)] at h
  exact fO_ nf_ (name := "internal/strconv.uint64pow10") h (by simp [ei_]) (g := 6) (t := 289) (by kernel_rfl) (by kernel_rfl) (by rw [hv_]; decide) (m := 4) (by kernel_rfl)
theorem iO_ {W : World} {g : Nat} {l : List Value} {d : List Value} (h : ∃ T fz, W.heap[g]? = some (.cells l.toArray T fz)) (e : l = d) : bD_ (vw W) (some ⟨g, 0, none⟩) d := by
  obtain ⟨T, fz, h⟩ := h
  subst e
  exact .inr ⟨g, 0, _, T, fz, rfl, (Array.getElem?_eq_some_iff.1 h).1, h, fun j x hj => by rw [Nat.zero_add]; simpa using hj⟩
theorem kU_ {W : World} (h : laidMetH Tryz.prog ei_ W) : gn_.p (vw W) := by
  refine ⟨iO_ (gI_ h) (by kernel_rfl), iO_ (gY_ h) (by kernel_rfl), iO_ (gJ_ h) (by kernel_rfl), ?_⟩
  obtain ⟨T, fz, h2⟩ := eq_ h
  refine ⟨trivial, (Array.getElem?_eq_some_iff.1 h2).1, T, fz, ?_⟩
  rw [show (Lib.pow10Tab.map fun z => Value.int .u64 z) = dv_ (H := Unit) Rows.laid_internal_strconv_uint64pow10 by kernel_rfl]
  exact h2
theorem nW_ {W : World} (h : laidMetH Tryz.prog ei_ W) : iI_.p (vw W) := (kU_ h).2.2.1
theorem tysR : TysR Tryz.prog 3 9 24 34 36 25 27 5 39 where
  f := ⟨_, Tryz.underlying24, rfl⟩
  cf := by kernel_rfl
  x := ⟨_, Tryz.underlying36, rfl⟩
  xs := Tryz.underlying25
  is := Tryz.underlying34
  q := ⟨_, Tryz.underlying27, rfl⟩
  u := jq_
  us := hU_
  cis := by kernel_rfl
  cx := by kernel_rfl
  cxs := by kernel_rfl
  cq := by kernel_rfl
  cu := by kernel_rfl
  bi := by kernel_rfl
  bx := by kernel_rfl
  bu := by kernel_rfl
end Go.Proofs.YtaffcjgphlhppaaGreatDoor
