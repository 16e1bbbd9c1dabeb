/-
  Part of the proof of the law IncrementAxioms over this seat: the small logic, the data, the contracts of functions (no condition).
-/
import Derived.Test.YtpdbbglpbngeiaaGreatDoorQIncrementAxioms2
import Derived.Test.YtpdbbglpbngeiaaGreatDoorQIncrementAxioms3
import Derived.ProofKit
import Derived.OpenShut
import Derived.ReadAgain
import Derived.Deep.Slices
import Derived.SevenTiedAt
import Derived.Stop.Joined
import Derived.Lay
import Derived.LaidMore
import Derived.Test.YtpdbbglpbngeiaaGreatDoorProg
set_option linter.unusedVariables false
set_option linter.unusedSimpArgs false
set_option linter.unusedSectionVars false
namespace Go.Proofs.YtpdbbglpbngeiaaGreatDoor
open Go Go.Sx Go.Proofs
attribute [local irreducible] Code.wp wpList wpAnyH
open Go.Vs
theorem ss_ (x : Ax) (hok : x.ok) (hc : x.check = 0) {kb : Nat} (frm : Int) (q : CS) (hq : CInv [] q) :
  Tri Tryz.prog 94 #[zp_ kb 0, x.val] (fA_ kb frm q) [x.memF, dB_] (fun _ : {q' : CS // CInv (x.pieces frm) q'} => .tuple #[]) (fun q' => fA_ kb frm q'.1) (fun _ => []) := by
 have G := Ax.good_of hc
 obtain ⟨k, op, ⟨kl, nl, ll, hl, al, cl, pl⟩, ⟨kr, nr, lr, hr, ar, cr, pr⟩, ad, cap, rs, ro, a, b⟩ := x
 have hlen := hok.len
 have hcap := hok.cap
 have h1 := G.k1
 have h9 := G.k9
 have h0 : ([] : List Pc).length = 0 := rfl
 dsimp only at hlen hcap h1 h9
 show Tri Tryz.prog 94 #[zp_ kb 0, .agg #[.int .i64 k, .bool op, .int .i64 kl, str nl, .int .i64 ll, .int .i64 hl, .slice al pl.length cl, .int .i64 kr, str nr, .int .i64 lr, .int .i64 hr, .slice ar pr.length cr, .slice ad rs.length cap, str ro, str a, str b]] _ _ _ _ _
 refine M_ Tryz.func94 rfl rfl Tryz.ntmps94 rfl fun v0 => ?_
 refine f_ (c_ (aF_ rfl rfl fun b1 => ?_))
 refine d_ (b_ rfl (f_ (c_ (a_ (h_ rfl) rfl (Q_ (rG_ kb) rfl (.refl _) (fun _ _ _ => trivial) rfl fun x => ?_)))))
 obtain ⟨bk, bl, br⟩ := x
 refine a_ (h_ rfl) rfl (a_ (ae_ rfl rfl) rfl (a_ (ae_ rfl rfl) rfl (a_ (g_ rfl) rfl (a_ (g_ rfl) rfl (d_ (b_ rfl (f_ (c_ (a_ (j_ y_ rfl rfl rfl H_) rfl ?_)))))))))
 refine a_ (q_ 0 J_ rfl rfl rfl) rfl (d_ (b_ rfl (S_ (f_ (c_ (x_ (aA_ rfl rfl) rfl fun r1 hr1 => ?_))))))
 refine a_ (g_ rfl) rfl (d_ (b_ rfl ?_))
 cases r1
 ·
  replace hr1 := ne_of_beq_false hr1
  try dsimp only [Con.kind, Con.parts, Con.name, Con.lo, Con.hi, Con.cap, Con.ad] at hr1
  refine p_ rfl (f_ (c_ (x_ (aA_ rfl rfl) rfl fun r2 hr2 => ?_)))
  refine a_ (g_ rfl) rfl (d_ (b_ rfl ?_))
  cases r2
  ·
   replace hr2 := ne_of_beq_false hr2
   try dsimp only [Con.kind, Con.parts, Con.name, Con.lo, Con.hi, Con.cap, Con.ad] at hr2
   refine p_ rfl (f_ (c_ (x_ (aA_ rfl rfl) rfl fun r3 hr3 => ?_)))
   refine a_ (g_ rfl) rfl (d_ (b_ rfl ?_))
   cases r3
   ·
    replace hr3 := ne_of_beq_false hr3
    try dsimp only [Con.kind, Con.parts, Con.name, Con.lo, Con.hi, Con.cap, Con.ad] at hr3
    refine p_ rfl (f_ (c_ (x_ (aA_ rfl rfl) rfl fun r4 hr4 => ?_)))
    refine a_ (g_ rfl) rfl (d_ (b_ rfl ?_))
    cases r4
    ·
     replace hr4 := ne_of_beq_false hr4
     try dsimp only [Con.kind, Con.parts, Con.name, Con.lo, Con.hi, Con.cap, Con.ad] at hr4
     refine p_ rfl (f_ (c_ (x_ (aA_ rfl rfl) rfl fun r5 hr5 => ?_)))
     refine a_ (g_ rfl) rfl (d_ (b_ rfl ?_))
     cases r5
     ·
      replace hr5 := ne_of_beq_false hr5
      try dsimp only [Con.kind, Con.parts, Con.name, Con.lo, Con.hi, Con.cap, Con.ad] at hr5
      refine p_ rfl (f_ (c_ (x_ (aA_ rfl rfl) rfl fun r6 hr6 => ?_)))
      refine a_ (g_ rfl) rfl (d_ (b_ rfl ?_))
      cases r6
      ·
       replace hr6 := ne_of_beq_false hr6
       try dsimp only [Con.kind, Con.parts, Con.name, Con.lo, Con.hi, Con.cap, Con.ad] at hr6
       refine p_ rfl (f_ (c_ (x_ (aA_ rfl rfl) rfl fun r7 hr7 => ?_)))
       refine a_ (g_ rfl) rfl (d_ (b_ rfl ?_))
       cases r7
       ·
        replace hr7 := ne_of_beq_false hr7
        try dsimp only [Con.kind, Con.parts, Con.name, Con.lo, Con.hi, Con.cap, Con.ad] at hr7
        refine p_ rfl (f_ (c_ (x_ (aA_ rfl rfl) rfl fun r8 hr8 => ?_)))
        refine a_ (g_ rfl) rfl (d_ (b_ rfl ?_))
        cases r8
        ·
         replace hr8 := ne_of_beq_false hr8
         try dsimp only [Con.kind, Con.parts, Con.name, Con.lo, Con.hi, Con.cap, Con.ad] at hr8
         refine p_ rfl (f_ (c_ (x_ (aA_ rfl rfl) rfl fun r9 hr9 => ?_)))
         refine a_ (g_ rfl) rfl (d_ (b_ rfl ?_))
         cases r9
         ·
          replace hr9 := ne_of_beq_false hr9
          try dsimp only [Con.kind, Con.parts, Con.name, Con.lo, Con.hi, Con.cap, Con.ad] at hr9
          exfalso; omega
         ·
          replace hr9 := eq_of_beq hr9
          try dsimp only [Con.kind, Con.parts, Con.name, Con.lo, Con.hi, Con.cap, Con.ad] at hr9
          refine n_ rfl ?_
          refine aC_ [(b1, .cells #[.int .i64 k, .bool op, .int .i64 kl, str nl, .int .i64 ll, .int .i64 hl, .slice al pl.length cl, .int .i64 kr, str nr, .int .i64 lr, .int .i64 hr, .slice ar pr.length cr, .slice ad rs.length cap, str ro, str a, str b] 134 (0, 0))] (by kernel_rfl) ?_
          refine ad_ 5 [0, 1, 2, 4, 5, 6, 7] (by kernel_rfl) (fun _ a b => ⟨Vw.sat.sub a, b⟩) (k_ rfl (h_ rfl) rfl (k_ rfl (j_ y_ rfl rfl rfl s_) rfl (k_ rfl (q_ 0 w_ rfl rfl rfl) rfl (k_ rfl (j_ y_ rfl rfl rfl s_) rfl (k_ rfl (q_ 0 w_ rfl rfl rfl) rfl (k_ rfl (j_ y_ rfl rfl rfl s_) rfl (k_ rfl (q_ 0 w_ rfl rfl rfl) rfl (ac_ (O_ 3 rfl (by kernel_rfl) ?_)))))))))
          refine Q_ (eW_ a hok.a) rfl (.refl _) (fun _ _ _ => trivial) rfl fun _ => ?_
          refine d_ (r_ rfl (C_ (fun _ a b => ⟨Vw.sat.sub a, b⟩) (O_ 8 rfl (by kernel_rfl) (Q_ (eW_ b hok.b) rfl (.refl _) (fun _ _ _ => trivial) rfl fun _ => ?_))))
          refine d_ (r_ rfl (C_ (fun _ a b => ⟨Vw.sat.sub a, b⟩) (ad_ 2 [9] (by kernel_rfl) (fun _ a b => ⟨Vw.sat.sub a, b⟩) (k_ rfl (ag_ du_ rfl rfl) rfl (ac_ (O_ 10 rfl (by kernel_rfl) (aK_ G_ U_ ap_ rfl rfl rfl rfl rfl rfl fun b2 => ?_)))))))
          refine d_ (r_ rfl (C_ (fun _ a b => ⟨Vw.sat.sub a.tail, b⟩) (O_ 11 rfl (by kernel_rfl) (Q_ (dV_ ⟨3, ([123] ++ a ++ [125]), [], ([123] ++ b ++ [125]), ro, [], [], 0, 0, 0⟩ frm [] q hq (by omega)) rfl (.cons _ (@List.perm_append_comm _ [_] _)) (fun _ _ _ => trivial) rfl fun x => ?_))))
          obtain ⟨q2, hq2⟩ := x
          have hb2 := bP_ frm [] ⟨3, ([123] ++ a ++ [125]), [], ([123] ++ b ++ [125]), ro, [], [], 0, 0, 0⟩
          refine at_ (@List.perm_append_comm _ _ [_]) (d_ (r_ rfl (C_ (fun _ a b => ⟨Vw.sat.sub a, b⟩) (ab_ (by kernel_rfl) (aO_ rfl ?_)))))
          have e : Ax.pieces frm ⟨k, op, (.mk kl nl ll hl al cl pl), (.mk kr nr lr hr ar cr pr), ad, cap, rs, ro, a, b⟩ = (ins frm [] ⟨3, ([123] ++ a ++ [125]), [], ([123] ++ b ++ [125]), ro, [], [], 0, 0, 0⟩) := by
           unfold Ax.pieces
           dsimp only
           repeat (first | rfl | (rw [if_pos (by omega)]) | (rw [if_neg (by omega)]))
          exact cn_ et_ ⟨q2, by rw [e]; exact hq2⟩ rfl (F := [_]) (@List.perm_append_comm _ [_] _) (fun _ _ _ => trivial)
        ·
         replace hr8 := eq_of_beq hr8
         try dsimp only [Con.kind, Con.parts, Con.name, Con.lo, Con.hi, Con.cap, Con.ad] at hr8
         obtain ⟨fr, zr⟩ := Con.check_zero (G.right (by show k ≤ 4 ∨ k = 8; omega))
         dsimp only at fr zr
         refine n_ rfl (f_ (c_ (a_ (h_ rfl) rfl (a_ (j_ y_ rfl rfl rfl v_) rfl (a_ (L_ 0 T_ v_ rfl rfl rfl) rfl (aH_ (hS_ (kb := kb) (bk := bk) (bs := br) _ (.mk kr nr lr hr ar cr pr) (Nat.le_refl _) hok.right fr [] q hq (by omega)) rfl rfl (@List.perm_append_comm _ [_] _) (fun v _ h => by exact ⟨h.2.2.2.1.2.1, h.2.2.2.2.1, h.1, h.2.2.1, trivial⟩) rfl fun x => ?_))))))
         obtain ⟨q3, hq3⟩ := x
         have hb3 := Con.rightP_len frm _ (.mk kr nr lr hr ar cr pr) (Nat.le_refl _) []
         refine at_ (@List.perm_append_comm _ _ [_]) (d_ (b_ rfl ?_))
         refine aC_ [(b1, .cells #[.int .i64 k, .bool op, .int .i64 kl, str nl, .int .i64 ll, .int .i64 hl, .slice al pl.length cl, .int .i64 kr, str nr, .int .i64 lr, .int .i64 hr, .slice ar pr.length cr, .slice ad rs.length cap, str ro, str a, str b] 134 (0, 0))] (by kernel_rfl) ?_
         refine ad_ 5 [0, 1, 2, 4, 5] (by kernel_rfl) (fun _ a b => ⟨Vw.sat.sub a, b⟩) (k_ rfl (h_ rfl) rfl (k_ rfl (j_ y_ rfl rfl rfl s_) rfl (k_ rfl (q_ 0 w_ rfl rfl rfl) rfl (k_ rfl (j_ y_ rfl rfl rfl v_) rfl (k_ rfl (L_ 0 T_ v_ rfl rfl rfl) rfl (ac_ (O_ 3 rfl (by kernel_rfl) (Q_ (eW_ a hok.a) rfl (.refl _) (fun _ _ _ => trivial) rfl fun _ => ?_))))))))
         refine d_ (r_ rfl (C_ (fun _ a b => ⟨Vw.sat.sub a, b⟩) (O_ 6 rfl (by kernel_rfl) (Q_ (dn_ (.mk kr nr lr hr ar cr pr) hok.right) rfl (.refl _) (fun v _ h => ⟨h.2.2.2.1.2.1, h.2.2.2.2.1, trivial⟩) rfl fun _ => ?_))))
         refine d_ (r_ rfl (C_ (fun _ a b => ⟨Vw.sat.sub a, b⟩) (ad_ 2 [7] (by kernel_rfl) (fun _ a b => ⟨Vw.sat.sub a, b⟩) (k_ rfl (ag_ du_ rfl rfl) rfl (ac_ (O_ 8 rfl (by kernel_rfl) (aK_ G_ U_ ap_ rfl rfl rfl rfl rfl rfl fun b3 => ?_)))))))
         refine d_ (r_ rfl (C_ (fun _ a b => ⟨Vw.sat.sub a.tail, b⟩) (O_ 9 rfl (by kernel_rfl) (Q_ (dV_ ⟨1, ([123] ++ a ++ [125]), [], (Con.atom (.mk kr nr lr hr ar cr pr)), [], [], [], 0, 0, 0⟩ frm (Con.rightP frm (.mk kr nr lr hr ar cr pr) []) q3 hq3 (by omega)) rfl (.cons _ (@List.perm_append_comm _ [_] _)) (fun _ _ _ => trivial) rfl fun x => ?_))))
         obtain ⟨q5, hq5⟩ := x
         have hb5 := bP_ frm (Con.rightP frm (.mk kr nr lr hr ar cr pr) []) ⟨1, ([123] ++ a ++ [125]), [], (Con.atom (.mk kr nr lr hr ar cr pr)), [], [], [], 0, 0, 0⟩
         refine at_ (@List.perm_append_comm _ _ [_]) (d_ (r_ rfl (C_ (fun _ a b => ⟨Vw.sat.sub a, b⟩) (ab_ (by kernel_rfl) (aO_ rfl ?_)))))
         have e : Ax.pieces frm ⟨k, op, (.mk kl nl ll hl al cl pl), (.mk kr nr lr hr ar cr pr), ad, cap, rs, ro, a, b⟩ = (ins frm (Con.rightP frm (.mk kr nr lr hr ar cr pr) []) ⟨1, ([123] ++ a ++ [125]), [], (Con.atom (.mk kr nr lr hr ar cr pr)), [], [], [], 0, 0, 0⟩) := by
          unfold Ax.pieces
          dsimp only
          repeat (first | rfl | (rw [if_pos (by omega)]) | (rw [if_neg (by omega)]))
         exact cn_ et_ ⟨q5, by rw [e]; exact hq5⟩ rfl (F := [_]) (@List.perm_append_comm _ [_] _) (fun _ _ _ => trivial)
       ·
        replace hr7 := eq_of_beq hr7
        try dsimp only [Con.kind, Con.parts, Con.name, Con.lo, Con.hi, Con.cap, Con.ad] at hr7
        refine n_ rfl (c_ (a_ (h_ rfl) rfl (a_ (j_ y_ rfl rfl rfl s_) rfl (a_ (q_ 0 w_ rfl rfl rfl) rfl (a_ (ag_ du_ rfl rfl) rfl (aK_ G_ U_ ap_ rfl rfl rfl rfl rfl rfl fun b4 => ?_))))))
        refine Q_ (dV_ ⟨7, [], [], [], ro, [], [], 0, 0, 0⟩ frm [] q hq (by omega)) rfl (.cons _ (@List.perm_append_comm _ [_] _)) (fun _ _ _ => trivial) rfl fun x => ?_
        obtain ⟨q6, hq6⟩ := x
        have hb6 := bP_ frm [] ⟨7, [], [], [], ro, [], [], 0, 0, 0⟩
        refine at_ (@List.perm_append_comm _ _ [_]) (d_ (aO_ rfl ?_))
        have e : Ax.pieces frm ⟨k, op, (.mk kl nl ll hl al cl pl), (.mk kr nr lr hr ar cr pr), ad, cap, rs, ro, a, b⟩ = (ins frm [] ⟨7, [], [], [], ro, [], [], 0, 0, 0⟩) := by
         unfold Ax.pieces
         dsimp only
         repeat (first | rfl | (rw [if_pos (by omega)]) | (rw [if_neg (by omega)]))
        exact cn_ et_ ⟨q6, by rw [e]; exact hq6⟩ rfl (F := [_]) (@List.perm_append_comm _ [_] _) (fun _ _ _ => trivial)
      ·
       replace hr6 := eq_of_beq hr6
       try dsimp only [Con.kind, Con.parts, Con.name, Con.lo, Con.hi, Con.cap, Con.ad] at hr6
       have hch := G.chain hr6
       dsimp only at hch
       have hn0 : 0 < rs.length := by omega
       obtain ⟨r0, hr0⟩ : ∃ r0, rs[0]? = some r0 := ⟨_, List.getElem?_eq_getElem hn0⟩
       refine n_ rfl (f_ (c_ (a_ (j_ y_ rfl rfl rfl bJ_) rfl (a_ (q_ 0 cI_ rfl rfl rfl) rfl (a_ (ak_ P_ s_ rfl rfl (fun v _ h => aL_ (n := 1) aX_ (by decide) (h.2.2.2.1.2.2) hr0) (by omega) (by first | omega | (simp only [Con.parts]; omega) | (simp [Con.parts]; done))) rfl (a_ (bH_ (ad := ad) w_ rfl (fun v _ h => h.2.2.2.1.2.2) (an_ aX_ hr0 0 _ rfl)) rfl (a_ (g_ rfl) rfl (d_ (b_ rfl ?_)))))))))
       refine f_ (c_ (a_ (j_ y_ rfl rfl rfl bJ_) rfl (a_ (q_ 0 cI_ rfl rfl rfl) rfl (a_ (eB_ (i := 1) (j := rs.length) (kl := .i64) (kh := .i64) P_ s_ rfl rfl rfl (by omega) (by omega)) rfl (a_ (ah_ P_ rfl) rfl (a_ (h_ rfl) rfl (d_ (b_ rfl (S_ ?_)))))))))
       refine bS_ [(0, zp_ kb 0), (3, zp_ b1 0), (6, str r0), (130, .slice (sad ad cap 1 1) (rs.length - 1) (cap - 1)), (131, .int .i64 ((rs.length - 1 : Nat) : Int)), (132, .int .i64 ((0 : Nat) : Int))] ⟨rfl, rfl, rfl, rfl, rfl, rfl, trivial⟩ ?_
       have hr24 := Con.plain_len (G.roles r0 (List.mem_of_getElem? hr0))
       refine bY_ (ι := {x : Nat × Str × List Pc × CS // x.1 ≤ rs.length - 1 ∧ CInv x.2.2.1 x.2.2.2 ∧ x.2.2.1.length ≤ x.1 ∧ x.2.1.length ≤ 30 * (x.1 + 1) ∧ Ax.chainP frm ro (rs.drop 1) r0 [] = Ax.chainP frm ro (rs.drop (1 + x.1)) x.2.1 x.2.2.1}) (fun x => [(0, zp_ kb 0), (3, zp_ b1 0), (6, str x.1.2.1), (130, .slice (sad ad cap 1 1) (rs.length - 1) (cap - 1)), (131, .int .i64 ((rs.length - 1 : Nat) : Int)), (132, .int .i64 (x.1.1 : Int))]) (fun x => _ :: fA_ kb frm x.1.2.2.2) (fun _ => _) (fun x => rs.length - 1 - x.1.1) ⟨(0, r0, [], q), by simp, hq, by simp, by simp; omega, rfl⟩ ?_
       rintro ⟨⟨i, f, l1, q2⟩, hj⟩
       dsimp only at hj
       refine bS_ [(0, zp_ kb 0), (3, zp_ b1 0), (6, str f), (130, .slice (sad ad cap 1 1) (rs.length - 1) (cap - 1)), (131, .int .i64 ((rs.length - 1 : Nat) : Int)), (132, .int .i64 (i : Int))] ⟨rfl, rfl, rfl, rfl, rfl, rfl, trivial⟩ ?_
       refine f_ (c_ (x_ (az_ rfl rfl) rfl fun r10 hr10 => ?_))
       refine d_ (b_ rfl (f_ ?_))
       cases r10
       ·
        replace hr10 := of_decide_eq_false hr10
        try dsimp only [Con.kind, Con.parts, Con.name, Con.lo, Con.hi, Con.cap, Con.ad] at hr10
        refine p_ rfl (aD_ rfl (aO_ rfl ?_))
        have e : Ax.pieces frm ⟨k, op, (.mk kl nl ll hl al cl pl), (.mk kr nr lr hr ar cr pr), ad, cap, rs, ro, a, b⟩ = Ax.chainP frm ro (rs.drop 1) r0 [] := by
         unfold Ax.pieces
         dsimp only
         rw [nc_ hr0]
         repeat (first | rfl | (rw [if_pos (by omega)]) | (rw [if_neg (by omega)]))
        have e2 := hj.2.2.2.2
        rw [List.drop_of_length_le (show rs.length ≤ 1 + i by omega)] at e2
        rw [e2] at e
        exact cn_ et_ ⟨q2, by rw [e]; exact hj.2.1⟩ rfl (F := [_]) (@List.perm_append_comm _ [_] _) (fun _ _ _ => trivial)
       ·
        replace hr10 := of_decide_eq_true hr10
        try dsimp only [Con.kind, Con.parts, Con.name, Con.lo, Con.hi, Con.cap, Con.ad] at hr10
        have hlt : i < rs.length - 1 := by omega
        obtain ⟨g, hp⟩ : ∃ g, (rs.drop 1)[i]? = some g := ⟨_, List.getElem?_eq_getElem (by simp; omega)⟩
        have hp1 : rs[1 + i]? = some g := by rw [← List.getElem?_drop]; exact hp
        have hg := Con.plain_len (G.roles g (List.mem_of_getElem? hp1))
        have hro := Con.plain_len (G.role (by show k = 4 ∨ k = 5 ∨ k = 6 ∨ k = 7 ∨ k = 9; omega))
        dsimp only at hro
        refine n_ rfl (A_ (b_ rfl (f_ (S_ (f_ (c_ (a_ (h_ rfl) rfl (a_ (ak_ P_ s_ rfl rfl (fun v _ h => aL_ (n := 1) aX_ (by decide) (ca_.rest aX_ h.2.2.2.1.2.2 hok.len 1) hp) (by omega) (by first | omega | (simp only [Con.parts]; omega) | (simp [Con.parts]; done))) rfl (a_ (bH_ (ad := (sad ad cap 1 1)) w_ rfl (fun v _ h => ca_.rest aX_ h.2.2.2.1.2.2 hok.len 1) (an_ aX_ hp 0 _ rfl)) rfl ?_)))))))))
        refine a_ (g_ rfl) rfl (a_ (g_ rfl) rfl (d_ (b_ rfl (f_ (c_ (a_ (j_ y_ rfl rfl rfl s_) rfl (a_ (q_ 0 w_ rfl rfl rfl) rfl (a_ (g_ rfl) rfl (d_ ?_)))))))))
        refine b_ rfl (f_ (f_ (c_ (a_ (h_ rfl) rfl (a_ (V_ rfl rfl rfl (aq_ (by omega) (by omega))) rfl (a_ (j_ y_ rfl rfl rfl bJ_) rfl (a_ (q_ 0 cI_ rfl rfl rfl) rfl (a_ (ah_ P_ rfl) rfl (x_ (az_ rfl rfl) rfl fun r11 hr11 => ?_)))))))))
        refine d_ (b_ rfl ?_)
        cases r11
        ·
         replace hr11 := of_decide_eq_false hr11
         try dsimp only [Con.kind, Con.parts, Con.name, Con.lo, Con.hi, Con.cap, Con.ad] at hr11
         refine p_ rfl (A_ (b_ rfl (f_ (c_ (a_ (h_ rfl) rfl (a_ (h_ rfl) rfl (a_ (h_ rfl) rfl (a_ (h_ rfl) rfl (a_ (ag_ du_ rfl rfl) rfl ?_)))))))))
         refine aK_ G_ U_ ap_ rfl rfl rfl rfl rfl rfl fun b5 => ?_
         refine Q_ (dV_ ⟨6, [], [], [], f, g, ro, 0, 0, 0⟩ frm l1 q2 hj.2.1 (by omega)) rfl (.cons _ (@List.perm_append_comm _ [_] _)) (fun _ _ _ => trivial) rfl fun x => ?_
         obtain ⟨q7, hq7⟩ := x
         have hb7 := bP_ frm l1 ⟨6, [], [], [], f, g, ro, 0, 0, 0⟩
         refine at_ (@List.perm_append_comm _ _ [_]) (d_ (b_ rfl (c_ (a_ (h_ rfl) rfl (a_ (g_ rfl) rfl (d_ (b_ rfl (c_ (a_ (V_ rfl rfl rfl (aq_ (by omega) (by omega))) rfl ?_)))))))))
         refine a_ (h_ rfl) rfl (d_ (r_ rfl ?_))
         have hd1 := ik_ hp1
         have hd2 : (rs.drop (1 + i + 1) = []) ↔ ¬ (i + 2 < rs.length) := by rw [List.drop_eq_nil_iff]; omega
         exact ao_ ⟨(i + 1, ro, (ins frm l1 ⟨6, [], [], [], f, g, ro, 0, 0, 0⟩), q7), by dsimp only; omega, hq7, by dsimp only; omega, by dsimp only; omega, by rw [hj.2.2.2.2, hd1]; simp only [Ax.chainP]; rw [if_pos (by rw [hd2]; omega), show 1 + (i + 1) = 1 + i + 1 by omega]⟩ (by simp; omega) ⟨rfl, rfl, rfl, rfl, rfl, rfl, trivial⟩ (F := []) (by rw [List.append_nil]; exact .refl _) (fun _ _ h => h)
        ·
         replace hr11 := of_decide_eq_true hr11
         try dsimp only [Con.kind, Con.parts, Con.name, Con.lo, Con.hi, Con.cap, Con.ad] at hr11
         refine n_ rfl (c_ (a_ (h_ rfl) rfl (a_ (eH_ rfl rfl (by simp only [List.length_append, List.length_cons, List.length_nil]; omega)) rfl (a_ (h_ rfl) rfl (a_ (eH_ rfl rfl (by simp only [List.length_append, List.length_cons, List.length_nil]; omega)) rfl (a_ (g_ rfl) rfl (d_ (b_ rfl (f_ ?_)))))))))
         refine c_ (a_ (h_ rfl) rfl (a_ (h_ rfl) rfl (a_ (h_ rfl) rfl (a_ (h_ rfl) rfl (a_ (ag_ du_ rfl rfl) rfl (aK_ G_ U_ ap_ rfl rfl rfl rfl rfl rfl fun b6 => ?_))))))
         refine Q_ (dV_ ⟨6, [], [], [], f, g, (f ++ [46]) ++ g, 0, 0, 0⟩ frm l1 q2 hj.2.1 (by omega)) rfl (.cons _ (@List.perm_append_comm _ [_] _)) (fun _ _ _ => trivial) rfl fun x => ?_
         obtain ⟨q8, hq8⟩ := x
         have hb8 := bP_ frm l1 ⟨6, [], [], [], f, g, (f ++ [46]) ++ g, 0, 0, 0⟩
         refine at_ (@List.perm_append_comm _ _ [_]) (d_ (b_ rfl (c_ (a_ (h_ rfl) rfl (a_ (g_ rfl) rfl (d_ (b_ rfl (c_ (a_ (V_ rfl rfl rfl (aq_ (by omega) (by omega))) rfl ?_)))))))))
         refine a_ (h_ rfl) rfl (d_ (r_ rfl ?_))
         have hd1 := ik_ hp1
         have hd2 : (rs.drop (1 + i + 1) = []) ↔ ¬ (i + 2 < rs.length) := by rw [List.drop_eq_nil_iff]; omega
         exact ao_ ⟨(i + 1, (f ++ [46]) ++ g, (ins frm l1 ⟨6, [], [], [], f, g, (f ++ [46]) ++ g, 0, 0, 0⟩), q8), by dsimp only; omega, hq8, by dsimp only; omega, by simp only [List.length_append, List.length_cons, List.length_nil]; omega, by rw [hj.2.2.2.2, hd1]; simp only [Ax.chainP]; rw [if_neg (by rw [hd2]; omega), show 1 + (i + 1) = 1 + i + 1 by omega]⟩ (by simp; omega) ⟨rfl, rfl, rfl, rfl, rfl, rfl, trivial⟩ (F := []) (by rw [List.append_nil]; exact .refl _) (fun _ _ h => h)
     ·
      replace hr5 := eq_of_beq hr5
      try dsimp only [Con.kind, Con.parts, Con.name, Con.lo, Con.hi, Con.cap, Con.ad] at hr5
      have hn0 : 0 < rs.length := by have := G.one hr5; dsimp only at this; omega
      obtain ⟨r0, hr0⟩ : ∃ r0, rs[0]? = some r0 := ⟨_, List.getElem?_eq_getElem hn0⟩
      refine n_ rfl ?_
      refine aC_ [(b1, .cells #[.int .i64 k, .bool op, .int .i64 kl, str nl, .int .i64 ll, .int .i64 hl, .slice al pl.length cl, .int .i64 kr, str nr, .int .i64 lr, .int .i64 hr, .slice ar pr.length cr, .slice ad rs.length cap, str ro, str a, str b] 134 (0, 0))] (by kernel_rfl) ?_
      refine ad_ 2 [0, 1, 2, 3, 4, 5, 6, 7] (by kernel_rfl) (fun _ a b => ⟨Vw.sat.sub a, b⟩) (k_ rfl (h_ rfl) rfl (k_ rfl (j_ y_ rfl rfl rfl bJ_) rfl (k_ rfl (q_ 0 cI_ rfl rfl rfl) rfl (k_ rfl (ak_ P_ s_ rfl rfl (fun v _ h => aL_ (n := 1) aX_ (by decide) (h.2.2.2.1.2.2) hr0) (by omega) (by first | omega | (simp only [Con.parts]; omega) | (simp [Con.parts]; done))) rfl (k_ rfl (bH_ (ad := ad) w_ rfl (fun v _ h => h.2.2.2.1.2.2) (an_ aX_ hr0 0 _ rfl)) rfl (k_ rfl (j_ y_ rfl rfl rfl s_) rfl (k_ rfl (q_ 0 w_ rfl rfl rfl) rfl (k_ rfl (ag_ du_ rfl rfl) rfl (ac_ ?_)))))))))
      refine O_ 8 rfl (by kernel_rfl) (aK_ G_ U_ ap_ rfl rfl rfl rfl rfl rfl fun b7 => ?_)
      refine d_ (r_ rfl (C_ (fun _ a b => ⟨Vw.sat.sub a.tail, b⟩) (O_ 9 rfl (by kernel_rfl) (Q_ (dV_ ⟨5, [], [], [], r0, [], ro, 0, 0, 0⟩ frm [] q hq (by omega)) rfl (.cons _ (@List.perm_append_comm _ [_] _)) (fun _ _ _ => trivial) rfl fun x => ?_))))
      obtain ⟨q10, hq10⟩ := x
      have hb10 := bP_ frm [] ⟨5, [], [], [], r0, [], ro, 0, 0, 0⟩
      refine at_ (@List.perm_append_comm _ _ [_]) (d_ (r_ rfl (C_ (fun _ a b => ⟨Vw.sat.sub a, b⟩) (ab_ (by kernel_rfl) (aO_ rfl ?_)))))
      have e : Ax.pieces frm ⟨k, op, (.mk kl nl ll hl al cl pl), (.mk kr nr lr hr ar cr pr), ad, cap, rs, ro, a, b⟩ = (ins frm [] ⟨5, [], [], [], r0, [], ro, 0, 0, 0⟩) := by
       unfold Ax.pieces
       dsimp only
       rw [nc_ hr0]
       repeat (first | rfl | (rw [if_pos (by omega)]) | (rw [if_neg (by omega)]))
      exact cn_ et_ ⟨q10, by rw [e]; exact hq10⟩ rfl (F := [_]) (@List.perm_append_comm _ [_] _) (fun _ _ _ => trivial)
    ·
     replace hr4 := eq_of_beq hr4
     try dsimp only [Con.kind, Con.parts, Con.name, Con.lo, Con.hi, Con.cap, Con.ad] at hr4
     obtain ⟨fr, zr⟩ := Con.check_zero (G.right (by show k ≤ 4 ∨ k = 8; omega))
     dsimp only at fr zr
     refine n_ rfl (f_ (c_ (a_ (h_ rfl) rfl (a_ (j_ y_ rfl rfl rfl v_) rfl (a_ (L_ 0 T_ v_ rfl rfl rfl) rfl (aH_ (hS_ (kb := kb) (bk := bk) (bs := br) _ (.mk kr nr lr hr ar cr pr) (Nat.le_refl _) hok.right fr [] q hq (by omega)) rfl rfl (@List.perm_append_comm _ [_] _) (fun v _ h => by exact ⟨h.2.2.2.1.2.1, h.2.2.2.2.1, h.1, h.2.2.1, trivial⟩) rfl fun x => ?_))))))
     obtain ⟨q11, hq11⟩ := x
     have hb11 := Con.rightP_len frm _ (.mk kr nr lr hr ar cr pr) (Nat.le_refl _) []
     refine at_ (@List.perm_append_comm _ _ [_]) (d_ (b_ rfl ?_))
     refine aC_ [(b1, .cells #[.int .i64 k, .bool op, .int .i64 kl, str nl, .int .i64 ll, .int .i64 hl, .slice al pl.length cl, .int .i64 kr, str nr, .int .i64 lr, .int .i64 hr, .slice ar pr.length cr, .slice ad rs.length cap, str ro, str a, str b] 134 (0, 0))] (by kernel_rfl) ?_
     refine ad_ 4 [0, 1, 2, 3, 4] (by kernel_rfl) (fun _ a b => ⟨Vw.sat.sub a, b⟩) (k_ rfl (h_ rfl) rfl (k_ rfl (j_ y_ rfl rfl rfl s_) rfl (k_ rfl (q_ 0 w_ rfl rfl rfl) rfl (k_ rfl (j_ y_ rfl rfl rfl v_) rfl (k_ rfl (L_ 0 T_ v_ rfl rfl rfl) rfl (ac_ (O_ 5 rfl (by kernel_rfl) (Q_ (dn_ (.mk kr nr lr hr ar cr pr) hok.right) rfl (.refl _) (fun v _ h => ⟨h.2.2.2.1.2.1, h.2.2.2.2.1, trivial⟩) rfl fun _ => ?_))))))))
     refine d_ (r_ rfl (C_ (fun _ a b => ⟨Vw.sat.sub a, b⟩) (ad_ 2 [6] (by kernel_rfl) (fun _ a b => ⟨Vw.sat.sub a, b⟩) (k_ rfl (ag_ du_ rfl rfl) rfl (ac_ (O_ 7 rfl (by kernel_rfl) (aK_ G_ U_ ap_ rfl rfl rfl rfl rfl rfl fun b8 => ?_)))))))
     refine d_ (r_ rfl (C_ (fun _ a b => ⟨Vw.sat.sub a.tail, b⟩) (O_ 8 rfl (by kernel_rfl) (Q_ (dV_ ⟨4, [42], [], (Con.atom (.mk kr nr lr hr ar cr pr)), ro, [], [], 0, 0, 0⟩ frm (Con.rightP frm (.mk kr nr lr hr ar cr pr) []) q11 hq11 (by omega)) rfl (.cons _ (@List.perm_append_comm _ [_] _)) (fun _ _ _ => trivial) rfl fun x => ?_))))
     obtain ⟨q13, hq13⟩ := x
     have hb13 := bP_ frm (Con.rightP frm (.mk kr nr lr hr ar cr pr) []) ⟨4, [42], [], (Con.atom (.mk kr nr lr hr ar cr pr)), ro, [], [], 0, 0, 0⟩
     refine at_ (@List.perm_append_comm _ _ [_]) (d_ (r_ rfl (C_ (fun _ a b => ⟨Vw.sat.sub a, b⟩) (ab_ (by kernel_rfl) (aO_ rfl ?_)))))
     have e : Ax.pieces frm ⟨k, op, (.mk kl nl ll hl al cl pl), (.mk kr nr lr hr ar cr pr), ad, cap, rs, ro, a, b⟩ = (ins frm (Con.rightP frm (.mk kr nr lr hr ar cr pr) []) ⟨4, [42], [], (Con.atom (.mk kr nr lr hr ar cr pr)), ro, [], [], 0, 0, 0⟩) := by
      unfold Ax.pieces
      dsimp only
      repeat (first | rfl | (rw [if_pos (by omega)]) | (rw [if_neg (by omega)]))
     exact cn_ et_ ⟨q13, by rw [e]; exact hq13⟩ rfl (F := [_]) (@List.perm_append_comm _ [_] _) (fun _ _ _ => trivial)
   ·
    replace hr3 := eq_of_beq hr3
    try dsimp only [Con.kind, Con.parts, Con.name, Con.lo, Con.hi, Con.cap, Con.ad] at hr3
    obtain ⟨fl, zl⟩ := Con.check_zero (G.left (by show k ≤ 3; omega))
    dsimp only at fl zl
    obtain ⟨fr, zr⟩ := Con.check_zero (G.right (by show k ≤ 4 ∨ k = 8; omega))
    dsimp only at fr zr
    refine n_ rfl (f_ (c_ (a_ (h_ rfl) rfl (a_ (j_ y_ rfl rfl rfl v_) rfl (a_ (L_ 0 T_ v_ rfl rfl rfl) rfl (aH_ (jS_ (kb := kb) (bk := bk) (bs := bl) _ (.mk kl nl ll hl al cl pl) (Nat.le_refl _) hok.left fl [] q hq (by omega)) rfl rfl (@List.perm_append_comm _ [_] _) (fun v _ h => by exact ⟨h.2.2.2.1.1, h.2.2.2.2.1, h.1, h.2.1, trivial⟩) rfl fun x => ?_))))))
    obtain ⟨q14, hq14⟩ := x
    have hb14 := Con.leftP_len frm _ (.mk kl nl ll hl al cl pl) (Nat.le_refl _) []
    refine at_ (@List.perm_append_comm _ _ [_]) (d_ (b_ rfl (f_ (c_ (a_ (h_ rfl) rfl (a_ (j_ y_ rfl rfl rfl v_) rfl (a_ (L_ 0 T_ v_ rfl rfl rfl) rfl (aH_ (jS_ (kb := kb) (bk := bk) (bs := bl) _ (.mk kr nr lr hr ar cr pr) (Nat.le_refl _) hok.right fr (Con.leftP frm (.mk kl nl ll hl al cl pl) []) q14 hq14 (by omega)) rfl rfl (@List.perm_append_comm _ [_] _) (fun v _ h => by exact ⟨h.2.2.2.1.2.1, h.2.2.2.2.1, h.1, h.2.1, trivial⟩) rfl fun x => ?_))))))))
    obtain ⟨q15, hq15⟩ := x
    have hb15 := Con.leftP_len frm _ (.mk kr nr lr hr ar cr pr) (Nat.le_refl _) (Con.leftP frm (.mk kl nl ll hl al cl pl) [])
    refine at_ (@List.perm_append_comm _ _ [_]) (d_ (b_ rfl ?_))
    refine aC_ [(b1, .cells #[.int .i64 k, .bool op, .int .i64 kl, str nl, .int .i64 ll, .int .i64 hl, .slice al pl.length cl, .int .i64 kr, str nr, .int .i64 lr, .int .i64 hr, .slice ar pr.length cr, .slice ad rs.length cap, str ro, str a, str b] 134 (0, 0))] (by kernel_rfl) ?_
    refine ad_ 5 [0, 1, 2, 4, 5] (by kernel_rfl) (fun _ a b => ⟨Vw.sat.sub a, b⟩) (k_ rfl (h_ rfl) rfl (k_ rfl (j_ y_ rfl rfl rfl v_) rfl (k_ rfl (L_ 0 T_ v_ rfl rfl rfl) rfl (k_ rfl (j_ y_ rfl rfl rfl v_) rfl (k_ rfl (L_ 0 T_ v_ rfl rfl rfl) rfl (ac_ (O_ 3 rfl (by kernel_rfl) (Q_ (dn_ (.mk kl nl ll hl al cl pl) hok.left) rfl (.refl _) (fun v _ h => ⟨h.2.2.2.1.1, h.2.2.2.2.1, trivial⟩) rfl fun _ => ?_))))))))
    refine d_ (r_ rfl (C_ (fun _ a b => ⟨Vw.sat.sub a, b⟩) (O_ 6 rfl (by kernel_rfl) (Q_ (dn_ (.mk kr nr lr hr ar cr pr) hok.right) rfl (.refl _) (fun v _ h => ⟨h.2.2.2.1.2.1, h.2.2.2.2.1, trivial⟩) rfl fun _ => ?_))))
    refine d_ (r_ rfl (C_ (fun _ a b => ⟨Vw.sat.sub a, b⟩) (ad_ 2 [7] (by kernel_rfl) (fun _ a b => ⟨Vw.sat.sub a, b⟩) (k_ rfl (ag_ du_ rfl rfl) rfl (ac_ (O_ 8 rfl (by kernel_rfl) (aK_ G_ U_ ap_ rfl rfl rfl rfl rfl rfl fun b9 => ?_)))))))
    refine d_ (r_ rfl (C_ (fun _ a b => ⟨Vw.sat.sub a.tail, b⟩) (O_ 9 rfl (by kernel_rfl) (Q_ (dV_ ⟨2, (Con.atom (.mk kl nl ll hl al cl pl)), (Con.atom (.mk kr nr lr hr ar cr pr)), [33], [], [], [], 0, 0, 0⟩ frm (Con.leftP frm (.mk kr nr lr hr ar cr pr) (Con.leftP frm (.mk kl nl ll hl al cl pl) [])) q15 hq15 (by omega)) rfl (.cons _ (@List.perm_append_comm _ [_] _)) (fun _ _ _ => trivial) rfl fun x => ?_))))
    obtain ⟨q17, hq17⟩ := x
    have hb17 := bP_ frm (Con.leftP frm (.mk kr nr lr hr ar cr pr) (Con.leftP frm (.mk kl nl ll hl al cl pl) [])) ⟨2, (Con.atom (.mk kl nl ll hl al cl pl)), (Con.atom (.mk kr nr lr hr ar cr pr)), [33], [], [], [], 0, 0, 0⟩
    refine at_ (@List.perm_append_comm _ _ [_]) (d_ (r_ rfl (C_ (fun _ a b => ⟨Vw.sat.sub a, b⟩) (ab_ (by kernel_rfl) (aO_ rfl ?_)))))
    have e : Ax.pieces frm ⟨k, op, (.mk kl nl ll hl al cl pl), (.mk kr nr lr hr ar cr pr), ad, cap, rs, ro, a, b⟩ = (ins frm (Con.leftP frm (.mk kr nr lr hr ar cr pr) (Con.leftP frm (.mk kl nl ll hl al cl pl) [])) ⟨2, (Con.atom (.mk kl nl ll hl al cl pl)), (Con.atom (.mk kr nr lr hr ar cr pr)), [33], [], [], [], 0, 0, 0⟩) := by
     unfold Ax.pieces
     dsimp only
     repeat (first | rfl | (rw [if_pos (by omega)]) | (rw [if_neg (by omega)]))
    exact cn_ et_ ⟨q17, by rw [e]; exact hq17⟩ rfl (F := [_]) (@List.perm_append_comm _ [_] _) (fun _ _ _ => trivial)
  ·
   replace hr2 := eq_of_beq hr2
   try dsimp only [Con.kind, Con.parts, Con.name, Con.lo, Con.hi, Con.cap, Con.ad] at hr2
   obtain ⟨fl, zl⟩ := Con.check_zero (G.left (by show k ≤ 3; omega))
   dsimp only at fl zl
   obtain ⟨fr, zr⟩ := Con.check_zero (G.right (by show k ≤ 4 ∨ k = 8; omega))
   dsimp only at fr zr
   refine n_ rfl (f_ (c_ (a_ (h_ rfl) rfl (a_ (j_ y_ rfl rfl rfl v_) rfl (a_ (L_ 0 T_ v_ rfl rfl rfl) rfl (aH_ (jS_ (kb := kb) (bk := bk) (bs := bl) _ (.mk kl nl ll hl al cl pl) (Nat.le_refl _) hok.left fl [] q hq (by omega)) rfl rfl (@List.perm_append_comm _ [_] _) (fun v _ h => by exact ⟨h.2.2.2.1.1, h.2.2.2.2.1, h.1, h.2.1, trivial⟩) rfl fun x => ?_))))))
   obtain ⟨q18, hq18⟩ := x
   have hb18 := Con.leftP_len frm _ (.mk kl nl ll hl al cl pl) (Nat.le_refl _) []
   refine at_ (@List.perm_append_comm _ _ [_]) (d_ (b_ rfl (f_ (c_ (a_ (h_ rfl) rfl (a_ (j_ y_ rfl rfl rfl v_) rfl (a_ (L_ 0 T_ v_ rfl rfl rfl) rfl (aH_ (hS_ (kb := kb) (bk := bk) (bs := br) _ (.mk kr nr lr hr ar cr pr) (Nat.le_refl _) hok.right fr (Con.leftP frm (.mk kl nl ll hl al cl pl) []) q18 hq18 (by omega)) rfl rfl (@List.perm_append_comm _ [_] _) (fun v _ h => by exact ⟨h.2.2.2.1.2.1, h.2.2.2.2.1, h.1, h.2.2.1, trivial⟩) rfl fun x => ?_))))))))
   obtain ⟨q19, hq19⟩ := x
   have hb19 := Con.rightP_len frm _ (.mk kr nr lr hr ar cr pr) (Nat.le_refl _) (Con.leftP frm (.mk kl nl ll hl al cl pl) [])
   refine at_ (@List.perm_append_comm _ _ [_]) (d_ (b_ rfl (f_ ?_)))
   refine aC_ [(b1, .cells #[.int .i64 k, .bool op, .int .i64 kl, str nl, .int .i64 ll, .int .i64 hl, .slice al pl.length cl, .int .i64 kr, str nr, .int .i64 lr, .int .i64 hr, .slice ar pr.length cr, .slice ad rs.length cap, str ro, str a, str b] 134 (0, 0))] (by kernel_rfl) ?_
   refine ad_ 5 [0, 1, 2, 4, 5] (by kernel_rfl) (fun _ a b => ⟨Vw.sat.sub a, b⟩) (k_ rfl (h_ rfl) rfl (k_ rfl (j_ y_ rfl rfl rfl v_) rfl (k_ rfl (L_ 0 T_ v_ rfl rfl rfl) rfl (k_ rfl (j_ y_ rfl rfl rfl v_) rfl (k_ rfl (L_ 0 T_ v_ rfl rfl rfl) rfl (ac_ (O_ 3 rfl (by kernel_rfl) (Q_ (dn_ (.mk kl nl ll hl al cl pl) hok.left) rfl (.refl _) (fun v _ h => ⟨h.2.2.2.1.1, h.2.2.2.2.1, trivial⟩) rfl fun _ => ?_))))))))
   refine d_ (r_ rfl (C_ (fun _ a b => ⟨Vw.sat.sub a, b⟩) (O_ 6 rfl (by kernel_rfl) (Q_ (dn_ (.mk kr nr lr hr ar cr pr) hok.right) rfl (.refl _) (fun v _ h => ⟨h.2.2.2.1.2.1, h.2.2.2.2.1, trivial⟩) rfl fun _ => ?_))))
   refine d_ (r_ rfl (C_ (fun _ a b => ⟨Vw.sat.sub a, b⟩) (ad_ 2 [7] (by kernel_rfl) (fun _ a b => ⟨Vw.sat.sub a, b⟩) (k_ rfl (ag_ du_ rfl rfl) rfl (ac_ (O_ 8 rfl (by kernel_rfl) (aK_ G_ U_ ap_ rfl rfl rfl rfl rfl rfl fun b10 => ?_)))))))
   refine d_ (r_ rfl (C_ (fun _ a b => ⟨Vw.sat.sub a.tail, b⟩) (O_ 9 rfl (by kernel_rfl) (Q_ (dV_ ⟨1, (Con.atom (.mk kl nl ll hl al cl pl)), [], (Con.atom (.mk kr nr lr hr ar cr pr)), [], [], [], 0, 0, 0⟩ frm (Con.rightP frm (.mk kr nr lr hr ar cr pr) (Con.leftP frm (.mk kl nl ll hl al cl pl) [])) q19 hq19 (by omega)) rfl (.cons _ (@List.perm_append_comm _ [_] _)) (fun _ _ _ => trivial) rfl fun x => ?_))))
   obtain ⟨q21, hq21⟩ := x
   have hb21 := bP_ frm (Con.rightP frm (.mk kr nr lr hr ar cr pr) (Con.leftP frm (.mk kl nl ll hl al cl pl) [])) ⟨1, (Con.atom (.mk kl nl ll hl al cl pl)), [], (Con.atom (.mk kr nr lr hr ar cr pr)), [], [], [], 0, 0, 0⟩
   refine at_ (@List.perm_append_comm _ _ [_]) (d_ (r_ rfl (C_ (fun _ a b => ⟨Vw.sat.sub a, b⟩) (ab_ (by kernel_rfl) (b_ rfl (f_ (c_ (a_ (h_ rfl) rfl (a_ (j_ y_ rfl rfl rfl v_) rfl ?_)))))))))
   refine a_ (L_ 0 T_ v_ rfl rfl rfl) rfl (aH_ (jS_ (kb := kb) (bk := bk) (bs := bl) _ (.mk kr nr lr hr ar cr pr) (Nat.le_refl _) hok.right fr (ins frm (Con.rightP frm (.mk kr nr lr hr ar cr pr) (Con.leftP frm (.mk kl nl ll hl al cl pl) [])) ⟨1, (Con.atom (.mk kl nl ll hl al cl pl)), [], (Con.atom (.mk kr nr lr hr ar cr pr)), [], [], [], 0, 0, 0⟩) q21 hq21 (by omega)) rfl rfl (@List.perm_append_comm _ [_] _) (fun v _ h => by exact ⟨h.2.2.2.1.2.1, h.2.2.2.2.1, h.1, h.2.1, trivial⟩) rfl fun x => ?_)
   obtain ⟨q22, hq22⟩ := x
   have hb22 := Con.leftP_len frm _ (.mk kr nr lr hr ar cr pr) (Nat.le_refl _) (ins frm (Con.rightP frm (.mk kr nr lr hr ar cr pr) (Con.leftP frm (.mk kl nl ll hl al cl pl) [])) ⟨1, (Con.atom (.mk kl nl ll hl al cl pl)), [], (Con.atom (.mk kr nr lr hr ar cr pr)), [], [], [], 0, 0, 0⟩)
   refine at_ (@List.perm_append_comm _ _ [_]) (d_ (b_ rfl (f_ (c_ (a_ (h_ rfl) rfl (a_ (j_ y_ rfl rfl rfl v_) rfl (a_ (L_ 0 T_ v_ rfl rfl rfl) rfl (aH_ (hS_ (kb := kb) (bk := bk) (bs := br) _ (.mk kl nl ll hl al cl pl) (Nat.le_refl _) hok.left fl (Con.leftP frm (.mk kr nr lr hr ar cr pr) (ins frm (Con.rightP frm (.mk kr nr lr hr ar cr pr) (Con.leftP frm (.mk kl nl ll hl al cl pl) [])) ⟨1, (Con.atom (.mk kl nl ll hl al cl pl)), [], (Con.atom (.mk kr nr lr hr ar cr pr)), [], [], [], 0, 0, 0⟩)) q22 hq22 (by omega)) rfl rfl (@List.perm_append_comm _ [_] _) (fun v _ h => by exact ⟨h.2.2.2.1.1, h.2.2.2.2.1, h.1, h.2.2.1, trivial⟩) rfl fun x => ?_))))))))
   obtain ⟨q23, hq23⟩ := x
   have hb23 := Con.rightP_len frm _ (.mk kl nl ll hl al cl pl) (Nat.le_refl _) (Con.leftP frm (.mk kr nr lr hr ar cr pr) (ins frm (Con.rightP frm (.mk kr nr lr hr ar cr pr) (Con.leftP frm (.mk kl nl ll hl al cl pl) [])) ⟨1, (Con.atom (.mk kl nl ll hl al cl pl)), [], (Con.atom (.mk kr nr lr hr ar cr pr)), [], [], [], 0, 0, 0⟩))
   refine at_ (@List.perm_append_comm _ _ [_]) (d_ (b_ rfl ?_))
   refine aC_ [(b1, .cells #[.int .i64 k, .bool op, .int .i64 kl, str nl, .int .i64 ll, .int .i64 hl, .slice al pl.length cl, .int .i64 kr, str nr, .int .i64 lr, .int .i64 hr, .slice ar pr.length cr, .slice ad rs.length cap, str ro, str a, str b] 134 (0, 0))] (by kernel_rfl) ?_
   refine ad_ 5 [0, 1, 2, 4, 5] (by kernel_rfl) (fun _ a b => ⟨Vw.sat.sub a, b⟩) (k_ rfl (h_ rfl) rfl (k_ rfl (j_ y_ rfl rfl rfl v_) rfl (k_ rfl (L_ 0 T_ v_ rfl rfl rfl) rfl (k_ rfl (j_ y_ rfl rfl rfl v_) rfl (k_ rfl (L_ 0 T_ v_ rfl rfl rfl) rfl (ac_ (O_ 3 rfl (by kernel_rfl) (Q_ (dn_ (.mk kr nr lr hr ar cr pr) hok.right) rfl (.refl _) (fun v _ h => ⟨h.2.2.2.1.2.1, h.2.2.2.2.1, trivial⟩) rfl fun _ => ?_))))))))
   refine d_ (r_ rfl (C_ (fun _ a b => ⟨Vw.sat.sub a, b⟩) (O_ 6 rfl (by kernel_rfl) (Q_ (dn_ (.mk kl nl ll hl al cl pl) hok.left) rfl (.refl _) (fun v _ h => ⟨h.2.2.2.1.1, h.2.2.2.2.1, trivial⟩) rfl fun _ => ?_))))
   refine d_ (r_ rfl (C_ (fun _ a b => ⟨Vw.sat.sub a, b⟩) (ad_ 2 [7] (by kernel_rfl) (fun _ a b => ⟨Vw.sat.sub a, b⟩) (k_ rfl (ag_ du_ rfl rfl) rfl (ac_ (O_ 8 rfl (by kernel_rfl) (aK_ G_ U_ ap_ rfl rfl rfl rfl rfl rfl fun b11 => ?_)))))))
   refine d_ (r_ rfl (C_ (fun _ a b => ⟨Vw.sat.sub a.tail, b⟩) (O_ 9 rfl (by kernel_rfl) (Q_ (dV_ ⟨1, (Con.atom (.mk kr nr lr hr ar cr pr)), [], (Con.atom (.mk kl nl ll hl al cl pl)), [], [], [], 0, 0, 0⟩ frm (Con.rightP frm (.mk kl nl ll hl al cl pl) (Con.leftP frm (.mk kr nr lr hr ar cr pr) (ins frm (Con.rightP frm (.mk kr nr lr hr ar cr pr) (Con.leftP frm (.mk kl nl ll hl al cl pl) [])) ⟨1, (Con.atom (.mk kl nl ll hl al cl pl)), [], (Con.atom (.mk kr nr lr hr ar cr pr)), [], [], [], 0, 0, 0⟩))) q23 hq23 (by omega)) rfl (.cons _ (@List.perm_append_comm _ [_] _)) (fun _ _ _ => trivial) rfl fun x => ?_))))
   obtain ⟨q25, hq25⟩ := x
   have hb25 := bP_ frm (Con.rightP frm (.mk kl nl ll hl al cl pl) (Con.leftP frm (.mk kr nr lr hr ar cr pr) (ins frm (Con.rightP frm (.mk kr nr lr hr ar cr pr) (Con.leftP frm (.mk kl nl ll hl al cl pl) [])) ⟨1, (Con.atom (.mk kl nl ll hl al cl pl)), [], (Con.atom (.mk kr nr lr hr ar cr pr)), [], [], [], 0, 0, 0⟩))) ⟨1, (Con.atom (.mk kr nr lr hr ar cr pr)), [], (Con.atom (.mk kl nl ll hl al cl pl)), [], [], [], 0, 0, 0⟩
   refine at_ (@List.perm_append_comm _ _ [_]) (d_ (r_ rfl (C_ (fun _ a b => ⟨Vw.sat.sub a, b⟩) (ab_ (by kernel_rfl) (aO_ rfl ?_)))))
   have e : Ax.pieces frm ⟨k, op, (.mk kl nl ll hl al cl pl), (.mk kr nr lr hr ar cr pr), ad, cap, rs, ro, a, b⟩ = (ins frm (Con.rightP frm (.mk kl nl ll hl al cl pl) (Con.leftP frm (.mk kr nr lr hr ar cr pr) (ins frm (Con.rightP frm (.mk kr nr lr hr ar cr pr) (Con.leftP frm (.mk kl nl ll hl al cl pl) [])) ⟨1, (Con.atom (.mk kl nl ll hl al cl pl)), [], (Con.atom (.mk kr nr lr hr ar cr pr)), [], [], [], 0, 0, 0⟩))) ⟨1, (Con.atom (.mk kr nr lr hr ar cr pr)), [], (Con.atom (.mk kl nl ll hl al cl pl)), [], [], [], 0, 0, 0⟩) := by
    unfold Ax.pieces
    dsimp only
    repeat (first | rfl | (rw [if_pos (by omega)]) | (rw [if_neg (by omega)]))
   exact cn_ et_ ⟨q25, by rw [e]; exact hq25⟩ rfl (F := [_]) (@List.perm_append_comm _ [_] _) (fun _ _ _ => trivial)
 ·
  replace hr1 := eq_of_beq hr1
  try dsimp only [Con.kind, Con.parts, Con.name, Con.lo, Con.hi, Con.cap, Con.ad] at hr1
  obtain ⟨fl, zl⟩ := Con.check_zero (G.left (by show k ≤ 3; omega))
  dsimp only at fl zl
  obtain ⟨fr, zr⟩ := Con.check_zero (G.right (by show k ≤ 4 ∨ k = 8; omega))
  dsimp only at fr zr
  refine n_ rfl (f_ (c_ (a_ (h_ rfl) rfl (a_ (j_ y_ rfl rfl rfl v_) rfl (a_ (L_ 0 T_ v_ rfl rfl rfl) rfl (aH_ (jS_ (kb := kb) (bk := bk) (bs := bl) _ (.mk kl nl ll hl al cl pl) (Nat.le_refl _) hok.left fl [] q hq (by omega)) rfl rfl (@List.perm_append_comm _ [_] _) (fun v _ h => by exact ⟨h.2.2.2.1.1, h.2.2.2.2.1, h.1, h.2.1, trivial⟩) rfl fun x => ?_))))))
  obtain ⟨q26, hq26⟩ := x
  have hb26 := Con.leftP_len frm _ (.mk kl nl ll hl al cl pl) (Nat.le_refl _) []
  refine at_ (@List.perm_append_comm _ _ [_]) (d_ (b_ rfl (f_ (c_ (a_ (h_ rfl) rfl (a_ (j_ y_ rfl rfl rfl v_) rfl (a_ (L_ 0 T_ v_ rfl rfl rfl) rfl (aH_ (hS_ (kb := kb) (bk := bk) (bs := br) _ (.mk kr nr lr hr ar cr pr) (Nat.le_refl _) hok.right fr (Con.leftP frm (.mk kl nl ll hl al cl pl) []) q26 hq26 (by omega)) rfl rfl (@List.perm_append_comm _ [_] _) (fun v _ h => by exact ⟨h.2.2.2.1.2.1, h.2.2.2.2.1, h.1, h.2.2.1, trivial⟩) rfl fun x => ?_))))))))
  obtain ⟨q27, hq27⟩ := x
  have hb27 := Con.rightP_len frm _ (.mk kr nr lr hr ar cr pr) (Nat.le_refl _) (Con.leftP frm (.mk kl nl ll hl al cl pl) [])
  refine at_ (@List.perm_append_comm _ _ [_]) (d_ (b_ rfl ?_))
  refine aC_ [(b1, .cells #[.int .i64 k, .bool op, .int .i64 kl, str nl, .int .i64 ll, .int .i64 hl, .slice al pl.length cl, .int .i64 kr, str nr, .int .i64 lr, .int .i64 hr, .slice ar pr.length cr, .slice ad rs.length cap, str ro, str a, str b] 134 (0, 0))] (by kernel_rfl) ?_
  refine ad_ 5 [0, 1, 2, 4, 5] (by kernel_rfl) (fun _ a b => ⟨Vw.sat.sub a, b⟩) (k_ rfl (h_ rfl) rfl (k_ rfl (j_ y_ rfl rfl rfl v_) rfl (k_ rfl (L_ 0 T_ v_ rfl rfl rfl) rfl (k_ rfl (j_ y_ rfl rfl rfl v_) rfl (k_ rfl (L_ 0 T_ v_ rfl rfl rfl) rfl (ac_ (O_ 3 rfl (by kernel_rfl) (Q_ (dn_ (.mk kl nl ll hl al cl pl) hok.left) rfl (.refl _) (fun v _ h => ⟨h.2.2.2.1.1, h.2.2.2.2.1, trivial⟩) rfl fun _ => ?_))))))))
  refine d_ (r_ rfl (C_ (fun _ a b => ⟨Vw.sat.sub a, b⟩) (O_ 6 rfl (by kernel_rfl) (Q_ (dn_ (.mk kr nr lr hr ar cr pr) hok.right) rfl (.refl _) (fun v _ h => ⟨h.2.2.2.1.2.1, h.2.2.2.2.1, trivial⟩) rfl fun _ => ?_))))
  refine d_ (r_ rfl (C_ (fun _ a b => ⟨Vw.sat.sub a, b⟩) (ad_ 2 [7] (by kernel_rfl) (fun _ a b => ⟨Vw.sat.sub a, b⟩) (k_ rfl (ag_ du_ rfl rfl) rfl (ac_ (O_ 8 rfl (by kernel_rfl) (aK_ G_ U_ ap_ rfl rfl rfl rfl rfl rfl fun b12 => ?_)))))))
  refine d_ (r_ rfl (C_ (fun _ a b => ⟨Vw.sat.sub a.tail, b⟩) (O_ 9 rfl (by kernel_rfl) (Q_ (dV_ ⟨1, (Con.atom (.mk kl nl ll hl al cl pl)), [], (Con.atom (.mk kr nr lr hr ar cr pr)), [], [], [], 0, 0, 0⟩ frm (Con.rightP frm (.mk kr nr lr hr ar cr pr) (Con.leftP frm (.mk kl nl ll hl al cl pl) [])) q27 hq27 (by omega)) rfl (.cons _ (@List.perm_append_comm _ [_] _)) (fun _ _ _ => trivial) rfl fun x => ?_))))
  obtain ⟨q29, hq29⟩ := x
  have hb29 := bP_ frm (Con.rightP frm (.mk kr nr lr hr ar cr pr) (Con.leftP frm (.mk kl nl ll hl al cl pl) [])) ⟨1, (Con.atom (.mk kl nl ll hl al cl pl)), [], (Con.atom (.mk kr nr lr hr ar cr pr)), [], [], [], 0, 0, 0⟩
  refine at_ (@List.perm_append_comm _ _ [_]) (d_ (r_ rfl (C_ (fun _ a b => ⟨Vw.sat.sub a, b⟩) (ab_ (by kernel_rfl) (aO_ rfl ?_)))))
  have e : Ax.pieces frm ⟨k, op, (.mk kl nl ll hl al cl pl), (.mk kr nr lr hr ar cr pr), ad, cap, rs, ro, a, b⟩ = (ins frm (Con.rightP frm (.mk kr nr lr hr ar cr pr) (Con.leftP frm (.mk kl nl ll hl al cl pl) [])) ⟨1, (Con.atom (.mk kl nl ll hl al cl pl)), [], (Con.atom (.mk kr nr lr hr ar cr pr)), [], [], [], 0, 0, 0⟩) := by
   unfold Ax.pieces
   dsimp only
   repeat (first | rfl | (rw [if_pos (by omega)]) | (rw [if_neg (by omega)]))
  exact cn_ et_ ⟨q29, by rw [e]; exact hq29⟩ rfl (F := [_]) (@List.perm_append_comm _ [_] _) (fun _ _ _ => trivial)
end Go.Proofs.YtpdbbglpbngeiaaGreatDoor
namespace Go.Proofs.YtpdbbglpbngeiaaGreatDoor
open Go Go.Sx Go.Proofs
attribute [local irreducible] Code.wp wpList wpAnyH
open Go.Vs
theorem bk_.form {e : TypeId} {sz n : Nat} {sv : Value} {xs : List Value} {Hr : Hp} (h : bk_ e sz sv n xs Hr) : ∃ ad cap, sv = .slice ad n cap := by
  rcases h.2 with ⟨h1, h2, _⟩ | ⟨g, cap, cur, h1, _⟩
  · exact ⟨none, 0, by rw [h1, h2]⟩
  · exact ⟨_, cap, h1⟩
theorem qz_ (l : List Ax) (ad : Option Addr) (cap : Nat) (hcap : l.length ≤ cap ∧ cap ≤ 2199023255488) (hok : ∀ x ∈ l, x.ok) :
  Tri Tryz.prog 49 #[.slice ad l.length cap] [] [no_ ad l, dB_] (fun y : {y : Option Addr × Nat // (bn_ l).1.length ≤ y.2 ∧ y.2 ≤ maxLen} => .tuple #[.slice y.1.1 (bn_ l).1.length y.1.2, .int .i64 (bn_ l).2]) (fun _ => []) (fun y => [aS_ y.1.1 ((bn_ l).1.flatMap Pc.cells)]) := by
 refine M_ Tryz.func49 rfl rfl Tryz.ntmps49 rfl fun v0 => ?_
 refine f_ (c_ (a_ (g_ rfl) rfl (a_ (g_ rfl) rfl (d_ (b_ rfl (f_ (f_ (c_ (a_ (h_ rfl) rfl ?_)))))))))
 refine a_ (ah_ cs_ rfl) rfl (x_ (bK_ rfl rfl) rfl fun r1 hr1 => ?_)
 refine d_ (b_ rfl ?_)
 cases r1
 ·
  replace hr1 := of_decide_eq_false hr1
  try dsimp only [Con.kind, Con.parts, Con.name, Con.lo, Con.hi, Con.cap, Con.ad] at hr1
  refine p_ rfl (A_ (b_ rfl (f_ (f_ (c_ (a_ (h_ rfl) rfl (a_ (ah_ cs_ rfl) rfl (a_ (h_ rfl) rfl (d_ ?_)))))))))
  refine b_ rfl (S_ (bS_ [(0, .slice ad l.length cap), (2, .slice none 0 0), (13, .slice ad l.length cap), (14, .int .i64 (l.length : Int)), (15, .int .i64 ((0 : Nat) : Int))] ⟨rfl, rfl, rfl, rfl, rfl, trivial⟩ ?_))
  refine bY_ (ι := {q : Nat // q ≤ l.length ∧ ∀ y ∈ l.take q, y.check = 0}) (fun i => [(0, .slice ad l.length cap), (2, .slice none 0 0), (13, .slice ad l.length cap), (14, .int .i64 (l.length : Int)), (15, .int .i64 (i.1 : Int))]) (fun _ => _) (fun _ => _) (fun i => l.length - i.1) ⟨0, by simp⟩ ?_
  rintro ⟨i, hk⟩
  refine bS_ [(0, .slice ad l.length cap), (2, .slice none 0 0), (13, .slice ad l.length cap), (14, .int .i64 (l.length : Int)), (15, .int .i64 (i : Int))] ⟨rfl, rfl, rfl, rfl, rfl, trivial⟩ ?_
  refine f_ (c_ (x_ (az_ rfl rfl) rfl fun r2 hr2 => ?_))
  refine d_ (b_ rfl (f_ ?_))
  cases r2
  ·
   replace hr2 := of_decide_eq_false hr2
   try dsimp only [Con.kind, Con.parts, Con.name, Con.lo, Con.hi, Con.cap, Con.ad] at hr2
   obtain rfl : i = l.length := by omega
   try rw [List.take_length] at hk
   refine p_ rfl (aD_ rfl (b_ rfl (f_ (f_ (c_ (a_ (h_ rfl) rfl (a_ (ah_ cs_ rfl) rfl (a_ (h_ rfl) rfl (d_ ?_)))))))))
   refine b_ rfl (S_ ?_)
   have hall := hk.2
   refine bS_ [(2, .slice none 0 0), (25, .slice ad l.length cap), (26, .int .i64 (l.length : Int)), (27, .int .i64 ((0 : Nat) : Int))] ⟨rfl, rfl, rfl, rfl, trivial⟩ ?_
   refine bY_ (ι := {x : Nat × List Pc × Value × Hp // x.1 ≤ l.length ∧ bk_ 47 10 x.2.2.1 x.2.1.length (x.2.1.flatMap Pc.cells) x.2.2.2 ∧ x.2.1.length ≤ 16384 ∧ go_ 0 l [] = go_ x.1 (l.drop x.1) x.2.1}) (fun x => [(2, x.1.2.2.1), (25, .slice ad l.length cap), (26, .int .i64 (l.length : Int)), (27, .int .i64 (x.1.1 : Int))]) (fun x => x.1.2.2.2) (fun _ => _) (fun x => l.length - x.1.1) ⟨(0, [], .slice none 0 0, []), by simp, bk_.nil _ _, by simp, rfl⟩ ?_
   clear hk
   rintro ⟨⟨i, p, sv, Hr⟩, hk⟩
   dsimp only at hk
   refine bS_ [(2, sv), (25, .slice ad l.length cap), (26, .int .i64 (l.length : Int)), (27, .int .i64 (i : Int))] ⟨rfl, rfl, rfl, rfl, trivial⟩ ?_
   refine f_ (c_ (x_ (az_ rfl rfl) rfl fun r3 hr3 => ?_))
   refine d_ (b_ rfl (f_ ?_))
   cases r3
   ·
    replace hr3 := of_decide_eq_false hr3
    try dsimp only [Con.kind, Con.parts, Con.name, Con.lo, Con.hi, Con.cap, Con.ad] at hr3
    obtain rfl : i = l.length := by omega
    try rw [List.take_length] at hk
    refine p_ rfl (aD_ rfl (b_ rfl (f_ (c_ (a_ (h_ rfl) rfl (a_ (g_ rfl) rfl (a_ (g_ rfl) rfl (d_ (b_ rfl ?_)))))))))
    refine B_ (gk_ hk.2.1 (F := []) (by rw [List.append_nil]) fun ad2 cp2 hsv hc1 hc2 => ?_)
    have e : bn_ l = (p, 0) := by
     unfold bn_; rw [if_neg (by omega), if_neg (by simp [dl_ hall]), hk.2.2.2, List.drop_length]; first | done | rfl
    have hy : (bn_ l).1.length ≤ cp2 ∧ cp2 ≤ maxLen := by rw [e]; exact ⟨hc1, hc2⟩
    have hz : Value.tuple #[sv, .int .i64 0] = .tuple #[.slice ad2 (bn_ l).1.length cp2, .int .i64 (bn_ l).2] := by rw [e, hsv]
    have hw : (p.flatMap Pc.cells) = ((bn_ l).1.flatMap Pc.cells) := by rw [e]
    exact pe_ Tryz.results49 ⟨(ad2, cp2), hy⟩ rfl rfl hz (.refl _) (fun v _ h => ⟨hw ▸ h.1, trivial⟩)
   ·
    replace hr3 := of_decide_eq_true hr3
    try dsimp only [Con.kind, Con.parts, Con.name, Con.lo, Con.hi, Con.cap, Con.ad] at hr3
    have hlt : i < l.length := by omega
    obtain ⟨x, hx⟩ : ∃ x, l[i]? = some x := ⟨_, List.getElem?_eq_getElem hlt⟩
    have hxm : x ∈ l := List.mem_of_getElem? hx
    refine n_ rfl (A_ (b_ rfl (f_ (S_ (f_ ?_)))))
    have G := Ax.good_of (hall x hxm)
    have hpl := hw_ (i : Int) G
    refine c_ (a_ (h_ rfl) rfl (a_ (ak_ cs_ cV_ rfl rfl (fun v _ h => aL_ (n := 16) Ax.cells_len (by decide) (h.1.1) hx) (by omega) (by first | omega | (simp only [Con.parts]; omega) | (simp [Con.parts]; done))) rfl (a_ (aE_ (ad := ad) (us := x.cells) hG_ cV_ rfl (fun v _ h => h.1.1) (Ax.cells_len _) (an_ Ax.cells_len hx)) rfl (al_ Tryz.zeroValue134 rfl fun b1 => ?_))))
    refine a_ (g_ rfl) rfl (jE_ (us := x.cells) 0 cV_ x.cells_len x.one_cells rfl rfl rfl rfl (d_ (b_ rfl (f_ (c_ (a_ (h_ rfl) rfl (Q_ (jM_ (i : Int)) rfl (.refl _) (fun _ _ _ => trivial) rfl fun ⟨kb, bm⟩ => ?_)))))))
    refine a_ (g_ rfl) rfl (d_ (b_ rfl (f_ (c_ (a_ (h_ rfl) rfl (a_ (ky_ (us := x.cells) 2 hG_ cV_ x.cells_len rfl rfl) rfl (Q_ (ss_ x (hok x hxm) (hall x hxm) (i : Int) ⟨.slice none 0 0, bm, #[], 0, []⟩ ⟨bk_.nil _ _, rfl, by simp⟩) rfl (.refl _) (fun v _ h => ⟨h.1.2 x hxm, h.2.1, trivial⟩) rfl fun y => ?_)))))))
    obtain ⟨⟨sv1, bm1, es1, ck1, Hr1⟩, hq⟩ := y
    have hne := hq.row
    dsimp only at hne
    have hn0 : (x.pieces (i : Int)).length ≠ 0 := fun e => Ax.pieces_ne _ G (List.eq_nil_of_length_eq_zero e)
    obtain ⟨g, cp, cur, rfl, rfl, h3, h4, h5, h6⟩ := hne.some hn0
    refine d_ (b_ rfl (f_ (c_ (a_ (h_ rfl) rfl (a_ (h_ rfl) rfl (a_ (af_ rfl) rfl (a_ (j_ cF_ rfl rfl rfl bU_) rfl (a_ (q_ 0 dG_ rfl rfl rfl) rfl (bd_ qZ_ hk.2.1 rfl rfl (@List.perm_append_comm _ [_, _, _, _] _) (by rw [ea_ Pc.cells 10 Pc.cells_len]) (pr_ 2 rfl h6) (fun u hu => by obtain ⟨y, _, hy⟩ := List.mem_flatMap.1 hu; exact hf_ y.cells_one u hy) (by simp only [maxLen]; omega) (by omega) rfl fun sv2 Hr2 hrow => ?_)))))))))
    refine at_ (@List.perm_append_comm _ _ [_, _, _, _]) ?_
    have hln : ∃ ad2 cp2, sv2 = .slice ad2 (p.length + (x.pieces (i : Int)).length) cp2 := bk_.form hrow
    obtain ⟨ad2, cp2, hsv⟩ := hln
    refine a_ (g_ rfl) rfl (d_ (b_ rfl (f_ (c_ (a_ (h_ rfl) rfl (a_ (ah_ (ad := ad2) (len := p.length + (x.pieces (i : Int)).length) (cap := cp2) G_ (congrArg some hsv)) rfl (x_ (bK_ rfl rfl) rfl fun r4 hr4 => ?_)))))))
    refine d_ (b_ rfl ?_)
    cases r4
    ·
     replace hr4 := of_decide_eq_false hr4
     try dsimp only [Con.kind, Con.parts, Con.name, Con.lo, Con.hi, Con.cap, Con.ad] at hr4
     refine p_ rfl (A_ (b_ rfl (c_ (a_ (V_ rfl rfl rfl (aq_ (by omega) (by omega))) rfl (a_ (h_ rfl) rfl (d_ (r_ rfl ?_)))))))
     exact ao_ ⟨(i + 1, p ++ x.pieces (i : Int), sv2, Hr2), hlt, by simpa [List.flatMap_append] using hrow, by simp only [List.length_append]; omega, by rw [hk.2.2.2, ik_ hx]; simp only [go_]; rw [if_neg (by simp only [List.length_append]; omega)]⟩ (by simp; omega) ⟨rfl, rfl, rfl, rfl, trivial⟩ (F := [_, _, _, _]) (@List.perm_append_comm _ [_, _, _, _] _) (fun _ _ h => h)
    ·
     replace hr4 := of_decide_eq_true hr4
     try dsimp only [Con.kind, Con.parts, Con.name, Con.lo, Con.hi, Con.cap, Con.ad] at hr4
     refine n_ rfl (f_ (c_ (a_ (g_ rfl) rfl (a_ (g_ rfl) rfl (d_ (b_ rfl (B_ ?_)))))))
     have e : bn_ l = ([], 2) := by unfold bn_; rw [if_neg (by omega), if_neg (by simp [dl_ hall]), hk.2.2.2, ik_ hx]; simp only [go_]; rw [if_pos (by simp only [List.length_append]; omega)]
     have hy : (bn_ l).1.length ≤ 0 ∧ 0 ≤ maxLen := by rw [e]; simp
     have hz : Value.tuple #[.slice none 0 0, .int .i64 2] = .tuple #[.slice none (bn_ l).1.length 0, .int .i64 (bn_ l).2] := by rw [e] <;> rfl
     have hw : (bn_ l).1.flatMap Pc.cells = [] := by rw [e] <;> rfl
     exact pe_ Tryz.results49 ⟨(none, 0), hy⟩ rfl rfl hz (.refl _) (fun v _ h => ⟨.inl hw, trivial⟩)
  ·
   replace hr2 := of_decide_eq_true hr2
   try dsimp only [Con.kind, Con.parts, Con.name, Con.lo, Con.hi, Con.cap, Con.ad] at hr2
   have hlt : i < l.length := by omega
   obtain ⟨x, hx⟩ : ∃ x, l[i]? = some x := ⟨_, List.getElem?_eq_getElem hlt⟩
   have hxm : x ∈ l := List.mem_of_getElem? hx
   refine n_ rfl (A_ (b_ rfl (f_ (S_ (f_ (c_ (a_ (ak_ cs_ cV_ rfl rfl (fun v _ h => aL_ (n := 16) Ax.cells_len (by decide) (h.1.1) hx) (by omega) (by first | omega | (simp only [Con.parts]; omega) | (simp [Con.parts]; done))) rfl (a_ (aE_ (ad := ad) (us := x.cells) hG_ cV_ rfl (fun v _ h => h.1.1) (Ax.cells_len _) (an_ Ax.cells_len hx)) rfl (al_ Tryz.zeroValue134 rfl fun b2 => ?_)))))))))
   refine jE_ (us := x.cells) 0 cV_ x.cells_len x.one_cells rfl rfl rfl rfl (d_ (b_ rfl (f_ (c_ (a_ (ky_ (us := x.cells) 0 hG_ cV_ x.cells_len rfl rfl) rfl (Q_ (lN_ x (hok x hxm)) rfl (.refl _) (fun v _ h => ⟨h.1.2 x hxm, h.2.1, trivial⟩) rfl fun _ => ?_))))))
   refine a_ (g_ rfl) rfl (d_ (b_ rfl (f_ (c_ (a_ (h_ rfl) rfl (x_ (bR_ rfl rfl) rfl fun r5 hr5 => ?_))))))
   refine d_ (b_ rfl ?_)
   cases r5
   ·
    replace hr5 := bc_ hr5
    try dsimp only [Con.kind, Con.parts, Con.name, Con.lo, Con.hi, Con.cap, Con.ad] at hr5
    refine p_ rfl (A_ (b_ rfl (c_ (a_ (V_ rfl rfl rfl (aq_ (by omega) (by omega))) rfl (a_ (h_ rfl) rfl (d_ (r_ rfl ?_)))))))
    exact ao_ ⟨i + 1, hlt, fun y hy => by rw [List.take_add_one, hx] at hy; simp only [Option.toList_some, List.mem_append, List.mem_singleton] at hy; rcases hy with hy | rfl; exact hk.2 y hy; assumption⟩ (by simp; omega) ⟨rfl, rfl, rfl, rfl, rfl, trivial⟩ (@List.perm_append_comm _ [_] _) (fun _ _ h => h)
   ·
    replace hr5 := bb_ hr5
    try dsimp only [Con.kind, Con.parts, Con.name, Con.lo, Con.hi, Con.cap, Con.ad] at hr5
    refine n_ rfl (f_ (c_ (a_ (h_ rfl) rfl (a_ (g_ rfl) rfl (a_ (g_ rfl) rfl (d_ (b_ rfl (B_ ?_))))))))
    have e : bn_ l = ([], x.check) := by unfold bn_; rw [if_neg (by omega), nf_ hx hk.2 (by assumption), if_pos (by assumption)]
    have hy : (bn_ l).1.length ≤ 0 ∧ 0 ≤ maxLen := by rw [e]; simp
    have hz : Value.tuple #[.slice none 0 0, .int .i64 x.check] = .tuple #[.slice none (bn_ l).1.length 0, .int .i64 (bn_ l).2] := by rw [e] <;> rfl
    have hw : (bn_ l).1.flatMap Pc.cells = [] := by rw [e] <;> rfl
    exact pe_ Tryz.results49 ⟨(none, 0), hy⟩ rfl rfl hz (.refl _) (fun v _ h => ⟨.inl hw, trivial⟩)
 ·
  replace hr1 := of_decide_eq_true hr1
  try dsimp only [Con.kind, Con.parts, Con.name, Con.lo, Con.hi, Con.cap, Con.ad] at hr1
  refine n_ rfl (f_ (c_ (a_ (g_ rfl) rfl (a_ (g_ rfl) rfl (d_ (b_ rfl (B_ ?_)))))))
  have e : bn_ l = ([], 2) := by unfold bn_; rw [if_pos (by omega)]
  have hy : (bn_ l).1.length ≤ 0 ∧ 0 ≤ maxLen := by rw [e]; simp
  have hz : Value.tuple #[.slice none 0 0, .int .i64 2] = .tuple #[.slice none (bn_ l).1.length 0, .int .i64 (bn_ l).2] := by rw [e] <;> rfl
  have hw : (bn_ l).1.flatMap Pc.cells = [] := by rw [e] <;> rfl
  exact pe_ Tryz.results49 ⟨(none, 0), hy⟩ rfl rfl hz (.refl _) (fun v _ h => ⟨.inl hw, trivial⟩)
end Go.Proofs.YtpdbbglpbngeiaaGreatDoor
namespace Go.Proofs.YtpdbbglpbngeiaaGreatDoor
open Go Go.Sx Go.Proofs
attribute [local irreducible] Code.wp wpList wpAnyH
open Go.Vs
theorem oR_ {N : Nat} {fr : Fr} {H : Hp} {Γ : List Fct} {ty t' : TypeId} {x y : Operand} {p q : Fc} (hx : Fr.ev fr x = some p.val) (hy : Fr.ev fr y = some q.val) : Yld Tryz.prog N fr H Γ (.binOp .eql 41 x y t') ty (.bool (decide (p = q))) :=
  fun a v h1 _ _ _ _ _ => by
    have hg : (Program.eqGuardType Tryz.prog Tryz.prog.depth 41) = false := by kernel_rfl
    have he := eqFc p q v.w
    simp only [execOp, h1.ev hx, h1.ev hy, eqGuard, Fc.val, binOp, Op.equal, Sem.run_bind, Result.andThen_ok]
    simp only [run_program, Result.andThen_ok, hg, Bool.not_false, if_true, Sem.run_pure]
    simp only [Fc.val] at he
    simp [Op.maxDepth, he]
theorem fE_ {N : Nat} {fr : Fr} {H : Hp} {Γ : List Fct} {ty t' : TypeId} {x y : Operand} {p q : Fc} (hx : Fr.ev fr x = some p.val) (hy : Fr.ev fr y = some q.val) : Yld Tryz.prog N fr H Γ (.binOp .neq 41 x y t') ty (.bool (decide (p ≠ q))) :=
  fun a v h1 _ _ _ _ _ => by
    have hg : (Program.eqGuardType Tryz.prog Tryz.prog.depth 41) = false := by kernel_rfl
    have he := eqFc p q v.w
    simp only [execOp, h1.ev hx, h1.ev hy, eqGuard, Fc.val, binOp, Op.equal, Sem.run_bind, Result.andThen_ok]
    simp only [run_program, Result.andThen_ok, hg, Bool.not_false, if_true, Sem.run_pure]
    simp only [Fc.val] at he
    simp [Op.maxDepth, he]
theorem lg_ (s : Str) (c : UInt8) : Fn0 Tryz.prog 212 #[str s, str [c]] (.int .i64 (Lib.indexByte s c)) :=
  gq_ (callable Tryz.func212 rfl rfl) fun w => (Tryz.strings_Index_one ⟨s.toArray⟩ c w).mono (by rintro e w' ⟨rfl, rfl⟩; exact ⟨rfl, rfl, rfl, rfl, rfl, Nat.le_refl _⟩)
theorem kt_ (s : Str) (c : UInt8) (k : Nat) (hk : ixS c s = some k) : Fn0 Tryz.prog 212 #[str s, str [c]] (.int .i64 (k : Int)) := by
  have h := lg_ s c
  rw [jc_, hk] at h
  exact h
theorem ql_ (s : Str) (c : UInt8) : Fn0 Tryz.prog 211 #[str s, str [c]] (.int .i64 (dD_ c s : Int)) :=
  gq_ (callable Tryz.func211 rfl rfl) fun w => (Tryz.strings_Count_one ⟨s.toArray⟩ c w).mono (by rintro e w' ⟨rfl, rfl⟩; exact ⟨rfl, rfl, rfl, rfl, rfl, Nat.le_refl _⟩)
theorem ok_H {N : Nat} {v0 : Vw} {H0 : Hp} {k : Act → World → Prop} {fr : Fr} {H H' : Hp} {Γ : List Fct} (e : H = H') (h : Ok N v0 H0 k fr H' Γ) : Ok N v0 H0 k fr H Γ := e ▸ h
theorem nW_ (s : Str) (c : UInt8) (hs : s.length ≤ 17592186044414) : Tri Tryz.prog 191 #[str s, str [c], .int .i64 0, .int .i64 (-1)] [] [] (fun b : Nat => .slice (some ⟨b, 0, none⟩) (bs_ c s).length (bs_ c s).length) (fun _ => []) (fun b => [aS_ (some ⟨b, 0, none⟩) ((bs_ c s).flatMap bg_)]) := by
 have hcl := je_ c s
 refine M_ Tryz.func191 rfl rfl Tryz.ntmps191 rfl fun v0 => ?_
 refine f_ (c_ (a_ (g_ rfl) rfl (d_ (b_ rfl (f_ (f_ (c_ (a_ (h_ rfl) rfl (x_ (aA_ rfl rfl) rfl fun r1 hr1 => ?_)))))))))
 refine d_ (b_ rfl ?_)
 cases r1
 ·
  replace hr1 := ne_of_beq_false hr1
  refine p_ rfl (A_ (b_ rfl (f_ (f_ (c_ (a_ (h_ rfl) rfl (x_ (bv_ rfl rfl) rfl fun r2 hr2 => ?_)))))))
  refine d_ (b_ rfl ?_)
  cases r2
  ·
   replace hr2 := ne_of_beq_false hr2
   refine p_ rfl (A_ (b_ rfl (f_ (f_ (c_ (a_ (h_ rfl) rfl (x_ (az_ rfl rfl) rfl fun r3 hr3 => ?_)))))))
   refine d_ (b_ rfl ?_)
   cases r3
   ·
    replace hr3 := of_decide_eq_false hr3
    exact absurd (by decide) hr3
   ·
    replace hr3 := of_decide_eq_true hr3
    refine n_ rfl (c_ (a_ (h_ rfl) rfl (a_ (h_ rfl) rfl (Q_ (ql_ s c) rfl (.refl _) (fun _ _ _ => trivial) rfl fun _ => ?_))))
    refine a_ (V_ rfl rfl rfl (aq_ (by omega) (by omega))) rfl (a_ (g_ rfl) rfl (d_ (b_ rfl (f_ (c_ (a_ (h_ rfl) rfl (a_ (h_ rfl) rfl (a_ (co_ ar_ rfl) rfl (a_ (V_ rfl rfl rfl (aq_ (by omega) (by omega))) rfl ?_)))))))))
    refine a_ (cb_ (om_ rfl rfl) (show _ = Value.int .i64 ((dD_ c s + 1 : Nat) : Int) by rw [if_neg (by omega)]; rfl)) rfl (a_ (g_ rfl) rfl (d_ (b_ rfl (f_ (c_ (a_ (h_ rfl) rfl (pu_ (n := dD_ c s + 1) (by' := 16) gE_ (z := .string ⟨#[]⟩) (by kernel_rfl) rfl rfl rfl (by omega) (by omega) rfl fun b1 => ?_)))))))
    refine a_ (g_ rfl) rfl (d_ (b_ rfl (f_ (c_ (a_ (h_ rfl) rfl (a_ (cb_ (V_ rfl rfl rfl (aq_ (by omega) (by omega))) (show _ = Value.int .i64 (dD_ c s : Int) by first | rfl | (congr 1; omega))) rfl (a_ (g_ rfl) rfl (d_ (b_ rfl ?_)))))))))
    refine f_ (c_ (a_ (g_ rfl) rfl (d_ (b_ rfl (f_ (S_ (bS_ [(0, str s), (1, str [c]), (2, .int .i64 0), (3, .int .i64 (dD_ c s : Int)), (9, .slice (some ⟨b1, 0, none⟩) (dD_ c s + 1) (dD_ c s + 1)), (10, .int .i64 ((0 : Nat) : Int))] ⟨rfl, rfl, rfl, rfl, rfl, rfl, trivial⟩ ?_)))))))
    refine bY_ (ι := {x : Nat × List Str × Str // x.2.1.length = x.1 ∧ bs_ c s = x.2.1 ++ bs_ c x.2.2 ∧ x.1 + dD_ c x.2.2 = dD_ c s ∧ x.2.2.length ≤ s.length}) (fun x => [(0, str x.1.2.2), (1, str [c]), (2, .int .i64 0), (3, .int .i64 (dD_ c s : Int)), (9, .slice (some ⟨b1, 0, none⟩) (dD_ c s + 1) (dD_ c s + 1)), (10, .int .i64 (x.1.1 : Int))]) (fun x => [(b1, .cells (x.1.2.1.map str ++ List.replicate (dD_ c s + 1 - x.1.1) (Value.string ⟨#[]⟩)).toArray 9 (0, 0))]) (fun _ => _) (fun x => dD_ c s - x.1.1) ⟨(0, [], s), rfl, rfl, by simp, by simp⟩ ?_
    rintro ⟨⟨i, dn, r⟩, hk⟩
    dsimp only at hk
    obtain ⟨hk1, hk2, hk3, hk4⟩ := hk
    refine bS_ [(0, str r), (1, str [c]), (2, .int .i64 0), (3, .int .i64 (dD_ c s : Int)), (9, .slice (some ⟨b1, 0, none⟩) (dD_ c s + 1) (dD_ c s + 1)), (10, .int .i64 (i : Int))] ⟨rfl, rfl, rfl, rfl, rfl, rfl, trivial⟩ ?_
    have hrep : ∀ k, k < dD_ c s + 1 → List.replicate (dD_ c s + 1 - k) (Value.string ⟨#[]⟩) = Value.string ⟨#[]⟩ :: List.replicate (dD_ c s - k) (Value.string ⟨#[]⟩) := fun k hk => by rw [show dD_ c s + 1 - k = (dD_ c s - k) + 1 by omega]; rfl
    refine ok_H (H' := [(b1, .cells (dn.map str ++ Value.string ⟨#[]⟩ :: List.replicate (dD_ c s - i) (Value.string ⟨#[]⟩)).toArray 9 (0, 0))]) (by dsimp only; rw [hrep i (by omega)]) ?_
    refine f_ (f_ (c_ (a_ (h_ rfl) rfl (a_ (h_ rfl) rfl (x_ (az_ rfl rfl) rfl fun r4 hr4 => ?_)))))
    refine d_ (b_ rfl ?_)
    cases r4
    ·
     replace hr4 := of_decide_eq_false hr4
     obtain rfl : i = dD_ c s := by omega
     have hr0 : bs_ c r = [r] := by
            cases hx : ixS c r with
            | none => exact ft_ hx
            | some k => have := kZ_ hx; omega
     rw [hr0] at hk2
     refine p_ rfl (aD_ rfl (b_ rfl (f_ (c_ (a_ (h_ rfl) rfl (a_ (h_ rfl) rfl (a_ (h_ rfl) rfl (a_ (fF_ P_ s_ rfl rfl (by omega) (by omega)) rfl (jF_ 0 s_ rfl rfl rfl (by simp [hk1]) rfl rfl ?_)))))))))
     refine d_ (b_ rfl (f_ (c_ (a_ (h_ rfl) rfl (a_ (h_ rfl) rfl (a_ (cb_ (V_ rfl rfl rfl (aq_ (by omega) (by omega))) (show _ = Value.int .i64 ((dD_ c s + 1 : Nat) : Int) by first | rfl | (congr 1; omega))) rfl (a_ (cb_ (eB_ (i := 0) (j := dD_ c s + 1) (kl := .i64) (kh := .i64) P_ s_ rfl rfl rfl (by omega) (by omega)) (show _ = Value.slice (some ⟨b1, 0, none⟩) (dD_ c s + 1) (dD_ c s + 1) by rw [mm_]; rfl)) rfl (a_ (g_ rfl) rfl (d_ ?_)))))))))
     refine b_ rfl (B_ (dT_ ((bs_ c s).flatMap bg_) i_ (by rw [hk2, jo_]; simp) ?_))
     have hl := dO_ c s
     exact as_ Tryz.results191 b1 (gn_ rfl (by rw [hl])) (.refl _) (fun v _ h => ⟨h.1, trivial⟩)
    ·
     replace hr4 := of_decide_eq_true hr4
     obtain ⟨k, hix⟩ : ∃ k, ixS c r = some k := by
            cases hx : ixS c r with
            | none => have := pL_ hx; omega
            | some k => exact ⟨k, rfl⟩
     have hcs := kZ_ hix
     have hkl := nR_ hix
     refine n_ rfl (A_ (b_ rfl (S_ (f_ (c_ (a_ (h_ rfl) rfl (a_ (h_ rfl) rfl (Q_ (kt_ r c k hix) rfl (.refl _) (fun _ _ _ => trivial) rfl fun _ => ?_))))))))
     refine a_ (g_ rfl) rfl (d_ (b_ rfl (f_ (f_ (c_ (a_ (h_ rfl) rfl (x_ (az_ rfl rfl) rfl fun r5 hr5 => ?_)))))))
     refine d_ (b_ rfl ?_)
     cases r5
     ·
      replace hr5 := of_decide_eq_false hr5
      refine p_ rfl (A_ (b_ rfl (f_ (c_ (a_ (h_ rfl) rfl (a_ (h_ rfl) rfl (a_ (h_ rfl) rfl (a_ (h_ rfl) rfl (a_ (h_ rfl) rfl ?_)))))))))
      refine a_ (cb_ (V_ rfl rfl rfl (aq_ (by omega) (by omega))) (show _ = Value.int .i64 (k : Int) by first | rfl | (congr 1; omega))) rfl (a_ (cb_ (fg_ (i := 0) (j := k) (kl := .i64) (kh := .i64) ar_ rfl rfl rfl (by omega) (by omega)) (show _ = str (r.take k) by simp)) rfl (a_ (fF_ P_ s_ rfl rfl (by omega) (by omega)) rfl (jF_ 0 s_ rfl rfl rfl (by simp [hk1]) rfl rfl (d_ (b_ rfl (f_ (c_ (a_ (h_ rfl) rfl (a_ (h_ rfl) rfl ?_)))))))))
      refine a_ (h_ rfl) rfl (a_ (co_ ar_ rfl) rfl (a_ (cb_ (V_ rfl rfl rfl (aq_ (by simp only [List.length_cons, List.length_nil]; omega) (by simp only [List.length_cons, List.length_nil]; omega))) (show _ = Value.int .i64 ((k + 1 : Nat) : Int) by first | rfl | (congr 1; omega))) rfl (a_ (cb_ (fg_ (i := k + 1) (j := r.length) (kl := .i64) (kh := .i64) ar_ rfl rfl rfl (by omega) (by omega)) (show _ = str (r.drop (k + 1)) by rw [List.take_of_length_le (by simp)])) rfl (a_ (g_ rfl) rfl (d_ (b_ rfl (c_ (a_ (h_ rfl) rfl (a_ (cb_ (V_ rfl rfl rfl (aq_ (by omega) (by omega))) (show _ = Value.int .i64 ((i + 1 : Nat) : Int) by first | rfl | (congr 1; omega))) rfl ?_)))))))))
      refine a_ (g_ rfl) rfl (d_ (r_ rfl ?_))
      exact ao_ ⟨(i + 1, dn ++ [r.take k], r.drop (k + 1)), by simp [hk1], by rw [hk2, gF_ hix, List.append_assoc]; rfl, by dsimp only; omega, by simp; omega⟩ (by dsimp only; omega) ⟨rfl, rfl, rfl, rfl, rfl, rfl, trivial⟩ (F := []) (List.Perm.of_eq (by simp [show dD_ c s + 1 - (i + 1) = dD_ c s - i by omega])) (fun _ _ h => h)
     ·
      replace hr5 := of_decide_eq_true hr5
      exfalso; omega
  ·
   replace hr2 := eq_of_beq hr2
   cases hr2
 ·
  replace hr1 := eq_of_beq hr1
  exact absurd hr1 (by decide)
theorem rE_ (s : Str) (c : UInt8) (hs : s.length ≤ 17592186044414) : Tri Tryz.prog 161 #[str s, str [c]] [] [] (fun b : Nat => .slice (some ⟨b, 0, none⟩) (bs_ c s).length (bs_ c s).length) (fun _ => []) (fun b => [aS_ (some ⟨b, 0, none⟩) ((bs_ c s).flatMap bg_)]) := by
  refine M_ Tryz.func161 rfl rfl Tryz.ntmps161 rfl fun v0 => ?_
  refine f_ (c_ (a_ (g_ rfl) rfl (d_ (b_ rfl (f_ (c_ (a_ (h_ rfl) rfl (a_ (h_ rfl) rfl (Q_ (nW_ s c hs) rfl (.refl _) (fun _ _ _ => trivial) rfl fun b => ?_)))))))))
  refine a_ (g_ rfl) rfl (d_ (b_ rfl (B_ ?_)))
  exact as_ Tryz.results161 b rfl (.refl _) (fun v _ h => ⟨h.1, trivial⟩)
end Go.Proofs.YtpdbbglpbngeiaaGreatDoor
namespace Go.Proofs.YtpdbbglpbngeiaaGreatDoor
open Go Go.Sx Go.Proofs
attribute [local irreducible] Code.wp wpList wpAnyH
open Go.Vs
theorem lA_ {g : FuncId} {pred : Str → Bool} (xs : List Str) (ad : Option Addr) (cap : Nat) (hlen : xs.length ≤ 17592186044415) (hT : ∀ x ∈ xs, Fn0 Tryz.prog g #[str x] (.bool (pred x))) :
    Tri Tryz.prog 192 #[.slice ad (List.length xs) cap, .func (.func g) #[] #[]] [] [aS_ ad (List.flatMap bg_ xs)] (fun r : {r : Int // decide (0 ≤ r) = xs.any pred} => .int .i64 r.1) (fun _ => []) (fun _ => []) := by
  refine M_ Tryz.func192 rfl rfl Tryz.ntmps192 rfl fun v0 => ?_
  refine f_ (c_ (a_ (g_ rfl) rfl (d_ (b_ rfl (f_ (f_ (c_ (a_ (h_ rfl) rfl (a_ (ah_ P_ rfl) rfl ?_)))))))))
  refine a_ (h_ rfl) rfl (d_ (b_ rfl (S_ (bS_ [(0, .slice ad (List.length xs) cap), (1, .func (.func g) #[] #[]), (7, .int .i64 (List.length xs : Int)), (8, .int .i64 ((0 : Nat) : Int))] ⟨rfl, rfl, rfl, rfl, trivial⟩ ?_))))
  refine bY_ (ι := {q : Nat // q ≤ xs.length ∧ (xs.take q).any pred = false}) (fun i => [(0, .slice ad (List.length xs) cap), (1, .func (.func g) #[] #[]), (7, .int .i64 (List.length xs : Int)), (8, .int .i64 (i.1 : Int))]) (fun _ => _) (fun _ => _) (fun i => xs.length - i.1) ⟨0, by simp⟩ ?_
  rintro ⟨i, hk⟩
  refine bS_ [(0, .slice ad (List.length xs) cap), (1, .func (.func g) #[] #[]), (7, .int .i64 (List.length xs : Int)), (8, .int .i64 (i : Int))] ⟨rfl, rfl, rfl, rfl, trivial⟩ ?_
  refine f_ (c_ (x_ (az_ rfl rfl) rfl fun r1 hr1 => ?_))
  refine d_ (b_ rfl (f_ ?_))
  cases r1
  · skip
    replace hr1 := of_decide_eq_false hr1
    refine p_ rfl (aD_ rfl (b_ rfl (f_ (c_ (a_ (g_ rfl) rfl (d_ (b_ rfl (B_ ?_))))))))
    exact as_ Tryz.results192 ⟨-1, by have := hk.2; rw [List.take_of_length_le (by omega)] at this; show _ = xs.any pred; rw [this]; rfl⟩ rfl (.refl _) (fun _ _ _ => trivial)
  · skip
    replace hr1 := of_decide_eq_true hr1
    have hlx1 : i < List.length xs := by omega
    obtain ⟨x1, hx1⟩ : ∃ e0, xs[i]? = some e0 := ⟨_, List.getElem?_eq_getElem hlx1⟩
    have hmx1 : x1 ∈ xs := List.mem_of_getElem? hx1
    refine n_ rfl (A_ (b_ rfl (f_ (S_ (f_ (c_ (a_ (h_ rfl) rfl (a_ (g_ rfl) rfl (d_ ?_)))))))))
    refine b_ rfl (f_ (c_ (a_ (h_ rfl) rfl (a_ (h_ rfl) rfl (a_ (h_ rfl) rfl (a_ (ak_ P_ s_ rfl rfl (fun v _ h => aL_ (n := 1) aX_ (by decide) (by exact h.1) hx1) (by omega) (by first | omega | (simp; done))) rfl (a_ (bH_ (ad := ad) w_ rfl (fun v _ h => by exact h.1) (an_ aX_ hx1 0 _ rfl)) rfl (ce_ (hT x1 hmx1) rfl rfl W_ (fun _ _ _ => by exact trivial) rfl fun r2 hr2 => ?_))))))))
    refine d_ (b_ rfl ?_)
    cases r2
    · skip
      refine p_ rfl (A_ (b_ rfl (c_ (a_ (V_ rfl rfl rfl (aq_ (by omega) (by omega))) rfl (a_ (h_ rfl) rfl (d_ (r_ rfl ?_)))))))
      exact ao_ ⟨i + 1, hlx1, by rw [List.take_add_one, hx1]; simp only [Option.toList_some, List.any_append, hk.2]; simp [*]⟩ (by simp; omega) ⟨rfl, rfl, rfl, rfl, trivial⟩ (.refl _) (fun _ _ h => h)
    · skip
      refine n_ rfl (f_ (c_ (a_ (h_ rfl) rfl (a_ (g_ rfl) rfl (d_ (b_ rfl (B_ ?_)))))))
      exact as_ Tryz.results192 ⟨(i : Int), by show _ = xs.any pred; rw [show xs.any pred = true from List.any_eq_true.2 ⟨x1, hmx1, by assumption⟩]; exact decide_eq_true (by omega)⟩ rfl (.refl _) (fun _ _ _ => trivial)
theorem iV_ {g : FuncId} {pred : Str → Bool} (xs : List Str) (ad : Option Addr) (cap : Nat) (hlen : xs.length ≤ 17592186044415) (hT : ∀ x ∈ xs, Fn0 Tryz.prog g #[str x] (.bool (pred x))) :
    Tri Tryz.prog 162 #[.slice ad (List.length xs) cap, .func (.func g) #[] #[]] [] [aS_ ad (List.flatMap bg_ xs)] (fun _ : Unit => .bool (xs.any pred)) (fun _ => []) (fun _ => []) := by
  refine M_ Tryz.func162 rfl rfl Tryz.ntmps162 rfl fun v0 => ?_
  refine f_ (c_ (a_ (g_ rfl) rfl (d_ (b_ rfl (f_ (c_ (a_ (h_ rfl) rfl (a_ (h_ rfl) rfl (Q_ (lA_ xs ad cap hlen hT) rfl W_ (fun v _ h => by exact ⟨h.1, trivial⟩) rfl fun x => ?_)))))))))
  refine x_ (dI_ rfl rfl) rfl fun r1 hr1 => ?_
  refine a_ (g_ rfl) rfl (d_ (b_ rfl (B_ ?_)))
  exact as_ Tryz.results162 () (E_ rfl (hr1.symm.trans x.2)) (.refl _) (fun _ _ _ => trivial)
theorem pD_ (s : Str) (hs : s.length ≤ 140737488351232) : Fn0 Tryz.prog 163 #[str s] (.bool (!bi_ s)) := by
  refine M_ Tryz.func163 rfl rfl Tryz.ntmps163 rfl fun v0 => ?_
  refine f_ (c_ (a_ (g_ rfl) rfl (d_ (b_ rfl (f_ (c_ (a_ (h_ rfl) rfl (ax_ (ec_ s hs) rfl W_ (fun _ _ _ => by exact trivial) rfl fun r1 hr1 => ?_))))))))
  refine a_ (bG_ rfl) rfl (a_ (g_ rfl) rfl (d_ (b_ rfl (B_ ?_))))
  exact as_ Tryz.results163 () (E_ rfl (by simp [*])) (.refl _) (fun _ _ _ => trivial)
theorem ge_ {c : UInt8} : ∀ {s x : Str}, x ∈ bs_ c s → x.length ≤ s.length
  | [], x, h => by simp [bs_] at h; simp [h]
  | b :: s, x, h => by
    simp only [bs_] at h
    split at h
    · rcases List.mem_cons.1 h with rfl | h
      · simp
      · have := ge_ h; simp only [List.length_cons]; omega
    · cases hs : bs_ c s with
      | nil => exact absurd hs (ip_ c s)
      | cons y t =>
        rw [hs] at h
        rcases List.mem_cons.1 h with rfl | h
        · have := ge_ (c := c) (s := s) (x := y) (by rw [hs]; simp); simp only [List.length_cons]; omega
        · have := ge_ (c := c) (s := s) (x := x) (by rw [hs]; simp [h]); simp only [List.length_cons]; omega
theorem gP_ (s : Str) (hs : s.length ≤ 17592186044414) : Fn0 Tryz.prog 125 #[str s] (.bool (cw_ s)) := by
  refine M_ Tryz.func125 rfl rfl Tryz.ntmps125 rfl fun v0 => ?_
  have hsl := dO_ 46 s
  have hcl := je_ 46 s
  refine f_ (c_ (a_ (g_ rfl) rfl (d_ (b_ rfl (f_ (c_ (a_ (h_ rfl) rfl (Q_ (rE_ s 46 hs) rfl W_ (fun _ _ _ => by exact trivial) rfl fun b => ?_))))))))
  refine a_ (g_ rfl) rfl (d_ (b_ rfl (f_ (c_ (a_ (h_ rfl) rfl (a_ (ah_ P_ rfl) rfl (x_ (cJ_ rfl rfl) rfl fun r1 hr1 => ?_)))))))
  refine a_ (h_ rfl) rfl ?_
  cases r1
  · skip
    replace hr1 := of_decide_eq_false hr1
    refine t_ rfl rfl rfl rfl (t_ rfl rfl rfl rfl (t_ rfl rfl rfl rfl (a_ (N_ rfl rfl) rfl (a_ (g_ rfl) rfl (d_ (b_ rfl (B_ ?_)))))))
    exact as_ Tryz.results125 () (E_ rfl (by unfold cw_; subst_vars; rw [Bool.eq_iff_iff]; simp_all <;> omega)) (.refl _) (fun _ _ _ => trivial)
  · skip
    replace hr1 := of_decide_eq_true hr1
    refine o_ rfl rfl (a_ (h_ rfl) rfl (o_ rfl rfl (ax_ (iV_ (pred := fun r => !bi_ r) (bs_ 46 s) _ _ (by omega) (fun x hx => pD_ x (by have := ge_ hx; omega))) rfl W_ (fun v _ h => by exact ⟨h.1, trivial⟩) rfl fun r2 hr2 => ?_)))
    refine o_ rfl rfl (a_ (bG_ rfl) rfl (a_ (R_ rfl rfl) rfl (a_ (g_ rfl) rfl (d_ (b_ rfl (B_ ?_))))))
    exact as_ Tryz.results125 () (E_ rfl (by unfold cw_; subst_vars; rw [Bool.eq_iff_iff]; simp_all <;> omega)) (.refl _) (fun _ _ _ => trivial)
theorem fO_ (s : Str) (hs : s.length ≤ 140737488351232) : Fn0 Tryz.prog 127 #[str s] (.bool (bp_ s)) := by
 refine M_ Tryz.func127 rfl rfl Tryz.ntmps127 rfl fun v0 => ?_
 refine f_ (c_ (a_ (g_ rfl) rfl (d_ (b_ rfl (f_ (c_ (a_ (h_ rfl) rfl (a_ (co_ ar_ rfl) rfl (a_ (g_ rfl) rfl ?_)))))))))
 refine d_ (b_ rfl (f_ (S_ (f_ (c_ (a_ (h_ rfl) rfl (x_ (bv_ rfl rfl) rfl fun r1 hr1 => ?_)))))))
 refine a_ (h_ rfl) rfl ?_
 cases r1
 ·
  replace hr1 := ne_of_beq_false hr1
  refine o_ rfl rfl (a_ (h_ rfl) rfl (o_ rfl rfl (x_ (bv_ rfl rfl) rfl fun r2 hr2 => ?_)))
  refine a_ (N_ rfl rfl) rfl (a_ (g_ rfl) rfl (d_ (b_ rfl ?_)))
  cases r2
  ·
   replace hr2 := ne_of_beq_false hr2
   refine p_ rfl (f_ (c_ (a_ (h_ rfl) rfl (x_ (dI_ rfl rfl) rfl fun r3 hr3 => ?_))))
   refine a_ (h_ rfl) rfl ?_
   cases r3
   ·
    replace hr3 := of_decide_eq_false hr3
    refine t_ rfl rfl rfl rfl (t_ rfl rfl rfl rfl (t_ rfl rfl rfl rfl (a_ (N_ rfl rfl) rfl (a_ (h_ rfl) rfl (t_ rfl rfl rfl rfl (t_ rfl rfl rfl rfl (t_ rfl rfl rfl rfl (t_ rfl rfl rfl rfl (t_ rfl rfl rfl rfl ?_)))))))))
    refine a_ (N_ rfl rfl) rfl (a_ (g_ rfl) rfl (d_ (b_ rfl (p_ rfl (f_ (c_ (a_ (h_ rfl) rfl (x_ (dI_ rfl rfl) rfl fun r4 hr4 => ?_))))))))
    refine a_ (h_ rfl) rfl ?_
    cases r4
    ·
     replace hr4 := of_decide_eq_false hr4
     refine t_ rfl rfl rfl rfl (t_ rfl rfl rfl rfl (t_ rfl rfl rfl rfl (a_ (N_ rfl rfl) rfl (a_ (h_ rfl) rfl (t_ rfl rfl rfl rfl (t_ rfl rfl rfl rfl (t_ rfl rfl rfl rfl (t_ rfl rfl rfl rfl (t_ rfl rfl rfl rfl ?_)))))))))
     refine a_ (N_ rfl rfl) rfl (a_ (g_ rfl) rfl (d_ (b_ rfl (p_ rfl (A_ (b_ rfl (f_ (c_ (a_ (h_ rfl) rfl ?_)))))))))
     refine ax_ (ec_ _ (by first | exact hs | (simp; omega))) rfl W_ (fun _ _ _ => by exact trivial) rfl fun r5 hr5 => ?_
     refine a_ (g_ rfl) rfl (d_ (b_ rfl (B_ ?_)))
     exact as_ cH_ () (E_ rfl (by unfold bp_; (repeat (any_goals split)) <;> first | rfl | (simp_all; done) | (exfalso; simp_all; omega) | (exfalso; simp_all; done))) (.refl _) (fun _ _ _ => trivial)
    ·
     replace hr4 := of_decide_eq_true hr4
     exfalso; omega
   ·
    replace hr3 := of_decide_eq_true hr3
    obtain ⟨c, hc⟩ : ∃ c, s[0]? = some c := ⟨_, List.getElem?_eq_getElem (by omega)⟩
    obtain ⟨e, he⟩ : ∃ e, s[s.length - 1]? = some e := ⟨_, List.getElem?_eq_getElem (by omega)⟩
    have hc123 : (s[0]? = some 123) ↔ ((c.toNat : Int) = 123) := by
              rw [hc]; simp only [Option.some.injEq]; exact ⟨fun q => by subst q; rfl, fun q => UInt8.toNat_inj.1 (by show c.toNat = 123; omega)⟩
    have he125 : (s[s.length - 1]? = some 125) ↔ ((e.toNat : Int) = 125) := by
              rw [he]; simp only [Option.some.injEq]; exact ⟨fun q => by subst q; rfl, fun q => UInt8.toNat_inj.1 (by show e.toNat = 125; omega)⟩
    have hc60 : (s[0]? = some 60) ↔ ((c.toNat : Int) = 60) := by
              rw [hc]; simp only [Option.some.injEq]; exact ⟨fun q => by subst q; rfl, fun q => UInt8.toNat_inj.1 (by show c.toNat = 60; omega)⟩
    have he62 : (s[s.length - 1]? = some 62) ↔ ((e.toNat : Int) = 62) := by
              rw [he]; simp only [Option.some.injEq]; exact ⟨fun q => by subst q; rfl, fun q => UInt8.toNat_inj.1 (by show e.toNat = 62; omega)⟩
    refine o_ rfl rfl (a_ (h_ rfl) rfl (o_ rfl rfl (a_ (dM_ ar_ rfl rfl (by decide) hc) rfl (o_ rfl rfl (x_ (aA_ rfl rfl) rfl fun r6 hr6 => ?_)))))
    refine a_ (R_ rfl rfl) rfl (a_ (h_ rfl) rfl ?_)
    cases r6
    ·
     replace hr6 := ne_of_beq_false hr6
     refine t_ rfl rfl rfl rfl (t_ rfl rfl rfl rfl (t_ rfl rfl rfl rfl (t_ rfl rfl rfl rfl (t_ rfl rfl rfl rfl (a_ (N_ rfl rfl) rfl (a_ (g_ rfl) rfl (d_ (b_ rfl (p_ rfl ?_)))))))))
     refine f_ (c_ (a_ (h_ rfl) rfl (x_ (dI_ rfl rfl) rfl fun r7 hr7 => ?_)))
     refine a_ (h_ rfl) rfl ?_
     cases r7
     ·
      replace hr7 := of_decide_eq_false hr7
      refine t_ rfl rfl rfl rfl (t_ rfl rfl rfl rfl (t_ rfl rfl rfl rfl (a_ (N_ rfl rfl) rfl (a_ (h_ rfl) rfl (t_ rfl rfl rfl rfl (t_ rfl rfl rfl rfl (t_ rfl rfl rfl rfl (t_ rfl rfl rfl rfl (t_ rfl rfl rfl rfl ?_)))))))))
      refine a_ (N_ rfl rfl) rfl (a_ (g_ rfl) rfl (d_ (b_ rfl (p_ rfl (A_ (b_ rfl (f_ (c_ (a_ (h_ rfl) rfl ?_)))))))))
      refine ax_ (ec_ _ (by first | exact hs | (simp; omega))) rfl W_ (fun _ _ _ => by exact trivial) rfl fun r8 hr8 => ?_
      refine a_ (g_ rfl) rfl (d_ (b_ rfl (B_ ?_)))
      exact as_ cH_ () (E_ rfl (by unfold bp_; (repeat (any_goals split)) <;> first | rfl | (simp_all; done) | (exfalso; simp_all; omega) | (exfalso; simp_all; done))) (.refl _) (fun _ _ _ => trivial)
     ·
      replace hr7 := of_decide_eq_true hr7
      refine o_ rfl rfl (a_ (h_ rfl) rfl (o_ rfl rfl (a_ (dM_ ar_ rfl rfl (by decide) hc) rfl (o_ rfl rfl (x_ (aA_ rfl rfl) rfl fun r9 hr9 => ?_)))))
      refine a_ (R_ rfl rfl) rfl (a_ (h_ rfl) rfl ?_)
      cases r9
      ·
       replace hr9 := ne_of_beq_false hr9
       refine t_ rfl rfl rfl rfl (t_ rfl rfl rfl rfl (t_ rfl rfl rfl rfl (t_ rfl rfl rfl rfl (t_ rfl rfl rfl rfl (a_ (N_ rfl rfl) rfl (a_ (g_ rfl) rfl (d_ (b_ rfl (p_ rfl ?_)))))))))
       refine A_ (b_ rfl (f_ (c_ (a_ (h_ rfl) rfl (ax_ (ec_ _ (by first | exact hs | (simp; omega))) rfl W_ (fun _ _ _ => by exact trivial) rfl fun r10 hr10 => ?_)))))
       refine a_ (g_ rfl) rfl (d_ (b_ rfl (B_ ?_)))
       exact as_ cH_ () (E_ rfl (by unfold bp_; (repeat (any_goals split)) <;> first | rfl | (simp_all; done) | (exfalso; simp_all; omega) | (exfalso; simp_all; done))) (.refl _) (fun _ _ _ => trivial)
      ·
       replace hr9 := eq_of_beq hr9
       refine o_ rfl rfl (a_ (h_ rfl) rfl (o_ rfl rfl (a_ (h_ rfl) rfl (o_ rfl rfl (a_ (V_ rfl rfl rfl (aq_ (by omega) (by omega))) rfl (o_ rfl rfl (a_ (dM_ ar_ rfl rfl (by omega) (show s[((s.length : Int) - 1).toNat]? = some e by rw [show ((s.length : Int) - 1).toNat = s.length - 1 by omega]; exact he)) rfl (o_ rfl rfl (x_ (aA_ rfl rfl) rfl fun r11 hr11 => ?_)))))))))
       refine a_ (R_ rfl rfl) rfl (a_ (g_ rfl) rfl (d_ (b_ rfl ?_)))
       cases r11
       ·
        replace hr11 := ne_of_beq_false hr11
        refine p_ rfl (A_ (b_ rfl (f_ (c_ (a_ (h_ rfl) rfl (ax_ (ec_ _ (by first | exact hs | (simp; omega))) rfl W_ (fun _ _ _ => by exact trivial) rfl fun r12 hr12 => ?_))))))
        refine a_ (g_ rfl) rfl (d_ (b_ rfl (B_ ?_)))
        exact as_ cH_ () (E_ rfl (by unfold bp_; (repeat (any_goals split)) <;> first | rfl | (simp_all; done) | (exfalso; simp_all; omega) | (exfalso; simp_all; done))) (.refl _) (fun _ _ _ => trivial)
       ·
        replace hr11 := eq_of_beq hr11
        refine n_ rfl (f_ (c_ (a_ (g_ rfl) rfl (d_ (b_ rfl (B_ ?_))))))
        exact as_ cH_ () (E_ rfl (by unfold bp_; (repeat (any_goals split)) <;> first | rfl | (simp_all; done) | (exfalso; simp_all; omega) | (exfalso; simp_all; done))) (.refl _) (fun _ _ _ => trivial)
    ·
     replace hr6 := eq_of_beq hr6
     refine o_ rfl rfl (a_ (h_ rfl) rfl (o_ rfl rfl (a_ (h_ rfl) rfl (o_ rfl rfl (a_ (V_ rfl rfl rfl (aq_ (by omega) (by omega))) rfl (o_ rfl rfl (a_ (dM_ ar_ rfl rfl (by omega) (show s[((s.length : Int) - 1).toNat]? = some e by rw [show ((s.length : Int) - 1).toNat = s.length - 1 by omega]; exact he)) rfl (o_ rfl rfl (x_ (aA_ rfl rfl) rfl fun r13 hr13 => ?_)))))))))
     refine a_ (R_ rfl rfl) rfl (a_ (g_ rfl) rfl (d_ (b_ rfl ?_)))
     cases r13
     ·
      replace hr13 := ne_of_beq_false hr13
      refine p_ rfl (f_ (c_ (a_ (h_ rfl) rfl (x_ (dI_ rfl rfl) rfl fun r14 hr14 => ?_))))
      refine a_ (h_ rfl) rfl ?_
      cases r14
      ·
       replace hr14 := of_decide_eq_false hr14
       refine t_ rfl rfl rfl rfl (t_ rfl rfl rfl rfl (t_ rfl rfl rfl rfl (a_ (N_ rfl rfl) rfl (a_ (h_ rfl) rfl (t_ rfl rfl rfl rfl (t_ rfl rfl rfl rfl (t_ rfl rfl rfl rfl (t_ rfl rfl rfl rfl (t_ rfl rfl rfl rfl ?_)))))))))
       refine a_ (N_ rfl rfl) rfl (a_ (g_ rfl) rfl (d_ (b_ rfl (p_ rfl (A_ (b_ rfl (f_ (c_ (a_ (h_ rfl) rfl ?_)))))))))
       refine ax_ (ec_ _ (by first | exact hs | (simp; omega))) rfl W_ (fun _ _ _ => by exact trivial) rfl fun r15 hr15 => ?_
       refine a_ (g_ rfl) rfl (d_ (b_ rfl (B_ ?_)))
       exact as_ cH_ () (E_ rfl (by unfold bp_; (repeat (any_goals split)) <;> first | rfl | (simp_all; done) | (exfalso; simp_all; omega) | (exfalso; simp_all; done))) (.refl _) (fun _ _ _ => trivial)
      ·
       replace hr14 := of_decide_eq_true hr14
       refine o_ rfl rfl (a_ (h_ rfl) rfl (o_ rfl rfl (a_ (dM_ ar_ rfl rfl (by decide) hc) rfl (o_ rfl rfl (x_ (aA_ rfl rfl) rfl fun r16 hr16 => ?_)))))
       refine a_ (R_ rfl rfl) rfl (a_ (h_ rfl) rfl ?_)
       cases r16
       ·
        replace hr16 := ne_of_beq_false hr16
        refine t_ rfl rfl rfl rfl (t_ rfl rfl rfl rfl (t_ rfl rfl rfl rfl (t_ rfl rfl rfl rfl (t_ rfl rfl rfl rfl (a_ (N_ rfl rfl) rfl (a_ (g_ rfl) rfl (d_ (b_ rfl (p_ rfl ?_)))))))))
        refine A_ (b_ rfl (f_ (c_ (a_ (h_ rfl) rfl (ax_ (ec_ _ (by first | exact hs | (simp; omega))) rfl W_ (fun _ _ _ => by exact trivial) rfl fun r17 hr17 => ?_)))))
        refine a_ (g_ rfl) rfl (d_ (b_ rfl (B_ ?_)))
        exact as_ cH_ () (E_ rfl (by unfold bp_; (repeat (any_goals split)) <;> first | rfl | (simp_all; done) | (exfalso; simp_all; omega) | (exfalso; simp_all; done))) (.refl _) (fun _ _ _ => trivial)
       ·
        replace hr16 := eq_of_beq hr16
        refine o_ rfl rfl (a_ (h_ rfl) rfl (o_ rfl rfl (a_ (h_ rfl) rfl (o_ rfl rfl (a_ (V_ rfl rfl rfl (aq_ (by omega) (by omega))) rfl (o_ rfl rfl (a_ (dM_ ar_ rfl rfl (by omega) (show s[((s.length : Int) - 1).toNat]? = some e by rw [show ((s.length : Int) - 1).toNat = s.length - 1 by omega]; exact he)) rfl (o_ rfl rfl (x_ (aA_ rfl rfl) rfl fun r18 hr18 => ?_)))))))))
        refine a_ (R_ rfl rfl) rfl (a_ (g_ rfl) rfl (d_ (b_ rfl ?_)))
        cases r18
        ·
         replace hr18 := ne_of_beq_false hr18
         refine p_ rfl (A_ (b_ rfl (f_ (c_ (a_ (h_ rfl) rfl (ax_ (ec_ _ (by first | exact hs | (simp; omega))) rfl W_ (fun _ _ _ => by exact trivial) rfl fun r19 hr19 => ?_))))))
         refine a_ (g_ rfl) rfl (d_ (b_ rfl (B_ ?_)))
         exact as_ cH_ () (E_ rfl (by unfold bp_; (repeat (any_goals split)) <;> first | rfl | (simp_all; done) | (exfalso; simp_all; omega) | (exfalso; simp_all; done))) (.refl _) (fun _ _ _ => trivial)
        ·
         replace hr18 := eq_of_beq hr18
         refine n_ rfl (f_ (c_ (a_ (g_ rfl) rfl (d_ (b_ rfl (B_ ?_))))))
         exact as_ cH_ () (E_ rfl (by unfold bp_; (repeat (any_goals split)) <;> first | rfl | (simp_all; done) | (exfalso; simp_all; omega) | (exfalso; simp_all; done))) (.refl _) (fun _ _ _ => trivial)
     ·
      replace hr13 := eq_of_beq hr13
      refine n_ rfl (f_ (c_ (a_ (h_ rfl) rfl (a_ (h_ rfl) rfl (a_ (V_ rfl rfl rfl (aq_ (by omega) (by omega))) rfl (a_ (fg_ (i := 1) (j := s.length - 1) (kl := .i64) (kh := .i64) ar_ rfl rfl (show _ = some (Value.int .i64 ((s.length - 1 : Nat) : Int)) by rw [show ((s.length - 1 : Nat) : Int) = (s.length : Int) - 1 by omega]; rfl) (by omega) (by omega)) rfl (ax_ (ec_ _ (by first | exact hs | (simp; omega))) rfl W_ (fun _ _ _ => by exact trivial) rfl fun r20 hr20 => ?_)))))))
      refine a_ (g_ rfl) rfl (d_ (b_ rfl (B_ ?_)))
      exact as_ cH_ () (E_ rfl (by unfold bp_; (repeat (any_goals split)) <;> first | rfl | (simp_all; done) | (exfalso; simp_all; omega) | (exfalso; simp_all; done))) (.refl _) (fun _ _ _ => trivial)
  ·
   replace hr2 := eq_of_beq hr2
   refine n_ rfl (f_ (c_ (a_ (g_ rfl) rfl (d_ (b_ rfl (B_ ?_))))))
   exact as_ cH_ () (E_ rfl (by unfold bp_; (repeat (any_goals split)) <;> first | rfl | (simp_all; done) | (exfalso; simp_all; omega) | (exfalso; simp_all; done))) (.refl _) (fun _ _ _ => trivial)
 ·
  replace hr1 := eq_of_beq hr1
  refine t_ rfl rfl rfl rfl (t_ rfl rfl rfl rfl (a_ (R_ rfl rfl) rfl (a_ (g_ rfl) rfl (d_ (b_ rfl (n_ rfl (f_ (c_ (a_ (g_ rfl) rfl ?_)))))))))
  refine d_ (b_ rfl (B_ ?_))
  exact as_ cH_ () (E_ rfl (by unfold bp_; (repeat (any_goals split)) <;> first | rfl | (simp_all; done) | (exfalso; simp_all; omega) | (exfalso; simp_all; done))) (.refl _) (fun _ _ _ => trivial)
end Go.Proofs.YtpdbbglpbngeiaaGreatDoor
namespace Go.Proofs.YtpdbbglpbngeiaaGreatDoor
open Go Go.Sx Go.Proofs
attribute [local irreducible] Code.wp wpList wpAnyH
open Go.Vs
theorem eh_ {g : FuncId} (used : Bool) (s : Str) (q : Str → Bool) (hT : Fn0 Tryz.prog g #[str s] (.bool (q s))) : Fn0 Tryz.prog 124 #[.bool used, str s, .func (.func g) #[] #[]] (.bool (ch_ used s q)) := by
  refine M_ Tryz.func124 rfl rfl Tryz.ntmps124 rfl fun v0 => ?_
  refine f_ (c_ (a_ (g_ rfl) rfl (d_ (b_ rfl (f_ (c_ (a_ (h_ rfl) rfl (a_ (h_ rfl) rfl ?_))))))))
  cases used
  · skip
    refine t_ rfl rfl rfl rfl (t_ rfl rfl rfl rfl (t_ rfl rfl rfl rfl (a_ (N_ rfl rfl) rfl (a_ (h_ rfl) rfl (o_ rfl rfl (a_ (h_ rfl) rfl (o_ rfl rfl (a_ (bG_ rfl) rfl (o_ rfl rfl ?_)))))))))
    refine a_ (h_ rfl) rfl (o_ rfl rfl (a_ (h_ rfl) rfl (o_ rfl rfl (x_ (bv_ rfl rfl) rfl fun r1 hr1 => ?_))))
    refine o_ rfl rfl (a_ (R_ rfl rfl) rfl (a_ (N_ rfl rfl) rfl (a_ (g_ rfl) rfl (d_ (b_ rfl (B_ ?_))))))
    exact as_ Tryz.results124 () (E_ rfl (by unfold ch_; subst_vars; rw [Bool.eq_iff_iff]; simp_all)) (.refl _) (fun _ _ _ => trivial)
  · skip
    refine o_ rfl rfl (a_ (h_ rfl) rfl (o_ rfl rfl (a_ (h_ rfl) rfl (o_ rfl rfl (ce_ (hT) rfl rfl W_ (fun _ _ _ => by exact trivial) rfl fun r2 hr2 => ?_)))))
    refine a_ (R_ rfl rfl) rfl (a_ (h_ rfl) rfl ?_)
    cases r2
    · skip
      refine o_ rfl rfl (a_ (h_ rfl) rfl (o_ rfl rfl (a_ (bG_ rfl) rfl (o_ rfl rfl (a_ (h_ rfl) rfl (t_ rfl rfl rfl rfl (t_ rfl rfl rfl rfl (o_ rfl rfl (a_ (N_ rfl rfl) rfl ?_)))))))))
      refine a_ (N_ rfl rfl) rfl (a_ (g_ rfl) rfl (d_ (b_ rfl (B_ ?_))))
      exact as_ Tryz.results124 () (E_ rfl (by unfold ch_; subst_vars; rw [Bool.eq_iff_iff]; simp_all)) (.refl _) (fun _ _ _ => trivial)
    · skip
      refine t_ rfl rfl rfl rfl (t_ rfl rfl rfl rfl (t_ rfl rfl rfl rfl (t_ rfl rfl rfl rfl (t_ rfl rfl rfl rfl (t_ rfl rfl rfl rfl (a_ (R_ rfl rfl) rfl (a_ (g_ rfl) rfl (d_ (b_ rfl ?_)))))))))
      refine B_ ?_
      exact as_ Tryz.results124 () (E_ rfl (by unfold ch_; subst_vars; rw [Bool.eq_iff_iff]; simp_all)) (.refl _) (fun _ _ _ => trivial)
theorem pC_ (p : Pc) (hp : p.sm) : Tri Tryz.prog 77 #[Pc.val p] [] [gB_] (fun _ : Unit => .bool p.valid) (fun _ => []) (fun _ => []) := by
 refine M_ Tryz.func77 rfl rfl Tryz.ntmps77 rfl fun v0 => ?_
 obtain ⟨ha, hb, hc, hr, hs, ht⟩ := hp
 refine f_ (c_ (aF_ rfl rfl fun b1 => ?_))
 refine a_ (g_ rfl) rfl (d_ (b_ rfl (f_ (f_ (c_ (a_ (j_ F_ rfl rfl rfl H_) rfl (a_ (q_ 0 J_ rfl rfl rfl) rfl (x_ (az_ rfl rfl) rfl fun r1 hr1 => ?_))))))))
 refine a_ (h_ rfl) rfl ?_
 refine aT_ 4 ((decide ((Pc.kind p) < 1)) || (decide (9 < (Pc.kind p)))) (fun r => [(1, zp_ b1 0), (2, .bool false), (13, .bool r)]) ?_ fun r2 hr2 => ?_
 ·
  cases r1
  ·
   have qr2 := hr1
   replace hr1 := of_decide_eq_false hr1
   refine o_ rfl rfl (a_ (j_ F_ rfl rfl rfl H_) rfl (o_ rfl rfl (a_ (q_ 0 J_ rfl rfl rfl) rfl (o_ rfl rfl (x_ (bK_ rfl rfl) rfl fun r3 hr3 => ?_)))))
   refine a_ (N_ rfl rfl) rfl (d_ (r_ rfl ?_))
   exact met ⟨rfl, rfl, (E_ rfl (jof qr2 hr3)), trivial⟩
  ·
   have qr2 := hr1
   replace hr1 := of_decide_eq_true hr1
   refine t_ rfl rfl rfl rfl (t_ rfl rfl rfl rfl (t_ rfl rfl rfl rfl (a_ (R_ rfl rfl) rfl (d_ (r_ rfl ?_)))))
   exact met ⟨rfl, rfl, (E_ rfl (jot qr2)), trivial⟩
 ·
  refine a_ (h_ rfl) rfl ?_
  refine aT_ 4 ((((decide ((Pc.kind p) < 1)) || (decide (9 < (Pc.kind p))))) || (decide ((Pc.frm p) < (-1)))) (fun r => [(1, zp_ b1 0), (2, .bool false), (18, .bool r)]) ?_ fun r4 hr4 => ?_
  ·
   cases r2
   ·
    have qr4 := hr2
    simp at hr2
    refine o_ rfl rfl (a_ (j_ F_ rfl rfl rfl H_) rfl (o_ rfl rfl (a_ (q_ 0 J_ rfl rfl rfl) rfl (o_ rfl rfl (x_ (az_ rfl rfl) rfl fun r5 hr5 => ?_)))))
    refine a_ (N_ rfl rfl) rfl (d_ (r_ rfl ?_))
    exact met ⟨rfl, rfl, (E_ rfl (jof qr4 hr5)), trivial⟩
   ·
    have qr4 := hr2
    simp at hr2
    refine t_ rfl rfl rfl rfl (t_ rfl rfl rfl rfl (t_ rfl rfl rfl rfl (a_ (R_ rfl rfl) rfl (d_ (r_ rfl ?_)))))
    exact met ⟨rfl, rfl, (E_ rfl (jot qr4)), trivial⟩
  ·
   refine a_ (h_ rfl) rfl ?_
   refine aT_ 4 ((((((decide ((Pc.kind p) < 1)) || (decide (9 < (Pc.kind p))))) || (decide ((Pc.frm p) < (-1))))) || (decide (1024 ≤ (Pc.frm p)))) (fun r => [(1, zp_ b1 0), (2, .bool false), (23, .bool r)]) ?_ fun r6 hr6 => ?_
   ·
    cases r4
    ·
     have qr6 := hr4
     simp at hr4
     refine o_ rfl rfl (a_ (j_ F_ rfl rfl rfl H_) rfl (o_ rfl rfl (a_ (q_ 0 J_ rfl rfl rfl) rfl (o_ rfl rfl (x_ (dI_ rfl rfl) rfl fun r7 hr7 => ?_)))))
     refine a_ (N_ rfl rfl) rfl (d_ (r_ rfl ?_))
     exact met ⟨rfl, rfl, (E_ rfl (jof qr6 hr7)), trivial⟩
    ·
     have qr6 := hr4
     simp at hr4
     refine t_ rfl rfl rfl rfl (t_ rfl rfl rfl rfl (t_ rfl rfl rfl rfl (a_ (R_ rfl rfl) rfl (d_ (r_ rfl ?_)))))
     exact met ⟨rfl, rfl, (E_ rfl (jot qr6)), trivial⟩
   ·
    refine d_ (b_ rfl ?_)
    cases r6
    ·
     simp at hr6
     obtain ⟨u, hx⟩ : ∃ u, fq_[p.kind.toNat]? = some u := ⟨_, List.getElem?_eq_getElem (show p.kind.toNat < 10 by omega)⟩
     have hus : nus p.kind = u := by simp [nus, hx]
     obtain ⟨ua, ub, uc, ur, us, ut, un⟩ := u
     refine p_ rfl (A_ (b_ rfl (f_ (c_ (a_ (j_ F_ rfl rfl rfl H_) rfl (a_ (q_ 0 J_ rfl rfl rfl) rfl (a_ (ei_ Tryz.runUnderlying153 Tryz.sizeOf152 rfl rfl (by show (0 : Int) ≤ (Pc.kind p); omega) (by show (Pc.kind p) < (10 : Int); omega)) rfl (a_ (aE_ (ad := some ⟨0, 0, none⟩) (us := NUse.cells ⟨ua, ub, uc, ur, us, ut, un⟩) Tryz.isAgg152 Tryz.sizeOf152 rfl (fun v _ h => h.1) (NUse.cells_len _) (an_ NUse.cells_len hx)) rfl (al_ Tryz.zeroValue152 rfl fun b2 => ?_)))))))))
     refine Z_ 0 Tryz.sizeOf152 rfl rfl rfl rfl rfl rfl (d_ (b_ rfl (f_ (c_ (a_ (g_ rfl) rfl (d_ (b_ rfl (f_ (c_ ?_)))))))))
     refine a_ (g_ rfl) rfl (d_ (b_ rfl (f_ (f_ (c_ (a_ (j_ bB_ rfl rfl rfl br_) rfl (a_ (q_ 0 bE_ rfl rfl rfl) rfl (d_ (b_ rfl ?_)))))))))
     cases un
     ·
      refine p_ rfl (f_ (c_ (a_ (j_ F_ rfl rfl rfl H_) rfl (a_ (q_ 1 J_ rfl rfl rfl) rfl (x_ (bR_ rfl rfl) rfl fun r8 hr8 => ?_)))))
      refine a_ (h_ rfl) rfl ?_
      refine aT_ 4 (((Pc.lo p) != 0) || ((Pc.hi p) != 0)) (fun r => [(1, zp_ b1 0), (2, .bool false), (3, zp_ b2 0), (4, .func (.func 124) #[] #[]), (5, .func (.func 125) #[] #[]), (52, .bool r)]) ?_ fun r9 hr9 => ?_
      ·
       cases r8
       ·
        have qr9 := hr8
        replace hr8 := bc_ hr8
        refine o_ rfl rfl (a_ (j_ F_ rfl rfl rfl H_) rfl (o_ rfl rfl (a_ (q_ 1 J_ rfl rfl rfl) rfl (o_ rfl rfl (x_ (bR_ rfl rfl) rfl fun r10 hr10 => ?_)))))
        refine a_ (N_ rfl rfl) rfl (d_ (r_ rfl ?_))
        exact met ⟨rfl, rfl, rfl, rfl, rfl, (E_ rfl (jof qr9 hr10)), trivial⟩
       ·
        have qr9 := hr8
        replace hr8 := bb_ hr8
        refine t_ rfl rfl rfl rfl (t_ rfl rfl rfl rfl (t_ rfl rfl rfl rfl (a_ (R_ rfl rfl) rfl (d_ (r_ rfl ?_)))))
        exact met ⟨rfl, rfl, rfl, rfl, rfl, (E_ rfl (jot qr9)), trivial⟩
      ·
       refine d_ (b_ rfl ?_)
       cases r9
       ·
        simp at hr9
        refine p_ rfl (A_ (b_ rfl (f_ (c_ (a_ (h_ rfl) rfl (a_ (j_ bB_ rfl rfl rfl br_) rfl (a_ (q_ 0 bE_ rfl rfl rfl) rfl (a_ (j_ F_ rfl rfl rfl s_) rfl (a_ (q_ 1 w_ rfl rfl rfl) rfl ?_)))))))))
        refine ce_ (eh_ ua (Pc.a p) bp_ (fO_ _ (by omega))) rfl rfl W_ (fun _ _ _ => by exact trivial) rfl fun r11 hr11 => ?_
        refine a_ (h_ rfl) rfl ?_
        refine aT_ 7 ((ch_ ua (Pc.a p) bp_) && (ch_ ub (Pc.b p) bp_)) (fun r => [(1, zp_ b1 0), (2, .bool false), (3, zp_ b2 0), (4, .func (.func 124) #[] #[]), (5, .func (.func 125) #[] #[]), (66, .bool r)]) ?_ fun r12 hr12 => ?_
        ·
         cases r11
         ·
          have qr12 := hr11
          refine t_ rfl rfl rfl rfl (t_ rfl rfl rfl rfl (t_ rfl rfl rfl rfl (t_ rfl rfl rfl rfl (t_ rfl rfl rfl rfl (t_ rfl rfl rfl rfl (a_ (N_ rfl rfl) rfl (d_ (r_ rfl ?_))))))))
          exact met ⟨rfl, rfl, rfl, rfl, rfl, (E_ rfl (jaf qr12)), trivial⟩
         ·
          have qr12 := hr11
          refine o_ rfl rfl (a_ (h_ rfl) rfl (o_ rfl rfl (a_ (j_ bB_ rfl rfl rfl br_) rfl (o_ rfl rfl (a_ (q_ 0 bE_ rfl rfl rfl) rfl (o_ rfl rfl (a_ (j_ F_ rfl rfl rfl s_) rfl (o_ rfl rfl (a_ (q_ 1 w_ rfl rfl rfl) rfl ?_)))))))))
          refine o_ rfl rfl (ce_ (eh_ ub (Pc.b p) bp_ (fO_ _ (by omega))) rfl rfl W_ (fun _ _ _ => by exact trivial) rfl fun r13 hr13 => ?_)
          refine a_ (R_ rfl rfl) rfl (d_ (r_ rfl ?_))
          exact met ⟨rfl, rfl, rfl, rfl, rfl, (E_ rfl (jat qr12 hr13)), trivial⟩
        ·
         refine a_ (h_ rfl) rfl ?_
         refine aT_ 7 ((((ch_ ua (Pc.a p) bp_) && (ch_ ub (Pc.b p) bp_))) && (ch_ uc (Pc.c p) bp_)) (fun r => [(1, zp_ b1 0), (2, .bool false), (3, zp_ b2 0), (4, .func (.func 124) #[] #[]), (5, .func (.func 125) #[] #[]), (74, .bool r)]) ?_ fun r14 hr14 => ?_
         ·
          cases r12
          ·
           have qr14 := hr12
           simp at hr12
           refine t_ rfl rfl rfl rfl (t_ rfl rfl rfl rfl (t_ rfl rfl rfl rfl (t_ rfl rfl rfl rfl (t_ rfl rfl rfl rfl (t_ rfl rfl rfl rfl (a_ (N_ rfl rfl) rfl (d_ (r_ rfl ?_))))))))
           exact met ⟨rfl, rfl, rfl, rfl, rfl, (E_ rfl (jaf qr14)), trivial⟩
          ·
           have qr14 := hr12
           simp at hr12
           refine o_ rfl rfl (a_ (h_ rfl) rfl (o_ rfl rfl (a_ (j_ bB_ rfl rfl rfl br_) rfl (o_ rfl rfl (a_ (q_ 0 bE_ rfl rfl rfl) rfl (o_ rfl rfl (a_ (j_ F_ rfl rfl rfl s_) rfl (o_ rfl rfl (a_ (q_ 1 w_ rfl rfl rfl) rfl ?_)))))))))
           refine o_ rfl rfl (ce_ (eh_ uc (Pc.c p) bp_ (fO_ _ (by omega))) rfl rfl W_ (fun _ _ _ => by exact trivial) rfl fun r15 hr15 => ?_)
           refine a_ (R_ rfl rfl) rfl (d_ (r_ rfl ?_))
           exact met ⟨rfl, rfl, rfl, rfl, rfl, (E_ rfl (jat qr14 hr15)), trivial⟩
         ·
          refine a_ (h_ rfl) rfl ?_
          refine aT_ 8 ((((((ch_ ua (Pc.a p) bp_) && (ch_ ub (Pc.b p) bp_))) && (ch_ uc (Pc.c p) bp_))) && (ch_ ur (Pc.r p) cw_)) (fun r => [(1, zp_ b1 0), (2, .bool false), (3, zp_ b2 0), (4, .func (.func 124) #[] #[]), (83, .bool r)]) ?_ fun r16 hr16 => ?_
          ·
           cases r14
           ·
            have qr16 := hr14
            simp at hr14
            refine t_ rfl rfl rfl rfl (t_ rfl rfl rfl rfl (t_ rfl rfl rfl rfl (t_ rfl rfl rfl rfl (t_ rfl rfl rfl rfl (t_ rfl rfl rfl rfl (t_ rfl rfl rfl rfl (a_ (N_ rfl rfl) rfl (d_ (r_ rfl ?_)))))))))
            exact met ⟨rfl, rfl, rfl, rfl, (E_ rfl (jaf qr16)), trivial⟩
           ·
            have qr16 := hr14
            simp at hr14
            refine o_ rfl rfl (a_ (h_ rfl) rfl (o_ rfl rfl (a_ (j_ bB_ rfl rfl rfl br_) rfl (o_ rfl rfl (a_ (q_ 0 bE_ rfl rfl rfl) rfl (o_ rfl rfl (a_ (j_ F_ rfl rfl rfl s_) rfl (o_ rfl rfl (a_ (q_ 1 w_ rfl rfl rfl) rfl ?_)))))))))
            refine o_ rfl rfl (a_ (h_ rfl) rfl (o_ rfl rfl (ce_ (eh_ ur (Pc.r p) cw_ (gP_ _ (by omega))) rfl rfl W_ (fun _ _ _ => by exact trivial) rfl fun r17 hr17 => ?_)))
            refine a_ (R_ rfl rfl) rfl (d_ (r_ rfl ?_))
            exact met ⟨rfl, rfl, rfl, rfl, (E_ rfl (jat qr16 hr17)), trivial⟩
          ·
           refine a_ (h_ rfl) rfl ?_
           refine aT_ 7 ((((((((ch_ ua (Pc.a p) bp_) && (ch_ ub (Pc.b p) bp_))) && (ch_ uc (Pc.c p) bp_))) && (ch_ ur (Pc.r p) cw_))) && (ch_ us (Pc.s p) cw_)) (fun r => [(1, zp_ b1 0), (2, .bool false), (3, zp_ b2 0), (4, .func (.func 124) #[] #[]), (91, .bool r)]) ?_ fun r18 hr18 => ?_
           ·
            cases r16
            ·
             have qr18 := hr16
             simp at hr16
             refine t_ rfl rfl rfl rfl (t_ rfl rfl rfl rfl (t_ rfl rfl rfl rfl (t_ rfl rfl rfl rfl (t_ rfl rfl rfl rfl (t_ rfl rfl rfl rfl (a_ (N_ rfl rfl) rfl (d_ (r_ rfl ?_))))))))
             exact met ⟨rfl, rfl, rfl, rfl, (E_ rfl (jaf qr18)), trivial⟩
            ·
             have qr18 := hr16
             simp at hr16
             refine o_ rfl rfl (a_ (h_ rfl) rfl (o_ rfl rfl (a_ (j_ bB_ rfl rfl rfl br_) rfl (o_ rfl rfl (a_ (q_ 0 bE_ rfl rfl rfl) rfl (o_ rfl rfl (a_ (j_ F_ rfl rfl rfl s_) rfl (o_ rfl rfl (a_ (q_ 1 w_ rfl rfl rfl) rfl ?_)))))))))
             refine o_ rfl rfl (ce_ (eh_ us (Pc.s p) cw_ (gP_ _ (by omega))) rfl rfl W_ (fun _ _ _ => by exact trivial) rfl fun r19 hr19 => ?_)
             refine a_ (R_ rfl rfl) rfl (d_ (r_ rfl ?_))
             exact met ⟨rfl, rfl, rfl, rfl, (E_ rfl (jat qr18 hr19)), trivial⟩
           ·
            refine a_ (h_ rfl) rfl ?_
            refine aT_ 7 ((((((((((ch_ ua (Pc.a p) bp_) && (ch_ ub (Pc.b p) bp_))) && (ch_ uc (Pc.c p) bp_))) && (ch_ ur (Pc.r p) cw_))) && (ch_ us (Pc.s p) cw_))) && (ch_ ut (Pc.t p) cw_)) (fun r => [(2, .bool false), (99, .bool r)]) ?_ fun r20 hr20 => ?_
            ·
             cases r18
             ·
              have qr20 := hr18
              simp at hr18
              refine t_ rfl rfl rfl rfl (t_ rfl rfl rfl rfl (t_ rfl rfl rfl rfl (t_ rfl rfl rfl rfl (t_ rfl rfl rfl rfl (t_ rfl rfl rfl rfl (a_ (N_ rfl rfl) rfl (d_ (r_ rfl ?_))))))))
              exact met ⟨rfl, (E_ rfl (jaf qr20)), trivial⟩
             ·
              have qr20 := hr18
              simp at hr18
              refine o_ rfl rfl (a_ (h_ rfl) rfl (o_ rfl rfl (a_ (j_ bB_ rfl rfl rfl br_) rfl (o_ rfl rfl (a_ (q_ 0 bE_ rfl rfl rfl) rfl (o_ rfl rfl (a_ (j_ F_ rfl rfl rfl s_) rfl (o_ rfl rfl (a_ (q_ 1 w_ rfl rfl rfl) rfl ?_)))))))))
              refine o_ rfl rfl (ce_ (eh_ ut (Pc.t p) cw_ (gP_ _ (by omega))) rfl rfl W_ (fun _ _ _ => by exact trivial) rfl fun r21 hr21 => ?_)
              refine a_ (R_ rfl rfl) rfl (d_ (r_ rfl ?_))
              exact met ⟨rfl, (E_ rfl (jat qr20 hr21)), trivial⟩
            ·
             refine a_ (g_ rfl) rfl (d_ (b_ rfl (B_ ?_)))
             exact as_ qq_ () (E_ rfl (by unfold Pc.valid; rw [if_neg (by omega)]; simp only [hus]; rw [if_neg (by simp <;> omega), if_neg (by simp <;> omega)]; exact hr20.symm)) (.refl _) (fun _ _ _ => trivial)
       ·
        simp at hr9
        refine n_ rfl (f_ (c_ (a_ (g_ rfl) rfl (d_ (b_ rfl (B_ ?_))))))
        exact as_ qq_ () (E_ rfl (by unfold Pc.valid; rw [if_neg (by omega)]; simp only [hus]; first | (rw [if_pos (by first | (simp; omega) | omega)]) | (rw [if_neg (by simp), if_pos (by simp; omega)]))) (.refl _) (fun _ _ _ => trivial)
     ·
      refine n_ rfl (f_ (c_ (a_ (g_ rfl) rfl (d_ (b_ rfl (f_ (c_ (a_ (j_ F_ rfl rfl rfl H_) rfl (a_ (q_ 1 J_ rfl rfl rfl) rfl ?_)))))))))
      refine x_ (az_ rfl rfl) rfl fun r22 hr22 => ?_
      refine a_ (h_ rfl) rfl ?_
      refine aT_ 6 ((decide ((Pc.lo p) < (-1099511627776))) || (decide ((Pc.hi p) < (Pc.lo p)))) (fun r => [(1, zp_ b1 0), (2, .bool false), (3, zp_ b2 0), (4, .func (.func 124) #[] #[]), (5, .func (.func 126) #[] #[]), (39, .bool r)]) ?_ fun r23 hr23 => ?_
      ·
       cases r22
       ·
        have qr23 := hr22
        replace hr22 := of_decide_eq_false hr22
        refine o_ rfl rfl (a_ (j_ F_ rfl rfl rfl H_) rfl (o_ rfl rfl (a_ (q_ 1 J_ rfl rfl rfl) rfl (o_ rfl rfl (a_ (j_ F_ rfl rfl rfl H_) rfl (o_ rfl rfl (a_ (q_ 1 J_ rfl rfl rfl) rfl (o_ rfl rfl (x_ (bK_ rfl rfl) rfl fun r24 hr24 => ?_)))))))))
        refine a_ (N_ rfl rfl) rfl (d_ (r_ rfl ?_))
        exact met ⟨rfl, rfl, rfl, rfl, rfl, (E_ rfl (jof qr23 hr24)), trivial⟩
       ·
        have qr23 := hr22
        replace hr22 := of_decide_eq_true hr22
        refine t_ rfl rfl rfl rfl (t_ rfl rfl rfl rfl (t_ rfl rfl rfl rfl (t_ rfl rfl rfl rfl (t_ rfl rfl rfl rfl (a_ (R_ rfl rfl) rfl (d_ (r_ rfl ?_)))))))
        exact met ⟨rfl, rfl, rfl, rfl, rfl, (E_ rfl (jot qr23)), trivial⟩
      ·
       refine a_ (h_ rfl) rfl ?_
       refine aT_ 4 ((((decide ((Pc.lo p) < (-1099511627776))) || (decide ((Pc.hi p) < (Pc.lo p))))) || (decide (1099511627776 < (Pc.hi p)))) (fun r => [(1, zp_ b1 0), (2, .bool false), (3, zp_ b2 0), (4, .func (.func 124) #[] #[]), (5, .func (.func 126) #[] #[]), (44, .bool r)]) ?_ fun r25 hr25 => ?_
       ·
        cases r23
        ·
         have qr25 := hr23
         simp at hr23
         refine o_ rfl rfl (a_ (j_ F_ rfl rfl rfl H_) rfl (o_ rfl rfl (a_ (q_ 1 J_ rfl rfl rfl) rfl (o_ rfl rfl (x_ (bK_ rfl rfl) rfl fun r26 hr26 => ?_)))))
         refine a_ (N_ rfl rfl) rfl (d_ (r_ rfl ?_))
         exact met ⟨rfl, rfl, rfl, rfl, rfl, (E_ rfl (jof qr25 hr26)), trivial⟩
        ·
         have qr25 := hr23
         simp at hr23
         refine t_ rfl rfl rfl rfl (t_ rfl rfl rfl rfl (t_ rfl rfl rfl rfl (a_ (R_ rfl rfl) rfl (d_ (r_ rfl ?_)))))
         exact met ⟨rfl, rfl, rfl, rfl, rfl, (E_ rfl (jot qr25)), trivial⟩
       ·
        refine d_ (b_ rfl ?_)
        cases r25
        ·
         simp at hr25
         refine p_ rfl (A_ (b_ rfl (f_ (c_ (a_ (h_ rfl) rfl (a_ (j_ bB_ rfl rfl rfl br_) rfl (a_ (q_ 0 bE_ rfl rfl rfl) rfl (a_ (j_ F_ rfl rfl rfl s_) rfl (a_ (q_ 1 w_ rfl rfl rfl) rfl ?_)))))))))
         refine ce_ (eh_ ua (Pc.a p) bp_ (fO_ _ (by omega))) rfl rfl W_ (fun _ _ _ => by exact trivial) rfl fun r27 hr27 => ?_
         refine a_ (h_ rfl) rfl ?_
         refine aT_ 7 ((ch_ ua (Pc.a p) bp_) && (ch_ ub (Pc.b p) bp_)) (fun r => [(1, zp_ b1 0), (2, .bool false), (3, zp_ b2 0), (4, .func (.func 124) #[] #[]), (5, .func (.func 126) #[] #[]), (66, .bool r)]) ?_ fun r28 hr28 => ?_
         ·
          cases r27
          ·
           have qr28 := hr27
           refine t_ rfl rfl rfl rfl (t_ rfl rfl rfl rfl (t_ rfl rfl rfl rfl (t_ rfl rfl rfl rfl (t_ rfl rfl rfl rfl (t_ rfl rfl rfl rfl (a_ (N_ rfl rfl) rfl (d_ (r_ rfl ?_))))))))
           exact met ⟨rfl, rfl, rfl, rfl, rfl, (E_ rfl (jaf qr28)), trivial⟩
          ·
           have qr28 := hr27
           refine o_ rfl rfl (a_ (h_ rfl) rfl (o_ rfl rfl (a_ (j_ bB_ rfl rfl rfl br_) rfl (o_ rfl rfl (a_ (q_ 0 bE_ rfl rfl rfl) rfl (o_ rfl rfl (a_ (j_ F_ rfl rfl rfl s_) rfl (o_ rfl rfl (a_ (q_ 1 w_ rfl rfl rfl) rfl ?_)))))))))
           refine o_ rfl rfl (ce_ (eh_ ub (Pc.b p) bp_ (fO_ _ (by omega))) rfl rfl W_ (fun _ _ _ => by exact trivial) rfl fun r29 hr29 => ?_)
           refine a_ (R_ rfl rfl) rfl (d_ (r_ rfl ?_))
           exact met ⟨rfl, rfl, rfl, rfl, rfl, (E_ rfl (jat qr28 hr29)), trivial⟩
         ·
          refine a_ (h_ rfl) rfl ?_
          refine aT_ 7 ((((ch_ ua (Pc.a p) bp_) && (ch_ ub (Pc.b p) bp_))) && (ch_ uc (Pc.c p) bp_)) (fun r => [(1, zp_ b1 0), (2, .bool false), (3, zp_ b2 0), (4, .func (.func 124) #[] #[]), (5, .func (.func 126) #[] #[]), (74, .bool r)]) ?_ fun r30 hr30 => ?_
          ·
           cases r28
           ·
            have qr30 := hr28
            simp at hr28
            refine t_ rfl rfl rfl rfl (t_ rfl rfl rfl rfl (t_ rfl rfl rfl rfl (t_ rfl rfl rfl rfl (t_ rfl rfl rfl rfl (t_ rfl rfl rfl rfl (a_ (N_ rfl rfl) rfl (d_ (r_ rfl ?_))))))))
            exact met ⟨rfl, rfl, rfl, rfl, rfl, (E_ rfl (jaf qr30)), trivial⟩
           ·
            have qr30 := hr28
            simp at hr28
            refine o_ rfl rfl (a_ (h_ rfl) rfl (o_ rfl rfl (a_ (j_ bB_ rfl rfl rfl br_) rfl (o_ rfl rfl (a_ (q_ 0 bE_ rfl rfl rfl) rfl (o_ rfl rfl (a_ (j_ F_ rfl rfl rfl s_) rfl (o_ rfl rfl (a_ (q_ 1 w_ rfl rfl rfl) rfl ?_)))))))))
            refine o_ rfl rfl (ce_ (eh_ uc (Pc.c p) bp_ (fO_ _ (by omega))) rfl rfl W_ (fun _ _ _ => by exact trivial) rfl fun r31 hr31 => ?_)
            refine a_ (R_ rfl rfl) rfl (d_ (r_ rfl ?_))
            exact met ⟨rfl, rfl, rfl, rfl, rfl, (E_ rfl (jat qr30 hr31)), trivial⟩
          ·
           refine a_ (h_ rfl) rfl ?_
           refine aT_ 8 ((((((ch_ ua (Pc.a p) bp_) && (ch_ ub (Pc.b p) bp_))) && (ch_ uc (Pc.c p) bp_))) && (ch_ ur (Pc.r p) bi_)) (fun r => [(1, zp_ b1 0), (2, .bool false), (3, zp_ b2 0), (4, .func (.func 124) #[] #[]), (83, .bool r)]) ?_ fun r32 hr32 => ?_
           ·
            cases r30
            ·
             have qr32 := hr30
             simp at hr30
             refine t_ rfl rfl rfl rfl (t_ rfl rfl rfl rfl (t_ rfl rfl rfl rfl (t_ rfl rfl rfl rfl (t_ rfl rfl rfl rfl (t_ rfl rfl rfl rfl (t_ rfl rfl rfl rfl (a_ (N_ rfl rfl) rfl (d_ (r_ rfl ?_)))))))))
             exact met ⟨rfl, rfl, rfl, rfl, (E_ rfl (jaf qr32)), trivial⟩
            ·
             have qr32 := hr30
             simp at hr30
             refine o_ rfl rfl (a_ (h_ rfl) rfl (o_ rfl rfl (a_ (j_ bB_ rfl rfl rfl br_) rfl (o_ rfl rfl (a_ (q_ 0 bE_ rfl rfl rfl) rfl (o_ rfl rfl (a_ (j_ F_ rfl rfl rfl s_) rfl (o_ rfl rfl (a_ (q_ 1 w_ rfl rfl rfl) rfl ?_)))))))))
             refine o_ rfl rfl (a_ (h_ rfl) rfl (o_ rfl rfl (ce_ (eh_ ur (Pc.r p) bi_ (ec_ _ (by omega))) rfl rfl W_ (fun _ _ _ => by exact trivial) rfl fun r33 hr33 => ?_)))
             refine a_ (R_ rfl rfl) rfl (d_ (r_ rfl ?_))
             exact met ⟨rfl, rfl, rfl, rfl, (E_ rfl (jat qr32 hr33)), trivial⟩
           ·
            refine a_ (h_ rfl) rfl ?_
            refine aT_ 7 ((((((((ch_ ua (Pc.a p) bp_) && (ch_ ub (Pc.b p) bp_))) && (ch_ uc (Pc.c p) bp_))) && (ch_ ur (Pc.r p) bi_))) && (ch_ us (Pc.s p) cw_)) (fun r => [(1, zp_ b1 0), (2, .bool false), (3, zp_ b2 0), (4, .func (.func 124) #[] #[]), (91, .bool r)]) ?_ fun r34 hr34 => ?_
            ·
             cases r32
             ·
              have qr34 := hr32
              simp at hr32
              refine t_ rfl rfl rfl rfl (t_ rfl rfl rfl rfl (t_ rfl rfl rfl rfl (t_ rfl rfl rfl rfl (t_ rfl rfl rfl rfl (t_ rfl rfl rfl rfl (a_ (N_ rfl rfl) rfl (d_ (r_ rfl ?_))))))))
              exact met ⟨rfl, rfl, rfl, rfl, (E_ rfl (jaf qr34)), trivial⟩
             ·
              have qr34 := hr32
              simp at hr32
              refine o_ rfl rfl (a_ (h_ rfl) rfl (o_ rfl rfl (a_ (j_ bB_ rfl rfl rfl br_) rfl (o_ rfl rfl (a_ (q_ 0 bE_ rfl rfl rfl) rfl (o_ rfl rfl (a_ (j_ F_ rfl rfl rfl s_) rfl (o_ rfl rfl (a_ (q_ 1 w_ rfl rfl rfl) rfl ?_)))))))))
              refine o_ rfl rfl (ce_ (eh_ us (Pc.s p) cw_ (gP_ _ (by omega))) rfl rfl W_ (fun _ _ _ => by exact trivial) rfl fun r35 hr35 => ?_)
              refine a_ (R_ rfl rfl) rfl (d_ (r_ rfl ?_))
              exact met ⟨rfl, rfl, rfl, rfl, (E_ rfl (jat qr34 hr35)), trivial⟩
            ·
             refine a_ (h_ rfl) rfl ?_
             refine aT_ 7 ((((((((((ch_ ua (Pc.a p) bp_) && (ch_ ub (Pc.b p) bp_))) && (ch_ uc (Pc.c p) bp_))) && (ch_ ur (Pc.r p) bi_))) && (ch_ us (Pc.s p) cw_))) && (ch_ ut (Pc.t p) cw_)) (fun r => [(2, .bool false), (99, .bool r)]) ?_ fun r36 hr36 => ?_
             ·
              cases r34
              ·
               have qr36 := hr34
               simp at hr34
               refine t_ rfl rfl rfl rfl (t_ rfl rfl rfl rfl (t_ rfl rfl rfl rfl (t_ rfl rfl rfl rfl (t_ rfl rfl rfl rfl (t_ rfl rfl rfl rfl (a_ (N_ rfl rfl) rfl (d_ (r_ rfl ?_))))))))
               exact met ⟨rfl, (E_ rfl (jaf qr36)), trivial⟩
              ·
               have qr36 := hr34
               simp at hr34
               refine o_ rfl rfl (a_ (h_ rfl) rfl (o_ rfl rfl (a_ (j_ bB_ rfl rfl rfl br_) rfl (o_ rfl rfl (a_ (q_ 0 bE_ rfl rfl rfl) rfl (o_ rfl rfl (a_ (j_ F_ rfl rfl rfl s_) rfl (o_ rfl rfl (a_ (q_ 1 w_ rfl rfl rfl) rfl ?_)))))))))
               refine o_ rfl rfl (ce_ (eh_ ut (Pc.t p) cw_ (gP_ _ (by omega))) rfl rfl W_ (fun _ _ _ => by exact trivial) rfl fun r37 hr37 => ?_)
               refine a_ (R_ rfl rfl) rfl (d_ (r_ rfl ?_))
               exact met ⟨rfl, (E_ rfl (jat qr36 hr37)), trivial⟩
             ·
              refine a_ (g_ rfl) rfl (d_ (b_ rfl (B_ ?_)))
              exact as_ qq_ () (E_ rfl (by unfold Pc.valid; rw [if_neg (by omega)]; simp only [hus]; rw [if_neg (by simp <;> omega), if_neg (by simp <;> omega)]; exact hr36.symm)) (.refl _) (fun _ _ _ => trivial)
        ·
         simp at hr25
         refine n_ rfl (f_ (c_ (a_ (g_ rfl) rfl (d_ (b_ rfl (B_ ?_))))))
         exact as_ qq_ () (E_ rfl (by unfold Pc.valid; rw [if_neg (by omega)]; simp only [hus]; first | (rw [if_pos (by first | (simp; omega) | omega)]) | (rw [if_neg (by simp), if_pos (by simp; omega)]))) (.refl _) (fun _ _ _ => trivial)
    ·
     simp at hr6
     refine n_ rfl (f_ (c_ (a_ (g_ rfl) rfl (d_ (b_ rfl (B_ ?_))))))
     exact as_ qq_ () (E_ rfl (by unfold Pc.valid; rw [if_pos (by omega)])) (.refl _) (fun _ _ _ => trivial)
theorem lM_ (l : List Pc) (ad : Option Addr) (cap : Nat) (hl : l.length ≤ 17592186044414) (hsm : ∀ p ∈ l, p.sm) : Tri Tryz.prog 29 #[.slice ad (List.length l) cap] [] [aS_ ad (List.flatMap Pc.cells l), gB_] (fun _ : Unit => .int .i64 (bD_ l)) (fun _ => []) (fun _ => []) := by
  refine M_ Tryz.func29 rfl rfl Tryz.ntmps29 rfl fun v0 => ?_
  refine f_ (c_ (a_ (g_ rfl) rfl (d_ (b_ rfl (f_ (f_ (c_ (a_ (h_ rfl) rfl (a_ (ah_ G_ rfl) rfl ?_)))))))))
  refine x_ (bK_ rfl rfl) rfl fun r1 hr1 => ?_
  refine d_ (b_ rfl ?_)
  cases r1
  · skip
    replace hr1 := of_decide_eq_false hr1
    refine p_ rfl (A_ (b_ rfl (f_ (f_ (c_ (a_ (h_ rfl) rfl (a_ (ah_ G_ rfl) rfl (a_ (h_ rfl) rfl (d_ ?_)))))))))
    refine b_ rfl (S_ (bS_ [(8, .slice ad (List.length l) cap), (9, .int .i64 (List.length l : Int)), (10, .int .i64 ((0 : Nat) : Int))] ⟨rfl, rfl, rfl, trivial⟩ ?_))
    refine bY_ (ι := {q : Nat // q ≤ l.length ∧ (l.take q).all Pc.valid = true}) (fun i => [(8, .slice ad (List.length l) cap), (9, .int .i64 (List.length l : Int)), (10, .int .i64 (i.1 : Int))]) (fun _ => _) (fun _ => _) (fun i => l.length - i.1) ⟨0, by simp⟩ ?_
    rintro ⟨i, hk⟩
    refine bS_ [(8, .slice ad (List.length l) cap), (9, .int .i64 (List.length l : Int)), (10, .int .i64 (i : Int))] ⟨rfl, rfl, rfl, trivial⟩ ?_
    refine f_ (c_ (x_ (az_ rfl rfl) rfl fun r2 hr2 => ?_))
    refine d_ (b_ rfl (f_ ?_))
    cases r2
    · skip
      replace hr2 := of_decide_eq_false hr2
      refine p_ rfl (aD_ rfl (b_ rfl (f_ (c_ (a_ (g_ rfl) rfl (d_ (b_ rfl (B_ ?_))))))))
      exact as_ Tryz.results29 () (aJ_ rfl (by unfold bD_; rw [if_neg (by omega), if_pos (by have := hk.2; rwa [List.take_of_length_le (by omega)] at this)])) (.refl _) (fun _ _ _ => trivial)
    · skip
      replace hr2 := of_decide_eq_true hr2
      have hlx1 : i < List.length l := by omega
      obtain ⟨x1, hx1⟩ : ∃ e0, l[i]? = some e0 := ⟨_, List.getElem?_eq_getElem hlx1⟩
      have hmx1 : x1 ∈ l := List.mem_of_getElem? hx1
      refine n_ rfl (A_ (b_ rfl (f_ (S_ (f_ (c_ (a_ (ak_ G_ U_ rfl rfl (fun v _ h => aL_ (n := 10) Pc.cells_len (by decide) (by exact h.1) hx1) (by omega) (by first | omega | (simp; done))) rfl (a_ (aE_ (ad := ad) (us := Pc.cells x1) bh_ U_ rfl (fun v _ h => by exact h.1) (Pc.cells_len _) (an_ Pc.cells_len hx1)) rfl (al_ ap_ rfl fun b1 => ?_)))))))))
      refine Z_ 0 U_ rfl rfl rfl rfl rfl rfl (d_ (b_ rfl (f_ (c_ (a_ (L_ 0 bh_ U_ rfl rfl rfl) rfl (ax_ (pC_ x1 (hsm x1 hmx1)) rfl W_ (fun v _ h => by exact ⟨h.2.1, trivial⟩) rfl fun r3 hr3 => ?_))))))
      refine a_ (bG_ rfl) rfl (d_ (b_ rfl ?_))
      cases r3
      · skip
        refine n_ rfl (f_ (c_ (a_ (g_ rfl) rfl (d_ (b_ rfl (B_ ?_))))))
        exact as_ Tryz.results29 () (aJ_ rfl (by unfold bD_; rw [if_neg (by omega), if_neg (by rw [show l.all Pc.valid = false from List.all_eq_false.2 ⟨x1, hmx1, by simp [*]⟩]; simp)])) (.refl _) (fun _ _ _ => trivial)
      · skip
        refine p_ rfl (A_ (b_ rfl (c_ (a_ (V_ rfl rfl rfl (aq_ (by omega) (by omega))) rfl (a_ (h_ rfl) rfl (d_ (r_ rfl ?_)))))))
        exact ao_ ⟨i + 1, hlx1, by rw [List.take_add_one, hx1]; simp only [Option.toList_some, List.all_append, hk.2]; simp [*]⟩ (by simp; omega) ⟨rfl, rfl, rfl, trivial⟩ (@List.perm_append_comm _ [_] _) (fun _ _ h => h)
  · skip
    replace hr1 := of_decide_eq_true hr1
    refine n_ rfl (f_ (c_ (a_ (g_ rfl) rfl (d_ (b_ rfl (B_ ?_))))))
    exact as_ Tryz.results29 () (aJ_ rfl (by unfold bD_; rw [if_pos (by omega)])) (.refl _) (fun _ _ _ => trivial)
end Go.Proofs.YtpdbbglpbngeiaaGreatDoor
namespace Go.Vs
open Go Go.Sx
def vw (W : World) : Vw := ⟨fun b => b < W.heap.size, W, True⟩
theorem vw_sat (W : World) : (vw W).sat [] := ⟨(fun _ h => by cases h), (by simp), fun _ h => h⟩
section
variable {H : Type} {enc : TypeId × Value → H} {P : Program} {W : World}
abbrev wok (l : List Nat) : Prop := l.all (· ≤ reachBytes) = true
theorem fi_ {a b : List Nat} : wok (a ++ b) ↔ wok a ∧ wok b := by simp [wok, List.all_append]
theorem pV_ {n : Nat} {b : List Nat} : wok (n :: b) ↔ n ≤ reachBytes ∧ wok b := by simp [wok]
theorem pW_ {e : TypeId} : ∀ {ds : List (DataW H)}, wok (DataW.weightsAll P e ds) → ∀ d ∈ ds, wok (d.weights P e)
  | [], _, _, h => by cases h
  | x :: ds, hw, d, hd => by
    rw [DataW.weightsAll, fi_] at hw
    rcases List.mem_cons.1 hd with rfl | hd
    · exact hw.1
    · exact pW_ hw.2 d hd
theorem lh_ {α : Type} [Inhabited α] (f : α → List Value) (k : Nat) (hk : ∀ x, (f x).length = k) (hk0 : 0 < k) (Q : α → Prop) {ts te : TypeId} (hs : P.underlying ts = some (.slice te)) (hc : P.cellsOf te = k) {n : Nat} {cs : List Value} {x : DataW H × List MemPlace}
    (hread : ∀ m, m < n → ∀ cs' y, DataW.trod enc P W 0 (fun _ => true) true m te cs' = some y → wok (y.1.weights P te) → ∃ c, cs' = f c ∧ Q c)
    (h : DataW.trod enc P W 0 (fun _ => true) true n ts cs = some x) (hw : wok (x.1.weights P ts)) :
    ∃ (l : List α) (ad : Option Addr) (cap : Nat), cs = [.slice ad l.length cap] ∧ ca_ (vw W) ad (l.flatMap f) ∧ (∀ c ∈ l, Q c) ∧ l.length ≤ cap ∧ cap * P.bytesOf te ≤ reachBytes := by
  rcases DataW.trod_slice hs h with ⟨h0, _⟩ | ⟨a, len, cap, elems, rest, m, hn, rfl, rfl, _, hl, _, hlen, hel, hsp, _⟩
  · exact ⟨[], none, 0, h0, .inl rfl, (fun _ h => by cases h), Nat.le_refl _, by simp⟩
  · obtain ⟨hr, _⟩ := hsp rfl
    simp only [DataW.weights, hs, pV_, fi_, List.length_map] at hw
    have hcap : cap * P.bytesOf te ≤ reachBytes := by
      have e : elems.length + rest.length = cap := by omega
      rw [← e]; exact hw.1
    have hone : ∀ i, i < len → ∃ c : α, W.cells? 0 (a.add (i * k)) k = some (f c) ∧ Q c := fun i hi => by
      have he := hel i hi
      rw [hc, List.getElem?_eq_getElem (by omega)] at he
      obtain ⟨cs', h1, h2⟩ := Option.bind_eq_some_iff.1 he
      obtain ⟨c, rfl, hq⟩ := hread m (by omega) cs' _ h2 (pW_ hw.2.1 _ (List.mem_map_of_mem (List.getElem_mem (by omega))))
      exact ⟨c, h1, hq⟩
    obtain ⟨C, hC⟩ := Deep.choose_lt hone
    refine ⟨(List.range len).map C, some a, cap, by simp, ?_, ?_, by simpa using hl, hcap⟩
    · by_cases h0 : len = 0
      · left; simp [h0]
      · have h1 := (hC 0 (by omega)).1
        obtain ⟨_, _, hcell⟩ := World.cells?_some h1
        have hc0 := hcell 0 hk0
        have hlt : 0 < (f (C 0)).length := by rw [hk]; exact hk0
        rw [List.getElem?_eq_getElem hlt] at hc0
        cases hb : W.heap[a.block]? with
        | none => simp [World.cell?, Addr.add, hb] at hc0
        | some o =>
          cases o with
          | cells arr T fz =>
            have hspot : a.spot = none := by
              cases hsp2 : a.spot with
              | none => rfl
              | some s => simp [World.cell?, Addr.add, hb, hsp2] at hc0
            obtain ⟨b, off, sp⟩ := a
            simp only at hspot hb
            subst hspot
            right
            refine ⟨b, off, arr, T, fz, rfl, (Array.getElem?_eq_some_iff.1 hb).1, hb, fun j y hj => ?_⟩
            have hjlt : j < len * k := by
              have := (List.getElem?_eq_some_iff.1 hj).1
              rw [ea_ f k hk] at this
              simpa using this
            have hi : j / k < len := Nat.div_lt_of_lt_mul (by rw [Nat.mul_comm]; exact hjlt)
            have hr' : j % k < k := Nat.mod_lt _ hk0
            have e : j = (j / k) * k + j % k := by rw [Nat.mul_comm]; exact (Nat.div_add_mod j k).symm
            have hget : ((List.range len).map C)[j / k]? = some (C (j / k)) := by simp [hi]
            rw [e, iB_ f k hk _ (j / k) (j % k) _ hget hr'] at hj
            obtain ⟨_, _, hcell⟩ := World.cells?_some (hC (j / k) hi).1
            have := hcell (j % k) hr'
            rw [hj, dE_, dE_] at this
            rw [e]
            simpa [World.cell?, hb, Nat.add_assoc] using this
          | _ => simp [World.cell?, Addr.add, hb] at hc0
    · intro c hc'
      obtain ⟨i, hi, rfl⟩ := List.mem_map.1 hc'
      exact (hC i (by simpa using hi)).2
end
instance : Inhabited Con := ⟨.mk 0 [] 0 0 none 0 []⟩
instance : Inhabited Ax := ⟨⟨0, false, default, default, none, 0, [], [], [], []⟩⟩
instance : Inhabited Pc := ⟨⟨0, [], [], [], [], [], [], 0, 0, 0⟩⟩
structure Tys (P : Program) (tI tB tS tSs tC tCs tA tAs tP tPs : TypeId) : Prop where
  i : P.underlying tI = some (.int .i64)
  b : P.underlying tB = some .bool
  s : P.underlying tS = some .string
  ss : P.underlying tSs = some (.slice tS)
  c : ∃ fs, P.underlying tC = some (.struct fs) ∧ fs.toList.map (fun f => (f.type, f.offset)) = [(tI, 0), (tS, 1), (tI, 2), (tI, 3), (tCs, 4)]
  cs : P.underlying tCs = some (.slice tC)
  a : ∃ fs, P.underlying tA = some (.struct fs) ∧ fs.toList.map (fun f => (f.type, f.offset)) = [(tI, 0), (tB, 1), (tC, 2), (tC, 7), (tSs, 12), (tS, 13), (tS, 14), (tS, 15)]
  axs : P.underlying tAs = some (.slice tA)
  p : ∃ fs, P.underlying tP = some (.struct fs) ∧ fs.toList.map (fun f => (f.type, f.offset)) = [(tI, 0), (tS, 1), (tS, 2), (tS, 3), (tS, 4), (tS, 5), (tS, 6), (tI, 7), (tI, 8), (tI, 9)]
  ps : P.underlying tPs = some (.slice tP)
  ci : P.cellsOf tI = 1
  cb : P.cellsOf tB = 1
  cs1 : P.cellsOf tS = 1
  css : P.cellsOf tSs = 1
  cc : P.cellsOf tC = 5
  ccs : P.cellsOf tCs = 1
  ca : P.cellsOf tA = 16
  cp : P.cellsOf tP = 10
  bs : P.bytesOf tS = 16
  bc : P.bytesOf tC = 64
  ba : P.bytesOf tA = 216
  bp : P.bytesOf tP = 128
section
variable {H : Type} {enc : TypeId × Value → H} {P : Program} {W : World} {tI tB tS tSs tC tCs tA tAs tP tPs : TypeId} (X : Tys P tI tB tS tSs tC tCs tA tAs tP tPs)
theorem fields_of {t : TypeId} {fs : Array Field} {L : List (TypeId × Nat)} {cs : List Value} {n : Nat} {x : DataW H × List MemPlace} (ht : P.underlying t = some (.struct fs)) (hL : fs.toList.map (fun f => (f.type, f.offset)) = L) (h : DataW.trod enc P W 0 (fun _ => true) true n t cs = some x) :
    ∃ (xs : List (DataW H × List MemPlace)) (m : Nat), n = m + 1 ∧ x.1 = .agg (xs.map (·.1)) ∧ cs.length = P.cellsOf t ∧ xs.length = L.length ∧ (∀ (i : Nat) q, L[i]? = some q → DataW.trod enc P W 0 (fun _ => true) true m q.1 ((cs.drop q.2).take (P.cellsOf q.1)) = xs[i]?) ∧
      (x.1.weights P t = DataW.weightsEach P (L.map (·.1)) (xs.map (·.1))) := by
  obtain ⟨xs, m, hn, hx, hl, hlen, hf⟩ := DataW.trod_struct ht h
  refine ⟨xs, m, hn, by rw [hx], hl, by rw [hlen, ← hL]; simp, fun i q hq => ?_, ?_⟩
  · rw [← hL, List.getElem?_map, Option.map_eq_some_iff] at hq
    obtain ⟨f, hf', rfl⟩ := hq
    exact hf i f (by simpa using hf')
  · rw [hx]; simp only [DataW.weights, ht]
    congr 1
    rw [← hL, List.map_map]; rfl
include X
theorem lx_ {n : Nat} {cs : List Value} {x : DataW H × List MemPlace} (h : DataW.trod enc P W 0 (fun _ => true) true n tI cs = some x) : ∃ k : Int, cs = [.int .i64 k] ∧ -9223372036854775808 ≤ k ∧ k ≤ 9223372036854775807 := by
  obtain ⟨k, h1, _, h3⟩ := DataW.trod_int X.i h
  have := bounds_i64 h3
  exact ⟨k, h1, this.1, this.2⟩
theorem sq_ {n : Nat} {cs : List Value} {x : DataW H × List MemPlace} (h : DataW.trod enc P W 0 (fun _ => true) true n tB cs = some x) : ∃ b : Bool, cs = [.bool b] := by
  obtain ⟨b, h1, _⟩ := DataW.trod_bool X.b h
  exact ⟨b, h1⟩
theorem str_of {n : Nat} {cs : List Value} {x : DataW H × List MemPlace} (h : DataW.trod enc P W 0 (fun _ => true) true n tS cs = some x) (hw : wok (x.1.weights P tS)) : ∃ s : Str, cs = [str s] ∧ s.length ≤ 140737488351232 := by
  obtain ⟨s, h1, h2, _⟩ := DataW.trod_string X.s h
  rw [h2] at hw
  simp [wok, DataW.weights, reachBytes] at hw
  refine ⟨s.data.toList, by rw [h1]; rfl, by have := of_decide_eq_true hw; simpa using this⟩
theorem rd_ : ∀ (n : Nat) (cs : List Value) (x : DataW H × List MemPlace), DataW.trod enc P W 0 (fun _ => true) true n tC cs = some x → wok (x.1.weights P tC) → ∃ c : Con, cs = c.cells ∧ c.mem (vw W) ∧ c.ok := by
  intro n
  induction n using Nat.strongRecOn with
  | ind n ih =>
    intro cs x h hw
    obtain ⟨fs, hu, hL⟩ := X.c
    obtain ⟨xs, m, hn, hx, hl, hlen, hf, hwe⟩ := fields_of hu hL h
    rw [hwe] at hw
    match xs, hlen with
    | [x0, x1, x2, x3, x4], _ =>
    simp only [List.map_cons, List.map_nil, DataW.weightsEach, fi_] at hw
    have f0 := hf 0 _ rfl; have f1 := hf 1 _ rfl; have f2 := hf 2 _ rfl; have f3 := hf 3 _ rfl; have f4 := hf 4 _ rfl
    simp only [List.getElem?_cons_zero, List.getElem?_cons_succ, X.ci, X.cs1, X.ccs] at f0 f1 f2 f3 f4
    obtain ⟨k, e0, k1, k2⟩ := lx_ X f0
    obtain ⟨nm, e1, n1⟩ := str_of X f1 hw.2.1
    obtain ⟨lo, e2, l1, l2⟩ := lx_ X f2
    obtain ⟨hi, e3, h1, h2⟩ := lx_ X f3
    obtain ⟨l, ad, cap, e4, hrow, hq, hlc, hcap⟩ := lh_ Con.cells 5 Con.cells_len (by decide) (fun c => c.mem (vw W) ∧ c.ok) X.cs X.cc (fun m' hm' cs' y hy hwy => by
      obtain ⟨c, g1, g2, g3⟩ := ih m' (by omega) cs' y hy hwy
      exact ⟨c, g1, g2, g3⟩) f4 hw.2.2.2.2.1
    rw [X.cc] at hl
    match cs, hl with
    | [c0, c1, c2, c3, c4], _ =>
    simp only [List.drop_succ_cons, List.drop_zero, List.take_succ_cons, List.take_zero, List.cons.injEq, and_true] at e0 e1 e2 e3 e4
    subst e0 e1 e2 e3 e4
    refine ⟨.mk k nm lo hi ad cap l, rfl, ?_, k1, k2, n1, l1, l2, h1, h2, hlc, ?_, Con.oks_iff.2 fun p hp => (hq p hp).2⟩
    · rw [Con.mem_iff]; exact ⟨hrow, fun p hp => (hq p hp).1⟩
    · rw [X.bc] at hcap; simp only [reachBytes] at hcap; omega
theorem rD_ {n : Nat} {cs : List Value} {x : DataW H × List MemPlace} (h : DataW.trod enc P W 0 (fun _ => true) true n tSs cs = some x) (hw : wok (x.1.weights P tSs)) :
    ∃ (l : List Str) (ad : Option Addr) (cap : Nat), cs = [.slice ad l.length cap] ∧ ca_ (vw W) ad (l.flatMap bg_) ∧ (∀ s ∈ l, s.length ≤ 140737488351232) ∧ l.length ≤ cap ∧ cap ≤ 8796093021952 := by
  obtain ⟨l, ad, cap, e, hrow, hq, hlc, hcap⟩ := lh_ bg_ 1 aX_ (by decide) (fun s => s.length ≤ 140737488351232) X.ss X.cs1 (fun m' _ cs' y hy hwy => by
    obtain ⟨s, g1, g2⟩ := str_of X hy hwy
    exact ⟨s, g1, g2⟩) h hw
  rw [X.bs] at hcap; simp only [reachBytes] at hcap
  exact ⟨l, ad, cap, e, hrow, hq, hlc, by omega⟩
theorem ax_of {n : Nat} {cs : List Value} {x : DataW H × List MemPlace} (h : DataW.trod enc P W 0 (fun _ => true) true n tA cs = some x) (hw : wok (x.1.weights P tA)) : ∃ a : Ax, cs = a.cells ∧ a.mem (vw W) ∧ a.ok := by
  obtain ⟨fs, hu, hL⟩ := X.a
  obtain ⟨xs, m, hn, hx, hl, hlen, hf, hwe⟩ := fields_of hu hL h
  rw [hwe] at hw
  match xs, hlen with
  | [x0, x1, x2, x3, x4, x5, x6, x7], _ =>
  simp only [List.map_cons, List.map_nil, DataW.weightsEach, fi_] at hw
  have f0 := hf 0 _ rfl; have f1 := hf 1 _ rfl; have f2 := hf 2 _ rfl; have f3 := hf 3 _ rfl; have f4 := hf 4 _ rfl; have f5 := hf 5 _ rfl; have f6 := hf 6 _ rfl; have f7 := hf 7 _ rfl
  simp only [List.getElem?_cons_zero, List.getElem?_cons_succ, X.ci, X.cb, X.cs1, X.cc, X.css] at f0 f1 f2 f3 f4 f5 f6 f7
  obtain ⟨k, e0, k1, k2⟩ := lx_ X f0
  obtain ⟨op, e1⟩ := sq_ X f1
  obtain ⟨le, e2, m2, o2⟩ := rd_ X _ _ _ f2 hw.2.2.1
  obtain ⟨ri, e3, m3, o3⟩ := rd_ X _ _ _ f3 hw.2.2.2.1
  obtain ⟨rs, ad, cap, e4, hrow, hq, hlc, hcap⟩ := rD_ X f4 hw.2.2.2.2.1
  obtain ⟨ro, e5, n5⟩ := str_of X f5 hw.2.2.2.2.2.1
  obtain ⟨a, e6, n6⟩ := str_of X f6 hw.2.2.2.2.2.2.1
  obtain ⟨b, e7, n7⟩ := str_of X f7 hw.2.2.2.2.2.2.2.1
  rw [X.ca] at hl
  match cs, hl with
  | [c0, c1, c2, c3, c4, c5, c6, c7, c8, c9, c10, c11, c12, c13, c14, c15], _ =>
  simp only [List.drop_succ_cons, List.drop_zero, List.take_succ_cons, List.take_zero, List.cons.injEq, and_true, Con.cells] at e0 e1 e2 e3 e4 e5 e6 e7
  obtain ⟨rfl, rfl, rfl, rfl, rfl⟩ := e2
  obtain ⟨rfl, rfl, rfl, rfl, rfl⟩ := e3
  subst e0 e1 e4 e5 e6 e7
  exact ⟨⟨k, op, le, ri, ad, cap, rs, ro, a, b⟩, rfl, ⟨m2, m3, hrow⟩, ⟨k1, k2, o2, o3, hlc, hcap, hq, n5, n6, n7⟩⟩
theorem axs_of {n : Nat} {cs : List Value} {x : DataW H × List MemPlace} (h : DataW.trod enc P W 0 (fun _ => true) true n tAs cs = some x) (hw : wok (x.1.weights P tAs)) :
    ∃ (l : List Ax) (ad : Option Addr) (cap : Nat), cs = [.slice ad l.length cap] ∧ (no_ ad l).p (vw W) ∧ (∀ y ∈ l, y.ok) ∧ l.length ≤ cap ∧ cap ≤ 2199023255488 := by
  obtain ⟨l, ad, cap, e, hrow, hq, hlc, hcap⟩ := lh_ Ax.cells 16 Ax.cells_len (by decide) (fun a => a.mem (vw W) ∧ a.ok) X.axs X.ca (fun m' _ cs' y hy hwy => by
    obtain ⟨a, g1, g2, g3⟩ := ax_of X hy hwy
    exact ⟨a, g1, g2, g3⟩) h hw
  rw [X.ba] at hcap; simp only [reachBytes] at hcap
  exact ⟨l, ad, cap, e, ⟨hrow, fun y hy => (hq y hy).1⟩, fun y hy => (hq y hy).2, hlc, by omega⟩
structure Pc.big (p : Pc) : Prop where
  a : p.a.length ≤ 140737488351232
  b : p.b.length ≤ 140737488351232
  c : p.c.length ≤ 140737488351232
  r : p.r.length ≤ 140737488351232
  s : p.s.length ≤ 140737488351232
  t : p.t.length ≤ 140737488351232
end
end Go.Vs
namespace Go.Vs
open Go Go.Sx Go.ChangeShapes Go.WideShapes Go.ChangeAt Go.RowKit
section
variable {H : Type} {enc : TypeId × Value → H} {P : Program} {w : World}
mutual
def eD_ {H : Type} : DataW H → List Value
  | .lit (.int k n) => [.int k n]
  | .lit (.bool b) => [.bool b]
  | .agg ps => hU_ ps
  | _ => []
def hU_ {H : Type} : List (DataW H) → List Value
  | [] => []
  | d :: r => eD_ d ++ hU_ r
end
def gg_ (P : Program) : Nat → TypeId → Bool
  | 0, _ => false
  | n + 1, t => match P.underlying t with
    | some .bool => true
    | some (.int _) => true
    | some (.struct fs) => fs.toList.all fun f => gg_ P n f.type
    | some (.array _ e) => gg_ P n e
    | _ => false
theorem hv_ : ∀ l : List (DataW H), hU_ l = l.flatMap eD_
  | [] => by simp [hU_]
  | d :: r => by simp only [hU_, hv_ r, List.flatMap_cons]
theorem tile : ∀ (ls : List Nat) (cs : List Value) (g : List (List Value)), cs.length = ls.sum → g.length = ls.length → (∀ j n, ls[j]? = some n → some ((cs.drop (ls.take j).sum).take n) = g[j]?) → cs = g.flatten
  | [], cs, g, h, hg, _ => by
    simp only [List.sum_nil] at h
    have h1 := List.eq_nil_of_length_eq_zero h
    have h2 : g = [] := List.eq_nil_of_length_eq_zero hg
    simp [h1, h2]
  | n :: ls, cs, [], h, hg, hp => by simp at hg
  | n :: ls, cs, x :: g, h, hg, hp => by
    have h0 := hp 0 n rfl
    simp only [List.take_zero, List.sum_nil, List.drop_zero, List.getElem?_cons_zero, Option.some.injEq] at h0
    have ih := tile ls (cs.drop n) g (by rw [List.length_drop, h]; simp) (by simpa using hg) (fun j m hj => by
      have := hp (j + 1) m hj
      simp only [List.take_succ_cons, List.sum_cons, List.getElem?_cons_succ] at this
      rw [← this, List.drop_drop])
    rw [List.flatten_cons, ← ih, ← h0, List.take_append_drop]
theorem qx_ {T : TypeId → Prop} {held : Bool} (K : Kids P T) : ∀ (n m : Nat) (t : TypeId) (cs : List Value) (x : DataW H × List MemPlace), T t → gg_ P m t = true → DataW.trod enc P w 0 (fun _ => true) held n t cs = some x → cs = eD_ x.1 := by
  intro n
  induction n with
  | zero => intro m t cs x _ _ h; simp [DataW.trod] at h
  | succ n ih =>
    intro m t cs x hT hb h
    cases m with
    | zero => simp [gg_] at hb
    | succ m =>
    cases hu : P.underlying t with
    | none => simp [gg_, hu] at hb
    | some d =>
      cases d with
      | bool => obtain ⟨b, rfl, rfl⟩ := DataW.trod_bool hu h; simp [eD_]
      | int k => obtain ⟨b, rfl, rfl, _⟩ := DataW.trod_int hu h; simp [eD_]
      | struct fs =>
        obtain ⟨xs, m', hn, rfl, hl, hlen, hf⟩ := DataW.trod_struct hu h
        obtain rfl : m' = n := by omega
        obtain ⟨k1, k2, k3⟩ := K.struct hT hu
        simp only [gg_, hu] at hb
        simp only [eD_]
        rw [hv_, List.flatMap_def, List.map_map]
        refine tile (fs.toList.map fun f => P.cellsOf f.type) cs _ (by rw [hl, k2]) (by simp [hlen]) fun j q hq => ?_
        rw [List.getElem?_map, Option.map_eq_some_iff] at hq
        obtain ⟨f, hf', rfl⟩ := hq
        have h1 := hf j f (by simpa using hf')
        have h2 := k3 j f hf'
        have hj : j < xs.length := by rw [hlen]; have := (List.getElem?_eq_some_iff.1 hf').1; simpa using this
        rw [List.getElem?_eq_getElem hj] at h1
        have h3 := ih m f.type _ _ (k1 f (List.mem_of_getElem? hf')) (List.all_eq_true.1 hb f (List.mem_of_getElem? hf')) h1
        rw [List.getElem?_map, List.getElem?_eq_getElem hj, ← List.map_take, ← h2, h3]
        rfl
      | array len e =>
        obtain ⟨xs, m', hn, rfl, hl, hlen, hf⟩ := DataW.trod_array hu h
        obtain rfl : m' = n := by omega
        obtain ⟨k1, k2⟩ := K.array hT hu
        simp only [gg_, hu] at hb
        simp only [eD_]
        rw [hv_, List.flatMap_def, List.map_map]
        refine tile (List.replicate len (P.cellsOf e)) cs _ (by rw [hl, k2]; simp) (by simp [hlen]) fun j q hq => ?_
        rw [List.getElem?_replicate] at hq
        split at hq
        · rename_i hj
          simp only [Option.some.injEq] at hq
          subst hq
          have h1 := hf j hj
          have hjx : j < xs.length := by omega
          rw [List.getElem?_eq_getElem hjx] at h1
          have h3 := ih m e _ _ k1 hb h1
          rw [List.getElem?_map, List.getElem?_eq_getElem hjx, List.take_replicate, List.sum_replicate_nat, Nat.min_eq_left (by omega), h3]
          rfl
        · cases hq
      | _ => simp [gg_, hu] at hb
end
section
variable {H : Type} {enc : TypeId × Value → H} {P : Program} {W W' : World}
theorem hr_ : ∀ {ts : List TypeId} {vs : List Value} {ds : List (DataW H)} {ps : List MemPlace} {sp : Nat → Bool}, DataW.TrodAll enc P W 0 sp true ts vs ds ps → (∀ p ∈ ps, W.sameAt W' p) → DataW.TrodAll enc P W' 0 sp true ts vs ds ps
  | [], [], [], _, _, h, _ => h
  | _ :: _, _ :: _, _ :: _, _, _, ⟨p, q, ⟨n, h1⟩, h2, e⟩, hs => ⟨p, q, ⟨n, DataW.trod_carry n _ _ _ h1 (fun x hx => hs x (by rw [e]; exact List.mem_append_left _ hx))⟩, hr_ h2 (fun x hx => hs x (by rw [e]; exact List.mem_append_right _ hx)), e⟩
theorem qJ_ {T : TypeId → Prop} (K : Kids P T) (hz : ∀ t e, T t → P.underlying t = some (.slice e) → 0 < P.cellsOf e) {f : Func} {s : ChangeSpec} {args : Array Value} {ds : List (DataW H)} {before : List MemPlace} {tb : TypeId} (hts : ∀ t ∈ f.params.toList, T t) (hvars : s.vars = [])
    (hW : DataW.Whole enc P f.params.toList s.vars false W args.toList ds [] before) (hs : s.fn H (ds ++ []) = { results := [.lit (.bool true)], args := ds }) (hres : f.resultTypes = #[tb]) (hb : P.underlying tb = some .bool) {v' : Vw} (hto : (vw W).to [] v' []) :
    s.post enc P f false true false false W args (.bool true) v'.w := by
  have hW' := hW
  obtain ⟨p, q, hA, hV, hp, _, _⟩ := hW
  have hq : q = [] := by rw [hvars] at hV; exact hV
  subst hq
  simp only [List.append_nil] at hp
  subst hp
  have hblk : ∀ b, b < W.heap.size → v'.w.heap[b]? = W.heap[b]? := fun b hb => hto.block b hb (by simp)
  have hsame : ∀ x ∈ before, W.sameAt v'.w x := fun x hx => by
    have hlt := DataW.TrodAll.lt hA x hx
    cases x with
    | cell b off => exact World.cell?_of_block (hblk b hlt)
    | map b => exact hblk b hlt
  have hA' := hr_ hA hsame
  have hA'' := DataW.TrodAll.respare K hz (spare' := fun b => decide (b < W.heap.size)) hts hA' (fun x hx => by simpa using DataW.TrodAll.lt hA x hx)
  refine ⟨ds, [], before, [], before, [], hW', ?_, ?_, ?_, ⟨hto.os, hto.output, fun i hi => ?_⟩, fun h => by cases h⟩
  · rw [hs, hres]; exact trodAll_mk1 (shut_bool hb true)
  · rw [hs]; exact hA''
  · rw [hs, hvars]; rfl
  · rw [hblk i hi]
    have hsome : ∃ o, W.heap[i]? = some o := ⟨_, Array.getElem?_eq_getElem hi⟩
    obtain ⟨o, ho⟩ := hsome
    rw [ho]
    cases o <;> simp
section
variable {tI tB tS tSs tC tCs tA tAs tP tPs : TypeId} (X : Tys P tI tB tS tSs tC tCs tA tAs tP tPs) {base : Nat} {v : Value} {d : DataW H} {ps : List MemPlace}
include X
theorem sz_ (hval : Value.okWide P W .any base tAs v) (h : DataW.Trod enc P W 0 (fun _ => true) true tAs v d ps) (hw : wok (d.weights P tAs)) :
    ∃ (l : List Ax) (ad : Option Addr) (cap : Nat), v = .slice ad l.length cap ∧ (no_ ad l).p (vw W) ∧ (∀ y ∈ l, y.ok) ∧ l.length ≤ cap ∧ cap ≤ 2199023255488 := by
  obtain ⟨a, len, cap, rfl⟩ := okWide_slice X.axs hval
  obtain ⟨n, hn⟩ := h
  obtain ⟨l, ad, cap', e, h1⟩ := axs_of X hn hw
  simp only [Value.cells, List.cons.injEq, and_true] at e
  exact ⟨l, ad, cap', e, h1⟩
theorem sy_ (hval : Value.okWide P W .any base tI v) (h : DataW.Trod enc P W 0 (fun _ => true) true tI v d ps) : ∃ k : Int, v = .int .i64 k ∧ -9223372036854775808 ≤ k ∧ k ≤ 9223372036854775807 := by
  obtain ⟨k, e, _, _, hw⟩ := open_int X.i hval h
  have := bounds_i64 hw
  exact ⟨k, e, this.1, this.2⟩
end
theorem hM_ {T : TypeId → Prop} (K : Kids P T) {name : String} {d : DataW Unit} {laid : List (String × DataW Unit)} {W : World} (h : laidMet P laid W) (hm : (name, d) ∈ laid) {g : Nat} {t : TypeId} (hg : P.globalNamed name = some g) (ht' : (P.globals[g]?).map (·.type) = some t) (hT : T t) {m : Nat} (hb : gg_ P m t = true) :
    ∃ T' fz, W.heap[g]? = some (.cells (eD_ d).toArray T' fz) := by
  obtain ⟨ps, hl, _, _⟩ := h
  have key : ∀ (l : List (String × DataW Unit)) (ps : List MemPlace), DataW.LaidVars P W l ps → (name, d) ∈ l → ∃ g t cs n p, P.globalNamed name = some g ∧ (P.globals[g]?).map (·.type) = some t ∧ W.var? P name = some cs ∧ DataW.trod (fun _ => ()) P W 0 (fun _ => true) false n t cs.toList = some (d, p) := by
    intro l
    induction l with
    | nil => intro ps _ h; cases h
    | cons x r ih =>
      intro ps h hm
      obtain ⟨n', d'⟩ := x
      obtain ⟨g, t, cs, fuel, p, q, h1, h2, h3, h4, h5, _⟩ := h
      rcases List.mem_cons.1 hm with e | hm
      · cases e; exact ⟨g, t, cs, fuel, p, h1, h2, h3, h4⟩
      · exact ih q h5 hm
  obtain ⟨g', t', cs, n, p, h1, h2, h3, h4⟩ := key laid ps hl hm
  obtain rfl : g' = g := Option.some.inj (h1.symm.trans hg)
  obtain rfl : t' = t := Option.some.inj (h2.symm.trans ht')
  have e := qx_ K n m t' cs.toList _ hT hb h4
  simp only [World.var?, hg, Option.bind_some] at h3
  split at h3
  · rename_i c T' fz hc
    simp only [Option.some.injEq] at h3
    subst h3
    exact ⟨T', fz, by rw [hc, ← e]⟩
  · cases h3
end
end Go.Vs
namespace Go.Vs
open Go Go.Sx
theorem hI_ {s : Str} (h : gD_ s = true) : ∃ c t, s = c :: t ∧ ey_ c = true ∧ iG_ s = true := by
  cases s with
  | nil => simp [gD_] at h
  | cons c t =>
    simp only [gD_, Bool.and_eq_true] at h
    exact ⟨c, t, rfl, h.1.1.2, h.1.2⟩
theorem nG_ {s : Str} (h : bL_ s = true) : ∃ c t, s = c :: t ∧ ey_ c = true := by
  unfold bL_ at h
  simp only [Bool.and_eq_true] at h
  cases hx : ixS 58 s with
  | none => rw [hx] at h; obtain ⟨c, t, h1, h2, _⟩ := hI_ h.2; exact ⟨c, t, h1, h2⟩
  | some k =>
    rw [hx] at h
    simp only [Bool.and_eq_true] at h
    obtain ⟨c, t, h1, h2, _⟩ := hI_ h.2.1
    cases s with
    | nil => simp at h1
    | cons d u =>
      cases k with
      | zero => simp at h1
      | succ k => simp only [List.take_succ_cons, List.cons.injEq] at h1; exact ⟨d, u, rfl, h1.1 ▸ h2⟩
theorem jm_ {s : Str} (h : iG_ s = true) : ∀ c ∈ s, eQ_ c = true := fun c hc => List.all_eq_true.1 h c hc
theorem pz_ {c : UInt8} {s : Str} {k : Nat} (h : ixS c s = some k) : s = s.take k ++ c :: s.drop (k + 1) := by
  induction s generalizing k with
  | nil => simp [ixS] at h
  | cons b s ih =>
    simp only [ixS] at h
    split at h
    · rename_i hb
      simp only [Option.some.injEq] at h
      subst h; subst hb; simp
    · cases hx : ixS c s with
      | none => rw [hx] at h; simp at h
      | some j =>
        rw [hx] at h
        simp only [Option.map_some, Option.some.injEq] at h
        subst h
        simp only [List.take_succ_cons, List.drop_succ_cons, List.cons_append]
        rw [← ih hx]
theorem pm_ {s : Str} (h : bL_ s = true) : ∀ c ∈ s, eQ_ c = true ∨ c = 58 := by
  unfold bL_ at h
  simp only [Bool.and_eq_true] at h
  cases hx : ixS 58 s with
  | none => rw [hx] at h; obtain ⟨_, _, _, _, h3⟩ := hI_ h.2; exact fun c hc => .inl (jm_ h3 c hc)
  | some k =>
    rw [hx] at h
    simp only [Bool.and_eq_true] at h
    obtain ⟨_, _, _, _, h3⟩ := hI_ h.2.1
    obtain ⟨_, _, _, _, h4⟩ := hI_ h.2.2
    intro c hc
    rw [pz_ hx] at hc
    rcases List.mem_append.1 hc with hc | hc
    · exact .inl (jm_ h3 c hc)
    · rcases List.mem_cons.1 hc with rfl | hc
      · exact .inr rfl
      · exact .inl (jm_ h4 c hc)
theorem iJ_ {c : UInt8} : ∀ {s : Str}, c ∉ s → ixS c s = none
  | [], _ => rfl
  | b :: s, h => by
    simp only [List.mem_cons, not_or] at h
    simp only [ixS]
    rw [if_neg (fun e => h.1 e.symm), iJ_ h.2]; rfl
theorem gL_ {s : Str} (h : bL_ s = true) : bs_ 46 s = [s] :=
  ft_ (iJ_ fun hm => by rcases pm_ h 46 hm with h | h <;> revert h <;> decide)
theorem df_ {s : Str} (h : bL_ s = true) : bi_ s = true := by simp [bi_, h]
theorem dk_ {s : Str} (h : bL_ s = true) : cw_ s = true := by
  unfold cw_
  rw [gL_ h]
  simp [df_ h]
theorem jr_ (c : UInt8) : ∀ (f r : Str), bs_ c (f ++ [c] ++ r) = bs_ c f ++ bs_ c r
  | [], r => by simp [bs_]
  | b :: f, r => by
    have ih := jr_ c f r
    simp only [List.append_assoc, List.cons_append, List.nil_append] at ih ⊢
    by_cases hb : b = c
    · subst hb; simp only [bs_, if_true, ih, List.cons_append]
    · simp only [bs_, hb, if_false, ih]
      cases hs : bs_ c f with
      | nil => exact absurd hs (ip_ c f)
      | cons x t => simp
theorem nP_ {c : UInt8} (h : ey_ c = true) : c ≠ 42 ∧ c ≠ 33 ∧ c ≠ 123 ∧ c ≠ 60 ∧ c ≠ 95 := by
  refine ⟨?_, ?_, ?_, ?_, ?_⟩ <;> rintro rfl <;> revert h <;> decide
theorem og_ {s : Str} (h : bL_ s = true) : bp_ s = true := by
  obtain ⟨c, t, rfl, hc⟩ := nG_ h
  obtain ⟨h1, h2, h3, h4, _⟩ := nP_ hc
  unfold bp_
  rw [if_neg (by simp [h1, h2]), if_neg (by simp [h3]), if_neg (by simp [h4])]
  exact df_ h
theorem in_ {s : Str} (h : bi_ s = true) : bp_ ([123] ++ s ++ [125]) = true := by
  unfold bp_
  have e : ([123] ++ s ++ [125]).length = s.length + 2 := by simp
  rw [if_neg (by simp), if_pos (by
    refine ⟨by omega, by simp, ?_⟩
    rw [List.getElem?_append_right (by simp)]; simp)]
  rw [e]
  have : (List.drop 1 ([123] ++ s ++ [125])).take (s.length + 2 - 1 - 1) = s := by simp
  rw [this]; exact h
theorem oh_ {t : Str} (h : t ≠ []) : bp_ ([60] ++ t ++ [62]) = true := by
  unfold bp_
  have hl : 0 < t.length := List.length_pos_iff.2 h
  have e : ([60] ++ t ++ [62]).length = t.length + 2 := by simp
  rw [if_neg (by simp), if_neg (by simp), if_pos (by
    refine ⟨by omega, by simp, ?_⟩
    rw [List.getElem?_append_right (by simp)]; simp)]
namespace Con
def dep : Con → Nat
  | mk _ _ _ _ _ _ ps => deps ps
where deps : List Con → Nat
  | [] => 0
  | p :: ps => max (1 + dep p) (deps ps)
theorem lJ_ {p : Con} : ∀ {ps : List Con}, p ∈ ps → 1 + p.dep ≤ dep.deps ps
  | q :: ps, h => by
    rcases List.mem_cons.1 h with rfl | h
    · simp only [dep.deps]; omega
    · have := lJ_ h; simp only [dep.deps]; omega
theorem lK_ (c : Con) : c.dep = dep.deps c.parts := by cases c; rfl
theorem qd_ (c : Con) : c.sz = 1 + sz.szs c.parts := by cases c; rfl
theorem ne_ : ∀ (m : Nat) (c : Con), c.sz ≤ m → ∀ d n, (c.fits d n).1 = true ↔ d + c.dep ≤ 8 ∧ n + c.sz ≤ 64
  | 0, c, h => by have := c.sz_pos; omega
  | m + 1, c, h => fun d n => by
    have key : ∀ ps : List Con, (∀ p ∈ ps, p.sz ≤ m) → ∀ n, n ≤ 64 → ((fits.fitss ps (d + 1) n).1 = true ↔ (∀ p ∈ ps, d + 1 + p.dep ≤ 8) ∧ n + sz.szs ps ≤ 64) := by
      intro ps
      induction ps with
      | nil => intro _ n hn; simp [fits.fitss, sz.szs, hn]
      | cons p ps ih =>
        intro hp n hn
        have h1 := ne_ m p (hp p (by simp)) (d + 1) n
        simp only [fits.fitss, sz.szs, List.mem_cons, forall_eq_or_imp]
        rcases hq : p.fits (d + 1) n with ⟨b, q⟩
        rw [hq] at h1
        cases b with
        | true =>
          have hs := lC_ _ p (Nat.le_refl _) (d + 1) n (by rw [hq])
          rw [hq] at hs
          simp only at hs h1 ⊢
          have h2 := h1.1 trivial
          rw [ih (fun r hr => hp r (by simp [hr])) q (by omega)]
          constructor
          · rintro ⟨a, b⟩; exact ⟨⟨h2.1, a⟩, by omega⟩
          · rintro ⟨⟨_, a⟩, b⟩; exact ⟨a, by omega⟩
        | false =>
          simp only [Bool.false_eq_true, false_iff] at h1 ⊢
          rintro ⟨⟨a, _⟩, b⟩
          exact h1 ⟨a, by omega⟩
    have hd := lK_ c
    have hz := qd_ c
    rw [fits_eq]
    split
    · rename_i hc
      simp only [Bool.or_eq_true, decide_eq_true_eq] at hc
      simp only [Bool.false_eq_true, false_iff]
      rintro ⟨a, b⟩
      omega
    · rename_i hc
      simp only [Bool.or_eq_true, decide_eq_true_eq, not_or] at hc
      rw [key c.parts (fun p hp => by have := sz_part hp; omega) (n + 1) (by omega), hd, hz]
      constructor
      · rintro ⟨a, b⟩
        refine ⟨?_, by omega⟩
        have : ∀ ps : List Con, (∀ p ∈ ps, d + 1 + p.dep ≤ 8) → d + dep.deps ps ≤ 8 := by
          intro ps
          induction ps with
          | nil => intro _; simp [dep.deps]; omega
          | cons p ps ih =>
            intro hp
            have h1 := hp p (by simp)
            have h2 := ih fun q hq => hp q (by simp [hq])
            simp only [dep.deps]; omega
        exact this _ a
      · rintro ⟨a, b⟩
        exact ⟨fun p hp => by have := lJ_ hp; omega, by omega⟩
theorem la_ (c : Con) : c.check = 0 ↔ c.dep ≤ 8 ∧ c.sz ≤ 64 ∧ c.fine := by
  unfold check fine
  have h := ne_ _ c (Nat.le_refl _) 0 0
  by_cases hf : (c.fits 0 0).1 = true
  · rw [if_pos hf]
    have := h.1 hf
    constructor
    · intro e; exact ⟨by omega, by omega, e⟩
    · exact fun e => e.2.2
  · rw [if_neg hf]
    constructor
    · intro e; cases e
    · intro e; exact absurd (h.2 ⟨by omega, by omega⟩) hf
theorem cA_ {c p : Con} (h : c.check = 0) (hp : p ∈ c.parts) : p.check = 0 := by
  rw [la_] at h ⊢
  have h1 := lJ_ hp
  rw [← lK_] at h1
  have h2 := sz_part hp
  exact ⟨by omega, by omega, fine_part h.2.2 hp⟩
structure Names (c : Con) : Prop where
  plain : c.kind = 3 ∨ c.kind = 6 ∨ c.kind = 7 → bL_ c.name = true
  person : c.kind = 4 → bi_ c.name = true
  nums : c.kind = 7 → -1099511627776 ≤ c.lo ∧ c.lo ≤ c.hi ∧ c.hi ≤ 1099511627776
theorem jN_ {c : Con} (h : c.fine) : Names c := by
  have F := fields h
  have hk : c.kind = 1 ∨ c.kind = 2 ∨ c.kind = 3 ∨ c.kind = 4 ∨ c.kind = 5 ∨ c.kind = 6 ∨ c.kind = 7 := by have := F.k1; have := F.k7; omega
  have h0 := ((ie_ c).1 h).1
  unfold fieldErr at h0
  rw [if_neg (by have := F.k1; have := F.k7; omega)] at h0
  split at h0
  · cases h0
  · split at h0
    · cases h0
    · rename_i h3
      split at h0
      · cases h0
      · split at h0
        · rename_i h5
          refine ⟨fun e => ?_, fun e => ?_, fun e => ?_⟩
          · rcases e with e | e | e <;> rw [e] at h5 <;> simpa [nd, el_] using h5
          · rw [e] at h5
            simp [nd, el_] at h5
            simp [bi_, h5]
          · rw [e] at h3
            simp [nd, el_] at h3
            omega
        · cases h0
theorem jV_ (x y : Str) (r : List Str) (sep : Str) : Lib.join (x :: y :: r) sep = x ++ sep ++ Lib.join (y :: r) sep := by simp [Lib.join, List.intercalate]
theorem ry_ {c : Con} (h : c.fine) (hk : 5 ≤ c.kind) : c.text ≠ [] := by
  have F := fields h
  have h7 := F.k7
  rw [text_eq, if_neg (by omega), if_neg (by omega), if_neg (by omega), if_neg (by omega)]
  split
  · rename_i h5
    have hl := F.le
    rw [h5] at hl
    simp [nd, el_] at hl
    match hp : c.parts, hl with
    | [], hl => simp at hl
    | [_], hl => simp at hl
    | p :: q :: r, _ => simp only [List.map_cons, jV_]; simp
  · split
    · simp only [jV_]; simp
    · simp only [jV_]; simp
theorem atom_ok {c : Con} (h : c.check = 0) : bp_ c.atom = true := by
  have hf := (check_zero h).1
  have F := fields hf
  have N := jN_ hf
  have h1 := F.k1
  have h7 := F.k7
  unfold atom
  split
  · rfl
  · split
    · rfl
    · split
      · exact og_ (N.plain (by omega))
      · split
        · exact in_ (N.person (by omega))
        · unfold textN
          rw [if_pos h]
          exact oh_ (ry_ hf (by omega))
theorem atom_len {c : Con} (hok : c.ok) (h : c.check = 0) : c.atom.length ≤ 7000 := by
  have F := fields (check_zero h).1
  have hn := F.nm
  have ht := textN_len hok
  unfold atom
  repeat' split
  all_goals simp <;> omega
theorem ph_ {c : Con} (h : c.check = 0) (hk : c.kind = 5) {j : Nat} (h2 : 2 ≤ j) (hj : j ≤ c.parts.length) : (c.pre j).check = 0 := by
  have hf := (check_zero h).1
  have F := fields hf
  have hmo := F.mo
  rw [hk] at hmo
  simp [nd, el_] at hmo
  rw [la_] at h ⊢
  have key : ∀ (ps : List Con) (j : Nat), sz.szs (ps.take j) ≤ sz.szs ps ∧ dep.deps (ps.take j) ≤ dep.deps ps := by
    intro ps
    induction ps with
    | nil => intro j; simp
    | cons p ps ih =>
      intro j
      cases j with
      | zero => simp [sz.szs, dep.deps]
      | succ j => have := ih j; simp only [List.take_succ_cons, sz.szs, dep.deps]; omega
  have h1 := key c.parts j
  have e1 := lK_ c
  have e2 := qd_ c
  refine ⟨?_, ?_, ?_⟩
  · rw [lK_]; show dep.deps (c.parts.take j) ≤ 8; omega
  · rw [qd_]; show 1 + sz.szs (c.parts.take j) ≤ 64; omega
  · rw [ie_]
    refine ⟨?_, fun p hp => fine_part hf (List.mem_of_mem_take hp)⟩
    unfold fieldErr
    have hlen : (c.pre j).parts.length = j := by show (c.parts.take j).length = j; simp; omega
    rw [if_neg (by show ¬ ((5 : Int) < 1 ∨ 7 < (5 : Int)); omega)]
    simp only [hlen]
    have hk5 : (c.pre j).kind = 5 := rfl
    rw [hk5]
    simp [nd, el_, pre, name, lo, hi]
    omega
end Con
end Go.Vs
namespace Go.Vs
open Go Go.Sx
structure PQ (f : Int) (q : Pc) : Prop where
  frm : q.frm = f
  sm : q.sm
  ok : q.valid = true
section
variable {f : Int} (h0 : -1 ≤ f) (h1 : f < 1024) {a b c r s t : Str} {lo hi : Int}
include h0 h1
theorem pY_ (ha : bp_ a = true) (hc : bp_ c = true) : Pc.valid ⟨1, a, [], c, [], [], [], 0, 0, f⟩ = true := by
  unfold Pc.valid; rw [if_neg (by simp; omega)]; simp [nus, fq_, ch_, ha, hc]
theorem val2 (ha : bp_ a = true) (hb : bp_ b = true) (hc : bp_ c = true) : Pc.valid ⟨2, a, b, c, [], [], [], 0, 0, f⟩ = true := by
  unfold Pc.valid; rw [if_neg (by simp; omega)]; simp [nus, fq_, ch_, ha, hb, hc]
theorem val3 (ha : bp_ a = true) (hr : cw_ r = true) (hc : bp_ c = true) : Pc.valid ⟨3, a, [], c, r, [], [], 0, 0, f⟩ = true := by
  unfold Pc.valid; rw [if_neg (by simp; omega)]; simp [nus, fq_, ch_, ha, hr, hc]
theorem val4 (ha : bp_ a = true) (hr : cw_ r = true) (hc : bp_ c = true) : Pc.valid ⟨4, a, [], c, r, [], [], 0, 0, f⟩ = true := by
  unfold Pc.valid; rw [if_neg (by simp; omega)]; simp [nus, fq_, ch_, ha, hr, hc]
theorem val5 (hr : cw_ r = true) (ht : cw_ t = true) : Pc.valid ⟨5, [], [], [], r, [], t, 0, 0, f⟩ = true := by
  unfold Pc.valid; rw [if_neg (by simp; omega)]; simp [nus, fq_, ch_, hr, ht]
theorem val6 (hr : cw_ r = true) (hs : cw_ s = true) (ht : cw_ t = true) : Pc.valid ⟨6, [], [], [], r, s, t, 0, 0, f⟩ = true := by
  unfold Pc.valid; rw [if_neg (by simp; omega)]; simp [nus, fq_, ch_, hr, hs, ht]
theorem val7 (hr : cw_ r = true) : Pc.valid ⟨7, [], [], [], r, [], [], 0, 0, f⟩ = true := by
  unfold Pc.valid; rw [if_neg (by simp; omega)]; simp [nus, fq_, ch_, hr]
theorem val8 (ha : bp_ a = true) (hr : bi_ r = true) (hn : -1099511627776 ≤ lo ∧ lo ≤ hi ∧ hi ≤ 1099511627776) : Pc.valid ⟨8, a, [], [], r, [], [], lo, hi, f⟩ = true := by
  unfold Pc.valid; rw [if_neg (by simp; omega), if_neg (by simp [nus, fq_]; omega)]; simp [nus, fq_, ch_, ha, hr]
theorem val9 (hc : bp_ c = true) (hr : bi_ r = true) (hn : -1099511627776 ≤ lo ∧ lo ≤ hi ∧ hi ≤ 1099511627776) : Pc.valid ⟨9, [], [], c, r, [], [], lo, hi, f⟩ = true := by
  unfold Pc.valid; rw [if_neg (by simp; omega), if_neg (by simp [nus, fq_]; omega)]; simp [nus, fq_, ch_, hc, hr]
end
theorem di_ {Q : Pc → Prop} {f : Int} {l : List Pc} {p : Pc} (hl : ∀ q ∈ l, Q q) (hp : Q { p with frm := f }) : ∀ q ∈ ins f l p, Q q := by
  unfold ins
  split
  · exact hl
  · intro q hq
    rcases List.mem_append.1 hq with hq | hq
    · exact hl q hq
    · simp only [List.mem_singleton] at hq; subst hq; exact hp
theorem dC_ {s : Str} (h : bL_ s = true) : s.length ≤ 24 := Con.plain_len h
theorem it_ {s : Str} (h : bi_ s = true) : s.length ≤ 24 := by
  simp only [bi_, Bool.or_eq_true] at h
  rcases h with h | h
  · exact Con.plain_len h
  · exact Con.reserved_len h
namespace Con
section
variable {f : Int} (h0 : -1 ≤ f) (h1 : f < 1024)
include h0 h1
theorem nq_ (c : Con) (hok : c.ok) (hc : c.check = 0) (hk : c.kind = 5) : ∀ (r : List Con) (j : Nat) (a : Str) (l : List Pc), 1 ≤ j → j + r.length ≤ c.parts.length → (∀ p ∈ r, p ∈ c.parts) → bp_ a = true → a.length ≤ 7000 → (∀ q ∈ l, PQ f q) → ∀ q ∈ andP f c r j a l, PQ f q
  | [], _, _, l, _, _, _, _, _, hl => hl
  | p :: r, j, a, l, hj, hlen, hm, ha, hal, hl => by
    simp only [List.length_cons] at hlen
    have hp := hm p (by simp)
    have hpre := ph_ hc hk (j := j + 1) (by omega) (by omega)
    have x1 := atom_ok hpre
    have x2 := atom_len (pre_ok hok (j + 1)) hpre
    have x3 := atom_ok (cA_ hc hp)
    have x4 := atom_len (ok_part hok hp) (cA_ hc hp)
    simp only [andP]
    exact nq_ c hok hc hk r (j + 1) _ _ (by omega) (by omega) (fun q hq => hm q (by simp [hq])) x1 x2
      (di_ hl ⟨rfl, ⟨by dsimp only; omega, by dsimp only; omega, by dsimp only; omega, by simp, by simp, by simp⟩, val2 h0 h1 ha x3 x1⟩)
theorem leftP_all : ∀ (m : Nat) (c : Con), c.sz ≤ m → c.ok → c.check = 0 → ∀ l, (∀ q ∈ l, PQ f q) → ∀ q ∈ c.leftP f l, PQ f q
  | 0, c, h => by have := c.sz_pos; omega
  | m + 1, c, h => fun hok hc l hl => by
    have key : ∀ ps : List Con, (∀ p ∈ ps, p ∈ c.parts) → ∀ l, (∀ q ∈ l, PQ f q) → ∀ q ∈ leftP.lefts f ps l, PQ f q := by
      intro ps
      induction ps with
      | nil => intro _ l hl; exact hl
      | cons p ps ih =>
        intro hp l hl
        have hpm := hp p (by simp)
        exact ih (fun q hq => hp q (by simp [hq])) _ (leftP_all m p (by have := sz_part hpm; omega) (ok_part hok hpm) (cA_ hc hpm) l hl)
    have hk := key c.parts (fun _ h => h) l hl
    have F := fields (check_zero hc).1
    have N := jN_ (check_zero hc).1
    have ca := atom_ok hc
    have cl := atom_len hok hc
    rw [leftP_eq]
    split
    · rename_i h5
      have hle := F.le
      rw [h5] at hle
      simp [nd, el_] at hle
      match hp : c.parts, hle with
      | [], hle => simp at hle
      | p :: r, _ =>
        have hpm : p ∈ c.parts := by rw [hp]; simp
        have x3 := atom_ok (cA_ hc hpm)
        have x4 := atom_len (ok_part hok hpm) (cA_ hc hpm)
        refine nq_ h0 h1 c hok hc h5 _ 1 _ _ (by omega) (by rw [hp]; simp; omega) (fun q hq => by rw [hp]; exact List.mem_of_mem_drop hq) (by simpa using x3) (by simpa using x4) (by rw [hp] at hk; exact hk)
    · split
      · rename_i h6
        have hle := F.le
        rw [h6] at hle
        simp [nd, el_] at hle
        have hpl := N.plain (.inr (.inl h6))
        match hp : c.parts, hle with
        | [], hle => simp at hle
        | p :: r, _ =>
          have hpm : p ∈ c.parts := by rw [hp]; simp
          have x3 := atom_ok (cA_ hc hpm)
          have x4 := atom_len (ok_part hok hpm) (cA_ hc hpm)
          have x5 := dC_ hpl
          rw [hp] at hk
          exact di_ hk ⟨rfl, ⟨by simp; omega, by simp, by dsimp only; omega, by dsimp only; omega, by simp, by simp⟩, val4 h0 h1 (by simpa using x3) (dk_ hpl) ca⟩
      · split
        · rename_i h7
          have hpl := N.plain (.inr (.inr h7))
          have x5 := dC_ hpl
          exact di_ hl ⟨rfl, ⟨by simp, by simp, by dsimp only; omega, by dsimp only; omega, by simp, by simp⟩, val9 h0 h1 ca (df_ hpl) (N.nums h7)⟩
        · exact hl
theorem rightP_all : ∀ (m : Nat) (c : Con), c.sz ≤ m → c.ok → c.check = 0 → ∀ l, (∀ q ∈ l, PQ f q) → ∀ q ∈ c.rightP f l, PQ f q
  | 0, c, h => by have := c.sz_pos; omega
  | m + 1, c, h => fun hok hc l hl => by
    have ca := atom_ok hc
    have cl := atom_len hok hc
    have key : ∀ ps : List Con, (∀ p ∈ ps, p ∈ c.parts) → ∀ l, (∀ q ∈ l, PQ f q) → ∀ q ∈ rightP.rights f c.atom ps l, PQ f q := by
      intro ps
      induction ps with
      | nil => intro _ l hl; exact hl
      | cons p ps ih =>
        intro hp l hl
        have hpm := hp p (by simp)
        have x3 := atom_ok (cA_ hc hpm)
        have x4 := atom_len (ok_part hok hpm) (cA_ hc hpm)
        exact ih (fun q hq => hp q (by simp [hq])) _ (rightP_all m p (by have := sz_part hpm; omega) (ok_part hok hpm) (cA_ hc hpm) _
          (di_ hl ⟨rfl, ⟨by dsimp only; omega, by simp, by dsimp only; omega, by simp, by simp, by simp⟩, pY_ h0 h1 ca x3⟩))
    have key2 : ∀ ps : List Con, (∀ p ∈ ps, p ∈ c.parts) → ∀ l, (∀ q ∈ l, PQ f q) → ∀ q ∈ rightP.righty f ps l, PQ f q := by
      intro ps
      induction ps with
      | nil => intro _ l hl; exact hl
      | cons p ps ih =>
        intro hp l hl
        have hpm := hp p (by simp)
        exact ih (fun q hq => hp q (by simp [hq])) _ (rightP_all m p (by have := sz_part hpm; omega) (ok_part hok hpm) (cA_ hc hpm) l hl)
    have F := fields (check_zero hc).1
    have N := jN_ (check_zero hc).1
    rw [rightP_eq]
    split
    · exact key c.parts (fun _ h => h) l hl
    · split
      · rename_i h6
        have hle := F.le
        rw [h6] at hle
        simp [nd, el_] at hle
        have hpl := N.plain (.inr (.inl h6))
        have x5 := dC_ hpl
        refine key2 c.parts (fun _ h => h) _ (di_ hl ?_)
        match hp : c.parts, hle with
        | [], hle => simp at hle
        | p :: r, _ =>
          have hpm : p ∈ c.parts := by rw [hp]; simp
          have x3 := atom_ok (cA_ hc hpm)
          have x4 := atom_len (ok_part hok hpm) (cA_ hc hpm)
          exact ⟨rfl, ⟨by dsimp only; omega, by simp, by simp; omega, by dsimp only; omega, by simp, by simp⟩, val3 h0 h1 ca (dk_ hpl) (by simpa using x3)⟩
      · split
        · rename_i h7
          have hpl := N.plain (.inr (.inr h7))
          have x5 := dC_ hpl
          exact di_ hl ⟨rfl, ⟨by dsimp only; omega, by simp, by simp, by dsimp only; omega, by simp, by simp⟩, val8 h0 h1 ca (df_ hpl) (N.nums h7)⟩
        · exact hl
end
end Con
namespace Ax
section
variable {f : Int} (h0 : -1 ≤ f) (h1 : f < 1024)
include h0 h1
theorem ko_ (role : Str) (hr : bL_ role = true) : ∀ (rs : List Str) (g : Str) (l : List Pc), (∀ r ∈ rs, bL_ r = true) → (bs_ 46 g).length + rs.length ≤ 4 → ((bs_ 46 g).all bi_ = true) → g.length ≤ 100 * (bs_ 46 g).length → (∀ q ∈ l, PQ f q) → ∀ q ∈ chainP f role rs g l, PQ f q
  | [], _, _, _, _, _, _, hl => hl
  | r :: t, g, l, hp, hn, hg, hgl, hl => by
    have hpr := hp r (by simp)
    have hrl := dC_ hpr
    have hrol := dC_ hr
    simp only [List.length_cons] at hn
    have hgr : cw_ g = true := by
      unfold cw_
      rw [decide_eq_true (by omega)]
      simp only [Bool.true_and, Bool.not_eq_true']
      rw [List.any_eq_false]
      intro y hy
      simp [List.all_eq_true.1 hg y hy]
    simp only [chainP]
    by_cases ht : t = []
    · subst ht
      simp only [if_true, chainP]
      exact di_ hl ⟨rfl, ⟨by simp, by simp, by simp, by dsimp only; omega, by dsimp only; omega, by dsimp only; omega⟩, val6 h0 h1 hgr (dk_ hpr) (dk_ hr)⟩
    · simp only [ht, if_false]
      have htl : 0 < t.length := List.length_pos_iff.2 ht
      have e := jr_ 46 g r
      rw [gL_ hpr] at e
      have hall : (bs_ 46 (g ++ [46] ++ r)).all bi_ = true := by rw [e, List.all_append, hg]; simp [df_ hpr]
      have hlen : (bs_ 46 (g ++ [46] ++ r)).length = (bs_ 46 g).length + 1 := by rw [e]; simp
      have hgl2 : (g ++ [46] ++ r).length ≤ 100 * (bs_ 46 (g ++ [46] ++ r)).length := by rw [hlen]; simp; omega
      have hgr2 : cw_ (g ++ [46] ++ r) = true := by
        unfold cw_
        rw [decide_eq_true (by omega)]
        simp only [Bool.true_and, Bool.not_eq_true']
        rw [List.any_eq_false]
        intro y hy
        simp [List.all_eq_true.1 hall y hy]
      exact ko_ role hr t _ _ (fun q hq => hp q (by simp [hq])) (by omega) hall hgl2
        (di_ hl ⟨rfl, ⟨by simp, by simp, by simp, by dsimp only; omega, by dsimp only; omega, by dsimp only; omega⟩, val6 h0 h1 hgr (dk_ hpr) hgr2⟩)
theorem pieces_all {x : Ax} (hok : x.ok) (hc : x.check = 0) : ∀ q ∈ x.pieces f, PQ f q := by
  have G := good_of hc
  have L := fun (c : Con) (hok : c.ok) (hc : c.check = 0) => Con.leftP_all h0 h1 _ c (Nat.le_refl _) hok hc
  have Rr := fun (c : Con) (hok : c.ok) (hc : c.check = 0) => Con.rightP_all h0 h1 _ c (Nat.le_refl _) hok hc
  have n : ∀ q ∈ ([] : List Pc), PQ f q := fun q hq => by cases hq
  have h1' := G.k1
  have h9 := G.k9
  have A := fun (c : Con) (hok : c.ok) (hc : c.check = 0) => (⟨Con.atom_ok hc, Con.atom_len hok hc⟩ : bp_ c.atom = true ∧ c.atom.length ≤ 7000)
  unfold pieces
  split
  · have l := G.left (by omega); have r := G.right (by omega)
    have a1 := A _ hok.left l; have a2 := A _ hok.right r
    exact di_ (Rr _ hok.right r _ (L _ hok.left l _ n)) ⟨rfl, ⟨by dsimp only; omega, by simp, by dsimp only; omega, by simp, by simp, by simp⟩, pY_ h0 h1 a1.1 a2.1⟩
  · split
    · have l := G.left (by omega); have r := G.right (by omega)
      have a1 := A _ hok.left l; have a2 := A _ hok.right r
      exact di_ (Rr _ hok.left l _ (L _ hok.right r _ (di_ (Rr _ hok.right r _ (L _ hok.left l _ n)) ⟨rfl, ⟨by dsimp only; omega, by simp, by dsimp only; omega, by simp, by simp, by simp⟩, pY_ h0 h1 a1.1 a2.1⟩))) ⟨rfl, ⟨by dsimp only; omega, by simp, by dsimp only; omega, by simp, by simp, by simp⟩, pY_ h0 h1 a2.1 a1.1⟩
    · split
      · have l := G.left (by omega); have r := G.right (by omega)
        have a1 := A _ hok.left l; have a2 := A _ hok.right r
        exact di_ (L _ hok.right r _ (L _ hok.left l _ n)) ⟨rfl, ⟨by dsimp only; omega, by dsimp only; omega, by simp, by simp, by simp, by simp⟩, val2 h0 h1 a1.1 a2.1 rfl⟩
      · split
        · have r := G.right (by omega); have a2 := A _ hok.right r; have p := G.role (by omega); have pl := dC_ p
          exact di_ (Rr _ hok.right r _ n) ⟨rfl, ⟨by simp, by simp, by dsimp only; omega, by dsimp only; omega, by simp, by simp⟩, val4 h0 h1 rfl (dk_ p) a2.1⟩
        · split
          · rename_i h5
            have p := G.role (by omega); have pl := dC_ p
            have ho := G.one h5
            match hr : x.roles, ho with
            | [r], _ =>
              have p2 := G.roles r (by rw [hr]; simp); have pl2 := dC_ p2
              exact di_ n ⟨rfl, ⟨by simp, by simp, by simp, by simp; omega, by simp, by dsimp only; omega⟩, val5 h0 h1 (by simpa using dk_ p2) (dk_ p)⟩
          · split
            · rename_i h6
              have p := G.role (by omega)
              have hch := G.chain h6
              match hr : x.roles, hch with
              | [], hch => simp at hch
              | r :: t, hch =>
                have p2 := G.roles r (by rw [hr]; simp); have pl2 := dC_ p2
                have e := gL_ p2
                simp only [List.length_cons] at hch
                simp only [List.drop_succ_cons, List.drop_zero, List.headD_cons]
                exact ko_ h0 h1 x.role p t r [] (fun q hq => G.roles q (by rw [hr]; simp [hq])) (by rw [e]; simp; omega) (by rw [e]; simp [df_ p2]) (by rw [e]; simp; omega) n
            · split
              · have p := G.role (by omega); have pl := dC_ p
                exact di_ n ⟨rfl, ⟨by simp, by simp, by simp, by dsimp only; omega, by simp, by simp⟩, val7 h0 h1 (dk_ p)⟩
              · split
                · have r := G.right (by omega); have a2 := A _ hok.right r; have p := G.a (by omega); have pl := it_ p
                  exact di_ (Rr _ hok.right r _ n) ⟨rfl, ⟨by simp; omega, by simp, by dsimp only; omega, by simp, by simp, by simp⟩, pY_ h0 h1 (in_ p) a2.1⟩
                · have p := G.role (by omega); have pl := dC_ p; have pa := G.a (by omega); have pb := G.b (by omega); have l1 := it_ pa; have l2 := it_ pb
                  exact di_ n ⟨rfl, ⟨by simp; omega, by simp, by simp; omega, by dsimp only; omega, by simp, by simp⟩, val3 h0 h1 (in_ pa) (dk_ p) (in_ pb)⟩
end
end Ax
def dJ_ (k : Int) (p : Pc) : Pc := { p with frm := p.frm + k }
theorem oY_ {k : Int} {p q : Pc} (h : dJ_ k p = dJ_ k q) : p = q := by
  cases p; cases q
  simp only [dJ_, Pc.mk.injEq] at h ⊢
  refine ⟨h.1, h.2.1, h.2.2.1, h.2.2.2.1, h.2.2.2.2.1, h.2.2.2.2.2.1, h.2.2.2.2.2.2.1, h.2.2.2.2.2.2.2.1, h.2.2.2.2.2.2.2.2.1, by omega⟩
theorem cv_ (f k : Int) (l : List Pc) (p : Pc) : ins (f + k) (l.map (dJ_ k)) p = (ins f l p).map (dJ_ k) := by
  have hm : ({ p with frm := f + k } : Pc) ∈ l.map (dJ_ k) ↔ ({ p with frm := f } : Pc) ∈ l := by
    rw [List.mem_map]
    constructor
    · rintro ⟨q, hq, e⟩
      have : q = { p with frm := f } := oY_ (k := k) e
      exact this ▸ hq
    · exact fun h => ⟨_, h, rfl⟩
  unfold ins
  by_cases h : ({ p with frm := f } : Pc) ∈ l
  · rw [if_pos (hm.2 h), if_pos h]
  · rw [if_neg (fun q => h (hm.1 q)), if_neg h, List.map_append]; rfl
namespace Con
theorem kr_ (f k : Int) (c : Con) : ∀ (r : List Con) (j : Nat) (a : Str) (l : List Pc), andP (f + k) c r j a (l.map (dJ_ k)) = (andP f c r j a l).map (dJ_ k)
  | [], _, _, _ => rfl
  | p :: r, j, a, l => by simp only [andP, cv_]; exact kr_ f k c r (j + 1) _ _
theorem leftP_shift (f k : Int) : ∀ (m : Nat) (c : Con), c.sz ≤ m → ∀ l, c.leftP (f + k) (l.map (dJ_ k)) = (c.leftP f l).map (dJ_ k)
  | 0, c, h => by have := c.sz_pos; omega
  | m + 1, c, h => fun l => by
    have key : ∀ ps : List Con, (∀ p ∈ ps, p.sz ≤ m) → ∀ l, leftP.lefts (f + k) ps (l.map (dJ_ k)) = (leftP.lefts f ps l).map (dJ_ k) := by
      intro ps
      induction ps with
      | nil => intro _ l; rfl
      | cons p ps ih =>
        intro hp l
        simp only [leftP.lefts]
        rw [leftP_shift f k m p (hp p (by simp)) l]
        exact ih (fun q hq => hp q (by simp [hq])) _
    have hk := key c.parts (fun p hp => by have := sz_part hp; omega) l
    rw [leftP_eq, leftP_eq, hk]
    split
    · exact kr_ _ _ _ _ _ _ _
    · split
      · exact cv_ _ _ _ _
      · split
        · exact cv_ _ _ _ _
        · rfl
theorem rightP_shift (f k : Int) : ∀ (m : Nat) (c : Con), c.sz ≤ m → ∀ l, c.rightP (f + k) (l.map (dJ_ k)) = (c.rightP f l).map (dJ_ k)
  | 0, c, h => by have := c.sz_pos; omega
  | m + 1, c, h => fun l => by
    have key : ∀ ps : List Con, (∀ p ∈ ps, p.sz ≤ m) → ∀ a l, rightP.rights (f + k) a ps (l.map (dJ_ k)) = (rightP.rights f a ps l).map (dJ_ k) := by
      intro ps
      induction ps with
      | nil => intro _ a l; rfl
      | cons p ps ih =>
        intro hp a l
        simp only [rightP.rights]
        rw [cv_, rightP_shift f k m p (hp p (by simp))]
        exact ih (fun q hq => hp q (by simp [hq])) _ _
    have key2 : ∀ ps : List Con, (∀ p ∈ ps, p.sz ≤ m) → ∀ l, rightP.righty (f + k) ps (l.map (dJ_ k)) = (rightP.righty f ps l).map (dJ_ k) := by
      intro ps
      induction ps with
      | nil => intro _ l; rfl
      | cons p ps ih =>
        intro hp l
        simp only [rightP.righty]
        rw [rightP_shift f k m p (hp p (by simp))]
        exact ih (fun q hq => hp q (by simp [hq])) _
    have hps : ∀ p ∈ c.parts, p.sz ≤ m := fun p hp => by have := sz_part hp; omega
    rw [rightP_eq, rightP_eq]
    split
    · exact key c.parts hps _ l
    · split
      · rw [cv_]; exact key2 c.parts hps _
      · split
        · exact cv_ _ _ _ _
        · rfl
end Con
theorem Ax.chainP_shift (f k : Int) (ro : Str) : ∀ (rs : List Str) (g : Str) (l : List Pc), Ax.chainP (f + k) ro rs g (l.map (dJ_ k)) = (Ax.chainP f ro rs g l).map (dJ_ k)
  | [], _, _ => rfl
  | r :: t, g, l => by simp only [Ax.chainP, cv_]; exact Ax.chainP_shift f k ro t _ _
theorem Ax.pieces_shift (f k : Int) (x : Ax) : x.pieces (f + k) = (x.pieces f).map (dJ_ k) := by
  have L := fun (c : Con) l => Con.leftP_shift f k _ c (Nat.le_refl _) l
  have Rr := fun (c : Con) l => Con.rightP_shift f k _ c (Nat.le_refl _) l
  have n : ([] : List Pc) = ([] : List Pc).map (dJ_ k) := rfl
  unfold Ax.pieces
  repeat' split
  · rw [n, L, Rr, cv_]; rfl
  · rw [n, L, Rr, cv_, L, Rr, cv_]; rfl
  · rw [n, L, L, cv_]; rfl
  · rw [n, Rr, cv_]; rfl
  · rw [n, cv_]; rfl
  · rw [n, Ax.chainP_shift]; rfl
  · rw [n, cv_]; rfl
  · rw [n, Rr, cv_]; rfl
  · rw [n, cv_]; rfl
def fr_ : Nat → List Ax → List Pc
  | _, [] => []
  | i, x :: l => x.pieces (i : Int) ++ fr_ (i + 1) l
theorem nd_ : ∀ (i : Nat) (l : List Ax), (∀ x ∈ l, x.check = 0) → (fr_ i l).length ≤ 1000 * l.length
  | _, [], _ => by simp [fr_]
  | i, x :: l, h => by
    have h1 := hw_ (i : Int) (Ax.good_of (h x (by simp)))
    have h2 := nd_ (i + 1) l fun y hy => h y (by simp [hy])
    simp only [fr_, List.length_append, List.length_cons]
    omega
theorem kV_ : ∀ (l : List Ax) (i : Nat) (p : List Pc), (∀ x ∈ l, x.check = 0) → p.length + 1000 * l.length ≤ 16384 → go_ i l p = some (p ++ fr_ i l)
  | [], i, p, _, _ => by simp [go_, fr_]
  | x :: l, i, p, h, hl => by
    have h1 := hw_ (i : Int) (Ax.good_of (h x (by simp)))
    simp only [List.length_cons] at hl
    simp only [go_, fr_]
    rw [if_neg (by simp; omega), kV_ l (i + 1) _ (fun y hy => h y (by simp [hy])) (by simp; omega), List.append_assoc]
theorem iL_ : ∀ (xs ys : List Ax) (i : Nat), fr_ i (xs ++ ys) = fr_ i xs ++ fr_ (i + xs.length) ys
  | [], ys, i => by simp [fr_]
  | x :: xs, ys, i => by
    simp only [List.cons_append, fr_, List.length_cons, List.append_assoc]
    rw [iL_ xs ys (i + 1), show i + 1 + xs.length = i + (xs.length + 1) by omega]
theorem kc_ (k : Nat) : ∀ (l : List Ax) (i : Nat), fr_ (i + k) l = (fr_ i l).map (dJ_ (k : Int))
  | [], _ => rfl
  | x :: l, i => by
    simp only [fr_, List.map_append]
    rw [show ((i + k : Nat) : Int) = (i : Int) + (k : Int) by omega, Ax.pieces_shift, show i + k + 1 = i + 1 + k by omega, kc_ k l (i + 1)]
theorem id_ : ∀ (l : List Ax) (i : Nat), i + l.length ≤ 1024 → (∀ x ∈ l, x.ok) → (∀ x ∈ l, x.check = 0) → ∀ q ∈ fr_ i l, (i : Int) ≤ q.frm ∧ q.frm < ((i + l.length : Nat) : Int) ∧ q.sm ∧ q.valid = true
  | [], _, _, _, _ => by simp [fr_]
  | x :: l, i, hi, hok, hc => by
    simp only [List.length_cons] at hi ⊢
    intro q hq
    simp only [fr_] at hq
    rcases List.mem_append.1 hq with hq | hq
    · have h := Ax.pieces_all (f := (i : Int)) (by omega) (by omega) (hok x (by simp)) (hc x (by simp)) q hq
      exact ⟨by rw [h.frm]; omega, by rw [h.frm]; omega, h.sm, h.ok⟩
    · have h := id_ l (i + 1) (by omega) (fun y hy => hok y (by simp [hy])) (fun y hy => hc y (by simp [hy])) q hq
      exact ⟨by omega, by omega, h.2.2⟩
def Mono (l : List Pc) : Prop := l.Pairwise fun p q => p.frm ≤ q.frm
theorem kX_ : ∀ (l : List Ax) (i : Nat), i + l.length ≤ 1024 → (∀ x ∈ l, x.ok) → (∀ x ∈ l, x.check = 0) → Mono (fr_ i l)
  | [], _, _, _, _ => List.Pairwise.nil
  | x :: l, i, hi, hok, hc => by
    simp only [List.length_cons] at hi
    have h := Ax.pieces_all (f := (i : Int)) (by omega) (by omega) (hok x (by simp)) (hc x (by simp))
    have h2 := id_ l (i + 1) (by omega) (fun y hy => hok y (by simp [hy])) (fun y hy => hc y (by simp [hy]))
    simp only [fr_, Mono]
    rw [List.pairwise_append]
    refine ⟨?_, kX_ l (i + 1) (by omega) (fun y hy => hok y (by simp [hy])) (fun y hy => hc y (by simp [hy])), fun p hp q hq => ?_⟩
    · rw [List.pairwise_iff_getElem]
      intro a b ha hb _
      rw [(h _ (List.getElem_mem ha)).frm, (h _ (List.getElem_mem hb)).frm]; omega
    · rw [(h p hp).frm]
      have := (h2 q hq).1
      omega
theorem iN_ : ∀ {l : List Ax}, cG_ l = 0 → ∀ x ∈ l, x.check = 0
  | [], _, _, h => by cases h
  | y :: l, hb, x, hx => by
    simp only [cG_] at hb
    split at hb
    · rename_i hy
      rcases List.mem_cons.1 hx with rfl | hx
      · exact hy
      · exact iN_ hb x hx
    · rename_i hy; exact absurd hb hy
theorem nI_ {l : List Ax} (hl : l.length ≤ 12) (h : ∀ x ∈ l, x.check = 0) : bn_ l = (fr_ 0 l, 0) := by
  unfold bn_
  rw [if_neg (by omega), if_neg (by simp [dl_ h]), kV_ l 0 [] h (by simp; omega)]
  simp
theorem mE_ {l : List Ax} (hl : l.length ≤ 12) (h : cG_ l ≠ 0) : bn_ l = ([], cG_ l) := by
  unfold bn_
  rw [if_neg (by omega), if_pos h]
structure PartsLaw (l : List Ax) (k : Nat) (p a b : List Pc) (er ef eg : Int) : Prop where
  bad : er ≠ 0 → p = [] ∧ (ef ≠ 0 ∨ eg ≠ 0)
  ef : er = 0 → ef = 0
  eg : er = 0 → eg = 0
  eq : er = 0 → p = a ++ b.map (dJ_ (k : Int))
  chk : er = 0 → bD_ p = 0
  sm : ∀ q ∈ p, q.sm
  rng : er = 0 → ∀ q ∈ p, 0 ≤ q.frm ∧ q.frm < (l.length : Int)
  mono : er = 0 → Mono p
  len : p.length ≤ 12000 ∧ a.length ≤ 12000 ∧ b.length ≤ 12000
  fb : er = 0 → ∀ q ∈ b, 0 ≤ q.frm ∧ q.frm ≤ 12
theorem pq_ {l : List Ax} {k : Nat} (hl : l.length ≤ 12) (hk : k ≤ l.length) (hok : ∀ x ∈ l, x.ok) {p a b : List Pc} {er ef eg : Int} (hP : bn_ l = (p, er)) (hA : bn_ (l.take k) = (a, ef)) (hB : bn_ (l.drop k) = (b, eg)) : PartsLaw l k p a b er ef eg := by
  have hlt : (l.take k).length ≤ 12 := by simp; omega
  have hld : (l.drop k).length ≤ 12 := by simp; omega
  have lens : ∀ (m : List Ax) (q : List Pc) (e : Int), m.length ≤ 12 → bn_ m = (q, e) → q.length ≤ 12000 ∧ ((cG_ m = 0 ∧ e = 0 ∧ q = fr_ 0 m ∧ ∀ x ∈ m, x.check = 0) ∨ (cG_ m ≠ 0 ∧ e ≠ 0 ∧ q = [])) := by
    intro m q e hm he
    by_cases hb : cG_ m = 0
    · have hc := iN_ hb
      rw [nI_ hm hc] at he
      simp only [Prod.mk.injEq] at he
      obtain ⟨rfl, rfl⟩ := he
      have := nd_ 0 m hc
      exact ⟨by omega, .inl ⟨hb, rfl, rfl, hc⟩⟩
    · rw [mE_ hm hb] at he
      simp only [Prod.mk.injEq] at he
      obtain ⟨rfl, rfl⟩ := he
      exact ⟨by simp, .inr ⟨hb, hb, rfl⟩⟩
  obtain ⟨lp, cp⟩ := lens l p er hl hP
  obtain ⟨la, ca⟩ := lens _ a ef hlt hA
  obtain ⟨lb, cb⟩ := lens _ b eg hld hB
  rcases cp with ⟨p0, rfl, rfl, pc⟩ | ⟨p0, p1, rfl⟩
  · have ct : ∀ x ∈ l.take k, x.check = 0 := fun x hx => pc x (List.mem_of_mem_take hx)
    have cd : ∀ x ∈ l.drop k, x.check = 0 := fun x hx => pc x (List.mem_of_mem_drop hx)
    have hall := id_ l 0 (by omega) hok pc
    rcases ca with ⟨_, rfl, rfl, _⟩ | ⟨a0, _, _⟩
    · rcases cb with ⟨_, rfl, rfl, _⟩ | ⟨b0, _, _⟩
      · have halld := id_ (l.drop k) 0 (by omega) (fun x hx => hok x (List.mem_of_mem_drop hx)) cd
        refine ⟨fun h => absurd rfl h, fun _ => rfl, fun _ => rfl, fun _ => ?_, fun _ => ?_, fun q hq => (hall q hq).2.2.1, fun _ q hq => ?_, fun _ => kX_ l 0 (by omega) hok pc, ⟨lp, la, lb⟩, fun _ q hq => ?_⟩
        · rw [← kc_ k (l.drop k) 0]
          have e : l = l.take k ++ l.drop k := (List.take_append_drop k l).symm
          have h2 := iL_ (l.take k) (l.drop k) 0
          rw [List.take_append_drop, List.length_take, Nat.min_eq_left hk] at h2
          exact h2
        · unfold bD_
          rw [if_neg (by omega), if_pos (List.all_eq_true.2 fun q hq => (hall q hq).2.2.2)]
        · have := hall q hq; exact ⟨by omega, by omega⟩
        · have := halld q hq; exact ⟨by omega, by omega⟩
      · exact absurd (dl_ cd) b0
    · exact absurd (dl_ ct) a0
  · refine ⟨fun _ => ⟨rfl, ?_⟩, fun h => absurd h p1, fun h => absurd h p1, fun h => absurd h p1, fun h => absurd h p1, fun q hq => by (cases hq), fun h => absurd h p1, fun h => absurd h p1, ⟨by simp, la, lb⟩, fun h => absurd h p1⟩
    rcases ca with ⟨a0, _, _, ac⟩ | ⟨_, a1, _⟩
    · rcases cb with ⟨b0, _, _, bc⟩ | ⟨_, b1, _⟩
      · exfalso
        apply p0
        apply dl_
        intro x hx
        rw [← List.take_append_drop k l] at hx
        rcases List.mem_append.1 hx with hx | hx
        · exact ac x hx
        · exact bc x hx
      · exact .inr b1
    · exact .inl a1
end Go.Vs
namespace Go.Proofs.YtpdbbglpbngeiaaGreatDoor
open Go Go.Sx Go.Proofs
attribute [local irreducible] Code.wp wpList wpAnyH
open Go.Vs
theorem sk_ : ∀ (m : Nat) (c : Con), c.sz ≤ m → c.ok → ∀ (d most : Int), 0 ≤ d ∧ d ≤ 40 → 0 ≤ most ∧ most ≤ 1000 → Tri Tryz.prog 174 #[Con.val c, .int .i64 d, .int .i64 most] [] [Con.memF c] (fun r : {r : Int // 1 ≤ r ∧ r ≤ most + 4398046511104} => .int .i64 r.1) (fun _ => []) (fun _ => []) := by
 intro m
 induction m with
 | zero => intro c h; have := c.sz_pos; omega
 | succ m ih =>
  intro c hm hok d most hd hmost
  have hnl := Con.ok_name hok
  have hpl := Con.ok_len hok
  refine M_ Tryz.func174 rfl rfl Tryz.ntmps174 rfl fun v0 => ?_
  refine f_ (c_ (aF_ rfl rfl fun b1 => ?_))
  refine a_ (g_ rfl) rfl (d_ (b_ rfl (f_ (f_ (c_ (a_ (h_ rfl) rfl (x_ (cJ_ rfl rfl) rfl fun r1 hr1 => ?_)))))))
  refine d_ (b_ rfl ?_)
  cases r1
  ·
   replace hr1 := of_decide_eq_false hr1
   refine p_ rfl (A_ (b_ rfl (f_ (c_ (a_ (j_ K_ rfl rfl rfl s_) rfl (a_ (q_ 0 w_ rfl rfl rfl) rfl (a_ (co_ ar_ rfl) rfl (a_ (cb_ (ol_ (n := 40) rfl rfl (by decide) (aq_ (r := ((List.length (Con.name c) / 40 : Nat) : Int)) (by omega) (by omega))) (show _ = Value.int .i64 ((List.length (Con.name c) / 40 : Nat) : Int) from rfl)) rfl (a_ (V_ rfl rfl rfl (aq_ (by omega) (by omega))) rfl ?_)))))))))
   refine a_ (g_ rfl) rfl (d_ (b_ rfl (f_ (f_ (c_ (a_ (g_ rfl) rfl (d_ (b_ rfl (S_ ?_)))))))))
   refine bS_ [(1, .int .i64 d), (2, .int .i64 most), (3, zp_ b1 0), (7, .int .i64 (1 + ((List.length (Con.name c) / 40 : Nat) : Int))), (8, .int .i64 ((0 : Nat) : Int))] ⟨rfl, rfl, rfl, rfl, rfl, trivial⟩ ?_
   refine bY_ (ι := {x : Nat × Int // x.1 ≤ c.parts.length ∧ 1 ≤ x.2 ∧ x.2 ≤ most + 4398046511104}) (fun x => [(1, .int .i64 d), (2, .int .i64 most), (3, zp_ b1 0), (7, .int .i64 x.1.2), (8, .int .i64 (x.1.1 : Int))]) (fun _ => _) (fun _ => _) (fun x => c.parts.length - x.1.1) ⟨(0, 1 + ((List.length (Con.name c) / 40 : Nat) : Int)), by simp, by dsimp only; omega, by dsimp only; omega⟩ ?_
   rintro ⟨⟨i, n⟩, hk⟩
   dsimp only at hk
   refine bS_ [(1, .int .i64 d), (2, .int .i64 most), (3, zp_ b1 0), (7, .int .i64 n), (8, .int .i64 (i : Int))] ⟨rfl, rfl, rfl, rfl, rfl, trivial⟩ ?_
   refine f_ (f_ (c_ (a_ (h_ rfl) rfl (a_ (j_ K_ rfl rfl rfl bw_) rfl (a_ (q_ 0 bM_ rfl rfl rfl) rfl (a_ (ah_ av_ rfl) rfl (x_ (az_ rfl rfl) rfl fun r2 hr2 => ?_)))))))
   refine a_ (h_ rfl) rfl ?_
   refine aT_ 4 ((decide ((i : Int) < (List.length (Con.parts c) : Int))) && (decide (n ≤ most))) (fun r => [(1, .int .i64 d), (2, .int .i64 most), (3, zp_ b1 0), (7, .int .i64 n), (8, .int .i64 (i : Int)), (27, .bool r)]) ?_ fun r3 hr3 => ?_
   ·
    cases r2
    ·
     have qr3 := hr2
     replace hr2 := of_decide_eq_false hr2
     refine t_ rfl rfl rfl rfl (t_ rfl rfl rfl rfl (t_ rfl rfl rfl rfl (a_ (N_ rfl rfl) rfl (d_ (r_ rfl ?_)))))
     exact met ⟨rfl, rfl, rfl, rfl, rfl, (E_ rfl (jaf qr3)), trivial⟩
    ·
     have qr3 := hr2
     replace hr2 := of_decide_eq_true hr2
     refine o_ rfl rfl (a_ (h_ rfl) rfl (o_ rfl rfl (a_ (h_ rfl) rfl (o_ rfl rfl (x_ (cJ_ rfl rfl) rfl fun r4 hr4 => ?_)))))
     refine a_ (R_ rfl rfl) rfl (d_ (r_ rfl ?_))
     exact met ⟨rfl, rfl, rfl, rfl, rfl, (E_ rfl (jat qr3 hr4)), trivial⟩
   ·
    refine d_ (b_ rfl ?_)
    cases r3
    ·
     simp at hr3
     refine p_ rfl (aD_ rfl (b_ rfl (f_ (c_ (a_ (h_ rfl) rfl (a_ (g_ rfl) rfl (d_ (b_ rfl (B_ ?_)))))))))
     exact as_ Tryz.results174 ⟨n, by omega, by omega⟩ rfl (@List.perm_append_comm _ [_] _) (fun _ _ _ => trivial)
    ·
     simp at hr3
     skip
     have hlx1 : i < List.length (Con.parts c) := by omega
     obtain ⟨x1, hx1⟩ : ∃ e0, (Con.parts c)[i]? = some e0 := ⟨_, List.getElem?_eq_getElem hlx1⟩
     have hmx1 : x1 ∈ (Con.parts c) := List.mem_of_getElem? hx1
     refine n_ rfl (A_ (b_ rfl (f_ (S_ (c_ (a_ (h_ rfl) rfl (a_ (j_ K_ rfl rfl rfl bw_) rfl (a_ (q_ 0 bM_ rfl rfl rfl) rfl (a_ (h_ rfl) rfl ?_)))))))))
     refine a_ (ak_ av_ v_ rfl rfl (fun v _ h => aL_ (n := 5) Con.cells_len (by decide) (by exact ((Con.mem_iff c v).1 h.1).1) hx1) (by omega) (by first | omega | (simp; done))) rfl (a_ (aE_ (ad := (Con.ad c)) (us := Con.cells x1) T_ v_ rfl (fun v _ h => by exact ((Con.mem_iff c v).1 h.1).1) (Con.cells_len _) (an_ Con.cells_len hx1)) rfl (a_ (h_ rfl) rfl (a_ (V_ rfl rfl rfl (aq_ (by omega) (by omega))) rfl (a_ (h_ rfl) rfl (a_ (h_ rfl) rfl (a_ (V_ rfl rfl rfl (aq_ (by omega) (by omega))) rfl (Q_ (ih x1 (by have := Con.sz_part hmx1; omega) (Con.ok_part hok hmx1) (d - 1) (most - n) ⟨by omega, by omega⟩ ⟨by omega, by omega⟩) rfl W_ (fun v _ h => by exact ⟨(Con.mem_part (c := c) h.1 hmx1), trivial⟩) rfl fun ⟨r, hr1, hr2⟩ => ?_)))))))
     dsimp only
     refine a_ (V_ rfl rfl rfl (aq_ (by omega) (by omega))) rfl (a_ (g_ rfl) rfl (d_ (b_ rfl (c_ (a_ (h_ rfl) rfl (a_ (V_ rfl rfl rfl (aq_ (by omega) (by omega))) rfl (a_ (g_ rfl) rfl (d_ (r_ rfl ?_)))))))))
     exact ao_ ⟨(i + 1, n + r), hlx1, by dsimp only; omega, by dsimp only; omega⟩ (by dsimp only; omega) ⟨rfl, rfl, rfl, rfl, rfl, trivial⟩ (.refl _) (fun _ _ h => h)
  ·
   replace hr1 := of_decide_eq_true hr1
   refine n_ rfl (f_ (c_ (a_ (h_ rfl) rfl (a_ (V_ rfl rfl rfl (aq_ (by omega) (by omega))) rfl (a_ (g_ rfl) rfl (d_ (b_ rfl (B_ ?_))))))))
   exact as_ Tryz.results174 ⟨(most + 1), by omega, by omega⟩ rfl (@List.perm_append_comm _ [_] _) (fun _ _ _ => trivial)
theorem oI_ (c : Con) (hok : c.ok) : Tri Tryz.prog 132 #[Con.val c] [] [Con.memF c] (fun b : Bool => .bool b) (fun _ => []) (fun _ => []) := by
  refine M_ Tryz.func132 rfl rfl Tryz.ntmps132 rfl fun v0 => ?_
  refine f_ (c_ (aF_ rfl rfl fun b1 => ?_))
  refine a_ (g_ rfl) rfl (d_ (b_ rfl (f_ (c_ (a_ (L_ 0 T_ v_ rfl rfl rfl) rfl (Q_ (sk_ _ c (Nat.le_refl _) hok 40 150 ⟨by decide, by decide⟩ ⟨by decide, by decide⟩) rfl W_ (fun v _ h => by exact ⟨h.1, trivial⟩) rfl fun ⟨r, hr1, hr2⟩ => ?_))))))
  dsimp only
  refine x_ (cJ_ rfl rfl) rfl fun r1 hr1 => ?_
  refine a_ (g_ rfl) rfl (d_ (b_ rfl (B_ ?_)))
  exact as_ Tryz.results132 r1 rfl (@List.perm_append_comm _ [_] _) (fun _ _ _ => trivial)
theorem nZ_ (x : Ax) (hok : x.ok) : Tri Tryz.prog 91 #[Ax.val x] [] [Ax.memF x] (fun b : Bool => .bool b) (fun _ => []) (fun _ => []) := by
 refine M_ Tryz.func91 rfl rfl Tryz.ntmps91 rfl fun v0 => ?_
 have h1 := hok.role
 have h2 := hok.a
 have h3 := hok.b
 have h4 := hok.len
 have h5 := hok.cap
 refine f_ (c_ (aF_ rfl rfl fun b1 => ?_))
 refine a_ (g_ rfl) rfl (d_ (b_ rfl (f_ (c_ (a_ (j_ y_ rfl rfl rfl s_) rfl (a_ (q_ 0 w_ rfl rfl rfl) rfl (a_ (co_ ar_ rfl) rfl (a_ (j_ y_ rfl rfl rfl s_) rfl (a_ (q_ 0 w_ rfl rfl rfl) rfl ?_)))))))))
 refine a_ (co_ ar_ rfl) rfl (a_ (V_ rfl rfl rfl (aq_ (by omega) (by omega))) rfl (a_ (j_ y_ rfl rfl rfl s_) rfl (a_ (q_ 0 w_ rfl rfl rfl) rfl (a_ (co_ ar_ rfl) rfl (a_ (V_ rfl rfl rfl (aq_ (by omega) (by omega))) rfl (a_ (j_ y_ rfl rfl rfl bJ_) rfl (a_ (q_ 0 cI_ rfl rfl rfl) rfl (a_ (ah_ P_ rfl) rfl (a_ (V_ rfl rfl rfl (aq_ (by omega) (by omega))) rfl ?_)))))))))
 refine a_ (V_ rfl rfl rfl (aq_ (by omega) (by omega))) rfl (a_ (g_ rfl) rfl (d_ (b_ rfl (f_ (f_ (c_ (a_ (g_ rfl) rfl (d_ (b_ rfl ?_)))))))))
 refine S_ (bS_ [(1, zp_ b1 0), (3, .int .i64 (((((Ax.role x).length : Int) + ((Ax.a x).length : Int)) + ((Ax.b x).length : Int)) + (10 * (List.length (Ax.roles x) : Int)))), (4, .int .i64 ((0 : Nat) : Int))] ⟨rfl, rfl, rfl, trivial⟩ ?_)
 refine bY_ (ι := {y : Nat × Int // y.1 ≤ x.roles.length ∧ y.1 ≤ 100 ∧ 0 ≤ y.2 ∧ y.2 ≤ 444444444444444444 + y.1 * 140737488351232}) (fun y => [(1, zp_ b1 0), (3, .int .i64 y.1.2), (4, .int .i64 (y.1.1 : Int))]) (fun _ => _) (fun _ => _) (fun y => x.roles.length - y.1.1) ⟨(0, (((((Ax.role x).length : Int) + ((Ax.a x).length : Int)) + ((Ax.b x).length : Int)) + (10 * (List.length (Ax.roles x) : Int)))), by simp, by simp, by dsimp only; omega, by dsimp only; omega⟩ ?_
 rintro ⟨⟨i, n⟩, hk⟩
 dsimp only at hk
 refine bS_ [(1, zp_ b1 0), (3, .int .i64 n), (4, .int .i64 (i : Int))] ⟨rfl, rfl, rfl, trivial⟩ ?_
 refine f_ (f_ (c_ (a_ (h_ rfl) rfl (a_ (j_ y_ rfl rfl rfl bJ_) rfl (a_ (q_ 0 cI_ rfl rfl rfl) rfl (a_ (ah_ P_ rfl) rfl (x_ (az_ rfl rfl) rfl fun r1 hr1 => ?_)))))))
 refine a_ (h_ rfl) rfl ?_
 cases r1
 ·
  replace hr1 := of_decide_eq_false hr1
  refine t_ rfl rfl rfl rfl (t_ rfl rfl rfl rfl (a_ (N_ rfl rfl) rfl (d_ (b_ rfl (p_ rfl (aD_ rfl (b_ rfl (f_ (c_ ?_)))))))))
  refine a_ (h_ rfl) rfl (x_ (cJ_ rfl rfl) rfl fun r2 hr2 => ?_)
  refine a_ (h_ rfl) rfl ?_
  cases r2
  ·
   replace hr2 := of_decide_eq_false hr2
   refine t_ rfl rfl rfl rfl (t_ rfl rfl rfl rfl (t_ rfl rfl rfl rfl (a_ (N_ rfl rfl) rfl (a_ (h_ rfl) rfl (t_ rfl rfl rfl rfl (t_ rfl rfl rfl rfl (t_ rfl rfl rfl rfl (a_ (N_ rfl rfl) rfl (a_ (g_ rfl) rfl ?_)))))))))
   refine d_ (b_ rfl (B_ ?_))
   exact as_ jt_ false rfl (@List.perm_append_comm _ [_] _) (fun _ _ _ => trivial)
  ·
   replace hr2 := of_decide_eq_true hr2
   refine o_ rfl rfl (a_ (j_ y_ rfl rfl rfl v_) rfl (o_ rfl rfl (a_ (L_ 0 T_ v_ rfl rfl rfl) rfl (o_ rfl rfl (Q_ (oI_ (Ax.left x) hok.left) rfl W_ (fun v _ h => by exact ⟨h.1.1, trivial⟩) rfl fun f1 => ?_)))))
   refine a_ (R_ rfl rfl) rfl (a_ (h_ rfl) rfl ?_)
   cases f1
   ·
    refine t_ rfl rfl rfl rfl (t_ rfl rfl rfl rfl (t_ rfl rfl rfl rfl (a_ (N_ rfl rfl) rfl (a_ (g_ rfl) rfl (d_ (b_ rfl (B_ ?_)))))))
    exact as_ jt_ false rfl (@List.perm_append_comm _ [_] _) (fun _ _ _ => trivial)
   ·
    refine o_ rfl rfl (a_ (j_ y_ rfl rfl rfl v_) rfl (o_ rfl rfl (a_ (L_ 0 T_ v_ rfl rfl rfl) rfl (o_ rfl rfl (Q_ (oI_ (Ax.right x) hok.right) rfl W_ (fun v _ h => by exact ⟨h.1.2.1, trivial⟩) rfl fun f2 => ?_)))))
    refine a_ (R_ rfl rfl) rfl (a_ (g_ rfl) rfl (d_ (b_ rfl (B_ ?_))))
    exact as_ jt_ f2 rfl (@List.perm_append_comm _ [_] _) (fun _ _ _ => trivial)
 ·
  replace hr1 := of_decide_eq_true hr1
  refine o_ rfl rfl (a_ (h_ rfl) rfl (o_ rfl rfl (x_ (az_ rfl rfl) rfl fun r3 hr3 => ?_)))
  refine a_ (R_ rfl rfl) rfl (d_ (b_ rfl ?_))
  cases r3
  ·
   replace hr3 := of_decide_eq_false hr3
   refine p_ rfl (aD_ rfl (b_ rfl (f_ (c_ (a_ (h_ rfl) rfl (x_ (cJ_ rfl rfl) rfl fun r4 hr4 => ?_))))))
   refine a_ (h_ rfl) rfl ?_
   cases r4
   ·
    replace hr4 := of_decide_eq_false hr4
    refine t_ rfl rfl rfl rfl (t_ rfl rfl rfl rfl (t_ rfl rfl rfl rfl (a_ (N_ rfl rfl) rfl (a_ (h_ rfl) rfl (t_ rfl rfl rfl rfl (t_ rfl rfl rfl rfl (t_ rfl rfl rfl rfl (a_ (N_ rfl rfl) rfl (a_ (g_ rfl) rfl ?_)))))))))
    refine d_ (b_ rfl (B_ ?_))
    exact as_ jt_ false rfl (@List.perm_append_comm _ [_] _) (fun _ _ _ => trivial)
   ·
    replace hr4 := of_decide_eq_true hr4
    refine o_ rfl rfl (a_ (j_ y_ rfl rfl rfl v_) rfl (o_ rfl rfl (a_ (L_ 0 T_ v_ rfl rfl rfl) rfl (o_ rfl rfl (Q_ (oI_ (Ax.left x) hok.left) rfl W_ (fun v _ h => by exact ⟨h.1.1, trivial⟩) rfl fun f3 => ?_)))))
    refine a_ (R_ rfl rfl) rfl (a_ (h_ rfl) rfl ?_)
    cases f3
    ·
     refine t_ rfl rfl rfl rfl (t_ rfl rfl rfl rfl (t_ rfl rfl rfl rfl (a_ (N_ rfl rfl) rfl (a_ (g_ rfl) rfl (d_ (b_ rfl (B_ ?_)))))))
     exact as_ jt_ false rfl (@List.perm_append_comm _ [_] _) (fun _ _ _ => trivial)
    ·
     refine o_ rfl rfl (a_ (j_ y_ rfl rfl rfl v_) rfl (o_ rfl rfl (a_ (L_ 0 T_ v_ rfl rfl rfl) rfl (o_ rfl rfl (Q_ (oI_ (Ax.right x) hok.right) rfl W_ (fun v _ h => by exact ⟨h.1.2.1, trivial⟩) rfl fun f4 => ?_)))))
     refine a_ (R_ rfl rfl) rfl (a_ (g_ rfl) rfl (d_ (b_ rfl (B_ ?_))))
     exact as_ jt_ f4 rfl (@List.perm_append_comm _ [_] _) (fun _ _ _ => trivial)
  ·
   replace hr3 := of_decide_eq_true hr3
   have hlx1 : i < List.length (Ax.roles x) := by omega
   obtain ⟨x1, hx1⟩ : ∃ e0, (Ax.roles x)[i]? = some e0 := ⟨_, List.getElem?_eq_getElem hlx1⟩
   have hmx1 : x1 ∈ (Ax.roles x) := List.mem_of_getElem? hx1
   have hrl := hok.roles x1 hmx1
   refine n_ rfl (A_ (b_ rfl (f_ (S_ (c_ (a_ (h_ rfl) rfl (a_ (j_ y_ rfl rfl rfl bJ_) rfl (a_ (q_ 0 cI_ rfl rfl rfl) rfl (a_ (h_ rfl) rfl ?_)))))))))
   refine a_ (ak_ P_ s_ rfl rfl (fun v _ h => aL_ (n := 1) aX_ (by decide) (by exact h.1.2.2) hx1) (by omega) (by first | omega | (simp; done))) rfl (a_ (bH_ (ad := (Ax.ad x)) w_ rfl (fun v _ h => by exact h.1.2.2) (an_ aX_ hx1 0 _ rfl)) rfl (a_ (co_ ar_ rfl) rfl (a_ (V_ rfl rfl rfl (aq_ (by omega) (by omega))) rfl (a_ (g_ rfl) rfl (d_ (b_ rfl (c_ (a_ (h_ rfl) rfl (a_ (V_ rfl rfl rfl (aq_ (by omega) (by omega))) rfl ?_)))))))))
   refine a_ (g_ rfl) rfl (d_ (r_ rfl ?_))
   exact ao_ ⟨(i + 1, n + (List.length x1 : Int)), hlx1, by dsimp only; omega, by dsimp only; omega, by dsimp only; omega⟩ (by dsimp only; omega) ⟨rfl, rfl, rfl, trivial⟩ (.refl _) (fun _ _ h => h)
theorem ng_ (l : List Ax) (ad : Option Addr) (cap : Nat) (most : Int) (hcap : l.length ≤ cap ∧ cap ≤ 2199023255488) (hok : ∀ x ∈ l, x.ok) : Tri Tryz.prog 48 #[.slice ad (List.length l) cap, .int .i64 most] [] [no_ ad l] (fun b : {b : Bool // b = true → (l.length : Int) ≤ most} => .bool b.1) (fun _ => []) (fun _ => []) := by
  refine M_ Tryz.func48 rfl rfl Tryz.ntmps48 rfl fun v0 => ?_
  refine f_ (c_ (a_ (g_ rfl) rfl (d_ (b_ rfl (f_ (f_ (c_ (a_ (h_ rfl) rfl (a_ (ah_ cs_ rfl) rfl ?_)))))))))
  refine a_ (h_ rfl) rfl (x_ (bK_ rfl rfl) rfl fun r1 hr1 => ?_)
  refine d_ (b_ rfl ?_)
  cases r1
  · skip
    replace hr1 := of_decide_eq_false hr1
    refine p_ rfl (A_ (b_ rfl (f_ (f_ (c_ (a_ (g_ rfl) rfl (d_ (b_ rfl (S_ ?_)))))))))
    refine bS_ [(0, .slice ad (List.length l) cap), (5, .int .i64 ((0 : Nat) : Int))] ⟨rfl, rfl, trivial⟩ ?_
    refine bY_ (ι := {q : Nat // q ≤ l.length}) (fun i => [(0, .slice ad (List.length l) cap), (5, .int .i64 (i.1 : Int))]) (fun _ => _) (fun _ => _) (fun i => l.length - i.1) ⟨0, by simp⟩ ?_
    rintro ⟨i, hk⟩
    refine bS_ [(0, .slice ad (List.length l) cap), (5, .int .i64 (i : Int))] ⟨rfl, rfl, trivial⟩ ?_
    refine f_ (f_ (c_ (a_ (h_ rfl) rfl (a_ (h_ rfl) rfl (a_ (ah_ cs_ rfl) rfl (x_ (az_ rfl rfl) rfl fun r2 hr2 => ?_))))))
    refine d_ (b_ rfl ?_)
    cases r2
    · skip
      replace hr2 := of_decide_eq_false hr2
      refine p_ rfl (aD_ rfl (b_ rfl (f_ (c_ (a_ (g_ rfl) rfl (d_ (b_ rfl (B_ ?_))))))))
      exact as_ Tryz.results48 ⟨true, fun _ => by omega⟩ rfl (.refl _) (fun _ _ _ => trivial)
    · skip
      replace hr2 := of_decide_eq_true hr2
      have hlx1 : i < List.length l := by omega
      obtain ⟨x1, hx1⟩ : ∃ e0, l[i]? = some e0 := ⟨_, List.getElem?_eq_getElem hlx1⟩
      have hmx1 : x1 ∈ l := List.mem_of_getElem? hx1
      refine n_ rfl (A_ (b_ rfl (f_ (S_ (f_ (c_ (a_ (h_ rfl) rfl (a_ (h_ rfl) rfl (a_ (ak_ cs_ cV_ rfl rfl (fun v _ h => aL_ (n := 16) Ax.cells_len (by decide) (by exact h.1.1) hx1) (by omega) (by first | omega | (simp; done))) rfl ?_)))))))))
      refine a_ (aE_ (ad := ad) (us := Ax.cells x1) hG_ cV_ rfl (fun v _ h => by exact h.1.1) (Ax.cells_len _) (an_ Ax.cells_len hx1)) rfl (Q_ (nZ_ x1 (hok x1 hmx1)) rfl W_ (fun v _ h => by exact ⟨(h.1.2 x1 hmx1), trivial⟩) rfl fun r => ?_)
      refine a_ (bG_ rfl) rfl (d_ (b_ rfl ?_))
      cases r
      · skip
        refine n_ rfl (f_ (c_ (a_ (g_ rfl) rfl (d_ (b_ rfl (B_ ?_))))))
        exact as_ Tryz.results48 ⟨false, fun h => by cases h⟩ rfl (.refl _) (fun _ _ _ => trivial)
      · skip
        refine p_ rfl (A_ (b_ rfl (c_ (a_ (h_ rfl) rfl (a_ (V_ rfl rfl rfl (aq_ (by omega) (by omega))) rfl (a_ (g_ rfl) rfl (d_ (r_ rfl ?_))))))))
        exact ao_ ⟨i + 1, hlx1⟩ (by simp; omega) ⟨rfl, rfl, trivial⟩ (.refl _) (fun _ _ h => h)
  · skip
    replace hr1 := of_decide_eq_true hr1
    refine n_ rfl (f_ (c_ (a_ (g_ rfl) rfl (d_ (b_ rfl (B_ ?_))))))
    exact as_ Tryz.results48 ⟨false, fun h => by cases h⟩ rfl (.refl _) (fun _ _ _ => trivial)
end Go.Proofs.YtpdbbglpbngeiaaGreatDoor
