/-
  Part of the proof of the law NormalChains over this seat: the small logic, the data, the contracts of functions (no condition).
-/
import Derived.Test.YtoafjmalfclpoaaGreatDoorQNormalChains3
import Derived.Test.YtoafjmalfclpoaaGreatDoorQNormalChains6
set_option linter.unusedVariables false
set_option linter.unusedSimpArgs false
set_option linter.unusedSectionVars false
namespace Go.Proofs.YtoafjmalfclpoaaGreatDoor
open Go Go.Sx Go.Proofs
attribute [local irreducible] Code.wp wpList wpAnyH
open Go.Vs
theorem lN_ (x : Ax) (hok : x.ok) (hc : x.check = 0) {kb : Nat} (frm : Int) (q : CS) (hq : CInv [] q) :
  Tri Tryz.prog 40 #[zp_ kb 0, x.val] (dD_ kb frm q) [x.memF, bH_] (fun _ : {q' : CS // CInv (x.pieces frm) q'} => .tuple #[]) (fun q' => dD_ kb frm q'.1) (fun _ => []) := by
 have G := Ax.good_of hc
 obtain ⟨k, op, ⟨kl, nl, ll, hl, al, cl, pl⟩, ⟨kr, nr, lr, hr, ar, cr, pr⟩, ad, cap, rs, ro, a, b⟩ := x
 have hlen := hok.len
 have hcap := hok.cap
 have h1 := G.k1
 have h9 := G.k9
 have h0 : ([] : List Pc).length = 0 := rfl
 dsimp only at hlen hcap h1 h9
 show Tri Tryz.prog 40 #[zp_ kb 0, .agg #[.int .i64 k, .bool op, .int .i64 kl, str nl, .int .i64 ll, .int .i64 hl, .slice al pl.length cl, .int .i64 kr, str nr, .int .i64 lr, .int .i64 hr, .slice ar pr.length cr, .slice ad rs.length cap, str ro, str a, str b]] _ _ _ _ _
 refine M_ Tryz.func40 rfl rfl Tryz.ntmps40 rfl fun v0 => ?_
 refine f_ (b_ (aI_ rfl rfl fun b1 => ?_))
 refine d_ (c_ rfl (f_ (b_ (a_ (g_ rfl) rfl (A_ (jp_ kb) rfl (.refl _) (fun _ _ _ => trivial) rfl fun x => ?_)))))
 obtain ⟨bk, bl, br⟩ := x
 refine a_ (g_ rfl) rfl (a_ (aD_ rfl rfl) rfl (a_ (aD_ rfl rfl) rfl (a_ (e_ rfl) rfl (a_ (e_ rfl) rfl (d_ (c_ rfl (f_ (b_ (a_ (m_ l_ rfl rfl rfl L_) rfl ?_)))))))))
 refine a_ (t_ 0 O_ rfl rfl rfl) rfl (d_ (c_ rfl (T_ (f_ (b_ (v_ (ai_ rfl rfl) rfl fun r1 hr1 => ?_))))))
 refine a_ (e_ rfl) rfl (d_ (c_ rfl ?_))
 cases r1
 ·
  replace hr1 := ne_of_beq_false hr1
  try dsimp only [Con.kind, Con.parts, Con.name, Con.lo, Con.hi, Con.cap, Con.ad] at hr1
  refine r_ rfl (f_ (b_ (v_ (ai_ rfl rfl) rfl fun r2 hr2 => ?_)))
  refine a_ (e_ rfl) rfl (d_ (c_ rfl ?_))
  cases r2
  ·
   replace hr2 := ne_of_beq_false hr2
   try dsimp only [Con.kind, Con.parts, Con.name, Con.lo, Con.hi, Con.cap, Con.ad] at hr2
   refine r_ rfl (f_ (b_ (v_ (ai_ rfl rfl) rfl fun r3 hr3 => ?_)))
   refine a_ (e_ rfl) rfl (d_ (c_ rfl ?_))
   cases r3
   ·
    replace hr3 := ne_of_beq_false hr3
    try dsimp only [Con.kind, Con.parts, Con.name, Con.lo, Con.hi, Con.cap, Con.ad] at hr3
    refine r_ rfl (f_ (b_ (v_ (ai_ rfl rfl) rfl fun r4 hr4 => ?_)))
    refine a_ (e_ rfl) rfl (d_ (c_ rfl ?_))
    cases r4
    ·
     replace hr4 := ne_of_beq_false hr4
     try dsimp only [Con.kind, Con.parts, Con.name, Con.lo, Con.hi, Con.cap, Con.ad] at hr4
     refine r_ rfl (f_ (b_ (v_ (ai_ rfl rfl) rfl fun r5 hr5 => ?_)))
     refine a_ (e_ rfl) rfl (d_ (c_ rfl ?_))
     cases r5
     ·
      replace hr5 := ne_of_beq_false hr5
      try dsimp only [Con.kind, Con.parts, Con.name, Con.lo, Con.hi, Con.cap, Con.ad] at hr5
      refine r_ rfl (f_ (b_ (v_ (ai_ rfl rfl) rfl fun r6 hr6 => ?_)))
      refine a_ (e_ rfl) rfl (d_ (c_ rfl ?_))
      cases r6
      ·
       replace hr6 := ne_of_beq_false hr6
       try dsimp only [Con.kind, Con.parts, Con.name, Con.lo, Con.hi, Con.cap, Con.ad] at hr6
       refine r_ rfl (f_ (b_ (v_ (ai_ rfl rfl) rfl fun r7 hr7 => ?_)))
       refine a_ (e_ rfl) rfl (d_ (c_ rfl ?_))
       cases r7
       ·
        replace hr7 := ne_of_beq_false hr7
        try dsimp only [Con.kind, Con.parts, Con.name, Con.lo, Con.hi, Con.cap, Con.ad] at hr7
        refine r_ rfl (f_ (b_ (v_ (ai_ rfl rfl) rfl fun r8 hr8 => ?_)))
        refine a_ (e_ rfl) rfl (d_ (c_ rfl ?_))
        cases r8
        ·
         replace hr8 := ne_of_beq_false hr8
         try dsimp only [Con.kind, Con.parts, Con.name, Con.lo, Con.hi, Con.cap, Con.ad] at hr8
         refine r_ rfl (f_ (b_ (v_ (ai_ rfl rfl) rfl fun r9 hr9 => ?_)))
         refine a_ (e_ rfl) rfl (d_ (c_ rfl ?_))
         cases r9
         ·
          replace hr9 := ne_of_beq_false hr9
          try dsimp only [Con.kind, Con.parts, Con.name, Con.lo, Con.hi, Con.cap, Con.ad] at hr9
          exfalso; omega
         ·
          replace hr9 := eq_of_beq hr9
          try dsimp only [Con.kind, Con.parts, Con.name, Con.lo, Con.hi, Con.cap, Con.ad] at hr9
          refine p_ rfl ?_
          refine aW_ [(b1, .cells #[.int .i64 k, .bool op, .int .i64 kl, str nl, .int .i64 ll, .int .i64 hl, .slice al pl.length cl, .int .i64 kr, str nr, .int .i64 lr, .int .i64 hr, .slice ar pr.length cr, .slice ad rs.length cap, str ro, str a, str b] 41 (0, 0))] (by kernel_rfl) ?_
          refine ab_ 5 [0, 1, 2, 4, 5, 6, 7] (by kernel_rfl) (fun _ a b => ⟨Vw.sat.sub a, b⟩) (s_ rfl (g_ rfl) rfl (s_ rfl (m_ l_ rfl rfl rfl z_) rfl (s_ rfl (t_ 0 E_ rfl rfl rfl) rfl (s_ rfl (m_ l_ rfl rfl rfl z_) rfl (s_ rfl (t_ 0 E_ rfl rfl rfl) rfl (s_ rfl (m_ l_ rfl rfl rfl z_) rfl (s_ rfl (t_ 0 E_ rfl rfl rfl) rfl (aa_ (H_ 3 rfl (by kernel_rfl) ?_)))))))))
          refine A_ (bU_ a hok.a) rfl (.refl _) (fun _ _ _ => trivial) rfl fun _ => ?_
          refine d_ (o_ rfl (u_ (fun _ a b => ⟨Vw.sat.sub a, b⟩) (H_ 8 rfl (by kernel_rfl) (A_ (bU_ b hok.b) rfl (.refl _) (fun _ _ _ => trivial) rfl fun _ => ?_))))
          refine d_ (o_ rfl (u_ (fun _ a b => ⟨Vw.sat.sub a, b⟩) (ab_ 2 [9] (by kernel_rfl) (fun _ a b => ⟨Vw.sat.sub a, b⟩) (s_ rfl (N_ by_ rfl rfl) rfl (aa_ (H_ 10 rfl (by kernel_rfl) (X_ I_ U_ af_ rfl rfl rfl rfl rfl rfl fun b2 => ?_)))))))
          refine d_ (o_ rfl (u_ (fun _ a b => ⟨Vw.sat.sub a.tail, b⟩) (H_ 11 rfl (by kernel_rfl) (A_ (cw_ ⟨3, ([123] ++ a ++ [125]), [], ([123] ++ b ++ [125]), ro, [], [], 0, 0, 0⟩ frm [] q hq (by omega)) rfl (.cons _ (@List.perm_append_comm _ [_] _)) (fun _ _ _ => trivial) rfl fun x => ?_))))
          obtain ⟨q2, hq2⟩ := x
          have hb2 := aY_ frm [] ⟨3, ([123] ++ a ++ [125]), [], ([123] ++ b ++ [125]), ro, [], [], 0, 0, 0⟩
          refine Y_ (@List.perm_append_comm _ _ [_]) (d_ (o_ rfl (u_ (fun _ a b => ⟨Vw.sat.sub a, b⟩) (ad_ (by kernel_rfl) (aL_ rfl ?_)))))
          have e : Ax.pieces frm ⟨k, op, (.mk kl nl ll hl al cl pl), (.mk kr nr lr hr ar cr pr), ad, cap, rs, ro, a, b⟩ = (ins frm [] ⟨3, ([123] ++ a ++ [125]), [], ([123] ++ b ++ [125]), ro, [], [], 0, 0, 0⟩) := by
           unfold Ax.pieces
           dsimp only
           repeat (first | rfl | (rw [if_pos (by omega)]) | (rw [if_neg (by omega)]))
          exact dL_ dn_ ⟨q2, by rw [e]; exact hq2⟩ rfl (F := [_]) (@List.perm_append_comm _ [_] _) (fun _ _ _ => trivial)
        ·
         replace hr8 := eq_of_beq hr8
         try dsimp only [Con.kind, Con.parts, Con.name, Con.lo, Con.hi, Con.cap, Con.ad] at hr8
         obtain ⟨fr, zr⟩ := Con.check_zero (G.right (by show k ≤ 4 ∨ k = 8; omega))
         dsimp only at fr zr
         refine p_ rfl (f_ (b_ (a_ (g_ rfl) rfl (a_ (m_ l_ rfl rfl rfl k_) rfl (a_ (G_ 0 x_ k_ rfl rfl rfl) rfl (aE_ (dB_ (kb := kb) (bk := bk) (bs := br) _ (.mk kr nr lr hr ar cr pr) (Nat.le_refl _) hok.right fr [] q hq (by omega)) rfl rfl (@List.perm_append_comm _ [_] _) (fun v _ h => by exact ⟨h.2.2.2.1.2.1, h.2.2.2.2.1, h.1, h.2.2.1, trivial⟩) rfl fun x => ?_))))))
         obtain ⟨q3, hq3⟩ := x
         have hb3 := Con.rightP_len frm _ (.mk kr nr lr hr ar cr pr) (Nat.le_refl _) []
         refine Y_ (@List.perm_append_comm _ _ [_]) (d_ (c_ rfl ?_))
         refine aW_ [(b1, .cells #[.int .i64 k, .bool op, .int .i64 kl, str nl, .int .i64 ll, .int .i64 hl, .slice al pl.length cl, .int .i64 kr, str nr, .int .i64 lr, .int .i64 hr, .slice ar pr.length cr, .slice ad rs.length cap, str ro, str a, str b] 41 (0, 0))] (by kernel_rfl) ?_
         refine ab_ 5 [0, 1, 2, 4, 5] (by kernel_rfl) (fun _ a b => ⟨Vw.sat.sub a, b⟩) (s_ rfl (g_ rfl) rfl (s_ rfl (m_ l_ rfl rfl rfl z_) rfl (s_ rfl (t_ 0 E_ rfl rfl rfl) rfl (s_ rfl (m_ l_ rfl rfl rfl k_) rfl (s_ rfl (G_ 0 x_ k_ rfl rfl rfl) rfl (aa_ (H_ 3 rfl (by kernel_rfl) (A_ (bU_ a hok.a) rfl (.refl _) (fun _ _ _ => trivial) rfl fun _ => ?_))))))))
         refine d_ (o_ rfl (u_ (fun _ a b => ⟨Vw.sat.sub a, b⟩) (H_ 6 rfl (by kernel_rfl) (A_ (bK_ (.mk kr nr lr hr ar cr pr) hok.right) rfl (.refl _) (fun v _ h => ⟨h.2.2.2.1.2.1, h.2.2.2.2.1, trivial⟩) rfl fun _ => ?_))))
         refine d_ (o_ rfl (u_ (fun _ a b => ⟨Vw.sat.sub a, b⟩) (ab_ 2 [7] (by kernel_rfl) (fun _ a b => ⟨Vw.sat.sub a, b⟩) (s_ rfl (N_ by_ rfl rfl) rfl (aa_ (H_ 8 rfl (by kernel_rfl) (X_ I_ U_ af_ rfl rfl rfl rfl rfl rfl fun b3 => ?_)))))))
         refine d_ (o_ rfl (u_ (fun _ a b => ⟨Vw.sat.sub a.tail, b⟩) (H_ 9 rfl (by kernel_rfl) (A_ (cw_ ⟨1, ([123] ++ a ++ [125]), [], (Con.atom (.mk kr nr lr hr ar cr pr)), [], [], [], 0, 0, 0⟩ frm (Con.rightP frm (.mk kr nr lr hr ar cr pr) []) q3 hq3 (by omega)) rfl (.cons _ (@List.perm_append_comm _ [_] _)) (fun _ _ _ => trivial) rfl fun x => ?_))))
         obtain ⟨q5, hq5⟩ := x
         have hb5 := aY_ frm (Con.rightP frm (.mk kr nr lr hr ar cr pr) []) ⟨1, ([123] ++ a ++ [125]), [], (Con.atom (.mk kr nr lr hr ar cr pr)), [], [], [], 0, 0, 0⟩
         refine Y_ (@List.perm_append_comm _ _ [_]) (d_ (o_ rfl (u_ (fun _ a b => ⟨Vw.sat.sub a, b⟩) (ad_ (by kernel_rfl) (aL_ rfl ?_)))))
         have e : Ax.pieces frm ⟨k, op, (.mk kl nl ll hl al cl pl), (.mk kr nr lr hr ar cr pr), ad, cap, rs, ro, a, b⟩ = (ins frm (Con.rightP frm (.mk kr nr lr hr ar cr pr) []) ⟨1, ([123] ++ a ++ [125]), [], (Con.atom (.mk kr nr lr hr ar cr pr)), [], [], [], 0, 0, 0⟩) := by
          unfold Ax.pieces
          dsimp only
          repeat (first | rfl | (rw [if_pos (by omega)]) | (rw [if_neg (by omega)]))
         exact dL_ dn_ ⟨q5, by rw [e]; exact hq5⟩ rfl (F := [_]) (@List.perm_append_comm _ [_] _) (fun _ _ _ => trivial)
       ·
        replace hr7 := eq_of_beq hr7
        try dsimp only [Con.kind, Con.parts, Con.name, Con.lo, Con.hi, Con.cap, Con.ad] at hr7
        refine p_ rfl (b_ (a_ (g_ rfl) rfl (a_ (m_ l_ rfl rfl rfl z_) rfl (a_ (t_ 0 E_ rfl rfl rfl) rfl (a_ (N_ by_ rfl rfl) rfl (X_ I_ U_ af_ rfl rfl rfl rfl rfl rfl fun b4 => ?_))))))
        refine A_ (cw_ ⟨7, [], [], [], ro, [], [], 0, 0, 0⟩ frm [] q hq (by omega)) rfl (.cons _ (@List.perm_append_comm _ [_] _)) (fun _ _ _ => trivial) rfl fun x => ?_
        obtain ⟨q6, hq6⟩ := x
        have hb6 := aY_ frm [] ⟨7, [], [], [], ro, [], [], 0, 0, 0⟩
        refine Y_ (@List.perm_append_comm _ _ [_]) (d_ (aL_ rfl ?_))
        have e : Ax.pieces frm ⟨k, op, (.mk kl nl ll hl al cl pl), (.mk kr nr lr hr ar cr pr), ad, cap, rs, ro, a, b⟩ = (ins frm [] ⟨7, [], [], [], ro, [], [], 0, 0, 0⟩) := by
         unfold Ax.pieces
         dsimp only
         repeat (first | rfl | (rw [if_pos (by omega)]) | (rw [if_neg (by omega)]))
        exact dL_ dn_ ⟨q6, by rw [e]; exact hq6⟩ rfl (F := [_]) (@List.perm_append_comm _ [_] _) (fun _ _ _ => trivial)
      ·
       replace hr6 := eq_of_beq hr6
       try dsimp only [Con.kind, Con.parts, Con.name, Con.lo, Con.hi, Con.cap, Con.ad] at hr6
       have hch := G.chain hr6
       dsimp only at hch
       have hn0 : 0 < rs.length := by omega
       obtain ⟨r0, hr0⟩ : ∃ r0, rs[0]? = some r0 := ⟨_, List.getElem?_eq_getElem hn0⟩
       refine p_ rfl (f_ (b_ (a_ (m_ l_ rfl rfl rfl bp_) rfl (a_ (t_ 0 bS_ rfl rfl rfl) rfl (a_ (am_ J_ z_ rfl rfl (fun v _ h => aS_ (n := 1) aM_ (by decide) (h.2.2.2.1.2.2) hr0) (by omega) (by first | omega | (simp only [Con.parts]; omega) | (simp [Con.parts]; done))) rfl (a_ (bw_ (ad := ad) E_ rfl (fun v _ h => h.2.2.2.1.2.2) (ao_ aM_ hr0 0 _ rfl)) rfl (a_ (e_ rfl) rfl (d_ (c_ rfl ?_)))))))))
       refine f_ (b_ (a_ (m_ l_ rfl rfl rfl bp_) rfl (a_ (t_ 0 bS_ rfl rfl rfl) rfl (a_ (dc_ (i := 1) (j := rs.length) (kl := .i64) (kh := .i64) J_ z_ rfl rfl rfl (by omega) (by omega)) rfl (a_ (ar_ J_ rfl) rfl (a_ (g_ rfl) rfl (d_ (c_ rfl (T_ ?_)))))))))
       refine bs_ [(0, zp_ kb 0), (3, zp_ b1 0), (6, str r0), (130, .slice (sad ad cap 1 1) (rs.length - 1) (cap - 1)), (131, .int .i64 ((rs.length - 1 : Nat) : Int)), (132, .int .i64 ((0 : Nat) : Int))] ⟨rfl, rfl, rfl, rfl, rfl, rfl, trivial⟩ ?_
       have hr24 := Con.plain_len (G.roles r0 (List.mem_of_getElem? hr0))
       refine bE_ (ι := {x : Nat × Str × List Pc × CS // x.1 ≤ rs.length - 1 ∧ CInv x.2.2.1 x.2.2.2 ∧ x.2.2.1.length ≤ x.1 ∧ x.2.1.length ≤ 30 * (x.1 + 1) ∧ Ax.chainP frm ro (rs.drop 1) r0 [] = Ax.chainP frm ro (rs.drop (1 + x.1)) x.2.1 x.2.2.1}) (fun x => [(0, zp_ kb 0), (3, zp_ b1 0), (6, str x.1.2.1), (130, .slice (sad ad cap 1 1) (rs.length - 1) (cap - 1)), (131, .int .i64 ((rs.length - 1 : Nat) : Int)), (132, .int .i64 (x.1.1 : Int))]) (fun x => _ :: dD_ kb frm x.1.2.2.2) (fun _ => _) (fun x => rs.length - 1 - x.1.1) ⟨(0, r0, [], q), by simp, hq, by simp, by simp; omega, rfl⟩ ?_
       rintro ⟨⟨i, f, l1, q2⟩, hj⟩
       dsimp only at hj
       refine bs_ [(0, zp_ kb 0), (3, zp_ b1 0), (6, str f), (130, .slice (sad ad cap 1 1) (rs.length - 1) (cap - 1)), (131, .int .i64 ((rs.length - 1 : Nat) : Int)), (132, .int .i64 (i : Int))] ⟨rfl, rfl, rfl, rfl, rfl, rfl, trivial⟩ ?_
       refine f_ (b_ (v_ (aN_ rfl rfl) rfl fun r10 hr10 => ?_))
       refine d_ (c_ rfl (f_ ?_))
       cases r10
       ·
        replace hr10 := of_decide_eq_false hr10
        try dsimp only [Con.kind, Con.parts, Con.name, Con.lo, Con.hi, Con.cap, Con.ad] at hr10
        refine r_ rfl (aU_ rfl (aL_ rfl ?_))
        have e : Ax.pieces frm ⟨k, op, (.mk kl nl ll hl al cl pl), (.mk kr nr lr hr ar cr pr), ad, cap, rs, ro, a, b⟩ = Ax.chainP frm ro (rs.drop 1) r0 [] := by
         unfold Ax.pieces
         dsimp only
         rw [iI_ hr0]
         repeat (first | rfl | (rw [if_pos (by omega)]) | (rw [if_neg (by omega)]))
        have e2 := hj.2.2.2.2
        rw [List.drop_of_length_le (show rs.length ≤ 1 + i by omega)] at e2
        rw [e2] at e
        exact dL_ dn_ ⟨q2, by rw [e]; exact hj.2.1⟩ rfl (F := [_]) (@List.perm_append_comm _ [_] _) (fun _ _ _ => trivial)
       ·
        replace hr10 := of_decide_eq_true hr10
        try dsimp only [Con.kind, Con.parts, Con.name, Con.lo, Con.hi, Con.cap, Con.ad] at hr10
        have hlt : i < rs.length - 1 := by omega
        obtain ⟨g, hp⟩ : ∃ g, (rs.drop 1)[i]? = some g := ⟨_, List.getElem?_eq_getElem (by simp; omega)⟩
        have hp1 : rs[1 + i]? = some g := by rw [← List.getElem?_drop]; exact hp
        have hg := Con.plain_len (G.roles g (List.mem_of_getElem? hp1))
        have hro := Con.plain_len (G.role (by show k = 4 ∨ k = 5 ∨ k = 6 ∨ k = 7 ∨ k = 9; omega))
        dsimp only at hro
        refine p_ rfl (D_ (c_ rfl (f_ (T_ (f_ (b_ (a_ (g_ rfl) rfl (a_ (am_ J_ z_ rfl rfl (fun v _ h => aS_ (n := 1) aM_ (by decide) (bq_.rest aM_ h.2.2.2.1.2.2 hok.len 1) hp) (by omega) (by first | omega | (simp only [Con.parts]; omega) | (simp [Con.parts]; done))) rfl (a_ (bw_ (ad := (sad ad cap 1 1)) E_ rfl (fun v _ h => bq_.rest aM_ h.2.2.2.1.2.2 hok.len 1) (ao_ aM_ hp 0 _ rfl)) rfl ?_)))))))))
        refine a_ (e_ rfl) rfl (a_ (e_ rfl) rfl (d_ (c_ rfl (f_ (b_ (a_ (m_ l_ rfl rfl rfl z_) rfl (a_ (t_ 0 E_ rfl rfl rfl) rfl (a_ (e_ rfl) rfl (d_ ?_)))))))))
        refine c_ rfl (f_ (f_ (b_ (a_ (g_ rfl) rfl (a_ (R_ rfl rfl rfl (aq_ (by omega) (by omega))) rfl (a_ (m_ l_ rfl rfl rfl bp_) rfl (a_ (t_ 0 bS_ rfl rfl rfl) rfl (a_ (ar_ J_ rfl) rfl (v_ (aN_ rfl rfl) rfl fun r11 hr11 => ?_)))))))))
        refine d_ (c_ rfl ?_)
        cases r11
        ·
         replace hr11 := of_decide_eq_false hr11
         try dsimp only [Con.kind, Con.parts, Con.name, Con.lo, Con.hi, Con.cap, Con.ad] at hr11
         refine r_ rfl (D_ (c_ rfl (f_ (b_ (a_ (g_ rfl) rfl (a_ (g_ rfl) rfl (a_ (g_ rfl) rfl (a_ (g_ rfl) rfl (a_ (N_ by_ rfl rfl) rfl ?_)))))))))
         refine X_ I_ U_ af_ rfl rfl rfl rfl rfl rfl fun b5 => ?_
         refine A_ (cw_ ⟨6, [], [], [], f, g, ro, 0, 0, 0⟩ frm l1 q2 hj.2.1 (by omega)) rfl (.cons _ (@List.perm_append_comm _ [_] _)) (fun _ _ _ => trivial) rfl fun x => ?_
         obtain ⟨q7, hq7⟩ := x
         have hb7 := aY_ frm l1 ⟨6, [], [], [], f, g, ro, 0, 0, 0⟩
         refine Y_ (@List.perm_append_comm _ _ [_]) (d_ (c_ rfl (b_ (a_ (g_ rfl) rfl (a_ (e_ rfl) rfl (d_ (c_ rfl (b_ (a_ (R_ rfl rfl rfl (aq_ (by omega) (by omega))) rfl ?_)))))))))
         refine a_ (g_ rfl) rfl (d_ (o_ rfl ?_))
         have hd1 := fL_ hp1
         have hd2 : (rs.drop (1 + i + 1) = []) ↔ ¬ (i + 2 < rs.length) := by rw [List.drop_eq_nil_iff]; omega
         exact av_ ⟨(i + 1, ro, (ins frm l1 ⟨6, [], [], [], f, g, ro, 0, 0, 0⟩), q7), by dsimp only; omega, hq7, by dsimp only; omega, by dsimp only; omega, by rw [hj.2.2.2.2, hd1]; simp only [Ax.chainP]; rw [if_pos (by rw [hd2]; omega), show 1 + (i + 1) = 1 + i + 1 by omega]⟩ (by simp; omega) ⟨rfl, rfl, rfl, rfl, rfl, rfl, trivial⟩ (F := []) (by rw [List.append_nil]; exact .refl _) (fun _ _ h => h)
        ·
         replace hr11 := of_decide_eq_true hr11
         try dsimp only [Con.kind, Con.parts, Con.name, Con.lo, Con.hi, Con.cap, Con.ad] at hr11
         refine p_ rfl (b_ (a_ (g_ rfl) rfl (a_ (cm_ rfl rfl (by simp only [List.length_append, List.length_cons, List.length_nil]; omega)) rfl (a_ (g_ rfl) rfl (a_ (cm_ rfl rfl (by simp only [List.length_append, List.length_cons, List.length_nil]; omega)) rfl (a_ (e_ rfl) rfl (d_ (c_ rfl (f_ ?_)))))))))
         refine b_ (a_ (g_ rfl) rfl (a_ (g_ rfl) rfl (a_ (g_ rfl) rfl (a_ (g_ rfl) rfl (a_ (N_ by_ rfl rfl) rfl (X_ I_ U_ af_ rfl rfl rfl rfl rfl rfl fun b6 => ?_))))))
         refine A_ (cw_ ⟨6, [], [], [], f, g, (f ++ [46]) ++ g, 0, 0, 0⟩ frm l1 q2 hj.2.1 (by omega)) rfl (.cons _ (@List.perm_append_comm _ [_] _)) (fun _ _ _ => trivial) rfl fun x => ?_
         obtain ⟨q8, hq8⟩ := x
         have hb8 := aY_ frm l1 ⟨6, [], [], [], f, g, (f ++ [46]) ++ g, 0, 0, 0⟩
         refine Y_ (@List.perm_append_comm _ _ [_]) (d_ (c_ rfl (b_ (a_ (g_ rfl) rfl (a_ (e_ rfl) rfl (d_ (c_ rfl (b_ (a_ (R_ rfl rfl rfl (aq_ (by omega) (by omega))) rfl ?_)))))))))
         refine a_ (g_ rfl) rfl (d_ (o_ rfl ?_))
         have hd1 := fL_ hp1
         have hd2 : (rs.drop (1 + i + 1) = []) ↔ ¬ (i + 2 < rs.length) := by rw [List.drop_eq_nil_iff]; omega
         exact av_ ⟨(i + 1, (f ++ [46]) ++ g, (ins frm l1 ⟨6, [], [], [], f, g, (f ++ [46]) ++ g, 0, 0, 0⟩), q8), by dsimp only; omega, hq8, by dsimp only; omega, by simp only [List.length_append, List.length_cons, List.length_nil]; omega, by rw [hj.2.2.2.2, hd1]; simp only [Ax.chainP]; rw [if_neg (by rw [hd2]; omega), show 1 + (i + 1) = 1 + i + 1 by omega]⟩ (by simp; omega) ⟨rfl, rfl, rfl, rfl, rfl, rfl, trivial⟩ (F := []) (by rw [List.append_nil]; exact .refl _) (fun _ _ h => h)
     ·
      replace hr5 := eq_of_beq hr5
      try dsimp only [Con.kind, Con.parts, Con.name, Con.lo, Con.hi, Con.cap, Con.ad] at hr5
      have hn0 : 0 < rs.length := by have := G.one hr5; dsimp only at this; omega
      obtain ⟨r0, hr0⟩ : ∃ r0, rs[0]? = some r0 := ⟨_, List.getElem?_eq_getElem hn0⟩
      refine p_ rfl ?_
      refine aW_ [(b1, .cells #[.int .i64 k, .bool op, .int .i64 kl, str nl, .int .i64 ll, .int .i64 hl, .slice al pl.length cl, .int .i64 kr, str nr, .int .i64 lr, .int .i64 hr, .slice ar pr.length cr, .slice ad rs.length cap, str ro, str a, str b] 41 (0, 0))] (by kernel_rfl) ?_
      refine ab_ 2 [0, 1, 2, 3, 4, 5, 6, 7] (by kernel_rfl) (fun _ a b => ⟨Vw.sat.sub a, b⟩) (s_ rfl (g_ rfl) rfl (s_ rfl (m_ l_ rfl rfl rfl bp_) rfl (s_ rfl (t_ 0 bS_ rfl rfl rfl) rfl (s_ rfl (am_ J_ z_ rfl rfl (fun v _ h => aS_ (n := 1) aM_ (by decide) (h.2.2.2.1.2.2) hr0) (by omega) (by first | omega | (simp only [Con.parts]; omega) | (simp [Con.parts]; done))) rfl (s_ rfl (bw_ (ad := ad) E_ rfl (fun v _ h => h.2.2.2.1.2.2) (ao_ aM_ hr0 0 _ rfl)) rfl (s_ rfl (m_ l_ rfl rfl rfl z_) rfl (s_ rfl (t_ 0 E_ rfl rfl rfl) rfl (s_ rfl (N_ by_ rfl rfl) rfl (aa_ ?_)))))))))
      refine H_ 8 rfl (by kernel_rfl) (X_ I_ U_ af_ rfl rfl rfl rfl rfl rfl fun b7 => ?_)
      refine d_ (o_ rfl (u_ (fun _ a b => ⟨Vw.sat.sub a.tail, b⟩) (H_ 9 rfl (by kernel_rfl) (A_ (cw_ ⟨5, [], [], [], r0, [], ro, 0, 0, 0⟩ frm [] q hq (by omega)) rfl (.cons _ (@List.perm_append_comm _ [_] _)) (fun _ _ _ => trivial) rfl fun x => ?_))))
      obtain ⟨q10, hq10⟩ := x
      have hb10 := aY_ frm [] ⟨5, [], [], [], r0, [], ro, 0, 0, 0⟩
      refine Y_ (@List.perm_append_comm _ _ [_]) (d_ (o_ rfl (u_ (fun _ a b => ⟨Vw.sat.sub a, b⟩) (ad_ (by kernel_rfl) (aL_ rfl ?_)))))
      have e : Ax.pieces frm ⟨k, op, (.mk kl nl ll hl al cl pl), (.mk kr nr lr hr ar cr pr), ad, cap, rs, ro, a, b⟩ = (ins frm [] ⟨5, [], [], [], r0, [], ro, 0, 0, 0⟩) := by
       unfold Ax.pieces
       dsimp only
       rw [iI_ hr0]
       repeat (first | rfl | (rw [if_pos (by omega)]) | (rw [if_neg (by omega)]))
      exact dL_ dn_ ⟨q10, by rw [e]; exact hq10⟩ rfl (F := [_]) (@List.perm_append_comm _ [_] _) (fun _ _ _ => trivial)
    ·
     replace hr4 := eq_of_beq hr4
     try dsimp only [Con.kind, Con.parts, Con.name, Con.lo, Con.hi, Con.cap, Con.ad] at hr4
     obtain ⟨fr, zr⟩ := Con.check_zero (G.right (by show k ≤ 4 ∨ k = 8; omega))
     dsimp only at fr zr
     refine p_ rfl (f_ (b_ (a_ (g_ rfl) rfl (a_ (m_ l_ rfl rfl rfl k_) rfl (a_ (G_ 0 x_ k_ rfl rfl rfl) rfl (aE_ (dB_ (kb := kb) (bk := bk) (bs := br) _ (.mk kr nr lr hr ar cr pr) (Nat.le_refl _) hok.right fr [] q hq (by omega)) rfl rfl (@List.perm_append_comm _ [_] _) (fun v _ h => by exact ⟨h.2.2.2.1.2.1, h.2.2.2.2.1, h.1, h.2.2.1, trivial⟩) rfl fun x => ?_))))))
     obtain ⟨q11, hq11⟩ := x
     have hb11 := Con.rightP_len frm _ (.mk kr nr lr hr ar cr pr) (Nat.le_refl _) []
     refine Y_ (@List.perm_append_comm _ _ [_]) (d_ (c_ rfl ?_))
     refine aW_ [(b1, .cells #[.int .i64 k, .bool op, .int .i64 kl, str nl, .int .i64 ll, .int .i64 hl, .slice al pl.length cl, .int .i64 kr, str nr, .int .i64 lr, .int .i64 hr, .slice ar pr.length cr, .slice ad rs.length cap, str ro, str a, str b] 41 (0, 0))] (by kernel_rfl) ?_
     refine ab_ 4 [0, 1, 2, 3, 4] (by kernel_rfl) (fun _ a b => ⟨Vw.sat.sub a, b⟩) (s_ rfl (g_ rfl) rfl (s_ rfl (m_ l_ rfl rfl rfl z_) rfl (s_ rfl (t_ 0 E_ rfl rfl rfl) rfl (s_ rfl (m_ l_ rfl rfl rfl k_) rfl (s_ rfl (G_ 0 x_ k_ rfl rfl rfl) rfl (aa_ (H_ 5 rfl (by kernel_rfl) (A_ (bK_ (.mk kr nr lr hr ar cr pr) hok.right) rfl (.refl _) (fun v _ h => ⟨h.2.2.2.1.2.1, h.2.2.2.2.1, trivial⟩) rfl fun _ => ?_))))))))
     refine d_ (o_ rfl (u_ (fun _ a b => ⟨Vw.sat.sub a, b⟩) (ab_ 2 [6] (by kernel_rfl) (fun _ a b => ⟨Vw.sat.sub a, b⟩) (s_ rfl (N_ by_ rfl rfl) rfl (aa_ (H_ 7 rfl (by kernel_rfl) (X_ I_ U_ af_ rfl rfl rfl rfl rfl rfl fun b8 => ?_)))))))
     refine d_ (o_ rfl (u_ (fun _ a b => ⟨Vw.sat.sub a.tail, b⟩) (H_ 8 rfl (by kernel_rfl) (A_ (cw_ ⟨4, [42], [], (Con.atom (.mk kr nr lr hr ar cr pr)), ro, [], [], 0, 0, 0⟩ frm (Con.rightP frm (.mk kr nr lr hr ar cr pr) []) q11 hq11 (by omega)) rfl (.cons _ (@List.perm_append_comm _ [_] _)) (fun _ _ _ => trivial) rfl fun x => ?_))))
     obtain ⟨q13, hq13⟩ := x
     have hb13 := aY_ frm (Con.rightP frm (.mk kr nr lr hr ar cr pr) []) ⟨4, [42], [], (Con.atom (.mk kr nr lr hr ar cr pr)), ro, [], [], 0, 0, 0⟩
     refine Y_ (@List.perm_append_comm _ _ [_]) (d_ (o_ rfl (u_ (fun _ a b => ⟨Vw.sat.sub a, b⟩) (ad_ (by kernel_rfl) (aL_ rfl ?_)))))
     have e : Ax.pieces frm ⟨k, op, (.mk kl nl ll hl al cl pl), (.mk kr nr lr hr ar cr pr), ad, cap, rs, ro, a, b⟩ = (ins frm (Con.rightP frm (.mk kr nr lr hr ar cr pr) []) ⟨4, [42], [], (Con.atom (.mk kr nr lr hr ar cr pr)), ro, [], [], 0, 0, 0⟩) := by
      unfold Ax.pieces
      dsimp only
      repeat (first | rfl | (rw [if_pos (by omega)]) | (rw [if_neg (by omega)]))
     exact dL_ dn_ ⟨q13, by rw [e]; exact hq13⟩ rfl (F := [_]) (@List.perm_append_comm _ [_] _) (fun _ _ _ => trivial)
   ·
    replace hr3 := eq_of_beq hr3
    try dsimp only [Con.kind, Con.parts, Con.name, Con.lo, Con.hi, Con.cap, Con.ad] at hr3
    obtain ⟨fl, zl⟩ := Con.check_zero (G.left (by show k ≤ 3; omega))
    dsimp only at fl zl
    obtain ⟨fr, zr⟩ := Con.check_zero (G.right (by show k ≤ 4 ∨ k = 8; omega))
    dsimp only at fr zr
    refine p_ rfl (f_ (b_ (a_ (g_ rfl) rfl (a_ (m_ l_ rfl rfl rfl k_) rfl (a_ (G_ 0 x_ k_ rfl rfl rfl) rfl (aE_ (ee_ (kb := kb) (bk := bk) (bs := bl) _ (.mk kl nl ll hl al cl pl) (Nat.le_refl _) hok.left fl [] q hq (by omega)) rfl rfl (@List.perm_append_comm _ [_] _) (fun v _ h => by exact ⟨h.2.2.2.1.1, h.2.2.2.2.1, h.1, h.2.1, trivial⟩) rfl fun x => ?_))))))
    obtain ⟨q14, hq14⟩ := x
    have hb14 := Con.leftP_len frm _ (.mk kl nl ll hl al cl pl) (Nat.le_refl _) []
    refine Y_ (@List.perm_append_comm _ _ [_]) (d_ (c_ rfl (f_ (b_ (a_ (g_ rfl) rfl (a_ (m_ l_ rfl rfl rfl k_) rfl (a_ (G_ 0 x_ k_ rfl rfl rfl) rfl (aE_ (ee_ (kb := kb) (bk := bk) (bs := bl) _ (.mk kr nr lr hr ar cr pr) (Nat.le_refl _) hok.right fr (Con.leftP frm (.mk kl nl ll hl al cl pl) []) q14 hq14 (by omega)) rfl rfl (@List.perm_append_comm _ [_] _) (fun v _ h => by exact ⟨h.2.2.2.1.2.1, h.2.2.2.2.1, h.1, h.2.1, trivial⟩) rfl fun x => ?_))))))))
    obtain ⟨q15, hq15⟩ := x
    have hb15 := Con.leftP_len frm _ (.mk kr nr lr hr ar cr pr) (Nat.le_refl _) (Con.leftP frm (.mk kl nl ll hl al cl pl) [])
    refine Y_ (@List.perm_append_comm _ _ [_]) (d_ (c_ rfl ?_))
    refine aW_ [(b1, .cells #[.int .i64 k, .bool op, .int .i64 kl, str nl, .int .i64 ll, .int .i64 hl, .slice al pl.length cl, .int .i64 kr, str nr, .int .i64 lr, .int .i64 hr, .slice ar pr.length cr, .slice ad rs.length cap, str ro, str a, str b] 41 (0, 0))] (by kernel_rfl) ?_
    refine ab_ 5 [0, 1, 2, 4, 5] (by kernel_rfl) (fun _ a b => ⟨Vw.sat.sub a, b⟩) (s_ rfl (g_ rfl) rfl (s_ rfl (m_ l_ rfl rfl rfl k_) rfl (s_ rfl (G_ 0 x_ k_ rfl rfl rfl) rfl (s_ rfl (m_ l_ rfl rfl rfl k_) rfl (s_ rfl (G_ 0 x_ k_ rfl rfl rfl) rfl (aa_ (H_ 3 rfl (by kernel_rfl) (A_ (bK_ (.mk kl nl ll hl al cl pl) hok.left) rfl (.refl _) (fun v _ h => ⟨h.2.2.2.1.1, h.2.2.2.2.1, trivial⟩) rfl fun _ => ?_))))))))
    refine d_ (o_ rfl (u_ (fun _ a b => ⟨Vw.sat.sub a, b⟩) (H_ 6 rfl (by kernel_rfl) (A_ (bK_ (.mk kr nr lr hr ar cr pr) hok.right) rfl (.refl _) (fun v _ h => ⟨h.2.2.2.1.2.1, h.2.2.2.2.1, trivial⟩) rfl fun _ => ?_))))
    refine d_ (o_ rfl (u_ (fun _ a b => ⟨Vw.sat.sub a, b⟩) (ab_ 2 [7] (by kernel_rfl) (fun _ a b => ⟨Vw.sat.sub a, b⟩) (s_ rfl (N_ by_ rfl rfl) rfl (aa_ (H_ 8 rfl (by kernel_rfl) (X_ I_ U_ af_ rfl rfl rfl rfl rfl rfl fun b9 => ?_)))))))
    refine d_ (o_ rfl (u_ (fun _ a b => ⟨Vw.sat.sub a.tail, b⟩) (H_ 9 rfl (by kernel_rfl) (A_ (cw_ ⟨2, (Con.atom (.mk kl nl ll hl al cl pl)), (Con.atom (.mk kr nr lr hr ar cr pr)), [33], [], [], [], 0, 0, 0⟩ frm (Con.leftP frm (.mk kr nr lr hr ar cr pr) (Con.leftP frm (.mk kl nl ll hl al cl pl) [])) q15 hq15 (by omega)) rfl (.cons _ (@List.perm_append_comm _ [_] _)) (fun _ _ _ => trivial) rfl fun x => ?_))))
    obtain ⟨q17, hq17⟩ := x
    have hb17 := aY_ frm (Con.leftP frm (.mk kr nr lr hr ar cr pr) (Con.leftP frm (.mk kl nl ll hl al cl pl) [])) ⟨2, (Con.atom (.mk kl nl ll hl al cl pl)), (Con.atom (.mk kr nr lr hr ar cr pr)), [33], [], [], [], 0, 0, 0⟩
    refine Y_ (@List.perm_append_comm _ _ [_]) (d_ (o_ rfl (u_ (fun _ a b => ⟨Vw.sat.sub a, b⟩) (ad_ (by kernel_rfl) (aL_ rfl ?_)))))
    have e : Ax.pieces frm ⟨k, op, (.mk kl nl ll hl al cl pl), (.mk kr nr lr hr ar cr pr), ad, cap, rs, ro, a, b⟩ = (ins frm (Con.leftP frm (.mk kr nr lr hr ar cr pr) (Con.leftP frm (.mk kl nl ll hl al cl pl) [])) ⟨2, (Con.atom (.mk kl nl ll hl al cl pl)), (Con.atom (.mk kr nr lr hr ar cr pr)), [33], [], [], [], 0, 0, 0⟩) := by
     unfold Ax.pieces
     dsimp only
     repeat (first | rfl | (rw [if_pos (by omega)]) | (rw [if_neg (by omega)]))
    exact dL_ dn_ ⟨q17, by rw [e]; exact hq17⟩ rfl (F := [_]) (@List.perm_append_comm _ [_] _) (fun _ _ _ => trivial)
  ·
   replace hr2 := eq_of_beq hr2
   try dsimp only [Con.kind, Con.parts, Con.name, Con.lo, Con.hi, Con.cap, Con.ad] at hr2
   obtain ⟨fl, zl⟩ := Con.check_zero (G.left (by show k ≤ 3; omega))
   dsimp only at fl zl
   obtain ⟨fr, zr⟩ := Con.check_zero (G.right (by show k ≤ 4 ∨ k = 8; omega))
   dsimp only at fr zr
   refine p_ rfl (f_ (b_ (a_ (g_ rfl) rfl (a_ (m_ l_ rfl rfl rfl k_) rfl (a_ (G_ 0 x_ k_ rfl rfl rfl) rfl (aE_ (ee_ (kb := kb) (bk := bk) (bs := bl) _ (.mk kl nl ll hl al cl pl) (Nat.le_refl _) hok.left fl [] q hq (by omega)) rfl rfl (@List.perm_append_comm _ [_] _) (fun v _ h => by exact ⟨h.2.2.2.1.1, h.2.2.2.2.1, h.1, h.2.1, trivial⟩) rfl fun x => ?_))))))
   obtain ⟨q18, hq18⟩ := x
   have hb18 := Con.leftP_len frm _ (.mk kl nl ll hl al cl pl) (Nat.le_refl _) []
   refine Y_ (@List.perm_append_comm _ _ [_]) (d_ (c_ rfl (f_ (b_ (a_ (g_ rfl) rfl (a_ (m_ l_ rfl rfl rfl k_) rfl (a_ (G_ 0 x_ k_ rfl rfl rfl) rfl (aE_ (dB_ (kb := kb) (bk := bk) (bs := br) _ (.mk kr nr lr hr ar cr pr) (Nat.le_refl _) hok.right fr (Con.leftP frm (.mk kl nl ll hl al cl pl) []) q18 hq18 (by omega)) rfl rfl (@List.perm_append_comm _ [_] _) (fun v _ h => by exact ⟨h.2.2.2.1.2.1, h.2.2.2.2.1, h.1, h.2.2.1, trivial⟩) rfl fun x => ?_))))))))
   obtain ⟨q19, hq19⟩ := x
   have hb19 := Con.rightP_len frm _ (.mk kr nr lr hr ar cr pr) (Nat.le_refl _) (Con.leftP frm (.mk kl nl ll hl al cl pl) [])
   refine Y_ (@List.perm_append_comm _ _ [_]) (d_ (c_ rfl (f_ ?_)))
   refine aW_ [(b1, .cells #[.int .i64 k, .bool op, .int .i64 kl, str nl, .int .i64 ll, .int .i64 hl, .slice al pl.length cl, .int .i64 kr, str nr, .int .i64 lr, .int .i64 hr, .slice ar pr.length cr, .slice ad rs.length cap, str ro, str a, str b] 41 (0, 0))] (by kernel_rfl) ?_
   refine ab_ 5 [0, 1, 2, 4, 5] (by kernel_rfl) (fun _ a b => ⟨Vw.sat.sub a, b⟩) (s_ rfl (g_ rfl) rfl (s_ rfl (m_ l_ rfl rfl rfl k_) rfl (s_ rfl (G_ 0 x_ k_ rfl rfl rfl) rfl (s_ rfl (m_ l_ rfl rfl rfl k_) rfl (s_ rfl (G_ 0 x_ k_ rfl rfl rfl) rfl (aa_ (H_ 3 rfl (by kernel_rfl) (A_ (bK_ (.mk kl nl ll hl al cl pl) hok.left) rfl (.refl _) (fun v _ h => ⟨h.2.2.2.1.1, h.2.2.2.2.1, trivial⟩) rfl fun _ => ?_))))))))
   refine d_ (o_ rfl (u_ (fun _ a b => ⟨Vw.sat.sub a, b⟩) (H_ 6 rfl (by kernel_rfl) (A_ (bK_ (.mk kr nr lr hr ar cr pr) hok.right) rfl (.refl _) (fun v _ h => ⟨h.2.2.2.1.2.1, h.2.2.2.2.1, trivial⟩) rfl fun _ => ?_))))
   refine d_ (o_ rfl (u_ (fun _ a b => ⟨Vw.sat.sub a, b⟩) (ab_ 2 [7] (by kernel_rfl) (fun _ a b => ⟨Vw.sat.sub a, b⟩) (s_ rfl (N_ by_ rfl rfl) rfl (aa_ (H_ 8 rfl (by kernel_rfl) (X_ I_ U_ af_ rfl rfl rfl rfl rfl rfl fun b10 => ?_)))))))
   refine d_ (o_ rfl (u_ (fun _ a b => ⟨Vw.sat.sub a.tail, b⟩) (H_ 9 rfl (by kernel_rfl) (A_ (cw_ ⟨1, (Con.atom (.mk kl nl ll hl al cl pl)), [], (Con.atom (.mk kr nr lr hr ar cr pr)), [], [], [], 0, 0, 0⟩ frm (Con.rightP frm (.mk kr nr lr hr ar cr pr) (Con.leftP frm (.mk kl nl ll hl al cl pl) [])) q19 hq19 (by omega)) rfl (.cons _ (@List.perm_append_comm _ [_] _)) (fun _ _ _ => trivial) rfl fun x => ?_))))
   obtain ⟨q21, hq21⟩ := x
   have hb21 := aY_ frm (Con.rightP frm (.mk kr nr lr hr ar cr pr) (Con.leftP frm (.mk kl nl ll hl al cl pl) [])) ⟨1, (Con.atom (.mk kl nl ll hl al cl pl)), [], (Con.atom (.mk kr nr lr hr ar cr pr)), [], [], [], 0, 0, 0⟩
   refine Y_ (@List.perm_append_comm _ _ [_]) (d_ (o_ rfl (u_ (fun _ a b => ⟨Vw.sat.sub a, b⟩) (ad_ (by kernel_rfl) (c_ rfl (f_ (b_ (a_ (g_ rfl) rfl (a_ (m_ l_ rfl rfl rfl k_) rfl ?_)))))))))
   refine a_ (G_ 0 x_ k_ rfl rfl rfl) rfl (aE_ (ee_ (kb := kb) (bk := bk) (bs := bl) _ (.mk kr nr lr hr ar cr pr) (Nat.le_refl _) hok.right fr (ins frm (Con.rightP frm (.mk kr nr lr hr ar cr pr) (Con.leftP frm (.mk kl nl ll hl al cl pl) [])) ⟨1, (Con.atom (.mk kl nl ll hl al cl pl)), [], (Con.atom (.mk kr nr lr hr ar cr pr)), [], [], [], 0, 0, 0⟩) q21 hq21 (by omega)) rfl rfl (@List.perm_append_comm _ [_] _) (fun v _ h => by exact ⟨h.2.2.2.1.2.1, h.2.2.2.2.1, h.1, h.2.1, trivial⟩) rfl fun x => ?_)
   obtain ⟨q22, hq22⟩ := x
   have hb22 := Con.leftP_len frm _ (.mk kr nr lr hr ar cr pr) (Nat.le_refl _) (ins frm (Con.rightP frm (.mk kr nr lr hr ar cr pr) (Con.leftP frm (.mk kl nl ll hl al cl pl) [])) ⟨1, (Con.atom (.mk kl nl ll hl al cl pl)), [], (Con.atom (.mk kr nr lr hr ar cr pr)), [], [], [], 0, 0, 0⟩)
   refine Y_ (@List.perm_append_comm _ _ [_]) (d_ (c_ rfl (f_ (b_ (a_ (g_ rfl) rfl (a_ (m_ l_ rfl rfl rfl k_) rfl (a_ (G_ 0 x_ k_ rfl rfl rfl) rfl (aE_ (dB_ (kb := kb) (bk := bk) (bs := br) _ (.mk kl nl ll hl al cl pl) (Nat.le_refl _) hok.left fl (Con.leftP frm (.mk kr nr lr hr ar cr pr) (ins frm (Con.rightP frm (.mk kr nr lr hr ar cr pr) (Con.leftP frm (.mk kl nl ll hl al cl pl) [])) ⟨1, (Con.atom (.mk kl nl ll hl al cl pl)), [], (Con.atom (.mk kr nr lr hr ar cr pr)), [], [], [], 0, 0, 0⟩)) q22 hq22 (by omega)) rfl rfl (@List.perm_append_comm _ [_] _) (fun v _ h => by exact ⟨h.2.2.2.1.1, h.2.2.2.2.1, h.1, h.2.2.1, trivial⟩) rfl fun x => ?_))))))))
   obtain ⟨q23, hq23⟩ := x
   have hb23 := Con.rightP_len frm _ (.mk kl nl ll hl al cl pl) (Nat.le_refl _) (Con.leftP frm (.mk kr nr lr hr ar cr pr) (ins frm (Con.rightP frm (.mk kr nr lr hr ar cr pr) (Con.leftP frm (.mk kl nl ll hl al cl pl) [])) ⟨1, (Con.atom (.mk kl nl ll hl al cl pl)), [], (Con.atom (.mk kr nr lr hr ar cr pr)), [], [], [], 0, 0, 0⟩))
   refine Y_ (@List.perm_append_comm _ _ [_]) (d_ (c_ rfl ?_))
   refine aW_ [(b1, .cells #[.int .i64 k, .bool op, .int .i64 kl, str nl, .int .i64 ll, .int .i64 hl, .slice al pl.length cl, .int .i64 kr, str nr, .int .i64 lr, .int .i64 hr, .slice ar pr.length cr, .slice ad rs.length cap, str ro, str a, str b] 41 (0, 0))] (by kernel_rfl) ?_
   refine ab_ 5 [0, 1, 2, 4, 5] (by kernel_rfl) (fun _ a b => ⟨Vw.sat.sub a, b⟩) (s_ rfl (g_ rfl) rfl (s_ rfl (m_ l_ rfl rfl rfl k_) rfl (s_ rfl (G_ 0 x_ k_ rfl rfl rfl) rfl (s_ rfl (m_ l_ rfl rfl rfl k_) rfl (s_ rfl (G_ 0 x_ k_ rfl rfl rfl) rfl (aa_ (H_ 3 rfl (by kernel_rfl) (A_ (bK_ (.mk kr nr lr hr ar cr pr) hok.right) rfl (.refl _) (fun v _ h => ⟨h.2.2.2.1.2.1, h.2.2.2.2.1, trivial⟩) rfl fun _ => ?_))))))))
   refine d_ (o_ rfl (u_ (fun _ a b => ⟨Vw.sat.sub a, b⟩) (H_ 6 rfl (by kernel_rfl) (A_ (bK_ (.mk kl nl ll hl al cl pl) hok.left) rfl (.refl _) (fun v _ h => ⟨h.2.2.2.1.1, h.2.2.2.2.1, trivial⟩) rfl fun _ => ?_))))
   refine d_ (o_ rfl (u_ (fun _ a b => ⟨Vw.sat.sub a, b⟩) (ab_ 2 [7] (by kernel_rfl) (fun _ a b => ⟨Vw.sat.sub a, b⟩) (s_ rfl (N_ by_ rfl rfl) rfl (aa_ (H_ 8 rfl (by kernel_rfl) (X_ I_ U_ af_ rfl rfl rfl rfl rfl rfl fun b11 => ?_)))))))
   refine d_ (o_ rfl (u_ (fun _ a b => ⟨Vw.sat.sub a.tail, b⟩) (H_ 9 rfl (by kernel_rfl) (A_ (cw_ ⟨1, (Con.atom (.mk kr nr lr hr ar cr pr)), [], (Con.atom (.mk kl nl ll hl al cl pl)), [], [], [], 0, 0, 0⟩ frm (Con.rightP frm (.mk kl nl ll hl al cl pl) (Con.leftP frm (.mk kr nr lr hr ar cr pr) (ins frm (Con.rightP frm (.mk kr nr lr hr ar cr pr) (Con.leftP frm (.mk kl nl ll hl al cl pl) [])) ⟨1, (Con.atom (.mk kl nl ll hl al cl pl)), [], (Con.atom (.mk kr nr lr hr ar cr pr)), [], [], [], 0, 0, 0⟩))) q23 hq23 (by omega)) rfl (.cons _ (@List.perm_append_comm _ [_] _)) (fun _ _ _ => trivial) rfl fun x => ?_))))
   obtain ⟨q25, hq25⟩ := x
   have hb25 := aY_ frm (Con.rightP frm (.mk kl nl ll hl al cl pl) (Con.leftP frm (.mk kr nr lr hr ar cr pr) (ins frm (Con.rightP frm (.mk kr nr lr hr ar cr pr) (Con.leftP frm (.mk kl nl ll hl al cl pl) [])) ⟨1, (Con.atom (.mk kl nl ll hl al cl pl)), [], (Con.atom (.mk kr nr lr hr ar cr pr)), [], [], [], 0, 0, 0⟩))) ⟨1, (Con.atom (.mk kr nr lr hr ar cr pr)), [], (Con.atom (.mk kl nl ll hl al cl pl)), [], [], [], 0, 0, 0⟩
   refine Y_ (@List.perm_append_comm _ _ [_]) (d_ (o_ rfl (u_ (fun _ a b => ⟨Vw.sat.sub a, b⟩) (ad_ (by kernel_rfl) (aL_ rfl ?_)))))
   have e : Ax.pieces frm ⟨k, op, (.mk kl nl ll hl al cl pl), (.mk kr nr lr hr ar cr pr), ad, cap, rs, ro, a, b⟩ = (ins frm (Con.rightP frm (.mk kl nl ll hl al cl pl) (Con.leftP frm (.mk kr nr lr hr ar cr pr) (ins frm (Con.rightP frm (.mk kr nr lr hr ar cr pr) (Con.leftP frm (.mk kl nl ll hl al cl pl) [])) ⟨1, (Con.atom (.mk kl nl ll hl al cl pl)), [], (Con.atom (.mk kr nr lr hr ar cr pr)), [], [], [], 0, 0, 0⟩))) ⟨1, (Con.atom (.mk kr nr lr hr ar cr pr)), [], (Con.atom (.mk kl nl ll hl al cl pl)), [], [], [], 0, 0, 0⟩) := by
    unfold Ax.pieces
    dsimp only
    repeat (first | rfl | (rw [if_pos (by omega)]) | (rw [if_neg (by omega)]))
   exact dL_ dn_ ⟨q25, by rw [e]; exact hq25⟩ rfl (F := [_]) (@List.perm_append_comm _ [_] _) (fun _ _ _ => trivial)
 ·
  replace hr1 := eq_of_beq hr1
  try dsimp only [Con.kind, Con.parts, Con.name, Con.lo, Con.hi, Con.cap, Con.ad] at hr1
  obtain ⟨fl, zl⟩ := Con.check_zero (G.left (by show k ≤ 3; omega))
  dsimp only at fl zl
  obtain ⟨fr, zr⟩ := Con.check_zero (G.right (by show k ≤ 4 ∨ k = 8; omega))
  dsimp only at fr zr
  refine p_ rfl (f_ (b_ (a_ (g_ rfl) rfl (a_ (m_ l_ rfl rfl rfl k_) rfl (a_ (G_ 0 x_ k_ rfl rfl rfl) rfl (aE_ (ee_ (kb := kb) (bk := bk) (bs := bl) _ (.mk kl nl ll hl al cl pl) (Nat.le_refl _) hok.left fl [] q hq (by omega)) rfl rfl (@List.perm_append_comm _ [_] _) (fun v _ h => by exact ⟨h.2.2.2.1.1, h.2.2.2.2.1, h.1, h.2.1, trivial⟩) rfl fun x => ?_))))))
  obtain ⟨q26, hq26⟩ := x
  have hb26 := Con.leftP_len frm _ (.mk kl nl ll hl al cl pl) (Nat.le_refl _) []
  refine Y_ (@List.perm_append_comm _ _ [_]) (d_ (c_ rfl (f_ (b_ (a_ (g_ rfl) rfl (a_ (m_ l_ rfl rfl rfl k_) rfl (a_ (G_ 0 x_ k_ rfl rfl rfl) rfl (aE_ (dB_ (kb := kb) (bk := bk) (bs := br) _ (.mk kr nr lr hr ar cr pr) (Nat.le_refl _) hok.right fr (Con.leftP frm (.mk kl nl ll hl al cl pl) []) q26 hq26 (by omega)) rfl rfl (@List.perm_append_comm _ [_] _) (fun v _ h => by exact ⟨h.2.2.2.1.2.1, h.2.2.2.2.1, h.1, h.2.2.1, trivial⟩) rfl fun x => ?_))))))))
  obtain ⟨q27, hq27⟩ := x
  have hb27 := Con.rightP_len frm _ (.mk kr nr lr hr ar cr pr) (Nat.le_refl _) (Con.leftP frm (.mk kl nl ll hl al cl pl) [])
  refine Y_ (@List.perm_append_comm _ _ [_]) (d_ (c_ rfl ?_))
  refine aW_ [(b1, .cells #[.int .i64 k, .bool op, .int .i64 kl, str nl, .int .i64 ll, .int .i64 hl, .slice al pl.length cl, .int .i64 kr, str nr, .int .i64 lr, .int .i64 hr, .slice ar pr.length cr, .slice ad rs.length cap, str ro, str a, str b] 41 (0, 0))] (by kernel_rfl) ?_
  refine ab_ 5 [0, 1, 2, 4, 5] (by kernel_rfl) (fun _ a b => ⟨Vw.sat.sub a, b⟩) (s_ rfl (g_ rfl) rfl (s_ rfl (m_ l_ rfl rfl rfl k_) rfl (s_ rfl (G_ 0 x_ k_ rfl rfl rfl) rfl (s_ rfl (m_ l_ rfl rfl rfl k_) rfl (s_ rfl (G_ 0 x_ k_ rfl rfl rfl) rfl (aa_ (H_ 3 rfl (by kernel_rfl) (A_ (bK_ (.mk kl nl ll hl al cl pl) hok.left) rfl (.refl _) (fun v _ h => ⟨h.2.2.2.1.1, h.2.2.2.2.1, trivial⟩) rfl fun _ => ?_))))))))
  refine d_ (o_ rfl (u_ (fun _ a b => ⟨Vw.sat.sub a, b⟩) (H_ 6 rfl (by kernel_rfl) (A_ (bK_ (.mk kr nr lr hr ar cr pr) hok.right) rfl (.refl _) (fun v _ h => ⟨h.2.2.2.1.2.1, h.2.2.2.2.1, trivial⟩) rfl fun _ => ?_))))
  refine d_ (o_ rfl (u_ (fun _ a b => ⟨Vw.sat.sub a, b⟩) (ab_ 2 [7] (by kernel_rfl) (fun _ a b => ⟨Vw.sat.sub a, b⟩) (s_ rfl (N_ by_ rfl rfl) rfl (aa_ (H_ 8 rfl (by kernel_rfl) (X_ I_ U_ af_ rfl rfl rfl rfl rfl rfl fun b12 => ?_)))))))
  refine d_ (o_ rfl (u_ (fun _ a b => ⟨Vw.sat.sub a.tail, b⟩) (H_ 9 rfl (by kernel_rfl) (A_ (cw_ ⟨1, (Con.atom (.mk kl nl ll hl al cl pl)), [], (Con.atom (.mk kr nr lr hr ar cr pr)), [], [], [], 0, 0, 0⟩ frm (Con.rightP frm (.mk kr nr lr hr ar cr pr) (Con.leftP frm (.mk kl nl ll hl al cl pl) [])) q27 hq27 (by omega)) rfl (.cons _ (@List.perm_append_comm _ [_] _)) (fun _ _ _ => trivial) rfl fun x => ?_))))
  obtain ⟨q29, hq29⟩ := x
  have hb29 := aY_ frm (Con.rightP frm (.mk kr nr lr hr ar cr pr) (Con.leftP frm (.mk kl nl ll hl al cl pl) [])) ⟨1, (Con.atom (.mk kl nl ll hl al cl pl)), [], (Con.atom (.mk kr nr lr hr ar cr pr)), [], [], [], 0, 0, 0⟩
  refine Y_ (@List.perm_append_comm _ _ [_]) (d_ (o_ rfl (u_ (fun _ a b => ⟨Vw.sat.sub a, b⟩) (ad_ (by kernel_rfl) (aL_ rfl ?_)))))
  have e : Ax.pieces frm ⟨k, op, (.mk kl nl ll hl al cl pl), (.mk kr nr lr hr ar cr pr), ad, cap, rs, ro, a, b⟩ = (ins frm (Con.rightP frm (.mk kr nr lr hr ar cr pr) (Con.leftP frm (.mk kl nl ll hl al cl pl) [])) ⟨1, (Con.atom (.mk kl nl ll hl al cl pl)), [], (Con.atom (.mk kr nr lr hr ar cr pr)), [], [], [], 0, 0, 0⟩) := by
   unfold Ax.pieces
   dsimp only
   repeat (first | rfl | (rw [if_pos (by omega)]) | (rw [if_neg (by omega)]))
  exact dL_ dn_ ⟨q29, by rw [e]; exact hq29⟩ rfl (F := [_]) (@List.perm_append_comm _ [_] _) (fun _ _ _ => trivial)
end Go.Proofs.YtoafjmalfclpoaaGreatDoor
namespace Go.Proofs.YtoafjmalfclpoaaGreatDoor
open Go Go.Sx Go.Proofs
attribute [local irreducible] Code.wp wpList wpAnyH
open Go.Vs
theorem bk_.form {e : TypeId} {sz n : Nat} {sv : Value} {xs : List Value} {Hr : Hp} (h : bk_ e sz sv n xs Hr) : ∃ ad cap, sv = .slice ad n cap := by
  rcases h.2 with ⟨h1, h2, _⟩ | ⟨g, cap, cur, h1, _⟩
  · exact ⟨none, 0, by rw [h1, h2]⟩
  · exact ⟨_, cap, h1⟩
theorem kP_ (l : List Ax) (ad : Option Addr) (cap : Nat) (hcap : l.length ≤ cap ∧ cap ≤ 2199023255488) (hok : ∀ x ∈ l, x.ok) :
  Tri Tryz.prog 12 #[.slice ad l.length cap] [] [ev_ ad l, bH_] (fun y : {y : Option Addr × Nat // (aO_ l).1.length ≤ y.2 ∧ y.2 ≤ maxLen} => .tuple #[.slice y.1.1 (aO_ l).1.length y.1.2, .int .i64 (aO_ l).2]) (fun _ => []) (fun y => [bQ_ y.1.1 ((aO_ l).1.flatMap Pc.cells)]) := by
 refine M_ Tryz.func12 rfl rfl Tryz.ntmps12 rfl fun v0 => ?_
 refine f_ (b_ (a_ (e_ rfl) rfl (a_ (e_ rfl) rfl (d_ (c_ rfl (f_ (f_ (b_ (a_ (g_ rfl) rfl ?_)))))))))
 refine a_ (ar_ bm_ rfl) rfl (v_ (ce_ rfl rfl) rfl fun r1 hr1 => ?_)
 refine d_ (c_ rfl ?_)
 cases r1
 ·
  replace hr1 := of_decide_eq_false hr1
  try dsimp only [Con.kind, Con.parts, Con.name, Con.lo, Con.hi, Con.cap, Con.ad] at hr1
  refine r_ rfl (D_ (c_ rfl (f_ (f_ (b_ (a_ (g_ rfl) rfl (a_ (ar_ bm_ rfl) rfl (a_ (g_ rfl) rfl (d_ ?_)))))))))
  refine c_ rfl (T_ (bs_ [(0, .slice ad l.length cap), (2, .slice none 0 0), (13, .slice ad l.length cap), (14, .int .i64 (l.length : Int)), (15, .int .i64 ((0 : Nat) : Int))] ⟨rfl, rfl, rfl, rfl, rfl, trivial⟩ ?_))
  refine bE_ (ι := {q : Nat // q ≤ l.length ∧ ∀ y ∈ l.take q, y.check = 0}) (fun i => [(0, .slice ad l.length cap), (2, .slice none 0 0), (13, .slice ad l.length cap), (14, .int .i64 (l.length : Int)), (15, .int .i64 (i.1 : Int))]) (fun _ => _) (fun _ => _) (fun i => l.length - i.1) ⟨0, by simp⟩ ?_
  rintro ⟨i, hk⟩
  refine bs_ [(0, .slice ad l.length cap), (2, .slice none 0 0), (13, .slice ad l.length cap), (14, .int .i64 (l.length : Int)), (15, .int .i64 (i : Int))] ⟨rfl, rfl, rfl, rfl, rfl, trivial⟩ ?_
  refine f_ (b_ (v_ (aN_ rfl rfl) rfl fun r2 hr2 => ?_))
  refine d_ (c_ rfl (f_ ?_))
  cases r2
  ·
   replace hr2 := of_decide_eq_false hr2
   try dsimp only [Con.kind, Con.parts, Con.name, Con.lo, Con.hi, Con.cap, Con.ad] at hr2
   obtain rfl : i = l.length := by omega
   try rw [List.take_length] at hk
   refine r_ rfl (aU_ rfl (c_ rfl (f_ (f_ (b_ (a_ (g_ rfl) rfl (a_ (ar_ bm_ rfl) rfl (a_ (g_ rfl) rfl (d_ ?_)))))))))
   refine c_ rfl (T_ ?_)
   have hall := hk.2
   refine bs_ [(2, .slice none 0 0), (25, .slice ad l.length cap), (26, .int .i64 (l.length : Int)), (27, .int .i64 ((0 : Nat) : Int))] ⟨rfl, rfl, rfl, rfl, trivial⟩ ?_
   refine bE_ (ι := {x : Nat × List Pc × Value × Hp // x.1 ≤ l.length ∧ bk_ 31 10 x.2.2.1 x.2.1.length (x.2.1.flatMap Pc.cells) x.2.2.2 ∧ x.2.1.length ≤ 16384 ∧ ef_ 0 l [] = ef_ x.1 (l.drop x.1) x.2.1}) (fun x => [(2, x.1.2.2.1), (25, .slice ad l.length cap), (26, .int .i64 (l.length : Int)), (27, .int .i64 (x.1.1 : Int))]) (fun x => x.1.2.2.2) (fun _ => _) (fun x => l.length - x.1.1) ⟨(0, [], .slice none 0 0, []), by simp, bk_.nil _ _, by simp, rfl⟩ ?_
   clear hk
   rintro ⟨⟨i, p, sv, Hr⟩, hk⟩
   dsimp only at hk
   refine bs_ [(2, sv), (25, .slice ad l.length cap), (26, .int .i64 (l.length : Int)), (27, .int .i64 (i : Int))] ⟨rfl, rfl, rfl, rfl, trivial⟩ ?_
   refine f_ (b_ (v_ (aN_ rfl rfl) rfl fun r3 hr3 => ?_))
   refine d_ (c_ rfl (f_ ?_))
   cases r3
   ·
    replace hr3 := of_decide_eq_false hr3
    try dsimp only [Con.kind, Con.parts, Con.name, Con.lo, Con.hi, Con.cap, Con.ad] at hr3
    obtain rfl : i = l.length := by omega
    try rw [List.take_length] at hk
    refine r_ rfl (aU_ rfl (c_ rfl (f_ (b_ (a_ (g_ rfl) rfl (a_ (e_ rfl) rfl (a_ (e_ rfl) rfl (d_ (c_ rfl ?_)))))))))
    refine B_ (cv_ hk.2.1 (F := []) (by rw [List.append_nil]) fun ad2 cp2 hsv hc1 hc2 => ?_)
    have e : aO_ l = (p, 0) := by
     unfold aO_; rw [if_neg (by omega), if_neg (by simp [dC_ hall]), hk.2.2.2, List.drop_length]; first | done | rfl
    have hy : (aO_ l).1.length ≤ cp2 ∧ cp2 ≤ maxLen := by rw [e]; exact ⟨hc1, hc2⟩
    have hz : Value.tuple #[sv, .int .i64 0] = .tuple #[.slice ad2 (aO_ l).1.length cp2, .int .i64 (aO_ l).2] := by rw [e, hsv]
    have hw : (p.flatMap Pc.cells) = ((aO_ l).1.flatMap Pc.cells) := by rw [e]
    exact iU_ Tryz.results12 ⟨(ad2, cp2), hy⟩ rfl rfl hz (.refl _) (fun v _ h => ⟨hw ▸ h.1, trivial⟩)
   ·
    replace hr3 := of_decide_eq_true hr3
    try dsimp only [Con.kind, Con.parts, Con.name, Con.lo, Con.hi, Con.cap, Con.ad] at hr3
    have hlt : i < l.length := by omega
    obtain ⟨x, hx⟩ : ∃ x, l[i]? = some x := ⟨_, List.getElem?_eq_getElem hlt⟩
    have hxm : x ∈ l := List.mem_of_getElem? hx
    refine p_ rfl (D_ (c_ rfl (f_ (T_ (f_ ?_)))))
    have G := Ax.good_of (hall x hxm)
    have hpl := gA_ (i : Int) G
    refine b_ (a_ (g_ rfl) rfl (a_ (am_ bm_ ae_ rfl rfl (fun v _ h => aS_ (n := 16) Ax.cells_len (by decide) (h.1.1) hx) (by omega) (by first | omega | (simp only [Con.parts]; omega) | (simp [Con.parts]; done))) rfl (a_ (aH_ (ad := ad) (us := x.cells) bR_ ae_ rfl (fun v _ h => h.1.1) (Ax.cells_len _) (ao_ Ax.cells_len hx)) rfl (an_ aT_ rfl fun b1 => ?_))))
    refine a_ (e_ rfl) rfl (gC_ (us := x.cells) 0 ae_ x.cells_len x.one_cells rfl rfl rfl rfl (d_ (c_ rfl (f_ (b_ (a_ (g_ rfl) rfl (A_ (eR_ (i : Int)) rfl (.refl _) (fun _ _ _ => trivial) rfl fun ⟨kb, bm⟩ => ?_)))))))
    refine a_ (e_ rfl) rfl (d_ (c_ rfl (f_ (b_ (a_ (g_ rfl) rfl (a_ (gY_ (us := x.cells) 2 bR_ ae_ x.cells_len rfl rfl) rfl (A_ (lN_ x (hok x hxm) (hall x hxm) (i : Int) ⟨.slice none 0 0, bm, #[], 0, []⟩ ⟨bk_.nil _ _, rfl, by simp⟩) rfl (.refl _) (fun v _ h => ⟨h.1.2 x hxm, h.2.1, trivial⟩) rfl fun y => ?_)))))))
    obtain ⟨⟨sv1, bm1, es1, ck1, Hr1⟩, hq⟩ := y
    have hne := hq.row
    dsimp only at hne
    have hn0 : (x.pieces (i : Int)).length ≠ 0 := fun e => Ax.pieces_ne _ G (List.eq_nil_of_length_eq_zero e)
    obtain ⟨g, cp, cur, rfl, rfl, h3, h4, h5, h6⟩ := hne.some hn0
    refine d_ (c_ rfl (f_ (b_ (a_ (g_ rfl) rfl (a_ (g_ rfl) rfl (a_ (bv_ rfl) rfl (a_ (m_ aJ_ rfl rfl rfl bW_) rfl (a_ (t_ 0 dy_ rfl rfl rfl) rfl (dx_ lg_ hk.2.1 rfl rfl (@List.perm_append_comm _ [_, _, _, _] _) (by rw [cC_ Pc.cells 10 Pc.cells_len]) (jX_ 2 rfl h6) (fun u hu => by obtain ⟨y, _, hy⟩ := List.mem_flatMap.1 hu; exact fD_ y.cells_one u hy) (by simp only [maxLen]; omega) (by omega) rfl fun sv2 Hr2 hrow => ?_)))))))))
    refine Y_ (@List.perm_append_comm _ _ [_, _, _, _]) ?_
    have hln : ∃ ad2 cp2, sv2 = .slice ad2 (p.length + (x.pieces (i : Int)).length) cp2 := bk_.form hrow
    obtain ⟨ad2, cp2, hsv⟩ := hln
    refine a_ (e_ rfl) rfl (d_ (c_ rfl (f_ (b_ (a_ (g_ rfl) rfl (a_ (ar_ (ad := ad2) (len := p.length + (x.pieces (i : Int)).length) (cap := cp2) I_ (congrArg some hsv)) rfl (v_ (ce_ rfl rfl) rfl fun r4 hr4 => ?_)))))))
    refine d_ (c_ rfl ?_)
    cases r4
    ·
     replace hr4 := of_decide_eq_false hr4
     try dsimp only [Con.kind, Con.parts, Con.name, Con.lo, Con.hi, Con.cap, Con.ad] at hr4
     refine r_ rfl (D_ (c_ rfl (b_ (a_ (R_ rfl rfl rfl (aq_ (by omega) (by omega))) rfl (a_ (g_ rfl) rfl (d_ (o_ rfl ?_)))))))
     exact av_ ⟨(i + 1, p ++ x.pieces (i : Int), sv2, Hr2), hlt, by simpa [List.flatMap_append] using hrow, by simp only [List.length_append]; omega, by rw [hk.2.2.2, fL_ hx]; simp only [ef_]; rw [if_neg (by simp only [List.length_append]; omega)]⟩ (by simp; omega) ⟨rfl, rfl, rfl, rfl, trivial⟩ (F := [_, _, _, _]) (@List.perm_append_comm _ [_, _, _, _] _) (fun _ _ h => h)
    ·
     replace hr4 := of_decide_eq_true hr4
     try dsimp only [Con.kind, Con.parts, Con.name, Con.lo, Con.hi, Con.cap, Con.ad] at hr4
     refine p_ rfl (f_ (b_ (a_ (e_ rfl) rfl (a_ (e_ rfl) rfl (d_ (c_ rfl (B_ ?_)))))))
     have e : aO_ l = ([], 2) := by unfold aO_; rw [if_neg (by omega), if_neg (by simp [dC_ hall]), hk.2.2.2, fL_ hx]; simp only [ef_]; rw [if_pos (by simp only [List.length_append]; omega)]
     have hy : (aO_ l).1.length ≤ 0 ∧ 0 ≤ maxLen := by rw [e]; simp
     have hz : Value.tuple #[.slice none 0 0, .int .i64 2] = .tuple #[.slice none (aO_ l).1.length 0, .int .i64 (aO_ l).2] := by rw [e] <;> rfl
     have hw : (aO_ l).1.flatMap Pc.cells = [] := by rw [e] <;> rfl
     exact iU_ Tryz.results12 ⟨(none, 0), hy⟩ rfl rfl hz (.refl _) (fun v _ h => ⟨.inl hw, trivial⟩)
  ·
   replace hr2 := of_decide_eq_true hr2
   try dsimp only [Con.kind, Con.parts, Con.name, Con.lo, Con.hi, Con.cap, Con.ad] at hr2
   have hlt : i < l.length := by omega
   obtain ⟨x, hx⟩ : ∃ x, l[i]? = some x := ⟨_, List.getElem?_eq_getElem hlt⟩
   have hxm : x ∈ l := List.mem_of_getElem? hx
   refine p_ rfl (D_ (c_ rfl (f_ (T_ (f_ (b_ (a_ (am_ bm_ ae_ rfl rfl (fun v _ h => aS_ (n := 16) Ax.cells_len (by decide) (h.1.1) hx) (by omega) (by first | omega | (simp only [Con.parts]; omega) | (simp [Con.parts]; done))) rfl (a_ (aH_ (ad := ad) (us := x.cells) bR_ ae_ rfl (fun v _ h => h.1.1) (Ax.cells_len _) (ao_ Ax.cells_len hx)) rfl (an_ aT_ rfl fun b2 => ?_)))))))))
   refine gC_ (us := x.cells) 0 ae_ x.cells_len x.one_cells rfl rfl rfl rfl (d_ (c_ rfl (f_ (b_ (a_ (gY_ (us := x.cells) 0 bR_ ae_ x.cells_len rfl rfl) rfl (A_ (dM_ x (hok x hxm)) rfl (.refl _) (fun v _ h => ⟨h.1.2 x hxm, h.2.1, trivial⟩) rfl fun _ => ?_))))))
   refine a_ (e_ rfl) rfl (d_ (c_ rfl (f_ (b_ (a_ (g_ rfl) rfl (v_ (bO_ rfl rfl) rfl fun r5 hr5 => ?_))))))
   refine d_ (c_ rfl ?_)
   cases r5
   ·
    replace hr5 := bA_ hr5
    try dsimp only [Con.kind, Con.parts, Con.name, Con.lo, Con.hi, Con.cap, Con.ad] at hr5
    refine r_ rfl (D_ (c_ rfl (b_ (a_ (R_ rfl rfl rfl (aq_ (by omega) (by omega))) rfl (a_ (g_ rfl) rfl (d_ (o_ rfl ?_)))))))
    exact av_ ⟨i + 1, hlt, fun y hy => by rw [List.take_add_one, hx] at hy; simp only [Option.toList_some, List.mem_append, List.mem_singleton] at hy; rcases hy with hy | rfl; exact hk.2 y hy; assumption⟩ (by simp; omega) ⟨rfl, rfl, rfl, rfl, rfl, trivial⟩ (@List.perm_append_comm _ [_] _) (fun _ _ h => h)
   ·
    replace hr5 := bz_ hr5
    try dsimp only [Con.kind, Con.parts, Con.name, Con.lo, Con.hi, Con.cap, Con.ad] at hr5
    refine p_ rfl (f_ (b_ (a_ (g_ rfl) rfl (a_ (e_ rfl) rfl (a_ (e_ rfl) rfl (d_ (c_ rfl (B_ ?_))))))))
    have e : aO_ l = ([], x.check) := by unfold aO_; rw [if_neg (by omega), iJ_ hx hk.2 (by assumption), if_pos (by assumption)]
    have hy : (aO_ l).1.length ≤ 0 ∧ 0 ≤ maxLen := by rw [e]; simp
    have hz : Value.tuple #[.slice none 0 0, .int .i64 x.check] = .tuple #[.slice none (aO_ l).1.length 0, .int .i64 (aO_ l).2] := by rw [e] <;> rfl
    have hw : (aO_ l).1.flatMap Pc.cells = [] := by rw [e] <;> rfl
    exact iU_ Tryz.results12 ⟨(none, 0), hy⟩ rfl rfl hz (.refl _) (fun v _ h => ⟨.inl hw, trivial⟩)
 ·
  replace hr1 := of_decide_eq_true hr1
  try dsimp only [Con.kind, Con.parts, Con.name, Con.lo, Con.hi, Con.cap, Con.ad] at hr1
  refine p_ rfl (f_ (b_ (a_ (e_ rfl) rfl (a_ (e_ rfl) rfl (d_ (c_ rfl (B_ ?_)))))))
  have e : aO_ l = ([], 2) := by unfold aO_; rw [if_pos (by omega)]
  have hy : (aO_ l).1.length ≤ 0 ∧ 0 ≤ maxLen := by rw [e]; simp
  have hz : Value.tuple #[.slice none 0 0, .int .i64 2] = .tuple #[.slice none (aO_ l).1.length 0, .int .i64 (aO_ l).2] := by rw [e] <;> rfl
  have hw : (aO_ l).1.flatMap Pc.cells = [] := by rw [e] <;> rfl
  exact iU_ Tryz.results12 ⟨(none, 0), hy⟩ rfl rfl hz (.refl _) (fun v _ h => ⟨.inl hw, trivial⟩)
end Go.Proofs.YtoafjmalfclpoaaGreatDoor
namespace Go.Proofs.YtoafjmalfclpoaaGreatDoor
open Go Go.Sx Go.Proofs
attribute [local irreducible] Code.wp wpList wpAnyH
open Go.Vs
theorem jF_ {N : Nf} {fr : Fr} {H : Hp} {Γ : List Fct} {ty t' : TypeId} {x y : Operand} {p q : Pc} (hx : Fr.ev fr x = some p.val) (hy : Fr.ev fr y = some q.val) : Yld Tryz.prog N fr H Γ (.binOp .neq 31 x y t') ty (.bool (decide (p ≠ q))) :=
  fun a v h1 _ _ _ _ _ => by
    have hg : (Program.eqGuardType Tryz.prog Tryz.prog.depth 31) = false := by kernel_rfl
    have he := eqPc p q v.w
    simp only [execOp, h1.ev hx, h1.ev hy, eqGuard, Pc.val, binOp, Op.equal, Sem.run_bind, Result.andThen_ok]
    simp only [run_program, Result.andThen_ok, hg, Bool.not_false, if_true, Sem.run_pure]
    simp only [Pc.val] at he
    simp [Op.maxDepth, he]
theorem jI_ {N : Nf} {fr : Fr} {H : Hp} {Γ : List Fct} {ty t' : TypeId} {x y : Operand} {p q : Fc} (hx : Fr.ev fr x = some p.val) (hy : Fr.ev fr y = some q.val) : Yld Tryz.prog N fr H Γ (.binOp .eql 50 x y t') ty (.bool (decide (p = q))) :=
  fun a v h1 _ _ _ _ _ => by
    have hg : (Program.eqGuardType Tryz.prog Tryz.prog.depth 50) = false := by kernel_rfl
    have he := eqFc p q v.w
    simp only [execOp, h1.ev hx, h1.ev hy, eqGuard, Fc.val, binOp, Op.equal, Sem.run_bind, Result.andThen_ok]
    simp only [run_program, Result.andThen_ok, hg, Bool.not_false, if_true, Sem.run_pure]
    simp only [Fc.val] at he
    simp [Op.maxDepth, he]
theorem ht_ (s : Str) (c : UInt8) : Fn0 Tryz.prog 181 #[str s, str [c]] (.int .i64 (Lib.indexByte s c)) :=
  eH_ (callable Tryz.func181 rfl rfl) fun w => (Tryz.strings_Index_one ⟨s.toArray⟩ c w).mono (by rintro e w' ⟨rfl, rfl⟩; exact ⟨rfl, rfl, rfl, rfl, rfl, Nat.le_refl _⟩)
theorem gU_ (s : Str) (c : UInt8) (k : Nat) (hk : ixS c s = some k) : Fn0 Tryz.prog 181 #[str s, str [c]] (.int .i64 (k : Int)) := by
  have h := ht_ s c
  rw [gm_, hk] at h
  exact h
theorem kH_ (s : Str) (c : UInt8) : Fn0 Tryz.prog 180 #[str s, str [c]] (.int .i64 (cF_ c s : Int)) :=
  eH_ (callable Tryz.func180 rfl rfl) fun w => (Tryz.strings_Count_one ⟨s.toArray⟩ c w).mono (by rintro e w' ⟨rfl, rfl⟩; exact ⟨rfl, rfl, rfl, rfl, rfl, Nat.le_refl _⟩)
theorem ok_H {N : Nf} {v0 : Vw} {H0 : Hp} {k : Act → World → Prop} {fr : Fr} {H H' : Hp} {Γ : List Fct} (e : H = H') (h : Ok N v0 H0 k fr H' Γ) : Ok N v0 H0 k fr H Γ := e ▸ h
theorem jh_ (s : Str) (c : UInt8) (hs : s.length ≤ 17592186044414) : Tri Tryz.prog 162 #[str s, str [c], .int .i64 0, .int .i64 (-1)] [] [] (fun b : Nat => .slice (some ⟨b, 0, none⟩) (bC_ c s).length (bC_ c s).length) (fun _ => []) (fun b => [bQ_ (some ⟨b, 0, none⟩) ((bC_ c s).flatMap cn_)]) := by
 have hcl := jB_ c s
 refine M_ Tryz.func162 rfl rfl Tryz.ntmps162 rfl fun v0 => ?_
 refine f_ (b_ (a_ (e_ rfl) rfl (d_ (c_ rfl (f_ (f_ (b_ (a_ (g_ rfl) rfl (v_ (ai_ rfl rfl) rfl fun r1 hr1 => ?_)))))))))
 refine d_ (c_ rfl ?_)
 cases r1
 ·
  replace hr1 := ne_of_beq_false hr1
  refine r_ rfl (D_ (c_ rfl (f_ (f_ (b_ (a_ (g_ rfl) rfl (v_ (aV_ rfl rfl) rfl fun r2 hr2 => ?_)))))))
  refine d_ (c_ rfl ?_)
  cases r2
  ·
   replace hr2 := ne_of_beq_false hr2
   refine r_ rfl (D_ (c_ rfl (f_ (f_ (b_ (a_ (g_ rfl) rfl (v_ (aN_ rfl rfl) rfl fun r3 hr3 => ?_)))))))
   refine d_ (c_ rfl ?_)
   cases r3
   ·
    replace hr3 := of_decide_eq_false hr3
    exact absurd (by decide) hr3
   ·
    replace hr3 := of_decide_eq_true hr3
    refine p_ rfl (b_ (a_ (g_ rfl) rfl (a_ (g_ rfl) rfl (A_ (kH_ s c) rfl (.refl _) (fun _ _ _ => trivial) rfl fun _ => ?_))))
    refine a_ (R_ rfl rfl rfl (aq_ (by omega) (by omega))) rfl (a_ (e_ rfl) rfl (d_ (c_ rfl (f_ (b_ (a_ (g_ rfl) rfl (a_ (g_ rfl) rfl (a_ (cz_ ag_ rfl) rfl (a_ (R_ rfl rfl rfl (aq_ (by omega) (by omega))) rfl ?_)))))))))
    refine a_ (bB_ (lq_ rfl rfl) (show _ = Value.int .i64 ((cF_ c s + 1 : Nat) : Int) by rw [if_neg (by omega)]; rfl)) rfl (a_ (e_ rfl) rfl (d_ (c_ rfl (f_ (b_ (a_ (g_ rfl) rfl (jY_ (n := cF_ c s + 1) (by' := 16) Tryz.underlying39 (z := .string ⟨#[]⟩) (by kernel_rfl) rfl rfl rfl (by omega) (by omega) rfl fun b1 => ?_)))))))
    refine a_ (e_ rfl) rfl (d_ (c_ rfl (f_ (b_ (a_ (g_ rfl) rfl (a_ (bB_ (R_ rfl rfl rfl (aq_ (by omega) (by omega))) (show _ = Value.int .i64 (cF_ c s : Int) by first | rfl | (congr 1; omega))) rfl (a_ (e_ rfl) rfl (d_ (c_ rfl ?_)))))))))
    refine f_ (b_ (a_ (e_ rfl) rfl (d_ (c_ rfl (f_ (T_ (bs_ [(0, str s), (1, str [c]), (2, .int .i64 0), (3, .int .i64 (cF_ c s : Int)), (9, .slice (some ⟨b1, 0, none⟩) (cF_ c s + 1) (cF_ c s + 1)), (10, .int .i64 ((0 : Nat) : Int))] ⟨rfl, rfl, rfl, rfl, rfl, rfl, trivial⟩ ?_)))))))
    refine bE_ (ι := {x : Nat × List Str × Str // x.2.1.length = x.1 ∧ bC_ c s = x.2.1 ++ bC_ c x.2.2 ∧ x.1 + cF_ c x.2.2 = cF_ c s ∧ x.2.2.length ≤ s.length}) (fun x => [(0, str x.1.2.2), (1, str [c]), (2, .int .i64 0), (3, .int .i64 (cF_ c s : Int)), (9, .slice (some ⟨b1, 0, none⟩) (cF_ c s + 1) (cF_ c s + 1)), (10, .int .i64 (x.1.1 : Int))]) (fun x => [(b1, .cells (x.1.2.1.map str ++ List.replicate (cF_ c s + 1 - x.1.1) (Value.string ⟨#[]⟩)).toArray 9 (0, 0))]) (fun _ => _) (fun x => cF_ c s - x.1.1) ⟨(0, [], s), rfl, rfl, by simp, by simp⟩ ?_
    rintro ⟨⟨i, dn, r⟩, hk⟩
    dsimp only at hk
    obtain ⟨hk1, hk2, hk3, hk4⟩ := hk
    refine bs_ [(0, str r), (1, str [c]), (2, .int .i64 0), (3, .int .i64 (cF_ c s : Int)), (9, .slice (some ⟨b1, 0, none⟩) (cF_ c s + 1) (cF_ c s + 1)), (10, .int .i64 (i : Int))] ⟨rfl, rfl, rfl, rfl, rfl, rfl, trivial⟩ ?_
    have hrep : ∀ k, k < cF_ c s + 1 → List.replicate (cF_ c s + 1 - k) (Value.string ⟨#[]⟩) = Value.string ⟨#[]⟩ :: List.replicate (cF_ c s - k) (Value.string ⟨#[]⟩) := fun k hk => by rw [show cF_ c s + 1 - k = (cF_ c s - k) + 1 by omega]; rfl
    refine ok_H (H' := [(b1, .cells (dn.map str ++ Value.string ⟨#[]⟩ :: List.replicate (cF_ c s - i) (Value.string ⟨#[]⟩)).toArray 9 (0, 0))]) (by dsimp only; rw [hrep i (by omega)]) ?_
    refine f_ (f_ (b_ (a_ (g_ rfl) rfl (a_ (g_ rfl) rfl (v_ (aN_ rfl rfl) rfl fun r4 hr4 => ?_)))))
    refine d_ (c_ rfl ?_)
    cases r4
    ·
     replace hr4 := of_decide_eq_false hr4
     obtain rfl : i = cF_ c s := by omega
     have hr0 : bC_ c r = [r] := by
            cases hx : ixS c r with
            | none => exact eP_ hx
            | some k => have := ho_ hx; omega
     rw [hr0] at hk2
     refine r_ rfl (aU_ rfl (c_ rfl (f_ (b_ (a_ (g_ rfl) rfl (a_ (g_ rfl) rfl (a_ (g_ rfl) rfl (a_ (ej_ J_ z_ rfl rfl (by omega) (by omega)) rfl (gD_ 0 z_ rfl rfl rfl (by simp [hk1]) rfl rfl ?_)))))))))
     refine d_ (c_ rfl (f_ (b_ (a_ (g_ rfl) rfl (a_ (g_ rfl) rfl (a_ (bB_ (R_ rfl rfl rfl (aq_ (by omega) (by omega))) (show _ = Value.int .i64 ((cF_ c s + 1 : Nat) : Int) by first | rfl | (congr 1; omega))) rfl (a_ (bB_ (dc_ (i := 0) (j := cF_ c s + 1) (kl := .i64) (kh := .i64) J_ z_ rfl rfl rfl (by omega) (by omega)) (show _ = Value.slice (some ⟨b1, 0, none⟩) (cF_ c s + 1) (cF_ c s + 1) by rw [kG_]; rfl)) rfl (a_ (e_ rfl) rfl (d_ ?_)))))))))
     refine c_ rfl (B_ (at_ ((bC_ c s).flatMap cn_) h_ (by rw [hk2, hW_]; simp) ?_))
     have hl := du_ c s
     exact aj_ Tryz.results162 b1 (lH_ rfl (by rw [hl])) (.refl _) (fun v _ h => ⟨h.1, trivial⟩)
    ·
     replace hr4 := of_decide_eq_true hr4
     obtain ⟨k, hix⟩ : ∃ k, ixS c r = some k := by
            cases hx : ixS c r with
            | none => have := km_ hx; omega
            | some k => exact ⟨k, rfl⟩
     have hcs := ho_ hix
     have hkl := jd_ hix
     refine p_ rfl (D_ (c_ rfl (T_ (f_ (b_ (a_ (g_ rfl) rfl (a_ (g_ rfl) rfl (A_ (gU_ r c k hix) rfl (.refl _) (fun _ _ _ => trivial) rfl fun _ => ?_))))))))
     refine a_ (e_ rfl) rfl (d_ (c_ rfl (f_ (f_ (b_ (a_ (g_ rfl) rfl (v_ (aN_ rfl rfl) rfl fun r5 hr5 => ?_)))))))
     refine d_ (c_ rfl ?_)
     cases r5
     ·
      replace hr5 := of_decide_eq_false hr5
      refine r_ rfl (D_ (c_ rfl (f_ (b_ (a_ (g_ rfl) rfl (a_ (g_ rfl) rfl (a_ (g_ rfl) rfl (a_ (g_ rfl) rfl (a_ (g_ rfl) rfl ?_)))))))))
      refine a_ (bB_ (R_ rfl rfl rfl (aq_ (by omega) (by omega))) (show _ = Value.int .i64 (k : Int) by first | rfl | (congr 1; omega))) rfl (a_ (bB_ (dQ_ (i := 0) (j := k) (kl := .i64) (kh := .i64) ag_ rfl rfl rfl (by omega) (by omega)) (show _ = str (r.take k) by simp)) rfl (a_ (ej_ J_ z_ rfl rfl (by omega) (by omega)) rfl (gD_ 0 z_ rfl rfl rfl (by simp [hk1]) rfl rfl (d_ (c_ rfl (f_ (b_ (a_ (g_ rfl) rfl (a_ (g_ rfl) rfl ?_)))))))))
      refine a_ (g_ rfl) rfl (a_ (cz_ ag_ rfl) rfl (a_ (bB_ (R_ rfl rfl rfl (aq_ (by simp only [List.length_cons, List.length_nil]; omega) (by simp only [List.length_cons, List.length_nil]; omega))) (show _ = Value.int .i64 ((k + 1 : Nat) : Int) by first | rfl | (congr 1; omega))) rfl (a_ (bB_ (dQ_ (i := k + 1) (j := r.length) (kl := .i64) (kh := .i64) ag_ rfl rfl rfl (by omega) (by omega)) (show _ = str (r.drop (k + 1)) by rw [List.take_of_length_le (by simp)])) rfl (a_ (e_ rfl) rfl (d_ (c_ rfl (b_ (a_ (g_ rfl) rfl (a_ (bB_ (R_ rfl rfl rfl (aq_ (by omega) (by omega))) (show _ = Value.int .i64 ((i + 1 : Nat) : Int) by first | rfl | (congr 1; omega))) rfl ?_)))))))))
      refine a_ (e_ rfl) rfl (d_ (o_ rfl ?_))
      exact av_ ⟨(i + 1, dn ++ [r.take k], r.drop (k + 1)), by simp [hk1], by rw [hk2, eO_ hix, List.append_assoc]; rfl, by dsimp only; omega, by simp; omega⟩ (by dsimp only; omega) ⟨rfl, rfl, rfl, rfl, rfl, rfl, trivial⟩ (F := []) (List.Perm.of_eq (by simp [show cF_ c s + 1 - (i + 1) = cF_ c s - i by omega])) (fun _ _ h => h)
     ·
      replace hr5 := of_decide_eq_true hr5
      exfalso; omega
  ·
   replace hr2 := eq_of_beq hr2
   cases hr2
 ·
  replace hr1 := eq_of_beq hr1
  exact absurd hr1 (by decide)
theorem lw_ (s : Str) (c : UInt8) (hs : s.length ≤ 17592186044414) : Tri Tryz.prog 129 #[str s, str [c]] [] [] (fun b : Nat => .slice (some ⟨b, 0, none⟩) (bC_ c s).length (bC_ c s).length) (fun _ => []) (fun b => [bQ_ (some ⟨b, 0, none⟩) ((bC_ c s).flatMap cn_)]) := by
  refine M_ Tryz.func129 rfl rfl Tryz.ntmps129 rfl fun v0 => ?_
  refine f_ (b_ (a_ (e_ rfl) rfl (d_ (c_ rfl (f_ (b_ (a_ (g_ rfl) rfl (a_ (g_ rfl) rfl (A_ (jh_ s c hs) rfl (.refl _) (fun _ _ _ => trivial) rfl fun b => ?_)))))))))
  refine a_ (e_ rfl) rfl (d_ (c_ rfl (B_ ?_)))
  exact aj_ Tryz.results129 b rfl (.refl _) (fun v _ h => ⟨h.1, trivial⟩)
end Go.Proofs.YtoafjmalfclpoaaGreatDoor
namespace Go.Proofs.YtoafjmalfclpoaaGreatDoor
open Go Go.Sx Go.Proofs
attribute [local irreducible] Code.wp wpList wpAnyH
open Go.Vs
theorem hJ_ {g : FuncId} {pred : Str → Bool} (xs : List Str) (ad : Option Addr) (cap : Nat) (hlen : xs.length ≤ 17592186044415) (hT : ∀ x ∈ xs, Fn0 Tryz.prog g #[str x] (.bool (pred x))) :
    Tri Tryz.prog 163 #[.slice ad (List.length xs) cap, .func (.func g) #[] #[]] [] [bQ_ ad (List.flatMap cn_ xs)] (fun r : {r : Int // decide (0 ≤ r) = xs.any pred} => .int .i64 r.1) (fun _ => []) (fun _ => []) := by
  refine M_ Tryz.func163 rfl rfl Tryz.ntmps163 rfl fun v0 => ?_
  refine f_ (b_ (a_ (e_ rfl) rfl (d_ (c_ rfl (f_ (f_ (b_ (a_ (g_ rfl) rfl (a_ (ar_ J_ rfl) rfl ?_)))))))))
  refine a_ (g_ rfl) rfl (d_ (c_ rfl (T_ (bs_ [(0, .slice ad (List.length xs) cap), (1, .func (.func g) #[] #[]), (7, .int .i64 (List.length xs : Int)), (8, .int .i64 ((0 : Nat) : Int))] ⟨rfl, rfl, rfl, rfl, trivial⟩ ?_))))
  refine bE_ (ι := {q : Nat // q ≤ xs.length ∧ (xs.take q).any pred = false}) (fun i => [(0, .slice ad (List.length xs) cap), (1, .func (.func g) #[] #[]), (7, .int .i64 (List.length xs : Int)), (8, .int .i64 (i.1 : Int))]) (fun _ => _) (fun _ => _) (fun i => xs.length - i.1) ⟨0, by simp⟩ ?_
  rintro ⟨i, hk⟩
  refine bs_ [(0, .slice ad (List.length xs) cap), (1, .func (.func g) #[] #[]), (7, .int .i64 (List.length xs : Int)), (8, .int .i64 (i : Int))] ⟨rfl, rfl, rfl, rfl, trivial⟩ ?_
  refine f_ (b_ (v_ (aN_ rfl rfl) rfl fun r1 hr1 => ?_))
  refine d_ (c_ rfl (f_ ?_))
  cases r1
  · skip
    replace hr1 := of_decide_eq_false hr1
    refine r_ rfl (aU_ rfl (c_ rfl (f_ (b_ (a_ (e_ rfl) rfl (d_ (c_ rfl (B_ ?_))))))))
    exact aj_ Tryz.results163 ⟨-1, by have := hk.2; rw [List.take_of_length_le (by omega)] at this; show _ = xs.any pred; rw [this]; rfl⟩ rfl (.refl _) (fun _ _ _ => trivial)
  · skip
    replace hr1 := of_decide_eq_true hr1
    have hlx1 : i < List.length xs := by omega
    obtain ⟨x1, hx1⟩ : ∃ e0, xs[i]? = some e0 := ⟨_, List.getElem?_eq_getElem hlx1⟩
    have hmx1 : x1 ∈ xs := List.mem_of_getElem? hx1
    refine p_ rfl (D_ (c_ rfl (f_ (T_ (f_ (b_ (a_ (g_ rfl) rfl (a_ (e_ rfl) rfl (d_ ?_)))))))))
    refine c_ rfl (f_ (b_ (a_ (g_ rfl) rfl (a_ (g_ rfl) rfl (a_ (g_ rfl) rfl (a_ (am_ J_ z_ rfl rfl (fun v _ h => aS_ (n := 1) aM_ (by decide) (by exact h.1) hx1) (by omega) (by first | omega | (simp; done))) rfl (a_ (bw_ (ad := ad) E_ rfl (fun v _ h => by exact h.1) (ao_ aM_ hx1 0 _ rfl)) rfl (bJ_ (hT x1 hmx1) rfl rfl S_ (fun _ _ _ => by exact trivial) rfl fun r2 hr2 => ?_))))))))
    refine d_ (c_ rfl ?_)
    cases r2
    · skip
      refine r_ rfl (D_ (c_ rfl (b_ (a_ (R_ rfl rfl rfl (aq_ (by omega) (by omega))) rfl (a_ (g_ rfl) rfl (d_ (o_ rfl ?_)))))))
      exact av_ ⟨i + 1, hlx1, by rw [List.take_add_one, hx1]; simp only [Option.toList_some, List.any_append, hk.2]; simp [*]⟩ (by simp; omega) ⟨rfl, rfl, rfl, rfl, trivial⟩ (.refl _) (fun _ _ h => h)
    · skip
      refine p_ rfl (f_ (b_ (a_ (g_ rfl) rfl (a_ (e_ rfl) rfl (d_ (c_ rfl (B_ ?_)))))))
      exact aj_ Tryz.results163 ⟨(i : Int), by show _ = xs.any pred; rw [show xs.any pred = true from List.any_eq_true.2 ⟨x1, hmx1, by assumption⟩]; exact decide_eq_true (by omega)⟩ rfl (.refl _) (fun _ _ _ => trivial)
theorem gc_ {g : FuncId} {pred : Str → Bool} (xs : List Str) (ad : Option Addr) (cap : Nat) (hlen : xs.length ≤ 17592186044415) (hT : ∀ x ∈ xs, Fn0 Tryz.prog g #[str x] (.bool (pred x))) :
    Tri Tryz.prog 130 #[.slice ad (List.length xs) cap, .func (.func g) #[] #[]] [] [bQ_ ad (List.flatMap cn_ xs)] (fun _ : Unit => .bool (xs.any pred)) (fun _ => []) (fun _ => []) := by
  refine M_ Tryz.func130 rfl rfl Tryz.ntmps130 rfl fun v0 => ?_
  refine f_ (b_ (a_ (e_ rfl) rfl (d_ (c_ rfl (f_ (b_ (a_ (g_ rfl) rfl (a_ (g_ rfl) rfl (A_ (hJ_ xs ad cap hlen hT) rfl S_ (fun v _ h => by exact ⟨h.1, trivial⟩) rfl fun x => ?_)))))))))
  refine v_ (dm_ rfl rfl) rfl fun r1 hr1 => ?_
  refine a_ (e_ rfl) rfl (d_ (c_ rfl (B_ ?_)))
  exact aj_ Tryz.results130 () (y_ rfl (hr1.symm.trans x.2)) (.refl _) (fun _ _ _ => trivial)
theorem kg_ (s : Str) (hs : s.length ≤ 140737488351232) : Fn0 Tryz.prog 131 #[str s] (.bool (!bb_ s)) := by
  refine M_ Tryz.func131 rfl rfl Tryz.ntmps131 rfl fun v0 => ?_
  refine f_ (b_ (a_ (e_ rfl) rfl (d_ (c_ rfl (f_ (b_ (a_ (g_ rfl) rfl (al_ (cY_ s hs) rfl S_ (fun _ _ _ => by exact trivial) rfl fun r1 hr1 => ?_))))))))
  refine a_ (bf_ rfl) rfl (a_ (e_ rfl) rfl (d_ (c_ rfl (B_ ?_))))
  exact aj_ Tryz.results131 () (y_ rfl (by simp [*])) (.refl _) (fun _ _ _ => trivial)
theorem eA_ {c : UInt8} : ∀ {s x : Str}, x ∈ bC_ c s → x.length ≤ s.length
  | [], x, h => by simp [bC_] at h; simp [h]
  | b :: s, x, h => by
    simp only [bC_] at h
    split at h
    · rcases List.mem_cons.1 h with rfl | h
      · simp
      · have := eA_ h; simp only [List.length_cons]; omega
    · cases hs : bC_ c s with
      | nil => exact absurd hs (hb_ c s)
      | cons y t =>
        rw [hs] at h
        rcases List.mem_cons.1 h with rfl | h
        · have := eA_ (c := c) (s := s) (x := y) (by rw [hs]; simp); simp only [List.length_cons]; omega
        · have := eA_ (c := c) (s := s) (x := x) (by rw [hs]; simp [h]); simp only [List.length_cons]; omega
theorem eT_ (s : Str) (hs : s.length ≤ 17592186044414) : Fn0 Tryz.prog 72 #[str s] (.bool (df_ s)) := by
  refine M_ Tryz.func72 rfl rfl Tryz.ntmps72 rfl fun v0 => ?_
  have hsl := du_ 46 s
  have hcl := jB_ 46 s
  refine f_ (b_ (a_ (e_ rfl) rfl (d_ (c_ rfl (f_ (b_ (a_ (g_ rfl) rfl (A_ (lw_ s 46 hs) rfl S_ (fun _ _ _ => by exact trivial) rfl fun b => ?_))))))))
  refine a_ (e_ rfl) rfl (d_ (c_ rfl (f_ (b_ (a_ (g_ rfl) rfl (a_ (ar_ J_ rfl) rfl (v_ (cy_ rfl rfl) rfl fun r1 hr1 => ?_)))))))
  refine a_ (g_ rfl) rfl ?_
  cases r1
  · skip
    replace hr1 := of_decide_eq_false hr1
    refine q_ rfl rfl rfl rfl (q_ rfl rfl rfl rfl (q_ rfl rfl rfl rfl (a_ (F_ rfl rfl) rfl (a_ (e_ rfl) rfl (d_ (c_ rfl (B_ ?_)))))))
    exact aj_ Tryz.results72 () (y_ rfl (by unfold df_; subst_vars; rw [Bool.eq_iff_iff]; simp_all <;> omega)) (.refl _) (fun _ _ _ => trivial)
  · skip
    replace hr1 := of_decide_eq_true hr1
    refine n_ rfl rfl (a_ (g_ rfl) rfl (n_ rfl rfl (al_ (gc_ (pred := fun r => !bb_ r) (bC_ 46 s) _ _ (by omega) (fun x hx => kg_ x (by have := eA_ hx; omega))) rfl S_ (fun v _ h => by exact ⟨h.1, trivial⟩) rfl fun r2 hr2 => ?_)))
    refine n_ rfl rfl (a_ (bf_ rfl) rfl (a_ (K_ rfl rfl) rfl (a_ (e_ rfl) rfl (d_ (c_ rfl (B_ ?_))))))
    exact aj_ Tryz.results72 () (y_ rfl (by unfold df_; subst_vars; rw [Bool.eq_iff_iff]; simp_all <;> omega)) (.refl _) (fun _ _ _ => trivial)
theorem es_ (s : Str) (hs : s.length ≤ 140737488351232) : Fn0 Tryz.prog 74 #[str s] (.bool (bo_ s)) := by
 refine M_ Tryz.func74 rfl rfl Tryz.ntmps74 rfl fun v0 => ?_
 refine f_ (b_ (a_ (e_ rfl) rfl (d_ (c_ rfl (f_ (b_ (a_ (g_ rfl) rfl (a_ (cz_ ag_ rfl) rfl (a_ (e_ rfl) rfl ?_)))))))))
 refine d_ (c_ rfl (f_ (T_ (f_ (b_ (a_ (g_ rfl) rfl (v_ (aV_ rfl rfl) rfl fun r1 hr1 => ?_)))))))
 refine a_ (g_ rfl) rfl ?_
 cases r1
 ·
  replace hr1 := ne_of_beq_false hr1
  refine n_ rfl rfl (a_ (g_ rfl) rfl (n_ rfl rfl (v_ (aV_ rfl rfl) rfl fun r2 hr2 => ?_)))
  refine a_ (F_ rfl rfl) rfl (a_ (e_ rfl) rfl (d_ (c_ rfl ?_)))
  cases r2
  ·
   replace hr2 := ne_of_beq_false hr2
   refine r_ rfl (f_ (b_ (a_ (g_ rfl) rfl (v_ (dm_ rfl rfl) rfl fun r3 hr3 => ?_))))
   refine a_ (g_ rfl) rfl ?_
   cases r3
   ·
    replace hr3 := of_decide_eq_false hr3
    refine q_ rfl rfl rfl rfl (q_ rfl rfl rfl rfl (q_ rfl rfl rfl rfl (a_ (F_ rfl rfl) rfl (a_ (g_ rfl) rfl (q_ rfl rfl rfl rfl (q_ rfl rfl rfl rfl (q_ rfl rfl rfl rfl (q_ rfl rfl rfl rfl (q_ rfl rfl rfl rfl ?_)))))))))
    refine a_ (F_ rfl rfl) rfl (a_ (e_ rfl) rfl (d_ (c_ rfl (r_ rfl (f_ (b_ (a_ (g_ rfl) rfl (v_ (dm_ rfl rfl) rfl fun r4 hr4 => ?_))))))))
    refine a_ (g_ rfl) rfl ?_
    cases r4
    ·
     replace hr4 := of_decide_eq_false hr4
     refine q_ rfl rfl rfl rfl (q_ rfl rfl rfl rfl (q_ rfl rfl rfl rfl (a_ (F_ rfl rfl) rfl (a_ (g_ rfl) rfl (q_ rfl rfl rfl rfl (q_ rfl rfl rfl rfl (q_ rfl rfl rfl rfl (q_ rfl rfl rfl rfl (q_ rfl rfl rfl rfl ?_)))))))))
     refine a_ (F_ rfl rfl) rfl (a_ (e_ rfl) rfl (d_ (c_ rfl (r_ rfl (D_ (c_ rfl (f_ (b_ (a_ (g_ rfl) rfl ?_)))))))))
     refine al_ (cY_ _ (by first | exact hs | (simp; omega))) rfl S_ (fun _ _ _ => by exact trivial) rfl fun r5 hr5 => ?_
     refine a_ (e_ rfl) rfl (d_ (c_ rfl (B_ ?_)))
     exact aj_ cj_ () (y_ rfl (by unfold bo_; (repeat (any_goals split)) <;> first | rfl | (simp_all; done) | (exfalso; simp_all; omega) | (exfalso; simp_all; done))) (.refl _) (fun _ _ _ => trivial)
    ·
     replace hr4 := of_decide_eq_true hr4
     exfalso; omega
   ·
    replace hr3 := of_decide_eq_true hr3
    obtain ⟨c, hc⟩ : ∃ c, s[0]? = some c := ⟨_, List.getElem?_eq_getElem (by omega)⟩
    obtain ⟨e, he⟩ : ∃ e, s[s.length - 1]? = some e := ⟨_, List.getElem?_eq_getElem (by omega)⟩
    have hc123 : (s[0]? = some 123) ↔ ((c.toNat : Int) = 123) := by
              rw [hc]; simp only [Option.some.injEq]; exact ⟨fun q => by subst q; rfl, fun q => UInt8.toNat_inj.1 (by show c.toNat = 123; omega)⟩
    have he125 : (s[s.length - 1]? = some 125) ↔ ((e.toNat : Int) = 125) := by
              rw [he]; simp only [Option.some.injEq]; exact ⟨fun q => by subst q; rfl, fun q => UInt8.toNat_inj.1 (by show e.toNat = 125; omega)⟩
    have hc60 : (s[0]? = some 60) ↔ ((c.toNat : Int) = 60) := by
              rw [hc]; simp only [Option.some.injEq]; exact ⟨fun q => by subst q; rfl, fun q => UInt8.toNat_inj.1 (by show c.toNat = 60; omega)⟩
    have he62 : (s[s.length - 1]? = some 62) ↔ ((e.toNat : Int) = 62) := by
              rw [he]; simp only [Option.some.injEq]; exact ⟨fun q => by subst q; rfl, fun q => UInt8.toNat_inj.1 (by show e.toNat = 62; omega)⟩
    refine n_ rfl rfl (a_ (g_ rfl) rfl (n_ rfl rfl (a_ (cJ_ ag_ rfl rfl (by decide) hc) rfl (n_ rfl rfl (v_ (ai_ rfl rfl) rfl fun r6 hr6 => ?_)))))
    refine a_ (K_ rfl rfl) rfl (a_ (g_ rfl) rfl ?_)
    cases r6
    ·
     replace hr6 := ne_of_beq_false hr6
     refine q_ rfl rfl rfl rfl (q_ rfl rfl rfl rfl (q_ rfl rfl rfl rfl (q_ rfl rfl rfl rfl (q_ rfl rfl rfl rfl (a_ (F_ rfl rfl) rfl (a_ (e_ rfl) rfl (d_ (c_ rfl (r_ rfl ?_)))))))))
     refine f_ (b_ (a_ (g_ rfl) rfl (v_ (dm_ rfl rfl) rfl fun r7 hr7 => ?_)))
     refine a_ (g_ rfl) rfl ?_
     cases r7
     ·
      replace hr7 := of_decide_eq_false hr7
      refine q_ rfl rfl rfl rfl (q_ rfl rfl rfl rfl (q_ rfl rfl rfl rfl (a_ (F_ rfl rfl) rfl (a_ (g_ rfl) rfl (q_ rfl rfl rfl rfl (q_ rfl rfl rfl rfl (q_ rfl rfl rfl rfl (q_ rfl rfl rfl rfl (q_ rfl rfl rfl rfl ?_)))))))))
      refine a_ (F_ rfl rfl) rfl (a_ (e_ rfl) rfl (d_ (c_ rfl (r_ rfl (D_ (c_ rfl (f_ (b_ (a_ (g_ rfl) rfl ?_)))))))))
      refine al_ (cY_ _ (by first | exact hs | (simp; omega))) rfl S_ (fun _ _ _ => by exact trivial) rfl fun r8 hr8 => ?_
      refine a_ (e_ rfl) rfl (d_ (c_ rfl (B_ ?_)))
      exact aj_ cj_ () (y_ rfl (by unfold bo_; (repeat (any_goals split)) <;> first | rfl | (simp_all; done) | (exfalso; simp_all; omega) | (exfalso; simp_all; done))) (.refl _) (fun _ _ _ => trivial)
     ·
      replace hr7 := of_decide_eq_true hr7
      refine n_ rfl rfl (a_ (g_ rfl) rfl (n_ rfl rfl (a_ (cJ_ ag_ rfl rfl (by decide) hc) rfl (n_ rfl rfl (v_ (ai_ rfl rfl) rfl fun r9 hr9 => ?_)))))
      refine a_ (K_ rfl rfl) rfl (a_ (g_ rfl) rfl ?_)
      cases r9
      ·
       replace hr9 := ne_of_beq_false hr9
       refine q_ rfl rfl rfl rfl (q_ rfl rfl rfl rfl (q_ rfl rfl rfl rfl (q_ rfl rfl rfl rfl (q_ rfl rfl rfl rfl (a_ (F_ rfl rfl) rfl (a_ (e_ rfl) rfl (d_ (c_ rfl (r_ rfl ?_)))))))))
       refine D_ (c_ rfl (f_ (b_ (a_ (g_ rfl) rfl (al_ (cY_ _ (by first | exact hs | (simp; omega))) rfl S_ (fun _ _ _ => by exact trivial) rfl fun r10 hr10 => ?_)))))
       refine a_ (e_ rfl) rfl (d_ (c_ rfl (B_ ?_)))
       exact aj_ cj_ () (y_ rfl (by unfold bo_; (repeat (any_goals split)) <;> first | rfl | (simp_all; done) | (exfalso; simp_all; omega) | (exfalso; simp_all; done))) (.refl _) (fun _ _ _ => trivial)
      ·
       replace hr9 := eq_of_beq hr9
       refine n_ rfl rfl (a_ (g_ rfl) rfl (n_ rfl rfl (a_ (g_ rfl) rfl (n_ rfl rfl (a_ (R_ rfl rfl rfl (aq_ (by omega) (by omega))) rfl (n_ rfl rfl (a_ (cJ_ ag_ rfl rfl (by omega) (show s[((s.length : Int) - 1).toNat]? = some e by rw [show ((s.length : Int) - 1).toNat = s.length - 1 by omega]; exact he)) rfl (n_ rfl rfl (v_ (ai_ rfl rfl) rfl fun r11 hr11 => ?_)))))))))
       refine a_ (K_ rfl rfl) rfl (a_ (e_ rfl) rfl (d_ (c_ rfl ?_)))
       cases r11
       ·
        replace hr11 := ne_of_beq_false hr11
        refine r_ rfl (D_ (c_ rfl (f_ (b_ (a_ (g_ rfl) rfl (al_ (cY_ _ (by first | exact hs | (simp; omega))) rfl S_ (fun _ _ _ => by exact trivial) rfl fun r12 hr12 => ?_))))))
        refine a_ (e_ rfl) rfl (d_ (c_ rfl (B_ ?_)))
        exact aj_ cj_ () (y_ rfl (by unfold bo_; (repeat (any_goals split)) <;> first | rfl | (simp_all; done) | (exfalso; simp_all; omega) | (exfalso; simp_all; done))) (.refl _) (fun _ _ _ => trivial)
       ·
        replace hr11 := eq_of_beq hr11
        refine p_ rfl (f_ (b_ (a_ (e_ rfl) rfl (d_ (c_ rfl (B_ ?_))))))
        exact aj_ cj_ () (y_ rfl (by unfold bo_; (repeat (any_goals split)) <;> first | rfl | (simp_all; done) | (exfalso; simp_all; omega) | (exfalso; simp_all; done))) (.refl _) (fun _ _ _ => trivial)
    ·
     replace hr6 := eq_of_beq hr6
     refine n_ rfl rfl (a_ (g_ rfl) rfl (n_ rfl rfl (a_ (g_ rfl) rfl (n_ rfl rfl (a_ (R_ rfl rfl rfl (aq_ (by omega) (by omega))) rfl (n_ rfl rfl (a_ (cJ_ ag_ rfl rfl (by omega) (show s[((s.length : Int) - 1).toNat]? = some e by rw [show ((s.length : Int) - 1).toNat = s.length - 1 by omega]; exact he)) rfl (n_ rfl rfl (v_ (ai_ rfl rfl) rfl fun r13 hr13 => ?_)))))))))
     refine a_ (K_ rfl rfl) rfl (a_ (e_ rfl) rfl (d_ (c_ rfl ?_)))
     cases r13
     ·
      replace hr13 := ne_of_beq_false hr13
      refine r_ rfl (f_ (b_ (a_ (g_ rfl) rfl (v_ (dm_ rfl rfl) rfl fun r14 hr14 => ?_))))
      refine a_ (g_ rfl) rfl ?_
      cases r14
      ·
       replace hr14 := of_decide_eq_false hr14
       refine q_ rfl rfl rfl rfl (q_ rfl rfl rfl rfl (q_ rfl rfl rfl rfl (a_ (F_ rfl rfl) rfl (a_ (g_ rfl) rfl (q_ rfl rfl rfl rfl (q_ rfl rfl rfl rfl (q_ rfl rfl rfl rfl (q_ rfl rfl rfl rfl (q_ rfl rfl rfl rfl ?_)))))))))
       refine a_ (F_ rfl rfl) rfl (a_ (e_ rfl) rfl (d_ (c_ rfl (r_ rfl (D_ (c_ rfl (f_ (b_ (a_ (g_ rfl) rfl ?_)))))))))
       refine al_ (cY_ _ (by first | exact hs | (simp; omega))) rfl S_ (fun _ _ _ => by exact trivial) rfl fun r15 hr15 => ?_
       refine a_ (e_ rfl) rfl (d_ (c_ rfl (B_ ?_)))
       exact aj_ cj_ () (y_ rfl (by unfold bo_; (repeat (any_goals split)) <;> first | rfl | (simp_all; done) | (exfalso; simp_all; omega) | (exfalso; simp_all; done))) (.refl _) (fun _ _ _ => trivial)
      ·
       replace hr14 := of_decide_eq_true hr14
       refine n_ rfl rfl (a_ (g_ rfl) rfl (n_ rfl rfl (a_ (cJ_ ag_ rfl rfl (by decide) hc) rfl (n_ rfl rfl (v_ (ai_ rfl rfl) rfl fun r16 hr16 => ?_)))))
       refine a_ (K_ rfl rfl) rfl (a_ (g_ rfl) rfl ?_)
       cases r16
       ·
        replace hr16 := ne_of_beq_false hr16
        refine q_ rfl rfl rfl rfl (q_ rfl rfl rfl rfl (q_ rfl rfl rfl rfl (q_ rfl rfl rfl rfl (q_ rfl rfl rfl rfl (a_ (F_ rfl rfl) rfl (a_ (e_ rfl) rfl (d_ (c_ rfl (r_ rfl ?_)))))))))
        refine D_ (c_ rfl (f_ (b_ (a_ (g_ rfl) rfl (al_ (cY_ _ (by first | exact hs | (simp; omega))) rfl S_ (fun _ _ _ => by exact trivial) rfl fun r17 hr17 => ?_)))))
        refine a_ (e_ rfl) rfl (d_ (c_ rfl (B_ ?_)))
        exact aj_ cj_ () (y_ rfl (by unfold bo_; (repeat (any_goals split)) <;> first | rfl | (simp_all; done) | (exfalso; simp_all; omega) | (exfalso; simp_all; done))) (.refl _) (fun _ _ _ => trivial)
       ·
        replace hr16 := eq_of_beq hr16
        refine n_ rfl rfl (a_ (g_ rfl) rfl (n_ rfl rfl (a_ (g_ rfl) rfl (n_ rfl rfl (a_ (R_ rfl rfl rfl (aq_ (by omega) (by omega))) rfl (n_ rfl rfl (a_ (cJ_ ag_ rfl rfl (by omega) (show s[((s.length : Int) - 1).toNat]? = some e by rw [show ((s.length : Int) - 1).toNat = s.length - 1 by omega]; exact he)) rfl (n_ rfl rfl (v_ (ai_ rfl rfl) rfl fun r18 hr18 => ?_)))))))))
        refine a_ (K_ rfl rfl) rfl (a_ (e_ rfl) rfl (d_ (c_ rfl ?_)))
        cases r18
        ·
         replace hr18 := ne_of_beq_false hr18
         refine r_ rfl (D_ (c_ rfl (f_ (b_ (a_ (g_ rfl) rfl (al_ (cY_ _ (by first | exact hs | (simp; omega))) rfl S_ (fun _ _ _ => by exact trivial) rfl fun r19 hr19 => ?_))))))
         refine a_ (e_ rfl) rfl (d_ (c_ rfl (B_ ?_)))
         exact aj_ cj_ () (y_ rfl (by unfold bo_; (repeat (any_goals split)) <;> first | rfl | (simp_all; done) | (exfalso; simp_all; omega) | (exfalso; simp_all; done))) (.refl _) (fun _ _ _ => trivial)
        ·
         replace hr18 := eq_of_beq hr18
         refine p_ rfl (f_ (b_ (a_ (e_ rfl) rfl (d_ (c_ rfl (B_ ?_))))))
         exact aj_ cj_ () (y_ rfl (by unfold bo_; (repeat (any_goals split)) <;> first | rfl | (simp_all; done) | (exfalso; simp_all; omega) | (exfalso; simp_all; done))) (.refl _) (fun _ _ _ => trivial)
     ·
      replace hr13 := eq_of_beq hr13
      refine p_ rfl (f_ (b_ (a_ (g_ rfl) rfl (a_ (g_ rfl) rfl (a_ (R_ rfl rfl rfl (aq_ (by omega) (by omega))) rfl (a_ (dQ_ (i := 1) (j := s.length - 1) (kl := .i64) (kh := .i64) ag_ rfl rfl (show _ = some (Value.int .i64 ((s.length - 1 : Nat) : Int)) by rw [show ((s.length - 1 : Nat) : Int) = (s.length : Int) - 1 by omega]; rfl) (by omega) (by omega)) rfl (al_ (cY_ _ (by first | exact hs | (simp; omega))) rfl S_ (fun _ _ _ => by exact trivial) rfl fun r20 hr20 => ?_)))))))
      refine a_ (e_ rfl) rfl (d_ (c_ rfl (B_ ?_)))
      exact aj_ cj_ () (y_ rfl (by unfold bo_; (repeat (any_goals split)) <;> first | rfl | (simp_all; done) | (exfalso; simp_all; omega) | (exfalso; simp_all; done))) (.refl _) (fun _ _ _ => trivial)
  ·
   replace hr2 := eq_of_beq hr2
   refine p_ rfl (f_ (b_ (a_ (e_ rfl) rfl (d_ (c_ rfl (B_ ?_))))))
   exact aj_ cj_ () (y_ rfl (by unfold bo_; (repeat (any_goals split)) <;> first | rfl | (simp_all; done) | (exfalso; simp_all; omega) | (exfalso; simp_all; done))) (.refl _) (fun _ _ _ => trivial)
 ·
  replace hr1 := eq_of_beq hr1
  refine q_ rfl rfl rfl rfl (q_ rfl rfl rfl rfl (a_ (K_ rfl rfl) rfl (a_ (e_ rfl) rfl (d_ (c_ rfl (p_ rfl (f_ (b_ (a_ (e_ rfl) rfl ?_)))))))))
  refine d_ (c_ rfl (B_ ?_))
  exact aj_ cj_ () (y_ rfl (by unfold bo_; (repeat (any_goals split)) <;> first | rfl | (simp_all; done) | (exfalso; simp_all; omega) | (exfalso; simp_all; done))) (.refl _) (fun _ _ _ => trivial)
end Go.Proofs.YtoafjmalfclpoaaGreatDoor
