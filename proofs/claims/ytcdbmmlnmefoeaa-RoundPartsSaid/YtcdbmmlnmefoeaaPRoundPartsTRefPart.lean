-- CUT by prune.py, a program of this session, to what the claim reaches (out of a text that the kit's printer, the session's programs or the session wrote)
import Derived.Test.YtcdbmmlnmefoeaaPRoundPartsXRefPart
import Derived.Test.YtcdbmmlnmefoeaaPRoundPartsTRefThree
import Derived.Test.YtcdbmmlnmefoeaaPRoundPartsTRoundPart
set_option maxRecDepth 10000
namespace Go.Proofs.Ytcdbmmlnmefoeaa.X
open Go.RowKit Go.Proofs.YtcdbmmlnmefoeaaW.PrintWords Go.Proofs.YtcdbmmlnmefoeaaW.PrintLast

theorem bsg_ge {x y : Int} : bsg x y ≥ 0 ↔ ¬ x < y := by
  unfold bsg
  repeat' split
  all_goals omega

theorem refpart_j1 {v w : List Int} (v2 : Digs v) (w2 : Digs w) (lv : v.length < 1000) (lw : w.length < 1000) (wp : 0 < bv w) :
    At (fun k => demurrageref03_Part.j1 k (!decide (bv v < 340282366920938463463374607431768211456 ∧ bv w < 18446744073709551616)) v w) (parted (bv v) (bv w)) := by
  unfold parted
  by_cases c : bv v < 340282366920938463463374607431768211456 ∧ bv w < 18446744073709551616
  · rw [if_pos c, decide_eq_true c]
    obtain ⟨s, ⟨K1, h1⟩, s2, s3, s4⟩ := near_at v2 w2 (by omega) (by omega) wp
    obtain ⟨K2, h2⟩ := tell_at s2 (by omega)
    rw [s3] at h2
    generalize (if ev (bv v) (bv w) ≤ 4611686018427387904 then (ev (bv v) (bv w), (0 : Int)) else (0, 6)) = R at h2 ⊢
    refine ⟨K1 + K2 + 1, fun k hk => ?_⟩
    obtain ⟨j, rfl⟩ : ∃ j, k = j + 1 := ⟨k - 1, by omega⟩
    have h1 : demurrageref03_Near.f j v w = some s := h1 j (by omega)
    have h2 : demurrageref03_told.f j s = some R := h2 j (by omega)
    show demurrageref03_Part.j1 (j + 1) false v w = some R
    rw [demurrageref03_Part.j1, if_neg (by decide), h1, Option.bind_some, h2, Option.bind_some]
  · rw [if_neg c, decide_eq_false c]
    refine ⟨1, fun k hk => ?_⟩
    obtain ⟨j, rfl⟩ : ∃ j, k = j + 1 := ⟨k - 1, by omega⟩
    show demurrageref03_Part.j1 (j + 1) true v w = _
    rw [demurrageref03_Part.j1, if_pos rfl]

theorem refpart_j0 {a b n d p : Int} (a0 : 0 ≤ a) (a1 : a < 9223372036854775808) (b0 : 0 ≤ b) (b1 : b < 9223372036854775808) (n0 : 0 ≤ n) (n1 : n ≤ 4611686018427387904) (d0 : 1 ≤ d) (d1 : d ≤ 4611686018427387904) (p0 : 1 ≤ p) (p1 : p < 9223372036854775808) :
    At (fun k => demurrageref03_Part.j0 k a b p false n d) (parted (a * b * n) (p * d)) := by
  obtain ⟨la, ⟨K1, h1⟩, A2, A3, A4, A5⟩ := from_at (x := a) ⟨a0, a1⟩
  obtain ⟨lb, ⟨K2, h2⟩, B2, B3, B4, B5⟩ := from_at (x := b) ⟨b0, b1⟩
  obtain ⟨u, ⟨K3, h3⟩, u2, u3, u4, u5⟩ := prod_at A2 B2 (by omega) (by omega)
  obtain ⟨ln, ⟨K4, h4⟩, N2, N3, N4, N5⟩ := from_at (x := n) ⟨n0, by omega⟩
  obtain ⟨v, ⟨K5, h5⟩, v2, v3, v4, v5⟩ := prod_at u2 N2 (by omega) (by omega)
  obtain ⟨lp, ⟨K6, h6⟩, P2, P3, P4, P5⟩ := from_at (x := p) ⟨by omega, p1⟩
  obtain ⟨ld, ⟨K7, h7⟩, D2, D3, D4, D5⟩ := from_at (x := d) ⟨by omega, by omega⟩
  obtain ⟨w, ⟨K8, h8⟩, w2, w3, w4, w5⟩ := prod_at P2 D2 (by omega) (by omega)
  obtain ⟨hf, ⟨K9, h9⟩, F2, F3, F4, F5⟩ := fromU_at (x := 4294967296) ⟨by omega, by omega⟩
  obtain ⟨L, ⟨K10, h10⟩, L2, L3, L4⟩ := limit_at
  obtain ⟨K11, h11⟩ := cmp_at v2 L2 (by omega) (by omega)
  obtain ⟨hh, ⟨K12, h12⟩, H2, H3, H4, H5⟩ := prod_at F2 F2 (by omega) (by omega)
  obtain ⟨K13, h13⟩ := cmp_at w2 H2 (by omega) (by omega)
  have ev1 : bv v = a * b * n := by rw [v3, u3, A3, B3, N3]
  have ew1 : bv w = p * d := by rw [w3, P3, D3]
  have eh : bv hh = 18446744073709551616 := by rw [H3, F3]; rfl
  obtain ⟨K14, h14⟩ := refpart_j1 v2 w2 (by omega) (by omega) (by rw [ew1]; exact Int.mul_pos (by omega) (by omega))
  rw [L3] at h11
  rw [eh] at h13
  rw [← ev1, ← ew1]
  clear ev1 ew1 eh v3 w3 H3
  generalize parted (bv v) (bv w) = R at h14 ⊢
  refine ⟨K1 + K2 + K3 + K4 + K5 + K6 + K7 + K8 + K9 + K10 + K11 + K12 + K13 + K14 + 1, fun k hk => ?_⟩
  obtain ⟨j, rfl⟩ : ∃ j, k = j + 1 := ⟨k - 1, by omega⟩
  have h1 : demurrageref01_From.f j a = some la := h1 j (by omega)
  have h2 : demurrageref01_From.f j b = some lb := h2 j (by omega)
  have h3 : demurrageref01_Prod.f j la lb = some u := h3 j (by omega)
  have h4 : demurrageref01_From.f j n = some ln := h4 j (by omega)
  have h5 : demurrageref01_Prod.f j u ln = some v := h5 j (by omega)
  have h6 : demurrageref01_From.f j p = some lp := h6 j (by omega)
  have h7 : demurrageref01_From.f j d = some ld := h7 j (by omega)
  have h8 : demurrageref01_Prod.f j lp ld = some w := h8 j (by omega)
  have h9 : demurrageref01_FromU.f j 4294967296 = some hf := h9 j (by omega)
  have h10 : demurrageref01_Limit.f j = some L := h10 j (by omega)
  have h11 : demurrageref01_Cmp.f j v L = some (bsg (bv v) 340282366920938463463374607431768211456) := h11 j (by omega)
  have h12 : demurrageref01_Prod.f j hf hf = some hh := h12 j (by omega)
  have h13 : demurrageref01_Cmp.f j w hh = some (bsg (bv w) 18446744073709551616) := h13 j (by omega)
  have h14 : demurrageref03_Part.j1 j (!decide (bv v < 340282366920938463463374607431768211456 ∧ bv w < 18446744073709551616)) v w = some R := h14 j (by omega)
  show demurrageref03_Part.j0 (j + 1) a b p false n d = some R
  rw [demurrageref03_Part.j0, if_neg (by decide), h1, Option.bind_some, h2, Option.bind_some, h3, Option.bind_some, h4, Option.bind_some, h5, Option.bind_some, h6, Option.bind_some, h7, Option.bind_some, h8, Option.bind_some,
    h9, Option.bind_some, h10, Option.bind_some, h11, Option.bind_some]
  by_cases c : bv v < 340282366920938463463374607431768211456
  · rw [if_neg (fun h => bsg_ge.mp h c), h12, Option.bind_some, h13, Option.bind_some]
    have e : decide (bsg (bv w) 18446744073709551616 ≥ 0) = !decide (bv v < 340282366920938463463374607431768211456 ∧ bv w < 18446744073709551616) := by
      by_cases g : bv w < 18446744073709551616
      · rw [decide_eq_false (fun h => bsg_ge.mp h g), decide_eq_true ⟨c, g⟩]
        rfl
      · rw [decide_eq_true (bsg_ge.mpr g), decide_eq_false (fun h : _ ∧ _ => g h.2)]
        rfl
    rw [e]
    exact h14
  · rw [if_pos (bsg_ge.mpr c)]
    rw [decide_eq_false (fun h : _ ∧ _ => c h.1)] at h14
    exact h14

theorem refpart_at {a b n d p : Int} (a1 : a < 9223372036854775808) (b1 : b < 9223372036854775808) (n0 : 0 ≤ n) (n1 : n ≤ 4611686018427387904) (d0 : 1 ≤ d) (d1 : d ≤ 4611686018427387904) (p1 : p < 9223372036854775808) :
    At (fun k => demurrageref03_Part.f k a b n d p) (parts a b n d p) := by
  have no : ∀ k, demurrageref03_Part.j0 (k + 1) a b p true n d = some (0, 1) := fun k => by rw [demurrageref03_Part.j0, if_pos rfl]
  unfold parts
  by_cases c : a < 0 ∨ b < 0 ∨ p < 1
  · rw [if_pos c]
    refine ⟨1, fun k hk => ?_⟩
    obtain ⟨j, rfl⟩ : ∃ j, k = j + 1 := ⟨k - 1, by omega⟩
    show demurrageref03_Part.f (j + 1) a b n d p = _
    unfold demurrageref03_Part.f
    by_cases c1 : a < 0
    · rw [if_pos c1, no]
    · rw [if_neg c1]
      by_cases c2 : b < 0
      · rw [if_pos c2, no]
      · rw [if_neg c2, decide_eq_true (show p < 1 by omega), no]
  · rw [if_neg c]
    obtain ⟨K, h⟩ := refpart_j0 (a := a) (b := b) (n := n) (d := d) (p := p) (by omega) a1 (by omega) b1 n0 n1 d0 d1 (by omega) p1
    refine ⟨K, fun k hk => ?_⟩
    have h : demurrageref03_Part.j0 k a b p false n d = some (parted (a * b * n) (p * d)) := h k hk
    show demurrageref03_Part.f k a b n d p = _
    unfold demurrageref03_Part.f
    rw [if_neg (show ¬ a < 0 by omega), if_neg (show ¬ b < 0 by omega), decide_eq_false (show ¬ p < 1 by omega)]
    exact h
end Go.Proofs.Ytcdbmmlnmefoeaa.X
