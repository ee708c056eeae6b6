/- RoundTurns: which number is first turns nothing of a product's part; both enlarged alike, it is the same; of a whole fraction it is the product by the number. -/
import Derived.Test.YtcdbmmlnmefoeaaPRoundTurnsXRoundTurns
import Derived.Test.YtcdbmmlnmefoeaaPRoundTurnsTRefTwo
import Derived.Test.YtcdbmmlnmefoeaaPRoundTurnsTRoundPart
set_option maxRecDepth 10000
namespace Go.Proofs.Ytcdbmmlnmefoeaa.Pure
open Go.RowKit Go.Proofs.Ytcdbmmlnmefoeaa.X Go.Proofs.YtcdbmmlnmefoeaaW.PrintWords Go.Proofs.YtcdbmmlnmefoeaaW.PrintLast

theorem ev_scale {x d m : Int} (hm : 0 < m) : ev (m * x) (m * d) = ev x d := by
  have e1 : m * x % (m * d) = m * (x % d) := Int.mul_emod_mul_of_pos x d hm
  have e2 : m * x / (m * d) = x / d := Int.mul_ediv_mul_of_pos x d hm
  have e3 : m * d - m * (x % d) = m * (d - x % d) := (Int.mul_sub m d (x % d)).symm
  have e4 : m * (x % d) > m * (d - x % d) ↔ x % d > d - x % d := Int.mul_lt_mul_left hm
  have e5 : m * (x % d) = m * (d - x % d) ↔ x % d = d - x % d := Int.mul_eq_mul_left_iff (by omega)
  have n : nearer (m * x) (m * d) = nearer x d := by
    unfold nearer
    rw [e1, e2, e3, decide_eq_decide.mpr e4, decide_eq_decide.mpr e5]
  unfold ev
  rw [n, e2]

theorem ev_one (x : Int) : ev x 1 = x := by
  unfold ev nearer
  rw [Int.emod_one, Int.ediv_one]
  rfl

theorem u32_wf {a : Int} (h : (Lit.int .u32 a).wf = true) : 0 ≤ a ∧ a < 4294967296 := by
  simp only [Lit.wf, IntKind.min, IntKind.max, IntKind.signed, IntKind.bits, Bool.and_eq_true] at h
  simp at h
  omega
theorem u16_wf' {a : Int} (h : (Lit.int .u16 a).wf = true) : 0 ≤ a ∧ a < 65536 := by
  simp only [Lit.wf, IntKind.min, IntKind.max, IntKind.signed, IntKind.bits, Bool.and_eq_true] at h
  simp at h
  omega
theorem u8_wf {a : Int} (h : (Lit.int .u8 a).wf = true) : 0 ≤ a ∧ a < 256 := by
  simp only [Lit.wf, IntKind.min, IntKind.max, IntKind.signed, IntKind.bits, Bool.and_eq_true] at h
  simp at h
  omega

theorem low {a m : Int} (h0 : 0 ≤ a) (h1 : a < 4294967296) (hm : 0 < m) : Int.tmod (wrap64 a) m = a % m ∧ 0 ≤ a % m ∧ a % m < m := by
  rw [wrap64_small (by omega) (by omega), Int.tmod_eq_emod_of_nonneg h0]
  exact ⟨rfl, Int.emod_nonneg a (by omega), Int.emod_lt_of_pos a hm⟩

/-- The part, where nothing is too great. -/
theorem small {x y n d p : Int} (x0 : 0 ≤ x) (y0 : 0 ≤ y) (p0 : 1 ≤ p) (h1 : x * y * n < 295147905179352825856) (h2 : p * d < 18446744073709551616) (h3 : ev (x * y * n) (p * d) ≤ 4611686018427387904) :
    parts x y n d p = (ev (x * y * n) (p * d), 0) := by
  unfold parts parted
  rw [if_neg (by omega), if_pos ⟨by omega, h2⟩, if_pos h3]

theorem turns_law {x y n d p m : Int} (x0 : 0 ≤ x) (x1 : x < 1048576) (y0 : 0 ≤ y) (y1 : y < 1048576) (n0 : 0 ≤ n) (n1 : n < 1000000) (d0 : 1 ≤ d) (d1 : d ≤ 1000000) (p0 : 1 ≤ p) (p1 : p ≤ 65536) (m0 : 1 ≤ m) (m1 : m ≤ 256) :
    ∃ r : Int, parts x y n d p = (r, 0) ∧ parts y x n d p = (r, 0) ∧ parts (x * m) y n d (p * m) = (r, 0) ∧ parts x y 1 1 1 = (x * y, 0) := by
  have q1 : 0 ≤ x * y := Int.mul_nonneg x0 y0
  have q2 : x * y ≤ 1048575 * 1048575 := Int.mul_le_mul (by omega) (by omega) y0 (by omega)
  have q3 : 0 ≤ x * y * n := Int.mul_nonneg q1 n0
  have q4 : x * y * n ≤ 1048575 * 1048575 * 1000000 := Int.mul_le_mul q2 (by omega) n0 (by omega)
  have q5 : 0 < p * d := Int.mul_pos (by omega) (by omega)
  have q6 : p * d ≤ 65536 * 1000000 := Int.mul_le_mul p1 d1 (by omega) (by omega)
  have q7 : p * d * m ≤ 65536 * 1000000 * 256 := Int.mul_le_mul q6 m1 (by omega) (by omega)
  have q8 : x * y * n * m ≤ 1048575 * 1048575 * 1000000 * 256 := Int.mul_le_mul q4 m1 (by omega) (by omega)
  have v := ev_near (x := x * y * n) q5
  have w : x * y * n / (p * d) ≤ x * y * n := Int.ediv_le_self _ q3
  have e : ev (x * y * n) (p * d) ≤ 4611686018427387904 := by
    have := v.2.2.2
    clear v
    omega
  refine ⟨ev (x * y * n) (p * d), small x0 y0 p0 (by omega) (by omega) e, ?_, ?_, ?_⟩
  · rw [small y0 x0 p0 (by rw [Int.mul_comm y x]; omega) (by omega) (by rw [Int.mul_comm y x]; exact e), Int.mul_comm y x]
  · have e1 : x * m * y * n = m * (x * y * n) := by
      rw [Int.mul_comm x m]
      simp only [Int.mul_assoc]
    have e2 : p * m * d = m * (p * d) := by rw [Int.mul_comm p m, Int.mul_assoc]
    have e3 : ev (x * m * y * n) (p * m * d) = ev (x * y * n) (p * d) := by rw [e1, e2, ev_scale (by omega)]
    have z1 : 0 ≤ x * m := Int.mul_nonneg x0 (by omega)
    have z2 : 0 < p * m := Int.mul_pos (by omega) (by omega)
    rw [small z1 y0 (by omega) (by rw [e1, Int.mul_comm]; omega) (by rw [e2, Int.mul_comm]; omega) (by rw [e3]; exact e), e3]
  · rw [small x0 y0 (Int.le_refl 1) (by rw [Int.mul_one]; omega) (by decide) (by rw [Int.mul_one, Int.mul_one, ev_one]; omega), Int.mul_one, Int.mul_one, ev_one]

theorem RoundTurns (a b n d p c : Int) (wa : (Lit.int .u32 a).wf = true) (wb : (Lit.int .u32 b).wf = true) (wn : (Lit.int .u32 n).wf = true) (wd : (Lit.int .u32 d).wf = true) (wp : (Lit.int .u16 p).wf = true) (wc : (Lit.int .u8 c).wf = true) :
    ∃ k, demurragelaw03_RoundTurns.f k a b n d p c = some true := by
  have ha := u32_wf wa
  have hb := u32_wf wb
  have hn := u32_wf wn
  have hd := u32_wf wd
  have hp := u16_wf' wp
  have hc := u8_wf wc
  obtain ⟨ea, a0, a1⟩ := low (m := 1048576) ha.1 ha.2 (by omega)
  obtain ⟨eb, b0, b1⟩ := low (m := 1048576) hb.1 hb.2 (by omega)
  obtain ⟨en, n0, n1⟩ := low (m := 1000000) hn.1 hn.2 (by omega)
  obtain ⟨ed, d0, d1⟩ := low (m := 1000000) hd.1 hd.2 (by omega)
  obtain ⟨K0, h0⟩ : At (fun k => demurragelaw03_shown.f k) true := At.grow (K := 5) demurragelaw03_shown.mono shown_three
  have fw1 : wrap64 (1 + d % 1000000) = 1 + d % 1000000 := wrap64_small (by omega) (by omega)
  have fw2 : wrap64 p = p := wrap64_small (by omega) (by omega)
  have fw3 : wrap64 (1 + p) = 1 + p := wrap64_small (by omega) (by omega)
  have fw4 : wrap64 c = c := wrap64_small (by omega) (by omega)
  have fw5 : wrap64 (1 + c) = 1 + c := wrap64_small (by omega) (by omega)
  have i1 : 0 ≤ a % 1048576 * (1 + c) := Int.mul_nonneg a0 (by omega)
  have i2 : a % 1048576 * (1 + c) ≤ 1048576 * 256 := Int.mul_le_mul (by omega) (by omega) (by omega) (by omega)
  have i3 : 0 ≤ (1 + p) * (1 + c) := Int.mul_nonneg (by omega) (by omega)
  have i4 : (1 + p) * (1 + c) ≤ 65536 * 256 := Int.mul_le_mul (by omega) (by omega) (by omega) (by omega)
  have i5 : 0 ≤ a % 1048576 * (b % 1048576) := Int.mul_nonneg a0 b0
  have i6 : a % 1048576 * (b % 1048576) ≤ 1048576 * 1048576 := Int.mul_le_mul (by omega) (by omega) (by omega) (by omega)
  have fw6 : wrap64 (a % 1048576 * (1 + c)) = a % 1048576 * (1 + c) := wrap64_small (by omega) (by omega)
  have fw7 : wrap64 ((1 + p) * (1 + c)) = (1 + p) * (1 + c) := wrap64_small (by omega) (by omega)
  have fw8 : wrap64 (a % 1048576 * (b % 1048576)) = a % 1048576 * (b % 1048576) := wrap64_small (by omega) (by omega)
  clear i1 i3 i5
  generalize a % 1048576 = x at *
  generalize b % 1048576 = y at *
  obtain ⟨K1, h1⟩ := refnew_at (n := n % 1000000) (d := 1 + d % 1000000) (by clear fw1 fw2 fw3 fw4 fw5 fw6 fw7 fw8; omega) (by clear fw1 fw2 fw3 fw4 fw5 fw6 fw7 fw8; omega)
  generalize n % 1000000 = u at *
  generalize d % 1000000 = v at *
  have e1 : ∃ r s : Int, news u (1 + v) = (r, s, 0) ∧ 0 ≤ r ∧ r < 1000000 ∧ 1 ≤ s ∧ s ≤ 1000000 := by
    clear fw1 fw2 fw3 fw4 fw5 fw6 fw7 fw8 h1
    unfold news
    obtain ⟨s, rfl⟩ := Int.eq_ofNat_of_zero_le n0
    obtain ⟨t, ht⟩ := Int.eq_ofNat_of_zero_le (show 0 ≤ 1 + v by omega)
    rw [ht, if_neg (by omega), if_neg (by omega), Int.toNat_natCast, Int.toNat_natCast]
    have tp : 0 < t := by omega
    have l1 := Nat.div_le_self s (s.gcd t)
    have l2 := Nat.div_le_self t (s.gcd t)
    have l3 : 0 < t / s.gcd t := Nat.div_pos (Nat.le_of_dvd tp (Nat.gcd_dvd_right s t)) (Nat.gcd_pos_of_pos_right s tp)
    generalize s / s.gcd t = q at *
    generalize t / s.gcd t = w at *
    unfold made
    rw [if_pos ⟨by omega, by omega⟩]
    exact ⟨_, _, rfl, by omega, by omega, by omega, by omega⟩
  obtain ⟨r, s, er, r0, r1, s0, s1⟩ := e1
  rw [er] at h1
  have h0 : demurragelaw03_shown.f (K0 + K1 + 2) = some true := h0 _ (by omega)
  have h1 : demurrageref02_New.f (K0 + K1 + 2) u (1 + v) = some (r, s, 0) := h1 _ (by omega)
  obtain ⟨z, z1, z2, z3, z4⟩ := turns_law (x := x) (y := y) (n := r) (d := s) (p := 1 + p) (m := 1 + c) a0 a1 b0 b1 r0 r1 s0 s1 (by omega) (by omega) (by omega) (by omega)
  have p1 := rpart_at (a := x) (b := y) (n := r) (d := s) (p := 1 + p) (by omega) (by omega) r0 (by omega) s0 (by omega) (by omega) (K0 + K1)
  have p2 := rpart_at (a := y) (b := x) (n := r) (d := s) (p := 1 + p) (by omega) (by omega) r0 (by omega) s0 (by omega) (by omega) (K0 + K1)
  have p3 := rpart_at (a := x * (1 + c)) (b := y) (n := r) (d := s) (p := (1 + p) * (1 + c)) (by omega) (by omega) r0 (by omega) s0 (by omega) (by omega) (K0 + K1)
  have p4 := rpart_at (a := x) (b := y) (n := 1) (d := 1) (p := 1) (by omega) (by omega) (by omega) (by omega) (by omega) (by omega) (by omega) (K0 + K1)
  rw [z1] at p1
  rw [z2] at p2
  rw [z3] at p3
  rw [z4] at p4
  refine ⟨K0 + K1 + 2, ?_⟩
  unfold demurragelaw03_RoundTurns.f
  rw [ea, eb, en, ed, fw1, fw2, fw3, fw4, fw5, fw6, fw7, fw8]
  rw [h0, Option.bind_some, h1, Option.bind_some]
  show ((round_Part.f (K0 + K1 + 2) x y r s (1 + p)).bind fun bt5833 => ((round_Part.f (K0 + K1 + 2) y x r s (1 + p)).bind fun bt5835 => ((round_Part.f (K0 + K1 + 2) (x * (1 + c)) y r s ((1 + p) * (1 + c))).bind fun bt5837 => ((round_Part.f (K0 + K1 + 2) x y 1 1 1).bind fun bt5839 => (if true = true then (if bt5833.2 = 0 then (if bt5835.2 = 0 then (if bt5837.2 = 0 then (if bt5839.2 = 0 then (if bt5833.1 = bt5835.1 then (if bt5833.1 = bt5837.1 then (some (bt5839.1 == (x * y))) else (none)) else (none)) else (none)) else (none)) else (none)) else (none)) else (none)))))) = some true
  rw [p1, Option.bind_some, p2, Option.bind_some, p3, Option.bind_some, p4, Option.bind_some]
  rw [if_pos rfl, if_pos rfl, if_pos rfl, if_pos rfl, if_pos rfl, if_pos rfl, if_pos rfl, beq_self_eq_true]
end Go.Proofs.Ytcdbmmlnmefoeaa.Pure
