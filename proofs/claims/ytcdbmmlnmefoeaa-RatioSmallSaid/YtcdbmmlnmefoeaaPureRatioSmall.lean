/- RatioSmall: of small numbers sums, products and order are what plain numbers say. -/
import Derived.Test.YtcdbmmlnmefoeaaXRatioSmall
import Derived.Test.YtcdbmmlnmefoeaaTRatio
set_option maxRecDepth 10000
namespace Go.Proofs.Ytcdbmmlnmefoeaa.Pure
open Go.RowKit Go.Proofs.Ytcdbmmlnmefoeaa.X Go.Proofs.YtcdbmmlnmefoeaaW.PrintWords Go.Proofs.YtcdbmmlnmefoeaaW.PrintLast

/-- (Not by rfl: else the kernel compares the calls' answers.) -/
theorem bindS {α β : Type} (x : α) (f : α → Option β) : (some x).bind f = f x := by rw [Option.bind_some]

theorem val {u v n d A C K L : Nat} (h1 : u * K = A * v) (h2 : n * L = C * d) (h3 : A * L = C * K) (k0 : 0 < K) (l0 : 0 < L) : u * d = n * v := by
  apply Nat.eq_of_mul_eq_mul_right (Nat.mul_pos k0 l0)
  calc u * d * (K * L) = (u * K) * (d * L) := by simp only [Nat.mul_comm, Nat.mul_left_comm]
    _ = (A * L) * (v * d) := by rw [h1]; simp only [Nat.mul_comm, Nat.mul_left_comm]
    _ = (C * d) * (K * v) := by rw [h3]; simp only [Nat.mul_comm, Nat.mul_left_comm]
    _ = n * v * (K * L) := by rw [← h2]; simp only [Nat.mul_comm, Nat.mul_left_comm]

theorem lies {A B C D K L : Nat} (h1 : A * L = C * K) (h2 : B * L = D * K) (k0 : 0 < K) (l0 : 0 < L) : (A < B ↔ C < D) ∧ (A = B ↔ C = D) := by
  have e1 : A < B ↔ A * L < B * L := (Nat.mul_lt_mul_right l0).symm
  have e2 : C < D ↔ C * K < D * K := (Nat.mul_lt_mul_right k0).symm
  have e3 : A = B ↔ A * L = B * L := ⟨fun h => by rw [h], fun h => Nat.eq_of_mul_eq_mul_right l0 h⟩
  have e4 : C = D ↔ C * K = D * K := ⟨fun h => by rw [h], fun h => Nat.eq_of_mul_eq_mul_right k0 h⟩
  rw [e1, e2, e3, e4, h1, h2]
  exact ⟨Iff.rfl, Iff.rfl⟩

theorem made_small {n d : Nat} (hn : n ≤ 4611686018427387904) (hd : d ≤ 4611686018427387904) : made n d = ((n : Int), (d : Int), 0) := by
  unfold made
  rw [if_pos ⟨by omega, by omega⟩]

theorem u16_wf {a : Int} (h : (Lit.int .u16 a).wf = true) : ∃ x : Nat, a = x ∧ x ≤ 65535 := by
  simp only [Lit.wf, IntKind.min, IntKind.max, IntKind.signed, IntKind.bits, Bool.and_eq_true] at h
  simp at h
  exact ⟨a.toNat, by omega, by omega⟩

theorem small_mod {x : Nat} (h : x ≤ 65535) : Int.tmod (wrap64 (x : Int)) 30000 = ((x % 30000 : Nat) : Int) := by
  rw [IntWalk.wrap64_in _ ⟨by omega, by omega⟩, Int.tmod_eq_emod_of_nonneg (Int.natCast_nonneg x)]
  omega
theorem small_one {x : Nat} (h : x ≤ 65535) : wrap64 (1 + Int.tmod (wrap64 (x : Int)) 30000) = ((1 + x % 30000 : Nat) : Int) := by
  rw [small_mod h, IntWalk.wrap64_in _ ⟨by omega, by omega⟩]
  omega
theorem small_mul {x y : Nat} (hx : x ≤ 30000) (hy : y ≤ 30000) : x * y ≤ 900000000 ∧ wrap64 ((x : Int) * (y : Int)) = ((x * y : Nat) : Int) := by
  have h : x * y ≤ 30000 * 30000 := Nat.mul_le_mul hx hy
  rw [← Int.natCast_mul, IntWalk.wrap64_in _ ⟨by omega, by omega⟩]
  exact ⟨by omega, rfl⟩
theorem small_add {u v : Nat} (hu : u ≤ 900000000) (hv : v ≤ 900000000) : wrap64 ((u : Int) + (v : Int)) = ((u + v : Nat) : Int) := by
  rw [IntWalk.wrap64_in ((u : Int) + (v : Int)) ⟨by omega, by omega⟩]
  omega
theorem cast_lt {u v : Nat} (h : u < v) : (u : Int) < (v : Int) ∧ ¬ (u : Int) > (v : Int) := ⟨by omega, by omega⟩
theorem cast_eq {u v : Nat} (h : u = v) : ¬ (u : Int) < (v : Int) ∧ ¬ (u : Int) > (v : Int) := ⟨by omega, by omega⟩
theorem cast_gt {u v : Nat} (h : v < u) : ¬ (u : Int) < (v : Int) ∧ (u : Int) > (v : Int) := ⟨by omega, by omega⟩
theorem twice_eq (a b : Int) : (a == a && (b == b)) = true := by simp

/-- Everything of four small numbers. -/
theorem small_all {p q r s : Nat} (hp : p < 30000) (hq : q ≤ 30000) (hr : r < 30000) (hs : s ≤ 30000) (q0 : 0 < q) (s0 : 0 < s) :
    ∃ n1 d1 n2 d2 n3 d3 n4 d4 : Nat, ratio_New.f 5 p q = some ((n1 : Int), (d1 : Int), 0) ∧ ratio_New.f 5 r s = some ((n2 : Int), (d2 : Int), 0) ∧ n1 * q = p * d1 ∧ n2 * s = r * d2 ∧ n1 ≤ 30000 ∧ d1 ≤ 30000 ∧ n2 ≤ 30000 ∧ d2 ≤ 30000 ∧
      ratio_Add.f n1 d1 n2 d2 = some ((n3 : Int), (d3 : Int), 0) ∧ ratio_New.f 5 ((p * s + r * q : Nat) : Int) ((q * s : Nat) : Int) = some ((n3 : Int), (d3 : Int), 0) ∧
      ratio_Mul.f n1 d1 n2 d2 = some ((n4 : Int), (d4 : Int), 0) ∧ ratio_New.f 5 ((p * r : Nat) : Int) ((q * s : Nat) : Int) = some ((n4 : Int), (d4 : Int), 0) ∧
      ratio_Cmp.f n1 d1 n2 d2 = some (if p * s < r * q then -1 else if p * s = r * q then 0 else 1) := by
  obtain ⟨a1, a2, a3⟩ := Frac.new (n := p) q0
  obtain ⟨b1, b2, b3⟩ := Frac.new (n := r) s0
  have qs0 : 0 < q * s := Nat.mul_pos q0 s0
  obtain ⟨c1, c2, c3⟩ := Frac.new (n := p * s + r * q) qs0
  obtain ⟨d1, d2, d3⟩ := Frac.new (n := p * r) qs0
  have m1 : p * s ≤ 30000 * 30000 := Nat.mul_le_mul (by omega) hs
  have m2 : r * q ≤ 30000 * 30000 := Nat.mul_le_mul (by omega) hq
  have m3 : q * s ≤ 30000 * 30000 := Nat.mul_le_mul hq hs
  have m4 : p * r ≤ 30000 * 30000 := Nat.mul_le_mul (by omega) (by omega)
  have f1 := rnew_eq (n := p) (d := q) (by omega) (by omega) q0 4
  have f2 := rnew_eq (n := r) (d := s) (by omega) (by omega) s0 4
  have f3 := rnew_eq (n := p * s + r * q) (d := q * s) (by omega) (by omega) qs0 4
  have f4 := rnew_eq (n := p * r) (d := q * s) (by omega) (by omega) qs0 4
  have l1 := Nat.div_le_self p (p.gcd q)
  have l2 := Nat.div_le_self q (p.gcd q)
  have l3 := Nat.div_le_self r (r.gcd s)
  have l4 := Nat.div_le_self s (r.gcd s)
  have l5 := Nat.div_le_self (p * s + r * q) ((p * s + r * q).gcd (q * s))
  have l6 := Nat.div_le_self (q * s) ((p * s + r * q).gcd (q * s))
  have l7 := Nat.div_le_self (p * r) ((p * r).gcd (q * s))
  have l8 := Nat.div_le_self (q * s) ((p * r).gcd (q * s))
  generalize p / p.gcd q = n1 at *
  generalize q / p.gcd q = e1 at *
  generalize r / r.gcd s = n2 at *
  generalize s / r.gcd s = e2 at *
  generalize (p * s + r * q) / (p * s + r * q).gcd (q * s) = n3 at *
  generalize q * s / (p * s + r * q).gcd (q * s) = e3 at *
  generalize p * r / (p * r).gcd (q * s) = n4 at *
  generalize q * s / (p * r).gcd (q * s) = e4 at *
  rw [made_small (by omega) (by omega)] at f1 f2 f3 f4
  have g1 := radd_eq (a := n1) (b := e1) (c := n2) (d := e2) (by omega) (by omega) (by omega) (by omega) a3 b3
  have g2 := rmul_eq (a := n1) (b := e1) (c := n2) (d := e2) (by omega) (by omega) (by omega) (by omega) a3 b3
  have g3 := rcmp_eq (a := n1) (b := e1) (c := n2) (d := e2) (by omega) (by omega) (by omega) (by omega)
  obtain ⟨h1, h2, h3⟩ := Frac.add (a := n1) (b := e1) (c := n2) (d := e2) a3 b3 a1 b1
  obtain ⟨i1, i2, i3⟩ := Frac.mul (a := n1) (b := e1) (c := n2) (d := e2) a3 b3 a1 b1
  generalize Frac.up n1 e1 n2 e2 / (Frac.up n1 e1 n2 e2).gcd (e1.gcd e2) = u1 at *
  generalize e1 / e1.gcd e2 * (e2 / (Frac.up n1 e1 n2 e2).gcd (e1.gcd e2)) = v1 at *
  generalize n1 / n1.gcd e2 * (n2 / n2.gcd e1) = u2 at *
  generalize e1 / n2.gcd e1 * (e2 / n1.gcd e2) = v2 at *
  have ee : 0 < e1 * e2 := Nat.mul_pos a3 b3
  have x1 : n1 * e2 * (q * s) = p * s * (e1 * e2) := by
    calc n1 * e2 * (q * s) = n1 * q * (e2 * s) := by simp only [Nat.mul_comm, Nat.mul_left_comm]
      _ = p * s * (e1 * e2) := by rw [a2]; simp only [Nat.mul_comm, Nat.mul_left_comm]
  have x2 : n2 * e1 * (q * s) = r * q * (e1 * e2) := by
    calc n2 * e1 * (q * s) = n2 * s * (e1 * q) := by simp only [Nat.mul_comm, Nat.mul_left_comm]
      _ = r * q * (e1 * e2) := by rw [b2]; simp only [Nat.mul_comm, Nat.mul_left_comm]
  have x3 : n1 * n2 * (q * s) = p * r * (e1 * e2) := by
    calc n1 * n2 * (q * s) = n1 * q * (n2 * s) := by simp only [Nat.mul_comm, Nat.mul_left_comm]
      _ = p * r * (e1 * e2) := by rw [a2, b2]; simp only [Nat.mul_comm, Nat.mul_left_comm]
  have x4 : (n1 * e2 + n2 * e1) * (q * s) = (p * s + r * q) * (e1 * e2) := by rw [Nat.add_mul, Nat.add_mul, x1, x2]
  obtain ⟨rfl, rfl⟩ := Frac.same (val h2 c2 x4 ee qs0) h1 c1 c3
  obtain ⟨rfl, rfl⟩ := Frac.same (val i2 d2 x3 ee qs0) i1 d1 d3
  rw [made_small (by omega) (by omega)] at g1 g2
  obtain ⟨o1, o2⟩ := lies x1 x2 ee qs0
  simp only [o1, o2] at g3
  exact ⟨n1, e1, n2, e2, u1, v1, u2, v2, f1, f2, a2, b2, by omega, by omega, by omega, by omega, g1, f3, g2, f4, g3⟩

theorem RatioSmall (a b c d : Int) (wa : (Lit.int .u16 a).wf = true) (wb : (Lit.int .u16 b).wf = true) (wc : (Lit.int .u16 c).wf = true) (wd : (Lit.int .u16 d).wf = true) : ∃ k, demurragelaw02_RatioSmall.f k a b c d = some true := by
  refine ⟨5, ?_⟩
  obtain ⟨x, rfl, hx⟩ := u16_wf wa
  obtain ⟨y, rfl, hy⟩ := u16_wf wb
  obtain ⟨z, rfl, hz⟩ := u16_wf wc
  obtain ⟨t, rfl, ht⟩ := u16_wf wd
  unfold demurragelaw02_RatioSmall.f
  rw [small_one hy, small_one ht, small_mod hx, small_mod hz]
  have hp : x % 30000 < 30000 := Nat.mod_lt _ (by omega)
  have hr : z % 30000 < 30000 := Nat.mod_lt _ (by omega)
  have hq : 0 < 1 + y % 30000 ∧ 1 + y % 30000 ≤ 30000 := by omega
  have hs : 0 < 1 + t % 30000 ∧ 1 + t % 30000 ≤ 30000 := by omega
  generalize x % 30000 = p at *
  generalize z % 30000 = r at *
  generalize 1 + y % 30000 = q at *
  generalize 1 + t % 30000 = s at *
  obtain ⟨n1, d1, n2, d2, n3, d3, n4, d4, f1, f2, e1, e2, l1, l2, l3, l4, g1, f3, g2, f4, g3⟩ := small_all hp hq.2 hr hs.2 hq.1 hs.1
  obtain ⟨b1, w1⟩ := small_mul (x := p) (y := s) (by omega) (by omega)
  obtain ⟨b2, w2⟩ := small_mul (x := r) (y := q) (by omega) (by omega)
  obtain ⟨b3, w3⟩ := small_mul (x := q) (y := s) (by omega) (by omega)
  obtain ⟨b4, w4⟩ := small_mul (x := p) (y := r) (by omega) (by omega)
  have w5 : wrap64 (((p * s : Nat) : Int) + ((r * q : Nat) : Int)) = ((p * s + r * q : Nat) : Int) := small_add b1 b2
  have k1 : wrap64 ((n1 : Int) * (q : Int)) = wrap64 ((p : Int) * (d1 : Int)) := congrArg wrap64 (by rw [← Int.natCast_mul, ← Int.natCast_mul, e1])
  have k2 : wrap64 ((n2 : Int) * (s : Int)) = wrap64 ((r : Int) * (d2 : Int)) := congrArg wrap64 (by rw [← Int.natCast_mul, ← Int.natCast_mul, e2])
  rcases Nat.lt_trichotomy (p * s) (r * q) with h | h | h
  · rw [if_pos h] at g3
    obtain ⟨i1, i2⟩ := cast_lt h
    simp only [shown_two, bindS, f1, f2, k1, k2, g1, g2, w1, w2, w3, w4, w5, f3, f4, i1, i2, g3, if_true, if_false, beq_self_eq_true, Bool.and_self]
  · rw [if_neg (show ¬ p * s < r * q from fun g => absurd h (Nat.ne_of_lt g)), if_pos h] at g3
    obtain ⟨i1, i2⟩ := cast_eq h
    simp only [shown_two, bindS, f1, f2, k1, k2, g1, g2, w1, w2, w3, w4, w5, f3, f4, i1, i2, g3, if_true, if_false, beq_self_eq_true, Bool.and_self]
  · rw [if_neg (Nat.not_lt.mpr (Nat.le_of_lt h)), if_neg (Nat.ne_of_gt h)] at g3
    obtain ⟨i1, i2⟩ := cast_gt h
    simp only [shown_two, bindS, f1, f2, k1, k2, g1, g2, w1, w2, w3, w4, w5, f3, f4, i1, i2, g3, if_true, if_false, beq_self_eq_true, Bool.and_self]
end Go.Proofs.Ytcdbmmlnmefoeaa.Pure
