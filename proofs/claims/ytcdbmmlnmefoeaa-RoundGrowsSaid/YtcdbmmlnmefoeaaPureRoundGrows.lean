/- RoundGrows: of a greater number what is rounded isn't less; of twice both it is the same. -/
import Derived.Test.YtcdbmmlnmefoeaaXRoundGrows
import Derived.Test.YtcdbmmlnmefoeaaTRound
namespace Go.Proofs.Ytcdbmmlnmefoeaa.Pure
open Go.RowKit Go.Proofs.Ytcdbmmlnmefoeaa.X Go.Proofs.YtcdbmmlnmefoeaaW.PrintWords Go.Proofs.YtcdbmmlnmefoeaaW.PrintLast

theorem ev_twice {p m : Int} (hm : 0 < m) : ev (2 * p) (2 * m) = ev p m ∧ 2 * p / (2 * m) = p / m := by
  have e1 : 2 * p / (2 * m) = p / m := Int.mul_ediv_mul_of_pos p m (by omega)
  have e2 : 2 * p % (2 * m) = 2 * (p % m) := Int.mul_emod_mul_of_pos p m (by omega)
  refine ⟨?_, e1⟩
  unfold ev nearer
  rw [e1, e2]
  have h1 : decide (2 * (p % m) > 2 * m - 2 * (p % m)) = decide (p % m > m - p % m) := by
    rw [decide_eq_decide]; omega
  have h2 : decide (2 * (p % m) = 2 * m - 2 * (p % m)) = decide (p % m = m - p % m) := by
    rw [decide_eq_decide]; omega
  rw [h1, h2]

/-- What Even and Down answer. -/
def ans (ok : Prop) [Decidable ok] (v : Int) : Int × Int := if ok then (v, 0) else (0, 6)

theorem RoundGrows (a b c d n : Int) (wa : (Lit.int .u64 a).wf = true) (wb : (Lit.int .u64 b).wf = true) (wc : (Lit.int .u64 c).wf = true) (wd : (Lit.int .u64 d).wf = true) (wn : (Lit.int .u64 n).wf = true) :
    ∃ k, demurragelaw03_RoundGrows.f k a b c d n = some true := by
  refine ⟨5, ?_⟩
  have ha := u64_wf wa
  have hb := u64_wf wb
  have hc := u64_wf wc
  have hd := u64_wf wd
  have hn := u64_wf wn
  have la : 0 ≤ a / 4 ∧ a / 4 < 4611686018427387904 := by have := ha.1; have := ha.2; omega
  have lc : 0 ≤ c / 4 ∧ c / 4 < 4611686018427387904 := by have := hc.1; have := hc.2; omega
  have ln : 1 ≤ 1 + n / 4 ∧ 1 + n / 4 ≤ 4611686018427387904 := by have := hn.1; have := hn.2; omega
  have w1 : IntKind.u64.wrap (1 + n / 4) = 1 + n / 4 := IntWalk.u64_in _ ⟨by omega, by omega⟩
  unfold demurragelaw03_RoundGrows.f
  rw [shown_three, w1]
  generalize a / 4 = x at la
  generalize c / 4 = y at lc
  generalize 1 + n / 4 = m at ln
  have b1 := hb.1
  have b2 := hb.2
  have w2 : IntKind.u64.wrap (2 * x) = 2 * x := IntWalk.u64_in _ ⟨by omega, by omega⟩
  have w3 : IntKind.u64.wrap (2 * x + b / 9223372036854775808) = 2 * x + b / 9223372036854775808 := IntWalk.u64_in _ ⟨by omega, by omega⟩
  have w4 : IntKind.u64.wrap (2 * b) = 2 * b % 18446744073709551616 := IntKind.wrap_u64 _
  have w5 : IntKind.u64.wrap (2 * m) = 2 * m := IntWalk.u64_in _ ⟨by omega, by omega⟩
  have ux : U64 x := ⟨by omega, by omega⟩
  have uy : U64 y := ⟨by omega, by omega⟩
  have um : U64 m := ⟨by omega, by omega⟩
  have u2 : U64 (2 * m) := ⟨by omega, by omega⟩
  have uh : U64 (2 * x + b / 9223372036854775808) := ⟨by omega, by omega⟩
  have ul : U64 (2 * b % 18446744073709551616) := ⟨by omega, by omega⟩
  have e2 : wv (2 * x + b / 9223372036854775808) (2 * b % 18446744073709551616) = 2 * wv x b := by unfold wv; omega
  obtain ⟨t1, t2⟩ := ev_twice (p := wv x b) (show 0 < m by omega)
  rw [w2, w3, w4, w5]
  simp only [Option.bind_some]
  rw [even_eq ux hb um (by omega), even_eq uy hd um (by omega), even_eq uh ul u2 (by omega), down_eq ux hb um (by omega), down_eq uy hd um (by omega), e2, t1, t2]
  simp only [Option.bind_some, if_true]
  have fin : wv x b ≤ wv y d → (wv x b / m ≤ wv y d / m ∧ ev (wv x b) m ≤ ev (wv y d) m) := fun h => ⟨Int.ediv_le_ediv (by omega) h, ev_mono (by omega) h⟩
  have less1 : x < y → wv x b ≤ wv y d := by
    intro h
    have := hd.1
    unfold wv
    omega
  have less2 : x = y → b ≤ d → wv x b ≤ wv y d := by
    intro h g
    subst h
    unfold wv
    omega
  generalize wv x b / m = q at *
  generalize ev (wv x b) m = e at *
  generalize wv y d / m = r at *
  generalize ev (wv y d) m = f at *
  have main : (q ≤ r ∧ e ≤ f) → (if (if r ≤ 4611686018427387904 ∧ f ≤ 4611686018427387904 then (f, (0 : Int)) else (0, 6)).2 = 0 then (if (if q ≤ 4611686018427387904 ∧ e ≤ 4611686018427387904 then (e, (0 : Int)) else (0, 6)).2 = 0 then (if (if q ≤ 4611686018427387904 ∧ e ≤ 4611686018427387904 then (e, (0 : Int)) else (0, 6)).1 ≤ (if r ≤ 4611686018427387904 ∧ f ≤ 4611686018427387904 then (f, (0 : Int)) else (0, 6)).1 then (if (if r ≤ 4611686018427387904 then (r, (0 : Int)) else (0, 6)).2 = 0 then (if (if q ≤ 4611686018427387904 then (q, (0 : Int)) else (0, 6)).2 = 0 then some (decide ((if q ≤ 4611686018427387904 then (q, (0 : Int)) else (0, 6)).1 ≤ (if r ≤ 4611686018427387904 then (r, (0 : Int)) else (0, 6)).1)) else none) else some true) else none) else none) else (if (if r ≤ 4611686018427387904 then (r, (0 : Int)) else (0, 6)).2 = 0 then (if (if q ≤ 4611686018427387904 then (q, (0 : Int)) else (0, 6)).2 = 0 then some (decide ((if q ≤ 4611686018427387904 then (q, (0 : Int)) else (0, 6)).1 ≤ (if r ≤ 4611686018427387904 then (r, (0 : Int)) else (0, 6)).1)) else none) else some true)) = some true := by
    intro ⟨h1, h2⟩
    by_cases g1 : r ≤ 4611686018427387904
    · have g2 : q ≤ 4611686018427387904 := by omega
      by_cases g3 : f ≤ 4611686018427387904
      · have g4 : e ≤ 4611686018427387904 := by omega
        rw [if_pos (And.intro g1 g3), if_pos (And.intro g2 g4), if_pos g1, if_pos g2]
        simp [h1, h2]
      · rw [if_neg (fun h : _ ∧ _ => g3 h.2), if_pos g1, if_pos g2]
        simp [h1]
    · rw [if_neg (fun h : _ ∧ _ => g1 h.1), if_neg g1]
      simp
  by_cases h1 : x < y
  · rw [if_pos h1]
    exact main (fin (less1 h1))
  · rw [if_neg h1]
    by_cases h2 : x = y
    · rw [if_pos h2]
      by_cases h3 : b ≤ d
      · rw [if_pos h3]
        exact main (fin (less2 h2 h3))
      · rw [if_neg h3]
    · rw [if_neg h2]
end Go.Proofs.Ytcdbmmlnmefoeaa.Pure
