-- CUT by prune.py, a program of this session, to what the claim reaches (out of a text that the kit's printer, the session's programs or the session wrote)
import Derived.Test.YtcdbmmlnmefoeaaPRoundPartsTBigEight
import Derived.Test.YtcdbmmlnmefoeaaPRoundPartsXQuot
set_option maxRecDepth 10000
namespace Go.Proofs.Ytcdbmmlnmefoeaa.X
open Go.RowKit Go.Proofs.YtcdbmmlnmefoeaaW.PrintWords Go.Proofs.YtcdbmmlnmefoeaaW.PrintLast

theorem At.succ {α : Type} {f g : Nat → Option α} {r : α} (h : ∀ k, f (k + 1) = g k) (a : At g r) : At f r := by
  obtain ⟨K, a⟩ := a
  refine ⟨K + 1, fun k hk => ?_⟩
  obtain ⟨k, rfl⟩ : ∃ j, k = j + 1 := ⟨k - 1, by omega⟩
  rw [h]
  exact a k (by omega)

theorem from_at {x : Int} (h : 0 ≤ x ∧ x < 9223372036854775808) : ∃ l, At (fun k => demurrageref01_From.f k x) l ∧ Digs l ∧ bv l = x ∧ Norm l ∧ l.length ≤ 5 := by
  obtain ⟨l, h1, h2, h3, h4, h5⟩ := fromU_at (x := x) ⟨h.1, by omega⟩
  refine ⟨l, ?_, h2, h3, h4, h5⟩
  unfold demurrageref01_From.f
  rw [IntWalk.u64_in x ⟨h.1, by omega⟩]
  exact At.done h1

/-- One digit of a quotient, by halving. -/
theorem quot_digit {a b r out : List Int} {p : Nat} (hb : Digs b) (hr : Digs r) (lb : b.length < 500000) (lr : r.length < 500000) (hp : p < out.length) (hl : out.length < 500000) :
    ∀ (n : Nat) (lo hi : Int), 0 ≤ lo → lo < hi → hi ≤ 10000 → hi - lo ≤ n → bv b * lo ≤ bv r → bv r < bv b * hi →
    ∃ d r', 0 ≤ d ∧ d < 10000 ∧ Digs r' ∧ Norm r' ∧ bv r' = bv r - bv b * d ∧ bv r' < bv b ∧ r'.length ≤ r.length ∧
      ∀ R, At (fun k => demurrageref01_Quot.l0 k (out.set p d) ((p : Int) - 1) a b r') R → At (fun k => demurrageref01_Quot.l1 k out (p : Int) lo hi a b r) R := by
  intro n
  induction n with
  | zero => intro lo hi _ h1 _ h2; omega
  | succ n ih =>
    intro lo hi h0 h1 h2 hn v1 v2
    by_cases hd : hi - lo > 1
    · obtain ⟨m, m1, m2, m3, m4, m5⟩ := from_at (x := (lo + hi) / 2) ⟨by omega, by omega⟩
      obtain ⟨q, q1, q2, q3, q4, q5⟩ := prod_at hb m2 (by omega) (by omega)
      have c := cmp_at q2 hr (by omega) (by omega)
      have w1 : wrap64 (hi - lo) = hi - lo := wrap64_small (by omega) (by omega)
      have w2 : wrap64 (lo + hi) = lo + hi := wrap64_small (by clear w1; omega) (by clear w1; omega)
      have w3 : Int.tdiv (lo + hi) 2 = (lo + hi) / 2 := Int.tdiv_eq_ediv_of_nonneg (by clear w1 w2; omega)
      have w4 : wrap64 ((lo + hi) / 2) = (lo + hi) / 2 := wrap64_small (by clear w1 w2 w3; omega) (by clear w1 w2 w3; omega)
      have step : ∀ k, demurrageref01_Quot.l1 (k + 1) out (p : Int) lo hi a b r = (demurrageref01_From.f k ((lo + hi) / 2)).bind fun t => (demurrageref01_Prod.f k b t).bind fun u => (demurrageref01_Cmp.f k u r).bind fun v =>
          if v ≤ 0 then demurrageref01_Quot.l1 k out (p : Int) ((lo + hi) / 2) hi a b r else demurrageref01_Quot.l1 k out (p : Int) lo ((lo + hi) / 2) a b r := by
        intro k
        rw [demurrageref01_Quot.l1, w1, w2, w3, w4, if_pos hd]
      clear w1 w2 w3 w4
      by_cases hc : bv b * ((lo + hi) / 2) ≤ bv r
      · obtain ⟨d, r', g1, g2, g3, g4, g5, g6, g7, g8⟩ := ih ((lo + hi) / 2) hi (by omega) (by omega) h2 (by omega) hc v2
        refine ⟨d, r', g1, g2, g3, g4, g5, g6, g7, fun R hR => ?_⟩
        refine At.succ step (At.bind m1 (At.bind q1 (At.bind c ?_)))
        have : bsg (bv q) (bv r) ≤ 0 := by
          rw [q3, m3]
          unfold bsg
          repeat' split
          all_goals omega
        obtain ⟨K, hK⟩ := g8 R hR
        exact ⟨K, fun k hk => (if_pos this).trans (hK k hk)⟩
      · obtain ⟨d, r', g1, g2, g3, g4, g5, g6, g7, g8⟩ := ih lo ((lo + hi) / 2) h0 (by omega) (by omega) (by omega) v1 (by omega)
        refine ⟨d, r', g1, g2, g3, g4, g5, g6, g7, fun R hR => ?_⟩
        refine At.succ step (At.bind m1 (At.bind q1 (At.bind c ?_)))
        have : ¬ bsg (bv q) (bv r) ≤ 0 := by
          rw [q3, m3]
          unfold bsg
          repeat' split
          all_goals omega
        obtain ⟨K, hK⟩ := g8 R hR
        exact ⟨K, fun k hk => (if_neg this).trans (hK k hk)⟩
    · obtain ⟨m, m1, m2, m3, m4, m5⟩ := from_at (x := lo) ⟨by omega, by omega⟩
      obtain ⟨q, q1, q2, q3, q4, q5⟩ := prod_at hb m2 (by omega) (by omega)
      obtain ⟨s, s1, s2, s3, s4, s5⟩ := less_at hr q2 (by omega) (by rw [q3, m3]; exact v1)
      have e : hi = lo + 1 := by omega
      subst e
      have e2 : bv b * (lo + 1) = bv b * lo + bv b := by rw [Int.mul_add, Int.mul_one]
      refine ⟨lo, s, h0, by omega, s2, s4, by rw [s3, q3, m3], by rw [s3, q3, m3]; omega, s5, fun R hR => ?_⟩
      have w1 : wrap64 (lo + 1 - lo) = lo + 1 - lo := wrap64_small (by omega) (by omega)
      have w2 : wrap64 ((p : Int) - 1) = (p : Int) - 1 := wrap64_small (by clear w1; omega) (by clear w1; omega)
      have c2 : (p : Int) < (out.length : Int) := Int.ofNat_lt.mpr hp
      have step : ∀ k, demurrageref01_Quot.l1 (k + 1) out (p : Int) lo (lo + 1) a b r = (demurrageref01_From.f k lo).bind fun t => (demurrageref01_Prod.f k b t).bind fun u => (demurrageref01_Less.f k r u).bind fun v =>
          demurrageref01_Quot.l0 k (out.set p lo) ((p : Int) - 1) a b v := by
        intro k
        rw [demurrageref01_Quot.l1, w1, w2, if_neg hd, if_pos (Int.natCast_nonneg p), if_pos c2, Int.toNat_natCast]
      clear w1 w2
      exact At.succ step (At.bind m1 (At.bind q1 (At.bind s1 hR)))
end Go.Proofs.Ytcdbmmlnmefoeaa.X
