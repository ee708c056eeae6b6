-- CUT by prune.py, a program of this session, to what the claim reaches (out of a text that the kit's printer, the session's programs or the session wrote)
import Derived.Test.YtcdbmmlnmefoeaaPRoundPartsTBig
set_option maxRecDepth 10000
namespace Go.Proofs.Ytcdbmmlnmefoeaa.X
open Go.RowKit Go.Proofs.YtcdbmmlnmefoeaaW.PrintWords Go.Proofs.YtcdbmmlnmefoeaaW.PrintLast

theorem getD_digs {l : List Int} (h : Digs l) (i : Nat) : 0 ≤ l.getD i 0 ∧ l.getD i 0 < 10000 := by
  by_cases hi : i < l.length
  · rw [List.getD_eq_getElem?_getD, List.getElem?_eq_getElem hi]
    exact h _ (List.getElem_mem hi)
  · rw [List.getD_eq_getElem?_getD, List.getElem?_eq_none (by omega)]
    simp
/-- The number of what lies from digit i on. -/
def hv (l : List Int) (i : Nat) : Int := bv (l.drop i)
theorem hv_step : ∀ (l : List Int) (i : Nat), hv l i = l.getD i 0 + 10000 * hv l (i + 1)
  | [], i => by simp [hv, bv]
  | d :: l, 0 => by simp [hv, bv]
  | d :: l, i + 1 => by
    have := hv_step l i
    simpa [hv] using this
theorem hv_zero (l : List Int) : hv l 0 = bv l := by simp [hv]
theorem hv_end {l : List Int} {i : Nat} (h : l.length ≤ i) : hv l i = 0 := by
  unfold hv
  rw [List.drop_eq_nil_of_le h]
  rfl
/-- Who is less from a digit on is less. -/
theorem hv_less {a b : List Int} (ha : Digs a) (hb : Digs b) : ∀ (i : Nat), hv a i < hv b i → hv a 0 < hv b 0
  | 0, h => h
  | i + 1, h => by
    apply hv_less ha hb i
    rw [hv_step a i, hv_step b i]
    have := getD_digs ha i
    have := getD_digs hb i
    omega

theorem part_eq {l : List Int} {i : Nat} : demurrageref01_part.f l (i : Int) = some (l.getD i 0) := by
  unfold demurrageref01_part.f rd
  by_cases h : (i : Int) < (l.length : Int)
  · rw [if_pos h, if_pos (Int.natCast_nonneg i), Int.toNat_natCast]
  · rw [if_neg h, List.getD_eq_getElem?_getD, List.getElem?_eq_none (by omega)]
    rfl

/-- How two numbers lie to each other. -/
def bsg (x y : Int) : Int := if x < y then -1 else if x = y then 0 else 1

theorem cmp_loop {a b : List Int} (ha : Digs a) (hb : Digs b) : ∀ (i k : Nat), i + 1 ≤ k → (i : Int) < 9223372036854775807 → hv a i = hv b i → demurrageref01_Cmp.l0 k ((i : Int) - 1) a b = some (bsg (bv a) (bv b)) := by
  intro i
  induction i with
  | zero =>
    intro k hk _ h
    cases k with
    | zero => omega
    | succ k =>
      rw [demurrageref01_Cmp.l0, if_neg (by omega)]
      rw [hv_zero, hv_zero] at h
      unfold bsg
      rw [h, if_neg (by omega), if_pos rfl]
  | succ i ih =>
    intro k hk hm h
    cases k with
    | zero => omega
    | succ k =>
      have e : ((i + 1 : Nat) : Int) - 1 = (i : Int) := by omega
      rw [e, demurrageref01_Cmp.l0, if_pos (by omega), part_eq, part_eq]
      rw [Option.bind_some, Option.bind_some]
      have s1 := hv_step a i
      have s2 := hv_step b i
      by_cases h1 : a.getD i 0 < b.getD i 0
      · rw [if_pos h1]
        have := hv_less ha hb i (by omega)
        rw [hv_zero, hv_zero] at this
        unfold bsg
        rw [if_pos this]
      · rw [if_neg h1]
        by_cases h2 : a.getD i 0 > b.getD i 0
        · rw [if_pos h2]
          have := hv_less hb ha i (by omega)
          rw [hv_zero, hv_zero] at this
          unfold bsg
          rw [if_neg (by omega), if_neg (by omega)]
        · rw [if_neg h2, IntWalk.wrap64_in ((i : Int) - 1) ⟨by omega, by omega⟩]
          exact ih k (by omega) (by omega) (by omega)

theorem cmp_at {a b : List Int} (ha : Digs a) (hb : Digs b) (la : a.length < 9223372036854775807) (lb : b.length < 9223372036854775807) : At (fun k => demurrageref01_Cmp.f k a b) (bsg (bv a) (bv b)) := by
  refine ⟨a.length + b.length + 3, fun k hk => ?_⟩
  show demurrageref01_Cmp.f k a b = _
  unfold demurrageref01_Cmp.f
  cases k with
  | zero => omega
  | succ k =>
    by_cases h : (b.length : Int) > (a.length : Int)
    · rw [if_pos h, demurrageref01_Cmp.j0, IntWalk.wrap64_in ((b.length : Int) - 1) ⟨by omega, by omega⟩]
      exact cmp_loop ha hb b.length k (by omega) (by omega) (by rw [hv_end (by omega), hv_end (by omega)])
    · rw [if_neg h, demurrageref01_Cmp.j0, IntWalk.wrap64_in ((a.length : Int) - 1) ⟨by omega, by omega⟩]
      exact cmp_loop ha hb a.length k (by omega) (by omega) (by rw [hv_end (by omega), hv_end (by omega)])
end Go.Proofs.Ytcdbmmlnmefoeaa.X
