-- CUT by prune.py, a program of this session, to what the claim reaches (out of a text that the kit's printer, the session's programs or the session wrote)
import Derived.Test.YtcdbmmlnmefoeaaPRoundPartsXRound
import Derived.Test.YtcdbmmlnmefoeaaPRoundPartsXSThree
import Derived.Test.YtcdbmmlnmefoeaaPRoundPartsTWide
namespace Go.Proofs.Ytcdbmmlnmefoeaa.X
open Go.RowKit Go.Proofs.YtcdbmmlnmefoeaaW.PrintWords Go.Proofs.YtcdbmmlnmefoeaaW.PrintLast

theorem shown_three : demurragelaw03_shown.f 5 = some true := by kernel_rfl

theorem rtold_eq {h l : Int} (a1 : U64 h) (a2 : U64 l) : round_told.f h l = some (if wv h l ≤ 4611686018427387904 then (wv h l, 0) else (0, 6)) := by
  unfold round_told.f
  rw [of_eq]
  simp only [Option.bind_some]
  rw [wcmp_eq a1 a2 (by decide) (by decide)]
  have e : wv 0 4611686018427387904 = 4611686018427387904 := by unfold wv; omega
  rw [e]
  simp only [Option.bind_some]
  by_cases h1 : wv h l ≤ 4611686018427387904
  · have e2 : wv h l = l := by
      obtain ⟨p1, p2⟩ := a1
      obtain ⟨p3, p4⟩ := a2
      unfold wv at h1 ⊢
      omega
    rw [if_pos h1, if_neg (by split; · omega
                              · split <;> omega), IntWalk.wrap64_in l (by have := a2.1; omega), e2]
  · rw [if_neg h1, if_neg (show ¬ wv h l < 4611686018427387904 by omega), if_neg (show ¬ wv h l = 4611686018427387904 by omega), if_pos (by omega)]

/-- Is the whole number above the nearer one (of x / m)? -/
def nearer (x m : Int) : Bool := decide (x % m > m - x % m) || (decide (x % m = m - x % m) && decide (x / m % 2 = 1))
/-- The quotient, rounded to the next whole number, a half to the even one. -/
def ev (x m : Int) : Int := if nearer x m then x / m + 1 else x / m

theorem up_eq {r m : Int} (odd : Bool) (h0 : 0 ≤ r) (h1 : r < m) (hm : U64 m) (k : Nat) : round_up.f (k + 1) r m odd = some (decide (r > m - r) || (decide (r = m - r) && odd)) := by
  unfold round_up.f
  rw [IntWalk.u64_in (m - r) (by have := hm.2; omega)]
  by_cases h2 : r = m - r
  · rw [if_pos h2, round_up.j0]
    cases odd with
    | true => simp [← h2]
    | false => simp [← h2]
  · rw [if_neg h2, round_up.j0]
    by_cases h3 : r > m - r
    · simp [h3]
    · simp [h2, h3]

theorem even_eq {h l d : Int} (a1 : U64 h) (a2 : U64 l) (b : U64 d) (hd : d ≠ 0) (k : Nat) :
    round_Even.f (k + 1) h l d = some (if wv h l / d ≤ 4611686018427387904 ∧ ev (wv h l) d ≤ 4611686018427387904 then (ev (wv h l) d, 0) else (0, 6)) := by
  have lx := wv_lt a1 a2
  have d1 : 0 ≤ wv h l / d := Int.ediv_nonneg lx.1 b.1
  have d2 : wv h l / d ≤ wv h l := Int.ediv_le_self _ lx.1
  have r0 := Int.emod_nonneg (wv h l) hd
  have r1 := Int.emod_lt_of_pos (wv h l) (show 0 < d by have := b.1; omega)
  obtain ⟨p1, p2, p3⟩ := wv_parts d1 (by omega)
  unfold round_Even.f
  rw [div_eq a1 a2 b hd]
  simp only [Option.bind_some, if_true]
  rw [rtold_eq p1 p2, p3]
  simp only [Option.bind_some]
  by_cases h1 : wv h l / d ≤ 4611686018427387904
  · simp only [if_pos h1, if_true]
    have t1 : Int.tmod (wv h l / d) 2 = wv h l / d % 2 := Int.tmod_eq_emod_of_nonneg d1
    rw [up_eq _ r0 r1 b, t1]
    simp only [Option.bind_some]
    have e1 : (decide (wv h l % d > d - wv h l % d) || (decide (wv h l % d = d - wv h l % d) && (wv h l / d % 2 == 1))) = nearer (wv h l) d := by
      unfold nearer
      congr 2
    rw [e1, round_Even.j0]
    by_cases h2 : nearer (wv h l) d = true
    · rw [if_pos h2, IntWalk.u64_in (wv h l / d) (by omega), IntWalk.u64_in (wv h l / d + 1) (by omega), of_eq]
      simp only [Option.bind_some]
      have e2 : wv 0 (wv h l / d + 1) = wv h l / d + 1 := by unfold wv; omega
      rw [rtold_eq (by decide) ⟨by omega, by omega⟩, e2]
      have e3 : ev (wv h l) d = wv h l / d + 1 := by unfold ev; rw [if_pos h2]
      rw [e3]
      simp only [Option.bind_some]
      by_cases h3 : wv h l / d + 1 ≤ 4611686018427387904
      · rw [if_pos h3, if_pos ⟨h1, h3⟩]
      · rw [if_neg h3, if_neg (fun h => h3 h.2)]
    · have e3 : ev (wv h l) d = wv h l / d := by unfold ev; rw [if_neg h2]
      rw [if_neg h2, e3, if_pos ⟨h1, h1⟩]
  · simp only [if_neg h1]
    rw [if_neg (show ¬ (6 : Int) = 0 by omega), round_Even.j0, if_neg (show ¬ false = true by decide), if_neg (fun h : _ ∧ _ => h1 h.1)]

theorem ev_near {x m : Int} (hm : 0 < m) : 2 * (ev x m * m) ≤ 2 * x + m ∧ 2 * x ≤ 2 * (ev x m * m) + m ∧ x / m ≤ ev x m ∧ ev x m ≤ x / m + 1 := by
  have r0 := Int.emod_nonneg x (show m ≠ 0 by omega)
  have r1 := Int.emod_lt_of_pos x hm
  have e := Int.mul_ediv_add_emod x m
  rw [Int.mul_comm] at e
  unfold ev nearer
  split
  · rename_i h
    rw [Int.add_mul, Int.one_mul]
    simp at h
    omega
  · rename_i h
    simp at h
    omega
end Go.Proofs.Ytcdbmmlnmefoeaa.X
