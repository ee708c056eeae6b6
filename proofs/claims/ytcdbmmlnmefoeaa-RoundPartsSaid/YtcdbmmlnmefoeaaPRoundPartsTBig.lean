-- CUT by prune.py, a program of this session, to what the claim reaches (out of a text that the kit's printer, the session's programs or the session wrote)
import Derived.Test.YtcdbmmlnmefoeaaPRoundPartsXBig
import Derived.Test.YtcdbmmlnmefoeaaPRoundPartsTWide
set_option maxRecDepth 10000
namespace Go.Proofs.Ytcdbmmlnmefoeaa.X
open Go.RowKit Go.Proofs.YtcdbmmlnmefoeaaW.PrintWords Go.Proofs.YtcdbmmlnmefoeaaW.PrintLast

/-- With rounds enough the answer is this one. -/
def At {α : Type} (f : Nat → Option α) (r : α) : Prop := ∃ K, ∀ k, K ≤ k → f k = some r
theorem At.bind {α β : Type} {f : Nat → Option α} {g : Nat → α → Option β} {a : α} {b : β} (h : At f a) (h2 : At (fun k => g k a) b) : At (fun k => (f k).bind (g k)) b := by
  obtain ⟨K, h⟩ := h
  obtain ⟨L, h2⟩ := h2
  refine ⟨max K L, fun k hk => ?_⟩
  show (f k).bind (g k) = some b
  rw [h k (by omega), Option.bind_some]
  exact h2 k (by omega)

/-- The number of a list of digits. -/
def bv : List Int → Int
  | [] => 0
  | d :: l => d + 10000 * bv l
/-- Digits, all of them, and none of the highest is 0. -/
def Digs (l : List Int) : Prop := ∀ d ∈ l, 0 ≤ d ∧ d < 10000
def Norm (l : List Int) : Prop := ∀ l' d, l = l' ++ [d] → d ≠ 0

theorem digs_cons {d : Int} {l : List Int} : Digs (d :: l) ↔ (0 ≤ d ∧ d < 10000) ∧ Digs l := by
  unfold Digs
  simp
theorem digs_nil : Digs [] := by
  intro d hd
  cases hd
theorem norm_nil : Norm [] := by
  intro l' d h
  simp at h
theorem bv_nonneg : ∀ {l : List Int}, Digs l → 0 ≤ bv l
  | [], _ => by simp [bv]
  | d :: l, h => by
    obtain ⟨h1, h2⟩ := digs_cons.mp h
    have := bv_nonneg h2
    unfold bv
    omega
theorem bv_append : ∀ (l m : List Int), bv (l ++ m) = bv l + 10000 ^ l.length * bv m
  | [], m => by simp [bv]
  | d :: l, m => by
    rw [List.cons_append, bv, bv_append l m, bv, List.length_cons, Int.pow_succ, Int.mul_add, Int.mul_comm (10000 ^ l.length) 10000, Int.mul_assoc]
    omega
theorem norm_cons {d : Int} {l : List Int} (h : Norm l) (hd : l = [] → d ≠ 0) : Norm (d :: l) := by
  intro l' e he
  cases l' with
  | nil =>
    simp at he
    obtain ⟨rfl, rfl⟩ := he
    exact hd rfl
  | cons x l' =>
    simp at he
    exact h l' e he.2

theorem fromU_loop : ∀ (m : Nat) (x : Int), 0 ≤ x → x ≤ 18446744073709551615 → x < 10000 ^ m →
    ∃ l, (∀ acc k, m + 1 ≤ k → acc.length + m < 17592186044416 → demurrageref01_FromU.l0 k x acc = some (acc ++ l)) ∧ Digs l ∧ bv l = x ∧ Norm l ∧ l.length ≤ m := by
  intro m
  induction m with
  | zero =>
    intro x h0 _ h1
    have : x = 0 := by simp at h1; omega
    subst this
    refine ⟨[], ?_, digs_nil, rfl, norm_nil, by simp⟩
    intro acc k hk _
    cases k with
    | zero => omega
    | succ k => rw [demurrageref01_FromU.l0, if_neg (by decide), List.append_nil]
  | succ m ih =>
    intro x h0 h2 h1
    by_cases hx : x = 0
    · subst hx
      refine ⟨[], ?_, digs_nil, rfl, norm_nil, by simp⟩
      intro acc k hk _
      cases k with
      | zero => omega
      | succ k => rw [demurrageref01_FromU.l0, if_neg (by decide), List.append_nil]
    · have p1 : x / 10000 < 10000 ^ m := by
        rw [Int.pow_succ] at h1
        exact Int.ediv_lt_of_lt_mul (by omega) h1
      obtain ⟨l, e, d, v, n, c⟩ := ih (x / 10000) (by omega) (by omega) p1
      refine ⟨x % 10000 :: l, ?_, digs_cons.mpr ⟨by omega, d⟩, ?_, norm_cons n ?_, by simp; omega⟩
      · intro acc k hk hl
        cases k with
        | zero => omega
        | succ k =>
          have w1 : IntKind.u64.wrap (Int.tdiv x 10000) = x / 10000 := IntWalk.u64_quo x 10000 ⟨h0, h2, by omega⟩
          have w2 : wrap64 (Int.tmod x 10000) = x % 10000 := by
            rw [Int.tmod_eq_emod_of_nonneg h0]
            exact IntWalk.wrap64_in (x % 10000) ⟨by omega, by omega⟩
          rw [demurrageref01_FromU.l0, if_pos (show x > 0 by clear w1 w2; omega), if_pos (show acc.length < 17592186044416 by clear w1 w2; omega), w1, w2]
          clear w1 w2
          rw [e (acc ++ [x % 10000]) k (by omega) (by simp; omega)]
          simp
      · rw [bv, v]; omega
      · intro hn
        rw [hn] at v
        simp [bv] at v
        omega

theorem fromU_at {x : Int} (h : U64 x) : ∃ l, At (fun k => demurrageref01_FromU.f k x) l ∧ Digs l ∧ bv l = x ∧ Norm l ∧ l.length ≤ 5 := by
  obtain ⟨h0, h1⟩ := h
  have hp : x < 10000 ^ 5 := by
    have : (10000 : Int) ^ 5 = 100000000000000000000 := by decide
    omega
  obtain ⟨l, e, d, v, n, c⟩ := fromU_loop 5 x h0 (by omega) hp
  refine ⟨l, ⟨6, fun k hk => ?_⟩, d, v, n, c⟩
  show demurrageref01_FromU.l0 k x [] = some l
  rw [e [] k hk (by simp), List.nil_append]
end Go.Proofs.Ytcdbmmlnmefoeaa.X
