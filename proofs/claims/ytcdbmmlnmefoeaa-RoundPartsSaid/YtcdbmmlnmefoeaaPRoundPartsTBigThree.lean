-- CUT by prune.py, a program of this session, to what the claim reaches (out of a text that the kit's printer, the session's programs or the session wrote)
import Derived.Test.YtcdbmmlnmefoeaaPRoundPartsTBigTwo
set_option maxRecDepth 10000
namespace Go.Proofs.Ytcdbmmlnmefoeaa.X
open Go.RowKit Go.Proofs.YtcdbmmlnmefoeaaW.PrintWords Go.Proofs.YtcdbmmlnmefoeaaW.PrintLast

theorem wrap64_small {x : Int} (h0 : -9223372036854775808 ≤ x) (h1 : x ≤ 9223372036854775807) : wrap64 x = x := IntWalk.wrap64_in x ⟨h0, h1⟩

theorem plus_step {a b out : List Int} {i k : Nat} {c : Int} (ha : Digs a) (hb : Digs b) (hc : c = 0 ∨ c = 1) (hi : (i : Int) < 4611686018427387904) (go : i < a.length ∨ i < b.length ∨ c > 0) (ho : out.length < 17592186044416) :
    demurrageref01_Plus.l0 (k + 2) out c (i : Int) a b = demurrageref01_Plus.l0 k (out ++ [(a.getD i 0 + b.getD i 0 + c) % 10000]) ((a.getD i 0 + b.getD i 0 + c) / 10000) ((i + 1 : Nat) : Int) a b := by
  have d1 := getD_digs ha i
  have d2 := getD_digs hb i
  have e1 : wrap64 (a.getD i 0 + b.getD i 0) = a.getD i 0 + b.getD i 0 := wrap64_small (by omega) (by omega)
  have e2 : wrap64 (a.getD i 0 + b.getD i 0 + c) = a.getD i 0 + b.getD i 0 + c := wrap64_small (by clear e1; omega) (by clear e1; omega)
  have e3 : Int.tmod (a.getD i 0 + b.getD i 0 + c) 10000 = (a.getD i 0 + b.getD i 0 + c) % 10000 := Int.tmod_eq_emod_of_nonneg (by clear e1 e2; omega)
  have e4 : Int.tdiv (a.getD i 0 + b.getD i 0 + c) 10000 = (a.getD i 0 + b.getD i 0 + c) / 10000 := Int.tdiv_eq_ediv_of_nonneg (by clear e1 e2; omega)
  have e5 : wrap64 ((a.getD i 0 + b.getD i 0 + c) / 10000) = (a.getD i 0 + b.getD i 0 + c) / 10000 := wrap64_small (by clear e1 e2 e3 e4; omega) (by clear e1 e2 e3 e4; omega)
  have e6 : wrap64 ((i : Int) + 1) = ((i + 1 : Nat) : Int) := by
    rw [wrap64_small (by clear e1 e2 e3 e4 e5; omega) (by clear e1 e2 e3 e4 e5; omega)]; clear e1 e2 e3 e4 e5; omega
  have body : demurrageref01_Plus.j1 (k + 1) out c (i : Int) true a b = demurrageref01_Plus.l0 k (out ++ [(a.getD i 0 + b.getD i 0 + c) % 10000]) ((a.getD i 0 + b.getD i 0 + c) / 10000) ((i + 1 : Nat) : Int) a b := by
    rw [demurrageref01_Plus.j1, if_pos rfl, part_eq, Option.bind_some, part_eq, Option.bind_some, if_pos ho, e1, e2, e3, e4, e5, e6]
  clear e1 e2 e3 e4 e5 e6
  rw [demurrageref01_Plus.l0]
  by_cases h1 : (i : Int) < (a.length : Int)
  · rw [if_pos h1, body]
  · rw [if_neg h1]
    by_cases h2 : (i : Int) < (b.length : Int)
    · rw [if_pos h2, body]
    · rw [if_neg h2, show decide (c > 0) = true from decide_eq_true (by clear body; omega), body]

theorem plus_stop {a b out : List Int} {i k : Nat} (h1 : a.length ≤ i) (h2 : b.length ≤ i) : demurrageref01_Plus.l0 (k + 2) out 0 (i : Int) a b = some out := by
  rw [demurrageref01_Plus.l0, if_neg (by omega), if_neg (by omega), show decide ((0 : Int) > 0) = false from rfl, demurrageref01_Plus.j1, if_neg (by decide)]

theorem plus_loop {a b : List Int} (ha : Digs a) (hb : Digs b) : ∀ (m i : Nat) (c : Int), a.length ≤ i + m → b.length ≤ i + m → (c = 0 ∨ c = 1) → i + m < 4611686018427387900 →
    ∃ s, (∀ out k, 2 * m + 4 ≤ k → out.length + m + 1 < 17592186044416 → demurrageref01_Plus.l0 k out c (i : Int) a b = some (out ++ s)) ∧ Digs s ∧ bv s = hv a i + hv b i + c ∧ s.length ≤ m + 1 := by
  intro m
  induction m with
  | zero =>
    intro i c h1 h2 hc hi
    have z1 := hv_end (l := a) (i := i) (by omega)
    have z2 := hv_end (l := b) (i := i) (by omega)
    have y1 := hv_step a i
    have y2 := hv_step b i
    have z3 := hv_end (l := a) (i := i + 1) (by omega)
    have z4 := hv_end (l := b) (i := i + 1) (by omega)
    rcases hc with rfl | rfl
    · refine ⟨[], ?_, digs_nil, by rw [z1, z2]; rfl, by simp⟩
      intro out k hk _
      obtain ⟨k, rfl⟩ : ∃ j, k = j + 2 := ⟨k - 2, by omega⟩
      rw [plus_stop (by omega) (by omega), List.append_nil]
    · refine ⟨[1], ?_, ?_, by rw [z1, z2]; rfl, by simp⟩
      · intro out k hk ho
        obtain ⟨k, rfl⟩ : ∃ j, k = j + 2 + 2 := ⟨k - 4, by omega⟩
        have e : a.getD i 0 + b.getD i 0 + 1 = 1 := by omega
        rw [plus_step ha hb (Or.inr rfl) (by omega) (Or.inr (Or.inr (by omega))) (by omega), e]
        exact plus_stop (by omega) (by omega)
      · intro d hd
        simp at hd
        omega
  | succ m ih =>
    intro i c h1 h2 hc hi
    by_cases go : i < a.length ∨ i < b.length
    · have d1 := getD_digs ha i
      have d2 := getD_digs hb i
      have y1 := hv_step a i
      have y2 := hv_step b i
      obtain ⟨s, e, ds, v, l⟩ := ih (i + 1) ((a.getD i 0 + b.getD i 0 + c) / 10000) (by omega) (by omega) (by omega) (by omega)
      refine ⟨(a.getD i 0 + b.getD i 0 + c) % 10000 :: s, ?_, digs_cons.mpr ⟨by omega, ds⟩, by rw [bv, v]; omega, by simp; omega⟩
      intro out k hk ho
      obtain ⟨k, rfl⟩ : ∃ j, k = j + 2 := ⟨k - 2, by omega⟩
      rw [plus_step ha hb hc (by omega) (by omega) (by omega), e _ k (by omega) (by simp; omega)]
      simp
    · obtain ⟨s, e, ds, v, l⟩ : ∃ s, (∀ out k, 2 * m + 4 ≤ k → out.length + m + 1 < 17592186044416 → demurrageref01_Plus.l0 k out c (i : Int) a b = some (out ++ s)) ∧ Digs s ∧ bv s = hv a i + hv b i + c ∧ s.length ≤ m + 1 := ih i c (by omega) (by omega) hc (by omega)
      exact ⟨s, fun out k hk ho => e out k (by omega) (by omega), ds, v, by omega⟩

theorem plus_at {a b : List Int} (ha : Digs a) (hb : Digs b) (la : a.length < 1000000) (lb : b.length < 1000000) : ∃ s, At (fun k => demurrageref01_Plus.f k a b) s ∧ Digs s ∧ bv s = bv a + bv b ∧ s.length ≤ a.length + b.length + 1 := by
  obtain ⟨s, e, ds, v, l⟩ := plus_loop ha hb (a.length + b.length) 0 0 (by omega) (by omega) (Or.inl rfl) (by omega)
  refine ⟨s, ⟨2 * (a.length + b.length) + 4, fun k hk => ?_⟩, ds, ?_, l⟩
  · have := e [] k hk (by simp; omega)
    rw [List.nil_append] at this
    exact this
  · rw [v, hv_zero, hv_zero]
    omega
end Go.Proofs.Ytcdbmmlnmefoeaa.X
