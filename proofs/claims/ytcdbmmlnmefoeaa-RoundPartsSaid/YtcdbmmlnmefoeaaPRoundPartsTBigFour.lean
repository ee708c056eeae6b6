-- CUT by prune.py, a program of this session, to what the claim reaches (out of a text that the kit's printer, the session's programs or the session wrote)
import Derived.Test.YtcdbmmlnmefoeaaPRoundPartsTBigThree
import Derived.Test.YtcdbmmlnmefoeaaPRoundPartsHTrim
set_option maxRecDepth 10000
namespace Go.Proofs.Ytcdbmmlnmefoeaa.X
open Go.RowKit Go.Proofs.YtcdbmmlnmefoeaaW.PrintWords Go.Proofs.YtcdbmmlnmefoeaaW.PrintLast

theorem rd_nat (l : List Int) (n : Nat) : rd l (n : Int) = l.getD n 0 := by
  unfold rd
  rw [Int.toNat_natCast]
theorem take_getD {l : List Int} {n : Nat} (h : n < l.length) : l.take (n + 1) = l.take n ++ [l.getD n 0] := by
  rw [List.take_add_one, List.getD_eq_getElem?_getD, List.getElem?_eq_getElem h]
  rfl
theorem digs_take {l : List Int} (h : Digs l) (n : Nat) : Digs (l.take n) := fun d hd => h d (List.mem_of_mem_take hd)
theorem digs_drop {l : List Int} (h : Digs l) (n : Nat) : Digs (l.drop n) := fun d hd => h d (List.mem_of_mem_drop hd)
theorem hv_nonneg {l : List Int} (h : Digs l) (i : Nat) : 0 ≤ hv l i := bv_nonneg (digs_drop h i)

theorem trim_val (l : List Int) : ∀ n, n ≤ l.length → bv (l.take (trimN l n)) = bv (l.take n) ∧ Norm (l.take (trimN l n))
  | 0, _ => by
    refine ⟨rfl, ?_⟩
    simp [trimN]
    exact norm_nil
  | n + 1, h => by
    unfold trimN
    rw [rd_nat]
    by_cases h0 : l.getD n 0 = 0
    · rw [if_pos h0]
      obtain ⟨h1, h2⟩ := trim_val l n (by omega)
      refine ⟨?_, h2⟩
      rw [h1, take_getD (by omega), bv_append, h0]
      simp [bv]
    · rw [if_neg h0]
      refine ⟨rfl, ?_⟩
      intro l' d e
      rw [take_getD (by omega)] at e
      have := congrArg List.getLast? e
      simp at this
      rw [← this]
      simpa using h0

theorem trim_eq {l : List Int} (hd : Digs l) (hl : l.length < 17592186044416) : ∃ t, demurrageref01_trim.f l = some t ∧ Digs t ∧ bv t = bv l ∧ Norm t ∧ t.length ≤ l.length := by
  obtain ⟨h1, h2⟩ := trim_val l l.length (Nat.le_refl _)
  refine ⟨l.take (trimN l l.length), ?_, digs_take hd _, ?_, h2, ?_⟩
  · unfold demurrageref01_trim.f
    rw [if_pos hl]
  · rw [h1, List.take_length]
  · rw [List.length_take]
    omega

theorem less_loop {a b : List Int} (ha : Digs a) (hb : Digs b) : ∀ (m i : Nat) (c : Int), a.length = i + m → (c = 0 ∨ c = 1) → hv b i + c ≤ hv a i → i + m < 4611686018427387900 →
    ∃ s, (∀ out k, m + 1 ≤ k → out.length + m < 17592186044416 → demurrageref01_Less.l0 k out c (i : Int) a b = (demurrageref01_trim.f (out ++ s)).bind fun t => some t) ∧ Digs s ∧ bv s = hv a i - hv b i - c ∧ s.length = m := by
  intro m
  induction m with
  | zero =>
    intro i c h1 hc hle hi
    have z1 := hv_end (l := a) (i := i) (by omega)
    have z2 := hv_nonneg hb i
    refine ⟨[], ?_, digs_nil, by rw [bv]; omega, rfl⟩
    intro out k hk _
    obtain ⟨k, rfl⟩ : ∃ j, k = j + 1 := ⟨k - 1, by omega⟩
    rw [demurrageref01_Less.l0, if_neg (by omega), List.append_nil]
  | succ m ih =>
    intro i c h1 hc hle hi
    have d1 := getD_digs ha i
    have d2 := getD_digs hb i
    have y1 := hv_step a i
    have y2 := hv_step b i
    have w6 : wrap64 ((i : Int) + 1) = ((i + 1 : Nat) : Int) := wrap64_small (x := (i : Int) + 1) (by omega) (by omega)
    have w1 : wrap64 (a.getD i 0 - b.getD i 0) = a.getD i 0 - b.getD i 0 := wrap64_small (by clear w6; omega) (by clear w6; omega)
    have w2 : wrap64 (a.getD i 0 - b.getD i 0 - c) = a.getD i 0 - b.getD i 0 - c := wrap64_small (by clear w6 w1; omega) (by clear w6 w1; omega)
    have w3 : wrap64 (a.getD i 0 - b.getD i 0 - c + 10000) = a.getD i 0 - b.getD i 0 - c + 10000 := wrap64_small (by clear w6 w1 w2; omega) (by clear w6 w1 w2; omega)
    have step : ∀ out k, out.length < 17592186044416 → demurrageref01_Less.l0 (k + 1) out c (i : Int) a b =
        if a.getD i 0 - b.getD i 0 - c < 0 then demurrageref01_Less.l0 k (out ++ [a.getD i 0 - b.getD i 0 - c + 10000]) 1 ((i + 1 : Nat) : Int) a b else demurrageref01_Less.l0 k (out ++ [a.getD i 0 - b.getD i 0 - c]) 0 ((i + 1 : Nat) : Int) a b := by
      intro out k ho
      rw [demurrageref01_Less.l0, if_pos (show (i : Int) < (a.length : Int) by clear w1 w2 w3 w6; omega), part_eq, Option.bind_some, part_eq, Option.bind_some, w1, w2, w3, w6, if_pos ho, if_pos ho]
    clear w1 w2 w3 w6
    by_cases hx : a.getD i 0 - b.getD i 0 - c < 0
    · obtain ⟨s, e, ds, v, l⟩ := ih (i + 1) 1 (by omega) (Or.inr rfl) (by omega) (by omega)
      refine ⟨(a.getD i 0 - b.getD i 0 - c + 10000) :: s, ?_, digs_cons.mpr ⟨by omega, ds⟩, by rw [bv, v]; omega, by simp; omega⟩
      intro out k hk ho
      obtain ⟨k, rfl⟩ : ∃ j, k = j + 1 := ⟨k - 1, by omega⟩
      rw [step out k (by omega), if_pos hx, e _ k (by omega) (by simp; omega)]
      simp
    · obtain ⟨s, e, ds, v, l⟩ := ih (i + 1) 0 (by omega) (Or.inl rfl) (by omega) (by omega)
      refine ⟨(a.getD i 0 - b.getD i 0 - c) :: s, ?_, digs_cons.mpr ⟨by omega, ds⟩, by rw [bv, v]; omega, by simp; omega⟩
      intro out k hk ho
      obtain ⟨k, rfl⟩ : ∃ j, k = j + 1 := ⟨k - 1, by omega⟩
      rw [step out k (by omega), if_neg hx, e _ k (by omega) (by simp; omega)]
      simp

theorem less_at {a b : List Int} (ha : Digs a) (hb : Digs b) (la : a.length < 1000000) (h : bv b ≤ bv a) : ∃ s, At (fun k => demurrageref01_Less.f k a b) s ∧ Digs s ∧ bv s = bv a - bv b ∧ Norm s ∧ s.length ≤ a.length := by
  obtain ⟨s, e, ds, v, l⟩ := less_loop ha hb a.length 0 0 (by omega) (Or.inl rfl) (by rw [hv_zero, hv_zero]; omega) (by omega)
  obtain ⟨t, e2, dt, vt, nt, lt⟩ := trim_eq ds (by omega)
  refine ⟨t, ⟨a.length + 1, fun k hk => ?_⟩, dt, ?_, nt, by omega⟩
  · have := e [] k hk (by simp; omega)
    rw [List.nil_append, e2, Option.bind_some] at this
    exact this
  · rw [vt, v, hv_zero, hv_zero]
    omega
end Go.Proofs.Ytcdbmmlnmefoeaa.X
