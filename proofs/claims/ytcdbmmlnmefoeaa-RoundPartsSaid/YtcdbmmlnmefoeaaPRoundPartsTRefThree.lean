-- CUT by prune.py, a program of this session, to what the claim reaches (out of a text that the kit's printer, the session's programs or the session wrote)
import Derived.Test.YtcdbmmlnmefoeaaPRoundPartsTBigTen
import Derived.Test.YtcdbmmlnmefoeaaPRoundPartsTRound
import Derived.Test.YtcdbmmlnmefoeaaPRoundPartsXRefThree
import Derived.Test.YtcdbmmlnmefoeaaPRoundPartsX0
import Derived.Test.YtcdbmmlnmefoeaaPRoundPartsXBig
import Derived.Test.YtcdbmmlnmefoeaaPRoundPartsXQuot
set_option maxRecDepth 10000
namespace Go.Proofs.Ytcdbmmlnmefoeaa.X
open Go.RowKit Go.Proofs.YtcdbmmlnmefoeaaW.PrintWords Go.Proofs.YtcdbmmlnmefoeaaW.PrintLast

theorem hv_le {l : List Int} (h : Digs l) : ∀ i, hv l i ≤ bv l
  | 0 => by rw [hv_zero]; omega
  | i + 1 => by
    have s := hv_step l i
    have d := getD_digs h i
    have n := hv_nonneg h (i + 1)
    have := hv_le h i
    omega

theorem tell_loop {l : List Int} (h : Digs l) (ll : l.length < 500000) (hm : bv l ≤ 4611686018427387904) : ∀ (i k : Nat), i ≤ l.length → i + 1 ≤ k → demurrageref03_told.l0 k (hv l i) ((i : Int) - 1) l = some (bv l, 0) := by
  intro i
  induction i with
  | zero =>
    intro k _ hk
    obtain ⟨k, rfl⟩ : ∃ j, k = j + 1 := ⟨k - 1, by omega⟩
    rw [demurrageref03_told.l0, if_neg (by omega), hv_zero]
  | succ i ih =>
    intro k hi hk
    obtain ⟨k, rfl⟩ : ∃ j, k = j + 1 := ⟨k - 1, by omega⟩
    have s := hv_step l i
    have d := getD_digs h i
    have n := hv_nonneg h (i + 1)
    have le := hv_le h i
    have e : ((i + 1 : Nat) : Int) - 1 = (i : Int) := by omega
    have c : (i : Int) < (l.length : Int) := by omega
    have w1 : wrap64 (10000 * hv l (i + 1)) = 10000 * hv l (i + 1) := wrap64_small (by omega) (by omega)
    have w2 : wrap64 (10000 * hv l (i + 1) + l.getD i 0) = hv l i := by
      rw [wrap64_small (x := 10000 * hv l (i + 1) + l.getD i 0) (by clear w1; omega) (by clear w1; omega)]
      clear w1
      omega
    have w3 : wrap64 ((i : Int) - 1) = (i : Int) - 1 := wrap64_small (by clear w1 w2; omega) (by clear w1 w2; omega)
    rw [e, demurrageref03_told.l0, if_pos (Int.natCast_nonneg i), if_pos (Int.natCast_nonneg i), if_pos c, rd_nat, w1, w2, w3]
    clear w1 w2 w3
    exact ih k (by omega) (by omega)

theorem tell_at {l : List Int} (h : Digs l) (ll : l.length < 500000) : At (fun k => demurrageref03_told.f k l) (if bv l ≤ 4611686018427387904 then (bv l, 0) else (0, 6)) := by
  obtain ⟨m, m1, m2, m3, m4, m5⟩ := fromU_at (x := 4611686018427387904) ⟨by omega, by omega⟩
  have c := cmp_at h m2 (by omega) (by omega)
  rw [m3] at c
  unfold demurrageref03_told.f
  refine At.bind (g := fun k t => (demurrageref01_Cmp.f k l t).bind fun v => if v > 0 then some (0, 6) else demurrageref03_told.l0 k 0 (wrap64 ((l.length : Int) - 1)) l) m1
    (At.bind (g := fun k v => if v > 0 then some (0, 6) else demurrageref03_told.l0 k 0 (wrap64 ((l.length : Int) - 1)) l) c ⟨l.length + 1, fun k hk => ?_⟩)
  show (if bsg (bv l) 4611686018427387904 > 0 then some (0, 6) else demurrageref03_told.l0 k 0 (wrap64 ((l.length : Int) - 1)) l) = _
  have w : wrap64 ((l.length : Int) - 1) = (l.length : Int) - 1 := wrap64_small (by omega) (by omega)
  rw [w]
  clear w
  by_cases hm : bv l ≤ 4611686018427387904
  · have : ¬ bsg (bv l) 4611686018427387904 > 0 := by
      unfold bsg
      repeat' split
      all_goals omega
    rw [if_neg this, if_pos hm]
    have t := tell_loop h ll hm l.length k (Nat.le_refl _) hk
    rw [hv_end (Nat.le_refl _)] at t
    exact t
  · have : bsg (bv l) 4611686018427387904 > 0 := by
      unfold bsg
      rw [if_neg (by omega), if_neg (by omega)]
      omega
    rw [if_pos this, if_neg hm]

theorem bv_odd {l : List Int} (_ : Digs l) : bv l % 2 = l.getD 0 0 % 2 := by
  have := hv_step l 0
  rw [hv_zero] at this
  omega

theorem near_at {a b : List Int} (ha : Digs a) (hb : Digs b) (la : a.length < 100000) (lb : b.length < 100000) (hp : 0 < bv b) : ∃ s, At (fun k => demurrageref03_Near.f k a b) s ∧ Digs s ∧ bv s = ev (bv a) (bv b) ∧ s.length < 400000 := by
  obtain ⟨q, r, e1, e2, e3, e4, e5, e6, e7, e8, e9⟩ := quot_at ha hb (by omega) (by omega) hp
  obtain ⟨u, u1, u2, u3, u4⟩ := plus_at e5 e5 (by omega) (by omega)
  have c := cmp_at u2 hb (by omega) (by omega)
  obtain ⟨o, o1, o2, o3, o4, o5⟩ := from_at (x := 1) ⟨by omega, by omega⟩
  obtain ⟨v, v1, v2, v3, v4⟩ := plus_at e2 o2 (by omega) (by omega)
  have rn := bv_nonneg e5
  have j1 : ∀ x : Bool, At (fun k => demurrageref03_Near.j1 k x q) (if x then v else q) := by
    intro x
    cases x with
    | true =>
      refine At.succ (g := fun k => (demurrageref01_From.f k 1).bind fun t => (demurrageref01_Plus.f k q t).bind fun t => some t) (fun k => ?_)
        (At.bind (g := fun k t => (demurrageref01_Plus.f k q t).bind fun t => some t) o1 (At.done v1))
      rw [demurrageref03_Near.j1, if_pos rfl]
    | false =>
      refine At.succ (g := fun _ => some q) (fun k => ?_) ⟨0, fun _ _ => rfl⟩
      rw [demurrageref03_Near.j1, if_neg (by decide)]
  have j0 : ∀ (x : Int) (y : Bool), At (fun k => demurrageref03_Near.j0 k x y q) (if (decide (x > 0) || (decide (x = 0) && y)) then v else q) := by
    intro x y
    by_cases h1 : x > 0
    · have t := j1 true
      have e : (decide (x > 0) || (decide (x = 0) && y)) = true := by simp [h1]
      rw [e]
      refine At.succ (g := fun k => demurrageref03_Near.j1 k true q) (fun k => ?_) t
      rw [demurrageref03_Near.j0, if_pos h1]
    · by_cases h2 : x = 0
      · have e : (decide (x > 0) || (decide (x = 0) && y)) = y := by simp [h2]
        rw [e]
        refine At.succ (g := fun k => demurrageref03_Near.j1 k y q) (fun k => ?_) (j1 y)
        rw [demurrageref03_Near.j0, if_neg h1, if_pos h2]
      · have e : (decide (x > 0) || (decide (x = 0) && y)) = false := by simp [h1, h2]
        rw [e]
        refine At.succ (g := fun k => demurrageref03_Near.j1 k false q) (fun k => ?_) (j1 false)
        rw [demurrageref03_Near.j0, if_neg h1, if_neg h2]
  have odd := bv_odd e2
  have fin : ∀ y : Bool, (y = true ↔ bv q % 2 = 1) → ∃ s, s = (if (decide (bsg (bv u) (bv b) > 0) || (decide (bsg (bv u) (bv b) = 0) && y)) then v else q) ∧ Digs s ∧ bv s = ev (bv a) (bv b) ∧ s.length < 400000 := by
    intro y hy
    have n1 : (decide (bsg (bv u) (bv b) > 0) || (decide (bsg (bv u) (bv b) = 0) && y)) = nearer (bv a) (bv b) := by
      unfold nearer
      rw [← e8, ← e9, u3, Bool.eq_iff_iff]
      unfold bsg
      simp only [Bool.or_eq_true, Bool.and_eq_true, decide_eq_true_eq, hy]
      repeat' split
      all_goals omega
    rw [n1]
    unfold ev
    by_cases hn : nearer (bv a) (bv b) = true
    · rw [if_pos hn, if_pos hn]
      exact ⟨v, rfl, v2, by rw [v3, o3, e8], by omega⟩
    · rw [if_neg hn, if_neg hn]
      exact ⟨q, rfl, e2, e8, by omega⟩
  by_cases hq : (q.length : Int) > 0
  · have t1 : Int.tmod (rd q 0) 2 = bv q % 2 := by
      have d := getD_digs e2 0
      have := rd_nat q 0
      rw [show ((0 : Nat) : Int) = 0 from rfl] at this
      rw [this, Int.tmod_eq_emod_of_nonneg d.1, odd]
    obtain ⟨s, s1, s2, s3, s4⟩ := fin (bv q % 2 == 1) (by simp)
    refine ⟨s, ?_, s2, s3, s4⟩
    rw [s1]
    unfold demurrageref03_Near.f
    refine At.bind (g := fun k w => (demurrageref01_Plus.f k w.2 w.2).bind fun x => (demurrageref01_Cmp.f k x b).bind fun y => if (w.1.length : Int) > 0 then (if 0 < (w.1.length : Int) then demurrageref03_Near.j0 k y (Int.tmod (rd w.1 0) 2 == 1) w.1 else none) else demurrageref03_Near.j0 k y false w.1) e1
      (At.bind (g := fun k x => (demurrageref01_Cmp.f k x b).bind fun y => if (q.length : Int) > 0 then (if 0 < (q.length : Int) then demurrageref03_Near.j0 k y (Int.tmod (rd q 0) 2 == 1) q else none) else demurrageref03_Near.j0 k y false q) u1
        (At.bind (g := fun k y => if (q.length : Int) > 0 then (if 0 < (q.length : Int) then demurrageref03_Near.j0 k y (Int.tmod (rd q 0) 2 == 1) q else none) else demurrageref03_Near.j0 k y false q) c ?_))
    obtain ⟨K, h⟩ := j0 (bsg (bv u) (bv b)) (bv q % 2 == 1)
    refine ⟨K, fun k hk => ?_⟩
    rw [t1]
    exact (if_pos hq).trans ((if_pos hq).trans (h k hk))
  · have z : q = [] := List.eq_nil_of_length_eq_zero (by omega)
    obtain ⟨s, s1, s2, s3, s4⟩ := fin false (by rw [z]; simp [bv])
    refine ⟨s, ?_, s2, s3, s4⟩
    rw [s1]
    unfold demurrageref03_Near.f
    refine At.bind (g := fun k w => (demurrageref01_Plus.f k w.2 w.2).bind fun x => (demurrageref01_Cmp.f k x b).bind fun y => if (w.1.length : Int) > 0 then (if 0 < (w.1.length : Int) then demurrageref03_Near.j0 k y (Int.tmod (rd w.1 0) 2 == 1) w.1 else none) else demurrageref03_Near.j0 k y false w.1) e1
      (At.bind (g := fun k x => (demurrageref01_Cmp.f k x b).bind fun y => if (q.length : Int) > 0 then (if 0 < (q.length : Int) then demurrageref03_Near.j0 k y (Int.tmod (rd q 0) 2 == 1) q else none) else demurrageref03_Near.j0 k y false q) u1
        (At.bind (g := fun k y => if (q.length : Int) > 0 then (if 0 < (q.length : Int) then demurrageref03_Near.j0 k y (Int.tmod (rd q 0) 2 == 1) q else none) else demurrageref03_Near.j0 k y false q) c ?_))
    obtain ⟨K, h⟩ := j0 (bsg (bv u) (bv b)) false
    exact ⟨K, fun k hk => (if_neg hq).trans (h k hk)⟩

end Go.Proofs.Ytcdbmmlnmefoeaa.X
