/- LevelFree: without a rate the least payment is the amount by the number of parts, rounded up; of one part it is amount and interest; of nothing it is 0. -/
import Derived.Test.YteikafepdkijdaaPLevelFreeXLevelFree
import Derived.Test.YteikafepdkijdaaPLevelFreeT
set_option maxRecDepth 10000
namespace Go.Proofs.Yteikafepdkijdaa.Pure
open Go.RowKit Go.Proofs.Yteikafepdkijdaa.X Go.Proofs.YteikafepdkijdaaW.PrintWords Go.Proofs.YteikafepdkijdaaW.PrintLast

theorem LevelFree (a b : Int) (l : List S56) (wa : (Lit.int .u64 a).wf = true) (wb : (Lit.int .u16 b).wf = true) (_ : ∀ x ∈ l, (Lit.int .i64 x.f0).wf = true ∧ (Lit.int .i64 x.f1).wf = true) : ∃ k, demurragelaw20_LevelFree.f k a b l = some true := by
 have ha := u64_wf wa
 have hb := u16_wf' wb
 obtain ⟨K0, h0⟩ := shown_at
 have yes : ∀ k, demurragelaw20_LevelFree.j0 (k + 1) a b l true (l.length : Int) true = some true := fun k => by rw [demurragelaw20_LevelFree.j0, if_pos rfl]
 by_cases c1 : (l.length : Int) < 1
 ·refine ⟨K0 + 1, ?_⟩
  have h0 : demurragelaw20_shown.f (K0 + 1) = some true := h0 _ (by omega)
  unfold demurragelaw20_LevelFree.f
  rw [h0, Option.bind_some, if_pos c1]
  exact yes K0
 ·by_cases c2 : (l.length : Int) > 30
  ·refine ⟨K0 + 1, ?_⟩
   have h0 : demurragelaw20_shown.f (K0 + 1) = some true := h0 _ (by omega)
   unfold demurragelaw20_LevelFree.f
   rw [h0, Option.bind_some, if_neg c1, if_pos c2]
   exact yes K0
  ·obtain ⟨u, ⟨K1, h1⟩, hu⟩ := usual_at l (by omega)
   cases u with
   | false =>
    refine ⟨K0 + K1 + 1, ?_⟩
    have h0 : demurragelaw20_shown.f (K0 + K1 + 1) = some true := h0 _ (by omega)
    have h1 : demurrageref18_Usual.f (K0 + K1 + 1) l = some false := h1 _ (by omega)
    unfold demurragelaw20_LevelFree.f
    rw [h0, Option.bind_some, if_neg c1, if_neg c2, h1, Option.bind_some]
    exact yes (K0 + K1)
   | true =>
    have us := hu rfl
    obtain ⟨em, m0, m1⟩ := money (m := 1000000000000001) ha (by omega) (by omega)
    obtain ⟨er, r0, r1⟩ := ratep (m := 9001) hb.1 (by omega) (by omega)
    generalize hm : a % 1000000000000001 = m at em m0 m1
    generalize hr : b % 9001 = r at er r0 r1
    have z1 : l.length ≤ 1200 := by clear em er; omega
    have z2 : 0 < l.length := by clear em er; omega
    have z3 : m ≤ 1000000000000000 := by clear em er; omega
    have z4 : r ≤ 9000 := by clear em er; omega
    have u0 := us 0 z2
    have t1 : (l.take 1).length = 1 := by clear em er; rw [List.length_take]; omega
    have td : rd_T56 (l.take 1) ((0 : Nat) : Int) = rd_T56 l ((0 : Nat) : Int) := by
     clear em er
     unfold rd_T56
     rw [Int.toNat_natCast, List.getD_eq_getElem?_getD, List.getD_eq_getElem?_getD, List.getElem?_take_of_lt (by omega)]
    have us1 : ∀ j : Nat, j < (l.take 1).length → Us (rd_T56 (l.take 1) (j : Int)) := fun j hj => by
     obtain rfl : j = 0 := by clear em er; omega
     rw [td]
     exact u0
    obtain ⟨p, p0, p1, ⟨K2, p2⟩, p3, p4, p5, _⟩ := least_at (m := m) (r := 0) m0 z3 (by omega) (by omega) z1 z2 us
    obtain ⟨q, q0, q1, ⟨K3, q2⟩, q3, q4, q5, _⟩ := least_at (m := m) (r := r) (ps := l.take 1) m0 z3 r0 z4 (by clear em er; omega) (by clear em er; omega) us1
    obtain ⟨s, s0, s1, ⟨K4, s2⟩, s3, s4, s5, _⟩ := least_at (m := 0) (r := r) (by omega) (by omega) r0 z4 z1 z2 us
    obtain ⟨f1, f2, f3⟩ := intr_fits (o := m) (r := r) (x := rd_T56 l ((0 : Nat) : Int)) m0 z3 r0 z4 u0
    obtain ⟨K5, g⟩ := refof_at (a := m) (b := r) (n := (rd_T56 l ((0 : Nat) : Int)).f0) (d := (rd_T56 l ((0 : Nat) : Int)).f1) (by clear em er; omega) (by clear em er; omega)
    rw [f1] at g
    clear f1
    have fp : ∀ x : Int, 0 ≤ x → (lp m 0 x l (l.length - 1) ≤ x ↔ m ≤ (l.length : Int) * x) := fun x x0 => by
     have o := op_free (m := m) (p := x) (ps := l) m0 x0 (n := l.length - 1) (fun j hj => us j (by clear em er; omega)) (l.length - 1) (Nat.le_refl _)
     have e : (l.length : Int) * x = ((l.length - 1 : Nat) : Int) * x + x := by
      have : (l.length : Int) = ((l.length - 1 : Nat) : Int) + 1 := by clear em er; omega
      rw [this, Int.add_mul, Int.one_mul]
     have z : 0 ≤ ((l.length - 1 : Nat) : Int) * x := Int.mul_nonneg (by clear em er; omega) x0
     unfold lp
     rw [intr_free (us (l.length - 1) (by clear em er; omega)), o, e]
     clear em er
     split <;> omega
    have fq : ∀ x : Int, lp m r x (l.take 1) ((l.take 1).length - 1) = intr m r (rd_T56 l ((0 : Nat) : Int)) + m := fun x => by
     rw [t1]
     show intr m r (rd_T56 (l.take 1) ((0 : Nat) : Int)) + m = _
     rw [td]
    have fs : ∀ x : Int, lp 0 r x l (l.length - 1) = 0 := fun x => by
     have o := op_zero (m := 0) (r := r) (p := x) (ps := l) (k := 0) (n := l.length - 1) rfl (fun j hj => us j (by clear em er; omega)) (l.length - 1) (by clear em er; omega)
     rw [Nat.zero_add] at o
     unfold lp
     rw [o, intr_zero (us (l.length - 1) (by clear em er; omega))]
     rfl
    have n0 : (0 : Int) < (l.length : Int) := by clear em er; omega
    have ep : p = (m + (l.length : Int) - 1) / (l.length : Int) := by
     have d0 : 0 ≤ (m + (l.length : Int) - 1) / (l.length : Int) := Int.ediv_nonneg (by clear em er; omega) (by clear em er; omega)
     have d1 := Int.ediv_mul_le (m + (l.length : Int) - 1) (b := (l.length : Int)) (by clear em er; omega)
     have d2 := Int.lt_ediv_add_one_mul_self (m + (l.length : Int) - 1) (b := (l.length : Int)) n0
     generalize (m + (l.length : Int) - 1) / (l.length : Int) = x at d0 d1 d2
     rw [Int.add_mul, Int.one_mul] at d2
     refine least_one (P := fun x => lp m 0 x l (l.length - 1) ≤ x) p0 d0 p3 ((fp x d0).mpr (by rw [Int.mul_comm]; clear em er; omega)) p4 (fun y y0 yx h => ?_)
     have h := (fp y y0).mp h
     have k1 : (y + 1) * (l.length : Int) ≤ x * (l.length : Int) := Int.mul_le_mul_of_nonneg_right (by clear em er; omega) (by clear em er; omega)
     rw [Int.add_mul, Int.one_mul] at k1
     rw [Int.mul_comm] at h
     clear em er
     omega
    have eq : q = m + intr m r (rd_T56 l ((0 : Nat) : Int)) := by
     rw [fq] at q3
     by_cases c : q = m + intr m r (rd_T56 l ((0 : Nat) : Int))
     ·exact c
     ·have h := q4 (m + intr m r (rd_T56 l ((0 : Nat) : Int))) (by clear em er; omega) (by clear em er; omega)
      rw [fq] at h
      clear em er
      omega
    have es : s = 0 := by
     by_cases c : s = 0
     ·exact c
     ·have h := s4 0 (Int.le_refl _) (by clear em er; omega)
      rw [fs] at h
      exact absurd (Int.le_refl _) h
    generalize hk : K0 + K1 + K2 + K3 + K4 + K5 = k
    have h0 : demurragelaw20_shown.f (k + 1) = some true := h0 _ (by clear em er; omega)
    have h1 : demurrageref18_Usual.f (k + 1) l = some true := h1 _ (by clear em er; omega)
    have p2 : level_Least.f k m 0 l = some (p, 0) := p2 _ (by clear em er; omega)
    have q2 : level_Least.f k m r (l.take 1) = some (q, 0) := q2 _ (by clear em er; omega)
    have s2 : level_Least.f k 0 r l = some (s, 0) := s2 _ (by clear em er; omega)
    have g : demurrageref18_Of.f k m r (rd_T56 l 0).f0 (rd_T56 l 0).f1 = some (intr m r (rd_T56 l ((0 : Nat) : Int)), 0) := g _ (by clear em er; omega)
    have n1 : 1 ≤ (l.length : Int) := by clear em er; omega
    have n2 : ¬ (l.length : Int) = 0 := by clear em er; omega
    have w1 : wrap64 (m + (l.length : Int)) = m + (l.length : Int) := wrap64_small (by clear em er; omega) (by clear em er; omega)
    have w2 : wrap64 (m + (l.length : Int) - 1) = m + (l.length : Int) - 1 := wrap64_small (by clear em er w1; omega) (by clear em er w1; omega)
    have w3 : wrap64 (Int.tdiv (m + (l.length : Int) - 1) (l.length : Int)) = p := by
     rw [Int.tdiv_eq_ediv_of_nonneg (by clear em er w1 w2; omega), ← ep]
     exact wrap64_small (by clear em er w1 w2; omega) (by clear em er w1 w2; omega)
    have w4 : wrap64 (m + intr m r (rd_T56 l ((0 : Nat) : Int))) = q := by
     rw [eq]
     exact wrap64_small (by clear em er w1 w2 w3; omega) (by clear em er w1 w2 w3; omega)
    refine ⟨k + 1, ?_⟩
    unfold demurragelaw20_LevelFree.f
    rw [h0, Option.bind_some, if_neg c1, if_neg c2, h1, Option.bind_some]
    show demurragelaw20_LevelFree.j0 (k + 1) a b l true (l.length : Int) false = some true
    rw [demurragelaw20_LevelFree.j0, if_neg (by decide), em, er, p2, Option.bind_some, if_pos n1, q2, Option.bind_some, s2, Option.bind_some, if_pos n0, g, Option.bind_some, if_pos rfl, if_pos rfl, if_pos rfl, if_pos rfl, if_pos rfl, if_neg n2, w1, w2, w3, if_pos rfl, w4, if_pos rfl, es]
    rfl
end Go.Proofs.Yteikafepdkijdaa.Pure
