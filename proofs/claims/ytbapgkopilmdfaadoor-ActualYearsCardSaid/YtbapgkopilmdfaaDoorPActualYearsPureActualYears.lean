/- ActualYears: from a year's first day to another one's, ByYears is as many as years between; within a year it is the days by the year's. -/
import Derived.Test.YtbapgkopilmdfaaDoorPActualYearsXActualYears
import Derived.Test.YtbapgkopilmdfaaDoorPActualYearsT
set_option maxRecDepth 10000
namespace Go.Proofs.YtbapgkopilmdfaaDoor.Pure
open Go.RowKit Go.Proofs.YtbapgkopilmdfaaDoor.X Go.Proofs.YtbapgkopilmdfaaDoor.Cal Go.Proofs.YtbapgkopilmdfaaDoorW.PrintWords Go.Proofs.YtbapgkopilmdfaaDoorW.PrintLast

theorem L_of_A (y : Int) : L y = 366 * (A y - 365 * (y - 1)) := by
 unfold L A
 omega
theorem yv_years {p q : Int} (h0 : 1 ≤ p) (hq : 0 ≤ q) (h1 : p + q ≤ 9999) : yv (A p + 1) (A (p + q) + 1) p (p + q) = q.toNat * 133590 := by
 have m := A_mono (show p ≤ p + q by omega)
 have l1 := L_of_A p
 have l2 := L_of_A (p + q)
 have bt := D_between (In.first h0 (by omega)) (In.first (show 1 ≤ p + q by omega) h1) (by omega)
 unfold yv
 rw [D_first, D_first] at bt ⊢
 omega
def tailv (k : Nat) (n A0 i j : Int) : Option Bool := if n + 1 = 0 then none else (if wrap64 (n + 1 - Int.tmod (wrap64 i) (n + 1)) = 0 then none else ((actual_ByYears.f k (wrap64 (A0 + Int.tmod (wrap64 i) (n + 1))) (wrap64 (A0 + wrap64 (Int.tmod (wrap64 i) (n + 1) + Int.tmod (wrap64 j) (wrap64 (n + 1 - Int.tmod (wrap64 i) (n + 1))))))).bind fun x => ((demurrageref02_New.f k (wrap64 (wrap64 (Int.tmod (wrap64 i) (n + 1) + Int.tmod (wrap64 j) (wrap64 (n + 1 - Int.tmod (wrap64 i) (n + 1)))) - Int.tmod (wrap64 i) (n + 1))) n).bind fun y => (if true = true then (if x.2.2 = 0 then some (x.1 == y.1 && (x.2.1 == y.2.1)) else none) else none))))
theorem tail_at {p i j : Int} (p0 : 1 ≤ p) (p1 : p ≤ 9000) (i0 : 0 ≤ i) (i1 : i < 65536) (j0 : 0 ≤ j) (j1 : j < 65536) : At (fun k => tailv k (len p) (A p + 1) i j) true := by
 have ln := len_in p
 have s := A_succ p
 have ab := A_bound p0 (show p ≤ 10000 by omega)
 have am := A_mono (show p + 1 ≤ 9001 by omega)
 have ae : A 9001 = 3287182 := by decide
 have l0 : 0 ≤ i % (len p + 1) := Int.emod_nonneg _ (by omega)
 have l1 : i % (len p + 1) < len p + 1 := Int.emod_lt_of_pos _ (by omega)
 have w1 : wrap64 i = i := wrap64_small (by omega) (by omega)
 have w2 : wrap64 j = j := by
  clear w1
  exact wrap64_small (by omega) (by omega)
 have t1 : Int.tmod i (len p + 1) = i % (len p + 1) := tmod_nat i0
 have t2 : ∀ d, Int.tmod j d = j % d := fun d => tmod_nat j0
 have key : ∀ k, tailv k (len p) (A p + 1) i j = (if len p + 1 = 0 then none else (if wrap64 (len p + 1 - i % (len p + 1)) = 0 then none else ((actual_ByYears.f k (wrap64 (A p + 1 + i % (len p + 1))) (wrap64 (A p + 1 + wrap64 (i % (len p + 1) + j % (wrap64 (len p + 1 - i % (len p + 1))))))).bind fun x => ((demurrageref02_New.f k (wrap64 (wrap64 (i % (len p + 1) + j % (wrap64 (len p + 1 - i % (len p + 1)))) - i % (len p + 1))) (len p)).bind fun y => (if true = true then (if x.2.2 = 0 then some (x.1 == y.1 && (x.2.1 == y.2.1)) else none) else none))))) := by
  intro k
  unfold tailv
  rw [w1, w2, t1, t2]
 clear w1 w2 t1 t2
 generalize hlo : i % (len p + 1) = lo at *
 clear hlo
 have w3 : wrap64 (len p + 1 - lo) = len p + 1 - lo := wrap64_small (by clear key; omega) (by clear key; omega)
 have k0 : 0 ≤ j % (len p + 1 - lo) := Int.emod_nonneg _ (by clear key w3; omega)
 have k1 : j % (len p + 1 - lo) < len p + 1 - lo := Int.emod_lt_of_pos _ (by clear key w3; omega)
 rw [w3] at key
 clear w3
 generalize j % (len p + 1 - lo) = m at *
 have w4 : wrap64 (lo + m) = lo + m := by
  clear key
  exact wrap64_small (by omega) (by omega)
 have w5 : wrap64 (A p + 1 + lo) = A p + 1 + lo := by
  clear key w4
  exact wrap64_small (by omega) (by omega)
 have w6 : wrap64 (A p + 1 + (lo + m)) = A p + 1 + (lo + m) := by
  clear key w4 w5
  exact wrap64_small (by omega) (by omega)
 have w7 : wrap64 (lo + m - lo) = m := by
  clear key w4 w5 w6
  rw [wrap64_small (by omega) (by omega)]
  omega
 rw [w4, w5, w6, w7] at key
 clear w4 w5 w6 w7
 obtain ⟨y1, h1⟩ := In.exists (n := A p + 1 + lo) (by clear key; omega) (by clear key; omega)
 obtain ⟨y2, h2⟩ := In.exists (n := A p + 1 + (lo + m)) (by clear key; omega) (by clear key; omega)
 have d1 := D_within h1 p0 (by clear key; omega) (by clear key; omega) (by clear key; omega)
 have d2 := D_within h2 p0 (by clear key; omega) (by clear key; omega) (by clear key; omega)
 obtain ⟨K1, g1⟩ := byyears_at h1 h2 (by clear key; omega)
 obtain ⟨c, rfl⟩ := Int.eq_ofNat_of_zero_le k0
 have lne : len p = if Lp p then 366 else 365 := rfl
 have fin : ∃ N : Nat, len p = (N : Int) ∧ 0 < N ∧ N ≤ 366 ∧ fr (yv (A p + 1 + lo) (A p + 1 + (lo + c)) y1 y2) 133590 = fr c N := by
  by_cases l : Lp p
  ·rw [if_pos l] at lne d1 d2
   refine ⟨366, lne, by decide, by decide, fr_eq (by decide) (by decide) ?_⟩
   unfold yv
   rw [d1, d2]
   clear key
   omega
  ·rw [if_neg l] at lne d1 d2
   refine ⟨365, lne, by decide, by decide, fr_eq (by decide) (by decide) ?_⟩
   unfold yv
   rw [d1, d2]
   clear key
   omega
 obtain ⟨N, eN, N0, N1, ef⟩ := fin
 rw [ef] at g1
 obtain ⟨K2, g2⟩ := refnew_fr (n := c) (d := N) (by clear key; omega) (by clear key; omega) N0
 obtain ⟨x, y, hf⟩ := fr_get c N
 rw [hf] at g1 g2
 refine ⟨K1 + K2, fun k hk => ?_⟩
 have g1 : actual_ByYears.f k (A p + 1 + lo) (A p + 1 + (lo + (c : Int))) = some (x, y, 0) := g1 k (by clear key; omega)
 have g2 : demurrageref02_New.f k (c : Int) (len p) = some (x, y, 0) := by
  rw [eN]
  exact g2 k (by clear key; omega)
 show tailv k (len p) (A p + 1) i j = some true
 rw [key k, if_neg (by clear key; omega), if_neg (by clear key; omega), g1, Option.bind_some, g2, Option.bind_some]
 simp
theorem ActualYears (y m i j : Int) (wy : (Lit.int .u16 y).wf = true) (wm : (Lit.int .u16 m).wf = true) (wi : (Lit.int .u16 i).wf = true) (wj : (Lit.int .u16 j).wf = true) : ∃ k, demurragelaw08_ActualYears.f k y m i j = some true := by
 have hy := u16_wf wy
 have hm := u16_wf wm
 have hi := u16_wf wi
 have hj := u16_wf wj
 have w1 : wrap64 y = y := wrap64_small (by omega) (by omega)
 have w2 : wrap64 m = m := by
  clear w1
  exact wrap64_small (by omega) (by omega)
 have t1 : Int.tmod y 9000 = y % 9000 := tmod_nat hy.1
 have t2 : Int.tmod m 990 = m % 990 := tmod_nat hm.1
 have w3 : wrap64 (1 + y % 9000) = 1 + y % 9000 := by
  clear w1 w2
  exact wrap64_small (by omega) (by omega)
 have w4 : wrap64 (1 + y % 9000 + m % 990) = 1 + y % 9000 + m % 990 := by
  clear w1 w2 w3
  exact wrap64_small (by omega) (by omega)
 have p0 : 1 ≤ 1 + y % 9000 := by clear w1 w2 w3 w4; omega
 have p1 : 1 + y % 9000 ≤ 9000 := by clear w1 w2 w3 w4; omega
 have q0 : 0 ≤ m % 990 := by clear w1 w2 w3 w4; omega
 have q1 : m % 990 ≤ 989 := by clear w1 w2 w3 w4; omega
 obtain ⟨K0, h0⟩ := shown_at
 obtain ⟨K2, h2⟩ := tail_at (p := 1 + y % 9000) (i := i) (j := j) p0 p1 hi.1 hi.2 hj.1 hj.2
 generalize hp : 1 + y % 9000 = p at *
 obtain ⟨q, eq⟩ := Int.eq_ofNat_of_zero_le q0
 rw [eq] at w4 q1
 obtain ⟨K1, h1⟩ := byyears_at (In.first p0 (by clear w1 w2 w3 w4; omega)) (In.first (y := p + (q : Int)) (by clear w1 w2 w3 w4; omega) (by clear w1 w2 w3 w4; omega)) (by have := A_mono (show p ≤ p + (q : Int) by clear w1 w2 w3 w4; omega); clear w1 w2 w3 w4; omega)
 rw [yv_years p0 (by clear w1 w2 w3 w4; omega) (by clear w1 w2 w3 w4; omega), Int.toNat_natCast, fr_eq (n := q * 133590) (d := 133590) (m := q) (e := 1) (by decide) (by decide) (by clear w1 w2 w3 w4; omega), fr_one] at h1
 generalize hk : K0 + K1 + K2 + 402 = k
 have h0 : demurragelaw08_shown.f k = some true := h0 k (by clear w1 w2 w3 w4; omega)
 have h1 : actual_ByYears.f k (A p + 1) (A (p + (q : Int)) + 1) = some ((q : Int), 1, 0) := h1 k (by clear w1 w2 w3 w4; omega)
 have h2 : tailv k (len p) (A p + 1) i j = some true := h2 k (by clear w1 w2 w3 w4; omega)
 have d1 := day_at (y := p) p0 (by clear w1 w2 w3 w4; omega) (k := k) (by clear w1 w2 w3 w4; omega)
 have d2 := day_at (y := p + (q : Int)) (by clear w1 w2 w3 w4; omega) (by clear w1 w2 w3 w4; omega) (k := k) (by clear w1 w2 w3 w4; omega)
 refine ⟨k, ?_⟩
 unfold demurragelaw08_ActualYears.f
 rw [h0, Option.bind_some, w1, w2, t1, t2, hp, w3, eq, w4, d1, Option.bind_some, d2, Option.bind_some, h1, Option.bind_some]
 clear w1 w2 w3 w4 t1 t2 d1 d2 h0 h1
 show (if (0 : Int) = 0 then (if (!((q : Int) == (q : Int)) || (!((1 : Int) == 1))) = true then none else ((demurrageref04_Leap.f p).bind fun l => (if l = true then tailv k 366 (A p + 1) i j else tailv k 365 (A p + 1) i j))) else none) = some true
 rw [if_pos rfl, if_neg (by simp), refleap_eq (by omega), Option.bind_some]
 by_cases l : Lp p
 ·rw [show len p = 366 from if_pos l] at h2
  rw [decide_eq_true l, if_pos rfl, h2]
 ·rw [show len p = 365 from if_neg l] at h2
  rw [decide_eq_false l, if_neg (by decide), h2]
end Go.Proofs.YtbapgkopilmdfaaDoor.Pure
