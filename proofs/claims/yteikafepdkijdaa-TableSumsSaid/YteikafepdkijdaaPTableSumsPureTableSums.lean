/- TableSums: a table's sums, and codes, are as the document says. -/
import Derived.Test.YteikafepdkijdaaPTableSumsXTableSums
import Derived.Test.YteikafepdkijdaaPTableSumsT
set_option maxRecDepth 10000
namespace Go.Proofs.Yteikafepdkijdaa.Pure
open Go.RowKit Go.Proofs.Yteikafepdkijdaa.X Go.Proofs.YteikafepdkijdaaW.PrintWords Go.Proofs.YteikafepdkijdaaW.PrintLast

def anyBad (X : List S48) : Nat → Nat → Bool
 | 0, _ => false
 | d + 1, i => badB (rd_T48 X (i : Int)) || anyBad X d (i + 1)
def tt (f : S48 → Int) (X : List S48) : Nat → Int
 | 0 => 0
 | i + 1 => tt f X i + f (rd_T48 X (i : Int))
def Good (r : S48) : Prop := (0 ≤ r.f1 ∧ r.f1 < 9223372036854775808) ∧ (0 ≤ r.f2 ∧ r.f2 < 9223372036854775808) ∧ (0 ≤ r.f3 ∧ r.f3 < 9223372036854775808)
def sumv (X : List S48) : Int × Int × Int × Int × Int × Int :=
 if tt (·.f1) X X.length ≤ 4611686018427387904 ∧ tt (·.f2) X X.length ≤ 4611686018427387904 ∧ tt (·.f3) X X.length ≤ 4611686018427387904 then
  (if 0 < X.length then ((rd_T48 X ((0 : Nat) : Int)).f0, tt (·.f1) X X.length, tt (·.f2) X X.length, tt (·.f3) X X.length, (rd_T48 X ((X.length - 1 : Nat) : Int)).f4, 0) else (0, 0, 0, 0, 0, 0))
 else (0, 0, 0, 0, 0, 6)
theorem good_of {X : List S48} (hw : ∀ j : Nat, j < X.length → (rd_T48 X (j : Int)).f1 < 9223372036854775808 ∧ (rd_T48 X (j : Int)).f2 < 9223372036854775808 ∧ (rd_T48 X (j : Int)).f3 < 9223372036854775808) {j : Nat} (hj : j < X.length) (h : badB (rd_T48 X (j : Int)) = false) : Good (rd_T48 X (j : Int)) := by
 obtain ⟨w1, w2, w3⟩ := hw j hj
 unfold badB at h
 simp only [Bool.or_eq_false_iff, decide_eq_false_iff_not] at h
 obtain ⟨h1, h2, h3⟩ := h
 exact ⟨⟨by omega, w1⟩, ⟨by omega, w2⟩, ⟨by omega, w3⟩⟩
theorem none_bad {X : List S48} : ∀ (d i : Nat), i + d = X.length → anyBad X d i = false → ∀ j, i ≤ j → j < X.length → badB (rd_T48 X (j : Int)) = false
 | 0, i, hi, _, j, h1, h2 => by omega
 | d + 1, i, hi, h, j, h1, h2 => by
  have h : (badB (rd_T48 X (i : Int)) || anyBad X d (i + 1)) = false := h
  rw [Bool.or_eq_false_iff] at h
  by_cases z : j = i
  ·subst z
   exact h.1
  ·exact none_bad d (i + 1) (by omega) h.2 j (by omega) h2
theorem tt_mono {X : List S48} (f : S48 → Int) (h : ∀ j, j < X.length → 0 ≤ f (rd_T48 X (j : Int))) : ∀ (d i : Nat), i + d = X.length → tt f X i ≤ tt f X X.length
 | 0, i, hi => by
  have e : i = X.length := by omega
  rw [e]
  exact Int.le_refl _
 | d + 1, i, hi => by
  have g := tt_mono f h d (i + 1) (by omega)
  have p := h i (by omega)
  have e : tt f X (i + 1) = tt f X i + f (rd_T48 X (i : Int)) := rfl
  omega
theorem fits_is {x n : Int} (h0 : 0 ≤ n) (h1 : n < 9223372036854775808) (h2 : 0 ≤ x) (h3 : x ≤ 4611686018427387904) : fitsB x n = decide (x + n ≤ 4611686018427387904) ∧ (x + n ≤ 4611686018427387904 → addv x n = x + n) := by
 have w : wrap64 (4611686018427387904 - n) = 4611686018427387904 - n := wrap64_small (by omega) (by omega)
 have f : fitsB x n = decide (x + n ≤ 4611686018427387904) := by
  unfold fitsB
  rw [w]
  clear w
  rw [Bool.eq_iff_iff]
  simp only [Bool.and_eq_true, Bool.not_eq_true', decide_eq_false_iff_not, decide_eq_true_eq]
  omega
 refine ⟨f, fun h => ?_⟩
 have w2 : wrap64 (x + n) = x + n := wrap64_small (by clear w; omega) (by clear w; omega)
 unfold addv
 rw [f, decide_eq_true h, if_pos rfl, w2]

theorem index_is {X : List S48} (hl : X.length ≤ 60) : ∀ (d i : Nat), i + d = X.length → ∃ r : Int, At (fun k => slices_IndexFunc.l0 k X (i : Int)) r ∧ (anyBad X d i = true → r ≥ 0) ∧ (anyBad X d i = false → r = -1) := by
 intro d
 induction d with
 | zero =>
  intro i hi
  refine ⟨-1, ⟨1, fun k hk => ?_⟩, fun h => absurd (show false = true from h) (by decide), fun _ => rfl⟩
  obtain ⟨q, rfl⟩ : ∃ q, k = q + 1 := ⟨k - 1, by omega⟩
  show slices_IndexFunc.l0 (q + 1) X (i : Int) = _
  rw [slices_IndexFunc.l0, if_neg (by omega)]
 | succ d ih =>
  intro i hi
  have wi : wrap64 ((i : Int) + 1) = ((i + 1 : Nat) : Int) := by rw [wrap64_small (by omega) (by omega)]; omega
  have e : anyBad X (d + 1) i = (badB (rd_T48 X (i : Int)) || anyBad X d (i + 1)) := rfl
  cases b : badB (rd_T48 X (i : Int)) with
  | true =>
   refine ⟨(i : Int), ⟨1, fun k hk => ?_⟩, fun _ => by clear wi; omega, fun h => ?_⟩
   ·obtain ⟨q, rfl⟩ : ∃ q, k = q + 1 := ⟨k - 1, by clear wi; omega⟩
    show slices_IndexFunc.l0 (q + 1) X (i : Int) = _
    rw [slices_IndexFunc.l0, if_pos (by clear wi; omega), if_pos (by clear wi; omega), b, if_pos rfl]
   ·rw [e, b] at h
    cases h
  | false =>
   obtain ⟨r, ⟨K, g⟩, g1, g2⟩ := ih (i + 1) (by clear wi; omega)
   rw [b, Bool.false_or] at e
   refine ⟨r, ⟨K + 1, fun k hk => ?_⟩, by rw [e]; exact g1, by rw [e]; exact g2⟩
   obtain ⟨q, rfl⟩ : ∃ q, k = q + 1 := ⟨k - 1, by clear wi; omega⟩
   have g := g q (by clear wi; omega)
   show slices_IndexFunc.l0 (q + 1) X (i : Int) = _
   rw [slices_IndexFunc.l0, if_pos (by clear wi; omega), if_pos (by clear wi; omega), b, if_neg (by decide), wi]
   exact g

theorem prog_from {X : List S48} (hl : X.length ≤ 60) (hg : ∀ j : Nat, j < X.length → Good (rd_T48 X (j : Int))) (o c : Int) :
  ∀ (d i k : Nat), i + d = X.length → d + 1 ≤ k → 0 ≤ tt (·.f1) X i → 0 ≤ tt (·.f2) X i → 0 ≤ tt (·.f3) X i → tt (·.f1) X i ≤ 4611686018427387904 → tt (·.f2) X i ≤ 4611686018427387904 → tt (·.f3) X i ≤ 4611686018427387904 →
   table_Sums.l0 k X o c (tt (·.f1) X i) (tt (·.f2) X i) (tt (·.f3) X i) (i : Int) = some (if tt (·.f1) X X.length ≤ 4611686018427387904 ∧ tt (·.f2) X X.length ≤ 4611686018427387904 ∧ tt (·.f3) X X.length ≤ 4611686018427387904 then (o, tt (·.f1) X X.length, tt (·.f2) X X.length, tt (·.f3) X X.length, c, 0) else (0, 0, 0, 0, 0, 6)) := by
 have m1 := tt_mono (X := X) (·.f1) (fun j hj => (hg j hj).1.1)
 have m2 := tt_mono (X := X) (·.f2) (fun j hj => (hg j hj).2.1.1)
 have m3 := tt_mono (X := X) (·.f3) (fun j hj => (hg j hj).2.2.1)
 intro d
 induction d with
 | zero =>
  intro i k hi hk a1 a2 a3 b1 b2 b3
  obtain ⟨q, rfl⟩ : ∃ q, k = q + 1 := ⟨k - 1, by omega⟩
  have e : i = X.length := by omega
  subst e
  rw [table_Sums.l0, if_neg (by omega), if_pos ⟨b1, b2, b3⟩]
 | succ d ih =>
  intro i k hi hk a1 a2 a3 b1 b2 b3
  obtain ⟨q, rfl⟩ : ∃ q, k = q + 1 := ⟨k - 1, by omega⟩
  obtain ⟨g1, g2, g3⟩ := hg i (by omega)
  have n1 := m1 d (i + 1) (by omega)
  have n2 := m2 d (i + 1) (by omega)
  have n3 := m3 d (i + 1) (by omega)
  have e1 : tt (·.f1) X (i + 1) = tt (·.f1) X i + (rd_T48 X (i : Int)).f1 := rfl
  have e2 : tt (·.f2) X (i + 1) = tt (·.f2) X i + (rd_T48 X (i : Int)).f2 := rfl
  have e3 : tt (·.f3) X (i + 1) = tt (·.f3) X i + (rd_T48 X (i : Int)).f3 := rfl
  obtain ⟨f1, s1⟩ := fits_is (x := tt (·.f1) X i) (n := (rd_T48 X (i : Int)).f1) g1.1 g1.2 a1 b1
  obtain ⟨f2, s2⟩ := fits_is (x := tt (·.f2) X i) (n := (rd_T48 X (i : Int)).f2) g2.1 g2.2 a2 b2
  obtain ⟨f3, s3⟩ := fits_is (x := tt (·.f3) X i) (n := (rd_T48 X (i : Int)).f3) g3.1 g3.2 a3 b3
  have wi : wrap64 ((i : Int) + 1) = ((i + 1 : Nat) : Int) := by rw [wrap64_small (by omega) (by omega)]; omega
  rw [table_Sums.l0, if_pos (by clear wi; omega), if_pos (by clear wi; omega), f1, f2, f3, wi]
  by_cases c1 : tt (·.f1) X i + (rd_T48 X (i : Int)).f1 ≤ 4611686018427387904
  ·by_cases c2 : tt (·.f2) X i + (rd_T48 X (i : Int)).f2 ≤ 4611686018427387904
   ·by_cases c3 : tt (·.f3) X i + (rd_T48 X (i : Int)).f3 ≤ 4611686018427387904
    ·rw [decide_eq_true c1, decide_eq_true c2, decide_eq_true c3, Bool.and_self, Bool.and_self, if_pos rfl, s1 c1, s2 c2, s3 c3]
     exact ih (i + 1) q (by clear wi; omega) (by clear wi; omega) (by rw [e1]; clear wi; omega) (by rw [e2]; clear wi; omega) (by rw [e3]; clear wi; omega) (by rw [e1]; exact c1) (by rw [e2]; exact c2) (by rw [e3]; exact c3)
    ·rw [decide_eq_false c3, Bool.and_false, Bool.and_false, if_neg (by decide), if_neg (fun h => by have := h.2.2; clear wi; omega)]
   ·rw [decide_eq_false c2, Bool.false_and, Bool.and_false, if_neg (by decide), if_neg (fun h => by have := h.2.1; clear wi; omega)]
  ·rw [decide_eq_false c1, Bool.false_and, if_neg (by decide), if_neg (fun h => by have := h.1; clear wi; omega)]

theorem prog_at {X : List S48} (hl : X.length ≤ 60) (hw : ∀ j : Nat, j < X.length → (rd_T48 X (j : Int)).f1 < 9223372036854775808 ∧ (rd_T48 X (j : Int)).f2 < 9223372036854775808 ∧ (rd_T48 X (j : Int)).f3 < 9223372036854775808) :
  At (fun k => table_Sums.f k X) (if anyBad X X.length 0 = true then (0, 0, 0, 0, 0, 1) else sumv X) := by
 by_cases n0 : (X.length : Int) = 0
 ·have e : X = [] := List.eq_nil_of_length_eq_zero (by omega)
  subst e
  refine ⟨0, fun k _ => ?_⟩
  show table_Sums.f k [] = _
  unfold table_Sums.f
  rw [if_pos (show (([] : List S48).length : Int) = 0 from rfl)]
  rfl
 ·obtain ⟨r, ⟨K, g⟩, g1, g2⟩ := index_is hl X.length 0 (by omega)
  cases b : anyBad X X.length 0 with
  | true =>
   refine ⟨K, fun k hk => ?_⟩
   have g : slices_IndexFunc.l0 k X 0 = some r := g k hk
   show table_Sums.f k X = _
   unfold table_Sums.f
   rw [if_neg n0, g, Option.bind_some, if_pos (g1 b), if_pos rfl]
  | false =>
   have nb := none_bad X.length 0 (by omega) b
   have w : wrap64 ((X.length : Int) - 1) = ((X.length - 1 : Nat) : Int) := by
    rw [wrap64_small (by omega) (by omega)]
    omega
   refine ⟨K + X.length + 1, fun k hk => ?_⟩
   have g : slices_IndexFunc.l0 k X 0 = some r := g k (by clear w; omega)
   have p := prog_from hl (fun j hj => good_of hw hj (nb j (by clear w; omega) hj)) (rd_T48 X 0).f0 (rd_T48 X ((X.length - 1 : Nat) : Int)).f4 X.length 0 k (by clear w; omega) (by clear w; omega) (Int.le_refl _) (Int.le_refl _) (Int.le_refl _) (show (0 : Int) ≤ 4611686018427387904 by omega) (show (0 : Int) ≤ 4611686018427387904 by omega) (show (0 : Int) ≤ 4611686018427387904 by omega)
   have q : table_Sums.l0 k X (rd_T48 X 0).f0 (rd_T48 X ((X.length - 1 : Nat) : Int)).f4 0 0 0 0 = _ := p
   show table_Sums.f k X = _
   unfold table_Sums.f sumv
   rw [if_neg n0, g, Option.bind_some, g2 b, if_neg (by decide), if_pos (by clear w; omega), w, if_pos (by clear w; omega), if_pos (by clear w; omega), if_neg (by decide), if_pos (show 0 < X.length by clear w; omega), q]
   rfl

theorem refs_from {X : List S48} (hl : X.length ≤ 60) (hw : ∀ j : Nat, j < X.length → (rd_T48 X (j : Int)).f1 < 9223372036854775808 ∧ (rd_T48 X (j : Int)).f2 < 9223372036854775808 ∧ (rd_T48 X (j : Int)).f3 < 9223372036854775808) :
  ∀ (d i : Nat), i + d = X.length → ∀ (A B C : List Int) (o1 o2 o3 : Int), Digs A → Digs B → Digs C → A.length ≤ 6 * i → B.length ≤ 6 * i → C.length ≤ 6 * i → bv A = tt (·.f1) X i → bv B = tt (·.f2) X i → bv C = tt (·.f3) X i →
   (tt (·.f1) X i ≤ 4611686018427387904 → o1 = tt (·.f1) X i) → (tt (·.f2) X i ≤ 4611686018427387904 → o2 = tt (·.f2) X i) → (tt (·.f3) X i ≤ 4611686018427387904 → o3 = tt (·.f3) X i) →
   At (fun k => demurrageref21_Sums.l0 k X (i : Int) A B C 0 o1 o2 o3 0) (if anyBad X d i = true then (0, 0, 0, 0, 0, 1) else sumv X) := by
 intro d
 induction d with
 | zero =>
  intro i hi A B C o1 o2 o3 dA dB dC lA lB lC vA vB vC h1 h2 h3
  have e : i = X.length := by omega
  subst e
  obtain ⟨m, ⟨K1, m1⟩, m2, m3, _, m5⟩ := from_at (x := 4611686018427387904) ⟨by omega, by omega⟩
  obtain ⟨K2, cA⟩ := cmp_at dA m2 (by omega) (by omega)
  obtain ⟨K3, cB⟩ := cmp_at dB m2 (by omega) (by omega)
  obtain ⟨K4, cC⟩ := cmp_at dC m2 (by omega) (by omega)
  rw [m3, vA] at cA
  rw [m3, vB] at cB
  rw [m3, vC] at cC
  have sg : ∀ x : Int, bsg x 4611686018427387904 > 0 ↔ ¬ x ≤ 4611686018427387904 := fun x => by
   unfold bsg
   repeat' split
   all_goals omega
  have w : wrap64 ((X.length : Int) - 1) = if X.length = 0 then -1 else ((X.length - 1 : Nat) : Int) := by
   by_cases z : X.length = 0
   ·rw [if_pos z, wrap64_small (by omega) (by omega)]
    omega
   ·rw [if_neg z, wrap64_small (by omega) (by omega)]
    omega
  refine ⟨K1 + K2 + K3 + K4 + 2, fun k hk => ?_⟩
  obtain ⟨q, rfl⟩ : ∃ q, k = q + 2 := ⟨k - 2, by clear w; omega⟩
  have m1 : demurrageref01_From.f (q + 1) 4611686018427387904 = some m := m1 (q + 1) (by clear w; omega)
  have cA : demurrageref01_Cmp.f (q + 1) A m = some (bsg (tt (·.f1) X X.length) 4611686018427387904) := cA (q + 1) (by clear w; omega)
  have cB : demurrageref01_Cmp.f (q + 1) B m = some (bsg (tt (·.f2) X X.length) 4611686018427387904) := cB (q + 1) (by clear w; omega)
  have cC : demurrageref01_Cmp.f (q + 1) C m = some (bsg (tt (·.f3) X X.length) 4611686018427387904) := cC (q + 1) (by clear w; omega)
  have no : demurrageref21_Sums.j2 (q + 1) X true 0 o1 o2 o3 0 = some (0, 0, 0, 0, 0, 6) := by rw [demurrageref21_Sums.j2, if_pos rfl]
  have z : anyBad X 0 X.length = false := rfl
  show demurrageref21_Sums.l0 (q + 2) X (X.length : Int) A B C 0 o1 o2 o3 0 = _
  rw [z, if_neg (by decide)]
  unfold sumv
  rw [demurrageref21_Sums.l0, if_neg (by clear w; omega), m1, Option.bind_some, cA, Option.bind_some]
  by_cases c1 : tt (·.f1) X X.length ≤ 4611686018427387904
  ·rw [if_neg (fun h => (sg _).mp h c1), cB, Option.bind_some]
   by_cases c2 : tt (·.f2) X X.length ≤ 4611686018427387904
   ·rw [if_neg (fun h => (sg _).mp h c2), cC, Option.bind_some]
    by_cases c3 : tt (·.f3) X X.length ≤ 4611686018427387904
    ·rw [decide_eq_false (fun h => (sg _).mp h c3), if_pos ⟨c1, c2, c3⟩, h1 c1, h2 c2, h3 c3, demurrageref21_Sums.j2, if_neg (by decide)]
     by_cases n : 0 < X.length
     ·rw [if_neg (by clear w; omega)] at w
      rw [if_pos n, if_pos (by clear w; omega), if_pos (by clear w; omega), w, if_pos (by clear w; omega), if_pos (by clear w; omega)]
      rfl
     ·rw [if_neg n, if_neg (by clear w; omega)]
      have e : X = [] := List.eq_nil_of_length_eq_zero (by clear w; omega)
      subst e
      rfl
    ·rw [decide_eq_true ((sg _).mpr c3), no, if_neg (fun h => c3 h.2.2)]
   ·rw [if_pos ((sg _).mpr c2), no, if_neg (fun h => c2 h.2.1)]
  ·rw [if_pos ((sg _).mpr c1), no, if_neg (fun h => c1 h.1)]
 | succ d ih =>
  intro i hi A B C o1 o2 o3 dA dB dC lA lB lC vA vB vC h1 h2 h3
  have hlt : i < X.length := by omega
  have t1 : (i : Int) < (X.length : Int) := by omega
  have t2 : (0 : Int) ≤ (i : Int) := by omega
  have e : anyBad X (d + 1) i = (badB (rd_T48 X (i : Int)) || anyBad X d (i + 1)) := rfl
  cases b : badB (rd_T48 X (i : Int)) with
  | true =>
   rw [e, b, Bool.true_or, if_pos rfl]
   refine ⟨2, fun k hk => ?_⟩
   obtain ⟨q, rfl⟩ : ∃ q, k = q + 2 := ⟨k - 2, by omega⟩
   have no : ∀ z, z = true → demurrageref21_Sums.j1 (q + 1) X (i : Int) z A B C 0 o1 o2 o3 0 = some (0, 0, 0, 0, 0, 1) := fun z hz => by rw [hz, demurrageref21_Sums.j1, if_pos rfl]
   show demurrageref21_Sums.l0 (q + 2) X (i : Int) A B C 0 o1 o2 o3 0 = _
   rw [demurrageref21_Sums.l0, if_pos t1, if_pos t2]
   by_cases c1 : (rd_T48 X (i : Int)).f1 < 0
   ·rw [if_pos c1, no true rfl]
   ·rw [if_neg c1]
    by_cases c2 : (rd_T48 X (i : Int)).f2 < 0
    ·rw [if_pos c2, no true rfl]
    ·rw [if_neg c2]
     unfold badB at b
     rw [decide_eq_false c1, decide_eq_false c2, Bool.false_or, Bool.false_or] at b
     exact no _ b
  | false =>
   obtain ⟨g1, g2, g3⟩ := good_of hw hlt b
   rw [e, b, Bool.false_or]
   obtain ⟨F1, ⟨K1, p1⟩, q1, r1, _, s1⟩ := from_at (x := (rd_T48 X (i : Int)).f1) g1
   obtain ⟨F2, ⟨K2, p2⟩, q2, r2, _, s2⟩ := from_at (x := (rd_T48 X (i : Int)).f2) g2
   obtain ⟨F3, ⟨K3, p3⟩, q3, r3, _, s3⟩ := from_at (x := (rd_T48 X (i : Int)).f3) g3
   obtain ⟨P1, ⟨K4, u1⟩, v1, w1, x1⟩ := plus_at dA q1 (by omega) (by omega)
   obtain ⟨P2, ⟨K5, u2⟩, v2, w2, x2⟩ := plus_at dB q2 (by omega) (by omega)
   obtain ⟨P3, ⟨K6, u3⟩, v3, w3, x3⟩ := plus_at dC q3 (by omega) (by omega)
   have e1 : tt (·.f1) X (i + 1) = tt (·.f1) X i + (rd_T48 X (i : Int)).f1 := rfl
   have e2 : tt (·.f2) X (i + 1) = tt (·.f2) X i + (rd_T48 X (i : Int)).f2 := rfl
   have e3 : tt (·.f3) X (i + 1) = tt (·.f3) X i + (rd_T48 X (i : Int)).f3 := rfl
   have n1 := bv_nonneg dA
   have n2 := bv_nonneg dB
   have n3 := bv_nonneg dC
   have wr : ∀ {t f o : Int}, 0 ≤ t → 0 ≤ f → (t ≤ 4611686018427387904 → o = t) → t + f ≤ 4611686018427387904 → wrap64 (o + f) = t + f := fun ht hf ho hle => by
    rw [ho (by omega)]
    exact wrap64_small (by omega) (by omega)
   obtain ⟨K7, g⟩ := ih (i + 1) (by omega) P1 P2 P3 (wrap64 (o1 + (rd_T48 X (i : Int)).f1)) (wrap64 (o2 + (rd_T48 X (i : Int)).f2)) (wrap64 (o3 + (rd_T48 X (i : Int)).f3)) v1 v2 v3 (by omega) (by omega) (by omega) (by rw [w1, vA, r1, e1]) (by rw [w2, vB, r2, e2]) (by rw [w3, vC, r3, e3])
    (fun h => by rw [e1] at h ⊢; exact wr (by omega) g1.1 h1 h) (fun h => by rw [e2] at h ⊢; exact wr (by omega) g2.1 h2 h) (fun h => by rw [e3] at h ⊢; exact wr (by omega) g3.1 h3 h)
   have wi : wrap64 ((i : Int) + 1) = ((i + 1 : Nat) : Int) := by rw [wrap64_small (by omega) (by omega)]; omega
   have nn : ¬ (rd_T48 X (i : Int)).f1 < 0 ∧ ¬ (rd_T48 X (i : Int)).f2 < 0 ∧ ¬ (rd_T48 X (i : Int)).f3 < 0 := ⟨by clear wi; omega, by clear wi; omega, by clear wi; omega⟩
   refine ⟨K1 + K2 + K3 + K4 + K5 + K6 + K7 + 2, fun k hk => ?_⟩
   obtain ⟨q, rfl⟩ : ∃ q, k = q + 2 := ⟨k - 2, by clear wi; omega⟩
   have p1 : demurrageref01_From.f q (rd_T48 X (i : Int)).f1 = some F1 := p1 q (by clear wi; omega)
   have p2 : demurrageref01_From.f q (rd_T48 X (i : Int)).f2 = some F2 := p2 q (by clear wi; omega)
   have p3 : demurrageref01_From.f q (rd_T48 X (i : Int)).f3 = some F3 := p3 q (by clear wi; omega)
   have u1 : demurrageref01_Plus.f q A F1 = some P1 := u1 q (by clear wi; omega)
   have u2 : demurrageref01_Plus.f q B F2 = some P2 := u2 q (by clear wi; omega)
   have u3 : demurrageref01_Plus.f q C F3 = some P3 := u3 q (by clear wi; omega)
   have g := g q (by clear wi; omega)
   show demurrageref21_Sums.l0 (q + 2) X (i : Int) A B C 0 o1 o2 o3 0 = _
   rw [demurrageref21_Sums.l0, if_pos t1, if_pos t2, if_neg nn.1, if_neg nn.2.1, decide_eq_false nn.2.2, demurrageref21_Sums.j1, if_neg (by decide), if_pos t2, if_pos t1, p1, Option.bind_some, u1, Option.bind_some, p2, Option.bind_some, u2, Option.bind_some, p3, Option.bind_some, u3, Option.bind_some, wi]
   exact g

theorem TableSums (l : List S48) (wl : ∀ x ∈ l, (Lit.int .i64 x.f0).wf = true ∧ (Lit.int .i64 x.f1).wf = true ∧ (Lit.int .i64 x.f2).wf = true ∧ (Lit.int .i64 x.f3).wf = true ∧ (Lit.int .i64 x.f4).wf = true) : ∃ k, demurragelaw21_TableSums.f k l = some true := by
 obtain ⟨K0, h0⟩ := shown_at
 by_cases g : (l.length : Int) > 60
 ·refine ⟨K0, ?_⟩
  have h0 : demurragelaw21_shown.f K0 = some true := h0 K0 (Nat.le_refl _)
  unfold demurragelaw21_TableSums.f
  rw [h0, Option.bind_some, if_pos g]
 ·have hl : l.length ≤ 60 := by omega
  have hw : ∀ j : Nat, j < l.length → (rd_T48 l (j : Int)).f1 < 9223372036854775808 ∧ (rd_T48 l (j : Int)).f2 < 9223372036854775808 ∧ (rd_T48 l (j : Int)).f3 < 9223372036854775808 := fun j hj => by
   rw [rd_get l hj]
   obtain ⟨_, w1, w2, w3, _⟩ := wl _ (List.getElem_mem hj)
   exact ⟨(i64_wf w1).2, (i64_wf w2).2, (i64_wf w3).2⟩
  obtain ⟨K1, p⟩ := prog_at hl hw
  obtain ⟨K2, r⟩ := refs_from hl hw l.length 0 (by omega) [] [] [] 0 0 0 digs_nil digs_nil digs_nil (by simp) (by simp) (by simp) rfl rfl rfl (fun _ => rfl) (fun _ => rfl) (fun _ => rfl)
  generalize (if anyBad l l.length 0 = true then ((0, 0, 0, 0, 0, 1) : Int × Int × Int × Int × Int × Int) else sumv l) = V at p r
  refine ⟨K0 + K1 + K2, ?_⟩
  have h0 : demurragelaw21_shown.f (K0 + K1 + K2) = some true := h0 _ (by omega)
  have p : table_Sums.f (K0 + K1 + K2) l = some V := p _ (by omega)
  have r : demurrageref21_Sums.f (K0 + K1 + K2) l = some V := r _ (by omega)
  unfold demurragelaw21_TableSums.f
  rw [h0, Option.bind_some, if_neg g, p, Option.bind_some, r, Option.bind_some, if_pos rfl]
  simp only [beq_self_eq_true, Bool.and_self, if_true]
end Go.Proofs.Yteikafepdkijdaa.Pure
