-- cut by prune.py, a program of this session
import Derived.Test.YteikafepdkijdaaPTableAddsX0
import Derived.LoopTactic
import Derived.Test.YteikafepdkijdaaPTableAddsXWCmp
import Derived.Test.YteikafepdkijdaaPTableAddsXWMul
import Derived.Test.YteikafepdkijdaaPTableAddsHPlain
import Derived.Test.YteikafepdkijdaaPTableAddsXEq
import Derived.Test.YteikafepdkijdaaPTableAddsXAccrue
import Derived.Test.YteikafepdkijdaaPTableAddsXRound
import Derived.Test.YteikafepdkijdaaPTableAddsXRoundPart
import Derived.Test.YteikafepdkijdaaPTableAddsHEnds
import Derived.Test.YteikafepdkijdaaPTableAddsHLeast
import Derived.Test.YteikafepdkijdaaPTableAddsXMost
import Derived.Test.YteikafepdkijdaaPTableAddsHLevel
import Derived.Test.YteikafepdkijdaaPTableAddsHTable
import Derived.Test.YteikafepdkijdaaPTableAddsXShownT
import Derived.Test.YteikafepdkijdaaPTableAddsXFew
import Derived.Test.YteikafepdkijdaaPTableAddsTRow
import Derived.Deep.Slices
set_option maxRecDepth 10000
namespace Go.Proofs.Yteikafepdkijdaa.X
open Go.RowKit Go.Proofs.YteikafepdkijdaaW.PrintWords Go.Proofs.YteikafepdkijdaaW.PrintLast

def At {α : Type} (f : Nat → Option α) (r : α) : Prop := ∃ K, ∀ k, K ≤ k → f k = some r

end Go.Proofs.Yteikafepdkijdaa.X

set_option maxRecDepth 10000
namespace Go.Proofs.Yteikafepdkijdaa.X
open Go.RowKit Go.Proofs.YteikafepdkijdaaW.PrintWords Go.Proofs.YteikafepdkijdaaW.PrintLast

theorem wrap64_small {x : Int} (h0 : -9223372036854775808 ≤ x) (h1 : x ≤ 9223372036854775807) : wrap64 x = x := IntWalk.wrap64_in x ⟨h0, h1⟩

end Go.Proofs.Yteikafepdkijdaa.X

namespace Go.Proofs.Yteikafepdkijdaa.X
open Go.RowKit Go.Proofs.YteikafepdkijdaaW.PrintWords Go.Proofs.YteikafepdkijdaaW.PrintLast

theorem At.grow {α : Type} {f : Nat → Option α} {r : α} {K : Nat} (m : ∀ k, LeO (f k) (f (k + 1))) (h : f K = some r) : At f r := by
 refine ⟨K, fun k hk => ?_⟩
 obtain ⟨n, rfl⟩ : ∃ n, k = K + n := ⟨k - K, by omega⟩
 clear hk
 induction n with
 | zero => exact h
 | succ n ih => exact m (K + n) r ih
end Go.Proofs.Yteikafepdkijdaa.X

set_option maxRecDepth 10000
namespace Go.Proofs.Yteikafepdkijdaa.Pure
open Go.RowKit Go.Proofs.Yteikafepdkijdaa.X Go.Proofs.YteikafepdkijdaaW.PrintWords Go.Proofs.YteikafepdkijdaaW.PrintLast

theorem shown_table : demurragelaw21_shown.f 30 = some true := by kernel_rfl
theorem shown_at : At (fun k => demurragelaw21_shown.f k) true := At.grow (K := 30) demurragelaw21_shown.mono shown_table

end Go.Proofs.Yteikafepdkijdaa.Pure

set_option maxRecDepth 10000
namespace Go.Proofs.Yteikafepdkijdaa.Pure
open Go.RowKit Go.Proofs.Yteikafepdkijdaa.X Go.Proofs.YteikafepdkijdaaW.PrintWords Go.Proofs.YteikafepdkijdaaW.PrintLast

theorem fits_ok' {x n : Int} (h0 : 0 ≤ n) (h1 : n ≤ 4611686018427387904) (h2 : x + n ≤ 4611686018427387904) (h3 : 0 ≤ x) : fitsB x n = true ∧ addv x n = x + n := by
 have w : wrap64 (4611686018427387904 - n) = 4611686018427387904 - n := wrap64_small (by omega) (by omega)
 have f : fitsB x n = true := by
  unfold fitsB
  rw [w, decide_eq_false (by clear w; omega), decide_eq_false (by clear w; omega)]
  rfl
 have w2 : wrap64 (x + n) = x + n := wrap64_small (by clear w; omega) (by clear w; omega)
 exact ⟨f, by unfold addv; rw [if_pos f, w2]⟩
def sm (f : S48 → Int) : List S48 → Int
 | [] => 0
 | r :: l => f r + sm f l
theorem sm_append (f : S48 → Int) (b : List S48) : ∀ a, sm f (a ++ b) = sm f a + sm f b
 | [] => by
  show sm f b = 0 + sm f b
  rw [Int.zero_add]
 | r :: a => by
  show f r + sm f (a ++ b) = f r + sm f a + sm f b
  rw [sm_append f b a, Int.add_assoc]
theorem rd_get (X : List S48) {i : Nat} (h : i < X.length) : rd_T48 X (i : Int) = X[i] := by
 unfold rd_T48
 rw [Int.toNat_natCast, List.getD_eq_getElem?_getD, List.getElem?_eq_getElem h]
 rfl
theorem drop_rd (X : List S48) {i : Nat} (h : i < X.length) : X.drop i = rd_T48 X (i : Int) :: X.drop (i + 1) := by
 rw [rd_get X h]
 exact List.drop_eq_getElem_cons h

def Fewr (r : S48) : Prop := 0 ≤ r.f1 ∧ 0 ≤ r.f2 ∧ 0 ≤ r.f3 ∧ r.f1 ≤ 1000000000000000 ∧ r.f2 ≤ 1000000000000000 ∧ r.f3 ≤ 1000000000000000
def Fews (X : List S48) : Prop := ∀ j : Nat, j < X.length → Fewr (rd_T48 X (j : Int))
theorem rd_left (a b : List S48) {j : Nat} (h : j < a.length) : rd_T48 (a ++ b) (j : Int) = rd_T48 a (j : Int) := by
 rw [rd_get (a ++ b) (by rw [List.length_append]; omega), rd_get a h]
 exact List.getElem_append_left h
theorem rd_right (a b : List S48) {j : Nat} (h : j < b.length) : rd_T48 (a ++ b) ((a.length + j : Nat) : Int) = rd_T48 b (j : Int) := by
 rw [rd_get (a ++ b) (by rw [List.length_append]; omega), rd_get b h, List.getElem_append_right (by omega)]
 congr 1
 omega
theorem fews_append {a b : List S48} (ha : Fews a) (hb : Fews b) : Fews (a ++ b) := by
 intro j hj
 rw [List.length_append] at hj
 by_cases c : j < a.length
 ·rw [rd_left a b c]
  exact ha j c
 ·obtain ⟨q, rfl⟩ : ∃ q, j = a.length + q := ⟨j - a.length, by omega⟩
  rw [rd_right a b (by omega)]
  exact hb q (by omega)
theorem few_loop (l : List S48) (hl : l.length ≤ 40) : ∀ (m i : Nat), i + m = l.length → ∃ u, At (fun k => demurragelaw21_few.l0 k l (i : Int)) u ∧ (u = true → ∀ j : Nat, i ≤ j → j < l.length → Fewr (rd_T48 l (j : Int))) := by
 intro m
 induction m with
 | zero =>
  intro i hi
  refine ⟨true, ⟨1, fun k hk => ?_⟩, fun _ j h1 h2 => by omega⟩
  obtain ⟨q, rfl⟩ : ∃ q, k = q + 1 := ⟨k - 1, by omega⟩
  show demurragelaw21_few.l0 (q + 1) l (i : Int) = _
  rw [demurragelaw21_few.l0, if_neg (by omega)]
 | succ m ih =>
  intro i hi
  obtain ⟨u, ⟨K1, h1⟩, hu⟩ := ih (i + 1) (by omega)
  have wi : wrap64 ((i : Int) + 1) = ((i + 1 : Nat) : Int) := by rw [wrap64_small (by omega) (by omega)]; omega
  have t1 : (i : Int) < (l.length : Int) := by clear wi; omega
  have t2 : (0 : Int) ≤ (i : Int) := by clear wi; omega
  by_cases c : Fewr (rd_T48 l (i : Int))
  ·obtain ⟨c1, c2, c3, c4, c5, c6⟩ := id c
   refine ⟨u, ⟨K1 + 1, fun k hk => ?_⟩, fun e j g1 g2 => ?_⟩
   ·obtain ⟨q, rfl⟩ : ∃ q, k = q + 1 := ⟨k - 1, by clear wi; omega⟩
    have h1 := h1 q (by clear wi; omega)
    show demurragelaw21_few.l0 (q + 1) l (i : Int) = _
    rw [demurragelaw21_few.l0, if_pos t1, if_pos t2, if_neg (by clear wi; omega), if_neg (by clear wi; omega), if_neg (by clear wi; omega), if_neg (by clear wi; omega), if_neg (by clear wi; omega), if_neg (by clear wi; omega), wi]
    exact h1
   ·by_cases z : j = i
    ·subst z
     exact c
    ·exact hu e j (by clear wi; omega) g2
  ·refine ⟨false, ⟨1, fun k hk => ?_⟩, fun e => by cases e⟩
   obtain ⟨q, rfl⟩ : ∃ q, k = q + 1 := ⟨k - 1, by clear wi; omega⟩
   show demurragelaw21_few.l0 (q + 1) l (i : Int) = _
   rw [demurragelaw21_few.l0, if_pos t1, if_pos t2]
   generalize rd_T48 l (i : Int) = x at c
   clear wi t1 t2
   by_cases d1 : x.f1 < 0
   ·rw [if_pos d1]
   ·rw [if_neg d1]
    by_cases d2 : x.f2 < 0
    ·rw [if_pos d2]
    ·rw [if_neg d2]
     by_cases d3 : x.f3 < 0
     ·rw [if_pos d3]
     ·rw [if_neg d3]
      by_cases d4 : x.f1 > 1000000000000000
      ·rw [if_pos d4]
      ·rw [if_neg d4]
       by_cases d5 : x.f2 > 1000000000000000
       ·rw [if_pos d5]
       ·rw [if_neg d5]
        by_cases d6 : x.f3 > 1000000000000000
        ·rw [if_pos d6]
        ·exact absurd ⟨by omega, by omega, by omega, by omega, by omega, by omega⟩ c
theorem few_at (l : List S48) (hl : l.length ≤ 40) : ∃ u, At (fun k => demurragelaw21_few.f k l) u ∧ (u = true → Fews l) := by
 obtain ⟨u, h, g⟩ := few_loop l hl l.length 0 (by omega)
 exact ⟨u, h, fun e j hj => g e j (by omega) hj⟩

theorem index_few {X : List S48} (h : Fews X) (hl : X.length ≤ 40) : ∀ (d i k : Nat), i + d = X.length → d + 1 ≤ k → slices_IndexFunc.l0 k X (i : Int) = some (-1) := by
 intro d
 induction d with
 | zero =>
  intro i k hi hk
  obtain ⟨q, rfl⟩ : ∃ q, k = q + 1 := ⟨k - 1, by omega⟩
  rw [slices_IndexFunc.l0, if_neg (by omega)]
 | succ d ih =>
  intro i k hi hk
  obtain ⟨q, rfl⟩ : ∃ q, k = q + 1 := ⟨k - 1, by omega⟩
  obtain ⟨f1, f2, f3, _⟩ := h i (by omega)
  have b : badB (rd_T48 X (i : Int)) = false := by
   unfold badB
   rw [decide_eq_false (by omega), decide_eq_false (by omega), decide_eq_false (by omega)]
   rfl
  have wi : wrap64 ((i : Int) + 1) = ((i + 1 : Nat) : Int) := by rw [wrap64_small (by omega) (by omega)]; omega
  rw [slices_IndexFunc.l0, if_pos (by clear wi; omega), if_pos (by clear wi; omega), b, if_neg (by decide), wi]
  exact ih (i + 1) q (by clear wi; omega) (by clear wi; omega)
theorem adds_from {X : List S48} (h : Fews X) (hl : X.length ≤ 40) (o c : Int) : ∀ (d i k : Nat), i + d = X.length → d + 1 ≤ k → ∀ x1 x2 x3 : Int, 0 ≤ x1 → 0 ≤ x2 → 0 ≤ x3 → x1 ≤ i * 1000000000000000 → x2 ≤ i * 1000000000000000 → x3 ≤ i * 1000000000000000 →
  table_Sums.l0 k X o c x1 x2 x3 (i : Int) = some (o, x1 + sm (·.f1) (X.drop i), x2 + sm (·.f2) (X.drop i), x3 + sm (·.f3) (X.drop i), c, 0) := by
 intro d
 induction d with
 | zero =>
  intro i k hi hk x1 x2 x3 _ _ _ _ _ _
  obtain ⟨q, rfl⟩ : ∃ q, k = q + 1 := ⟨k - 1, by omega⟩
  have e : X.drop i = [] := List.drop_eq_nil_of_le (by omega)
  rw [table_Sums.l0, if_neg (by omega), e]
  show _ = some (o, x1 + 0, x2 + 0, x3 + 0, c, 0)
  rw [Int.add_zero, Int.add_zero, Int.add_zero]
 | succ d ih =>
  intro i k hi hk x1 x2 x3 a1 a2 a3 a4 a5 a6
  obtain ⟨q, rfl⟩ : ∃ q, k = q + 1 := ⟨k - 1, by omega⟩
  have hlt : i < X.length := by omega
  obtain ⟨f1, f2, f3, f4, f5, f6⟩ := h i hlt
  obtain ⟨b1, c1⟩ := fits_ok' (x := x1) (n := (rd_T48 X (i : Int)).f1) f1 (by omega) (by omega) a1
  obtain ⟨b2, c2⟩ := fits_ok' (x := x2) (n := (rd_T48 X (i : Int)).f2) f2 (by omega) (by omega) a2
  obtain ⟨b3, c3⟩ := fits_ok' (x := x3) (n := (rd_T48 X (i : Int)).f3) f3 (by omega) (by omega) a3
  have wi : wrap64 ((i : Int) + 1) = ((i + 1 : Nat) : Int) := by rw [wrap64_small (by omega) (by omega)]; omega
  have g := ih (i + 1) q (by clear wi; omega) (by clear wi; omega) (x1 + (rd_T48 X (i : Int)).f1) (x2 + (rd_T48 X (i : Int)).f2) (x3 + (rd_T48 X (i : Int)).f3) (by clear wi; omega) (by clear wi; omega) (by clear wi; omega) (by clear wi; omega) (by clear wi; omega) (by clear wi; omega)
  rw [table_Sums.l0, if_pos (by clear wi; omega), if_pos (by clear wi; omega), b1, b2, b3, Bool.and_self, Bool.and_self, if_pos rfl, c1, c2, c3, wi, g, drop_rd X hlt]
  show some (o, x1 + _ + sm _ _, x2 + _ + sm _ _, x3 + _ + sm _ _, c, 0) = some (o, x1 + (_ + sm _ _), x2 + (_ + sm _ _), x3 + (_ + sm _ _), c, 0)
  rw [Int.add_assoc, Int.add_assoc, Int.add_assoc]
theorem adds_at {X : List S48} (h : Fews X) (hl : X.length ≤ 40) (hpos : 0 < X.length) (k : Nat) (hk : 41 ≤ k) : table_Sums.f k X = some ((rd_T48 X ((0 : Nat) : Int)).f0, sm (·.f1) X, sm (·.f2) X, sm (·.f3) X, (rd_T48 X ((X.length - 1 : Nat) : Int)).f4, 0) := by
 have w : wrap64 ((X.length : Int) - 1) = ((X.length - 1 : Nat) : Int) := by
  rw [wrap64_small (by omega) (by omega)]
  omega
 have ix : slices_IndexFunc.l0 k X 0 = some (-1) := index_few h hl X.length 0 k (by omega) (by omega)
 have g := adds_from h hl (rd_T48 X 0).f0 (rd_T48 X ((X.length - 1 : Nat) : Int)).f4 X.length 0 k (by omega) (by omega) 0 0 0 (Int.le_refl _) (Int.le_refl _) (Int.le_refl _) (by simp) (by simp) (by simp)
 rw [List.drop_zero, Int.zero_add, Int.zero_add, Int.zero_add] at g
 unfold table_Sums.f
 rw [if_neg (by omega), ix, Option.bind_some, if_neg (by decide), if_pos (by omega), w, if_pos (by omega), if_pos (by omega)]
 exact g
theorem sm_in {X : List S48} (f : S48 → Int) (hf : ∀ r, Fewr r → 0 ≤ f r ∧ f r ≤ 1000000000000000) (h : Fews X) : ∀ (d i : Nat), i + d = X.length → 0 ≤ sm f (X.drop i) ∧ sm f (X.drop i) ≤ d * 1000000000000000
 | 0, i, hi => by
  have e : X.drop i = [] := List.drop_eq_nil_of_le (by omega)
  rw [e]
  show 0 ≤ (0 : Int) ∧ (0 : Int) ≤ ((0 : Nat) : Int) * _
  simp
 | d + 1, i, hi => by
  have g := sm_in f hf h d (i + 1) (by omega)
  have b := hf _ (h i (by omega))
  rw [drop_rd X (by omega)]
  show 0 ≤ f _ + sm f _ ∧ f _ + sm f _ ≤ ((d + 1 : Nat) : Int) * 1000000000000000
  omega
end Go.Proofs.Yteikafepdkijdaa.Pure

namespace Go.Proofs.Yteikafepdkijdaa.Flat
open Go.Deep Go.ChangeShapes Go.WideShapes Go.ChangeAt Go.RowKit Go.Proofs.Yteikafepdkijdaa.X Go.Proofs.YteikafepdkijdaaW.PrintWords

set_option maxRecDepth 100000 in
theorem open_rows {H : Type} {enc : TypeId × Value → H} {w : World} {base : Nat} {spare : Nat → Bool} {held : Bool} {r : Reach} {b0 : Nat} {v : Value} {d : DataW H} {ps : List MemPlace}
  (hv : Value.okWide Try.prog w r b0 33 v) (h : DataW.Trod enc Try.prog w base spare held 33 v d ps) :
  ∃ (A : Option Addr) (c : Nat) (l : List S48), v = .slice A l.length c ∧ l.length ≤ c ∧ Kd.C k48 w A l.length l ∧ ∀ x ∈ l, (Lit.int .i64 x.f0).wf = true ∧ (Lit.int .i64 x.f1).wf = true ∧ (Lit.int .i64 x.f2).wf = true ∧ (Lit.int .i64 x.f3).wf = true ∧ (Lit.int .i64 x.f4).wf = true := by
 obtain ⟨a, len, cap, rfl⟩ := okWide_slice Try.underlying33 hv
 obtain ⟨fuel, hf⟩ := h
 rcases open_slice Try.underlying33 hf with ⟨hcs, _⟩ | ⟨x, ln, cp, m, n, D, Pl, hcs, hb, hl, hm, hmm, hx, hel⟩
 ·simp [Value.cells] at hcs
  obtain ⟨rfl, rfl, rfl⟩ := hcs
  exact ⟨none, 0, [], rfl, Nat.le_refl _, Kd.C_nil _ _, fun x hx => by cases hx⟩
 ·simp [Value.cells] at hcs
  obtain ⟨rfl, rfl, rfl⟩ := hcs
  have hlm : len ≤ m := by rw [hmm]; split <;> omega
  have hc2 : Try.prog.cellsOf 48 = 5 := by kernel_rfl
  have each : ∀ i, i < len → ∃ q : S48, w.cell? (x.add (i * 5)) = some (.int .i64 q.f0) ∧ w.cell? (x.add (i * 5 + 1)) = some (.int .i64 q.f1) ∧ w.cell? (x.add (i * 5 + 2)) = some (.int .i64 q.f2) ∧ w.cell? (x.add (i * 5 + 3)) = some (.int .i64 q.f3) ∧ w.cell? (x.add (i * 5 + 4)) = some (.int .i64 q.f4) ∧ (Lit.int .i64 q.f0).wf = true ∧ (Lit.int .i64 q.f1).wf = true ∧ (Lit.int .i64 q.f2).wf = true ∧ (Lit.int .i64 q.f3).wf = true ∧ (Lit.int .i64 q.f4).wf = true := by
   intro i hi
   obtain ⟨cs', h1, h2⟩ := hel i (by omega)
   rw [hc2] at h1
   obtain ⟨_, hlen, hcell⟩ := World.cells?_some h1
   obtain ⟨hcc, _⟩ := Flat.read 6 n 48 [.i64, .i64, .i64, .i64, .i64] cs' (D i, Pl i) (by kernel_rfl) hc2 h2
   obtain ⟨n0, vs, rfl, w0, hcc⟩ := cells_cons hcc
   obtain ⟨n1, vs, rfl, w1, hcc⟩ := cells_cons hcc
   obtain ⟨n2, vs, rfl, w2, hcc⟩ := cells_cons hcc
   obtain ⟨n3, vs, rfl, w3, hcc⟩ := cells_cons hcc
   obtain ⟨n4, vs, rfl, w4, hcc⟩ := cells_cons hcc
   obtain rfl := cells_nil hcc
   have c0 := hcell 0 (by omega)
   have c1 := hcell 1 (by omega)
   have c2 := hcell 2 (by omega)
   have c3 := hcell 3 (by omega)
   have c4 := hcell 4 (by omega)
   rw [Go.Deep.add_add] at c0 c1 c2 c3 c4
   exact ⟨⟨n0, n1, n2, n3, n4⟩, by simpa using c0, by simpa using c1, by simpa using c2, by simpa using c3, by simpa using c4, w0, w1, w2, w3, w4⟩
  haveI : Inhabited S48 := ⟨⟨0, 0, 0, 0, 0⟩⟩
  obtain ⟨q, hq⟩ := choose_lt each
  have el : ((List.range len).map q).length = len := by simp
  refine ⟨some x, cap, (List.range len).map q, by rw [el], by omega, ?_, ?_⟩
  ·rw [el]
   refine ⟨el, by unfold maxLen at hm; omega, fun _ => ⟨x, rfl, fun j p hj => ?_⟩⟩
   obtain ⟨h1, h2⟩ := List.getElem?_eq_some_iff.1 hj
   rw [el] at h1
   have e : p = q j := by rw [← h2]; simp
   subst e
   obtain ⟨g0, g1, g2, g3, g4, _, _, _, _, _⟩ := hq j h1
   refine ⟨[.int .i64 (q j).f0, .int .i64 (q j).f1, .int .i64 (q j).f2, .int .i64 (q j).f3, .int .i64 (q j).f4], rfl, k48_mk w (q j), fun i u hu => ?_⟩
   match i, hu with
   | 0, hu =>
    simp at hu
    subst hu
    exact g0
   | 1, hu =>
    simp at hu
    subst hu
    exact g1
   | 2, hu =>
    simp at hu
    subst hu
    exact g2
   | 3, hu =>
    simp at hu
    subst hu
    exact g3
   | 4, hu =>
    simp at hu
    subst hu
    exact g4
   | i + 5, hu => simp at hu
  ·intro y hy
   obtain ⟨j, hj, rfl⟩ := List.mem_map.1 hy
   have := List.mem_range.1 hj
   exact (hq j this).2.2.2.2.2
end Go.Proofs.Yteikafepdkijdaa.Flat

