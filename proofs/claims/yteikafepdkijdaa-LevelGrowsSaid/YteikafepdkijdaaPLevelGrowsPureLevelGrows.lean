/- LevelGrows: of more, or at a higher rate, the least payment isn't less; it isn't below the amount by the number of parts, nor above the amount and its greatest interest. -/
import Derived.Test.YteikafepdkijdaaPLevelGrowsXLevelGrows
import Derived.Test.YteikafepdkijdaaPLevelGrowsT
set_option maxRecDepth 10000
namespace Go.Proofs.Yteikafepdkijdaa.Pure
open Go.RowKit Go.Proofs.Yteikafepdkijdaa.X Go.Proofs.YteikafepdkijdaaW.PrintWords Go.Proofs.YteikafepdkijdaaW.PrintLast

theorem grows_loop {m r a : Int} {ps : List S56} (m0 : 0 ≤ m) (m1 : m ≤ 1000000000000000) (r0 : 0 ≤ r) (r1 : r ≤ 9000) (hp : ps.length ≤ 1200) (hpos : 0 < ps.length) (hu : ∀ j : Nat, j < ps.length → Us (rd_T56 ps (j : Int)))
  (ha : ∃ j, j < ps.length ∧ a ≤ m + intr m r (rd_T56 ps (j : Int))) : ∀ (d i : Nat), i + d = ps.length → ∀ s : Int, 0 ≤ s → s ≤ 90000000000000001 → (∀ j : Nat, j < i → intr m r (rd_T56 ps (j : Int)) ≤ s) →
   At (fun k => demurragelaw20_LevelGrows.l0 k ps true (ps.length : Int) m r a s (i : Int)) true := by
 intro d
 induction d with
 | zero =>
  intro i hi s s0 s1 h
  obtain ⟨j, hj, ja⟩ := ha
  have hs := h j (by omega)
  have w : wrap64 (m + s) = m + s := wrap64_small (by omega) (by omega)
  refine ⟨1, fun k hk => ?_⟩
  obtain ⟨q, rfl⟩ : ∃ q, k = q + 1 := ⟨k - 1, by clear w; omega⟩
  show demurragelaw20_LevelGrows.l0 (q + 1) ps true (ps.length : Int) m r a s (i : Int) = _
  rw [demurragelaw20_LevelGrows.l0, if_neg (by clear w; omega), if_pos rfl, w, decide_eq_true (by clear w; omega)]
 | succ d ih =>
  intro i hi s s0 s1 h
  obtain ⟨f1, f2, f3⟩ := intr_fits (o := m) (r := r) (x := rd_T56 ps (i : Int)) m0 m1 r0 r1 (hu i (by omega))
  obtain ⟨K1, g⟩ := refof_at (a := m) (b := r) (n := (rd_T56 ps (i : Int)).f0) (d := (rd_T56 ps (i : Int)).f1) (by omega) (by omega)
  rw [f1] at g
  clear f1
  have wi : wrap64 ((i : Int) + 1) = ((i + 1 : Nat) : Int) := by rw [wrap64_small (by omega) (by omega)]; omega
  have t1 : (i : Int) < (ps.length : Int) := by clear wi; omega
  have t2 : (0 : Int) ≤ (i : Int) := by clear wi; omega
  by_cases c : intr m r (rd_T56 ps (i : Int)) > s
  ·obtain ⟨K2, e⟩ := ih (i + 1) (by clear wi; omega) (intr m r (rd_T56 ps (i : Int))) f2 f3 (fun j hj => by
    by_cases z : j = i
    ·subst z
     exact Int.le_refl _
    ·have := h j (by clear wi; omega)
     clear wi
     omega)
   refine ⟨K1 + K2 + 1, fun k hk => ?_⟩
   obtain ⟨q, rfl⟩ : ∃ q, k = q + 1 := ⟨k - 1, by clear wi; omega⟩
   have g : demurrageref18_Of.f q m r (rd_T56 ps (i : Int)).f0 (rd_T56 ps (i : Int)).f1 = some (intr m r (rd_T56 ps (i : Int)), 0) := g q (by clear wi; omega)
   show demurragelaw20_LevelGrows.l0 (q + 1) ps true (ps.length : Int) m r a s (i : Int) = _
   rw [demurragelaw20_LevelGrows.l0, if_pos t1, if_pos t2, if_pos t1, g, Option.bind_some, if_pos c, wi]
   exact e q (by clear wi; omega)
  ·obtain ⟨K2, e⟩ := ih (i + 1) (by clear wi; omega) s s0 s1 (fun j hj => by
    by_cases z : j = i
    ·subst z
     clear wi
     omega
    ·exact h j (by clear wi; omega))
   refine ⟨K1 + K2 + 1, fun k hk => ?_⟩
   obtain ⟨q, rfl⟩ : ∃ q, k = q + 1 := ⟨k - 1, by clear wi; omega⟩
   have g : demurrageref18_Of.f q m r (rd_T56 ps (i : Int)).f0 (rd_T56 ps (i : Int)).f1 = some (intr m r (rd_T56 ps (i : Int)), 0) := g q (by clear wi; omega)
   show demurragelaw20_LevelGrows.l0 (q + 1) ps true (ps.length : Int) m r a s (i : Int) = _
   rw [demurragelaw20_LevelGrows.l0, if_pos t1, if_pos t2, if_pos t1, g, Option.bind_some, if_neg c, wi]
   exact e q (by clear wi; omega)

theorem LevelGrows (a o b d : Int) (l : List S56) (wa : (Lit.int .u64 a).wf = true) (wo : (Lit.int .u32 o).wf = true) (wb : (Lit.int .u16 b).wf = true) (wd : (Lit.int .u16 d).wf = true) (_ : ∀ x ∈ l, (Lit.int .i64 x.f0).wf = true ∧ (Lit.int .i64 x.f1).wf = true) : ∃ k, demurragelaw20_LevelGrows.f k a o b d l = some true := by
 have ha := u64_wf wa
 have ho := u32_wf' wo
 have hb := u16_wf' wb
 have hd := u16_wf' wd
 obtain ⟨K0, h0⟩ := shown_at
 have yes : ∀ k, demurragelaw20_LevelGrows.j0 (k + 1) a o b d l true (l.length : Int) true = some true := fun k => by rw [demurragelaw20_LevelGrows.j0, if_pos rfl]
 by_cases c1 : (l.length : Int) < 1
 ·refine ⟨K0 + 1, ?_⟩
  have h0 : demurragelaw20_shown.f (K0 + 1) = some true := h0 _ (by omega)
  unfold demurragelaw20_LevelGrows.f
  rw [h0, Option.bind_some, if_pos c1]
  exact yes K0
 ·by_cases c2 : (l.length : Int) > 20
  ·refine ⟨K0 + 1, ?_⟩
   have h0 : demurragelaw20_shown.f (K0 + 1) = some true := h0 _ (by omega)
   unfold demurragelaw20_LevelGrows.f
   rw [h0, Option.bind_some, if_neg c1, if_pos c2]
   exact yes K0
  ·obtain ⟨u, ⟨K1, h1⟩, hu⟩ := usual_at l (by omega)
   cases u with
   | false =>
    refine ⟨K0 + K1 + 1, ?_⟩
    have h0 : demurragelaw20_shown.f (K0 + K1 + 1) = some true := h0 _ (by omega)
    have h1 : demurrageref18_Usual.f (K0 + K1 + 1) l = some false := h1 _ (by omega)
    unfold demurragelaw20_LevelGrows.f
    rw [h0, Option.bind_some, if_neg c1, if_neg c2, h1, Option.bind_some]
    exact yes (K0 + K1)
   | true =>
    have us := hu rfl
    obtain ⟨em, m0, m1⟩ := money (m := 900000000000000) ha (by omega) (by omega)
    obtain ⟨er, r0, r1⟩ := ratep (m := 4501) hb.1 (by omega) (by omega)
    obtain ⟨ex, x0, x1⟩ := ratep (m := 4500) hd.1 (by omega) (by omega)
    have eo : wrap64 o = o := wrap64_small (by omega) (by omega)
    generalize hm : a % 900000000000000 = m at em m0 m1
    generalize hr : b % 4501 = r at er r0 r1
    generalize hx : d % 4500 = x at ex x0 x1
    have z1 : l.length ≤ 1200 := by clear em er eo ex; omega
    have z2 : 0 < l.length := by clear em er eo ex; omega
    have z3 : m ≤ 1000000000000000 := by clear em er eo ex; omega
    have z4 : r ≤ 9000 := by clear em er eo ex; omega
    obtain ⟨p, p0, p1, ⟨K2, p2⟩, p3, p4, p5, p6⟩ := least_at (m := m) (r := r) m0 z3 r0 z4 z1 z2 us
    obtain ⟨q, q0, q1, ⟨K3, q2⟩, q3, q4, q5, _⟩ := least_at (m := m + o) (r := r) (by clear em er eo ex; omega) (by clear em er eo ex; omega) r0 z4 z1 z2 us
    obtain ⟨s, s0, s1, ⟨K4, s2⟩, s3, s4, s5, _⟩ := least_at (m := m) (r := r + x) m0 z3 (by clear em er eo ex; omega) (by clear em er eo ex; omega) z1 z2 us
    have n0 : ∀ j : Nat, j ≤ l.length - 1 → Us (rd_T56 l (j : Int)) := fun j hj => us j (by clear em er eo ex; omega)
    have pq : p ≤ q := by
     by_cases c : p ≤ q
     ·exact c
     ·have h := p4 q q0 (by clear em er eo ex; omega)
      have g := lp_mono (m := m) (m' := m + o) (r := r) (r' := r) (p := q) (p' := q) (ps := l) m0 (by clear em er eo ex; omega) r0 (Int.le_refl _) (Int.le_refl _) n0
      clear em er eo ex; omega
    have psx : p ≤ s := by
     by_cases c : p ≤ s
     ·exact c
     ·have h := p4 s s0 (by clear em er eo ex; omega)
      have g := lp_mono (m := m) (m' := m) (r := r) (r' := r + x) (p := s) (p' := s) (ps := l) m0 (Int.le_refl _) r0 (by clear em er eo ex; omega) (Int.le_refl _) n0
      clear em er eo ex; omega
    have up : p ≤ 90000000000000001 + 1000000000000000 := by
     obtain ⟨j, hj, hp⟩ := p6
     have f := (intr_fits (o := m) (r := r) (x := rd_T56 l (j : Int)) m0 z3 r0 z4 (us j hj)).2.2
     clear em er eo ex; omega
    have low : m ≤ p * (l.length : Int) := by
     have i0 : ∀ j : Nat, j < l.length → 0 ≤ intr (op m r p l j) r (rd_T56 l (j : Int)) := fun j hj => by
      have oi := op_in (r := r) (pay := p) (ps := l) m0 j
      exact (intr_fits (o := op m r p l j) (r := r) (x := rd_T56 l (j : Int)) oi.1 (by clear em er eo ex; omega) r0 z4 (us j hj)).2.1
     have g := op_less (m := m) (r := r) (p := p) (ps := l) m0 p0 (n := l.length - 1) (fun j hj => i0 j (by clear em er eo ex; omega)) (l.length - 1) (Nat.le_refl _)
     have i1 := i0 (l.length - 1) (by clear em er eo ex; omega)
     have e : p * (l.length : Int) = ((l.length - 1 : Nat) : Int) * p + p := by
      have : (l.length : Int) = ((l.length - 1 : Nat) : Int) + 1 := by clear em er eo ex; omega
      rw [Int.mul_comm, this, Int.add_mul, Int.one_mul]
     unfold lp at p3
     rw [e]
     clear em er eo ex; omega
    have high : p * (l.length : Int) ≤ 91000000000000001 * 20 := Int.mul_le_mul (by clear em er eo ex; omega) (by clear em er eo ex; omega) (by clear em er eo ex; omega) (by clear em er eo ex; omega)
    obtain ⟨K5, g⟩ := grows_loop (a := p) m0 z3 r0 z4 z1 z2 us p6 l.length 0 (by clear em er eo ex; omega) 0 (Int.le_refl _) (by clear em er eo ex; omega) (fun j hj => by clear em er eo ex; omega)
    generalize hk : K0 + K1 + K2 + K3 + K4 + K5 = k
    have h0 : demurragelaw20_shown.f (k + 1) = some true := h0 _ (by clear em er eo ex; omega)
    have h1 : demurrageref18_Usual.f (k + 1) l = some true := h1 _ (by clear em er eo ex; omega)
    have p2 : level_Least.f k m r l = some (p, 0) := p2 _ (by clear em er eo ex; omega)
    have q2 : level_Least.f k (m + o) r l = some (q, 0) := q2 _ (by clear em er eo ex; omega)
    have s2 : level_Least.f k m (r + x) l = some (s, 0) := s2 _ (by clear em er eo ex; omega)
    have g : demurragelaw20_LevelGrows.l0 k l true (l.length : Int) m r p 0 0 = some true := g _ (by clear em er eo ex; omega)
    have n1 : ¬ q < p := by clear em er eo ex; omega
    have n2 : ¬ s < p := by clear em er eo ex; omega
    have n3 : ¬ p * (l.length : Int) < m := by clear em er eo ex; omega
    have pn : 0 ≤ p * (l.length : Int) := by clear em er eo ex; omega
    have w1 : wrap64 (m + o) = m + o := wrap64_small (by clear em er eo ex; omega) (by clear em er eo ex; omega)
    have w2 : wrap64 (r + x) = r + x := wrap64_small (by clear w1; clear em er eo ex; omega) (by clear w1; clear em er eo ex; omega)
    have w3 : wrap64 (p * (l.length : Int)) = p * (l.length : Int) := wrap64_small (by clear w1 w2; clear em er eo ex; omega) (by clear w1 w2; clear em er eo ex; omega)
    refine ⟨k + 1, ?_⟩
    unfold demurragelaw20_LevelGrows.f
    rw [h0, Option.bind_some, if_neg c1, if_neg c2, h1, Option.bind_some]
    show demurragelaw20_LevelGrows.j0 (k + 1) a o b d l true (l.length : Int) false = some true
    rw [demurragelaw20_LevelGrows.j0, if_neg (by decide), em, er, p2, Option.bind_some, eo, w1, q2, Option.bind_some, ex, w2, s2, Option.bind_some, if_pos rfl, if_pos rfl, if_pos rfl, if_neg n1, if_neg n2, w3, if_neg n3]
    exact g
end Go.Proofs.Yteikafepdkijdaa.Pure
