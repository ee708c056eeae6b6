-- cut by prune.py, a program of this session
import Derived.Test.YteikafepdkijdaaPTableSumsHEnds
import Derived.Test.YteikafepdkijdaaPTableSumsXMost
import Derived.WalkMore
import Derived.ScopeJumps
namespace Go.Proofs.Yteikafepdkijdaa.X
open Go.RowKit Go.Proofs.YteikafepdkijdaaW.PrintWords Go.Proofs.YteikafepdkijdaaW.PrintLast Go.Proofs.YteikafepdkijdaaW.PrintMore
set_option linter.unusedVariables false
set_option linter.unusedSimpArgs false

theorem wp_scope_ghost {P : Program} {a : Act} {w : World} {Q : Exit → Act → World → Prop} {c rest : Code} (l : Nat) (J : Nat → Act → World → Prop) (hf : findLabel c l = some (Code.seq .skip rest))
  (pass : ∀ n a w, J n a w → rest.wp P (Exit.jump l (fun a' w' => ∃ n', n' < n ∧ J n' a' w') Q) a w) (first : (∀ n a w, J n a w → rest.wp P (Exit.jump l (fun a w => ∃ n, J n a w) Q) a w) → c.wp P (Exit.jump l (fun a w => ∃ n, J n a w) Q) a w) : (Code.scope c).wp P Q a w := by
 refine wp_scope_jumps l (fun a w => ∃ n, J n a w) (fun a w => leastOf (fun n => J n a w)) hf (first ?_) ?_
 ·intro n a w hI
  refine wp_mono (pass n a w hI) ?_
  intro e a' w' hq
  cases e with
  | goto l' =>
   obtain ⟨rfl, n', _, hI'⟩ := hq
   exact ⟨rfl, n', hI'⟩
  | normal => exact hq
  | exit id => exact hq
  | ret => exact hq
  | panic ch => exact hq
  | outgrown => exact hq
 intro a w hI
 refine wp_mono (wp_seq (wp_skip (pass _ a w (leastOf_spec hI).1))) ?_
 intro e a' w' hq
 cases e with
 | goto l' =>
  obtain ⟨rfl, n', hlt, hI'⟩ := hq
  exact ⟨rfl, ⟨n', hI'⟩, Nat.lt_of_le_of_lt ((leastOf_spec ⟨n', hI'⟩).2 n' hI') hlt⟩
 | normal => exact hq
 | exit id => exact hq
 | ret => exact hq
 | panic ch => exact hq
 | outgrown => exact hq

def level_Least.l0 : Nat → Int → Int → List S56 → Int → Int → Option Int
 | 0, _, _, _, _, _ => none
 | k + 1, a0, a1, l2, lo, hi => if lo = hi then some lo else ((level_ends.f k a0 a1 l2 (wrap64 (lo + wrap64 (Int.tdiv (wrap64 (hi - lo)) 2)))).bind fun t => if t = true then level_Least.l0 k a0 a1 l2 lo (wrap64 (lo + wrap64 (Int.tdiv (wrap64 (hi - lo)) 2))) else level_Least.l0 k a0 a1 l2 (wrap64 ((wrap64 (lo + wrap64 (Int.tdiv (wrap64 (hi - lo)) 2))) + 1)) hi)
def level_Least.f (k : Nat) (a0 a1 : Int) (l2 : List S56) : Option (Int × Int) := (level_most.f k a0 a1 l2).bind fun t => if t.2 = 0 then (level_Least.l0 k a0 a1 l2 0 t.1).bind fun p => some (p, 0) else some (0, t.2)
theorem level_Least.mono_l : ∀ k, (∀ y0 y1 y2 y3 y4, LeO (level_Least.l0 k y0 y1 y2 y3 y4) (level_Least.l0 (k + 1) y0 y1 y2 y3 y4))
 | 0 => fun _ _ _ _ _ r h => by simp [level_Least.l0] at h
 | k + 1 => by
  have ih := level_Least.mono_l k
  intro y0 y1 y2 y3 y4
  rw [level_Least.l0, level_Least.l0]
  refine LeO.ite (LeO.refl _) (LeO.bind (level_ends.mono _ _ _ _ _) (fun _ => LeO.ite (ih _ _ _ _ _) (ih _ _ _ _ _)))
theorem level_Least.mono : ∀ a0 a1 l2 k, LeO (level_Least.f k a0 a1 l2) (level_Least.f (k + 1) a0 a1 l2) := fun a0 a1 l2 k => LeO.bind (level_most.mono _ _ _ _) (fun _ => LeO.ite (LeO.bind (level_Least.mono_l k _ _ _ _ _) (fun _ => LeO.refl _)) (LeO.refl _))

def LeastAt (a0 a1 : Int) (A2 : Option Addr) (c2 : Nat) (l2 : List S56) (p : Int) (w : World) (n : Nat) (a : Act) (w' : World) : Prop :=
 ∃ (lo hi : Int) (u6 u7 u9 u11 u12 u13 u14 u15 u16 u17 u18 u19 u20 u21 u22 u23 u24 u25 u26 u27 u28 u29 u30 u31 u32 u33 u34 u35 u36 u37 u38 u39 : Value), a = { tmps := #[Value.int .i64 a0, Value.int .i64 a1, Value.slice A2 l2.length c2, undef, undef, undef, u6, u7, Value.int .i64 hi, u9, Value.int .i64 lo, u11, u12, u13, u14, u15, u16, u17, u18, u19, u20, u21, u22, u23, u24, u25, u26, u27, u28, u29, u30, u31, u32, u33, u34, u35, u36, u37, u38, u39], defers := [] } ∧ Aside0 (level_Least.l0 n a0 a1 l2 lo hi = some p) ∧ Aside0 (Below w.heap.size w w')

set_option maxHeartbeats 8000000 in
set_option maxRecDepth 100000 in
theorem level_Least.calls (k : Nat) (a0 : Int) (a1 : Int) (A2 : Option Addr) (c2 : Nat) (l2 : List (S56)) (r1 : Int) (r2 : Int) (w : World) (hr2 : Kd.C k56 w A2 l2.length l2) (hc2 : l2.length ≤ c2) (h : level_Least.f k a0 a1 l2 = some (r1, r2)) :
  Calls Try.prog 18 #[.int .i64 a0, .int .i64 a1, .slice A2 l2.length c2] w fun e w' => e = .returned (.tuple #[.int .i64 r1, .int .i64 r2]) ∧ Below w.heap.size w w' := by
 obtain ⟨⟨p, e⟩, h0, h⟩ := bI_ h
 dsimp only at h
 have A := aA_ h0
 have HR2 := aA_ hr2
 have HB := aA_ (Below.refl w.heap.size w)
 clear hr2 h0
 by_cases c : e = 0
 ·rw [if_pos c] at h
  have cb0 : (e == 0) = true := beq_iff_eq.mpr c
  have cb1 : (e != 0) = false := bne_eq_false_iff_eq.mpr c
  clear c
  obtain ⟨q, h1, h2⟩ := bI_ h
  simp only [Option.some.injEq, Prod.mk.injEq] at h2
  obtain ⟨rfl, rfl⟩ := h2
  have H1 := aA_ h1
  clear h h1
  go_enter Try.func18, Try.ntmps18
  go_wp2
  refine wp_scope_ghost 0 (LeastAt a0 a1 A2 c2 l2 q w) rfl ?_ ?_
  ·clear HB H1 A
   rintro n a' w' ⟨lo, hi, u6, u7, u9, u11, u12, u13, u14, u15, u16, u17, u18, u19, u20, u21, u22, u23, u24, u25, u26, u27, u28, u29, u30, u31, u32, u33, u34, u35, u36, u37, u38, u39, rfl, HA, HB⟩
   cases n with
   | zero => exact absurd HA.out (by simp [level_Least.l0])
   | succ k1 =>
    have H := HA.out
    clear HA
    simp only [level_Least.l0] at H
    by_cases c5 : lo = hi
    ·rw [if_pos c5] at H
     have c5b0 : (lo == hi) = true := beq_iff_eq.mpr c5
     simp only [Option.some.injEq] at H
     obtain rfl := H
     clear c5
     go_wp2
     simp only [Exit.jump]
     go_ret2
     exact ⟨rfl, HB.out⟩
    ·rw [if_neg c5] at H
     have c5b0 : (lo == hi) = false := beq_eq_false_iff_ne.mpr c5
     clear c5
     obtain ⟨t, A0, H⟩ := bI_ H
     have A := aA_ A0
     clear A0
     cases t with
     | true =>
      have H' := aA_ (show level_Least.l0 k1 a0 a1 l2 lo (wrap64 (lo + wrap64 (Int.tdiv (wrap64 (hi - lo)) 2))) = some q from H)
      clear H
      go_wp2_with (first | (refine goesL_ (some 36) rfl rfl Try.func36 (by kernel_rfl) rfl #[.int .i64 a0, .int .i64 a1, .slice A2 l2.length c2, .int .i64 (wrap64 (lo + wrap64 (Int.tdiv (wrap64 (hi - lo)) 2)))] rfl (by (try simp only [mT_, mC_, mN_]); first | done | rfl) ?_; (with_reducible refine (level_ends.calls k1 a0 a1 A2 c2 l2 (wrap64 (lo + wrap64 (Int.tdiv (wrap64 (hi - lo)) 2))) _ _ (Kd.C_below HR2.out HB.out) hc2 A.out).mono ?_); rintro e wc ⟨rfl, hb⟩; refine ⟨_, rfl, ?_⟩; replace HB := bB_ HB.out hb; clear hb))
      go_step3
      exact ⟨rfl, k1, Nat.lt_succ_self _, lo, (wrap64 (lo + wrap64 (Int.tdiv (wrap64 (hi - lo)) 2))), _, _, _, _, _, _, _, _, _, _, _, _, _, _, _, _, _, _, _, _, _, _, _, _, _, _, _, _, _, _, _, _, rfl, H', HB⟩
     | false =>
      have H' := aA_ (show level_Least.l0 k1 a0 a1 l2 (wrap64 ((wrap64 (lo + wrap64 (Int.tdiv (wrap64 (hi - lo)) 2))) + 1)) hi = some q from H)
      clear H
      go_wp2_with (first | (refine goesL_ (some 36) rfl rfl Try.func36 (by kernel_rfl) rfl #[.int .i64 a0, .int .i64 a1, .slice A2 l2.length c2, .int .i64 (wrap64 (lo + wrap64 (Int.tdiv (wrap64 (hi - lo)) 2)))] rfl (by (try simp only [mT_, mC_, mN_]); first | done | rfl) ?_; (with_reducible refine (level_ends.calls k1 a0 a1 A2 c2 l2 (wrap64 (lo + wrap64 (Int.tdiv (wrap64 (hi - lo)) 2))) _ _ (Kd.C_below HR2.out HB.out) hc2 A.out).mono ?_); rintro e wc ⟨rfl, hb⟩; refine ⟨_, rfl, ?_⟩; replace HB := bB_ HB.out hb; clear hb))
      go_step3
      exact ⟨rfl, k1, Nat.lt_succ_self _, (wrap64 ((wrap64 (lo + wrap64 (Int.tdiv (wrap64 (hi - lo)) 2))) + 1)), hi, _, _, _, _, _, _, _, _, _, _, _, _, _, _, _, _, _, _, _, _, _, _, _, _, _, _, _, _, _, _, _, _, rfl, H', HB⟩
  ·intro hpass
   go_wp2_with (first | (refine goesL_ (some 16) rfl rfl Try.func35 (by kernel_rfl) rfl #[.int .i64 a0, .int .i64 a1, .slice A2 l2.length c2] rfl (by (try simp only [mT_, mC_, mN_]); first | done | rfl) ?_; (with_reducible refine (level_most.calls k a0 a1 A2 c2 l2 p e _ (Kd.C_below HR2.out HB.out) hc2 A.out).mono ?_); rintro e wc ⟨rfl, hb⟩; refine ⟨_, rfl, ?_⟩; replace HB := bB_ HB.out hb; clear hb))
   go_step3
   rename_i K_ hK_
   exact hK_ _ _ (hpass k _ _ ⟨0, p, _, _, _, _, _, _, _, _, _, _, _, _, _, _, _, _, _, _, _, _, _, _, _, _, _, _, _, _, _, _, _, _, rfl, H1, HB⟩)
 ·rw [if_neg c] at h
  have cb0 : (e == 0) = false := beq_eq_false_iff_ne.mpr c
  have cb1 : (e != 0) = true := bne_iff_ne.mpr c
  simp only [Option.some.injEq, Prod.mk.injEq] at h
  obtain ⟨rfl, rfl⟩ := h
  go_enter Try.func18, Try.ntmps18
  go_wp2
  go_step3
  go_wp2_with (first | (refine goesL_ (some 16) rfl rfl Try.func35 (by kernel_rfl) rfl #[.int .i64 a0, .int .i64 a1, .slice A2 l2.length c2] rfl (by (try simp only [mT_, mC_, mN_]); first | done | rfl) ?_; (with_reducible refine (level_most.calls k a0 a1 A2 c2 l2 p e _ (Kd.C_below HR2.out HB.out) hc2 A.out).mono ?_); rintro e wc ⟨rfl, hb⟩; refine ⟨_, rfl, ?_⟩; replace HB := bB_ HB.out hb; clear hb))
  rw [Exit.noGoto_ret]
  go_ret2
  exact ⟨rfl, HB.out⟩
end Go.Proofs.Yteikafepdkijdaa.X
