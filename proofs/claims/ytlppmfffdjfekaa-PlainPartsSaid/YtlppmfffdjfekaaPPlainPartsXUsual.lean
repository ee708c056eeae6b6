-- cut by prune.py, a program of this session
import Derived.Test.YtlppmfffdjfekaaPPlainPartsX0
import Derived.Test.YtlppmfffdjfekaaPPlainPartsXRefRight
namespace Go.Proofs.Ytlppmfffdjfekaa.X
open Go.RowKit Go.Proofs.YtlppmfffdjfekaaW.PrintWords Go.Proofs.YtlppmfffdjfekaaW.PrintLast Go.Proofs.YtlppmfffdjfekaaW.PrintMore
set_option linter.unusedVariables false
set_option linter.unusedSimpArgs false

def demurrageref18_Usual.l0 : Nat → List (S42) → Int → Option (Bool)
 | 0, _, _ => none
 | k + 1, x0, x3 => if x3 < (x0.length : Int) then (if 0 ≤ x3 then ((demurrageref02_Right.f k ((rd_T42 x0 x3).f0) ((rd_T42 x0 x3).f1)).bind fun t383 => (if t383 = true then (if ((rd_T42 x0 x3).f0) > 10000000000000 then (some false) else (if ((rd_T42 x0 x3).f1) > 10000000000000 then (some false) else (if ((rd_T42 x0 x3).f0) > (wrap64 (100 * ((rd_T42 x0 x3).f1))) then (some false) else (demurrageref18_Usual.l0 k x0 (wrap64 (x3 + 1)))))) else (some false))) else (none)) else (some true)
def demurrageref18_Usual.f (k : Nat) (l0 : List (S42)) : Option (Bool) := demurrageref18_Usual.l0 k l0 0
set_option maxHeartbeats 8000000 in
set_option maxRecDepth 100000 in
theorem demurrageref18_Usual.calls (k : Nat) (A0 : Option Addr) (c0 : Nat) (l0 : List (S42)) (r : Bool) (w : World) (hr0 : Kd.C k42 w A0 l0.length l0) (hc0 : l0.length ≤ c0) (h : demurrageref18_Usual.f k l0 = some r) :
  Calls Try.prog 14 #[.slice A0 l0.length c0] w fun e w' => e = .returned (.bool r) ∧ Below w.heap.size w w' := by
 have hu42 := Try.underlying42
 have HR0 := Aside0.mk hr0
 have HC0 := Aside0.mk hc0
 clear hr0 hc0
 have HB := Aside0.mk (Below.refl w.heap.size w)
 have H : (demurrageref18_Usual.l0 k l0 0) = some r := h
 clear h
 have H' := Aside0.mk H
 clear H
 go_enter Try.func14, Try.ntmps14
 go_wp2
 repeat (go_quiet (fail); try go_wp2)
 (try simp only [Act.put, sT_, sZ_, sS_])
 go_loopg [3] k (fun kq v3 w' => ∃ (x3_1 : Int), v3 = .int .i64 x3_1 ∧ Aside0 (demurrageref18_Usual.l0 kq l0 x3_1 = some r) ∧ Aside0 (kq ≤ k) ∧ Aside0 (Below w.heap.size w w'))
 case atStart => exact ⟨(0), (by first | rfl | (simp; done) | (simp [*]; done)), H', ⟨Nat.le_refl _⟩, ⟨by repeat (first | (with_reducible first | exact HB.out | apply bA_ | apply bN_ | apply bD_) | exact HB.out)⟩⟩
 case round =>
  clear H'
  try clear c1
  obtain ⟨x3_1, rfl, HA, HK1, HB⟩ := hrel
  cases gk with
  | zero => exact absurd HA.out (by simp [demurrageref18_Usual.l0])
  | succ k1 =>
   have H := HA.out
   clear HA
   simp only [demurrageref18_Usual.l0] at H
   by_cases c2 : x3_1 < (l0.length : Int)
   ·rw [if_pos c2] at H
    have c2b0 : decide (x3_1 < (l0.length : Int)) = true := decide_eq_true c2
    clear c2
    by_cases c3 : 0 ≤ x3_1
    ·rw [if_pos c3] at H
     have c3b0 : decide (0 ≤ x3_1) = true := decide_eq_true c3
     clear c3
     replace H := Option.bind_eq_some_iff.mp H
     obtain ⟨t383, A40, H⟩ := H
     (try dsimp only at H)
     have A4 := Aside0.mk A40
     clear A40
     by_cases c5 : t383 = true
     ·subst c5
      rw [if_pos rfl] at H
      by_cases c6 : ((rd_T42 l0 x3_1).f0) > 10000000000000
      ·rw [if_pos c6] at H
       have c6b0 : decide (10000000000000 < ((rd_T42 l0 x3_1).f0)) = true := decide_eq_true c6
       clear c6
       obtain rfl := Option.some.inj H
       have p382 : 0 ≤ (x3_1 : Int) := of_decide_eq_true (by first | (with_reducible assumption) | assumption)
       have q382 : x3_1 < (l0.length : Int) := of_decide_eq_true (by first | (with_reducible assumption) | assumption)
       obtain ⟨ad382, e382, hx382_0, hx382_1⟩ := at_T42 HR0.out x3_1 p382 q382
       cases e382
       replace hx382_0 := (HB.out.cell (World.block_lt_of_cell? w _ hx382_0)).trans hx382_0
       replace hx382_1 := (HB.out.cell (World.block_lt_of_cell? w _ hx382_1)).trans hx382_1
       replace p382 := eq_true p382
       replace q382 := eq_true q382
       go_wp2_with (first | (go_at_call 21; (with_reducible refine (demurrageref02_Right.calls k1 ((rd_T42 l0 x3_1).f0) ((rd_T42 l0 x3_1).f1) true _ A4.out).mono ?_); rintro e w7 ⟨rfl, hb⟩; replace HB := Aside0.mk (below_step (by repeat (first | (with_reducible first | exact HB.out | apply bA_ | apply bN_ | apply bD_) | exact HB.out)) hb); (try clear hb); have p384 : 0 ≤ (x3_1 : Int) := of_decide_eq_true (by first | (with_reducible assumption) | assumption); have q384 : x3_1 < (l0.length : Int) := of_decide_eq_true (by first | (with_reducible assumption) | assumption); obtain ⟨ad384, e384, hx384_0, hx384_1⟩ := at_T42 HR0.out x3_1 p384 q384; obtain rfl : ad382 = ad384 := (by injection e384); replace hx384_0 := (HB.out.cell (World.block_lt_of_cell? w _ hx384_0)).trans hx384_0; replace hx384_1 := (HB.out.cell (World.block_lt_of_cell? w _ hx384_1)).trans hx384_1; replace p384 := eq_true p384; replace q384 := eq_true q384))
       repeat (go_quiet (first | (go_at_call 21; (with_reducible refine (demurrageref02_Right.calls k1 ((rd_T42 l0 x3_1).f0) ((rd_T42 l0 x3_1).f1) true _ A4.out).mono ?_); rintro e w7 ⟨rfl, hb⟩; replace HB := Aside0.mk (below_step (by repeat (first | (with_reducible first | exact HB.out | apply bA_ | apply bN_ | apply bD_) | exact HB.out)) hb); (try clear hb); have p384 : 0 ≤ (x3_1 : Int) := of_decide_eq_true (by first | (with_reducible assumption) | assumption); have q384 : x3_1 < (l0.length : Int) := of_decide_eq_true (by first | (with_reducible assumption) | assumption); obtain ⟨ad384, e384, hx384_0, hx384_1⟩ := at_T42 HR0.out x3_1 p384 q384; obtain rfl : ad382 = ad384 := (by injection e384); replace hx384_0 := (HB.out.cell (World.block_lt_of_cell? w _ hx384_0)).trans hx384_0; replace hx384_1 := (HB.out.cell (World.block_lt_of_cell? w _ hx384_1)).trans hx384_1; replace p384 := eq_true p384; replace q384 := eq_true q384)); try go_wp2_with (first | (go_at_call 21; (with_reducible refine (demurrageref02_Right.calls k1 ((rd_T42 l0 x3_1).f0) ((rd_T42 l0 x3_1).f1) true _ A4.out).mono ?_); rintro e w7 ⟨rfl, hb⟩; replace HB := Aside0.mk (below_step (by repeat (first | (with_reducible first | exact HB.out | apply bA_ | apply bN_ | apply bD_) | exact HB.out)) hb); (try clear hb); have p384 : 0 ≤ (x3_1 : Int) := of_decide_eq_true (by first | (with_reducible assumption) | assumption); have q384 : x3_1 < (l0.length : Int) := of_decide_eq_true (by first | (with_reducible assumption) | assumption); obtain ⟨ad384, e384, hx384_0, hx384_1⟩ := at_T42 HR0.out x3_1 p384 q384; obtain rfl : ad382 = ad384 := (by injection e384); replace hx384_0 := (HB.out.cell (World.block_lt_of_cell? w _ hx384_0)).trans hx384_0; replace hx384_1 := (HB.out.cell (World.block_lt_of_cell? w _ hx384_1)).trans hx384_1; replace p384 := eq_true p384; replace q384 := eq_true q384)))
       go_ret
       exact ⟨by rfl, by repeat (first | (with_reducible first | exact HB.out | apply bA_ | apply bN_ | apply bD_) | exact HB.out)⟩
      ·rw [if_neg c6] at H
       have c6b0 : decide (10000000000000 < ((rd_T42 l0 x3_1).f0)) = false := decide_eq_false c6
       clear c6
       by_cases c8 : ((rd_T42 l0 x3_1).f1) > 10000000000000
       ·rw [if_pos c8] at H
        have c8b0 : decide (10000000000000 < ((rd_T42 l0 x3_1).f1)) = true := decide_eq_true c8
        clear c8
        obtain rfl := Option.some.inj H
        have p382 : 0 ≤ (x3_1 : Int) := of_decide_eq_true (by first | (with_reducible assumption) | assumption)
        have q382 : x3_1 < (l0.length : Int) := of_decide_eq_true (by first | (with_reducible assumption) | assumption)
        obtain ⟨ad382, e382, hx382_0, hx382_1⟩ := at_T42 HR0.out x3_1 p382 q382
        cases e382
        replace hx382_0 := (HB.out.cell (World.block_lt_of_cell? w _ hx382_0)).trans hx382_0
        replace hx382_1 := (HB.out.cell (World.block_lt_of_cell? w _ hx382_1)).trans hx382_1
        replace p382 := eq_true p382
        replace q382 := eq_true q382
        go_wp2_with (first | (go_at_call 21; (with_reducible refine (demurrageref02_Right.calls k1 ((rd_T42 l0 x3_1).f0) ((rd_T42 l0 x3_1).f1) true _ A4.out).mono ?_); rintro e w9 ⟨rfl, hb⟩; replace HB := Aside0.mk (below_step (by repeat (first | (with_reducible first | exact HB.out | apply bA_ | apply bN_ | apply bD_) | exact HB.out)) hb); (try clear hb); have p384 : 0 ≤ (x3_1 : Int) := of_decide_eq_true (by first | (with_reducible assumption) | assumption); have q384 : x3_1 < (l0.length : Int) := of_decide_eq_true (by first | (with_reducible assumption) | assumption); obtain ⟨ad384, e384, hx384_0, hx384_1⟩ := at_T42 HR0.out x3_1 p384 q384; obtain rfl : ad382 = ad384 := (by injection e384); replace hx384_0 := (HB.out.cell (World.block_lt_of_cell? w _ hx384_0)).trans hx384_0; replace hx384_1 := (HB.out.cell (World.block_lt_of_cell? w _ hx384_1)).trans hx384_1; replace p384 := eq_true p384; replace q384 := eq_true q384; have p385 : 0 ≤ (x3_1 : Int) := of_decide_eq_true (by first | (with_reducible assumption) | assumption); have q385 : x3_1 < (l0.length : Int) := of_decide_eq_true (by first | (with_reducible assumption) | assumption); obtain ⟨ad385, e385, hx385_0, hx385_1⟩ := at_T42 HR0.out x3_1 p385 q385; obtain rfl : ad382 = ad385 := (by injection e385); replace hx385_0 := (HB.out.cell (World.block_lt_of_cell? w _ hx385_0)).trans hx385_0; replace hx385_1 := (HB.out.cell (World.block_lt_of_cell? w _ hx385_1)).trans hx385_1; replace p385 := eq_true p385; replace q385 := eq_true q385))
        repeat (go_quiet (first | (go_at_call 21; (with_reducible refine (demurrageref02_Right.calls k1 ((rd_T42 l0 x3_1).f0) ((rd_T42 l0 x3_1).f1) true _ A4.out).mono ?_); rintro e w9 ⟨rfl, hb⟩; replace HB := Aside0.mk (below_step (by repeat (first | (with_reducible first | exact HB.out | apply bA_ | apply bN_ | apply bD_) | exact HB.out)) hb); (try clear hb); have p384 : 0 ≤ (x3_1 : Int) := of_decide_eq_true (by first | (with_reducible assumption) | assumption); have q384 : x3_1 < (l0.length : Int) := of_decide_eq_true (by first | (with_reducible assumption) | assumption); obtain ⟨ad384, e384, hx384_0, hx384_1⟩ := at_T42 HR0.out x3_1 p384 q384; obtain rfl : ad382 = ad384 := (by injection e384); replace hx384_0 := (HB.out.cell (World.block_lt_of_cell? w _ hx384_0)).trans hx384_0; replace hx384_1 := (HB.out.cell (World.block_lt_of_cell? w _ hx384_1)).trans hx384_1; replace p384 := eq_true p384; replace q384 := eq_true q384; have p385 : 0 ≤ (x3_1 : Int) := of_decide_eq_true (by first | (with_reducible assumption) | assumption); have q385 : x3_1 < (l0.length : Int) := of_decide_eq_true (by first | (with_reducible assumption) | assumption); obtain ⟨ad385, e385, hx385_0, hx385_1⟩ := at_T42 HR0.out x3_1 p385 q385; obtain rfl : ad382 = ad385 := (by injection e385); replace hx385_0 := (HB.out.cell (World.block_lt_of_cell? w _ hx385_0)).trans hx385_0; replace hx385_1 := (HB.out.cell (World.block_lt_of_cell? w _ hx385_1)).trans hx385_1; replace p385 := eq_true p385; replace q385 := eq_true q385)); try go_wp2_with (first | (go_at_call 21; (with_reducible refine (demurrageref02_Right.calls k1 ((rd_T42 l0 x3_1).f0) ((rd_T42 l0 x3_1).f1) true _ A4.out).mono ?_); rintro e w9 ⟨rfl, hb⟩; replace HB := Aside0.mk (below_step (by repeat (first | (with_reducible first | exact HB.out | apply bA_ | apply bN_ | apply bD_) | exact HB.out)) hb); (try clear hb); have p384 : 0 ≤ (x3_1 : Int) := of_decide_eq_true (by first | (with_reducible assumption) | assumption); have q384 : x3_1 < (l0.length : Int) := of_decide_eq_true (by first | (with_reducible assumption) | assumption); obtain ⟨ad384, e384, hx384_0, hx384_1⟩ := at_T42 HR0.out x3_1 p384 q384; obtain rfl : ad382 = ad384 := (by injection e384); replace hx384_0 := (HB.out.cell (World.block_lt_of_cell? w _ hx384_0)).trans hx384_0; replace hx384_1 := (HB.out.cell (World.block_lt_of_cell? w _ hx384_1)).trans hx384_1; replace p384 := eq_true p384; replace q384 := eq_true q384; have p385 : 0 ≤ (x3_1 : Int) := of_decide_eq_true (by first | (with_reducible assumption) | assumption); have q385 : x3_1 < (l0.length : Int) := of_decide_eq_true (by first | (with_reducible assumption) | assumption); obtain ⟨ad385, e385, hx385_0, hx385_1⟩ := at_T42 HR0.out x3_1 p385 q385; obtain rfl : ad382 = ad385 := (by injection e385); replace hx385_0 := (HB.out.cell (World.block_lt_of_cell? w _ hx385_0)).trans hx385_0; replace hx385_1 := (HB.out.cell (World.block_lt_of_cell? w _ hx385_1)).trans hx385_1; replace p385 := eq_true p385; replace q385 := eq_true q385)))
        go_ret
        exact ⟨by rfl, by repeat (first | (with_reducible first | exact HB.out | apply bA_ | apply bN_ | apply bD_) | exact HB.out)⟩
       ·rw [if_neg c8] at H
        have c8b0 : decide (10000000000000 < ((rd_T42 l0 x3_1).f1)) = false := decide_eq_false c8
        clear c8
        by_cases c10 : ((rd_T42 l0 x3_1).f0) > (wrap64 (100 * ((rd_T42 l0 x3_1).f1)))
        focus
         rw [if_pos c10] at H
         have c10b0 : decide ((wrap64 (100 * ((rd_T42 l0 x3_1).f1))) < ((rd_T42 l0 x3_1).f0)) = true := decide_eq_true c10
         clear c10
         obtain rfl := Option.some.inj H
        rotate_left
        focus
         rw [if_neg c10] at H
         have c10b0 : decide ((wrap64 (100 * ((rd_T42 l0 x3_1).f1))) < ((rd_T42 l0 x3_1).f0)) = false := decide_eq_false c10
         clear c10
         have H' := Aside0.mk H
         clear H
        all_goals
         have p382 : 0 ≤ (x3_1 : Int) := of_decide_eq_true (by first | (with_reducible assumption) | assumption)
         have q382 : x3_1 < (l0.length : Int) := of_decide_eq_true (by first | (with_reducible assumption) | assumption)
         obtain ⟨ad382, e382, hx382_0, hx382_1⟩ := at_T42 HR0.out x3_1 p382 q382
         cases e382
         replace hx382_0 := (HB.out.cell (World.block_lt_of_cell? w _ hx382_0)).trans hx382_0
         replace hx382_1 := (HB.out.cell (World.block_lt_of_cell? w _ hx382_1)).trans hx382_1
         replace p382 := eq_true p382
         replace q382 := eq_true q382
         go_wp2_with (first | (go_at_call 21; (with_reducible refine (demurrageref02_Right.calls k1 ((rd_T42 l0 x3_1).f0) ((rd_T42 l0 x3_1).f1) true _ A4.out).mono ?_); rintro e w11 ⟨rfl, hb⟩; replace HB := Aside0.mk (below_step (by repeat (first | (with_reducible first | exact HB.out | apply bA_ | apply bN_ | apply bD_) | exact HB.out)) hb); (try clear hb); have p384 : 0 ≤ (x3_1 : Int) := of_decide_eq_true (by first | (with_reducible assumption) | assumption); have q384 : x3_1 < (l0.length : Int) := of_decide_eq_true (by first | (with_reducible assumption) | assumption); obtain ⟨ad384, e384, hx384_0, hx384_1⟩ := at_T42 HR0.out x3_1 p384 q384; obtain rfl : ad382 = ad384 := (by injection e384); replace hx384_0 := (HB.out.cell (World.block_lt_of_cell? w _ hx384_0)).trans hx384_0; replace hx384_1 := (HB.out.cell (World.block_lt_of_cell? w _ hx384_1)).trans hx384_1; replace p384 := eq_true p384; replace q384 := eq_true q384; have p385 : 0 ≤ (x3_1 : Int) := of_decide_eq_true (by first | (with_reducible assumption) | assumption); have q385 : x3_1 < (l0.length : Int) := of_decide_eq_true (by first | (with_reducible assumption) | assumption); obtain ⟨ad385, e385, hx385_0, hx385_1⟩ := at_T42 HR0.out x3_1 p385 q385; obtain rfl : ad382 = ad385 := (by injection e385); replace hx385_0 := (HB.out.cell (World.block_lt_of_cell? w _ hx385_0)).trans hx385_0; replace hx385_1 := (HB.out.cell (World.block_lt_of_cell? w _ hx385_1)).trans hx385_1; replace p385 := eq_true p385; replace q385 := eq_true q385; have p386 : 0 ≤ (x3_1 : Int) := of_decide_eq_true (by first | (with_reducible assumption) | assumption); have q386 : x3_1 < (l0.length : Int) := of_decide_eq_true (by first | (with_reducible assumption) | assumption); obtain ⟨ad386, e386, hx386_0, hx386_1⟩ := at_T42 HR0.out x3_1 p386 q386; obtain rfl : ad382 = ad386 := (by injection e386); replace hx386_0 := (HB.out.cell (World.block_lt_of_cell? w _ hx386_0)).trans hx386_0; replace hx386_1 := (HB.out.cell (World.block_lt_of_cell? w _ hx386_1)).trans hx386_1; replace p386 := eq_true p386; replace q386 := eq_true q386; have p387 : 0 ≤ (x3_1 : Int) := of_decide_eq_true (by first | (with_reducible assumption) | assumption); have q387 : x3_1 < (l0.length : Int) := of_decide_eq_true (by first | (with_reducible assumption) | assumption); obtain ⟨ad387, e387, hx387_0, hx387_1⟩ := at_T42 HR0.out x3_1 p387 q387; obtain rfl : ad382 = ad387 := (by injection e387); replace hx387_0 := (HB.out.cell (World.block_lt_of_cell? w _ hx387_0)).trans hx387_0; replace hx387_1 := (HB.out.cell (World.block_lt_of_cell? w _ hx387_1)).trans hx387_1; replace p387 := eq_true p387; replace q387 := eq_true q387))
        ·repeat (go_quiet (first | (go_at_call 21; (with_reducible refine (demurrageref02_Right.calls k1 ((rd_T42 l0 x3_1).f0) ((rd_T42 l0 x3_1).f1) true _ A4.out).mono ?_); rintro e w11 ⟨rfl, hb⟩; replace HB := Aside0.mk (below_step (by repeat (first | (with_reducible first | exact HB.out | apply bA_ | apply bN_ | apply bD_) | exact HB.out)) hb); (try clear hb); have p384 : 0 ≤ (x3_1 : Int) := of_decide_eq_true (by first | (with_reducible assumption) | assumption); have q384 : x3_1 < (l0.length : Int) := of_decide_eq_true (by first | (with_reducible assumption) | assumption); obtain ⟨ad384, e384, hx384_0, hx384_1⟩ := at_T42 HR0.out x3_1 p384 q384; obtain rfl : ad382 = ad384 := (by injection e384); replace hx384_0 := (HB.out.cell (World.block_lt_of_cell? w _ hx384_0)).trans hx384_0; replace hx384_1 := (HB.out.cell (World.block_lt_of_cell? w _ hx384_1)).trans hx384_1; replace p384 := eq_true p384; replace q384 := eq_true q384; have p385 : 0 ≤ (x3_1 : Int) := of_decide_eq_true (by first | (with_reducible assumption) | assumption); have q385 : x3_1 < (l0.length : Int) := of_decide_eq_true (by first | (with_reducible assumption) | assumption); obtain ⟨ad385, e385, hx385_0, hx385_1⟩ := at_T42 HR0.out x3_1 p385 q385; obtain rfl : ad382 = ad385 := (by injection e385); replace hx385_0 := (HB.out.cell (World.block_lt_of_cell? w _ hx385_0)).trans hx385_0; replace hx385_1 := (HB.out.cell (World.block_lt_of_cell? w _ hx385_1)).trans hx385_1; replace p385 := eq_true p385; replace q385 := eq_true q385; have p386 : 0 ≤ (x3_1 : Int) := of_decide_eq_true (by first | (with_reducible assumption) | assumption); have q386 : x3_1 < (l0.length : Int) := of_decide_eq_true (by first | (with_reducible assumption) | assumption); obtain ⟨ad386, e386, hx386_0, hx386_1⟩ := at_T42 HR0.out x3_1 p386 q386; obtain rfl : ad382 = ad386 := (by injection e386); replace hx386_0 := (HB.out.cell (World.block_lt_of_cell? w _ hx386_0)).trans hx386_0; replace hx386_1 := (HB.out.cell (World.block_lt_of_cell? w _ hx386_1)).trans hx386_1; replace p386 := eq_true p386; replace q386 := eq_true q386; have p387 : 0 ≤ (x3_1 : Int) := of_decide_eq_true (by first | (with_reducible assumption) | assumption); have q387 : x3_1 < (l0.length : Int) := of_decide_eq_true (by first | (with_reducible assumption) | assumption); obtain ⟨ad387, e387, hx387_0, hx387_1⟩ := at_T42 HR0.out x3_1 p387 q387; obtain rfl : ad382 = ad387 := (by injection e387); replace hx387_0 := (HB.out.cell (World.block_lt_of_cell? w _ hx387_0)).trans hx387_0; replace hx387_1 := (HB.out.cell (World.block_lt_of_cell? w _ hx387_1)).trans hx387_1; replace p387 := eq_true p387; replace q387 := eq_true q387)); try go_wp2_with (first | (go_at_call 21; (with_reducible refine (demurrageref02_Right.calls k1 ((rd_T42 l0 x3_1).f0) ((rd_T42 l0 x3_1).f1) true _ A4.out).mono ?_); rintro e w11 ⟨rfl, hb⟩; replace HB := Aside0.mk (below_step (by repeat (first | (with_reducible first | exact HB.out | apply bA_ | apply bN_ | apply bD_) | exact HB.out)) hb); (try clear hb); have p384 : 0 ≤ (x3_1 : Int) := of_decide_eq_true (by first | (with_reducible assumption) | assumption); have q384 : x3_1 < (l0.length : Int) := of_decide_eq_true (by first | (with_reducible assumption) | assumption); obtain ⟨ad384, e384, hx384_0, hx384_1⟩ := at_T42 HR0.out x3_1 p384 q384; obtain rfl : ad382 = ad384 := (by injection e384); replace hx384_0 := (HB.out.cell (World.block_lt_of_cell? w _ hx384_0)).trans hx384_0; replace hx384_1 := (HB.out.cell (World.block_lt_of_cell? w _ hx384_1)).trans hx384_1; replace p384 := eq_true p384; replace q384 := eq_true q384; have p385 : 0 ≤ (x3_1 : Int) := of_decide_eq_true (by first | (with_reducible assumption) | assumption); have q385 : x3_1 < (l0.length : Int) := of_decide_eq_true (by first | (with_reducible assumption) | assumption); obtain ⟨ad385, e385, hx385_0, hx385_1⟩ := at_T42 HR0.out x3_1 p385 q385; obtain rfl : ad382 = ad385 := (by injection e385); replace hx385_0 := (HB.out.cell (World.block_lt_of_cell? w _ hx385_0)).trans hx385_0; replace hx385_1 := (HB.out.cell (World.block_lt_of_cell? w _ hx385_1)).trans hx385_1; replace p385 := eq_true p385; replace q385 := eq_true q385; have p386 : 0 ≤ (x3_1 : Int) := of_decide_eq_true (by first | (with_reducible assumption) | assumption); have q386 : x3_1 < (l0.length : Int) := of_decide_eq_true (by first | (with_reducible assumption) | assumption); obtain ⟨ad386, e386, hx386_0, hx386_1⟩ := at_T42 HR0.out x3_1 p386 q386; obtain rfl : ad382 = ad386 := (by injection e386); replace hx386_0 := (HB.out.cell (World.block_lt_of_cell? w _ hx386_0)).trans hx386_0; replace hx386_1 := (HB.out.cell (World.block_lt_of_cell? w _ hx386_1)).trans hx386_1; replace p386 := eq_true p386; replace q386 := eq_true q386; have p387 : 0 ≤ (x3_1 : Int) := of_decide_eq_true (by first | (with_reducible assumption) | assumption); have q387 : x3_1 < (l0.length : Int) := of_decide_eq_true (by first | (with_reducible assumption) | assumption); obtain ⟨ad387, e387, hx387_0, hx387_1⟩ := at_T42 HR0.out x3_1 p387 q387; obtain rfl : ad382 = ad387 := (by injection e387); replace hx387_0 := (HB.out.cell (World.block_lt_of_cell? w _ hx387_0)).trans hx387_0; replace hx387_1 := (HB.out.cell (World.block_lt_of_cell? w _ hx387_1)).trans hx387_1; replace p387 := eq_true p387; replace q387 := eq_true q387)))
         go_roundg k1
         case measure => have := HK1.out; omega
         case rel => exact ⟨(wrap64 (x3_1 + 1)), (by first | rfl | (simp; done) | (simp [*]; done)), H', ⟨by have := HK1.out; omega⟩, ⟨by repeat (first | (with_reducible first | exact HB.out | apply bA_ | apply bN_ | apply bD_) | exact HB.out)⟩⟩
        ·repeat (go_quiet (first | (go_at_call 21; (with_reducible refine (demurrageref02_Right.calls k1 ((rd_T42 l0 x3_1).f0) ((rd_T42 l0 x3_1).f1) true _ A4.out).mono ?_); rintro e w11 ⟨rfl, hb⟩; replace HB := Aside0.mk (below_step (by repeat (first | (with_reducible first | exact HB.out | apply bA_ | apply bN_ | apply bD_) | exact HB.out)) hb); (try clear hb); have p384 : 0 ≤ (x3_1 : Int) := of_decide_eq_true (by first | (with_reducible assumption) | assumption); have q384 : x3_1 < (l0.length : Int) := of_decide_eq_true (by first | (with_reducible assumption) | assumption); obtain ⟨ad384, e384, hx384_0, hx384_1⟩ := at_T42 HR0.out x3_1 p384 q384; obtain rfl : ad382 = ad384 := (by injection e384); replace hx384_0 := (HB.out.cell (World.block_lt_of_cell? w _ hx384_0)).trans hx384_0; replace hx384_1 := (HB.out.cell (World.block_lt_of_cell? w _ hx384_1)).trans hx384_1; replace p384 := eq_true p384; replace q384 := eq_true q384; have p385 : 0 ≤ (x3_1 : Int) := of_decide_eq_true (by first | (with_reducible assumption) | assumption); have q385 : x3_1 < (l0.length : Int) := of_decide_eq_true (by first | (with_reducible assumption) | assumption); obtain ⟨ad385, e385, hx385_0, hx385_1⟩ := at_T42 HR0.out x3_1 p385 q385; obtain rfl : ad382 = ad385 := (by injection e385); replace hx385_0 := (HB.out.cell (World.block_lt_of_cell? w _ hx385_0)).trans hx385_0; replace hx385_1 := (HB.out.cell (World.block_lt_of_cell? w _ hx385_1)).trans hx385_1; replace p385 := eq_true p385; replace q385 := eq_true q385; have p386 : 0 ≤ (x3_1 : Int) := of_decide_eq_true (by first | (with_reducible assumption) | assumption); have q386 : x3_1 < (l0.length : Int) := of_decide_eq_true (by first | (with_reducible assumption) | assumption); obtain ⟨ad386, e386, hx386_0, hx386_1⟩ := at_T42 HR0.out x3_1 p386 q386; obtain rfl : ad382 = ad386 := (by injection e386); replace hx386_0 := (HB.out.cell (World.block_lt_of_cell? w _ hx386_0)).trans hx386_0; replace hx386_1 := (HB.out.cell (World.block_lt_of_cell? w _ hx386_1)).trans hx386_1; replace p386 := eq_true p386; replace q386 := eq_true q386; have p387 : 0 ≤ (x3_1 : Int) := of_decide_eq_true (by first | (with_reducible assumption) | assumption); have q387 : x3_1 < (l0.length : Int) := of_decide_eq_true (by first | (with_reducible assumption) | assumption); obtain ⟨ad387, e387, hx387_0, hx387_1⟩ := at_T42 HR0.out x3_1 p387 q387; obtain rfl : ad382 = ad387 := (by injection e387); replace hx387_0 := (HB.out.cell (World.block_lt_of_cell? w _ hx387_0)).trans hx387_0; replace hx387_1 := (HB.out.cell (World.block_lt_of_cell? w _ hx387_1)).trans hx387_1; replace p387 := eq_true p387; replace q387 := eq_true q387)); try go_wp2_with (first | (go_at_call 21; (with_reducible refine (demurrageref02_Right.calls k1 ((rd_T42 l0 x3_1).f0) ((rd_T42 l0 x3_1).f1) true _ A4.out).mono ?_); rintro e w11 ⟨rfl, hb⟩; replace HB := Aside0.mk (below_step (by repeat (first | (with_reducible first | exact HB.out | apply bA_ | apply bN_ | apply bD_) | exact HB.out)) hb); (try clear hb); have p384 : 0 ≤ (x3_1 : Int) := of_decide_eq_true (by first | (with_reducible assumption) | assumption); have q384 : x3_1 < (l0.length : Int) := of_decide_eq_true (by first | (with_reducible assumption) | assumption); obtain ⟨ad384, e384, hx384_0, hx384_1⟩ := at_T42 HR0.out x3_1 p384 q384; obtain rfl : ad382 = ad384 := (by injection e384); replace hx384_0 := (HB.out.cell (World.block_lt_of_cell? w _ hx384_0)).trans hx384_0; replace hx384_1 := (HB.out.cell (World.block_lt_of_cell? w _ hx384_1)).trans hx384_1; replace p384 := eq_true p384; replace q384 := eq_true q384; have p385 : 0 ≤ (x3_1 : Int) := of_decide_eq_true (by first | (with_reducible assumption) | assumption); have q385 : x3_1 < (l0.length : Int) := of_decide_eq_true (by first | (with_reducible assumption) | assumption); obtain ⟨ad385, e385, hx385_0, hx385_1⟩ := at_T42 HR0.out x3_1 p385 q385; obtain rfl : ad382 = ad385 := (by injection e385); replace hx385_0 := (HB.out.cell (World.block_lt_of_cell? w _ hx385_0)).trans hx385_0; replace hx385_1 := (HB.out.cell (World.block_lt_of_cell? w _ hx385_1)).trans hx385_1; replace p385 := eq_true p385; replace q385 := eq_true q385; have p386 : 0 ≤ (x3_1 : Int) := of_decide_eq_true (by first | (with_reducible assumption) | assumption); have q386 : x3_1 < (l0.length : Int) := of_decide_eq_true (by first | (with_reducible assumption) | assumption); obtain ⟨ad386, e386, hx386_0, hx386_1⟩ := at_T42 HR0.out x3_1 p386 q386; obtain rfl : ad382 = ad386 := (by injection e386); replace hx386_0 := (HB.out.cell (World.block_lt_of_cell? w _ hx386_0)).trans hx386_0; replace hx386_1 := (HB.out.cell (World.block_lt_of_cell? w _ hx386_1)).trans hx386_1; replace p386 := eq_true p386; replace q386 := eq_true q386; have p387 : 0 ≤ (x3_1 : Int) := of_decide_eq_true (by first | (with_reducible assumption) | assumption); have q387 : x3_1 < (l0.length : Int) := of_decide_eq_true (by first | (with_reducible assumption) | assumption); obtain ⟨ad387, e387, hx387_0, hx387_1⟩ := at_T42 HR0.out x3_1 p387 q387; obtain rfl : ad382 = ad387 := (by injection e387); replace hx387_0 := (HB.out.cell (World.block_lt_of_cell? w _ hx387_0)).trans hx387_0; replace hx387_1 := (HB.out.cell (World.block_lt_of_cell? w _ hx387_1)).trans hx387_1; replace p387 := eq_true p387; replace q387 := eq_true q387)))
         go_ret
         exact ⟨by rfl, by repeat (first | (with_reducible first | exact HB.out | apply bA_ | apply bN_ | apply bD_) | exact HB.out)⟩
     ·replace c5 := Bool.eq_false_iff.mpr c5
      subst c5
      rw [if_neg (show ¬ (false = true) by decide)] at H
      obtain rfl := Option.some.inj H
      have p382 : 0 ≤ (x3_1 : Int) := of_decide_eq_true (by first | (with_reducible assumption) | assumption)
      have q382 : x3_1 < (l0.length : Int) := of_decide_eq_true (by first | (with_reducible assumption) | assumption)
      obtain ⟨ad382, e382, hx382_0, hx382_1⟩ := at_T42 HR0.out x3_1 p382 q382
      cases e382
      replace hx382_0 := (HB.out.cell (World.block_lt_of_cell? w _ hx382_0)).trans hx382_0
      replace hx382_1 := (HB.out.cell (World.block_lt_of_cell? w _ hx382_1)).trans hx382_1
      replace p382 := eq_true p382
      replace q382 := eq_true q382
      go_wp2_with (first | (go_at_call 21; (with_reducible refine (demurrageref02_Right.calls k1 ((rd_T42 l0 x3_1).f0) ((rd_T42 l0 x3_1).f1) false _ A4.out).mono ?_); rintro e w13 ⟨rfl, hb⟩; replace HB := Aside0.mk (below_step (by repeat (first | (with_reducible first | exact HB.out | apply bA_ | apply bN_ | apply bD_) | exact HB.out)) hb); (try clear hb)))
      repeat (go_quiet (first | (go_at_call 21; (with_reducible refine (demurrageref02_Right.calls k1 ((rd_T42 l0 x3_1).f0) ((rd_T42 l0 x3_1).f1) false _ A4.out).mono ?_); rintro e w13 ⟨rfl, hb⟩; replace HB := Aside0.mk (below_step (by repeat (first | (with_reducible first | exact HB.out | apply bA_ | apply bN_ | apply bD_) | exact HB.out)) hb); (try clear hb))); try go_wp2_with (first | (go_at_call 21; (with_reducible refine (demurrageref02_Right.calls k1 ((rd_T42 l0 x3_1).f0) ((rd_T42 l0 x3_1).f1) false _ A4.out).mono ?_); rintro e w13 ⟨rfl, hb⟩; replace HB := Aside0.mk (below_step (by repeat (first | (with_reducible first | exact HB.out | apply bA_ | apply bN_ | apply bD_) | exact HB.out)) hb); (try clear hb))))
      go_ret
      exact ⟨by rfl, by repeat (first | (with_reducible first | exact HB.out | apply bA_ | apply bN_ | apply bD_) | exact HB.out)⟩
    ·rw [if_neg c3] at H
     exact absurd H (by simp)
   ·rw [if_neg c2] at H
    have c2b0 : decide (x3_1 < (l0.length : Int)) = false := decide_eq_false c2
    clear c2
    obtain rfl := Option.some.inj H
    go_wp2
    repeat (go_quiet (fail); try go_wp2)
    go_ret
    exact ⟨by rfl, by repeat (first | (with_reducible first | exact HB.out | apply bA_ | apply bN_ | apply bD_) | exact HB.out)⟩

end Go.Proofs.Ytlppmfffdjfekaa.X
