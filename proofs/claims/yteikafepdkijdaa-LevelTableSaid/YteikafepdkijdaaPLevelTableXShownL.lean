-- cut by prune.py, a program of this session
import Derived.Test.YteikafepdkijdaaPLevelTableX0
import Derived.Test.YteikafepdkijdaaPLevelTableXEq
import Derived.Test.YteikafepdkijdaaPLevelTableXEnds
import Derived.Test.YteikafepdkijdaaPLevelTableHLeast
import Derived.Test.YteikafepdkijdaaPLevelTableHLevel
namespace Go.Proofs.Yteikafepdkijdaa.X
open Go.RowKit Go.Proofs.YteikafepdkijdaaW.PrintWords Go.Proofs.YteikafepdkijdaaW.PrintLast Go.Proofs.YteikafepdkijdaaW.PrintMore
attribute [local go_sem] max2_int min2_int max_two min_two
set_option linter.unusedVariables false
set_option linter.unusedSimpArgs false

attribute [local go_sem high] eqA48
def demurragelaw20_shown.f (k : Nat)  : Option (Bool) := (some (([(⟨1, 1⟩ : S56), (⟨1, 1⟩ : S56), (⟨1, 1⟩ : S56)] : List (S56)) : List (S56))).bind fun y169 => ((level_Least.f k 300 1000 y169).bind fun bt172 => ((level_Table.f k 300 1000 y169).bind fun bt174 => ((level_Ends.f k 300 1000 y169 121).bind fun bt178 => ((level_Ends.f k 300 1000 y169 120).bind fun bt180 => ((level_Ends.f k 300 1000 y169 (-1)).bind fun bt182 => ((level_Least.f k 300 1000 ([] : List (S56))).bind fun bt184 => (if (bt174.1.length : Int) = 3 then (if bt172.1 = 121 then (if bt172.2 = 0 then (if bt174.2 = 0 then (if 0 < (bt174.1.length : Int) then (if (((rd_T48 bt174.1 0).f0) == 300 && (((rd_T48 bt174.1 0).f1) == 30 && (((rd_T48 bt174.1 0).f2) == 91 && (((rd_T48 bt174.1 0).f3) == 121 && (((rd_T48 bt174.1 0).f4) == 209))))) = true then (if 1 < (bt174.1.length : Int) then (if ((rd_T48 bt174.1 1).f3) = 121 then (if 2 < (bt174.1.length : Int) then (if (((rd_T48 bt174.1 2).f0) == 109 && (((rd_T48 bt174.1 2).f1) == 11 && (((rd_T48 bt174.1 2).f2) == 109 && (((rd_T48 bt174.1 2).f3) == 120 && (((rd_T48 bt174.1 2).f4) == 0))))) = true then (if bt178.1 = true then (if bt178.2 = 0 then (if bt180.1 = true then (none) else (if bt180.2 = 0 then (if bt182.2 = 2 then (some (bt184.2 == 1)) else (none)) else (none))) else (none)) else (none)) else (none)) else (none)) else (none)) else (none)) else (none)) else (none)) else (none)) else (none)) else (none)) else (none))))))))
theorem demurragelaw20_shown.mono : ∀ k, LeO (demurragelaw20_shown.f k ) (demurragelaw20_shown.f (k + 1) ) := by
 intro  k
 unfold demurragelaw20_shown.f
 repeat' first
   | (with_reducible exact level_Ends.mono _ _ _ _ _)
   | (with_reducible exact level_Least.mono _ _ _ _)
   | (with_reducible exact level_Table.mono _ _ _ _)
   | (with_reducible exact LeO.refl _)
   | (with_reducible exact LeO.none _)
   | (with_reducible refine LeO.ite ?_ ?_)
   | (with_reducible refine LeO.bind ?_ (fun _ => ?_))
   | exact level_Ends.mono _ _ _ _ _
   | exact level_Least.mono _ _ _ _
   | exact level_Table.mono _ _ _ _
   | exact LeO.none _
   | refine LeO.ite ?_ ?_
   | refine LeO.bind ?_ (fun _ => ?_)
set_option maxHeartbeats 8000000 in
set_option maxRecDepth 100000 in
theorem demurragelaw20_shown.calls (k : Nat)  (r : Bool) (w : World) (h : demurragelaw20_shown.f k  = some r) :
  Calls Try.prog 15 #[] w fun e w' => e = .returned (.bool r) ∧ Below w.heap.size w w' := by
 have hu56 := Try.underlying56
 have hu48 := Try.underlying48
 have HB := aA_ (Below.refl w.heap.size w)
 have H : ((some (([(⟨1, 1⟩ : S56), (⟨1, 1⟩ : S56), (⟨1, 1⟩ : S56)] : List (S56)) : List (S56))).bind fun y169 => ((level_Least.f k 300 1000 y169).bind fun bt172 => ((level_Table.f k 300 1000 y169).bind fun bt174 => ((level_Ends.f k 300 1000 y169 121).bind fun bt178 => ((level_Ends.f k 300 1000 y169 120).bind fun bt180 => ((level_Ends.f k 300 1000 y169 (-1)).bind fun bt182 => ((level_Least.f k 300 1000 ([] : List (S56))).bind fun bt184 => (if (bt174.1.length : Int) = 3 then (if bt172.1 = 121 then (if bt172.2 = 0 then (if bt174.2 = 0 then (if 0 < (bt174.1.length : Int) then (if (((rd_T48 bt174.1 0).f0) == 300 && (((rd_T48 bt174.1 0).f1) == 30 && (((rd_T48 bt174.1 0).f2) == 91 && (((rd_T48 bt174.1 0).f3) == 121 && (((rd_T48 bt174.1 0).f4) == 209))))) = true then (if 1 < (bt174.1.length : Int) then (if ((rd_T48 bt174.1 1).f3) = 121 then (if 2 < (bt174.1.length : Int) then (if (((rd_T48 bt174.1 2).f0) == 109 && (((rd_T48 bt174.1 2).f1) == 11 && (((rd_T48 bt174.1 2).f2) == 109 && (((rd_T48 bt174.1 2).f3) == 120 && (((rd_T48 bt174.1 2).f4) == 0))))) = true then (if bt178.1 = true then (if bt178.2 = 0 then (if bt180.1 = true then (none) else (if bt180.2 = 0 then (if bt182.2 = 2 then (some (bt184.2 == 1)) else (none)) else (none))) else (none)) else (none)) else (none)) else (none)) else (none)) else (none)) else (none)) else (none)) else (none)) else (none)) else (none)) else (none))))))))) = some r := h
 clear h
 obtain ⟨y169, hy169⟩ : ∃ y_ : List (S56), y_ = (([(⟨1, 1⟩ : S56), (⟨1, 1⟩ : S56), (⟨1, 1⟩ : S56)] : List (S56))) := ⟨_, rfl⟩
 replace H : ((level_Least.f k 300 1000 y169).bind fun bt172 => ((level_Table.f k 300 1000 y169).bind fun bt174 => ((level_Ends.f k 300 1000 y169 121).bind fun bt178 => ((level_Ends.f k 300 1000 y169 120).bind fun bt180 => ((level_Ends.f k 300 1000 y169 (-1)).bind fun bt182 => ((level_Least.f k 300 1000 ([] : List (S56))).bind fun bt184 => (if (bt174.1.length : Int) = 3 then (if bt172.1 = 121 then (if bt172.2 = 0 then (if bt174.2 = 0 then (if 0 < (bt174.1.length : Int) then (if (((rd_T48 bt174.1 0).f0) == 300 && (((rd_T48 bt174.1 0).f1) == 30 && (((rd_T48 bt174.1 0).f2) == 91 && (((rd_T48 bt174.1 0).f3) == 121 && (((rd_T48 bt174.1 0).f4) == 209))))) = true then (if 1 < (bt174.1.length : Int) then (if ((rd_T48 bt174.1 1).f3) = 121 then (if 2 < (bt174.1.length : Int) then (if (((rd_T48 bt174.1 2).f0) == 109 && (((rd_T48 bt174.1 2).f1) == 11 && (((rd_T48 bt174.1 2).f2) == 109 && (((rd_T48 bt174.1 2).f3) == 120 && (((rd_T48 bt174.1 2).f4) == 0))))) = true then (if bt178.1 = true then (if bt178.2 = 0 then (if bt180.1 = true then (none) else (if bt180.2 = 0 then (if bt182.2 = 2 then (some (bt184.2 == 1)) else (none)) else (none))) else (none)) else (none)) else (none)) else (none)) else (none)) else (none)) else (none)) else (none)) else (none)) else (none)) else (none)) else (none)))))))) = some r := by first | (rw [hy169]; with_reducible exact H) | (have H2_ := (Option.bind_some _ _).symm.trans H; rw [hy169]; with_reducible exact H2_) | (have H2_ := (Option.bind_some _ _).symm.trans H; with_reducible exact H2_) | with_reducible exact H | (rw [hy169]; exact H) | exact H
 have Ny169 := aA_ hy169
 clear hy169
 replace H := bI_ H
 obtain ⟨⟨t172, t173⟩, A10, H⟩ := H
 (try dsimp only at H)
 have A1 := aA_ A10
 clear A10
 replace H := bI_ H
 obtain ⟨⟨t174, t175⟩, A20, H⟩ := H
 (try dsimp only at H)
 have A2 := aA_ A20
 clear A20
 replace H := bI_ H
 obtain ⟨⟨t178, t179⟩, A30, H⟩ := H
 (try dsimp only at H)
 have A3 := aA_ A30
 clear A30
 replace H := bI_ H
 obtain ⟨⟨t180, t181⟩, A40, H⟩ := H
 (try dsimp only at H)
 have A4 := aA_ A40
 clear A40
 replace H := bI_ H
 obtain ⟨⟨t182, t183⟩, A50, H⟩ := H
 (try dsimp only at H)
 have A5 := aA_ A50
 clear A50
 replace H := bI_ H
 obtain ⟨⟨t184, t185⟩, A60, H⟩ := H
 (try dsimp only at H)
 have A6 := aA_ A60
 clear A60
 by_cases c7 : (t174.length : Int) = 3
 ·rw [if_pos c7] at H
  have c7b0 : ((t174.length : Int) == 3) = true := beq_iff_eq.mpr c7
  have c7b1 : ((t174.length : Int) != 3) = false := bne_eq_false_iff_eq.mpr c7
  clear c7
  by_cases c8 : t172 = 121
  ·rw [if_pos c8] at H
   have c8b0 : (t172 == 121) = true := beq_iff_eq.mpr c8
   have c8b1 : (t172 != 121) = false := bne_eq_false_iff_eq.mpr c8
   clear c8
   by_cases c9 : t173 = 0
   ·rw [if_pos c9] at H
    have c9b0 : (t173 == 0) = true := beq_iff_eq.mpr c9
    have c9b1 : (t173 != 0) = false := bne_eq_false_iff_eq.mpr c9
    clear c9
    by_cases c10 : t175 = 0
    ·rw [if_pos c10] at H
     have c10b0 : (t175 == 0) = true := beq_iff_eq.mpr c10
     have c10b1 : (t175 != 0) = false := bne_eq_false_iff_eq.mpr c10
     clear c10
     by_cases c11 : 0 < (t174.length : Int)
     ·rw [if_pos c11] at H
      have c11b0 : decide (0 < (t174.length : Int)) = true := decide_eq_true c11
      have c11b1 : decide (0 < t174.length) = true := decide_eq_true (by omega)
      clear c11
      by_cases c12 : (((rd_T48 t174 0).f0) == 300 && (((rd_T48 t174 0).f1) == 30 && (((rd_T48 t174 0).f2) == 91 && (((rd_T48 t174 0).f3) == 121 && (((rd_T48 t174 0).f4) == 209))))) = true
      ·rw [if_pos c12] at H
       have c12b0 : (((rd_T48 t174 0).f0) == 300 && (((rd_T48 t174 0).f1) == 30 && (((rd_T48 t174 0).f2) == 91 && (((rd_T48 t174 0).f3) == 121 && (((rd_T48 t174 0).f4) == 209))))) = true := c12
       (try (have c12b1 : decide (((rd_T48 t174 0).f0) = 300 && (((rd_T48 t174 0).f1) == 30 && (((rd_T48 t174 0).f2) == 91 && (((rd_T48 t174 0).f3) == 121 && (((rd_T48 t174 0).f4) == 209))))) = true := by simpa using c12))
       (try (have c12b2 : (((rd_T48 t174 0).f0) == 300 && (((rd_T48 t174 0).f1) == 30 && (((rd_T48 t174 0).f2) == 91 && (((rd_T48 t174 0).f3) == 121 && (((rd_T48 t174 0).f4) == 209))))) = true := by simpa using c12))
       clear c12
       by_cases c13 : 1 < (t174.length : Int)
       ·rw [if_pos c13] at H
        have c13b0 : decide (1 < (t174.length : Int)) = true := decide_eq_true c13
        have c13b1 : decide (1 < t174.length) = true := decide_eq_true (by omega)
        clear c13
        by_cases c14 : ((rd_T48 t174 1).f3) = 121
        ·rw [if_pos c14] at H
         have c14b0 : (((rd_T48 t174 1).f3) == 121) = true := beq_iff_eq.mpr c14
         have c14b1 : (((rd_T48 t174 1).f3) != 121) = false := bne_eq_false_iff_eq.mpr c14
         clear c14
         by_cases c15 : 2 < (t174.length : Int)
         ·rw [if_pos c15] at H
          have c15b0 : decide (2 < (t174.length : Int)) = true := decide_eq_true c15
          have c15b1 : decide (2 < t174.length) = true := decide_eq_true (by omega)
          clear c15
          by_cases c16 : (((rd_T48 t174 2).f0) == 109 && (((rd_T48 t174 2).f1) == 11 && (((rd_T48 t174 2).f2) == 109 && (((rd_T48 t174 2).f3) == 120 && (((rd_T48 t174 2).f4) == 0))))) = true
          ·rw [if_pos c16] at H
           have c16b0 : (((rd_T48 t174 2).f0) == 109 && (((rd_T48 t174 2).f1) == 11 && (((rd_T48 t174 2).f2) == 109 && (((rd_T48 t174 2).f3) == 120 && (((rd_T48 t174 2).f4) == 0))))) = true := c16
           (try (have c16b1 : decide (((rd_T48 t174 2).f0) = 109 && (((rd_T48 t174 2).f1) == 11 && (((rd_T48 t174 2).f2) == 109 && (((rd_T48 t174 2).f3) == 120 && (((rd_T48 t174 2).f4) == 0))))) = true := by simpa using c16))
           (try (have c16b2 : (((rd_T48 t174 2).f0) == 109 && (((rd_T48 t174 2).f1) == 11 && (((rd_T48 t174 2).f2) == 109 && (((rd_T48 t174 2).f3) == 120 && (((rd_T48 t174 2).f4) == 0))))) = true := by simpa using c16))
           clear c16
           by_cases c17 : t178 = true
           ·subst c17
            rw [if_pos rfl] at H
            by_cases c18 : t179 = 0
            ·rw [if_pos c18] at H
             have c18b0 : (t179 == 0) = true := beq_iff_eq.mpr c18
             have c18b1 : (t179 != 0) = false := bne_eq_false_iff_eq.mpr c18
             clear c18
             by_cases c19 : t180 = true
             ·subst c19
              rw [if_pos rfl] at H
              exact absurd H (by simp)
             ·replace c19 := Bool.eq_false_iff.mpr c19
              subst c19
              rw [if_neg (show ¬ (false = true) by decide)] at H
              by_cases c20 : t181 = 0
              ·rw [if_pos c20] at H
               have c20b0 : (t181 == 0) = true := beq_iff_eq.mpr c20
               have c20b1 : (t181 != 0) = false := bne_eq_false_iff_eq.mpr c20
               clear c20
               by_cases c21 : t183 = 2
               ·rw [if_pos c21] at H
                have c21b0 : (t183 == 2) = true := beq_iff_eq.mpr c21
                have c21b1 : (t183 != 2) = false := bne_eq_false_iff_eq.mpr c21
                clear c21
                obtain rfl := Option.some.inj H
                go_enter Try.func15, Try.ntmps15
                go_wp2_with (first | (refine box_event rfl (N := 1) rfl (cs := #[.int .i64 0, .int .i64 0]) (t := 56) ?hr ?_; (case hr => go_simp <;> rfl); intro gb168 hg w22 hbox hb; have BK168 := aA_ (hbox); have GW168 := gW_ hg (by repeat (with_reducible first | exact HB.out | apply bA_ | apply bN_ | apply bD_)); have GE168 := GW168; replace HB := bB_ (by repeat (with_reducible first | exact HB.out | apply bA_ | apply bN_ | apply bD_)) hb; clear hb hbox hg; have hcz23_0 : w22.cell? ⟨gb168, 0, none⟩ = some (.int .i64 0) := (blk_cell BK168.out 0).trans rfl; have hcz23_1 : w22.cell? ⟨gb168, 1, none⟩ = some (.int .i64 0) := (blk_cell BK168.out 1).trans rfl; have hfz23_0 := blk_frozen BK168.out 0; have hfz23_1 := blk_frozen BK168.out 1) | ((with_reducible refine gate_dst (N := 19) rfl ?_); refine Kd.R_lit k56 _ 56 ?hg (N := 19) ?hd (xs := ([(⟨1, 1⟩ : S56), (⟨1, 1⟩ : S56), (⟨1, 1⟩ : S56)] : List (S56))) (inner := [.int .i64 1, .int .i64 1, .int .i64 1, .int .i64 1, .int .i64 1, .int .i64 1]) (ok := fun _ => True) (okp := fun _ => True) ?hr ?hp (fun _ hk => hk) trivial (Below.refl _ _) (Nat.le_refl _) (by simp) ?_; (case hd => rfl); (case hg => rfl); (case hr => go_simp <;> rfl); (case hp => exact (Reps.c2 (show Kd.M k56 _ _ _ (⟨1, 1⟩ : S56) [.int .i64 1, .int .i64 1] from (k56_mkM _ _ _ (⟨1, 1⟩ : S56) )) (Reps.c2 (show Kd.M k56 _ _ _ (⟨1, 1⟩ : S56) [.int .i64 1, .int .i64 1] from (k56_mkM _ _ _ (⟨1, 1⟩ : S56) )) (Reps.c2 (show Kd.M k56 _ _ _ (⟨1, 1⟩ : S56) [.int .i64 1, .int .i64 1] from (k56_mkM _ _ _ (⟨1, 1⟩ : S56) )) (Reps.none _ _))))); intro v170 w24 ho25 hb hg_ hnew_; clear hg_ hnew_; (first | rw [← Ny169.out] at ho25 | (simp only [Int.reduceToNat] at ho25; rw [← Ny169.out] at ho25)); have HO171 := aA_ (Kd.R_lower (Kd.R_newB ho25 (g := gb168) (o := .cells #[.int .i64 1, .int .i64 1] 56 (0, 0)) (by refine blk_put (cs := #[.int .i64 1, .int .i64 0]) ?_ 1 _ rfl; refine blk_put (cs := #[.int .i64 0, .int .i64 0]) ?_ 0 _ rfl; exact BK168.out)) (below_size (by repeat (with_reducible first | exact HB.out | apply bA_ | apply bN_ | apply bD_ | refine bS_ ?_ GE168.out)))); replace BK168 := aA_ (blk_below (g := gb168) (o := .cells #[.int .i64 1, .int .i64 1] 56 (0, 0)) (by refine blk_put (cs := #[.int .i64 1, .int .i64 0]) ?_ 1 _ rfl; refine blk_put (cs := #[.int .i64 0, .int .i64 0]) ?_ 0 _ rfl; exact BK168.out) hb); replace HB := bB_ (by repeat (with_reducible first | exact HB.out | apply bA_ | apply bN_ | apply bD_ | refine bS_ ?_ GE168.out)) hb; clear hb ho25; obtain ⟨Ao26, co26, eo26⟩ := Kd.R_slice HO171.out; subst eo26) | (refine goesL_ (some 22) rfl rfl Try.func18 (by kernel_rfl) rfl #[.int .i64 300, .int .i64 1000, .slice Ao26 y169.length co26] rfl (by (try simp only [mT_, mC_, mN_]); first | done | rfl) ?_; (with_reducible refine (level_Least.calls k 300 1000 _ _ y169 t172 t173 _ ?side1 ?side2 A1.out).mono ?_); (case side1 => repeat (first | exact (Kd.R_reads' HO171.out).2.2 | (with_reducible first | refine Kd.C_alloc ?_ _ | refine Kd.C_drewN ?_ _ | refine Kd.C_drew ?_))); (case side2 => exact (Kd.R_reads' HO171.out).2.1); rintro e w27 ⟨rfl, hb⟩; refine ⟨_, rfl, ?_⟩; replace HO171 := aA_ (Kd.R_below HO171.out hb); replace BK168 := bK_ BK168 hb; replace HB := bB_ (by repeat (with_reducible first | exact HB.out | apply bA_ | apply bN_ | apply bD_ | refine bS_ ?_ GE168.out)) hb; (try clear hb)) | (refine goesL_ (some 27) rfl rfl Try.func19 (by kernel_rfl) rfl #[.int .i64 300, .int .i64 1000, .slice Ao26 y169.length co26] rfl (by (try simp only [mT_, mC_, mN_]); first | done | rfl) ?_; (with_reducible refine (level_Table.calls k 300 1000 _ _ y169 t174 t175 _ ?side1 ?side2 A2.out).mono ?_); (case side1 => repeat (first | exact (Kd.R_reads' HO171.out).2.2 | (with_reducible first | refine Kd.C_alloc ?_ _ | refine Kd.C_drewN ?_ _ | refine Kd.C_drew ?_))); (case side2 => exact (Kd.R_reads' HO171.out).2.1); rintro e w28 ⟨v176, rfl, ho0, hb⟩; refine ⟨_, rfl, ?_⟩; replace HO171 := aA_ (Kd.R_below HO171.out hb); have HO177 := aA_ (Kd.R_lower ho0 (below_size (by repeat (with_reducible first | exact HB.out | apply bA_ | apply bN_ | apply bD_ | refine bS_ ?_ GE168.out)))); replace BK168 := bK_ BK168 hb; replace HB := bB_ (by repeat (with_reducible first | exact HB.out | apply bA_ | apply bN_ | apply bD_ | refine bS_ ?_ GE168.out)) hb; (try clear hb); (try clear ho0)) | (refine goesL_ (some 32) rfl rfl Try.func16 (by kernel_rfl) rfl #[.int .i64 300, .int .i64 1000, .slice Ao26 y169.length co26, .int .i64 121] rfl (by (try simp only [mT_, mC_, mN_]); first | done | rfl) ?_; (with_reducible refine (level_Ends.calls k 300 1000 _ _ y169 121 true t179 _ ?side1 ?side2 A3.out).mono ?_); (case side1 => repeat (first | exact (Kd.R_reads' HO171.out).2.2 | (with_reducible first | refine Kd.C_alloc ?_ _ | refine Kd.C_drewN ?_ _ | refine Kd.C_drew ?_))); (case side2 => exact (Kd.R_reads' HO171.out).2.1); rintro e w29 ⟨rfl, hb⟩; refine ⟨_, rfl, ?_⟩; replace HO171 := aA_ (Kd.R_below HO171.out hb); replace HO177 := aA_ (Kd.R_below HO177.out hb); replace BK168 := bK_ BK168 hb; replace HB := bB_ (by repeat (with_reducible first | exact HB.out | apply bA_ | apply bN_ | apply bD_ | refine bS_ ?_ GE168.out)) hb; (try clear hb)) | (refine goesL_ (some 37) rfl rfl Try.func16 (by kernel_rfl) rfl #[.int .i64 300, .int .i64 1000, .slice Ao26 y169.length co26, .int .i64 120] rfl (by (try simp only [mT_, mC_, mN_]); first | done | rfl) ?_; (with_reducible refine (level_Ends.calls k 300 1000 _ _ y169 120 false t181 _ ?side1 ?side2 A4.out).mono ?_); (case side1 => repeat (first | exact (Kd.R_reads' HO171.out).2.2 | (with_reducible first | refine Kd.C_alloc ?_ _ | refine Kd.C_drewN ?_ _ | refine Kd.C_drew ?_))); (case side2 => exact (Kd.R_reads' HO171.out).2.1); rintro e w30 ⟨rfl, hb⟩; refine ⟨_, rfl, ?_⟩; replace HO171 := aA_ (Kd.R_below HO171.out hb); replace HO177 := aA_ (Kd.R_below HO177.out hb); replace BK168 := bK_ BK168 hb; replace HB := bB_ (by repeat (with_reducible first | exact HB.out | apply bA_ | apply bN_ | apply bD_ | refine bS_ ?_ GE168.out)) hb; (try clear hb)) | (refine goesL_ (some 42) rfl rfl Try.func16 (by kernel_rfl) rfl #[.int .i64 300, .int .i64 1000, .slice Ao26 y169.length co26, .int .i64 (-1)] rfl (by (try simp only [mT_, mC_, mN_]); first | done | rfl) ?_; (with_reducible refine (level_Ends.calls k 300 1000 _ _ y169 (-1) t182 t183 _ ?side1 ?side2 A5.out).mono ?_); (case side1 => repeat (first | exact (Kd.R_reads' HO171.out).2.2 | (with_reducible first | refine Kd.C_alloc ?_ _ | refine Kd.C_drewN ?_ _ | refine Kd.C_drew ?_))); (case side2 => exact (Kd.R_reads' HO171.out).2.1); rintro e w31 ⟨rfl, hb⟩; refine ⟨_, rfl, ?_⟩; replace HO171 := aA_ (Kd.R_below HO171.out hb); replace HO177 := aA_ (Kd.R_below HO177.out hb); replace BK168 := bK_ BK168 hb; replace HB := bB_ (by repeat (with_reducible first | exact HB.out | apply bA_ | apply bN_ | apply bD_ | refine bS_ ?_ GE168.out)) hb; (try clear hb)) | (refine goesL_ (some 46) rfl rfl Try.func18 (by kernel_rfl) rfl #[.int .i64 300, .int .i64 1000, .slice none 0 0] rfl (by (try simp only [mT_, mC_, mN_]); first | done | rfl) ?_; (refine (level_Least.calls k 300 1000 _ _ ([] : List (S56)) t184 t185 _ ?side1 ?side2 A6.out).mono ?_); (case side1 => exact Kd.C_nil _ _); (case side2 => exact Nat.le_refl _); rintro e w32 ⟨rfl, hb⟩; refine ⟨_, rfl, ?_⟩; replace HO171 := aA_ (Kd.R_below HO171.out hb); replace HO177 := aA_ (Kd.R_below HO177.out hb); replace BK168 := bK_ BK168 hb; replace HB := bB_ (by repeat (with_reducible first | exact HB.out | apply bA_ | apply bN_ | apply bD_ | refine bS_ ?_ GE168.out)) hb; (try clear hb); obtain ⟨Ao33, co33, eo33⟩ := Kd.R_slice HO177.out; subst eo33; have p186 : 0 ≤ (0 : Int) := (by omega); have q186 : 0 < (t174.length : Int) := of_decide_eq_true (by first | (with_reducible assumption) | assumption); obtain ⟨ad186, e186, hx186_0, hx186_1, hx186_2, hx186_3, hx186_4⟩ := at_T48 (Kd.R_reads' HO177.out).2.2 0 p186 q186; cases e186; have qi186 : (0 < t174.length) = True := eq_true (by omega); (try rw [show ((0 : Int)).toNat = 0 from rfl] at hx186_0); (try rw [show 0 * 5 = 0 from rfl] at hx186_0); (try rw [Addr.add_zero'] at hx186_0); (try rw [show ((0 : Int)).toNat = 0 from rfl] at hx186_1); (try rw [show 0 * 5 = 0 from rfl] at hx186_1); (try rw [Addr.add_zero'] at hx186_1); (try rw [show ((0 : Int)).toNat = 0 from rfl] at hx186_2); (try rw [show 0 * 5 = 0 from rfl] at hx186_2); (try rw [Addr.add_zero'] at hx186_2); (try rw [show ((0 : Int)).toNat = 0 from rfl] at hx186_3); (try rw [show 0 * 5 = 0 from rfl] at hx186_3); (try rw [Addr.add_zero'] at hx186_3); (try rw [show ((0 : Int)).toNat = 0 from rfl] at hx186_4); (try rw [show 0 * 5 = 0 from rfl] at hx186_4); (try rw [Addr.add_zero'] at hx186_4); replace p186 := eq_true p186; replace q186 := eq_true q186; have p187 : 0 ≤ (1 : Int) := (by omega); have q187 : 1 < (t174.length : Int) := of_decide_eq_true (by first | (with_reducible assumption) | assumption); obtain ⟨ad187, e187, hx187_0, hx187_1, hx187_2, hx187_3, hx187_4⟩ := at_T48 (Kd.R_reads' HO177.out).2.2 1 p187 q187; obtain rfl : ad186 = ad187 := (by injection e187); (try simp only [show (1 : Int).toNat = 1 from rfl, Nat.reduceMul, Nat.reduceEqDiff, Go.Addr.add, ↓reduceIte] at hx187_0); (try simp only [show (1 : Int).toNat = 1 from rfl, Nat.reduceMul, Nat.reduceEqDiff, Go.Addr.add, ↓reduceIte] at hx187_1); (try simp only [show (1 : Int).toNat = 1 from rfl, Nat.reduceMul, Nat.reduceEqDiff, Go.Addr.add, ↓reduceIte] at hx187_2); (try simp only [show (1 : Int).toNat = 1 from rfl, Nat.reduceMul, Nat.reduceEqDiff, Go.Addr.add, ↓reduceIte] at hx187_3); (try simp only [show (1 : Int).toNat = 1 from rfl, Nat.reduceMul, Nat.reduceEqDiff, Go.Addr.add, ↓reduceIte] at hx187_4); have qi187 : (1 < t174.length) = True := eq_true (by omega); (try rw [show ((1 : Int)).toNat = 1 from rfl] at hx187_0); (try rw [show 1 * 5 = 5 from rfl] at hx187_0); (try rw [show ((1 : Int)).toNat = 1 from rfl] at hx187_1); (try rw [show 1 * 5 = 5 from rfl] at hx187_1); (try rw [show ((1 : Int)).toNat = 1 from rfl] at hx187_2); (try rw [show 1 * 5 = 5 from rfl] at hx187_2); (try rw [show ((1 : Int)).toNat = 1 from rfl] at hx187_3); (try rw [show 1 * 5 = 5 from rfl] at hx187_3); (try rw [show ((1 : Int)).toNat = 1 from rfl] at hx187_4); (try rw [show 1 * 5 = 5 from rfl] at hx187_4); replace p187 := eq_true p187; replace q187 := eq_true q187; have p188 : 0 ≤ (2 : Int) := (by omega); have q188 : 2 < (t174.length : Int) := of_decide_eq_true (by first | (with_reducible assumption) | assumption); obtain ⟨ad188, e188, hx188_0, hx188_1, hx188_2, hx188_3, hx188_4⟩ := at_T48 (Kd.R_reads' HO177.out).2.2 2 p188 q188; obtain rfl : ad186 = ad188 := (by injection e188); (try simp only [show (2 : Int).toNat = 2 from rfl, Nat.reduceMul, Nat.reduceEqDiff, Go.Addr.add, ↓reduceIte] at hx188_0); (try simp only [show (2 : Int).toNat = 2 from rfl, Nat.reduceMul, Nat.reduceEqDiff, Go.Addr.add, ↓reduceIte] at hx188_1); (try simp only [show (2 : Int).toNat = 2 from rfl, Nat.reduceMul, Nat.reduceEqDiff, Go.Addr.add, ↓reduceIte] at hx188_2); (try simp only [show (2 : Int).toNat = 2 from rfl, Nat.reduceMul, Nat.reduceEqDiff, Go.Addr.add, ↓reduceIte] at hx188_3); (try simp only [show (2 : Int).toNat = 2 from rfl, Nat.reduceMul, Nat.reduceEqDiff, Go.Addr.add, ↓reduceIte] at hx188_4); have qi188 : (2 < t174.length) = True := eq_true (by omega); (try rw [show ((2 : Int)).toNat = 2 from rfl] at hx188_0); (try rw [show 2 * 5 = 10 from rfl] at hx188_0); (try rw [show ((2 : Int)).toNat = 2 from rfl] at hx188_1); (try rw [show 2 * 5 = 10 from rfl] at hx188_1); (try rw [show ((2 : Int)).toNat = 2 from rfl] at hx188_2); (try rw [show 2 * 5 = 10 from rfl] at hx188_2); (try rw [show ((2 : Int)).toNat = 2 from rfl] at hx188_3); (try rw [show 2 * 5 = 10 from rfl] at hx188_3); (try rw [show ((2 : Int)).toNat = 2 from rfl] at hx188_4); (try rw [show 2 * 5 = 10 from rfl] at hx188_4); replace p188 := eq_true p188; replace q188 := eq_true q188))
                go_ret
                exact ⟨by rfl, by repeat (with_reducible first | exact HB.out | apply bA_ | apply bN_ | apply bD_ | refine bS_ ?_ GE168.out)⟩
               ·rw [if_neg c21] at H
                exact absurd H (by simp)
              ·rw [if_neg c20] at H
               exact absurd H (by simp)
            ·rw [if_neg c18] at H
             exact absurd H (by simp)
           ·replace c17 := Bool.eq_false_iff.mpr c17
            subst c17
            rw [if_neg (show ¬ (false = true) by decide)] at H
            exact absurd H (by simp)
          ·rw [if_neg c16] at H
           exact absurd H (by simp)
         ·rw [if_neg c15] at H
          exact absurd H (by simp)
        ·rw [if_neg c14] at H
         exact absurd H (by simp)
       ·rw [if_neg c13] at H
        exact absurd H (by simp)
      ·rw [if_neg c12] at H
       exact absurd H (by simp)
     ·rw [if_neg c11] at H
      exact absurd H (by simp)
    ·rw [if_neg c10] at H
     exact absurd H (by simp)
   ·rw [if_neg c9] at H
    exact absurd H (by simp)
  ·rw [if_neg c8] at H
   exact absurd H (by simp)
 ·rw [if_neg c7] at H
  exact absurd H (by simp)

end Go.Proofs.Yteikafepdkijdaa.X
