-- cut by prune.py, a program of this session
import Derived.Test.YtbapgkopilmdfaaDoorPActualMovesX0
import Derived.LoopTactic
namespace Go.Proofs.YtbapgkopilmdfaaDoor.X
open Go.RowKit Go.Proofs.YtbapgkopilmdfaaDoorW.PrintWords Go.Proofs.YtbapgkopilmdfaaDoorW.PrintLast Go.Proofs.YtbapgkopilmdfaaDoorW.PrintMore
set_option linter.unusedVariables false
set_option linter.unusedSimpArgs false

def trimN (l : List Int) : Nat → Nat
 | 0 => 0
 | n + 1 => if rd l n = 0 then trimN l n else n + 1
def demurrageref01_trim.f (l0 : List Int) : Option (List Int) := if l0.length < 17592186044416 then some (l0.take (trimN l0 l0.length)) else none

set_option maxHeartbeats 400000 in
set_option maxRecDepth 100000 in
theorem demurrageref01_trim.calls (A0 : Option Addr) (c0 : Nat) (l0 : List Int) (r : List Int) (w : World) (hr0 : Kd.C (Kd.int .i64) w A0 l0.length l0) (hc0 : l0.length ≤ c0) (h : demurrageref01_trim.f l0 = some r) :
  Calls Tryd.prog 57 #[.slice A0 l0.length c0] w fun e w' => ∃ v0_ : Value, e = .returned (.agg #[v0_]) ∧ Kd.R (Kd.int .i64) 3 w' w.heap.size (fun _ => True) v0_ r ∧ Below w.heap.size w w' := by
 unfold demurrageref01_trim.f at h
 split at h
 case isFalse => cases h
 rename_i hlen
 obtain rfl := Option.some.inj h
 clear h
 have hu28 := Tryd.underlying56
 have HR0 := aA_ hr0
 have HC0 := aA_ hc0
 clear hr0 hc0
 have HB := aA_ (Below.refl w.heap.size w)
 go_enter Tryd.func57, Tryd.ntmps57
 go_wp2_with (first | (refine box_event rfl (N := 2) rfl (cs := #[.slice none 0 0]) (t := 56) ?hr ?_; (case hr => go_simp <;> rfl); intro gb hg w2 hbox hb; have n0_ := aA_ (below_step HB.out hb); have GB := gW_ hg HB.out; have BK := aA_ hbox; clear HB; have HB := n0_; clear n0_; clear hb hbox hg))
 have HLEN := aA_ hlen
 have hmax : l0.length ≤ 9223372036854775807 := by omega
 go_loop [3] (fun v3 => ∃ n : Nat, v3 = .int .i64 n ∧ n ≤ l0.length ∧ Aside0 (trimN l0 l0.length = trimN l0 n)) (fun v3 => (intOf v3).toNat)
 case atStart => exact ⟨l0.length, rfl, Nat.le_refl _, ⟨rfl⟩⟩
 case round =>
  obtain ⟨n, rfl, hn, HT⟩ := hrel
  by_cases hn0 : n = 0
  ·subst hn0
   have HT_ := HT.out
   simp only [trimN] at HT_
   have HZ := aA_ HT_
   clear HT_
   clear hlen
   go_wp2_with (first | ((with_reducible refine gate_dst (N := 18) rfl ?_); refine Kd.R_lit (Kd.int .i64) _ 3 ?hg (N := 18) ?hd (xs := ([] : List Int)) (inner := []) (ok := fun _ => True) (okp := fun _ => True) ?hr ?hp (fun _ hk => hk) trivial (Below.refl _ _) (Nat.le_refl _) (by simp) ?_; (case hd => rfl); (case hg => rfl); (case hr => go_simp <;> rfl); (case hp => exact (Reps.none _ _)); intro v147 w20 ho21 hb hg_ hnew_; clear hg_ hnew_; (try simp only [Int.reduceToNat] at ho21); have n0_ := aA_ (Kd.R_lower ho21 (below_size HB.out)); have n1_ := aA_ (blk_below (g := gb) (o := .cells #[.slice none 0 0] 56 (0, 0)) BK.out hb); have n2_ := aA_ (below_step HB.out hb); clear BK; clear HB; have HO148 := n0_; have BK := n1_; have HB := n2_; clear n0_ n1_ n2_; clear hb ho21; obtain ⟨i022, hi022, _, hsz22, _⟩ := info_parts info3; obtain ⟨hcut22, hA22, hC22⟩ := print_take_of (P := Tryd.prog) (Value.int .i64) 0 54 3 .i64 Tryd.underlying54 hi022 hsz22 A0 c0 l0 (0 : Int) (by omega) (by omega) HC0.out; have HR149 := aA_ (Kd.C_of_reads (h1 := fun _ => rfl) (hA22 _ (Kd.reads_of_C HR0.out))); have HC149 := aA_ hC22; clear hA22 hC22 hi022 hsz22) | ((with_reducible refine gate_builtin (b := .append) (xs := #[.tmp 18, .tmp 21]) rfl ?_); at_builtin; (refine Kd.R_append_rows (Kd.int .i64) (w0 := w) w.heap.size rfl (.tmp 18) (.tmp 21) 54 3 (.int .i64 0) 8 rfl Tryd.underlying54 info3 rfl (by decide) (by omega) v147 [] (l0.take ((0 : Int) : Int).toNat) _ _ _ (fun _ => True) (fun _ => False) rfl rfl ?aO ?aR (fun _ _ h => h) (fun _ h => h.elim) ?aF ?aB ?aS ?aL ?_); (case aR => first | (rw [← show (l0.take ((0 : Int) : Int).toNat).length = (0 : Int).toNat from (by rw [List.length_take]; omega)]; repeat (first | exact (Kd.C_below HR149.out HB.out) | (with_reducible first | refine Kd.C_alloc ?_ _ | refine Kd.C_drewN ?_ _ | refine Kd.C_drew ?_))) | (repeat (first | exact (Kd.C_below HR149.out HB.out) | (with_reducible first | refine Kd.C_alloc ?_ _ | refine Kd.C_drewN ?_ _ | refine Kd.C_drew ?_)))); (case aB => exact HB.out); (case aF => exact (fun _ _ => trivial)); (case aO => exact (by (with_reducible repeat (first | apply Kd.R_alloc | apply Kd.R_drewN | apply Kd.R_drew)); exact HO148.out)); (case aS => exact (below_size HB.out)); (case aL => have hlx_ := (show (l0.take ((0 : Int) : Int).toNat).length = (0 : Int).toNat from (by rw [List.length_take]; omega)); have := HLEN.out; simp only [List.length_nil]; omega); intro v151 w23 ho hb hg hat; have n0_ := aA_ (blk_grown (g := gb) (o := .cells #[.slice none 0 0] 56 (0, 0)) BK.out hg (Kd.R_ne HO148.out BK.out (by decide))); have n1_ := aA_ (hb); have n2_ := aA_ (ho); clear BK; clear HB; clear HO148; have BK := n0_; have HB := n1_; have HO152 := n2_; clear n0_ n1_ n2_; clear ho hb hg hat; obtain ⟨Ao24, co24, eo24⟩ := Kd.R_slice HO152.out; subst eo24; have hcz25_0 : w23.cell? ⟨gb, 0, none⟩ = some (.slice none 0 0) := (blk_cell BK.out 0).trans rfl; have hfz25_0 := blk_frozen BK.out 0))
   refine bodyPost_ret (results_cell_row rfl _ _ gb 56 #[.slice Ao24 _ co24] (0, 0) _ rfl (blk_put (cs := #[.slice none 0 0]) BK.out 0 _ rfl) Tryd.underlying56 rfl (by kernel_rfl)) rfl ?_
   rw [HZ.out]
   exact ⟨_, rfl, Kd.R_mono (Kd.R_far (p := ⟨gb, 0, none⟩) (Kd.R_types HO152.out BK.out (by decide)) (fun _ hk => hk.2) (.slice Ao24 _ co24)) (fun _ hk => trivial), below_set HB.out GB.out⟩
  ·obtain ⟨ad, rfl, hcell⟩ := Kd.at_int HR0.out ((n : Int) - 1) (by omega) (by omega)
   have hcell2 := (HB.out.cell (World.block_lt_of_cell? w _ hcell)).trans hcell
   rw [show ((n : Int) - 1).toNat = n - 1 by omega] at hcell2
   clear hcell
   have hr0 : 0 < (n : Int) := by omega
   have hr1 : (n : Int) - 1 < (l0.length : Int) := by omega
   have hrr : rd l0 ((n : Int) - 1) = rd l0 ((n - 1 : Nat) : Int) := by rw [show ((n : Int) - 1) = ((n - 1 : Nat) : Int) by omega]
   obtain ⟨m, hm⟩ : ∃ m, n = m + 1 := ⟨n - 1, by omega⟩
   have hT2 : trimN l0 n = if rd l0 ((n : Int) - 1) = 0 then trimN l0 (n - 1) else n := by
    rw [hrr]; subst hm; rfl
   have HM := aA_ hm
   clear hm hrr
   by_cases hrd : rd l0 ((n : Int) - 1) = 0
   ·have c1 : ((rd l0 ((n : Int) - 1)) == 0) = true := beq_iff_eq.mpr hrd
    have hz := aA_ (HT.out.trans (by rw [hT2, if_pos hrd]))
    clear hrd hlen hT2
    go_wp2
    go_round
    case rel => exact ⟨n - 1, by rw [Int.natCast_sub (by omega)]; rfl, by omega, hz⟩
    case measure => simp [intOf]; omega
   ·have c1 : ((rd l0 ((n : Int) - 1)) == 0) = false := beq_eq_false_iff_ne.mpr hrd
    have hz := aA_ (HT.out.trans (by rw [hT2, if_neg hrd]))
    clear hrd hlen hT2
    go_wp2_with (first | ((with_reducible refine gate_dst (N := 18) rfl ?_); refine Kd.R_lit (Kd.int .i64) _ 3 ?hg (N := 18) ?hd (xs := ([] : List Int)) (inner := []) (ok := fun _ => True) (okp := fun _ => True) ?hr ?hp (fun _ hk => hk) trivial (Below.refl _ _) (Nat.le_refl _) (by simp) ?_; (case hd => rfl); (case hg => rfl); (case hr => go_simp <;> rfl); (case hp => exact (Reps.none _ _)); intro v147 w20 ho21 hb hg_ hnew_; clear hg_ hnew_; (try simp only [Int.reduceToNat] at ho21); have n0_ := aA_ (Kd.R_lower ho21 (below_size HB.out)); have n1_ := aA_ (blk_below (g := gb) (o := .cells #[.slice none 0 0] 56 (0, 0)) BK.out hb); have n2_ := aA_ (below_step HB.out hb); clear BK; clear HB; have HO148 := n0_; have BK := n1_; have HB := n2_; clear n0_ n1_ n2_; clear hb ho21; obtain ⟨i022, hi022, _, hsz22, _⟩ := info_parts info3; obtain ⟨hcut22, hA22, hC22⟩ := print_take_of (P := Tryd.prog) (Value.int .i64) 0 54 3 .i64 Tryd.underlying54 hi022 hsz22 (some ad) c0 l0 (n : Int) (by omega) (by omega) HC0.out; have HR149 := aA_ (Kd.C_of_reads (h1 := fun _ => rfl) (hA22 _ (Kd.reads_of_C HR0.out))); have HC149 := aA_ hC22; clear hA22 hC22 hi022 hsz22) | ((with_reducible refine gate_builtin (b := .append) (xs := #[.tmp 18, .tmp 21]) rfl ?_); at_builtin; (refine Kd.R_append_rows (Kd.int .i64) (w0 := w) w.heap.size rfl (.tmp 18) (.tmp 21) 54 3 (.int .i64 0) 8 rfl Tryd.underlying54 info3 rfl (by decide) (by omega) v147 [] (l0.take ((n : Int) : Int).toNat) _ _ _ (fun _ => True) (fun _ => False) rfl rfl ?aO ?aR (fun _ _ h => h) (fun _ h => h.elim) ?aF ?aB ?aS ?aL ?_); (case aR => have hR_ := Kd.C_below HR149.out HB.out; rw [show (l0.take ((n : Int) : Int).toNat).length = n from (by rw [List.length_take]; omega)] at hR_; exact hR_); (case aB => exact HB.out); (case aF => exact (fun _ _ => trivial)); (case aO => exact (by (with_reducible repeat (first | apply Kd.R_alloc | apply Kd.R_drewN | apply Kd.R_drew)); exact HO148.out)); (case aS => exact (below_size HB.out)); (case aL => have hlx_ := (show (l0.take ((n : Int) : Int).toNat).length = n from (by rw [List.length_take]; omega)); (try rw [hlx_]); have := HLEN.out; simp only [List.length_nil]; omega); intro v151 w23 ho hb hg hat; have n0_ := aA_ (blk_grown (g := gb) (o := .cells #[.slice none 0 0] 56 (0, 0)) BK.out hg (Kd.R_ne HO148.out BK.out (by decide))); have n1_ := aA_ (hb); have n2_ := aA_ (ho); clear BK; clear HB; clear HO148; have BK := n0_; have HB := n1_; have HO152 := n2_; clear n0_ n1_ n2_; clear ho hb hg hat; obtain ⟨Ao24, co24, eo24⟩ := Kd.R_slice HO152.out; subst eo24; have hcz25_0 : w23.cell? ⟨gb, 0, none⟩ = some (.slice none 0 0) := (blk_cell BK.out 0).trans rfl; have hfz25_0 := blk_frozen BK.out 0))
    refine bodyPost_ret (results_cell_row rfl _ _ gb 56 #[.slice Ao24 _ co24] (0, 0) _ rfl (blk_put (cs := #[.slice none 0 0]) BK.out 0 _ rfl) Tryd.underlying56 rfl (by kernel_rfl)) rfl ?_
    rw [hz.out]
    have hO : Kd.R (Kd.int .i64) 3 w23 w.heap.size (fun _ => True) (.slice Ao24 n co24) (l0.take n) := by
     have h_ := HO152.out
     rw [show (([] : List Int) ++ l0.take ((n : Int)).toNat) = l0.take n by simp, show (l0.take n).length = n by rw [List.length_take]; omega] at h_
     exact h_
    exact ⟨_, rfl, Kd.R_mono (Kd.R_far (p := ⟨gb, 0, none⟩) (Kd.R_types hO BK.out (by decide)) (fun _ hk => hk.2) (.slice Ao24 n co24)) (fun _ hk => trivial), below_set HB.out GB.out⟩
end Go.Proofs.YtbapgkopilmdfaaDoor.X
