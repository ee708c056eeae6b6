-- cut by prune.py, a program of this session
import Derived.Test.YtbapgkopilmdfaaDoorPActualMovesHCiv
namespace Go.Proofs.YtbapgkopilmdfaaDoor.X
open Go.RowKit Go.Proofs.YtbapgkopilmdfaaDoorW.PrintWords Go.Proofs.YtbapgkopilmdfaaDoorW.PrintLast Go.Proofs.YtbapgkopilmdfaaDoorW.PrintMore
theorem max2_mx (k k' : IntKind) (x y : Int) : Builtin.max2 (.int k x) (.int k' y) = pure (.int k (mx x y)) := max2_int k k' x y
theorem min2_mn (k k' : IntKind) (x y : Int) : Builtin.min2 (.int k x) (.int k' y) = pure (.int k (mn x y)) := min2_int k k' x y
attribute [local go_sem] max2_mx min2_mn max_two min_two
set_option linter.unusedVariables false
set_option linter.unusedSimpArgs false

def ofs (d s m : Int) (p : Int × Int) : Int × Int := (wrap64 (p.1 - wrap64 (mn (wrap64 (Int.tdiv p.1 d)) m * d)), wrap64 (p.2 + wrap64 (mn (wrap64 (Int.tdiv p.1 d)) m * s)))
def ofn : Nat → Int × Int → Int × Int
 | 0, p => ofs 365 1 3 (ofs 1461 4 24 (ofs 36524 100 3 (ofs 146097 400 24 p)))
 | 1, p => ofs 365 1 3 (ofs 1461 4 24 (ofs 36524 100 3 p))
 | 2, p => ofs 365 1 3 (ofs 1461 4 24 p)
 | 3, p => ofs 365 1 3 p
 | _, p => p
def civil_Of.l0 : Nat → Int → Int → Int → Option (Int × Int × Int × Int)
 | 0, _, _, _ => none
 | k + 1, y, n, m => (civil_Length.f y m).bind fun t => if n ≥ t then civil_Of.l0 k y (wrap64 (n - t)) (wrap64 (m + 1)) else some (y, m, wrap64 (n + 1), 0)
def civil_Of.f (k : Nat) (a0 : Int) : Option (Int × Int × Int × Int) := if a0 < 1 then some (0, 0, 0, 3) else if a0 > 3652059 then some (0, 0, 0, 3) else civil_Of.l0 k (ofn 0 (wrap64 (a0 - 1), 1)).2 (ofn 0 (wrap64 (a0 - 1), 1)).1 1
theorem civil_Of.mono_l : ∀ k y n m, LeO (civil_Of.l0 k y n m) (civil_Of.l0 (k + 1) y n m)
 | 0 => fun _ _ _ r h => by simp [civil_Of.l0] at h
 | k + 1 => fun y n m => by
  rw [civil_Of.l0, civil_Of.l0]
  exact LeO.bind (LeO.refl _) (fun _ => LeO.ite (civil_Of.mono_l k _ _ _) (LeO.refl _))
theorem civil_Of.mono : ∀ a0 k, LeO (civil_Of.f k a0) (civil_Of.f (k + 1) a0) := fun a0 k => LeO.ite (LeO.refl _) (LeO.ite (LeO.refl _) (civil_Of.mono_l k _ _ _))

set_option maxHeartbeats 8000000 in
set_option maxRecDepth 100000 in
theorem civil_Of.calls (k : Nat) (a0 : Int) (r1 r2 r3 r4 : Int) (w : World) (hv : Vars w) (h : civil_Of.f k a0 = some (r1, r2, r3, r4)) :
  Calls Tryd.prog 28 #[.int .i64 a0] w fun e w' => e = .returned (.tuple #[.agg #[.int .i64 r1, .int .i64 r2, .int .i64 r3], .int .i64 r4]) ∧ Below w.heap.size w w' := by
 have HV := aA_ hv
 have huC := Tryd.underlying41
 have HB := aA_ (Below.refl w.heap.size w)
 clear hv
 unfold civil_Of.f at h
 by_cases c0 : a0 < 1
 ·rw [if_pos c0] at h
  have b0 : decide (a0 < 1) = true := decide_eq_true c0
  clear c0
  simp only [Option.some.injEq, Prod.mk.injEq] at h
  obtain ⟨rfl, rfl, rfl, rfl⟩ := h
  go_enter Tryd.func28, Tryd.ntmps28
  go_wp2_with (refine box_event rfl (N := 2) rfl (cs := #[.int .i64 0, .int .i64 0, .int .i64 0]) (t := 41) ?hr ?_; (case hr => go_simp <;> rfl); intro g hg w_g hbox hb; have Gg := gW_ hg HB.out; replace HB := bB_ HB.out hb; have Bg := aA_ hbox; clear hb hbox hg; have hzg0 := ((blk_cell Bg.out 0).trans rfl : w_g.cell? ⟨g, 0, none⟩ = some (.int .i64 0)); have hfg0 := blk_frozen Bg.out 0; have hzg1 := ((blk_cell Bg.out 1).trans rfl : w_g.cell? ⟨g, 1, none⟩ = some (.int .i64 0)); have hfg1 := blk_frozen Bg.out 1; have hzg2 := ((blk_cell Bg.out 2).trans rfl : w_g.cell? ⟨g, 2, none⟩ = some (.int .i64 0)); have hfg2 := blk_frozen Bg.out 2)
  refine bodyPost_ret (results_ct rfl _ _ g 41 #[.int .i64 0, .int .i64 0, .int .i64 0] (0, 0) _ rfl (by refine blk_put (cs := #[.int .i64 0, .int .i64 0, .int .i64 0]) ?_ 2 _ rfl; refine blk_put (cs := #[.int .i64 0, .int .i64 0, .int .i64 0]) ?_ 1 _ rfl; refine blk_put (cs := #[.int .i64 0, .int .i64 0, .int .i64 0]) ?_ 0 _ rfl; exact Bg.out) Tryd.underlying41 rfl (by kernel_rfl)) rfl ?_
  exact ⟨rfl, below_set (below_set (below_set HB.out Gg.out) Gg.out) Gg.out⟩
 rw [if_neg c0] at h
 have b0 : decide (a0 < 1) = false := decide_eq_false c0
 clear c0
 by_cases c1 : a0 > 3652059
 ·rw [if_pos c1] at h
  have b1 : decide (3652059 < a0) = true := decide_eq_true c1
  clear c1
  simp only [Option.some.injEq, Prod.mk.injEq] at h
  obtain ⟨rfl, rfl, rfl, rfl⟩ := h
  go_enter Tryd.func28, Tryd.ntmps28
  go_wp2_with (refine box_event rfl (N := 2) rfl (cs := #[.int .i64 0, .int .i64 0, .int .i64 0]) (t := 41) ?hr ?_; (case hr => go_simp <;> rfl); intro g hg w_g hbox hb; have Gg := gW_ hg HB.out; replace HB := bB_ HB.out hb; have Bg := aA_ hbox; clear hb hbox hg; have hzg0 := ((blk_cell Bg.out 0).trans rfl : w_g.cell? ⟨g, 0, none⟩ = some (.int .i64 0)); have hfg0 := blk_frozen Bg.out 0; have hzg1 := ((blk_cell Bg.out 1).trans rfl : w_g.cell? ⟨g, 1, none⟩ = some (.int .i64 0)); have hfg1 := blk_frozen Bg.out 1; have hzg2 := ((blk_cell Bg.out 2).trans rfl : w_g.cell? ⟨g, 2, none⟩ = some (.int .i64 0)); have hfg2 := blk_frozen Bg.out 2)
  refine bodyPost_ret (results_ct rfl _ _ g 41 #[.int .i64 0, .int .i64 0, .int .i64 0] (0, 0) _ rfl (by refine blk_put (cs := #[.int .i64 0, .int .i64 0, .int .i64 0]) ?_ 2 _ rfl; refine blk_put (cs := #[.int .i64 0, .int .i64 0, .int .i64 0]) ?_ 1 _ rfl; refine blk_put (cs := #[.int .i64 0, .int .i64 0, .int .i64 0]) ?_ 0 _ rfl; exact Bg.out) Tryd.underlying41 rfl (by kernel_rfl)) rfl ?_
  exact ⟨rfl, below_set (below_set (below_set HB.out Gg.out) Gg.out) Gg.out⟩
 rw [if_neg c1] at h
 have b1 : decide (3652059 < a0) = false := decide_eq_false c1
 clear c1
 have H' := aA_ h
 clear h
 go_enter Tryd.func28, Tryd.ntmps28
 go_wp2_with (refine box_event rfl (N := 2) rfl (cs := #[.int .i64 0, .int .i64 0, .int .i64 0]) (t := 41) ?hr ?_; (case hr => go_simp <;> rfl); intro g hg w_g hbox hb; have Gg := gW_ hg HB.out; replace HB := bB_ HB.out hb; have Bg := aA_ hbox; clear hb hbox hg)
 go_loopg [0, 4, 23] 5 (fun kq v0 v4 v23 w' => ∃ (i : Nat) (n y : Int), v0 = .int .i64 n ∧ v4 = .int .i64 y ∧ v23 = .int .i64 (i : Int) ∧ (kq + i = 5 ∧ i < 5) ∧ Aside0 (ofn i (n, y) = ofn 0 (wrap64 (a0 - 1), 1)) ∧ Aside0 (w'.heap[g]? = some (.cells #[.int .i64 0, .int .i64 0, .int .i64 0] 41 (0, 0))) ∧ Aside0 (Below w.heap.size w w'))
 case atStart => exact ⟨0, wrap64 (a0 - 1), 1, rfl, rfl, rfl, ⟨rfl, by omega⟩, ⟨rfl⟩, Bg, HB⟩
 case round =>
  clear Bg HB
  obtain ⟨i, n, y, rfl, rfl, rfl, hk, HS, Bg, HB⟩ := hrel
  match i, hk with
  | 0, hk =>
   obtain rfl : gk = 5 := by omega
   clear hk
   have i0 : ∀ w, (Instr.index 75 (.agg #[.int .i64 146097, .int .i64 400, .int .i64 24, .int .i64 36524, .int .i64 100, .int .i64 3, .int .i64 1461, .int .i64 4, .int .i64 24, .int .i64 365, .int .i64 1, .int .i64 3]) (.int .i64 0)).run Tryd.prog w = .ok (.agg #[.int .i64 146097, .int .i64 400, .int .i64 24]) w := fun _ => by kernel_rfl
   go_upto_region 8 with (refine box_event rfl (N := 6) rfl (cs := #[.int .i64 0, .int .i64 0, .int .i64 0]) (t := 74) ?hr ?_; (case hr => go_simp <;> rfl); intro b hg w_b hbox hb; have Gb := gW_ hg HB.out; have Ngb := aA_ ((by rw [hg]; exact Nat.ne_of_lt (blk_lt Bg.out)) : g ≠ b); replace Bg := bK_ Bg hb; replace HB := bB_ HB.out hb; have Bb := aA_ hbox; clear hb hbox hg; have hzb0 := ((blk_cell Bb.out 0).trans rfl : w_b.cell? ⟨b, 0, none⟩ = some (.int .i64 0)); have hfb0 := blk_frozen Bb.out 0; have hzb1 := ((blk_cell Bb.out 1).trans rfl : w_b.cell? ⟨b, 1, none⟩ = some (.int .i64 0)); have hfb1 := blk_frozen Bb.out 1; have hzb2 := ((blk_cell Bb.out 2).trans rfl : w_b.cell? ⟨b, 2, none⟩ = some (.int .i64 0)); have hfb2 := blk_frozen Bb.out 2)
   go_quiet (fail)
   go_wp2
   go_roundg 4
   case measure => omega
   case rel => exact ⟨1, _, _, rfl, rfl, rfl, ⟨rfl, by omega⟩, HS, ⟨blk_drewN (blk_far (blk_far (blk_far Bg.out Ngb.out _) Ngb.out _) Ngb.out _) _⟩, ⟨pw_below_drewN (below_set (below_set (below_set HB.out Gb.out) Gb.out) Gb.out) _⟩⟩
  | 1, hk =>
   obtain rfl : gk = 4 := by omega
   clear hk
   have i0 : ∀ w, (Instr.index 75 (.agg #[.int .i64 146097, .int .i64 400, .int .i64 24, .int .i64 36524, .int .i64 100, .int .i64 3, .int .i64 1461, .int .i64 4, .int .i64 24, .int .i64 365, .int .i64 1, .int .i64 3]) (.int .i64 1)).run Tryd.prog w = .ok (.agg #[.int .i64 36524, .int .i64 100, .int .i64 3]) w := fun _ => by kernel_rfl
   go_upto_region 8 with (refine box_event rfl (N := 6) rfl (cs := #[.int .i64 0, .int .i64 0, .int .i64 0]) (t := 74) ?hr ?_; (case hr => go_simp <;> rfl); intro b hg w_b hbox hb; have Gb := gW_ hg HB.out; have Ngb := aA_ ((by rw [hg]; exact Nat.ne_of_lt (blk_lt Bg.out)) : g ≠ b); replace Bg := bK_ Bg hb; replace HB := bB_ HB.out hb; have Bb := aA_ hbox; clear hb hbox hg; have hzb0 := ((blk_cell Bb.out 0).trans rfl : w_b.cell? ⟨b, 0, none⟩ = some (.int .i64 0)); have hfb0 := blk_frozen Bb.out 0; have hzb1 := ((blk_cell Bb.out 1).trans rfl : w_b.cell? ⟨b, 1, none⟩ = some (.int .i64 0)); have hfb1 := blk_frozen Bb.out 1; have hzb2 := ((blk_cell Bb.out 2).trans rfl : w_b.cell? ⟨b, 2, none⟩ = some (.int .i64 0)); have hfb2 := blk_frozen Bb.out 2)
   go_quiet (fail)
   go_wp2
   go_roundg 3
   case measure => omega
   case rel => exact ⟨2, _, _, rfl, rfl, rfl, ⟨rfl, by omega⟩, HS, ⟨blk_drewN (blk_far (blk_far (blk_far Bg.out Ngb.out _) Ngb.out _) Ngb.out _) _⟩, ⟨pw_below_drewN (below_set (below_set (below_set HB.out Gb.out) Gb.out) Gb.out) _⟩⟩
  | 2, hk =>
   obtain rfl : gk = 3 := by omega
   clear hk
   have i0 : ∀ w, (Instr.index 75 (.agg #[.int .i64 146097, .int .i64 400, .int .i64 24, .int .i64 36524, .int .i64 100, .int .i64 3, .int .i64 1461, .int .i64 4, .int .i64 24, .int .i64 365, .int .i64 1, .int .i64 3]) (.int .i64 2)).run Tryd.prog w = .ok (.agg #[.int .i64 1461, .int .i64 4, .int .i64 24]) w := fun _ => by kernel_rfl
   go_upto_region 8 with (refine box_event rfl (N := 6) rfl (cs := #[.int .i64 0, .int .i64 0, .int .i64 0]) (t := 74) ?hr ?_; (case hr => go_simp <;> rfl); intro b hg w_b hbox hb; have Gb := gW_ hg HB.out; have Ngb := aA_ ((by rw [hg]; exact Nat.ne_of_lt (blk_lt Bg.out)) : g ≠ b); replace Bg := bK_ Bg hb; replace HB := bB_ HB.out hb; have Bb := aA_ hbox; clear hb hbox hg; have hzb0 := ((blk_cell Bb.out 0).trans rfl : w_b.cell? ⟨b, 0, none⟩ = some (.int .i64 0)); have hfb0 := blk_frozen Bb.out 0; have hzb1 := ((blk_cell Bb.out 1).trans rfl : w_b.cell? ⟨b, 1, none⟩ = some (.int .i64 0)); have hfb1 := blk_frozen Bb.out 1; have hzb2 := ((blk_cell Bb.out 2).trans rfl : w_b.cell? ⟨b, 2, none⟩ = some (.int .i64 0)); have hfb2 := blk_frozen Bb.out 2)
   go_quiet (fail)
   go_wp2
   go_roundg 2
   case measure => omega
   case rel => exact ⟨3, _, _, rfl, rfl, rfl, ⟨rfl, by omega⟩, HS, ⟨blk_drewN (blk_far (blk_far (blk_far Bg.out Ngb.out _) Ngb.out _) Ngb.out _) _⟩, ⟨pw_below_drewN (below_set (below_set (below_set HB.out Gb.out) Gb.out) Gb.out) _⟩⟩
  | 3, hk =>
   obtain rfl : gk = 2 := by omega
   clear hk
   have i0 : ∀ w, (Instr.index 75 (.agg #[.int .i64 146097, .int .i64 400, .int .i64 24, .int .i64 36524, .int .i64 100, .int .i64 3, .int .i64 1461, .int .i64 4, .int .i64 24, .int .i64 365, .int .i64 1, .int .i64 3]) (.int .i64 3)).run Tryd.prog w = .ok (.agg #[.int .i64 365, .int .i64 1, .int .i64 3]) w := fun _ => by kernel_rfl
   go_upto_region 8 with (refine box_event rfl (N := 6) rfl (cs := #[.int .i64 0, .int .i64 0, .int .i64 0]) (t := 74) ?hr ?_; (case hr => go_simp <;> rfl); intro b hg w_b hbox hb; have Gb := gW_ hg HB.out; have Ngb := aA_ ((by rw [hg]; exact Nat.ne_of_lt (blk_lt Bg.out)) : g ≠ b); replace Bg := bK_ Bg hb; replace HB := bB_ HB.out hb; have Bb := aA_ hbox; clear hb hbox hg; have hzb0 := ((blk_cell Bb.out 0).trans rfl : w_b.cell? ⟨b, 0, none⟩ = some (.int .i64 0)); have hfb0 := blk_frozen Bb.out 0; have hzb1 := ((blk_cell Bb.out 1).trans rfl : w_b.cell? ⟨b, 1, none⟩ = some (.int .i64 0)); have hfb1 := blk_frozen Bb.out 1; have hzb2 := ((blk_cell Bb.out 2).trans rfl : w_b.cell? ⟨b, 2, none⟩ = some (.int .i64 0)); have hfb2 := blk_frozen Bb.out 2)
   go_quiet (fail)
   go_wp2
   go_roundg 1
   case measure => omega
   case rel => exact ⟨4, _, _, rfl, rfl, rfl, ⟨rfl, by omega⟩, ⟨by have h3 := HS.out; rw [show ofn 3 (n, y) = (wrap64 (n - wrap64 (mn (wrap64 (Int.tdiv n 365)) 3 * 365)), wrap64 (y + wrap64 (mn (wrap64 (Int.tdiv n 365)) 3 * 1))) from rfl, Int.mul_one] at h3; exact h3⟩, ⟨blk_drewN (blk_far (blk_far (blk_far Bg.out Ngb.out _) Ngb.out _) Ngb.out _) _⟩, ⟨pw_below_drewN (below_set (below_set (below_set HB.out Gb.out) Gb.out) Gb.out) _⟩⟩
  | 4, hk =>
   obtain rfl : gk = 1 := by omega
   clear hk
   have HN := aA_ (show ofn 0 (wrap64 (a0 - 1), 1) = (n, y) from HS.out.symm)
   replace H' := aA_ (by have := H'.out; rw [HN.out] at this; exact this : civil_Of.l0 k y n 1 = some (r1, r2, r3, r4))
   clear HS HN
   go_wp2
   (try simp only [Act.put, sT_, sZ_, sS_])
   go_loopg [0, 8] k (fun kq v0 v8 w' => ∃ (n m : Int), v0 = .int .i64 n ∧ v8 = .int .i64 m ∧ Aside0 (civil_Of.l0 kq y n m = some (r1, r2, r3, r4)) ∧ Aside0 (kq ≤ k) ∧ Aside0 (w'.heap[g]? = some (.cells #[.int .i64 0, .int .i64 0, .int .i64 0] 41 (0, 0))) ∧ Aside0 (Below w.heap.size w w'))
   case atStart => exact ⟨n, 1, rfl, rfl, H', ⟨Nat.le_refl _⟩, Bg, HB⟩
   case round =>
    clear H' Bg HB
    obtain ⟨n, m, rfl, rfl, HA, HK, Bg, HB⟩ := hrel
    cases gk with
    | zero => exact absurd HA.out (by simp [civil_Of.l0])
    | succ k1 =>
     have H := HA.out
     clear HA
     simp only [civil_Of.l0] at H
     obtain ⟨t, A0, H⟩ := bI_ H
     have A := aA_ A0
     clear A0
     by_cases c : n ≥ t
     ·rw [if_pos c] at H
      have b0 : decide (t ≤ n) = true := decide_eq_true c
      have H' := aA_ H
      clear H c
      go_wp2_with (first | (refine goesL_ (some 49) rfl rfl Tryd.func46 (by kernel_rfl) rfl #[.int .i64 y, .int .i64 m] rfl (by (try simp only [mT_, mC_, mN_]); first | done | rfl) ?_; (with_reducible refine (civil_Length.calls y m t _ ?sv A.out).mono ?_); (case sv => exact HV.out.below (by first | exact HB.out | exact pw_below_drewN HB.out _)); rintro e w' ⟨rfl, ⟨nd, rfl⟩⟩; refine ⟨_, rfl, ?_⟩) | (refine goesL_ (some 54) rfl rfl Tryd.func46 (by kernel_rfl) rfl #[.int .i64 y, .int .i64 m] rfl (by (try simp only [mT_, mC_, mN_]); first | done | rfl) ?_; (with_reducible refine (civil_Length.calls y m t _ ?sv A.out).mono ?_); (case sv => exact HV.out.below (by first | exact HB.out | exact pw_below_drewN HB.out _)); rintro e w' ⟨rfl, ⟨nd, rfl⟩⟩; refine ⟨_, rfl, ?_⟩))
      go_roundg k1
      case measure => have := HK.out; omega
      case rel => exact ⟨wrap64 (n - t), wrap64 (m + 1), rfl, rfl, H', ⟨by have := HK.out; omega⟩, ⟨blk_drewN Bg.out _⟩, ⟨pw_below_drewN HB.out _⟩⟩
     ·rw [if_neg c] at H
      have b0 : decide (t ≤ n) = false := decide_eq_false c
      simp only [Option.some.injEq, Prod.mk.injEq] at H
      obtain ⟨rfl, rfl, rfl, rfl⟩ := H
      clear c
      go_wp2_with (refine goesL_ (some 49) rfl rfl Tryd.func46 (by kernel_rfl) rfl #[.int .i64 y, .int .i64 m] rfl (by (try simp only [mT_, mC_, mN_]); first | done | rfl) ?_; (with_reducible refine (civil_Length.calls y m t _ ?sv A.out).mono ?_); (case sv => exact HV.out.below (by first | exact HB.out | exact pw_below_drewN HB.out _)); rintro e w' ⟨rfl, ⟨nd, rfl⟩⟩; refine ⟨_, rfl, ?_⟩; (try (rw [drewN_self wr]; generalize hq_ : World.drewN wr _ = wr; have n0_ : Aside0 (wr.heap[g]? = some (.cells #[.int .i64 0, .int .i64 0, .int .i64 0] 41 (0, 0))) := ⟨by rw [← hq_]; exact Bg.out⟩; have n1_ : Aside0 (Below w.heap.size w wr) := ⟨by rw [← hq_]; exact pw_below_drewN HB.out _⟩; clear Bg HB hq_; have Bg := n0_; have HB := n1_; clear n0_ n1_)); have hzg0 := ((blk_cell Bg.out 0).trans rfl : wr.cell? ⟨g, 0, none⟩ = some (.int .i64 0)); have hfg0 := blk_frozen Bg.out 0; have hzg1 := ((blk_cell Bg.out 1).trans rfl : wr.cell? ⟨g, 1, none⟩ = some (.int .i64 0)); have hfg1 := blk_frozen Bg.out 1; have hzg2 := ((blk_cell Bg.out 2).trans rfl : wr.cell? ⟨g, 2, none⟩ = some (.int .i64 0)); have hfg2 := blk_frozen Bg.out 2)
      refine bodyPost_ret (results_ct rfl _ _ g 41 #[.int .i64 y, .int .i64 m, .int .i64 (wrap64 (n + 1))] (0, 0) _ rfl (by refine blk_put (cs := #[.int .i64 y, .int .i64 m, .int .i64 0]) ?_ 2 _ rfl; refine blk_put (cs := #[.int .i64 y, .int .i64 0, .int .i64 0]) ?_ 1 _ rfl; refine blk_put (cs := #[.int .i64 0, .int .i64 0, .int .i64 0]) ?_ 0 _ rfl; exact Bg.out) Tryd.underlying41 rfl (by kernel_rfl)) rfl ?_
      exact ⟨rfl, below_set (below_set (below_set HB.out Gg.out) Gg.out) Gg.out⟩
  | i + 5, hk => exact absurd hk (by omega)
end Go.Proofs.YtbapgkopilmdfaaDoor.X
