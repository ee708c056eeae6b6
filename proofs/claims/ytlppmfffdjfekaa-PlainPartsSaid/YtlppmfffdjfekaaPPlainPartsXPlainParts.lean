-- cut by prune.py, a program of this session
import Derived.Test.YtlppmfffdjfekaaPPlainPartsX0
import Derived.Test.YtlppmfffdjfekaaPPlainPartsXUsual
import Derived.Test.YtlppmfffdjfekaaPPlainPartsXShown
import Derived.Test.YtlppmfffdjfekaaPPlainPartsHPlain
namespace Go.Proofs.Ytlppmfffdjfekaa.X
open Go.RowKit Go.Proofs.YtlppmfffdjfekaaW.PrintWords Go.Proofs.YtlppmfffdjfekaaW.PrintLast Go.Proofs.YtlppmfffdjfekaaW.PrintMore
set_option linter.unusedVariables false
set_option linter.unusedSimpArgs false

def demurragelaw19_PlainParts.upsl : Nat → Nat → List Bool
 | 0, _ => []
 | n + 1, m => (m % 2 == 1) :: demurragelaw19_PlainParts.upsl n (m / 2)
def demurragelaw19_PlainParts.ups (n m : Nat) : Array Bool := ⟨demurragelaw19_PlainParts.upsl n m⟩
mutual
def demurragelaw19_PlainParts.j0 : Nat → Int → Int → List (S42) → Int → Bool → Int → Bool → Option (Bool)
 | 0, _, _, _, _, _, _, _ => none
 | k + 1, x3, x4, x5, x6, x7, x8, x40 => if x40 = true then (some x7) else (if (wrap64 (x8 + 1)) = 0 then (none) else ((some (([] : List (S42)) : List (S42))).bind fun y1101 => (if 0 ≤ (Int.tmod (wrap64 (x6)) (wrap64 (x8 + 1))) then (if (Int.tmod (wrap64 (x6)) (wrap64 (x8 + 1))) ≤ (x5.length : Int) then ((some (x5.take ((Int.tmod (wrap64 (x6)) (wrap64 (x8 + 1))) : Int).toNat : List (S42))).bind fun y1104 => (if y1101.length + y1104.length < 8796093022208 then ((some (y1101 ++ y1104 : List (S42))).bind fun y1108 => ((some (([(⟨0, 1⟩ : S42)] : List (S42)) : List (S42))).bind fun y1111 => (if y1108.length + y1111.length < 8796093022208 then ((some (y1108 ++ y1111 : List (S42))).bind fun y1114 => ((some (x5.drop ((Int.tmod (wrap64 (x6)) (wrap64 (x8 + 1))) : Int).toNat : List (S42))).bind fun y1117 => (if y1114.length + y1117.length < 8796093022208 then ((plain_Bullet.f k (wrap64 (Int.tmod x3 1000000000000001)) (Int.tmod (wrap64 (x4)) 9001) x5).bind fun bt1124 => ((plain_Bullet.f k (wrap64 (Int.tmod x3 1000000000000001)) (Int.tmod (wrap64 (x4)) 9001) (y1114 ++ y1117)).bind fun bt1128 => (if bt1124.2 = 0 then (if bt1128.2 = 0 then (if (bt1124.1.length : Int) = x8 then (if (bt1128.1.length : Int) = (wrap64 (x8 + 1)) then (if (Int.tmod (wrap64 (x6)) (wrap64 (x8 + 1))) < (bt1128.1.length : Int) then (if ((rd_T37 bt1128.1 (Int.tmod (wrap64 (x6)) (wrap64 (x8 + 1)))).f1) = 0 then (if 0 ≤ x8 then (if x8 < (bt1128.1.length : Int) then (if ((rd_T37 bt1128.1 x8).f2) = (wrap64 (Int.tmod x3 1000000000000001)) then (demurragelaw19_PlainParts.l0 k x7 x8 (Int.tmod (wrap64 (x6)) (wrap64 (x8 + 1))) bt1124.1 bt1128.1 0) else (none)) else (none)) else (none)) else (none)) else (none)) else (none)) else (none)) else (none)) else (none)))) else (none)))) else (none)))) else (none))) else (none)) else (none))))
def demurragelaw19_PlainParts.l0 : Nat → Bool → Int → Int → List (S37) → List (S37) → Int → Option (Bool)
 | 0, _, _, _, _, _, _ => none
 | k + 1, x7, x8, x11, x13, x15, x17 => if x17 < x8 then (if x17 ≥ x11 then (if 0 ≤ x17 then (if x17 < (x13.length : Int) then (if 0 ≤ (wrap64 (x17 + 1)) then (if (wrap64 (x17 + 1)) < (x15.length : Int) then (if ((rd_T37 x13 x17).f1) = ((rd_T37 x15 (wrap64 (x17 + 1))).f1) then (demurragelaw19_PlainParts.l0 k x7 x8 x11 x13 x15 (wrap64 (x17 + 1))) else (none)) else (none)) else (none)) else (none)) else (none)) else (if 0 ≤ x17 then (if x17 < (x13.length : Int) then (if x17 < (x15.length : Int) then (if ((rd_T37 x13 x17).f1) = ((rd_T37 x15 x17).f1) then (demurragelaw19_PlainParts.l0 k x7 x8 x11 x13 x15 (wrap64 (x17 + 1))) else (none)) else (none)) else (none)) else (none))) else (some x7)
end
def demurragelaw19_PlainParts.f (k : Nat) (a0_0 : Int) (a0_1 : Int) (l0_2 : List (S42)) (a0_3 : Int) : Option (Bool) := (demurragelaw19_shown.f k).bind fun t904 => (if (l0_2.length : Int) < 1 then (demurragelaw19_PlainParts.j0 k a0_0 a0_1 l0_2 a0_3 t904 (l0_2.length : Int) true) else (if (l0_2.length : Int) > 20 then (demurragelaw19_PlainParts.j0 k a0_0 a0_1 l0_2 a0_3 t904 (l0_2.length : Int) true) else ((demurrageref18_Usual.f k l0_2).bind fun t905 => (demurragelaw19_PlainParts.j0 k a0_0 a0_1 l0_2 a0_3 t904 (l0_2.length : Int) (!t905)))))
def demurragelaw19_PlainParts.T12 : Bool × List (List Nat × List Nat) := (true, [([], []), ([], []), ([], []), ([1, 2], [1, 2]), ([0, 3], [0, 3]), ([], []), ([5], [5]), ([4, 6, 4], [4, 6]), ([], []), ([], []), ([8, 9], [8, 9]), ([7, 10, 7], [7, 10]), ([11, 11, 0, 1, 2, 3, 4, 5, 6, 7, 8, 9, 10, 11], [11])])
def demurragelaw19_PlainParts.B12 : List Nat := [0, 0, 0, 6, 15, 0, 32, 127, 0, 0, 768, 2047, 4095]
theorem demurragelaw19_PlainParts.tab12 : rtab .any (opsOf Try.f7 12) = demurragelaw19_PlainParts.T12 := by kernel_rfl
theorem demurragelaw19_PlainParts.bits12 : waitsOk demurragelaw19_PlainParts.T12.2 demurragelaw19_PlainParts.B12 = true := by kernel_rfl
def demurragelaw19_PlainParts.T23 : Bool × List (List Nat × List Nat) := (true, [([], []), ([], []), ([0, 1], [0, 1]), ([2], [2]), ([3], [3]), ([], []), ([], []), ([5, 6], [5, 6]), ([7], [7]), ([8], [8]), ([4, 9], [4, 9])])
def demurragelaw19_PlainParts.B23 : List Nat := [0, 0, 3, 7, 15, 0, 0, 96, 224, 480, 1023]
theorem demurragelaw19_PlainParts.tab23 : rtab .any (opsOf Try.f7 23) = demurragelaw19_PlainParts.T23 := by kernel_rfl
theorem demurragelaw19_PlainParts.bits23 : waitsOk demurragelaw19_PlainParts.T23.2 demurragelaw19_PlainParts.B23 = true := by kernel_rfl
set_option maxHeartbeats 8000000 in
set_option maxRecDepth 100000 in
theorem demurragelaw19_PlainParts.calls (k : Nat) (a0_0 : Int) (a0_1 : Int) (A0_2 : Option Addr) (c0_2 : Nat) (l0_2 : List (S42)) (a0_3 : Int) (r : Bool) (w : World) (hr0_2 : Kd.C k42 w A0_2 l0_2.length l0_2) (hc0_2 : l0_2.length ≤ c0_2) (h : demurragelaw19_PlainParts.f k a0_0 a0_1 l0_2 a0_3 = some r) :
  Calls Try.prog 7 #[.agg #[.int .u64 a0_0, .int .u16 a0_1, .slice A0_2 l0_2.length c0_2, .int .u8 a0_3]] w fun e w' => e = .returned (.bool r) ∧ Below w.heap.size w w' := by
 have hu40 := Try.underlying40
 have hu42 := Try.underlying42
 have HR0_2 := Aside0.mk hr0_2
 have HC0_2 := Aside0.mk hc0_2
 clear hr0_2 hc0_2
 have HB := Aside0.mk (Below.refl w.heap.size w)
 have H : ((demurragelaw19_shown.f k).bind fun t904 => (if (l0_2.length : Int) < 1 then (demurragelaw19_PlainParts.j0 k a0_0 a0_1 l0_2 a0_3 t904 (l0_2.length : Int) true) else (if (l0_2.length : Int) > 20 then (demurragelaw19_PlainParts.j0 k a0_0 a0_1 l0_2 a0_3 t904 (l0_2.length : Int) true) else ((demurrageref18_Usual.f k l0_2).bind fun t905 => (demurragelaw19_PlainParts.j0 k a0_0 a0_1 l0_2 a0_3 t904 (l0_2.length : Int) (!t905)))))) = some r := h
 clear h
 replace H := Option.bind_eq_some_iff.mp H
 obtain ⟨t904, A20, H⟩ := H
 (try dsimp only at H)
 have A2 := Aside0.mk A20
 clear A20
 have HC3 := Aside0.mk H
 clear H
 go_enter Try.func7, Try.ntmps7
 go_upto_region 7 with (first | ((with_reducible refine gate_dst (N := 1) rfl ?_); (try (refine gate_guard (by rfl) ?_; dsimp only)); refine box_event ?hg (N := 1) ?hd (cs := #[.int .u64 a0_0, .int .u16 a0_1, .slice A0_2 l0_2.length c0_2, .int .u8 a0_3]) (t := 40) ?hr ?_; (case hd => rfl); (case hg => rfl); (case hr => first | (go_simp; done) | (go_simp; rfl)); intro gb903 hg w4 hbox hb; have BK903 := Aside0.mk (hbox); have GW903 := Aside0.mk ((by rw [hg]; exact (below_size (by repeat (first | (with_reducible first | exact HB.out | apply bA_ | apply bN_ | apply bD_) | exact HB.out))) : w.heap.size ≤ gb903)); have GE903 := GW903; replace HB := Aside0.mk (below_step (by repeat (first | (with_reducible first | exact HB.out | apply bA_ | apply bN_ | apply bD_) | exact HB.out)) hb); clear hb hbox hg; have hcz5_0 : w4.cell? ⟨gb903, 0, none⟩ = some (.int .u64 a0_0) := (blk_cell BK903.out 0).trans rfl; have hcz5_1 : w4.cell? ⟨gb903, 1, none⟩ = some (.int .u16 a0_1) := (blk_cell BK903.out 1).trans rfl; have hcz5_2 : w4.cell? ⟨gb903, 2, none⟩ = some (.slice A0_2 l0_2.length c0_2) := (blk_cell BK903.out 2).trans rfl; have hcz5_3 : w4.cell? ⟨gb903, 3, none⟩ = some (.int .u8 a0_3) := (blk_cell BK903.out 3).trans rfl; have hfz5_0 := blk_frozen BK903.out 0; have hfz5_1 := blk_frozen BK903.out 1; have hfz5_2 := blk_frozen BK903.out 2; have hfz5_3 := blk_frozen BK903.out 3) | ((with_reducible refine gate_callee (f := 8) rfl ?_); refine goesL_ (some 27) rfl rfl Try.func8 (by kernel_rfl) rfl #[] rfl (by (try simp only [List.map_toArray, List.map_cons, List.map_nil]); first | done | rfl) ?_; (with_reducible refine (demurragelaw19_shown.calls k  t904 _ A2.out).mono ?_); rintro e w6 ⟨rfl, hb⟩; refine ⟨_, rfl, ?_⟩; replace BK903 := bK_ BK903 hb; replace HB := Aside0.mk (below_step (by repeat (first | (with_reducible first | exact HB.out | apply bA_ | apply bN_ | apply bD_ | refine bS_ ?_ GE903.out) | exact HB.out)) hb); (try clear hb)))
 (try simp only [Act.put, sT_, sZ_, sS_])
 go_cut [40] (fun v40 wc => ∃ (kq : Nat) (x40_2 : Bool), v40 = .bool x40_2 ∧ Aside0 (demurragelaw19_PlainParts.j0 kq a0_0 a0_1 l0_2 a0_3 t904 (l0_2.length : Int) x40_2 = some r) ∧ Aside0 (kq ≤ k) ∧ Aside0 (wc.heap[gb903]? = some (.cells #[.int .u64 a0_0, .int .u16 a0_1, (.slice A0_2 l0_2.length c0_2), .int .u8 a0_3] 40 (0, 0))) ∧ Aside0 (Below w.heap.size w wc))
 case first =>
  have H := HC3.out
  clear HC3
  by_cases c7 : (l0_2.length : Int) < 1
  ·rw [if_pos c7] at H
   have c7b0 : decide ((l0_2.length : Int) < 1) = true := decide_eq_true c7
   have c7b1 : decide (l0_2.length < 1) = true := decide_eq_true (by omega)
   clear c7
   (first | rw [c7b0] | (simp only [i64_w, i32_w]; rw [c7b0]) | rw [c7b1] | skip)
   have H' := Aside0.mk H
   clear H
   go_wp2
   go_meet
   case rel => exact ⟨_, _, (by first | rfl | (simp; done) | (simp [*]; done)), H', ⟨by first | omega | exact Nat.le_refl _⟩, ⟨by exact BK903.out⟩, ⟨by repeat (first | (with_reducible first | exact HB.out | apply bA_ | apply bN_ | apply bD_ | refine bS_ ?_ GE903.out) | exact HB.out)⟩⟩
  ·rw [if_neg c7] at H
   have c7b0 : decide ((l0_2.length : Int) < 1) = false := decide_eq_false c7
   have c7b1 : decide (l0_2.length < 1) = false := decide_eq_false (by omega)
   clear c7
   (first | rw [c7b0] | (simp only [i64_w, i32_w]; rw [c7b0]) | rw [c7b1] | skip)
   by_cases c8 : (l0_2.length : Int) > 20
   ·rw [if_pos c8] at H
    have c8b0 : decide (20 < (l0_2.length : Int)) = true := decide_eq_true c8
    have c8b1 : decide (20 < l0_2.length) = true := decide_eq_true (by omega)
    clear c8
    have H' := Aside0.mk H
    clear H
    go_wp2
    go_meet
    case rel => exact ⟨_, _, (by first | rfl | (simp; done) | (simp [*]; done)), H', ⟨by first | omega | exact Nat.le_refl _⟩, ⟨by exact BK903.out⟩, ⟨by repeat (first | (with_reducible first | exact HB.out | apply bA_ | apply bN_ | apply bD_ | refine bS_ ?_ GE903.out) | exact HB.out)⟩⟩
   ·rw [if_neg c8] at H
    have c8b0 : decide (20 < (l0_2.length : Int)) = false := decide_eq_false c8
    have c8b1 : decide (20 < l0_2.length) = false := decide_eq_false (by omega)
    clear c8
    replace H := Option.bind_eq_some_iff.mp H
    obtain ⟨t905, A90, H⟩ := H
    (try dsimp only at H)
    have A9 := Aside0.mk A90
    clear A90
    have H' := Aside0.mk H
    clear H
    go_wp2_with (first | (go_at_call 14; (with_reducible refine (demurrageref18_Usual.calls k _ _ l0_2 t905 _ ?side1 ?side2 A9.out).mono ?_); (case side1 => repeat (first | exact (Kd.C_below HR0_2.out HB.out) | (with_reducible refine Kd.C_alloc ?_ _) | (with_reducible refine Kd.C_drewN ?_ _) | (with_reducible refine Kd.C_drew ?_))); (case side2 => exact HC0_2.out); rintro e w10 ⟨rfl, hb⟩; replace BK903 := bK_ BK903 hb; replace HB := Aside0.mk (below_step (by repeat (first | (with_reducible first | exact HB.out | apply bA_ | apply bN_ | apply bD_ | refine bS_ ?_ GE903.out) | exact HB.out)) hb); (try clear hb)))
    go_meet
    case rel => exact ⟨_, _, (by first | rfl | (simp; done) | (simp [*]; done)), H', ⟨by first | omega | exact Nat.le_refl _⟩, ⟨by exact BK903.out⟩, ⟨by repeat (first | (with_reducible first | exact HB.out | apply bA_ | apply bN_ | apply bD_ | refine bS_ ?_ GE903.out) | exact HB.out)⟩⟩
 case rest =>
  clear HC3
  try clear p2
  try clear c7
  try clear c7b0
  try clear c7b1
  try clear c8
  try clear c8b0
  try clear c8b1
  try clear hcz5_0
  try clear hcz5_1
  try clear hcz5_2
  try clear hcz5_3
  try clear hfz5_0
  try clear hfz5_1
  try clear hfz5_2
  try clear hfz5_3
  obtain ⟨kq, x40_2, rfl, HA, HJ2, BK903, HB⟩ := hcut
  cases kq with
  | zero => exact absurd HA.out (by simp [demurragelaw19_PlainParts.j0])
  | succ kj2 =>
   have H := HA.out
   clear HA
   simp only [demurragelaw19_PlainParts.j0] at H
   by_cases c11 : x40_2 = true
   ·subst c11
    rw [if_pos rfl] at H
    obtain rfl := Option.some.inj H
    go_wp2
    go_ret
    exact ⟨by rfl, by repeat (first | (with_reducible first | exact HB.out | apply bA_ | apply bN_ | apply bD_ | refine bS_ ?_ GE903.out) | exact HB.out)⟩
   ·replace c11 := Bool.eq_false_iff.mpr c11
    subst c11
    rw [if_neg (show ¬ (false = true) by decide)] at H
    by_cases c12 : (wrap64 ((l0_2.length : Int) + 1)) = 0
    ·rw [if_pos c12] at H
     exact absurd H (by simp)
    ·rw [if_neg c12] at H
     have c12b0 : ((wrap64 ((l0_2.length : Int) + 1)) == 0) = false := beq_eq_false_iff_ne.mpr c12
     have c12b1 : ((wrap64 ((l0_2.length : Int) + 1)) != 0) = true := bne_iff_ne.mpr c12
     obtain ⟨y1101, hy1101⟩ : ∃ y_ : List (S42), y_ = (([] : List (S42))) := ⟨_, rfl⟩
     replace H : (if 0 ≤ (Int.tmod (wrap64 (a0_3)) (wrap64 ((l0_2.length : Int) + 1))) then (if (Int.tmod (wrap64 (a0_3)) (wrap64 ((l0_2.length : Int) + 1))) ≤ (l0_2.length : Int) then ((some (l0_2.take ((Int.tmod (wrap64 (a0_3)) (wrap64 ((l0_2.length : Int) + 1))) : Int).toNat : List (S42))).bind fun y1104 => (if y1101.length + y1104.length < 8796093022208 then ((some (y1101 ++ y1104 : List (S42))).bind fun y1108 => ((some (([(⟨0, 1⟩ : S42)] : List (S42)) : List (S42))).bind fun y1111 => (if y1108.length + y1111.length < 8796093022208 then ((some (y1108 ++ y1111 : List (S42))).bind fun y1114 => ((some (l0_2.drop ((Int.tmod (wrap64 (a0_3)) (wrap64 ((l0_2.length : Int) + 1))) : Int).toNat : List (S42))).bind fun y1117 => (if y1114.length + y1117.length < 8796093022208 then ((plain_Bullet.f kj2 (wrap64 (Int.tmod a0_0 1000000000000001)) (Int.tmod (wrap64 (a0_1)) 9001) l0_2).bind fun bt1124 => ((plain_Bullet.f kj2 (wrap64 (Int.tmod a0_0 1000000000000001)) (Int.tmod (wrap64 (a0_1)) 9001) (y1114 ++ y1117)).bind fun bt1128 => (if bt1124.2 = 0 then (if bt1128.2 = 0 then (if (bt1124.1.length : Int) = (l0_2.length : Int) then (if (bt1128.1.length : Int) = (wrap64 ((l0_2.length : Int) + 1)) then (if (Int.tmod (wrap64 (a0_3)) (wrap64 ((l0_2.length : Int) + 1))) < (bt1128.1.length : Int) then (if ((rd_T37 bt1128.1 (Int.tmod (wrap64 (a0_3)) (wrap64 ((l0_2.length : Int) + 1)))).f1) = 0 then (if 0 ≤ (l0_2.length : Int) then (if (l0_2.length : Int) < (bt1128.1.length : Int) then (if ((rd_T37 bt1128.1 (l0_2.length : Int)).f2) = (wrap64 (Int.tmod a0_0 1000000000000001)) then (demurragelaw19_PlainParts.l0 kj2 t904 (l0_2.length : Int) (Int.tmod (wrap64 (a0_3)) (wrap64 ((l0_2.length : Int) + 1))) bt1124.1 bt1128.1 0) else (none)) else (none)) else (none)) else (none)) else (none)) else (none)) else (none)) else (none)) else (none)))) else (none)))) else (none)))) else (none))) else (none)) else (none)) = some r := by first | (rw [hy1101]; with_reducible exact H) | (have H2_ := (Option.bind_some _ _).symm.trans H; rw [hy1101]; with_reducible exact H2_) | (have H2_ := (Option.bind_some _ _).symm.trans H; with_reducible exact H2_) | with_reducible exact H | (rw [hy1101]; exact H) | exact H
     have Ny1101 := Aside0.mk hy1101
     clear hy1101
     obtain ⟨ji13, hji13⟩ : ∃ j_ : Int, (Int.tmod (wrap64 (a0_3)) (wrap64 ((l0_2.length : Int) + 1))) = j_ := ⟨_, rfl⟩
     replace H : (if 0 ≤ (ji13) then (if (ji13) ≤ (l0_2.length : Int) then ((some (l0_2.take ((ji13) : Int).toNat : List (S42))).bind fun y1104 => (if y1101.length + y1104.length < 8796093022208 then ((some (y1101 ++ y1104 : List (S42))).bind fun y1108 => ((some (([(⟨0, 1⟩ : S42)] : List (S42)) : List (S42))).bind fun y1111 => (if y1108.length + y1111.length < 8796093022208 then ((some (y1108 ++ y1111 : List (S42))).bind fun y1114 => ((some (l0_2.drop ((ji13) : Int).toNat : List (S42))).bind fun y1117 => (if y1114.length + y1117.length < 8796093022208 then ((plain_Bullet.f kj2 (wrap64 (Int.tmod a0_0 1000000000000001)) (Int.tmod (wrap64 (a0_1)) 9001) l0_2).bind fun bt1124 => ((plain_Bullet.f kj2 (wrap64 (Int.tmod a0_0 1000000000000001)) (Int.tmod (wrap64 (a0_1)) 9001) (y1114 ++ y1117)).bind fun bt1128 => (if bt1124.2 = 0 then (if bt1128.2 = 0 then (if (bt1124.1.length : Int) = (l0_2.length : Int) then (if (bt1128.1.length : Int) = (wrap64 ((l0_2.length : Int) + 1)) then (if (ji13) < (bt1128.1.length : Int) then (if ((rd_T37 bt1128.1 (ji13)).f1) = 0 then (if 0 ≤ (l0_2.length : Int) then (if (l0_2.length : Int) < (bt1128.1.length : Int) then (if ((rd_T37 bt1128.1 (l0_2.length : Int)).f2) = (wrap64 (Int.tmod a0_0 1000000000000001)) then (demurragelaw19_PlainParts.l0 kj2 t904 (l0_2.length : Int) ji13 bt1124.1 bt1128.1 0) else (none)) else (none)) else (none)) else (none)) else (none)) else (none)) else (none)) else (none)) else (none)))) else (none)))) else (none)))) else (none))) else (none)) else (none)) = some r := by first | (rw [hji13] at H; exact H) | (simp only [hji13] at H ⊢; exact H)
     by_cases c14 : 0 ≤ (ji13)
     ·rw [if_pos c14] at H
      have c14b0 := eq_true c14
      have c14b1 : decide (0 ≤ (ji13)) = true := decide_eq_true c14
      clear c14
      by_cases c15 : (ji13) ≤ (l0_2.length : Int)
      ·rw [if_pos c15] at H
       have c15b0 := eq_true c15
       have c15b1 : decide ((ji13) ≤ (l0_2.length : Int)) = true := decide_eq_true c15
       clear c15
       obtain ⟨y1104, hy1104⟩ : ∃ y_ : List (S42), y_ = (l0_2.take ((ji13) : Int).toNat) := ⟨_, rfl⟩
       replace H : (if y1101.length + y1104.length < 8796093022208 then ((some (y1101 ++ y1104 : List (S42))).bind fun y1108 => ((some (([(⟨0, 1⟩ : S42)] : List (S42)) : List (S42))).bind fun y1111 => (if y1108.length + y1111.length < 8796093022208 then ((some (y1108 ++ y1111 : List (S42))).bind fun y1114 => ((some (l0_2.drop ((ji13) : Int).toNat : List (S42))).bind fun y1117 => (if y1114.length + y1117.length < 8796093022208 then ((plain_Bullet.f kj2 (wrap64 (Int.tmod a0_0 1000000000000001)) (Int.tmod (wrap64 (a0_1)) 9001) l0_2).bind fun bt1124 => ((plain_Bullet.f kj2 (wrap64 (Int.tmod a0_0 1000000000000001)) (Int.tmod (wrap64 (a0_1)) 9001) (y1114 ++ y1117)).bind fun bt1128 => (if bt1124.2 = 0 then (if bt1128.2 = 0 then (if (bt1124.1.length : Int) = (l0_2.length : Int) then (if (bt1128.1.length : Int) = (wrap64 ((l0_2.length : Int) + 1)) then (if (ji13) < (bt1128.1.length : Int) then (if ((rd_T37 bt1128.1 (ji13)).f1) = 0 then (if 0 ≤ (l0_2.length : Int) then (if (l0_2.length : Int) < (bt1128.1.length : Int) then (if ((rd_T37 bt1128.1 (l0_2.length : Int)).f2) = (wrap64 (Int.tmod a0_0 1000000000000001)) then (demurragelaw19_PlainParts.l0 kj2 t904 (l0_2.length : Int) ji13 bt1124.1 bt1128.1 0) else (none)) else (none)) else (none)) else (none)) else (none)) else (none)) else (none)) else (none)) else (none)))) else (none)))) else (none)))) else (none)) = some r := by first | (rw [hy1104]; with_reducible exact H) | (have H2_ := (Option.bind_some _ _).symm.trans H; rw [hy1104]; with_reducible exact H2_) | (have H2_ := (Option.bind_some _ _).symm.trans H; with_reducible exact H2_) | with_reducible exact H | (rw [hy1104]; exact H) | exact H
       have Ny1104 := Aside0.mk hy1104
       clear hy1104
       by_cases c16 : y1101.length + y1104.length < 8796093022208
       ·rw [if_pos c16] at H
        have LMc16 := Aside0.mk c16
        clear c16
        obtain ⟨y1108, hy1108⟩ : ∃ y_ : List (S42), y_ = (y1101 ++ y1104) := ⟨_, rfl⟩
        replace H : ((some (([(⟨0, 1⟩ : S42)] : List (S42)) : List (S42))).bind fun y1111 => (if y1108.length + y1111.length < 8796093022208 then ((some (y1108 ++ y1111 : List (S42))).bind fun y1114 => ((some (l0_2.drop ((ji13) : Int).toNat : List (S42))).bind fun y1117 => (if y1114.length + y1117.length < 8796093022208 then ((plain_Bullet.f kj2 (wrap64 (Int.tmod a0_0 1000000000000001)) (Int.tmod (wrap64 (a0_1)) 9001) l0_2).bind fun bt1124 => ((plain_Bullet.f kj2 (wrap64 (Int.tmod a0_0 1000000000000001)) (Int.tmod (wrap64 (a0_1)) 9001) (y1114 ++ y1117)).bind fun bt1128 => (if bt1124.2 = 0 then (if bt1128.2 = 0 then (if (bt1124.1.length : Int) = (l0_2.length : Int) then (if (bt1128.1.length : Int) = (wrap64 ((l0_2.length : Int) + 1)) then (if (ji13) < (bt1128.1.length : Int) then (if ((rd_T37 bt1128.1 (ji13)).f1) = 0 then (if 0 ≤ (l0_2.length : Int) then (if (l0_2.length : Int) < (bt1128.1.length : Int) then (if ((rd_T37 bt1128.1 (l0_2.length : Int)).f2) = (wrap64 (Int.tmod a0_0 1000000000000001)) then (demurragelaw19_PlainParts.l0 kj2 t904 (l0_2.length : Int) ji13 bt1124.1 bt1128.1 0) else (none)) else (none)) else (none)) else (none)) else (none)) else (none)) else (none)) else (none)) else (none)))) else (none)))) else (none))) = some r := by first | (rw [hy1108]; with_reducible exact H) | (have H2_ := (Option.bind_some _ _).symm.trans H; rw [hy1108]; with_reducible exact H2_) | (have H2_ := (Option.bind_some _ _).symm.trans H; with_reducible exact H2_) | with_reducible exact H | (rw [hy1108]; exact H) | exact H
        have Ny1108 := Aside0.mk hy1108
        clear hy1108
        obtain ⟨y1111, hy1111⟩ : ∃ y_ : List (S42), y_ = (([(⟨0, 1⟩ : S42)] : List (S42))) := ⟨_, rfl⟩
        replace H : (if y1108.length + y1111.length < 8796093022208 then ((some (y1108 ++ y1111 : List (S42))).bind fun y1114 => ((some (l0_2.drop ((ji13) : Int).toNat : List (S42))).bind fun y1117 => (if y1114.length + y1117.length < 8796093022208 then ((plain_Bullet.f kj2 (wrap64 (Int.tmod a0_0 1000000000000001)) (Int.tmod (wrap64 (a0_1)) 9001) l0_2).bind fun bt1124 => ((plain_Bullet.f kj2 (wrap64 (Int.tmod a0_0 1000000000000001)) (Int.tmod (wrap64 (a0_1)) 9001) (y1114 ++ y1117)).bind fun bt1128 => (if bt1124.2 = 0 then (if bt1128.2 = 0 then (if (bt1124.1.length : Int) = (l0_2.length : Int) then (if (bt1128.1.length : Int) = (wrap64 ((l0_2.length : Int) + 1)) then (if (ji13) < (bt1128.1.length : Int) then (if ((rd_T37 bt1128.1 (ji13)).f1) = 0 then (if 0 ≤ (l0_2.length : Int) then (if (l0_2.length : Int) < (bt1128.1.length : Int) then (if ((rd_T37 bt1128.1 (l0_2.length : Int)).f2) = (wrap64 (Int.tmod a0_0 1000000000000001)) then (demurragelaw19_PlainParts.l0 kj2 t904 (l0_2.length : Int) ji13 bt1124.1 bt1128.1 0) else (none)) else (none)) else (none)) else (none)) else (none)) else (none)) else (none)) else (none)) else (none)))) else (none)))) else (none)) = some r := by first | (rw [hy1111]; with_reducible exact H) | (have H2_ := (Option.bind_some _ _).symm.trans H; rw [hy1111]; with_reducible exact H2_) | (have H2_ := (Option.bind_some _ _).symm.trans H; with_reducible exact H2_) | with_reducible exact H | (rw [hy1111]; exact H) | exact H
        have Ny1111 := Aside0.mk hy1111
        clear hy1111
        by_cases c17 : y1108.length + y1111.length < 8796093022208
        ·rw [if_pos c17] at H
         have LMc17 := Aside0.mk c17
         clear c17
         obtain ⟨y1114, hy1114⟩ : ∃ y_ : List (S42), y_ = (y1108 ++ y1111) := ⟨_, rfl⟩
         replace H : ((some (l0_2.drop ((ji13) : Int).toNat : List (S42))).bind fun y1117 => (if y1114.length + y1117.length < 8796093022208 then ((plain_Bullet.f kj2 (wrap64 (Int.tmod a0_0 1000000000000001)) (Int.tmod (wrap64 (a0_1)) 9001) l0_2).bind fun bt1124 => ((plain_Bullet.f kj2 (wrap64 (Int.tmod a0_0 1000000000000001)) (Int.tmod (wrap64 (a0_1)) 9001) (y1114 ++ y1117)).bind fun bt1128 => (if bt1124.2 = 0 then (if bt1128.2 = 0 then (if (bt1124.1.length : Int) = (l0_2.length : Int) then (if (bt1128.1.length : Int) = (wrap64 ((l0_2.length : Int) + 1)) then (if (ji13) < (bt1128.1.length : Int) then (if ((rd_T37 bt1128.1 (ji13)).f1) = 0 then (if 0 ≤ (l0_2.length : Int) then (if (l0_2.length : Int) < (bt1128.1.length : Int) then (if ((rd_T37 bt1128.1 (l0_2.length : Int)).f2) = (wrap64 (Int.tmod a0_0 1000000000000001)) then (demurragelaw19_PlainParts.l0 kj2 t904 (l0_2.length : Int) ji13 bt1124.1 bt1128.1 0) else (none)) else (none)) else (none)) else (none)) else (none)) else (none)) else (none)) else (none)) else (none)))) else (none))) = some r := by first | (rw [hy1114]; with_reducible exact H) | (have H2_ := (Option.bind_some _ _).symm.trans H; rw [hy1114]; with_reducible exact H2_) | (have H2_ := (Option.bind_some _ _).symm.trans H; with_reducible exact H2_) | with_reducible exact H | (rw [hy1114]; exact H) | exact H
         have Ny1114 := Aside0.mk hy1114
         clear hy1114
         have c18b0 := eq_true (of_decide_eq_true (by first | (with_reducible assumption) | assumption) : 0 ≤ (ji13))
         have c19b0 := eq_true (of_decide_eq_true (by first | (with_reducible assumption) | assumption) : (ji13) ≤ (l0_2.length : Int))
         obtain ⟨y1117, hy1117⟩ : ∃ y_ : List (S42), y_ = (l0_2.drop ((ji13) : Int).toNat) := ⟨_, rfl⟩
         replace H : (if y1114.length + y1117.length < 8796093022208 then ((plain_Bullet.f kj2 (wrap64 (Int.tmod a0_0 1000000000000001)) (Int.tmod (wrap64 (a0_1)) 9001) l0_2).bind fun bt1124 => ((plain_Bullet.f kj2 (wrap64 (Int.tmod a0_0 1000000000000001)) (Int.tmod (wrap64 (a0_1)) 9001) (y1114 ++ y1117)).bind fun bt1128 => (if bt1124.2 = 0 then (if bt1128.2 = 0 then (if (bt1124.1.length : Int) = (l0_2.length : Int) then (if (bt1128.1.length : Int) = (wrap64 ((l0_2.length : Int) + 1)) then (if (ji13) < (bt1128.1.length : Int) then (if ((rd_T37 bt1128.1 (ji13)).f1) = 0 then (if 0 ≤ (l0_2.length : Int) then (if (l0_2.length : Int) < (bt1128.1.length : Int) then (if ((rd_T37 bt1128.1 (l0_2.length : Int)).f2) = (wrap64 (Int.tmod a0_0 1000000000000001)) then (demurragelaw19_PlainParts.l0 kj2 t904 (l0_2.length : Int) ji13 bt1124.1 bt1128.1 0) else (none)) else (none)) else (none)) else (none)) else (none)) else (none)) else (none)) else (none)) else (none)))) else (none)) = some r := by first | (rw [hy1117]; with_reducible exact H) | (have H2_ := (Option.bind_some _ _).symm.trans H; rw [hy1117]; with_reducible exact H2_) | (have H2_ := (Option.bind_some _ _).symm.trans H; with_reducible exact H2_) | with_reducible exact H | (rw [hy1117]; exact H) | exact H
         have Ny1117 := Aside0.mk hy1117
         clear hy1117
         by_cases c20 : y1114.length + y1117.length < 8796093022208
         ·rw [if_pos c20] at H
          have LMc20 := Aside0.mk c20
          clear c20
          obtain ⟨y1121, hy1121⟩ : ∃ y_ : List (S42), y_ = (y1114 ++ y1117) := ⟨_, rfl⟩
          replace H : ((plain_Bullet.f kj2 (wrap64 (Int.tmod a0_0 1000000000000001)) (Int.tmod (wrap64 (a0_1)) 9001) l0_2).bind fun bt1124 => ((plain_Bullet.f kj2 (wrap64 (Int.tmod a0_0 1000000000000001)) (Int.tmod (wrap64 (a0_1)) 9001) y1121).bind fun bt1128 => (if bt1124.2 = 0 then (if bt1128.2 = 0 then (if (bt1124.1.length : Int) = (l0_2.length : Int) then (if (bt1128.1.length : Int) = (wrap64 ((l0_2.length : Int) + 1)) then (if (ji13) < (bt1128.1.length : Int) then (if ((rd_T37 bt1128.1 (ji13)).f1) = 0 then (if 0 ≤ (l0_2.length : Int) then (if (l0_2.length : Int) < (bt1128.1.length : Int) then (if ((rd_T37 bt1128.1 (l0_2.length : Int)).f2) = (wrap64 (Int.tmod a0_0 1000000000000001)) then (demurragelaw19_PlainParts.l0 kj2 t904 (l0_2.length : Int) ji13 bt1124.1 bt1128.1 0) else (none)) else (none)) else (none)) else (none)) else (none)) else (none)) else (none)) else (none)) else (none)))) = some r := by first | (rw [hy1121]; with_reducible exact H) | (have H2_ := (Option.bind_some _ _).symm.trans H; rw [hy1121]; with_reducible exact H2_) | (have H2_ := (Option.bind_some _ _).symm.trans H; with_reducible exact H2_) | with_reducible exact H | (rw [hy1121]; exact H) | exact H
          have Ny1121 := Aside0.mk hy1121
          clear hy1121
          replace H := Option.bind_eq_some_iff.mp H
          obtain ⟨⟨t1124, t1125⟩, A210, H⟩ := H
          (try dsimp only at H)
          have A21 := Aside0.mk A210
          clear A210
          replace H := Option.bind_eq_some_iff.mp H
          obtain ⟨⟨t1128, t1129⟩, A220, H⟩ := H
          (try dsimp only at H)
          have A22 := Aside0.mk A220
          clear A220
          by_cases c23 : t1125 = 0
          ·rw [if_pos c23] at H
           have c23b0 : (t1125 == 0) = true := beq_iff_eq.mpr c23
           have c23b1 : (t1125 != 0) = false := bne_eq_false_iff_eq.mpr c23
           clear c23
           by_cases c24 : t1129 = 0
           ·rw [if_pos c24] at H
            have c24b0 : (t1129 == 0) = true := beq_iff_eq.mpr c24
            have c24b1 : (t1129 != 0) = false := bne_eq_false_iff_eq.mpr c24
            clear c24
            by_cases c25 : (t1124.length : Int) = (l0_2.length : Int)
            ·rw [if_pos c25] at H
             have c25b0 : ((t1124.length : Int) == (l0_2.length : Int)) = true := beq_iff_eq.mpr c25
             have c25b1 : ((t1124.length : Int) != (l0_2.length : Int)) = false := bne_eq_false_iff_eq.mpr c25
             have c25b2 : (t1124.length == l0_2.length) = true := by first | simpa using c25 | (simp at c25 ⊢; omega)
             clear c25
             by_cases c26 : (t1128.length : Int) = (wrap64 ((l0_2.length : Int) + 1))
             ·rw [if_pos c26] at H
              have c26b0 : ((t1128.length : Int) == (wrap64 ((l0_2.length : Int) + 1))) = true := beq_iff_eq.mpr c26
              have c26b1 : ((t1128.length : Int) != (wrap64 ((l0_2.length : Int) + 1))) = false := bne_eq_false_iff_eq.mpr c26
              clear c26
              by_cases c27 : (ji13) < (t1128.length : Int)
              ·rw [if_pos c27] at H
               have c27b0 : decide ((ji13) < (t1128.length : Int)) = true := decide_eq_true c27
               clear c27
               by_cases c28 : ((rd_T37 t1128 (ji13)).f1) = 0
               ·rw [if_pos c28] at H
                have c28b0 : (((rd_T37 t1128 (ji13)).f1) == 0) = true := beq_iff_eq.mpr c28
                have c28b1 : (((rd_T37 t1128 (ji13)).f1) != 0) = false := bne_eq_false_iff_eq.mpr c28
                clear c28
                by_cases c29 : 0 ≤ (l0_2.length : Int)
                ·rw [if_pos c29] at H
                 have c29b0 : decide (0 ≤ (l0_2.length : Int)) = true := decide_eq_true c29
                 have c29b1 : decide (0 ≤ l0_2.length) = true := decide_eq_true (by omega)
                 clear c29
                 by_cases c30 : (l0_2.length : Int) < (t1128.length : Int)
                 ·rw [if_pos c30] at H
                  have c30b0 : decide ((l0_2.length : Int) < (t1128.length : Int)) = true := decide_eq_true c30
                  have c30b1 : decide (l0_2.length < t1128.length) = true := decide_eq_true (Int.ofNat_lt.mp c30)
                  clear c30
                  by_cases c31 : ((rd_T37 t1128 (l0_2.length : Int)).f2) = (wrap64 (Int.tmod a0_0 1000000000000001))
                  ·rw [if_pos c31] at H
                   have c31b0 : (((rd_T37 t1128 (l0_2.length : Int)).f2) == (wrap64 (Int.tmod a0_0 1000000000000001))) = true := beq_iff_eq.mpr c31
                   have c31b1 : (((rd_T37 t1128 (l0_2.length : Int)).f2) != (wrap64 (Int.tmod a0_0 1000000000000001))) = false := bne_eq_false_iff_eq.mpr c31
                   clear c31
                   have H' := Aside0.mk H
                   clear H
                   try go_wp2
                   replace BK903 := Aside0.mk (blk_drew BK903.out)
                   replace HB := Aside0.mk (below_drew1 HB.out)
                   have q33 : ((ji13) : Int) ≤ ((l0_2.length : Int) : Int) := of_decide_eq_true (by first | (with_reducible assumption) | assumption)
                   obtain ⟨i033, hi033, _, hsz33, _⟩ := info_parts info42
                   have hroom33 : l0_2.length ≤ c0_2 := HC0_2.out
                   have hC33 : Kd.C k42 _ A0_2 l0_2.length l0_2 := HR0_2.out
                   have hcut33 := cut_to (P := Try.prog) 22 42 .i64 Try.underlying22 hi033 A0_2 l0_2.length c0_2 (ji13) (of_decide_eq_true (by first | (with_reducible assumption) | assumption)) q33 hroom33
                   have hr33 := Kd.C_take (m := ((ji13) : Int).toNat) hC33 (by omega)
                   have hy33 : y1104.length = ((ji13) : Int).toNat := (by rw [Ny1104.out, List.length_take]; omega)
                   rw [← Ny1104.out] at hr33
                   rw [← hy33] at hcut33
                   have HR1107 := Aside0.mk hr33
                   have HC1107 := Aside0.mk (show y1104.length ≤ c0_2 from by omega)
                   clear hr33 hC33 hroom33 hi033 hsz33
                   have KY33 := Aside0.mk hy33
                   clear hy33
                   replace q33 := eq_true q33
                   have q34 : ((ji13) : Int) ≤ ((l0_2.length : Int) : Int) := of_decide_eq_true (by first | (with_reducible assumption) | assumption)
                   obtain ⟨i034, hi034, _, hsz34, _⟩ := info_parts info42
                   have hroom34 : l0_2.length ≤ c0_2 := HC0_2.out
                   have hC34 : Kd.C k42 _ A0_2 l0_2.length l0_2 := HR0_2.out
                   have q034 : (0 : Int) ≤ ((ji13) : Int) := of_decide_eq_true (by first | (with_reducible assumption) | assumption)
                   have hcut34 := cut_from (P := Try.prog) 22 42 .i64 Try.underlying22 hi034 2 hsz34 A0_2 l0_2.length c0_2 (ji13) q034 q34
                   have hr34 := Kd.C_drop (m := ((ji13) : Int).toNat) (c := c0_2) hC34 (by omega) hroom34
                   obtain ⟨A34, hA34⟩ : ∃ A1, A1 = (if c0_2 = ((ji13) : Int).toNat then A0_2 else (A0_2 : Option Addr).map (·.add (((ji13) : Int).toNat * 2))) := ⟨_, rfl⟩
                   obtain ⟨c34, hc34⟩ : ∃ c1, c1 = c0_2 - ((ji13) : Int).toNat := ⟨_, rfl⟩
                   have hy34 : y1117.length = l0_2.length - ((ji13) : Int).toNat := (by rw [Ny1117.out, List.length_drop] <;> omega)
                   rw [show (l0_2).drop ((ji13) : Int).toNat = y1117 from Ny1117.out.symm] at hr34
                   replace hr34 : Kd.C k42 _ A34 y1117.length y1117 := (by rw [hA34]; exact hr34)
                   rw [← hy34, ← hA34, ← hc34] at hcut34
                   have HR1120 := Aside0.mk hr34
                   have HC1120 := Aside0.mk (show y1117.length ≤ c34 from by rw [hy34, hc34]; exact Nat.sub_le_sub_right hroom34 _)
                   clear hr34 hC34 hroom34 hi034 hsz34 hc34
                   have KY34 := Aside0.mk hy34
                   have KA34 := Aside0.mk hA34
                   clear hy34 hA34
                   replace q34 := eq_true q34
                   refine start_ (n := 13) (S := fun w' => True) (ds := []) (demurragelaw19_PlainParts.ups 13 0) (by kernel_rfl) rfl rfl trivial (fun hHeld => ?_); refine with_tabW demurragelaw19_PlainParts.tab12 demurragelaw19_PlainParts.bits12 (fun HT_ HW_ => ?_)
                   generalize wc.drew = w32 at BK903 HB HR1107 HR1120 hHeld ⊢
                   refine pure_ (i := 1) (N := some 54) (v := ?_) (a' := ?_) (demurragelaw19_PlainParts.ups 13 2) rfl rfl (any_of HT_.out (by kernel_rfl)) (fun _ _ _ h => h) (Or.inl ⟨by rfl, ?_⟩) ?_ ?_
                   rotate_left
                   ·intro w'
                    go_simp
                    with_reducible rfl
                   rotate_left
                   ·simp only [Act.put, sT_, sZ_, sS_, i64_w, i32_w]
                    rfl
                   refine pure_ (i := 2) (N := some 55) (v := ?_) (a' := ?_) (demurragelaw19_PlainParts.ups 13 6) rfl rfl (any_of HT_.out (by kernel_rfl)) (fun _ _ _ h => h) (Or.inl ⟨by rfl, ?_⟩) ?_ ?_
                   rotate_left
                   ·intro w'
                    go_simp
                    with_reducible rfl
                   rotate_left
                   ·simp only [Act.put, sT_, sZ_, sS_, i64_w, i32_w]
                    rfl
                   refine pure_ (i := 3) (N := some 56) (v := ?_) (a' := ?_) (demurragelaw19_PlainParts.ups 13 14) rfl rfl (any_of HT_.out (by kernel_rfl)) (fun _ _ _ h => h) (Or.inl ⟨by rfl, ?_⟩) ?_ ?_
                   rotate_left
                   ·intro w'
                    go_simp
                    with_reducible rfl
                   rotate_left
                   ·simp only [Act.put, sT_, sZ_, sS_, i64_w, i32_w]
                    rfl
                   refine pure_ (i := 5) (N := some 58) (v := ?_) (a' := ?_) (demurragelaw19_PlainParts.ups 13 46) rfl rfl (any_of HT_.out (by kernel_rfl)) (fun _ _ _ h => h) (Or.inl ⟨by rfl, ?_⟩) ?_ ?_
                   rotate_left
                   ·intro w'
                    go_simp
                    with_reducible rfl
                   rotate_left
                   ·simp only [Act.put, sT_, sZ_, sS_, i64_w, i32_w]
                    rfl
                   refine pure_ (i := 8) (N := some 61) (v := ?_) (a' := ?_) (demurragelaw19_PlainParts.ups 13 302) rfl rfl (any_of HT_.out (by kernel_rfl)) (fun _ _ _ h => h) (Or.inl ⟨by rfl, ?_⟩) ?_ ?_
                   rotate_left
                   ·intro w'
                    go_simp
                    with_reducible rfl
                   rotate_left
                   ·simp only [Act.put, sT_, sZ_, sS_, i64_w, i32_w]
                    rfl
                   refine pure_ (i := 9) (N := some 62) (v := ?_) (a' := ?_) (demurragelaw19_PlainParts.ups 13 814) rfl rfl (any_of HT_.out (by kernel_rfl)) (fun _ _ _ h => h) (Or.inl ⟨by rfl, ?_⟩) ?_ ?_
                   rotate_left
                   ·intro w'
                    go_simp
                    with_reducible rfl
                   rotate_left
                   ·simp only [Act.put, sT_, sZ_, sS_, i64_w, i32_w]
                    rfl
                   refine pure_ (i := 10) (N := some 63) (v := ?_) (a' := ?_) (demurragelaw19_PlainParts.ups 13 1838) rfl rfl (any_of HT_.out (by kernel_rfl)) (fun _ _ _ h => h) (Or.inl ⟨by rfl, ?_⟩) ?_ ?_
                   rotate_left
                   ·intro w'
                    go_simp
                    with_reducible rfl
                   rotate_left
                   ·simp only [Act.put, sT_, sZ_, sS_, i64_w, i32_w]
                    rfl
                   refine join_ (σ := Value × Value × Value) 3 (demurragelaw19_PlainParts.ups 13 1919) (fun s_ => [(53, s_.1), (57, s_.2.1), (59, s_.2.2)]) (fun s_ w' => (Kd.R k42 42 w' w.heap.size (fun k_ => some k_ ≠ (s_.2.2 : Value).ownBlock) s_.2.1 y1108) ∧ (Kd.R k42 42 w' w.heap.size (fun k_ => some k_ ≠ (s_.2.1 : Value).ownBlock) s_.2.2 y1111) ∧ (w'.heap[gb903]? = some (.cells #[.int .u64 a0_0, .int .u16 a0_1, .slice A0_2 l0_2.length c0_2, .int .u8 a0_3] 40 (0, 0))) ∧ (Below w.heap.size w w')) ?_ ?_
                   rotate_left
                   ·intro hCont
                    refine two_ (i := 0) (j := 6) (Ni := some 53) (Nj := some 59) (demurragelaw19_PlainParts.ups 13 1839) (demurragelaw19_PlainParts.ups 13 1902) rfl rfl rfl rfl (two_of HT_.out (by kernel_rfl)) (by decide) (by decide) (fun K hK => ?_) (fun K hK => ?_)
                    ·skip
                     refine Kd.R_lit_step k42 _ 42 ?hg (N := 53) ?hd (xs := ([] : List (S42))) (inner := []) (ok := fun _ => True) (okp := fun _ => True) ?hr ?hp (fun _ hk => hk) trivial (Below.refl _ _) (Nat.le_refl _) (by simp) ?_; (case hd => rfl); (case hg => rfl); (case hr => first | (go_simp; done) | (go_simp; rfl)); (case hp => exact (Reps.none _ _))
                     intro v1102 w35 ho36 hb hg_ hnew_
                     clear hg_ hnew_
                     (first | rw [← Ny1101.out] at ho36 | (simp only [Int.reduceToNat] at ho36; rw [← Ny1101.out] at ho36))
                     have HO1103 := Aside0.mk (Kd.R_lower ho36 (below_size (by repeat (first | (with_reducible first | exact HB.out | apply bA_ | apply bN_ | apply bD_ | refine bS_ ?_ GE903.out) | exact HB.out))))
                     replace BK903 := bK_ BK903 hb
                     replace HB := Aside0.mk (below_step (by repeat (first | (with_reducible first | exact HB.out | apply bA_ | apply bN_ | apply bD_ | refine bS_ ?_ GE903.out) | exact HB.out)) hb)
                     clear hb ho36
                     refine hK.out _ _ trivial (fun hHeld => ?_)
                     clear hK K
                     refine norm_ (a' := ?_) ?_ ?_
                     rotate_left
                     ·show Act.put _ (some 53) _ = _
                      simp only [Act.put, sT_, sZ_, sS_, i64_w, i32_w]
                      rfl
                     refine two_ (i := 4) (j := 6) (Ni := some 57) (Nj := some 59) (demurragelaw19_PlainParts.ups 13 1855) (demurragelaw19_PlainParts.ups 13 1903) rfl rfl rfl rfl (two_of HT_.out (by kernel_rfl)) (by decide) (by decide) (fun K hK => ?_) (fun K hK => ?_)
                     ·skip
                      refine Kd.R_append_rows_step k42 (w0 := w) w.heap.size (by rfl) (.tmp 53) (.tmp 56) 22 42 (.agg #[(.int .i64 0), (.int .i64 0)]) 16 rfl Try.underlying22 info42 rfl (by decide) (by omega) v1102 y1101 y1104 _ _ _ (fun _ => True) (fun _ => False) rfl rfl ?aO ?aR (fun _ _ h => h) (fun _ h => h.elim) ?aF ?aB ?aS ?aL ?_
                      (case aR => repeat (first | exact (Kd.C_below HR1107.out HB.out) | (with_reducible refine Kd.C_alloc ?_ _) | (with_reducible refine Kd.C_drewN ?_ _) | (with_reducible refine Kd.C_drew ?_)))
                      (case aB => exact (by repeat (first | (with_reducible first | exact HB.out | apply bA_ | apply bN_ | apply bD_ | refine bS_ ?_ GE903.out) | exact HB.out)))
                      (case aF => exact (fun _ _ => trivial))
                      (case aO => exact (by (with_reducible repeat (first | apply Kd.R_alloc | apply Kd.R_drewN | apply Kd.R_drew)); exact HO1103.out))
                      (case aS => exact (below_size (by repeat (first | (with_reducible first | exact HB.out | apply bA_ | apply bN_ | apply bD_ | refine bS_ ?_ GE903.out) | exact HB.out))))
                      (case aL => have := LMc16.out; omega)
                      intro v1109 w37 ho hb hg hat
                      rw [← Ny1108.out] at ho
                      replace BK903 := Aside0.mk (blk_grown (g := gb903) (o := .cells #[.int .u64 a0_0, .int .u16 a0_1, .slice A0_2 l0_2.length c0_2, .int .u8 a0_3] 40 (0, 0)) BK903.out hg (Kd.R_ne HO1103.out BK903.out (by decide)))
                      replace HB := Aside0.mk (hb)
                      have HO1110 := Aside0.mk (ho)
                      clear HO1103 ho hb hg hat
                      refine hK.out _ _ trivial (fun hHeld => ?_)
                      clear hK K
                      refine norm_ (a' := ?_) ?_ ?_
                      rotate_left
                      ·show Act.put _ (some 57) _ = _
                       simp only [Act.put, sT_, sZ_, sS_, i64_w, i32_w]
                       rfl
                      refine one_ (i := 6) (N := some 59) (demurragelaw19_PlainParts.ups 13 1919) rfl rfl (one_of HT_.out (by kernel_rfl)) (by decide) (fun K hK => ?_)
                      refine Kd.R_lit_step k42 _ 42 ?hg (N := 59) ?hd (xs := ([(⟨0, 1⟩ : S42)] : List (S42))) (inner := [.int .i64 0, .int .i64 1]) (ok := fun _ => True) (okp := fun _ => True) ?hr ?hp (fun _ hk => hk) trivial (Below.refl _ _) (Nat.le_refl _) (by simp) ?_; (case hd => rfl); (case hg => rfl); (case hr => first | (go_simp; done) | (go_simp; rfl)); (case hp => exact (Reps.c2 (show Kd.M k42 _ _ _ (⟨0, 1⟩ : S42) [.int .i64 0, .int .i64 1] from (k42_mkM _ _ _ (⟨0, 1⟩ : S42) )) (Reps.none _ _)))
                      intro v1112 w38 ho39 hb hg_ hnew_
                      clear hg_ hnew_
                      (first | rw [← Ny1111.out] at ho39 | (simp only [Int.reduceToNat] at ho39; rw [← Ny1111.out] at ho39))
                      have HO1113 := Aside0.mk (Kd.R_lower (Kd.R_new' ho39 (Kd.R_lt HO1110.out)) (below_size (by repeat (first | (with_reducible first | exact HB.out | apply bA_ | apply bN_ | apply bD_ | refine bS_ ?_ GE903.out) | exact HB.out))))
                      replace HO1110 := Aside0.mk (Kd.R_elder' HO1110.out (Kd.R_base ho39) hb)
                      replace BK903 := bK_ BK903 hb
                      replace HB := Aside0.mk (below_step (by repeat (first | (with_reducible first | exact HB.out | apply bA_ | apply bN_ | apply bD_ | refine bS_ ?_ GE903.out) | exact HB.out)) hb)
                      clear hb ho39
                      refine hK.out _ _ trivial (fun hHeld => ?_)
                      clear hK K
                      refine norm_ (a' := ?_) ?_ ?_
                      rotate_left
                      ·show Act.put _ (some 59) _ = _
                       simp only [Act.put, sT_, sZ_, sS_, i64_w, i32_w]
                       rfl
                      exact norm_ (by simp only [putAll, Act.put, sT_, sZ_, sS_]) (hCont (v1102, v1109, v1112) _ ⟨(by (with_reducible repeat (first | apply Kd.R_alloc | apply Kd.R_drewN | apply Kd.R_drew)); exact Kd.R_mono HO1110.out (fun _ hk => hk.2)), (by (with_reducible repeat (first | apply Kd.R_alloc | apply Kd.R_drewN | apply Kd.R_drew)); exact Kd.R_mono HO1113.out (fun _ hk => hk.2)), BK903.out, (by repeat (first | (with_reducible first | exact HB.out | apply bA_ | apply bN_ | apply bD_ | refine bS_ ?_ GE903.out) | exact HB.out))⟩)
                     ·skip
                      refine Kd.R_lit_step k42 _ 42 ?hg (N := 59) ?hd (xs := ([(⟨0, 1⟩ : S42)] : List (S42))) (inner := [.int .i64 0, .int .i64 1]) (ok := fun _ => True) (okp := fun _ => True) ?hr ?hp (fun _ hk => hk) trivial (Below.refl _ _) (Nat.le_refl _) (by simp) ?_; (case hd => rfl); (case hg => rfl); (case hr => first | (go_simp; done) | (go_simp; rfl)); (case hp => exact (Reps.c2 (show Kd.M k42 _ _ _ (⟨0, 1⟩ : S42) [.int .i64 0, .int .i64 1] from (k42_mkM _ _ _ (⟨0, 1⟩ : S42) )) (Reps.none _ _)))
                      intro v1112 w37 ho38 hb hg_ hnew_
                      clear hg_ hnew_
                      (first | rw [← Ny1111.out] at ho38 | (simp only [Int.reduceToNat] at ho38; rw [← Ny1111.out] at ho38))
                      have HO1113 := Aside0.mk (Kd.R_lower (Kd.R_new' ho38 (Kd.R_lt HO1103.out)) (below_size (by repeat (first | (with_reducible first | exact HB.out | apply bA_ | apply bN_ | apply bD_ | refine bS_ ?_ GE903.out) | exact HB.out))))
                      replace HO1103 := Aside0.mk (Kd.R_elder' HO1103.out (Kd.R_base ho38) hb)
                      replace BK903 := bK_ BK903 hb
                      replace HB := Aside0.mk (below_step (by repeat (first | (with_reducible first | exact HB.out | apply bA_ | apply bN_ | apply bD_ | refine bS_ ?_ GE903.out) | exact HB.out)) hb)
                      clear hb ho38
                      refine hK.out _ _ trivial (fun hHeld => ?_)
                      clear hK K
                      refine norm_ (a' := ?_) ?_ ?_
                      rotate_left
                      ·show Act.put _ (some 59) _ = _
                       simp only [Act.put, sT_, sZ_, sS_, i64_w, i32_w]
                       rfl
                      refine one_ (i := 4) (N := some 57) (demurragelaw19_PlainParts.ups 13 1919) rfl rfl (one_of HT_.out (by kernel_rfl)) (by decide) (fun K hK => ?_)
                      refine Kd.R_append_rows_step k42 (w0 := w) w.heap.size (by rfl) (.tmp 53) (.tmp 56) 22 42 (.agg #[(.int .i64 0), (.int .i64 0)]) 16 rfl Try.underlying22 info42 rfl (by decide) (by omega) v1102 y1101 y1104 _ _ _ (fun k_ => some k_ ≠ (v1112 : Value).ownBlock) (fun _ => False) rfl rfl ?aO ?aR (fun _ _ h => h) (fun _ h => h.elim) ?aF ?aB ?aS ?aL ?_
                      (case aR => repeat (first | exact (Kd.C_below HR1107.out HB.out) | (with_reducible refine Kd.C_alloc ?_ _) | (with_reducible refine Kd.C_drewN ?_ _) | (with_reducible refine Kd.C_drew ?_)))
                      (case aB => exact (by repeat (first | (with_reducible first | exact HB.out | apply bA_ | apply bN_ | apply bD_ | refine bS_ ?_ GE903.out) | exact HB.out)))
                      (case aF => exact (fun k_ hk => Kd.fresh' (Kd.R_lt (by (with_reducible repeat (first | apply Kd.R_alloc | apply Kd.R_drewN | apply Kd.R_drew)); exact HO1113.out)) k_ hk))
                      (case aO => exact (by (with_reducible repeat (first | apply Kd.R_alloc | apply Kd.R_drewN | apply Kd.R_drew)); exact Kd.R_mono HO1103.out (fun _ hk => hk.2)))
                      (case aS => exact (below_size (by repeat (first | (with_reducible first | exact HB.out | apply bA_ | apply bN_ | apply bD_ | refine bS_ ?_ GE903.out) | exact HB.out))))
                      (case aL => have := LMc16.out; omega)
                      intro v1109 w39 ho hb hg hat
                      rw [← Ny1108.out] at ho
                      replace BK903 := Aside0.mk (blk_grown (g := gb903) (o := .cells #[.int .u64 a0_0, .int .u16 a0_1, .slice A0_2 l0_2.length c0_2, .int .u8 a0_3] 40 (0, 0)) BK903.out hg (Kd.R_ne HO1103.out BK903.out (by decide)))
                      replace HO1113 := Aside0.mk (Kd.R_after (ok := (fun _ => True)) HO1113.out hg hat)
                      replace HB := Aside0.mk (hb)
                      have HO1110 := Aside0.mk (ho)
                      clear HO1103 ho hb hg hat
                      refine hK.out _ _ trivial (fun hHeld => ?_)
                      clear hK K
                      refine norm_ (a' := ?_) ?_ ?_
                      rotate_left
                      ·show Act.put _ (some 57) _ = _
                       simp only [Act.put, sT_, sZ_, sS_, i64_w, i32_w]
                       rfl
                      exact norm_ (by simp only [putAll, Act.put, sT_, sZ_, sS_]) (hCont (v1102, v1109, v1112) _ ⟨(by (with_reducible repeat (first | apply Kd.R_alloc | apply Kd.R_drewN | apply Kd.R_drew)); exact HO1110.out), (by (with_reducible repeat (first | apply Kd.R_alloc | apply Kd.R_drewN | apply Kd.R_drew)); exact Kd.R_mono HO1113.out (fun _ hk => hk.2)), BK903.out, (by repeat (first | (with_reducible first | exact HB.out | apply bA_ | apply bN_ | apply bD_ | refine bS_ ?_ GE903.out) | exact HB.out))⟩)
                    ·skip
                     refine Kd.R_lit_step k42 _ 42 ?hg (N := 59) ?hd (xs := ([(⟨0, 1⟩ : S42)] : List (S42))) (inner := [.int .i64 0, .int .i64 1]) (ok := fun _ => True) (okp := fun _ => True) ?hr ?hp (fun _ hk => hk) trivial (Below.refl _ _) (Nat.le_refl _) (by simp) ?_; (case hd => rfl); (case hg => rfl); (case hr => first | (go_simp; done) | (go_simp; rfl)); (case hp => exact (Reps.c2 (show Kd.M k42 _ _ _ (⟨0, 1⟩ : S42) [.int .i64 0, .int .i64 1] from (k42_mkM _ _ _ (⟨0, 1⟩ : S42) )) (Reps.none _ _)))
                     intro v1112 w35 ho36 hb hg_ hnew_
                     clear hg_ hnew_
                     (first | rw [← Ny1111.out] at ho36 | (simp only [Int.reduceToNat] at ho36; rw [← Ny1111.out] at ho36))
                     have HO1113 := Aside0.mk (Kd.R_lower ho36 (below_size (by repeat (first | (with_reducible first | exact HB.out | apply bA_ | apply bN_ | apply bD_ | refine bS_ ?_ GE903.out) | exact HB.out))))
                     replace BK903 := bK_ BK903 hb
                     replace HB := Aside0.mk (below_step (by repeat (first | (with_reducible first | exact HB.out | apply bA_ | apply bN_ | apply bD_ | refine bS_ ?_ GE903.out) | exact HB.out)) hb)
                     clear hb ho36
                     refine hK.out _ _ trivial (fun hHeld => ?_)
                     clear hK K
                     refine norm_ (a' := ?_) ?_ ?_
                     rotate_left
                     ·show Act.put _ (some 59) _ = _
                      simp only [Act.put, sT_, sZ_, sS_, i64_w, i32_w]
                      rfl
                     refine one_ (i := 0) (N := some 53) (demurragelaw19_PlainParts.ups 13 1903) rfl rfl (one_of HT_.out (by kernel_rfl)) (by decide) (fun K hK => ?_)
                     refine Kd.R_lit_step k42 _ 42 ?hg (N := 53) ?hd (xs := ([] : List (S42))) (inner := []) (ok := fun _ => True) (okp := fun _ => True) ?hr ?hp (fun _ hk => hk) trivial (Below.refl _ _) (Nat.le_refl _) (by simp) ?_; (case hd => rfl); (case hg => rfl); (case hr => first | (go_simp; done) | (go_simp; rfl)); (case hp => exact (Reps.none _ _))
                     intro v1102 w37 ho38 hb hg_ hnew_
                     clear hg_ hnew_
                     (first | rw [← Ny1101.out] at ho38 | (simp only [Int.reduceToNat] at ho38; rw [← Ny1101.out] at ho38))
                     have HO1103 := Aside0.mk (Kd.R_lower (Kd.R_new' ho38 (Kd.R_lt HO1113.out)) (below_size (by repeat (first | (with_reducible first | exact HB.out | apply bA_ | apply bN_ | apply bD_ | refine bS_ ?_ GE903.out) | exact HB.out))))
                     replace HO1113 := Aside0.mk (Kd.R_elder' HO1113.out (Kd.R_base ho38) hb)
                     replace BK903 := bK_ BK903 hb
                     replace HB := Aside0.mk (below_step (by repeat (first | (with_reducible first | exact HB.out | apply bA_ | apply bN_ | apply bD_ | refine bS_ ?_ GE903.out) | exact HB.out)) hb)
                     clear hb ho38
                     refine hK.out _ _ trivial (fun hHeld => ?_)
                     clear hK K
                     refine norm_ (a' := ?_) ?_ ?_
                     rotate_left
                     ·show Act.put _ (some 53) _ = _
                      simp only [Act.put, sT_, sZ_, sS_, i64_w, i32_w]
                      rfl
                     refine one_ (i := 4) (N := some 57) (demurragelaw19_PlainParts.ups 13 1919) rfl rfl (one_of HT_.out (by kernel_rfl)) (by decide) (fun K hK => ?_)
                     refine Kd.R_append_rows_step k42 (w0 := w) w.heap.size (by rfl) (.tmp 53) (.tmp 56) 22 42 (.agg #[(.int .i64 0), (.int .i64 0)]) 16 rfl Try.underlying22 info42 rfl (by decide) (by omega) v1102 y1101 y1104 _ _ _ (fun k_ => some k_ ≠ (v1112 : Value).ownBlock) (fun _ => False) rfl rfl ?aO ?aR (fun _ _ h => h) (fun _ h => h.elim) ?aF ?aB ?aS ?aL ?_
                     (case aR => repeat (first | exact (Kd.C_below HR1107.out HB.out) | (with_reducible refine Kd.C_alloc ?_ _) | (with_reducible refine Kd.C_drewN ?_ _) | (with_reducible refine Kd.C_drew ?_)))
                     (case aB => exact (by repeat (first | (with_reducible first | exact HB.out | apply bA_ | apply bN_ | apply bD_ | refine bS_ ?_ GE903.out) | exact HB.out)))
                     (case aF => exact (fun k_ hk => Kd.fresh' (Kd.R_lt (by (with_reducible repeat (first | apply Kd.R_alloc | apply Kd.R_drewN | apply Kd.R_drew)); exact HO1113.out)) k_ hk))
                     (case aO => exact (by (with_reducible repeat (first | apply Kd.R_alloc | apply Kd.R_drewN | apply Kd.R_drew)); exact Kd.R_mono HO1103.out (fun _ hk => hk.2)))
                     (case aS => exact (below_size (by repeat (first | (with_reducible first | exact HB.out | apply bA_ | apply bN_ | apply bD_ | refine bS_ ?_ GE903.out) | exact HB.out))))
                     (case aL => have := LMc16.out; omega)
                     intro v1109 w39 ho hb hg hat
                     rw [← Ny1108.out] at ho
                     replace BK903 := Aside0.mk (blk_grown (g := gb903) (o := .cells #[.int .u64 a0_0, .int .u16 a0_1, .slice A0_2 l0_2.length c0_2, .int .u8 a0_3] 40 (0, 0)) BK903.out hg (Kd.R_ne HO1103.out BK903.out (by decide)))
                     replace HO1113 := Aside0.mk (Kd.R_after (ok := (fun _ => True)) HO1113.out hg hat)
                     replace HB := Aside0.mk (hb)
                     have HO1110 := Aside0.mk (ho)
                     clear HO1103 ho hb hg hat
                     refine hK.out _ _ trivial (fun hHeld => ?_)
                     clear hK K
                     refine norm_ (a' := ?_) ?_ ?_
                     rotate_left
                     ·show Act.put _ (some 57) _ = _
                      simp only [Act.put, sT_, sZ_, sS_, i64_w, i32_w]
                      rfl
                     exact norm_ (by simp only [putAll, Act.put, sT_, sZ_, sS_]) (hCont (v1102, v1109, v1112) _ ⟨(by (with_reducible repeat (first | apply Kd.R_alloc | apply Kd.R_drewN | apply Kd.R_drew)); exact HO1110.out), (by (with_reducible repeat (first | apply Kd.R_alloc | apply Kd.R_drewN | apply Kd.R_drew)); exact Kd.R_mono HO1113.out (fun _ hk => hk.2)), BK903.out, (by repeat (first | (with_reducible first | exact HB.out | apply bA_ | apply bN_ | apply bD_ | refine bS_ ?_ GE903.out) | exact HB.out))⟩)
                   rintro ⟨v1102, v1109, v1112⟩ w40 ⟨h0_, h1_, h2_, h3_⟩
                   (try dsimp only at h0_ h1_ h2_ h3_)
                   clear BK903 HB
                   have HO1110 := Aside0.mk h0_
                   have HO1113 := Aside0.mk h1_
                   have BK903 := Aside0.mk h2_
                   have HB := Aside0.mk h3_
                   clear h0_ h1_ h2_ h3_
                   have hHeld := trivial
                   obtain ⟨Ao42, co42, eo42⟩ := Kd.R_slice HO1113.out
                   (first | subst eo42 | (injection eo42 with f1_ f2_ f3_; have f4_ := f1_.symm; have f5_ := f3_.symm; clear f1_ f2_ f3_; subst f4_; subst f5_))
                   refine norm_ (a' := ?_) ?_ ?_
                   rotate_left
                   ·simp only [putAll, Act.put, sT_, sZ_, sS_]
                    rfl
                   refine one_ (i := 7) (N := some 60) (demurragelaw19_PlainParts.ups 13 2047) rfl rfl (one_of HT_.out (by kernel_rfl)) (by decide) (fun K hK => ?_)
                   refine Kd.R_append_rows_step k42 (w0 := w) w.heap.size (by rfl) (.tmp 57) (.tmp 59) 22 42 (.agg #[(.int .i64 0), (.int .i64 0)]) 16 rfl Try.underlying22 info42 rfl (by decide) (by omega) v1109 y1108 y1111 _ _ _ (fun k_ => some k_ ≠ (.slice Ao42 y1111.length co42 : Value).ownBlock) (fun _ => False) rfl rfl ?aO ?aR (fun _ _ h => h) (fun _ h => h.elim) ?aF ?aB ?aS ?aL ?_
                   (case aR => repeat (first | exact (Kd.R_reads' HO1113.out).2.2 | (with_reducible refine Kd.C_alloc ?_ _) | (with_reducible refine Kd.C_drewN ?_ _) | (with_reducible refine Kd.C_drew ?_)))
                   (case aB => exact (by repeat (first | (with_reducible first | exact HB.out | apply bA_ | apply bN_ | apply bD_ | refine bS_ ?_ GE903.out) | exact HB.out)))
                   (case aF => exact (fun k_ hk => Kd.fresh' (Kd.R_lt (by (with_reducible repeat (first | apply Kd.R_alloc | apply Kd.R_drewN | apply Kd.R_drew)); exact HO1113.out)) k_ hk))
                   (case aO => exact (by (with_reducible repeat (first | apply Kd.R_alloc | apply Kd.R_drewN | apply Kd.R_drew)); exact HO1110.out))
                   (case aS => exact (below_size (by repeat (first | (with_reducible first | exact HB.out | apply bA_ | apply bN_ | apply bD_ | refine bS_ ?_ GE903.out) | exact HB.out))))
                   (case aL => have := LMc17.out; omega)
                   intro v1115 w41 ho hb hg hat
                   rw [← Ny1114.out] at ho
                   replace BK903 := Aside0.mk (blk_grown (g := gb903) (o := .cells #[.int .u64 a0_0, .int .u16 a0_1, .slice A0_2 l0_2.length c0_2, .int .u8 a0_3] 40 (0, 0)) BK903.out hg (Kd.R_ne HO1110.out BK903.out (by decide)))
                   replace HO1113 := Aside0.mk (Kd.R_after (ok := (fun _ => True)) (by (with_reducible repeat (first | apply Kd.R_alloc | apply Kd.R_drewN | apply Kd.R_drew)); exact Kd.R_mono HO1113.out (fun _ hk => (And.intro (trivial) (hk)))) hg hat)
                   replace HB := Aside0.mk (hb)
                   have HO1116 := Aside0.mk (ho)
                   clear HO1110 ho hb hg hat
                   refine hK.out _ _ trivial (fun hHeld => ?_)
                   clear hK K
                   refine norm_ (a' := ?_) ?_ ?_
                   rotate_left
                   ·show Act.put _ (some 60) _ = _
                    simp only [Act.put, sT_, sZ_, sS_, i64_w, i32_w]
                    rfl
                   refine one_ (i := 11) (N := some 64) (demurragelaw19_PlainParts.ups 13 4095) rfl rfl (one_of HT_.out (by kernel_rfl)) (by decide) (fun K hK => ?_)
                   refine Kd.R_append_rows_step k42 (w0 := w) w.heap.size (by rfl) (.tmp 60) (.tmp 63) 22 42 (.agg #[(.int .i64 0), (.int .i64 0)]) 16 rfl Try.underlying22 info42 rfl (by decide) (by omega) v1115 y1114 y1117 _ _ _ (fun k_ => some k_ ≠ (.slice Ao42 y1111.length co42 : Value).ownBlock) (fun _ => False) rfl rfl ?aO ?aR (fun _ _ h => h) (fun _ h => h.elim) ?aF ?aB ?aS ?aL ?_
                   (case aR => repeat (first | exact (Kd.C_below HR1120.out HB.out) | (with_reducible refine Kd.C_alloc ?_ _) | (with_reducible refine Kd.C_drewN ?_ _) | (with_reducible refine Kd.C_drew ?_)))
                   (case aB => exact (by repeat (first | (with_reducible first | exact HB.out | apply bA_ | apply bN_ | apply bD_ | refine bS_ ?_ GE903.out) | exact HB.out)))
                   (case aF => exact (fun k_ hk => Kd.fresh' (Kd.R_lt (by (with_reducible repeat (first | apply Kd.R_alloc | apply Kd.R_drewN | apply Kd.R_drew)); exact HO1113.out)) k_ hk))
                   (case aO => exact (by (with_reducible repeat (first | apply Kd.R_alloc | apply Kd.R_drewN | apply Kd.R_drew)); exact HO1116.out))
                   (case aS => exact (below_size (by repeat (first | (with_reducible first | exact HB.out | apply bA_ | apply bN_ | apply bD_ | refine bS_ ?_ GE903.out) | exact HB.out))))
                   (case aL => have := LMc20.out; omega)
                   intro v1122 w43 ho hb hg hat
                   rw [← Ny1121.out] at ho
                   replace BK903 := Aside0.mk (blk_grown (g := gb903) (o := .cells #[.int .u64 a0_0, .int .u16 a0_1, .slice A0_2 l0_2.length c0_2, .int .u8 a0_3] 40 (0, 0)) BK903.out hg (Kd.R_ne HO1116.out BK903.out (by decide)))
                   replace HO1113 := Aside0.mk (Kd.R_after (ok := (fun _ => True)) HO1113.out hg hat)
                   replace HB := Aside0.mk (hb)
                   have HO1123 := Aside0.mk (ho)
                   clear HO1116 ho hb hg hat
                   refine hK.out _ _ trivial (fun hHeld => ?_)
                   clear hK K
                   refine norm_ (a' := ?_) ?_ ?_
                   rotate_left
                   ·show Act.put _ (some 64) _ = _
                    simp only [Act.put, sT_, sZ_, sS_, i64_w, i32_w]
                    rfl
                   refine pure_ (i := 12) (N := some 12) (v := ?_) (a' := ?_) (demurragelaw19_PlainParts.ups 13 8191) rfl rfl (any_of HT_.out (by kernel_rfl)) (fun _ _ _ h => h) (Or.inl ⟨by rfl, ?_⟩) ?_ ?_
                   rotate_left
                   ·intro w'
                    go_simp
                    with_reducible rfl
                   rotate_left
                   ·simp only [Act.put, sT_, sZ_, sS_, i64_w, i32_w]
                    rfl
                   refine done_ (done_of HT_.out (by kernel_rfl)) ?_
                   try go_wp2_with (first | ((with_reducible refine gate_callee (f := 9) rfl ?_); refine goesL_ (some 69) rfl rfl Try.func9 (by kernel_rfl) rfl #[.int .i64 (wrap64 (Int.tmod a0_0 1000000000000001)), .int .i64 (Int.tmod (wrap64 (a0_1)) 9001), .slice A0_2 l0_2.length c0_2] rfl (by (try simp only [List.map_toArray, List.map_cons, List.map_nil]); first | done | rfl) ?_; (with_reducible refine (plain_Bullet.calls kj2 (wrap64 (Int.tmod a0_0 1000000000000001)) (Int.tmod (wrap64 (a0_1)) 9001) _ _ l0_2 t1124 t1125 _ ?side1 ?side2 A21.out).mono ?_); (case side1 => repeat (first | exact (Kd.C_below HR0_2.out HB.out) | (with_reducible refine Kd.C_alloc ?_ _) | (with_reducible refine Kd.C_drewN ?_ _) | (with_reducible refine Kd.C_drew ?_))); (case side2 => exact HC0_2.out); rintro e w44 ⟨v1126, rfl, ho0, hb⟩; refine ⟨_, rfl, ?_⟩; replace HO1113 := Aside0.mk (Kd.R_below HO1113.out hb); replace HO1123 := Aside0.mk (Kd.R_below HO1123.out hb); have HO1127 := Aside0.mk (Kd.R_lower ho0 (below_size (by repeat (first | (with_reducible first | exact HB.out | apply bA_ | apply bN_ | apply bD_ | refine bS_ ?_ GE903.out) | exact HB.out)))); replace BK903 := bK_ BK903 hb; replace HB := Aside0.mk (below_step (by repeat (first | (with_reducible first | exact HB.out | apply bA_ | apply bN_ | apply bD_ | refine bS_ ?_ GE903.out) | exact HB.out)) hb); (try clear hb); (try clear ho0); obtain ⟨Ao45, co45, eo45⟩ := Kd.R_slice HO1123.out; subst eo45) | ((with_reducible refine gate_callee (f := 9) rfl ?_); refine goesL_ (some 76) rfl rfl Try.func9 (by kernel_rfl) rfl #[.int .i64 (wrap64 (Int.tmod a0_0 1000000000000001)), .int .i64 (Int.tmod (wrap64 (a0_1)) 9001), .slice Ao45 y1121.length co45] rfl (by (try simp only [List.map_toArray, List.map_cons, List.map_nil]); first | done | rfl) ?_; (with_reducible refine (plain_Bullet.calls kj2 (wrap64 (Int.tmod a0_0 1000000000000001)) (Int.tmod (wrap64 (a0_1)) 9001) _ _ y1121 t1128 t1129 _ ?side1 ?side2 A22.out).mono ?_); (case side1 => repeat (first | exact (Kd.R_reads' HO1123.out).2.2 | (with_reducible refine Kd.C_alloc ?_ _) | (with_reducible refine Kd.C_drewN ?_ _) | (with_reducible refine Kd.C_drew ?_))); (case side2 => exact (Kd.R_reads' HO1123.out).2.1); rintro e w46 ⟨v1130, rfl, ho0, hb⟩; refine ⟨_, rfl, ?_⟩; replace HO1113 := Aside0.mk (Kd.R_below HO1113.out hb); replace HO1123 := Aside0.mk (Kd.R_below HO1123.out hb); have HO1131 := Aside0.mk (Kd.R_lower (Kd.R_new' ho0 (Kd.R_lt HO1127.out)) (below_size (by repeat (first | (with_reducible first | exact HB.out | apply bA_ | apply bN_ | apply bD_ | refine bS_ ?_ GE903.out) | exact HB.out)))); replace HO1127 := Aside0.mk (Kd.R_elder' HO1127.out (Kd.R_base ho0) hb); replace BK903 := bK_ BK903 hb; replace HB := Aside0.mk (below_step (by repeat (first | (with_reducible first | exact HB.out | apply bA_ | apply bN_ | apply bD_ | refine bS_ ?_ GE903.out) | exact HB.out)) hb); (try clear hb); (try clear ho0); obtain ⟨Ao47, co47, eo47⟩ := Kd.R_slice HO1127.out; subst eo47; obtain ⟨Ao48, co48, eo48⟩ := Kd.R_slice HO1131.out; subst eo48; have p1132 : 0 ≤ ((ji13) : Int) := of_decide_eq_true (by first | (with_reducible assumption) | assumption); have q1132 : (ji13) < (t1128.length : Int) := of_decide_eq_true (by first | (with_reducible assumption) | assumption); obtain ⟨ad1132, e1132, hx1132_0, hx1132_1, hx1132_2, hx1132_3, hx1132_4⟩ := at_T37 (Kd.R_reads' HO1131.out).2.2 (ji13) p1132 q1132; cases e1132; replace p1132 := eq_true p1132; replace q1132 := eq_true q1132; have p1133 : 0 ≤ ((l0_2.length : Int) : Int) := of_decide_eq_true (by first | (with_reducible assumption) | assumption); have q1133 : (l0_2.length : Int) < (t1128.length : Int) := of_decide_eq_true (by first | (with_reducible assumption) | assumption); obtain ⟨ad1133, e1133, hx1133_0, hx1133_1, hx1133_2, hx1133_3, hx1133_4⟩ := at_T37 (Kd.R_reads' HO1131.out).2.2 (l0_2.length : Int) p1133 q1133; obtain rfl : ad1132 = ad1133 := (by injection e1133); (try simp only [Go.IntWalk.toNatUp] at hx1133_0); (try simp only [Go.IntWalk.toNatUp] at hx1133_1); (try simp only [Go.IntWalk.toNatUp] at hx1133_2); (try simp only [Go.IntWalk.toNatUp] at hx1133_3); (try simp only [Go.IntWalk.toNatUp] at hx1133_4); replace p1133 := eq_true p1133; replace q1133 := eq_true q1133))
                   (try simp only [Act.put, sT_, sZ_, sS_])
                   go_loopg [17] kj2 (fun kq v17 w' => ∃ (x17_2 : Int), v17 = .int .i64 x17_2 ∧ Aside0 (demurragelaw19_PlainParts.l0 kq t904 (l0_2.length : Int) ji13 t1124 t1128 x17_2 = some r) ∧ Aside0 (kq ≤ kj2) ∧ Aside0 (Kd.R k37 37 w' w.heap.size (fun k_ => some k_ ≠ ((.slice (some ad1132) t1128.length co48) : Value).ownBlock) (.slice Ao47 t1124.length co47) t1124) ∧ Aside0 (Kd.R k37 37 w' w.heap.size (fun k_ => some k_ ≠ ((.slice Ao47 t1124.length co47) : Value).ownBlock) (.slice (some ad1132) t1128.length co48) t1128) ∧ Aside0 (w'.heap[gb903]? = some (.cells #[.int .u64 a0_0, .int .u16 a0_1, (.slice A0_2 l0_2.length c0_2), .int .u8 a0_3] 40 (0, 0))) ∧ Aside0 (Below w.heap.size w w'))
                   case atStart => exact ⟨(0), (by first | rfl | (simp; done) | (simp [*]; done)), H', ⟨Nat.le_refl _⟩, ⟨by (with_reducible repeat (first | apply Kd.R_alloc | apply Kd.R_drewN | apply Kd.R_drew)); exact Kd.R_mono HO1127.out (fun _ hk => hk.2)⟩, ⟨by (with_reducible repeat (first | apply Kd.R_alloc | apply Kd.R_drewN | apply Kd.R_drew)); exact Kd.R_mono HO1131.out (fun _ hk => hk.2)⟩, ⟨by exact BK903.out⟩, ⟨by repeat (first | (with_reducible first | exact HB.out | apply bA_ | apply bN_ | apply bD_ | refine bS_ ?_ GE903.out) | exact HB.out)⟩⟩
                   case round =>
                    clear H'
                    try clear c1
                    try clear p1
                    try clear q1
                    try clear hx1
                    try clear c2
                    try clear p2
                    try clear c3
                    try clear q3
                    try clear p6
                    try clear c7
                    try clear c7b0
                    try clear c7b1
                    try clear c8
                    try clear c8b0
                    try clear c8b1
                    try clear c9
                    try clear c11
                    try clear p11
                    try clear q11
                    try clear hx11
                    try clear c12
                    try clear c12b0
                    try clear c12b1
                    try clear c14
                    try clear c14b0
                    try clear c14b1
                    try clear c15
                    try clear c15b0
                    try clear c15b1
                    try clear c16
                    try clear c17
                    try clear c18
                    try clear c18b0
                    try clear c19
                    try clear c19b0
                    try clear c20
                    try clear c23
                    try clear c23b0
                    try clear c23b1
                    try clear c24
                    try clear c24b0
                    try clear c24b1
                    try clear c25
                    try clear c25b0
                    try clear c25b1
                    try clear c25b2
                    try clear c26
                    try clear c26b0
                    try clear c26b1
                    try clear c27
                    try clear c27b0
                    try clear c28
                    try clear c28b0
                    try clear c28b1
                    try clear c29
                    try clear c29b0
                    try clear c29b1
                    try clear c30
                    try clear c30b0
                    try clear c30b1
                    try clear c31
                    try clear c31b0
                    try clear c31b1
                    try clear q33
                    try clear c34
                    try clear q34
                    try clear hcz5_0
                    try clear hcz5_1
                    try clear hcz5_2
                    try clear hcz5_3
                    try clear hfz5_0
                    try clear hfz5_1
                    try clear hfz5_2
                    try clear hfz5_3
                    try clear hx1132_0
                    try clear hx1132_1
                    try clear hx1132_2
                    try clear hx1132_3
                    try clear hx1132_4
                    try clear hx1133_0
                    try clear hx1133_1
                    try clear hx1133_2
                    try clear hx1133_3
                    try clear hx1133_4
                    try clear p1132
                    try clear p1133
                    try clear p2
                    try clear q034
                    try clear q1132
                    try clear q1133
                    try clear q33
                    try clear q34
                    obtain ⟨x17_2, rfl, HA, HK2, HO_13, HO_15, BK903, HB⟩ := hrel
                    cases gk with
                    | zero => exact absurd HA.out (by simp [demurragelaw19_PlainParts.l0])
                    | succ k2 =>
                     have H := HA.out
                     clear HA
                     simp only [demurragelaw19_PlainParts.l0] at H
                     by_cases c49 : x17_2 < (l0_2.length : Int)
                     ·rw [if_pos c49] at H
                      have c49b0 : decide (x17_2 < (l0_2.length : Int)) = true := decide_eq_true c49
                      clear c49
                      by_cases c50 : x17_2 ≥ ji13
                      ·rw [if_pos c50] at H
                       have c50b0 : decide (ji13 ≤ x17_2) = true := decide_eq_true c50
                       clear c50
                       by_cases c51 : 0 ≤ x17_2
                       ·rw [if_pos c51] at H
                        have c51b0 : decide (0 ≤ x17_2) = true := decide_eq_true c51
                        clear c51
                        by_cases c52 : x17_2 < (t1124.length : Int)
                        ·rw [if_pos c52] at H
                         have c52b0 : decide (x17_2 < (t1124.length : Int)) = true := decide_eq_true c52
                         clear c52
                         obtain ⟨ji53, hji53⟩ : ∃ j_ : Int, (wrap64 (x17_2 + 1)) = j_ := ⟨_, rfl⟩
                         replace H : (if 0 ≤ (ji53) then (if (ji53) < (t1128.length : Int) then (if ((rd_T37 t1124 x17_2).f1) = ((rd_T37 t1128 (ji53)).f1) then (demurragelaw19_PlainParts.l0 k2 t904 (l0_2.length : Int) ji13 t1124 t1128 ji53) else (none)) else (none)) else (none)) = some r := by first | (rw [hji53] at H; exact H) | (simp only [hji53] at H ⊢; exact H)
                         have hji53w : (IntKind.i64.wrap (x17_2 + 1)) = ji53 := (i64_w _).trans hji53
                         by_cases c54 : 0 ≤ (ji53)
                         ·rw [if_pos c54] at H
                          have c54b0 : decide (0 ≤ (ji53)) = true := decide_eq_true c54
                          clear c54
                          by_cases c55 : (ji53) < (t1128.length : Int)
                          ·rw [if_pos c55] at H
                           have c55b0 : decide ((ji53) < (t1128.length : Int)) = true := decide_eq_true c55
                           clear c55
                           by_cases c56 : ((rd_T37 t1124 x17_2).f1) = ((rd_T37 t1128 (ji53)).f1)
                           ·rw [if_pos c56] at H
                            have c56b0 : (((rd_T37 t1124 x17_2).f1) == ((rd_T37 t1128 (ji53)).f1)) = true := beq_iff_eq.mpr c56
                            have c56b1 : (((rd_T37 t1124 x17_2).f1) != ((rd_T37 t1128 (ji53)).f1)) = false := bne_eq_false_iff_eq.mpr c56
                            clear c56
                            have H' := Aside0.mk H
                            clear H
                            try go_wp2
                            replace HO_13 := Aside0.mk (Kd.R_drew HO_13.out)
                            replace HO_15 := Aside0.mk (Kd.R_drew HO_15.out)
                            replace BK903 := Aside0.mk (blk_drew BK903.out)
                            replace HB := Aside0.mk (below_drew1 HB.out)
                            have p1162 : 0 ≤ (x17_2 : Int) := of_decide_eq_true (by first | (with_reducible assumption) | assumption)
                            have q1162 : x17_2 < (t1124.length : Int) := of_decide_eq_true (by first | (with_reducible assumption) | assumption)
                            obtain ⟨ad1162, e1162, hx1162_0, hx1162_1, hx1162_2, hx1162_3, hx1162_4⟩ := at_T37 (Kd.R_reads' HO_13.out).2.2 x17_2 p1162 q1162
                            cases e1162
                            replace p1162 := eq_true p1162
                            replace q1162 := eq_true q1162
                            have p1163 : 0 ≤ ((ji53) : Int) := of_decide_eq_true (by first | (with_reducible assumption) | assumption)
                            have q1163 : (ji53) < (t1128.length : Int) := of_decide_eq_true (by first | (with_reducible assumption) | assumption)
                            obtain ⟨ad1163, e1163, hx1163_0, hx1163_1, hx1163_2, hx1163_3, hx1163_4⟩ := at_T37 (Kd.R_reads' HO_15.out).2.2 (ji53) p1163 q1163
                            obtain rfl : ad1132 = ad1163 := (by injection e1163)
                            replace p1163 := eq_true p1163
                            replace q1163 := eq_true q1163
                            refine start_ (n := 11) (S := fun w' => w'.cell? (ad1162.add ((x17_2).toNat * 5)) = some (.int .i64 ((rd_T37 t1124 x17_2).f0)) ∧ w'.cell? ⟨(ad1162.add ((x17_2).toNat * 5)).block, (ad1162.add ((x17_2).toNat * 5)).off + 1, none⟩ = some (.int .i64 ((rd_T37 t1124 x17_2).f1)) ∧ w'.cell? ⟨(ad1162.add ((x17_2).toNat * 5)).block, (ad1162.add ((x17_2).toNat * 5)).off + 2, none⟩ = some (.int .i64 ((rd_T37 t1124 x17_2).f2)) ∧ w'.cell? ⟨(ad1162.add ((x17_2).toNat * 5)).block, (ad1162.add ((x17_2).toNat * 5)).off + 3, none⟩ = some (.int .i64 ((rd_T37 t1124 x17_2).f3)) ∧ w'.cell? ⟨(ad1162.add ((x17_2).toNat * 5)).block, (ad1162.add ((x17_2).toNat * 5)).off + 4, none⟩ = some (.int .i64 ((rd_T37 t1124 x17_2).f4)) ∧ w'.cell? (ad1132.add (((ji53)).toNat * 5)) = some (.int .i64 ((rd_T37 t1128 (ji53)).f0)) ∧ w'.cell? ⟨(ad1132.add (((ji53)).toNat * 5)).block, (ad1132.add (((ji53)).toNat * 5)).off + 1, none⟩ = some (.int .i64 ((rd_T37 t1128 (ji53)).f1)) ∧ w'.cell? ⟨(ad1132.add (((ji53)).toNat * 5)).block, (ad1132.add (((ji53)).toNat * 5)).off + 2, none⟩ = some (.int .i64 ((rd_T37 t1128 (ji53)).f2)) ∧ w'.cell? ⟨(ad1132.add (((ji53)).toNat * 5)).block, (ad1132.add (((ji53)).toNat * 5)).off + 3, none⟩ = some (.int .i64 ((rd_T37 t1128 (ji53)).f3)) ∧ w'.cell? ⟨(ad1132.add (((ji53)).toNat * 5)).block, (ad1132.add (((ji53)).toNat * 5)).off + 4, none⟩ = some (.int .i64 ((rd_T37 t1128 (ji53)).f4))) (ds := []) (demurragelaw19_PlainParts.ups 11 0) (by kernel_rfl) rfl rfl ⟨hx1162_0, hx1162_1, hx1162_2, hx1162_3, hx1162_4, hx1163_0, hx1163_1, hx1163_2, hx1163_3, hx1163_4⟩ (fun hHeld => ?_); refine with_tabW demurragelaw19_PlainParts.tab23 demurragelaw19_PlainParts.bits23 (fun HT_ HW_ => ?_)
                            generalize wr.drew = w57 at HO_13 HO_15 BK903 HB hx1162_0 hx1162_1 hx1162_2 hx1162_3 hx1162_4 hx1163_0 hx1163_1 hx1163_2 hx1163_3 hx1163_4 hHeld ⊢
                            refine pure_ (i := 0) (N := some 126) (v := ?_) (a' := ?_) (demurragelaw19_PlainParts.ups 11 1) rfl rfl (any_of HT_.out (by kernel_rfl)) (fun _ _ _ h => h) (Or.inl ⟨by rfl, ?_⟩) ?_ ?_
                            rotate_left
                            ·intro w'
                             go_simp
                             with_reducible rfl
                            rotate_left
                            ·simp only [Act.put, sT_, sZ_, sS_, i64_w, i32_w]
                             rfl
                            refine pure_ (i := 1) (N := some 127) (v := ?_) (a' := ?_) (demurragelaw19_PlainParts.ups 11 3) rfl rfl (any_of HT_.out (by kernel_rfl)) (fun _ _ _ h => h) (Or.inl ⟨by rfl, ?_⟩) ?_ ?_
                            rotate_left
                            ·intro w'
                             go_simp
                             with_reducible rfl
                            rotate_left
                            ·simp only [Act.put, sT_, sZ_, sS_, i64_w, i32_w]
                             rfl
                            refine pure_ (i := 2) (N := some 128) (v := ?_) (a' := ?_) (demurragelaw19_PlainParts.ups 11 7) rfl rfl (any_of HT_.out (by kernel_rfl)) (fun _ _ _ h => h) (Or.inl ⟨by rfl, ?_⟩) ?_ ?_
                            rotate_left
                            ·intro w'
                             go_simp
                             with_reducible rfl
                            rotate_left
                            ·simp only [Act.put, sT_, sZ_, sS_, i64_w, i32_w]
                             rfl
                            refine pure_ (i := 3) (N := some 129) (v := ?_) (a' := ?_) (demurragelaw19_PlainParts.ups 11 15) rfl rfl (any_of HT_.out (by kernel_rfl)) (fun _ _ _ h => h) (Or.inl ⟨by rfl, ?_⟩) ?_ ?_
                            rotate_left
                            ·intro w'
                             go_simp
                             with_reducible rfl
                            rotate_left
                            ·simp only [Act.put, sT_, sZ_, sS_, i64_w, i32_w]
                             rfl
                            refine pure_ (i := 5) (N := some 131) (v := ?_) (a' := ?_) (demurragelaw19_PlainParts.ups 11 47) rfl rfl (any_of HT_.out (by kernel_rfl)) (fun _ _ _ h => h) (Or.inl ⟨by rfl, ?_⟩) ?_ ?_
                            rotate_left
                            ·intro w'
                             go_simp
                             with_reducible rfl
                            rotate_left
                            ·simp only [Act.put, sT_, sZ_, sS_, i64_w, i32_w]
                             rfl
                            refine pure_ (i := 6) (N := some 132) (v := ?_) (a' := ?_) (demurragelaw19_PlainParts.ups 11 111) rfl rfl (any_of HT_.out (by kernel_rfl)) (fun _ _ _ h => h) (Or.inl ⟨by rfl, ?_⟩) ?_ ?_
                            rotate_left
                            ·intro w'
                             go_simp
                             with_reducible rfl
                            rotate_left
                            ·simp only [Act.put, sT_, sZ_, sS_, i64_w, i32_w]
                             rfl
                            refine pure_ (i := 7) (N := some 133) (v := ?_) (a' := ?_) (demurragelaw19_PlainParts.ups 11 239) rfl rfl (any_of HT_.out (by kernel_rfl)) (fun _ _ _ h => h) (Or.inl ⟨by rfl, ?_⟩) ?_ ?_
                            rotate_left
                            ·intro w'
                             go_simp
                             with_reducible rfl
                            rotate_left
                            ·simp only [Act.put, sT_, sZ_, sS_, i64_w, i32_w]
                             rfl
                            refine pure_ (i := 8) (N := some 134) (v := ?_) (a' := ?_) (demurragelaw19_PlainParts.ups 11 495) rfl rfl (any_of HT_.out (by kernel_rfl)) (fun _ _ _ h => h) (Or.inl ⟨by rfl, ?_⟩) ?_ ?_
                            rotate_left
                            ·intro w'
                             go_simp
                             with_reducible rfl
                            rotate_left
                            ·simp only [Act.put, sT_, sZ_, sS_, i64_w, i32_w]
                             rfl
                            refine take_ (i := 4) (N := some 130) (v := ?_) (a' := ?_) (demurragelaw19_PlainParts.ups 11 511) rfl rfl (take_ofW HT_.out HW_.out (by kernel_rfl)) (fun _ _ _ h => h) (Or.inl ⟨by rfl, ?_⟩) hHeld ?_ ?_
                            rotate_left
                            ·rintro w' ⟨s0, s1, s2, s3, s4, s5, s6, s7, s8, s9⟩
                             go_simp
                             with_reducible rfl
                            rotate_left
                            ·simp only [Act.put, sT_, sZ_, sS_, i64_w, i32_w]
                             rfl
                            refine take_ (i := 9) (N := some 135) (v := ?_) (a' := ?_) (demurragelaw19_PlainParts.ups 11 1023) rfl rfl (take_ofW HT_.out HW_.out (by kernel_rfl)) (fun _ _ _ h => h) (Or.inl ⟨by rfl, ?_⟩) hHeld ?_ ?_
                            rotate_left
                            ·rintro w' ⟨s0, s1, s2, s3, s4, s5, s6, s7, s8, s9⟩
                             go_simp
                             with_reducible rfl
                            rotate_left
                            ·simp only [Act.put, sT_, sZ_, sS_, i64_w, i32_w]
                             rfl
                            refine pure_ (i := 10) (N := some 136) (v := ?_) (a' := ?_) (demurragelaw19_PlainParts.ups 11 2047) rfl rfl (any_of HT_.out (by kernel_rfl)) (fun _ _ _ h => h) (Or.inl ⟨by rfl, ?_⟩) ?_ ?_
                            rotate_left
                            ·intro w'
                             go_simp
                             with_reducible rfl
                            rotate_left
                            ·simp only [Act.put, sT_, sZ_, sS_, i64_w, i32_w]
                             rfl
                            refine done_ (done_of HT_.out (by kernel_rfl)) ?_
                            try go_wp2
                            go_roundg k2
                            case measure => have := HJ2.out; have := HK2.out; omega
                            case rel => exact ⟨(ji53), (by first | rfl | (simp; done) | (simp only [← hji53] <;> (first | rfl | simp)) | (simp [*]; done)), H', ⟨by have := HJ2.out; have := HK2.out; omega⟩, ⟨by (with_reducible repeat (first | apply Kd.R_alloc | apply Kd.R_drewN | apply Kd.R_drew)); exact HO_13.out⟩, ⟨by (with_reducible repeat (first | apply Kd.R_alloc | apply Kd.R_drewN | apply Kd.R_drew)); exact HO_15.out⟩, ⟨by exact BK903.out⟩, ⟨by repeat (first | (with_reducible first | exact HB.out | apply bA_ | apply bN_ | apply bD_ | refine bS_ ?_ GE903.out) | exact HB.out)⟩⟩
                           ·rw [if_neg c56] at H
                            exact absurd H (by simp)
                          ·rw [if_neg c55] at H
                           exact absurd H (by simp)
                         ·rw [if_neg c54] at H
                          exact absurd H (by simp)
                        ·rw [if_neg c52] at H
                         exact absurd H (by simp)
                       ·rw [if_neg c51] at H
                        exact absurd H (by simp)
                      ·rw [if_neg c50] at H
                       have c50b0 : decide (ji13 ≤ x17_2) = false := decide_eq_false c50
                       clear c50
                       by_cases c58 : 0 ≤ x17_2
                       ·rw [if_pos c58] at H
                        have c58b0 : decide (0 ≤ x17_2) = true := decide_eq_true c58
                        clear c58
                        by_cases c59 : x17_2 < (t1124.length : Int)
                        ·rw [if_pos c59] at H
                         have c59b0 : decide (x17_2 < (t1124.length : Int)) = true := decide_eq_true c59
                         clear c59
                         by_cases c60 : x17_2 < (t1128.length : Int)
                         ·rw [if_pos c60] at H
                          have c60b0 : decide (x17_2 < (t1128.length : Int)) = true := decide_eq_true c60
                          clear c60
                          by_cases c61 : ((rd_T37 t1124 x17_2).f1) = ((rd_T37 t1128 x17_2).f1)
                          ·rw [if_pos c61] at H
                           have c61b0 : (((rd_T37 t1124 x17_2).f1) == ((rd_T37 t1128 x17_2).f1)) = true := beq_iff_eq.mpr c61
                           have c61b1 : (((rd_T37 t1124 x17_2).f1) != ((rd_T37 t1128 x17_2).f1)) = false := bne_eq_false_iff_eq.mpr c61
                           clear c61
                           have H' := Aside0.mk H
                           clear H
                           try go_wp2
                           replace HO_13 := Aside0.mk (Kd.R_drew HO_13.out)
                           replace HO_15 := Aside0.mk (Kd.R_drew HO_15.out)
                           replace BK903 := Aside0.mk (blk_drew BK903.out)
                           replace HB := Aside0.mk (below_drew1 HB.out)
                           have p1164 : 0 ≤ (x17_2 : Int) := of_decide_eq_true (by first | (with_reducible assumption) | assumption)
                           have q1164 : x17_2 < (t1124.length : Int) := of_decide_eq_true (by first | (with_reducible assumption) | assumption)
                           obtain ⟨ad1164, e1164, hx1164_0, hx1164_1, hx1164_2, hx1164_3, hx1164_4⟩ := at_T37 (Kd.R_reads' HO_13.out).2.2 x17_2 p1164 q1164
                           cases e1164
                           replace p1164 := eq_true p1164
                           replace q1164 := eq_true q1164
                           have p1165 : 0 ≤ (x17_2 : Int) := of_decide_eq_true (by first | (with_reducible assumption) | assumption)
                           have q1165 : x17_2 < (t1128.length : Int) := of_decide_eq_true (by first | (with_reducible assumption) | assumption)
                           obtain ⟨ad1165, e1165, hx1165_0, hx1165_1, hx1165_2, hx1165_3, hx1165_4⟩ := at_T37 (Kd.R_reads' HO_15.out).2.2 x17_2 p1165 q1165
                           obtain rfl : ad1132 = ad1165 := (by injection e1165)
                           replace p1165 := eq_true p1165
                           replace q1165 := eq_true q1165
                           refine start_ (n := 11) (S := fun w' => w'.cell? (ad1164.add ((x17_2).toNat * 5)) = some (.int .i64 ((rd_T37 t1124 x17_2).f0)) ∧ w'.cell? ⟨(ad1164.add ((x17_2).toNat * 5)).block, (ad1164.add ((x17_2).toNat * 5)).off + 1, none⟩ = some (.int .i64 ((rd_T37 t1124 x17_2).f1)) ∧ w'.cell? ⟨(ad1164.add ((x17_2).toNat * 5)).block, (ad1164.add ((x17_2).toNat * 5)).off + 2, none⟩ = some (.int .i64 ((rd_T37 t1124 x17_2).f2)) ∧ w'.cell? ⟨(ad1164.add ((x17_2).toNat * 5)).block, (ad1164.add ((x17_2).toNat * 5)).off + 3, none⟩ = some (.int .i64 ((rd_T37 t1124 x17_2).f3)) ∧ w'.cell? ⟨(ad1164.add ((x17_2).toNat * 5)).block, (ad1164.add ((x17_2).toNat * 5)).off + 4, none⟩ = some (.int .i64 ((rd_T37 t1124 x17_2).f4)) ∧ w'.cell? (ad1132.add ((x17_2).toNat * 5)) = some (.int .i64 ((rd_T37 t1128 x17_2).f0)) ∧ w'.cell? ⟨(ad1132.add ((x17_2).toNat * 5)).block, (ad1132.add ((x17_2).toNat * 5)).off + 1, none⟩ = some (.int .i64 ((rd_T37 t1128 x17_2).f1)) ∧ w'.cell? ⟨(ad1132.add ((x17_2).toNat * 5)).block, (ad1132.add ((x17_2).toNat * 5)).off + 2, none⟩ = some (.int .i64 ((rd_T37 t1128 x17_2).f2)) ∧ w'.cell? ⟨(ad1132.add ((x17_2).toNat * 5)).block, (ad1132.add ((x17_2).toNat * 5)).off + 3, none⟩ = some (.int .i64 ((rd_T37 t1128 x17_2).f3)) ∧ w'.cell? ⟨(ad1132.add ((x17_2).toNat * 5)).block, (ad1132.add ((x17_2).toNat * 5)).off + 4, none⟩ = some (.int .i64 ((rd_T37 t1128 x17_2).f4))) (ds := []) (demurragelaw19_PlainParts.ups 11 0) (by kernel_rfl) rfl rfl ⟨hx1164_0, hx1164_1, hx1164_2, hx1164_3, hx1164_4, hx1165_0, hx1165_1, hx1165_2, hx1165_3, hx1165_4⟩ (fun hHeld => ?_); refine with_tabW demurragelaw19_PlainParts.tab23 demurragelaw19_PlainParts.bits23 (fun HT_ HW_ => ?_)
                           generalize wr.drew = w62 at HO_13 HO_15 BK903 HB hx1164_0 hx1164_1 hx1164_2 hx1164_3 hx1164_4 hx1165_0 hx1165_1 hx1165_2 hx1165_3 hx1165_4 hHeld ⊢
                           refine pure_ (i := 0) (N := some 126) (v := ?_) (a' := ?_) (demurragelaw19_PlainParts.ups 11 1) rfl rfl (any_of HT_.out (by kernel_rfl)) (fun _ _ _ h => h) (Or.inl ⟨by rfl, ?_⟩) ?_ ?_
                           rotate_left
                           ·intro w'
                            go_simp
                            with_reducible rfl
                           rotate_left
                           ·simp only [Act.put, sT_, sZ_, sS_, i64_w, i32_w]
                            rfl
                           refine pure_ (i := 1) (N := some 127) (v := ?_) (a' := ?_) (demurragelaw19_PlainParts.ups 11 3) rfl rfl (any_of HT_.out (by kernel_rfl)) (fun _ _ _ h => h) (Or.inl ⟨by rfl, ?_⟩) ?_ ?_
                           rotate_left
                           ·intro w'
                            go_simp
                            with_reducible rfl
                           rotate_left
                           ·simp only [Act.put, sT_, sZ_, sS_, i64_w, i32_w]
                            rfl
                           refine pure_ (i := 2) (N := some 128) (v := ?_) (a' := ?_) (demurragelaw19_PlainParts.ups 11 7) rfl rfl (any_of HT_.out (by kernel_rfl)) (fun _ _ _ h => h) (Or.inl ⟨by rfl, ?_⟩) ?_ ?_
                           rotate_left
                           ·intro w'
                            go_simp
                            with_reducible rfl
                           rotate_left
                           ·simp only [Act.put, sT_, sZ_, sS_, i64_w, i32_w]
                            rfl
                           refine pure_ (i := 3) (N := some 129) (v := ?_) (a' := ?_) (demurragelaw19_PlainParts.ups 11 15) rfl rfl (any_of HT_.out (by kernel_rfl)) (fun _ _ _ h => h) (Or.inl ⟨by rfl, ?_⟩) ?_ ?_
                           rotate_left
                           ·intro w'
                            go_simp
                            with_reducible rfl
                           rotate_left
                           ·simp only [Act.put, sT_, sZ_, sS_, i64_w, i32_w]
                            rfl
                           refine pure_ (i := 5) (N := some 131) (v := ?_) (a' := ?_) (demurragelaw19_PlainParts.ups 11 47) rfl rfl (any_of HT_.out (by kernel_rfl)) (fun _ _ _ h => h) (Or.inl ⟨by rfl, ?_⟩) ?_ ?_
                           rotate_left
                           ·intro w'
                            go_simp
                            with_reducible rfl
                           rotate_left
                           ·simp only [Act.put, sT_, sZ_, sS_, i64_w, i32_w]
                            rfl
                           refine pure_ (i := 6) (N := some 132) (v := ?_) (a' := ?_) (demurragelaw19_PlainParts.ups 11 111) rfl rfl (any_of HT_.out (by kernel_rfl)) (fun _ _ _ h => h) (Or.inl ⟨by rfl, ?_⟩) ?_ ?_
                           rotate_left
                           ·intro w'
                            go_simp
                            with_reducible rfl
                           rotate_left
                           ·simp only [Act.put, sT_, sZ_, sS_, i64_w, i32_w]
                            rfl
                           refine pure_ (i := 7) (N := some 133) (v := ?_) (a' := ?_) (demurragelaw19_PlainParts.ups 11 239) rfl rfl (any_of HT_.out (by kernel_rfl)) (fun _ _ _ h => h) (Or.inl ⟨by rfl, ?_⟩) ?_ ?_
                           rotate_left
                           ·intro w'
                            go_simp
                            with_reducible rfl
                           rotate_left
                           ·simp only [Act.put, sT_, sZ_, sS_, i64_w, i32_w]
                            rfl
                           refine pure_ (i := 8) (N := some 134) (v := ?_) (a' := ?_) (demurragelaw19_PlainParts.ups 11 495) rfl rfl (any_of HT_.out (by kernel_rfl)) (fun _ _ _ h => h) (Or.inl ⟨by rfl, ?_⟩) ?_ ?_
                           rotate_left
                           ·intro w'
                            go_simp
                            with_reducible rfl
                           rotate_left
                           ·simp only [Act.put, sT_, sZ_, sS_, i64_w, i32_w]
                            rfl
                           refine take_ (i := 4) (N := some 130) (v := ?_) (a' := ?_) (demurragelaw19_PlainParts.ups 11 511) rfl rfl (take_ofW HT_.out HW_.out (by kernel_rfl)) (fun _ _ _ h => h) (Or.inl ⟨by rfl, ?_⟩) hHeld ?_ ?_
                           rotate_left
                           ·rintro w' ⟨s0, s1, s2, s3, s4, s5, s6, s7, s8, s9⟩
                            go_simp
                            with_reducible rfl
                           rotate_left
                           ·simp only [Act.put, sT_, sZ_, sS_, i64_w, i32_w]
                            rfl
                           refine take_ (i := 9) (N := some 135) (v := ?_) (a' := ?_) (demurragelaw19_PlainParts.ups 11 1023) rfl rfl (take_ofW HT_.out HW_.out (by kernel_rfl)) (fun _ _ _ h => h) (Or.inl ⟨by rfl, ?_⟩) hHeld ?_ ?_
                           rotate_left
                           ·rintro w' ⟨s0, s1, s2, s3, s4, s5, s6, s7, s8, s9⟩
                            go_simp
                            with_reducible rfl
                           rotate_left
                           ·simp only [Act.put, sT_, sZ_, sS_, i64_w, i32_w]
                            rfl
                           refine pure_ (i := 10) (N := some 136) (v := ?_) (a' := ?_) (demurragelaw19_PlainParts.ups 11 2047) rfl rfl (any_of HT_.out (by kernel_rfl)) (fun _ _ _ h => h) (Or.inl ⟨by rfl, ?_⟩) ?_ ?_
                           rotate_left
                           ·intro w'
                            go_simp
                            with_reducible rfl
                           rotate_left
                           ·simp only [Act.put, sT_, sZ_, sS_, i64_w, i32_w]
                            rfl
                           refine done_ (done_of HT_.out (by kernel_rfl)) ?_
                           try go_wp2
                           go_roundg k2
                           case measure => have := HJ2.out; have := HK2.out; omega
                           case rel => exact ⟨(wrap64 (x17_2 + 1)), (by first | rfl | (simp; done) | (simp [*]; done)), H', ⟨by have := HJ2.out; have := HK2.out; omega⟩, ⟨by (with_reducible repeat (first | apply Kd.R_alloc | apply Kd.R_drewN | apply Kd.R_drew)); exact HO_13.out⟩, ⟨by (with_reducible repeat (first | apply Kd.R_alloc | apply Kd.R_drewN | apply Kd.R_drew)); exact HO_15.out⟩, ⟨by exact BK903.out⟩, ⟨by repeat (first | (with_reducible first | exact HB.out | apply bA_ | apply bN_ | apply bD_ | refine bS_ ?_ GE903.out) | exact HB.out)⟩⟩
                          ·rw [if_neg c61] at H
                           exact absurd H (by simp)
                         ·rw [if_neg c60] at H
                          exact absurd H (by simp)
                        ·rw [if_neg c59] at H
                         exact absurd H (by simp)
                       ·rw [if_neg c58] at H
                        exact absurd H (by simp)
                     ·rw [if_neg c49] at H
                      have c49b0 : decide (x17_2 < (l0_2.length : Int)) = false := decide_eq_false c49
                      clear c49
                      obtain rfl := Option.some.inj H
                      go_wp2
                      go_ret
                      exact ⟨by first | rfl | (simp [errW_none, errW_some] <;> rfl) | (simp only [← hji13]; first | rfl | (simp [errW_none, errW_some] <;> rfl)) | (simp [*, errW_none, errW_some] <;> rfl), by repeat (first | (with_reducible first | exact HB.out | apply bA_ | apply bN_ | apply bD_ | refine bS_ ?_ GE903.out) | exact HB.out)⟩
                  ·rw [if_neg c31] at H
                   exact absurd H (by simp)
                 ·rw [if_neg c30] at H
                  exact absurd H (by simp)
                ·rw [if_neg c29] at H
                 exact absurd H (by simp)
               ·rw [if_neg c28] at H
                exact absurd H (by simp)
              ·rw [if_neg c27] at H
               exact absurd H (by simp)
             ·rw [if_neg c26] at H
              exact absurd H (by simp)
            ·rw [if_neg c25] at H
             exact absurd H (by simp)
           ·rw [if_neg c24] at H
            exact absurd H (by simp)
          ·rw [if_neg c23] at H
           exact absurd H (by simp)
         ·rw [if_neg c20] at H
          exact absurd H (by simp)
        ·rw [if_neg c17] at H
         exact absurd H (by simp)
       ·rw [if_neg c16] at H
        exact absurd H (by simp)
      ·rw [if_neg c15] at H
       exact absurd H (by simp)
     ·rw [if_neg c14] at H
      exact absurd H (by simp)

end Go.Proofs.Ytlppmfffdjfekaa.X
