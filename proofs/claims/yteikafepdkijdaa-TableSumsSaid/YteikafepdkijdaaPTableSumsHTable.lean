-- cut by prune.py, a program of this session
import Derived.Test.YteikafepdkijdaaPTableSumsHLevel
namespace Go.Proofs.Yteikafepdkijdaa.X
open Go.RowKit Go.Proofs.YteikafepdkijdaaW.PrintWords Go.Proofs.YteikafepdkijdaaW.PrintLast Go.Proofs.YteikafepdkijdaaW.PrintMore
set_option linter.unusedVariables false
set_option linter.unusedSimpArgs false

def table_Of.f (k : Nat) (a0 a1 a2 : Int) (l3 : List S56) : Option (List S48 × Int) := if a0 = 0 then plain_Bullet.f k a1 a2 l3 else if a0 = 1 then plain_Equal.f k a1 a2 l3 else if a0 = 2 then level_Table.f k a1 a2 l3 else some ([], 1)
theorem table_Of.mono : ∀ a0 a1 a2 l3 k, LeO (table_Of.f k a0 a1 a2 l3) (table_Of.f (k + 1) a0 a1 a2 l3) := fun a0 a1 a2 l3 k => LeO.ite (plain_Bullet.mono _ _ _ _) (LeO.ite (plain_Equal.mono _ _ _ _) (LeO.ite (level_Table.mono _ _ _ _) (LeO.refl _)))

def kindv (a0 : Int) : Value := if a0 = 0 then .iface 89 (.agg #[]) else if a0 = 1 then .iface 90 (.agg #[]) else if a0 = 2 then .iface 91 (.agg #[]) else .nilIface
theorem kindv0 : kindv 0 = .iface 89 (.agg #[]) := rfl
theorem kindv1 : kindv 1 = .iface 90 (.agg #[]) := rfl
theorem kindv2 : kindv 2 = .iface 91 (.agg #[]) := rfl
theorem kindvN {a0 : Int} (n0 : a0 ≠ 0) (n1 : a0 ≠ 1) (n2 : a0 ≠ 2) : kindv a0 = .nilIface := by unfold kindv; rw [if_neg n0, if_neg n1, if_neg n2]
set_option maxHeartbeats 8000000 in
set_option maxRecDepth 100000 in
theorem number0_calls (w : World) : Calls Try.prog 112 #[.agg #[]] w fun e w' => e = .returned (.int .i64 0) ∧ Below w.heap.size w w' := by
 have HB := aA_ (Below.refl w.heap.size w)
 go_enter Try.func112, Try.ntmps112
 go_wp2
 go_ret
 exact ⟨rfl, below_alloc HB.out _⟩
set_option maxHeartbeats 8000000 in
set_option maxRecDepth 100000 in
theorem number1_calls (w : World) : Calls Try.prog 113 #[.agg #[]] w fun e w' => e = .returned (.int .i64 1) ∧ Below w.heap.size w w' := by
 have HB := aA_ (Below.refl w.heap.size w)
 go_enter Try.func113, Try.ntmps113
 go_wp2
 go_ret
 exact ⟨rfl, below_alloc HB.out _⟩
set_option maxHeartbeats 8000000 in
set_option maxRecDepth 100000 in
theorem number2_calls (w : World) : Calls Try.prog 114 #[.agg #[]] w fun e w' => e = .returned (.int .i64 2) ∧ Below w.heap.size w w' := by
 have HB := aA_ (Below.refl w.heap.size w)
 go_enter Try.func114, Try.ntmps114
 go_wp2
 go_ret
 exact ⟨rfl, below_alloc HB.out _⟩
set_option maxHeartbeats 8000000 in
set_option maxRecDepth 100000 in
theorem of_calls (a0 : Int) (w : World) : Calls Try.prog 42 #[.int .i64 a0] w fun e w' => e = .returned (kindv a0) ∧ Below w.heap.size w w' := by
 have HB := aA_ (Below.refl w.heap.size w)
 go_enter Try.func42, Try.ntmps42
 go_wp2
 have Bs := aA_ (blk_new w (.cells #[.iface 89 (.agg #[]), .iface 90 (.agg #[]), .iface 91 (.agg #[])] 86))
 replace HB := aA_ (below_alloc (Below.refl w.heap.size w) (.cells #[.iface 89 (.agg #[]), .iface 90 (.agg #[]), .iface 91 (.agg #[])] 86))
 generalize w.alloc (.cells #[.iface 89 (.agg #[]), .iface 90 (.agg #[]), .iface 91 (.agg #[])] 86) = w1 at Bs HB ⊢
 obtain ⟨gs, hgs⟩ : ∃ g, w.heap.size = g := ⟨_, rfl⟩
 replace Bs : Aside0 (w1.heap[gs]? = some (.cells #[.iface 89 (.agg #[]), .iface 90 (.agg #[]), .iface 91 (.agg #[])] 86 (0, 0))) := by rw [← hgs]; exact Bs
 rw [hgs]
 have HG := aA_ hgs
 clear hgs
 go_loopg [13] 4 (fun kq v13 w' => ∃ (i : Nat), v13 = .int .i64 (i : Int) ∧ (kq + i = 4 ∧ i < 4) ∧ (0 < i → a0 ≠ 0) ∧ (1 < i → a0 ≠ 1) ∧ (2 < i → a0 ≠ 2) ∧ Aside0 (w'.heap[gs]? = some (.cells #[.iface 89 (.agg #[]), .iface 90 (.agg #[]), .iface 91 (.agg #[])] 86 (0, 0))) ∧ Aside0 (Below w.heap.size w w'))
 case atStart => exact ⟨0, rfl, ⟨rfl, by omega⟩, fun h => absurd h (by omega), fun h => absurd h (by omega), fun h => absurd h (by omega), Bs, HB⟩
 case round =>
  clear Bs HB
  obtain ⟨i, rfl, hk, HN0, HN1, HN2, Bs, HB⟩ := hrel
  match i, hk with
  | 0, hk =>
   obtain rfl : gk = 4 := by omega
   have hx := ((blk_cell Bs.out 0).trans rfl : wr.cell? ⟨gs, 0, none⟩ = some (.iface 89 (.agg #[])))
   have hm : ∀ w, (method 273 89 (.agg #[]) "demurrage/table.number").run Try.prog w = .ok (112, .agg #[]) w := fun w => rfl
   have hE : ∀ (args : Array Value) (w : World), (callFunc 112 args).run Try.prog w = .ok (.enter 112 args) w := fun args w => enters_ Try.func112 (by kernel_rfl) rfl args w
   go_upto_region 5 with (fail)
   refine (number0_calls _).mono ?_
   rintro e wB ⟨rfl, hb⟩
   dsimp only
   replace Bs := bK_ Bs hb
   replace HB := bB_ HB.out hb
   clear hb hx hm hE
   by_cases c : a0 = 0
   ·subst c
    go_wp2
    go_ret
    exact ⟨rfl, HB.out⟩
   ·have cb : (((0 : Int)) == a0) = false := beq_eq_false_iff_ne.mpr (fun h => c h.symm)
    have NE := aA_ c
    clear c
    go_wp2
    go_roundg 3
    case measure => omega
    case rel => exact ⟨1, rfl, ⟨rfl, by omega⟩, fun h => NE.out, fun h => absurd h (by omega), fun h => absurd h (by omega), Bs, HB⟩
  | 1, hk =>
   obtain rfl : gk = 3 := by omega
   have hx := ((blk_cell Bs.out 1).trans rfl : wr.cell? ⟨gs, 1, none⟩ = some (.iface 90 (.agg #[])))
   have hm : ∀ w, (method 273 90 (.agg #[]) "demurrage/table.number").run Try.prog w = .ok (113, .agg #[]) w := fun w => rfl
   have hE : ∀ (args : Array Value) (w : World), (callFunc 113 args).run Try.prog w = .ok (.enter 113 args) w := fun args w => enters_ Try.func113 (by kernel_rfl) rfl args w
   go_upto_region 5 with (fail)
   refine (number1_calls _).mono ?_
   rintro e wB ⟨rfl, hb⟩
   dsimp only
   replace Bs := bK_ Bs hb
   replace HB := bB_ HB.out hb
   clear hb hx hm hE
   by_cases c : a0 = 1
   ·subst c
    go_wp2
    go_ret
    exact ⟨rfl, HB.out⟩
   ·have cb : (((1 : Int)) == a0) = false := beq_eq_false_iff_ne.mpr (fun h => c h.symm)
    have NE := aA_ c
    clear c
    go_wp2
    go_roundg 2
    case measure => omega
    case rel => exact ⟨2, rfl, ⟨rfl, by omega⟩, fun h => HN0 (by omega), fun h => NE.out, fun h => absurd h (by omega), Bs, HB⟩
  | 2, hk =>
   obtain rfl : gk = 2 := by omega
   have hx := ((blk_cell Bs.out 2).trans rfl : wr.cell? ⟨gs, 2, none⟩ = some (.iface 91 (.agg #[])))
   have hm : ∀ w, (method 273 91 (.agg #[]) "demurrage/table.number").run Try.prog w = .ok (114, .agg #[]) w := fun w => rfl
   have hE : ∀ (args : Array Value) (w : World), (callFunc 114 args).run Try.prog w = .ok (.enter 114 args) w := fun args w => enters_ Try.func114 (by kernel_rfl) rfl args w
   go_upto_region 5 with (fail)
   refine (number2_calls _).mono ?_
   rintro e wB ⟨rfl, hb⟩
   dsimp only
   replace Bs := bK_ Bs hb
   replace HB := bB_ HB.out hb
   clear hb hx hm hE
   by_cases c : a0 = 2
   ·subst c
    go_wp2
    go_ret
    exact ⟨rfl, HB.out⟩
   ·have cb : (((2 : Int)) == a0) = false := beq_eq_false_iff_ne.mpr (fun h => c h.symm)
    have NE := aA_ c
    clear c
    go_wp2
    go_roundg 1
    case measure => omega
    case rel => exact ⟨3, rfl, ⟨rfl, by omega⟩, fun h => HN0 (by omega), fun h => HN1 (by omega), fun h => NE.out, Bs, HB⟩
  | 3, hk =>
   have n0 := HN0 (by omega)
   have n1 := HN1 (by omega)
   have n2 := HN2 (by omega)
   have HE := aA_ (kindvN n0 n1 n2)
   clear n0 n1 n2 HN0 HN1 HN2 hk
   go_wp2
   go_ret
   exact ⟨by rw [HE.out]; rfl, HB.out⟩
  | i + 4, hk => exact absurd hk (by omega)

set_option maxRecDepth 100000 in
theorem ta00 : ∀ w, (Instr.typeAssert (.iface 89 (.agg #[])) 86 89 true).run Try.prog w = .ok (.tuple #[.agg #[], .bool true]) w := fun _ => rfl
set_option maxRecDepth 100000 in
theorem ta01 : ∀ w, (Instr.typeAssert (.iface 89 (.agg #[])) 86 90 true).run Try.prog w = .ok (.tuple #[.agg #[], .bool false]) w := fun _ => rfl
set_option maxRecDepth 100000 in
theorem ta02 : ∀ w, (Instr.typeAssert (.iface 89 (.agg #[])) 86 91 true).run Try.prog w = .ok (.tuple #[.agg #[], .bool false]) w := fun _ => rfl
set_option maxRecDepth 100000 in
theorem ta10 : ∀ w, (Instr.typeAssert (.iface 90 (.agg #[])) 86 89 true).run Try.prog w = .ok (.tuple #[.agg #[], .bool false]) w := fun _ => rfl
set_option maxRecDepth 100000 in
theorem ta11 : ∀ w, (Instr.typeAssert (.iface 90 (.agg #[])) 86 90 true).run Try.prog w = .ok (.tuple #[.agg #[], .bool true]) w := fun _ => rfl
set_option maxRecDepth 100000 in
theorem ta12 : ∀ w, (Instr.typeAssert (.iface 90 (.agg #[])) 86 91 true).run Try.prog w = .ok (.tuple #[.agg #[], .bool false]) w := fun _ => rfl
set_option maxRecDepth 100000 in
theorem ta20 : ∀ w, (Instr.typeAssert (.iface 91 (.agg #[])) 86 89 true).run Try.prog w = .ok (.tuple #[.agg #[], .bool false]) w := fun _ => rfl
set_option maxRecDepth 100000 in
theorem ta21 : ∀ w, (Instr.typeAssert (.iface 91 (.agg #[])) 86 90 true).run Try.prog w = .ok (.tuple #[.agg #[], .bool false]) w := fun _ => rfl
set_option maxRecDepth 100000 in
theorem ta22 : ∀ w, (Instr.typeAssert (.iface 91 (.agg #[])) 86 91 true).run Try.prog w = .ok (.tuple #[.agg #[], .bool true]) w := fun _ => rfl
set_option maxRecDepth 100000 in
theorem ta30 : ∀ w, (Instr.typeAssert (.nilIface) 86 89 true).run Try.prog w = .ok (.tuple #[.agg #[], .bool false]) w := fun _ => rfl
set_option maxRecDepth 100000 in
theorem ta31 : ∀ w, (Instr.typeAssert (.nilIface) 86 90 true).run Try.prog w = .ok (.tuple #[.agg #[], .bool false]) w := fun _ => rfl
set_option maxRecDepth 100000 in
theorem ta32 : ∀ w, (Instr.typeAssert (.nilIface) 86 91 true).run Try.prog w = .ok (.tuple #[.agg #[], .bool false]) w := fun _ => rfl
theorem of_calls2 (a0 : Int) (v : Value) (w : World) (h : kindv a0 = v) : Calls Try.prog 42 #[.int .i64 a0] w fun e w' => e = .returned v ∧ Below w.heap.size w w' := h ▸ of_calls a0 w

set_option maxHeartbeats 8000000 in
set_option maxRecDepth 100000 in
theorem table_Of.calls (k : Nat) (a0 : Int) (a1 : Int) (a2 : Int) (A3 : Option Addr) (c3 : Nat) (l3 : List (S56)) (r1 : List S48) (r2 : Int) (w : World) (hr3 : Kd.C k56 w A3 l3.length l3) (hc3 : l3.length ≤ c3) (h : table_Of.f k a0 a1 a2 l3 = some (r1, r2)) :
  Calls Try.prog 28 #[.int .i64 a0, .int .i64 a1, .int .i64 a2, .slice A3 l3.length c3] w fun e w' => ∃ v0_ : Value, e = .returned (.tuple #[v0_, .int .i64 r2]) ∧ Kd.R k48 48 w' w.heap.size (fun _ => True) v0_ r1 ∧ Below w.heap.size w w' := by
 have HR3 := aA_ hr3
 have HC3 := aA_ hc3
 have HB := aA_ (Below.refl w.heap.size w)
 clear hr3 hc3
 unfold table_Of.f at h
 by_cases n0 : a0 = 0
 ·rw [if_pos n0] at h
  have A := aA_ h
  have HK := aA_ ((congrArg kindv n0).trans kindv0)
  clear h n0
  have tf0 := ta00; have tf1 := ta01; have tf2 := ta02
  go_enter Try.func28, Try.ntmps28
  go_wp2_with (first | (refine goesL_ (some 11) rfl rfl Try.func42 (by kernel_rfl) rfl #[.int .i64 a0] rfl (by (try simp only [mT_, mC_, mN_]); first | done | rfl) ?_; (with_reducible refine (of_calls2 a0 _ _ HK.out).mono ?_); rintro e wc ⟨rfl, hb⟩; refine ⟨_, rfl, ?_⟩; replace HB := bB_ HB.out hb; clear hb) | (refine goesL_ (some 18) rfl rfl Try.func33 (by kernel_rfl) rfl #[.int .i64 a1, .int .i64 a2, .slice A3 l3.length c3] rfl (by (try simp only [mT_, mC_, mN_]); first | done | rfl) ?_; (with_reducible refine (plain_Bullet.calls k a1 a2 A3 c3 l3 r1 r2 _ (Kd.C_below HR3.out HB.out) HC3.out A.out).mono ?_); rintro e wd ⟨v, rfl, hv, hb⟩; refine ⟨_, rfl, ?_⟩; have HV := aA_ (Kd.R_lower hv (below_size HB.out)); replace HB := bB_ HB.out hb; clear hv hb))
  go_ret2
  exact ⟨_, rfl, HV.out, HB.out⟩
 rw [if_neg n0] at h
 by_cases n1 : a0 = 1
 ·rw [if_pos n1] at h
  have A := aA_ h
  have HK := aA_ ((congrArg kindv n1).trans kindv1)
  clear h n1
  have tf0 := ta10; have tf1 := ta11; have tf2 := ta12
  go_enter Try.func28, Try.ntmps28
  go_wp2_with (first | (refine goesL_ (some 11) rfl rfl Try.func42 (by kernel_rfl) rfl #[.int .i64 a0] rfl (by (try simp only [mT_, mC_, mN_]); first | done | rfl) ?_; (with_reducible refine (of_calls2 a0 _ _ HK.out).mono ?_); rintro e wc ⟨rfl, hb⟩; refine ⟨_, rfl, ?_⟩; replace HB := bB_ HB.out hb; clear hb) | (refine goesL_ (some 27) rfl rfl Try.func34 (by kernel_rfl) rfl #[.int .i64 a1, .int .i64 a2, .slice A3 l3.length c3] rfl (by (try simp only [mT_, mC_, mN_]); first | done | rfl) ?_; (with_reducible refine (plain_Equal.calls k a1 a2 A3 c3 l3 r1 r2 _ (Kd.C_below HR3.out HB.out) HC3.out A.out).mono ?_); rintro e wd ⟨v, rfl, hv, hb⟩; refine ⟨_, rfl, ?_⟩; have HV := aA_ (Kd.R_lower hv (below_size HB.out)); replace HB := bB_ HB.out hb; clear hv hb))
  go_ret2
  exact ⟨_, rfl, HV.out, HB.out⟩
 rw [if_neg n1] at h
 by_cases n2 : a0 = 2
 ·rw [if_pos n2] at h
  have A := aA_ h
  have HK := aA_ ((congrArg kindv n2).trans kindv2)
  clear h n2
  have tf0 := ta20; have tf1 := ta21; have tf2 := ta22
  go_enter Try.func28, Try.ntmps28
  go_wp2_with (first | (refine goesL_ (some 11) rfl rfl Try.func42 (by kernel_rfl) rfl #[.int .i64 a0] rfl (by (try simp only [mT_, mC_, mN_]); first | done | rfl) ?_; (with_reducible refine (of_calls2 a0 _ _ HK.out).mono ?_); rintro e wc ⟨rfl, hb⟩; refine ⟨_, rfl, ?_⟩; replace HB := bB_ HB.out hb; clear hb) | (refine goesL_ (some 36) rfl rfl Try.func19 (by kernel_rfl) rfl #[.int .i64 a1, .int .i64 a2, .slice A3 l3.length c3] rfl (by (try simp only [mT_, mC_, mN_]); first | done | rfl) ?_; (with_reducible refine (level_Table.calls k a1 a2 A3 c3 l3 r1 r2 _ (Kd.C_below HR3.out HB.out) HC3.out A.out).mono ?_); rintro e wd ⟨v, rfl, hv, hb⟩; refine ⟨_, rfl, ?_⟩; have HV := aA_ (Kd.R_lower hv (below_size HB.out)); replace HB := bB_ HB.out hb; clear hv hb))
  go_ret2
  exact ⟨_, rfl, HV.out, HB.out⟩
 rw [if_neg n2] at h
 have HK := aA_ (kindvN n0 n1 n2)
 simp only [Option.some.injEq, Prod.mk.injEq] at h
 obtain ⟨rfl, rfl⟩ := h
 clear n0 n1 n2
 have tf0 := ta30; have tf1 := ta31; have tf2 := ta32
 go_enter Try.func28, Try.ntmps28
 go_wp2_with (first | (refine goesL_ (some 11) rfl rfl Try.func42 (by kernel_rfl) rfl #[.int .i64 a0] rfl (by (try simp only [mT_, mC_, mN_]); first | done | rfl) ?_; (with_reducible refine (of_calls2 a0 _ _ HK.out).mono ?_); rintro e wc ⟨rfl, hb⟩; refine ⟨_, rfl, ?_⟩; replace HB := bB_ HB.out hb; clear hb))
 go_ret2
 exact ⟨_, rfl, Kd.R_nil _ _ _ _ _, HB.out⟩
end Go.Proofs.Yteikafepdkijdaa.X
