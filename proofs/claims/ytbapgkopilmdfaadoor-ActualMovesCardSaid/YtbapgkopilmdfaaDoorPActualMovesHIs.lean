-- cut by prune.py, a program of this session
import Derived.Test.YtbapgkopilmdfaaDoorPActualMovesHCiv
import Derived.Test.YtbapgkopilmdfaaDoorChecked
import Derived.LoopN
import Derived.LaidEql
import Derived.Stop.Asserts
import Derived.RowKitTokens
namespace Go.Proofs.YtbapgkopilmdfaaDoor.X
open Go.RowKit Go.Extern.Stop Go.Stop Go.Extern Go.Proofs.YtbapgkopilmdfaaDoorW.PrintWords Go.Proofs.YtbapgkopilmdfaaDoorW.PrintLast Go.Proofs.YtbapgkopilmdfaaDoorW.PrintMore
set_option linter.unusedVariables false
set_option linter.unusedSimpArgs false

theorem isTypeOf (v : Value) (w : World) : (callFunc 69 #[.iface 122 v]).run Tryd.prog w = .ok (.value (.iface 111 (.agg #[.pointer (some ⟨5, 122, none⟩)]))) w := by
 rw [@run_callFunc_extern Tryd.prog 69 _ Extern.ReflectliteType.typeOf Tryd.func69 (by kernel_rfl) (by kernel_rfl) (by kernel_rfl) (by kernel_rfl)]
 rw [show (Extern.ReflectliteType.typeOf #[.iface 122 v]).run Tryd.prog w = .ok (.iface 111 (.agg #[.pointer (some ⟨5, 122, none⟩)])) w by kernel_rfl]
 rfl
theorem isComparable (w : World) : (callFunc 96 #[.agg #[.pointer (some ⟨5, 122, none⟩)]]).run Tryd.prog w = .ok (.value (.bool true)) w := by
 rw [@run_callFunc_extern Tryd.prog 96 _ (Extern.ReflectliteType.method fun t => do Extern.Rtype.noPackHeld "Comparable" t; pure (.bool (← typeInfo t).comparable)) Tryd.func96 (by kernel_rfl) (by kernel_rfl) (by kernel_rfl) (by kernel_rfl)]
 rw [show ((Extern.ReflectliteType.method fun t => do Extern.Rtype.noPackHeld "Comparable" t; pure (.bool (← typeInfo t).comparable)) #[.agg #[.pointer (some ⟨5, 122, none⟩)]]).run Tryd.prog w = .ok (.bool true) w by kernel_rfl]
 rfl
theorem isMethodComparable (v : Value) (w : World) : (Go.method 259 111 v "Comparable").run Tryd.prog w = .ok (96, v) w := by kernel_rfl
theorem isComp : (Tryd.prog.info? 122).map (·.comparable) = some true := by kernel_rfl
theorem isSize : (Tryd.prog.info? 148).map (·.size) = some 1 := by kernel_rfl
theorem noIsE (v : Value) (xT : TypeId) (w : World) : (Instr.typeAssert (.iface 122 v) xT 113 true).run Tryd.prog w = .ok (.tuple #[.nilIface, .bool false]) w := run_typeAssert_lacksB Tryd.underlying113 (by kernel_rfl) (by kernel_rfl) v xT w
theorem noUnwrapE (v : Value) (xT : TypeId) (w : World) : (Instr.typeAssert (.iface 122 v) xT 116 true).run Tryd.prog w = .ok (.tuple #[.nilIface, .bool false]) w := run_typeAssert_lacksB Tryd.underlying116 (by kernel_rfl) (by kernel_rfl) v xT w
theorem noUnwrapsE (v : Value) (xT : TypeId) (w : World) : (Instr.typeAssert (.iface 122 v) xT 118 true).run Tryd.prog w = .ok (.tuple #[.nilIface, .bool false]) w := run_typeAssert_lacksB Tryd.underlying118 (by kernel_rfl) (by kernel_rfl) v xT w
theorem noIsW (v : Value) (xT : TypeId) (w : World) : (Instr.typeAssert (.iface 91 v) xT 113 true).run Tryd.prog w = .ok (.tuple #[.nilIface, .bool false]) w := run_typeAssert_lacksB Tryd.underlying113 (by kernel_rfl) (by kernel_rfl) v xT w
theorem hasUnwrapW (v : Value) (xT : TypeId) (w : World) : (Instr.typeAssert (.iface 91 v) xT 116 true).run Tryd.prog w = .ok (.tuple #[.iface 91 v, .bool true]) w := run_typeAssert_hasB Tryd.underlying116 (by kernel_rfl) v xT w
theorem methodUnwrap (v : Value) (w : World) : (Go.method 259 91 v "Unwrap").run Tryd.prog w = .ok (92, v) w := by kernel_rfl

def pairv (a b : Int) (s : Addr) : Value := .iface 91 (.agg #[.int .i64 a, .int .i64 b, .iface 122 (.pointer (some s))])
set_option maxHeartbeats 8000000 in
set_option maxRecDepth 100000 in
theorem unwrap_calls (a b : Int) (s : Addr) (w : World) : Calls Tryd.prog 92 #[.agg #[.int .i64 a, .int .i64 b, .iface 122 (.pointer (some s))]] w fun e w' => e = .returned (.iface 122 (.pointer (some s))) ∧ Below w.heap.size w w' := by
 have HB := aA_ (Below.refl w.heap.size w)
 have huP := Tryd.underlying91
 go_enter Tryd.func92, Tryd.ntmps92
 go_wp2
 go_ret
 exact ⟨rfl, below_alloc HB.out _⟩

set_option maxHeartbeats 8000000 in
set_option maxRecDepth 100000 in
theorem is_nil (b : Addr) (w : World) :
  Calls Tryd.prog 59 #[.nilIface, .iface 122 (.pointer (some b))] w fun e w' => e = .returned (.bool false) ∧ Below w.heap.size w w' := by
 have HB := aA_ (Below.refl w.heap.size w)
 have hn := run_eql_iface_nil_left (P := Tryd.prog) w 122 (.pointer (some b)) Tryd.underlying66
 go_enter Tryd.func59, Tryd.ntmps59
 go_wp2
 go_ret
 exact ⟨rfl, HB.out⟩

set_option maxHeartbeats 8000000 in
set_option maxRecDepth 100000 in
theorem is_pair_same (x y : Int) (b : Addr) (w : World) :
  Calls Tryd.prog 59 #[pairv x y b, .iface 122 (.pointer (some b))] w fun e w' => e = .returned (.bool true) ∧ Below w.heap.size w w' := by
 have HB := aA_ (Below.refl w.heap.size w)
 obtain ⟨i, hi, hcmp⟩ := Option.map_eq_some_iff.1 isComp
 obtain ⟨j, hj, hjs⟩ := Option.map_eq_some_iff.1 isSize
 have tT := isTypeOf
 have cT := isComparable
 have mR := isMethodComparable
 have nW := noIsW
 have uW := hasUnwrapW
 have mU := methodUnwrap
 have hE : ∀ (args : Array Value) (w : World), (callFunc 92 args).run Tryd.prog w = .ok (.enter 92 args) w := fun args w => enters_ Tryd.func92 (by kernel_rfl) rfl args w
 have heq := fun w => run_eql_iface_ptr_same (P := Tryd.prog) w b Tryd.underlying66 Tryd.underlying122 hi hcmp hj
 have hty := run_eql_iface_types (P := Tryd.prog) 91 122 (.agg #[.int .i64 x, .int .i64 y, .iface 122 (.pointer (some b))]) (.pointer (some b)) Tryd.underlying66 (by decide) w
 unfold pairv
 go_enter Tryd.func59, Tryd.ntmps59
 go_wp2
 refine wp_loop_rounds 2 ?_
 rw [rounds_succ]
 go_upto_region 12 with (fail)
 refine (unwrap_calls x y b _).mono ?_
 rintro e wB ⟨rfl, hb⟩
 dsimp only
 replace HB := bB_ HB.out hb
 clear hb hE mU hty
 go_wp2
 rw [rounds_succ]
 go_wp2
 go_ret
 exact ⟨rfl, HB.out⟩

set_option maxHeartbeats 8000000 in
set_option maxRecDepth 100000 in
theorem is_pair_other (x y : Int) (a b : Addr) (ca cb : Array Value) (ta tb : TypeId) (w : World) (hne : a ≠ b) (ha : w.heap[a.block]? = some (.cells ca ta (0, 0))) (hb : w.heap[b.block]? = some (.cells cb tb (0, 0))) :
  Calls Tryd.prog 59 #[pairv x y a, .iface 122 (.pointer (some b))] w fun e w' => e = .returned (.bool false) ∧ Below w.heap.size w w' := by
 have HB := aA_ (Below.refl w.heap.size w)
 have HX := aA_ ha
 have HY := aA_ hb
 have HN := aA_ hne
 clear ha hb hne
 obtain ⟨i, hi, hcmp⟩ := Option.map_eq_some_iff.1 isComp
 obtain ⟨j, hj, hjs⟩ := Option.map_eq_some_iff.1 isSize
 have tT := isTypeOf
 have cT := isComparable
 have mR := isMethodComparable
 have nW := noIsW
 have uW := hasUnwrapW
 have mU := methodUnwrap
 have hE : ∀ (args : Array Value) (w : World), (callFunc 92 args).run Tryd.prog w = .ok (.enter 92 args) w := fun args w => enters_ Tryd.func92 (by kernel_rfl) rfl args w
 have hty := run_eql_iface_types (P := Tryd.prog) 91 122 (.agg #[.int .i64 x, .int .i64 y, .iface 122 (.pointer (some a))]) (.pointer (some b)) Tryd.underlying66 (by decide) w
 unfold pairv
 go_enter Tryd.func59, Tryd.ntmps59
 go_wp2
 refine wp_loop_rounds 2 ?_
 rw [rounds_succ]
 go_upto_region 12 with (fail)
 refine (unwrap_calls x y a _).mono ?_
 rintro e wB ⟨rfl, hb⟩
 dsimp only
 have heq := run_eql_iface_ptr_other (P := Tryd.prog) wB Tryd.underlying66 Tryd.underlying122 hi hcmp hj (by rw [hjs]; decide) HN.out (blk_below HX.out hb) (blk_below HY.out hb)
 replace HB := bB_ HB.out hb
 clear hb hE mU hty nW uW
 have nE := noIsE
 have uE := noUnwrapE
 have vE := noUnwrapsE
 go_wp2
 rw [rounds_succ]
 go_wp2
 go_ret
 exact ⟨rfl, HB.out⟩
end Go.Proofs.YtbapgkopilmdfaaDoor.X
