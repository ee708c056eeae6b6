-- cut by prune.py, a program of this session
import Derived.Shelf.Small.Bits
import Derived.Shelf.Strconv.Itoa0
import Derived.Shelf.Bits.Mul64
import Derived.Test.YteikafepdkijdaaPTableSumsX0
namespace Go.Proofs
open Go.Shelf
def Try.lays134_ren : Go.Shelf.Ren := ⟨fun | 134 => 93 | 129 => 95 | n => n, fun | 53 => 38 | 3 => 3 | 4 => 4 | 46 => 145 | 5 => 5 | 9 => 9 | n => n, fun | n => n⟩
theorem Try.lays134 : Go.Proofs.Lays.n134 Try.prog Try.lays134_ren := {
 mixed := by kernel_rfl
 f129 := Try.func95.trans (congrArg some (by kernel_rfl))
 f134 := Try.func93.trans (congrArg some (by kernel_rfl))
 t3 := Try.underlying3
 a3 := Try.isAgg3
 z3 := Try.sizeOf3
 v3 := Try.zeroValue3
 t4 := Try.underlying4
 a4 := Try.isAgg4
 z4 := Try.sizeOf4
 v4 := Try.zeroValue4
 t5 := Try.underlying5
 a5 := Try.isAgg5
 z5 := Try.sizeOf5
 v5 := Try.zeroValue5
 t9 := Try.underlying9
 a9 := Try.isAgg9
 z9 := Try.sizeOf9
 v9 := Try.zeroValue9
 t46 := Try.underlying145
 a46 := Try.isAgg145
 z46 := Try.sizeOf145
 v46 := Try.zeroValue145
 t53 := Try.underlying38
 a53 := Try.isAgg38
 z53 := Try.sizeOf38
 v53 := Try.zeroValue38 }
theorem Try.bits_LeadingZeros64 (x : Int) (w : World) (h0 : 0 ≤ x) (h1 : x ≤ 18446744073709551615) :
  Calls Try.prog 93 #[.int .u64 x] w fun e w' => e = .returned (.int .i64 (64 - (Lib.bitLen x.toNat : Int))) ∧ w' = w := Any.bits_LeadingZeros64 Try.lays134 x w h0 h1
def Try.lays264_ren : Go.Shelf.Ren := ⟨fun | 264 => 81 | n => n, fun | 53 => 38 | 46 => 145 | n => n, fun | n => n⟩
theorem Try.lays264 : Go.Proofs.Lays.n264 Try.prog Try.lays264_ren := {
 mixed := by kernel_rfl
 f264 := Try.func81.trans (congrArg some (by kernel_rfl))
 t46 := Try.underlying145
 a46 := Try.isAgg145
 z46 := Try.sizeOf145
 v46 := Try.zeroValue145
 t53 := Try.underlying38
 a53 := Try.isAgg38
 z53 := Try.sizeOf38
 v53 := Try.zeroValue38 }
end Go.Proofs
namespace Go.Proofs.Yteikafepdkijdaa.X
open Go.RowKit Go.Proofs.YteikafepdkijdaaW.PrintWords Go.Proofs.YteikafepdkijdaaW.PrintLast Go.Proofs.YteikafepdkijdaaW.PrintMore

def U64 (a : Int) : Prop := 0 ≤ a ∧ a < 18446744073709551616
instance (a : Int) : Decidable (U64 a) := inferInstanceAs (Decidable (0 ≤ a ∧ a < 18446744073709551616))
def bits_Mul64.f (a0 a1 : Int) : Option (Int × Int) := if U64 a0 ∧ U64 a1 then some (a0 * a1 / 18446744073709551616, a0 * a1 % 18446744073709551616) else none
theorem bits_Mul64.calls (a0 : Int) (a1 : Int) (r1 : Int) (r2 : Int) (w : World) (h : bits_Mul64.f a0 a1 = some (r1, r2)) :
  Calls Try.prog 81 #[.int .u64 a0, .int .u64 a1] w fun e w' => e = .returned (.tuple #[.int .u64 r1, .int .u64 r2]) ∧ Drawn0 w w' := by
 unfold bits_Mul64.f at h
 split at h
 ·rename_i hu
  obtain ⟨⟨h0, h1⟩, h2, h3⟩ := hu
  obtain ⟨a, rfl⟩ := Int.eq_ofNat_of_zero_le h0
  obtain ⟨b, rfl⟩ := Int.eq_ofNat_of_zero_le h2
  simp only [Option.some.injEq, Prod.mk.injEq] at h
  obtain ⟨rfl, rfl⟩ := h
  refine (Any.bits_Mul64 Try.lays264 a b (by omega) (by omega) w).mono ?_
  rintro e w' ⟨rfl, rfl⟩
  exact ⟨by simp, Drawn0.refl _⟩
 ·cases h
end Go.Proofs.Yteikafepdkijdaa.X
