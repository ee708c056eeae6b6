/- WideMuls: products of two numbers, taken either way, are the same; spread over a sum they are the sum of both. -/
import Derived.Test.YtcdbmmlnmefoeaaXWideMuls
import Derived.Test.YtcdbmmlnmefoeaaTShownOne
namespace Go.Proofs.Ytcdbmmlnmefoeaa.Pure
open Go.RowKit Go.Proofs.Ytcdbmmlnmefoeaa.X Go.Proofs.YtcdbmmlnmefoeaaW.PrintWords Go.Proofs.YtcdbmmlnmefoeaaW.PrintLast

theorem half_eq {a : Int} (h : U64 a) : IntKind.u64.wrap (Int.tdiv a 2) = a / 2 := IntWalk.u64_quo a 2 ⟨h.1, by have := h.2; omega, by omega⟩

theorem WideMuls : demurragelaw01_WideMuls.Pure := by
  intro a b c wa wb wc
  have ha := u64_wf wa
  have hb := u64_wf wb
  have hc := u64_wf wc
  have ha2 : U64 (a / 2) := ⟨by have := ha.1; omega, by have := ha.2; have := ha.1; omega⟩
  have hb2 : U64 (b / 2) := ⟨by have := hb.1; omega, by have := hb.2; have := hb.1; omega⟩
  have hs : U64 (a / 2 + b / 2) := ⟨by have := ha.1; have := hb.1; omega, by have := ha.2; have := hb.2; omega⟩
  have hw : IntKind.u64.wrap (a / 2 + b / 2) = a / 2 + b / 2 := IntWalk.u64_in _ ⟨hs.1, by have := hs.2; omega⟩
  have m1 := mul_lt ha2 hc
  have m2 := mul_lt hb2 hc
  have m3 := mul_lt ha hb
  have m4 : (a / 2 + b / 2) * c = a / 2 * c + b / 2 * c := Int.add_mul _ _ _
  obtain ⟨p1, p2, p3⟩ := wv_parts m1.1 (by omega)
  obtain ⟨q1, q2, q3⟩ := wv_parts m2.1 (by omega)
  have m5 := mul_lt hs hc
  have z0 : U64 0 := by decide
  have z1 : U64 1 := by decide
  have e0 : wv 0 a = a := by unfold wv; omega
  unfold demurragelaw01_WideMuls.f
  rw [shown_one, half_eq ha, half_eq hb, hw, mul_eq ha2 hc, mul_eq hb2 hc]
  simp only [Option.bind_some]
  rw [add_eq p1 p2 q1 q2, p3, q3, of_eq]
  simp only [Option.bind_some]
  rw [times_eq z0 ha hb, e0, mul_eq ha hb, mul_eq hb ha, mul_eq ha z1, mul_eq ha z0, mul_eq hs hc, m4, Int.mul_comm b a]
  have a1 := ha.1
  have a2 := ha.2
  rw [if_pos (show a / 2 * c + b / 2 * c < 340282366920938463463374607431768211456 by rw [m4] at m5; omega), if_pos (show a * b < 340282366920938463463374607431768211456 by omega)]
  simp
  omega
end Go.Proofs.Ytcdbmmlnmefoeaa.Pure
