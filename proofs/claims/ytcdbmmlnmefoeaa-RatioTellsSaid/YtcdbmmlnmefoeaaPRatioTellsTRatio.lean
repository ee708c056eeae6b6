-- CUT by prune.py, a program of this session, to what the claim reaches (out of a text that the kit's printer, the session's programs or the session wrote)
import Derived.Test.YtcdbmmlnmefoeaaPRatioTellsXRatio
import Derived.Test.YtcdbmmlnmefoeaaPRatioTellsXSTwo
import Derived.Test.YtcdbmmlnmefoeaaPRatioTellsTWide
import Derived.WalkKit
set_option maxRecDepth 10000
namespace Go.Proofs.Ytcdbmmlnmefoeaa.X
open Go.RowKit Go.Proofs.YtcdbmmlnmefoeaaW.PrintWords Go.Proofs.YtcdbmmlnmefoeaaW.PrintLast

theorem shown_two : demurragelaw02_shown.f 5 = some true := by kernel_rfl

theorem gcdn (x y : Nat) (hx : (x : Int) ≤ 18446744073709551615) (hy : (y : Int) ≤ 18446744073709551615) : ratio_Gcd.f x y = some (Nat.gcd x y : Int) := by
  have ux : U64 (x : Int) := ⟨Int.natCast_nonneg x, by omega⟩
  have uy : U64 (y : Int) := ⟨Int.natCast_nonneg y, by omega⟩
  unfold ratio_Gcd.f
  rw [if_pos ⟨ux, uy⟩, Int.toNat_natCast, Int.toNat_natCast]

theorem quo (x g : Nat) (hx : (x : Int) ≤ 18446744073709551615) : IntKind.u64.wrap (Int.tdiv (x : Int) (g : Int)) = ((x / g : Nat) : Int) := by
  have l1 : ((x / g : Nat) : Int) ≤ x := Int.ofNat_le.mpr (Nat.div_le_self x g)
  have e : Int.tdiv (x : Int) (g : Int) = ((x / g : Nat) : Int) := by rw [← Int.ofNat_tdiv]
  rw [e]
  generalize x / g = u at l1
  exact IntWalk.u64_in (u : Int) ⟨Int.natCast_nonneg u, by omega⟩

theorem nat_wrap {x : Nat} (h : x ≤ 9223372036854775807) : IntKind.u64.wrap (x : Int) = x := IntWalk.u64_in _ ⟨Int.natCast_nonneg x, by omega⟩

theorem most_lt {n : Int} : (if n < 4611686018427387904 then (-1 : Int) else if n = 4611686018427387904 then 0 else 1) > 0 ↔ ¬ n ≤ 4611686018427387904 := by
  repeat' split
  all_goals omega

theorem told_eq {n d : Int} (n0 : 0 ≤ n) (n1 : n < 340282366920938463463374607431768211456) (d0 : 0 ≤ d) (d1 : d < 340282366920938463463374607431768211456) :
    ratio_told.f (n / 18446744073709551616) (n % 18446744073709551616) (d / 18446744073709551616) (d % 18446744073709551616) = some (if n ≤ 4611686018427387904 ∧ d ≤ 4611686018427387904 then (n, d, 0) else (0, 0, 6)) := by
  obtain ⟨p1, p2, p3⟩ := wv_parts n0 n1
  obtain ⟨q1, q2, q3⟩ := wv_parts d0 d1
  have e : wv 0 4611686018427387904 = 4611686018427387904 := by unfold wv; omega
  unfold ratio_told.f
  rw [of_eq]
  simp only [Option.bind_some]
  rw [wcmp_eq p1 p2 (by decide) (by decide), wcmp_eq q1 q2 (by decide) (by decide), p3, q3, e]
  simp only [Option.bind_some]
  by_cases h1 : n ≤ 4611686018427387904
  · rw [if_neg (fun h => most_lt.mp h h1)]
    by_cases h2 : d ≤ 4611686018427387904
    · rw [if_neg (fun h => most_lt.mp h h2), if_pos ⟨h1, h2⟩, IntWalk.wrap64_in _ ⟨by omega, by omega⟩, IntWalk.wrap64_in _ ⟨by omega, by omega⟩]
      have e1 : n % 18446744073709551616 = n := by omega
      have e2 : d % 18446744073709551616 = d := by omega
      rw [e1, e2]
    · rw [if_neg (fun h : _ ∧ _ => h2 h.2), if_pos (most_lt.mpr h2)]
  · rw [if_neg (fun h : _ ∧ _ => h1 h.1), if_pos (most_lt.mpr h1)]

/-- What a making answers. -/
def made (n d : Nat) : Int × Int × Int := if (n : Int) ≤ 4611686018427387904 ∧ (d : Int) ≤ 4611686018427387904 then ((n : Int), (d : Int), 0) else (0, 0, 6)

theorem made_eq {n d : Nat} (hn : n ≤ 85070591730234615847396907784232501249) (hd : d ≤ 85070591730234615847396907784232501249) :
    ratio_told.f ((n : Int) / 18446744073709551616) ((n : Int) % 18446744073709551616) ((d : Int) / 18446744073709551616) ((d : Int) % 18446744073709551616) = some (made n d) :=
  told_eq (Int.natCast_nonneg n) (by omega) (Int.natCast_nonneg d) (by omega)

theorem rnew_eq {n d : Nat} (hn : n ≤ 9223372036854775807) (hd : d ≤ 9223372036854775807) (d0 : 0 < d) (k : Nat) : ratio_New.f (k + 1) n d = some (made (n / n.gcd d) (d / n.gcd d)) := by
  have gp : 0 < n.gcd d := Nat.gcd_pos_of_pos_right n d0
  have ln := Nat.div_le_self n (n.gcd d)
  have ld := Nat.div_le_self d (n.gcd d)
  unfold ratio_New.f
  rw [if_neg (by omega), show decide ((d : Int) < 0) = false by simp, ratio_New.j0, if_neg (by decide), if_neg (by omega), nat_wrap hn, nat_wrap hd, gcdn n d (by omega) (by omega)]
  simp only [Option.bind_some]
  rw [if_neg (by omega), quo n _ (by omega), quo d _ (by omega), of_eq, of_eq]
  simp only [Option.bind_some]
  have t : ∀ x : Nat, x ≤ 9223372036854775807 → (0 : Int) = (x : Int) / 18446744073709551616 ∧ (x : Int) = (x : Int) % 18446744073709551616 := by intro x hx; omega
  have t1 := t (n / n.gcd d) (by omega)
  have t2 := t (d / n.gcd d) (by omega)
  have m := made_eq (n := n / n.gcd d) (d := d / n.gcd d) (by omega) (by omega)
  rw [← t1.1, ← t1.2, ← t2.1, ← t2.2] at m
  rw [m]
  rfl

end Go.Proofs.Ytcdbmmlnmefoeaa.X
