-- CUT by prune.py, a program of this session, to what the claim reaches (out of a text that the kit's printer, the session's programs or the session wrote)
import Derived.Test.YtcdbmmlnmefoeaaPRatioLawsXRatio
import Derived.Test.YtcdbmmlnmefoeaaPRatioLawsXSTwo
import Derived.Test.YtcdbmmlnmefoeaaPRatioLawsTWide
import Derived.Test.YtcdbmmlnmefoeaaPRatioLawsTFrac
set_option maxRecDepth 10000
namespace Go.Proofs.Ytcdbmmlnmefoeaa.X
open Go.RowKit Go.Proofs.YtcdbmmlnmefoeaaW.PrintWords Go.Proofs.YtcdbmmlnmefoeaaW.PrintLast

theorem shown_two : demurragelaw02_shown.f 5 = some true := by kernel_rfl

theorem gcdn (x y : Nat) (hx : (x : Int) ≤ 18446744073709551615) (hy : (y : Int) ≤ 18446744073709551615) : ratio_Gcd.f x y = some (Nat.gcd x y : Int) := by
  have ux : U64 (x : Int) := ⟨Int.natCast_nonneg x, by omega⟩
  have uy : U64 (y : Int) := ⟨Int.natCast_nonneg y, by omega⟩
  unfold ratio_Gcd.f
  rw [if_pos ⟨ux, uy⟩, Int.toNat_natCast, Int.toNat_natCast]

theorem quo (x g : Nat) (hx : (x : Int) ≤ 18446744073709551615) : IntKind.u64.wrap (Int.tdiv (x : Int) (g : Int)) = ((x / g : Nat) : Int) := by
  have l1 : ((x / g : Nat) : Int) ≤ x := Int.ofNat_le.mpr (Nat.div_le_self x g)
  have e : Int.tdiv (x : Int) (g : Int) = ((x / g : Nat) : Int) := by rw [← Int.ofNat_tdiv]
  rw [e]
  generalize x / g = u at l1
  exact IntWalk.u64_in (u : Int) ⟨Int.natCast_nonneg u, by omega⟩

theorem nat_u64 {x : Nat} (h : x ≤ 9223372036854775807) : U64 (x : Int) := ⟨Int.natCast_nonneg x, by omega⟩
theorem nat_wrap {x : Nat} (h : x ≤ 9223372036854775807) : IntKind.u64.wrap (x : Int) = x := IntWalk.u64_in _ ⟨Int.natCast_nonneg x, by omega⟩

theorem most_lt {n : Int} : (if n < 4611686018427387904 then (-1 : Int) else if n = 4611686018427387904 then 0 else 1) > 0 ↔ ¬ n ≤ 4611686018427387904 := by
  repeat' split
  all_goals omega

theorem told_eq {n d : Int} (n0 : 0 ≤ n) (n1 : n < 340282366920938463463374607431768211456) (d0 : 0 ≤ d) (d1 : d < 340282366920938463463374607431768211456) :
    ratio_told.f (n / 18446744073709551616) (n % 18446744073709551616) (d / 18446744073709551616) (d % 18446744073709551616) = some (if n ≤ 4611686018427387904 ∧ d ≤ 4611686018427387904 then (n, d, 0) else (0, 0, 6)) := by
  obtain ⟨p1, p2, p3⟩ := wv_parts n0 n1
  obtain ⟨q1, q2, q3⟩ := wv_parts d0 d1
  have e : wv 0 4611686018427387904 = 4611686018427387904 := by unfold wv; omega
  unfold ratio_told.f
  rw [of_eq]
  simp only [Option.bind_some]
  rw [wcmp_eq p1 p2 (by decide) (by decide), wcmp_eq q1 q2 (by decide) (by decide), p3, q3, e]
  simp only [Option.bind_some]
  by_cases h1 : n ≤ 4611686018427387904
  · rw [if_neg (fun h => most_lt.mp h h1)]
    by_cases h2 : d ≤ 4611686018427387904
    · rw [if_neg (fun h => most_lt.mp h h2), if_pos ⟨h1, h2⟩, IntWalk.wrap64_in _ ⟨by omega, by omega⟩, IntWalk.wrap64_in _ ⟨by omega, by omega⟩]
      have e1 : n % 18446744073709551616 = n := by omega
      have e2 : d % 18446744073709551616 = d := by omega
      rw [e1, e2]
    · rw [if_neg (fun h : _ ∧ _ => h2 h.2), if_pos (most_lt.mpr h2)]
  · rw [if_neg (fun h : _ ∧ _ => h1 h.1), if_pos (most_lt.mpr h1)]

/-- What a making answers. -/
def made (n d : Nat) : Int × Int × Int := if (n : Int) ≤ 4611686018427387904 ∧ (d : Int) ≤ 4611686018427387904 then ((n : Int), (d : Int), 0) else (0, 0, 6)

theorem made_eq {n d : Nat} (hn : n ≤ 85070591730234615847396907784232501249) (hd : d ≤ 85070591730234615847396907784232501249) :
    ratio_told.f ((n : Int) / 18446744073709551616) ((n : Int) % 18446744073709551616) ((d : Int) / 18446744073709551616) ((d : Int) % 18446744073709551616) = some (made n d) :=
  told_eq (Int.natCast_nonneg n) (by omega) (Int.natCast_nonneg d) (by omega)

theorem prod_le {x y : Nat} (hx : x ≤ 9223372036854775807) (hy : y ≤ 9223372036854775807) : x * y ≤ 85070591730234615847396907784232501249 := Nat.mul_le_mul hx hy

theorem muln {x y : Nat} (hx : x ≤ 9223372036854775807) (hy : y ≤ 9223372036854775807) : wide_Mul.f (x : Int) (y : Int) = some (((x * y : Nat) : Int) / 18446744073709551616, ((x * y : Nat) : Int) % 18446744073709551616) := by
  rw [mul_eq (nat_u64 hx) (nat_u64 hy), Int.natCast_mul]

theorem rmul_eq {a b c d : Nat} (ha : a ≤ 9223372036854775807) (hb : b ≤ 9223372036854775807) (hc : c ≤ 9223372036854775807) (hd : d ≤ 9223372036854775807) (b0 : 0 < b) (d0 : 0 < d) :
    ratio_Mul.f a b c d = some (made (a / a.gcd d * (c / c.gcd b)) (b / c.gcd b * (d / a.gcd d))) := by
  have gp : 0 < a.gcd d := Nat.gcd_pos_of_pos_right a d0
  have hp : 0 < c.gcd b := Nat.gcd_pos_of_pos_right c b0
  unfold ratio_Mul.f
  rw [nat_wrap ha, nat_wrap hb, nat_wrap hc, nat_wrap hd, gcdn a d (by omega) (by omega), gcdn c b (by omega) (by omega)]
  simp only [Option.bind_some]
  have la := Nat.div_le_self a (a.gcd d)
  have lc := Nat.div_le_self c (c.gcd b)
  have lb := Nat.div_le_self b (c.gcd b)
  have ld := Nat.div_le_self d (a.gcd d)
  rw [if_neg (by omega), if_neg (by omega), quo a _ (by omega), quo c _ (by omega), quo b _ (by omega), quo d _ (by omega),
    muln (Nat.le_trans la ha) (Nat.le_trans lc hc), muln (Nat.le_trans lb hb) (Nat.le_trans ld hd)]
  simp only [Option.bind_some]
  rw [made_eq (prod_le (Nat.le_trans la ha) (Nat.le_trans lc hc)) (prod_le (Nat.le_trans lb hb) (Nat.le_trans ld hd))]
  rfl

theorem mulx {x y : Nat} (hx : x ≤ 9223372036854775807) (hy : y ≤ 9223372036854775807) : ∃ p q, wide_Mul.f (x : Int) (y : Int) = some (p, q) ∧ U64 p ∧ U64 q ∧ wv p q = ((x * y : Nat) : Int) := by
  have h := prod_le hx hy
  obtain ⟨p1, p2, p3⟩ := wv_parts (x := ((x * y : Nat) : Int)) (Int.natCast_nonneg _) (by omega)
  exact ⟨_, _, muln hx hy, p1, p2, p3⟩
theorem addx {a b c d : Int} {n : Nat} (ha : U64 a) (hb : U64 b) (hc : U64 c) (hd : U64 d) (e : wv a b + wv c d = n) (hn : n ≤ 170141183460469231731687303715884105727) :
    ∃ p q, wide_Add.f a b c d = some (p, q, 0) ∧ U64 p ∧ U64 q ∧ wv p q = (n : Int) := by
  obtain ⟨p1, p2, p3⟩ := wv_parts (x := (n : Int)) (Int.natCast_nonneg _) (by omega)
  refine ⟨_, _, ?_, p1, p2, p3⟩
  rw [add_eq ha hb hc hd, e, if_pos (by omega)]
theorem divx {a b : Int} {n g : Nat} (ha : U64 a) (hb : U64 b) (e : wv a b = n) (hg : g ≤ 9223372036854775807) (g0 : 0 < g) :
    ∃ p q, wide_Div.f a b g = some (p, q, ((n % g : Nat) : Int), 0) ∧ U64 p ∧ U64 q ∧ wv p q = ((n / g : Nat) : Int) := by
  have l := wv_lt ha hb
  rw [e] at l
  have l4 := Nat.div_le_self n g
  obtain ⟨p1, p2, p3⟩ := wv_parts (x := ((n / g : Nat) : Int)) (Int.natCast_nonneg _) (by omega)
  refine ⟨_, _, ?_, p1, p2, p3⟩
  rw [div_eq ha hb (nat_u64 hg) (by omega), e, Int.natCast_emod, Int.natCast_ediv]
theorem toldx {a b c d : Int} {n m : Nat} (ha : U64 a) (hb : U64 b) (hc : U64 c) (hd : U64 d) (e : wv a b = n) (f : wv c d = m) : ratio_told.f a b c d = some (made n m) := by
  have l1 := wv_lt ha hb
  have l2 := wv_lt hc hd
  have h := told_eq l1.1 l1.2 l2.1 l2.2
  have a1 : wv a b / 18446744073709551616 = a ∧ wv a b % 18446744073709551616 = b := by
    obtain ⟨p1, p2⟩ := ha
    obtain ⟨p3, p4⟩ := hb
    unfold wv
    omega
  have a2 : wv c d / 18446744073709551616 = c ∧ wv c d % 18446744073709551616 = d := by
    obtain ⟨p1, p2⟩ := hc
    obtain ⟨p3, p4⟩ := hd
    unfold wv
    omega
  rw [a1.1, a1.2, a2.1, a2.2, e, f] at h
  exact h

theorem radd_eq {a b c d : Nat} (ha : a ≤ 4611686018427387904) (hb : b ≤ 4611686018427387904) (hc : c ≤ 4611686018427387904) (hd : d ≤ 4611686018427387904) (b0 : 0 < b) (d0 : 0 < d) :
    ratio_Add.f a b c d = some (made (Frac.up a b c d / (Frac.up a b c d).gcd (b.gcd d)) (b / b.gcd d * (d / (Frac.up a b c d).gcd (b.gcd d)))) := by
  have gp : 0 < b.gcd d := Nat.gcd_pos_of_pos_right b d0
  have gl : b.gcd d ≤ b := Nat.le_of_dvd b0 (Nat.gcd_dvd_left b d)
  have kp : 0 < (Frac.up a b c d).gcd (b.gcd d) := Nat.gcd_pos_of_pos_right _ gp
  have kl : (Frac.up a b c d).gcd (b.gcd d) ≤ b.gcd d := Nat.le_of_dvd gp (Nat.gcd_dvd_right _ _)
  have lb := Nat.div_le_self b (b.gcd d)
  have ld := Nat.div_le_self d (b.gcd d)
  have ld2 := Nat.div_le_self d ((Frac.up a b c d).gcd (b.gcd d))
  have p1 : a * (d / b.gcd d) ≤ 21267647932558653966460912964485513216 := Nat.mul_le_mul ha (Nat.le_trans ld hd)
  have p2 : c * (b / b.gcd d) ≤ 21267647932558653966460912964485513216 := Nat.mul_le_mul hc (Nat.le_trans lb hb)
  have p3 : Frac.up a b c d ≤ 42535295865117307932921825928971026432 := by unfold Frac.up; omega
  obtain ⟨x1, x2, ex, ux1, ux2, vx⟩ := mulx (x := a) (y := d / b.gcd d) (by omega) (by omega)
  obtain ⟨y1, y2, ey, uy1, uy2, vy⟩ := mulx (x := c) (y := b / b.gcd d) (by omega) (by omega)
  obtain ⟨s1, s2, es, us1, us2, vs⟩ := addx (n := Frac.up a b c d) ux1 ux2 uy1 uy2 (by rw [vx, vy]; unfold Frac.up; omega) (by omega)
  obtain ⟨q1, q2, eq, uq1, uq2, vq⟩ := divx us1 us2 vs (g := b.gcd d) (by omega) gp
  obtain ⟨r1, r2, er, ur1, ur2, vr⟩ := divx us1 us2 vs (g := (Frac.up a b c d).gcd (b.gcd d)) (by omega) kp
  obtain ⟨t1, t2, et, ut1, ut2, vt⟩ := mulx (x := b / b.gcd d) (y := d / (Frac.up a b c d).gcd (b.gcd d)) (by omega) (by omega)
  have l2 : Frac.up a b c d % b.gcd d < b.gcd d := Nat.mod_lt _ gp
  have e3 : (Frac.up a b c d % b.gcd d).gcd (b.gcd d) = (Frac.up a b c d).gcd (b.gcd d) := by rw [← Nat.gcd_rec, Nat.gcd_comm]
  have eg := gcdn (Frac.up a b c d % b.gcd d) (b.gcd d) (by omega) (by omega)
  rw [e3] at eg
  have g0 : ¬ ((b.gcd d : Nat) : Int) = 0 := by omega
  have k0 : ¬ (((Frac.up a b c d).gcd (b.gcd d) : Nat) : Int) = 0 := by omega
  unfold ratio_Add.f
  rw [nat_wrap (x := a) (by omega), nat_wrap (x := b) (by omega), nat_wrap (x := c) (by omega), nat_wrap (x := d) (by omega), gcdn b d (by omega) (by omega)]
  rw [Option.bind_some, if_neg g0, quo d _ (by omega), quo b _ (by omega), ex, Option.bind_some, ey, Option.bind_some, es, Option.bind_some, eq, Option.bind_some, eg, Option.bind_some, er, Option.bind_some, if_neg k0,
    quo d _ (by omega), et, Option.bind_some, toldx ur1 ur2 ut1 ut2 vr vt, Option.bind_some]

theorem rcmp_eq {a b c d : Nat} (ha : a ≤ 9223372036854775807) (hb : b ≤ 9223372036854775807) (hc : c ≤ 9223372036854775807) (hd : d ≤ 9223372036854775807) :
    ratio_Cmp.f a b c d = some (if a * d < c * b then -1 else if a * d = c * b then 0 else 1) := by
  unfold ratio_Cmp.f
  rw [nat_wrap ha, nat_wrap hb, nat_wrap hc, nat_wrap hd, muln ha hd, muln hc hb]
  simp only [Option.bind_some]
  have p1 := prod_le ha hd
  have p2 := prod_le hc hb
  obtain ⟨x1, x2, x3⟩ := wv_parts (x := ((a * d : Nat) : Int)) (Int.natCast_nonneg _) (by omega)
  obtain ⟨y1, y2, y3⟩ := wv_parts (x := ((c * b : Nat) : Int)) (Int.natCast_nonneg _) (by omega)
  rw [wcmp_eq x1 x2 y1 y2, x3, y3]
  simp only [Option.bind_some]
  generalize a * d = p at *
  generalize c * b = q at *
  congr 1
  repeat' split
  all_goals omega
end Go.Proofs.Ytcdbmmlnmefoeaa.X
