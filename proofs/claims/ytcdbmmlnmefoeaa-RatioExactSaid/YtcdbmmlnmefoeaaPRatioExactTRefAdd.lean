-- CUT by prune.py, a program of this session, to what the claim reaches (out of a text that the kit's printer, the session's programs or the session wrote)
import Derived.Test.YtcdbmmlnmefoeaaPRatioExactXRefAdd
import Derived.Test.YtcdbmmlnmefoeaaPRatioExactTRefTwo
set_option maxRecDepth 10000
namespace Go.Proofs.Ytcdbmmlnmefoeaa.X
open Go.RowKit Go.Proofs.YtcdbmmlnmefoeaaW.PrintWords Go.Proofs.YtcdbmmlnmefoeaaW.PrintLast

theorem big_at {a b : Nat} (ha : a ≤ 4611686018427387904) (hb : b ≤ 4611686018427387904) : ∃ p q, At (fun k => demurrageref02_big.f k a b) (p, q) ∧ Digs p ∧ Digs q ∧ bv p = a ∧ bv q = b ∧ p.length ≤ 5 ∧ q.length ≤ 5 := by
  obtain ⟨p, ⟨K1, p1⟩, p2, p3, p4, p5⟩ := from_at (x := (a : Int)) ⟨by omega, by omega⟩
  obtain ⟨q, ⟨K2, q1⟩, q2, q3, q4, q5⟩ := from_at (x := (b : Int)) ⟨by omega, by omega⟩
  refine ⟨p, q, ⟨K1 + K2, fun k hk => ?_⟩, p2, q2, p3, q3, p5, q5⟩
  have p1 : demurrageref01_From.f k a = some p := p1 k (by omega)
  have q1 : demurrageref01_From.f k b = some q := q1 k (by omega)
  show demurrageref02_big.f k a b = some (p, q)
  unfold demurrageref02_big.f
  rw [p1, Option.bind_some, q1, Option.bind_some]

theorem refadd_at {a b c d : Nat} (ha : a ≤ 4611686018427387904) (hb : b ≤ 4611686018427387904) (hc : c ≤ 4611686018427387904) (hd : d ≤ 4611686018427387904) (b0 : 0 < b) (d0 : 0 < d) :
    At (fun k => demurrageref02_Add.f k a b c d) (made ((a * d + c * b) / (a * d + c * b).gcd (b * d)) (b * d / (a * d + c * b).gcd (b * d))) := by
  obtain ⟨p, q, ⟨K1, h1⟩, p2, q2, p3, q3, p4, q4⟩ := big_at ha hb
  obtain ⟨r, s, ⟨K2, h2⟩, r2, s2, r3, s3, r4, s4⟩ := big_at hc hd
  obtain ⟨u, ⟨K3, h3⟩, u2, u3, u4, u5⟩ := prod_at p2 s2 (by omega) (by omega)
  obtain ⟨v, ⟨K4, h4⟩, v2, v3, v4, v5⟩ := prod_at r2 q2 (by omega) (by omega)
  obtain ⟨w, ⟨K5, h5⟩, w2, w3, w4⟩ := plus_at u2 v2 (by omega) (by omega)
  obtain ⟨z, ⟨K6, h6⟩, z2, z3, z4, z5⟩ := prod_at q2 s2 (by omega) (by omega)
  have ew : bv w = ((a * d + c * b : Nat) : Int) := by rw [w3, u3, v3, p3, s3, r3, q3, Int.natCast_add, Int.natCast_mul, Int.natCast_mul]
  have ez : bv z = ((b * d : Nat) : Int) := by rw [z3, q3, s3, Int.natCast_mul]
  obtain ⟨K7, h7⟩ := made_at w2 z2 z4 (by omega) (by omega) ew ez (Nat.mul_pos b0 d0)
  generalize made ((a * d + c * b) / (a * d + c * b).gcd (b * d)) (b * d / (a * d + c * b).gcd (b * d)) = R at h7 ⊢
  refine ⟨K1 + K2 + K3 + K4 + K5 + K6 + K7, fun k hk => ?_⟩
  have h1 : demurrageref02_big.f k a b = some (p, q) := h1 k (by omega)
  have h2 : demurrageref02_big.f k c d = some (r, s) := h2 k (by omega)
  have h3 : demurrageref01_Prod.f k p s = some u := h3 k (by omega)
  have h4 : demurrageref01_Prod.f k r q = some v := h4 k (by omega)
  have h5 : demurrageref01_Plus.f k u v = some w := h5 k (by omega)
  have h6 : demurrageref01_Prod.f k q s = some z := h6 k (by omega)
  have h7 : demurrageref02_Made.f k w z = some R := h7 k (by omega)
  show demurrageref02_Add.f k a b c d = some R
  unfold demurrageref02_Add.f
  rw [h1, Option.bind_some, h2, Option.bind_some]
  show ((demurrageref01_Prod.f k p s).bind fun t4661 => ((demurrageref01_Prod.f k r q).bind fun t4664 => ((demurrageref01_Plus.f k t4661 t4664).bind fun t4667 => ((demurrageref01_Prod.f k q s).bind fun t4670 => ((demurrageref02_Made.f k t4667 t4670).bind fun bt4673 => (some (bt4673.1, bt4673.2.1, bt4673.2.2))))))) = some R
  rw [h3, Option.bind_some, h4, Option.bind_some, h5, Option.bind_some, h6, Option.bind_some, h7, Option.bind_some]

theorem refmul_at {a b c d : Nat} (ha : a ≤ 4611686018427387904) (hb : b ≤ 4611686018427387904) (hc : c ≤ 4611686018427387904) (hd : d ≤ 4611686018427387904) (b0 : 0 < b) (d0 : 0 < d) :
    At (fun k => demurrageref02_Mul.f k a b c d) (made (a * c / (a * c).gcd (b * d)) (b * d / (a * c).gcd (b * d))) := by
  obtain ⟨p, q, ⟨K1, h1⟩, p2, q2, p3, q3, p4, q4⟩ := big_at ha hb
  obtain ⟨r, s, ⟨K2, h2⟩, r2, s2, r3, s3, r4, s4⟩ := big_at hc hd
  obtain ⟨u, ⟨K3, h3⟩, u2, u3, u4, u5⟩ := prod_at p2 r2 (by omega) (by omega)
  obtain ⟨z, ⟨K6, h6⟩, z2, z3, z4, z5⟩ := prod_at q2 s2 (by omega) (by omega)
  have ew : bv u = ((a * c : Nat) : Int) := by rw [u3, p3, r3, Int.natCast_mul]
  have ez : bv z = ((b * d : Nat) : Int) := by rw [z3, q3, s3, Int.natCast_mul]
  obtain ⟨K7, h7⟩ := made_at u2 z2 z4 (by omega) (by omega) ew ez (Nat.mul_pos b0 d0)
  generalize made (a * c / (a * c).gcd (b * d)) (b * d / (a * c).gcd (b * d)) = R at h7 ⊢
  refine ⟨K1 + K2 + K3 + K6 + K7, fun k hk => ?_⟩
  have h1 : demurrageref02_big.f k a b = some (p, q) := h1 k (by omega)
  have h2 : demurrageref02_big.f k c d = some (r, s) := h2 k (by omega)
  have h3 : demurrageref01_Prod.f k p r = some u := h3 k (by omega)
  have h6 : demurrageref01_Prod.f k q s = some z := h6 k (by omega)
  have h7 : demurrageref02_Made.f k u z = some R := h7 k (by omega)
  show demurrageref02_Mul.f k a b c d = some R
  unfold demurrageref02_Mul.f
  rw [h1, Option.bind_some, h2, Option.bind_some]
  show ((demurrageref01_Prod.f k p r).bind fun t4695 => ((demurrageref01_Prod.f k q s).bind fun t4698 => ((demurrageref02_Made.f k t4695 t4698).bind fun bt4701 => (some (bt4701.1, bt4701.2.1, bt4701.2.2))))) = some R
  rw [h3, Option.bind_some, h6, Option.bind_some, h7, Option.bind_some]

theorem refcmp_at {a b c d : Nat} (ha : a ≤ 4611686018427387904) (hb : b ≤ 4611686018427387904) (hc : c ≤ 4611686018427387904) (hd : d ≤ 4611686018427387904) :
    At (fun k => demurrageref02_Cmp.f k a b c d) (bsg ((a * d : Nat) : Int) ((c * b : Nat) : Int)) := by
  obtain ⟨p, q, ⟨K1, h1⟩, p2, q2, p3, q3, p4, q4⟩ := big_at ha hb
  obtain ⟨r, s, ⟨K2, h2⟩, r2, s2, r3, s3, r4, s4⟩ := big_at hc hd
  obtain ⟨u, ⟨K3, h3⟩, u2, u3, u4, u5⟩ := prod_at p2 s2 (by omega) (by omega)
  obtain ⟨v, ⟨K4, h4⟩, v2, v3, v4, v5⟩ := prod_at r2 q2 (by omega) (by omega)
  obtain ⟨K5, h5⟩ := cmp_at u2 v2 (by omega) (by omega)
  rw [u3, v3, p3, s3, r3, q3, ← Int.natCast_mul, ← Int.natCast_mul] at h5
  generalize bsg ((a * d : Nat) : Int) ((c * b : Nat) : Int) = R at h5 ⊢
  refine ⟨K1 + K2 + K3 + K4 + K5, fun k hk => ?_⟩
  have h1 : demurrageref02_big.f k a b = some (p, q) := h1 k (by omega)
  have h2 : demurrageref02_big.f k c d = some (r, s) := h2 k (by omega)
  have h3 : demurrageref01_Prod.f k p s = some u := h3 k (by omega)
  have h4 : demurrageref01_Prod.f k r q = some v := h4 k (by omega)
  have h5 : demurrageref01_Cmp.f k u v = some R := h5 k (by omega)
  show demurrageref02_Cmp.f k a b c d = some R
  unfold demurrageref02_Cmp.f
  rw [h1, Option.bind_some, h2, Option.bind_some]
  show ((demurrageref01_Prod.f k p s).bind fun t4722 => ((demurrageref01_Prod.f k r q).bind fun t4725 => ((demurrageref01_Cmp.f k t4722 t4725).bind fun t4728 => (some t4728)))) = some R
  rw [h3, Option.bind_some, h4, Option.bind_some, h5, Option.bind_some]

theorem Frac.cross {n m u v N D : Nat} (hD : 0 < D) (h1 : n * D = N * m) (h2 : u * D = N * v) : n * v = u * m :=
  Nat.eq_of_mul_eq_mul_right hD (by rw [Nat.mul_right_comm n v D, h1, Nat.mul_right_comm u m D, h2, Nat.mul_right_comm])
end Go.Proofs.Ytcdbmmlnmefoeaa.X
