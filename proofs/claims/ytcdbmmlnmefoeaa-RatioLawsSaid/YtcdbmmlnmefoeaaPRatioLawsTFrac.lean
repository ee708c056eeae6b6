-- CUT by prune.py, a program of this session, to what the claim reaches (out of a text that the kit's printer, the session's programs or the session wrote)
import Derived.WalkKit
namespace Go.Proofs.Ytcdbmmlnmefoeaa.Frac

theorem same {n d m e : Nat} (h : n * e = m * d) (h1 : n.gcd d = 1) (h2 : m.gcd e = 1) (he : 0 < e) : n = m ∧ d = e := by
  have c1 : Nat.Coprime n d := h1
  have c2 : Nat.Coprime m e := h2
  have d1 : d ∣ e := c1.symm.dvd_of_dvd_mul_left (show d ∣ n * e from ⟨m, by rw [h, Nat.mul_comm]⟩)
  have d2 : e ∣ d := c2.symm.dvd_of_dvd_mul_left (show e ∣ m * d from ⟨n, by rw [← h, Nat.mul_comm]⟩)
  have e1 : d = e := Nat.dvd_antisymm d1 d2
  subst e1
  exact ⟨Nat.eq_of_mul_eq_mul_right he h, rfl⟩

theorem mul {a b c d : Nat} (hb : 0 < b) (hd : 0 < d) (h1 : a.gcd b = 1) (h2 : c.gcd d = 1) :
    (a / a.gcd d * (c / c.gcd b)).gcd (b / c.gcd b * (d / a.gcd d)) = 1 ∧ a / a.gcd d * (c / c.gcd b) * (b * d) = a * c * (b / c.gcd b * (d / a.gcd d)) ∧ 0 < b / c.gcd b * (d / a.gcd d) := by
  have gp : 0 < a.gcd d := Nat.gcd_pos_of_pos_right a hd
  have hp : 0 < c.gcd b := Nat.gcd_pos_of_pos_right c hb
  have c1 : Nat.Coprime a b := h1
  have c2 : Nat.Coprime c d := h2
  have x1 := Nat.coprime_div_gcd_div_gcd gp
  have x2 := Nat.coprime_div_gcd_div_gcd hp
  have ga := Nat.gcd_dvd_left a d
  have gd := Nat.gcd_dvd_right a d
  have hc := Nat.gcd_dvd_left c b
  have hb2 := Nat.gcd_dvd_right c b
  have y1 : Nat.Coprime (a / a.gcd d) (b / c.gcd b) := Nat.Coprime.coprime_dvd_left (Nat.div_dvd_of_dvd ga) (Nat.Coprime.coprime_dvd_right (Nat.div_dvd_of_dvd hb2) c1)
  have y2 : Nat.Coprime (c / c.gcd b) (d / a.gcd d) := Nat.Coprime.coprime_dvd_left (Nat.div_dvd_of_dvd hc) (Nat.Coprime.coprime_dvd_right (Nat.div_dvd_of_dvd gd) c2)
  refine ⟨Nat.Coprime.mul_left (Nat.Coprime.mul_right y1 x1) (Nat.Coprime.mul_right x2 y2), ?_, Nat.mul_pos (Nat.div_pos (Nat.le_of_dvd hb hb2) hp) (Nat.div_pos (Nat.le_of_dvd hd gd) gp)⟩
  clear x1 x2 y1 y2 h1 h2 c1 c2
  generalize a.gcd d = g at *
  generalize c.gcd b = h at *
  obtain ⟨a', rfl⟩ := ga
  obtain ⟨d', rfl⟩ := gd
  obtain ⟨c', rfl⟩ := hc
  obtain ⟨b', rfl⟩ := hb2
  rw [Nat.mul_div_cancel_left _ gp, Nat.mul_div_cancel_left _ gp, Nat.mul_div_cancel_left _ hp, Nat.mul_div_cancel_left _ hp]
  simp only [Nat.mul_comm, Nat.mul_left_comm]

/-- A sum's number above the line, before it is made smaller. -/
def up (a b c d : Nat) : Nat := a * (d / b.gcd d) + c * (b / b.gcd d)

theorem add {a b c d : Nat} (hb : 0 < b) (hd : 0 < d) (h1 : a.gcd b = 1) (h2 : c.gcd d = 1) :
    (up a b c d / (up a b c d).gcd (b.gcd d)).gcd (b / b.gcd d * (d / (up a b c d).gcd (b.gcd d))) = 1 ∧
    up a b c d / (up a b c d).gcd (b.gcd d) * (b * d) = (a * d + c * b) * (b / b.gcd d * (d / (up a b c d).gcd (b.gcd d))) ∧ 0 < b / b.gcd d * (d / (up a b c d).gcd (b.gcd d)) := by
  have gp : 0 < b.gcd d := Nat.gcd_pos_of_pos_right b hd
  have c1 : Nat.Coprime a b := h1
  have c2 : Nat.Coprime c d := h2
  have gb := Nat.gcd_dvd_left b d
  have gd := Nat.gcd_dvd_right b d
  have x := Nat.coprime_div_gcd_div_gcd gp
  have p1 : Nat.Coprime a (b / b.gcd d) := Nat.Coprime.coprime_dvd_right (Nat.div_dvd_of_dvd gb) c1
  have p2 : Nat.Coprime c (d / b.gcd d) := Nat.Coprime.coprime_dvd_right (Nat.div_dvd_of_dvd gd) c2
  unfold up
  generalize b.gcd d = g at *
  obtain ⟨b', rfl⟩ := gb
  obtain ⟨d', rfl⟩ := gd
  rw [Nat.mul_div_cancel_left _ gp] at *
  rw [Nat.mul_div_cancel_left _ gp] at *
  have n1 : Nat.Coprime (a * d' + c * b') b' := by
    show (a * d' + c * b').gcd b' = 1
    rw [Nat.gcd_add_mul_right_left]
    exact Nat.Coprime.mul_left p1 x.symm
  have n2 : Nat.Coprime (a * d' + c * b') d' := by
    show (a * d' + c * b').gcd d' = 1
    rw [Nat.gcd_mul_right_add_left]
    exact Nat.Coprime.mul_left p2 x
  have e : a * (g * d') + c * (g * b') = g * (a * d' + c * b') := by
    rw [Nat.mul_add]
    simp only [Nat.mul_comm, Nat.mul_left_comm]
  rw [e]
  generalize a * d' + c * b' = n at *
  have kp : 0 < n.gcd g := Nat.gcd_pos_of_pos_right n gp
  have y := Nat.coprime_div_gcd_div_gcd kp
  have kn := Nat.gcd_dvd_left n g
  have kg := Nat.gcd_dvd_right n g
  generalize n.gcd g = k at *
  obtain ⟨n', rfl⟩ := kn
  obtain ⟨g', rfl⟩ := kg
  rw [Nat.mul_div_cancel_left _ kp] at *
  rw [Nat.mul_div_cancel_left _ kp] at y
  have e3 : k * g' * d' / k = g' * d' := by rw [Nat.mul_assoc, Nat.mul_div_cancel_left _ kp]
  rw [e3]
  refine ⟨Nat.Coprime.mul_right (Nat.Coprime.coprime_dvd_left ⟨k, Nat.mul_comm _ _⟩ n1) (Nat.Coprime.mul_right y (Nat.Coprime.coprime_dvd_left ⟨k, Nat.mul_comm _ _⟩ n2)), ?_, ?_⟩
  · simp only [Nat.mul_comm, Nat.mul_left_comm]
  · have z1 : 0 < b' := Nat.pos_of_mul_pos_left hb
    have z2 : 0 < d' := Nat.pos_of_mul_pos_left hd
    have z3 : 0 < g' := Nat.pos_of_mul_pos_left gp
    exact Nat.mul_pos z1 (Nat.mul_pos z3 z2)
end Go.Proofs.Ytcdbmmlnmefoeaa.Frac
