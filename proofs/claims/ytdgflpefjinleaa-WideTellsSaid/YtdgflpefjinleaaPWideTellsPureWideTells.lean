/- WideTells: products, sums, differences, and how two numbers lie to each other, are exact, or told as too great. -/
import Derived.Test.YtdgflpefjinleaaPWideTellsXWideTells
import Derived.Test.YtdgflpefjinleaaPWideTellsT
set_option maxRecDepth 10000
namespace Go.Proofs.Ytdgflpefjinleaa.Pure
open Go.RowKit Go.Proofs.Ytdgflpefjinleaa.X Go.Proofs.YtdgflpefjinleaaW.PrintWords Go.Proofs.YtdgflpefjinleaaW.PrintLast

theorem tail_law {E1 E2 E3 : Int} {x y z : Bool} (h1 : (E1 = 0 ∧ x = true) ∨ (E1 = 6 ∧ x = false)) (h2 : (E2 = 0 ∧ y = true) ∨ (E2 = 6 ∧ y = false)) (h3 : (E3 = 0 ∧ z = true) ∨ (E3 = 6 ∧ z = false)) {J : Bool → Option Bool} (hJ : J false = some true) :
    (if ((E1 == 0) != x) = true then (none) else (if ((E2 == 0) != y) = true then (none) else (if ((E3 == 0) != z) = true then (none) else (if E1 = 0 then (if E2 = 0 then (if E3 = 0 then J false else J (E3 != 6)) else (if E2 = 6 then (if E3 = 0 then J false else J (E3 != 6)) else (none))) else (if E1 = 6 then (if E2 = 0 then (if E3 = 0 then J false else J (E3 != 6)) else (if E2 = 6 then (if E3 = 0 then J false else J (E3 != 6)) else (none))) else (none)))))) = some true := by
  rcases h1 with ⟨rfl, rfl⟩ | ⟨rfl, rfl⟩ <;> rcases h2 with ⟨rfl, rfl⟩ | ⟨rfl, rfl⟩ <;> rcases h3 with ⟨rfl, rfl⟩ | ⟨rfl, rfl⟩ <;> simpa using hJ

theorem j_law {k : Nat} {x y z : Bool} {la lb P S D : List Int} {t1 t2 s1 s2 d1 d2 : Int}
    (h1 : (x = true ∧ demurrageref01_Is.f k t1 t2 P = some true) ∨ (x = false ∧ t1 = 0 ∧ t2 = 0))
    (h2 : (y = true ∧ demurrageref01_Is.f k s1 s2 S = some true) ∨ (y = false ∧ s1 = 0 ∧ s2 = 0))
    (h3 : (z = true ∧ demurrageref01_Less.f k la lb = some D ∧ demurrageref01_Is.f k d1 d2 D = some true) ∨ (z = false ∧ d1 = 0 ∧ d2 = 0)) :
    demurragelaw01_WideTells.j0 (k + 1) true x y z false la lb t1 t2 s1 s2 d1 d2 P S = some true := by
  have zz : ((0 : Int) == 0 && ((0 : Int) == 0)) = true := by decide
  rw [demurragelaw01_WideTells.j0, if_neg (by decide), if_pos rfl]
  rcases h1 with ⟨rfl, h1⟩ | ⟨rfl, rfl, rfl⟩
  · rw [if_pos rfl, h1, Option.bind_some, if_pos rfl]
    rcases h2 with ⟨rfl, h2⟩ | ⟨rfl, rfl, rfl⟩
    · rw [if_pos rfl, h2, Option.bind_some, if_pos rfl]
      rcases h3 with ⟨rfl, h3, h4⟩ | ⟨rfl, rfl, rfl⟩
      · rw [if_pos rfl, h3, Option.bind_some, h4, Option.bind_some, if_pos rfl]
      · rw [if_neg (by decide), zz]
    · rw [if_neg (by decide), if_pos zz]
      rcases h3 with ⟨rfl, h3, h4⟩ | ⟨rfl, rfl, rfl⟩
      · rw [if_pos rfl, h3, Option.bind_some, h4, Option.bind_some, if_pos rfl]
      · rw [if_neg (by decide), zz]
  · rw [if_neg (by decide), if_pos zz]
    rcases h2 with ⟨rfl, h2⟩ | ⟨rfl, rfl, rfl⟩
    · rw [if_pos rfl, h2, Option.bind_some, if_pos rfl]
      rcases h3 with ⟨rfl, h3, h4⟩ | ⟨rfl, rfl, rfl⟩
      · rw [if_pos rfl, h3, Option.bind_some, h4, Option.bind_some, if_pos rfl]
      · rw [if_neg (by decide), zz]
    · rw [if_neg (by decide), if_pos zz]
      rcases h3 with ⟨rfl, h3, h4⟩ | ⟨rfl, rfl, rfl⟩
      · rw [if_pos rfl, h3, Option.bind_some, h4, Option.bind_some, if_pos rfl]
      · rw [if_neg (by decide), zz]

theorem bsg_neg {x y : Int} : bsg x y < 0 ↔ x < y := by
  unfold bsg
  repeat' split
  all_goals omega

theorem is_true {h l : Int} {m : List Int} (a1 : U64 h) (a2 : U64 l) (dm : Digs m) (lm : m.length < 1000000) (e : wv h l = bv m) : At (fun k => demurrageref01_Is.f k h l m) true := by
  have := is_at a1 a2 dm lm
  rw [decide_eq_true e] at this
  exact this

/-- A told number and a number of any size: equal, or 0 and too great. -/
theorem told_is {v : Int} {m : List Int} {c : Prop} [Decidable c] {o : Option (Int × Int × Int)} (dm : Digs m) (lm : m.length < 1000000) (em : bv m = v)
    (ho : o = some (if c then (v / 18446744073709551616, v % 18446744073709551616, 0) else (0, 0, 6))) (hv : c → 0 ≤ v ∧ v < 340282366920938463463374607431768211456) :
    ∃ h l E : Int, o = some (h, l, E) ∧ ((E = 0 ∧ decide c = true) ∨ (E = 6 ∧ decide c = false)) ∧ ∃ K, ∀ k, K ≤ k → ((decide c = true ∧ demurrageref01_Is.f k h l m = some true) ∨ (decide c = false ∧ h = 0 ∧ l = 0)) := by
  by_cases hc : c
  · rw [if_pos hc] at ho
    obtain ⟨v0, v1⟩ := hv hc
    obtain ⟨p1, p2, p3⟩ := wv_parts v0 v1
    obtain ⟨K, i⟩ := is_true p1 p2 dm lm (by rw [p3, em])
    exact ⟨_, _, _, ho, Or.inl ⟨rfl, decide_eq_true hc⟩, K, fun k hk => Or.inl ⟨decide_eq_true hc, i k hk⟩⟩
  · rw [if_neg hc] at ho
    exact ⟨_, _, _, ho, Or.inr ⟨rfl, decide_eq_false hc⟩, 0, fun k _ => Or.inr ⟨decide_eq_false hc, rfl, rfl⟩⟩

theorem WideTells (a b c d n : Int) (wa : (Lit.int .u64 a).wf = true) (wb : (Lit.int .u64 b).wf = true) (wc : (Lit.int .u64 c).wf = true) (wd : (Lit.int .u64 d).wf = true) (wn : (Lit.int .u64 n).wf = true) :
    ∃ k, demurragelaw01_WideTells.f k a b c d n = some true := by
  have ha := u64_wf wa
  have hb := u64_wf wb
  have hc := u64_wf wc
  have hd := u64_wf wd
  have hn := u64_wf wn
  have lx := wv_lt ha hb
  have ly := wv_lt hc hd
  obtain ⟨la, ⟨K1, h1⟩, A2, A3, A4⟩ := fromW_at ha hb
  obtain ⟨lb, ⟨K2, h2⟩, B2, B3, B4⟩ := fromW_at hc hd
  obtain ⟨lc, ⟨K3, h3⟩, C2, C3, C4, C5⟩ := fromU_at hn
  obtain ⟨L, ⟨K4, h4⟩, L2, L3, L4⟩ := limit_at
  obtain ⟨P, ⟨K5, h5⟩, P2, P3, P4, P5⟩ := prod_at A2 C2 (by omega) (by omega)
  obtain ⟨S, ⟨K6, h6⟩, S2, S3, S4⟩ := plus_at A2 B2 (by omega) (by omega)
  obtain ⟨K7, h7⟩ := cmp_at P2 L2 (by omega) (by omega)
  obtain ⟨K8, h8⟩ := cmp_at S2 L2 (by omega) (by omega)
  obtain ⟨K9, h9⟩ := cmp_at A2 B2 (by omega) (by omega)
  have eP : bv P = wv a b * n := by rw [P3, A3, C3]
  have eS : bv S = wv a b + wv c d := by rw [S3, A3, B3]
  rw [eP, L3] at h7
  rw [eS, L3] at h8
  rw [A3, B3] at h9
  have p0 : 0 ≤ wv a b * n := Int.mul_nonneg lx.1 hn.1
  obtain ⟨t1, t2, E1, et, f1, K10, g1⟩ := told_is P2 (by omega) eP (times_eq ha hb hn) (fun h => ⟨p0, h⟩)
  obtain ⟨s1, s2, E2, es, f2, K11, g2⟩ := told_is S2 (by omega) eS (add_eq ha hb hc hd) (fun h => ⟨by omega, h⟩)
  have sub : ∃ d1 d2 E3 : Int, wide_Sub.f a b c d = some (d1, d2, E3) ∧ ((E3 = 0 ∧ decide (wv c d ≤ wv a b) = true) ∨ (E3 = 6 ∧ decide (wv c d ≤ wv a b) = false)) ∧ ∃ D K, ∀ k, K ≤ k →
      ((decide (wv c d ≤ wv a b) = true ∧ demurrageref01_Less.f k la lb = some D ∧ demurrageref01_Is.f k d1 d2 D = some true) ∨ (decide (wv c d ≤ wv a b) = false ∧ d1 = 0 ∧ d2 = 0)) := by
    by_cases le : wv c d ≤ wv a b
    · obtain ⟨D, ⟨K, q1⟩, q2, q3, q4, q5⟩ := less_at A2 B2 (by omega) (by rw [A3, B3]; exact le)
      obtain ⟨d1, d2, E3, es, f3, K', g3⟩ := told_is q2 (by omega) (by rw [q3, A3, B3]) (sub_eq ha hb hc hd) (fun h => ⟨by omega, by omega⟩)
      refine ⟨d1, d2, E3, es, f3, D, K + K', fun k hk => ?_⟩
      rcases g3 k (by omega) with ⟨i1, i2⟩ | i
      · exact Or.inl ⟨i1, q1 k (by omega), i2⟩
      · exact Or.inr i
    · have e := sub_eq ha hb hc hd
      rw [if_neg le] at e
      exact ⟨0, 0, 6, e, Or.inr ⟨rfl, decide_eq_false le⟩, [], 0, fun k _ => Or.inr ⟨decide_eq_false le, rfl, rfl⟩⟩
  obtain ⟨d1, d2, E3, ed, f3, D, K12, g3⟩ := sub
  obtain ⟨K13, h13⟩ := is_true (h := 0) (l := n) (by decide) hn C2 (by omega) (by rw [C3]; unfold wv; omega)
  obtain ⟨lo, ⟨K14, h14⟩, O2, O3, O4, O5⟩ := fromU_at hb
  obtain ⟨Q, ⟨K15, h15⟩, Q2, Q3, Q4, Q5⟩ := prod_at O2 C2 (by omega) (by omega)
  have ml := mul_lt hb hn
  obtain ⟨m1, m2, m3⟩ := wv_parts ml.1 (by omega)
  obtain ⟨K16, h16⟩ := is_true m1 m2 Q2 (by omega) (by rw [m3, Q3, O3, C3])
  have ew := wcmp_eq ha hb hc hd
  have em := mul_eq hb hn
  generalize hk : K1 + K2 + K3 + K4 + K5 + K6 + K7 + K8 + K9 + K10 + K11 + K12 + K13 + K14 + K15 + K16 = k
  have h1 : demurrageref01_FromW.f (k + 1) a b = some la := h1 _ (by omega)
  have h2 : demurrageref01_FromW.f (k + 1) c d = some lb := h2 _ (by omega)
  have h3 : demurrageref01_FromU.f (k + 1) n = some lc := h3 _ (by omega)
  have h4 : demurrageref01_Limit.f (k + 1) = some L := h4 _ (by omega)
  have h5 : demurrageref01_Prod.f (k + 1) la lc = some P := h5 _ (by omega)
  have h6 : demurrageref01_Plus.f (k + 1) la lb = some S := h6 _ (by omega)
  have h7 : demurrageref01_Cmp.f (k + 1) P L = some (bsg (wv a b * n) 340282366920938463463374607431768211456) := h7 _ (by omega)
  have h8 : demurrageref01_Cmp.f (k + 1) S L = some (bsg (wv a b + wv c d) 340282366920938463463374607431768211456) := h8 _ (by omega)
  have h9 : demurrageref01_Cmp.f (k + 1) la lb = some (bsg (wv a b) (wv c d)) := h9 _ (by omega)
  have h13 : demurrageref01_Is.f (k + 1) 0 n lc = some true := h13 _ (by omega)
  have h14 : demurrageref01_FromU.f (k + 1) b = some lo := h14 _ (by omega)
  have h15 : demurrageref01_Prod.f (k + 1) lo lc = some Q := h15 _ (by omega)
  have h16 : demurrageref01_Is.f (k + 1) (b * n / 18446744073709551616) (b * n % 18446744073709551616) Q = some true := h16 _ (by omega)
  have g1 := g1 k (by omega)
  have g2 := g2 k (by omega)
  have g3 := g3 k (by omega)
  have J := j_law (la := la) (lb := lb) g1 g2 g3
  have u1 : decide (bsg (wv a b * n) 340282366920938463463374607431768211456 < 0) = decide (wv a b * n < 340282366920938463463374607431768211456) := decide_eq_decide.mpr bsg_neg
  have u2 : decide (bsg (wv a b + wv c d) 340282366920938463463374607431768211456 < 0) = decide (wv a b + wv c d < 340282366920938463463374607431768211456) := decide_eq_decide.mpr bsg_neg
  have u3 : decide (0 ≤ bsg (wv a b) (wv c d)) = decide (wv c d ≤ wv a b) := by
    rw [decide_eq_decide]
    unfold bsg
    repeat' split
    all_goals omega
  have u4 : (if wv a b < wv c d then (-1 : Int) else if wv a b = wv c d then 0 else 1) = bsg (wv a b) (wv c d) := rfl
  rw [u4] at ew
  refine ⟨k + 1, ?_⟩
  unfold demurragelaw01_WideTells.f
  rw [shown_one, Option.bind_some, h1, Option.bind_some, h2, Option.bind_some, h3, Option.bind_some, h4, Option.bind_some, et, Option.bind_some, es, Option.bind_some, ed, Option.bind_some, h5, Option.bind_some, h6, Option.bind_some,
    h7, Option.bind_some, h8, Option.bind_some, h9, Option.bind_some, of_eq, Option.bind_some, h13, Option.bind_some, if_pos rfl, em, Option.bind_some, h14, Option.bind_some, h15, Option.bind_some, h16, Option.bind_some, if_pos rfl, ew, Option.bind_some, Option.bind_some, if_pos rfl, u1, u2, u3]
  exact tail_law f1 f2 f3 (J := fun x => demurragelaw01_WideTells.j0 (k + 1) true (decide (wv a b * n < 340282366920938463463374607431768211456)) (decide (wv a b + wv c d < 340282366920938463463374607431768211456)) (decide (wv c d ≤ wv a b)) x la lb t1 t2 s1 s2 d1 d2 P S) J
end Go.Proofs.Ytdgflpefjinleaa.Pure
