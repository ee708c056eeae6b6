/- RoundTells: quotients, rounded down, and to the next whole number, are as the document says. -/
import Derived.Test.YtcdbmmlnmefoeaaPRoundTellsXRoundTells
import Derived.Test.YtcdbmmlnmefoeaaPRoundTellsTRefThree
import Derived.Test.YtcdbmmlnmefoeaaPRoundTellsTMore
set_option maxRecDepth 10000
namespace Go.Proofs.Ytcdbmmlnmefoeaa.Pure
open Go.RowKit Go.Proofs.Ytcdbmmlnmefoeaa.X Go.Proofs.YtcdbmmlnmefoeaaW.PrintWords Go.Proofs.YtcdbmmlnmefoeaaW.PrintLast

theorem tells {s : Nat → Option Bool} {f1 : Option (Int × Int)} {f2 f3 f4 : Nat → Option (Int × Int)} {p q : Int × Int} (h : At s true) (h1 : f1 = some p) (h2 : At f2 p) (h3 : At f3 q) (h4 : At f4 q) :
    ∃ k, ((s k).bind fun t => (f1.bind fun u => ((f2 k).bind fun v => ((f3 k).bind fun w => ((f4 k).bind fun x => (if t = true then (if u.1 = v.1 then (if u.2 = v.2 then (if w.1 = x.1 then (some (w.2 == x.2)) else (none)) else (none)) else (none)) else (none))))))) = some true := by
  obtain ⟨K, h⟩ := h
  obtain ⟨K2, h2⟩ := h2
  obtain ⟨K3, h3⟩ := h3
  obtain ⟨K4, h4⟩ := h4
  refine ⟨max (max K K2) (max K3 K4), ?_⟩
  rw [h (max (max K K2) (max K3 K4)) (by omega), Option.bind_some, h1, Option.bind_some, h2 _ (by omega), Option.bind_some, h3 _ (by omega), Option.bind_some, h4 _ (by omega), Option.bind_some]
  rw [if_pos rfl, if_pos rfl, if_pos rfl, if_pos rfl, beq_self_eq_true]

theorem RoundTells (a b d : Int) (wa : (Lit.int .u64 a).wf = true) (wb : (Lit.int .u64 b).wf = true) (wd : (Lit.int .u64 d).wf = true) : ∃ k, demurragelaw03_RoundTells.f k a b d = some true := by
  have ha := u64_wf wa
  have hb := u64_wf wb
  have hd := u64_wf wd
  have s : At (fun k => demurragelaw03_shown.f k) true := At.grow (K := 5) demurragelaw03_shown.mono shown_three
  unfold demurragelaw03_RoundTells.f
  by_cases h0 : d = 0
  · subst h0
    have e1 : round_Down.f a b 0 = some (0, 7) := by
      unfold round_Down.f
      rw [div_zero ha hb, Option.bind_some]
      rfl
    have e2 : ∀ k, round_Even.f k a b 0 = some (0, 7) := by
      intro k
      unfold round_Even.f
      rw [div_zero ha hb, Option.bind_some]
      rfl
    have e3 : ∀ k, demurrageref03_Down.f k a b 0 = some (0, 7) := by
      intro k
      unfold demurrageref03_Down.f
      rw [if_pos rfl]
    have e4 : ∀ k, demurrageref03_Even.f k a b 0 = some (0, 7) := by
      intro k
      unfold demurrageref03_Even.f
      rw [if_pos rfl]
    exact tells (f2 := fun k => demurrageref03_Down.f k a b 0) (f3 := fun k => round_Even.f k a b 0) (f4 := fun k => demurrageref03_Even.f k a b 0) s e1 ⟨0, fun k _ => e3 k⟩ ⟨0, fun k _ => e2 k⟩ ⟨0, fun k _ => e4 k⟩
  · have hp : 0 < d := by have := hd.1; omega
    have n := ev_near (x := wv a b) hp
    have e2 : At (fun k => round_Even.f k a b d) (if ev (wv a b) d ≤ 4611686018427387904 then (ev (wv a b) d, 0) else (0, 6)) := by
      refine ⟨1, fun k hk => ?_⟩
      obtain ⟨j, rfl⟩ : ∃ j, k = j + 1 := ⟨k - 1, by omega⟩
      show round_Even.f (j + 1) a b d = _
      rw [even_eq ha hb hd h0 j]
      by_cases c : ev (wv a b) d ≤ 4611686018427387904
      · rw [if_pos c, if_pos ⟨by omega, c⟩]
      · rw [if_neg c, if_neg (fun x => c x.2)]
    exact tells (f2 := fun k => demurrageref03_Down.f k a b d) (f3 := fun k => round_Even.f k a b d) (f4 := fun k => demurrageref03_Even.f k a b d) s (down_eq ha hb hd h0) (rdown_at ha hb hd h0) e2 (reven_at ha hb hd h0)
end Go.Proofs.Ytcdbmmlnmefoeaa.Pure
