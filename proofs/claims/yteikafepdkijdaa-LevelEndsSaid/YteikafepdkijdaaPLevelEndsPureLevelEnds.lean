/- LevelEnds: whether tables with payments end, and codes, are as the document says. -/
import Derived.Test.YteikafepdkijdaaPLevelEndsXLevelEnds
import Derived.Test.YteikafepdkijdaaPLevelEndsT
set_option maxRecDepth 10000
namespace Go.Proofs.Yteikafepdkijdaa.Pure
open Go.RowKit Go.Proofs.Yteikafepdkijdaa.X Go.Proofs.YteikafepdkijdaaW.PrintWords Go.Proofs.YteikafepdkijdaaW.PrintLast

/-- Least and Table come to an end, with the document's code. -/
theorem both_at {a b : Int} (hb : b < 9223372036854775808) (ps : List S56) (hp : ps.length ≤ 1200) :
    ∃ (w : Int) (p : Int) (l : List S48), At (fun k => level_Least.f k a b ps) (p, w) ∧ At (fun k => level_Table.f k a b ps) (l, w) ∧ At (fun k => demurrageref20_Why.f k a b ps) w := by
  obtain ⟨R, ⟨K1, r1⟩, r2, _, _, r5, _⟩ := most_at (a := a) (b := b) hb ps hp
  by_cases e : R.2 = 0
  · obtain ⟨hpos, a0, a1, h0, h1, _⟩ := r5 e
    have each : ∀ x : Int, ∃ t : Bool, At (fun k => level_ends.f k a b ps x) t := fun x => by
      obtain ⟨t, ht, _⟩ := endsv_at a b x (by omega) hb ps hp hpos
      exact ⟨t, ht⟩
    obtain ⟨p, p1, p2, ⟨K2, p3⟩, _⟩ := search (m := a) (r := b) (ps := ps) (E := fun x => Classical.choose (each x)) (fun x _ _ => Classical.choose_spec (each x)) R.1.toNat 0 R.1 (Int.le_refl _) h0 (by omega) h1
    obtain ⟨S, _, ⟨K3, s1⟩, _⟩ := with_at a b p (by omega) hb ps hp hpos
    have least : ∀ k, K1 + K2 ≤ k → level_Least.f k a b ps = some (p, 0) := fun k hk => by
      have r1 : level_most.f k a b ps = some R := r1 k (by omega)
      have p3 : level_Least.l0 k a b ps 0 R.1 = some p := p3 k (by omega)
      unfold level_Least.f
      rw [r1, Option.bind_some, if_pos e, p3, Option.bind_some]
    refine ⟨0, p, S.1, ⟨K1 + K2, fun k hk => least k hk⟩, ⟨K1 + K2 + K3, fun k hk => ?_⟩, ?_⟩
    · have s1 : level_rows.f k a b ps p = some S := s1 k (by omega)
      show level_Table.f k a b ps = _
      unfold level_Table.f
      rw [least k (by omega), Option.bind_some, if_pos rfl, s1, Option.bind_some]
    · rw [← e]
      exact r2
  · have least : ∀ k, K1 ≤ k → level_Least.f k a b ps = some (0, R.2) := fun k hk => by
      have r1 : level_most.f k a b ps = some R := r1 k (by omega)
      unfold level_Least.f
      rw [r1, Option.bind_some, if_neg e]
    refine ⟨R.2, 0, [], ⟨K1, fun k hk => least k hk⟩, ⟨K1, fun k hk => ?_⟩, r2⟩
    show level_Table.f k a b ps = _
    unfold level_Table.f
    rw [least k hk, Option.bind_some, if_neg e]

theorem LevelEnds (a b : Int) (l : List S56) (c : Int) (wa : (Lit.int .i64 a).wf = true) (wb : (Lit.int .i64 b).wf = true) (_ : ∀ x ∈ l, (Lit.int .i64 x.f0).wf = true ∧ (Lit.int .i64 x.f1).wf = true) (_ : (Lit.int .i64 c).wf = true) : ∃ k, demurragelaw20_LevelEnds.f k a b l c = some true := by
  have ha := i64_wf wa
  have hb := i64_wf wb
  obtain ⟨K0, h0⟩ := shown_at
  by_cases g : (l.length : Int) > 30
  · refine ⟨K0, ?_⟩
    have h0 : demurragelaw20_shown.f K0 = some true := h0 K0 (Nat.le_refl _)
    unfold demurragelaw20_LevelEnds.f
    rw [h0, Option.bind_some, if_pos g]
  · obtain ⟨R, ⟨K1, r1⟩, ⟨K2, r2⟩⟩ := ends_at (a := a) (rate := b) c ha.2 hb.2 l (by omega)
    obtain ⟨w, p, t, ⟨K3, s1⟩, ⟨K4, s2⟩, ⟨K5, s3⟩⟩ := both_at (a := a) (b := b) hb.2 l (by omega)
    generalize hk : K0 + K1 + K2 + K3 + K4 + K5 = k
    have h0 : demurragelaw20_shown.f k = some true := h0 k (by omega)
    have r1 : level_Ends.f k a b l c = some R := r1 k (by omega)
    have r2 : demurrageref20_Ends.f k a b l c = some R := r2 k (by omega)
    have s1 : level_Least.f k a b l = some (p, w) := s1 k (by omega)
    have s2 : level_Table.f k a b l = some (t, w) := s2 k (by omega)
    have s3 : demurrageref20_Why.f k a b l = some w := s3 k (by omega)
    refine ⟨k, ?_⟩
    unfold demurragelaw20_LevelEnds.f
    rw [h0, Option.bind_some, if_neg g, r1, Option.bind_some, r2, Option.bind_some, s1, Option.bind_some, s2, Option.bind_some, s3, Option.bind_some, if_pos rfl, if_pos (beq_self_eq_true _), if_pos rfl, if_pos rfl, beq_self_eq_true]
end Go.Proofs.Yteikafepdkijdaa.Pure
