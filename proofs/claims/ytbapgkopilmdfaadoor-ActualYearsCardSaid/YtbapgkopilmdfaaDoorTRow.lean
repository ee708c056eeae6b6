/- A struct of integers (structs of such in it), read as an argument: the cells written out, one after the other. -/
import Derived.Test.YtbapgkopilmdfaaDoorRows
import Derived.WalkKit
import Derived.ProofKit
import Derived.OpenShut
import Derived.ChangeArms
import Derived.WideShapes
import Derived.Below
import Derived.Carry
namespace Go.Proofs.YtbapgkopilmdfaaDoor.Flat
open Go.ChangeShapes Go.WideShapes Go.ChangeAt Go.RowKit

/-- The cells are integers of these kinds. -/
def Cells : List IntKind → List Value → Prop
  | [], [] => True
  | k :: ks, v :: vs => (∃ n, v = .int k n ∧ (Lit.int k n).wf = true) ∧ Cells ks vs
  | _, _ => False
theorem cells_cons {k : IntKind} {ks : List IntKind} {l : List Value} (h : Cells (k :: ks) l) : ∃ n vs, l = .int k n :: vs ∧ (Lit.int k n).wf = true ∧ Cells ks vs := by
  cases l with
  | nil => exact h.elim
  | cons v vs => obtain ⟨⟨n, rfl, hw⟩, h⟩ := h; exact ⟨n, vs, rfl, hw, h⟩
theorem cells_nil {l : List Value} (h : Cells [] l) : l = [] := by
  cases l with
  | nil => rfl
  | cons v vs => exact h.elim
theorem cells_append : ∀ {ks js : List IntKind} {l m : List Value}, Cells ks l → Cells js m → Cells (ks ++ js) (l ++ m)
  | [], _, l, m, h, g => by rw [cells_nil h]; exact g
  | k :: ks, _, l, m, h, g => by
    obtain ⟨n, vs, rfl, hw, h⟩ := cells_cons h
    exact ⟨⟨n, rfl, hw⟩, cells_append h g⟩

def fieldKinds (P : Program) (g : TypeId → Option (List IntKind)) : List Field → Nat → Option (List IntKind)
  | [], _ => some []
  | f :: r, off => if f.offset = off then
      match g f.type with
      | some ks => if P.cellsOf f.type = ks.length then (fieldKinds P g r (off + ks.length)).map (ks ++ ·) else none
      | none => none
    else none
def kinds (P : Program) : Nat → TypeId → Option (List IntKind)
  | 0, _ => none
  | n + 1, t => match P.underlying t with
    | some (.int k) => some [k]
    | some (.struct fs) => fieldKinds P (kinds P n) fs.toList 0
    | _ => none

section
variable {H : Type} {enc : TypeId × Value → H} {P : Program} {w : World} {base : Nat} {spare : Nat → Bool} {held : Bool}

theorem fields_read {g : TypeId → Option (List IntKind)} {fuel : Nat} {cs : List Value}
    (hg : ∀ t ks l x, g t = some ks → P.cellsOf t = ks.length → DataW.trod enc P w base spare held fuel t l = some x → Cells ks l ∧ x.2 = []) :
    ∀ (fs : List Field) (xs : List (DataW H × List MemPlace)) (off : Nat) (ks : List IntKind), fieldKinds P g fs off = some ks → cs.length = off + ks.length → xs.length = fs.length →
      (∀ (i : Nat) (f : Field), fs[i]? = some f → DataW.trod enc P w base spare held fuel f.type ((cs.drop f.offset).take (P.cellsOf f.type)) = xs[i]?) →
      Cells ks (cs.drop off) ∧ xs.flatMap (·.2) = []
  | [], xs, off, ks, hk, hl, hx, _ => by
    cases hk
    have e : xs = [] := List.eq_nil_of_length_eq_zero hx
    subst e
    have e2 : cs.drop off = [] := List.drop_eq_nil_of_le (by simp at hl; omega)
    rw [e2]
    exact ⟨trivial, rfl⟩
  | f :: r, [], off, ks, hk, hl, hx, _ => by simp at hx
  | f :: r, y :: ys, off, ks, hk, hl, hx, hf => by
    unfold fieldKinds at hk
    split at hk
    · rename_i ho
      split at hk
      · rename_i js hj
        split at hk
        · rename_i hc
          simp only [Option.map_eq_some_iff] at hk
          obtain ⟨rs, hr, rfl⟩ := hk
          have h0 := hf 0 f rfl
          rw [ho, hc] at h0
          obtain ⟨c1, p1⟩ := hg _ _ _ _ hj hc h0
          have hl2 : cs.length = off + js.length + rs.length := by rw [hl, List.length_append]; omega
          obtain ⟨c2, p2⟩ := fields_read hg r ys (off + js.length) rs hr hl2 (by simpa using hx) (fun i f' hi => by simpa using hf (i + 1) f' (by simpa using hi))
          refine ⟨?_, by rw [List.flatMap_cons, p1, p2]; rfl⟩
          have e : cs.drop off = (cs.drop off).take js.length ++ cs.drop (off + js.length) := by rw [← List.drop_drop, List.take_append_drop]
          rw [e]
          exact cells_append c1 c2
        · cases hk
      · cases hk
    · cases hk
theorem read : ∀ (n fuel : Nat) (t : TypeId) (ks : List IntKind) (l : List Value) (x : DataW H × List MemPlace), kinds P n t = some ks → P.cellsOf t = ks.length →
    DataW.trod enc P w base spare held fuel t l = some x → Cells ks l ∧ x.2 = []
  | 0, _, _, _, _, _, hk, _, _ => by cases hk
  | n + 1, fuel, t, ks, l, x, hk, hc, h => by
    unfold kinds at hk
    split at hk
    · rename_i k hu
      cases hk
      obtain ⟨z, rfl, rfl, hw⟩ := DataW.trod_int hu h
      exact ⟨⟨⟨z, rfl, hw⟩, trivial⟩, rfl⟩
    · rename_i fs hu
      obtain ⟨xs, m, rfl, rfl, hl, hxs, hf⟩ := DataW.trod_struct hu h
      have hall : ∀ t ks l x, kinds P n t = some ks → P.cellsOf t = ks.length → DataW.trod enc P w base spare held m t l = some x → Cells ks l ∧ x.2 = [] := fun t ks l x a b c => read n m t ks l x a b c
      have := fields_read hall fs.toList xs 0 ks hk (by omega) (by simpa using hxs) (fun i f hi => hf i f (by simpa using hi))
      simpa using this
    · cases hk

/-- A struct of integers, by value: opened. -/
theorem open_flat {r : Reach} {b0 n : Nat} {t : TypeId} {fs : Array Field} {ks : List IntKind} {v : Value} {d : DataW H} {ps : List MemPlace} (ht : P.underlying t = some (.struct fs)) (hk : kinds P n t = some ks) (hc : P.cellsOf t = ks.length)
    (hv : Value.okWide P w r b0 t v) (h : DataW.Trod enc P w base spare held t v d ps) : ∃ l : List Value, v = .agg l.toArray ∧ ps = [] ∧ Cells ks l := by
  obtain ⟨cs, rfl, _⟩ := okWide_struct ht hv
  obtain ⟨fuel, hf⟩ := h
  obtain ⟨h1, h2⟩ := read n fuel t ks _ _ hk hc hf
  refine ⟨cs.toList, by simp, h2, ?_⟩
  simpa [Value.cells] using h1
end
end Go.Proofs.YtbapgkopilmdfaaDoor.Flat
namespace Go.Proofs.YtbapgkopilmdfaaDoor
theorem headLaid : laidOutB Tryd.prog = true := by kernel_rfl
end Go.Proofs.YtbapgkopilmdfaaDoor
