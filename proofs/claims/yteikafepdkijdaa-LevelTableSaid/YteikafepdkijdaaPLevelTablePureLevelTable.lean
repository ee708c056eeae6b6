/- LevelTable: the table is the one with the least payment, row by row; it is sound: interest of what is open, all paid back, nothing open beyond 0 and the amount. -/
import Derived.Test.YteikafepdkijdaaPLevelTableXLevelTable
import Derived.Test.YteikafepdkijdaaPLevelTableT
import Derived.Test.YteikafepdkijdaaPLevelTableXSound
import Derived.Test.YteikafepdkijdaaPLevelTableXSame
set_option maxRecDepth 10000
namespace Go.Proofs.Yteikafepdkijdaa.Pure
open Go.RowKit Go.Proofs.Yteikafepdkijdaa.X Go.Proofs.YteikafepdkijdaaW.PrintWords Go.Proofs.YteikafepdkijdaaW.PrintLast

theorem lrow_is {m r pay : Int} {ps : List S56} {i : Nat} {o v b : Int} (ho : op m r pay ps i = o) (hv : intr o r (rd_T56 ps (i : Int)) = v) (hb : (if i + 1 = ps.length then o else bkv pay v o) = b) : lrow m r pay ps i = ⟨o, v, b, v + b, o - b⟩ := by
 unfold lrow
 rw [ho, hv, hb]
theorem op_next {m r pay : Int} {ps : List S56} {i : Nat} {o v b : Int} (ho : op m r pay ps i = o) (hv : intr o r (rd_T56 ps (i : Int)) = v) (hb : (if i + 1 = ps.length then o else bkv pay v o) = b) : o - b = (if i + 1 = ps.length then 0 else op m r pay ps (i + 1)) := by
 by_cases c : i + 1 = ps.length
 ·rw [if_pos c] at hb ⊢
  omega
 ·rw [if_neg c] at hb
  rw [if_neg c]
  show o - b = op m r pay ps i - bkv pay (intr (op m r pay ps i) r (rd_T56 ps (i : Int))) (op m r pay ps i)
  rw [ho, hv, hb]

theorem lsound_from {m r pay : Int} {ps : List S56} (m0 : 0 ≤ m) (m1 : m ≤ 1000000000000000) (r0 : 0 ≤ r) (r1 : r ≤ 9000) (hp : ps.length ≤ 1200) (hu : ∀ j : Nat, j < ps.length → Us (rd_T56 ps (j : Int))) :
  ∀ (d i : Nat), i + d = ps.length → ∀ o : Int, o = (if i = ps.length then 0 else op m r pay ps i) →
   At (fun k => demurrageref19_Sound.l0 k ((List.range ps.length).map (lrow m r pay ps)) r ps o (i : Int)) true := by
 intro d
 induction d with
 | zero =>
  intro i hi o hoo
  have hi : i = ps.length := by omega
  rw [if_pos hi] at hoo
  subst hoo
  refine ⟨1, fun k hk => ?_⟩
  obtain ⟨q, rfl⟩ : ∃ q, k = q + 1 := ⟨k - 1, by omega⟩
  show demurrageref19_Sound.l0 (q + 1) ((List.range ps.length).map (lrow m r pay ps)) r ps 0 (i : Int) = _
  rw [demurrageref19_Sound.l0, lrow_length, if_neg (by omega)]
  rfl
 | succ d ih =>
  intro i hi o hoo
  have hlt : i < ps.length := by omega
  rw [if_neg (by omega)] at hoo
  have oi := op_in (r := r) (pay := pay) (ps := ps) m0 i
  rw [← hoo] at oi
  obtain ⟨f1, f2, f3⟩ := intr_fits (o := o) (r := r) (x := rd_T56 ps (i : Int)) (by omega) (by omega) r0 r1 (hu i hlt)
  obtain ⟨K1, a1⟩ := refof_at (a := o) (b := r) (n := (rd_T56 ps (i : Int)).f0) (d := (rd_T56 ps (i : Int)).f1) (by omega) (by omega)
  rw [f1] at a1
  clear f1
  obtain ⟨v, hv⟩ : ∃ v : Int, intr o r (rd_T56 ps (i : Int)) = v := ⟨_, rfl⟩
  rw [hv] at a1 f2 f3
  obtain ⟨b, hb⟩ : ∃ b : Int, (if i + 1 = ps.length then o else bkv pay v o) = b := ⟨_, rfl⟩
  have rr := lrow_rd m r pay ps hlt
  rw [lrow_is hoo.symm hv hb] at rr
  have b0 : 0 ≤ b ∧ b ≤ o := by
   have h := bkv_in (pay := pay) (n := v) oi.1
   rw [← hb]
   clear hv hb rr
   split <;> omega
  obtain ⟨K2, g⟩ := ih (i + 1) (by clear hv hb rr; omega) (o - b) (op_next hoo.symm hv hb)
  clear hv hb
  have t1 : (i : Int) < (ps.length : Int) := by omega
  have t2 : (0 : Int) ≤ (i : Int) := by omega
  have t3 : ¬ b < 0 := by omega
  have t4 : ¬ o - b < 0 := by omega
  have w4 : o - b = wrap64 (o - b) := (wrap64_small (by omega) (by omega)).symm
  have w3 : v + b = wrap64 (v + b) := (wrap64_small (by clear w4; omega) (by clear w4; omega)).symm
  have wi : wrap64 ((i : Int) + 1) = ((i + 1 : Nat) : Int) := by
   clear w4 w3 rr
   rw [wrap64_small (by omega) (by omega)]
   omega
  refine ⟨K1 + K2 + 1, fun k hk => ?_⟩
  obtain ⟨q, rfl⟩ : ∃ q, k = q + 1 := ⟨k - 1, by clear w4 w3 wi; omega⟩
  have a1 : demurrageref18_Of.f q o r (rd_T56 ps (i : Int)).f0 (rd_T56 ps (i : Int)).f1 = some (v, 0) := a1 q (by clear w4 w3 wi; omega)
  have g := g q (by clear w4 w3 wi; omega)
  show demurrageref19_Sound.l0 (q + 1) ((List.range ps.length).map (lrow m r pay ps)) r ps o (i : Int) = _
  rw [demurrageref19_Sound.l0, lrow_length, if_pos t1, if_pos t2, if_pos t1, a1, Option.bind_some, if_pos rfl, rr]
  show (if o = o then _ else _) = _
  rw [if_pos rfl, if_pos rfl, if_neg t3, if_pos w4, if_neg t4, if_pos w3, wi]
  exact g

theorem lsound_at {m r pay : Int} {ps : List S56} (m0 : 0 ≤ m) (m1 : m ≤ 1000000000000000) (r0 : 0 ≤ r) (r1 : r ≤ 9000) (hp : ps.length ≤ 1200) (hu : ∀ j : Nat, j < ps.length → Us (rd_T56 ps (j : Int))) (hpos : 0 < ps.length) :
  At (fun k => demurrageref19_Sound.f k ((List.range ps.length).map (lrow m r pay ps)) m r ps) true := by
 obtain ⟨K, h⟩ := lsound_from (pay := pay) m0 m1 r0 r1 hp hu ps.length 0 (by omega) m (by rw [if_neg (by omega)]; rfl)
 refine ⟨K + 1, fun k hk => ?_⟩
 obtain ⟨q, rfl⟩ : ∃ q, k = q + 1 := ⟨k - 1, by omega⟩
 show demurrageref19_Sound.f (q + 1) ((List.range ps.length).map (lrow m r pay ps)) m r ps = _
 unfold demurrageref19_Sound.f
 rw [lrow_length, if_pos rfl, beq_eq_false_iff_ne.mpr (by omega), demurrageref19_Sound.j0, if_neg (by decide)]
 exact h q (by omega)

theorem bkv_one {pay v o : Int} (h : 0 ≤ o) : bkv pay v o = 0 ∨ bkv pay v o = pay - v ∨ bkv pay v o = o := by
 unfold bkv X.mn X.mx
 repeat' split
 all_goals omega

theorem ltable_loop {m r p : Int} {ps : List S56} (m0 : 0 ≤ m) (m1 : m ≤ 1000000000000000) (hp : ps.length ≤ 30) (hpos : 0 < ps.length) (hl : lp m r p ps (ps.length - 1) ≤ p) :
  ∀ (d i k : Nat), i + d = ps.length → d + 1 ≤ k → ∀ s : Int, s = m - (if i = ps.length then 0 else op m r p ps i) → demurragelaw20_LevelTable.l0 k true (ps.length : Int) m p ((List.range ps.length).map (lrow m r p ps)) s (i : Int) = some true := by
 have wn : wrap64 ((ps.length : Int) - 1) = ((ps.length - 1 : Nat) : Int) := by
  rw [wrap64_small (by omega) (by omega)]
  omega
 intro d
 induction d with
 | zero =>
  intro i k hi hk s hs
  obtain ⟨q, rfl⟩ : ∃ q, k = q + 1 := ⟨k - 1, by clear wn; omega⟩
  rw [if_pos (by clear wn; omega), Int.sub_zero] at hs
  have lt : ps.length - 1 < ps.length := by clear wn; omega
  have rr := lrow_rd m r p ps lt
  have t1 : ¬ (i : Int) < (ps.length : Int) := by clear wn; omega
  have t2 : (0 : Int) ≤ ((ps.length - 1 : Nat) : Int) := by clear wn; omega
  have t3 : ((ps.length - 1 : Nat) : Int) < (ps.length : Int) := by clear wn; omega
  rw [demurragelaw20_LevelTable.l0, if_neg t1, if_pos rfl, if_pos hs, wn, if_pos t2, lrow_length, if_pos t3, rr, lrow_last m r p ps hpos, decide_eq_true hl]
 | succ d ih =>
  intro i k hi hk s hs
  obtain ⟨q, rfl⟩ : ∃ q, k = q + 1 := ⟨k - 1, by clear wn; omega⟩
  have hlt : i < ps.length := by clear wn; omega
  rw [if_neg (by clear wn; omega)] at hs
  have oi := op_in (r := r) (pay := p) (ps := ps) m0 i
  obtain ⟨o, hoo⟩ : ∃ o : Int, op m r p ps i = o := ⟨_, rfl⟩
  rw [hoo] at oi hs
  obtain ⟨v, hv⟩ : ∃ v : Int, intr o r (rd_T56 ps (i : Int)) = v := ⟨_, rfl⟩
  obtain ⟨b, hb⟩ : ∃ b : Int, (if i + 1 = ps.length then o else bkv p v o) = b := ⟨_, rfl⟩
  have rr := lrow_rd m r p ps hlt
  rw [lrow_is hoo hv hb] at rr
  have nx := op_next hoo hv hb
  have b0 : 0 ≤ b ∧ b ≤ o := by
   have h := bkv_in (pay := p) (n := v) oi.1
   rw [← hb]
   clear hv hb rr nx wn
   split <;> omega
  have one : i + 1 < ps.length → b = 0 ∨ b = p - v ∨ b = o := fun h => by
   rw [if_neg (by clear wn; omega)] at hb
   rw [← hb]
   exact bkv_one oi.1
  clear hv hb hoo
  have ws : wrap64 (s + b) = s + b := wrap64_small (by clear wn nx; omega) (by clear wn nx; omega)
  have wi : wrap64 ((i : Int) + 1) = ((i + 1 : Nat) : Int) := by
   clear ws rr wn nx
   rw [wrap64_small (by omega) (by omega)]
   omega
  have t1 : (i : Int) < (ps.length : Int) := by clear ws wn wi nx; omega
  have t2 : (0 : Int) ≤ (i : Int) := by clear ws wn wi nx; omega
  have t4 : ¬ o - b > m := by clear ws wn wi nx; omega
  have fin : demurragelaw20_LevelTable.l0 q true (ps.length : Int) m p ((List.range ps.length).map (lrow m r p ps)) (s + b) (((i + 1 : Nat)) : Int) = some true := ih (i + 1) q (by clear ws wn wi nx; omega) (by clear ws wn wi nx; omega) (s + b) (by rw [← nx]; clear ws wn wi nx; omega)
  rw [demurragelaw20_LevelTable.l0, if_pos t1, if_pos t2, lrow_length, if_pos t1, rr]
  show (if o - b > m then none else if (i : Int) < wrap64 ((ps.length : Int) - 1) then (if v + b = p then _ else if v + b = v then _ else if o - b = 0 then _ else none) else _) = _
  rw [if_neg t4, wn]
  by_cases c : (i : Int) < ((ps.length - 1 : Nat) : Int)
  ·rw [if_pos c]
   have cases := one (by clear ws wn wi nx; omega)
   by_cases e1 : v + b = p
   ·rw [if_pos e1]
    show demurragelaw20_LevelTable.l0 q true (ps.length : Int) m p ((List.range ps.length).map (lrow m r p ps)) (wrap64 (s + b)) (wrap64 ((i : Int) + 1)) = _
    rw [ws, wi]
    exact fin
   ·rw [if_neg e1]
    by_cases e2 : v + b = v
    ·rw [if_pos e2]
     show demurragelaw20_LevelTable.l0 q true (ps.length : Int) m p ((List.range ps.length).map (lrow m r p ps)) (wrap64 (s + b)) (wrap64 ((i : Int) + 1)) = _
     rw [ws, wi]
     exact fin
    ·rw [if_neg e2, if_pos (by clear ws wn wi nx; omega)]
     show demurragelaw20_LevelTable.l0 q true (ps.length : Int) m p ((List.range ps.length).map (lrow m r p ps)) (wrap64 (s + b)) (wrap64 ((i : Int) + 1)) = _
     rw [ws, wi]
     exact fin
  ·rw [if_neg c]
   show demurragelaw20_LevelTable.l0 q true (ps.length : Int) m p ((List.range ps.length).map (lrow m r p ps)) (wrap64 (s + b)) (wrap64 ((i : Int) + 1)) = _
   rw [ws, wi]
   exact fin

theorem LevelTable (a b : Int) (l : List S56) (wa : (Lit.int .u64 a).wf = true) (wb : (Lit.int .u16 b).wf = true) (_ : ∀ x ∈ l, (Lit.int .i64 x.f0).wf = true ∧ (Lit.int .i64 x.f1).wf = true) : ∃ k, demurragelaw20_LevelTable.f k a b l = some true := by
 have ha := u64_wf wa
 have hb := u16_wf' wb
 obtain ⟨K0, h0⟩ := shown_at
 have yes : ∀ k, demurragelaw20_LevelTable.j0 (k + 1) a b l true (l.length : Int) true = some true := fun k => by rw [demurragelaw20_LevelTable.j0, if_pos rfl]
 by_cases c1 : (l.length : Int) < 1
 ·refine ⟨K0 + 1, ?_⟩
  have h0 : demurragelaw20_shown.f (K0 + 1) = some true := h0 _ (by omega)
  unfold demurragelaw20_LevelTable.f
  rw [h0, Option.bind_some, if_pos c1]
  exact yes K0
 ·by_cases c2 : (l.length : Int) > 30
  ·refine ⟨K0 + 1, ?_⟩
   have h0 : demurragelaw20_shown.f (K0 + 1) = some true := h0 _ (by omega)
   unfold demurragelaw20_LevelTable.f
   rw [h0, Option.bind_some, if_neg c1, if_pos c2]
   exact yes K0
  ·obtain ⟨u, ⟨K1, h1⟩, hu⟩ := usual_at l (by omega)
   cases u with
   | false =>
    refine ⟨K0 + K1 + 1, ?_⟩
    have h0 : demurragelaw20_shown.f (K0 + K1 + 1) = some true := h0 _ (by omega)
    have h1 : demurrageref18_Usual.f (K0 + K1 + 1) l = some false := h1 _ (by omega)
    unfold demurragelaw20_LevelTable.f
    rw [h0, Option.bind_some, if_neg c1, if_neg c2, h1, Option.bind_some]
    exact yes (K0 + K1)
   | true =>
    have us := hu rfl
    obtain ⟨em, m0, m1⟩ := money (m := 1000000000000001) ha (by omega) (by omega)
    obtain ⟨er, r0, r1⟩ := ratep (m := 9001) hb.1 (by omega) (by omega)
    generalize hm : a % 1000000000000001 = m at em m0 m1
    generalize hr : b % 9001 = r at er r0 r1
    have z1 : l.length ≤ 1200 := by clear em er; omega
    have z2 : 0 < l.length := by clear em er; omega
    have z3 : m ≤ 1000000000000000 := by clear em er; omega
    have z4 : r ≤ 9000 := by clear em er; omega
    obtain ⟨p, p0, p1, ⟨K2, p2⟩, p3, _⟩ := least_at m0 z3 r0 z4 z1 z2 us
    obtain ⟨K3, e1⟩ := lrows_at m0 z3 r0 z4 z1 z2 us (pay := p) p0 p1
    obtain ⟨K4, e2⟩ := lwith_at m0 z3 r0 z4 z1 z2 us (pay := p) p0 p1
    obtain ⟨K5, e3⟩ := same_at ((List.range l.length).map (lrow m r p l)) (by rw [lrow_length]; clear em er; omega)
    obtain ⟨K6, e4⟩ := lsound_at (pay := p) m0 z3 r0 z4 z1 us z2
    generalize hk : K0 + K1 + K2 + K3 + K4 + K5 + K6 + l.length + 1 = k
    have h0 : demurragelaw20_shown.f (k + 1) = some true := h0 _ (by clear em er; omega)
    have h1 : demurrageref18_Usual.f (k + 1) l = some true := h1 _ (by clear em er; omega)
    have p2 : level_Least.f k m r l = some (p, 0) := p2 _ (by clear em er; omega)
    have e1 : level_rows.f k m r l p = some ((List.range l.length).map (lrow m r p l), lp m r p l (l.length - 1)) := e1 _ (by clear em er; omega)
    have e2 : demurrageref20_With.f k m r l p = some ((List.range l.length).map (lrow m r p l)) := e2 _ (by clear em er; omega)
    have e3 : demurrageref19_Same.f k ((List.range l.length).map (lrow m r p l)) ((List.range l.length).map (lrow m r p l)) = some true := e3 _ (by clear em er; omega)
    have e4 : demurrageref19_Sound.f k ((List.range l.length).map (lrow m r p l)) m r l = some true := e4 _ (by clear em er; omega)
    have tab : level_Table.f k m r l = some ((List.range l.length).map (lrow m r p l), 0) := by
     unfold level_Table.f
     rw [p2, Option.bind_some, if_pos rfl, e1, Option.bind_some]
    have fin := ltable_loop (m := m) (r := r) (p := p) (ps := l) m0 z3 (by clear em er; omega) z2 p3 l.length 0 k (by clear em er; omega) (by clear em er; omega) 0 (by rw [if_neg (by clear em er; omega)]; show 0 = m - m; clear em er; omega)
    refine ⟨k + 1, ?_⟩
    unfold demurragelaw20_LevelTable.f
    rw [h0, Option.bind_some, if_neg c1, if_neg c2, h1, Option.bind_some]
    show demurragelaw20_LevelTable.j0 (k + 1) a b l true (l.length : Int) false = some true
    rw [demurragelaw20_LevelTable.j0, if_neg (by decide), em, er, p2, Option.bind_some, tab, Option.bind_some, if_pos rfl, if_pos rfl, e2, Option.bind_some, e3, Option.bind_some, if_pos rfl, e4, Option.bind_some, if_pos rfl]
    exact fin
end Go.Proofs.Yteikafepdkijdaa.Pure
