/- Proved: for every input, Go function HeldApart returns true and leaves its arguments as they were. No condition beyond what the given row says. -/
import Derived.Test.YthhbpbogbfopnaaOwnHeldApartx2
import Derived.Test.YthhbpbogbfopnaaHeldPlain
namespace Go.Proofs.Ythhbpbogbfopnaa.Pure
open Go.RowKit Go.Proofs.Ythhbpbogbfopnaa.PHeldApart Go.Proofs.YthhbpbogbfopnaaW.PrintWords Go.Proofs.YthhbpbogbfopnaaW.PrintLast Go.Proofs.Ythhbpbogbfopnaa.Plain

theorem sets_loop (l : List Int) (hn : l.length ≤ 17592186044416) : ∀ (d i : Nat), i + d = l.length → Ev (fun k => meddlerlaw3_sets.l0 k l (i : Int)) (setsB (l.drop i)) := by
  intro d
  induction d with
  | zero =>
    intro i hi
    refine Ev.step (f := fun _ => some (setsB (l.drop i))) (fun k => ?_) (Ev.now _)
    show meddlerlaw3_sets.l0 (k + 1) l i = _
    rw [meddlerlaw3_sets.l0, if_neg (by omega), List.drop_eq_nil_of_le (by omega)]; rfl
  | succ d ih =>
    intro i hi
    have hlt : i < l.length := by omega
    rw [drop_rd l i hlt]
    by_cases h0 : rd l (i : Int) < 0
    · refine Ev.step (f := fun _ => some false) (fun k => ?_) ?_
      · show meddlerlaw3_sets.l0 (k + 1) l i = _
        rw [meddlerlaw3_sets.l0, if_pos (by omega), if_pos (by omega), if_pos h0]
      · rw [show setsB (rd l (i : Int) :: l.drop (i + 1)) = false by simp [setsB]; intro h; omega]
        exact Ev.now _
    · by_cases h1 : rd l (i : Int) ≥ 2147483648
      · refine Ev.step (f := fun _ => some false) (fun k => ?_) ?_
        · show meddlerlaw3_sets.l0 (k + 1) l i = _
          rw [meddlerlaw3_sets.l0, if_pos (by omega), if_pos (by omega), if_neg h0, if_pos h1]
        · rw [show setsB (rd l (i : Int) :: l.drop (i + 1)) = false by simp [setsB]; intro h; omega]
          exact Ev.now _
      · rw [show setsB (rd l (i : Int) :: l.drop (i + 1)) = setsB (l.drop (i + 1)) by
          simp only [setsB, List.all_cons]; rw [decide_eq_true (by omega), Bool.true_and]]
        refine Ev.step (fun k => ?_) (ih (i + 1) (by omega))
        show meddlerlaw3_sets.l0 (k + 1) l i = _
        rw [meddlerlaw3_sets.l0, if_pos (by omega), if_pos (by omega), if_neg h0, if_neg h1, wrap_succ hlt hn]
theorem sets_ev (l : List Int) (hn : l.length ≤ 17592186044416) : Ev (fun k => meddlerlaw3_sets.f k l) (setsB l) := sets_loop l hn l.length 0 (by omega)
theorem bits_loop (l : List Int) (hn : l.length ≤ 17592186044416) : ∀ (d i : Nat) (s : BitVec 64), i + d = l.length → Ev (fun k => held_bits.l0 k s.toInt l (l.length : Int) (i : Int)) (add s (l.drop i)).toInt := by
  intro d
  induction d with
  | zero =>
    intro i s hi
    refine Ev.step (f := fun _ => some (add s (l.drop i)).toInt) (fun k => ?_) (Ev.now _)
    show held_bits.l0 (k + 1) s.toInt l l.length i = _
    rw [held_bits.l0, if_neg (by omega), List.drop_eq_nil_of_le (by omega)]; rfl
  | succ d ih =>
    intro i s hi
    have hlt : i < l.length := by omega
    rw [drop_rd l i hlt, add_cons]
    refine Ev.step (fun k => ?_) (ih (i + 1) (s ||| one (rd l (i : Int))) (by omega))
    show held_bits.l0 (k + 1) s.toInt l l.length i = _
    rw [held_bits.l0, if_pos (by omega), if_pos (by omega), if_pos (by omega), wrap_succ hlt hn]
    unfold one
    by_cases h0 : rd l (i : Int) ≥ 0
    · by_cases h1 : rd l (i : Int) < 31
      · rw [if_pos h0, if_pos h1, if_pos h0, if_pos ⟨h0, h1⟩, shlV _ h0 h1, orV]
      · rw [if_pos h0, if_neg h1, if_neg (by omega), BitVec.or_zero]
    · rw [if_neg h0, if_neg (by omega), BitVec.or_zero]
theorem bits_ev (l : List Int) (hn : l.length ≤ 17592186044416) : Ev (fun k => held_bits.f k l) (bitsV l).toInt := by
  have := bits_loop l hn l.length 0 0#64 (by omega)
  rw [← zeroV] at this
  exact this
theorem has_ev (v : BitVec 64) (m : Int) : Ev (fun k => held_Has.f k v.toInt m) (hasB v m) := by
  refine Ev.bind (bits_ev [m] (by simp)) ?_
  rw [andV, has_eq]; exact Ev.now _
theorem with_ev (v : BitVec 64) (l : List Int) (hn : l.length ≤ 17592186044416) : Ev (fun k => held_With.f k v.toInt l) (v ||| bitsV l).toInt := by
  refine Ev.bind (bits_ev l hn) ?_
  rw [orV]; exact Ev.now _
theorem known_ev : Ev (fun k => meddlerlaw3_known.f k) true := Ev.of meddlerlaw3_known.mono (k := 60) (by decide +kernel)
theorem list_loop (v : BitVec 64) : ∀ (d i : Nat) (l : List Int), i + d = 31 → l.length ≤ i → Ev (fun k => held_List.l0 k v.toInt l (i : Int)) (l ++ from_ v i d) := by
  intro d
  induction d with
  | zero =>
    intro i l hi _
    refine Ev.step (f := fun _ => some (l ++ from_ v i 0)) (fun k => ?_) (Ev.now _)
    show held_List.l0 (k + 1) v.toInt l i = _
    rw [held_List.l0, if_neg (by omega)]; simp [from_]
  | succ d ih =>
    intro i l hi hl
    refine Ev.step (f := fun k => (held_Has.f k v.toInt i).bind fun t => if t = true then (if l.length < 17592186044416 then held_List.l0 k v.toInt (l ++ [(i : Int)]) (wrap64 ((i : Int) + 1)) else none) else held_List.l0 k v.toInt l (wrap64 ((i : Int) + 1))) (fun k => ?_) ?_
    · show held_List.l0 (k + 1) v.toInt l i = _
      rw [held_List.l0, if_pos (by omega)]
    · refine Ev.bind (has_ev v i) ?_
      rw [wrap_succ (show i < 31 by omega) (by omega)]
      cases h : hasB v (i : Int) with
      | true =>
        refine Ev_pos (by simp) (Ev_pos (by omega) ?_)
        simp only [from_, h, if_true]
        have := ih (i + 1) (l ++ [(i : Int)]) (by omega) (by simp; omega)
        rw [List.append_assoc] at this
        exact this
      | false =>
        refine Ev_neg (by simp) ?_
        simp only [from_, h, Bool.false_eq_true, if_false]
        exact ih (i + 1) l (by omega) (by omega)
theorem list_ev (v : BitVec 64) : Ev (fun k => held_List.f k v.toInt) (listV v) := by
  have := list_loop v 31 0 [] (by omega) (by simp)
  exact this
theorem apart_ev (v w : BitVec 64) : Ev (fun k => held_Apart.f k v.toInt w.toInt) (((listV (v &&& w)).length : Int) == 0) := by
  unfold held_Apart.f
  rw [andV]
  exact Ev.bind (list_ev _) (Ev.now _)
theorem meet_loop (l : List (BitVec 64)) (hn : l.length ≤ 17592186044416) : ∀ (d i : Nat) (s : BitVec 64), i + d = l.length → Ev (fun k => held_Meet.l0 k s.toInt (l.map BitVec.toInt) (l.length : Int) (i : Int)) (meetV s (l.drop i)).toInt := by
  intro d
  induction d with
  | zero =>
    intro i s hi
    refine Ev.step (f := fun _ => some (meetV s (l.drop i)).toInt) (fun k => ?_) (Ev.now _)
    show held_Meet.l0 (k + 1) s.toInt (l.map BitVec.toInt) l.length i = _
    rw [held_Meet.l0, if_neg (by omega), List.drop_eq_nil_of_le (by omega)]; rfl
  | succ d ih =>
    intro i s hi
    have hlt : i < l.length := by omega
    rw [List.drop_eq_getElem_cons hlt]
    refine Ev.step (fun k => ?_) (ih (i + 1) (s &&& l[i]) (by omega))
    show held_Meet.l0 (k + 1) s.toInt (l.map BitVec.toInt) l.length i = _
    rw [held_Meet.l0, if_pos (by omega), if_pos (by omega), if_pos (by simp; omega), wrap_succ hlt hn, rd_at _ i (by simpa using hlt), List.getElem_map, andV]
theorem meet_ev (v : BitVec 64) (l : List (BitVec 64)) (hn : l.length < 17592186044416) : Ev (fun k => held_Meet.f k ((v :: l).map BitVec.toInt)) (meetV v l).toInt := by
  have := meet_loop l (by omega) l.length 0 v (by omega)
  refine Ev.congr (fun k => ?_) this
  show held_Meet.f k ((v :: l).map BitVec.toInt) = _
  unfold held_Meet.f
  rw [if_neg (by simp <;> omega), if_pos (by simp <;> omega), if_pos (by simp <;> omega)]
  simp [rd]
theorem round (v w : BitVec 64) : ∀ (d i : Nat) (b : Bool), i + d = 31 → (b = true ↔ ∃ m : Int, 0 ≤ m ∧ m < i ∧ hasB v m = true ∧ hasB w m = true) → Ev (fun k => meddlerlaw3_HeldApart.l0 k v.toInt w.toInt b (i : Int)) true := by
  intro d
  induction d with
  | zero =>
    intro i b hi hb
    have e : ((listV (v &&& w)).length : Int) = 0 ↔ b = false := by
      rw [show (((listV (v &&& w)).length : Int) = 0 ↔ listV (v &&& w) = []) by rw [← List.length_eq_zero_iff]; omega, list_nil]
      constructor
      · intro h
        cases b with
        | false => rfl
        | true =>
          obtain ⟨m, _, _, h1, h2⟩ := hb.1 rfl
          have := h m
          rw [hasB_and, h1, h2] at this; cases this
      · intro h m
        cases hm : hasB (v &&& w) m with
        | false => rfl
        | true =>
          rw [hasB_and, Bool.and_eq_true] at hm
          have hr : 0 ≤ m ∧ m < 31 := by have := hm.1; simp [hasB] at this; omega
          have := hb.2 ⟨m, hr.1, by omega, hm⟩
          rw [h] at this; cases this
    have e' : (((listV (v &&& w)).length : Int) == 0) = !b := by
      rw [Bool.eq_iff_iff, beq_iff_eq, e]; cases b <;> simp
    have ec : w &&& v = v &&& w := BitVec.and_comm _ _
    refine Ev_shift ?_
    simp only [meddlerlaw3_HeldApart.l0]
    refine Ev_neg (by omega) ?_
    refine Ev.bind (apart_ev v w) (Ev_pos (by rw [e']; simp) ?_)
    refine Ev.bind (apart_ev w v) (Ev_pos (by rw [ec, e']; simp) ?_)
    refine Ev.bind (meet_ev v [w] (by simp)) ?_
    refine Ev.bind (list_ev _) (Ev_pos ?_ (Ev.bind known_ev (Ev.now _)))
    rw [show meetV v [w] = v &&& w from rfl, beq_iff_eq]
    cases b with
    | true =>
      have : ¬ ((listV (v &&& w)).length : Int) = 0 := fun h => by have := e.1 h; cases this
      rw [decide_eq_true_iff]; omega
    | false =>
      have := e.2 rfl
      rw [decide_eq_false_iff_not]; omega
  | succ d ih =>
    intro i b hi hb
    refine Ev_shift ?_
    simp only [meddlerlaw3_HeldApart.l0]
    refine Ev_pos (by omega) ?_
    rw [wrap_succ (show i < 31 by omega) (by omega)]
    cases b with
    | true =>
      refine Ev_pos (by simp) (ih (i + 1) true (by omega) ?_)
      obtain ⟨m, h0, h1, h2⟩ := hb.1 rfl
      exact ⟨fun _ => ⟨m, h0, by omega, h2⟩, fun _ => rfl⟩
    | false =>
      refine Ev_neg (by simp) (Ev.bind (has_ev v i) ?_)
      have no : ∀ m : Int, 0 ≤ m → m < i → hasB v m = true → hasB w m = true → False := fun m h0 h1 h2 h3 => by
        have := hb.2 ⟨m, h0, h1, h2, h3⟩; cases this
      cases hv : hasB v (i : Int) with
      | false =>
        refine Ev_neg (by simp) (ih (i + 1) false (by omega) ?_)
        constructor
        · intro h; cases h
        · rintro ⟨m, h0, h1, h2, h3⟩
          by_cases em : m = i
          · rw [em, hv] at h2; cases h2
          · exact (no m h0 (by omega) h2 h3).elim
      | true =>
        refine Ev_pos (by simp) (Ev.bind (has_ev w i) (ih (i + 1) _ (by omega) ?_))
        constructor
        · intro h; exact ⟨i, by omega, by omega, hv, h⟩
        · rintro ⟨m, h0, h1, h2, h3⟩
          by_cases em : m = i
          · rw [em] at h3; exact h3
          · exact (no m h0 (by omega) h2 h3).elim
theorem HeldApart : meddlerlaw3_HeldApart.Pure := by
  intro a b wa wb
  obtain ⟨v, rfl⟩ := ofV a wa
  obtain ⟨w, rfl⟩ := ofV b wb
  apply Ev.rounds
  refine Ev.bind (sets_ev _ (by simp)) ?_
  by_cases hs : setsB [v.toInt, w.toInt] = true
  · refine Ev_pos hs (round v w 31 0 false (by omega) ?_)
    constructor
    · intro h; cases h
    · rintro ⟨m, h0, h1, _⟩; omega
  · exact Ev_neg hs (Ev.now _)

end Go.Proofs.Ythhbpbogbfopnaa.Pure
