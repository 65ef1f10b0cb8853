/- Proved: for every input, Go function HeldMany returns true and leaves its arguments as they were. No condition beyond what the given row says. -/
import Derived.Test.YthhbpbogbfopnaaOwnHeldManyx2
import Derived.Test.YthhbpbogbfopnaaHeldPlain
namespace Go.Proofs.Ythhbpbogbfopnaa.Pure
open Go.RowKit Go.Proofs.Ythhbpbogbfopnaa.PHeldMany Go.Proofs.YthhbpbogbfopnaaW.PrintWords Go.Proofs.YthhbpbogbfopnaaW.PrintLast Go.Proofs.Ythhbpbogbfopnaa.Plain

theorem sets_loop (l : List Int) (hn : l.length ≤ 17592186044416) : ∀ (d i : Nat), i + d = l.length → Ev (fun k => meddlerlaw3_sets.l0 k l (i : Int)) (setsB (l.drop i)) := by
  intro d
  induction d with
  | zero =>
    intro i hi
    refine Ev.step (f := fun _ => some (setsB (l.drop i))) (fun k => ?_) (Ev.now _)
    show meddlerlaw3_sets.l0 (k + 1) l i = _
    rw [meddlerlaw3_sets.l0, if_neg (by omega), List.drop_eq_nil_of_le (by omega)]; rfl
  | succ d ih =>
    intro i hi
    have hlt : i < l.length := by omega
    rw [drop_rd l i hlt]
    by_cases h0 : rd l (i : Int) < 0
    · refine Ev.step (f := fun _ => some false) (fun k => ?_) ?_
      · show meddlerlaw3_sets.l0 (k + 1) l i = _
        rw [meddlerlaw3_sets.l0, if_pos (by omega), if_pos (by omega), if_pos h0]
      · rw [show setsB (rd l (i : Int) :: l.drop (i + 1)) = false by simp [setsB]; intro h; omega]
        exact Ev.now _
    · by_cases h1 : rd l (i : Int) ≥ 2147483648
      · refine Ev.step (f := fun _ => some false) (fun k => ?_) ?_
        · show meddlerlaw3_sets.l0 (k + 1) l i = _
          rw [meddlerlaw3_sets.l0, if_pos (by omega), if_pos (by omega), if_neg h0, if_pos h1]
        · rw [show setsB (rd l (i : Int) :: l.drop (i + 1)) = false by simp [setsB]; intro h; omega]
          exact Ev.now _
      · rw [show setsB (rd l (i : Int) :: l.drop (i + 1)) = setsB (l.drop (i + 1)) by
          simp only [setsB, List.all_cons]; rw [decide_eq_true (by omega), Bool.true_and]]
        refine Ev.step (fun k => ?_) (ih (i + 1) (by omega))
        show meddlerlaw3_sets.l0 (k + 1) l i = _
        rw [meddlerlaw3_sets.l0, if_pos (by omega), if_pos (by omega), if_neg h0, if_neg h1, wrap_succ hlt hn]
theorem sets_ev (l : List Int) (hn : l.length ≤ 17592186044416) : Ev (fun k => meddlerlaw3_sets.f k l) (setsB l) := sets_loop l hn l.length 0 (by omega)
theorem bits_loop (l : List Int) (hn : l.length ≤ 17592186044416) : ∀ (d i : Nat) (s : BitVec 64), i + d = l.length → Ev (fun k => held_bits.l0 k s.toInt l (l.length : Int) (i : Int)) (add s (l.drop i)).toInt := by
  intro d
  induction d with
  | zero =>
    intro i s hi
    refine Ev.step (f := fun _ => some (add s (l.drop i)).toInt) (fun k => ?_) (Ev.now _)
    show held_bits.l0 (k + 1) s.toInt l l.length i = _
    rw [held_bits.l0, if_neg (by omega), List.drop_eq_nil_of_le (by omega)]; rfl
  | succ d ih =>
    intro i s hi
    have hlt : i < l.length := by omega
    rw [drop_rd l i hlt, add_cons]
    refine Ev.step (fun k => ?_) (ih (i + 1) (s ||| one (rd l (i : Int))) (by omega))
    show held_bits.l0 (k + 1) s.toInt l l.length i = _
    rw [held_bits.l0, if_pos (by omega), if_pos (by omega), if_pos (by omega), wrap_succ hlt hn]
    unfold one
    by_cases h0 : rd l (i : Int) ≥ 0
    · by_cases h1 : rd l (i : Int) < 31
      · rw [if_pos h0, if_pos h1, if_pos h0, if_pos ⟨h0, h1⟩, shlV _ h0 h1, orV]
      · rw [if_pos h0, if_neg h1, if_neg (by omega), BitVec.or_zero]
    · rw [if_neg h0, if_neg (by omega), BitVec.or_zero]
theorem bits_ev (l : List Int) (hn : l.length ≤ 17592186044416) : Ev (fun k => held_bits.f k l) (bitsV l).toInt := by
  have := bits_loop l hn l.length 0 0#64 (by omega)
  rw [← zeroV] at this
  exact this
theorem has_ev (v : BitVec 64) (m : Int) : Ev (fun k => held_Has.f k v.toInt m) (hasB v m) := by
  refine Ev.bind (bits_ev [m] (by simp)) ?_
  rw [andV, has_eq]; exact Ev.now _
theorem with_ev (v : BitVec 64) (l : List Int) (hn : l.length ≤ 17592186044416) : Ev (fun k => held_With.f k v.toInt l) (v ||| bitsV l).toInt := by
  refine Ev.bind (bits_ev l hn) ?_
  rw [orV]; exact Ev.now _
theorem known_ev : Ev (fun k => meddlerlaw3_known.f k) true := Ev.of meddlerlaw3_known.mono (k := 60) (by decide +kernel)
theorem meet_loop (l : List (BitVec 64)) (hn : l.length ≤ 17592186044416) : ∀ (d i : Nat) (s : BitVec 64), i + d = l.length → Ev (fun k => held_Meet.l0 k s.toInt (l.map BitVec.toInt) (l.length : Int) (i : Int)) (meetV s (l.drop i)).toInt := by
  intro d
  induction d with
  | zero =>
    intro i s hi
    refine Ev.step (f := fun _ => some (meetV s (l.drop i)).toInt) (fun k => ?_) (Ev.now _)
    show held_Meet.l0 (k + 1) s.toInt (l.map BitVec.toInt) l.length i = _
    rw [held_Meet.l0, if_neg (by omega), List.drop_eq_nil_of_le (by omega)]; rfl
  | succ d ih =>
    intro i s hi
    have hlt : i < l.length := by omega
    rw [List.drop_eq_getElem_cons hlt]
    refine Ev.step (fun k => ?_) (ih (i + 1) (s &&& l[i]) (by omega))
    show held_Meet.l0 (k + 1) s.toInt (l.map BitVec.toInt) l.length i = _
    rw [held_Meet.l0, if_pos (by omega), if_pos (by omega), if_pos (by simp; omega), wrap_succ hlt hn, rd_at _ i (by simpa using hlt), List.getElem_map, andV]
theorem meet_ev (v : BitVec 64) (l : List (BitVec 64)) (hn : l.length < 17592186044416) : Ev (fun k => held_Meet.f k ((v :: l).map BitVec.toInt)) (meetV v l).toInt := by
  have := meet_loop l (by omega) l.length 0 v (by omega)
  refine Ev.congr (fun k => ?_) this
  show held_Meet.f k ((v :: l).map BitVec.toInt) = _
  unfold held_Meet.f
  rw [if_neg (by simp <;> omega), if_pos (by simp <;> omega), if_pos (by simp <;> omega)]
  simp [rd]
theorem join_loop (l : List (BitVec 64)) (hn : l.length ≤ 17592186044416) : ∀ (d i : Nat) (s : BitVec 64), i + d = l.length → Ev (fun k => held_Join.l0 k s.toInt (l.map BitVec.toInt) (l.length : Int) (i : Int)) (joinV s (l.drop i)).toInt := by
  intro d
  induction d with
  | zero =>
    intro i s hi
    refine Ev.step (f := fun _ => some (joinV s (l.drop i)).toInt) (fun k => ?_) (Ev.now _)
    show held_Join.l0 (k + 1) s.toInt (l.map BitVec.toInt) l.length i = _
    rw [held_Join.l0, if_neg (by omega), List.drop_eq_nil_of_le (by omega)]; rfl
  | succ d ih =>
    intro i s hi
    have hlt : i < l.length := by omega
    rw [List.drop_eq_getElem_cons hlt]
    refine Ev.step (fun k => ?_) (ih (i + 1) (s ||| l[i]) (by omega))
    show held_Join.l0 (k + 1) s.toInt (l.map BitVec.toInt) l.length i = _
    rw [held_Join.l0, if_pos (by omega), if_pos (by omega), if_pos (by simp; omega), wrap_succ hlt hn, rd_at _ i (by simpa using hlt), List.getElem_map, orV]
theorem join_ev (l : List (BitVec 64)) (hn : l.length ≤ 17592186044416) : Ev (fun k => held_Join.f k (l.map BitVec.toInt)) (joinV 0#64 l).toInt := by
  have := join_loop l hn l.length 0 0#64 (by omega)
  rw [← zeroV] at this
  refine Ev.congr (fun k => ?_) this
  show held_Join.f k (l.map BitVec.toInt) = _
  unfold held_Join.f
  rw [List.length_map]
  rfl
theorem round (l : List (BitVec 64)) (hl : 0 < l.length) (hn : l.length ≤ 40) : ∀ (d i : Nat), i + 1 + d = l.length →
    Ev (fun k => meddlerlaw3_HeldMany.l0 k (l.map BitVec.toInt) (meetV l[0] ((l.drop 1).take i)).toInt (joinV l[0] ((l.drop 1).take i)).toInt ((i + 1 : Nat) : Int)) true := by
  intro d
  induction d with
  | zero =>
    intro i hi
    refine Ev_shift ?_
    simp only [meddlerlaw3_HeldMany.l0]
    refine Ev_neg (by simp; omega) ?_
    obtain ⟨v, l, rfl⟩ : ∃ v l', l = v :: l' := by cases l with | nil => simp at hl | cons v l => exact ⟨v, l, rfl⟩
    simp only [List.drop_succ_cons, List.drop_zero, List.getElem_cons_zero]
    rw [List.take_of_length_le (by simp at hi; omega)]
    simp at hn
    refine Ev.bind (meet_ev v l (by omega)) (Ev_pos (by simp) ?_)
    refine Ev.bind (join_ev (v :: l) (by simp; omega)) (Ev_pos ?_ ?_)
    · simp [joinV]
    · refine Ev_pos ?_ (Ev.bind known_ev (Ev.now _))
      rw [andNotV, meet_join l v v (by apply BitVec.eq_of_getLsbD_eq; intro j hj; simp)]
      decide
  | succ d ih =>
    intro i hi
    refine Ev_shift ?_
    simp only [meddlerlaw3_HeldMany.l0]
    refine Ev_pos (by simp; omega) (Ev_pos (by omega) ?_)
    have hlt : i + 1 < l.length := by omega
    have e : rd (l.map BitVec.toInt) ((i + 1 : Nat) : Int) = (l[i + 1]).toInt := by rw [rd_at _ _ (by simpa using hlt), List.getElem_map]
    have ht : (l.drop 1).take (i + 1) = (l.drop 1).take i ++ [l[i + 1]] := by
      rw [List.take_succ_eq_append_getElem (by simp; omega)]; simp
    rw [e, wrap_succ hlt (by omega)]
    have h1 := meet_ev (meetV l[0] ((l.drop 1).take i)) [l[i + 1]] (by simp)
    have h2 := join_ev [joinV l[0] ((l.drop 1).take i), l[i + 1]] (by simp)
    refine Ev.bind h1 (Ev.bind h2 ?_)
    have := ih (i + 1) (by omega)
    rw [ht] at this
    simp only [meetV, joinV, List.foldl_append, List.foldl_cons, List.foldl_nil, BitVec.zero_or] at this ⊢
    exact this
theorem HeldMany : meddlerlaw3_HeldMany.Pure := by
  intro l _ b1 w
  apply Ev.rounds
  have fin : Ev (fun k => meddlerlaw3_HeldMany.j0 k l true) true := Ev_shift (by simp only [meddlerlaw3_HeldMany.j0]; exact Ev_pos (by simp) (Ev.now _))
  unfold meddlerlaw3_HeldMany.f
  by_cases h1 : (l.length : Int) < 1
  · exact Ev_pos h1 fin
  · refine Ev_neg h1 ?_
    by_cases h2 : (l.length : Int) > 40
    · exact Ev_pos h2 fin
    · refine Ev_neg h2 (Ev.bind (sets_ev l (by omega)) ?_)
      cases hs : setsB l with
      | false => exact fin
      | true =>
        refine Ev_shift ?_
        simp only [meddlerlaw3_HeldMany.j0]
        refine Ev_neg (by simp) (Ev_pos (by omega) ?_)
        obtain ⟨vs, rfl⟩ := ofVs l w
        simp at h1 h2
        have h0 : 0 < vs.length := by omega
        have := round vs h0 (by omega) (vs.length - 1) 0 (by omega)
        have e : rd (vs.map BitVec.toInt) 0 = (vs[0]).toInt := by
          have := rd_at (vs.map BitVec.toInt) 0 (by simpa using h0)
          simpa using this
        rw [e]
        simpa [meetV, joinV] using this

end Go.Proofs.Ythhbpbogbfopnaa.Pure
