/- Proved: for every input, Go function HeldChanges returns true and leaves its arguments as they were. No condition beyond what the given row says. -/
import Derived.Test.YthhbpbogbfopnaaOwnHeldChangesx1
import Derived.Test.YthhbpbogbfopnaaHeldPlain
namespace Go.Proofs.Ythhbpbogbfopnaa.Pure
open Go.RowKit Go.Proofs.Ythhbpbogbfopnaa.PHeldChanges Go.Proofs.YthhbpbogbfopnaaW.PrintWords Go.Proofs.YthhbpbogbfopnaaW.PrintLast Go.Proofs.Ythhbpbogbfopnaa.Plain

theorem sets_loop (l : List Int) (hn : l.length ≤ 17592186044416) : ∀ (d i : Nat), i + d = l.length → Ev (fun k => meddlerlaw3_sets.l0 k l (i : Int)) (setsB (l.drop i)) := by
  intro d
  induction d with
  | zero =>
    intro i hi
    refine Ev.step (f := fun _ => some (setsB (l.drop i))) (fun k => ?_) (Ev.now _)
    show meddlerlaw3_sets.l0 (k + 1) l i = _
    rw [meddlerlaw3_sets.l0, if_neg (by omega), List.drop_eq_nil_of_le (by omega)]; rfl
  | succ d ih =>
    intro i hi
    have hlt : i < l.length := by omega
    rw [drop_rd l i hlt]
    by_cases h0 : rd l (i : Int) < 0
    · refine Ev.step (f := fun _ => some false) (fun k => ?_) ?_
      · show meddlerlaw3_sets.l0 (k + 1) l i = _
        rw [meddlerlaw3_sets.l0, if_pos (by omega), if_pos (by omega), if_pos h0]
      · rw [show setsB (rd l (i : Int) :: l.drop (i + 1)) = false by simp [setsB]; intro h; omega]
        exact Ev.now _
    · by_cases h1 : rd l (i : Int) ≥ 2147483648
      · refine Ev.step (f := fun _ => some false) (fun k => ?_) ?_
        · show meddlerlaw3_sets.l0 (k + 1) l i = _
          rw [meddlerlaw3_sets.l0, if_pos (by omega), if_pos (by omega), if_neg h0, if_pos h1]
        · rw [show setsB (rd l (i : Int) :: l.drop (i + 1)) = false by simp [setsB]; intro h; omega]
          exact Ev.now _
      · rw [show setsB (rd l (i : Int) :: l.drop (i + 1)) = setsB (l.drop (i + 1)) by
          simp only [setsB, List.all_cons]; rw [decide_eq_true (by omega), Bool.true_and]]
        refine Ev.step (fun k => ?_) (ih (i + 1) (by omega))
        show meddlerlaw3_sets.l0 (k + 1) l i = _
        rw [meddlerlaw3_sets.l0, if_pos (by omega), if_pos (by omega), if_neg h0, if_neg h1, wrap_succ hlt hn]
theorem sets_ev (l : List Int) (hn : l.length ≤ 17592186044416) : Ev (fun k => meddlerlaw3_sets.f k l) (setsB l) := sets_loop l hn l.length 0 (by omega)
theorem bits_loop (l : List Int) (hn : l.length ≤ 17592186044416) : ∀ (d i : Nat) (s : BitVec 64), i + d = l.length → Ev (fun k => held_bits.l0 k s.toInt l (l.length : Int) (i : Int)) (add s (l.drop i)).toInt := by
  intro d
  induction d with
  | zero =>
    intro i s hi
    refine Ev.step (f := fun _ => some (add s (l.drop i)).toInt) (fun k => ?_) (Ev.now _)
    show held_bits.l0 (k + 1) s.toInt l l.length i = _
    rw [held_bits.l0, if_neg (by omega), List.drop_eq_nil_of_le (by omega)]; rfl
  | succ d ih =>
    intro i s hi
    have hlt : i < l.length := by omega
    rw [drop_rd l i hlt, add_cons]
    refine Ev.step (fun k => ?_) (ih (i + 1) (s ||| one (rd l (i : Int))) (by omega))
    show held_bits.l0 (k + 1) s.toInt l l.length i = _
    rw [held_bits.l0, if_pos (by omega), if_pos (by omega), if_pos (by omega), wrap_succ hlt hn]
    unfold one
    by_cases h0 : rd l (i : Int) ≥ 0
    · by_cases h1 : rd l (i : Int) < 31
      · rw [if_pos h0, if_pos h1, if_pos h0, if_pos ⟨h0, h1⟩, shlV _ h0 h1, orV]
      · rw [if_pos h0, if_neg h1, if_neg (by omega), BitVec.or_zero]
    · rw [if_neg h0, if_neg (by omega), BitVec.or_zero]
theorem bits_ev (l : List Int) (hn : l.length ≤ 17592186044416) : Ev (fun k => held_bits.f k l) (bitsV l).toInt := by
  have := bits_loop l hn l.length 0 0#64 (by omega)
  rw [← zeroV] at this
  exact this
theorem has_ev (v : BitVec 64) (m : Int) : Ev (fun k => held_Has.f k v.toInt m) (hasB v m) := by
  refine Ev.bind (bits_ev [m] (by simp)) ?_
  rw [andV, has_eq]; exact Ev.now _
theorem with_ev (v : BitVec 64) (l : List Int) (hn : l.length ≤ 17592186044416) : Ev (fun k => held_With.f k v.toInt l) (v ||| bitsV l).toInt := by
  refine Ev.bind (bits_ev l hn) ?_
  rw [orV]; exact Ev.now _
theorem known_ev : Ev (fun k => meddlerlaw3_known.f k) true := Ev.of meddlerlaw3_known.mono (k := 60) (by decide +kernel)
theorem without_ev (v : BitVec 64) (l : List Int) (hn : l.length ≤ 17592186044416) : Ev (fun k => held_Without.f k v.toInt l) (v &&& ~~~ bitsV l).toInt := by
  refine Ev.bind (bits_ev l hn) ?_
  rw [andNotV]; exact Ev.now _
theorem round (v : BitVec 64) (l : List Int) (m : Int) (hn : l.length ≤ 60) (h0 : 0 ≤ m) (h1 : m ≤ 30) : ∀ (d i : Nat) (b : Bool), i + d = l.length → b = decide (m ∈ l.take i) → Ev (fun k => meddlerlaw3_HeldChanges.l0 k v.toInt l m b (i : Int)) true := by
  intro d
  induction d with
  | zero =>
    intro i b hi hb
    rw [List.take_of_length_le (by omega)] at hb
    have e1 : hasB (v ||| bitsV l) m = (hasB v m || b) := by
      rw [hasB_or, hasB_bits, hb]; congr 1; rw [Bool.eq_iff_iff]; simp only [decide_eq_true_eq]; exact ⟨fun h => h.2.2, fun h => ⟨h0, by omega, h⟩⟩
    have e2 : hasB (v &&& ~~~bitsV l) m = (hasB v m && !b) := by
      rw [hasB_without, hasB_bits, hb]; congr 2; rw [Bool.eq_iff_iff]; simp only [decide_eq_true_eq]; exact ⟨fun h => h.2.2, fun h => ⟨h0, by omega, h⟩⟩
    refine Ev_shift ?_
    simp only [meddlerlaw3_HeldChanges.l0]
    refine Ev_neg (by omega) ?_
    refine Ev.bind (with_ev v l (by omega)) ?_
    refine Ev.bind (has_ev _ m) ?_
    rw [e1]
    cases b with
    | true =>
      refine Ev_pos (by simp) (Ev_pos (by simp) ?_)
      refine Ev.bind (without_ev v l (by omega)) ?_
      refine Ev.bind (has_ev _ m) ?_
      rw [e2]
      exact Ev_pos (by simp) (Ev.bind known_ev (Ev.now _))
    | false =>
      refine Ev_neg (by simp) ?_
      refine Ev.bind (has_ev v m) (Ev_pos (by simp) ?_)
      refine Ev.bind (without_ev v l (by omega)) ?_
      refine Ev.bind (has_ev _ m) ?_
      rw [e2]
      refine Ev.bind (has_ev v m) (Ev_pos (by simp) ?_)
      exact Ev.bind known_ev (Ev.now _)
  | succ d ih =>
    intro i b hi hb
    have hlt : i < l.length := by omega
    refine Ev_shift ?_
    simp only [meddlerlaw3_HeldChanges.l0]
    refine Ev_pos (by omega) ?_
    rw [wrap_succ hlt (by omega)]
    have ht : l.take (i + 1) = l.take i ++ [rd l (i : Int)] := by rw [rd_at l i hlt, List.take_succ_eq_append_getElem hlt]
    cases b with
    | true => exact Ev_pos (by simp) (ih (i + 1) true (by omega) (by rw [ht]; simp at hb ⊢; exact .inl hb))
    | false =>
      refine Ev_neg (by simp) (Ev_pos (by omega) (ih (i + 1) _ (by omega) ?_))
      rw [ht, Bool.eq_iff_iff]
      simp at hb ⊢
      exact ⟨fun h => .inr h.symm, fun h => h.elim (fun h => absurd h hb) (fun h => h.symm)⟩
theorem HeldChanges : meddlerlaw3_HeldChanges.Pure := by
  intro a l m wa _ _ _ _
  obtain ⟨v, rfl⟩ := ofV a wa
  apply Ev.rounds
  have fin : Ev (fun k => meddlerlaw3_HeldChanges.j0 k v.toInt l m true) true := Ev_shift (by simp only [meddlerlaw3_HeldChanges.j0]; exact Ev_pos (by simp) (Ev.now _))
  refine Ev.bind (sets_ev _ (by simp)) ?_
  by_cases hs : setsB [v.toInt] = true
  · refine Ev_pos hs ?_
    by_cases hl : (l.length : Int) > 60
    · exact Ev_pos hl fin
    · refine Ev_neg hl ?_
      by_cases hm : m < 0
      · exact Ev_pos hm fin
      · refine Ev_neg hm ?_
        by_cases h30 : m > 30
        · rw [decide_eq_true h30]; exact fin
        · rw [decide_eq_false h30]
          refine Ev_shift ?_
          simp only [meddlerlaw3_HeldChanges.j0]
          exact Ev_neg (by simp) (round v l m (by omega) (by omega) (by omega) l.length 0 false (by omega) (by simp))
  · exact Ev_neg hs fin

end Go.Proofs.Ythhbpbogbfopnaa.Pure
