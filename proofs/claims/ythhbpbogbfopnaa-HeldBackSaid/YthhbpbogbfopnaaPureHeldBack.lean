/- Proved: for every input, Go function HeldBack returns true and leaves its arguments as they were. No condition beyond what the given row says. -/
import Derived.Test.YthhbpbogbfopnaaOwnHeldBackx1
import Derived.Test.YthhbpbogbfopnaaHeldPlain
namespace Go.Proofs.Ythhbpbogbfopnaa.Pure
open Go.RowKit Go.Proofs.Ythhbpbogbfopnaa.PHeldBack Go.Proofs.YthhbpbogbfopnaaW.PrintWords Go.Proofs.YthhbpbogbfopnaaW.PrintLast Go.Proofs.Ythhbpbogbfopnaa.Plain

theorem sets_loop (l : List Int) (hn : l.length ≤ 17592186044416) : ∀ (d i : Nat), i + d = l.length → Ev (fun k => meddlerlaw3_sets.l0 k l (i : Int)) (setsB (l.drop i)) := by
  intro d
  induction d with
  | zero =>
    intro i hi
    refine Ev.step (f := fun _ => some (setsB (l.drop i))) (fun k => ?_) (Ev.now _)
    show meddlerlaw3_sets.l0 (k + 1) l i = _
    rw [meddlerlaw3_sets.l0, if_neg (by omega), List.drop_eq_nil_of_le (by omega)]; rfl
  | succ d ih =>
    intro i hi
    have hlt : i < l.length := by omega
    rw [drop_rd l i hlt]
    by_cases h0 : rd l (i : Int) < 0
    · refine Ev.step (f := fun _ => some false) (fun k => ?_) ?_
      · show meddlerlaw3_sets.l0 (k + 1) l i = _
        rw [meddlerlaw3_sets.l0, if_pos (by omega), if_pos (by omega), if_pos h0]
      · rw [show setsB (rd l (i : Int) :: l.drop (i + 1)) = false by simp [setsB]; intro h; omega]
        exact Ev.now _
    · by_cases h1 : rd l (i : Int) ≥ 2147483648
      · refine Ev.step (f := fun _ => some false) (fun k => ?_) ?_
        · show meddlerlaw3_sets.l0 (k + 1) l i = _
          rw [meddlerlaw3_sets.l0, if_pos (by omega), if_pos (by omega), if_neg h0, if_pos h1]
        · rw [show setsB (rd l (i : Int) :: l.drop (i + 1)) = false by simp [setsB]; intro h; omega]
          exact Ev.now _
      · rw [show setsB (rd l (i : Int) :: l.drop (i + 1)) = setsB (l.drop (i + 1)) by
          simp only [setsB, List.all_cons]; rw [decide_eq_true (by omega), Bool.true_and]]
        refine Ev.step (fun k => ?_) (ih (i + 1) (by omega))
        show meddlerlaw3_sets.l0 (k + 1) l i = _
        rw [meddlerlaw3_sets.l0, if_pos (by omega), if_pos (by omega), if_neg h0, if_neg h1, wrap_succ hlt hn]
theorem sets_ev (l : List Int) (hn : l.length ≤ 17592186044416) : Ev (fun k => meddlerlaw3_sets.f k l) (setsB l) := sets_loop l hn l.length 0 (by omega)
theorem bits_loop (l : List Int) (hn : l.length ≤ 17592186044416) : ∀ (d i : Nat) (s : BitVec 64), i + d = l.length → Ev (fun k => held_bits.l0 k s.toInt l (l.length : Int) (i : Int)) (add s (l.drop i)).toInt := by
  intro d
  induction d with
  | zero =>
    intro i s hi
    refine Ev.step (f := fun _ => some (add s (l.drop i)).toInt) (fun k => ?_) (Ev.now _)
    show held_bits.l0 (k + 1) s.toInt l l.length i = _
    rw [held_bits.l0, if_neg (by omega), List.drop_eq_nil_of_le (by omega)]; rfl
  | succ d ih =>
    intro i s hi
    have hlt : i < l.length := by omega
    rw [drop_rd l i hlt, add_cons]
    refine Ev.step (fun k => ?_) (ih (i + 1) (s ||| one (rd l (i : Int))) (by omega))
    show held_bits.l0 (k + 1) s.toInt l l.length i = _
    rw [held_bits.l0, if_pos (by omega), if_pos (by omega), if_pos (by omega), wrap_succ hlt hn]
    unfold one
    by_cases h0 : rd l (i : Int) ≥ 0
    · by_cases h1 : rd l (i : Int) < 31
      · rw [if_pos h0, if_pos h1, if_pos h0, if_pos ⟨h0, h1⟩, shlV _ h0 h1, orV]
      · rw [if_pos h0, if_neg h1, if_neg (by omega), BitVec.or_zero]
    · rw [if_neg h0, if_neg (by omega), BitVec.or_zero]
theorem bits_ev (l : List Int) (hn : l.length ≤ 17592186044416) : Ev (fun k => held_bits.f k l) (bitsV l).toInt := by
  have := bits_loop l hn l.length 0 0#64 (by omega)
  rw [← zeroV] at this
  exact this
theorem has_ev (v : BitVec 64) (m : Int) : Ev (fun k => held_Has.f k v.toInt m) (hasB v m) := by
  refine Ev.bind (bits_ev [m] (by simp)) ?_
  rw [andV, has_eq]; exact Ev.now _
theorem with_ev (v : BitVec 64) (l : List Int) (hn : l.length ≤ 17592186044416) : Ev (fun k => held_With.f k v.toInt l) (v ||| bitsV l).toInt := by
  refine Ev.bind (bits_ev l hn) ?_
  rw [orV]; exact Ev.now _
theorem known_ev : Ev (fun k => meddlerlaw3_known.f k) true := Ev.of meddlerlaw3_known.mono (k := 60) (by decide +kernel)
theorem without_ev (v : BitVec 64) (l : List Int) (hn : l.length ≤ 17592186044416) : Ev (fun k => held_Without.f k v.toInt l) (v &&& ~~~ bitsV l).toInt := by
  refine Ev.bind (bits_ev l hn) ?_
  rw [andNotV]; exact Ev.now _
theorem list_loop (v : BitVec 64) : ∀ (d i : Nat) (l : List Int), i + d = 31 → l.length ≤ i → Ev (fun k => held_List.l0 k v.toInt l (i : Int)) (l ++ from_ v i d) := by
  intro d
  induction d with
  | zero =>
    intro i l hi _
    refine Ev.step (f := fun _ => some (l ++ from_ v i 0)) (fun k => ?_) (Ev.now _)
    show held_List.l0 (k + 1) v.toInt l i = _
    rw [held_List.l0, if_neg (by omega)]; simp [from_]
  | succ d ih =>
    intro i l hi hl
    refine Ev.step (f := fun k => (held_Has.f k v.toInt i).bind fun t => if t = true then (if l.length < 17592186044416 then held_List.l0 k v.toInt (l ++ [(i : Int)]) (wrap64 ((i : Int) + 1)) else none) else held_List.l0 k v.toInt l (wrap64 ((i : Int) + 1))) (fun k => ?_) ?_
    · show held_List.l0 (k + 1) v.toInt l i = _
      rw [held_List.l0, if_pos (by omega)]
    · refine Ev.bind (has_ev v i) ?_
      rw [wrap_succ (show i < 31 by omega) (by omega)]
      cases h : hasB v (i : Int) with
      | true =>
        refine Ev_pos (by simp) (Ev_pos (by omega) ?_)
        simp only [from_, h, if_true]
        have := ih (i + 1) (l ++ [(i : Int)]) (by omega) (by simp; omega)
        rw [List.append_assoc] at this
        exact this
      | false =>
        refine Ev_neg (by simp) ?_
        simp only [from_, h, Bool.false_eq_true, if_false]
        exact ih (i + 1) l (by omega) (by omega)
theorem list_ev (v : BitVec 64) : Ev (fun k => held_List.f k v.toInt) (listV v) := by
  have := list_loop v 31 0 [] (by omega) (by simp)
  exact this
theorem HeldBack : meddlerlaw3_HeldBack.Pure := by
  intro a l wa _ b1 _
  obtain ⟨v, rfl⟩ := ofV a wa
  apply Ev.rounds
  have fin : Ev (fun k => meddlerlaw3_HeldBack.j0 k v.toInt l true) true := Ev_shift (by simp only [meddlerlaw3_HeldBack.j0]; exact Ev_pos (by simp) (Ev.now _))
  refine Ev.bind (sets_ev _ (by simp)) ?_
  by_cases hs : setsB [v.toInt] = true
  · refine Ev_pos hs ?_
    by_cases hl : (l.length : Int) > 40
    · rw [decide_eq_true hl]; exact fin
    · rw [decide_eq_false hl]
      have hset : isSet v := by simpa [setsB, isSet] using hs
      have hlen : (listV v).length ≤ 31 := from_length v 31 0
      refine Ev_shift ?_
      simp only [meddlerlaw3_HeldBack.j0]
      refine Ev_neg (by simp) ?_
      refine Ev.bind (list_ev v) ?_
      have hw := with_ev 0#64 (listV v) (by omega)
      rw [← zeroV, BitVec.zero_or, bits_list hset] at hw
      refine Ev.bind hw (Ev_pos (by simp) ?_)
      refine Ev.bind (with_ev v l (by omega)) (Ev.bind (without_ev _ l (by omega)) (Ev.bind (without_ev v l (by omega)) (Ev_pos ?_ ?_)))
      · rw [inj]
        apply BitVec.eq_of_getLsbD_eq
        intro i hi
        simp only [BitVec.getLsbD_and, BitVec.getLsbD_or, BitVec.getLsbD_not, hi, decide_true, Bool.true_and]
        cases v.getLsbD i <;> cases (bitsV l).getLsbD i <;> rfl
      · refine Ev.bind (without_ev v l (by omega)) (Ev.bind (with_ev _ l (by omega)) (Ev.bind (with_ev v l (by omega)) (Ev_pos ?_ ?_)))
        · rw [inj]
          apply BitVec.eq_of_getLsbD_eq
          intro i hi
          simp only [BitVec.getLsbD_and, BitVec.getLsbD_or, BitVec.getLsbD_not, hi, decide_true, Bool.true_and]
          cases v.getLsbD i <;> cases (bitsV l).getLsbD i <;> rfl
        · exact Ev.bind known_ev (Ev.now _)
  · exact Ev_neg hs fin

end Go.Proofs.Ythhbpbogbfopnaa.Pure
