/- What held.bits, Has, List, Apart come to, as sets of bits. Nothing of a walk stands here. -/
import Derived.Test.YtadnjibgdpjnlaaHeldPlain
import Derived.Test.YtadnjibgdpjnlaaRpF32
namespace Go.Proofs.Ytadnjibgdpjnlaa.Plain
open Go.RowKit Go.Proofs.Ytadnjibgdpjnlaa.Rp Go.Proofs.YtadnjibgdpjnlaaW.PrintWords
theorem bits_loop (l : List Int) (hn : l.length ≤ 17592186044416) : ∀ (d i : Nat) (s : BitVec 64), i + d = l.length → Ev (fun k => held_bits.l0 k s.toInt l (l.length : Int) (i : Int)) (add s (l.drop i)).toInt := by
  intro d
  induction d with
  | zero =>
    intro i s hi
    refine Ev.step (f := fun _ => some (add s (l.drop i)).toInt) (fun k => ?_) (Ev.now _)
    show held_bits.l0 (k + 1) s.toInt l l.length i = _
    rw [held_bits.l0, if_neg (by omega), List.drop_eq_nil_of_le (by omega)]; rfl
  | succ d ih =>
    intro i s hi
    have hlt : i < l.length := by omega
    rw [drop_rd l i hlt, add_cons]
    refine Ev.step (fun k => ?_) (ih (i + 1) (s ||| one (rd l (i : Int))) (by omega))
    show held_bits.l0 (k + 1) s.toInt l l.length i = _
    rw [held_bits.l0, if_pos (by omega), if_pos (by omega), if_pos (by omega), wrap_succ hlt hn]
    unfold one
    by_cases h0 : rd l (i : Int) ≥ 0
    · by_cases h1 : rd l (i : Int) < 31
      · rw [if_pos h0, if_pos h1, if_pos h0, if_pos ⟨h0, h1⟩, shlV _ h0 h1, Plain.orV]
      · rw [if_pos h0, if_neg h1, if_neg (by omega), BitVec.or_zero]
    · rw [if_neg h0, if_neg (by omega), BitVec.or_zero]
theorem bits_ev (l : List Int) (hn : l.length ≤ 17592186044416) : Ev (fun k => held_bits.f k l) (bitsV l).toInt := by
  have := bits_loop l hn l.length 0 0#64 (by omega)
  rw [← zeroV] at this
  exact this
theorem has_ev (v : BitVec 64) (m : Int) : Ev (fun k => held_Has.f k v.toInt m) (hasB v m) := by
  refine Ev.bind (bits_ev [m] (by simp)) ?_
  rw [andV, has_eq]; exact Ev.now _
theorem list_loop (v : BitVec 64) : ∀ (d i : Nat) (l : List Int), i + d = 31 → l.length ≤ i → Ev (fun k => held_List.l0 k v.toInt l (i : Int)) (l ++ from_ v i d) := by
  intro d
  induction d with
  | zero =>
    intro i l hi _
    refine Ev.step (f := fun _ => some (l ++ from_ v i 0)) (fun k => ?_) (Ev.now _)
    show held_List.l0 (k + 1) v.toInt l i = _
    rw [held_List.l0, if_neg (by omega)]; simp [from_]
  | succ d ih =>
    intro i l hi hl
    refine Ev.step (f := fun k => (held_Has.f k v.toInt i).bind fun t => if t = true then (if l.length < 17592186044416 then held_List.l0 k v.toInt (l ++ [(i : Int)]) (wrap64 ((i : Int) + 1)) else none) else held_List.l0 k v.toInt l (wrap64 ((i : Int) + 1))) (fun k => ?_) ?_
    · show held_List.l0 (k + 1) v.toInt l i = _
      rw [held_List.l0, if_pos (by omega)]
    · refine Ev.bind (has_ev v i) ?_
      rw [wrap_succ (show i < 31 by omega) (by omega)]
      cases h : hasB v (i : Int) with
      | true =>
        refine Ev_pos (by simp) (Ev_pos (by omega) ?_)
        simp only [from_, h, if_true]
        have := ih (i + 1) (l ++ [(i : Int)]) (by omega) (by simp; omega)
        rw [List.append_assoc] at this
        exact this
      | false =>
        refine Ev_neg (by simp) ?_
        simp only [from_, h, Bool.false_eq_true, if_false]
        exact ih (i + 1) l (by omega) (by omega)
theorem list_ev (v : BitVec 64) : Ev (fun k => held_List.f k v.toInt) (listV v) := by
  have := list_loop v 31 0 [] (by omega) (by simp)
  exact this
theorem apart_ev (v w : BitVec 64) : Ev (fun k => held_Apart.f k v.toInt w.toInt) (((listV (v &&& w)).length : Int) == 0) := by
  unfold held_Apart.f
  rw [andV]
  exact Ev.bind (list_ev _) (Ev.now _)
end Go.Proofs.Ytadnjibgdpjnlaa.Plain
