/- Proved: for every input, Go function HeldOnes returns true and leaves its arguments as they were. No condition beyond what the given row says. -/
import Derived.Test.YthhbpbogbfopnaaPHeldOnesx2
import Derived.Test.YthhbpbogbfopnaaHeldPlain
namespace Go.Proofs.Ythhbpbogbfopnaa.Pure
open Go.RowKit Go.Proofs.Ythhbpbogbfopnaa.PHeldOnes Go.Proofs.YthhbpbogbfopnaaW.PrintWords Go.Proofs.YthhbpbogbfopnaaW.PrintLast Go.Proofs.Ythhbpbogbfopnaa.Plain

theorem bits_loop (l : List Int) (hn : l.length ≤ 17592186044416) : ∀ (d i : Nat) (s : BitVec 64), i + d = l.length → Ev (fun k => held_bits.l0 k s.toInt l (l.length : Int) (i : Int)) (add s (l.drop i)).toInt := by
  intro d
  induction d with
  | zero =>
    intro i s hi
    refine Ev.step (f := fun _ => some (add s (l.drop i)).toInt) (fun k => ?_) (Ev.now _)
    show held_bits.l0 (k + 1) s.toInt l l.length i = _
    rw [held_bits.l0, if_neg (by omega), List.drop_eq_nil_of_le (by omega)]; rfl
  | succ d ih =>
    intro i s hi
    have hlt : i < l.length := by omega
    rw [drop_rd l i hlt, add_cons]
    refine Ev.step (fun k => ?_) (ih (i + 1) (s ||| one (rd l (i : Int))) (by omega))
    show held_bits.l0 (k + 1) s.toInt l l.length i = _
    rw [held_bits.l0, if_pos (by omega), if_pos (by omega), if_pos (by omega), wrap_succ hlt hn]
    unfold one
    by_cases h0 : rd l (i : Int) ≥ 0
    · by_cases h1 : rd l (i : Int) < 31
      · rw [if_pos h0, if_pos h1, if_pos h0, if_pos ⟨h0, h1⟩, shlV _ h0 h1, orV]
      · rw [if_pos h0, if_neg h1, if_neg (by omega), BitVec.or_zero]
    · rw [if_neg h0, if_neg (by omega), BitVec.or_zero]
theorem bits_ev (l : List Int) (hn : l.length ≤ 17592186044416) : Ev (fun k => held_bits.f k l) (bitsV l).toInt := by
  have := bits_loop l hn l.length 0 0#64 (by omega)
  rw [← zeroV] at this
  exact this
theorem has_ev (v : BitVec 64) (m : Int) : Ev (fun k => held_Has.f k v.toInt m) (hasB v m) := by
  refine Ev.bind (bits_ev [m] (by simp)) ?_
  rw [andV, has_eq]; exact Ev.now _
theorem with_ev (v : BitVec 64) (l : List Int) (hn : l.length ≤ 17592186044416) : Ev (fun k => held_With.f k v.toInt l) (v ||| bitsV l).toInt := by
  refine Ev.bind (bits_ev l hn) ?_
  rw [orV]; exact Ev.now _
theorem known_ev : Ev (fun k => meddlerlaw3_known.f k) true := Ev.of meddlerlaw3_known.mono (k := 60) (by decide +kernel)
theorem without_ev (v : BitVec 64) (l : List Int) (hn : l.length ≤ 17592186044416) : Ev (fun k => held_Without.f k v.toInt l) (v &&& ~~~ bitsV l).toInt := by
  refine Ev.bind (bits_ev l hn) ?_
  rw [andNotV]; exact Ev.now _
theorem list_loop (v : BitVec 64) : ∀ (d i : Nat) (l : List Int), i + d = 31 → l.length ≤ i → Ev (fun k => held_List.l0 k v.toInt l (i : Int)) (l ++ from_ v i d) := by
  intro d
  induction d with
  | zero =>
    intro i l hi _
    refine Ev.step (f := fun _ => some (l ++ from_ v i 0)) (fun k => ?_) (Ev.now _)
    show held_List.l0 (k + 1) v.toInt l i = _
    rw [held_List.l0, if_neg (by omega)]; simp [from_]
  | succ d ih =>
    intro i l hi hl
    refine Ev.step (f := fun k => (held_Has.f k v.toInt i).bind fun t => if t = true then (if l.length < 17592186044416 then held_List.l0 k v.toInt (l ++ [(i : Int)]) (wrap64 ((i : Int) + 1)) else none) else held_List.l0 k v.toInt l (wrap64 ((i : Int) + 1))) (fun k => ?_) ?_
    · show held_List.l0 (k + 1) v.toInt l i = _
      rw [held_List.l0, if_pos (by omega)]
    · refine Ev.bind (has_ev v i) ?_
      rw [wrap_succ (show i < 31 by omega) (by omega)]
      cases h : hasB v (i : Int) with
      | true =>
        refine Ev_pos (by simp) (Ev_pos (by omega) ?_)
        simp only [from_, h, if_true]
        have := ih (i + 1) (l ++ [(i : Int)]) (by omega) (by simp; omega)
        rw [List.append_assoc] at this
        exact this
      | false =>
        refine Ev_neg (by simp) ?_
        simp only [from_, h, Bool.false_eq_true, if_false]
        exact ih (i + 1) l (by omega) (by omega)
theorem list_ev (v : BitVec 64) : Ev (fun k => held_List.f k v.toInt) (listV v) := by
  have := list_loop v 31 0 [] (by omega) (by simp)
  exact this
theorem apart_ev (v w : BitVec 64) : Ev (fun k => held_Apart.f k v.toInt w.toInt) (((listV (v &&& w)).length : Int) == 0) := by
  unfold held_Apart.f
  rw [andV]
  exact Ev.bind (list_ev _) (Ev.now _)
theorem small : ∀ a b : Fin 31, meddlerlaw3_HeldOnes.f 70 a.val b.val = some true := by decide +kernel
theorem HeldOnes : meddlerlaw3_HeldOnes.Pure := by
  intro a b _ _
  by_cases h : 0 ≤ a ∧ a ≤ 30 ∧ 0 ≤ b ∧ b ≤ 30
  · have := small ⟨a.toNat, by omega⟩ ⟨b.toNat, by omega⟩
    simp only [Int.toNat_of_nonneg h.1, Int.toNat_of_nonneg h.2.2.1] at this
    exact ⟨70, this⟩
  · apply Ev.rounds
    have wi : ∀ m : Int, Ev (fun k => held_With.f k 0 [m]) (bitsV [m]).toInt := fun m => by
      have := with_ev 0#64 [m] (by simp)
      rwa [← zeroV, BitVec.zero_or] at this
    have z : ∀ m : Int, ¬ (0 ≤ m ∧ m ≤ 30) → (bitsV [m]).toInt = 0 := fun m hm => by
      rw [zeroV, inj]
      apply BitVec.eq_of_getLsbD_eq
      intro i hi
      rw [bitsV_bit]; simp; omega
    have k := known_ev
    have k' : Ev (fun k => (meddlerlaw3_known.f k).bind fun t => some t) true := Ev.bind k (Ev.now _)
    have main : Ev (fun k => meddlerlaw3_HeldOnes.j0 k a b (bitsV [a]).toInt (bitsV [b]).toInt true) true := by
      refine Ev_shift ?_
      simp only [meddlerlaw3_HeldOnes.j0]
      refine Ev_pos (by simp) ?_
      have eb : ∀ g : Nat → Option Bool, Ev (fun k => if b ≥ 0 then (if b ≤ 30 then (meddlerlaw3_known.f k).bind (fun t => some t) else (if (bitsV [b]).toInt = 0 then (meddlerlaw3_known.f k).bind (fun t => some t) else some false)) else (if (bitsV [b]).toInt = 0 then (meddlerlaw3_known.f k).bind (fun t => some t) else some false)) true := fun _ => by
        by_cases h1 : b ≥ 0
        · refine Ev_pos h1 ?_
          by_cases h2 : b ≤ 30
          · exact Ev_pos h2 k'
          · exact Ev_neg h2 (Ev_pos (z b (by omega)) k')
        · exact Ev_neg h1 (Ev_pos (z b (by omega)) k')
      by_cases h1 : a ≥ 0
      · refine Ev_pos h1 ?_
        by_cases h2 : a ≤ 30
        · exact Ev_pos h2 (eb fun _ => none)
        · exact Ev_neg h2 (Ev_pos (z a (by omega)) (eb fun _ => none))
      · exact Ev_neg h1 (Ev_pos (z a (by omega)) (eb fun _ => none))
    refine Ev.bind (wi a) (Ev.bind (wi b) ?_)
    by_cases h1 : a < 0
    · exact Ev_pos h1 main
    · refine Ev_neg h1 ?_
      by_cases h2 : a > 30
      · exact Ev_pos h2 main
      · refine Ev_neg h2 ?_
        by_cases h3 : b < 0
        · exact Ev_pos h3 main
        · refine Ev_neg h3 ?_
          rw [decide_eq_true (by omega)]; exact main

end Go.Proofs.Ythhbpbogbfopnaa.Pure
