/- Proved: for every input, Go function HeldTells returns true and leaves its arguments as they were. No condition beyond what the given row says. -/
import Derived.Test.YthhbpbogbfopnaaOwnHeldTellsx3
import Derived.Test.YthhbpbogbfopnaaHeldPlain
namespace Go.Proofs.Ythhbpbogbfopnaa.Pure
open Go.RowKit Go.Proofs.Ythhbpbogbfopnaa.PHeldTells Go.Proofs.YthhbpbogbfopnaaW.PrintWords Go.Proofs.YthhbpbogbfopnaaW.PrintLast Go.Proofs.Ythhbpbogbfopnaa.Plain

theorem sets_loop (l : List Int) (hn : l.length ≤ 17592186044416) : ∀ (d i : Nat), i + d = l.length → Ev (fun k => meddlerlaw3_sets.l0 k l (i : Int)) (setsB (l.drop i)) := by
  intro d
  induction d with
  | zero =>
    intro i hi
    refine Ev.step (f := fun _ => some (setsB (l.drop i))) (fun k => ?_) (Ev.now _)
    show meddlerlaw3_sets.l0 (k + 1) l i = _
    rw [meddlerlaw3_sets.l0, if_neg (by omega), List.drop_eq_nil_of_le (by omega)]; rfl
  | succ d ih =>
    intro i hi
    have hlt : i < l.length := by omega
    rw [drop_rd l i hlt]
    by_cases h0 : rd l (i : Int) < 0
    · refine Ev.step (f := fun _ => some false) (fun k => ?_) ?_
      · show meddlerlaw3_sets.l0 (k + 1) l i = _
        rw [meddlerlaw3_sets.l0, if_pos (by omega), if_pos (by omega), if_pos h0]
      · rw [show setsB (rd l (i : Int) :: l.drop (i + 1)) = false by simp [setsB]; intro h; omega]
        exact Ev.now _
    · by_cases h1 : rd l (i : Int) ≥ 2147483648
      · refine Ev.step (f := fun _ => some false) (fun k => ?_) ?_
        · show meddlerlaw3_sets.l0 (k + 1) l i = _
          rw [meddlerlaw3_sets.l0, if_pos (by omega), if_pos (by omega), if_neg h0, if_pos h1]
        · rw [show setsB (rd l (i : Int) :: l.drop (i + 1)) = false by simp [setsB]; intro h; omega]
          exact Ev.now _
      · rw [show setsB (rd l (i : Int) :: l.drop (i + 1)) = setsB (l.drop (i + 1)) by
          simp only [setsB, List.all_cons]; rw [decide_eq_true (by omega), Bool.true_and]]
        refine Ev.step (fun k => ?_) (ih (i + 1) (by omega))
        show meddlerlaw3_sets.l0 (k + 1) l i = _
        rw [meddlerlaw3_sets.l0, if_pos (by omega), if_pos (by omega), if_neg h0, if_neg h1, wrap_succ hlt hn]
theorem sets_ev (l : List Int) (hn : l.length ≤ 17592186044416) : Ev (fun k => meddlerlaw3_sets.f k l) (setsB l) := sets_loop l hn l.length 0 (by omega)
theorem bits_loop (l : List Int) (hn : l.length ≤ 17592186044416) : ∀ (d i : Nat) (s : BitVec 64), i + d = l.length → Ev (fun k => held_bits.l0 k s.toInt l (l.length : Int) (i : Int)) (add s (l.drop i)).toInt := by
  intro d
  induction d with
  | zero =>
    intro i s hi
    refine Ev.step (f := fun _ => some (add s (l.drop i)).toInt) (fun k => ?_) (Ev.now _)
    show held_bits.l0 (k + 1) s.toInt l l.length i = _
    rw [held_bits.l0, if_neg (by omega), List.drop_eq_nil_of_le (by omega)]; rfl
  | succ d ih =>
    intro i s hi
    have hlt : i < l.length := by omega
    rw [drop_rd l i hlt, add_cons]
    refine Ev.step (fun k => ?_) (ih (i + 1) (s ||| one (rd l (i : Int))) (by omega))
    show held_bits.l0 (k + 1) s.toInt l l.length i = _
    rw [held_bits.l0, if_pos (by omega), if_pos (by omega), if_pos (by omega), wrap_succ hlt hn]
    unfold one
    by_cases h0 : rd l (i : Int) ≥ 0
    · by_cases h1 : rd l (i : Int) < 31
      · rw [if_pos h0, if_pos h1, if_pos h0, if_pos ⟨h0, h1⟩, shlV _ h0 h1, orV]
      · rw [if_pos h0, if_neg h1, if_neg (by omega), BitVec.or_zero]
    · rw [if_neg h0, if_neg (by omega), BitVec.or_zero]
theorem bits_ev (l : List Int) (hn : l.length ≤ 17592186044416) : Ev (fun k => held_bits.f k l) (bitsV l).toInt := by
  have := bits_loop l hn l.length 0 0#64 (by omega)
  rw [← zeroV] at this
  exact this
theorem has_ev (v : BitVec 64) (m : Int) : Ev (fun k => held_Has.f k v.toInt m) (hasB v m) := by
  refine Ev.bind (bits_ev [m] (by simp)) ?_
  rw [andV, has_eq]; exact Ev.now _
theorem with_ev (v : BitVec 64) (l : List Int) (hn : l.length ≤ 17592186044416) : Ev (fun k => held_With.f k v.toInt l) (v ||| bitsV l).toInt := by
  refine Ev.bind (bits_ev l hn) ?_
  rw [orV]; exact Ev.now _
theorem known_ev : Ev (fun k => meddlerlaw3_known.f k) true := Ev.of meddlerlaw3_known.mono (k := 60) (by decide +kernel)
theorem without_ev (v : BitVec 64) (l : List Int) (hn : l.length ≤ 17592186044416) : Ev (fun k => held_Without.f k v.toInt l) (v &&& ~~~ bitsV l).toInt := by
  refine Ev.bind (bits_ev l hn) ?_
  rw [andNotV]; exact Ev.now _
theorem list_loop (v : BitVec 64) : ∀ (d i : Nat) (l : List Int), i + d = 31 → l.length ≤ i → Ev (fun k => held_List.l0 k v.toInt l (i : Int)) (l ++ from_ v i d) := by
  intro d
  induction d with
  | zero =>
    intro i l hi _
    refine Ev.step (f := fun _ => some (l ++ from_ v i 0)) (fun k => ?_) (Ev.now _)
    show held_List.l0 (k + 1) v.toInt l i = _
    rw [held_List.l0, if_neg (by omega)]; simp [from_]
  | succ d ih =>
    intro i l hi hl
    refine Ev.step (f := fun k => (held_Has.f k v.toInt i).bind fun t => if t = true then (if l.length < 17592186044416 then held_List.l0 k v.toInt (l ++ [(i : Int)]) (wrap64 ((i : Int) + 1)) else none) else held_List.l0 k v.toInt l (wrap64 ((i : Int) + 1))) (fun k => ?_) ?_
    · show held_List.l0 (k + 1) v.toInt l i = _
      rw [held_List.l0, if_pos (by omega)]
    · refine Ev.bind (has_ev v i) ?_
      rw [wrap_succ (show i < 31 by omega) (by omega)]
      cases h : hasB v (i : Int) with
      | true =>
        refine Ev_pos (by simp) (Ev_pos (by omega) ?_)
        simp only [from_, h, if_true]
        have := ih (i + 1) (l ++ [(i : Int)]) (by omega) (by simp; omega)
        rw [List.append_assoc] at this
        exact this
      | false =>
        refine Ev_neg (by simp) ?_
        simp only [from_, h, Bool.false_eq_true, if_false]
        exact ih (i + 1) l (by omega) (by omega)
theorem list_ev (v : BitVec 64) : Ev (fun k => held_List.f k v.toInt) (listV v) := by
  have := list_loop v 31 0 [] (by omega) (by simp)
  exact this
theorem apart_ev (v w : BitVec 64) : Ev (fun k => held_Apart.f k v.toInt w.toInt) (((listV (v &&& w)).length : Int) == 0) := by
  unfold held_Apart.f
  rw [andV]
  exact Ev.bind (list_ev _) (Ev.now _)
theorem meet_loop (l : List (BitVec 64)) (hn : l.length ≤ 17592186044416) : ∀ (d i : Nat) (s : BitVec 64), i + d = l.length → Ev (fun k => held_Meet.l0 k s.toInt (l.map BitVec.toInt) (l.length : Int) (i : Int)) (meetV s (l.drop i)).toInt := by
  intro d
  induction d with
  | zero =>
    intro i s hi
    refine Ev.step (f := fun _ => some (meetV s (l.drop i)).toInt) (fun k => ?_) (Ev.now _)
    show held_Meet.l0 (k + 1) s.toInt (l.map BitVec.toInt) l.length i = _
    rw [held_Meet.l0, if_neg (by omega), List.drop_eq_nil_of_le (by omega)]; rfl
  | succ d ih =>
    intro i s hi
    have hlt : i < l.length := by omega
    rw [List.drop_eq_getElem_cons hlt]
    refine Ev.step (fun k => ?_) (ih (i + 1) (s &&& l[i]) (by omega))
    show held_Meet.l0 (k + 1) s.toInt (l.map BitVec.toInt) l.length i = _
    rw [held_Meet.l0, if_pos (by omega), if_pos (by omega), if_pos (by simp; omega), wrap_succ hlt hn, rd_at _ i (by simpa using hlt), List.getElem_map, andV]
theorem meet_ev (v : BitVec 64) (l : List (BitVec 64)) (hn : l.length < 17592186044416) : Ev (fun k => held_Meet.f k ((v :: l).map BitVec.toInt)) (meetV v l).toInt := by
  have := meet_loop l (by omega) l.length 0 v (by omega)
  refine Ev.congr (fun k => ?_) this
  show held_Meet.f k ((v :: l).map BitVec.toInt) = _
  unfold held_Meet.f
  rw [if_neg (by simp <;> omega), if_pos (by simp <;> omega), if_pos (by simp <;> omega)]
  simp [rd]
theorem meet0_ev : Ev (fun k => held_Meet.f k []) 0 := Ev.congr (fun _ => rfl) (Ev.now _)
theorem join_loop (l : List (BitVec 64)) (hn : l.length ≤ 17592186044416) : ∀ (d i : Nat) (s : BitVec 64), i + d = l.length → Ev (fun k => held_Join.l0 k s.toInt (l.map BitVec.toInt) (l.length : Int) (i : Int)) (joinV s (l.drop i)).toInt := by
  intro d
  induction d with
  | zero =>
    intro i s hi
    refine Ev.step (f := fun _ => some (joinV s (l.drop i)).toInt) (fun k => ?_) (Ev.now _)
    show held_Join.l0 (k + 1) s.toInt (l.map BitVec.toInt) l.length i = _
    rw [held_Join.l0, if_neg (by omega), List.drop_eq_nil_of_le (by omega)]; rfl
  | succ d ih =>
    intro i s hi
    have hlt : i < l.length := by omega
    rw [List.drop_eq_getElem_cons hlt]
    refine Ev.step (fun k => ?_) (ih (i + 1) (s ||| l[i]) (by omega))
    show held_Join.l0 (k + 1) s.toInt (l.map BitVec.toInt) l.length i = _
    rw [held_Join.l0, if_pos (by omega), if_pos (by omega), if_pos (by simp; omega), wrap_succ hlt hn, rd_at _ i (by simpa using hlt), List.getElem_map, orV]
theorem join_ev (l : List (BitVec 64)) (hn : l.length ≤ 17592186044416) : Ev (fun k => held_Join.f k (l.map BitVec.toInt)) (joinV 0#64 l).toInt := by
  have := join_loop l hn l.length 0 0#64 (by omega)
  rw [← zeroV] at this
  refine Ev.congr (fun k => ?_) this
  show held_Join.f k (l.map BitVec.toInt) = _
  unfold held_Join.f
  rw [List.length_map]
  rfl
theorem shrV (v : BitVec 64) (m : Nat) (h : m < 31) : shr .i64 v.toInt (m : Int) = (v.sshiftRight m).toInt := by
  unfold shr
  rw [BitVec.toInt_sshiftRight, Int.shiftRight_eq_div_pow]
  simp only [IntKind.bits, Int.toNat_natCast]
  rw [Nat.min_eq_left (by omega)]
  simp
theorem and1 (x : BitVec 64) : ((x &&& 1#64).toInt == 1) = x.getLsbD 0 := by
  rw [show (1 : Int) = (1#64).toInt by decide, Bool.eq_iff_iff, beq_iff_eq, inj]
  constructor
  · intro h
    have := congrArg (fun y : BitVec 64 => y.getLsbD 0) h
    simpa using this
  · intro h
    apply BitVec.eq_of_getLsbD_eq
    intro i hi
    rw [BitVec.getLsbD_and, BitVec.getLsbD_one]
    by_cases e : i = 0
    · subst e; simp [h]
    · simp [e]
theorem ref_has (v : BitVec 64) (m : Int) : meddlerref3_Has.f v.toInt m = some (hasB v m) := by
  unfold meddlerref3_Has.f hasB
  by_cases h0 : m ≥ 0
  · by_cases h1 : m ≤ 30
    · rw [if_pos h0, if_pos h1, u64_small m h0 (by omega), if_pos h0]
      obtain ⟨i, rfl⟩ := Int.eq_ofNat_of_zero_le h0
      rw [shrV v i (by omega)]
      rw [show (1 : Int) = (1#64).toInt by decide, andV, ← show (1 : Int) = (1#64).toInt by decide, and1, BitVec.getLsbD_sshiftRight]
      have : i < 64 := by omega
      simp [this]
      omega
    · rw [if_pos h0, if_neg h1, decide_eq_false (by omega)]; rfl
  · rw [if_neg h0, decide_eq_false (by omega)]; rfl
theorem ref_list_loop (v : BitVec 64) : ∀ (d i : Nat) (l : List Int), i + d = 31 → l.length ≤ i → Ev (fun k => meddlerref3_List.l0 k v.toInt l (i : Int)) (l ++ from_ v i d) := by
  intro d
  induction d with
  | zero =>
    intro i l hi _
    refine Ev_shift ?_
    simp only [meddlerref3_List.l0]
    refine Ev_neg (by omega) ?_
    simp only [from_, List.append_nil]; exact Ev.now _
  | succ d ih =>
    intro i l hi hl
    refine Ev_shift ?_
    simp only [meddlerref3_List.l0]
    refine Ev_pos (by omega) ?_
    simp only [ref_has, Option.bind_some]
    rw [wrap_succ (show i < 31 by omega) (by omega)]
    cases h : hasB v (i : Int) with
    | true =>
      refine Ev_pos (by simp) (Ev_pos (by omega) ?_)
      simp only [from_, h, if_true]
      have := ih (i + 1) (l ++ [(i : Int)]) (by omega) (by simp; omega)
      rw [List.append_assoc] at this
      exact this
    | false =>
      refine Ev_neg (by simp) ?_
      simp only [from_, h, Bool.false_eq_true, if_false]
      exact ih (i + 1) l (by omega) (by omega)
theorem ref_list_ev (v : BitVec 64) : Ev (fun k => meddlerref3_List.f k v.toInt) (listV v) := ref_list_loop v 31 0 [] (by omega) (by simp)
theorem ref_with_loop (l : List Int) (hn : l.length ≤ 17592186044416) : ∀ (d i : Nat) (s : BitVec 64), i + d = l.length → Ev (fun k => meddlerref3_With.l0 k s.toInt l (i : Int)) (add s (l.drop i)).toInt := by
  intro d
  induction d with
  | zero =>
    intro i s hi
    refine Ev_shift ?_
    simp only [meddlerref3_With.l0]
    rw [List.drop_eq_nil_of_le (by omega), add_nil]
    exact Ev_neg (by omega) (Ev.now _)
  | succ d ih =>
    intro i s hi
    have hlt : i < l.length := by omega
    refine Ev_shift ?_
    simp only [meddlerref3_With.l0]
    refine Ev_pos (by omega) (Ev_pos (by omega) ?_)
    rw [drop_rd l i hlt, add_cons, wrap_succ hlt hn]
    have := ih (i + 1) (s ||| one (rd l (i : Int))) (by omega)
    by_cases h0 : rd l (i : Int) ≥ 0
    · refine Ev_pos h0 ?_
      by_cases h1 : rd l (i : Int) ≤ 30
      · refine Ev_pos h1 ?_
        rw [u64_small _ h0 (by omega)]
        refine Ev_pos h0 ?_
        rw [shlV _ h0 (by omega), orV]
        rw [one, if_pos (by omega)] at this ⊢
        exact this
      · refine Ev_neg h1 ?_
        rw [one, if_neg (by omega), BitVec.or_zero] at this ⊢
        exact this
    · refine Ev_neg h0 ?_
      rw [one, if_neg (by omega), BitVec.or_zero] at this ⊢
      exact this
theorem ref_with_ev (v : BitVec 64) (l : List Int) (hn : l.length ≤ 17592186044416) : Ev (fun k => meddlerref3_With.f k v.toInt l) (v ||| bitsV l).toInt := by
  rw [← add_eq]; exact ref_with_loop l hn l.length 0 v (by omega)
theorem ref_without_loop (l : List Int) (hn : l.length ≤ 17592186044416) : ∀ (d i : Nat) (s : BitVec 64), i + d = l.length → Ev (fun k => meddlerref3_Without.l0 k s.toInt l (i : Int)) (sub s (l.drop i)).toInt := by
  intro d
  induction d with
  | zero =>
    intro i s hi
    refine Ev_shift ?_
    simp only [meddlerref3_Without.l0]
    rw [List.drop_eq_nil_of_le (by omega)]
    exact Ev_neg (by omega) (Ev.now _)
  | succ d ih =>
    intro i s hi
    have hlt : i < l.length := by omega
    refine Ev_shift ?_
    simp only [meddlerref3_Without.l0]
    refine Ev_pos (by omega) (Ev_pos (by omega) ?_)
    rw [drop_rd l i hlt, sub_cons, wrap_succ hlt hn]
    have := ih (i + 1) (s &&& ~~~one (rd l (i : Int))) (by omega)
    by_cases h0 : rd l (i : Int) ≥ 0
    · refine Ev_pos h0 ?_
      by_cases h1 : rd l (i : Int) ≤ 30
      · refine Ev_pos h1 ?_
        rw [u64_small _ h0 (by omega)]
        refine Ev_pos h0 ?_
        rw [shlV _ h0 (by omega), andNotV]
        rw [one, if_pos (by omega)] at this ⊢
        exact this
      · refine Ev_neg h1 ?_
        rw [one, if_neg (by omega)] at this ⊢
        rw [show s &&& ~~~0#64 = s from by rw [BitVec.not_zero, BitVec.and_allOnes]] at this ⊢
        exact this
    · refine Ev_neg h0 ?_
      rw [one, if_neg (by omega)] at this ⊢
      rw [show s &&& ~~~0#64 = s from by rw [BitVec.not_zero, BitVec.and_allOnes]] at this ⊢
      exact this
theorem ref_without_ev (v : BitVec 64) (l : List Int) (hn : l.length ≤ 17592186044416) : Ev (fun k => meddlerref3_Without.f k v.toInt l) (v &&& ~~~bitsV l).toInt := by
  rw [← sub_eq]; exact ref_without_loop l hn l.length 0 v (by omega)
theorem ref_apart {v w : BitVec 64} (hv : isSet v) : meddlerref3_Apart.f v.toInt w.toInt = some (((listV (v &&& w)).length : Int) == 0) := by
  unfold meddlerref3_Apart.f
  rw [show (2147483647 : Int) = (2147483647#64).toInt by decide, andV, andV]
  congr 1
  rw [zeroV, Bool.eq_iff_iff, beq_iff_eq, beq_iff_eq, inj, ← zeroV]
  rw [show (((listV (v &&& w)).length : Int) = 0 ↔ listV (v &&& w) = []) by rw [← List.length_eq_zero_iff]; omega, list_nil]
  have mask : ∀ i, i < 31 → (2147483647#64).getLsbD i = true := by
    have : ∀ i : Fin 31, (2147483647#64).getLsbD i.val = true := by decide
    exact fun i hi => this ⟨i, hi⟩
  constructor
  · intro h m
    have e := fun i => congrArg (fun y : BitVec 64 => y.getLsbD i) h
    unfold hasB
    by_cases hm : 0 ≤ m ∧ m < 31
    · have := e m.toNat
      simp only [BitVec.getLsbD_and, mask m.toNat (by omega), BitVec.getLsbD_zero, Bool.and_true] at this
      simp [hm, this]
    · simp [hm]
  · intro h
    apply BitVec.eq_of_getLsbD_eq
    intro i hi
    by_cases h31 : i < 31
    · have := h (i : Int)
      rw [hasB_nat] at this
      simp only [h31, decide_true, Bool.true_and] at this
      rw [BitVec.getLsbD_and, this]; simp
    · rw [BitVec.getLsbD_and, BitVec.getLsbD_and, set_bit hv i (by omega)]; simp
theorem round (v w : BitVec 64) (m : Int) (l : List Int) (hv : isSet v) (hn : l.length ≤ 100) (xs : List Int) (hx : xs.length ≤ 31) : ∀ (d i : Nat), i + d = xs.length → Ev (fun k => meddlerlaw3_HeldTells.l0 k v.toInt w.toInt m l xs xs (i : Int)) true := by
  intro d
  induction d with
  | zero =>
    intro i hi
    refine Ev_shift ?_
    simp only [meddlerlaw3_HeldTells.l0]
    refine Ev_neg (by omega) ?_
    refine Ev.bind (has_ev v m) ?_
    simp only [ref_has, Option.bind_some]
    refine Ev_pos (by simp) ?_
    refine Ev.bind (with_ev v l (by omega)) (Ev.bind (ref_with_ev v l (by omega)) (Ev_pos (by simp) ?_))
    refine Ev.bind (without_ev v l (by omega)) (Ev.bind (ref_without_ev v l (by omega)) (Ev_pos (by simp) ?_))
    refine Ev.bind (meet_ev v [w] (by simp)) (Ev_pos (by rw [andV]; rfl) ?_)
    refine Ev.bind (join_ev [v, w] (by simp)) (Ev_pos (by rw [orV]; simp [joinV]) ?_)
    refine Ev.bind (apart_ev v w) ?_
    simp only [ref_apart hv, Option.bind_some]
    refine Ev_pos (by simp) ?_
    refine Ev.bind meet0_ev (Ev_pos (by simp) ?_)
    refine Ev.bind (join_ev [] (by simp)) (Ev_pos (by decide) ?_)
    exact Ev.bind known_ev (Ev.now _)
  | succ d ih =>
    intro i hi
    refine Ev_shift ?_
    simp only [meddlerlaw3_HeldTells.l0]
    refine Ev_pos (by omega) (Ev_pos (by omega) (Ev_pos (by omega) (Ev_pos (by simp) ?_)))
    rw [wrap_succ (show i < xs.length by omega) (by omega)]
    exact ih (i + 1) (by omega)
theorem HeldTells : meddlerlaw3_HeldTells.Pure := by
  intro a b m l wa wb _ _ _ _
  obtain ⟨v, rfl⟩ := ofV a wa
  obtain ⟨w, rfl⟩ := ofV b wb
  apply Ev.rounds
  have fin : Ev (fun k => meddlerlaw3_HeldTells.j0 k v.toInt w.toInt m l true) true := Ev_shift (by simp only [meddlerlaw3_HeldTells.j0]; exact Ev_pos (by simp) (Ev.now _))
  refine Ev.bind (sets_ev _ (by simp)) ?_
  by_cases hs : setsB [v.toInt, w.toInt] = true
  · refine Ev_pos hs ?_
    by_cases hl : (l.length : Int) > 100
    · rw [decide_eq_true hl]; exact fin
    · rw [decide_eq_false hl]
      have hv : isSet v := by simp [setsB] at hs; exact hs.1
      refine Ev_shift ?_
      simp only [meddlerlaw3_HeldTells.j0]
      refine Ev_neg (by simp) ?_
      refine Ev.bind (list_ev v) (Ev.bind (ref_list_ev v) (Ev_pos (by simp) ?_))
      exact round v w m l hv (by omega) (listV v) (from_length v 31 0) (listV v).length 0 (by omega)
  · exact Ev_neg hs fin

end Go.Proofs.Ythhbpbogbfopnaa.Pure
