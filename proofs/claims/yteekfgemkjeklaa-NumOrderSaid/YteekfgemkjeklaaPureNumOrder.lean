/- Proved: for every input, Go function NumOrder returns true and leaves its arguments as they were. No condition beyond what the given row says. -/
import Derived.Test.YteekfgemkjeklaaPNumOrderx2
import Derived.Test.YteekfgemkjeklaaNumPlain
namespace Go.Proofs.Yteekfgemkjeklaa.Pure
open Go.RowKit Go.Proofs.Yteekfgemkjeklaa.PNumOrder Go.Proofs.YteekfgemkjeklaaW.PrintWords Go.Proofs.YteekfgemkjeklaaW.PrintLast Go.Proofs.Yteekfgemkjeklaa.Plain

theorem fits_loop (l : List Int) (hn : l.length ≤ 17592186044416) : ∀ (d i : Nat), i + d = l.length → Ev (fun k => num_Fits.l0 k l (l.length : Int) (i : Int)) ((l.drop i).all fitB) := by
  intro d
  induction d with
  | zero =>
    intro i hi
    refine Ev_shift ?_
    simp only [num_Fits.l0]
    rw [List.drop_eq_nil_of_le (by omega)]
    exact Ev_neg (by omega) (Ev.now _)
  | succ d ih =>
    intro i hi
    have hlt : i < l.length := by omega
    refine Ev_shift ?_
    simp only [num_Fits.l0]
    refine Ev_pos (by omega) (Ev_pos (by omega) (Ev_pos (by omega) ?_))
    rw [drop_rd l i hlt, List.all_cons, wrap_succ hlt hn]
    by_cases h0 : rd l (i : Int) < -2147483648
    · rw [show fitB (rd l (i : Int)) = false by simp only [fitB, decide_eq_false_iff_not]; omega, Bool.false_and]
      exact Ev_pos h0 (Ev.now _)
    · refine Ev_neg h0 ?_
      by_cases h1 : rd l (i : Int) > 2147483647
      · rw [show fitB (rd l (i : Int)) = false by simp only [fitB, decide_eq_false_iff_not]; omega, Bool.false_and]
        exact Ev_pos h1 (Ev.now _)
      · rw [show fitB (rd l (i : Int)) = true by simp only [fitB, decide_eq_true_eq]; omega, Bool.true_and]
        exact Ev_neg h1 (ih (i + 1) (by omega))
theorem fits_ev (l : List Int) (hn : l.length ≤ 17592186044416) : Ev (fun k => num_Fits.f k l) (l.all fitB) := fits_loop l hn l.length 0 (by omega)
theorem fits1 (n : Int) : Ev (fun k => num_Fits.f k [n]) (fitB n) := Ev_as (fits_ev [n] (by simp)) (by simp)
theorem fits2 (a b : Int) : Ev (fun k => num_Fits.f k [a, b]) (fitB a && fitB b) := Ev_as (fits_ev [a, b] (by simp)) (by simp)
theorem do_fin (n : Int) : Ev (fun k => (num_Fits.f k [n]).bind fun t => if t = true then some (n, (0 : Int)) else some (0, 7)) (if fitB n = true then (n, 0) else (0, 7)) := by
  refine Ev.bind (fits1 n) ?_
  by_cases h : fitB n = true
  · rw [if_pos h, if_pos h]; exact Ev.now _
  · rw [if_neg h, if_neg h]; exact Ev.now _
theorem do_ev (op a b : Int) : Ev (fun k => num_Do.f k op a b) (doV op a b) := by
  have bad : Ev (fun k => num_Do.j0 k op a b true) (0, 1) := by
    refine Ev_shift ?_
    simp only [num_Do.j0]
    exact Ev_pos (by simp) (Ev.now _)
  refine Ev.bind (fits2 a b) ?_
  by_cases hf : (fitB a && fitB b) = true
  · refine Ev_pos hf ?_
    have ha : fitB a = true := by revert hf; cases fitB a <;> simp
    have hb : fitB b = true := by revert hf; cases fitB b <;> simp
    by_cases h1 : op < 1
    · rw [do_arg (.inr (.inr (.inl h1)))]; exact Ev_pos h1 bad
    · refine Ev_neg h1 ?_
      by_cases h5 : op > 5
      · rw [do_arg (.inr (.inr (.inr h5))), decide_eq_true h5]; exact bad
      · rw [decide_eq_false h5, do_in ha hb (by omega) (by omega)]
        refine Ev_shift ?_
        simp only [num_Do.j0]
        refine Ev_neg (by simp) ?_
        have go : ¬ (op ≥ 4 ∧ b = 0) → Ev (fun k => num_Do.j1 k op a b false) (if fitB (rawV op a b) = true then (rawV op a b, 0) else (0, 7)) := by
          intro hz
          refine Ev_shift ?_
          simp only [num_Do.j1]
          refine Ev_neg (by simp) ?_
          by_cases e1 : op = 1
          · rw [raw_1 a b e1]; exact Ev_pos e1 (do_fin _)
          · refine Ev_neg e1 ?_
            by_cases e2 : op = 2
            · rw [raw_2 a b e2]; exact Ev_pos e2 (do_fin _)
            · refine Ev_neg e2 ?_
              by_cases e3 : op = 3
              · rw [raw_3 a b e3]; exact Ev_pos e3 (do_fin _)
              · refine Ev_neg e3 ?_
                by_cases e4 : op = 4
                · rw [raw_4 a b e4]; exact Ev_pos e4 (Ev_neg (by omega) (do_fin _))
                · rw [raw_5 a b (by omega)]; exact Ev_neg e4 (Ev_neg (by omega) (do_fin _))
        by_cases h4 : op ≥ 4
        · refine Ev_pos h4 ?_
          by_cases hz : b = 0
          · rw [if_pos ⟨h4, hz⟩]
            rw [show (b == 0) = true by simpa using hz]
            refine Ev_shift ?_
            simp only [num_Do.j1]
            exact Ev_pos (by simp) (Ev.now _)
          · rw [if_neg (by simp [hz])]
            rw [show (b == 0) = false by simpa using hz]
            exact go (by simp [hz])
        · rw [if_neg (by simp [h4])]
          exact Ev_neg h4 (go (by simp [h4]))
  · rw [do_arg (by revert hf; cases fitB a <;> cases fitB b <;> simp)]
    exact Ev_neg hf bad
theorem known_ev : Ev (fun k => meddlerlaw1_known.f k) true := Ev.of meddlerlaw1_known.mono (k := 30) (by decide +kernel)
theorem known_ev' : Ev (fun k => (meddlerlaw1_known.f k).bind fun t => some t) true := Ev.bind known_ev (Ev.now _)
theorem rel_f (r a b : Int) : num_Rel.f r a b = some (relV r a b) := by
  unfold num_Rel.f relV
  repeat (split; rfl)
  rfl
theorem NumOrder : meddlerlaw1_NumOrder.Pure := by
  intro a b _ _
  apply Ev.rounds
  unfold meddlerlaw1_NumOrder.f
  refine Ev.bind (Ev.now _) ?_
  have last : ∀ c : Bool, c = decide (a ≤ b) → Ev (fun k => meddlerlaw1_NumOrder.j1 k a b 1 c) true := by
    intro c hc
    refine Ev_shift ?_
    simp only [meddlerlaw1_NumOrder.j1, rel_f, Option.bind_some]
    refine Ev_pos (by simp) (Ev_pos ?_ (Ev_pos ?_ (Ev_pos ?_ known_ev')))
    · simp [relV, hc]
    · simp [relV]
    · simp [relV]; rfl
  have one : ∀ (k i n j : Int), 0 ≤ i → i < 3 → rd [1, 3, 6] i = k → wrap64 (i + 1) = j → Ev (fun q => meddlerlaw1_NumOrder.l0 q a b (if relV k a b = true then wrap64 (n + 1) else n) [1, 3, 6] (([1, 3, 6] : List Int).length : Int) j) true → Ev (fun q => meddlerlaw1_NumOrder.l0 q a b n [1, 3, 6] (([1, 3, 6] : List Int).length : Int) i) true := by
    intro k i n j h0 h1 hk hj h
    refine Ev_shift ?_
    simp only [meddlerlaw1_NumOrder.l0, rel_f, Option.bind_some]
    refine Ev_pos (by simpa using h1) (Ev_pos h0 (Ev_pos (by simpa using h1) ?_))
    rw [hk, hj]
    by_cases hr : relV k a b = true
    · rw [if_pos hr] at h; exact Ev_pos hr h
    · rw [if_neg hr] at h; exact Ev_neg hr h
  refine one 1 0 0 1 (by omega) (by omega) rfl (by simp [wrap64]) (one 3 1 _ 2 (by omega) (by omega) rfl (by simp [wrap64]) (one 6 2 _ 3 (by omega) (by omega) rfl (by simp [wrap64]) ?_))
  refine Ev_shift ?_
  simp only [meddlerlaw1_NumOrder.l0, rel_f, Option.bind_some]
  refine Ev_neg (by decide) ?_
  rcases Int.lt_trichotomy a b with h | h | h
  · have e1 : relV 1 a b = true := by simp [relV, h]
    have e3 : relV 3 a b = false := by simp [relV]; omega
    have e6 : relV 6 a b = false := by simp [relV]; omega
    rw [e1, e3, e6]
    refine Ev_pos rfl ?_
    have := last true (by symm; simp; omega)
    simpa [wrap64] using this
  · have e1 : relV 1 a b = false := by simp [relV]; omega
    have e3 : relV 3 a b = true := by simp [relV]; omega
    have e6 : relV 6 a b = false := by simp [relV]; omega
    rw [e1, e3, e6]
    refine Ev_neg (by simp) ?_
    have := last true (by symm; simp; omega)
    simpa [wrap64] using this
  · have e1 : relV 1 a b = false := by simp [relV]; omega
    have e3 : relV 3 a b = false := by simp [relV]; omega
    have e6 : relV 6 a b = true := by simp [relV]; omega
    rw [e1, e3, e6]
    refine Ev_neg (by simp) ?_
    have := last false (by symm; simp; omega)
    simpa [wrap64] using this

end Go.Proofs.Yteekfgemkjeklaa.Pure
