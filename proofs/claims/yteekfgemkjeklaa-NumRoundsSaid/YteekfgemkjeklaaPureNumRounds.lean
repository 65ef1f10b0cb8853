/- Proved: for every input, Go function NumRounds returns true and leaves its arguments as they were. No condition beyond what the given row says. -/
import Derived.Test.YteekfgemkjeklaaPNumRoundsx2
import Derived.Test.YteekfgemkjeklaaNumPlain
namespace Go.Proofs.Yteekfgemkjeklaa.Pure
open Go.RowKit Go.Proofs.Yteekfgemkjeklaa.PNumRounds Go.Proofs.YteekfgemkjeklaaW.PrintWords Go.Proofs.YteekfgemkjeklaaW.PrintLast Go.Proofs.Yteekfgemkjeklaa.Plain

theorem fits_loop (l : List Int) (hn : l.length ≤ 17592186044416) : ∀ (d i : Nat), i + d = l.length → Ev (fun k => num_Fits.l0 k l (l.length : Int) (i : Int)) ((l.drop i).all fitB) := by
  intro d
  induction d with
  | zero =>
    intro i hi
    refine Ev_shift ?_
    simp only [num_Fits.l0]
    rw [List.drop_eq_nil_of_le (by omega)]
    exact Ev_neg (by omega) (Ev.now _)
  | succ d ih =>
    intro i hi
    have hlt : i < l.length := by omega
    refine Ev_shift ?_
    simp only [num_Fits.l0]
    refine Ev_pos (by omega) (Ev_pos (by omega) (Ev_pos (by omega) ?_))
    rw [drop_rd l i hlt, List.all_cons, wrap_succ hlt hn]
    by_cases h0 : rd l (i : Int) < -2147483648
    · rw [show fitB (rd l (i : Int)) = false by simp only [fitB, decide_eq_false_iff_not]; omega, Bool.false_and]
      exact Ev_pos h0 (Ev.now _)
    · refine Ev_neg h0 ?_
      by_cases h1 : rd l (i : Int) > 2147483647
      · rw [show fitB (rd l (i : Int)) = false by simp only [fitB, decide_eq_false_iff_not]; omega, Bool.false_and]
        exact Ev_pos h1 (Ev.now _)
      · rw [show fitB (rd l (i : Int)) = true by simp only [fitB, decide_eq_true_eq]; omega, Bool.true_and]
        exact Ev_neg h1 (ih (i + 1) (by omega))
theorem fits_ev (l : List Int) (hn : l.length ≤ 17592186044416) : Ev (fun k => num_Fits.f k l) (l.all fitB) := fits_loop l hn l.length 0 (by omega)
theorem fits1 (n : Int) : Ev (fun k => num_Fits.f k [n]) (fitB n) := Ev_as (fits_ev [n] (by simp)) (by simp)
theorem fits2 (a b : Int) : Ev (fun k => num_Fits.f k [a, b]) (fitB a && fitB b) := Ev_as (fits_ev [a, b] (by simp)) (by simp)
theorem do_fin (n : Int) : Ev (fun k => (num_Fits.f k [n]).bind fun t => if t = true then some (n, (0 : Int)) else some (0, 7)) (if fitB n = true then (n, 0) else (0, 7)) := by
  refine Ev.bind (fits1 n) ?_
  by_cases h : fitB n = true
  · rw [if_pos h, if_pos h]; exact Ev.now _
  · rw [if_neg h, if_neg h]; exact Ev.now _
theorem do_ev (op a b : Int) : Ev (fun k => num_Do.f k op a b) (doV op a b) := by
  have bad : Ev (fun k => num_Do.j0 k op a b true) (0, 1) := by
    refine Ev_shift ?_
    simp only [num_Do.j0]
    exact Ev_pos (by simp) (Ev.now _)
  refine Ev.bind (fits2 a b) ?_
  by_cases hf : (fitB a && fitB b) = true
  · refine Ev_pos hf ?_
    have ha : fitB a = true := by revert hf; cases fitB a <;> simp
    have hb : fitB b = true := by revert hf; cases fitB b <;> simp
    by_cases h1 : op < 1
    · rw [do_arg (.inr (.inr (.inl h1)))]; exact Ev_pos h1 bad
    · refine Ev_neg h1 ?_
      by_cases h5 : op > 5
      · rw [do_arg (.inr (.inr (.inr h5))), decide_eq_true h5]; exact bad
      · rw [decide_eq_false h5, do_in ha hb (by omega) (by omega)]
        refine Ev_shift ?_
        simp only [num_Do.j0]
        refine Ev_neg (by simp) ?_
        have go : ¬ (op ≥ 4 ∧ b = 0) → Ev (fun k => num_Do.j1 k op a b false) (if fitB (rawV op a b) = true then (rawV op a b, 0) else (0, 7)) := by
          intro hz
          refine Ev_shift ?_
          simp only [num_Do.j1]
          refine Ev_neg (by simp) ?_
          by_cases e1 : op = 1
          · rw [raw_1 a b e1]; exact Ev_pos e1 (do_fin _)
          · refine Ev_neg e1 ?_
            by_cases e2 : op = 2
            · rw [raw_2 a b e2]; exact Ev_pos e2 (do_fin _)
            · refine Ev_neg e2 ?_
              by_cases e3 : op = 3
              · rw [raw_3 a b e3]; exact Ev_pos e3 (do_fin _)
              · refine Ev_neg e3 ?_
                by_cases e4 : op = 4
                · rw [raw_4 a b e4]; exact Ev_pos e4 (Ev_neg (by omega) (do_fin _))
                · rw [raw_5 a b (by omega)]; exact Ev_neg e4 (Ev_neg (by omega) (do_fin _))
        by_cases h4 : op ≥ 4
        · refine Ev_pos h4 ?_
          by_cases hz : b = 0
          · rw [if_pos ⟨h4, hz⟩]
            rw [show (b == 0) = true by simpa using hz]
            refine Ev_shift ?_
            simp only [num_Do.j1]
            exact Ev_pos (by simp) (Ev.now _)
          · rw [if_neg (by simp [hz])]
            rw [show (b == 0) = false by simpa using hz]
            exact go (by simp [hz])
        · rw [if_neg (by simp [h4])]
          exact Ev_neg h4 (go (by simp [h4]))
  · rw [do_arg (by revert hf; cases fitB a <;> cases fitB b <;> simp)]
    exact Ev_neg hf bad
theorem known_ev : Ev (fun k => meddlerlaw1_known.f k) true := Ev.of meddlerlaw1_known.mono (k := 30) (by decide +kernel)
theorem known_ev' : Ev (fun k => (meddlerlaw1_known.f k).bind fun t => some t) true := Ev.bind known_ev (Ev.now _)
theorem ref_fits (n : Int) : meddlerref1_Fits.f n = some (fitB n) := by
  unfold meddlerref1_Fits.f fitB
  by_cases h : n ≥ -2147483648
  · rw [if_pos h]; congr 1; rw [Bool.eq_iff_iff]; simp; omega
  · rw [if_neg h]; congr 1; symm; rw [decide_eq_false_iff_not]; omega
theorem NumRounds : meddlerlaw1_NumRounds.Pure := by
  intro a b _ _
  apply Ev.rounds
  have fin : Ev (fun k => meddlerlaw1_NumRounds.j0 k a b true) true := Ev_shift (by simp only [meddlerlaw1_NumRounds.j0]; exact Ev_pos (by simp) (Ev.now _))
  unfold meddlerlaw1_NumRounds.f
  rw [ref_fits, ref_fits]
  refine Ev.bind (Ev.now _) ?_
  by_cases ha : fitB a = true
  · refine Ev_pos ha (Ev.bind (Ev.now _) ?_)
    by_cases hb : fitB b = true
    · rw [hb]
      have ha' := ha; have hb' := hb
      rw [fit_iff] at ha' hb'
      refine Ev_shift ?_
      simp only [meddlerlaw1_NumRounds.j0, ref_fits, Option.bind_some]
      refine Ev_neg (by simp) ?_
      have ws : wrap64 (a + b) = a + b := small64 (by omega) (by omega)
      have d1 : doV 1 a b = if fitB (a + b) = true then (a + b, 0) else (0, 7) := by
        rw [do_in ha hb (by omega) (by omega), if_neg (by omega), show rawV 1 a b = a + b from ws]
      have d2 : doV 1 b a = if fitB (a + b) = true then (a + b, 0) else (0, 7) := by
        rw [do_in hb ha (by omega) (by omega), if_neg (by omega), show rawV 1 b a = a + b from by rw [← ws, Int.add_comm]; rfl]
      have d3 : doV 3 a b = if fitB (a * b) = true then (a * b, 0) else (0, 7) := by
        rw [do_in ha hb (by omega) (by omega), if_neg (by omega), show rawV 3 a b = a * b from mul_small ha hb]
      have d4 : doV 3 b a = if fitB (a * b) = true then (a * b, 0) else (0, 7) := by
        rw [do_in hb ha (by omega) (by omega), if_neg (by omega), show rawV 3 b a = a * b from (mul_small hb ha).trans (Int.mul_comm b a)]
      refine Ev.bind (do_ev 1 a b) (Ev.bind (do_ev 1 b a) (Ev.bind (do_ev 3 a b) (Ev.bind (do_ev 3 b a) ?_)))
      rw [d1, d2, d3, d4, ws, mul_small ha hb]
      refine Ev_pos rfl (Ev_pos rfl (Ev_pos rfl (Ev_pos rfl ?_)))
      have z : ∀ c : Bool, ∀ n : Int, ((if c = true then (n, (0 : Int)) else (0, 7)).2 == 0) = c := by intro c n; cases c <;> rfl
      rw [z, z]
      refine Ev_neg (by simp) ?_
      rw [show (fitB (a * b) != fitB (a * b)) = false by simp]
      by_cases hs : fitB (a + b) = true
      · rw [if_pos hs]
        have d5 : doV 2 (a + b) b = (a, 0) := by
          rw [do_in hs hb (by omega) (by omega), if_neg (by omega), show rawV 2 (a + b) b = a from by
            show wrap64 (a + b - b) = a
            rw [small64 (by omega) (by omega)]; omega]
          exact if_pos ha
        refine Ev_shift ?_
        simp only [meddlerlaw1_NumRounds.j1]
        refine Ev_neg (by simp) (Ev_pos (by simp) (Ev.bind (do_ev 2 (a + b) b) ?_))
        rw [d5]
        exact Ev_pos rfl (Ev_pos rfl known_ev')
      · rw [if_neg hs]
        refine Ev_shift ?_
        simp only [meddlerlaw1_NumRounds.j1]
        exact Ev_neg (by simp) (Ev_neg (by simp) known_ev')
    · rw [show fitB b = false by simpa using hb]
      exact fin
  · exact Ev_neg ha fin

end Go.Proofs.Yteekfgemkjeklaa.Pure
