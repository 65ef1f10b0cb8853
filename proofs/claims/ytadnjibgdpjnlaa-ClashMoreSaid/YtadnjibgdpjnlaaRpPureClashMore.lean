/- Proved: for every input, Go function ClashMore returns true and leaves its arguments as they were. No condition beyond what the given row says. -/
import Derived.Test.YtadnjibgdpjnlaaRpPlC
import Derived.Test.YtadnjibgdpjnlaaRpF10
import Derived.Test.YtadnjibgdpjnlaaRpOp
namespace Go.Proofs.Ytadnjibgdpjnlaa.Pure
set_option linter.unusedVariables false
open Go.RowKit Go.Proofs.Ytadnjibgdpjnlaa.Rp Go.Proofs.YtadnjibgdpjnlaaW.PrintWords
theorem eq24 (x y : S24) : (x.f0 == y.f0 && (x.f1 == y.f1 && (x.f2 == y.f2 && (x.f3 == y.f3 && (x.f4 == y.f4 && (x.f5 == y.f5)))))) = true ↔ x = y := by
  obtain ⟨a, b, c, d, e, f⟩ := x
  obtain ⟨a', b', c', d', e', f'⟩ := y
  simp
theorem more_end (x y : List S24) (i : Int) : Ev (fun k => meddlerlaw15_ClashMore.j2 k x y (x.length : Int) i false) true := by
  refine Ev_shift ?_
  simp only [meddlerlaw15_ClashMore.j2]
  exact Ev_neg (by simp) (Ev_pos (by simp) (Ev.bind known15_ev (Ev.now _)))
theorem more_loop (x y : List S24) (hx : SS x) (hy : SS y) (hn : x.length ≤ 1000000) (hn' : y.length ≤ 1000000) : ∀ (d j i : Nat), i + d = y.length → j ≤ x.length → (∀ z ∈ x.drop j, z ∈ y.drop i) → Ev (fun k => meddlerlaw15_ClashMore.l0 k x y (j : Int) (i : Int)) true := by
  intro d
  induction d with
  | zero =>
    intro j i hi hj h
    refine Ev_shift ?_
    simp only [meddlerlaw15_ClashMore.l0]
    refine Ev_neg (by omega) ?_
    have e : j = x.length := by
      apply Classical.byContradiction
      intro hne
      have hlt : j < x.length := by omega
      have := h x[j] (by rw [List.drop_eq_getElem_cons hlt]; exact List.mem_cons_self)
      rw [List.drop_eq_nil_of_le (by omega)] at this
      simp at this
    subst e
    exact more_end x y _
  | succ d ih =>
    intro j i hi hj h
    have hlt : i < y.length := by omega
    refine Ev_shift ?_
    simp only [meddlerlaw15_ClashMore.l0]
    refine Ev_pos (by omega) ?_
    have hdy : y.drop i = y[i] :: y.drop (i + 1) := List.drop_eq_getElem_cons hlt
    by_cases hjl : j < x.length
    · have hdx : x.drop j = x[j] :: x.drop (j + 1) := List.drop_eq_getElem_cons hjl
      have hxj : ∀ z ∈ x.drop (j + 1), Lt x[j] z := by
        have := hx.sublist (List.drop_sublist j x)
        rw [hdx] at this
        exact (List.pairwise_cons.1 this).1
      have hyi : ∀ z ∈ y.drop (i + 1), Lt y[i] z := by
        have := hy.sublist (List.drop_sublist i y)
        rw [hdy] at this
        exact (List.pairwise_cons.1 this).1
      have hb : decide ((j : Int) < (x.length : Int)) = true := by simp; omega
      rw [hb]
      refine Ev_shift ?_
      simp only [meddlerlaw15_ClashMore.j2]
      refine Ev_pos (by simp) (Ev_pos (by omega) (Ev_pos (by omega) (Ev_pos (by omega) (Ev_pos (by omega) ?_))))
      rw [rd24_at y i hlt, rd24_at x j hjl, wrap_succ hlt (by omega), wrap_succ hjl (by omega)]
      by_cases e : y[i] = x[j]
      · refine Ev_pos ((eq24 _ _).2 e) (ih (j + 1) (i + 1) (by omega) (by omega) fun z hz => ?_)
        have h1 := h z (by rw [hdx]; exact List.mem_cons_of_mem _ hz)
        rw [hdy] at h1
        rcases List.mem_cons.1 h1 with h1 | h1
        · have h2 := hxj z hz
          rw [h1, e] at h2
          exact absurd h2 (lt_irrefl _)
        · exact h1
      · refine Ev_neg (fun q => e ((eq24 _ _).1 q)) (ih j (i + 1) (by omega) hj fun z hz => ?_)
        have h0 := h x[j] (by rw [hdx]; exact List.mem_cons_self)
        rw [hdy] at h0
        have h0' : x[j] ∈ y.drop (i + 1) := (List.mem_cons.1 h0).resolve_left (fun q => e q.symm)
        have h1 := h z hz
        rw [hdy] at h1
        rcases List.mem_cons.1 h1 with h1 | h1
        · rw [hdx] at hz
          rcases List.mem_cons.1 hz with hz | hz
          · rw [hz]; exact h0'
          · have h2 := hxj z hz
            rw [h1] at h2
            exact absurd (lt_trans h2 (hyi _ h0')) (lt_irrefl _)
        · exact h1
    · have e : j = x.length := by omega
      subst e
      have hb : decide ((x.length : Int) < (x.length : Int)) = false := by simp
      rw [hb]
      exact more_end x y _
theorem ClashMore (l0 : List S31) (hm0 : l0.length ≤ maxLen) (y0 : l0.length * Try.prog.bytesOf 31 ≤ 140737488351232) (hw0 : ∀ x ∈ l0, W31 x) (l1 : List S31) (hm1 : l1.length ≤ maxLen) (y1 : l1.length * Try.prog.bytesOf 31 ≤ 140737488351232) (hw1 : ∀ x ∈ l1, W31 x) : ∃ k, meddlerlaw15_ClashMore.f k l0 l1 = some true := by
  have hB : Try.prog.bytesOf 31 = 48 := by kernel_rfl
  rw [hB] at y0 y1
  refine Ev.rounds ?_
  unfold meddlerlaw15_ClashMore.f
  have hw : ∀ b ∈ l0, wfI b.f5 := fun b hb => (hw0 b hb).2.2.2.2.2
  have hw' : ∀ b ∈ l1, wfI b.f5 := fun b hb => (hw1 b hb).2.2.2.2.2
  have hwr : wrap64 ((l0.length : Int) + (l1.length : Int)) = (l0.length : Int) + (l1.length : Int) := by unfold wrap64; omega
  rw [hwr]
  have hj : Ev (fun k => meddlerlaw15_ClashMore.j0 k l0 l1 true) true := by
    refine Ev_shift ?_
    simp only [meddlerlaw15_ClashMore.j0]
    exact Ev_pos (by simp) (Ev.now _)
  by_cases hc : (l0.length : Int) + (l1.length : Int) > 30
  · exact Ev_pos hc hj
  · refine Ev_neg hc (Ev.bind (may_ev l0 (by omega)) ?_)
    by_cases hm : mayB l0 = true
    · refine Ev_pos hm (Ev.bind (may_ev l1 (by omega)) ?_)
      by_cases hm' : mayB l1 = true
      · rw [hm']
        refine Ev_shift ?_
        simp only [meddlerlaw15_ClashMore.j0, Option.bind_some, List.nil_append, Bool.not_true]
        refine Ev_neg (by simp) ?_
        obtain ⟨r, h1, h2, h3, h4⟩ := clash_all_ev l0 hw (by omega)
        obtain ⟨r', h1', h2', h3', h4'⟩ := clash_all_ev (l0 ++ l1) (fun b hb => (List.mem_append.1 hb).elim (hw b) (hw' b)) (by simp; omega)
        have hmul : l0.length * l0.length ≤ 30 * 30 := Nat.mul_le_mul (by omega) (by omega)
        have hmul' : (l0 ++ l1).length * (l0 ++ l1).length ≤ 30 * 30 := Nat.mul_le_mul (by simp; omega) (by simp; omega)
        refine Ev.bind h1 (Ev_pos (by simp <;> omega) (Ev_pos (by omega) (Ev.bind h1' ?_)))
        refine more_loop r r' h2 h2' (by omega) (by omega) r'.length 0 0 (by omega) (by omega) fun z hz => ?_
        simp only [List.drop_zero] at *
        rw [h3'] 
        obtain ⟨a, ha, b, hb, hh, e⟩ := (mem_allL l0 z).1 ((h3 z).1 hz)
        exact (mem_allL _ z).2 ⟨a, List.mem_append_left _ ha, b, List.mem_append_left _ hb, hh, e⟩
      · have e : mayB l1 = false := Bool.eq_false_iff.2 hm'
        rw [e]
        exact hj
    · exact Ev_neg hm hj
end Go.Proofs.Ytadnjibgdpjnlaa.Pure
