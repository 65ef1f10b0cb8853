/- Proved: for every input, Go function ReportSays returns true and leaves its arguments as they were. No condition beyond what the given row says. -/
import Derived.Test.YtadnjibgdpjnlaaRpPlF
import Derived.Test.YtadnjibgdpjnlaaRpF3
import Derived.Test.YtadnjibgdpjnlaaRpOp
namespace Go.Proofs.Ytadnjibgdpjnlaa.Pure
set_option linter.unusedVariables false
open Go.RowKit Go.Proofs.Ytadnjibgdpjnlaa.Rp Go.Proofs.YtadnjibgdpjnlaaW.PrintWords
def acc1 (x : S31) : S31 := ⟨x.f0, x.f1, x.f2, x.f3, false, x.f5⟩
def base35 (acc : List S31) (al : List S24) (t : Nat) : List S35 := (List.replicate 4 z35).set t (⟨[], [], acc, al, 0, false⟩ : S35)
theorem base_cases {t : Nat} (ht : t < 4) : t = 0 ∨ t = 1 ∨ t = 2 ∨ t = 3 := by omega
theorem base_f2 (acc : List S31) (al : List S24) {t : Nat} (ht : t < 4) : ((base35 acc al t).flatMap fun x => x.f2) = acc := by
  rcases base_cases ht with rfl | rfl | rfl | rfl <;> simp [base35, z35, List.replicate]
theorem base_f3 (acc : List S31) (al : List S24) {t : Nat} (ht : t < 4) : ((base35 acc al t).flatMap fun x => x.f3) = al := by
  rcases base_cases ht with rfl | rfl | rfl | rfl <;> simp [base35, z35, List.replicate]
theorem base_len (acc : List S31) (al : List S24) (t : Nat) : (base35 acc al t).length = 4 := by simp [base35]
theorem base_rd (acc : List S31) (al : List S24) {t : Nat} (ht : t < 4) : rd_T35 (base35 acc al t) (t : Int) = ⟨[], [], acc, al, 0, false⟩ := by
  rcases base_cases ht with rfl | rfl | rfl | rfl <;> rfl
theorem base_set (acc acc' : List S31) (al al' : List S24) (t : Nat) : (base35 acc al t).set t (⟨[], [], acc', al', 0, false⟩ : S35) = base35 acc' al' t := by
  unfold base35; rw [List.set_set]
theorem base_start {t : Nat} (ht : t < 4) : List.replicate 4 z35 = base35 [] [] t := by
  rcases base_cases ht with rfl | rfl | rfl | rfl <;> rfl
theorem none_meet (l : List S31) : allL (l.map acc1) = [] := by
  apply List.eq_nil_iff_forall_not_mem.2
  intro x hx
  obtain ⟨a, ha, b, hb, hh, _⟩ := (mem_allL _ x).1 hx
  obtain ⟨a', _, rfl⟩ := List.mem_map.1 ha
  obtain ⟨b', _, rfl⟩ := List.mem_map.1 hb
  simp [hitB, meetB, acc1] at hh
theorem says_end (l : List S31) (hw : ∀ x ∈ l, wfI x.f5) (hn : l.length ≤ 100) (a : S24) (al : List S24) (s : Bool) (hal : (s = true ∧ al = [a, a]) ∨ (s = false ∧ al = [])) {t : Nat} (ht : t < 4) :
    Ev (fun k => meddlerlaw17_ReportSays.j2 k s a.f0 a.f1 a.f2 a.f3 a.f4 a.f5 (base35 (l.map acc1) al t) 0 true) true := by
  have hall : al.length ≤ 2 := by rcases hal with ⟨_, rfl⟩ | ⟨_, rfl⟩ <;> simp
  obtain ⟨r, h1, h2, h3, _⟩ := of_ev (base35 (l.map acc1) al t) [] 0 (by rw [base_len]; omega) (by
    rw [base_f2 _ _ ht]; intro x hx; obtain ⟨y, hy, rfl⟩ := List.mem_map.1 hx; exact hw y hy) (by rw [base_f3 _ _ ht]; omega) (by rw [base_f2 _ _ ht, List.length_map]; omega)
  rw [base_f3 _ _ ht, base_f2 _ _ ht, none_meet] at h3
  refine Ev_shift ?_
  simp only [meddlerlaw17_ReportSays.j2]
  refine Ev.bind h1 ?_
  rcases hal with ⟨rfl, rfl⟩ | ⟨rfl, rfl⟩
  · obtain rfl : r = [a] := SS_unique _ _ h2 (List.pairwise_singleton _ _) fun x => by rw [h3]; simp
    refine Ev_pos (by simp) ?_
    unfold said
    rw [if_neg (by simp)]
    refine Ev_pos rfl (Ev_pos rfl (Ev_pos (by simp) (Ev_pos ?_ (Ev.bind known17_ev (Ev.now _)))))
    simp [rd_T24]
  · obtain rfl : r = [] := List.eq_nil_iff_forall_not_mem.2 fun x hx => by simpa using (h3 x).1 hx
    refine Ev_neg (by simp) ?_
    unfold said
    rw [if_pos rfl]
    exact Ev_pos rfl (Ev_pos rfl (Ev.bind known17_ev (Ev.now _)))
theorem says_loop (l : List S31) (hw : ∀ x ∈ l, wfI x.f5) (hn : l.length ≤ 100) (a : S24) (s : Bool) {t : Nat} (ht : t < 4) : ∀ (d i : Nat), i + d = l.length →
    Ev (fun k => meddlerlaw17_ReportSays.l0 k (t : Int) l s (i : Int) a.f0 a.f1 a.f2 a.f3 a.f4 a.f5 (base35 ((l.take i).map acc1) [] t) 0 true) true := by
  intro d
  induction d with
  | zero =>
    intro i hi
    refine Ev_shift ?_
    simp only [meddlerlaw17_ReportSays.l0]
    refine Ev_neg (by omega) ?_
    rw [List.take_of_length_le (by omega), base_rd _ _ ht, Int.toNat_natCast, base_set, base_len]
    by_cases hs : s = true
    · subst hs
      exact Ev_pos (by simp) (Ev_pos (by omega) (Ev_pos (by omega) (says_end l hw hn a _ true (.inl ⟨rfl, rfl⟩) ht)))
    · have hs' : s = false := Bool.eq_false_iff.2 hs
      subst hs'
      exact Ev_neg (by simp) (says_end l hw hn a _ false (.inr ⟨rfl, rfl⟩) ht)
  | succ d ih =>
    intro i hi
    have hlt : i < l.length := by omega
    refine Ev_shift ?_
    simp only [meddlerlaw17_ReportSays.l0]
    refine Ev_pos (by omega) (Ev_pos (by omega) ?_)
    rw [rd31_at l i hlt, wrap_succ hlt (by omega)]
    by_cases c1 : l[i].f5 < 0
    · exact Ev_pos c1 (Ev.now _)
    · refine Ev_neg c1 ?_
      by_cases c2 : l[i].f5 ≥ 2147483648
      · exact Ev_pos c2 (Ev.now _)
      · rw [base_rd _ _ ht, Int.toNat_natCast, base_set, base_len]
        have hal : ((l.take i).map acc1).length ≤ 100 := by rw [List.length_map, List.length_take]; omega
        refine Ev_neg c2 (Ev_pos (by omega) (Ev_pos (by omega) (Ev_pos (show ((l.take i).map acc1).length < 2932031007402 by omega) ?_)))
        have := ih (i + 1) (by omega)
        rw [List.take_succ_eq_append_getElem hlt, List.map_append] at this
        exact this
theorem ReportSays (a0 : S24) (hw0 : W24 a0) (a1 : Int) (w1 : (Lit.int .i64 a1).wf = true) (l2 : List S31) (hm2 : l2.length ≤ maxLen) (y2 : l2.length * Try.prog.bytesOf 31 ≤ 140737488351232) (hw2 : ∀ x ∈ l2, W31 x) (a3 : Bool) : ∃ k, meddlerlaw17_ReportSays.f k a0.f0 a0.f1 a0.f2 a0.f3 a0.f4 a0.f5 a1 l2 a3 = some true := by
  refine Ev.rounds ?_
  unfold meddlerlaw17_ReportSays.f
  have hw : ∀ b ∈ l2, wfI b.f5 := fun b hb => (hw2 b hb).2.2.2.2.2
  have hj : Ev (fun k => meddlerlaw17_ReportSays.j0 k a1 l2 a3 true a0.f0 a0.f1 a0.f2 a0.f3 a0.f4 a0.f5) true := by
    refine Ev_shift ?_
    simp only [meddlerlaw17_ReportSays.j0]
    exact Ev_pos (by simp) (Ev.now _)
  by_cases c1 : a1 < 0
  · exact Ev_pos c1 hj
  · refine Ev_neg c1 ?_
    by_cases c2 : a1 > 3
    · exact Ev_pos c2 hj
    · refine Ev_neg c2 ?_
      by_cases c3 : (l2.length : Int) > 20
      · rw [decide_eq_true c3]; exact hj
      · rw [decide_eq_false c3]
        refine Ev_shift ?_
        simp only [meddlerlaw17_ReportSays.j0]
        refine Ev_neg (by simp) (Ev_pos (by omega) ?_)
        obtain ⟨t, rfl⟩ := Int.eq_ofNat_of_zero_le (by omega : 0 ≤ a1)
        have ht : t < 4 := by omega
        rw [base_start ht]
        exact says_loop l2 hw (by omega) a0 a3 ht l2.length 0 (by omega)
end Go.Proofs.Ytadnjibgdpjnlaa.Pure
