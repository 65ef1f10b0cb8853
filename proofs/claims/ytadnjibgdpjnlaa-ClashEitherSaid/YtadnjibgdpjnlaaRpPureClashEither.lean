/- Proved: for every input, Go function ClashEither returns true and leaves its arguments as they were. No condition beyond what the given row says. -/
import Derived.Test.YtadnjibgdpjnlaaRpPlC
import Derived.Test.YtadnjibgdpjnlaaRpF8
import Derived.Test.YtadnjibgdpjnlaaRpOp
namespace Go.Proofs.Ytadnjibgdpjnlaa.Pure
set_option linter.unusedVariables false
open Go.RowKit Go.Proofs.Ytadnjibgdpjnlaa.Rp Go.Proofs.YtadnjibgdpjnlaaW.PrintWords
theorem and_zeroV {v w : BitVec 64} (hv : Plain.isSet v) : ((v &&& w).toInt == 0) = (((Plain.listV (v &&& w)).length : Int) == 0) := by
  rw [Plain.zeroV, Bool.eq_iff_iff, beq_iff_eq, beq_iff_eq, Plain.inj, ← Plain.zeroV]
  rw [show (((Plain.listV (v &&& w)).length : Int) = 0 ↔ Plain.listV (v &&& w) = []) by rw [← List.length_eq_zero_iff]; omega, Plain.list_nil]
  constructor
  · intro h m
    rw [h]
    unfold Plain.hasB
    simp
  · intro h
    apply BitVec.eq_of_getLsbD_eq
    intro i hi
    by_cases h31 : i < 31
    · have := h (i : Int)
      rw [Plain.hasB_nat] at this
      simp only [h31, decide_true, Bool.true_and] at this
      rw [this]; simp
    · rw [BitVec.getLsbD_and, Plain.set_bit hv i (by omega)]; simp
theorem and_zero {a b : Int} (ha : setI a) (hwa : wfI a) (hwb : wfI b) : (Go.bits .and .i64 a b == 0) = apartB a b := by
  have h1 := Plain.andV (bv a) (bv b)
  rw [bv_wf hwa, bv_wf hwb] at h1
  rw [h1]
  exact and_zeroV (by rw [Plain.isSet, bv_wf hwa]; exact ha)
theorem meet_comm (a b : S31) : meetB b a = meetB a b := by
  have h : apartB b.f5 a.f5 = apartB a.f5 b.f5 := by unfold apartB; rw [BitVec.and_comm]
  unfold meetB
  rw [h, Bool.beq_comm, Bool.or_comm, decide_eq_decide.2 (show b.f0 ≠ a.f0 ↔ a.f0 ≠ b.f0 from ⟨Ne.symm, Ne.symm⟩), decide_eq_decide.2 (show b.f3 = a.f3 ↔ a.f3 = b.f3 from ⟨Eq.symm, Eq.symm⟩)]
theorem meet_self (a : S31) : meetB a a = false := by simp [meetB]
theorem tail_ev (a b : S31) (ha : wfI a.f5) (hb : wfI b.f5) : Ev (fun k => (clash_Meet.f k b.f0 b.f1 b.f2 b.f3 b.f4 b.f5 a.f0 a.f1 a.f2 a.f3 a.f4 a.f5).bind fun t405 => (if (t405 == meetB a b) = true then ((clash_Meet.f k a.f0 a.f1 a.f2 a.f3 a.f4 a.f5 a.f0 a.f1 a.f2 a.f3 a.f4 a.f5).bind fun t406 => (if t406 = true then (some false) else ((meddlerlaw15_known.f k).bind fun t407 => (some t407)))) else (some false))) true := by
  refine Ev.bind (meet_ev b a hb ha) (Ev_pos (by rw [meet_comm]; simp) (Ev.bind (meet_ev a a ha ha) ?_))
  rw [meet_self]
  exact Ev_neg (by simp) (Ev.bind known15_ev (Ev.now _))
theorem ClashEither (a0 : S31) (hw0 : W31 a0) (a1 : S31) (hw1 : W31 a1) : ∃ k, meddlerlaw15_ClashEither.f k a0.f0 a0.f1 a0.f2 a0.f3 a0.f4 a0.f5 a1.f0 a1.f1 a1.f2 a1.f3 a1.f4 a1.f5 = some true := by
  refine Ev.rounds ?_
  unfold meddlerlaw15_ClashEither.f
  have h0 : wfI a0.f5 := hw0.2.2.2.2.2
  have h1 : wfI a1.f5 := hw1.2.2.2.2.2
  refine Ev.bind (may_ev [a0, a1] (by simp)) ?_
  by_cases hm : mayB [a0, a1] = true
  · have hs : setI a0.f5 := mayB_set hm a0 (by simp)
    refine Ev_pos hm (Ev.bind (meet_ev a0 a1 h0 h1) ?_)
    by_cases c1 : a0.f0 = a1.f0
    · exact Ev_pos c1 (Ev_pos (by simp [meetB, c1]) (tail_ev a0 a1 h0 h1))
    · refine Ev_neg c1 ?_
      by_cases c2 : (a0.f2 == a1.f2) = true
      · refine Ev_pos c2 ?_
        by_cases c3 : a0.f3 = a1.f3
        · refine Ev_pos c3 ?_
          rw [and_zero hs h0 h1]
          by_cases c4 : a0.f4 = true
          · exact Ev_pos c4 (Ev_pos (by simp [meetB, c1, c2, c3, c4]) (tail_ev a0 a1 h0 h1))
          · refine Ev_neg c4 ?_
            by_cases c5 : a1.f4 = true
            · exact Ev_pos c5 (Ev_pos (by simp [meetB, c1, c2, c3, c5]) (tail_ev a0 a1 h0 h1))
            · exact Ev_neg c5 (Ev_pos (by simp [meetB, c4, c5]) (tail_ev a0 a1 h0 h1))
        · exact Ev_neg c3 (Ev_pos (by simp [meetB, c3]) (tail_ev a0 a1 h0 h1))
      · exact Ev_neg c2 (Ev_pos (by simp [meetB, Bool.eq_false_iff.2 c2]) (tail_ev a0 a1 h0 h1))
  · exact Ev_neg hm (Ev.now _)
end Go.Proofs.Ytadnjibgdpjnlaa.Pure
