/- A step keeps what is well formed. -/
import Derived.Test.YtikjamcemnbhbaaMrStep
namespace Go.Proofs.Ytikjamcemnbhbaa.Mr
open Go.RowKit Go.Proofs.YtikjamcemnbhbaaW.PrintWords Go.Proofs.YtikjamcemnbhbaaW.PrintLast Go.Proofs.YtikjamcemnbhbaaW.PrintMore
set_option linter.unusedVariables false
theorem after1_pc (nA : Nat) (s : St) (i : Int) (a : S33) (inp : Int) : (after1 nA s i a inp).1.pc = s.pc := by
  unfold after1
  split
  · rw [shr_pc]; rfl
  · rfl
theorem doneP_len (nA : Nat) (s : St) (i : Int) (a : S33) (inp : Int) (j : Nat) : ((doneP nA s i a inp).row j).length = (s.row j).length := by
  unfold doneP
  split
  · exact after1_len nA s i a inp j
  · exact after1_len nA s i a inp j
theorem Wf.done {cs : List S49} {nA : Nat} {s : St} (W : Wf cs nA s) (i inp : Int) (a : S33) (h : nxt cs s i = some a) : Wf cs nA (doneP nA s i a inp) := by
  obtain ⟨⟨h0, h1⟩, _, rfl⟩ := nxt_some h
  have ha := (W.act i h0 h1).1
  rw [rd49_at cs i h0 h1] at ha
  refine ⟨fun k hk => ?_, fun k hk b hb => ?_⟩
  · by_cases e : k = i.toNat
    · subst e
      unfold doneP
      split
      · simp only [St.setPc, if_true]
        split
        · exact ha.els
        · exact ha.next
      · show 0 ≤ (after1 nA s i _ inp).1.pc _ ∧ _
        rw [St.setBad, after1_pc]
        exact W.pcs _ hk
    · unfold doneP
      split
      · simp only [St.setPc, if_neg e, after1_pc]
        exact W.pcs k hk
      · simp only [St.setBad, after1_pc]
        exact W.pcs k hk
  · rw [doneP_len, doneP_len, doneP_len]
    exact W.acts k hk b hb
theorem Wf.step {cs : List S49} {nA : Nat} {s : St} (W : Wf cs nA s) (i inp : Int) : Wf cs nA (stepP cs nA s i inp) := by
  unfold stepP
  cases h : nxt cs s i with
  | none => exact W
  | some a => exact W.done i inp a h
end Go.Proofs.Ytikjamcemnbhbaa.Mr
