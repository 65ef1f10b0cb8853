/- Proved: for every input, Go function ClashTells returns true and leaves its arguments as they were. No condition beyond what the given row says. -/
import Derived.Test.YtadnjibgdpjnlaaRpPlR
import Derived.Test.YtadnjibgdpjnlaaRpF7
import Derived.Test.YtadnjibgdpjnlaaRpOp
namespace Go.Proofs.Ytadnjibgdpjnlaa.Pure
set_option linter.unusedVariables false
open Go.RowKit Go.Proofs.Ytadnjibgdpjnlaa.Rp Go.Proofs.YtadnjibgdpjnlaaW.PrintWords
theorem tells_loop (r : List S24) (hn : r.length ≤ 1000000) : ∀ (d i : Nat), i + d = r.length → Ev (fun k => meddlerlaw15_ClashTells.l0 k r r (i : Int)) true := by
  intro d
  induction d with
  | zero =>
    intro i hi
    refine Ev_shift ?_
    simp only [meddlerlaw15_ClashTells.l0]
    refine Ev_neg (by omega) ?_
    exact Ev.bind known15_ev (Ev.now _)
  | succ d ih =>
    intro i hi
    have hlt : i < r.length := by omega
    refine Ev_shift ?_
    simp only [meddlerlaw15_ClashTells.l0]
    refine Ev_pos (by omega) (Ev_pos (by omega) (Ev_pos (by omega) (Ev_neg (by simp) ?_)))
    rw [wrap_succ hlt (by omega)]
    exact ih (i + 1) (by omega)
theorem ClashTells (l0 : List S31) (hm0 : l0.length ≤ maxLen) (y0 : l0.length * Try.prog.bytesOf 31 ≤ 140737488351232) (hw0 : ∀ x ∈ l0, W31 x) : ∃ k, meddlerlaw15_ClashTells.f k l0 = some true := by
  refine Ev.rounds ?_
  unfold meddlerlaw15_ClashTells.f
  have hw : ∀ b ∈ l0, wfI b.f5 := fun b hb => (hw0 b hb).2.2.2.2.2
  by_cases hc : (l0.length : Int) > 40
  · refine Ev_pos hc (Ev_shift ?_)
    simp only [meddlerlaw15_ClashTells.j0]
    exact Ev_pos (by simp) (Ev.now _)
  · refine Ev_neg hc (Ev.bind (may_ev l0 (by omega)) (Ev_shift ?_))
    simp only [meddlerlaw15_ClashTells.j0]
    by_cases hm : mayB l0 = true
    · refine Ev_neg (by simp [hm]) ?_
      obtain ⟨r, h1, h2, h3, h4⟩ := clash_all_ev l0 hw (by omega)
      obtain ⟨r', h1', h2', h3'⟩ := ref_all_ev l0 (mayB_set hm) hw (by omega)
      obtain rfl : r = r' := SS_unique r r' h2 h2' fun x => by rw [h3, h3']
      have hmul : l0.length * l0.length ≤ 40 * 40 := Nat.mul_le_mul (by omega) (by omega)
      exact Ev.bind h1 (Ev.bind h1' (Ev_pos rfl (tells_loop r (by omega) r.length 0 (by omega))))
    · exact Ev_pos (by simp [hm]) (Ev.now _)
end Go.Proofs.Ytadnjibgdpjnlaa.Pure
