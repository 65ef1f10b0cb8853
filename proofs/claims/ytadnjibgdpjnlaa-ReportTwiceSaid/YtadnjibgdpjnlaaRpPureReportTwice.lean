/- Proved: for every input, Go function ReportTwice returns true and leaves its arguments as they were. No condition beyond what the given row says. -/
import Derived.Test.YtadnjibgdpjnlaaRpPlS
import Derived.Test.YtadnjibgdpjnlaaRpExu
import Derived.Test.YtadnjibgdpjnlaaRpF4
import Derived.Test.YtadnjibgdpjnlaaRpOp
namespace Go.Proofs.Ytadnjibgdpjnlaa.Pure
set_option linter.unusedVariables false
open Go.RowKit Go.Proofs.Ytadnjibgdpjnlaa.Rp Go.Proofs.YtadnjibgdpjnlaaW.PrintWords
theorem twice_loop (r : List S24) (hn : r.length ≤ 1000) : ∀ (d i : Nat), i + d = r.length → Ev (fun k => meddlerlaw17_ReportTwice.l0 k r r r (i : Int)) true := by
  intro d
  induction d with
  | zero =>
    intro i hi
    refine Ev_shift ?_
    simp only [meddlerlaw17_ReportTwice.l0]
    refine Ev_neg (by omega) ?_
    exact Ev.bind (Ev.now true) (Ev.now _)
  | succ d ih =>
    intro i hi
    have hlt : i < r.length := by omega
    refine Ev_shift ?_
    simp only [meddlerlaw17_ReportTwice.l0]
    refine Ev_pos (by omega) (Ev_pos (by omega) (Ev_pos (by omega) (Ev_neg (by simp) (Ev_pos (by omega) (Ev_neg (by simp) ?_)))))
    rw [wrap_succ hlt (by omega)]
    exact ih (i + 1) (by omega)
theorem ReportTwice (l0 : List S24) (hm0 : l0.length ≤ maxLen) (y0 : l0.length * Try.prog.bytesOf 24 ≤ 140737488351232) (hw0 : ∀ x ∈ l0, W24 x) (l1 : List S24) (hm1 : l1.length ≤ maxLen) (y1 : l1.length * Try.prog.bytesOf 24 ≤ 140737488351232) (hw1 : ∀ x ∈ l1, W24 x) : ∃ k, meddlerlaw17_ReportTwice.f k l0 l1 = some true := by
  have hB : Try.prog.bytesOf 24 = 48 := by kernel_rfl
  rw [hB] at y0 y1
  refine Ev.rounds ?_
  unfold meddlerlaw17_ReportTwice.f
  simp only [Option.bind_some, List.nil_append]
  have hw : wrap64 ((l0.length : Int) + (l1.length : Int)) = (l0.length : Int) + (l1.length : Int) := by unfold wrap64; omega
  rw [hw]
  by_cases hc : (l0.length : Int) + (l1.length : Int) > 60
  · exact Ev_pos hc (Ev.now _)
  · refine Ev_neg hc (Ev_pos (by simp <;> omega) (Ev_pos (by omega) ?_))
    obtain ⟨r, h1, h2, h3, h4⟩ := sort_ev (l0 ++ l1) (by simp; omega)
    obtain ⟨r', h1', h2', h3', h4'⟩ := sort_ev (l1 ++ l0) (by simp; omega)
    obtain rfl : r = r' := SS_unique r r' h2 h2' fun x => by rw [h3, h3']; simp [or_comm]
    have h4l : r.length ≤ 60 := by simp at h4; omega
    obtain ⟨r2, g1, g2, g3, g4⟩ := sort_ev r (by omega)
    obtain rfl : r = r2 := SS_unique r r2 h2 g2 fun x => by rw [g3]
    refine Ev.bind h1 (Ev_pos (by simp <;> omega) (Ev_pos (by omega) ?_))
    refine Ev.bind h1' (Ev.bind g1 (Ev_pos rfl ?_))
    refine Ev_shift ?_
    simp only [meddlerlaw17_ReportTwice.j0]
    exact Ev_neg (by simp) (twice_loop r (by omega) r.length 0 (by omega))
end Go.Proofs.Ytadnjibgdpjnlaa.Pure
