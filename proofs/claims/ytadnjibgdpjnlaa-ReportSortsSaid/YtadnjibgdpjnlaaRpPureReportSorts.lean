/- Proved: for every input, Go function ReportSorts returns true and leaves its arguments as they were. No condition beyond what the given row says. -/
import Derived.Test.YtadnjibgdpjnlaaRpPlS
import Derived.Test.YtadnjibgdpjnlaaRpPlL
import Derived.Test.YtadnjibgdpjnlaaRpExu
import Derived.Test.YtadnjibgdpjnlaaRpF5
import Derived.Test.YtadnjibgdpjnlaaRpOp
namespace Go.Proofs.Ytadnjibgdpjnlaa.Pure
set_option linter.unusedVariables false
open Go.RowKit Go.Proofs.Ytadnjibgdpjnlaa.Rp Go.Proofs.YtadnjibgdpjnlaaW.PrintWords
theorem sorts_loop (r : List S24) (hs : SS r) (hn : r.length ≤ 1000) : ∀ (d i : Nat), i + d = r.length → Ev (fun k => meddlerlaw17_ReportSorts.l0 k r r (i : Int)) true := by
  intro d
  induction d with
  | zero =>
    intro i hi
    refine Ev_shift ?_
    simp only [meddlerlaw17_ReportSorts.l0]
    refine Ev_neg (by omega) ?_
    exact Ev.bind (Ev.now true) (Ev.now _)
  | succ d ih =>
    intro i hi
    have hlt : i < r.length := by omega
    refine Ev_shift ?_
    simp only [meddlerlaw17_ReportSorts.l0]
    refine Ev_pos (by omega) (Ev_pos (by omega) (Ev_pos (by omega) (Ev_neg (by simp) ?_)))
    rw [wrap_succ hlt (by omega)]
    by_cases h0 : (i : Int) > 0
    · refine Ev_pos h0 ?_
      have hw : wrap64 ((i : Int) - 1) = ((i - 1 : Nat) : Int) := by unfold wrap64; omega
      rw [hw, rd24_at r i hlt, rd24_at r (i - 1) (by omega)]
      refine Ev_pos (by omega) (Ev_pos (by omega) ?_)
      refine Ev.bind (order_ev r[i - 1] r[i]) ?_
      have := List.pairwise_iff_getElem.1 hs (i - 1) i (by omega) hlt (by omega)
      have := (cmpR_neg _ _).2 this
      exact Ev_neg (by omega) (ih (i + 1) (by omega))
    · exact Ev_neg h0 (ih (i + 1) (by omega))
theorem ReportSorts (l0 : List S24) (hm0 : l0.length ≤ maxLen) (y0 : l0.length * Try.prog.bytesOf 24 ≤ 140737488351232) (hw0 : ∀ x ∈ l0, W24 x) : ∃ k, meddlerlaw17_ReportSorts.f k l0 = some true := by
  refine Ev.rounds ?_
  unfold meddlerlaw17_ReportSorts.f
  by_cases hc : (l0.length : Int) > 60
  · exact Ev_pos hc (Ev.now _)
  · refine Ev_neg hc ?_
    obtain ⟨r, h1, h2, h3, h4⟩ := sort_ev l0 (by omega)
    obtain ⟨r', h1', h2', h3'⟩ := sort17_ev l0 (by omega)
    obtain rfl : r = r' := SS_unique r r' h2 h2' fun x => by rw [h3, h3']
    exact Ev.bind h1 (Ev.bind h1' (Ev_pos rfl (sorts_loop r h2 (by omega) r.length 0 (by omega))))
end Go.Proofs.Ytadnjibgdpjnlaa.Pure
