/- What report.Sort comes to. Nothing of a walk stands here. -/
import Derived.Test.YtadnjibgdpjnlaaRpPlA
import Derived.Test.YtadnjibgdpjnlaaRpF14
namespace Go.Proofs.Ytadnjibgdpjnlaa.Rp
open Go.RowKit Go.Proofs.YtadnjibgdpjnlaaW.PrintWords Go.Proofs.YtadnjibgdpjnlaaW.PrintLast Go.Sort Go.Lib
/-- report.Sort. -/
theorem sort_ev (l : List S24) (hl : l.length < 2932031007402) : ∃ r, Ev (fun k => report_Sort.f k l) r ∧ SS r ∧ (∀ x, x ∈ r ↔ x ∈ l) ∧ r.length ≤ l.length := by
  obtain ⟨h1, h2, h3⟩ := compact_row cmpR swoR l (fun _ _ _ _ => rfl)
  refine ⟨_, Ev.congr (fun k => ?_) (Ev.now _), h1, h2, h3⟩
  have hlen := (pdqL_spec cmpR swoR l).1
  show report_Sort.f k l = _
  unfold report_Sort.f api_Alarm_24.f api_Alarm_25.f api_Alarm_27.f
  rw [if_pos hl, Option.bind_some, if_pos (by omega), if_pos rfl, Option.bind_some, if_pos (by omega), Option.bind_some]
end Go.Proofs.Ytadnjibgdpjnlaa.Rp
