/- What report.Of comes to: the alarms of all threads, and of all accesses that meet. Nothing of a walk stands here. -/
import Derived.Test.YtadnjibgdpjnlaaRpPlC
import Derived.Test.YtadnjibgdpjnlaaRpPlS
import Derived.Test.YtadnjibgdpjnlaaRpF12
import Derived.Test.YtadnjibgdpjnlaaRpExu
namespace Go.Proofs.Ytadnjibgdpjnlaa.Rp
open Go.RowKit Go.Proofs.YtadnjibgdpjnlaaW.PrintWords Go.Proofs.YtadnjibgdpjnlaaW.PrintLast Go.Sort Go.Lib
theorem rd35_at (l : List S35) (i : Nat) (h : i < l.length) : rd_T35 l (i : Int) = l[i] := by simp [rd_T35, h]
theorem known17_ev : Ev (fun k => meddlerlaw17_known.f k) true := Ev.now true
/-- What is said of alarms in a row. -/
def said (r : List S24) : Int × Int × Int × List S24 := if r = [] then (3, 0, 0, []) else (2, 0, 0, r)
theorem of_loop (ts : List S35) (R : Int × Int × Int × List S24) (hn : ts.length ≤ 1000) : ∀ (d i : Nat) (x3 : List S24) (x4 : List S31), i + d = ts.length →
    x3.length + ((ts.drop i).flatMap fun t => t.f3).length ≤ 1000000 → x4.length + ((ts.drop i).flatMap fun t => t.f2).length ≤ 1000000 →
    Ev (fun k => report_Of.l0 k (x3 ++ (ts.drop i).flatMap fun t => t.f3) (x4 ++ (ts.drop i).flatMap fun t => t.f2) ts (ts.length : Int) (ts.length : Int)) R →
    Ev (fun k => report_Of.l0 k x3 x4 ts (ts.length : Int) (i : Int)) R := by
  intro d
  induction d with
  | zero =>
    intro i x3 x4 hi _ _ h
    have e : i = ts.length := by omega
    subst e
    rw [List.drop_eq_nil_of_le (Nat.le_refl _)] at h
    simpa using h
  | succ d ih =>
    intro i x3 x4 hi h3 h4 h
    have hlt : i < ts.length := by omega
    have hd : ts.drop i = ts[i] :: ts.drop (i + 1) := List.drop_eq_getElem_cons hlt
    rw [hd, List.flatMap_cons, List.length_append] at h3 h4
    rw [hd, List.flatMap_cons, List.flatMap_cons] at h
    refine Ev_shift ?_
    simp only [report_Of.l0]
    refine Ev_pos (by omega) (Ev_pos (by omega) (Ev_pos (by omega) ?_))
    rw [rd35_at ts i hlt, wrap_succ hlt (by omega)]
    refine Ev_pos (by omega) (Ev_pos (by omega) (ih (i + 1) _ _ (by omega) (by rw [List.length_append]; omega) (by rw [List.length_append]; omega) ?_))
    rw [List.append_assoc, List.append_assoc]
    exact h
theorem of_ev (ts : List S35) (b : List S115) (n : Int) (hn : ts.length ≤ 1000) (hw : ∀ a ∈ ts.flatMap (fun t => t.f2), wfI a.f5) (h3 : (ts.flatMap fun t => t.f3).length ≤ 1000) (h2 : (ts.flatMap fun t => t.f2).length ≤ 900) :
    ∃ r, Ev (fun k => report_Of.f k ts b n true) (said r) ∧ SS r ∧ (∀ x, x ∈ r ↔ x ∈ ts.flatMap (fun t => t.f3) ∨ x ∈ allL (ts.flatMap fun t => t.f2)) ∧ r.length ≤ 1000000 := by
  obtain ⟨s, s1, s2, s3, s4⟩ := clash_all_ev (ts.flatMap fun t => t.f2) hw (by omega)
  have hmul : (ts.flatMap fun t => t.f2).length * (ts.flatMap fun t => t.f2).length ≤ 900 * 900 := Nat.mul_le_mul h2 h2
  obtain ⟨r, r1, r2, r3, r4⟩ := sort_ev ((ts.flatMap fun t => t.f3) ++ s) (by rw [List.length_append]; omega)
  refine ⟨r, ?_, r2, fun x => by rw [r3, List.mem_append, s3], by rw [List.length_append] at r4; omega⟩
  unfold report_Of.f
  refine Ev_pos rfl ?_
  refine of_loop ts _ hn ts.length 0 [] [] (by omega) (by rw [List.drop_zero, List.length_nil]; omega) (by rw [List.drop_zero, List.length_nil]; omega) ?_
  rw [List.drop_zero, List.nil_append, List.nil_append]
  refine Ev_shift ?_
  simp only [report_Of.l0]
  refine Ev_neg (by omega) (Ev.bind s1 (Ev_pos (by omega) (Ev.bind r1 ?_)))
  unfold said
  by_cases e : r = []
  · subst e; exact Ev_pos rfl (Ev_as (Ev.now _) (by simp))
  · refine Ev_neg ?_ (Ev_as (Ev.now _) (by simp [e]))
    have := List.length_pos_iff.2 e
    omega
end Go.Proofs.Ytadnjibgdpjnlaa.Rp
