/- What the reference's Of and Same come to. Nothing of a walk stands here. -/
import Derived.Test.YtadnjibgdpjnlaaRpPlF
import Derived.Test.YtadnjibgdpjnlaaRpPlR
import Derived.Test.YtadnjibgdpjnlaaRpF18
namespace Go.Proofs.Ytadnjibgdpjnlaa.Rp
open Go.RowKit Go.Proofs.YtadnjibgdpjnlaaW.PrintWords Go.Proofs.YtadnjibgdpjnlaaW.PrintLast Go.Sort Go.Lib
theorem rd51_at (l : List S51) (i : Nat) (h : i < l.length) : rd_T51 l (i : Int) = l[i] := by simp [rd_T51, h]
theorem rof_loop (ts : List S51) (b : List S115) (n : Int) (c : Bool) (R : Int × Int × Int × List S24) (hn : ts.length ≤ 1000) : ∀ (d i : Nat) (x3 : List S24) (x4 : List S31), i + d = ts.length →
    x3.length + ((ts.drop i).flatMap fun t => t.f3).length ≤ 1000000 → x4.length + ((ts.drop i).flatMap fun t => t.f2).length ≤ 1000000 →
    Ev (fun k => meddlerref17_Of.l0 k (x3 ++ (ts.drop i).flatMap fun t => t.f3) (x4 ++ (ts.drop i).flatMap fun t => t.f2) (ts.length : Int) ts b n c) R →
    Ev (fun k => meddlerref17_Of.l0 k x3 x4 (i : Int) ts b n c) R := by
  intro d
  induction d with
  | zero =>
    intro i x3 x4 hi _ _ h
    have e : i = ts.length := by omega
    subst e
    rw [List.drop_eq_nil_of_le (Nat.le_refl _)] at h
    simpa using h
  | succ d ih =>
    intro i x3 x4 hi h3 h4 h
    have hlt : i < ts.length := by omega
    have hd : ts.drop i = ts[i] :: ts.drop (i + 1) := List.drop_eq_getElem_cons hlt
    rw [hd, List.flatMap_cons, List.length_append] at h3 h4
    rw [hd, List.flatMap_cons, List.flatMap_cons] at h
    refine Ev_shift ?_
    simp only [meddlerref17_Of.l0]
    refine Ev_pos (by omega) (Ev_pos (by omega) ?_)
    rw [rd51_at ts i hlt, wrap_succ hlt (by omega)]
    refine Ev_pos (by omega) (Ev_pos (by omega) (ih (i + 1) _ _ (by omega) (by rw [List.length_append]; omega) (by rw [List.length_append]; omega) ?_))
    rw [List.append_assoc, List.append_assoc]
    exact h
theorem rof_ev (ts : List S51) (b : List S115) (n : Int) (hn : ts.length ≤ 1000) (hs : ∀ a ∈ ts.flatMap (fun t => t.f2), setI a.f5) (hw : ∀ a ∈ ts.flatMap (fun t => t.f2), wfI a.f5) (h3 : (ts.flatMap fun t => t.f3).length ≤ 1000) (h2 : (ts.flatMap fun t => t.f2).length ≤ 600) :
    ∃ r, Ev (fun k => meddlerref17_Of.f k ts b n true) (said r) ∧ SS r ∧ (∀ x, x ∈ r ↔ x ∈ ts.flatMap (fun t => t.f3) ∨ x ∈ allL (ts.flatMap fun t => t.f2)) := by
  obtain ⟨s, s1, s2, s3⟩ := ref_all_ev (ts.flatMap fun t => t.f2) hs hw (by omega)
  have hsl : s.length ≤ 360000 := by
    obtain ⟨s', s1', s2', s3', s4'⟩ := clash_all_ev (ts.flatMap fun t => t.f2) hw (by omega)
    have hmul : (ts.flatMap fun t => t.f2).length * (ts.flatMap fun t => t.f2).length ≤ 600 * 600 := Nat.mul_le_mul h2 h2
    have e : s = s' := SS_unique s s' s2 s2' fun x => by rw [s3, s3']
    rw [e]; omega
  obtain ⟨r, r1, r2, r3⟩ := sort17_ev ((ts.flatMap fun t => t.f3) ++ s) (by rw [List.length_append]; omega)
  refine ⟨r, ?_, r2, fun x => by rw [r3, List.mem_append, s3]⟩
  unfold meddlerref17_Of.f
  refine Ev_pos rfl ?_
  refine rof_loop ts b n true _ hn ts.length 0 [] [] (by omega) (by rw [List.drop_zero, List.length_nil]; omega) (by rw [List.drop_zero, List.length_nil]; omega) ?_
  rw [List.drop_zero, List.nil_append, List.nil_append]
  refine Ev_shift ?_
  simp only [meddlerref17_Of.l0]
  refine Ev_neg (by omega) (Ev.bind s1 (Ev_pos (by omega) (Ev.bind r1 ?_)))
  unfold said
  by_cases e : r = []
  · subst e; exact Ev_neg (by simp) (Ev_as (Ev.now _) (by simp))
  · refine Ev_pos ?_ (Ev_as (Ev.now _) (by simp [e]))
    have := List.length_pos_iff.2 e
    omega
theorem same_loop (r : List S24) (a b c : Int) (hn : r.length ≤ 1000000) : ∀ (d i : Nat), i + d = r.length → Ev (fun k => meddlerref17_Same.l0 k (i : Int) a b c r a b c r) true := by
  intro d
  induction d with
  | zero =>
    intro i hi
    refine Ev_shift ?_
    simp only [meddlerref17_Same.l0]
    exact Ev_neg (by omega) (Ev.now _)
  | succ d ih =>
    intro i hi
    have hlt : i < r.length := by omega
    refine Ev_shift ?_
    simp only [meddlerref17_Same.l0]
    refine Ev_pos (by omega) (Ev_pos (by omega) (Ev_pos (by omega) (Ev_neg (by simp) ?_)))
    rw [wrap_succ hlt (by omega)]
    exact ih (i + 1) (by omega)
theorem same_ev (x : Int × Int × Int × List S24) (hn : x.2.2.2.length ≤ 1000000) : Ev (fun k => meddlerref17_Same.f k x.1 x.2.1 x.2.2.1 x.2.2.2 x.1 x.2.1 x.2.2.1 x.2.2.2) true := by
  unfold meddlerref17_Same.f
  refine Ev_pos rfl (Ev_pos rfl (Ev_pos rfl (Ev_shift ?_)))
  simp only [meddlerref17_Same.j0]
  refine Ev_neg (by simp) (same_loop x.2.2.2 x.1 x.2.1 x.2.2.1 hn x.2.2.2.length 0 (by omega))
end Go.Proofs.Ytadnjibgdpjnlaa.Rp
