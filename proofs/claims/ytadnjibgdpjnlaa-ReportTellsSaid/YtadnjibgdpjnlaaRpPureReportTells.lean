/- Proved: for every input, Go function ReportTells returns true and leaves its arguments as they were. No condition beyond what the given row says. -/
import Derived.Test.YtadnjibgdpjnlaaRpPlG
import Derived.Test.YtadnjibgdpjnlaaRpF6
import Derived.Test.YtadnjibgdpjnlaaRpOp
namespace Go.Proofs.Ytadnjibgdpjnlaa.Pure
set_option linter.unusedVariables false
open Go.RowKit Go.Proofs.Ytadnjibgdpjnlaa.Rp Go.Proofs.YtadnjibgdpjnlaaW.PrintWords
def c51 (t : S35) : S51 := ⟨t.f0, t.f1, t.f2, t.f3, t.f4, t.f5⟩
theorem map_f2 (ts : List S35) : ((ts.map c51).flatMap fun t => t.f2) = ts.flatMap fun t => t.f2 := by rw [List.flatMap_map]; rfl
theorem map_f3 (ts : List S35) : ((ts.map c51).flatMap fun t => t.f3) = ts.flatMap fun t => t.f3 := by rw [List.flatMap_map]; rfl
theorem rdL11 (l : List (List S24)) (i : Nat) (h : i < l.length) : rd_L10 l (i : Int) = l[i] := by simp [rd_L10, h]
theorem rdL10 (l : List (List S31)) (i : Nat) (h : i < l.length) : rd_L9 l (i : Int) = l[i] := by simp [rd_L9, h]
theorem both_ev (ts : List S35) (c : Bool) (hn : ts.length ≤ 6) (hw : ∀ a ∈ ts.flatMap (fun t => t.f2), wfI a.f5) (hs : ∀ a ∈ ts.flatMap (fun t => t.f2), setI a.f5) (h3 : (ts.flatMap fun t => t.f3).length ≤ 60) (h2 : (ts.flatMap fun t => t.f2).length ≤ 60) :
    ∃ x : Int × Int × Int × List S24, Ev (fun k => report_Of.f k ts [] 0 c) x ∧ Ev (fun k => meddlerref17_Of.f k (ts.map c51) [] 0 c) x ∧ x.2.2.2.length ≤ 1000000 := by
  by_cases hc : c = true
  · subst hc
    obtain ⟨r, r1, r2, r3, r4⟩ := of_ev ts [] 0 (by omega) hw (by omega) (by omega)
    obtain ⟨r', r1', r2', r3'⟩ := rof_ev (ts.map c51) [] 0 (by rw [List.length_map]; omega) (by rw [map_f2]; exact hs) (by rw [map_f2]; exact hw) (by rw [map_f3]; omega) (by rw [map_f2]; omega)
    obtain rfl : r = r' := SS_unique r r' r2 r2' fun x => by rw [r3, r3', map_f2, map_f3]
    refine ⟨said r, r1, r1', ?_⟩
    unfold said
    split
    · simp
    · exact r4
  · refine ⟨(4, 0, 0, []), ?_, ?_, by simp⟩
    · unfold report_Of.f; exact Ev_neg hc (Ev.now _)
    · unfold meddlerref17_Of.f; exact Ev_neg hc (Ev.now _)
theorem wrap_add (a b : Nat) (h : a + b ≤ 4611686018427387904) : wrap64 ((a : Int) + (b : Int)) = ((a + b : Nat) : Int) := by
  unfold wrap64; omega
theorem tells_in (l0 : List (List S24)) (l1 : List (List S31)) (n : Int) (c : Bool) (ts : List S35) (i : Nat) (h0 : i < l0.length) (h1 : i < l1.length) (hi : i ≤ 6) (hl : l1[i].length ≤ 140737488351232) (ht : ts.length ≤ 6)
    (H : (∀ a ∈ l1[i], setI a.f5) → Ev (fun k => meddlerlaw17_ReportTells.l0 k l0 l1 n ((i + 1 : Nat) : Int) (ts ++ [(⟨[], [], l1[i], l0[i], 0, true⟩ : S35)]) 0 c (ts.map c51 ++ [(⟨[], [], l1[i], l0[i], 0, true⟩ : S51)]) 0 c) true) :
    ∀ (d j : Nat), j + d = l1[i].length → (∀ a ∈ l1[i].take j, setI a.f5) → Ev (fun k => meddlerlaw17_ReportTells.l1 k l0 l1 n (i : Int) (j : Int) ts 0 c (ts.map c51) 0 c) true := by
  intro d
  induction d with
  | zero =>
    intro j hj hset
    rw [List.take_of_length_le (by omega)] at hset
    refine Ev_shift ?_
    simp only [meddlerlaw17_ReportTells.l1]
    rw [rdL10 l1 i h1, rdL11 l0 i h0]
    have hw : wrap64 ((i : Int) + 1) = ((i + 1 : Nat) : Int) := by unfold wrap64; omega
    rw [hw]
    refine Ev_pos (by omega) (Ev_pos (by omega) (Ev_neg (by omega) (Ev_pos (by omega) (Ev_pos (by omega) (Ev_pos (by rw [List.length_map]; omega) ?_)))))
    exact H hset
  | succ d ih =>
    intro j hj hset
    have hlt : j < l1[i].length := by omega
    refine Ev_shift ?_
    simp only [meddlerlaw17_ReportTells.l1]
    rw [rdL10 l1 i h1, rd31_at l1[i] j hlt]
    have hw : wrap64 ((j : Int) + 1) = ((j + 1 : Nat) : Int) := by unfold wrap64; omega
    rw [hw]
    refine Ev_pos (by omega) (Ev_pos (by omega) (Ev_pos (by omega) (Ev_pos (by omega) ?_)))
    by_cases c1 : l1[i][j].f5 < 0
    · exact Ev_pos c1 (Ev.now _)
    · refine Ev_neg c1 ?_
      by_cases c2 : l1[i][j].f5 ≥ 2147483648
      · exact Ev_pos c2 (Ev.now _)
      · refine Ev_neg c2 (ih (j + 1) (by omega) ?_)
        rw [List.take_succ_eq_append_getElem hlt]
        intro a ha
        rcases List.mem_append.1 ha with ha | ha
        · exact hset a ha
        · rw [List.mem_singleton] at ha
          subst ha
          exact ⟨by omega, by omega⟩
theorem tells_out (l0 : List (List S24)) (l1 : List (List S31)) (c : Bool) (hn : l0.length ≤ 6) (hle : l0.length ≤ l1.length) (h24 : ∀ x ∈ l0, x.length ≤ 140737488351232) (h31 : ∀ x ∈ l1, x.length ≤ 140737488351232) (hw : ∀ x ∈ l1, ∀ a ∈ x, wfI a.f5) :
    ∀ (d i : Nat) (ts : List S35) (n : Nat), i + d = l0.length → ts.length = i → n = (ts.flatMap fun t => t.f3).length + (ts.flatMap fun t => t.f2).length → n ≤ i * 281474976702464 → (∀ a ∈ ts.flatMap (fun t => t.f2), wfI a.f5 ∧ setI a.f5) →
      Ev (fun k => meddlerlaw17_ReportTells.l0 k l0 l1 (n : Int) (i : Int) ts 0 c (ts.map c51) 0 c) true := by
  intro d
  induction d with
  | zero =>
    intro i ts n hi ht hsum hb hall
    refine Ev_shift ?_
    simp only [meddlerlaw17_ReportTells.l0]
    refine Ev_neg (by omega) ?_
    by_cases c1 : (n : Int) > 60
    · exact Ev_pos c1 (Ev.now _)
    · obtain ⟨x, x1, x2, x3⟩ := both_ev ts c (by omega) (fun a ha => (hall a ha).1) (fun a ha => (hall a ha).2) (by omega) (by omega)
      exact Ev_neg c1 (Ev.bind x1 (Ev.bind x2 (Ev.bind (same_ev x x3) (Ev_pos (by simp) (Ev.bind known17_ev (Ev.now _))))))
  | succ d ih =>
    intro i ts n hi ht hsum hb hall
    have h0 : i < l0.length := by omega
    have h1 : i < l1.length := by omega
    have e0 := h24 l0[i] (List.getElem_mem h0)
    have e1 := h31 l1[i] (List.getElem_mem h1)
    have hb6 : n ≤ 1688849860214784 := Nat.le_trans hb (Nat.mul_le_mul_right 281474976702464 (show i ≤ 6 by omega))
    refine Ev_shift ?_
    simp only [meddlerlaw17_ReportTells.l0]
    rw [rdL10 l1 i h1, rdL11 l0 i h0]
    rw [wrap_add n l0[i].length (by omega), wrap_add (n + l0[i].length) l1[i].length (by omega)]
    refine Ev_pos (by omega) (Ev_pos (by omega) (Ev_pos (by omega) ?_))
    refine tells_in l0 l1 _ c ts i h0 h1 (by omega) e1 (by omega) (fun hset => ?_) l1[i].length 0 (by omega) (by simp)
    have := ih (i + 1) (ts ++ [(⟨[], [], l1[i], l0[i], 0, true⟩ : S35)]) (n + l0[i].length + l1[i].length) (by omega) (by simp [ht]) (by rw [List.flatMap_append, List.flatMap_append, List.length_append, List.length_append, List.flatMap_singleton, List.flatMap_singleton]; show n + l0[i].length + l1[i].length = (ts.flatMap fun t => t.f3).length + l0[i].length + ((ts.flatMap fun t => t.f2).length + l1[i].length); omega) (by rw [Nat.succ_mul]; omega) (by
      intro a ha
      rw [List.flatMap_append, List.flatMap_singleton] at ha
      rcases List.mem_append.1 ha with ha | ha
      · exact hall a ha
      · exact ⟨hw _ (List.getElem_mem h1) a ha, hset a ha⟩)
    rw [List.map_append] at this
    exact this
theorem ReportTells (l0 : List (List S24)) (hm0 : l0.length ≤ maxLen) (y0 : l0.length * Try.prog.bytesOf 33 ≤ 140737488351232) (hw0 : ∀ x ∈ l0, (x.length ≤ maxLen ∧ x.length * Try.prog.bytesOf 24 ≤ 140737488351232 ∧ ∀ x' ∈ x, W24 x')) (l1 : List (List S31)) (hm1 : l1.length ≤ maxLen) (y1 : l1.length * Try.prog.bytesOf 25 ≤ 140737488351232) (hw1 : ∀ x ∈ l1, (x.length ≤ maxLen ∧ x.length * Try.prog.bytesOf 31 ≤ 140737488351232 ∧ ∀ x' ∈ x, W31 x')) (a2 : Bool) : ∃ k, meddlerlaw17_ReportTells.f k l0 l1 a2 = some true := by
  have hB : Try.prog.bytesOf 24 = 48 := by kernel_rfl
  have hB' : Try.prog.bytesOf 31 = 48 := by kernel_rfl
  have hj : Ev (fun k => meddlerlaw17_ReportTells.j0 k l0 l1 a2 true) true := by
    refine Ev_shift ?_
    simp only [meddlerlaw17_ReportTells.j0]
    exact Ev_pos (by simp) (Ev.now _)
  refine Ev.rounds ?_
  unfold meddlerlaw17_ReportTells.f
  by_cases c1 : (l0.length : Int) > 6
  · exact Ev_pos c1 hj
  · refine Ev_neg c1 ?_
    by_cases c2 : (l1.length : Int) < (l0.length : Int)
    · rw [decide_eq_true c2]; exact hj
    · rw [decide_eq_false c2]
      refine Ev_shift ?_
      simp only [meddlerlaw17_ReportTells.j0]
      refine Ev_neg (by simp) ?_
      exact tells_out l0 l1 a2 (by omega) (by omega) (fun x hx => by have := (hw0 x hx).2.1; rw [hB] at this; omega) (fun x hx => by have := (hw1 x hx).2.1; rw [hB'] at this; omega)
        (fun x hx a ha => ((hw1 x hx).2.2 a ha).2.2.2.2.2) l0.length 0 [] 0 (by omega) rfl (by simp) (by omega) (by simp)
end Go.Proofs.Ytadnjibgdpjnlaa.Pure
