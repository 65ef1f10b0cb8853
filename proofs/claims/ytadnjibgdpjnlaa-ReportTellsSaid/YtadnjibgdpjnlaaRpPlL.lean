/- What the reference's Lay and Sort come to. Nothing of a walk stands here. -/
import Derived.Test.YtadnjibgdpjnlaaRpPlO
import Derived.Test.YtadnjibgdpjnlaaRpF15
namespace Go.Proofs.Ytadnjibgdpjnlaa.Rp
open Go.RowKit Go.Proofs.YtadnjibgdpjnlaaW.PrintWords Go.Proofs.YtadnjibgdpjnlaaW.PrintLast Go.Sort Go.Lib
/-- One alarm laid into a row, as the reference lays it. -/
def ins : List S24 → S24 → List S24
  | [], a => [a]
  | x :: l, a => if Lt x a then x :: ins l a else if x = a then x :: l else a :: x :: l
theorem mem_ins (l : List S24) (a y : S24) : y ∈ ins l a ↔ y ∈ l ∨ y = a := by
  induction l with
  | nil => simp [ins]
  | cons x l ih =>
    unfold ins
    by_cases h : Lt x a
    · rw [if_pos h, List.mem_cons, ih, List.mem_cons, or_assoc]
    · rw [if_neg h]
      by_cases e : x = a
      · rw [if_pos e]; subst e; simp; intro h; exact .inl h
      · rw [if_neg e]; simp only [List.mem_cons]; constructor
        · rintro (h | h | h) <;> simp [h]
        · rintro ((h | h) | h) <;> simp [h]
theorem ins_SS (l : List S24) (a : S24) (h : SS l) : SS (ins l a) := by
  induction l with
  | nil => exact List.pairwise_singleton _ _
  | cons x l ih =>
    obtain ⟨h1, h2⟩ := List.pairwise_cons.1 h
    unfold ins
    by_cases hx : Lt x a
    · rw [if_pos hx]
      refine List.pairwise_cons.2 ⟨fun y hy => ?_, ih h2⟩
      rcases (mem_ins l a y).1 hy with hy | rfl
      · exact h1 y hy
      · exact hx
    · rw [if_neg hx]
      by_cases e : x = a
      · rw [if_pos e]; exact h
      · rw [if_neg e]
        have hax : Lt a x := by
          rcases lt_tri x a with q | q | q
          · exact absurd q hx
          · exact absurd q e
          · exact q
        refine List.pairwise_cons.2 ⟨fun y hy => ?_, h⟩
        rcases List.mem_cons.1 hy with rfl | hy
        · exact hax
        · exact lt_trans hax (h1 y hy)
theorem ins_len (l : List S24) (a : S24) : (ins l a).length ≤ l.length + 1 := by
  induction l with
  | nil => simp [ins]
  | cons x l ih =>
    unfold ins
    split
    · simp; omega
    · split <;> simp
theorem lay_loop (l : List S24) (a : S24) (hn : l.length ≤ 1000000) : ∀ (d i : Nat), i + d = l.length → Ev (fun k => meddlerref15_Lay.l0 k l (i : Int) a.f0 a.f1 a.f2 a.f3 a.f4 a.f5) (l.take i ++ ins (l.drop i) a) := by
  intro d
  induction d with
  | zero =>
    intro i hi
    refine Ev_shift ?_
    simp only [meddlerref15_Lay.l0, Option.bind_some]
    refine Ev_neg (by omega) (Ev_pos (by omega) (Ev_pos (by omega) ?_))
    refine Ev_pos (by simp [List.length_take]; omega) (Ev_pos (by simp [List.length_take]; omega) (Ev_pos (by simp [List.length_take]; omega) ?_))
    rw [Int.toNat_natCast, List.drop_eq_nil_of_le (by omega), List.take_of_length_le (by omega)]
    refine Ev_as (Ev.now _) ?_
    obtain ⟨a, b, c, d, e, f⟩ := a
    simp [ins]
  | succ d ih =>
    intro i hi
    have hlt : i < l.length := by omega
    have hd : l.drop i = l[i] :: l.drop (i + 1) := List.drop_eq_getElem_cons hlt
    refine Ev_shift ?_
    simp only [meddlerref15_Lay.l0, Option.bind_some]
    refine Ev_pos (by omega) (Ev_pos (by omega) ?_)
    rw [rd24_at l i hlt]
    refine Ev.bind (order_ev l[i] a) ?_
    rw [hd]
    unfold ins
    by_cases h : Lt l[i] a
    · refine Ev_pos ((cmpR_neg _ _).2 h) ?_
      rw [if_pos h, wrap_succ hlt (by omega)]
      refine Ev_as (ih (i + 1) (by omega)) ?_
      rw [List.take_succ_eq_append_getElem hlt, List.append_assoc]; rfl
    · refine Ev_neg (fun q => h ((cmpR_neg _ _).1 q)) ?_
      refine Ev.bind (order_ev l[i] a) ?_
      rw [if_neg h]
      by_cases e : l[i] = a
      · refine Ev_pos ((cmpR_zero _ _).2 e) ?_
        rw [if_pos e, ← hd, List.take_append_drop]
        exact Ev.now _
      · refine Ev_neg (fun q => e ((cmpR_zero _ _).1 q)) (Ev_pos (by omega) ?_)
        refine Ev_pos (by simp [List.length_take]; omega) (Ev_pos (by simp [List.length_take]; omega) (Ev_pos (by simp [List.length_take]; omega) ?_))
        rw [if_neg e, Int.toNat_natCast, ← hd]
        refine Ev_as (Ev.now _) ?_
        obtain ⟨a, b, c, d, e, f⟩ := a
        simp
theorem lay_ev (l : List S24) (a : S24) (hn : l.length ≤ 1000000) : Ev (fun k => meddlerref15_Lay.f k l a.f0 a.f1 a.f2 a.f3 a.f4 a.f5) (ins l a) := by
  have := lay_loop l a hn l.length 0 (by omega)
  simpa [meddlerref15_Lay.f] using this
theorem sort17_loop (l : List S24) (hn : l.length ≤ 500000) : ∀ (d i : Nat) (acc : List S24), i + d = l.length → acc.length ≤ i → Ev (fun k => meddlerref17_Sort.l0 k l acc (i : Int)) ((l.drop i).foldl ins acc) := by
  intro d
  induction d with
  | zero =>
    intro i acc hi _
    refine Ev_shift ?_
    simp only [meddlerref17_Sort.l0]
    refine Ev_neg (by omega) ?_
    rw [List.drop_eq_nil_of_le (by omega)]
    exact Ev.now _
  | succ d ih =>
    intro i acc hi ha
    have hlt : i < l.length := by omega
    refine Ev_shift ?_
    simp only [meddlerref17_Sort.l0]
    refine Ev_pos (by omega) (Ev_pos (by omega) ?_)
    rw [rd24_at l i hlt, List.drop_eq_getElem_cons hlt, List.foldl_cons, wrap_succ hlt (by omega)]
    refine Ev.bind (lay_ev acc l[i] (by omega)) ?_
    exact ih (i + 1) _ (by omega) (by have := ins_len acc l[i]; omega)
theorem foldl_ins (l : List S24) : ∀ acc, SS acc → SS (l.foldl ins acc) ∧ (∀ x, x ∈ l.foldl ins acc ↔ x ∈ acc ∨ x ∈ l) := by
  induction l with
  | nil => intro acc h; simp [h]
  | cons a l ih =>
    intro acc h
    obtain ⟨h1, h2⟩ := ih (ins acc a) (ins_SS acc a h)
    refine ⟨h1, fun x => ?_⟩
    rw [List.foldl_cons, h2, mem_ins, List.mem_cons, or_assoc]
theorem sort17_ev (l : List S24) (hn : l.length ≤ 500000) : ∃ r, Ev (fun k => meddlerref17_Sort.f k l) r ∧ SS r ∧ (∀ x, x ∈ r ↔ x ∈ l) := by
  have := sort17_loop l hn l.length 0 [] (by omega) (by simp)
  obtain ⟨h1, h2⟩ := foldl_ins l [] List.Pairwise.nil
  exact ⟨_, this, h1, fun x => (h2 x).trans (by simp)⟩
end Go.Proofs.Ytadnjibgdpjnlaa.Rp
