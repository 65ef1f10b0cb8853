/- The order of alarms: strictly laid out rows, that such a row is one with its members, and what sorting and leaving out neighbours comes to. Nothing of a walk stands here. -/
import Derived.Test.YtadnjibgdpjnlaaRpExt
import Derived.Test.YtadnjibgdpjnlaaRpx0
namespace Go.Proofs.Ytadnjibgdpjnlaa.Rp
open Go.RowKit Go.Proofs.YtadnjibgdpjnlaaW.PrintWords Go.Proofs.YtadnjibgdpjnlaaW.PrintLast Go.Sort Go.Lib
theorem Ev_shift {α : Type} {g : Nat → Option α} {r : α} (h : Ev (fun k => g (k + 1)) r) : Ev g r := Ev.step (fun _ => rfl) h
theorem Ev_pos {α : Type} {c : Prop} [Decidable c] {a b : Nat → Option α} {r : α} (h : c) (H : Ev a r) : Ev (fun k => if c then a k else b k) r := Ev.congr (fun _ => if_pos h) H
theorem Ev_neg {α : Type} {c : Prop} [Decidable c] {a b : Nat → Option α} {r : α} (h : ¬ c) (H : Ev b r) : Ev (fun k => if c then a k else b k) r := Ev.congr (fun _ => if_neg h) H
theorem Ev_as {α : Type} {g : Nat → Option α} {r r' : α} (h : Ev g r) (e : r = r') : Ev g r' := e ▸ h
theorem wrap_succ {i n : Nat} (h : i < n) (hn : n ≤ 17592186044416) : wrap64 ((i : Int) + 1) = ((i + 1 : Nat) : Int) := by
  unfold wrap64; omega
theorem rd_at (l : List Int) (i : Nat) (h : i < l.length) : rd l (i : Int) = l[i] := by show l.getD (i : Int).toNat 0 = _; simp [h]
theorem rd24_at (l : List S24) (i : Nat) (h : i < l.length) : rd_T24 l (i : Int) = l[i] := by simp [rd_T24, h]
theorem rd31_at (l : List S31) (i : Nat) (h : i < l.length) : rd_T31 l (i : Int) = l[i] := by simp [rd_T31, h]

abbrev Lt (x y : S24) : Prop := ltOf cmpR x y = true
theorem lt_irrefl (x : S24) : ¬ Lt x x := by
  intro h; have := swoR.irrefl x; rw [h] at this; cases this
theorem lt_trans {x y z : S24} (h : Lt x y) (h' : Lt y z) : Lt x z := swoR.trans x y z h h'
theorem negL_tri : ∀ a b : List Int, a.length = b.length → negL a b = false → negL b a = false → a = b
  | [], [], _, _, _ => rfl
  | a :: us, b :: vs, h, h1, h2 => by
    rw [negL_cons] at h1 h2
    simp only [Bool.or_eq_false_iff, Bool.and_eq_false_iff, decide_eq_false_iff_not] at h1 h2
    have e : a = b := by omega
    subst e
    rw [negL_tri us vs (by simpa using h) (by simpa using h1) (by simpa using h2)]
theorem lt_tri (x y : S24) : Lt x y ∨ x = y ∨ Lt y x := by
  by_cases h : Lt x y
  · exact .inl h
  · by_cases h' : Lt y x
    · exact .inr (.inr h')
    · refine .inr (.inl ?_)
      have := negL_tri (keyR x) (keyR y) rfl (by rw [← ltR]; exact Bool.eq_false_iff.2 h) (by rw [← ltR]; exact Bool.eq_false_iff.2 h')
      obtain ⟨a, b, c, d, e, f⟩ := x
      obtain ⟨a', b', c', d', e', f'⟩ := y
      simpa [keyR] using this
/-- Laid out strictly. -/
def SS (l : List S24) : Prop := l.Pairwise Lt
theorem SS_unique : ∀ l m : List S24, SS l → SS m → (∀ x, x ∈ l ↔ x ∈ m) → l = m
  | [], [], _, _, _ => rfl
  | [], y :: m, _, _, h => by have := (h y).2 (by simp); simp at this
  | x :: l, [], _, _, h => by have := (h x).1 (by simp); simp at this
  | x :: l, y :: m, hl, hm, h => by
    obtain ⟨hx, hl'⟩ := List.pairwise_cons.1 hl
    obtain ⟨hy, hm'⟩ := List.pairwise_cons.1 hm
    have e : x = y := by
      have h1 := (h x).1 (by simp)
      have h2 := (h y).2 (by simp)
      rcases List.mem_cons.1 h1 with h1 | h1
      · exact h1
      · rcases List.mem_cons.1 h2 with h2 | h2
        · exact h2.symm
        · exact absurd (lt_trans (hx y h2) (hy x h1)) (lt_irrefl x)
    subst e
    rw [SS_unique l m hl' hm' fun z => ?_]
    constructor
    · intro hz
      rcases List.mem_cons.1 ((h z).1 (by simp [hz])) with rfl | h1
      · exact absurd (hx z hz) (lt_irrefl z)
      · exact h1
    · intro hz
      rcases List.mem_cons.1 ((h z).2 (by simp [hz])) with rfl | h1
      · exact absurd (hy z hz) (lt_irrefl z)
      · exact h1
/-- Neighbours left out of a row that is laid out. -/
theorem compact_SS (d : Array S24) (hs : SortedIn (ltOf cmpR) 0 d.size d) : ∀ m, m ≤ d.size → SS (compactUpTo d m) ∧ ∀ x, x ∈ compactUpTo d m ↔ ∃ j, j < m ∧ d[j]! = x
  | 0, _ => by simp [compactUpTo, SS]
  | m + 1, hm => by
    obtain ⟨h1, h2⟩ := compact_SS d hs m (by omega)
    have hle : ∀ i j, i < j → j < d.size → ¬ Lt d[j]! d[i]! := fun i j h h' => by
      have := hs i j (Nat.zero_le _) h h'
      exact Bool.eq_false_iff.1 this
    rw [compactUpTo_succ]
    cases hk : keeps d m with
    | true =>
      have hk' : m = 0 ∨ d[m]! ≠ d[m - 1]! := by simpa [keeps] using hk
      rw [if_pos rfl]
      constructor
      · refine List.pairwise_append.2 ⟨h1, List.pairwise_singleton _ _, fun x hx y hy => ?_⟩
        rw [List.mem_singleton] at hy
        subst hy
        obtain ⟨j, hj, rfl⟩ := (h2 x).1 hx
        rcases lt_tri d[j]! d[m]! with h | h | h
        · exact h
        · exfalso
          rcases hk' with rfl | hk'
          · omega
          · by_cases e : j = m - 1
            · subst e; exact hk' h.symm
            · rcases lt_tri d[m]! d[m - 1]! with q | q | q
              · exact hle (m - 1) m (by omega) (by omega) q
              · exact hk' q
              · rw [← h] at q
                exact hle j (m - 1) (by omega) (by omega) q
        · exact absurd h (hle j m hj (by omega))
      · intro x
        rw [List.mem_append, h2, List.mem_singleton]
        constructor
        · rintro (⟨j, hj, rfl⟩ | rfl)
          · exact ⟨j, by omega, rfl⟩
          · exact ⟨m, by omega, rfl⟩
        · rintro ⟨j, hj, rfl⟩
          by_cases e : j = m
          · subst e; exact .inr rfl
          · exact .inl ⟨j, by omega, rfl⟩
    | false =>
      have hk' : m ≠ 0 ∧ d[m]! = d[m - 1]! := by simpa [keeps] using hk
      rw [if_neg (by simp), List.append_nil]
      refine ⟨h1, fun x => ?_⟩
      rw [h2]
      constructor
      · rintro ⟨j, hj, rfl⟩; exact ⟨j, by omega, rfl⟩
      · rintro ⟨j, hj, rfl⟩
        by_cases e : j = m
        · subst e; exact ⟨j - 1, by omega, hk'.2.symm⟩
        · exact ⟨j, by omega, rfl⟩
theorem compact_len (d : Array S24) (m : Nat) : (compactUpTo d m).length ≤ m := by
  unfold compactUpTo
  rw [List.length_map]
  exact Nat.le_trans (List.length_filter_le _ _) (by simp)
theorem compact_row (cf : S24 → S24 → Int) (hO : SWO (ltOf cf)) (l : List S24) (hcf : ∀ x ∈ l, ∀ y ∈ l, ltOf cf x y = ltOf cmpR x y) :
    SS (compactUpTo (pdqL cf l).toArray (pdqL cf l).length) ∧ (∀ x, x ∈ compactUpTo (pdqL cf l).toArray (pdqL cf l).length ↔ x ∈ l) ∧ (compactUpTo (pdqL cf l).toArray (pdqL cf l).length).length ≤ l.length := by
  obtain ⟨h1, h2, h3⟩ := pdqL_spec cf hO l
  have hin : ∀ j, j < l.length → (pdqL cf l).toArray[j]! ∈ l := fun j hj => by
    refine h2.mem_iff.1 ?_
    rw [getElem!_pos _ _ (by simpa [h1] using hj)]
    simp
  have hs : SortedIn (ltOf cmpR) 0 (pdqL cf l).toArray.size (pdqL cf l).toArray := by
    intro i j h h' h''
    have hj : j < l.length := by simpa [h1] using h''
    rw [← hcf _ (hin j hj) _ (hin i (by omega))]
    exact h3 i j h h' hj
  have h := compact_SS _ hs (pdqL cf l).length (by simp)
  refine ⟨h.1, fun x => ?_, by have := compact_len (pdqL cf l).toArray (pdqL cf l).length; omega⟩
  rw [h.2, ← h2.mem_iff]
  constructor
  · rintro ⟨j, hj, rfl⟩
    rw [getElem!_pos _ _ (by simpa using hj)]
    simp
  · intro hx
    obtain ⟨j, hj, rfl⟩ := List.mem_iff_getElem.1 hx
    exact ⟨j, hj, by rw [getElem!_pos _ _ (by simpa using hj)]; simp⟩
end Go.Proofs.Ytadnjibgdpjnlaa.Rp
