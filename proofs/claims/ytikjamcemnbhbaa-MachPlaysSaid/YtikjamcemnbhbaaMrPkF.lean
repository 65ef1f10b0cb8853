/- Which units are looked at. -/
import Derived.Test.YtikjamcemnbhbaaMrF39
import Derived.Test.YtikjamcemnbhbaaMrPkC
import Derived.Test.YtikjamcemnbhbaaMrPkE
namespace Go.Proofs.Ytikjamcemnbhbaa.Mr
open Go.RowKit Go.Proofs.YtikjamcemnbhbaaW.PrintWords Go.Proofs.YtikjamcemnbhbaaW.PrintLast
set_option linter.unusedVariables false
set_option linter.unusedSimpArgs false
section
theorem actB_ok {ng na m nv nl : Int} {a : S33} (h : actB ng na m nv nl a = true) : OkAct ng na m nv nl a := by
  obtain ⟨f0, f1, f2, f3, f4, f5, f6, f7, f8⟩ := a
  unfold actB at h
  simp only [Bool.and_eq_true, decide_eq_true_eq] at h
  obtain ⟨hk, h1, h2, h3⟩ := h
  rcases (by omega : f0 = 1 ∨ f0 = 2 ∨ f0 = 3 ∨ f0 = 4 ∨ f0 = 5 ∨ f0 = 6 ∨ f0 = 7 ∨ f0 = 8 ∨ f0 = 9 ∨ f0 = 10 ∨ f0 = 11 ∨ f0 = 12 ∨ f0 = 13 ∨ f0 = 14) with rfl | rfl | rfl | rfl | rfl | rfl | rfl | rfl | rfl | rfl | rfl | rfl | rfl | rfl
  all_goals
    simp [act1, act2, act3, hasB, usesP, in8, bT, bG, bO] at h1 h2 h3
    constructor
    all_goals simp [namedP, varsP, opMax, sharedN]
    all_goals first
      | omega
      | (obtain ⟨_, _, _, _⟩ := h1; assumption)
      | (refine ⟨?_, ?_⟩ <;> omega)
      | (refine ⟨?_, ?_, ?_⟩ <;> omega)
      | (simp_all; done)
      | (simp_all [fitsB]; done)
      | (simp_all [fitsB]; omega)
theorem ok_actB {ng na m nv nl : Int} {a : S33} (h : OkAct ng na m nv nl a) : actB ng na m nv nl a = true := by
  obtain ⟨f0, f1, f2, f3, f4, f5, f6, f7, f8⟩ := a
  obtain ⟨hk, hs, hn, he, hf, ho, hg, hv⟩ := h
  simp only at hk hn he hf
  refine actB_yes hk ?_ ?_ ?_
  all_goals
    rcases (by omega : f0 = 1 ∨ f0 = 2 ∨ f0 = 3 ∨ f0 = 4 ∨ f0 = 5 ∨ f0 = 6 ∨ f0 = 7 ∨ f0 = 8 ∨ f0 = 9 ∨ f0 = 10 ∨ f0 = 11 ∨ f0 = 12 ∨ f0 = 13 ∨ f0 = 14) with rfl | rfl | rfl | rfl | rfl | rfl | rfl | rfl | rfl | rfl | rfl | rfl | rfl | rfl
  all_goals
    simp [namedP] at hs
    simp [varsP] at hv
    simp [opMax] at ho
    simp [sharedN] at hg
    simp [act1, act2, act3, hasB, usesP, in8, bT, bG, bO, hf]
    first
      | omega
      | (refine ⟨?_, ?_⟩ <;> omega)
      | (refine ⟨?_, ?_, ?_⟩ <;> omega)
      | (refine ⟨?_, ?_, ?_, ?_⟩ <;> omega)
end
section
theorem Ev_shift {α : Type} {g : Nat → Option α} {r : α} (h : Ev (fun k => g (k + 1)) r) : Ev g r := Ev.step (fun _ => rfl) h
theorem Ev_pos {α : Type} {c : Prop} [Decidable c] {a b : Nat → Option α} {r : α} (h : c) (H : Ev a r) : Ev (fun k => if c then a k else b k) r := Ev.congr (fun _ => if_pos h) H
theorem Ev_neg {α : Type} {c : Prop} [Decidable c] {a b : Nat → Option α} {r : α} (h : ¬ c) (H : Ev b r) : Ev (fun k => if c then a k else b k) r := Ev.congr (fun _ => if_neg h) H
theorem Ev_some {α β : Type} {g : Option α} {f : Nat → α → Option β} {a : α} {r : β} (h : g = some a) (k : Ev (fun n => f n a) r) : Ev (fun n => g.bind (f n)) r := Ev.congr (fun _ => by rw [h]; rfl) k
theorem wrap_succ {i n : Nat} (h : i < n) (hn : n ≤ 17592186044416) : wrap64 ((i : Int) + 1) = ((i + 1 : Nat) : Int) := by
  unfold wrap64; omega
theorem rd_get (l : List Int) (i : Nat) (h : i < l.length) : rd l (i : Int) = l[i] := by show l.getD (i : Int).toNat 0 = _; simp [h]
theorem rd49_get (l : List S49) (i : Nat) (h : i < l.length) : rd_T49 l (i : Int) = l[i] := by simp [rd_T49, h]
theorem rd33_get (l : List S33) (i : Nat) (h : i < l.length) : rd_T33 l (i : Int) = l[i] := by simp [rd_T33, h]
theorem codeB_iff {ng na m : Int} {c : S49} : codeB ng na m c = true ↔ OkCode ng na m c := by
  unfold codeB
  simp only [Bool.and_eq_true, decide_eq_true_eq, beq_iff_eq, List.all_eq_true, in8]
  constructor
  · rintro ⟨h1, h2, h3, h4, h5⟩
    exact ⟨by omega, by omega, h4, fun a ha => actB_ok (h5 a ha)⟩
  · rintro ⟨h1, h2, h3, h4⟩
    exact ⟨by omega, by omega, by omega, h3, fun a ha => ok_actB (h4 a ha)⟩
theorem isB_iff {G A : List Int} {m : Int} {cs : List S49} : isB G A m cs = true ↔ OkUnit G A m cs := by
  unfold isB
  simp only [Bool.and_eq_true, decide_eq_true_eq, List.all_eq_true, in8, sizeB]
  constructor
  · rintro ⟨h1, h2, h3, h4, h5, h6, h7, h8⟩
    exact ⟨h1, h6, h2, h7, by omega, by omega, fun c hc => codeB_iff.1 (h8 c hc)⟩
  · rintro ⟨h1, h2, h3, h4, h5, h6, h7⟩
    exact ⟨h1, h3, by omega, h6.1, h6.2, h2, h4, fun c hc => codeB_iff.2 (h7 c hc)⟩
theorem is8_ev (G A : List Int) (m : Int) (cs : List S49) : ∃ b, Ev (fun k => meddlerref8_Is.f k G A m cs) b ∧ (b = true ↔ OkUnit G A m cs) := ⟨isB G A m cs, Ev.now _, isB_iff⟩
def actsN (cs : List S49) : Nat := (cs.map fun c => c.f1.length).sum
theorem actsN_drop (cs : List S49) (i : Nat) (h : i < cs.length) : actsN (cs.drop i) = cs[i].f1.length + actsN (cs.drop (i + 1)) := by
  unfold actsN
  rw [List.drop_eq_getElem_cons h, List.map_cons, List.sum_cons]
end
end Go.Proofs.Ytikjamcemnbhbaa.Mr
