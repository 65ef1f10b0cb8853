/- Which units are looked at. -/
import Derived.Test.YtikjamcemnbhbaaMrF18
import Derived.Test.YtikjamcemnbhbaaMrF39
import Derived.Test.YtikjamcemnbhbaaMrPkC
import Derived.Test.YtikjamcemnbhbaaMrPkE
namespace Go.Proofs.Ytikjamcemnbhbaa.Mr
open Go.RowKit Go.Proofs.YtikjamcemnbhbaaW.PrintWords Go.Proofs.YtikjamcemnbhbaaW.PrintLast Go.Proofs.YtikjamcemnbhbaaW.PrintMore
set_option linter.unusedVariables false
set_option linter.unusedSimpArgs false
section
theorem actB_ok {ng na m nv nl : Int} {a : S33} (h : actB ng na m nv nl a = true) : OkAct ng na m nv nl a := by
  obtain ⟨f0, f1, f2, f3, f4, f5, f6, f7, f8⟩ := a
  unfold actB at h
  simp only [Bool.and_eq_true, decide_eq_true_eq] at h
  obtain ⟨hk, h1, h2, h3⟩ := h
  rcases (by omega : f0 = 1 ∨ f0 = 2 ∨ f0 = 3 ∨ f0 = 4 ∨ f0 = 5 ∨ f0 = 6 ∨ f0 = 7 ∨ f0 = 8 ∨ f0 = 9 ∨ f0 = 10 ∨ f0 = 11 ∨ f0 = 12 ∨ f0 = 13 ∨ f0 = 14) with rfl | rfl | rfl | rfl | rfl | rfl | rfl | rfl | rfl | rfl | rfl | rfl | rfl | rfl
  all_goals
    simp [act1, act2, act3, hasB, usesP, in8, bT, bG, bO] at h1 h2 h3
    constructor
    all_goals simp [namedP, varsP, opMax, sharedN]
    all_goals first
      | omega
      | (obtain ⟨_, _, _, _⟩ := h1; assumption)
      | (refine ⟨?_, ?_⟩ <;> omega)
      | (refine ⟨?_, ?_, ?_⟩ <;> omega)
      | (simp_all; done)
      | (simp_all [fitsB]; done)
      | (simp_all [fitsB]; omega)
theorem ok_actB {ng na m nv nl : Int} {a : S33} (h : OkAct ng na m nv nl a) : actB ng na m nv nl a = true := by
  obtain ⟨f0, f1, f2, f3, f4, f5, f6, f7, f8⟩ := a
  obtain ⟨hk, hs, hn, he, hf, ho, hg, hv⟩ := h
  simp only at hk hn he hf
  refine actB_yes hk ?_ ?_ ?_
  all_goals
    rcases (by omega : f0 = 1 ∨ f0 = 2 ∨ f0 = 3 ∨ f0 = 4 ∨ f0 = 5 ∨ f0 = 6 ∨ f0 = 7 ∨ f0 = 8 ∨ f0 = 9 ∨ f0 = 10 ∨ f0 = 11 ∨ f0 = 12 ∨ f0 = 13 ∨ f0 = 14) with rfl | rfl | rfl | rfl | rfl | rfl | rfl | rfl | rfl | rfl | rfl | rfl | rfl | rfl
  all_goals
    simp [namedP] at hs
    simp [varsP] at hv
    simp [opMax] at ho
    simp [sharedN] at hg
    simp [act1, act2, act3, hasB, usesP, in8, bT, bG, bO, hf]
    first
      | omega
      | (refine ⟨?_, ?_⟩ <;> omega)
      | (refine ⟨?_, ?_, ?_⟩ <;> omega)
      | (refine ⟨?_, ?_, ?_, ?_⟩ <;> omega)
end
section
theorem Ev_shift {α : Type} {g : Nat → Option α} {r : α} (h : Ev (fun k => g (k + 1)) r) : Ev g r := Ev.step (fun _ => rfl) h
theorem Ev_pos {α : Type} {c : Prop} [Decidable c] {a b : Nat → Option α} {r : α} (h : c) (H : Ev a r) : Ev (fun k => if c then a k else b k) r := Ev.congr (fun _ => if_pos h) H
theorem Ev_neg {α : Type} {c : Prop} [Decidable c] {a b : Nat → Option α} {r : α} (h : ¬ c) (H : Ev b r) : Ev (fun k => if c then a k else b k) r := Ev.congr (fun _ => if_neg h) H
theorem Ev_some {α β : Type} {g : Option α} {f : Nat → α → Option β} {a : α} {r : β} (h : g = some a) (k : Ev (fun n => f n a) r) : Ev (fun n => g.bind (f n)) r := Ev.congr (fun _ => by rw [h]; rfl) k
theorem wrap_succ {i n : Nat} (h : i < n) (hn : n ≤ 17592186044416) : wrap64 ((i : Int) + 1) = ((i + 1 : Nat) : Int) := by
  unfold wrap64; omega
theorem rd_get (l : List Int) (i : Nat) (h : i < l.length) : rd l (i : Int) = l[i] := by show l.getD (i : Int).toNat 0 = _; simp [h]
theorem rd49_get (l : List S49) (i : Nat) (h : i < l.length) : rd_T49 l (i : Int) = l[i] := by simp [rd_T49, h]
theorem rd33_get (l : List S33) (i : Nat) (h : i < l.length) : rd_T33 l (i : Int) = l[i] := by simp [rd_T33, h]
theorem fit8_some (x : Int) : meddlerref1_Fits.f x = some (fitsB x) := fit8_ok x
theorem is_l3 (G A : List Int) (m : Int) (cs : List S49) (x5 nv : Int) (acts : List S33) (hn : acts.length ≤ 60) {b0 : Bool} (h0 : Ev (fun k => meddlerref8_Is.l2 k (wrap64 (x5 + 1)) G A m cs) b0) :
    ∀ d i, acts.length - i = d → ∃ b, Ev (fun k => meddlerref8_Is.l3 k x5 acts.length (i : Nat) G A m cs nv acts) b ∧ (b = true ↔ (∀ j, i ≤ j → (h : j < acts.length) → actB G.length A.length m nv acts.length acts[j] = true) ∧ b0 = true) := by
  intro d
  induction d with
  | zero =>
    intro i hi
    refine ⟨b0, Ev_shift ?_, ⟨fun h => ⟨fun j h1 h2 => by omega, h⟩, fun h => h.2⟩⟩
    simp only [meddlerref8_Is.l3]
    exact Ev_neg (by omega) h0
  | succ d ih =>
    intro i hi
    have hlt : i < acts.length := by omega
    obtain ⟨b1, e1, i1⟩ := ih (i + 1) (by omega)
    have ea : meddlerref8_act.f 0 G A m cs nv acts (rd_T33 acts (i : Int)).f0 (rd_T33 acts (i : Int)).f1 (rd_T33 acts (i : Int)).f2 (rd_T33 acts (i : Int)).f3 (rd_T33 acts (i : Int)).f4 (rd_T33 acts (i : Int)).f5 (rd_T33 acts (i : Int)).f6 (rd_T33 acts (i : Int)).f7 (rd_T33 acts (i : Int)).f8 = some (actB G.length A.length m nv acts.length acts[i]) := by
      rw [rd33_get acts i hlt]; rfl
    cases hb : actB G.length A.length m nv acts.length acts[i] with
    | false =>
      refine ⟨false, Ev_shift ?_, ⟨fun h => (by cases h), fun h => ?_⟩⟩
      · simp only [meddlerref8_Is.l3]
        refine Ev_pos (by omega) (Ev_pos (by omega) (Ev_pos (by omega) ?_))
        refine Ev_some (ea.trans (by rw [hb])) ?_
        exact Ev_neg (by simp) (Ev.now _)
      · have := h.1 i (Nat.le_refl _) hlt; rw [hb] at this; exact this
    | true =>
      refine ⟨b1, Ev_shift ?_, ?_⟩
      · simp only [meddlerref8_Is.l3]
        refine Ev_pos (by omega) (Ev_pos (by omega) (Ev_pos (by omega) ?_))
        refine Ev_some (ea.trans (by rw [hb])) ?_
        refine Ev_pos rfl ?_
        rw [wrap_succ hlt (by omega)]
        exact e1
      · rw [i1]
        refine ⟨fun h => ⟨fun j h1 h2 => ?_, h.2⟩, fun h => ⟨fun j h1 h2 => h.1 j (by omega) h2, h.2⟩⟩
        by_cases e : j = i
        · subst e; exact hb
        · exact h.1 j (by omega) h2
/-- A thread's code, as meddlerref8.Is looks at it. -/
def CodeOk (ng na m : Int) (c : S49) : Prop := (0 ≤ c.f0 ∧ c.f0 < 41) ∧ (1 ≤ c.f1.length ∧ c.f1.length ≤ 60) ∧ (rd_T33 c.f1 (c.f1.length - 1)).f0 = 14 ∧ ∀ j, (h : j < c.f1.length) → actB ng na m c.f0 c.f1.length c.f1[j] = true
theorem codeOk_iff {ng na m : Int} {c : S49} : CodeOk ng na m c ↔ OkCode ng na m c := by
  constructor
  · rintro ⟨h1, h2, h3, h4⟩
    refine ⟨by omega, by omega, h3, fun a ha => ?_⟩
    obtain ⟨j, hj, rfl⟩ := List.getElem_of_mem ha
    exact actB_ok (h4 j hj)
  · rintro ⟨h1, h2, h3, h4⟩
    exact ⟨by omega, by omega, h3, fun j hj => ok_actB (h4 _ (List.getElem_mem hj))⟩
theorem is_l2 (G A : List Int) (m : Int) (cs : List S49) (hn : cs.length ≤ 4) :
    ∀ d i, cs.length - i = d → ∃ b, Ev (fun k => meddlerref8_Is.l2 k (i : Nat) G A m cs) b ∧ (b = true ↔ ∀ j, i ≤ j → (h : j < cs.length) → CodeOk G.length A.length m cs[j]) := by
  intro d
  induction d with
  | zero =>
    intro i hi
    refine ⟨true, Ev_shift ?_, ⟨fun _ j h1 h2 => by omega, fun _ => rfl⟩⟩
    simp only [meddlerref8_Is.l2]
    exact Ev_neg (by omega) (Ev.now _)
  | succ d ih =>
    intro i hi
    have hlt : i < cs.length := by omega
    obtain ⟨b1, e1, i1⟩ := ih (i + 1) (by omega)
    have ew := wrap_succ hlt (by omega)
    generalize hc : cs[i] = c at *
    have er : rd_T49 cs (i : Int) = c := (rd49_get cs i hlt).trans hc
    have no : ∀ (P : ¬ CodeOk G.length A.length m c), Ev (fun k => meddlerref8_Is.l2 (k + 1) (i : Nat) G A m cs) false → ∃ b, Ev (fun k => meddlerref8_Is.l2 k (i : Nat) G A m cs) b ∧ (b = true ↔ ∀ j, i ≤ j → (h : j < cs.length) → CodeOk G.length A.length m cs[j]) :=
      fun P E => ⟨false, Ev_shift E, ⟨fun h => (by cases h), fun h => absurd (hc ▸ h i (Nat.le_refl _) hlt) P⟩⟩
    have stop : Ev (fun k => meddlerref8_Is.j4 k (i : Int) (c.f1.length : Int) true G A m cs c.f0 c.f1) false := Ev_shift (by simp only [meddlerref8_Is.j4]; exact Ev_pos (by trivial) (Ev.now _))
    by_cases h1 : 0 ≤ c.f0 ∧ c.f0 < 41
    · have q1 : meddlerref8_in.f c.f0 41 = some true := by rw [in8_ok]; simp [in8, h1.1, h1.2]
      by_cases h2 : (c.f1.length : Int) < 1
      · refine no (fun h => by have := h.2.1; omega) ?_
        simp only [meddlerref8_Is.l2, er]
        exact Ev_pos (by omega) (Ev_pos (by omega) (Ev_some q1 (Ev_pos rfl (Ev_pos h2 stop))))
      · by_cases h3 : (c.f1.length : Int) > 60
        · refine no (fun h => by have := h.2.1; omega) ?_
          simp only [meddlerref8_Is.l2, er]
          exact Ev_pos (by omega) (Ev_pos (by omega) (Ev_some q1 (Ev_pos rfl (Ev_neg h2 (Ev_pos h3 stop)))))
        · have e2 : wrap64 ((c.f1.length : Int) - 1) = (c.f1.length : Int) - 1 := by unfold wrap64; omega
          by_cases h4 : (rd_T33 c.f1 ((c.f1.length : Int) - 1)).f0 = 14
          · have q4 : ((rd_T33 c.f1 ((c.f1.length : Int) - 1)).f0 != 14) = false := by rw [h4]; rfl
            obtain ⟨b2, e3, i3⟩ := is_l3 G A m cs i c.f0 c.f1 (by omega) (b0 := b1) (by rw [ew]; exact e1) c.f1.length 0 rfl
            refine ⟨b2, Ev_shift ?_, ?_⟩
            · simp only [meddlerref8_Is.l2, er]
              refine Ev_pos (by omega) (Ev_pos (by omega) (Ev_some q1 (Ev_pos rfl (Ev_neg h2 (Ev_neg h3 ?_)))))
              rw [e2, q4]
              refine Ev_pos (by omega) (Ev_pos (by omega) (Ev_shift ?_))
              simp only [meddlerref8_Is.j4]
              exact Ev_neg (by simp) e3
            · rw [i3, i1]
              refine ⟨fun h j k1 k2 => ?_, fun h => ⟨fun j k1 k2 => ?_, fun j k1 k2 => h j (by omega) k2⟩⟩
              · by_cases e : j = i
                · subst e; rw [hc]; exact ⟨h1, by omega, h4, fun q hq => h.1 q (Nat.zero_le _) hq⟩
                · exact h.2 j (by omega) k2
              · have := h i (Nat.le_refl _) hlt; rw [hc] at this; exact this.2.2.2 j k2
          · have q4 : ((rd_T33 c.f1 ((c.f1.length : Int) - 1)).f0 != 14) = true := by simp [h4]
            refine no (fun h => h4 h.2.2.1) ?_
            simp only [meddlerref8_Is.l2, er]
            refine Ev_pos (by omega) (Ev_pos (by omega) (Ev_some q1 (Ev_pos rfl (Ev_neg h2 (Ev_neg h3 ?_)))))
            rw [e2, q4]
            exact Ev_pos (by omega) (Ev_pos (by omega) stop)
    · have q1 : meddlerref8_in.f c.f0 41 = some false := by
        rw [in8_ok]; unfold in8
        by_cases h : 0 ≤ c.f0
        · have : ¬ c.f0 < 41 := by omega
          simp [this]
        · simp [h]
      refine no (fun h => h1 h.1) ?_
      simp only [meddlerref8_Is.l2, er]
      exact Ev_pos (by omega) (Ev_pos (by omega) (Ev_some q1 (Ev_neg (by simp) stop)))
theorem is_l1 (G A : List Int) (m : Int) (cs : List S49) (hn : cs.length ≤ 4) (hA : A.length ≤ 3) :
    ∀ d i, A.length - i = d → ∃ b, Ev (fun k => meddlerref8_Is.l1 k (i : Nat) G A m cs) b ∧ (b = true ↔ (∀ j, i ≤ j → (h : j < A.length) → 1 ≤ A[j] ∧ A[j] ≤ 16) ∧ ∀ j, (h : j < cs.length) → CodeOk G.length A.length m cs[j]) := by
  intro d
  induction d with
  | zero =>
    intro i hi
    obtain ⟨b, e, hb⟩ := is_l2 G A m cs hn cs.length 0 rfl
    refine ⟨b, Ev_shift ?_, ⟨fun h => ⟨fun j h1 h2 => by omega, fun j k => hb.1 h j (Nat.zero_le _) k⟩, fun h => hb.2 (fun j _ k => h.2 j k)⟩⟩
    simp only [meddlerref8_Is.l1]
    exact Ev_neg (by omega) e
  | succ d ih =>
    intro i hi
    have hlt : i < A.length := by omega
    obtain ⟨b1, e1, i1⟩ := ih (i + 1) (by omega)
    have ew := wrap_succ hlt (by omega)
    have er : rd A (i : Int) = A[i] := rd_get A i hlt
    by_cases h1 : A[i] < 1
    · refine ⟨false, Ev_shift ?_, ⟨fun h => (by cases h), fun h => ?_⟩⟩
      · simp only [meddlerref8_Is.l1, er]
        exact Ev_pos (by omega) (Ev_pos (by omega) (Ev_pos h1 (Ev.now _)))
      · have := h.1 i (Nat.le_refl _) hlt; omega
    · by_cases h2 : A[i] > 16
      · refine ⟨false, Ev_shift ?_, ⟨fun h => (by cases h), fun h => ?_⟩⟩
        · simp only [meddlerref8_Is.l1, er]
          exact Ev_pos (by omega) (Ev_pos (by omega) (Ev_neg h1 (Ev_pos h2 (Ev.now _))))
        · have := h.1 i (Nat.le_refl _) hlt; omega
      · refine ⟨b1, Ev_shift ?_, ?_⟩
        · simp only [meddlerref8_Is.l1, er]
          rw [ew]
          exact Ev_pos (by omega) (Ev_pos (by omega) (Ev_neg h1 (Ev_neg h2 e1)))
        · rw [i1]
          refine ⟨fun h => ⟨fun j k1 k2 => ?_, h.2⟩, fun h => ⟨fun j k1 k2 => h.1 j (by omega) k2, h.2⟩⟩
          by_cases e : j = i
          · subst e; omega
          · exact h.1 j (by omega) k2
theorem is_l0 (G A : List Int) (m : Int) (cs : List S49) (hn : cs.length ≤ 4) (hA : A.length ≤ 3) (hG : G.length ≤ 6) :
    ∀ d i, G.length - i = d → ∃ b, Ev (fun k => meddlerref8_Is.l0 k (i : Nat) G A m cs) b ∧ (b = true ↔ (∀ j, i ≤ j → (h : j < G.length) → fitsB G[j] = true) ∧ (∀ j, (h : j < A.length) → 1 ≤ A[j] ∧ A[j] ≤ 16) ∧ ∀ j, (h : j < cs.length) → CodeOk G.length A.length m cs[j]) := by
  intro d
  induction d with
  | zero =>
    intro i hi
    obtain ⟨b, e, hb⟩ := is_l1 G A m cs hn hA A.length 0 rfl
    refine ⟨b, Ev_shift ?_, ⟨fun h => ⟨fun j h1 h2 => by omega, fun j k => (hb.1 h).1 j (Nat.zero_le _) k, (hb.1 h).2⟩, fun h => hb.2 ⟨fun j _ k => h.2.1 j k, h.2.2⟩⟩⟩
    simp only [meddlerref8_Is.l0]
    exact Ev_neg (by omega) e
  | succ d ih =>
    intro i hi
    have hlt : i < G.length := by omega
    obtain ⟨b1, e1, i1⟩ := ih (i + 1) (by omega)
    have ew := wrap_succ hlt (by omega)
    have er : rd G (i : Int) = G[i] := rd_get G i hlt
    cases hf : fitsB G[i] with
    | false =>
      refine ⟨false, Ev_shift ?_, ⟨fun h => (by cases h), fun h => ?_⟩⟩
      · simp only [meddlerref8_Is.l0, er]
        exact Ev_pos (by omega) (Ev_pos (by omega) (Ev_some ((fit8_ok _).trans (by rw [hf])) (Ev_neg (by simp) (Ev.now _))))
      · have := h.1 i (Nat.le_refl _) hlt; rw [hf] at this; exact this
    | true =>
      refine ⟨b1, Ev_shift ?_, ?_⟩
      · simp only [meddlerref8_Is.l0, er]
        rw [ew]
        exact Ev_pos (by omega) (Ev_pos (by omega) (Ev_some ((fit8_ok _).trans (by rw [hf])) (Ev_pos rfl e1)))
      · rw [i1]
        refine ⟨fun h => ⟨fun j k1 k2 => ?_, h.2⟩, fun h => ⟨fun j k1 k2 => h.1 j (by omega) k2, h.2⟩⟩
        by_cases e : j = i
        · subst e; exact hf
        · exact h.1 j (by omega) k2
theorem okUnit_iff {G A : List Int} {m : Int} {cs : List S49} : OkUnit G A m cs ↔ G.length ≤ 6 ∧ A.length ≤ 3 ∧ (0 ≤ m ∧ m < 7) ∧ (1 ≤ cs.length ∧ cs.length ≤ 4) ∧ (∀ j, (h : j < G.length) → fitsB G[j] = true) ∧ (∀ j, (h : j < A.length) → 1 ≤ A[j] ∧ A[j] ≤ 16) ∧ ∀ j, (h : j < cs.length) → CodeOk G.length A.length m cs[j] := by
  constructor
  · rintro ⟨h1, h2, h3, h4, h5, h6, h7⟩
    exact ⟨h1, h3, by omega, h6, fun j hj => h2 _ (List.getElem_mem hj), fun j hj => h4 _ (List.getElem_mem hj), fun j hj => codeOk_iff.2 (h7 _ (List.getElem_mem hj))⟩
  · rintro ⟨h1, h3, h5, h6, h2, h4, h7⟩
    refine ⟨h1, fun x hx => ?_, h3, fun x hx => ?_, by omega, h6, fun x hx => ?_⟩
    · obtain ⟨j, hj, rfl⟩ := List.getElem_of_mem hx; exact h2 j hj
    · obtain ⟨j, hj, rfl⟩ := List.getElem_of_mem hx; exact h4 j hj
    · obtain ⟨j, hj, rfl⟩ := List.getElem_of_mem hx; exact codeOk_iff.1 (h7 j hj)
theorem is8_ev (G A : List Int) (m : Int) (cs : List S49) : ∃ b, Ev (fun k => meddlerref8_Is.f k G A m cs) b ∧ (b = true ↔ OkUnit G A m cs) := by
  have stop : Ev (fun k => meddlerref8_Is.j0 k true G A m cs) false := Ev_shift (by simp only [meddlerref8_Is.j0]; exact Ev_pos (by trivial) (Ev.now _))
  simp only [meddlerref8_Is.f]
  by_cases h1 : (G.length : Int) > 6
  · exact ⟨false, Ev_pos h1 stop, ⟨fun h => (by cases h), fun h => by have := h.gl; omega⟩⟩
  · by_cases h2 : (A.length : Int) > 3
    · exact ⟨false, Ev_neg h1 (Ev_pos h2 stop), ⟨fun h => (by cases h), fun h => by have := h.al; omega⟩⟩
    · by_cases h3 : 0 ≤ m ∧ m < 7
      · have q3 : meddlerref8_in.f m 7 = some true := by rw [in8_ok]; simp [in8, h3.1, h3.2]
        by_cases h4 : (cs.length : Int) < 1
        · exact ⟨false, Ev_neg h1 (Ev_neg h2 (Ev_some q3 (Ev_pos rfl (Ev_pos h4 stop)))), ⟨fun h => (by cases h), fun h => by have := h.tl; omega⟩⟩
        · by_cases h5 : (cs.length : Int) > 4
          · exact ⟨false, Ev_neg h1 (Ev_neg h2 (Ev_some q3 (Ev_pos rfl (Ev_neg h4 (by rw [decide_eq_true h5]; exact stop))))), ⟨fun h => (by cases h), fun h => by have := h.tl; omega⟩⟩
          · obtain ⟨b, e, hb⟩ := is_l0 G A m cs (by omega) (by omega) (by omega) G.length 0 rfl
            refine ⟨b, Ev_neg h1 (Ev_neg h2 (Ev_some q3 (Ev_pos rfl (Ev_neg h4 (by rw [decide_eq_false h5]; exact Ev_shift (by simp only [meddlerref8_Is.j0]; exact Ev_neg (by simp) e)))))), ?_⟩
            rw [hb, okUnit_iff]
            exact ⟨fun h => ⟨by omega, by omega, h3, by omega, fun j hj => h.1 j (Nat.zero_le _) hj, h.2⟩, fun h => ⟨fun j _ hj => h.2.2.2.2.1 j hj, h.2.2.2.2.2⟩⟩
      · have q3 : meddlerref8_in.f m 7 = some false := by
          rw [in8_ok]; unfold in8
          by_cases h : 0 ≤ m
          · have : ¬ m < 7 := by omega
            simp [this]
          · simp [h]
        exact ⟨false, Ev_neg h1 (Ev_neg h2 (Ev_some q3 (Ev_neg (by simp) stop))), ⟨fun h => (by cases h), fun h => by have := h.ms; omega⟩⟩
def actsN (cs : List S49) : Nat := (cs.map fun c => c.f1.length).sum
theorem actsN_drop (cs : List S49) (i : Nat) (h : i < cs.length) : actsN (cs.drop i) = cs[i].f1.length + actsN (cs.drop (i + 1)) := by
  unfold actsN
  rw [List.drop_eq_getElem_cons h, List.map_cons, List.sum_cons]
end
section
theorem big9_l0 (G A : List Int) (m : Int) (cs : List S49) (hn : cs.length ≤ 4) (hl : ∀ c ∈ cs, c.f1.length ≤ 1000000000000000) :
    ∀ d i, cs.length - i = d → ∀ n : Nat, n ≤ 100 → ∃ b, Ev (fun k => meddlerlaw9_big.l0 k n (i : Nat) G A m cs) b ∧ (b = false ↔ n + actsN (cs.drop i) ≤ 100 ∧ OkUnit G A m cs) := by
  intro d
  induction d with
  | zero =>
    intro i hi n hn
    obtain ⟨b, e, hb⟩ := is8_ev G A m cs
    have e0 : actsN (cs.drop i) = 0 := by rw [List.drop_eq_nil_of_le (by omega)]; rfl
    refine ⟨!b, Ev_shift ?_, ?_⟩
    · simp only [meddlerlaw9_big.l0]
      exact Ev_neg (by omega) (Ev.bind e (Ev.now _))
    · rw [e0, ← hb]
      cases b
      · simp
      · simp; omega
  | succ d ih =>
    intro i hi n hn
    have hlt : i < cs.length := by omega
    have ew := wrap_succ hlt (by omega)
    have er : rd_T49 cs (i : Int) = cs[i] := rd49_get cs i hlt
    have hc := hl _ (List.getElem_mem hlt)
    have es : wrap64 ((n : Int) + (cs[i].f1.length : Int)) = ((n + cs[i].f1.length : Nat) : Int) := by unfold wrap64; omega
    have ed := actsN_drop cs i hlt
    by_cases h1 : ((n + cs[i].f1.length : Nat) : Int) > 100
    · refine ⟨true, Ev_shift ?_, ⟨fun h => (by cases h), fun h => by omega⟩⟩
      simp only [meddlerlaw9_big.l0, er]
      rw [es]
      exact Ev_pos (by omega) (Ev_pos (by omega) (Ev_pos h1 (Ev.now _)))
    · obtain ⟨b1, e1, i1⟩ := ih (i + 1) (by omega) (n + cs[i].f1.length) (by omega)
      refine ⟨b1, Ev_shift ?_, ?_⟩
      · simp only [meddlerlaw9_big.l0, er]
        rw [es, ew]
        exact Ev_pos (by omega) (Ev_pos (by omega) (Ev_neg h1 e1))
      · rw [i1, ed, Nat.add_assoc]
theorem big9_ev (G A : List Int) (m : Int) (cs : List S49) (hl : ∀ c ∈ cs, c.f1.length ≤ 1000000000000000) : ∃ b, Ev (fun k => meddlerlaw9_big.f k G A m cs) b ∧ (b = false ↔ actsN cs ≤ 100 ∧ OkUnit G A m cs) := by
  have stop : Ev (fun k => meddlerlaw9_big.j0 k true G A m cs) true := Ev_shift (by simp only [meddlerlaw9_big.j0]; exact Ev_pos (by trivial) (Ev.now _))
  simp only [meddlerlaw9_big.f]
  by_cases h1 : (cs.length : Int) > 4
  · exact ⟨true, Ev_pos h1 stop, ⟨fun h => (by cases h), fun h => by have := h.2.tl; omega⟩⟩
  · by_cases h2 : (G.length : Int) > 10
    · exact ⟨true, Ev_neg h1 (Ev_pos h2 stop), ⟨fun h => (by cases h), fun h => by have := h.2.gl; omega⟩⟩
    · by_cases h3 : (A.length : Int) > 10
      · exact ⟨true, Ev_neg h1 (Ev_neg h2 (by rw [decide_eq_true h3]; exact stop)), ⟨fun h => (by cases h), fun h => by have := h.2.al; omega⟩⟩
      · obtain ⟨b, e, hb⟩ := big9_l0 G A m cs (by omega) hl cs.length 0 rfl 0 (by omega)
        refine ⟨b, Ev_neg h1 (Ev_neg h2 (by rw [decide_eq_false h3]; exact Ev_shift (by simp only [meddlerlaw9_big.j0]; exact Ev_neg (by simp) e))), ?_⟩
        rw [hb, Nat.zero_add, List.drop_zero]
/-- What big answers, wherever the unit is read. -/
theorem big9 (G A : List Int) (m : Int) (cs : List S49) (hl : ∀ c ∈ cs, c.f1.length ≤ 1000000000000000) : ∃ b, (b = false ↔ actsN cs ≤ 100 ∧ OkUnit G A m cs) ∧ ∀ (w : World) (Ag : Option Addr) (cg : Nat) (Aa : Option Addr) (ca : Nat) (At : Option Addr) (ct : Nat),
    Kd.C (Kd.int .i64) w Ag G.length G → G.length ≤ cg → Kd.C (Kd.int .i64) w Aa A.length A → A.length ≤ ca → Kd.C k49 w At cs.length cs → cs.length ≤ ct →
    Calls Try.prog 18 #[.agg #[.slice Ag G.length cg, .slice Aa A.length ca, .int .i64 m, .slice At cs.length ct]] w fun e w' => e = .returned (.bool b) ∧ Below w.heap.size w w' := by
  obtain ⟨b, e, hb⟩ := big9_ev G A m cs hl
  obtain ⟨k, hk⟩ := e.rounds
  exact ⟨b, hb, fun w Ag cg Aa ca At ct h1 h2 h3 h4 h5 h6 => meddlerlaw9_big.calls k Ag cg G Aa ca A m At ct cs b w h1 h2 h3 h4 h5 h6 hk⟩
end
end Go.Proofs.Ytikjamcemnbhbaa.Mr
