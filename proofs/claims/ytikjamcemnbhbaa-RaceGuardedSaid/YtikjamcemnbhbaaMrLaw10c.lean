/- meddlerlaw10: two that store one global under one mutex never meet. -/
import Derived.Test.YtikjamcemnbhbaaMrLaw10a
import Derived.Laws.BitsLemmas
namespace Go.Proofs.Ytikjamcemnbhbaa.Mr
open Go.RowKit Go.Proofs.YtikjamcemnbhbaaW.PrintWords Go.Proofs.YtikjamcemnbhbaaW.PrintLast Go.Proofs.YtikjamcemnbhbaaW.PrintMore
set_option linter.unusedVariables false
set_option linter.unusedSimpArgs false
def gActs (guard : Bool) : List S33 := [⟨if guard then 9 else 12, 0, 0, 0, 0, 0, 0, 1, 0⟩, ⟨6, 0, 0, 0, 0, 0, 0, 2, 0⟩, ⟨if guard then 10 else 12, 0, 0, 0, 0, 0, 0, 0, 0⟩, ⟨14, 0, 0, 0, 0, 0, 0, 3, 0⟩]
def gCs (guard : Bool) : List S49 := [⟨1, gActs guard⟩, ⟨1, gActs guard⟩]
def gS0 (guard : Bool) : St := newSt [0] [] (gCs guard) 0 1 2
theorem ok_g (guard : Bool) : OkUnit [0] [] 1 (gCs guard) := by
  refine ⟨by decide, by decide, by decide, by simp, by decide, by simp [gCs], fun c hc => ?_⟩
  have hc : c = ⟨1, gActs guard⟩ := by simpa [gCs] using hc
  subst hc
  cases guard <;> exact ⟨by decide, by decide, by decide, fun a ha => by
    simp only [gActs, List.mem_cons, List.not_mem_nil, or_false] at ha
    rcases ha with rfl | rfl | rfl | rfl <;> exact ok_acts (by decide)⟩
structure GIn (s : St) (o p0 p1 : Int) : Prop where
  bad : s.bad = none
  row : s.row 1 = [o]
  pc0 : s.pc 0 = p0
  pc1 : s.pc 1 = p1
theorem GIn.start (guard : Bool) : GIn (gS0 guard) (-1) 0 0 := ⟨rfl, rfl, rfl, rfl⟩
theorem g_nx {guard : Bool} {s : St} (t : Int) (ht : t = 0 ∨ t = 1) (hb : s.bad = none) {a : S33} (ha : rd_T33 (gActs guard) (s.pc t.toNat) = a) :
    nxt (gCs guard) s t = (if a.f0 = 14 then none else if a.f0 = 9 then (if rd (s.row 1) a.f4 = -1 then some a else if rd (s.row 1) a.f4 = t then some a else none) else some a) := by
  have h1 : actOf (gCs guard) s t = a := by
    rw [← ha]
    rcases ht with rfl | rfl <;> rfl
  unfold nxt
  rw [h1, if_pos (by simp [gCs]; omega), if_pos hb]
theorem g_none {guard : Bool} {s : St} {t : Int} (h : nxt (gCs guard) s t = none) : stepP (gCs guard) 0 s t 0 = s := by unfold stepP; rw [h]
theorem g_reck {s : St} {t : Int} {a : S33} (hk : a.f0 = 6 ∨ a.f0 = 9 ∨ a.f0 = 10 ∨ a.f0 = 12) : after1 0 s t a 0 = shr 0 s t a := by
  have hr : reck (s.row (4 + 2 * t.toNat)) a 0 = (s.row (4 + 2 * t.toNat), 0) := by
    unfold reck
    rw [if_neg (by omega), if_neg (by omega), if_neg (by omega), if_neg (by omega), if_neg (by omega)]
  unfold after1
  rw [hr]
  simp only [if_true]
  rw [St.setRow_same]
theorem g_done {guard : Bool} {s s' : St} {t : Int} {a : S33} (h : nxt (gCs guard) s t = some a) (hk : a.f0 = 6 ∨ a.f0 = 9 ∨ a.f0 = 10 ∨ a.f0 = 12) (hs : shr 0 s t a = (s', 0)) : stepP (gCs guard) 0 s t 0 = s'.setPc t.toNat a.f7 := by
  have hd : stepP (gCs guard) 0 s t 0 = doneP 0 s t a 0 := by unfold stepP; rw [h]
  rw [hd]
  unfold doneP
  rw [g_reck hk, hs, if_pos rfl, if_neg (by omega)]
theorem g_skip {s : St} {t : Int} {a : S33} (h : a.f0 = 12) : shr 0 s t a = (s, 0) := by
  unfold shr
  rw [if_neg (by omega), if_neg (by omega), if_neg (by omega), if_neg (by omega), if_neg (by omega)]
theorem g_store {s : St} {t : Int} {a : S33} (h : a.f0 = 6) : ∃ xs, shr 0 s t a = (s.setRow 0 xs, 0) := by
  unfold shr
  rw [if_neg (by omega), if_pos h]
  exact ⟨_, rfl⟩
theorem g_lock {s : St} {t o : Int} {a : S33} (h : a.f0 = 9) (hz : a.f4 = 0) (ho : s.row 1 = [o]) (hn : o ≠ t) : shr 0 s t a = (s.setRow 1 [t], 0) := by
  have hrd : rd [o] 0 = o := rfl
  unfold shr
  rw [if_neg (by omega), if_neg (by omega), if_neg (by omega), if_pos h, ho, hz, hrd, if_neg hn]
  rfl
theorem g_free {s : St} {t o : Int} {a : S33} (h : a.f0 = 10) (hz : a.f4 = 0) (ho : s.row 1 = [o]) (hn : o = t) : shr 0 s t a = (s.setRow 1 [-1], 0) := by
  have hrd : rd [o] 0 = o := rfl
  unfold shr
  rw [if_neg (by omega), if_neg (by omega), if_neg (by omega), if_neg (by omega), if_pos h, ho, hz, hrd, if_pos hn]
  rfl
theorem pairs2 (mt : Nat → Nat → Bool) : decide (0 < (pairsL mt 2).length) = mt 0 1 := by
  have e : pairsL mt 2 = row2 mt 0 2 ++ row2 mt 1 2 := by
    unfold pairsL outL
    simp [List.range_succ]
  have e1 : row2 mt 1 2 = [] := row2_start mt 1
  rw [e, e1, List.append_nil]
  cases h : mt 0 1 with
  | true => rw [show (2 : Nat) = 1 + 1 from rfl, row2_yes (by omega) h]; simp
  | false => rw [show (2 : Nat) = 1 + 1 from rfl, row2_no h, row2_start]; rfl
/-- The states that are met. -/
def GSt (guard : Bool) (s : St) : Prop :=
  if guard then GIn s (-1) 0 0 ∨ GIn s 0 1 0 ∨ GIn s 0 2 0 ∨ GIn s 1 0 1 ∨ GIn s 1 0 2 else GIn s (-1) 0 0 ∨ GIn s (-1) 0 1 ∨ GIn s (-1) 0 2 ∨ GIn s (-1) 1 0 ∨ GIn s (-1) 1 1 ∨ GIn s (-1) 1 2 ∨ GIn s (-1) 2 0 ∨ GIn s (-1) 2 1 ∨ GIn s (-1) 2 2
def Both (s : St) : Bool := s.pc 0 == 1 && s.pc 1 == 1
structure GOk (guard : Bool) (s : St) : Prop where
  st : GSt guard s
  race : decide (0 < (pairsL (mtP (gCs guard) s) (bnd 2)).length) = Both s
  no : (guard && Both s) = false
theorem gs_t00 (s : St) (h : GIn s (-1) 0 0) : GSt true (stepP (gCs true) 0 s 0 0) := by
  have hn := g_nx (guard := true) 0 (by decide) h.bad (a := (⟨9, 0, 0, 0, 0, 0, 0, 1, 0⟩ : S33)) (by show rd_T33 _ (s.pc 0) = _; rw [h.pc0]; rfl)
  rw [h.row] at hn
  have hn : nxt (gCs true) s 0 = some (⟨9, 0, 0, 0, 0, 0, 0, 1, 0⟩ : S33) := hn
  rw [g_done hn (by decide) (g_lock rfl rfl h.row (by decide))]
  have h2 : GIn ((s.setRow 1 [0]).setPc (0 : Int).toNat 1) 0 1 0 := ⟨h.bad, by simp [St.setRow, St.setPc], by simp [St.setRow, St.setPc, h.pc0], by simp [St.setRow, St.setPc, h.pc1]⟩
  exact (.inr (.inl h2) : GIn ((s.setRow 1 [0]).setPc (0 : Int).toNat 1) (-1) 0 0 ∨ GIn ((s.setRow 1 [0]).setPc (0 : Int).toNat 1) 0 1 0 ∨ GIn ((s.setRow 1 [0]).setPc (0 : Int).toNat 1) 0 2 0 ∨ GIn ((s.setRow 1 [0]).setPc (0 : Int).toNat 1) 1 0 1 ∨ GIn ((s.setRow 1 [0]).setPc (0 : Int).toNat 1) 1 0 2)
theorem gs_t01 (s : St) (h : GIn s (-1) 0 0) : GSt true (stepP (gCs true) 0 s 1 0) := by
  have hn := g_nx (guard := true) 1 (by decide) h.bad (a := (⟨9, 0, 0, 0, 0, 0, 0, 1, 0⟩ : S33)) (by show rd_T33 _ (s.pc 1) = _; rw [h.pc1]; rfl)
  rw [h.row] at hn
  have hn : nxt (gCs true) s 1 = some (⟨9, 0, 0, 0, 0, 0, 0, 1, 0⟩ : S33) := hn
  rw [g_done hn (by decide) (g_lock rfl rfl h.row (by decide))]
  have h2 : GIn ((s.setRow 1 [1]).setPc (1 : Int).toNat 1) 1 0 1 := ⟨h.bad, by simp [St.setRow, St.setPc], by simp [St.setRow, St.setPc, h.pc0], by simp [St.setRow, St.setPc, h.pc1]⟩
  exact (.inr (.inr (.inr (.inl h2))) : GIn ((s.setRow 1 [1]).setPc (1 : Int).toNat 1) (-1) 0 0 ∨ GIn ((s.setRow 1 [1]).setPc (1 : Int).toNat 1) 0 1 0 ∨ GIn ((s.setRow 1 [1]).setPc (1 : Int).toNat 1) 0 2 0 ∨ GIn ((s.setRow 1 [1]).setPc (1 : Int).toNat 1) 1 0 1 ∨ GIn ((s.setRow 1 [1]).setPc (1 : Int).toNat 1) 1 0 2)
theorem gr_t0 (s : St) (h : GIn s (-1) 0 0) : GOk true s := by
  have hn0 := g_nx (guard := true) 0 (by decide) h.bad (a := (⟨9, 0, 0, 0, 0, 0, 0, 1, 0⟩ : S33)) (by show rd_T33 _ (s.pc 0) = _; rw [h.pc0]; rfl)
  rw [h.row] at hn0
  have ht0 : tchP (gCs true) s 0 = none := by unfold tchP; rw [show nxt (gCs true) s 0 = some (⟨9, 0, 0, 0, 0, 0, 0, 1, 0⟩ : S33) from hn0]; rfl
  have hn1 := g_nx (guard := true) 1 (by decide) h.bad (a := (⟨9, 0, 0, 0, 0, 0, 0, 1, 0⟩ : S33)) (by show rd_T33 _ (s.pc 1) = _; rw [h.pc1]; rfl)
  rw [h.row] at hn1
  have ht1 : tchP (gCs true) s 1 = none := by unfold tchP; rw [show nxt (gCs true) s 1 = some (⟨9, 0, 0, 0, 0, 0, 0, 1, 0⟩ : S33) from hn1]; rfl
  have hb : Both s = false := by unfold Both; rw [h.pc0, h.pc1]; rfl
  refine ⟨(.inl h : GIn s (-1) 0 0 ∨ GIn s 0 1 0 ∨ GIn s 0 2 0 ∨ GIn s 1 0 1 ∨ GIn s 1 0 2), ?_, by rw [hb]; rfl⟩
  rw [hb]
  refine (pairs2 _).trans ?_
  unfold mtP
  rw [show ((0 : Nat) : Int) = 0 from rfl, show ((1 : Nat) : Int) = 1 from rfl, ht0, ht1]
  rfl
theorem gs_t10 (s : St) (h : GIn s 0 1 0) : GSt true (stepP (gCs true) 0 s 0 0) := by
  have hn := g_nx (guard := true) 0 (by decide) h.bad (a := (⟨6, 0, 0, 0, 0, 0, 0, 2, 0⟩ : S33)) (by show rd_T33 _ (s.pc 0) = _; rw [h.pc0]; rfl)
  rw [h.row] at hn
  have hn : nxt (gCs true) s 0 = some (⟨6, 0, 0, 0, 0, 0, 0, 2, 0⟩ : S33) := hn
  obtain ⟨xs, hs⟩ := g_store (s := s) (t := 0) (a := (⟨6, 0, 0, 0, 0, 0, 0, 2, 0⟩ : S33)) rfl
  rw [g_done hn (by decide) hs]
  have h2 : GIn ((s.setRow 0 xs).setPc (0 : Int).toNat 2) 0 2 0 := ⟨h.bad, by simp [St.setRow, St.setPc, h.row], by simp [St.setRow, St.setPc, h.pc0], by simp [St.setRow, St.setPc, h.pc1]⟩
  exact (.inr (.inr (.inl h2)) : GIn ((s.setRow 0 xs).setPc (0 : Int).toNat 2) (-1) 0 0 ∨ GIn ((s.setRow 0 xs).setPc (0 : Int).toNat 2) 0 1 0 ∨ GIn ((s.setRow 0 xs).setPc (0 : Int).toNat 2) 0 2 0 ∨ GIn ((s.setRow 0 xs).setPc (0 : Int).toNat 2) 1 0 1 ∨ GIn ((s.setRow 0 xs).setPc (0 : Int).toNat 2) 1 0 2)
theorem gs_t11 (s : St) (h : GIn s 0 1 0) : GSt true (stepP (gCs true) 0 s 1 0) := by
  have hn := g_nx (guard := true) 1 (by decide) h.bad (a := (⟨9, 0, 0, 0, 0, 0, 0, 1, 0⟩ : S33)) (by show rd_T33 _ (s.pc 1) = _; rw [h.pc1]; rfl)
  rw [h.row] at hn
  have hn : nxt (gCs true) s 1 = none := hn
  rw [g_none hn]
  exact (.inr (.inl h) : GIn s (-1) 0 0 ∨ GIn s 0 1 0 ∨ GIn s 0 2 0 ∨ GIn s 1 0 1 ∨ GIn s 1 0 2)
theorem gr_t1 (s : St) (h : GIn s 0 1 0) : GOk true s := by
  have hn0 := g_nx (guard := true) 0 (by decide) h.bad (a := (⟨6, 0, 0, 0, 0, 0, 0, 2, 0⟩ : S33)) (by show rd_T33 _ (s.pc 0) = _; rw [h.pc0]; rfl)
  rw [h.row] at hn0
  have ht0 : tchP (gCs true) s 0 = some ⟨false, 0, 0, true⟩ := by unfold tchP; rw [show nxt (gCs true) s 0 = some (⟨6, 0, 0, 0, 0, 0, 0, 2, 0⟩ : S33) from hn0]; rfl
  have hn1 := g_nx (guard := true) 1 (by decide) h.bad (a := (⟨9, 0, 0, 0, 0, 0, 0, 1, 0⟩ : S33)) (by show rd_T33 _ (s.pc 1) = _; rw [h.pc1]; rfl)
  rw [h.row] at hn1
  have ht1 : tchP (gCs true) s 1 = none := by unfold tchP; rw [show nxt (gCs true) s 1 = none from hn1]
  have hb : Both s = false := by unfold Both; rw [h.pc0, h.pc1]; rfl
  refine ⟨(.inr (.inl h) : GIn s (-1) 0 0 ∨ GIn s 0 1 0 ∨ GIn s 0 2 0 ∨ GIn s 1 0 1 ∨ GIn s 1 0 2), ?_, by rw [hb]; rfl⟩
  rw [hb]
  refine (pairs2 _).trans ?_
  unfold mtP
  rw [show ((0 : Nat) : Int) = 0 from rfl, show ((1 : Nat) : Int) = 1 from rfl, ht0, ht1]
  rfl
theorem gs_t20 (s : St) (h : GIn s 0 2 0) : GSt true (stepP (gCs true) 0 s 0 0) := by
  have hn := g_nx (guard := true) 0 (by decide) h.bad (a := (⟨10, 0, 0, 0, 0, 0, 0, 0, 0⟩ : S33)) (by show rd_T33 _ (s.pc 0) = _; rw [h.pc0]; rfl)
  rw [h.row] at hn
  have hn : nxt (gCs true) s 0 = some (⟨10, 0, 0, 0, 0, 0, 0, 0, 0⟩ : S33) := hn
  rw [g_done hn (by decide) (g_free rfl rfl h.row rfl)]
  have h2 : GIn ((s.setRow 1 [-1]).setPc (0 : Int).toNat 0) (-1) 0 0 := ⟨h.bad, by simp [St.setRow, St.setPc], by simp [St.setRow, St.setPc, h.pc0], by simp [St.setRow, St.setPc, h.pc1]⟩
  exact (.inl h2 : GIn ((s.setRow 1 [-1]).setPc (0 : Int).toNat 0) (-1) 0 0 ∨ GIn ((s.setRow 1 [-1]).setPc (0 : Int).toNat 0) 0 1 0 ∨ GIn ((s.setRow 1 [-1]).setPc (0 : Int).toNat 0) 0 2 0 ∨ GIn ((s.setRow 1 [-1]).setPc (0 : Int).toNat 0) 1 0 1 ∨ GIn ((s.setRow 1 [-1]).setPc (0 : Int).toNat 0) 1 0 2)
theorem gs_t21 (s : St) (h : GIn s 0 2 0) : GSt true (stepP (gCs true) 0 s 1 0) := by
  have hn := g_nx (guard := true) 1 (by decide) h.bad (a := (⟨9, 0, 0, 0, 0, 0, 0, 1, 0⟩ : S33)) (by show rd_T33 _ (s.pc 1) = _; rw [h.pc1]; rfl)
  rw [h.row] at hn
  have hn : nxt (gCs true) s 1 = none := hn
  rw [g_none hn]
  exact (.inr (.inr (.inl h)) : GIn s (-1) 0 0 ∨ GIn s 0 1 0 ∨ GIn s 0 2 0 ∨ GIn s 1 0 1 ∨ GIn s 1 0 2)
theorem gr_t2 (s : St) (h : GIn s 0 2 0) : GOk true s := by
  have hn0 := g_nx (guard := true) 0 (by decide) h.bad (a := (⟨10, 0, 0, 0, 0, 0, 0, 0, 0⟩ : S33)) (by show rd_T33 _ (s.pc 0) = _; rw [h.pc0]; rfl)
  rw [h.row] at hn0
  have ht0 : tchP (gCs true) s 0 = none := by unfold tchP; rw [show nxt (gCs true) s 0 = some (⟨10, 0, 0, 0, 0, 0, 0, 0, 0⟩ : S33) from hn0]; rfl
  have hn1 := g_nx (guard := true) 1 (by decide) h.bad (a := (⟨9, 0, 0, 0, 0, 0, 0, 1, 0⟩ : S33)) (by show rd_T33 _ (s.pc 1) = _; rw [h.pc1]; rfl)
  rw [h.row] at hn1
  have ht1 : tchP (gCs true) s 1 = none := by unfold tchP; rw [show nxt (gCs true) s 1 = none from hn1]
  have hb : Both s = false := by unfold Both; rw [h.pc0, h.pc1]; rfl
  refine ⟨(.inr (.inr (.inl h)) : GIn s (-1) 0 0 ∨ GIn s 0 1 0 ∨ GIn s 0 2 0 ∨ GIn s 1 0 1 ∨ GIn s 1 0 2), ?_, by rw [hb]; rfl⟩
  rw [hb]
  refine (pairs2 _).trans ?_
  unfold mtP
  rw [show ((0 : Nat) : Int) = 0 from rfl, show ((1 : Nat) : Int) = 1 from rfl, ht0, ht1]
  rfl
theorem gs_t30 (s : St) (h : GIn s 1 0 1) : GSt true (stepP (gCs true) 0 s 0 0) := by
  have hn := g_nx (guard := true) 0 (by decide) h.bad (a := (⟨9, 0, 0, 0, 0, 0, 0, 1, 0⟩ : S33)) (by show rd_T33 _ (s.pc 0) = _; rw [h.pc0]; rfl)
  rw [h.row] at hn
  have hn : nxt (gCs true) s 0 = none := hn
  rw [g_none hn]
  exact (.inr (.inr (.inr (.inl h))) : GIn s (-1) 0 0 ∨ GIn s 0 1 0 ∨ GIn s 0 2 0 ∨ GIn s 1 0 1 ∨ GIn s 1 0 2)
theorem gs_t31 (s : St) (h : GIn s 1 0 1) : GSt true (stepP (gCs true) 0 s 1 0) := by
  have hn := g_nx (guard := true) 1 (by decide) h.bad (a := (⟨6, 0, 0, 0, 0, 0, 0, 2, 0⟩ : S33)) (by show rd_T33 _ (s.pc 1) = _; rw [h.pc1]; rfl)
  rw [h.row] at hn
  have hn : nxt (gCs true) s 1 = some (⟨6, 0, 0, 0, 0, 0, 0, 2, 0⟩ : S33) := hn
  obtain ⟨xs, hs⟩ := g_store (s := s) (t := 1) (a := (⟨6, 0, 0, 0, 0, 0, 0, 2, 0⟩ : S33)) rfl
  rw [g_done hn (by decide) hs]
  have h2 : GIn ((s.setRow 0 xs).setPc (1 : Int).toNat 2) 1 0 2 := ⟨h.bad, by simp [St.setRow, St.setPc, h.row], by simp [St.setRow, St.setPc, h.pc0], by simp [St.setRow, St.setPc, h.pc1]⟩
  exact (.inr (.inr (.inr (.inr (h2)))) : GIn ((s.setRow 0 xs).setPc (1 : Int).toNat 2) (-1) 0 0 ∨ GIn ((s.setRow 0 xs).setPc (1 : Int).toNat 2) 0 1 0 ∨ GIn ((s.setRow 0 xs).setPc (1 : Int).toNat 2) 0 2 0 ∨ GIn ((s.setRow 0 xs).setPc (1 : Int).toNat 2) 1 0 1 ∨ GIn ((s.setRow 0 xs).setPc (1 : Int).toNat 2) 1 0 2)
theorem gr_t3 (s : St) (h : GIn s 1 0 1) : GOk true s := by
  have hn0 := g_nx (guard := true) 0 (by decide) h.bad (a := (⟨9, 0, 0, 0, 0, 0, 0, 1, 0⟩ : S33)) (by show rd_T33 _ (s.pc 0) = _; rw [h.pc0]; rfl)
  rw [h.row] at hn0
  have ht0 : tchP (gCs true) s 0 = none := by unfold tchP; rw [show nxt (gCs true) s 0 = none from hn0]
  have hn1 := g_nx (guard := true) 1 (by decide) h.bad (a := (⟨6, 0, 0, 0, 0, 0, 0, 2, 0⟩ : S33)) (by show rd_T33 _ (s.pc 1) = _; rw [h.pc1]; rfl)
  rw [h.row] at hn1
  have ht1 : tchP (gCs true) s 1 = some ⟨false, 0, 0, true⟩ := by unfold tchP; rw [show nxt (gCs true) s 1 = some (⟨6, 0, 0, 0, 0, 0, 0, 2, 0⟩ : S33) from hn1]; rfl
  have hb : Both s = false := by unfold Both; rw [h.pc0, h.pc1]; rfl
  refine ⟨(.inr (.inr (.inr (.inl h))) : GIn s (-1) 0 0 ∨ GIn s 0 1 0 ∨ GIn s 0 2 0 ∨ GIn s 1 0 1 ∨ GIn s 1 0 2), ?_, by rw [hb]; rfl⟩
  rw [hb]
  refine (pairs2 _).trans ?_
  unfold mtP
  rw [show ((0 : Nat) : Int) = 0 from rfl, show ((1 : Nat) : Int) = 1 from rfl, ht0, ht1]
  rfl
theorem gs_t40 (s : St) (h : GIn s 1 0 2) : GSt true (stepP (gCs true) 0 s 0 0) := by
  have hn := g_nx (guard := true) 0 (by decide) h.bad (a := (⟨9, 0, 0, 0, 0, 0, 0, 1, 0⟩ : S33)) (by show rd_T33 _ (s.pc 0) = _; rw [h.pc0]; rfl)
  rw [h.row] at hn
  have hn : nxt (gCs true) s 0 = none := hn
  rw [g_none hn]
  exact (.inr (.inr (.inr (.inr (h)))) : GIn s (-1) 0 0 ∨ GIn s 0 1 0 ∨ GIn s 0 2 0 ∨ GIn s 1 0 1 ∨ GIn s 1 0 2)
theorem gs_t41 (s : St) (h : GIn s 1 0 2) : GSt true (stepP (gCs true) 0 s 1 0) := by
  have hn := g_nx (guard := true) 1 (by decide) h.bad (a := (⟨10, 0, 0, 0, 0, 0, 0, 0, 0⟩ : S33)) (by show rd_T33 _ (s.pc 1) = _; rw [h.pc1]; rfl)
  rw [h.row] at hn
  have hn : nxt (gCs true) s 1 = some (⟨10, 0, 0, 0, 0, 0, 0, 0, 0⟩ : S33) := hn
  rw [g_done hn (by decide) (g_free rfl rfl h.row rfl)]
  have h2 : GIn ((s.setRow 1 [-1]).setPc (1 : Int).toNat 0) (-1) 0 0 := ⟨h.bad, by simp [St.setRow, St.setPc], by simp [St.setRow, St.setPc, h.pc0], by simp [St.setRow, St.setPc, h.pc1]⟩
  exact (.inl h2 : GIn ((s.setRow 1 [-1]).setPc (1 : Int).toNat 0) (-1) 0 0 ∨ GIn ((s.setRow 1 [-1]).setPc (1 : Int).toNat 0) 0 1 0 ∨ GIn ((s.setRow 1 [-1]).setPc (1 : Int).toNat 0) 0 2 0 ∨ GIn ((s.setRow 1 [-1]).setPc (1 : Int).toNat 0) 1 0 1 ∨ GIn ((s.setRow 1 [-1]).setPc (1 : Int).toNat 0) 1 0 2)
theorem gr_t4 (s : St) (h : GIn s 1 0 2) : GOk true s := by
  have hn0 := g_nx (guard := true) 0 (by decide) h.bad (a := (⟨9, 0, 0, 0, 0, 0, 0, 1, 0⟩ : S33)) (by show rd_T33 _ (s.pc 0) = _; rw [h.pc0]; rfl)
  rw [h.row] at hn0
  have ht0 : tchP (gCs true) s 0 = none := by unfold tchP; rw [show nxt (gCs true) s 0 = none from hn0]
  have hn1 := g_nx (guard := true) 1 (by decide) h.bad (a := (⟨10, 0, 0, 0, 0, 0, 0, 0, 0⟩ : S33)) (by show rd_T33 _ (s.pc 1) = _; rw [h.pc1]; rfl)
  rw [h.row] at hn1
  have ht1 : tchP (gCs true) s 1 = none := by unfold tchP; rw [show nxt (gCs true) s 1 = some (⟨10, 0, 0, 0, 0, 0, 0, 0, 0⟩ : S33) from hn1]; rfl
  have hb : Both s = false := by unfold Both; rw [h.pc0, h.pc1]; rfl
  refine ⟨(.inr (.inr (.inr (.inr (h)))) : GIn s (-1) 0 0 ∨ GIn s 0 1 0 ∨ GIn s 0 2 0 ∨ GIn s 1 0 1 ∨ GIn s 1 0 2), ?_, by rw [hb]; rfl⟩
  rw [hb]
  refine (pairs2 _).trans ?_
  unfold mtP
  rw [show ((0 : Nat) : Int) = 0 from rfl, show ((1 : Nat) : Int) = 1 from rfl, ht0, ht1]
  rfl
theorem gs_f00 (s : St) (h : GIn s (-1) 0 0) : GSt false (stepP (gCs false) 0 s 0 0) := by
  have hn := g_nx (guard := false) 0 (by decide) h.bad (a := (⟨12, 0, 0, 0, 0, 0, 0, 1, 0⟩ : S33)) (by show rd_T33 _ (s.pc 0) = _; rw [h.pc0]; rfl)
  rw [h.row] at hn
  have hn : nxt (gCs false) s 0 = some (⟨12, 0, 0, 0, 0, 0, 0, 1, 0⟩ : S33) := hn
  rw [g_done hn (by decide) (g_skip rfl)]
  have h2 : GIn (s.setPc (0 : Int).toNat 1) (-1) 1 0 := ⟨h.bad, by simp [St.setRow, St.setPc, h.row], by simp [St.setRow, St.setPc, h.pc0], by simp [St.setRow, St.setPc, h.pc1]⟩
  exact (.inr (.inr (.inr (.inl h2))) : GIn (s.setPc (0 : Int).toNat 1) (-1) 0 0 ∨ GIn (s.setPc (0 : Int).toNat 1) (-1) 0 1 ∨ GIn (s.setPc (0 : Int).toNat 1) (-1) 0 2 ∨ GIn (s.setPc (0 : Int).toNat 1) (-1) 1 0 ∨ GIn (s.setPc (0 : Int).toNat 1) (-1) 1 1 ∨ GIn (s.setPc (0 : Int).toNat 1) (-1) 1 2 ∨ GIn (s.setPc (0 : Int).toNat 1) (-1) 2 0 ∨ GIn (s.setPc (0 : Int).toNat 1) (-1) 2 1 ∨ GIn (s.setPc (0 : Int).toNat 1) (-1) 2 2)
theorem gs_f01 (s : St) (h : GIn s (-1) 0 0) : GSt false (stepP (gCs false) 0 s 1 0) := by
  have hn := g_nx (guard := false) 1 (by decide) h.bad (a := (⟨12, 0, 0, 0, 0, 0, 0, 1, 0⟩ : S33)) (by show rd_T33 _ (s.pc 1) = _; rw [h.pc1]; rfl)
  rw [h.row] at hn
  have hn : nxt (gCs false) s 1 = some (⟨12, 0, 0, 0, 0, 0, 0, 1, 0⟩ : S33) := hn
  rw [g_done hn (by decide) (g_skip rfl)]
  have h2 : GIn (s.setPc (1 : Int).toNat 1) (-1) 0 1 := ⟨h.bad, by simp [St.setRow, St.setPc, h.row], by simp [St.setRow, St.setPc, h.pc0], by simp [St.setRow, St.setPc, h.pc1]⟩
  exact (.inr (.inl h2) : GIn (s.setPc (1 : Int).toNat 1) (-1) 0 0 ∨ GIn (s.setPc (1 : Int).toNat 1) (-1) 0 1 ∨ GIn (s.setPc (1 : Int).toNat 1) (-1) 0 2 ∨ GIn (s.setPc (1 : Int).toNat 1) (-1) 1 0 ∨ GIn (s.setPc (1 : Int).toNat 1) (-1) 1 1 ∨ GIn (s.setPc (1 : Int).toNat 1) (-1) 1 2 ∨ GIn (s.setPc (1 : Int).toNat 1) (-1) 2 0 ∨ GIn (s.setPc (1 : Int).toNat 1) (-1) 2 1 ∨ GIn (s.setPc (1 : Int).toNat 1) (-1) 2 2)
theorem gr_f0 (s : St) (h : GIn s (-1) 0 0) : GOk false s := by
  have hn0 := g_nx (guard := false) 0 (by decide) h.bad (a := (⟨12, 0, 0, 0, 0, 0, 0, 1, 0⟩ : S33)) (by show rd_T33 _ (s.pc 0) = _; rw [h.pc0]; rfl)
  rw [h.row] at hn0
  have ht0 : tchP (gCs false) s 0 = none := by unfold tchP; rw [show nxt (gCs false) s 0 = some (⟨12, 0, 0, 0, 0, 0, 0, 1, 0⟩ : S33) from hn0]; rfl
  have hn1 := g_nx (guard := false) 1 (by decide) h.bad (a := (⟨12, 0, 0, 0, 0, 0, 0, 1, 0⟩ : S33)) (by show rd_T33 _ (s.pc 1) = _; rw [h.pc1]; rfl)
  rw [h.row] at hn1
  have ht1 : tchP (gCs false) s 1 = none := by unfold tchP; rw [show nxt (gCs false) s 1 = some (⟨12, 0, 0, 0, 0, 0, 0, 1, 0⟩ : S33) from hn1]; rfl
  have hb : Both s = false := by unfold Both; rw [h.pc0, h.pc1]; rfl
  refine ⟨(.inl h : GIn s (-1) 0 0 ∨ GIn s (-1) 0 1 ∨ GIn s (-1) 0 2 ∨ GIn s (-1) 1 0 ∨ GIn s (-1) 1 1 ∨ GIn s (-1) 1 2 ∨ GIn s (-1) 2 0 ∨ GIn s (-1) 2 1 ∨ GIn s (-1) 2 2), ?_, by rw [hb]; rfl⟩
  rw [hb]
  refine (pairs2 _).trans ?_
  unfold mtP
  rw [show ((0 : Nat) : Int) = 0 from rfl, show ((1 : Nat) : Int) = 1 from rfl, ht0, ht1]
  rfl
theorem gs_f10 (s : St) (h : GIn s (-1) 0 1) : GSt false (stepP (gCs false) 0 s 0 0) := by
  have hn := g_nx (guard := false) 0 (by decide) h.bad (a := (⟨12, 0, 0, 0, 0, 0, 0, 1, 0⟩ : S33)) (by show rd_T33 _ (s.pc 0) = _; rw [h.pc0]; rfl)
  rw [h.row] at hn
  have hn : nxt (gCs false) s 0 = some (⟨12, 0, 0, 0, 0, 0, 0, 1, 0⟩ : S33) := hn
  rw [g_done hn (by decide) (g_skip rfl)]
  have h2 : GIn (s.setPc (0 : Int).toNat 1) (-1) 1 1 := ⟨h.bad, by simp [St.setRow, St.setPc, h.row], by simp [St.setRow, St.setPc, h.pc0], by simp [St.setRow, St.setPc, h.pc1]⟩
  exact (.inr (.inr (.inr (.inr (.inl h2)))) : GIn (s.setPc (0 : Int).toNat 1) (-1) 0 0 ∨ GIn (s.setPc (0 : Int).toNat 1) (-1) 0 1 ∨ GIn (s.setPc (0 : Int).toNat 1) (-1) 0 2 ∨ GIn (s.setPc (0 : Int).toNat 1) (-1) 1 0 ∨ GIn (s.setPc (0 : Int).toNat 1) (-1) 1 1 ∨ GIn (s.setPc (0 : Int).toNat 1) (-1) 1 2 ∨ GIn (s.setPc (0 : Int).toNat 1) (-1) 2 0 ∨ GIn (s.setPc (0 : Int).toNat 1) (-1) 2 1 ∨ GIn (s.setPc (0 : Int).toNat 1) (-1) 2 2)
theorem gs_f11 (s : St) (h : GIn s (-1) 0 1) : GSt false (stepP (gCs false) 0 s 1 0) := by
  have hn := g_nx (guard := false) 1 (by decide) h.bad (a := (⟨6, 0, 0, 0, 0, 0, 0, 2, 0⟩ : S33)) (by show rd_T33 _ (s.pc 1) = _; rw [h.pc1]; rfl)
  rw [h.row] at hn
  have hn : nxt (gCs false) s 1 = some (⟨6, 0, 0, 0, 0, 0, 0, 2, 0⟩ : S33) := hn
  obtain ⟨xs, hs⟩ := g_store (s := s) (t := 1) (a := (⟨6, 0, 0, 0, 0, 0, 0, 2, 0⟩ : S33)) rfl
  rw [g_done hn (by decide) hs]
  have h2 : GIn ((s.setRow 0 xs).setPc (1 : Int).toNat 2) (-1) 0 2 := ⟨h.bad, by simp [St.setRow, St.setPc, h.row], by simp [St.setRow, St.setPc, h.pc0], by simp [St.setRow, St.setPc, h.pc1]⟩
  exact (.inr (.inr (.inl h2)) : GIn ((s.setRow 0 xs).setPc (1 : Int).toNat 2) (-1) 0 0 ∨ GIn ((s.setRow 0 xs).setPc (1 : Int).toNat 2) (-1) 0 1 ∨ GIn ((s.setRow 0 xs).setPc (1 : Int).toNat 2) (-1) 0 2 ∨ GIn ((s.setRow 0 xs).setPc (1 : Int).toNat 2) (-1) 1 0 ∨ GIn ((s.setRow 0 xs).setPc (1 : Int).toNat 2) (-1) 1 1 ∨ GIn ((s.setRow 0 xs).setPc (1 : Int).toNat 2) (-1) 1 2 ∨ GIn ((s.setRow 0 xs).setPc (1 : Int).toNat 2) (-1) 2 0 ∨ GIn ((s.setRow 0 xs).setPc (1 : Int).toNat 2) (-1) 2 1 ∨ GIn ((s.setRow 0 xs).setPc (1 : Int).toNat 2) (-1) 2 2)
theorem gr_f1 (s : St) (h : GIn s (-1) 0 1) : GOk false s := by
  have hn0 := g_nx (guard := false) 0 (by decide) h.bad (a := (⟨12, 0, 0, 0, 0, 0, 0, 1, 0⟩ : S33)) (by show rd_T33 _ (s.pc 0) = _; rw [h.pc0]; rfl)
  rw [h.row] at hn0
  have ht0 : tchP (gCs false) s 0 = none := by unfold tchP; rw [show nxt (gCs false) s 0 = some (⟨12, 0, 0, 0, 0, 0, 0, 1, 0⟩ : S33) from hn0]; rfl
  have hn1 := g_nx (guard := false) 1 (by decide) h.bad (a := (⟨6, 0, 0, 0, 0, 0, 0, 2, 0⟩ : S33)) (by show rd_T33 _ (s.pc 1) = _; rw [h.pc1]; rfl)
  rw [h.row] at hn1
  have ht1 : tchP (gCs false) s 1 = some ⟨false, 0, 0, true⟩ := by unfold tchP; rw [show nxt (gCs false) s 1 = some (⟨6, 0, 0, 0, 0, 0, 0, 2, 0⟩ : S33) from hn1]; rfl
  have hb : Both s = false := by unfold Both; rw [h.pc0, h.pc1]; rfl
  refine ⟨(.inr (.inl h) : GIn s (-1) 0 0 ∨ GIn s (-1) 0 1 ∨ GIn s (-1) 0 2 ∨ GIn s (-1) 1 0 ∨ GIn s (-1) 1 1 ∨ GIn s (-1) 1 2 ∨ GIn s (-1) 2 0 ∨ GIn s (-1) 2 1 ∨ GIn s (-1) 2 2), ?_, by rw [hb]; rfl⟩
  rw [hb]
  refine (pairs2 _).trans ?_
  unfold mtP
  rw [show ((0 : Nat) : Int) = 0 from rfl, show ((1 : Nat) : Int) = 1 from rfl, ht0, ht1]
  rfl
theorem gs_f20 (s : St) (h : GIn s (-1) 0 2) : GSt false (stepP (gCs false) 0 s 0 0) := by
  have hn := g_nx (guard := false) 0 (by decide) h.bad (a := (⟨12, 0, 0, 0, 0, 0, 0, 1, 0⟩ : S33)) (by show rd_T33 _ (s.pc 0) = _; rw [h.pc0]; rfl)
  rw [h.row] at hn
  have hn : nxt (gCs false) s 0 = some (⟨12, 0, 0, 0, 0, 0, 0, 1, 0⟩ : S33) := hn
  rw [g_done hn (by decide) (g_skip rfl)]
  have h2 : GIn (s.setPc (0 : Int).toNat 1) (-1) 1 2 := ⟨h.bad, by simp [St.setRow, St.setPc, h.row], by simp [St.setRow, St.setPc, h.pc0], by simp [St.setRow, St.setPc, h.pc1]⟩
  exact (.inr (.inr (.inr (.inr (.inr (.inl h2))))) : GIn (s.setPc (0 : Int).toNat 1) (-1) 0 0 ∨ GIn (s.setPc (0 : Int).toNat 1) (-1) 0 1 ∨ GIn (s.setPc (0 : Int).toNat 1) (-1) 0 2 ∨ GIn (s.setPc (0 : Int).toNat 1) (-1) 1 0 ∨ GIn (s.setPc (0 : Int).toNat 1) (-1) 1 1 ∨ GIn (s.setPc (0 : Int).toNat 1) (-1) 1 2 ∨ GIn (s.setPc (0 : Int).toNat 1) (-1) 2 0 ∨ GIn (s.setPc (0 : Int).toNat 1) (-1) 2 1 ∨ GIn (s.setPc (0 : Int).toNat 1) (-1) 2 2)
theorem gs_f21 (s : St) (h : GIn s (-1) 0 2) : GSt false (stepP (gCs false) 0 s 1 0) := by
  have hn := g_nx (guard := false) 1 (by decide) h.bad (a := (⟨12, 0, 0, 0, 0, 0, 0, 0, 0⟩ : S33)) (by show rd_T33 _ (s.pc 1) = _; rw [h.pc1]; rfl)
  rw [h.row] at hn
  have hn : nxt (gCs false) s 1 = some (⟨12, 0, 0, 0, 0, 0, 0, 0, 0⟩ : S33) := hn
  rw [g_done hn (by decide) (g_skip rfl)]
  have h2 : GIn (s.setPc (1 : Int).toNat 0) (-1) 0 0 := ⟨h.bad, by simp [St.setRow, St.setPc, h.row], by simp [St.setRow, St.setPc, h.pc0], by simp [St.setRow, St.setPc, h.pc1]⟩
  exact (.inl h2 : GIn (s.setPc (1 : Int).toNat 0) (-1) 0 0 ∨ GIn (s.setPc (1 : Int).toNat 0) (-1) 0 1 ∨ GIn (s.setPc (1 : Int).toNat 0) (-1) 0 2 ∨ GIn (s.setPc (1 : Int).toNat 0) (-1) 1 0 ∨ GIn (s.setPc (1 : Int).toNat 0) (-1) 1 1 ∨ GIn (s.setPc (1 : Int).toNat 0) (-1) 1 2 ∨ GIn (s.setPc (1 : Int).toNat 0) (-1) 2 0 ∨ GIn (s.setPc (1 : Int).toNat 0) (-1) 2 1 ∨ GIn (s.setPc (1 : Int).toNat 0) (-1) 2 2)
theorem gr_f2 (s : St) (h : GIn s (-1) 0 2) : GOk false s := by
  have hn0 := g_nx (guard := false) 0 (by decide) h.bad (a := (⟨12, 0, 0, 0, 0, 0, 0, 1, 0⟩ : S33)) (by show rd_T33 _ (s.pc 0) = _; rw [h.pc0]; rfl)
  rw [h.row] at hn0
  have ht0 : tchP (gCs false) s 0 = none := by unfold tchP; rw [show nxt (gCs false) s 0 = some (⟨12, 0, 0, 0, 0, 0, 0, 1, 0⟩ : S33) from hn0]; rfl
  have hn1 := g_nx (guard := false) 1 (by decide) h.bad (a := (⟨12, 0, 0, 0, 0, 0, 0, 0, 0⟩ : S33)) (by show rd_T33 _ (s.pc 1) = _; rw [h.pc1]; rfl)
  rw [h.row] at hn1
  have ht1 : tchP (gCs false) s 1 = none := by unfold tchP; rw [show nxt (gCs false) s 1 = some (⟨12, 0, 0, 0, 0, 0, 0, 0, 0⟩ : S33) from hn1]; rfl
  have hb : Both s = false := by unfold Both; rw [h.pc0, h.pc1]; rfl
  refine ⟨(.inr (.inr (.inl h)) : GIn s (-1) 0 0 ∨ GIn s (-1) 0 1 ∨ GIn s (-1) 0 2 ∨ GIn s (-1) 1 0 ∨ GIn s (-1) 1 1 ∨ GIn s (-1) 1 2 ∨ GIn s (-1) 2 0 ∨ GIn s (-1) 2 1 ∨ GIn s (-1) 2 2), ?_, by rw [hb]; rfl⟩
  rw [hb]
  refine (pairs2 _).trans ?_
  unfold mtP
  rw [show ((0 : Nat) : Int) = 0 from rfl, show ((1 : Nat) : Int) = 1 from rfl, ht0, ht1]
  rfl
theorem gs_f30 (s : St) (h : GIn s (-1) 1 0) : GSt false (stepP (gCs false) 0 s 0 0) := by
  have hn := g_nx (guard := false) 0 (by decide) h.bad (a := (⟨6, 0, 0, 0, 0, 0, 0, 2, 0⟩ : S33)) (by show rd_T33 _ (s.pc 0) = _; rw [h.pc0]; rfl)
  rw [h.row] at hn
  have hn : nxt (gCs false) s 0 = some (⟨6, 0, 0, 0, 0, 0, 0, 2, 0⟩ : S33) := hn
  obtain ⟨xs, hs⟩ := g_store (s := s) (t := 0) (a := (⟨6, 0, 0, 0, 0, 0, 0, 2, 0⟩ : S33)) rfl
  rw [g_done hn (by decide) hs]
  have h2 : GIn ((s.setRow 0 xs).setPc (0 : Int).toNat 2) (-1) 2 0 := ⟨h.bad, by simp [St.setRow, St.setPc, h.row], by simp [St.setRow, St.setPc, h.pc0], by simp [St.setRow, St.setPc, h.pc1]⟩
  exact (.inr (.inr (.inr (.inr (.inr (.inr (.inl h2)))))) : GIn ((s.setRow 0 xs).setPc (0 : Int).toNat 2) (-1) 0 0 ∨ GIn ((s.setRow 0 xs).setPc (0 : Int).toNat 2) (-1) 0 1 ∨ GIn ((s.setRow 0 xs).setPc (0 : Int).toNat 2) (-1) 0 2 ∨ GIn ((s.setRow 0 xs).setPc (0 : Int).toNat 2) (-1) 1 0 ∨ GIn ((s.setRow 0 xs).setPc (0 : Int).toNat 2) (-1) 1 1 ∨ GIn ((s.setRow 0 xs).setPc (0 : Int).toNat 2) (-1) 1 2 ∨ GIn ((s.setRow 0 xs).setPc (0 : Int).toNat 2) (-1) 2 0 ∨ GIn ((s.setRow 0 xs).setPc (0 : Int).toNat 2) (-1) 2 1 ∨ GIn ((s.setRow 0 xs).setPc (0 : Int).toNat 2) (-1) 2 2)
theorem gs_f31 (s : St) (h : GIn s (-1) 1 0) : GSt false (stepP (gCs false) 0 s 1 0) := by
  have hn := g_nx (guard := false) 1 (by decide) h.bad (a := (⟨12, 0, 0, 0, 0, 0, 0, 1, 0⟩ : S33)) (by show rd_T33 _ (s.pc 1) = _; rw [h.pc1]; rfl)
  rw [h.row] at hn
  have hn : nxt (gCs false) s 1 = some (⟨12, 0, 0, 0, 0, 0, 0, 1, 0⟩ : S33) := hn
  rw [g_done hn (by decide) (g_skip rfl)]
  have h2 : GIn (s.setPc (1 : Int).toNat 1) (-1) 1 1 := ⟨h.bad, by simp [St.setRow, St.setPc, h.row], by simp [St.setRow, St.setPc, h.pc0], by simp [St.setRow, St.setPc, h.pc1]⟩
  exact (.inr (.inr (.inr (.inr (.inl h2)))) : GIn (s.setPc (1 : Int).toNat 1) (-1) 0 0 ∨ GIn (s.setPc (1 : Int).toNat 1) (-1) 0 1 ∨ GIn (s.setPc (1 : Int).toNat 1) (-1) 0 2 ∨ GIn (s.setPc (1 : Int).toNat 1) (-1) 1 0 ∨ GIn (s.setPc (1 : Int).toNat 1) (-1) 1 1 ∨ GIn (s.setPc (1 : Int).toNat 1) (-1) 1 2 ∨ GIn (s.setPc (1 : Int).toNat 1) (-1) 2 0 ∨ GIn (s.setPc (1 : Int).toNat 1) (-1) 2 1 ∨ GIn (s.setPc (1 : Int).toNat 1) (-1) 2 2)
theorem gr_f3 (s : St) (h : GIn s (-1) 1 0) : GOk false s := by
  have hn0 := g_nx (guard := false) 0 (by decide) h.bad (a := (⟨6, 0, 0, 0, 0, 0, 0, 2, 0⟩ : S33)) (by show rd_T33 _ (s.pc 0) = _; rw [h.pc0]; rfl)
  rw [h.row] at hn0
  have ht0 : tchP (gCs false) s 0 = some ⟨false, 0, 0, true⟩ := by unfold tchP; rw [show nxt (gCs false) s 0 = some (⟨6, 0, 0, 0, 0, 0, 0, 2, 0⟩ : S33) from hn0]; rfl
  have hn1 := g_nx (guard := false) 1 (by decide) h.bad (a := (⟨12, 0, 0, 0, 0, 0, 0, 1, 0⟩ : S33)) (by show rd_T33 _ (s.pc 1) = _; rw [h.pc1]; rfl)
  rw [h.row] at hn1
  have ht1 : tchP (gCs false) s 1 = none := by unfold tchP; rw [show nxt (gCs false) s 1 = some (⟨12, 0, 0, 0, 0, 0, 0, 1, 0⟩ : S33) from hn1]; rfl
  have hb : Both s = false := by unfold Both; rw [h.pc0, h.pc1]; rfl
  refine ⟨(.inr (.inr (.inr (.inl h))) : GIn s (-1) 0 0 ∨ GIn s (-1) 0 1 ∨ GIn s (-1) 0 2 ∨ GIn s (-1) 1 0 ∨ GIn s (-1) 1 1 ∨ GIn s (-1) 1 2 ∨ GIn s (-1) 2 0 ∨ GIn s (-1) 2 1 ∨ GIn s (-1) 2 2), ?_, by rw [hb]; rfl⟩
  rw [hb]
  refine (pairs2 _).trans ?_
  unfold mtP
  rw [show ((0 : Nat) : Int) = 0 from rfl, show ((1 : Nat) : Int) = 1 from rfl, ht0, ht1]
  rfl
theorem gs_f40 (s : St) (h : GIn s (-1) 1 1) : GSt false (stepP (gCs false) 0 s 0 0) := by
  have hn := g_nx (guard := false) 0 (by decide) h.bad (a := (⟨6, 0, 0, 0, 0, 0, 0, 2, 0⟩ : S33)) (by show rd_T33 _ (s.pc 0) = _; rw [h.pc0]; rfl)
  rw [h.row] at hn
  have hn : nxt (gCs false) s 0 = some (⟨6, 0, 0, 0, 0, 0, 0, 2, 0⟩ : S33) := hn
  obtain ⟨xs, hs⟩ := g_store (s := s) (t := 0) (a := (⟨6, 0, 0, 0, 0, 0, 0, 2, 0⟩ : S33)) rfl
  rw [g_done hn (by decide) hs]
  have h2 : GIn ((s.setRow 0 xs).setPc (0 : Int).toNat 2) (-1) 2 1 := ⟨h.bad, by simp [St.setRow, St.setPc, h.row], by simp [St.setRow, St.setPc, h.pc0], by simp [St.setRow, St.setPc, h.pc1]⟩
  exact (.inr (.inr (.inr (.inr (.inr (.inr (.inr (.inl h2))))))) : GIn ((s.setRow 0 xs).setPc (0 : Int).toNat 2) (-1) 0 0 ∨ GIn ((s.setRow 0 xs).setPc (0 : Int).toNat 2) (-1) 0 1 ∨ GIn ((s.setRow 0 xs).setPc (0 : Int).toNat 2) (-1) 0 2 ∨ GIn ((s.setRow 0 xs).setPc (0 : Int).toNat 2) (-1) 1 0 ∨ GIn ((s.setRow 0 xs).setPc (0 : Int).toNat 2) (-1) 1 1 ∨ GIn ((s.setRow 0 xs).setPc (0 : Int).toNat 2) (-1) 1 2 ∨ GIn ((s.setRow 0 xs).setPc (0 : Int).toNat 2) (-1) 2 0 ∨ GIn ((s.setRow 0 xs).setPc (0 : Int).toNat 2) (-1) 2 1 ∨ GIn ((s.setRow 0 xs).setPc (0 : Int).toNat 2) (-1) 2 2)
theorem gs_f41 (s : St) (h : GIn s (-1) 1 1) : GSt false (stepP (gCs false) 0 s 1 0) := by
  have hn := g_nx (guard := false) 1 (by decide) h.bad (a := (⟨6, 0, 0, 0, 0, 0, 0, 2, 0⟩ : S33)) (by show rd_T33 _ (s.pc 1) = _; rw [h.pc1]; rfl)
  rw [h.row] at hn
  have hn : nxt (gCs false) s 1 = some (⟨6, 0, 0, 0, 0, 0, 0, 2, 0⟩ : S33) := hn
  obtain ⟨xs, hs⟩ := g_store (s := s) (t := 1) (a := (⟨6, 0, 0, 0, 0, 0, 0, 2, 0⟩ : S33)) rfl
  rw [g_done hn (by decide) hs]
  have h2 : GIn ((s.setRow 0 xs).setPc (1 : Int).toNat 2) (-1) 1 2 := ⟨h.bad, by simp [St.setRow, St.setPc, h.row], by simp [St.setRow, St.setPc, h.pc0], by simp [St.setRow, St.setPc, h.pc1]⟩
  exact (.inr (.inr (.inr (.inr (.inr (.inl h2))))) : GIn ((s.setRow 0 xs).setPc (1 : Int).toNat 2) (-1) 0 0 ∨ GIn ((s.setRow 0 xs).setPc (1 : Int).toNat 2) (-1) 0 1 ∨ GIn ((s.setRow 0 xs).setPc (1 : Int).toNat 2) (-1) 0 2 ∨ GIn ((s.setRow 0 xs).setPc (1 : Int).toNat 2) (-1) 1 0 ∨ GIn ((s.setRow 0 xs).setPc (1 : Int).toNat 2) (-1) 1 1 ∨ GIn ((s.setRow 0 xs).setPc (1 : Int).toNat 2) (-1) 1 2 ∨ GIn ((s.setRow 0 xs).setPc (1 : Int).toNat 2) (-1) 2 0 ∨ GIn ((s.setRow 0 xs).setPc (1 : Int).toNat 2) (-1) 2 1 ∨ GIn ((s.setRow 0 xs).setPc (1 : Int).toNat 2) (-1) 2 2)
theorem gr_f4 (s : St) (h : GIn s (-1) 1 1) : GOk false s := by
  have hn0 := g_nx (guard := false) 0 (by decide) h.bad (a := (⟨6, 0, 0, 0, 0, 0, 0, 2, 0⟩ : S33)) (by show rd_T33 _ (s.pc 0) = _; rw [h.pc0]; rfl)
  rw [h.row] at hn0
  have ht0 : tchP (gCs false) s 0 = some ⟨false, 0, 0, true⟩ := by unfold tchP; rw [show nxt (gCs false) s 0 = some (⟨6, 0, 0, 0, 0, 0, 0, 2, 0⟩ : S33) from hn0]; rfl
  have hn1 := g_nx (guard := false) 1 (by decide) h.bad (a := (⟨6, 0, 0, 0, 0, 0, 0, 2, 0⟩ : S33)) (by show rd_T33 _ (s.pc 1) = _; rw [h.pc1]; rfl)
  rw [h.row] at hn1
  have ht1 : tchP (gCs false) s 1 = some ⟨false, 0, 0, true⟩ := by unfold tchP; rw [show nxt (gCs false) s 1 = some (⟨6, 0, 0, 0, 0, 0, 0, 2, 0⟩ : S33) from hn1]; rfl
  have hb : Both s = true := by unfold Both; rw [h.pc0, h.pc1]; rfl
  refine ⟨(.inr (.inr (.inr (.inr (.inl h)))) : GIn s (-1) 0 0 ∨ GIn s (-1) 0 1 ∨ GIn s (-1) 0 2 ∨ GIn s (-1) 1 0 ∨ GIn s (-1) 1 1 ∨ GIn s (-1) 1 2 ∨ GIn s (-1) 2 0 ∨ GIn s (-1) 2 1 ∨ GIn s (-1) 2 2), ?_, by rw [hb]; rfl⟩
  rw [hb]
  refine (pairs2 _).trans ?_
  unfold mtP
  rw [show ((0 : Nat) : Int) = 0 from rfl, show ((1 : Nat) : Int) = 1 from rfl, ht0, ht1]
  rfl
theorem gs_f50 (s : St) (h : GIn s (-1) 1 2) : GSt false (stepP (gCs false) 0 s 0 0) := by
  have hn := g_nx (guard := false) 0 (by decide) h.bad (a := (⟨6, 0, 0, 0, 0, 0, 0, 2, 0⟩ : S33)) (by show rd_T33 _ (s.pc 0) = _; rw [h.pc0]; rfl)
  rw [h.row] at hn
  have hn : nxt (gCs false) s 0 = some (⟨6, 0, 0, 0, 0, 0, 0, 2, 0⟩ : S33) := hn
  obtain ⟨xs, hs⟩ := g_store (s := s) (t := 0) (a := (⟨6, 0, 0, 0, 0, 0, 0, 2, 0⟩ : S33)) rfl
  rw [g_done hn (by decide) hs]
  have h2 : GIn ((s.setRow 0 xs).setPc (0 : Int).toNat 2) (-1) 2 2 := ⟨h.bad, by simp [St.setRow, St.setPc, h.row], by simp [St.setRow, St.setPc, h.pc0], by simp [St.setRow, St.setPc, h.pc1]⟩
  exact (.inr (.inr (.inr (.inr (.inr (.inr (.inr (.inr (h2)))))))) : GIn ((s.setRow 0 xs).setPc (0 : Int).toNat 2) (-1) 0 0 ∨ GIn ((s.setRow 0 xs).setPc (0 : Int).toNat 2) (-1) 0 1 ∨ GIn ((s.setRow 0 xs).setPc (0 : Int).toNat 2) (-1) 0 2 ∨ GIn ((s.setRow 0 xs).setPc (0 : Int).toNat 2) (-1) 1 0 ∨ GIn ((s.setRow 0 xs).setPc (0 : Int).toNat 2) (-1) 1 1 ∨ GIn ((s.setRow 0 xs).setPc (0 : Int).toNat 2) (-1) 1 2 ∨ GIn ((s.setRow 0 xs).setPc (0 : Int).toNat 2) (-1) 2 0 ∨ GIn ((s.setRow 0 xs).setPc (0 : Int).toNat 2) (-1) 2 1 ∨ GIn ((s.setRow 0 xs).setPc (0 : Int).toNat 2) (-1) 2 2)
theorem gs_f51 (s : St) (h : GIn s (-1) 1 2) : GSt false (stepP (gCs false) 0 s 1 0) := by
  have hn := g_nx (guard := false) 1 (by decide) h.bad (a := (⟨12, 0, 0, 0, 0, 0, 0, 0, 0⟩ : S33)) (by show rd_T33 _ (s.pc 1) = _; rw [h.pc1]; rfl)
  rw [h.row] at hn
  have hn : nxt (gCs false) s 1 = some (⟨12, 0, 0, 0, 0, 0, 0, 0, 0⟩ : S33) := hn
  rw [g_done hn (by decide) (g_skip rfl)]
  have h2 : GIn (s.setPc (1 : Int).toNat 0) (-1) 1 0 := ⟨h.bad, by simp [St.setRow, St.setPc, h.row], by simp [St.setRow, St.setPc, h.pc0], by simp [St.setRow, St.setPc, h.pc1]⟩
  exact (.inr (.inr (.inr (.inl h2))) : GIn (s.setPc (1 : Int).toNat 0) (-1) 0 0 ∨ GIn (s.setPc (1 : Int).toNat 0) (-1) 0 1 ∨ GIn (s.setPc (1 : Int).toNat 0) (-1) 0 2 ∨ GIn (s.setPc (1 : Int).toNat 0) (-1) 1 0 ∨ GIn (s.setPc (1 : Int).toNat 0) (-1) 1 1 ∨ GIn (s.setPc (1 : Int).toNat 0) (-1) 1 2 ∨ GIn (s.setPc (1 : Int).toNat 0) (-1) 2 0 ∨ GIn (s.setPc (1 : Int).toNat 0) (-1) 2 1 ∨ GIn (s.setPc (1 : Int).toNat 0) (-1) 2 2)
theorem gr_f5 (s : St) (h : GIn s (-1) 1 2) : GOk false s := by
  have hn0 := g_nx (guard := false) 0 (by decide) h.bad (a := (⟨6, 0, 0, 0, 0, 0, 0, 2, 0⟩ : S33)) (by show rd_T33 _ (s.pc 0) = _; rw [h.pc0]; rfl)
  rw [h.row] at hn0
  have ht0 : tchP (gCs false) s 0 = some ⟨false, 0, 0, true⟩ := by unfold tchP; rw [show nxt (gCs false) s 0 = some (⟨6, 0, 0, 0, 0, 0, 0, 2, 0⟩ : S33) from hn0]; rfl
  have hn1 := g_nx (guard := false) 1 (by decide) h.bad (a := (⟨12, 0, 0, 0, 0, 0, 0, 0, 0⟩ : S33)) (by show rd_T33 _ (s.pc 1) = _; rw [h.pc1]; rfl)
  rw [h.row] at hn1
  have ht1 : tchP (gCs false) s 1 = none := by unfold tchP; rw [show nxt (gCs false) s 1 = some (⟨12, 0, 0, 0, 0, 0, 0, 0, 0⟩ : S33) from hn1]; rfl
  have hb : Both s = false := by unfold Both; rw [h.pc0, h.pc1]; rfl
  refine ⟨(.inr (.inr (.inr (.inr (.inr (.inl h))))) : GIn s (-1) 0 0 ∨ GIn s (-1) 0 1 ∨ GIn s (-1) 0 2 ∨ GIn s (-1) 1 0 ∨ GIn s (-1) 1 1 ∨ GIn s (-1) 1 2 ∨ GIn s (-1) 2 0 ∨ GIn s (-1) 2 1 ∨ GIn s (-1) 2 2), ?_, by rw [hb]; rfl⟩
  rw [hb]
  refine (pairs2 _).trans ?_
  unfold mtP
  rw [show ((0 : Nat) : Int) = 0 from rfl, show ((1 : Nat) : Int) = 1 from rfl, ht0, ht1]
  rfl
theorem gs_f60 (s : St) (h : GIn s (-1) 2 0) : GSt false (stepP (gCs false) 0 s 0 0) := by
  have hn := g_nx (guard := false) 0 (by decide) h.bad (a := (⟨12, 0, 0, 0, 0, 0, 0, 0, 0⟩ : S33)) (by show rd_T33 _ (s.pc 0) = _; rw [h.pc0]; rfl)
  rw [h.row] at hn
  have hn : nxt (gCs false) s 0 = some (⟨12, 0, 0, 0, 0, 0, 0, 0, 0⟩ : S33) := hn
  rw [g_done hn (by decide) (g_skip rfl)]
  have h2 : GIn (s.setPc (0 : Int).toNat 0) (-1) 0 0 := ⟨h.bad, by simp [St.setRow, St.setPc, h.row], by simp [St.setRow, St.setPc, h.pc0], by simp [St.setRow, St.setPc, h.pc1]⟩
  exact (.inl h2 : GIn (s.setPc (0 : Int).toNat 0) (-1) 0 0 ∨ GIn (s.setPc (0 : Int).toNat 0) (-1) 0 1 ∨ GIn (s.setPc (0 : Int).toNat 0) (-1) 0 2 ∨ GIn (s.setPc (0 : Int).toNat 0) (-1) 1 0 ∨ GIn (s.setPc (0 : Int).toNat 0) (-1) 1 1 ∨ GIn (s.setPc (0 : Int).toNat 0) (-1) 1 2 ∨ GIn (s.setPc (0 : Int).toNat 0) (-1) 2 0 ∨ GIn (s.setPc (0 : Int).toNat 0) (-1) 2 1 ∨ GIn (s.setPc (0 : Int).toNat 0) (-1) 2 2)
theorem gs_f61 (s : St) (h : GIn s (-1) 2 0) : GSt false (stepP (gCs false) 0 s 1 0) := by
  have hn := g_nx (guard := false) 1 (by decide) h.bad (a := (⟨12, 0, 0, 0, 0, 0, 0, 1, 0⟩ : S33)) (by show rd_T33 _ (s.pc 1) = _; rw [h.pc1]; rfl)
  rw [h.row] at hn
  have hn : nxt (gCs false) s 1 = some (⟨12, 0, 0, 0, 0, 0, 0, 1, 0⟩ : S33) := hn
  rw [g_done hn (by decide) (g_skip rfl)]
  have h2 : GIn (s.setPc (1 : Int).toNat 1) (-1) 2 1 := ⟨h.bad, by simp [St.setRow, St.setPc, h.row], by simp [St.setRow, St.setPc, h.pc0], by simp [St.setRow, St.setPc, h.pc1]⟩
  exact (.inr (.inr (.inr (.inr (.inr (.inr (.inr (.inl h2))))))) : GIn (s.setPc (1 : Int).toNat 1) (-1) 0 0 ∨ GIn (s.setPc (1 : Int).toNat 1) (-1) 0 1 ∨ GIn (s.setPc (1 : Int).toNat 1) (-1) 0 2 ∨ GIn (s.setPc (1 : Int).toNat 1) (-1) 1 0 ∨ GIn (s.setPc (1 : Int).toNat 1) (-1) 1 1 ∨ GIn (s.setPc (1 : Int).toNat 1) (-1) 1 2 ∨ GIn (s.setPc (1 : Int).toNat 1) (-1) 2 0 ∨ GIn (s.setPc (1 : Int).toNat 1) (-1) 2 1 ∨ GIn (s.setPc (1 : Int).toNat 1) (-1) 2 2)
theorem gr_f6 (s : St) (h : GIn s (-1) 2 0) : GOk false s := by
  have hn0 := g_nx (guard := false) 0 (by decide) h.bad (a := (⟨12, 0, 0, 0, 0, 0, 0, 0, 0⟩ : S33)) (by show rd_T33 _ (s.pc 0) = _; rw [h.pc0]; rfl)
  rw [h.row] at hn0
  have ht0 : tchP (gCs false) s 0 = none := by unfold tchP; rw [show nxt (gCs false) s 0 = some (⟨12, 0, 0, 0, 0, 0, 0, 0, 0⟩ : S33) from hn0]; rfl
  have hn1 := g_nx (guard := false) 1 (by decide) h.bad (a := (⟨12, 0, 0, 0, 0, 0, 0, 1, 0⟩ : S33)) (by show rd_T33 _ (s.pc 1) = _; rw [h.pc1]; rfl)
  rw [h.row] at hn1
  have ht1 : tchP (gCs false) s 1 = none := by unfold tchP; rw [show nxt (gCs false) s 1 = some (⟨12, 0, 0, 0, 0, 0, 0, 1, 0⟩ : S33) from hn1]; rfl
  have hb : Both s = false := by unfold Both; rw [h.pc0, h.pc1]; rfl
  refine ⟨(.inr (.inr (.inr (.inr (.inr (.inr (.inl h)))))) : GIn s (-1) 0 0 ∨ GIn s (-1) 0 1 ∨ GIn s (-1) 0 2 ∨ GIn s (-1) 1 0 ∨ GIn s (-1) 1 1 ∨ GIn s (-1) 1 2 ∨ GIn s (-1) 2 0 ∨ GIn s (-1) 2 1 ∨ GIn s (-1) 2 2), ?_, by rw [hb]; rfl⟩
  rw [hb]
  refine (pairs2 _).trans ?_
  unfold mtP
  rw [show ((0 : Nat) : Int) = 0 from rfl, show ((1 : Nat) : Int) = 1 from rfl, ht0, ht1]
  rfl
theorem gs_f70 (s : St) (h : GIn s (-1) 2 1) : GSt false (stepP (gCs false) 0 s 0 0) := by
  have hn := g_nx (guard := false) 0 (by decide) h.bad (a := (⟨12, 0, 0, 0, 0, 0, 0, 0, 0⟩ : S33)) (by show rd_T33 _ (s.pc 0) = _; rw [h.pc0]; rfl)
  rw [h.row] at hn
  have hn : nxt (gCs false) s 0 = some (⟨12, 0, 0, 0, 0, 0, 0, 0, 0⟩ : S33) := hn
  rw [g_done hn (by decide) (g_skip rfl)]
  have h2 : GIn (s.setPc (0 : Int).toNat 0) (-1) 0 1 := ⟨h.bad, by simp [St.setRow, St.setPc, h.row], by simp [St.setRow, St.setPc, h.pc0], by simp [St.setRow, St.setPc, h.pc1]⟩
  exact (.inr (.inl h2) : GIn (s.setPc (0 : Int).toNat 0) (-1) 0 0 ∨ GIn (s.setPc (0 : Int).toNat 0) (-1) 0 1 ∨ GIn (s.setPc (0 : Int).toNat 0) (-1) 0 2 ∨ GIn (s.setPc (0 : Int).toNat 0) (-1) 1 0 ∨ GIn (s.setPc (0 : Int).toNat 0) (-1) 1 1 ∨ GIn (s.setPc (0 : Int).toNat 0) (-1) 1 2 ∨ GIn (s.setPc (0 : Int).toNat 0) (-1) 2 0 ∨ GIn (s.setPc (0 : Int).toNat 0) (-1) 2 1 ∨ GIn (s.setPc (0 : Int).toNat 0) (-1) 2 2)
theorem gs_f71 (s : St) (h : GIn s (-1) 2 1) : GSt false (stepP (gCs false) 0 s 1 0) := by
  have hn := g_nx (guard := false) 1 (by decide) h.bad (a := (⟨6, 0, 0, 0, 0, 0, 0, 2, 0⟩ : S33)) (by show rd_T33 _ (s.pc 1) = _; rw [h.pc1]; rfl)
  rw [h.row] at hn
  have hn : nxt (gCs false) s 1 = some (⟨6, 0, 0, 0, 0, 0, 0, 2, 0⟩ : S33) := hn
  obtain ⟨xs, hs⟩ := g_store (s := s) (t := 1) (a := (⟨6, 0, 0, 0, 0, 0, 0, 2, 0⟩ : S33)) rfl
  rw [g_done hn (by decide) hs]
  have h2 : GIn ((s.setRow 0 xs).setPc (1 : Int).toNat 2) (-1) 2 2 := ⟨h.bad, by simp [St.setRow, St.setPc, h.row], by simp [St.setRow, St.setPc, h.pc0], by simp [St.setRow, St.setPc, h.pc1]⟩
  exact (.inr (.inr (.inr (.inr (.inr (.inr (.inr (.inr (h2)))))))) : GIn ((s.setRow 0 xs).setPc (1 : Int).toNat 2) (-1) 0 0 ∨ GIn ((s.setRow 0 xs).setPc (1 : Int).toNat 2) (-1) 0 1 ∨ GIn ((s.setRow 0 xs).setPc (1 : Int).toNat 2) (-1) 0 2 ∨ GIn ((s.setRow 0 xs).setPc (1 : Int).toNat 2) (-1) 1 0 ∨ GIn ((s.setRow 0 xs).setPc (1 : Int).toNat 2) (-1) 1 1 ∨ GIn ((s.setRow 0 xs).setPc (1 : Int).toNat 2) (-1) 1 2 ∨ GIn ((s.setRow 0 xs).setPc (1 : Int).toNat 2) (-1) 2 0 ∨ GIn ((s.setRow 0 xs).setPc (1 : Int).toNat 2) (-1) 2 1 ∨ GIn ((s.setRow 0 xs).setPc (1 : Int).toNat 2) (-1) 2 2)
theorem gr_f7 (s : St) (h : GIn s (-1) 2 1) : GOk false s := by
  have hn0 := g_nx (guard := false) 0 (by decide) h.bad (a := (⟨12, 0, 0, 0, 0, 0, 0, 0, 0⟩ : S33)) (by show rd_T33 _ (s.pc 0) = _; rw [h.pc0]; rfl)
  rw [h.row] at hn0
  have ht0 : tchP (gCs false) s 0 = none := by unfold tchP; rw [show nxt (gCs false) s 0 = some (⟨12, 0, 0, 0, 0, 0, 0, 0, 0⟩ : S33) from hn0]; rfl
  have hn1 := g_nx (guard := false) 1 (by decide) h.bad (a := (⟨6, 0, 0, 0, 0, 0, 0, 2, 0⟩ : S33)) (by show rd_T33 _ (s.pc 1) = _; rw [h.pc1]; rfl)
  rw [h.row] at hn1
  have ht1 : tchP (gCs false) s 1 = some ⟨false, 0, 0, true⟩ := by unfold tchP; rw [show nxt (gCs false) s 1 = some (⟨6, 0, 0, 0, 0, 0, 0, 2, 0⟩ : S33) from hn1]; rfl
  have hb : Both s = false := by unfold Both; rw [h.pc0, h.pc1]; rfl
  refine ⟨(.inr (.inr (.inr (.inr (.inr (.inr (.inr (.inl h))))))) : GIn s (-1) 0 0 ∨ GIn s (-1) 0 1 ∨ GIn s (-1) 0 2 ∨ GIn s (-1) 1 0 ∨ GIn s (-1) 1 1 ∨ GIn s (-1) 1 2 ∨ GIn s (-1) 2 0 ∨ GIn s (-1) 2 1 ∨ GIn s (-1) 2 2), ?_, by rw [hb]; rfl⟩
  rw [hb]
  refine (pairs2 _).trans ?_
  unfold mtP
  rw [show ((0 : Nat) : Int) = 0 from rfl, show ((1 : Nat) : Int) = 1 from rfl, ht0, ht1]
  rfl
theorem gs_f80 (s : St) (h : GIn s (-1) 2 2) : GSt false (stepP (gCs false) 0 s 0 0) := by
  have hn := g_nx (guard := false) 0 (by decide) h.bad (a := (⟨12, 0, 0, 0, 0, 0, 0, 0, 0⟩ : S33)) (by show rd_T33 _ (s.pc 0) = _; rw [h.pc0]; rfl)
  rw [h.row] at hn
  have hn : nxt (gCs false) s 0 = some (⟨12, 0, 0, 0, 0, 0, 0, 0, 0⟩ : S33) := hn
  rw [g_done hn (by decide) (g_skip rfl)]
  have h2 : GIn (s.setPc (0 : Int).toNat 0) (-1) 0 2 := ⟨h.bad, by simp [St.setRow, St.setPc, h.row], by simp [St.setRow, St.setPc, h.pc0], by simp [St.setRow, St.setPc, h.pc1]⟩
  exact (.inr (.inr (.inl h2)) : GIn (s.setPc (0 : Int).toNat 0) (-1) 0 0 ∨ GIn (s.setPc (0 : Int).toNat 0) (-1) 0 1 ∨ GIn (s.setPc (0 : Int).toNat 0) (-1) 0 2 ∨ GIn (s.setPc (0 : Int).toNat 0) (-1) 1 0 ∨ GIn (s.setPc (0 : Int).toNat 0) (-1) 1 1 ∨ GIn (s.setPc (0 : Int).toNat 0) (-1) 1 2 ∨ GIn (s.setPc (0 : Int).toNat 0) (-1) 2 0 ∨ GIn (s.setPc (0 : Int).toNat 0) (-1) 2 1 ∨ GIn (s.setPc (0 : Int).toNat 0) (-1) 2 2)
theorem gs_f81 (s : St) (h : GIn s (-1) 2 2) : GSt false (stepP (gCs false) 0 s 1 0) := by
  have hn := g_nx (guard := false) 1 (by decide) h.bad (a := (⟨12, 0, 0, 0, 0, 0, 0, 0, 0⟩ : S33)) (by show rd_T33 _ (s.pc 1) = _; rw [h.pc1]; rfl)
  rw [h.row] at hn
  have hn : nxt (gCs false) s 1 = some (⟨12, 0, 0, 0, 0, 0, 0, 0, 0⟩ : S33) := hn
  rw [g_done hn (by decide) (g_skip rfl)]
  have h2 : GIn (s.setPc (1 : Int).toNat 0) (-1) 2 0 := ⟨h.bad, by simp [St.setRow, St.setPc, h.row], by simp [St.setRow, St.setPc, h.pc0], by simp [St.setRow, St.setPc, h.pc1]⟩
  exact (.inr (.inr (.inr (.inr (.inr (.inr (.inl h2)))))) : GIn (s.setPc (1 : Int).toNat 0) (-1) 0 0 ∨ GIn (s.setPc (1 : Int).toNat 0) (-1) 0 1 ∨ GIn (s.setPc (1 : Int).toNat 0) (-1) 0 2 ∨ GIn (s.setPc (1 : Int).toNat 0) (-1) 1 0 ∨ GIn (s.setPc (1 : Int).toNat 0) (-1) 1 1 ∨ GIn (s.setPc (1 : Int).toNat 0) (-1) 1 2 ∨ GIn (s.setPc (1 : Int).toNat 0) (-1) 2 0 ∨ GIn (s.setPc (1 : Int).toNat 0) (-1) 2 1 ∨ GIn (s.setPc (1 : Int).toNat 0) (-1) 2 2)
theorem gr_f8 (s : St) (h : GIn s (-1) 2 2) : GOk false s := by
  have hn0 := g_nx (guard := false) 0 (by decide) h.bad (a := (⟨12, 0, 0, 0, 0, 0, 0, 0, 0⟩ : S33)) (by show rd_T33 _ (s.pc 0) = _; rw [h.pc0]; rfl)
  rw [h.row] at hn0
  have ht0 : tchP (gCs false) s 0 = none := by unfold tchP; rw [show nxt (gCs false) s 0 = some (⟨12, 0, 0, 0, 0, 0, 0, 0, 0⟩ : S33) from hn0]; rfl
  have hn1 := g_nx (guard := false) 1 (by decide) h.bad (a := (⟨12, 0, 0, 0, 0, 0, 0, 0, 0⟩ : S33)) (by show rd_T33 _ (s.pc 1) = _; rw [h.pc1]; rfl)
  rw [h.row] at hn1
  have ht1 : tchP (gCs false) s 1 = none := by unfold tchP; rw [show nxt (gCs false) s 1 = some (⟨12, 0, 0, 0, 0, 0, 0, 0, 0⟩ : S33) from hn1]; rfl
  have hb : Both s = false := by unfold Both; rw [h.pc0, h.pc1]; rfl
  refine ⟨(.inr (.inr (.inr (.inr (.inr (.inr (.inr (.inr (h)))))))) : GIn s (-1) 0 0 ∨ GIn s (-1) 0 1 ∨ GIn s (-1) 0 2 ∨ GIn s (-1) 1 0 ∨ GIn s (-1) 1 1 ∨ GIn s (-1) 1 2 ∨ GIn s (-1) 2 0 ∨ GIn s (-1) 2 1 ∨ GIn s (-1) 2 2), ?_, by rw [hb]; rfl⟩
  rw [hb]
  refine (pairs2 _).trans ?_
  unfold mtP
  rw [show ((0 : Nat) : Int) = 0 from rfl, show ((1 : Nat) : Int) = 1 from rfl, ht0, ht1]
  rfl
theorem g_ok (guard : Bool) (s : St) (h : GSt guard s) : GOk guard s := by
  cases guard with
  | false =>
    have h : GIn s (-1) 0 0 ∨ GIn s (-1) 0 1 ∨ GIn s (-1) 0 2 ∨ GIn s (-1) 1 0 ∨ GIn s (-1) 1 1 ∨ GIn s (-1) 1 2 ∨ GIn s (-1) 2 0 ∨ GIn s (-1) 2 1 ∨ GIn s (-1) 2 2 := h
    rcases h with h | h | h | h | h | h | h | h | h
    · exact gr_f0 s h
    · exact gr_f1 s h
    · exact gr_f2 s h
    · exact gr_f3 s h
    · exact gr_f4 s h
    · exact gr_f5 s h
    · exact gr_f6 s h
    · exact gr_f7 s h
    · exact gr_f8 s h
  | true =>
    have h : GIn s (-1) 0 0 ∨ GIn s 0 1 0 ∨ GIn s 0 2 0 ∨ GIn s 1 0 1 ∨ GIn s 1 0 2 := h
    rcases h with h | h | h | h | h
    · exact gr_t0 s h
    · exact gr_t1 s h
    · exact gr_t2 s h
    · exact gr_t3 s h
    · exact gr_t4 s h
theorem g_step (guard : Bool) (s : St) (h : GSt guard s) (t : Int) (ht : t = 0 ∨ t = 1) : GSt guard (stepP (gCs guard) 0 s t 0) := by
  cases guard with
  | false =>
    have h : GIn s (-1) 0 0 ∨ GIn s (-1) 0 1 ∨ GIn s (-1) 0 2 ∨ GIn s (-1) 1 0 ∨ GIn s (-1) 1 1 ∨ GIn s (-1) 1 2 ∨ GIn s (-1) 2 0 ∨ GIn s (-1) 2 1 ∨ GIn s (-1) 2 2 := h
    rcases h with h | h | h | h | h | h | h | h | h
    · rcases ht with rfl | rfl
      · exact gs_f00 s h
      · exact gs_f01 s h
    · rcases ht with rfl | rfl
      · exact gs_f10 s h
      · exact gs_f11 s h
    · rcases ht with rfl | rfl
      · exact gs_f20 s h
      · exact gs_f21 s h
    · rcases ht with rfl | rfl
      · exact gs_f30 s h
      · exact gs_f31 s h
    · rcases ht with rfl | rfl
      · exact gs_f40 s h
      · exact gs_f41 s h
    · rcases ht with rfl | rfl
      · exact gs_f50 s h
      · exact gs_f51 s h
    · rcases ht with rfl | rfl
      · exact gs_f60 s h
      · exact gs_f61 s h
    · rcases ht with rfl | rfl
      · exact gs_f70 s h
      · exact gs_f71 s h
    · rcases ht with rfl | rfl
      · exact gs_f80 s h
      · exact gs_f81 s h
  | true =>
    have h : GIn s (-1) 0 0 ∨ GIn s 0 1 0 ∨ GIn s 0 2 0 ∨ GIn s 1 0 1 ∨ GIn s 1 0 2 := h
    rcases h with h | h | h | h | h
    · rcases ht with rfl | rfl
      · exact gs_t00 s h
      · exact gs_t01 s h
    · rcases ht with rfl | rfl
      · exact gs_t10 s h
      · exact gs_t11 s h
    · rcases ht with rfl | rfl
      · exact gs_t20 s h
      · exact gs_t21 s h
    · rcases ht with rfl | rfl
      · exact gs_t30 s h
      · exact gs_t31 s h
    · rcases ht with rfl | rfl
      · exact gs_t40 s h
      · exact gs_t41 s h
theorem and_one (x : Int) : bits BinOp.and IntKind.i64 x 1 = 0 ∨ bits BinOp.and IntKind.i64 x 1 = 1 := by
  have h1 : (BitVec.ofInt 64 1).toNat = 2 ^ 1 - 1 := by decide
  have key : (BitVec.ofInt 64 x &&& BitVec.ofInt 64 1).toNat = (x % ((2 ^ 64 : Nat) : Int)).toNat % 2 ^ 1 := by
    rw [BitVec.toNat_and, BitVec.toNat_ofInt, h1, Nat.and_two_pow_sub_one_eq_mod]
  have e : bits BinOp.and IntKind.i64 x 1 = x % 2 := by
    show IntKind.i64.wrap ((BitVec.ofInt 64 x &&& BitVec.ofInt 64 1).toNat : Nat) = x % 2
    rw [key, IntKind.wrap_i64]
    omega
  rw [e]
  omega
theorem own_empty {w : World} {g base : Nat} (h : w.heap[g]? = some (.cells #[] 33 (0, 0))) (hb : base ≤ g) : w.ownsRow base 33 9 (.slice (some ⟨g, 0, none⟩) 0 0) 0 [] :=
  ⟨rfl, .inr ⟨g, 0, #[], rfl, hb, h, Nat.le_refl _, Nat.zero_le _, rfl, rfl⟩⟩
section
variable {P : Program} {ops : Array Oper} {rest : List Oper} {o : Oper} {a : Act} {Q : Exit → Act → World → Prop}
theorem lit_event3 {W : World} (n0 : Nat) (hgd : o.guard = none) {N : Tmp} (_hd : o.dst = some N) {cs : Array Value} {t : TypeId}
    (hrun : (execOp a.eval o).run P W = .ok (.value (.slice (some ⟨W.heap.size, 0, none⟩) n0 n0)) (W.alloc (.cells cs t (0, 0))))
    (h : ∀ n, n = n0 → ∀ g, g = W.heap.size → ∀ w1, w1.heap[g]? = some (.cells cs t (0, 0)) → Below W.heap.size W w1 → wpList P ops Q rest (a.put o.dst (.slice (some ⟨g, 0, none⟩) n n)) w1) : wpList P ops Q (o :: rest) a W :=
  Kd.event_run hgd hrun (h _ rfl _ rfl _ (blk_new W _) (below_alloc (Below.refl _ _) _))
end
theorem g_at0 {guard : Bool} {s : St} : atOf (gCs guard) s 0 = s.pc 0 := rfl
theorem g_at1 {guard : Bool} {s : St} : atOf (gCs guard) s 1 = s.pc 1 := rfl
set_option maxHeartbeats 16000000 in
set_option maxRecDepth 100000 in
theorem guarded_true (w : World) (A0 : Option Addr) (c0 : Nat) (l : List Int) (hC : Kd.C (Kd.int .i64) w A0 l.length l) (hl : l.length ≤ 100) : Calls Try.prog 17 #[.slice A0 l.length c0, .bool true] w fun e w' => e = .returned (.bool true) ∧ Below w.heap.size w w' := by
  have HC := Aside0.mk hC
  have hlz : ¬ (100 : Int) < (l.length : Int) := by omega
  clear hC
  go_enter Try.func17, Try.ntmps17
  go_wp2_with (first | ((with_reducible refine gate_dst (N := 18) rfl ?_); refine lit_event3 4 ?hg (N := 18) ?hd (cs := #[.int .i64 9, .int .i64 0, .int .i64 0, .int .i64 0, .int .i64 0, .int .i64 0, .int .i64 0, .int .i64 1, .int .i64 0, .int .i64 6, .int .i64 0, .int .i64 0, .int .i64 0, .int .i64 0, .int .i64 0, .int .i64 0, .int .i64 2, .int .i64 0, .int .i64 10, .int .i64 0, .int .i64 0, .int .i64 0, .int .i64 0, .int .i64 0, .int .i64 0, .int .i64 0, .int .i64 0, .int .i64 14, .int .i64 0, .int .i64 0, .int .i64 0, .int .i64 0, .int .i64 0, .int .i64 0, .int .i64 3, .int .i64 0]) (t := 33) ?hr ?_; (case hd => rfl); (case hg => rfl); (case hr => first | (go_simp; done) | (go_simp; rfl)); intro n hnn ga hgg w1 hlit hb; have HLw1 := Aside0.mk hlit; have HKw1 := Aside0.mk hb; have HGw1 := Aside0.mk hgg; have hn1 : (0 : Int) < (n : Int) := (by omega); have hn2 : (2 : Int) < (n : Int) := (by omega); have HN := Aside0.mk hnn; clear hnn; have hz0 : w1.cell? ⟨ga, 0, none⟩ = some (.int .i64 9) := (blk_cell hlit 0).trans rfl; have hq0 : w1.frozen? ⟨ga, 0, none⟩ = false := blk_frozen hlit 0; have hz18 : w1.cell? ⟨ga, 18, none⟩ = some (.int .i64 10) := (blk_cell hlit 18).trans rfl; have hq18 : w1.frozen? ⟨ga, 18, none⟩ = false := blk_frozen hlit 18; clear hlit hb hgg) | ((with_reducible refine gate_dst (N := 27) rfl ?_); refine lit_ev2 (n := 1) ?hg (N := 27) ?hd (cs := #[.int .i64 0]) (t := 3) ?hr ?_; (case hd => rfl); (case hg => rfl); (case hr => first | (go_simp; done) | (go_simp; rfl)); intro gG hgg w2 hlit hb; have HLw2 := Aside0.mk hlit; have HKw2 := Aside0.mk hb; have HGw2 := Aside0.mk hgg; have HL3 := Aside0.mk (HLw1.out); have HK3 := Aside0.mk (HKw1.out); have HA2 := Aside0.mk (below_read hb HL3.out); have HB2 := Aside0.mk (below_on HK3.out hb); have HC2 := Aside0.mk hlit; clear hlit hb hgg) | ((with_reducible refine gate_dst (N := 32) rfl ?_); have HA4 := Aside0.mk (below_read (below_alloc (Below.refl _ w2) (.cells #[] 33)) HA2.out); have HE4 := Aside0.mk (blk_new w2 (.cells #[] 33)); refine Kd.R_append_rows k33 (Rr := k33.K (w2.alloc (.cells #[] 33))) (w0 := (w2.alloc (.cells #[] 33))) 0 ?hg (.tmp 30) (.tmp 31) 47 33 _ 72 ?ho Try.underlying47 info33 ?hz ?hs0 ?hb (.slice (some ⟨w2.heap.size, 0, none⟩) 0 0) [] (gActs true) (some ⟨ga, 0, none⟩) n n (fun _ => True) (fun _ => False) ?hs ?hx ?HO ?HR ?HKM ?hokp ?hfresh ?HB ?hbase ?hl ?_; (case hg => rfl); (case ho => rfl); (case hz => rfl); (case hs0 => decide); (case hb => decide); (case hs => rfl); (case hx => rfl); (case HO => exact ⟨fun _ _ => trivial, [], own_empty HE4.out (Nat.zero_le _), Reps.none _ _⟩); (case HR => rw [HN.out]; exact C33_lit _ ga (gActs true) HA4.out (by decide)); (case HKM => intro x cs hk; rw [k33_open hk]; exact k33_mkM _ _ _ x); (case hokp => intro k hk; exact hk.elim); (case hfresh => exact fun _ _ => trivial); (case HB => exact ⟨rfl, rfl, rfl, Nat.le_refl _, fun k hk => absurd hk (Nat.not_lt_zero _)⟩); (case hbase => exact Nat.zero_le _); (case hl => rw [HN.out]; decide); intro v5 w5 ho5 _ hg5 _; obtain ⟨Ad, cd, e5, hcd, hCd⟩ := Kd.R_reads (show k33.R 33 w5 0 (fun _ => True) v5 (gActs true) from ho5); subst e5; have HD5 := Aside0.mk hCd; have HCD := Aside0.mk hcd; have HK5 := Aside0.mk (put_below2 (below_alloc (Below.refl _ w2) (.cells #[] 33)) rfl hg5); have HA5 := Aside0.mk (below_read HK5.out HA2.out); have HC5 := Aside0.mk (below_read HK5.out HC2.out); have HB5 := Aside0.mk (below_on HB2.out HK5.out); clear ho5 hg5 hCd hcd hn1 hn2; obtain rfl := HN.out) | ((with_reducible refine gate_dst (N := 34) rfl ?_); refine lit_ev2 (n := 2) ?hg (N := 34) ?hd (cs := #[.int .i64 1, .slice (some ⟨ga, 0, none⟩) 4 4, .int .i64 1, .slice Ad (gActs true).length cd]) (t := 49) ?hr ?_; (case hd => rfl); (case hg => rfl); (case hr => first | (go_simp; done) | (go_simp; rfl)); intro gc hgg w6 hlit hb; have HLw6 := Aside0.mk hlit; have HKw6 := Aside0.mk hb; have HGw6 := Aside0.mk hgg; have HA6 := Aside0.mk (below_read hb HA5.out); have HC6 := Aside0.mk (below_read hb HC5.out); have HD6 := Aside0.mk (Kd.C_below HD5.out hb); have HB6 := Aside0.mk (below_on HB5.out hb); clear hlit hb hgg) | ((with_reducible refine gate_dst (N := 6) rfl ?_); refine box_event ?hg (N := 6) ?hd (cs := #[.slice none 0 0, .slice none 0 0, .int .i64 0, .slice none 0 0]) (t := 25) ?hr ?_; (case hd => rfl); (case hg => rfl); (case hr => first | (go_simp; done) | (go_simp; rfl)); intro gv hgg w7 hlit hb; have HLw7 := Aside0.mk hlit; have HKw7 := Aside0.mk hb; have HGw7 := Aside0.mk hgg; skip; clear hlit hb hgg) | ((with_reducible refine gate_store (t := 25) (p := 6) rfl ?_); refine put_row ?hg ?hn 25 (.tmp 6) (.tmp 35) ?ho gv 25 _ (#[.slice (some ⟨gG, 0, none⟩) 1 1, .slice none 0 0, .int .i64 1, .slice (some ⟨gc, 0, none⟩) 2 2]) ?hp ?hx ?hu HLw7.out ?ht ?hs ?h1 ?_; (case hg => rfl); (case hn => rfl); (case ho => rfl); (case hp => rfl); (case hx => rfl); (case hu => rfl); (case ht => kernel_rfl); (case hs => rfl); (case h1 => exact unit_one _ _ _ _); intro w8 hlit hg; have HLw8 := Aside0.mk hlit; have HK8 := Aside0.mk (put_below2 HKw7.out HGw7.out hg); have hu0 := (blk_cell hlit 0).trans rfl; have hu1 := (blk_cell hlit 1).trans rfl; have hu2 := (blk_cell hlit 2).trans rfl; have hu3 := (blk_cell hlit 3).trans rfl; have HB8 := Aside0.mk (below_on HB6.out HK8.out); have HA8 := Aside0.mk (below_read HK8.out HA6.out); have HC8 := Aside0.mk (below_read HK8.out HC6.out); have HE8 := Aside0.mk (below_read HK8.out HLw6.out); have HD8 := Aside0.mk (Kd.C_below HD6.out HK8.out); clear hlit hg))
  go_at_call 19
  refine (new_live w8 (some ⟨gG, 0, none⟩) 1 [0] none 0 [] 1 (some ⟨gc, 0, none⟩) 2 (gCs true) (C_lit w8 gG [0] HC8.out) (Nat.le_refl _) (C_none _ _) (Nat.le_refl _) (C49_two w8 gc ⟨1, (gActs true)⟩ ⟨1, (gActs true)⟩ (some ⟨ga, 0, none⟩) 4 (by decide) (C33_lit w8 ga (gActs true) HA8.out (by decide)) Ad cd HCD.out HD8.out HE8.out) (Nat.le_refl _) (ok_g true)).mono ?_
  rintro e w9 ⟨ph, rfl, hL, hb9⟩
  have H9 := Aside0.mk hL
  have HB9 := Aside0.mk (below_on HB8.out hb9)
  clear hu0 hu1 hu2 hu3 hL hb9
  go_wp2_with fail
  go_loopg [9] l.length (fun gg s9 wr => ∃ (i : Nat) (s : St), i ≤ l.length ∧ l.length - i ≤ gg ∧ s9 = .int .i64 i ∧ Aside0 (Live w8.heap.size w9.heap.size wr ph (gCs true) 0 s ∧ GSt true s ∧ (∀ k, (s.row k).length ≤ 1000) ∧ Below w.heap.size w wr))
  case atStart => exact ⟨0, _, Nat.zero_le _, by omega, rfl, ⟨H9.out, (.inl (GIn.start true) : GIn (gS0 true) (-1) 0 0 ∨ GIn (gS0 true) 0 1 0 ∨ GIn (gS0 true) 0 2 0 ∨ GIn (gS0 true) 1 0 1 ∨ GIn (gS0 true) 1 0 2), small_new (ok_g true), HB9.out⟩⟩
  case round =>
    clear H9 HB9
    obtain ⟨i, s, hi, hgg, rfl, HL⟩ := hrel
    by_cases hlt : i < l.length
    · have hltz : (i : Int) < (l.length : Int) := by omega
      obtain ⟨ad, rfl, hcell⟩ := Kd.at_int (Kd.C_below HC.out HL.out.2.2.2) (i : Int) (by omega) hltz
      rw [Int.toNat_natCast] at hcell
      generalize rd l (i : Int) = x at hcell
      go_wp2_with fail
      have ht := and_one x
      generalize bits BinOp.and IntKind.i64 x 1 = t at ht
      have HT := Aside0.mk ht
      clear hcell ht
      go_at_call 22
      refine (HL.out.1.step t 0 rfl).mono ?_
      rintro e w11 ⟨rfl, hs⟩
      have HST := Aside0.mk (g_step true s HL.out.2.1 t HT.out)
      have HSM := Aside0.mk (small_step (cs := gCs true) (nA := 0) HL.out.2.2.1 t 0)
      have H11 := Aside0.mk hs.1
      have HB11 := Aside0.mk (Chg.below HL.out.2.2.2 HL.out.2.2.2.size HB8.out.size hs.2)
      clear hs
      generalize hS : stepP (gCs true) 0 s t 0 = s2 at *
      have HS2 := Aside0.mk hS
      clear hS
      have HOK := Aside0.mk (g_ok true s2 HST.out)
      obtain ⟨p0, hp0⟩ : ∃ p : Int, s2.pc 0 = p := ⟨_, rfl⟩
      obtain ⟨p1, hp1⟩ : ∃ p : Int, s2.pc 1 = p := ⟨_, rfl⟩
      have HP0 := Aside0.mk hp0
      have HP1 := Aside0.mk hp1
      clear hp0 hp1
      go_wp2_with fail
      go_at_call 24
      refine (H11.out.at_ 0 (g_at0.trans HP0.out)).mono ?_
      rintro e w12 ⟨rfl, hb⟩
      have HB12 := Aside0.mk (below_on HB11.out hb)
      have H12 := Aside0.mk (H11.out.below hb)
      clear hb
      cases h0 : (p0 == 1) with
      | false =>
        have HBO : Aside0 (Both s2 = false) := ⟨by unfold Both; rw [HP0.out, h0]; rfl⟩
        have HRC : Aside0 (decide (0 < (pairsL (mtP (gCs true) s2) (bnd 2)).length) = false) := ⟨by rw [HOK.out.race, HBO.out]⟩
        have H13 := H12
        have HB13 := HB12
        clear H12 HB12 HBO HOK
        go_wp2_with fail
        go_at_call 34
        refine (H13.out.racing HSM.out 2 HRC.out).mono ?_
        rintro e w14 ⟨rfl, hb⟩
        have HB14 := Aside0.mk (below_on HB13.out hb)
        have H14 := Aside0.mk (H13.out.below hb)
        clear hb
        go_wp2_with fail
        go_roundg (l.length - (i + 1))
        case measure => omega
        case rel => exact ⟨i + 1, _, by omega, by omega, by go_num, ⟨H14.out, HST.out, HSM.out, HB14.out⟩⟩
      | true =>
        go_wp2_with fail
        go_at_call 24
        refine (H12.out.at_ 1 (g_at1.trans HP1.out)).mono ?_
        rintro e w13 ⟨rfl, hb⟩
        have HB13 := Aside0.mk (below_on HB12.out hb)
        have H13 := Aside0.mk (H12.out.below hb)
        clear hb
        cases h1 : (p1 == 1) with
        | false =>
          have HBO : Aside0 (Both s2 = false) := ⟨by unfold Both; rw [HP0.out, HP1.out, h0, h1]; rfl⟩
          have HRC : Aside0 (decide (0 < (pairsL (mtP (gCs true) s2) (bnd 2)).length) = false) := ⟨by rw [HOK.out.race, HBO.out]⟩
          clear HBO HOK
          go_wp2_with fail
          go_at_call 34
          refine (H13.out.racing HSM.out 2 HRC.out).mono ?_
          rintro e w14 ⟨rfl, hb⟩
          have HB14 := Aside0.mk (below_on HB13.out hb)
          have H14 := Aside0.mk (H13.out.below hb)
          clear hb
          go_wp2_with fail
          go_roundg (l.length - (i + 1))
          case measure => omega
          case rel => exact ⟨i + 1, _, by omega, by omega, by go_num, ⟨H14.out, HST.out, HSM.out, HB14.out⟩⟩
        | true =>
          have HBO : Aside0 (Both s2 = true) := ⟨by unfold Both; rw [HP0.out, HP1.out, h0, h1]; rfl⟩
          have := HOK.out.no
          rw [HBO.out] at this
          exact absurd this (by decide)
    · have hltz : ¬ (i : Int) < (l.length : Int) := by omega
      go_wp2_with (go_at_call 36; refine (known10_calls _).mono ?_; rintro e w10 ⟨rfl, hb⟩)
      go_ret
      exact ⟨rfl, below_on HL.out.2.2.2 hb⟩
set_option maxHeartbeats 16000000 in
set_option maxRecDepth 100000 in
theorem guarded_false (w : World) (A0 : Option Addr) (c0 : Nat) (l : List Int) (hC : Kd.C (Kd.int .i64) w A0 l.length l) (hl : l.length ≤ 100) : Calls Try.prog 17 #[.slice A0 l.length c0, .bool false] w fun e w' => e = .returned (.bool true) ∧ Below w.heap.size w w' := by
  have HC := Aside0.mk hC
  have hlz : ¬ (100 : Int) < (l.length : Int) := by omega
  clear hC
  go_enter Try.func17, Try.ntmps17
  go_wp2_with (first | ((with_reducible refine gate_dst (N := 18) rfl ?_); refine lit_event3 4 ?hg (N := 18) ?hd (cs := #[.int .i64 9, .int .i64 0, .int .i64 0, .int .i64 0, .int .i64 0, .int .i64 0, .int .i64 0, .int .i64 1, .int .i64 0, .int .i64 6, .int .i64 0, .int .i64 0, .int .i64 0, .int .i64 0, .int .i64 0, .int .i64 0, .int .i64 2, .int .i64 0, .int .i64 10, .int .i64 0, .int .i64 0, .int .i64 0, .int .i64 0, .int .i64 0, .int .i64 0, .int .i64 0, .int .i64 0, .int .i64 14, .int .i64 0, .int .i64 0, .int .i64 0, .int .i64 0, .int .i64 0, .int .i64 0, .int .i64 3, .int .i64 0]) (t := 33) ?hr ?_; (case hd => rfl); (case hg => rfl); (case hr => first | (go_simp; done) | (go_simp; rfl)); intro n hnn ga hgg w1 hlit hb; have HLw1 := Aside0.mk hlit; have HKw1 := Aside0.mk hb; have HGw1 := Aside0.mk hgg; have hn1 : (0 : Int) < (n : Int) := (by omega); have hn2 : (2 : Int) < (n : Int) := (by omega); have HN := Aside0.mk hnn; clear hnn; have hz0 : w1.cell? ⟨ga, 0, none⟩ = some (.int .i64 9) := (blk_cell hlit 0).trans rfl; have hq0 : w1.frozen? ⟨ga, 0, none⟩ = false := blk_frozen hlit 0; have hz18 : w1.cell? ⟨ga, 18, none⟩ = some (.int .i64 10) := (blk_cell hlit 18).trans rfl; have hq18 : w1.frozen? ⟨ga, 18, none⟩ = false := blk_frozen hlit 18; clear hlit hb hgg) | ((with_reducible refine gate_dst (N := 27) rfl ?_); refine lit_ev2 (n := 1) ?hg (N := 27) ?hd (cs := #[.int .i64 0]) (t := 3) ?hr ?_; (case hd => rfl); (case hg => rfl); (case hr => first | (go_simp; done) | (go_simp; rfl)); intro gG hgg w2 hlit hb; have HLw2 := Aside0.mk hlit; have HKw2 := Aside0.mk hb; have HGw2 := Aside0.mk hgg; have HL3 := Aside0.mk (blk_put (blk_put (HLw1.out) 0 (.int .i64 12) rfl) 18 (.int .i64 12) rfl); have HK3 := Aside0.mk (put_below2 (put_below2 (HKw1.out) HGw1.out (set_grown w1 ga 0 (.int .i64 12))) HGw1.out (set_grown (w1.setCell ⟨ga, 0, none⟩ (.int .i64 12)) ga 18 (.int .i64 12))); have HA2 := Aside0.mk (below_read hb HL3.out); have HB2 := Aside0.mk (below_on HK3.out hb); have HC2 := Aside0.mk hlit; clear hlit hb hgg) | ((with_reducible refine gate_dst (N := 32) rfl ?_); have HA4 := Aside0.mk (below_read (below_alloc (Below.refl _ w2) (.cells #[] 33)) HA2.out); have HE4 := Aside0.mk (blk_new w2 (.cells #[] 33)); refine Kd.R_append_rows k33 (Rr := k33.K (w2.alloc (.cells #[] 33))) (w0 := (w2.alloc (.cells #[] 33))) 0 ?hg (.tmp 30) (.tmp 31) 47 33 _ 72 ?ho Try.underlying47 info33 ?hz ?hs0 ?hb (.slice (some ⟨w2.heap.size, 0, none⟩) 0 0) [] (gActs false) (some ⟨ga, 0, none⟩) n n (fun _ => True) (fun _ => False) ?hs ?hx ?HO ?HR ?HKM ?hokp ?hfresh ?HB ?hbase ?hl ?_; (case hg => rfl); (case ho => rfl); (case hz => rfl); (case hs0 => decide); (case hb => decide); (case hs => rfl); (case hx => rfl); (case HO => exact ⟨fun _ _ => trivial, [], own_empty HE4.out (Nat.zero_le _), Reps.none _ _⟩); (case HR => rw [HN.out]; exact C33_lit _ ga (gActs false) HA4.out (by decide)); (case HKM => intro x cs hk; rw [k33_open hk]; exact k33_mkM _ _ _ x); (case hokp => intro k hk; exact hk.elim); (case hfresh => exact fun _ _ => trivial); (case HB => exact ⟨rfl, rfl, rfl, Nat.le_refl _, fun k hk => absurd hk (Nat.not_lt_zero _)⟩); (case hbase => exact Nat.zero_le _); (case hl => rw [HN.out]; decide); intro v5 w5 ho5 _ hg5 _; obtain ⟨Ad, cd, e5, hcd, hCd⟩ := Kd.R_reads (show k33.R 33 w5 0 (fun _ => True) v5 (gActs false) from ho5); subst e5; have HD5 := Aside0.mk hCd; have HCD := Aside0.mk hcd; have HK5 := Aside0.mk (put_below2 (below_alloc (Below.refl _ w2) (.cells #[] 33)) rfl hg5); have HA5 := Aside0.mk (below_read HK5.out HA2.out); have HC5 := Aside0.mk (below_read HK5.out HC2.out); have HB5 := Aside0.mk (below_on HB2.out HK5.out); clear ho5 hg5 hCd hcd hn1 hn2; obtain rfl := HN.out) | ((with_reducible refine gate_dst (N := 34) rfl ?_); refine lit_ev2 (n := 2) ?hg (N := 34) ?hd (cs := #[.int .i64 1, .slice (some ⟨ga, 0, none⟩) 4 4, .int .i64 1, .slice Ad (gActs false).length cd]) (t := 49) ?hr ?_; (case hd => rfl); (case hg => rfl); (case hr => first | (go_simp; done) | (go_simp; rfl)); intro gc hgg w6 hlit hb; have HLw6 := Aside0.mk hlit; have HKw6 := Aside0.mk hb; have HGw6 := Aside0.mk hgg; have HA6 := Aside0.mk (below_read hb HA5.out); have HC6 := Aside0.mk (below_read hb HC5.out); have HD6 := Aside0.mk (Kd.C_below HD5.out hb); have HB6 := Aside0.mk (below_on HB5.out hb); clear hlit hb hgg) | ((with_reducible refine gate_dst (N := 6) rfl ?_); refine box_event ?hg (N := 6) ?hd (cs := #[.slice none 0 0, .slice none 0 0, .int .i64 0, .slice none 0 0]) (t := 25) ?hr ?_; (case hd => rfl); (case hg => rfl); (case hr => first | (go_simp; done) | (go_simp; rfl)); intro gv hgg w7 hlit hb; have HLw7 := Aside0.mk hlit; have HKw7 := Aside0.mk hb; have HGw7 := Aside0.mk hgg; skip; clear hlit hb hgg) | ((with_reducible refine gate_store (t := 25) (p := 6) rfl ?_); refine put_row ?hg ?hn 25 (.tmp 6) (.tmp 35) ?ho gv 25 _ (#[.slice (some ⟨gG, 0, none⟩) 1 1, .slice none 0 0, .int .i64 1, .slice (some ⟨gc, 0, none⟩) 2 2]) ?hp ?hx ?hu HLw7.out ?ht ?hs ?h1 ?_; (case hg => rfl); (case hn => rfl); (case ho => rfl); (case hp => rfl); (case hx => rfl); (case hu => rfl); (case ht => kernel_rfl); (case hs => rfl); (case h1 => exact unit_one _ _ _ _); intro w8 hlit hg; have HLw8 := Aside0.mk hlit; have HK8 := Aside0.mk (put_below2 HKw7.out HGw7.out hg); have hu0 := (blk_cell hlit 0).trans rfl; have hu1 := (blk_cell hlit 1).trans rfl; have hu2 := (blk_cell hlit 2).trans rfl; have hu3 := (blk_cell hlit 3).trans rfl; have HB8 := Aside0.mk (below_on HB6.out HK8.out); have HA8 := Aside0.mk (below_read HK8.out HA6.out); have HC8 := Aside0.mk (below_read HK8.out HC6.out); have HE8 := Aside0.mk (below_read HK8.out HLw6.out); have HD8 := Aside0.mk (Kd.C_below HD6.out HK8.out); clear hlit hg))
  go_at_call 19
  refine (new_live w8 (some ⟨gG, 0, none⟩) 1 [0] none 0 [] 1 (some ⟨gc, 0, none⟩) 2 (gCs false) (C_lit w8 gG [0] HC8.out) (Nat.le_refl _) (C_none _ _) (Nat.le_refl _) (C49_two w8 gc ⟨1, (gActs false)⟩ ⟨1, (gActs false)⟩ (some ⟨ga, 0, none⟩) 4 (by decide) (C33_lit w8 ga (gActs false) HA8.out (by decide)) Ad cd HCD.out HD8.out HE8.out) (Nat.le_refl _) (ok_g false)).mono ?_
  rintro e w9 ⟨ph, rfl, hL, hb9⟩
  have H9 := Aside0.mk hL
  have HB9 := Aside0.mk (below_on HB8.out hb9)
  clear hu0 hu1 hu2 hu3 hL hb9
  go_wp2_with fail
  go_loopg [9] l.length (fun gg s9 wr => ∃ (i : Nat) (s : St), i ≤ l.length ∧ l.length - i ≤ gg ∧ s9 = .int .i64 i ∧ Aside0 (Live w8.heap.size w9.heap.size wr ph (gCs false) 0 s ∧ GSt false s ∧ (∀ k, (s.row k).length ≤ 1000) ∧ Below w.heap.size w wr))
  case atStart => exact ⟨0, _, Nat.zero_le _, by omega, rfl, ⟨H9.out, (.inl (GIn.start false) : GIn (gS0 false) (-1) 0 0 ∨ GIn (gS0 false) (-1) 0 1 ∨ GIn (gS0 false) (-1) 0 2 ∨ GIn (gS0 false) (-1) 1 0 ∨ GIn (gS0 false) (-1) 1 1 ∨ GIn (gS0 false) (-1) 1 2 ∨ GIn (gS0 false) (-1) 2 0 ∨ GIn (gS0 false) (-1) 2 1 ∨ GIn (gS0 false) (-1) 2 2), small_new (ok_g false), HB9.out⟩⟩
  case round =>
    clear H9 HB9
    obtain ⟨i, s, hi, hgg, rfl, HL⟩ := hrel
    by_cases hlt : i < l.length
    · have hltz : (i : Int) < (l.length : Int) := by omega
      obtain ⟨ad, rfl, hcell⟩ := Kd.at_int (Kd.C_below HC.out HL.out.2.2.2) (i : Int) (by omega) hltz
      rw [Int.toNat_natCast] at hcell
      generalize rd l (i : Int) = x at hcell
      go_wp2_with fail
      have ht := and_one x
      generalize bits BinOp.and IntKind.i64 x 1 = t at ht
      have HT := Aside0.mk ht
      clear hcell ht
      go_at_call 22
      refine (HL.out.1.step t 0 rfl).mono ?_
      rintro e w11 ⟨rfl, hs⟩
      have HST := Aside0.mk (g_step false s HL.out.2.1 t HT.out)
      have HSM := Aside0.mk (small_step (cs := gCs false) (nA := 0) HL.out.2.2.1 t 0)
      have H11 := Aside0.mk hs.1
      have HB11 := Aside0.mk (Chg.below HL.out.2.2.2 HL.out.2.2.2.size HB8.out.size hs.2)
      clear hs
      generalize hS : stepP (gCs false) 0 s t 0 = s2 at *
      have HS2 := Aside0.mk hS
      clear hS
      have HOK := Aside0.mk (g_ok false s2 HST.out)
      obtain ⟨p0, hp0⟩ : ∃ p : Int, s2.pc 0 = p := ⟨_, rfl⟩
      obtain ⟨p1, hp1⟩ : ∃ p : Int, s2.pc 1 = p := ⟨_, rfl⟩
      have HP0 := Aside0.mk hp0
      have HP1 := Aside0.mk hp1
      clear hp0 hp1
      go_wp2_with fail
      go_at_call 24
      refine (H11.out.at_ 0 (g_at0.trans HP0.out)).mono ?_
      rintro e w12 ⟨rfl, hb⟩
      have HB12 := Aside0.mk (below_on HB11.out hb)
      have H12 := Aside0.mk (H11.out.below hb)
      clear hb
      cases h0 : (p0 == 1) with
      | false =>
        have HBO : Aside0 (Both s2 = false) := ⟨by unfold Both; rw [HP0.out, h0]; rfl⟩
        have HRC : Aside0 (decide (0 < (pairsL (mtP (gCs false) s2) (bnd 2)).length) = false) := ⟨by rw [HOK.out.race, HBO.out]⟩
        have H13 := H12
        have HB13 := HB12
        clear H12 HB12 HBO HOK
        go_wp2_with fail
        go_at_call 34
        refine (H13.out.racing HSM.out 2 HRC.out).mono ?_
        rintro e w14 ⟨rfl, hb⟩
        have HB14 := Aside0.mk (below_on HB13.out hb)
        have H14 := Aside0.mk (H13.out.below hb)
        clear hb
        go_wp2_with fail
        go_roundg (l.length - (i + 1))
        case measure => omega
        case rel => exact ⟨i + 1, _, by omega, by omega, by go_num, ⟨H14.out, HST.out, HSM.out, HB14.out⟩⟩
      | true =>
        go_wp2_with fail
        go_at_call 24
        refine (H12.out.at_ 1 (g_at1.trans HP1.out)).mono ?_
        rintro e w13 ⟨rfl, hb⟩
        have HB13 := Aside0.mk (below_on HB12.out hb)
        have H13 := Aside0.mk (H12.out.below hb)
        clear hb
        cases h1 : (p1 == 1) with
        | false =>
          have HBO : Aside0 (Both s2 = false) := ⟨by unfold Both; rw [HP0.out, HP1.out, h0, h1]; rfl⟩
          have HRC : Aside0 (decide (0 < (pairsL (mtP (gCs false) s2) (bnd 2)).length) = false) := ⟨by rw [HOK.out.race, HBO.out]⟩
          clear HBO HOK
          go_wp2_with fail
          go_at_call 34
          refine (H13.out.racing HSM.out 2 HRC.out).mono ?_
          rintro e w14 ⟨rfl, hb⟩
          have HB14 := Aside0.mk (below_on HB13.out hb)
          have H14 := Aside0.mk (H13.out.below hb)
          clear hb
          go_wp2_with fail
          go_roundg (l.length - (i + 1))
          case measure => omega
          case rel => exact ⟨i + 1, _, by omega, by omega, by go_num, ⟨H14.out, HST.out, HSM.out, HB14.out⟩⟩
        | true =>
          have HBO : Aside0 (Both s2 = true) := ⟨by unfold Both; rw [HP0.out, HP1.out, h0, h1]; rfl⟩
          have HRC : Aside0 (decide (0 < (pairsL (mtP (gCs false) s2) (bnd 2)).length) = true) := ⟨by rw [HOK.out.race, HBO.out]⟩
          clear HBO HOK
          go_wp2_with fail
          go_at_call 34
          refine (H13.out.racing HSM.out 2 HRC.out).mono ?_
          rintro e w14 ⟨rfl, hb⟩
          have HB14 := Aside0.mk (below_on HB13.out hb)
          have H14 := Aside0.mk (H13.out.below hb)
          clear hb
          go_wp2_with fail
          go_roundg (l.length - (i + 1))
          case measure => omega
          case rel => exact ⟨i + 1, _, by omega, by omega, by go_num, ⟨H14.out, HST.out, HSM.out, HB14.out⟩⟩
    · have hltz : ¬ (i : Int) < (l.length : Int) := by omega
      go_wp2_with (go_at_call 36; refine (known10_calls _).mono ?_; rintro e w10 ⟨rfl, hb⟩)
      go_ret
      exact ⟨rfl, below_on HL.out.2.2.2 hb⟩
set_option maxHeartbeats 2000000 in
theorem RaceGuarded_calls (w : World) (A0 : Option Addr) (c0 : Nat) (l : List Int) (hC : Kd.C (Kd.int .i64) w A0 l.length l) (hc : l.length ≤ c0) (hm : l.length ≤ maxLen) (guard : Bool) : Calls Try.prog 17 #[.slice A0 l.length c0, .bool guard] w fun e w' => e = .returned (.bool true) ∧ Below w.heap.size w w' := by
  by_cases hl : l.length ≤ 100
  · cases guard
    · exact guarded_false w A0 c0 l hC hl
    · exact guarded_true w A0 c0 l hC hl
  · have hlz : (100 : Int) < (l.length : Int) := by omega
    clear hC hc hm hl
    go_enter Try.func17, Try.ntmps17
    go_wp2
    go_ret
    exact ⟨rfl, Below.refl _ _⟩
end Go.Proofs.Ytikjamcemnbhbaa.Mr
