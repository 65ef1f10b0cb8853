/- meddlerlaw9: the law of mutexes. -/
import Derived.Test.YtikjamcemnbhbaaMrLaw9a
import Derived.Laws.BitsLemmas
namespace Go.Proofs.Ytikjamcemnbhbaa.Mr
open Go.RowKit Go.Proofs.YtikjamcemnbhbaaW.PrintWords Go.Proofs.YtikjamcemnbhbaaW.PrintLast Go.Proofs.YtikjamcemnbhbaaW.PrintMore
set_option linter.unusedVariables false
set_option linter.unusedSimpArgs false
def lActs (k0 k1 : Int) : List S33 := [⟨k0, 0, 0, 0, 0, 0, 0, 1, 0⟩, ⟨k1, 0, 0, 0, 0, 0, 0, 2, 0⟩, ⟨14, 0, 0, 0, 0, 0, 0, 2, 0⟩]
def lCs (k0 k1 : Int) : List S49 := [⟨0, lActs k0 k1⟩, ⟨0, lActs k0 k1⟩]
def lS0 (k0 k1 : Int) : St := newSt [] [] (lCs k0 k1) 0 1 2
theorem ok_l (k0 k1 : Int) (h0 : k0 = 9 ∨ k0 = 10) (h1 : k1 = 9 ∨ k1 = 10) : OkUnit [] [] 1 (lCs k0 k1) := by
  refine ⟨by decide, by simp, by decide, by simp, by decide, by simp [lCs], fun c hc => ?_⟩
  have hc : c = ⟨0, lActs k0 k1⟩ := by simpa [lCs] using hc
  subst hc
  rcases h0 with rfl | rfl <;> rcases h1 with rfl | rfl <;> exact ⟨by decide, by decide, by decide, fun a ha => by
    simp only [lActs, List.mem_cons, List.not_mem_nil, or_false] at ha
    rcases ha with rfl | rfl | rfl <;> exact ok_acts (by decide)⟩
/-- Where the threads stand, who has the mutex. -/
structure LIn (s : St) (o p0 p1 : Int) : Prop where
  bad : s.bad = none
  row : s.row 1 = [o]
  pc0 : s.pc 0 = p0
  pc1 : s.pc 1 = p1
theorem LIn.start (k0 k1 : Int) : LIn (lS0 k0 k1) (-1) 0 0 := ⟨rfl, rfl, rfl, rfl⟩
/-- A step that waits, or stands at the end. -/
theorem l_none {k0 k1 : Int} {s : St} {t : Int} (h : nxt (lCs k0 k1) s t = none) : stepP (lCs k0 k1) 0 s t 0 = s := by unfold stepP; rw [h]
theorem l_nx {k0 k1 : Int} {s : St} (t : Int) (ht : t = 0 ∨ t = 1) (hb : s.bad = none) {a : S33} (ha : actOf (lCs k0 k1) s t = a) :
    nxt (lCs k0 k1) s t = (if a.f0 = 14 then none else if a.f0 = 9 then (if rd (s.row 1) a.f4 = -1 then some a else if rd (s.row 1) a.f4 = t then some a else none) else some a) := by
  unfold nxt
  rw [ha, if_pos (by simp [lCs]; omega), if_pos hb]
theorem l_act {k0 k1 : Int} {s : St} (t : Int) (ht : t = 0 ∨ t = 1) : actOf (lCs k0 k1) s t = rd_T33 (lActs k0 k1) (s.pc t.toNat) := by
  rcases ht with rfl | rfl <;> rfl
theorem l_step {k0 k1 : Int} {s : St} {t : Int} {a : S33} (h : nxt (lCs k0 k1) s t = some a) (hk : a.f0 = 9 ∨ a.f0 = 10) (hz : a.f4 = 0) {o : Int} (ho : s.row 1 = [o]) :
    stepP (lCs k0 k1) 0 s t 0 = (if a.f0 = 9 then (if o = t then s.setBad (t, s.pc t.toNat, 11) else (s.setRow 1 [t]).setPc t.toNat a.f7)
      else (if o = t then (s.setRow 1 [-1]).setPc t.toNat a.f7 else s.setBad (t, s.pc t.toNat, 12))) := by
  have hr : reck (s.row (4 + 2 * t.toNat)) a 0 = (s.row (4 + 2 * t.toNat), 0) := by
    unfold reck
    rw [if_neg (by omega), if_neg (by omega), if_neg (by omega), if_neg (by omega), if_neg (by omega)]
  have hrd : rd [o] 0 = o := rfl
  have ha : after1 0 s t a 0 = shr 0 s t a := by
    unfold after1
    rw [hr]
    simp only [if_true]
    rw [St.setRow_same]
  have hs : shr 0 s t a = (if a.f0 = 9 then (if o = t then (s, 11) else (s.setRow 1 [t], 0)) else (if o = t then (s.setRow 1 [-1], 0) else (s, 12))) := by
    unfold shr
    rw [if_neg (by omega), if_neg (by omega), if_neg (by omega), ho, hz, hrd]
    by_cases h9 : a.f0 = 9
    · rw [if_pos h9, if_pos h9]
      rfl
    · rw [if_neg h9, if_neg h9, if_pos (by omega)]
      rfl
  have hd : stepP (lCs k0 k1) 0 s t 0 = doneP 0 s t a 0 := by unfold stepP; rw [h]
  rw [hd]
  unfold doneP
  rw [ha, hs]
  by_cases h9 : a.f0 = 9
  · simp only [if_pos h9]
    by_cases e : o = t
    · simp only [if_pos e]
      rw [if_neg (by decide)]
    · simp only [if_neg e, if_true]
      rw [if_neg (by omega)]
  · simp only [if_neg h9]
    by_cases e : o = t
    · simp only [if_pos e, if_true]
      rw [if_neg (by omega)]
    · simp only [if_neg e]
      rw [if_neg (by decide)]
/-- The states that are met: with 'again' and 'free' told. -/
def LSt (again free : Bool) (s : St) : Prop :=
  if free then LIn s (-1) 0 0
  else if again then LIn s (-1) 0 0 ∨ LIn s 0 1 0 ∨ LIn s 1 0 1
  else LIn s (-1) 0 0 ∨ LIn s 0 1 0 ∨ LIn s 1 0 1 ∨ LIn s (-1) 2 0 ∨ LIn s (-1) 0 2 ∨ LIn s 1 2 1 ∨ LIn s 0 1 2 ∨ LIn s (-1) 2 2
def LK0 (free : Bool) : Int := if free then 10 else 9
def LK1 (again : Bool) : Int := if again then 9 else 10
/-- What a step of thread t does. -/
def LOut (again free : Bool) (s : St) (t : Int) : Prop :=
  (∃ p : Int, (stepP (lCs (LK0 free) (LK1 again)) 0 s t 0).bad = some (t, p, if free then 12 else 11) ∧ (again || free) = true)
  ∨ ((stepP (lCs (LK0 free) (LK1 again)) 0 s t 0).bad = none ∧ LSt again free (stepP (lCs (LK0 free) (LK1 again)) 0 s t 0) ∧
    ((nxt (lCs (LK0 free) (LK1 again)) s t).isSome = true ∨ atOf (lCs (LK0 free) (LK1 again)) (stepP (lCs (LK0 free) (LK1 again)) 0 s t 0) t ≠ 0 ∨ ownOf s 0 = 1 - t))
theorem setRow_row {s : St} {k : Nat} {xs : List Int} (j : Nat) (h : j ≠ k) : (s.setRow k xs).row j = s.row j := if_neg h
theorem l_at0 {k0 k1 : Int} {s : St} : atOf (lCs k0 k1) s 0 = s.pc 0 := rfl
theorem l_at1 {k0 k1 : Int} {s : St} : atOf (lCs k0 k1) s 1 = s.pc 1 := rfl
theorem l_own {s : St} {o : Int} (h : s.row 1 = [o]) : ownOf s 0 = o := by
  unfold ownOf
  rw [h, if_pos (by simp)]
  rfl
/-- Thread t waits or has ended. -/
theorem l_wait {again free : Bool} {s : St} {t : Int} (hs : LSt again free s) (hb : s.bad = none) (hn : nxt (lCs (LK0 free) (LK1 again)) s t = none) (h : atOf (lCs (LK0 free) (LK1 again)) s t ≠ 0 ∨ ownOf s 0 = 1 - t) : LOut again free s t := by
  right
  rw [l_none hn]
  exact ⟨hb, hs, .inr h⟩
theorem l_ff00 (s : St) (hs : LSt false false s) (h : LIn s (-1) 0 0) : LOut false false s 0 := by
  have ha : actOf (lCs 9 10) s 0 = (⟨9, 0, 0, 0, 0, 0, 0, 1, 0⟩ : S33) := by rw [l_act _ (by decide)]; show rd_T33 _ (s.pc 0) = _; rw [h.pc0]; rfl
  have hn := l_nx (k0 := 9) (k1 := 10) 0 (by decide) h.bad ha
  rw [h.row] at hn
  have hn : nxt (lCs 9 10) s 0 = some (⟨9, 0, 0, 0, 0, 0, 0, 1, 0⟩ : S33) := hn
  have st := l_step hn (by decide) rfl h.row
  rw [if_pos rfl, if_neg (by decide)] at st
  have h2 : LIn ((s.setRow 1 [0]).setPc (0 : Int).toNat 1) 0 1 0 := ⟨h.bad, by simp [St.setRow, St.setPc], by simp [St.setRow, St.setPc, h.pc0], by simp [St.setRow, St.setPc, h.pc1]⟩
  refine .inr ⟨?_, ?_, .inl ?_⟩
  · show (stepP (lCs 9 10) 0 s 0 0).bad = none; rw [st]; exact h.bad
  · show LSt _ _ (stepP (lCs 9 10) 0 s 0 0); rw [st]; exact .inr (.inl h2)
  · show (nxt (lCs 9 10) s 0).isSome = true; rw [hn]; rfl
theorem l_ff01 (s : St) (hs : LSt false false s) (h : LIn s (-1) 0 0) : LOut false false s 1 := by
  have ha : actOf (lCs 9 10) s 1 = (⟨9, 0, 0, 0, 0, 0, 0, 1, 0⟩ : S33) := by rw [l_act _ (by decide)]; show rd_T33 _ (s.pc 1) = _; rw [h.pc1]; rfl
  have hn := l_nx (k0 := 9) (k1 := 10) 1 (by decide) h.bad ha
  rw [h.row] at hn
  have hn : nxt (lCs 9 10) s 1 = some (⟨9, 0, 0, 0, 0, 0, 0, 1, 0⟩ : S33) := hn
  have st := l_step hn (by decide) rfl h.row
  rw [if_pos rfl, if_neg (by decide)] at st
  have h2 : LIn ((s.setRow 1 [1]).setPc (1 : Int).toNat 1) 1 0 1 := ⟨h.bad, by simp [St.setRow, St.setPc], by simp [St.setRow, St.setPc, h.pc0], by simp [St.setRow, St.setPc, h.pc1]⟩
  refine .inr ⟨?_, ?_, .inl ?_⟩
  · show (stepP (lCs 9 10) 0 s 1 0).bad = none; rw [st]; exact h.bad
  · show LSt _ _ (stepP (lCs 9 10) 0 s 1 0); rw [st]; exact .inr (.inr (.inl h2))
  · show (nxt (lCs 9 10) s 1).isSome = true; rw [hn]; rfl
theorem l_ff10 (s : St) (hs : LSt false false s) (h : LIn s 0 1 0) : LOut false false s 0 := by
  have ha : actOf (lCs 9 10) s 0 = (⟨10, 0, 0, 0, 0, 0, 0, 2, 0⟩ : S33) := by rw [l_act _ (by decide)]; show rd_T33 _ (s.pc 0) = _; rw [h.pc0]; rfl
  have hn := l_nx (k0 := 9) (k1 := 10) 0 (by decide) h.bad ha
  rw [h.row] at hn
  have hn : nxt (lCs 9 10) s 0 = some (⟨10, 0, 0, 0, 0, 0, 0, 2, 0⟩ : S33) := hn
  have st := l_step hn (by decide) rfl h.row
  rw [if_neg (by decide), if_pos rfl] at st
  have h2 : LIn ((s.setRow 1 [(-1)]).setPc (0 : Int).toNat 2) (-1) 2 0 := ⟨h.bad, by simp [St.setRow, St.setPc], by simp [St.setRow, St.setPc, h.pc0], by simp [St.setRow, St.setPc, h.pc1]⟩
  refine .inr ⟨?_, ?_, .inl ?_⟩
  · show (stepP (lCs 9 10) 0 s 0 0).bad = none; rw [st]; exact h.bad
  · show LSt _ _ (stepP (lCs 9 10) 0 s 0 0); rw [st]; exact .inr (.inr (.inr (.inl h2)))
  · show (nxt (lCs 9 10) s 0).isSome = true; rw [hn]; rfl
theorem l_ff11 (s : St) (hs : LSt false false s) (h : LIn s 0 1 0) : LOut false false s 1 := by
  have ha : actOf (lCs 9 10) s 1 = (⟨9, 0, 0, 0, 0, 0, 0, 1, 0⟩ : S33) := by rw [l_act _ (by decide)]; show rd_T33 _ (s.pc 1) = _; rw [h.pc1]; rfl
  have hn := l_nx (k0 := 9) (k1 := 10) 1 (by decide) h.bad ha
  rw [h.row] at hn
  have hn : nxt (lCs 9 10) s 1 = none := hn
  exact l_wait hs h.bad hn (.inr (by rw [l_own h.row]; decide))
theorem l_ff20 (s : St) (hs : LSt false false s) (h : LIn s 1 0 1) : LOut false false s 0 := by
  have ha : actOf (lCs 9 10) s 0 = (⟨9, 0, 0, 0, 0, 0, 0, 1, 0⟩ : S33) := by rw [l_act _ (by decide)]; show rd_T33 _ (s.pc 0) = _; rw [h.pc0]; rfl
  have hn := l_nx (k0 := 9) (k1 := 10) 0 (by decide) h.bad ha
  rw [h.row] at hn
  have hn : nxt (lCs 9 10) s 0 = none := hn
  exact l_wait hs h.bad hn (.inr (by rw [l_own h.row]; decide))
theorem l_ff21 (s : St) (hs : LSt false false s) (h : LIn s 1 0 1) : LOut false false s 1 := by
  have ha : actOf (lCs 9 10) s 1 = (⟨10, 0, 0, 0, 0, 0, 0, 2, 0⟩ : S33) := by rw [l_act _ (by decide)]; show rd_T33 _ (s.pc 1) = _; rw [h.pc1]; rfl
  have hn := l_nx (k0 := 9) (k1 := 10) 1 (by decide) h.bad ha
  rw [h.row] at hn
  have hn : nxt (lCs 9 10) s 1 = some (⟨10, 0, 0, 0, 0, 0, 0, 2, 0⟩ : S33) := hn
  have st := l_step hn (by decide) rfl h.row
  rw [if_neg (by decide), if_pos rfl] at st
  have h2 : LIn ((s.setRow 1 [(-1)]).setPc (1 : Int).toNat 2) (-1) 0 2 := ⟨h.bad, by simp [St.setRow, St.setPc], by simp [St.setRow, St.setPc, h.pc0], by simp [St.setRow, St.setPc, h.pc1]⟩
  refine .inr ⟨?_, ?_, .inl ?_⟩
  · show (stepP (lCs 9 10) 0 s 1 0).bad = none; rw [st]; exact h.bad
  · show LSt _ _ (stepP (lCs 9 10) 0 s 1 0); rw [st]; exact .inr (.inr (.inr (.inr (.inl h2))))
  · show (nxt (lCs 9 10) s 1).isSome = true; rw [hn]; rfl
theorem l_ff30 (s : St) (hs : LSt false false s) (h : LIn s (-1) 2 0) : LOut false false s 0 := by
  have ha : actOf (lCs 9 10) s 0 = (⟨14, 0, 0, 0, 0, 0, 0, 2, 0⟩ : S33) := by rw [l_act _ (by decide)]; show rd_T33 _ (s.pc 0) = _; rw [h.pc0]; rfl
  have hn := l_nx (k0 := 9) (k1 := 10) 0 (by decide) h.bad ha
  rw [h.row] at hn
  have hn : nxt (lCs 9 10) s 0 = none := hn
  exact l_wait hs h.bad hn (.inl (by rw [l_at0]; rw [h.pc0]; decide))
theorem l_ff31 (s : St) (hs : LSt false false s) (h : LIn s (-1) 2 0) : LOut false false s 1 := by
  have ha : actOf (lCs 9 10) s 1 = (⟨9, 0, 0, 0, 0, 0, 0, 1, 0⟩ : S33) := by rw [l_act _ (by decide)]; show rd_T33 _ (s.pc 1) = _; rw [h.pc1]; rfl
  have hn := l_nx (k0 := 9) (k1 := 10) 1 (by decide) h.bad ha
  rw [h.row] at hn
  have hn : nxt (lCs 9 10) s 1 = some (⟨9, 0, 0, 0, 0, 0, 0, 1, 0⟩ : S33) := hn
  have st := l_step hn (by decide) rfl h.row
  rw [if_pos rfl, if_neg (by decide)] at st
  have h2 : LIn ((s.setRow 1 [1]).setPc (1 : Int).toNat 1) 1 2 1 := ⟨h.bad, by simp [St.setRow, St.setPc], by simp [St.setRow, St.setPc, h.pc0], by simp [St.setRow, St.setPc, h.pc1]⟩
  refine .inr ⟨?_, ?_, .inl ?_⟩
  · show (stepP (lCs 9 10) 0 s 1 0).bad = none; rw [st]; exact h.bad
  · show LSt _ _ (stepP (lCs 9 10) 0 s 1 0); rw [st]; exact .inr (.inr (.inr (.inr (.inr (.inl h2)))))
  · show (nxt (lCs 9 10) s 1).isSome = true; rw [hn]; rfl
theorem l_ff40 (s : St) (hs : LSt false false s) (h : LIn s (-1) 0 2) : LOut false false s 0 := by
  have ha : actOf (lCs 9 10) s 0 = (⟨9, 0, 0, 0, 0, 0, 0, 1, 0⟩ : S33) := by rw [l_act _ (by decide)]; show rd_T33 _ (s.pc 0) = _; rw [h.pc0]; rfl
  have hn := l_nx (k0 := 9) (k1 := 10) 0 (by decide) h.bad ha
  rw [h.row] at hn
  have hn : nxt (lCs 9 10) s 0 = some (⟨9, 0, 0, 0, 0, 0, 0, 1, 0⟩ : S33) := hn
  have st := l_step hn (by decide) rfl h.row
  rw [if_pos rfl, if_neg (by decide)] at st
  have h2 : LIn ((s.setRow 1 [0]).setPc (0 : Int).toNat 1) 0 1 2 := ⟨h.bad, by simp [St.setRow, St.setPc], by simp [St.setRow, St.setPc, h.pc0], by simp [St.setRow, St.setPc, h.pc1]⟩
  refine .inr ⟨?_, ?_, .inl ?_⟩
  · show (stepP (lCs 9 10) 0 s 0 0).bad = none; rw [st]; exact h.bad
  · show LSt _ _ (stepP (lCs 9 10) 0 s 0 0); rw [st]; exact .inr (.inr (.inr (.inr (.inr (.inr (.inl h2))))))
  · show (nxt (lCs 9 10) s 0).isSome = true; rw [hn]; rfl
theorem l_ff41 (s : St) (hs : LSt false false s) (h : LIn s (-1) 0 2) : LOut false false s 1 := by
  have ha : actOf (lCs 9 10) s 1 = (⟨14, 0, 0, 0, 0, 0, 0, 2, 0⟩ : S33) := by rw [l_act _ (by decide)]; show rd_T33 _ (s.pc 1) = _; rw [h.pc1]; rfl
  have hn := l_nx (k0 := 9) (k1 := 10) 1 (by decide) h.bad ha
  rw [h.row] at hn
  have hn : nxt (lCs 9 10) s 1 = none := hn
  exact l_wait hs h.bad hn (.inl (by rw [l_at1]; rw [h.pc1]; decide))
theorem l_ff50 (s : St) (hs : LSt false false s) (h : LIn s 1 2 1) : LOut false false s 0 := by
  have ha : actOf (lCs 9 10) s 0 = (⟨14, 0, 0, 0, 0, 0, 0, 2, 0⟩ : S33) := by rw [l_act _ (by decide)]; show rd_T33 _ (s.pc 0) = _; rw [h.pc0]; rfl
  have hn := l_nx (k0 := 9) (k1 := 10) 0 (by decide) h.bad ha
  rw [h.row] at hn
  have hn : nxt (lCs 9 10) s 0 = none := hn
  exact l_wait hs h.bad hn (.inl (by rw [l_at0]; rw [h.pc0]; decide))
theorem l_ff51 (s : St) (hs : LSt false false s) (h : LIn s 1 2 1) : LOut false false s 1 := by
  have ha : actOf (lCs 9 10) s 1 = (⟨10, 0, 0, 0, 0, 0, 0, 2, 0⟩ : S33) := by rw [l_act _ (by decide)]; show rd_T33 _ (s.pc 1) = _; rw [h.pc1]; rfl
  have hn := l_nx (k0 := 9) (k1 := 10) 1 (by decide) h.bad ha
  rw [h.row] at hn
  have hn : nxt (lCs 9 10) s 1 = some (⟨10, 0, 0, 0, 0, 0, 0, 2, 0⟩ : S33) := hn
  have st := l_step hn (by decide) rfl h.row
  rw [if_neg (by decide), if_pos rfl] at st
  have h2 : LIn ((s.setRow 1 [(-1)]).setPc (1 : Int).toNat 2) (-1) 2 2 := ⟨h.bad, by simp [St.setRow, St.setPc], by simp [St.setRow, St.setPc, h.pc0], by simp [St.setRow, St.setPc, h.pc1]⟩
  refine .inr ⟨?_, ?_, .inl ?_⟩
  · show (stepP (lCs 9 10) 0 s 1 0).bad = none; rw [st]; exact h.bad
  · show LSt _ _ (stepP (lCs 9 10) 0 s 1 0); rw [st]; exact .inr (.inr (.inr (.inr (.inr (.inr (.inr (h2)))))))
  · show (nxt (lCs 9 10) s 1).isSome = true; rw [hn]; rfl
theorem l_ff60 (s : St) (hs : LSt false false s) (h : LIn s 0 1 2) : LOut false false s 0 := by
  have ha : actOf (lCs 9 10) s 0 = (⟨10, 0, 0, 0, 0, 0, 0, 2, 0⟩ : S33) := by rw [l_act _ (by decide)]; show rd_T33 _ (s.pc 0) = _; rw [h.pc0]; rfl
  have hn := l_nx (k0 := 9) (k1 := 10) 0 (by decide) h.bad ha
  rw [h.row] at hn
  have hn : nxt (lCs 9 10) s 0 = some (⟨10, 0, 0, 0, 0, 0, 0, 2, 0⟩ : S33) := hn
  have st := l_step hn (by decide) rfl h.row
  rw [if_neg (by decide), if_pos rfl] at st
  have h2 : LIn ((s.setRow 1 [(-1)]).setPc (0 : Int).toNat 2) (-1) 2 2 := ⟨h.bad, by simp [St.setRow, St.setPc], by simp [St.setRow, St.setPc, h.pc0], by simp [St.setRow, St.setPc, h.pc1]⟩
  refine .inr ⟨?_, ?_, .inl ?_⟩
  · show (stepP (lCs 9 10) 0 s 0 0).bad = none; rw [st]; exact h.bad
  · show LSt _ _ (stepP (lCs 9 10) 0 s 0 0); rw [st]; exact .inr (.inr (.inr (.inr (.inr (.inr (.inr (h2)))))))
  · show (nxt (lCs 9 10) s 0).isSome = true; rw [hn]; rfl
theorem l_ff61 (s : St) (hs : LSt false false s) (h : LIn s 0 1 2) : LOut false false s 1 := by
  have ha : actOf (lCs 9 10) s 1 = (⟨14, 0, 0, 0, 0, 0, 0, 2, 0⟩ : S33) := by rw [l_act _ (by decide)]; show rd_T33 _ (s.pc 1) = _; rw [h.pc1]; rfl
  have hn := l_nx (k0 := 9) (k1 := 10) 1 (by decide) h.bad ha
  rw [h.row] at hn
  have hn : nxt (lCs 9 10) s 1 = none := hn
  exact l_wait hs h.bad hn (.inl (by rw [l_at1]; rw [h.pc1]; decide))
theorem l_ff70 (s : St) (hs : LSt false false s) (h : LIn s (-1) 2 2) : LOut false false s 0 := by
  have ha : actOf (lCs 9 10) s 0 = (⟨14, 0, 0, 0, 0, 0, 0, 2, 0⟩ : S33) := by rw [l_act _ (by decide)]; show rd_T33 _ (s.pc 0) = _; rw [h.pc0]; rfl
  have hn := l_nx (k0 := 9) (k1 := 10) 0 (by decide) h.bad ha
  rw [h.row] at hn
  have hn : nxt (lCs 9 10) s 0 = none := hn
  exact l_wait hs h.bad hn (.inl (by rw [l_at0]; rw [h.pc0]; decide))
theorem l_ff71 (s : St) (hs : LSt false false s) (h : LIn s (-1) 2 2) : LOut false false s 1 := by
  have ha : actOf (lCs 9 10) s 1 = (⟨14, 0, 0, 0, 0, 0, 0, 2, 0⟩ : S33) := by rw [l_act _ (by decide)]; show rd_T33 _ (s.pc 1) = _; rw [h.pc1]; rfl
  have hn := l_nx (k0 := 9) (k1 := 10) 1 (by decide) h.bad ha
  rw [h.row] at hn
  have hn : nxt (lCs 9 10) s 1 = none := hn
  exact l_wait hs h.bad hn (.inl (by rw [l_at1]; rw [h.pc1]; decide))
theorem l_ft00 (s : St) (hs : LSt false true s) (h : LIn s (-1) 0 0) : LOut false true s 0 := by
  have ha : actOf (lCs 10 10) s 0 = (⟨10, 0, 0, 0, 0, 0, 0, 1, 0⟩ : S33) := by rw [l_act _ (by decide)]; show rd_T33 _ (s.pc 0) = _; rw [h.pc0]; rfl
  have hn := l_nx (k0 := 10) (k1 := 10) 0 (by decide) h.bad ha
  rw [h.row] at hn
  have hn : nxt (lCs 10 10) s 0 = some (⟨10, 0, 0, 0, 0, 0, 0, 1, 0⟩ : S33) := hn
  have st := l_step hn (by decide) rfl h.row
  rw [if_neg (by decide), if_neg (by decide)] at st
  exact .inl ⟨s.pc 0, by show (stepP (lCs 10 10) 0 s 0 0).bad = _; rw [st]; rfl, rfl⟩
theorem l_ft01 (s : St) (hs : LSt false true s) (h : LIn s (-1) 0 0) : LOut false true s 1 := by
  have ha : actOf (lCs 10 10) s 1 = (⟨10, 0, 0, 0, 0, 0, 0, 1, 0⟩ : S33) := by rw [l_act _ (by decide)]; show rd_T33 _ (s.pc 1) = _; rw [h.pc1]; rfl
  have hn := l_nx (k0 := 10) (k1 := 10) 1 (by decide) h.bad ha
  rw [h.row] at hn
  have hn : nxt (lCs 10 10) s 1 = some (⟨10, 0, 0, 0, 0, 0, 0, 1, 0⟩ : S33) := hn
  have st := l_step hn (by decide) rfl h.row
  rw [if_neg (by decide), if_neg (by decide)] at st
  exact .inl ⟨s.pc 1, by show (stepP (lCs 10 10) 0 s 1 0).bad = _; rw [st]; rfl, rfl⟩
theorem l_tf00 (s : St) (hs : LSt true false s) (h : LIn s (-1) 0 0) : LOut true false s 0 := by
  have ha : actOf (lCs 9 9) s 0 = (⟨9, 0, 0, 0, 0, 0, 0, 1, 0⟩ : S33) := by rw [l_act _ (by decide)]; show rd_T33 _ (s.pc 0) = _; rw [h.pc0]; rfl
  have hn := l_nx (k0 := 9) (k1 := 9) 0 (by decide) h.bad ha
  rw [h.row] at hn
  have hn : nxt (lCs 9 9) s 0 = some (⟨9, 0, 0, 0, 0, 0, 0, 1, 0⟩ : S33) := hn
  have st := l_step hn (by decide) rfl h.row
  rw [if_pos rfl, if_neg (by decide)] at st
  have h2 : LIn ((s.setRow 1 [0]).setPc (0 : Int).toNat 1) 0 1 0 := ⟨h.bad, by simp [St.setRow, St.setPc], by simp [St.setRow, St.setPc, h.pc0], by simp [St.setRow, St.setPc, h.pc1]⟩
  refine .inr ⟨?_, ?_, .inl ?_⟩
  · show (stepP (lCs 9 9) 0 s 0 0).bad = none; rw [st]; exact h.bad
  · show LSt _ _ (stepP (lCs 9 9) 0 s 0 0); rw [st]; exact .inr (.inl h2)
  · show (nxt (lCs 9 9) s 0).isSome = true; rw [hn]; rfl
theorem l_tf01 (s : St) (hs : LSt true false s) (h : LIn s (-1) 0 0) : LOut true false s 1 := by
  have ha : actOf (lCs 9 9) s 1 = (⟨9, 0, 0, 0, 0, 0, 0, 1, 0⟩ : S33) := by rw [l_act _ (by decide)]; show rd_T33 _ (s.pc 1) = _; rw [h.pc1]; rfl
  have hn := l_nx (k0 := 9) (k1 := 9) 1 (by decide) h.bad ha
  rw [h.row] at hn
  have hn : nxt (lCs 9 9) s 1 = some (⟨9, 0, 0, 0, 0, 0, 0, 1, 0⟩ : S33) := hn
  have st := l_step hn (by decide) rfl h.row
  rw [if_pos rfl, if_neg (by decide)] at st
  have h2 : LIn ((s.setRow 1 [1]).setPc (1 : Int).toNat 1) 1 0 1 := ⟨h.bad, by simp [St.setRow, St.setPc], by simp [St.setRow, St.setPc, h.pc0], by simp [St.setRow, St.setPc, h.pc1]⟩
  refine .inr ⟨?_, ?_, .inl ?_⟩
  · show (stepP (lCs 9 9) 0 s 1 0).bad = none; rw [st]; exact h.bad
  · show LSt _ _ (stepP (lCs 9 9) 0 s 1 0); rw [st]; exact .inr (.inr (h2))
  · show (nxt (lCs 9 9) s 1).isSome = true; rw [hn]; rfl
theorem l_tf10 (s : St) (hs : LSt true false s) (h : LIn s 0 1 0) : LOut true false s 0 := by
  have ha : actOf (lCs 9 9) s 0 = (⟨9, 0, 0, 0, 0, 0, 0, 2, 0⟩ : S33) := by rw [l_act _ (by decide)]; show rd_T33 _ (s.pc 0) = _; rw [h.pc0]; rfl
  have hn := l_nx (k0 := 9) (k1 := 9) 0 (by decide) h.bad ha
  rw [h.row] at hn
  have hn : nxt (lCs 9 9) s 0 = some (⟨9, 0, 0, 0, 0, 0, 0, 2, 0⟩ : S33) := hn
  have st := l_step hn (by decide) rfl h.row
  rw [if_pos rfl, if_pos rfl] at st
  exact .inl ⟨s.pc 0, by show (stepP (lCs 9 9) 0 s 0 0).bad = _; rw [st]; rfl, rfl⟩
theorem l_tf11 (s : St) (hs : LSt true false s) (h : LIn s 0 1 0) : LOut true false s 1 := by
  have ha : actOf (lCs 9 9) s 1 = (⟨9, 0, 0, 0, 0, 0, 0, 1, 0⟩ : S33) := by rw [l_act _ (by decide)]; show rd_T33 _ (s.pc 1) = _; rw [h.pc1]; rfl
  have hn := l_nx (k0 := 9) (k1 := 9) 1 (by decide) h.bad ha
  rw [h.row] at hn
  have hn : nxt (lCs 9 9) s 1 = none := hn
  exact l_wait hs h.bad hn (.inr (by rw [l_own h.row]; decide))
theorem l_tf20 (s : St) (hs : LSt true false s) (h : LIn s 1 0 1) : LOut true false s 0 := by
  have ha : actOf (lCs 9 9) s 0 = (⟨9, 0, 0, 0, 0, 0, 0, 1, 0⟩ : S33) := by rw [l_act _ (by decide)]; show rd_T33 _ (s.pc 0) = _; rw [h.pc0]; rfl
  have hn := l_nx (k0 := 9) (k1 := 9) 0 (by decide) h.bad ha
  rw [h.row] at hn
  have hn : nxt (lCs 9 9) s 0 = none := hn
  exact l_wait hs h.bad hn (.inr (by rw [l_own h.row]; decide))
theorem l_tf21 (s : St) (hs : LSt true false s) (h : LIn s 1 0 1) : LOut true false s 1 := by
  have ha : actOf (lCs 9 9) s 1 = (⟨9, 0, 0, 0, 0, 0, 0, 2, 0⟩ : S33) := by rw [l_act _ (by decide)]; show rd_T33 _ (s.pc 1) = _; rw [h.pc1]; rfl
  have hn := l_nx (k0 := 9) (k1 := 9) 1 (by decide) h.bad ha
  rw [h.row] at hn
  have hn : nxt (lCs 9 9) s 1 = some (⟨9, 0, 0, 0, 0, 0, 0, 2, 0⟩ : S33) := hn
  have st := l_step hn (by decide) rfl h.row
  rw [if_pos rfl, if_pos rfl] at st
  exact .inl ⟨s.pc 1, by show (stepP (lCs 9 9) 0 s 1 0).bad = _; rw [st]; rfl, rfl⟩
theorem l_tt00 (s : St) (hs : LSt true true s) (h : LIn s (-1) 0 0) : LOut true true s 0 := by
  have ha : actOf (lCs 10 9) s 0 = (⟨10, 0, 0, 0, 0, 0, 0, 1, 0⟩ : S33) := by rw [l_act _ (by decide)]; show rd_T33 _ (s.pc 0) = _; rw [h.pc0]; rfl
  have hn := l_nx (k0 := 10) (k1 := 9) 0 (by decide) h.bad ha
  rw [h.row] at hn
  have hn : nxt (lCs 10 9) s 0 = some (⟨10, 0, 0, 0, 0, 0, 0, 1, 0⟩ : S33) := hn
  have st := l_step hn (by decide) rfl h.row
  rw [if_neg (by decide), if_neg (by decide)] at st
  exact .inl ⟨s.pc 0, by show (stepP (lCs 10 9) 0 s 0 0).bad = _; rw [st]; rfl, rfl⟩
theorem l_tt01 (s : St) (hs : LSt true true s) (h : LIn s (-1) 0 0) : LOut true true s 1 := by
  have ha : actOf (lCs 10 9) s 1 = (⟨10, 0, 0, 0, 0, 0, 0, 1, 0⟩ : S33) := by rw [l_act _ (by decide)]; show rd_T33 _ (s.pc 1) = _; rw [h.pc1]; rfl
  have hn := l_nx (k0 := 10) (k1 := 9) 1 (by decide) h.bad ha
  rw [h.row] at hn
  have hn : nxt (lCs 10 9) s 1 = some (⟨10, 0, 0, 0, 0, 0, 0, 1, 0⟩ : S33) := hn
  have st := l_step hn (by decide) rfl h.row
  rw [if_neg (by decide), if_neg (by decide)] at st
  exact .inl ⟨s.pc 1, by show (stepP (lCs 10 9) 0 s 1 0).bad = _; rw [st]; rfl, rfl⟩
theorem l_all (again free : Bool) (s : St) (hs : LSt again free s) (t : Int) (ht : t = 0 ∨ t = 1) : LOut again free s t := by
  have hs' := hs
  cases again <;> cases free
  · have h : LIn s (-1) 0 0 ∨ LIn s 0 1 0 ∨ LIn s 1 0 1 ∨ LIn s (-1) 2 0 ∨ LIn s (-1) 0 2 ∨ LIn s 1 2 1 ∨ LIn s 0 1 2 ∨ LIn s (-1) 2 2 := hs
    rcases h with h | h | h | h | h | h | h | h
    · rcases ht with rfl | rfl
      · exact l_ff00 s hs' h
      · exact l_ff01 s hs' h
    · rcases ht with rfl | rfl
      · exact l_ff10 s hs' h
      · exact l_ff11 s hs' h
    · rcases ht with rfl | rfl
      · exact l_ff20 s hs' h
      · exact l_ff21 s hs' h
    · rcases ht with rfl | rfl
      · exact l_ff30 s hs' h
      · exact l_ff31 s hs' h
    · rcases ht with rfl | rfl
      · exact l_ff40 s hs' h
      · exact l_ff41 s hs' h
    · rcases ht with rfl | rfl
      · exact l_ff50 s hs' h
      · exact l_ff51 s hs' h
    · rcases ht with rfl | rfl
      · exact l_ff60 s hs' h
      · exact l_ff61 s hs' h
    · rcases ht with rfl | rfl
      · exact l_ff70 s hs' h
      · exact l_ff71 s hs' h
  · have h : LIn s (-1) 0 0 := hs
    rcases ht with rfl | rfl
    · exact l_ft00 s hs' h
    · exact l_ft01 s hs' h
  · have h : LIn s (-1) 0 0 ∨ LIn s 0 1 0 ∨ LIn s 1 0 1 := hs
    rcases h with h | h | h
    · rcases ht with rfl | rfl
      · exact l_tf00 s hs' h
      · exact l_tf01 s hs' h
    · rcases ht with rfl | rfl
      · exact l_tf10 s hs' h
      · exact l_tf11 s hs' h
    · rcases ht with rfl | rfl
      · exact l_tf20 s hs' h
      · exact l_tf21 s hs' h
  · have h : LIn s (-1) 0 0 := hs
    rcases ht with rfl | rfl
    · exact l_tt00 s hs' h
    · exact l_tt01 s hs' h
theorem and_one (x : Int) : bits BinOp.and IntKind.i64 x 1 = 0 ∨ bits BinOp.and IntKind.i64 x 1 = 1 := by
  have h1 : (BitVec.ofInt 64 1).toNat = 2 ^ 1 - 1 := by decide
  have key : (BitVec.ofInt 64 x &&& BitVec.ofInt 64 1).toNat = (x % ((2 ^ 64 : Nat) : Int)).toNat % 2 ^ 1 := by
    rw [BitVec.toNat_and, BitVec.toNat_ofInt, h1, Nat.and_two_pow_sub_one_eq_mod]
  have e : bits BinOp.and IntKind.i64 x 1 = x % 2 := by
    show IntKind.i64.wrap ((BitVec.ofInt 64 x &&& BitVec.ofInt 64 1).toNat : Nat) = x % 2
    rw [key, IntKind.wrap_i64]
    omega
  rw [e]
  omega
theorem Live.fault_no {L R : Nat} {w : World} {ph : Ph} {cs : List S49} {nA : Nat} {s : St} (H : Live L R w ph cs nA s) (h : s.bad = none) :
    Calls Try.prog 27 #[.pointer (some ⟨ph.bm, 0, none⟩)] w fun e w' => e = .returned (.tuple #[.agg #[.int .i64 0, .int .i64 0, .int .i64 0], .bool false]) ∧ Below w.heap.size w w' := by
  have h1 := H.fault
  rw [h] at h1
  exact h1
theorem Live.fault_yes {L R : Nat} {w : World} {ph : Ph} {cs : List S49} {nA : Nat} {s : St} (H : Live L R w ph cs nA s) {i p e : Int} (h : s.bad = some (i, p, e)) :
    Calls Try.prog 27 #[.pointer (some ⟨ph.bm, 0, none⟩)] w fun e' w' => e' = .returned (.tuple #[.agg #[.int .i64 i, .int .i64 p, .int .i64 e], .bool true]) ∧ Below w.heap.size w w' := by
  have h1 := H.fault
  rw [h] at h1
  exact h1
theorem own_empty {w : World} {g base : Nat} (h : w.heap[g]? = some (.cells #[] 33 (0, 0))) (hb : base ≤ g) : w.ownsRow base 33 9 (.slice (some ⟨g, 0, none⟩) 0 0) 0 [] :=
  ⟨rfl, .inr ⟨g, 0, #[], rfl, hb, h, Nat.le_refl _, Nat.zero_le _, rfl, rfl⟩⟩
theorem put_below {w6 w7 w8 : World} {g : Nat} (hb : Below w6.heap.size w6 w7) (hg : g = w6.heap.size) (h : w7.grownBy w8 (some g)) : Below w6.heap.size w6 w8 :=
  hb.grown h hb.size (fun q hq => by injection hq with hq; omega)
section
variable {P : Program} {ops : Array Oper} {rest : List Oper} {o : Oper} {a : Act} {Q : Exit → Act → World → Prop}
theorem cell_event {W : World} (hgd : o.guard = none) {t : TypeId} {p : Tmp} {v : Operand} (_ho : o.op = .store t (.tmp p) v) (hN : o.dst = none) {g j : Nat} {u : Value} {cs cs' : Array Value} {ty : TypeId}
    (hrun : (execOp a.eval o).run P W = .ok .skip (W.setCell ⟨g, j, none⟩ u)) (hh : W.heap[g]? = some (.cells cs ty (0, 0))) (e : cs.setIfInBounds j u = cs')
    (h : ∀ w1, w1.heap[g]? = some (.cells cs' ty (0, 0)) → W.grownBy w1 (some g) → wpList P ops Q rest a w1) : wpList P ops Q (o :: rest) a W :=
  store_event hgd _ho hN hrun (fun w' e' => by subst e'; exact h _ (blk_put hh j u e) (set_grown W g j u))
theorem lit_event2 {W : World} {n : Nat} (hgd : o.guard = none) {N : Tmp} (_hd : o.dst = some N) {cs : Array Value} {t : TypeId}
    (hrun : (execOp a.eval o).run P W = .ok (.value (.slice (some ⟨W.heap.size, 0, none⟩) n n)) (W.alloc (.cells cs t (0, 0))))
    (h : ∀ g, g = W.heap.size → ∀ w1, w1.heap[g]? = some (.cells cs t (0, 0)) → Below W.heap.size W w1 → wpList P ops Q rest (a.put o.dst (.slice (some ⟨g, 0, none⟩) n n)) w1) : wpList P ops Q (o :: rest) a W :=
  Kd.event_run hgd hrun (h _ rfl _ (blk_new W _) (below_alloc (Below.refl _ _) _))
theorem lit_event3 {W : World} (n0 : Nat) (hgd : o.guard = none) {N : Tmp} (_hd : o.dst = some N) {cs : Array Value} {t : TypeId}
    (hrun : (execOp a.eval o).run P W = .ok (.value (.slice (some ⟨W.heap.size, 0, none⟩) n0 n0)) (W.alloc (.cells cs t (0, 0))))
    (h : ∀ n, n = n0 → ∀ g, g = W.heap.size → ∀ w1, w1.heap[g]? = some (.cells cs t (0, 0)) → Below W.heap.size W w1 → wpList P ops Q rest (a.put o.dst (.slice (some ⟨g, 0, none⟩) n n)) w1) : wpList P ops Q (o :: rest) a W :=
  Kd.event_run hgd hrun (h _ rfl _ rfl _ (blk_new W _) (below_alloc (Below.refl _ _) _))
end
set_option maxHeartbeats 16000000 in
set_option maxRecDepth 100000 in
theorem locks_ff (w : World) (A0 : Option Addr) (c0 : Nat) (l : List Int) (hC : Kd.C (Kd.int .i64) w A0 l.length l) (hl : l.length ≤ 60) : Calls Try.prog 6 #[.slice A0 l.length c0, .bool false, .bool false] w fun e w' => e = .returned (.bool true) ∧ Below w.heap.size w w' := by
  have HC := Aside0.mk hC
  have hlz : ¬ (60 : Int) < (l.length : Int) := by omega
  clear hC
  go_enter Try.func6, Try.ntmps6
  go_wp2_with (first | ((with_reducible refine gate_dst (N := 24) rfl ?_); refine lit_event3 3 ?hg (N := 24) ?hd (cs := #[.int .i64 9, .int .i64 0, .int .i64 0, .int .i64 0, .int .i64 0, .int .i64 0, .int .i64 0, .int .i64 1, .int .i64 0, .int .i64 10, .int .i64 0, .int .i64 0, .int .i64 0, .int .i64 0, .int .i64 0, .int .i64 0, .int .i64 2, .int .i64 0, .int .i64 14, .int .i64 0, .int .i64 0, .int .i64 0, .int .i64 0, .int .i64 0, .int .i64 0, .int .i64 2, .int .i64 0]) (t := 33) ?hr ?_; (case hd => rfl); (case hg => rfl); (case hr => first | (go_simp; done) | (go_simp; rfl)); intro n hnn ga hgg w1 hlit hb; have HLw1 := Aside0.mk hlit; have HKw1 := Aside0.mk hb; have HGw1 := Aside0.mk hgg; have hn1 : (0 : Int) < (n : Int) := (by omega); have hn2 : (1 : Int) < (n : Int) := (by omega); have HN := Aside0.mk hnn; clear hnn; have hz0 : w1.cell? ⟨ga, 0, none⟩ = some (.int .i64 9) := (blk_cell HLw1.out 0).trans rfl; have hq0 : w1.frozen? ⟨ga, 0, none⟩ = false := blk_frozen HLw1.out 0; have hz9 : w1.cell? ⟨ga, 9, none⟩ = some (.int .i64 10) := (blk_cell HLw1.out 9).trans rfl; have hq9 : w1.frozen? ⟨ga, 9, none⟩ = false := blk_frozen HLw1.out 9; clear hlit hb hgg) | ((with_reducible refine gate_dst (N := 37) rfl ?_); have HS3 : Aside0 (w1.heap.size = w1.heap.size) := ⟨by first | rfl | simp only [setCell_size]⟩; have HL3 := Aside0.mk (HLw1.out); have HK3 := Aside0.mk (HKw1.out); have HA4 := Aside0.mk (below_read (below_alloc (Below.refl _ w1) (.cells #[] 33)) HL3.out); have HE4 := Aside0.mk (blk_new w1 (.cells #[] 33)); rw [← HS3.out] at HE4; refine Kd.R_append_rows k33 (Rr := k33.K (w1.alloc (.cells #[] 33))) (w0 := (w1.alloc (.cells #[] 33))) 0 ?hg (.tmp 35) (.tmp 36) 47 33 _ 72 ?ho Try.underlying47 info33 ?hz ?hs0 ?hb (.slice (some ⟨w1.heap.size, 0, none⟩) 0 0) [] (lActs 9 10) (some ⟨ga, 0, none⟩) n n (fun _ => True) (fun _ => False) ?hs ?hx ?HO ?HR ?HKM ?hokp ?hfresh ?HB ?hbase ?hl ?_; (case hg => rfl); (case ho => rfl); (case hz => rfl); (case hs0 => decide); (case hb => decide); (case hs => rfl); (case hx => rfl); (case HO => exact ⟨fun _ _ => trivial, [], own_empty HE4.out (Nat.zero_le _), Reps.none _ _⟩); (case HR => rw [HN.out]; exact C33_lit _ ga (lActs 9 10) HA4.out (by decide)); (case HKM => intro x cs hk; rw [k33_open hk]; exact k33_mkM _ _ _ x); (case hokp => intro k hk; exact hk.elim); (case hfresh => exact fun _ _ => trivial); (case HB => exact ⟨rfl, rfl, rfl, Nat.le_refl _, fun k hk => absurd hk (Nat.not_lt_zero _)⟩); (case hbase => exact Nat.zero_le _); (case hl => rw [HN.out]; decide); intro v5 w5 ho5 _ hg5 _; obtain ⟨Ad, cd, e5, hcd, hCd⟩ := Kd.R_reads (show k33.R 33 w5 0 (fun _ => True) v5 (lActs 9 10) from ho5); subst e5; have HD5 := Aside0.mk hCd; have HCD := Aside0.mk hcd; have HK5 := Aside0.mk (put_below (below_alloc (Below.refl _ w1) (.cells #[] 33)) HS3.out hg5); have HA5 := Aside0.mk (below_read HK5.out HL3.out); have HB5 := Aside0.mk (below_on HK3.out HK5.out); clear ho5 hg5 hCd hcd hn1 hn2; obtain rfl := HN.out) | ((with_reducible refine gate_dst (N := 39) rfl ?_); refine lit_event2 (n := 2) ?hg (N := 39) ?hd (cs := #[.int .i64 0, .slice (some ⟨ga, 0, none⟩) 3 3, .int .i64 0, .slice Ad (lActs 9 10).length cd]) (t := 49) ?hr ?_; (case hd => rfl); (case hg => rfl); (case hr => first | (go_simp; done) | (go_simp; rfl)); intro gc hgg w6 hlit hb; have HLw6 := Aside0.mk hlit; have HKw6 := Aside0.mk hb; have HGw6 := Aside0.mk hgg; have HA6 := Aside0.mk (below_read hb HA5.out); have HD6 := Aside0.mk (Kd.C_below HD5.out hb); have HB6 := Aside0.mk (below_on HB5.out hb); clear hlit hb hgg) | ((with_reducible refine gate_dst (N := 8) rfl ?_); refine box_event ?hg (N := 8) ?hd (cs := #[.slice none 0 0, .slice none 0 0, .int .i64 0, .slice none 0 0]) (t := 25) ?hr ?_; (case hd => rfl); (case hg => rfl); (case hr => first | (go_simp; done) | (go_simp; rfl)); intro gv hgg w7 hlit hb; have HLw7 := Aside0.mk hlit; have HKw7 := Aside0.mk hb; have HGw7 := Aside0.mk hgg; skip; clear hlit hb hgg) | ((with_reducible refine gate_store (t := 25) (p := 8) rfl ?_); refine put_row ?hg ?hn 25 (.tmp 8) (.tmp 40) ?ho gv 25 _ (#[.slice none 0 0, .slice none 0 0, .int .i64 1, .slice (some ⟨gc, 0, none⟩) 2 2]) ?hp ?hx ?hu HLw7.out ?ht ?hs ?h1 ?_; (case hg => rfl); (case hn => rfl); (case ho => rfl); (case hp => rfl); (case hx => rfl); (case hu => rfl); (case ht => kernel_rfl); (case hs => rfl); (case h1 => exact unit_one _ _ _ _); intro w8 hlit hg; have HLw8 := Aside0.mk hlit; have HKw8 := Aside0.mk (put_below HKw7.out HGw7.out hg); have hu0 := (blk_cell hlit 0).trans rfl; have hu1 := (blk_cell hlit 1).trans rfl; have hu2 := (blk_cell hlit 2).trans rfl; have hu3 := (blk_cell hlit 3).trans rfl; have HB8 := Aside0.mk (below_on HB6.out HKw8.out); have HA8 := Aside0.mk (below_read HKw8.out HA6.out); have HC8 := Aside0.mk (below_read HKw8.out HLw6.out); have HD8 := Aside0.mk (Kd.C_below HD6.out HKw8.out); clear hlit hg))
  go_at_call 19
  refine (new_live w8 none 0 [] none 0 [] 1 (some ⟨gc, 0, none⟩) 2 (lCs 9 10) (C_none _ _) (Nat.le_refl _) (C_none _ _) (Nat.le_refl _) (C49_two w8 gc ⟨0, (lActs 9 10)⟩ ⟨0, (lActs 9 10)⟩ (some ⟨ga, 0, none⟩) 3 (by decide) (C33_lit w8 ga (lActs 9 10) HA8.out (by decide)) Ad cd HCD.out HD8.out HC8.out) (Nat.le_refl _) (ok_l 9 10 (by decide) (by decide))).mono ?_
  rintro e w9 ⟨ph, rfl, hL, hb9⟩
  have H9 := Aside0.mk hL
  have HB9 := Aside0.mk (below_on HB8.out hb9)
  clear hu0 hu1 hu2 hu3 hL hb9
  go_wp2_with fail
  go_loopg [11] l.length (fun gg s11 wr => ∃ (i : Nat) (s : St), i ≤ l.length ∧ l.length - i ≤ gg ∧ s11 = .int .i64 i ∧ Aside0 (Live w8.heap.size w9.heap.size wr ph (lCs 9 10) 0 s ∧ LSt false false s ∧ s.bad = none ∧ Below w.heap.size w wr))
  case atStart => exact ⟨0, _, Nat.zero_le _, by omega, rfl, ⟨H9.out, .inl (LIn.start _ _), rfl, HB9.out⟩⟩
  case round =>
    clear H9 HB9
    obtain ⟨i, s, hi, hgg, rfl, HL⟩ := hrel
    by_cases hlt : i < l.length
    · have hltz : (i : Int) < (l.length : Int) := by omega
      obtain ⟨ad, rfl, hcell⟩ := Kd.at_int (Kd.C_below HC.out HL.out.2.2.2) (i : Int) (by omega) hltz
      rw [Int.toNat_natCast] at hcell
      generalize rd l (i : Int) = x at hcell
      go_wp2_with fail
      have ht := and_one x
      generalize bits BinOp.and IntKind.i64 x 1 = t at ht
      clear hcell
      obtain ⟨o, ho⟩ : ∃ o : Int, ownOf s 0 = o := ⟨_, rfl⟩
      have HO := Aside0.mk ho
      have HT := Aside0.mk ht
      refine (HL.out.1.owner 0 ho).mono ?_
      rintro e w10 ⟨rfl, hb⟩
      have H10 := Aside0.mk (HL.out.1.below hb)
      have HB10 := Aside0.mk (below_on HL.out.2.2.2 hb)
      clear hb ho ht
      go_wp2_with fail
      obtain ⟨did, hd⟩ : ∃ d : Bool, (nxt (lCs 9 10) s t).isSome = d := ⟨_, rfl⟩
      refine (H10.out.step t 0 hd).mono ?_
      rintro e w11 ⟨rfl, hs⟩
      have HD := Aside0.mk hd
      have H11 := Aside0.mk hs.1
      have HB11 := Aside0.mk (Chg.below HB10.out HB10.out.size HB8.out.size hs.2)
      clear hs hd
      rcases l_all false false s HL.out.2.1 t HT.out with ⟨p, hbad, haf⟩ | ⟨hbad, hst, hor⟩
      · exact absurd haf (by decide)
      · have HX : Aside0 ((stepP (lCs 9 10) 0 s t 0).bad = none) := ⟨hbad⟩
        have HS : Aside0 (LSt false false (stepP (lCs 9 10) 0 s t 0)) := ⟨hst⟩
        obtain ⟨n, hn⟩ : ∃ n : Int, atOf (lCs 9 10) (stepP (lCs 9 10) 0 s t 0) t = n := ⟨_, rfl⟩
        have hor2 : did = true ∨ n ≠ 0 ∨ o = 1 - t := by
          rcases hor with h | h | h
          · exact .inl (HD.out.symm.trans h)
          · exact .inr (.inl (by rw [← hn]; exact h))
          · exact .inr (.inr (HO.out.symm.trans h))
        have HN := Aside0.mk hn
        clear hbad hst hor hn
        go_wp2_with (first | (go_at_call 27; (with_reducible refine (H11.out.fault_no HX.out).mono ?_); rintro e w12 ⟨rfl, hb⟩; have HB12 := Aside0.mk (below_on HB11.out hb); have HK12 := Aside0.mk hb; clear hb) | ((with_reducible refine gate_dst (N := 15) rfl ?_); refine box_event ?hg (N := 15) ?hd (cs := #[.int .i64 0, .int .i64 0, .int .i64 0]) (t := 52) ?hr ?_; (case hd => rfl); (case hg => rfl); (case hr => first | (go_simp; done) | (go_simp; rfl)); intro g15 hgg w13 hlit hb; have HLw13 := Aside0.mk hlit; have HKw13 := Aside0.mk hb; have HGw13 := Aside0.mk hgg; skip; clear hlit hb hgg) | ((with_reducible refine gate_store (t := 52) (p := 15) rfl ?_); refine put_row ?hg ?hn 52 (.tmp 15) (.tmp 71) ?ho g15 52 _ (#[.int .i64 0, .int .i64 0, .int .i64 0]) ?hp ?hx ?hu HLw13.out ?ht ?hs ?h1 ?_; (case hg => rfl); (case hn => rfl); (case ho => rfl); (case hp => rfl); (case hx => rfl); (case hu => rfl); (case ht => kernel_rfl); (case hs => rfl); (case h1 => exact f52_one 0 0 0); intro w14 hlit hg; have HLw14 := Aside0.mk hlit; have HKw14 := Aside0.mk (put_below HKw13.out HGw13.out hg); have HB14 := Aside0.mk (below_on HB12.out HKw14.out); have H14 := Aside0.mk (H11.out.below (below_on HK12.out HKw14.out)); clear hlit hg))
        go_at_call 24
        refine (H14.out.at_ t HN.out).mono ?_
        rintro e w15 ⟨rfl, hb⟩
        have HB15 := Aside0.mk (below_on HB14.out hb)
        have H15 := Aside0.mk (H14.out.below hb)
        have ht0 : 0 ≤ t := by have := HT.out; omega
        have ht1 : t ≤ 1 := by have := HT.out; omega
        clear hb
        rcases hor2 with h | h | h
        · subst h
          go_wp2_with fail
          all_goals
            go_roundg (l.length - (i + 1))
            case measure => omega
            case rel => exact ⟨i + 1, _, by omega, by omega, by go_num, ⟨H15.out, HS.out, HX.out, HB15.out⟩⟩
        · have hnb : (n == 0) = false := beq_eq_false_iff_ne.mpr h
          clear h
          go_wp2_with fail
          go_roundg (l.length - (i + 1))
          case measure => omega
          case rel => exact ⟨i + 1, _, by omega, by omega, by go_num, ⟨H15.out, HS.out, HX.out, HB15.out⟩⟩
        · subst h
          go_wp2_with fail
          all_goals
            go_roundg (l.length - (i + 1))
            case measure => omega
            case rel => exact ⟨i + 1, _, by omega, by omega, by go_num, ⟨H15.out, HS.out, HX.out, HB15.out⟩⟩
    · have hltz : ¬ (i : Int) < (l.length : Int) := by omega
      go_wp2_with (go_at_call 23; refine (known_calls _).mono ?_; rintro e w10 ⟨rfl, hb⟩)
      go_ret
      exact ⟨rfl, below_on HL.out.2.2.2 hb⟩
set_option maxHeartbeats 16000000 in
set_option maxRecDepth 100000 in
theorem locks_ft (w : World) (A0 : Option Addr) (c0 : Nat) (l : List Int) (hC : Kd.C (Kd.int .i64) w A0 l.length l) (hl : l.length ≤ 60) : Calls Try.prog 6 #[.slice A0 l.length c0, .bool false, .bool true] w fun e w' => e = .returned (.bool true) ∧ Below w.heap.size w w' := by
  have HC := Aside0.mk hC
  have hlz : ¬ (60 : Int) < (l.length : Int) := by omega
  clear hC
  go_enter Try.func6, Try.ntmps6
  go_wp2_with (first | ((with_reducible refine gate_dst (N := 24) rfl ?_); refine lit_event3 3 ?hg (N := 24) ?hd (cs := #[.int .i64 9, .int .i64 0, .int .i64 0, .int .i64 0, .int .i64 0, .int .i64 0, .int .i64 0, .int .i64 1, .int .i64 0, .int .i64 10, .int .i64 0, .int .i64 0, .int .i64 0, .int .i64 0, .int .i64 0, .int .i64 0, .int .i64 2, .int .i64 0, .int .i64 14, .int .i64 0, .int .i64 0, .int .i64 0, .int .i64 0, .int .i64 0, .int .i64 0, .int .i64 2, .int .i64 0]) (t := 33) ?hr ?_; (case hd => rfl); (case hg => rfl); (case hr => first | (go_simp; done) | (go_simp; rfl)); intro n hnn ga hgg w1 hlit hb; have HLw1 := Aside0.mk hlit; have HKw1 := Aside0.mk hb; have HGw1 := Aside0.mk hgg; have hn1 : (0 : Int) < (n : Int) := (by omega); have hn2 : (1 : Int) < (n : Int) := (by omega); have HN := Aside0.mk hnn; clear hnn; have hz0 : w1.cell? ⟨ga, 0, none⟩ = some (.int .i64 9) := (blk_cell HLw1.out 0).trans rfl; have hq0 : w1.frozen? ⟨ga, 0, none⟩ = false := blk_frozen HLw1.out 0; have hz9 : w1.cell? ⟨ga, 9, none⟩ = some (.int .i64 10) := (blk_cell HLw1.out 9).trans rfl; have hq9 : w1.frozen? ⟨ga, 9, none⟩ = false := blk_frozen HLw1.out 9; clear hlit hb hgg) | ((with_reducible refine gate_dst (N := 37) rfl ?_); have HS3 : Aside0 (w1.heap.size = (w1.setCell ⟨ga, 0, none⟩ (.int .i64 10)).heap.size) := ⟨by first | rfl | simp only [setCell_size]⟩; have HL3 := Aside0.mk ((blk_put (HLw1.out) 0 (.int .i64 10) rfl)); have HK3 := Aside0.mk ((put_below (HKw1.out) HGw1.out (set_grown w1 ga 0 (.int .i64 10)))); have HA4 := Aside0.mk (below_read (below_alloc (Below.refl _ (w1.setCell ⟨ga, 0, none⟩ (.int .i64 10))) (.cells #[] 33)) HL3.out); have HE4 := Aside0.mk (blk_new (w1.setCell ⟨ga, 0, none⟩ (.int .i64 10)) (.cells #[] 33)); rw [← HS3.out] at HE4; refine Kd.R_append_rows k33 (Rr := k33.K ((w1.setCell ⟨ga, 0, none⟩ (.int .i64 10)).alloc (.cells #[] 33))) (w0 := ((w1.setCell ⟨ga, 0, none⟩ (.int .i64 10)).alloc (.cells #[] 33))) 0 ?hg (.tmp 35) (.tmp 36) 47 33 _ 72 ?ho Try.underlying47 info33 ?hz ?hs0 ?hb (.slice (some ⟨w1.heap.size, 0, none⟩) 0 0) [] (lActs 10 10) (some ⟨ga, 0, none⟩) n n (fun _ => True) (fun _ => False) ?hs ?hx ?HO ?HR ?HKM ?hokp ?hfresh ?HB ?hbase ?hl ?_; (case hg => rfl); (case ho => rfl); (case hz => rfl); (case hs0 => decide); (case hb => decide); (case hs => rfl); (case hx => rfl); (case HO => exact ⟨fun _ _ => trivial, [], own_empty HE4.out (Nat.zero_le _), Reps.none _ _⟩); (case HR => rw [HN.out]; exact C33_lit _ ga (lActs 10 10) HA4.out (by decide)); (case HKM => intro x cs hk; rw [k33_open hk]; exact k33_mkM _ _ _ x); (case hokp => intro k hk; exact hk.elim); (case hfresh => exact fun _ _ => trivial); (case HB => exact ⟨rfl, rfl, rfl, Nat.le_refl _, fun k hk => absurd hk (Nat.not_lt_zero _)⟩); (case hbase => exact Nat.zero_le _); (case hl => rw [HN.out]; decide); intro v5 w5 ho5 _ hg5 _; obtain ⟨Ad, cd, e5, hcd, hCd⟩ := Kd.R_reads (show k33.R 33 w5 0 (fun _ => True) v5 (lActs 10 10) from ho5); subst e5; have HD5 := Aside0.mk hCd; have HCD := Aside0.mk hcd; have HK5 := Aside0.mk (put_below (below_alloc (Below.refl _ (w1.setCell ⟨ga, 0, none⟩ (.int .i64 10))) (.cells #[] 33)) HS3.out hg5); have HA5 := Aside0.mk (below_read HK5.out HL3.out); have HB5 := Aside0.mk (below_on HK3.out HK5.out); clear ho5 hg5 hCd hcd hn1 hn2; obtain rfl := HN.out) | ((with_reducible refine gate_dst (N := 39) rfl ?_); refine lit_event2 (n := 2) ?hg (N := 39) ?hd (cs := #[.int .i64 0, .slice (some ⟨ga, 0, none⟩) 3 3, .int .i64 0, .slice Ad (lActs 10 10).length cd]) (t := 49) ?hr ?_; (case hd => rfl); (case hg => rfl); (case hr => first | (go_simp; done) | (go_simp; rfl)); intro gc hgg w6 hlit hb; have HLw6 := Aside0.mk hlit; have HKw6 := Aside0.mk hb; have HGw6 := Aside0.mk hgg; have HA6 := Aside0.mk (below_read hb HA5.out); have HD6 := Aside0.mk (Kd.C_below HD5.out hb); have HB6 := Aside0.mk (below_on HB5.out hb); clear hlit hb hgg) | ((with_reducible refine gate_dst (N := 8) rfl ?_); refine box_event ?hg (N := 8) ?hd (cs := #[.slice none 0 0, .slice none 0 0, .int .i64 0, .slice none 0 0]) (t := 25) ?hr ?_; (case hd => rfl); (case hg => rfl); (case hr => first | (go_simp; done) | (go_simp; rfl)); intro gv hgg w7 hlit hb; have HLw7 := Aside0.mk hlit; have HKw7 := Aside0.mk hb; have HGw7 := Aside0.mk hgg; skip; clear hlit hb hgg) | ((with_reducible refine gate_store (t := 25) (p := 8) rfl ?_); refine put_row ?hg ?hn 25 (.tmp 8) (.tmp 40) ?ho gv 25 _ (#[.slice none 0 0, .slice none 0 0, .int .i64 1, .slice (some ⟨gc, 0, none⟩) 2 2]) ?hp ?hx ?hu HLw7.out ?ht ?hs ?h1 ?_; (case hg => rfl); (case hn => rfl); (case ho => rfl); (case hp => rfl); (case hx => rfl); (case hu => rfl); (case ht => kernel_rfl); (case hs => rfl); (case h1 => exact unit_one _ _ _ _); intro w8 hlit hg; have HLw8 := Aside0.mk hlit; have HKw8 := Aside0.mk (put_below HKw7.out HGw7.out hg); have hu0 := (blk_cell hlit 0).trans rfl; have hu1 := (blk_cell hlit 1).trans rfl; have hu2 := (blk_cell hlit 2).trans rfl; have hu3 := (blk_cell hlit 3).trans rfl; have HB8 := Aside0.mk (below_on HB6.out HKw8.out); have HA8 := Aside0.mk (below_read HKw8.out HA6.out); have HC8 := Aside0.mk (below_read HKw8.out HLw6.out); have HD8 := Aside0.mk (Kd.C_below HD6.out HKw8.out); clear hlit hg))
  go_at_call 19
  refine (new_live w8 none 0 [] none 0 [] 1 (some ⟨gc, 0, none⟩) 2 (lCs 10 10) (C_none _ _) (Nat.le_refl _) (C_none _ _) (Nat.le_refl _) (C49_two w8 gc ⟨0, (lActs 10 10)⟩ ⟨0, (lActs 10 10)⟩ (some ⟨ga, 0, none⟩) 3 (by decide) (C33_lit w8 ga (lActs 10 10) HA8.out (by decide)) Ad cd HCD.out HD8.out HC8.out) (Nat.le_refl _) (ok_l 10 10 (by decide) (by decide))).mono ?_
  rintro e w9 ⟨ph, rfl, hL, hb9⟩
  have H9 := Aside0.mk hL
  have HB9 := Aside0.mk (below_on HB8.out hb9)
  clear hu0 hu1 hu2 hu3 hL hb9
  go_wp2_with fail
  go_loopg [11] l.length (fun gg s11 wr => ∃ (i : Nat) (s : St), i ≤ l.length ∧ l.length - i ≤ gg ∧ s11 = .int .i64 i ∧ Aside0 (Live w8.heap.size w9.heap.size wr ph (lCs 10 10) 0 s ∧ LSt false true s ∧ s.bad = none ∧ Below w.heap.size w wr))
  case atStart => exact ⟨0, _, Nat.zero_le _, by omega, rfl, ⟨H9.out, LIn.start _ _, rfl, HB9.out⟩⟩
  case round =>
    clear H9 HB9
    obtain ⟨i, s, hi, hgg, rfl, HL⟩ := hrel
    by_cases hlt : i < l.length
    · have hltz : (i : Int) < (l.length : Int) := by omega
      obtain ⟨ad, rfl, hcell⟩ := Kd.at_int (Kd.C_below HC.out HL.out.2.2.2) (i : Int) (by omega) hltz
      rw [Int.toNat_natCast] at hcell
      generalize rd l (i : Int) = x at hcell
      go_wp2_with fail
      have ht := and_one x
      generalize bits BinOp.and IntKind.i64 x 1 = t at ht
      clear hcell
      obtain ⟨o, ho⟩ : ∃ o : Int, ownOf s 0 = o := ⟨_, rfl⟩
      have HO := Aside0.mk ho
      have HT := Aside0.mk ht
      refine (HL.out.1.owner 0 ho).mono ?_
      rintro e w10 ⟨rfl, hb⟩
      have H10 := Aside0.mk (HL.out.1.below hb)
      have HB10 := Aside0.mk (below_on HL.out.2.2.2 hb)
      clear hb ho ht
      go_wp2_with fail
      obtain ⟨did, hd⟩ : ∃ d : Bool, (nxt (lCs 10 10) s t).isSome = d := ⟨_, rfl⟩
      refine (H10.out.step t 0 hd).mono ?_
      rintro e w11 ⟨rfl, hs⟩
      have HD := Aside0.mk hd
      have H11 := Aside0.mk hs.1
      have HB11 := Aside0.mk (Chg.below HB10.out HB10.out.size HB8.out.size hs.2)
      clear hs hd
      rcases l_all false true s HL.out.2.1 t HT.out with ⟨p, hbad, haf⟩ | ⟨hbad, hst, hor⟩
      · have HX : Aside0 ((stepP (lCs 10 10) 0 s t 0).bad = some (t, p, 12)) := ⟨hbad⟩
        clear hbad haf
        go_wp2_with (first | (go_at_call 27; (with_reducible refine (H11.out.fault_yes HX.out).mono ?_); rintro e w12 ⟨rfl, hb⟩; have HB12 := Aside0.mk (below_on HB11.out hb); clear hb) | ((with_reducible refine gate_dst (N := 15) rfl ?_); refine box_event ?hg (N := 15) ?hd (cs := #[.int .i64 0, .int .i64 0, .int .i64 0]) (t := 52) ?hr ?_; (case hd => rfl); (case hg => rfl); (case hr => first | (go_simp; done) | (go_simp; rfl)); intro g15 hgg w13 hlit hb; have HLw13 := Aside0.mk hlit; have HKw13 := Aside0.mk hb; have HGw13 := Aside0.mk hgg; skip; clear hlit hb hgg) | ((with_reducible refine gate_store (t := 52) (p := 15) rfl ?_); refine put_row ?hg ?hn 52 (.tmp 15) (.tmp 71) ?ho g15 52 _ (#[.int .i64 t, .int .i64 p, .int .i64 12]) ?hp ?hx ?hu HLw13.out ?ht ?hs ?h1 ?_; (case hg => rfl); (case hn => rfl); (case ho => rfl); (case hp => rfl); (case hx => rfl); (case hu => rfl); (case ht => kernel_rfl); (case hs => rfl); (case h1 => exact f52_one _ _ _); intro w14 hlit hg; have HLw14 := Aside0.mk hlit; have HKw14 := Aside0.mk (put_below HKw13.out HGw13.out hg); have hf0 := (blk_cell hlit 0).trans rfl; have hf1 := (blk_cell hlit 1).trans rfl; have hf2 := (blk_cell hlit 2).trans rfl; have HB14 := Aside0.mk (below_on HB12.out HKw14.out); clear hlit hg) | (go_at_call 23; (with_reducible refine (known_calls _).mono ?_); rintro e w15 ⟨rfl, hb⟩; have HB15 := Aside0.mk (below_on HB14.out hb); clear hb))
        go_ret
        exact ⟨rfl, HB15.out⟩
      · have HX : Aside0 ((stepP (lCs 10 10) 0 s t 0).bad = none) := ⟨hbad⟩
        have HS : Aside0 (LSt false true (stepP (lCs 10 10) 0 s t 0)) := ⟨hst⟩
        obtain ⟨n, hn⟩ : ∃ n : Int, atOf (lCs 10 10) (stepP (lCs 10 10) 0 s t 0) t = n := ⟨_, rfl⟩
        have hor2 : did = true ∨ n ≠ 0 ∨ o = 1 - t := by
          rcases hor with h | h | h
          · exact .inl (HD.out.symm.trans h)
          · exact .inr (.inl (by rw [← hn]; exact h))
          · exact .inr (.inr (HO.out.symm.trans h))
        have HN := Aside0.mk hn
        clear hbad hst hor hn
        go_wp2_with (first | (go_at_call 27; (with_reducible refine (H11.out.fault_no HX.out).mono ?_); rintro e w12 ⟨rfl, hb⟩; have HB12 := Aside0.mk (below_on HB11.out hb); have HK12 := Aside0.mk hb; clear hb) | ((with_reducible refine gate_dst (N := 15) rfl ?_); refine box_event ?hg (N := 15) ?hd (cs := #[.int .i64 0, .int .i64 0, .int .i64 0]) (t := 52) ?hr ?_; (case hd => rfl); (case hg => rfl); (case hr => first | (go_simp; done) | (go_simp; rfl)); intro g15 hgg w13 hlit hb; have HLw13 := Aside0.mk hlit; have HKw13 := Aside0.mk hb; have HGw13 := Aside0.mk hgg; skip; clear hlit hb hgg) | ((with_reducible refine gate_store (t := 52) (p := 15) rfl ?_); refine put_row ?hg ?hn 52 (.tmp 15) (.tmp 71) ?ho g15 52 _ (#[.int .i64 0, .int .i64 0, .int .i64 0]) ?hp ?hx ?hu HLw13.out ?ht ?hs ?h1 ?_; (case hg => rfl); (case hn => rfl); (case ho => rfl); (case hp => rfl); (case hx => rfl); (case hu => rfl); (case ht => kernel_rfl); (case hs => rfl); (case h1 => exact f52_one 0 0 0); intro w14 hlit hg; have HLw14 := Aside0.mk hlit; have HKw14 := Aside0.mk (put_below HKw13.out HGw13.out hg); have HB14 := Aside0.mk (below_on HB12.out HKw14.out); have H14 := Aside0.mk (H11.out.below (below_on HK12.out HKw14.out)); clear hlit hg))
        go_at_call 24
        refine (H14.out.at_ t HN.out).mono ?_
        rintro e w15 ⟨rfl, hb⟩
        have HB15 := Aside0.mk (below_on HB14.out hb)
        have H15 := Aside0.mk (H14.out.below hb)
        have ht0 : 0 ≤ t := by have := HT.out; omega
        have ht1 : t ≤ 1 := by have := HT.out; omega
        clear hb
        rcases hor2 with h | h | h
        · subst h
          go_wp2_with fail
          all_goals
            go_roundg (l.length - (i + 1))
            case measure => omega
            case rel => exact ⟨i + 1, _, by omega, by omega, by go_num, ⟨H15.out, HS.out, HX.out, HB15.out⟩⟩
        · have hnb : (n == 0) = false := beq_eq_false_iff_ne.mpr h
          clear h
          go_wp2_with fail
          go_roundg (l.length - (i + 1))
          case measure => omega
          case rel => exact ⟨i + 1, _, by omega, by omega, by go_num, ⟨H15.out, HS.out, HX.out, HB15.out⟩⟩
        · subst h
          go_wp2_with fail
          all_goals
            go_roundg (l.length - (i + 1))
            case measure => omega
            case rel => exact ⟨i + 1, _, by omega, by omega, by go_num, ⟨H15.out, HS.out, HX.out, HB15.out⟩⟩
    · have hltz : ¬ (i : Int) < (l.length : Int) := by omega
      go_wp2_with (go_at_call 23; refine (known_calls _).mono ?_; rintro e w10 ⟨rfl, hb⟩)
      go_ret
      exact ⟨rfl, below_on HL.out.2.2.2 hb⟩
set_option maxHeartbeats 16000000 in
set_option maxRecDepth 100000 in
theorem locks_tf (w : World) (A0 : Option Addr) (c0 : Nat) (l : List Int) (hC : Kd.C (Kd.int .i64) w A0 l.length l) (hl : l.length ≤ 60) : Calls Try.prog 6 #[.slice A0 l.length c0, .bool true, .bool false] w fun e w' => e = .returned (.bool true) ∧ Below w.heap.size w w' := by
  have HC := Aside0.mk hC
  have hlz : ¬ (60 : Int) < (l.length : Int) := by omega
  clear hC
  go_enter Try.func6, Try.ntmps6
  go_wp2_with (first | ((with_reducible refine gate_dst (N := 24) rfl ?_); refine lit_event3 3 ?hg (N := 24) ?hd (cs := #[.int .i64 9, .int .i64 0, .int .i64 0, .int .i64 0, .int .i64 0, .int .i64 0, .int .i64 0, .int .i64 1, .int .i64 0, .int .i64 10, .int .i64 0, .int .i64 0, .int .i64 0, .int .i64 0, .int .i64 0, .int .i64 0, .int .i64 2, .int .i64 0, .int .i64 14, .int .i64 0, .int .i64 0, .int .i64 0, .int .i64 0, .int .i64 0, .int .i64 0, .int .i64 2, .int .i64 0]) (t := 33) ?hr ?_; (case hd => rfl); (case hg => rfl); (case hr => first | (go_simp; done) | (go_simp; rfl)); intro n hnn ga hgg w1 hlit hb; have HLw1 := Aside0.mk hlit; have HKw1 := Aside0.mk hb; have HGw1 := Aside0.mk hgg; have hn1 : (0 : Int) < (n : Int) := (by omega); have hn2 : (1 : Int) < (n : Int) := (by omega); have HN := Aside0.mk hnn; clear hnn; have hz0 : w1.cell? ⟨ga, 0, none⟩ = some (.int .i64 9) := (blk_cell HLw1.out 0).trans rfl; have hq0 : w1.frozen? ⟨ga, 0, none⟩ = false := blk_frozen HLw1.out 0; have hz9 : w1.cell? ⟨ga, 9, none⟩ = some (.int .i64 10) := (blk_cell HLw1.out 9).trans rfl; have hq9 : w1.frozen? ⟨ga, 9, none⟩ = false := blk_frozen HLw1.out 9; clear hlit hb hgg) | ((with_reducible refine gate_dst (N := 37) rfl ?_); have HS3 : Aside0 (w1.heap.size = (w1.setCell ⟨ga, 9, none⟩ (.int .i64 9)).heap.size) := ⟨by first | rfl | simp only [setCell_size]⟩; have HL3 := Aside0.mk ((blk_put (HLw1.out) 9 (.int .i64 9) rfl)); have HK3 := Aside0.mk ((put_below (HKw1.out) HGw1.out (set_grown w1 ga 9 (.int .i64 9)))); have HA4 := Aside0.mk (below_read (below_alloc (Below.refl _ (w1.setCell ⟨ga, 9, none⟩ (.int .i64 9))) (.cells #[] 33)) HL3.out); have HE4 := Aside0.mk (blk_new (w1.setCell ⟨ga, 9, none⟩ (.int .i64 9)) (.cells #[] 33)); rw [← HS3.out] at HE4; refine Kd.R_append_rows k33 (Rr := k33.K ((w1.setCell ⟨ga, 9, none⟩ (.int .i64 9)).alloc (.cells #[] 33))) (w0 := ((w1.setCell ⟨ga, 9, none⟩ (.int .i64 9)).alloc (.cells #[] 33))) 0 ?hg (.tmp 35) (.tmp 36) 47 33 _ 72 ?ho Try.underlying47 info33 ?hz ?hs0 ?hb (.slice (some ⟨w1.heap.size, 0, none⟩) 0 0) [] (lActs 9 9) (some ⟨ga, 0, none⟩) n n (fun _ => True) (fun _ => False) ?hs ?hx ?HO ?HR ?HKM ?hokp ?hfresh ?HB ?hbase ?hl ?_; (case hg => rfl); (case ho => rfl); (case hz => rfl); (case hs0 => decide); (case hb => decide); (case hs => rfl); (case hx => rfl); (case HO => exact ⟨fun _ _ => trivial, [], own_empty HE4.out (Nat.zero_le _), Reps.none _ _⟩); (case HR => rw [HN.out]; exact C33_lit _ ga (lActs 9 9) HA4.out (by decide)); (case HKM => intro x cs hk; rw [k33_open hk]; exact k33_mkM _ _ _ x); (case hokp => intro k hk; exact hk.elim); (case hfresh => exact fun _ _ => trivial); (case HB => exact ⟨rfl, rfl, rfl, Nat.le_refl _, fun k hk => absurd hk (Nat.not_lt_zero _)⟩); (case hbase => exact Nat.zero_le _); (case hl => rw [HN.out]; decide); intro v5 w5 ho5 _ hg5 _; obtain ⟨Ad, cd, e5, hcd, hCd⟩ := Kd.R_reads (show k33.R 33 w5 0 (fun _ => True) v5 (lActs 9 9) from ho5); subst e5; have HD5 := Aside0.mk hCd; have HCD := Aside0.mk hcd; have HK5 := Aside0.mk (put_below (below_alloc (Below.refl _ (w1.setCell ⟨ga, 9, none⟩ (.int .i64 9))) (.cells #[] 33)) HS3.out hg5); have HA5 := Aside0.mk (below_read HK5.out HL3.out); have HB5 := Aside0.mk (below_on HK3.out HK5.out); clear ho5 hg5 hCd hcd hn1 hn2; obtain rfl := HN.out) | ((with_reducible refine gate_dst (N := 39) rfl ?_); refine lit_event2 (n := 2) ?hg (N := 39) ?hd (cs := #[.int .i64 0, .slice (some ⟨ga, 0, none⟩) 3 3, .int .i64 0, .slice Ad (lActs 9 9).length cd]) (t := 49) ?hr ?_; (case hd => rfl); (case hg => rfl); (case hr => first | (go_simp; done) | (go_simp; rfl)); intro gc hgg w6 hlit hb; have HLw6 := Aside0.mk hlit; have HKw6 := Aside0.mk hb; have HGw6 := Aside0.mk hgg; have HA6 := Aside0.mk (below_read hb HA5.out); have HD6 := Aside0.mk (Kd.C_below HD5.out hb); have HB6 := Aside0.mk (below_on HB5.out hb); clear hlit hb hgg) | ((with_reducible refine gate_dst (N := 8) rfl ?_); refine box_event ?hg (N := 8) ?hd (cs := #[.slice none 0 0, .slice none 0 0, .int .i64 0, .slice none 0 0]) (t := 25) ?hr ?_; (case hd => rfl); (case hg => rfl); (case hr => first | (go_simp; done) | (go_simp; rfl)); intro gv hgg w7 hlit hb; have HLw7 := Aside0.mk hlit; have HKw7 := Aside0.mk hb; have HGw7 := Aside0.mk hgg; skip; clear hlit hb hgg) | ((with_reducible refine gate_store (t := 25) (p := 8) rfl ?_); refine put_row ?hg ?hn 25 (.tmp 8) (.tmp 40) ?ho gv 25 _ (#[.slice none 0 0, .slice none 0 0, .int .i64 1, .slice (some ⟨gc, 0, none⟩) 2 2]) ?hp ?hx ?hu HLw7.out ?ht ?hs ?h1 ?_; (case hg => rfl); (case hn => rfl); (case ho => rfl); (case hp => rfl); (case hx => rfl); (case hu => rfl); (case ht => kernel_rfl); (case hs => rfl); (case h1 => exact unit_one _ _ _ _); intro w8 hlit hg; have HLw8 := Aside0.mk hlit; have HKw8 := Aside0.mk (put_below HKw7.out HGw7.out hg); have hu0 := (blk_cell hlit 0).trans rfl; have hu1 := (blk_cell hlit 1).trans rfl; have hu2 := (blk_cell hlit 2).trans rfl; have hu3 := (blk_cell hlit 3).trans rfl; have HB8 := Aside0.mk (below_on HB6.out HKw8.out); have HA8 := Aside0.mk (below_read HKw8.out HA6.out); have HC8 := Aside0.mk (below_read HKw8.out HLw6.out); have HD8 := Aside0.mk (Kd.C_below HD6.out HKw8.out); clear hlit hg))
  go_at_call 19
  refine (new_live w8 none 0 [] none 0 [] 1 (some ⟨gc, 0, none⟩) 2 (lCs 9 9) (C_none _ _) (Nat.le_refl _) (C_none _ _) (Nat.le_refl _) (C49_two w8 gc ⟨0, (lActs 9 9)⟩ ⟨0, (lActs 9 9)⟩ (some ⟨ga, 0, none⟩) 3 (by decide) (C33_lit w8 ga (lActs 9 9) HA8.out (by decide)) Ad cd HCD.out HD8.out HC8.out) (Nat.le_refl _) (ok_l 9 9 (by decide) (by decide))).mono ?_
  rintro e w9 ⟨ph, rfl, hL, hb9⟩
  have H9 := Aside0.mk hL
  have HB9 := Aside0.mk (below_on HB8.out hb9)
  clear hu0 hu1 hu2 hu3 hL hb9
  go_wp2_with fail
  go_loopg [11] l.length (fun gg s11 wr => ∃ (i : Nat) (s : St), i ≤ l.length ∧ l.length - i ≤ gg ∧ s11 = .int .i64 i ∧ Aside0 (Live w8.heap.size w9.heap.size wr ph (lCs 9 9) 0 s ∧ LSt true false s ∧ s.bad = none ∧ Below w.heap.size w wr))
  case atStart => exact ⟨0, _, Nat.zero_le _, by omega, rfl, ⟨H9.out, .inl (LIn.start _ _), rfl, HB9.out⟩⟩
  case round =>
    clear H9 HB9
    obtain ⟨i, s, hi, hgg, rfl, HL⟩ := hrel
    by_cases hlt : i < l.length
    · have hltz : (i : Int) < (l.length : Int) := by omega
      obtain ⟨ad, rfl, hcell⟩ := Kd.at_int (Kd.C_below HC.out HL.out.2.2.2) (i : Int) (by omega) hltz
      rw [Int.toNat_natCast] at hcell
      generalize rd l (i : Int) = x at hcell
      go_wp2_with fail
      have ht := and_one x
      generalize bits BinOp.and IntKind.i64 x 1 = t at ht
      clear hcell
      obtain ⟨o, ho⟩ : ∃ o : Int, ownOf s 0 = o := ⟨_, rfl⟩
      have HO := Aside0.mk ho
      have HT := Aside0.mk ht
      refine (HL.out.1.owner 0 ho).mono ?_
      rintro e w10 ⟨rfl, hb⟩
      have H10 := Aside0.mk (HL.out.1.below hb)
      have HB10 := Aside0.mk (below_on HL.out.2.2.2 hb)
      clear hb ho ht
      go_wp2_with fail
      obtain ⟨did, hd⟩ : ∃ d : Bool, (nxt (lCs 9 9) s t).isSome = d := ⟨_, rfl⟩
      refine (H10.out.step t 0 hd).mono ?_
      rintro e w11 ⟨rfl, hs⟩
      have HD := Aside0.mk hd
      have H11 := Aside0.mk hs.1
      have HB11 := Aside0.mk (Chg.below HB10.out HB10.out.size HB8.out.size hs.2)
      clear hs hd
      rcases l_all true false s HL.out.2.1 t HT.out with ⟨p, hbad, haf⟩ | ⟨hbad, hst, hor⟩
      · have HX : Aside0 ((stepP (lCs 9 9) 0 s t 0).bad = some (t, p, 11)) := ⟨hbad⟩
        clear hbad haf
        go_wp2_with (first | (go_at_call 27; (with_reducible refine (H11.out.fault_yes HX.out).mono ?_); rintro e w12 ⟨rfl, hb⟩; have HB12 := Aside0.mk (below_on HB11.out hb); clear hb) | ((with_reducible refine gate_dst (N := 15) rfl ?_); refine box_event ?hg (N := 15) ?hd (cs := #[.int .i64 0, .int .i64 0, .int .i64 0]) (t := 52) ?hr ?_; (case hd => rfl); (case hg => rfl); (case hr => first | (go_simp; done) | (go_simp; rfl)); intro g15 hgg w13 hlit hb; have HLw13 := Aside0.mk hlit; have HKw13 := Aside0.mk hb; have HGw13 := Aside0.mk hgg; skip; clear hlit hb hgg) | ((with_reducible refine gate_store (t := 52) (p := 15) rfl ?_); refine put_row ?hg ?hn 52 (.tmp 15) (.tmp 71) ?ho g15 52 _ (#[.int .i64 t, .int .i64 p, .int .i64 11]) ?hp ?hx ?hu HLw13.out ?ht ?hs ?h1 ?_; (case hg => rfl); (case hn => rfl); (case ho => rfl); (case hp => rfl); (case hx => rfl); (case hu => rfl); (case ht => kernel_rfl); (case hs => rfl); (case h1 => exact f52_one _ _ _); intro w14 hlit hg; have HLw14 := Aside0.mk hlit; have HKw14 := Aside0.mk (put_below HKw13.out HGw13.out hg); have hf0 := (blk_cell hlit 0).trans rfl; have hf1 := (blk_cell hlit 1).trans rfl; have hf2 := (blk_cell hlit 2).trans rfl; have HB14 := Aside0.mk (below_on HB12.out HKw14.out); clear hlit hg) | (go_at_call 23; (with_reducible refine (known_calls _).mono ?_); rintro e w15 ⟨rfl, hb⟩; have HB15 := Aside0.mk (below_on HB14.out hb); clear hb))
        go_ret
        exact ⟨rfl, HB15.out⟩
      · have HX : Aside0 ((stepP (lCs 9 9) 0 s t 0).bad = none) := ⟨hbad⟩
        have HS : Aside0 (LSt true false (stepP (lCs 9 9) 0 s t 0)) := ⟨hst⟩
        obtain ⟨n, hn⟩ : ∃ n : Int, atOf (lCs 9 9) (stepP (lCs 9 9) 0 s t 0) t = n := ⟨_, rfl⟩
        have hor2 : did = true ∨ n ≠ 0 ∨ o = 1 - t := by
          rcases hor with h | h | h
          · exact .inl (HD.out.symm.trans h)
          · exact .inr (.inl (by rw [← hn]; exact h))
          · exact .inr (.inr (HO.out.symm.trans h))
        have HN := Aside0.mk hn
        clear hbad hst hor hn
        go_wp2_with (first | (go_at_call 27; (with_reducible refine (H11.out.fault_no HX.out).mono ?_); rintro e w12 ⟨rfl, hb⟩; have HB12 := Aside0.mk (below_on HB11.out hb); have HK12 := Aside0.mk hb; clear hb) | ((with_reducible refine gate_dst (N := 15) rfl ?_); refine box_event ?hg (N := 15) ?hd (cs := #[.int .i64 0, .int .i64 0, .int .i64 0]) (t := 52) ?hr ?_; (case hd => rfl); (case hg => rfl); (case hr => first | (go_simp; done) | (go_simp; rfl)); intro g15 hgg w13 hlit hb; have HLw13 := Aside0.mk hlit; have HKw13 := Aside0.mk hb; have HGw13 := Aside0.mk hgg; skip; clear hlit hb hgg) | ((with_reducible refine gate_store (t := 52) (p := 15) rfl ?_); refine put_row ?hg ?hn 52 (.tmp 15) (.tmp 71) ?ho g15 52 _ (#[.int .i64 0, .int .i64 0, .int .i64 0]) ?hp ?hx ?hu HLw13.out ?ht ?hs ?h1 ?_; (case hg => rfl); (case hn => rfl); (case ho => rfl); (case hp => rfl); (case hx => rfl); (case hu => rfl); (case ht => kernel_rfl); (case hs => rfl); (case h1 => exact f52_one 0 0 0); intro w14 hlit hg; have HLw14 := Aside0.mk hlit; have HKw14 := Aside0.mk (put_below HKw13.out HGw13.out hg); have HB14 := Aside0.mk (below_on HB12.out HKw14.out); have H14 := Aside0.mk (H11.out.below (below_on HK12.out HKw14.out)); clear hlit hg))
        go_at_call 24
        refine (H14.out.at_ t HN.out).mono ?_
        rintro e w15 ⟨rfl, hb⟩
        have HB15 := Aside0.mk (below_on HB14.out hb)
        have H15 := Aside0.mk (H14.out.below hb)
        have ht0 : 0 ≤ t := by have := HT.out; omega
        have ht1 : t ≤ 1 := by have := HT.out; omega
        clear hb
        rcases hor2 with h | h | h
        · subst h
          go_wp2_with fail
          all_goals
            go_roundg (l.length - (i + 1))
            case measure => omega
            case rel => exact ⟨i + 1, _, by omega, by omega, by go_num, ⟨H15.out, HS.out, HX.out, HB15.out⟩⟩
        · have hnb : (n == 0) = false := beq_eq_false_iff_ne.mpr h
          clear h
          go_wp2_with fail
          go_roundg (l.length - (i + 1))
          case measure => omega
          case rel => exact ⟨i + 1, _, by omega, by omega, by go_num, ⟨H15.out, HS.out, HX.out, HB15.out⟩⟩
        · subst h
          go_wp2_with fail
          all_goals
            go_roundg (l.length - (i + 1))
            case measure => omega
            case rel => exact ⟨i + 1, _, by omega, by omega, by go_num, ⟨H15.out, HS.out, HX.out, HB15.out⟩⟩
    · have hltz : ¬ (i : Int) < (l.length : Int) := by omega
      go_wp2_with (go_at_call 23; refine (known_calls _).mono ?_; rintro e w10 ⟨rfl, hb⟩)
      go_ret
      exact ⟨rfl, below_on HL.out.2.2.2 hb⟩
set_option maxHeartbeats 16000000 in
set_option maxRecDepth 100000 in
theorem locks_tt (w : World) (A0 : Option Addr) (c0 : Nat) (l : List Int) (hC : Kd.C (Kd.int .i64) w A0 l.length l) (hl : l.length ≤ 60) : Calls Try.prog 6 #[.slice A0 l.length c0, .bool true, .bool true] w fun e w' => e = .returned (.bool true) ∧ Below w.heap.size w w' := by
  have HC := Aside0.mk hC
  have hlz : ¬ (60 : Int) < (l.length : Int) := by omega
  clear hC
  go_enter Try.func6, Try.ntmps6
  go_wp2_with (first | ((with_reducible refine gate_dst (N := 24) rfl ?_); refine lit_event3 3 ?hg (N := 24) ?hd (cs := #[.int .i64 9, .int .i64 0, .int .i64 0, .int .i64 0, .int .i64 0, .int .i64 0, .int .i64 0, .int .i64 1, .int .i64 0, .int .i64 10, .int .i64 0, .int .i64 0, .int .i64 0, .int .i64 0, .int .i64 0, .int .i64 0, .int .i64 2, .int .i64 0, .int .i64 14, .int .i64 0, .int .i64 0, .int .i64 0, .int .i64 0, .int .i64 0, .int .i64 0, .int .i64 2, .int .i64 0]) (t := 33) ?hr ?_; (case hd => rfl); (case hg => rfl); (case hr => first | (go_simp; done) | (go_simp; rfl)); intro n hnn ga hgg w1 hlit hb; have HLw1 := Aside0.mk hlit; have HKw1 := Aside0.mk hb; have HGw1 := Aside0.mk hgg; have hn1 : (0 : Int) < (n : Int) := (by omega); have hn2 : (1 : Int) < (n : Int) := (by omega); have HN := Aside0.mk hnn; clear hnn; have hz0 : w1.cell? ⟨ga, 0, none⟩ = some (.int .i64 9) := (blk_cell HLw1.out 0).trans rfl; have hq0 : w1.frozen? ⟨ga, 0, none⟩ = false := blk_frozen HLw1.out 0; have hz9 : w1.cell? ⟨ga, 9, none⟩ = some (.int .i64 10) := (blk_cell HLw1.out 9).trans rfl; have hq9 : w1.frozen? ⟨ga, 9, none⟩ = false := blk_frozen HLw1.out 9; clear hlit hb hgg) | ((with_reducible refine gate_dst (N := 37) rfl ?_); have HS3 : Aside0 (w1.heap.size = ((w1.setCell ⟨ga, 9, none⟩ (.int .i64 9)).setCell ⟨ga, 0, none⟩ (.int .i64 10)).heap.size) := ⟨by first | rfl | simp only [setCell_size]⟩; have HL3 := Aside0.mk ((blk_put ((blk_put (HLw1.out) 9 (.int .i64 9) rfl)) 0 (.int .i64 10) rfl)); have HK3 := Aside0.mk ((put_below ((put_below (HKw1.out) HGw1.out (set_grown w1 ga 9 (.int .i64 9)))) HGw1.out (set_grown (w1.setCell ⟨ga, 9, none⟩ (.int .i64 9)) ga 0 (.int .i64 10)))); have HA4 := Aside0.mk (below_read (below_alloc (Below.refl _ ((w1.setCell ⟨ga, 9, none⟩ (.int .i64 9)).setCell ⟨ga, 0, none⟩ (.int .i64 10))) (.cells #[] 33)) HL3.out); have HE4 := Aside0.mk (blk_new ((w1.setCell ⟨ga, 9, none⟩ (.int .i64 9)).setCell ⟨ga, 0, none⟩ (.int .i64 10)) (.cells #[] 33)); rw [← HS3.out] at HE4; refine Kd.R_append_rows k33 (Rr := k33.K (((w1.setCell ⟨ga, 9, none⟩ (.int .i64 9)).setCell ⟨ga, 0, none⟩ (.int .i64 10)).alloc (.cells #[] 33))) (w0 := (((w1.setCell ⟨ga, 9, none⟩ (.int .i64 9)).setCell ⟨ga, 0, none⟩ (.int .i64 10)).alloc (.cells #[] 33))) 0 ?hg (.tmp 35) (.tmp 36) 47 33 _ 72 ?ho Try.underlying47 info33 ?hz ?hs0 ?hb (.slice (some ⟨w1.heap.size, 0, none⟩) 0 0) [] (lActs 10 9) (some ⟨ga, 0, none⟩) n n (fun _ => True) (fun _ => False) ?hs ?hx ?HO ?HR ?HKM ?hokp ?hfresh ?HB ?hbase ?hl ?_; (case hg => rfl); (case ho => rfl); (case hz => rfl); (case hs0 => decide); (case hb => decide); (case hs => rfl); (case hx => rfl); (case HO => exact ⟨fun _ _ => trivial, [], own_empty HE4.out (Nat.zero_le _), Reps.none _ _⟩); (case HR => rw [HN.out]; exact C33_lit _ ga (lActs 10 9) HA4.out (by decide)); (case HKM => intro x cs hk; rw [k33_open hk]; exact k33_mkM _ _ _ x); (case hokp => intro k hk; exact hk.elim); (case hfresh => exact fun _ _ => trivial); (case HB => exact ⟨rfl, rfl, rfl, Nat.le_refl _, fun k hk => absurd hk (Nat.not_lt_zero _)⟩); (case hbase => exact Nat.zero_le _); (case hl => rw [HN.out]; decide); intro v5 w5 ho5 _ hg5 _; obtain ⟨Ad, cd, e5, hcd, hCd⟩ := Kd.R_reads (show k33.R 33 w5 0 (fun _ => True) v5 (lActs 10 9) from ho5); subst e5; have HD5 := Aside0.mk hCd; have HCD := Aside0.mk hcd; have HK5 := Aside0.mk (put_below (below_alloc (Below.refl _ ((w1.setCell ⟨ga, 9, none⟩ (.int .i64 9)).setCell ⟨ga, 0, none⟩ (.int .i64 10))) (.cells #[] 33)) HS3.out hg5); have HA5 := Aside0.mk (below_read HK5.out HL3.out); have HB5 := Aside0.mk (below_on HK3.out HK5.out); clear ho5 hg5 hCd hcd hn1 hn2; obtain rfl := HN.out) | ((with_reducible refine gate_dst (N := 39) rfl ?_); refine lit_event2 (n := 2) ?hg (N := 39) ?hd (cs := #[.int .i64 0, .slice (some ⟨ga, 0, none⟩) 3 3, .int .i64 0, .slice Ad (lActs 10 9).length cd]) (t := 49) ?hr ?_; (case hd => rfl); (case hg => rfl); (case hr => first | (go_simp; done) | (go_simp; rfl)); intro gc hgg w6 hlit hb; have HLw6 := Aside0.mk hlit; have HKw6 := Aside0.mk hb; have HGw6 := Aside0.mk hgg; have HA6 := Aside0.mk (below_read hb HA5.out); have HD6 := Aside0.mk (Kd.C_below HD5.out hb); have HB6 := Aside0.mk (below_on HB5.out hb); clear hlit hb hgg) | ((with_reducible refine gate_dst (N := 8) rfl ?_); refine box_event ?hg (N := 8) ?hd (cs := #[.slice none 0 0, .slice none 0 0, .int .i64 0, .slice none 0 0]) (t := 25) ?hr ?_; (case hd => rfl); (case hg => rfl); (case hr => first | (go_simp; done) | (go_simp; rfl)); intro gv hgg w7 hlit hb; have HLw7 := Aside0.mk hlit; have HKw7 := Aside0.mk hb; have HGw7 := Aside0.mk hgg; skip; clear hlit hb hgg) | ((with_reducible refine gate_store (t := 25) (p := 8) rfl ?_); refine put_row ?hg ?hn 25 (.tmp 8) (.tmp 40) ?ho gv 25 _ (#[.slice none 0 0, .slice none 0 0, .int .i64 1, .slice (some ⟨gc, 0, none⟩) 2 2]) ?hp ?hx ?hu HLw7.out ?ht ?hs ?h1 ?_; (case hg => rfl); (case hn => rfl); (case ho => rfl); (case hp => rfl); (case hx => rfl); (case hu => rfl); (case ht => kernel_rfl); (case hs => rfl); (case h1 => exact unit_one _ _ _ _); intro w8 hlit hg; have HLw8 := Aside0.mk hlit; have HKw8 := Aside0.mk (put_below HKw7.out HGw7.out hg); have hu0 := (blk_cell hlit 0).trans rfl; have hu1 := (blk_cell hlit 1).trans rfl; have hu2 := (blk_cell hlit 2).trans rfl; have hu3 := (blk_cell hlit 3).trans rfl; have HB8 := Aside0.mk (below_on HB6.out HKw8.out); have HA8 := Aside0.mk (below_read HKw8.out HA6.out); have HC8 := Aside0.mk (below_read HKw8.out HLw6.out); have HD8 := Aside0.mk (Kd.C_below HD6.out HKw8.out); clear hlit hg))
  go_at_call 19
  refine (new_live w8 none 0 [] none 0 [] 1 (some ⟨gc, 0, none⟩) 2 (lCs 10 9) (C_none _ _) (Nat.le_refl _) (C_none _ _) (Nat.le_refl _) (C49_two w8 gc ⟨0, (lActs 10 9)⟩ ⟨0, (lActs 10 9)⟩ (some ⟨ga, 0, none⟩) 3 (by decide) (C33_lit w8 ga (lActs 10 9) HA8.out (by decide)) Ad cd HCD.out HD8.out HC8.out) (Nat.le_refl _) (ok_l 10 9 (by decide) (by decide))).mono ?_
  rintro e w9 ⟨ph, rfl, hL, hb9⟩
  have H9 := Aside0.mk hL
  have HB9 := Aside0.mk (below_on HB8.out hb9)
  clear hu0 hu1 hu2 hu3 hL hb9
  go_wp2_with fail
  go_loopg [11] l.length (fun gg s11 wr => ∃ (i : Nat) (s : St), i ≤ l.length ∧ l.length - i ≤ gg ∧ s11 = .int .i64 i ∧ Aside0 (Live w8.heap.size w9.heap.size wr ph (lCs 10 9) 0 s ∧ LSt true true s ∧ s.bad = none ∧ Below w.heap.size w wr))
  case atStart => exact ⟨0, _, Nat.zero_le _, by omega, rfl, ⟨H9.out, LIn.start _ _, rfl, HB9.out⟩⟩
  case round =>
    clear H9 HB9
    obtain ⟨i, s, hi, hgg, rfl, HL⟩ := hrel
    by_cases hlt : i < l.length
    · have hltz : (i : Int) < (l.length : Int) := by omega
      obtain ⟨ad, rfl, hcell⟩ := Kd.at_int (Kd.C_below HC.out HL.out.2.2.2) (i : Int) (by omega) hltz
      rw [Int.toNat_natCast] at hcell
      generalize rd l (i : Int) = x at hcell
      go_wp2_with fail
      have ht := and_one x
      generalize bits BinOp.and IntKind.i64 x 1 = t at ht
      clear hcell
      obtain ⟨o, ho⟩ : ∃ o : Int, ownOf s 0 = o := ⟨_, rfl⟩
      have HO := Aside0.mk ho
      have HT := Aside0.mk ht
      refine (HL.out.1.owner 0 ho).mono ?_
      rintro e w10 ⟨rfl, hb⟩
      have H10 := Aside0.mk (HL.out.1.below hb)
      have HB10 := Aside0.mk (below_on HL.out.2.2.2 hb)
      clear hb ho ht
      go_wp2_with fail
      obtain ⟨did, hd⟩ : ∃ d : Bool, (nxt (lCs 10 9) s t).isSome = d := ⟨_, rfl⟩
      refine (H10.out.step t 0 hd).mono ?_
      rintro e w11 ⟨rfl, hs⟩
      have HD := Aside0.mk hd
      have H11 := Aside0.mk hs.1
      have HB11 := Aside0.mk (Chg.below HB10.out HB10.out.size HB8.out.size hs.2)
      clear hs hd
      rcases l_all true true s HL.out.2.1 t HT.out with ⟨p, hbad, haf⟩ | ⟨hbad, hst, hor⟩
      · have HX : Aside0 ((stepP (lCs 10 9) 0 s t 0).bad = some (t, p, 12)) := ⟨hbad⟩
        clear hbad haf
        go_wp2_with (first | (go_at_call 27; (with_reducible refine (H11.out.fault_yes HX.out).mono ?_); rintro e w12 ⟨rfl, hb⟩; have HB12 := Aside0.mk (below_on HB11.out hb); clear hb) | ((with_reducible refine gate_dst (N := 15) rfl ?_); refine box_event ?hg (N := 15) ?hd (cs := #[.int .i64 0, .int .i64 0, .int .i64 0]) (t := 52) ?hr ?_; (case hd => rfl); (case hg => rfl); (case hr => first | (go_simp; done) | (go_simp; rfl)); intro g15 hgg w13 hlit hb; have HLw13 := Aside0.mk hlit; have HKw13 := Aside0.mk hb; have HGw13 := Aside0.mk hgg; skip; clear hlit hb hgg) | ((with_reducible refine gate_store (t := 52) (p := 15) rfl ?_); refine put_row ?hg ?hn 52 (.tmp 15) (.tmp 71) ?ho g15 52 _ (#[.int .i64 t, .int .i64 p, .int .i64 12]) ?hp ?hx ?hu HLw13.out ?ht ?hs ?h1 ?_; (case hg => rfl); (case hn => rfl); (case ho => rfl); (case hp => rfl); (case hx => rfl); (case hu => rfl); (case ht => kernel_rfl); (case hs => rfl); (case h1 => exact f52_one _ _ _); intro w14 hlit hg; have HLw14 := Aside0.mk hlit; have HKw14 := Aside0.mk (put_below HKw13.out HGw13.out hg); have hf0 := (blk_cell hlit 0).trans rfl; have hf1 := (blk_cell hlit 1).trans rfl; have hf2 := (blk_cell hlit 2).trans rfl; have HB14 := Aside0.mk (below_on HB12.out HKw14.out); clear hlit hg) | (go_at_call 23; (with_reducible refine (known_calls _).mono ?_); rintro e w15 ⟨rfl, hb⟩; have HB15 := Aside0.mk (below_on HB14.out hb); clear hb))
        go_ret
        exact ⟨rfl, HB15.out⟩
      · have HX : Aside0 ((stepP (lCs 10 9) 0 s t 0).bad = none) := ⟨hbad⟩
        have HS : Aside0 (LSt true true (stepP (lCs 10 9) 0 s t 0)) := ⟨hst⟩
        obtain ⟨n, hn⟩ : ∃ n : Int, atOf (lCs 10 9) (stepP (lCs 10 9) 0 s t 0) t = n := ⟨_, rfl⟩
        have hor2 : did = true ∨ n ≠ 0 ∨ o = 1 - t := by
          rcases hor with h | h | h
          · exact .inl (HD.out.symm.trans h)
          · exact .inr (.inl (by rw [← hn]; exact h))
          · exact .inr (.inr (HO.out.symm.trans h))
        have HN := Aside0.mk hn
        clear hbad hst hor hn
        go_wp2_with (first | (go_at_call 27; (with_reducible refine (H11.out.fault_no HX.out).mono ?_); rintro e w12 ⟨rfl, hb⟩; have HB12 := Aside0.mk (below_on HB11.out hb); have HK12 := Aside0.mk hb; clear hb) | ((with_reducible refine gate_dst (N := 15) rfl ?_); refine box_event ?hg (N := 15) ?hd (cs := #[.int .i64 0, .int .i64 0, .int .i64 0]) (t := 52) ?hr ?_; (case hd => rfl); (case hg => rfl); (case hr => first | (go_simp; done) | (go_simp; rfl)); intro g15 hgg w13 hlit hb; have HLw13 := Aside0.mk hlit; have HKw13 := Aside0.mk hb; have HGw13 := Aside0.mk hgg; skip; clear hlit hb hgg) | ((with_reducible refine gate_store (t := 52) (p := 15) rfl ?_); refine put_row ?hg ?hn 52 (.tmp 15) (.tmp 71) ?ho g15 52 _ (#[.int .i64 0, .int .i64 0, .int .i64 0]) ?hp ?hx ?hu HLw13.out ?ht ?hs ?h1 ?_; (case hg => rfl); (case hn => rfl); (case ho => rfl); (case hp => rfl); (case hx => rfl); (case hu => rfl); (case ht => kernel_rfl); (case hs => rfl); (case h1 => exact f52_one 0 0 0); intro w14 hlit hg; have HLw14 := Aside0.mk hlit; have HKw14 := Aside0.mk (put_below HKw13.out HGw13.out hg); have HB14 := Aside0.mk (below_on HB12.out HKw14.out); have H14 := Aside0.mk (H11.out.below (below_on HK12.out HKw14.out)); clear hlit hg))
        go_at_call 24
        refine (H14.out.at_ t HN.out).mono ?_
        rintro e w15 ⟨rfl, hb⟩
        have HB15 := Aside0.mk (below_on HB14.out hb)
        have H15 := Aside0.mk (H14.out.below hb)
        have ht0 : 0 ≤ t := by have := HT.out; omega
        have ht1 : t ≤ 1 := by have := HT.out; omega
        clear hb
        rcases hor2 with h | h | h
        · subst h
          go_wp2_with fail
          all_goals
            go_roundg (l.length - (i + 1))
            case measure => omega
            case rel => exact ⟨i + 1, _, by omega, by omega, by go_num, ⟨H15.out, HS.out, HX.out, HB15.out⟩⟩
        · have hnb : (n == 0) = false := beq_eq_false_iff_ne.mpr h
          clear h
          go_wp2_with fail
          go_roundg (l.length - (i + 1))
          case measure => omega
          case rel => exact ⟨i + 1, _, by omega, by omega, by go_num, ⟨H15.out, HS.out, HX.out, HB15.out⟩⟩
        · subst h
          go_wp2_with fail
          all_goals
            go_roundg (l.length - (i + 1))
            case measure => omega
            case rel => exact ⟨i + 1, _, by omega, by omega, by go_num, ⟨H15.out, HS.out, HX.out, HB15.out⟩⟩
    · have hltz : ¬ (i : Int) < (l.length : Int) := by omega
      go_wp2_with (go_at_call 23; refine (known_calls _).mono ?_; rintro e w10 ⟨rfl, hb⟩)
      go_ret
      exact ⟨rfl, below_on HL.out.2.2.2 hb⟩
set_option maxHeartbeats 2000000 in
theorem MachLocks_calls (w : World) (A0 : Option Addr) (c0 : Nat) (l : List Int) (hC : Kd.C (Kd.int .i64) w A0 l.length l) (hc : l.length ≤ c0) (hm : l.length ≤ maxLen) (again free : Bool) : Calls Try.prog 6 #[.slice A0 l.length c0, .bool again, .bool free] w fun e w' => e = .returned (.bool true) ∧ Below w.heap.size w w' := by
  by_cases hl : l.length ≤ 60
  · cases again <;> cases free
    · exact locks_ff w A0 c0 l hC hl
    · exact locks_ft w A0 c0 l hC hl
    · exact locks_tf w A0 c0 l hC hl
    · exact locks_tt w A0 c0 l hC hl
  · have hlz : (60 : Int) < (l.length : Int) := by omega
    clear hC hc hm hl
    go_enter Try.func6, Try.ntmps6
    go_wp2
    go_ret
    exact ⟨rfl, Below.refl _ _⟩
end Go.Proofs.Ytikjamcemnbhbaa.Mr
