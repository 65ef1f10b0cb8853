/- An own text of this seat: Lean functions with the answers of Go functions, and that the Go code comes to them. Written by a program of this session out of the translation. -/
import Derived.Test.YtadnjibgdpjnlaaRpx0
import Derived.Test.YtadnjibgdpjnlaaRpF28
import Derived.Test.YtadnjibgdpjnlaaRpF31
namespace Go.Proofs.Ytadnjibgdpjnlaa.Rp
open Go.RowKit Go.Proofs.YtadnjibgdpjnlaaW.PrintWords Go.Proofs.YtadnjibgdpjnlaaW.PrintLast Go.Proofs.YtadnjibgdpjnlaaW.PrintMore
attribute [local go_sem] max2_int min2_int max_two min_two max_three min_three max_four min_four   -- for this text's walks alone
set_option linter.unusedVariables false
set_option linter.unusedSimpArgs false

/-! ### meddlerref15_All: function 21 -/
mutual
def meddlerref15_All.l0 : Nat → List (S31) → List (S24) → Int → Option ((List (S24)))
  | 0, _, _, _ => none
  | k + 1, x0, x3, x4 => if x4 < (x0.length : Int) then (meddlerref15_All.l1 k x0 x3 x4 0) else (some x3)
def meddlerref15_All.l1 : Nat → List (S31) → List (S24) → Int → Int → Option ((List (S24)))
  | 0, _, _, _, _ => none
  | k + 1, x0, x3, x4, x5 => if x5 < (x0.length : Int) then (if 0 ≤ x4 then (if x4 < (x0.length : Int) then (if 0 ≤ x5 then (if ((rd_T31 x0 x4).f0) < ((rd_T31 x0 x5).f0) then ((meddlerref15_Meet.f ((rd_T31 x0 x4).f0) ((rd_T31 x0 x4).f1) ((rd_T31 x0 x4).f2) ((rd_T31 x0 x4).f3) ((rd_T31 x0 x4).f4) ((rd_T31 x0 x4).f5) ((rd_T31 x0 x5).f0) ((rd_T31 x0 x5).f1) ((rd_T31 x0 x5).f2) ((rd_T31 x0 x5).f3) ((rd_T31 x0 x5).f4) ((rd_T31 x0 x5).f5)).bind fun t338 => (if t338 = true then ((meddlerref15_Lay.f k x3 2 ((rd_T31 x0 x4).f0) ((rd_T31 x0 x4).f1) 0 ((rd_T31 x0 x5).f0) ((rd_T31 x0 x5).f1)).bind fun t343 => (meddlerref15_All.l1 k x0 t343 x4 (wrap64 (x5 + 1)))) else (meddlerref15_All.l1 k x0 x3 x4 (wrap64 (x5 + 1))))) else (meddlerref15_All.l1 k x0 x3 x4 (wrap64 (x5 + 1)))) else (none)) else (none)) else (none)) else (meddlerref15_All.l0 k x0 x3 (wrap64 (x4 + 1)))
end
def meddlerref15_All.f (k : Nat) (l0 : List (S31)) : Option ((List (S24))) := meddlerref15_All.l0 k l0 ([] : List (S24)) 0
theorem meddlerref15_All.mono_l : ∀ k, (∀ y0 y1 y2, LeO (meddlerref15_All.l0 k y0 y1 y2) (meddlerref15_All.l0 (k + 1) y0 y1 y2)) ∧ (∀ y0 y1 y2 y3, LeO (meddlerref15_All.l1 k y0 y1 y2 y3) (meddlerref15_All.l1 (k + 1) y0 y1 y2 y3))
  | 0 => ⟨fun _ _ _ r h => by simp [meddlerref15_All.l0] at h, fun _ _ _ _ r h => by simp [meddlerref15_All.l1] at h⟩
  | k + 1 => by
    obtain ⟨ih0, ih1⟩ := meddlerref15_All.mono_l k
    refine ⟨?_, ?_⟩
    · intro y0 y1 y2
      unfold meddlerref15_All.l0
      repeat' first
      | (with_reducible exact ih0 _ _ _)
      | (with_reducible exact ih1 _ _ _ _)
      | (with_reducible exact meddlerref15_Lay.mono _ _ _ _ _ _ _ _)
      | (with_reducible exact LeO.refl _)
      | (with_reducible exact LeO.none _)
      | (with_reducible refine LeO.ite ?_ ?_)
      | (with_reducible refine LeO.bind ?_ (fun _ => ?_))
      | exact ih0 _ _ _
      | exact ih1 _ _ _ _
      | exact meddlerref15_Lay.mono _ _ _ _ _ _ _ _
      | exact LeO.none _
      | refine LeO.ite ?_ ?_
      | refine LeO.bind ?_ (fun _ => ?_)
    · intro y0 y1 y2 y3
      unfold meddlerref15_All.l1
      repeat' first
      | (with_reducible exact ih0 _ _ _)
      | (with_reducible exact ih1 _ _ _ _)
      | (with_reducible exact meddlerref15_Lay.mono _ _ _ _ _ _ _ _)
      | (with_reducible exact LeO.refl _)
      | (with_reducible exact LeO.none _)
      | (with_reducible refine LeO.ite ?_ ?_)
      | (with_reducible refine LeO.bind ?_ (fun _ => ?_))
      | exact ih0 _ _ _
      | exact ih1 _ _ _ _
      | exact meddlerref15_Lay.mono _ _ _ _ _ _ _ _
      | exact LeO.none _
      | refine LeO.ite ?_ ?_
      | refine LeO.bind ?_ (fun _ => ?_)
theorem meddlerref15_All.mono : ∀ a0 k, LeO (meddlerref15_All.f k a0) (meddlerref15_All.f (k + 1) a0) := by
  intro a0 k
  obtain ⟨ih0, ih1⟩ := meddlerref15_All.mono_l k
  unfold meddlerref15_All.f
  repeat' first
      | (with_reducible exact ih0 _ _ _)
      | (with_reducible exact ih1 _ _ _ _)
      | (with_reducible exact meddlerref15_Lay.mono _ _ _ _ _ _ _ _)
      | (with_reducible exact LeO.refl _)
      | (with_reducible exact LeO.none _)
      | (with_reducible refine LeO.ite ?_ ?_)
      | (with_reducible refine LeO.bind ?_ (fun _ => ?_))
      | exact ih0 _ _ _
      | exact ih1 _ _ _ _
      | exact meddlerref15_Lay.mono _ _ _ _ _ _ _ _
      | exact LeO.none _
      | refine LeO.ite ?_ ?_
      | refine LeO.bind ?_ (fun _ => ?_)
def meddlerref15_All.T8 : Bool × List (List Nat × List Nat) := (true, [([], []), ([], []), ([0, 1], [0, 1]), ([2], [2]), ([3], [3]), ([], []), ([], []), ([5, 6], [5, 6]), ([7], [7]), ([8], [8]), ([4, 9], [4, 9]), ([10], [10]), ([11], [11]), ([11], [11]), ([12, 13, 11], [11, 12, 13]), ([14, 11], [11, 14]), ([11], [11]), ([11], [11]), ([16, 17, 11], [11, 16, 17]), ([18, 11], [11, 18]), ([15, 19, 11, 11], [11, 15, 19]), ([11, 20], [11, 20])])
def meddlerref15_All.B8 : List Nat := [0, 0, 3, 7, 15, 0, 0, 96, 224, 480, 1023, 2047, 4095, 4095, 16383, 32767, 4095, 4095, 200703, 462847, 1048575, 2097151]
theorem meddlerref15_All.tab8 : rtab .any (opsOf Try.f21 8) = meddlerref15_All.T8 := by kernel_rfl
theorem meddlerref15_All.bits8 : waitsOk meddlerref15_All.T8.2 meddlerref15_All.B8 = true := by kernel_rfl
def meddlerref15_All.T9 : Bool × List (List Nat × List Nat) := (true, [([], []), ([], []), ([], []), ([1, 2], [1, 2]), ([3], [3]), ([4], [4]), ([], []), ([], []), ([6, 7], [6, 7]), ([8], [8]), ([9], [9]), ([], []), ([], []), ([11, 12], [11, 12]), ([13], [13]), ([14], [14]), ([], []), ([], []), ([16, 17], [16, 17]), ([18], [18]), ([19], [19]), ([5, 10, 15, 20], [5, 10, 15, 20]), ([0, 21], [0, 21]), ([22, 22, 0, 1, 2, 3, 4, 5, 6, 7, 8, 9, 10, 11, 12, 13, 14, 15, 16, 17, 18, 19, 20, 21, 22], [0, 22])])
def meddlerref15_All.B9 : List Nat := [0, 0, 0, 6, 14, 30, 0, 0, 192, 448, 960, 0, 0, 6144, 14336, 30720, 0, 0, 196608, 458752, 983040, 2097150, 4194303, 8388607]
theorem meddlerref15_All.tab9 : rtab .any (opsOf Try.f21 9) = meddlerref15_All.T9 := by kernel_rfl
theorem meddlerref15_All.bits9 : waitsOk meddlerref15_All.T9.2 meddlerref15_All.B9 = true := by kernel_rfl
set_option maxHeartbeats 8000000 in
set_option maxRecDepth 100000 in
theorem meddlerref15_All.calls (k : Nat) (A0 : Option Addr) (c0 : Nat) (l0 : List (S31)) (r : List (S24)) (w : World) (hr0 : Kd.C k31 w A0 l0.length l0) (hc0 : l0.length ≤ c0) (h : meddlerref15_All.f k l0 = some r) :
    Calls Try.prog 21 #[.slice A0 l0.length c0] w fun e w' => ∃ v0_ : Value, e = .returned (v0_) ∧ Kd.R k24 24 w' w.heap.size (fun _ => True) v0_ r ∧ Below w.heap.size w w' := by
  have hu31 := Try.underlying31
  have hu24 := Try.underlying24
  have HR0 := Aside0.mk hr0
  have HC0 := Aside0.mk hc0
  clear hr0 hc0
  have HB := Aside0.mk (Below.refl w.heap.size w)
  have H : (meddlerref15_All.l0 k l0 ([] : List (S24)) 0) = some r := h
  clear h
  have H' := Aside0.mk H
  clear H
  go_enter Try.func21, Try.ntmps21
  go_wp2
  go_loopg [3, 4] k (fun kq v3 v4 w' => ∃ (x3_1 : List (S24)) (x4_1 : Int), v4 = .int .i64 x4_1 ∧ Aside0 (meddlerref15_All.l0 kq l0 x3_1 x4_1 = some r) ∧ Aside0 (kq ≤ k) ∧ Aside0 (Kd.R k24 24 w' w.heap.size (fun _ => True) v3 x3_1) ∧ Aside0 (Below w.heap.size w w'))
  case atStart => exact ⟨(([] : List (S24))), (0), (by first | rfl | (simp; done) | (simp [*]; done)), H', ⟨Nat.le_refl _⟩, ⟨by first | exact Kd.R_nil _ _ _ _ _ | exact Kd.N_nil _ _ _ _ _ | exact Kd.V_nil _ _ _ _ _ | exact Kd.Q_nil _ _ _ _ _ | exact Kd.S_nil _ _ _ _ _⟩, ⟨by repeat (first | (with_reducible first | exact HB.out | apply below_alloc | apply pw_below_drewN | apply below_drew1) | exact HB.out)⟩⟩
  case round =>
    clear H'
    obtain ⟨x3_1, x4_1, rfl, HA, HK1, HO_3, HB⟩ := hrel
    cases gk with
    | zero => exact absurd HA.out (by simp [meddlerref15_All.l0])
    | succ k1 =>
      have H := HA.out
      clear HA
      simp only [meddlerref15_All.l0] at H
      by_cases c2 : x4_1 < (l0.length : Int)
      · rw [if_pos c2] at H
        have c2b0 : decide (x4_1 < (l0.length : Int)) = true := decide_eq_true c2
        clear c2
        have H' := Aside0.mk H
        clear H
        go_wp2
        go_loopg [3, 5] k1 (fun kq v3 v5 w' => ∃ (x3_2 : List (S24)) (x5_2 : Int), v5 = .int .i64 x5_2 ∧ Aside0 (meddlerref15_All.l1 kq l0 x3_2 x4_1 x5_2 = some r) ∧ Aside0 (kq ≤ k1) ∧ Aside0 (Kd.R k24 24 w' w.heap.size (fun _ => True) v3 x3_2) ∧ Aside0 (Below w.heap.size w w'))
        case atStart => exact ⟨(x3_1), (0), (by first | rfl | (simp; done) | (simp [*]; done)), H', ⟨Nat.le_refl _⟩, ⟨by (with_reducible repeat (first | apply Kd.R_alloc | apply Kd.R_drewN | apply Kd.R_drew)); exact HO_3.out⟩, ⟨by repeat (first | (with_reducible first | exact HB.out | apply below_alloc | apply pw_below_drewN | apply below_drew1) | exact HB.out)⟩⟩
        case round =>
          clear H'
          try clear c2
          try clear c2b0
          try clear p2
          obtain ⟨x3_2, x5_2, rfl, HA, HK2, HO_3, HB⟩ := hrel
          cases gk with
          | zero => exact absurd HA.out (by simp [meddlerref15_All.l1])
          | succ k2 =>
            have H := HA.out
            clear HA
            simp only [meddlerref15_All.l1] at H
            by_cases c3 : x5_2 < (l0.length : Int)
            · rw [if_pos c3] at H
              have c3b0 : decide (x5_2 < (l0.length : Int)) = true := decide_eq_true c3
              clear c3
              by_cases c4 : 0 ≤ x4_1
              · rw [if_pos c4] at H
                have c4b0 : decide (0 ≤ x4_1) = true := decide_eq_true c4
                clear c4
                by_cases c5 : x4_1 < (l0.length : Int)
                · rw [if_pos c5] at H
                  have c5b0 : decide (x4_1 < (l0.length : Int)) = true := decide_eq_true c5
                  clear c5
                  by_cases c6 : 0 ≤ x5_2
                  · rw [if_pos c6] at H
                    have c6b0 : decide (0 ≤ x5_2) = true := decide_eq_true c6
                    clear c6
                    by_cases c7 : ((rd_T31 l0 x4_1).f0) < ((rd_T31 l0 x5_2).f0)
                    · rw [if_pos c7] at H
                      have c7b0 : decide (((rd_T31 l0 x4_1).f0) < ((rd_T31 l0 x5_2).f0)) = true := decide_eq_true c7
                      clear c7
                      replace H := Option.bind_eq_some_iff.mp H
                      obtain ⟨t338, A80, H⟩ := H
                      replace H : (if t338 = true then ((meddlerref15_Lay.f k2 x3_2 2 ((rd_T31 l0 x4_1).f0) ((rd_T31 l0 x4_1).f1) 0 ((rd_T31 l0 x5_2).f0) ((rd_T31 l0 x5_2).f1)).bind fun t343 => (meddlerref15_All.l1 k2 l0 t343 x4_1 (wrap64 (x5_2 + 1)))) else (meddlerref15_All.l1 k2 l0 x3_2 x4_1 (wrap64 (x5_2 + 1)))) = some r := H
                      have A8 := Aside0.mk A80
                      clear A80
                      by_cases c9 : t338 = true
                      · subst c9
                        have H1 : ((meddlerref15_Lay.f k2 x3_2 2 ((rd_T31 l0 x4_1).f0) ((rd_T31 l0 x4_1).f1) 0 ((rd_T31 l0 x5_2).f0) ((rd_T31 l0 x5_2).f1)).bind fun t343 => (meddlerref15_All.l1 k2 l0 t343 x4_1 (wrap64 (x5_2 + 1)))) = some r := by rw [if_pos rfl] at H; exact H
                        clear H
                        have H := H1
                        clear H1
                        replace H := Option.bind_eq_some_iff.mp H
                        obtain ⟨t343, A100, H⟩ := H
                        replace H : (meddlerref15_All.l1 k2 l0 t343 x4_1 (wrap64 (x5_2 + 1))) = some r := H
                        have A10 := Aside0.mk A100
                        clear A100
                        have H' := Aside0.mk H
                        clear H
                        try go_wp2
                        have n0_ := Aside0.mk (Kd.R_drew HO_3.out)
                        have n1_ := Aside0.mk (below_drew1 HB.out)
                        clear HO_3
                        clear HB
                        have HO_3 := n0_
                        have HB := n1_
                        clear n0_ n1_
                        have p334 : 0 ≤ (x4_1 : Int) := of_decide_eq_true (by first | (with_reducible assumption) | assumption)
                        have q334 : x4_1 < (l0.length : Int) := of_decide_eq_true (by first | (with_reducible assumption) | assumption)
                        obtain ⟨ad334, e334, hx334_0, hx334_1, hx334_2, hx334_3, hx334_4, hx334_5⟩ := at_T31 HR0.out x4_1 p334 q334
                        have hw334_5 := hx334_5
                        have hw334_4 := hx334_4
                        have hw334_3 := hx334_3
                        have hw334_2 := hx334_2
                        have hw334_1 := hx334_1
                        have hw334_0 := hx334_0
                        cases e334
                        replace hx334_0 := (HB.out.cell (World.block_lt_of_cell? w _ hx334_0)).trans hx334_0
                        replace hx334_1 := (HB.out.cell (World.block_lt_of_cell? w _ hx334_1)).trans hx334_1
                        replace hx334_2 := (HB.out.cell (World.block_lt_of_cell? w _ hx334_2)).trans hx334_2
                        replace hx334_3 := (HB.out.cell (World.block_lt_of_cell? w _ hx334_3)).trans hx334_3
                        replace hx334_4 := (HB.out.cell (World.block_lt_of_cell? w _ hx334_4)).trans hx334_4
                        replace hx334_5 := (HB.out.cell (World.block_lt_of_cell? w _ hx334_5)).trans hx334_5
                        replace p334 := eq_true p334
                        replace q334 := eq_true q334
                        have p335 : 0 ≤ (x5_2 : Int) := of_decide_eq_true (by first | (with_reducible assumption) | assumption)
                        have q335 : x5_2 < (l0.length : Int) := of_decide_eq_true (by first | (with_reducible assumption) | assumption)
                        obtain ⟨ad335, e335, hx335_0, hx335_1, hx335_2, hx335_3, hx335_4, hx335_5⟩ := at_T31 HR0.out x5_2 p335 q335
                        have hw335_5 := hx335_5
                        have hw335_4 := hx335_4
                        have hw335_3 := hx335_3
                        have hw335_2 := hx335_2
                        have hw335_1 := hx335_1
                        have hw335_0 := hx335_0
                        obtain rfl : ad334 = ad335 := (by injection e335)
                        replace hx335_0 := (HB.out.cell (World.block_lt_of_cell? w _ hx335_0)).trans hx335_0
                        replace hx335_1 := (HB.out.cell (World.block_lt_of_cell? w _ hx335_1)).trans hx335_1
                        replace hx335_2 := (HB.out.cell (World.block_lt_of_cell? w _ hx335_2)).trans hx335_2
                        replace hx335_3 := (HB.out.cell (World.block_lt_of_cell? w _ hx335_3)).trans hx335_3
                        replace hx335_4 := (HB.out.cell (World.block_lt_of_cell? w _ hx335_4)).trans hx335_4
                        replace hx335_5 := (HB.out.cell (World.block_lt_of_cell? w _ hx335_5)).trans hx335_5
                        replace p335 := eq_true p335
                        replace q335 := eq_true q335
                        have p336 : 0 ≤ (x4_1 : Int) := of_decide_eq_true (by first | (with_reducible assumption) | assumption)
                        have q336 : x4_1 < (l0.length : Int) := of_decide_eq_true (by first | (with_reducible assumption) | assumption)
                        obtain ⟨ad336, e336, hx336_0, hx336_1, hx336_2, hx336_3, hx336_4, hx336_5⟩ := at_T31 HR0.out x4_1 p336 q336
                        have hw336_5 := hx336_5
                        have hw336_4 := hx336_4
                        have hw336_3 := hx336_3
                        have hw336_2 := hx336_2
                        have hw336_1 := hx336_1
                        have hw336_0 := hx336_0
                        obtain rfl : ad334 = ad336 := (by injection e336)
                        replace hx336_0 := (HB.out.cell (World.block_lt_of_cell? w _ hx336_0)).trans hx336_0
                        replace hx336_1 := (HB.out.cell (World.block_lt_of_cell? w _ hx336_1)).trans hx336_1
                        replace hx336_2 := (HB.out.cell (World.block_lt_of_cell? w _ hx336_2)).trans hx336_2
                        replace hx336_3 := (HB.out.cell (World.block_lt_of_cell? w _ hx336_3)).trans hx336_3
                        replace hx336_4 := (HB.out.cell (World.block_lt_of_cell? w _ hx336_4)).trans hx336_4
                        replace hx336_5 := (HB.out.cell (World.block_lt_of_cell? w _ hx336_5)).trans hx336_5
                        replace p336 := eq_true p336
                        replace q336 := eq_true q336
                        have p337 : 0 ≤ (x5_2 : Int) := of_decide_eq_true (by first | (with_reducible assumption) | assumption)
                        have q337 : x5_2 < (l0.length : Int) := of_decide_eq_true (by first | (with_reducible assumption) | assumption)
                        obtain ⟨ad337, e337, hx337_0, hx337_1, hx337_2, hx337_3, hx337_4, hx337_5⟩ := at_T31 HR0.out x5_2 p337 q337
                        have hw337_5 := hx337_5
                        have hw337_4 := hx337_4
                        have hw337_3 := hx337_3
                        have hw337_2 := hx337_2
                        have hw337_1 := hx337_1
                        have hw337_0 := hx337_0
                        obtain rfl : ad334 = ad337 := (by injection e337)
                        replace hx337_0 := (HB.out.cell (World.block_lt_of_cell? w _ hx337_0)).trans hx337_0
                        replace hx337_1 := (HB.out.cell (World.block_lt_of_cell? w _ hx337_1)).trans hx337_1
                        replace hx337_2 := (HB.out.cell (World.block_lt_of_cell? w _ hx337_2)).trans hx337_2
                        replace hx337_3 := (HB.out.cell (World.block_lt_of_cell? w _ hx337_3)).trans hx337_3
                        replace hx337_4 := (HB.out.cell (World.block_lt_of_cell? w _ hx337_4)).trans hx337_4
                        replace hx337_5 := (HB.out.cell (World.block_lt_of_cell? w _ hx337_5)).trans hx337_5
                        replace p337 := eq_true p337
                        replace q337 := eq_true q337
                        refine start_ (n := 22) (S := fun w' => w'.cell? (ad334.add ((x4_1).toNat * 6)) = some (.int .i64 ((rd_T31 l0 x4_1).f0)) ∧ w'.cell? ⟨(ad334.add ((x4_1).toNat * 6)).block, (ad334.add ((x4_1).toNat * 6)).off + 1, none⟩ = some (.int .i64 ((rd_T31 l0 x4_1).f1)) ∧ w'.cell? ⟨(ad334.add ((x4_1).toNat * 6)).block, (ad334.add ((x4_1).toNat * 6)).off + 2, none⟩ = some (.bool ((rd_T31 l0 x4_1).f2)) ∧ w'.cell? ⟨(ad334.add ((x4_1).toNat * 6)).block, (ad334.add ((x4_1).toNat * 6)).off + 3, none⟩ = some (.int .i64 ((rd_T31 l0 x4_1).f3)) ∧ w'.cell? ⟨(ad334.add ((x4_1).toNat * 6)).block, (ad334.add ((x4_1).toNat * 6)).off + 4, none⟩ = some (.bool ((rd_T31 l0 x4_1).f4)) ∧ w'.cell? ⟨(ad334.add ((x4_1).toNat * 6)).block, (ad334.add ((x4_1).toNat * 6)).off + 5, none⟩ = some (.int .i64 ((rd_T31 l0 x4_1).f5)) ∧ w'.cell? (ad334.add ((x5_2).toNat * 6)) = some (.int .i64 ((rd_T31 l0 x5_2).f0)) ∧ w'.cell? ⟨(ad334.add ((x5_2).toNat * 6)).block, (ad334.add ((x5_2).toNat * 6)).off + 1, none⟩ = some (.int .i64 ((rd_T31 l0 x5_2).f1)) ∧ w'.cell? ⟨(ad334.add ((x5_2).toNat * 6)).block, (ad334.add ((x5_2).toNat * 6)).off + 2, none⟩ = some (.bool ((rd_T31 l0 x5_2).f2)) ∧ w'.cell? ⟨(ad334.add ((x5_2).toNat * 6)).block, (ad334.add ((x5_2).toNat * 6)).off + 3, none⟩ = some (.int .i64 ((rd_T31 l0 x5_2).f3)) ∧ w'.cell? ⟨(ad334.add ((x5_2).toNat * 6)).block, (ad334.add ((x5_2).toNat * 6)).off + 4, none⟩ = some (.bool ((rd_T31 l0 x5_2).f4)) ∧ w'.cell? ⟨(ad334.add ((x5_2).toNat * 6)).block, (ad334.add ((x5_2).toNat * 6)).off + 5, none⟩ = some (.int .i64 ((rd_T31 l0 x5_2).f5)) ∧ w'.cell? (ad334.add ((x4_1).toNat * 6)) = some (.int .i64 ((rd_T31 l0 x4_1).f0)) ∧ w'.cell? ⟨(ad334.add ((x4_1).toNat * 6)).block, (ad334.add ((x4_1).toNat * 6)).off + 1, none⟩ = some (.int .i64 ((rd_T31 l0 x4_1).f1)) ∧ w'.cell? ⟨(ad334.add ((x4_1).toNat * 6)).block, (ad334.add ((x4_1).toNat * 6)).off + 2, none⟩ = some (.bool ((rd_T31 l0 x4_1).f2)) ∧ w'.cell? ⟨(ad334.add ((x4_1).toNat * 6)).block, (ad334.add ((x4_1).toNat * 6)).off + 3, none⟩ = some (.int .i64 ((rd_T31 l0 x4_1).f3)) ∧ w'.cell? ⟨(ad334.add ((x4_1).toNat * 6)).block, (ad334.add ((x4_1).toNat * 6)).off + 4, none⟩ = some (.bool ((rd_T31 l0 x4_1).f4)) ∧ w'.cell? ⟨(ad334.add ((x4_1).toNat * 6)).block, (ad334.add ((x4_1).toNat * 6)).off + 5, none⟩ = some (.int .i64 ((rd_T31 l0 x4_1).f5)) ∧ w'.cell? (ad334.add ((x5_2).toNat * 6)) = some (.int .i64 ((rd_T31 l0 x5_2).f0)) ∧ w'.cell? ⟨(ad334.add ((x5_2).toNat * 6)).block, (ad334.add ((x5_2).toNat * 6)).off + 1, none⟩ = some (.int .i64 ((rd_T31 l0 x5_2).f1)) ∧ w'.cell? ⟨(ad334.add ((x5_2).toNat * 6)).block, (ad334.add ((x5_2).toNat * 6)).off + 2, none⟩ = some (.bool ((rd_T31 l0 x5_2).f2)) ∧ w'.cell? ⟨(ad334.add ((x5_2).toNat * 6)).block, (ad334.add ((x5_2).toNat * 6)).off + 3, none⟩ = some (.int .i64 ((rd_T31 l0 x5_2).f3)) ∧ w'.cell? ⟨(ad334.add ((x5_2).toNat * 6)).block, (ad334.add ((x5_2).toNat * 6)).off + 4, none⟩ = some (.bool ((rd_T31 l0 x5_2).f4)) ∧ w'.cell? ⟨(ad334.add ((x5_2).toNat * 6)).block, (ad334.add ((x5_2).toNat * 6)).off + 5, none⟩ = some (.int .i64 ((rd_T31 l0 x5_2).f5))) (ds := []) #[false, false, false, false, false, false, false, false, false, false, false, false, false, false, false, false, false, false, false, false, false, false] (by kernel_rfl) rfl rfl ⟨((HB.out.cell (World.block_lt_of_cell? w _ hw334_0)).trans hw334_0), ((HB.out.cell (World.block_lt_of_cell? w _ hw334_1)).trans hw334_1), ((HB.out.cell (World.block_lt_of_cell? w _ hw334_2)).trans hw334_2), ((HB.out.cell (World.block_lt_of_cell? w _ hw334_3)).trans hw334_3), ((HB.out.cell (World.block_lt_of_cell? w _ hw334_4)).trans hw334_4), ((HB.out.cell (World.block_lt_of_cell? w _ hw334_5)).trans hw334_5), ((HB.out.cell (World.block_lt_of_cell? w _ hw335_0)).trans hw335_0), ((HB.out.cell (World.block_lt_of_cell? w _ hw335_1)).trans hw335_1), ((HB.out.cell (World.block_lt_of_cell? w _ hw335_2)).trans hw335_2), ((HB.out.cell (World.block_lt_of_cell? w _ hw335_3)).trans hw335_3), ((HB.out.cell (World.block_lt_of_cell? w _ hw335_4)).trans hw335_4), ((HB.out.cell (World.block_lt_of_cell? w _ hw335_5)).trans hw335_5), ((HB.out.cell (World.block_lt_of_cell? w _ hw336_0)).trans hw336_0), ((HB.out.cell (World.block_lt_of_cell? w _ hw336_1)).trans hw336_1), ((HB.out.cell (World.block_lt_of_cell? w _ hw336_2)).trans hw336_2), ((HB.out.cell (World.block_lt_of_cell? w _ hw336_3)).trans hw336_3), ((HB.out.cell (World.block_lt_of_cell? w _ hw336_4)).trans hw336_4), ((HB.out.cell (World.block_lt_of_cell? w _ hw336_5)).trans hw336_5), ((HB.out.cell (World.block_lt_of_cell? w _ hw337_0)).trans hw337_0), ((HB.out.cell (World.block_lt_of_cell? w _ hw337_1)).trans hw337_1), ((HB.out.cell (World.block_lt_of_cell? w _ hw337_2)).trans hw337_2), ((HB.out.cell (World.block_lt_of_cell? w _ hw337_3)).trans hw337_3), ((HB.out.cell (World.block_lt_of_cell? w _ hw337_4)).trans hw337_4), ((HB.out.cell (World.block_lt_of_cell? w _ hw337_5)).trans hw337_5)⟩ (fun hHeld => ?_); refine with_tabW meddlerref15_All.tab8 meddlerref15_All.bits8 (fun HT_ HW_ => ?_)
                        generalize wr.drew = w11 at HO_3 HB hx334_0 hx334_1 hx334_2 hx334_3 hx334_4 hx334_5 hx335_0 hx335_1 hx335_2 hx335_3 hx335_4 hx335_5 hx336_0 hx336_1 hx336_2 hx336_3 hx336_4 hx336_5 hx337_0 hx337_1 hx337_2 hx337_3 hx337_4 hx337_5 hHeld ⊢
                        refine pure_ (i := 0) (N := some 18) (v := ?_) (a' := ?_) #[true, false, false, false, false, false, false, false, false, false, false, false, false, false, false, false, false, false, false, false, false, false] rfl rfl (any_of HT_.out (by kernel_rfl)) (fun _ _ _ h => h) (Or.inl ⟨by rfl, ?_⟩) ?_ ?_
                        rotate_left
                        · intro w'
                          go_simp
                          with_reducible rfl
                        rotate_left
                        · simp only [Act.put, List.setIfInBounds_toArray, List.set_cons_zero, List.set_cons_succ, i64_w, i32_w]
                          rfl
                        refine pure_ (i := 1) (N := some 19) (v := ?_) (a' := ?_) #[true, true, false, false, false, false, false, false, false, false, false, false, false, false, false, false, false, false, false, false, false, false] rfl rfl (any_of HT_.out (by kernel_rfl)) (fun _ _ _ h => h) (Or.inl ⟨by rfl, ?_⟩) ?_ ?_
                        rotate_left
                        · intro w'
                          go_simp
                          with_reducible rfl
                        rotate_left
                        · simp only [Act.put, List.setIfInBounds_toArray, List.set_cons_zero, List.set_cons_succ, i64_w, i32_w]
                          rfl
                        refine pure_ (i := 2) (N := some 20) (v := ?_) (a' := ?_) #[true, true, true, false, false, false, false, false, false, false, false, false, false, false, false, false, false, false, false, false, false, false] rfl rfl (any_of HT_.out (by kernel_rfl)) (fun _ _ _ h => h) (Or.inl ⟨by rfl, ?_⟩) ?_ ?_
                        rotate_left
                        · intro w'
                          go_simp
                          with_reducible rfl
                        rotate_left
                        · simp only [Act.put, List.setIfInBounds_toArray, List.set_cons_zero, List.set_cons_succ, i64_w, i32_w]
                          rfl
                        refine pure_ (i := 3) (N := some 21) (v := ?_) (a' := ?_) #[true, true, true, true, false, false, false, false, false, false, false, false, false, false, false, false, false, false, false, false, false, false] rfl rfl (any_of HT_.out (by kernel_rfl)) (fun _ _ _ h => h) (Or.inl ⟨by rfl, ?_⟩) ?_ ?_
                        rotate_left
                        · intro w'
                          go_simp
                          with_reducible rfl
                        rotate_left
                        · simp only [Act.put, List.setIfInBounds_toArray, List.set_cons_zero, List.set_cons_succ, i64_w, i32_w]
                          rfl
                        refine pure_ (i := 5) (N := some 23) (v := ?_) (a' := ?_) #[true, true, true, true, false, true, false, false, false, false, false, false, false, false, false, false, false, false, false, false, false, false] rfl rfl (any_of HT_.out (by kernel_rfl)) (fun _ _ _ h => h) (Or.inl ⟨by rfl, ?_⟩) ?_ ?_
                        rotate_left
                        · intro w'
                          go_simp
                          with_reducible rfl
                        rotate_left
                        · simp only [Act.put, List.setIfInBounds_toArray, List.set_cons_zero, List.set_cons_succ, i64_w, i32_w]
                          rfl
                        refine pure_ (i := 6) (N := some 24) (v := ?_) (a' := ?_) #[true, true, true, true, false, true, true, false, false, false, false, false, false, false, false, false, false, false, false, false, false, false] rfl rfl (any_of HT_.out (by kernel_rfl)) (fun _ _ _ h => h) (Or.inl ⟨by rfl, ?_⟩) ?_ ?_
                        rotate_left
                        · intro w'
                          go_simp
                          with_reducible rfl
                        rotate_left
                        · simp only [Act.put, List.setIfInBounds_toArray, List.set_cons_zero, List.set_cons_succ, i64_w, i32_w]
                          rfl
                        refine pure_ (i := 7) (N := some 25) (v := ?_) (a' := ?_) #[true, true, true, true, false, true, true, true, false, false, false, false, false, false, false, false, false, false, false, false, false, false] rfl rfl (any_of HT_.out (by kernel_rfl)) (fun _ _ _ h => h) (Or.inl ⟨by rfl, ?_⟩) ?_ ?_
                        rotate_left
                        · intro w'
                          go_simp
                          with_reducible rfl
                        rotate_left
                        · simp only [Act.put, List.setIfInBounds_toArray, List.set_cons_zero, List.set_cons_succ, i64_w, i32_w]
                          rfl
                        refine pure_ (i := 8) (N := some 26) (v := ?_) (a' := ?_) #[true, true, true, true, false, true, true, true, true, false, false, false, false, false, false, false, false, false, false, false, false, false] rfl rfl (any_of HT_.out (by kernel_rfl)) (fun _ _ _ h => h) (Or.inl ⟨by rfl, ?_⟩) ?_ ?_
                        rotate_left
                        · intro w'
                          go_simp
                          with_reducible rfl
                        rotate_left
                        · simp only [Act.put, List.setIfInBounds_toArray, List.set_cons_zero, List.set_cons_succ, i64_w, i32_w]
                          rfl
                        refine take_ (i := 4) (N := some 22) (v := ?_) (a' := ?_) #[true, true, true, true, true, true, true, true, true, false, false, false, false, false, false, false, false, false, false, false, false, false] rfl rfl (take_ofW HT_.out HW_.out (by kernel_rfl)) (fun _ _ _ h => h) (Or.inl ⟨by rfl, ?_⟩) hHeld ?_ ?_
                        rotate_left
                        · rintro w' ⟨s0, s1, s2, s3, s4, s5, s6, s7, s8, s9, s10, s11, s12, s13, s14, s15, s16, s17, s18, s19, s20, s21, s22, s23⟩
                          go_simp
                          with_reducible rfl
                        rotate_left
                        · simp only [Act.put, List.setIfInBounds_toArray, List.set_cons_zero, List.set_cons_succ, i64_w, i32_w]
                          rfl
                        refine take_ (i := 9) (N := some 27) (v := ?_) (a' := ?_) #[true, true, true, true, true, true, true, true, true, true, false, false, false, false, false, false, false, false, false, false, false, false] rfl rfl (take_ofW HT_.out HW_.out (by kernel_rfl)) (fun _ _ _ h => h) (Or.inl ⟨by rfl, ?_⟩) hHeld ?_ ?_
                        rotate_left
                        · rintro w' ⟨s0, s1, s2, s3, s4, s5, s6, s7, s8, s9, s10, s11, s12, s13, s14, s15, s16, s17, s18, s19, s20, s21, s22, s23⟩
                          go_simp
                          with_reducible rfl
                        rotate_left
                        · simp only [Act.put, List.setIfInBounds_toArray, List.set_cons_zero, List.set_cons_succ, i64_w, i32_w]
                          rfl
                        refine pure_ (i := 10) (N := some 28) (v := ?_) (a' := ?_) #[true, true, true, true, true, true, true, true, true, true, true, false, false, false, false, false, false, false, false, false, false, false] rfl rfl (any_of HT_.out (by kernel_rfl)) (fun _ _ _ h => h) (Or.inl ⟨by rfl, ?_⟩) ?_ ?_
                        rotate_left
                        · intro w'
                          go_simp
                          with_reducible rfl
                        rotate_left
                        · simp only [Act.put, List.setIfInBounds_toArray, List.set_cons_zero, List.set_cons_succ, i64_w, i32_w]
                          rfl
                        refine pure_ (i := 11) (N := some 29) (v := ?_) (a' := ?_) #[true, true, true, true, true, true, true, true, true, true, true, true, false, false, false, false, false, false, false, false, false, false] rfl rfl (any_of HT_.out (by kernel_rfl)) (fun _ _ _ h => h) (Or.inl ⟨by rfl, ?_⟩) ?_ ?_
                        rotate_left
                        · intro w'
                          go_simp
                          with_reducible rfl
                        rotate_left
                        · simp only [Act.put, List.setIfInBounds_toArray, List.set_cons_zero, List.set_cons_succ, i64_w, i32_w]
                          rfl
                        refine pure_ (i := 12) (N := some 30) (v := ?_) (a' := ?_) #[true, true, true, true, true, true, true, true, true, true, true, true, true, false, false, false, false, false, false, false, false, false] rfl rfl (any_of HT_.out (by kernel_rfl)) (fun _ _ _ h => h) (Or.inl ⟨by rfl, ?_⟩) ?_ ?_
                        rotate_left
                        · intro w'
                          go_simp
                          with_reducible rfl
                        rotate_left
                        · simp only [Act.put, List.setIfInBounds_toArray, List.set_cons_zero, List.set_cons_succ, i64_w, i32_w]
                          rfl
                        refine pure_ (i := 13) (N := some 31) (v := ?_) (a' := ?_) #[true, true, true, true, true, true, true, true, true, true, true, true, true, true, false, false, false, false, false, false, false, false] rfl rfl (any_of HT_.out (by kernel_rfl)) (fun _ _ _ h => h) (Or.inl ⟨by rfl, ?_⟩) ?_ ?_
                        rotate_left
                        · intro w'
                          go_simp
                          with_reducible rfl
                        rotate_left
                        · simp only [Act.put, List.setIfInBounds_toArray, List.set_cons_zero, List.set_cons_succ, i64_w, i32_w]
                          rfl
                        refine pure_ (i := 14) (N := some 32) (v := ?_) (a' := ?_) #[true, true, true, true, true, true, true, true, true, true, true, true, true, true, true, false, false, false, false, false, false, false] rfl rfl (any_of HT_.out (by kernel_rfl)) (fun _ _ _ h => h) (Or.inl ⟨by rfl, ?_⟩) ?_ ?_
                        rotate_left
                        · intro w'
                          go_simp
                          with_reducible rfl
                        rotate_left
                        · simp only [Act.put, List.setIfInBounds_toArray, List.set_cons_zero, List.set_cons_succ, i64_w, i32_w]
                          rfl
                        refine pure_ (i := 16) (N := some 34) (v := ?_) (a' := ?_) #[true, true, true, true, true, true, true, true, true, true, true, true, true, true, true, false, true, false, false, false, false, false] rfl rfl (any_of HT_.out (by kernel_rfl)) (fun _ _ _ h => h) (Or.inl ⟨by rfl, ?_⟩) ?_ ?_
                        rotate_left
                        · intro w'
                          go_simp
                          with_reducible rfl
                        rotate_left
                        · simp only [Act.put, List.setIfInBounds_toArray, List.set_cons_zero, List.set_cons_succ, i64_w, i32_w]
                          rfl
                        refine pure_ (i := 17) (N := some 35) (v := ?_) (a' := ?_) #[true, true, true, true, true, true, true, true, true, true, true, true, true, true, true, false, true, true, false, false, false, false] rfl rfl (any_of HT_.out (by kernel_rfl)) (fun _ _ _ h => h) (Or.inl ⟨by rfl, ?_⟩) ?_ ?_
                        rotate_left
                        · intro w'
                          go_simp
                          with_reducible rfl
                        rotate_left
                        · simp only [Act.put, List.setIfInBounds_toArray, List.set_cons_zero, List.set_cons_succ, i64_w, i32_w]
                          rfl
                        refine pure_ (i := 18) (N := some 36) (v := ?_) (a' := ?_) #[true, true, true, true, true, true, true, true, true, true, true, true, true, true, true, false, true, true, true, false, false, false] rfl rfl (any_of HT_.out (by kernel_rfl)) (fun _ _ _ h => h) (Or.inl ⟨by rfl, ?_⟩) ?_ ?_
                        rotate_left
                        · intro w'
                          go_simp
                          with_reducible rfl
                        rotate_left
                        · simp only [Act.put, List.setIfInBounds_toArray, List.set_cons_zero, List.set_cons_succ, i64_w, i32_w]
                          rfl
                        refine take_ (i := 15) (N := some 33) (v := ?_) (a' := ?_) #[true, true, true, true, true, true, true, true, true, true, true, true, true, true, true, true, true, true, true, false, false, false] rfl rfl (take_ofW HT_.out HW_.out (by kernel_rfl)) (fun _ _ _ h => h) (Or.inl ⟨by rfl, ?_⟩) hHeld ?_ ?_
                        rotate_left
                        · rintro w' ⟨s0, s1, s2, s3, s4, s5, s6, s7, s8, s9, s10, s11, s12, s13, s14, s15, s16, s17, s18, s19, s20, s21, s22, s23⟩
                          go_simp
                          with_reducible rfl
                        rotate_left
                        · simp only [Act.put, List.setIfInBounds_toArray, List.set_cons_zero, List.set_cons_succ, i64_w, i32_w]
                          rfl
                        refine take_ (i := 19) (N := some 37) (v := ?_) (a' := ?_) #[true, true, true, true, true, true, true, true, true, true, true, true, true, true, true, true, true, true, true, true, false, false] rfl rfl (take_ofW HT_.out HW_.out (by kernel_rfl)) (fun _ _ _ h => h) (Or.inl ⟨by rfl, ?_⟩) hHeld ?_ ?_
                        rotate_left
                        · rintro w' ⟨s0, s1, s2, s3, s4, s5, s6, s7, s8, s9, s10, s11, s12, s13, s14, s15, s16, s17, s18, s19, s20, s21, s22, s23⟩
                          go_simp
                          with_reducible rfl
                        rotate_left
                        · simp only [Act.put, List.setIfInBounds_toArray, List.set_cons_zero, List.set_cons_succ, i64_w, i32_w]
                          rfl
                        refine one_ (i := 20) (N := some 38) #[true, true, true, true, true, true, true, true, true, true, true, true, true, true, true, true, true, true, true, true, true, false] rfl rfl (one_of HT_.out (by kernel_rfl)) (by decide) (fun K hK => ?_)
                        refine goes_ Try.func31 (by kernel_rfl) rfl #[.agg #[.int .i64 ((rd_T31 l0 x4_1).f0), .int .i64 ((rd_T31 l0 x4_1).f1), .bool ((rd_T31 l0 x4_1).f2), .int .i64 ((rd_T31 l0 x4_1).f3), .bool ((rd_T31 l0 x4_1).f4), .int .i64 ((rd_T31 l0 x4_1).f5)], .agg #[.int .i64 ((rd_T31 l0 x5_2).f0), .int .i64 ((rd_T31 l0 x5_2).f1), .bool ((rd_T31 l0 x5_2).f2), .int .i64 ((rd_T31 l0 x5_2).f3), .bool ((rd_T31 l0 x5_2).f4), .int .i64 ((rd_T31 l0 x5_2).f5)]] (by rfl) rfl rfl (by (try simp only [List.map_toArray, List.map_cons, List.map_nil]); first | done | rfl | (simp only [List.length_drop, List.length_take]; rfl)) ?_
                        with_reducible refine (meddlerref15_Meet.calls ((rd_T31 l0 x4_1).f0) ((rd_T31 l0 x4_1).f1) ((rd_T31 l0 x4_1).f2) ((rd_T31 l0 x4_1).f3) ((rd_T31 l0 x4_1).f4) ((rd_T31 l0 x4_1).f5) ((rd_T31 l0 x5_2).f0) ((rd_T31 l0 x5_2).f1) ((rd_T31 l0 x5_2).f2) ((rd_T31 l0 x5_2).f3) ((rd_T31 l0 x5_2).f4) ((rd_T31 l0 x5_2).f5) true _ A8.out).mono ?_
                        rintro e w12 ⟨rfl, hb⟩
                        refine ⟨_, rfl, ?_⟩
                        have n0_ := Aside0.mk (Kd.R_below (by (with_reducible repeat (first | apply Kd.R_alloc | apply Kd.R_drewN | apply Kd.R_drew)); exact HO_3.out) hb)
                        have n1_ := Aside0.mk (below_step (by repeat (first | (with_reducible first | exact HB.out | apply below_alloc | apply pw_below_drewN | apply below_drew1) | exact HB.out)) hb)
                        clear HO_3
                        clear HB
                        have HO_3 := n0_
                        have HB := n1_
                        clear n0_ n1_
                        (try clear hb)
                        (try clear hb2)
                        (try clear hk)
                        (try clear hi)
                        refine hK.out _ _ ⟨((HB.out.cell (World.block_lt_of_cell? w _ hw334_0)).trans hw334_0), ((HB.out.cell (World.block_lt_of_cell? w _ hw334_1)).trans hw334_1), ((HB.out.cell (World.block_lt_of_cell? w _ hw334_2)).trans hw334_2), ((HB.out.cell (World.block_lt_of_cell? w _ hw334_3)).trans hw334_3), ((HB.out.cell (World.block_lt_of_cell? w _ hw334_4)).trans hw334_4), ((HB.out.cell (World.block_lt_of_cell? w _ hw334_5)).trans hw334_5), ((HB.out.cell (World.block_lt_of_cell? w _ hw335_0)).trans hw335_0), ((HB.out.cell (World.block_lt_of_cell? w _ hw335_1)).trans hw335_1), ((HB.out.cell (World.block_lt_of_cell? w _ hw335_2)).trans hw335_2), ((HB.out.cell (World.block_lt_of_cell? w _ hw335_3)).trans hw335_3), ((HB.out.cell (World.block_lt_of_cell? w _ hw335_4)).trans hw335_4), ((HB.out.cell (World.block_lt_of_cell? w _ hw335_5)).trans hw335_5), ((HB.out.cell (World.block_lt_of_cell? w _ hw336_0)).trans hw336_0), ((HB.out.cell (World.block_lt_of_cell? w _ hw336_1)).trans hw336_1), ((HB.out.cell (World.block_lt_of_cell? w _ hw336_2)).trans hw336_2), ((HB.out.cell (World.block_lt_of_cell? w _ hw336_3)).trans hw336_3), ((HB.out.cell (World.block_lt_of_cell? w _ hw336_4)).trans hw336_4), ((HB.out.cell (World.block_lt_of_cell? w _ hw336_5)).trans hw336_5), ((HB.out.cell (World.block_lt_of_cell? w _ hw337_0)).trans hw337_0), ((HB.out.cell (World.block_lt_of_cell? w _ hw337_1)).trans hw337_1), ((HB.out.cell (World.block_lt_of_cell? w _ hw337_2)).trans hw337_2), ((HB.out.cell (World.block_lt_of_cell? w _ hw337_3)).trans hw337_3), ((HB.out.cell (World.block_lt_of_cell? w _ hw337_4)).trans hw337_4), ((HB.out.cell (World.block_lt_of_cell? w _ hw337_5)).trans hw337_5)⟩ (fun hHeld => ?_)
                        clear hK K
                        refine norm_ (a' := ?_) ?_ ?_
                        rotate_left
                        · show Act.put _ (some 38) _ = _
                          simp only [Act.put, List.setIfInBounds_toArray, List.set_cons_zero, List.set_cons_succ, i64_w, i32_w]
                          rfl
                        refine pure_ (i := 21) (N := some 39) (v := ?_) (a' := ?_) #[true, true, true, true, true, true, true, true, true, true, true, true, true, true, true, true, true, true, true, true, true, true] rfl rfl (any_of HT_.out (by kernel_rfl)) (fun _ _ _ h => h) (Or.inl ⟨by rfl, ?_⟩) ?_ ?_
                        rotate_left
                        · intro w'
                          go_simp
                          with_reducible rfl
                        rotate_left
                        · simp only [Act.put, List.setIfInBounds_toArray, List.set_cons_zero, List.set_cons_succ, i64_w, i32_w]
                          rfl
                        refine done_ (done_of HT_.out (by kernel_rfl)) ?_
                        try go_wp2
                        have n0_ := Aside0.mk (Kd.R_drew HO_3.out)
                        have n1_ := Aside0.mk (below_drew1 HB.out)
                        clear HO_3
                        clear HB
                        have HO_3 := n0_
                        have HB := n1_
                        clear n0_ n1_
                        have p339 : 0 ≤ (x4_1 : Int) := of_decide_eq_true (by first | (with_reducible assumption) | assumption)
                        have q339 : x4_1 < (l0.length : Int) := of_decide_eq_true (by first | (with_reducible assumption) | assumption)
                        obtain ⟨ad339, e339, hx339_0, hx339_1, hx339_2, hx339_3, hx339_4, hx339_5⟩ := at_T31 HR0.out x4_1 p339 q339
                        have hw339_5 := hx339_5
                        have hw339_4 := hx339_4
                        have hw339_3 := hx339_3
                        have hw339_2 := hx339_2
                        have hw339_1 := hx339_1
                        have hw339_0 := hx339_0
                        obtain rfl : ad334 = ad339 := (by injection e339)
                        replace hx339_0 := (HB.out.cell (World.block_lt_of_cell? w _ hx339_0)).trans hx339_0
                        replace hx339_1 := (HB.out.cell (World.block_lt_of_cell? w _ hx339_1)).trans hx339_1
                        replace hx339_2 := (HB.out.cell (World.block_lt_of_cell? w _ hx339_2)).trans hx339_2
                        replace hx339_3 := (HB.out.cell (World.block_lt_of_cell? w _ hx339_3)).trans hx339_3
                        replace hx339_4 := (HB.out.cell (World.block_lt_of_cell? w _ hx339_4)).trans hx339_4
                        replace hx339_5 := (HB.out.cell (World.block_lt_of_cell? w _ hx339_5)).trans hx339_5
                        replace p339 := eq_true p339
                        replace q339 := eq_true q339
                        have p340 : 0 ≤ (x4_1 : Int) := of_decide_eq_true (by first | (with_reducible assumption) | assumption)
                        have q340 : x4_1 < (l0.length : Int) := of_decide_eq_true (by first | (with_reducible assumption) | assumption)
                        obtain ⟨ad340, e340, hx340_0, hx340_1, hx340_2, hx340_3, hx340_4, hx340_5⟩ := at_T31 HR0.out x4_1 p340 q340
                        have hw340_5 := hx340_5
                        have hw340_4 := hx340_4
                        have hw340_3 := hx340_3
                        have hw340_2 := hx340_2
                        have hw340_1 := hx340_1
                        have hw340_0 := hx340_0
                        obtain rfl : ad334 = ad340 := (by injection e340)
                        replace hx340_0 := (HB.out.cell (World.block_lt_of_cell? w _ hx340_0)).trans hx340_0
                        replace hx340_1 := (HB.out.cell (World.block_lt_of_cell? w _ hx340_1)).trans hx340_1
                        replace hx340_2 := (HB.out.cell (World.block_lt_of_cell? w _ hx340_2)).trans hx340_2
                        replace hx340_3 := (HB.out.cell (World.block_lt_of_cell? w _ hx340_3)).trans hx340_3
                        replace hx340_4 := (HB.out.cell (World.block_lt_of_cell? w _ hx340_4)).trans hx340_4
                        replace hx340_5 := (HB.out.cell (World.block_lt_of_cell? w _ hx340_5)).trans hx340_5
                        replace p340 := eq_true p340
                        replace q340 := eq_true q340
                        have p341 : 0 ≤ (x5_2 : Int) := of_decide_eq_true (by first | (with_reducible assumption) | assumption)
                        have q341 : x5_2 < (l0.length : Int) := of_decide_eq_true (by first | (with_reducible assumption) | assumption)
                        obtain ⟨ad341, e341, hx341_0, hx341_1, hx341_2, hx341_3, hx341_4, hx341_5⟩ := at_T31 HR0.out x5_2 p341 q341
                        have hw341_5 := hx341_5
                        have hw341_4 := hx341_4
                        have hw341_3 := hx341_3
                        have hw341_2 := hx341_2
                        have hw341_1 := hx341_1
                        have hw341_0 := hx341_0
                        obtain rfl : ad334 = ad341 := (by injection e341)
                        replace hx341_0 := (HB.out.cell (World.block_lt_of_cell? w _ hx341_0)).trans hx341_0
                        replace hx341_1 := (HB.out.cell (World.block_lt_of_cell? w _ hx341_1)).trans hx341_1
                        replace hx341_2 := (HB.out.cell (World.block_lt_of_cell? w _ hx341_2)).trans hx341_2
                        replace hx341_3 := (HB.out.cell (World.block_lt_of_cell? w _ hx341_3)).trans hx341_3
                        replace hx341_4 := (HB.out.cell (World.block_lt_of_cell? w _ hx341_4)).trans hx341_4
                        replace hx341_5 := (HB.out.cell (World.block_lt_of_cell? w _ hx341_5)).trans hx341_5
                        replace p341 := eq_true p341
                        replace q341 := eq_true q341
                        have p342 : 0 ≤ (x5_2 : Int) := of_decide_eq_true (by first | (with_reducible assumption) | assumption)
                        have q342 : x5_2 < (l0.length : Int) := of_decide_eq_true (by first | (with_reducible assumption) | assumption)
                        obtain ⟨ad342, e342, hx342_0, hx342_1, hx342_2, hx342_3, hx342_4, hx342_5⟩ := at_T31 HR0.out x5_2 p342 q342
                        have hw342_5 := hx342_5
                        have hw342_4 := hx342_4
                        have hw342_3 := hx342_3
                        have hw342_2 := hx342_2
                        have hw342_1 := hx342_1
                        have hw342_0 := hx342_0
                        obtain rfl : ad334 = ad342 := (by injection e342)
                        replace hx342_0 := (HB.out.cell (World.block_lt_of_cell? w _ hx342_0)).trans hx342_0
                        replace hx342_1 := (HB.out.cell (World.block_lt_of_cell? w _ hx342_1)).trans hx342_1
                        replace hx342_2 := (HB.out.cell (World.block_lt_of_cell? w _ hx342_2)).trans hx342_2
                        replace hx342_3 := (HB.out.cell (World.block_lt_of_cell? w _ hx342_3)).trans hx342_3
                        replace hx342_4 := (HB.out.cell (World.block_lt_of_cell? w _ hx342_4)).trans hx342_4
                        replace hx342_5 := (HB.out.cell (World.block_lt_of_cell? w _ hx342_5)).trans hx342_5
                        replace p342 := eq_true p342
                        replace q342 := eq_true q342
                        obtain ⟨Ao14, co14, eo14⟩ := Kd.R_slice HO_3.out
                        (first | subst eo14 | (injection eo14 with f1_ f2_ f3_; have f4_ := f1_.symm; have f5_ := f3_.symm; clear f1_ f2_ f3_; subst f4_; subst f5_))
                        refine start_ (n := 24) (S := fun w' => w'.cell? (ad334.add ((x4_1).toNat * 6)) = some (.int .i64 ((rd_T31 l0 x4_1).f0)) ∧ w'.cell? ⟨(ad334.add ((x4_1).toNat * 6)).block, (ad334.add ((x4_1).toNat * 6)).off + 1, none⟩ = some (.int .i64 ((rd_T31 l0 x4_1).f1)) ∧ w'.cell? ⟨(ad334.add ((x4_1).toNat * 6)).block, (ad334.add ((x4_1).toNat * 6)).off + 2, none⟩ = some (.bool ((rd_T31 l0 x4_1).f2)) ∧ w'.cell? ⟨(ad334.add ((x4_1).toNat * 6)).block, (ad334.add ((x4_1).toNat * 6)).off + 3, none⟩ = some (.int .i64 ((rd_T31 l0 x4_1).f3)) ∧ w'.cell? ⟨(ad334.add ((x4_1).toNat * 6)).block, (ad334.add ((x4_1).toNat * 6)).off + 4, none⟩ = some (.bool ((rd_T31 l0 x4_1).f4)) ∧ w'.cell? ⟨(ad334.add ((x4_1).toNat * 6)).block, (ad334.add ((x4_1).toNat * 6)).off + 5, none⟩ = some (.int .i64 ((rd_T31 l0 x4_1).f5)) ∧ w'.cell? (ad334.add ((x4_1).toNat * 6)) = some (.int .i64 ((rd_T31 l0 x4_1).f0)) ∧ w'.cell? ⟨(ad334.add ((x4_1).toNat * 6)).block, (ad334.add ((x4_1).toNat * 6)).off + 1, none⟩ = some (.int .i64 ((rd_T31 l0 x4_1).f1)) ∧ w'.cell? ⟨(ad334.add ((x4_1).toNat * 6)).block, (ad334.add ((x4_1).toNat * 6)).off + 2, none⟩ = some (.bool ((rd_T31 l0 x4_1).f2)) ∧ w'.cell? ⟨(ad334.add ((x4_1).toNat * 6)).block, (ad334.add ((x4_1).toNat * 6)).off + 3, none⟩ = some (.int .i64 ((rd_T31 l0 x4_1).f3)) ∧ w'.cell? ⟨(ad334.add ((x4_1).toNat * 6)).block, (ad334.add ((x4_1).toNat * 6)).off + 4, none⟩ = some (.bool ((rd_T31 l0 x4_1).f4)) ∧ w'.cell? ⟨(ad334.add ((x4_1).toNat * 6)).block, (ad334.add ((x4_1).toNat * 6)).off + 5, none⟩ = some (.int .i64 ((rd_T31 l0 x4_1).f5)) ∧ w'.cell? (ad334.add ((x5_2).toNat * 6)) = some (.int .i64 ((rd_T31 l0 x5_2).f0)) ∧ w'.cell? ⟨(ad334.add ((x5_2).toNat * 6)).block, (ad334.add ((x5_2).toNat * 6)).off + 1, none⟩ = some (.int .i64 ((rd_T31 l0 x5_2).f1)) ∧ w'.cell? ⟨(ad334.add ((x5_2).toNat * 6)).block, (ad334.add ((x5_2).toNat * 6)).off + 2, none⟩ = some (.bool ((rd_T31 l0 x5_2).f2)) ∧ w'.cell? ⟨(ad334.add ((x5_2).toNat * 6)).block, (ad334.add ((x5_2).toNat * 6)).off + 3, none⟩ = some (.int .i64 ((rd_T31 l0 x5_2).f3)) ∧ w'.cell? ⟨(ad334.add ((x5_2).toNat * 6)).block, (ad334.add ((x5_2).toNat * 6)).off + 4, none⟩ = some (.bool ((rd_T31 l0 x5_2).f4)) ∧ w'.cell? ⟨(ad334.add ((x5_2).toNat * 6)).block, (ad334.add ((x5_2).toNat * 6)).off + 5, none⟩ = some (.int .i64 ((rd_T31 l0 x5_2).f5)) ∧ w'.cell? (ad334.add ((x5_2).toNat * 6)) = some (.int .i64 ((rd_T31 l0 x5_2).f0)) ∧ w'.cell? ⟨(ad334.add ((x5_2).toNat * 6)).block, (ad334.add ((x5_2).toNat * 6)).off + 1, none⟩ = some (.int .i64 ((rd_T31 l0 x5_2).f1)) ∧ w'.cell? ⟨(ad334.add ((x5_2).toNat * 6)).block, (ad334.add ((x5_2).toNat * 6)).off + 2, none⟩ = some (.bool ((rd_T31 l0 x5_2).f2)) ∧ w'.cell? ⟨(ad334.add ((x5_2).toNat * 6)).block, (ad334.add ((x5_2).toNat * 6)).off + 3, none⟩ = some (.int .i64 ((rd_T31 l0 x5_2).f3)) ∧ w'.cell? ⟨(ad334.add ((x5_2).toNat * 6)).block, (ad334.add ((x5_2).toNat * 6)).off + 4, none⟩ = some (.bool ((rd_T31 l0 x5_2).f4)) ∧ w'.cell? ⟨(ad334.add ((x5_2).toNat * 6)).block, (ad334.add ((x5_2).toNat * 6)).off + 5, none⟩ = some (.int .i64 ((rd_T31 l0 x5_2).f5))) (ds := []) #[false, false, false, false, false, false, false, false, false, false, false, false, false, false, false, false, false, false, false, false, false, false, false, false] (by kernel_rfl) rfl rfl ⟨((HB.out.cell (World.block_lt_of_cell? w _ hw339_0)).trans hw339_0), ((HB.out.cell (World.block_lt_of_cell? w _ hw339_1)).trans hw339_1), ((HB.out.cell (World.block_lt_of_cell? w _ hw339_2)).trans hw339_2), ((HB.out.cell (World.block_lt_of_cell? w _ hw339_3)).trans hw339_3), ((HB.out.cell (World.block_lt_of_cell? w _ hw339_4)).trans hw339_4), ((HB.out.cell (World.block_lt_of_cell? w _ hw339_5)).trans hw339_5), ((HB.out.cell (World.block_lt_of_cell? w _ hw340_0)).trans hw340_0), ((HB.out.cell (World.block_lt_of_cell? w _ hw340_1)).trans hw340_1), ((HB.out.cell (World.block_lt_of_cell? w _ hw340_2)).trans hw340_2), ((HB.out.cell (World.block_lt_of_cell? w _ hw340_3)).trans hw340_3), ((HB.out.cell (World.block_lt_of_cell? w _ hw340_4)).trans hw340_4), ((HB.out.cell (World.block_lt_of_cell? w _ hw340_5)).trans hw340_5), ((HB.out.cell (World.block_lt_of_cell? w _ hw341_0)).trans hw341_0), ((HB.out.cell (World.block_lt_of_cell? w _ hw341_1)).trans hw341_1), ((HB.out.cell (World.block_lt_of_cell? w _ hw341_2)).trans hw341_2), ((HB.out.cell (World.block_lt_of_cell? w _ hw341_3)).trans hw341_3), ((HB.out.cell (World.block_lt_of_cell? w _ hw341_4)).trans hw341_4), ((HB.out.cell (World.block_lt_of_cell? w _ hw341_5)).trans hw341_5), ((HB.out.cell (World.block_lt_of_cell? w _ hw342_0)).trans hw342_0), ((HB.out.cell (World.block_lt_of_cell? w _ hw342_1)).trans hw342_1), ((HB.out.cell (World.block_lt_of_cell? w _ hw342_2)).trans hw342_2), ((HB.out.cell (World.block_lt_of_cell? w _ hw342_3)).trans hw342_3), ((HB.out.cell (World.block_lt_of_cell? w _ hw342_4)).trans hw342_4), ((HB.out.cell (World.block_lt_of_cell? w _ hw342_5)).trans hw342_5)⟩ (fun hHeld => ?_); refine with_tabW meddlerref15_All.tab9 meddlerref15_All.bits9 (fun HT_ HW_ => ?_)
                        generalize w12.drew = w13 at HO_3 HB hx339_0 hx339_1 hx339_2 hx339_3 hx339_4 hx339_5 hx340_0 hx340_1 hx340_2 hx340_3 hx340_4 hx340_5 hx341_0 hx341_1 hx341_2 hx341_3 hx341_4 hx341_5 hx342_0 hx342_1 hx342_2 hx342_3 hx342_4 hx342_5 hHeld ⊢
                        refine pure_ (i := 0) (N := some 40) (v := ?_) (a' := ?_) #[true, false, false, false, false, false, false, false, false, false, false, false, false, false, false, false, false, false, false, false, false, false, false, false] rfl rfl (any_of HT_.out (by kernel_rfl)) (fun _ _ _ h => h) (Or.inl ⟨by rfl, ?_⟩) ?_ ?_
                        rotate_left
                        · intro w'
                          go_simp
                          with_reducible rfl
                        rotate_left
                        · simp only [Act.put, List.setIfInBounds_toArray, List.set_cons_zero, List.set_cons_succ, i64_w, i32_w]
                          rfl
                        refine pure_ (i := 1) (N := some 41) (v := ?_) (a' := ?_) #[true, true, false, false, false, false, false, false, false, false, false, false, false, false, false, false, false, false, false, false, false, false, false, false] rfl rfl (any_of HT_.out (by kernel_rfl)) (fun _ _ _ h => h) (Or.inl ⟨by rfl, ?_⟩) ?_ ?_
                        rotate_left
                        · intro w'
                          go_simp
                          with_reducible rfl
                        rotate_left
                        · simp only [Act.put, List.setIfInBounds_toArray, List.set_cons_zero, List.set_cons_succ, i64_w, i32_w]
                          rfl
                        refine pure_ (i := 2) (N := some 42) (v := ?_) (a' := ?_) #[true, true, true, false, false, false, false, false, false, false, false, false, false, false, false, false, false, false, false, false, false, false, false, false] rfl rfl (any_of HT_.out (by kernel_rfl)) (fun _ _ _ h => h) (Or.inl ⟨by rfl, ?_⟩) ?_ ?_
                        rotate_left
                        · intro w'
                          go_simp
                          with_reducible rfl
                        rotate_left
                        · simp only [Act.put, List.setIfInBounds_toArray, List.set_cons_zero, List.set_cons_succ, i64_w, i32_w]
                          rfl
                        refine pure_ (i := 3) (N := some 43) (v := ?_) (a' := ?_) #[true, true, true, true, false, false, false, false, false, false, false, false, false, false, false, false, false, false, false, false, false, false, false, false] rfl rfl (any_of HT_.out (by kernel_rfl)) (fun _ _ _ h => h) (Or.inl ⟨by rfl, ?_⟩) ?_ ?_
                        rotate_left
                        · intro w'
                          go_simp
                          with_reducible rfl
                        rotate_left
                        · simp only [Act.put, List.setIfInBounds_toArray, List.set_cons_zero, List.set_cons_succ, i64_w, i32_w]
                          rfl
                        refine pure_ (i := 4) (N := some 44) (v := ?_) (a' := ?_) #[true, true, true, true, true, false, false, false, false, false, false, false, false, false, false, false, false, false, false, false, false, false, false, false] rfl rfl (any_of HT_.out (by kernel_rfl)) (fun _ _ _ h => h) (Or.inl ⟨by rfl, ?_⟩) ?_ ?_
                        rotate_left
                        · intro w'
                          go_simp
                          with_reducible rfl
                        rotate_left
                        · simp only [Act.put, List.setIfInBounds_toArray, List.set_cons_zero, List.set_cons_succ, i64_w, i32_w]
                          rfl
                        refine pure_ (i := 6) (N := some 46) (v := ?_) (a' := ?_) #[true, true, true, true, true, false, true, false, false, false, false, false, false, false, false, false, false, false, false, false, false, false, false, false] rfl rfl (any_of HT_.out (by kernel_rfl)) (fun _ _ _ h => h) (Or.inl ⟨by rfl, ?_⟩) ?_ ?_
                        rotate_left
                        · intro w'
                          go_simp
                          with_reducible rfl
                        rotate_left
                        · simp only [Act.put, List.setIfInBounds_toArray, List.set_cons_zero, List.set_cons_succ, i64_w, i32_w]
                          rfl
                        refine pure_ (i := 7) (N := some 47) (v := ?_) (a' := ?_) #[true, true, true, true, true, false, true, true, false, false, false, false, false, false, false, false, false, false, false, false, false, false, false, false] rfl rfl (any_of HT_.out (by kernel_rfl)) (fun _ _ _ h => h) (Or.inl ⟨by rfl, ?_⟩) ?_ ?_
                        rotate_left
                        · intro w'
                          go_simp
                          with_reducible rfl
                        rotate_left
                        · simp only [Act.put, List.setIfInBounds_toArray, List.set_cons_zero, List.set_cons_succ, i64_w, i32_w]
                          rfl
                        refine pure_ (i := 8) (N := some 48) (v := ?_) (a' := ?_) #[true, true, true, true, true, false, true, true, true, false, false, false, false, false, false, false, false, false, false, false, false, false, false, false] rfl rfl (any_of HT_.out (by kernel_rfl)) (fun _ _ _ h => h) (Or.inl ⟨by rfl, ?_⟩) ?_ ?_
                        rotate_left
                        · intro w'
                          go_simp
                          with_reducible rfl
                        rotate_left
                        · simp only [Act.put, List.setIfInBounds_toArray, List.set_cons_zero, List.set_cons_succ, i64_w, i32_w]
                          rfl
                        refine pure_ (i := 9) (N := some 49) (v := ?_) (a' := ?_) #[true, true, true, true, true, false, true, true, true, true, false, false, false, false, false, false, false, false, false, false, false, false, false, false] rfl rfl (any_of HT_.out (by kernel_rfl)) (fun _ _ _ h => h) (Or.inl ⟨by rfl, ?_⟩) ?_ ?_
                        rotate_left
                        · intro w'
                          go_simp
                          with_reducible rfl
                        rotate_left
                        · simp only [Act.put, List.setIfInBounds_toArray, List.set_cons_zero, List.set_cons_succ, i64_w, i32_w]
                          rfl
                        refine pure_ (i := 11) (N := some 51) (v := ?_) (a' := ?_) #[true, true, true, true, true, false, true, true, true, true, false, true, false, false, false, false, false, false, false, false, false, false, false, false] rfl rfl (any_of HT_.out (by kernel_rfl)) (fun _ _ _ h => h) (Or.inl ⟨by rfl, ?_⟩) ?_ ?_
                        rotate_left
                        · intro w'
                          go_simp
                          with_reducible rfl
                        rotate_left
                        · simp only [Act.put, List.setIfInBounds_toArray, List.set_cons_zero, List.set_cons_succ, i64_w, i32_w]
                          rfl
                        refine pure_ (i := 12) (N := some 52) (v := ?_) (a' := ?_) #[true, true, true, true, true, false, true, true, true, true, false, true, true, false, false, false, false, false, false, false, false, false, false, false] rfl rfl (any_of HT_.out (by kernel_rfl)) (fun _ _ _ h => h) (Or.inl ⟨by rfl, ?_⟩) ?_ ?_
                        rotate_left
                        · intro w'
                          go_simp
                          with_reducible rfl
                        rotate_left
                        · simp only [Act.put, List.setIfInBounds_toArray, List.set_cons_zero, List.set_cons_succ, i64_w, i32_w]
                          rfl
                        refine pure_ (i := 13) (N := some 53) (v := ?_) (a' := ?_) #[true, true, true, true, true, false, true, true, true, true, false, true, true, true, false, false, false, false, false, false, false, false, false, false] rfl rfl (any_of HT_.out (by kernel_rfl)) (fun _ _ _ h => h) (Or.inl ⟨by rfl, ?_⟩) ?_ ?_
                        rotate_left
                        · intro w'
                          go_simp
                          with_reducible rfl
                        rotate_left
                        · simp only [Act.put, List.setIfInBounds_toArray, List.set_cons_zero, List.set_cons_succ, i64_w, i32_w]
                          rfl
                        refine pure_ (i := 14) (N := some 54) (v := ?_) (a' := ?_) #[true, true, true, true, true, false, true, true, true, true, false, true, true, true, true, false, false, false, false, false, false, false, false, false] rfl rfl (any_of HT_.out (by kernel_rfl)) (fun _ _ _ h => h) (Or.inl ⟨by rfl, ?_⟩) ?_ ?_
                        rotate_left
                        · intro w'
                          go_simp
                          with_reducible rfl
                        rotate_left
                        · simp only [Act.put, List.setIfInBounds_toArray, List.set_cons_zero, List.set_cons_succ, i64_w, i32_w]
                          rfl
                        refine pure_ (i := 16) (N := some 56) (v := ?_) (a' := ?_) #[true, true, true, true, true, false, true, true, true, true, false, true, true, true, true, false, true, false, false, false, false, false, false, false] rfl rfl (any_of HT_.out (by kernel_rfl)) (fun _ _ _ h => h) (Or.inl ⟨by rfl, ?_⟩) ?_ ?_
                        rotate_left
                        · intro w'
                          go_simp
                          with_reducible rfl
                        rotate_left
                        · simp only [Act.put, List.setIfInBounds_toArray, List.set_cons_zero, List.set_cons_succ, i64_w, i32_w]
                          rfl
                        refine pure_ (i := 17) (N := some 57) (v := ?_) (a' := ?_) #[true, true, true, true, true, false, true, true, true, true, false, true, true, true, true, false, true, true, false, false, false, false, false, false] rfl rfl (any_of HT_.out (by kernel_rfl)) (fun _ _ _ h => h) (Or.inl ⟨by rfl, ?_⟩) ?_ ?_
                        rotate_left
                        · intro w'
                          go_simp
                          with_reducible rfl
                        rotate_left
                        · simp only [Act.put, List.setIfInBounds_toArray, List.set_cons_zero, List.set_cons_succ, i64_w, i32_w]
                          rfl
                        refine pure_ (i := 18) (N := some 58) (v := ?_) (a' := ?_) #[true, true, true, true, true, false, true, true, true, true, false, true, true, true, true, false, true, true, true, false, false, false, false, false] rfl rfl (any_of HT_.out (by kernel_rfl)) (fun _ _ _ h => h) (Or.inl ⟨by rfl, ?_⟩) ?_ ?_
                        rotate_left
                        · intro w'
                          go_simp
                          with_reducible rfl
                        rotate_left
                        · simp only [Act.put, List.setIfInBounds_toArray, List.set_cons_zero, List.set_cons_succ, i64_w, i32_w]
                          rfl
                        refine pure_ (i := 19) (N := some 59) (v := ?_) (a' := ?_) #[true, true, true, true, true, false, true, true, true, true, false, true, true, true, true, false, true, true, true, true, false, false, false, false] rfl rfl (any_of HT_.out (by kernel_rfl)) (fun _ _ _ h => h) (Or.inl ⟨by rfl, ?_⟩) ?_ ?_
                        rotate_left
                        · intro w'
                          go_simp
                          with_reducible rfl
                        rotate_left
                        · simp only [Act.put, List.setIfInBounds_toArray, List.set_cons_zero, List.set_cons_succ, i64_w, i32_w]
                          rfl
                        refine take_ (i := 5) (N := some 45) (v := ?_) (a' := ?_) #[true, true, true, true, true, true, true, true, true, true, false, true, true, true, true, false, true, true, true, true, false, false, false, false] rfl rfl (take_ofW HT_.out HW_.out (by kernel_rfl)) (fun _ _ _ h => h) (Or.inl ⟨by rfl, ?_⟩) hHeld ?_ ?_
                        rotate_left
                        · rintro w' ⟨s0, s1, s2, s3, s4, s5, s6, s7, s8, s9, s10, s11, s12, s13, s14, s15, s16, s17, s18, s19, s20, s21, s22, s23⟩
                          go_simp
                          with_reducible rfl
                        rotate_left
                        · simp only [Act.put, List.setIfInBounds_toArray, List.set_cons_zero, List.set_cons_succ, i64_w, i32_w]
                          rfl
                        refine take_ (i := 10) (N := some 50) (v := ?_) (a' := ?_) #[true, true, true, true, true, true, true, true, true, true, true, true, true, true, true, false, true, true, true, true, false, false, false, false] rfl rfl (take_ofW HT_.out HW_.out (by kernel_rfl)) (fun _ _ _ h => h) (Or.inl ⟨by rfl, ?_⟩) hHeld ?_ ?_
                        rotate_left
                        · rintro w' ⟨s0, s1, s2, s3, s4, s5, s6, s7, s8, s9, s10, s11, s12, s13, s14, s15, s16, s17, s18, s19, s20, s21, s22, s23⟩
                          go_simp
                          with_reducible rfl
                        rotate_left
                        · simp only [Act.put, List.setIfInBounds_toArray, List.set_cons_zero, List.set_cons_succ, i64_w, i32_w]
                          rfl
                        refine take_ (i := 15) (N := some 55) (v := ?_) (a' := ?_) #[true, true, true, true, true, true, true, true, true, true, true, true, true, true, true, true, true, true, true, true, false, false, false, false] rfl rfl (take_ofW HT_.out HW_.out (by kernel_rfl)) (fun _ _ _ h => h) (Or.inl ⟨by rfl, ?_⟩) hHeld ?_ ?_
                        rotate_left
                        · rintro w' ⟨s0, s1, s2, s3, s4, s5, s6, s7, s8, s9, s10, s11, s12, s13, s14, s15, s16, s17, s18, s19, s20, s21, s22, s23⟩
                          go_simp
                          with_reducible rfl
                        rotate_left
                        · simp only [Act.put, List.setIfInBounds_toArray, List.set_cons_zero, List.set_cons_succ, i64_w, i32_w]
                          rfl
                        refine take_ (i := 20) (N := some 60) (v := ?_) (a' := ?_) #[true, true, true, true, true, true, true, true, true, true, true, true, true, true, true, true, true, true, true, true, true, false, false, false] rfl rfl (take_ofW HT_.out HW_.out (by kernel_rfl)) (fun _ _ _ h => h) (Or.inl ⟨by rfl, ?_⟩) hHeld ?_ ?_
                        rotate_left
                        · rintro w' ⟨s0, s1, s2, s3, s4, s5, s6, s7, s8, s9, s10, s11, s12, s13, s14, s15, s16, s17, s18, s19, s20, s21, s22, s23⟩
                          go_simp
                          with_reducible rfl
                        rotate_left
                        · simp only [Act.put, List.setIfInBounds_toArray, List.set_cons_zero, List.set_cons_succ, i64_w, i32_w]
                          rfl
                        refine pure_ (i := 21) (N := some 61) (v := ?_) (a' := ?_) #[true, true, true, true, true, true, true, true, true, true, true, true, true, true, true, true, true, true, true, true, true, true, false, false] rfl rfl (any_of HT_.out (by kernel_rfl)) (fun _ _ _ h => h) (Or.inl ⟨by rfl, ?_⟩) ?_ ?_
                        rotate_left
                        · intro w'
                          go_simp
                          with_reducible rfl
                        rotate_left
                        · simp only [Act.put, List.setIfInBounds_toArray, List.set_cons_zero, List.set_cons_succ, i64_w, i32_w]
                          rfl
                        refine one_ (i := 22) (N := some 62) #[true, true, true, true, true, true, true, true, true, true, true, true, true, true, true, true, true, true, true, true, true, true, true, false] rfl rfl (one_of HT_.out (by kernel_rfl)) (by decide) (fun K hK => ?_)
                        refine goes_ Try.func28 (by kernel_rfl) rfl #[.slice Ao14 x3_2.length co14, .agg #[.int .i64 2, .int .i64 ((rd_T31 l0 x4_1).f0), .int .i64 ((rd_T31 l0 x4_1).f1), .int .i64 0, .int .i64 ((rd_T31 l0 x5_2).f0), .int .i64 ((rd_T31 l0 x5_2).f1)]] (by rfl) rfl rfl (by (try simp only [List.map_toArray, List.map_cons, List.map_nil]); first | done | rfl | (simp only [List.length_drop, List.length_take]; rfl)) ?_
                        with_reducible refine (meddlerref15_Lay.calls k2 (fun k_ => some k_ = (.slice Ao14 x3_2.length co14 : Value).ownBlock) (.slice Ao14 x3_2.length co14) x3_2 2 ((rd_T31 l0 x4_1).f0) ((rd_T31 l0 x4_1).f1) 0 ((rd_T31 l0 x5_2).f0) ((rd_T31 l0 x5_2).f1) t343 w _ ?side1 ?side2 A10.out).mono ?_
                        (case side1 => repeat (first | (with_reducible first | exact HB.out | apply below_alloc | apply pw_below_drewN | apply below_drew1) | exact HB.out))
                        (case side2 => exact Kd.R_tight rfl HO_3.out)
                        rintro e w15 ⟨v344, rfl, ho0, hb, hkp⟩
                        refine ⟨_, rfl, ?_⟩
                        have n0_ := Aside0.mk (Kd.R_mono (ok' := fun k_ => True) ho0 (fun k_ hk_ => trivial))
                        have n1_ := Aside0.mk (hb)
                        clear HB
                        clear HO_3
                        have HO345 := n0_
                        have HB := n1_
                        clear n0_ n1_
                        (try clear hb)
                        (try clear hkp)
                        (try clear ho0)
                        refine hK.out _ _ ⟨((HB.out.cell (World.block_lt_of_cell? w _ hw339_0)).trans hw339_0), ((HB.out.cell (World.block_lt_of_cell? w _ hw339_1)).trans hw339_1), ((HB.out.cell (World.block_lt_of_cell? w _ hw339_2)).trans hw339_2), ((HB.out.cell (World.block_lt_of_cell? w _ hw339_3)).trans hw339_3), ((HB.out.cell (World.block_lt_of_cell? w _ hw339_4)).trans hw339_4), ((HB.out.cell (World.block_lt_of_cell? w _ hw339_5)).trans hw339_5), ((HB.out.cell (World.block_lt_of_cell? w _ hw340_0)).trans hw340_0), ((HB.out.cell (World.block_lt_of_cell? w _ hw340_1)).trans hw340_1), ((HB.out.cell (World.block_lt_of_cell? w _ hw340_2)).trans hw340_2), ((HB.out.cell (World.block_lt_of_cell? w _ hw340_3)).trans hw340_3), ((HB.out.cell (World.block_lt_of_cell? w _ hw340_4)).trans hw340_4), ((HB.out.cell (World.block_lt_of_cell? w _ hw340_5)).trans hw340_5), ((HB.out.cell (World.block_lt_of_cell? w _ hw341_0)).trans hw341_0), ((HB.out.cell (World.block_lt_of_cell? w _ hw341_1)).trans hw341_1), ((HB.out.cell (World.block_lt_of_cell? w _ hw341_2)).trans hw341_2), ((HB.out.cell (World.block_lt_of_cell? w _ hw341_3)).trans hw341_3), ((HB.out.cell (World.block_lt_of_cell? w _ hw341_4)).trans hw341_4), ((HB.out.cell (World.block_lt_of_cell? w _ hw341_5)).trans hw341_5), ((HB.out.cell (World.block_lt_of_cell? w _ hw342_0)).trans hw342_0), ((HB.out.cell (World.block_lt_of_cell? w _ hw342_1)).trans hw342_1), ((HB.out.cell (World.block_lt_of_cell? w _ hw342_2)).trans hw342_2), ((HB.out.cell (World.block_lt_of_cell? w _ hw342_3)).trans hw342_3), ((HB.out.cell (World.block_lt_of_cell? w _ hw342_4)).trans hw342_4), ((HB.out.cell (World.block_lt_of_cell? w _ hw342_5)).trans hw342_5)⟩ (fun hHeld => ?_)
                        clear hK K
                        refine norm_ (a' := ?_) ?_ ?_
                        rotate_left
                        · show Act.put _ (some 62) _ = _
                          simp only [Act.put, List.setIfInBounds_toArray, List.set_cons_zero, List.set_cons_succ, i64_w, i32_w]
                          rfl
                        refine pure_ (i := 23) (N := some 3) (v := ?_) (a' := ?_) #[true, true, true, true, true, true, true, true, true, true, true, true, true, true, true, true, true, true, true, true, true, true, true, true] rfl rfl (any_of HT_.out (by kernel_rfl)) (fun _ _ _ h => h) (Or.inl ⟨by rfl, ?_⟩) ?_ ?_
                        rotate_left
                        · intro w'
                          go_simp
                          with_reducible rfl
                        rotate_left
                        · simp only [Act.put, List.setIfInBounds_toArray, List.set_cons_zero, List.set_cons_succ, i64_w, i32_w]
                          rfl
                        refine done_ (done_of HT_.out (by kernel_rfl)) ?_
                        try go_wp2
                        go_roundg k2
                        case measure => have := HK1.out; have := HK2.out; omega
                        case rel => exact ⟨(t343), (wrap64 (x5_2 + 1)), (by first | rfl | (simp; done) | (simp [*]; done)), H', ⟨by have := HK1.out; have := HK2.out; omega⟩, ⟨by (with_reducible repeat (first | apply Kd.R_alloc | apply Kd.R_drewN | apply Kd.R_drew)); exact HO345.out⟩, ⟨by repeat (first | (with_reducible first | exact HB.out | apply below_alloc | apply pw_below_drewN | apply below_drew1) | exact HB.out)⟩⟩
                      · replace c9 := Bool.eq_false_iff.mpr c9
                        subst c9
                        have H1 : (meddlerref15_All.l1 k2 l0 x3_2 x4_1 (wrap64 (x5_2 + 1))) = some r := by rw [if_neg (show ¬ (false = true) by decide)] at H; exact H
                        clear H
                        have H := H1
                        clear H1
                        have H' := Aside0.mk H
                        clear H
                        try go_wp2
                        have n0_ := Aside0.mk (Kd.R_drew HO_3.out)
                        have n1_ := Aside0.mk (below_drew1 HB.out)
                        clear HO_3
                        clear HB
                        have HO_3 := n0_
                        have HB := n1_
                        clear n0_ n1_
                        have p334 : 0 ≤ (x4_1 : Int) := of_decide_eq_true (by first | (with_reducible assumption) | assumption)
                        have q334 : x4_1 < (l0.length : Int) := of_decide_eq_true (by first | (with_reducible assumption) | assumption)
                        obtain ⟨ad334, e334, hx334_0, hx334_1, hx334_2, hx334_3, hx334_4, hx334_5⟩ := at_T31 HR0.out x4_1 p334 q334
                        have hw334_5 := hx334_5
                        have hw334_4 := hx334_4
                        have hw334_3 := hx334_3
                        have hw334_2 := hx334_2
                        have hw334_1 := hx334_1
                        have hw334_0 := hx334_0
                        cases e334
                        replace hx334_0 := (HB.out.cell (World.block_lt_of_cell? w _ hx334_0)).trans hx334_0
                        replace hx334_1 := (HB.out.cell (World.block_lt_of_cell? w _ hx334_1)).trans hx334_1
                        replace hx334_2 := (HB.out.cell (World.block_lt_of_cell? w _ hx334_2)).trans hx334_2
                        replace hx334_3 := (HB.out.cell (World.block_lt_of_cell? w _ hx334_3)).trans hx334_3
                        replace hx334_4 := (HB.out.cell (World.block_lt_of_cell? w _ hx334_4)).trans hx334_4
                        replace hx334_5 := (HB.out.cell (World.block_lt_of_cell? w _ hx334_5)).trans hx334_5
                        replace p334 := eq_true p334
                        replace q334 := eq_true q334
                        have p335 : 0 ≤ (x5_2 : Int) := of_decide_eq_true (by first | (with_reducible assumption) | assumption)
                        have q335 : x5_2 < (l0.length : Int) := of_decide_eq_true (by first | (with_reducible assumption) | assumption)
                        obtain ⟨ad335, e335, hx335_0, hx335_1, hx335_2, hx335_3, hx335_4, hx335_5⟩ := at_T31 HR0.out x5_2 p335 q335
                        have hw335_5 := hx335_5
                        have hw335_4 := hx335_4
                        have hw335_3 := hx335_3
                        have hw335_2 := hx335_2
                        have hw335_1 := hx335_1
                        have hw335_0 := hx335_0
                        obtain rfl : ad334 = ad335 := (by injection e335)
                        replace hx335_0 := (HB.out.cell (World.block_lt_of_cell? w _ hx335_0)).trans hx335_0
                        replace hx335_1 := (HB.out.cell (World.block_lt_of_cell? w _ hx335_1)).trans hx335_1
                        replace hx335_2 := (HB.out.cell (World.block_lt_of_cell? w _ hx335_2)).trans hx335_2
                        replace hx335_3 := (HB.out.cell (World.block_lt_of_cell? w _ hx335_3)).trans hx335_3
                        replace hx335_4 := (HB.out.cell (World.block_lt_of_cell? w _ hx335_4)).trans hx335_4
                        replace hx335_5 := (HB.out.cell (World.block_lt_of_cell? w _ hx335_5)).trans hx335_5
                        replace p335 := eq_true p335
                        replace q335 := eq_true q335
                        have p336 : 0 ≤ (x4_1 : Int) := of_decide_eq_true (by first | (with_reducible assumption) | assumption)
                        have q336 : x4_1 < (l0.length : Int) := of_decide_eq_true (by first | (with_reducible assumption) | assumption)
                        obtain ⟨ad336, e336, hx336_0, hx336_1, hx336_2, hx336_3, hx336_4, hx336_5⟩ := at_T31 HR0.out x4_1 p336 q336
                        have hw336_5 := hx336_5
                        have hw336_4 := hx336_4
                        have hw336_3 := hx336_3
                        have hw336_2 := hx336_2
                        have hw336_1 := hx336_1
                        have hw336_0 := hx336_0
                        obtain rfl : ad334 = ad336 := (by injection e336)
                        replace hx336_0 := (HB.out.cell (World.block_lt_of_cell? w _ hx336_0)).trans hx336_0
                        replace hx336_1 := (HB.out.cell (World.block_lt_of_cell? w _ hx336_1)).trans hx336_1
                        replace hx336_2 := (HB.out.cell (World.block_lt_of_cell? w _ hx336_2)).trans hx336_2
                        replace hx336_3 := (HB.out.cell (World.block_lt_of_cell? w _ hx336_3)).trans hx336_3
                        replace hx336_4 := (HB.out.cell (World.block_lt_of_cell? w _ hx336_4)).trans hx336_4
                        replace hx336_5 := (HB.out.cell (World.block_lt_of_cell? w _ hx336_5)).trans hx336_5
                        replace p336 := eq_true p336
                        replace q336 := eq_true q336
                        have p337 : 0 ≤ (x5_2 : Int) := of_decide_eq_true (by first | (with_reducible assumption) | assumption)
                        have q337 : x5_2 < (l0.length : Int) := of_decide_eq_true (by first | (with_reducible assumption) | assumption)
                        obtain ⟨ad337, e337, hx337_0, hx337_1, hx337_2, hx337_3, hx337_4, hx337_5⟩ := at_T31 HR0.out x5_2 p337 q337
                        have hw337_5 := hx337_5
                        have hw337_4 := hx337_4
                        have hw337_3 := hx337_3
                        have hw337_2 := hx337_2
                        have hw337_1 := hx337_1
                        have hw337_0 := hx337_0
                        obtain rfl : ad334 = ad337 := (by injection e337)
                        replace hx337_0 := (HB.out.cell (World.block_lt_of_cell? w _ hx337_0)).trans hx337_0
                        replace hx337_1 := (HB.out.cell (World.block_lt_of_cell? w _ hx337_1)).trans hx337_1
                        replace hx337_2 := (HB.out.cell (World.block_lt_of_cell? w _ hx337_2)).trans hx337_2
                        replace hx337_3 := (HB.out.cell (World.block_lt_of_cell? w _ hx337_3)).trans hx337_3
                        replace hx337_4 := (HB.out.cell (World.block_lt_of_cell? w _ hx337_4)).trans hx337_4
                        replace hx337_5 := (HB.out.cell (World.block_lt_of_cell? w _ hx337_5)).trans hx337_5
                        replace p337 := eq_true p337
                        replace q337 := eq_true q337
                        refine start_ (n := 22) (S := fun w' => w'.cell? (ad334.add ((x4_1).toNat * 6)) = some (.int .i64 ((rd_T31 l0 x4_1).f0)) ∧ w'.cell? ⟨(ad334.add ((x4_1).toNat * 6)).block, (ad334.add ((x4_1).toNat * 6)).off + 1, none⟩ = some (.int .i64 ((rd_T31 l0 x4_1).f1)) ∧ w'.cell? ⟨(ad334.add ((x4_1).toNat * 6)).block, (ad334.add ((x4_1).toNat * 6)).off + 2, none⟩ = some (.bool ((rd_T31 l0 x4_1).f2)) ∧ w'.cell? ⟨(ad334.add ((x4_1).toNat * 6)).block, (ad334.add ((x4_1).toNat * 6)).off + 3, none⟩ = some (.int .i64 ((rd_T31 l0 x4_1).f3)) ∧ w'.cell? ⟨(ad334.add ((x4_1).toNat * 6)).block, (ad334.add ((x4_1).toNat * 6)).off + 4, none⟩ = some (.bool ((rd_T31 l0 x4_1).f4)) ∧ w'.cell? ⟨(ad334.add ((x4_1).toNat * 6)).block, (ad334.add ((x4_1).toNat * 6)).off + 5, none⟩ = some (.int .i64 ((rd_T31 l0 x4_1).f5)) ∧ w'.cell? (ad334.add ((x5_2).toNat * 6)) = some (.int .i64 ((rd_T31 l0 x5_2).f0)) ∧ w'.cell? ⟨(ad334.add ((x5_2).toNat * 6)).block, (ad334.add ((x5_2).toNat * 6)).off + 1, none⟩ = some (.int .i64 ((rd_T31 l0 x5_2).f1)) ∧ w'.cell? ⟨(ad334.add ((x5_2).toNat * 6)).block, (ad334.add ((x5_2).toNat * 6)).off + 2, none⟩ = some (.bool ((rd_T31 l0 x5_2).f2)) ∧ w'.cell? ⟨(ad334.add ((x5_2).toNat * 6)).block, (ad334.add ((x5_2).toNat * 6)).off + 3, none⟩ = some (.int .i64 ((rd_T31 l0 x5_2).f3)) ∧ w'.cell? ⟨(ad334.add ((x5_2).toNat * 6)).block, (ad334.add ((x5_2).toNat * 6)).off + 4, none⟩ = some (.bool ((rd_T31 l0 x5_2).f4)) ∧ w'.cell? ⟨(ad334.add ((x5_2).toNat * 6)).block, (ad334.add ((x5_2).toNat * 6)).off + 5, none⟩ = some (.int .i64 ((rd_T31 l0 x5_2).f5)) ∧ w'.cell? (ad334.add ((x4_1).toNat * 6)) = some (.int .i64 ((rd_T31 l0 x4_1).f0)) ∧ w'.cell? ⟨(ad334.add ((x4_1).toNat * 6)).block, (ad334.add ((x4_1).toNat * 6)).off + 1, none⟩ = some (.int .i64 ((rd_T31 l0 x4_1).f1)) ∧ w'.cell? ⟨(ad334.add ((x4_1).toNat * 6)).block, (ad334.add ((x4_1).toNat * 6)).off + 2, none⟩ = some (.bool ((rd_T31 l0 x4_1).f2)) ∧ w'.cell? ⟨(ad334.add ((x4_1).toNat * 6)).block, (ad334.add ((x4_1).toNat * 6)).off + 3, none⟩ = some (.int .i64 ((rd_T31 l0 x4_1).f3)) ∧ w'.cell? ⟨(ad334.add ((x4_1).toNat * 6)).block, (ad334.add ((x4_1).toNat * 6)).off + 4, none⟩ = some (.bool ((rd_T31 l0 x4_1).f4)) ∧ w'.cell? ⟨(ad334.add ((x4_1).toNat * 6)).block, (ad334.add ((x4_1).toNat * 6)).off + 5, none⟩ = some (.int .i64 ((rd_T31 l0 x4_1).f5)) ∧ w'.cell? (ad334.add ((x5_2).toNat * 6)) = some (.int .i64 ((rd_T31 l0 x5_2).f0)) ∧ w'.cell? ⟨(ad334.add ((x5_2).toNat * 6)).block, (ad334.add ((x5_2).toNat * 6)).off + 1, none⟩ = some (.int .i64 ((rd_T31 l0 x5_2).f1)) ∧ w'.cell? ⟨(ad334.add ((x5_2).toNat * 6)).block, (ad334.add ((x5_2).toNat * 6)).off + 2, none⟩ = some (.bool ((rd_T31 l0 x5_2).f2)) ∧ w'.cell? ⟨(ad334.add ((x5_2).toNat * 6)).block, (ad334.add ((x5_2).toNat * 6)).off + 3, none⟩ = some (.int .i64 ((rd_T31 l0 x5_2).f3)) ∧ w'.cell? ⟨(ad334.add ((x5_2).toNat * 6)).block, (ad334.add ((x5_2).toNat * 6)).off + 4, none⟩ = some (.bool ((rd_T31 l0 x5_2).f4)) ∧ w'.cell? ⟨(ad334.add ((x5_2).toNat * 6)).block, (ad334.add ((x5_2).toNat * 6)).off + 5, none⟩ = some (.int .i64 ((rd_T31 l0 x5_2).f5))) (ds := []) #[false, false, false, false, false, false, false, false, false, false, false, false, false, false, false, false, false, false, false, false, false, false] (by kernel_rfl) rfl rfl ⟨((HB.out.cell (World.block_lt_of_cell? w _ hw334_0)).trans hw334_0), ((HB.out.cell (World.block_lt_of_cell? w _ hw334_1)).trans hw334_1), ((HB.out.cell (World.block_lt_of_cell? w _ hw334_2)).trans hw334_2), ((HB.out.cell (World.block_lt_of_cell? w _ hw334_3)).trans hw334_3), ((HB.out.cell (World.block_lt_of_cell? w _ hw334_4)).trans hw334_4), ((HB.out.cell (World.block_lt_of_cell? w _ hw334_5)).trans hw334_5), ((HB.out.cell (World.block_lt_of_cell? w _ hw335_0)).trans hw335_0), ((HB.out.cell (World.block_lt_of_cell? w _ hw335_1)).trans hw335_1), ((HB.out.cell (World.block_lt_of_cell? w _ hw335_2)).trans hw335_2), ((HB.out.cell (World.block_lt_of_cell? w _ hw335_3)).trans hw335_3), ((HB.out.cell (World.block_lt_of_cell? w _ hw335_4)).trans hw335_4), ((HB.out.cell (World.block_lt_of_cell? w _ hw335_5)).trans hw335_5), ((HB.out.cell (World.block_lt_of_cell? w _ hw336_0)).trans hw336_0), ((HB.out.cell (World.block_lt_of_cell? w _ hw336_1)).trans hw336_1), ((HB.out.cell (World.block_lt_of_cell? w _ hw336_2)).trans hw336_2), ((HB.out.cell (World.block_lt_of_cell? w _ hw336_3)).trans hw336_3), ((HB.out.cell (World.block_lt_of_cell? w _ hw336_4)).trans hw336_4), ((HB.out.cell (World.block_lt_of_cell? w _ hw336_5)).trans hw336_5), ((HB.out.cell (World.block_lt_of_cell? w _ hw337_0)).trans hw337_0), ((HB.out.cell (World.block_lt_of_cell? w _ hw337_1)).trans hw337_1), ((HB.out.cell (World.block_lt_of_cell? w _ hw337_2)).trans hw337_2), ((HB.out.cell (World.block_lt_of_cell? w _ hw337_3)).trans hw337_3), ((HB.out.cell (World.block_lt_of_cell? w _ hw337_4)).trans hw337_4), ((HB.out.cell (World.block_lt_of_cell? w _ hw337_5)).trans hw337_5)⟩ (fun hHeld => ?_); refine with_tabW meddlerref15_All.tab8 meddlerref15_All.bits8 (fun HT_ HW_ => ?_)
                        generalize wr.drew = w16 at HO_3 HB hx334_0 hx334_1 hx334_2 hx334_3 hx334_4 hx334_5 hx335_0 hx335_1 hx335_2 hx335_3 hx335_4 hx335_5 hx336_0 hx336_1 hx336_2 hx336_3 hx336_4 hx336_5 hx337_0 hx337_1 hx337_2 hx337_3 hx337_4 hx337_5 hHeld ⊢
                        refine pure_ (i := 0) (N := some 18) (v := ?_) (a' := ?_) #[true, false, false, false, false, false, false, false, false, false, false, false, false, false, false, false, false, false, false, false, false, false] rfl rfl (any_of HT_.out (by kernel_rfl)) (fun _ _ _ h => h) (Or.inl ⟨by rfl, ?_⟩) ?_ ?_
                        rotate_left
                        · intro w'
                          go_simp
                          with_reducible rfl
                        rotate_left
                        · simp only [Act.put, List.setIfInBounds_toArray, List.set_cons_zero, List.set_cons_succ, i64_w, i32_w]
                          rfl
                        refine pure_ (i := 1) (N := some 19) (v := ?_) (a' := ?_) #[true, true, false, false, false, false, false, false, false, false, false, false, false, false, false, false, false, false, false, false, false, false] rfl rfl (any_of HT_.out (by kernel_rfl)) (fun _ _ _ h => h) (Or.inl ⟨by rfl, ?_⟩) ?_ ?_
                        rotate_left
                        · intro w'
                          go_simp
                          with_reducible rfl
                        rotate_left
                        · simp only [Act.put, List.setIfInBounds_toArray, List.set_cons_zero, List.set_cons_succ, i64_w, i32_w]
                          rfl
                        refine pure_ (i := 2) (N := some 20) (v := ?_) (a' := ?_) #[true, true, true, false, false, false, false, false, false, false, false, false, false, false, false, false, false, false, false, false, false, false] rfl rfl (any_of HT_.out (by kernel_rfl)) (fun _ _ _ h => h) (Or.inl ⟨by rfl, ?_⟩) ?_ ?_
                        rotate_left
                        · intro w'
                          go_simp
                          with_reducible rfl
                        rotate_left
                        · simp only [Act.put, List.setIfInBounds_toArray, List.set_cons_zero, List.set_cons_succ, i64_w, i32_w]
                          rfl
                        refine pure_ (i := 3) (N := some 21) (v := ?_) (a' := ?_) #[true, true, true, true, false, false, false, false, false, false, false, false, false, false, false, false, false, false, false, false, false, false] rfl rfl (any_of HT_.out (by kernel_rfl)) (fun _ _ _ h => h) (Or.inl ⟨by rfl, ?_⟩) ?_ ?_
                        rotate_left
                        · intro w'
                          go_simp
                          with_reducible rfl
                        rotate_left
                        · simp only [Act.put, List.setIfInBounds_toArray, List.set_cons_zero, List.set_cons_succ, i64_w, i32_w]
                          rfl
                        refine pure_ (i := 5) (N := some 23) (v := ?_) (a' := ?_) #[true, true, true, true, false, true, false, false, false, false, false, false, false, false, false, false, false, false, false, false, false, false] rfl rfl (any_of HT_.out (by kernel_rfl)) (fun _ _ _ h => h) (Or.inl ⟨by rfl, ?_⟩) ?_ ?_
                        rotate_left
                        · intro w'
                          go_simp
                          with_reducible rfl
                        rotate_left
                        · simp only [Act.put, List.setIfInBounds_toArray, List.set_cons_zero, List.set_cons_succ, i64_w, i32_w]
                          rfl
                        refine pure_ (i := 6) (N := some 24) (v := ?_) (a' := ?_) #[true, true, true, true, false, true, true, false, false, false, false, false, false, false, false, false, false, false, false, false, false, false] rfl rfl (any_of HT_.out (by kernel_rfl)) (fun _ _ _ h => h) (Or.inl ⟨by rfl, ?_⟩) ?_ ?_
                        rotate_left
                        · intro w'
                          go_simp
                          with_reducible rfl
                        rotate_left
                        · simp only [Act.put, List.setIfInBounds_toArray, List.set_cons_zero, List.set_cons_succ, i64_w, i32_w]
                          rfl
                        refine pure_ (i := 7) (N := some 25) (v := ?_) (a' := ?_) #[true, true, true, true, false, true, true, true, false, false, false, false, false, false, false, false, false, false, false, false, false, false] rfl rfl (any_of HT_.out (by kernel_rfl)) (fun _ _ _ h => h) (Or.inl ⟨by rfl, ?_⟩) ?_ ?_
                        rotate_left
                        · intro w'
                          go_simp
                          with_reducible rfl
                        rotate_left
                        · simp only [Act.put, List.setIfInBounds_toArray, List.set_cons_zero, List.set_cons_succ, i64_w, i32_w]
                          rfl
                        refine pure_ (i := 8) (N := some 26) (v := ?_) (a' := ?_) #[true, true, true, true, false, true, true, true, true, false, false, false, false, false, false, false, false, false, false, false, false, false] rfl rfl (any_of HT_.out (by kernel_rfl)) (fun _ _ _ h => h) (Or.inl ⟨by rfl, ?_⟩) ?_ ?_
                        rotate_left
                        · intro w'
                          go_simp
                          with_reducible rfl
                        rotate_left
                        · simp only [Act.put, List.setIfInBounds_toArray, List.set_cons_zero, List.set_cons_succ, i64_w, i32_w]
                          rfl
                        refine take_ (i := 4) (N := some 22) (v := ?_) (a' := ?_) #[true, true, true, true, true, true, true, true, true, false, false, false, false, false, false, false, false, false, false, false, false, false] rfl rfl (take_ofW HT_.out HW_.out (by kernel_rfl)) (fun _ _ _ h => h) (Or.inl ⟨by rfl, ?_⟩) hHeld ?_ ?_
                        rotate_left
                        · rintro w' ⟨s0, s1, s2, s3, s4, s5, s6, s7, s8, s9, s10, s11, s12, s13, s14, s15, s16, s17, s18, s19, s20, s21, s22, s23⟩
                          go_simp
                          with_reducible rfl
                        rotate_left
                        · simp only [Act.put, List.setIfInBounds_toArray, List.set_cons_zero, List.set_cons_succ, i64_w, i32_w]
                          rfl
                        refine take_ (i := 9) (N := some 27) (v := ?_) (a' := ?_) #[true, true, true, true, true, true, true, true, true, true, false, false, false, false, false, false, false, false, false, false, false, false] rfl rfl (take_ofW HT_.out HW_.out (by kernel_rfl)) (fun _ _ _ h => h) (Or.inl ⟨by rfl, ?_⟩) hHeld ?_ ?_
                        rotate_left
                        · rintro w' ⟨s0, s1, s2, s3, s4, s5, s6, s7, s8, s9, s10, s11, s12, s13, s14, s15, s16, s17, s18, s19, s20, s21, s22, s23⟩
                          go_simp
                          with_reducible rfl
                        rotate_left
                        · simp only [Act.put, List.setIfInBounds_toArray, List.set_cons_zero, List.set_cons_succ, i64_w, i32_w]
                          rfl
                        refine pure_ (i := 10) (N := some 28) (v := ?_) (a' := ?_) #[true, true, true, true, true, true, true, true, true, true, true, false, false, false, false, false, false, false, false, false, false, false] rfl rfl (any_of HT_.out (by kernel_rfl)) (fun _ _ _ h => h) (Or.inl ⟨by rfl, ?_⟩) ?_ ?_
                        rotate_left
                        · intro w'
                          go_simp
                          with_reducible rfl
                        rotate_left
                        · simp only [Act.put, List.setIfInBounds_toArray, List.set_cons_zero, List.set_cons_succ, i64_w, i32_w]
                          rfl
                        refine pure_ (i := 11) (N := some 29) (v := ?_) (a' := ?_) #[true, true, true, true, true, true, true, true, true, true, true, true, false, false, false, false, false, false, false, false, false, false] rfl rfl (any_of HT_.out (by kernel_rfl)) (fun _ _ _ h => h) (Or.inl ⟨by rfl, ?_⟩) ?_ ?_
                        rotate_left
                        · intro w'
                          go_simp
                          with_reducible rfl
                        rotate_left
                        · simp only [Act.put, List.setIfInBounds_toArray, List.set_cons_zero, List.set_cons_succ, i64_w, i32_w]
                          rfl
                        refine pure_ (i := 12) (N := some 30) (v := ?_) (a' := ?_) #[true, true, true, true, true, true, true, true, true, true, true, true, true, false, false, false, false, false, false, false, false, false] rfl rfl (any_of HT_.out (by kernel_rfl)) (fun _ _ _ h => h) (Or.inl ⟨by rfl, ?_⟩) ?_ ?_
                        rotate_left
                        · intro w'
                          go_simp
                          with_reducible rfl
                        rotate_left
                        · simp only [Act.put, List.setIfInBounds_toArray, List.set_cons_zero, List.set_cons_succ, i64_w, i32_w]
                          rfl
                        refine pure_ (i := 13) (N := some 31) (v := ?_) (a' := ?_) #[true, true, true, true, true, true, true, true, true, true, true, true, true, true, false, false, false, false, false, false, false, false] rfl rfl (any_of HT_.out (by kernel_rfl)) (fun _ _ _ h => h) (Or.inl ⟨by rfl, ?_⟩) ?_ ?_
                        rotate_left
                        · intro w'
                          go_simp
                          with_reducible rfl
                        rotate_left
                        · simp only [Act.put, List.setIfInBounds_toArray, List.set_cons_zero, List.set_cons_succ, i64_w, i32_w]
                          rfl
                        refine pure_ (i := 14) (N := some 32) (v := ?_) (a' := ?_) #[true, true, true, true, true, true, true, true, true, true, true, true, true, true, true, false, false, false, false, false, false, false] rfl rfl (any_of HT_.out (by kernel_rfl)) (fun _ _ _ h => h) (Or.inl ⟨by rfl, ?_⟩) ?_ ?_
                        rotate_left
                        · intro w'
                          go_simp
                          with_reducible rfl
                        rotate_left
                        · simp only [Act.put, List.setIfInBounds_toArray, List.set_cons_zero, List.set_cons_succ, i64_w, i32_w]
                          rfl
                        refine pure_ (i := 16) (N := some 34) (v := ?_) (a' := ?_) #[true, true, true, true, true, true, true, true, true, true, true, true, true, true, true, false, true, false, false, false, false, false] rfl rfl (any_of HT_.out (by kernel_rfl)) (fun _ _ _ h => h) (Or.inl ⟨by rfl, ?_⟩) ?_ ?_
                        rotate_left
                        · intro w'
                          go_simp
                          with_reducible rfl
                        rotate_left
                        · simp only [Act.put, List.setIfInBounds_toArray, List.set_cons_zero, List.set_cons_succ, i64_w, i32_w]
                          rfl
                        refine pure_ (i := 17) (N := some 35) (v := ?_) (a' := ?_) #[true, true, true, true, true, true, true, true, true, true, true, true, true, true, true, false, true, true, false, false, false, false] rfl rfl (any_of HT_.out (by kernel_rfl)) (fun _ _ _ h => h) (Or.inl ⟨by rfl, ?_⟩) ?_ ?_
                        rotate_left
                        · intro w'
                          go_simp
                          with_reducible rfl
                        rotate_left
                        · simp only [Act.put, List.setIfInBounds_toArray, List.set_cons_zero, List.set_cons_succ, i64_w, i32_w]
                          rfl
                        refine pure_ (i := 18) (N := some 36) (v := ?_) (a' := ?_) #[true, true, true, true, true, true, true, true, true, true, true, true, true, true, true, false, true, true, true, false, false, false] rfl rfl (any_of HT_.out (by kernel_rfl)) (fun _ _ _ h => h) (Or.inl ⟨by rfl, ?_⟩) ?_ ?_
                        rotate_left
                        · intro w'
                          go_simp
                          with_reducible rfl
                        rotate_left
                        · simp only [Act.put, List.setIfInBounds_toArray, List.set_cons_zero, List.set_cons_succ, i64_w, i32_w]
                          rfl
                        refine take_ (i := 15) (N := some 33) (v := ?_) (a' := ?_) #[true, true, true, true, true, true, true, true, true, true, true, true, true, true, true, true, true, true, true, false, false, false] rfl rfl (take_ofW HT_.out HW_.out (by kernel_rfl)) (fun _ _ _ h => h) (Or.inl ⟨by rfl, ?_⟩) hHeld ?_ ?_
                        rotate_left
                        · rintro w' ⟨s0, s1, s2, s3, s4, s5, s6, s7, s8, s9, s10, s11, s12, s13, s14, s15, s16, s17, s18, s19, s20, s21, s22, s23⟩
                          go_simp
                          with_reducible rfl
                        rotate_left
                        · simp only [Act.put, List.setIfInBounds_toArray, List.set_cons_zero, List.set_cons_succ, i64_w, i32_w]
                          rfl
                        refine take_ (i := 19) (N := some 37) (v := ?_) (a' := ?_) #[true, true, true, true, true, true, true, true, true, true, true, true, true, true, true, true, true, true, true, true, false, false] rfl rfl (take_ofW HT_.out HW_.out (by kernel_rfl)) (fun _ _ _ h => h) (Or.inl ⟨by rfl, ?_⟩) hHeld ?_ ?_
                        rotate_left
                        · rintro w' ⟨s0, s1, s2, s3, s4, s5, s6, s7, s8, s9, s10, s11, s12, s13, s14, s15, s16, s17, s18, s19, s20, s21, s22, s23⟩
                          go_simp
                          with_reducible rfl
                        rotate_left
                        · simp only [Act.put, List.setIfInBounds_toArray, List.set_cons_zero, List.set_cons_succ, i64_w, i32_w]
                          rfl
                        refine one_ (i := 20) (N := some 38) #[true, true, true, true, true, true, true, true, true, true, true, true, true, true, true, true, true, true, true, true, true, false] rfl rfl (one_of HT_.out (by kernel_rfl)) (by decide) (fun K hK => ?_)
                        refine goes_ Try.func31 (by kernel_rfl) rfl #[.agg #[.int .i64 ((rd_T31 l0 x4_1).f0), .int .i64 ((rd_T31 l0 x4_1).f1), .bool ((rd_T31 l0 x4_1).f2), .int .i64 ((rd_T31 l0 x4_1).f3), .bool ((rd_T31 l0 x4_1).f4), .int .i64 ((rd_T31 l0 x4_1).f5)], .agg #[.int .i64 ((rd_T31 l0 x5_2).f0), .int .i64 ((rd_T31 l0 x5_2).f1), .bool ((rd_T31 l0 x5_2).f2), .int .i64 ((rd_T31 l0 x5_2).f3), .bool ((rd_T31 l0 x5_2).f4), .int .i64 ((rd_T31 l0 x5_2).f5)]] (by rfl) rfl rfl (by (try simp only [List.map_toArray, List.map_cons, List.map_nil]); first | done | rfl | (simp only [List.length_drop, List.length_take]; rfl)) ?_
                        with_reducible refine (meddlerref15_Meet.calls ((rd_T31 l0 x4_1).f0) ((rd_T31 l0 x4_1).f1) ((rd_T31 l0 x4_1).f2) ((rd_T31 l0 x4_1).f3) ((rd_T31 l0 x4_1).f4) ((rd_T31 l0 x4_1).f5) ((rd_T31 l0 x5_2).f0) ((rd_T31 l0 x5_2).f1) ((rd_T31 l0 x5_2).f2) ((rd_T31 l0 x5_2).f3) ((rd_T31 l0 x5_2).f4) ((rd_T31 l0 x5_2).f5) false _ A8.out).mono ?_
                        rintro e w17 ⟨rfl, hb⟩
                        refine ⟨_, rfl, ?_⟩
                        have n0_ := Aside0.mk (Kd.R_below (by (with_reducible repeat (first | apply Kd.R_alloc | apply Kd.R_drewN | apply Kd.R_drew)); exact HO_3.out) hb)
                        have n1_ := Aside0.mk (below_step (by repeat (first | (with_reducible first | exact HB.out | apply below_alloc | apply pw_below_drewN | apply below_drew1) | exact HB.out)) hb)
                        clear HO_3
                        clear HB
                        have HO_3 := n0_
                        have HB := n1_
                        clear n0_ n1_
                        (try clear hb)
                        (try clear hb2)
                        (try clear hk)
                        (try clear hi)
                        refine hK.out _ _ ⟨((HB.out.cell (World.block_lt_of_cell? w _ hw334_0)).trans hw334_0), ((HB.out.cell (World.block_lt_of_cell? w _ hw334_1)).trans hw334_1), ((HB.out.cell (World.block_lt_of_cell? w _ hw334_2)).trans hw334_2), ((HB.out.cell (World.block_lt_of_cell? w _ hw334_3)).trans hw334_3), ((HB.out.cell (World.block_lt_of_cell? w _ hw334_4)).trans hw334_4), ((HB.out.cell (World.block_lt_of_cell? w _ hw334_5)).trans hw334_5), ((HB.out.cell (World.block_lt_of_cell? w _ hw335_0)).trans hw335_0), ((HB.out.cell (World.block_lt_of_cell? w _ hw335_1)).trans hw335_1), ((HB.out.cell (World.block_lt_of_cell? w _ hw335_2)).trans hw335_2), ((HB.out.cell (World.block_lt_of_cell? w _ hw335_3)).trans hw335_3), ((HB.out.cell (World.block_lt_of_cell? w _ hw335_4)).trans hw335_4), ((HB.out.cell (World.block_lt_of_cell? w _ hw335_5)).trans hw335_5), ((HB.out.cell (World.block_lt_of_cell? w _ hw336_0)).trans hw336_0), ((HB.out.cell (World.block_lt_of_cell? w _ hw336_1)).trans hw336_1), ((HB.out.cell (World.block_lt_of_cell? w _ hw336_2)).trans hw336_2), ((HB.out.cell (World.block_lt_of_cell? w _ hw336_3)).trans hw336_3), ((HB.out.cell (World.block_lt_of_cell? w _ hw336_4)).trans hw336_4), ((HB.out.cell (World.block_lt_of_cell? w _ hw336_5)).trans hw336_5), ((HB.out.cell (World.block_lt_of_cell? w _ hw337_0)).trans hw337_0), ((HB.out.cell (World.block_lt_of_cell? w _ hw337_1)).trans hw337_1), ((HB.out.cell (World.block_lt_of_cell? w _ hw337_2)).trans hw337_2), ((HB.out.cell (World.block_lt_of_cell? w _ hw337_3)).trans hw337_3), ((HB.out.cell (World.block_lt_of_cell? w _ hw337_4)).trans hw337_4), ((HB.out.cell (World.block_lt_of_cell? w _ hw337_5)).trans hw337_5)⟩ (fun hHeld => ?_)
                        clear hK K
                        refine norm_ (a' := ?_) ?_ ?_
                        rotate_left
                        · show Act.put _ (some 38) _ = _
                          simp only [Act.put, List.setIfInBounds_toArray, List.set_cons_zero, List.set_cons_succ, i64_w, i32_w]
                          rfl
                        refine pure_ (i := 21) (N := some 39) (v := ?_) (a' := ?_) #[true, true, true, true, true, true, true, true, true, true, true, true, true, true, true, true, true, true, true, true, true, true] rfl rfl (any_of HT_.out (by kernel_rfl)) (fun _ _ _ h => h) (Or.inl ⟨by rfl, ?_⟩) ?_ ?_
                        rotate_left
                        · intro w'
                          go_simp
                          with_reducible rfl
                        rotate_left
                        · simp only [Act.put, List.setIfInBounds_toArray, List.set_cons_zero, List.set_cons_succ, i64_w, i32_w]
                          rfl
                        refine done_ (done_of HT_.out (by kernel_rfl)) ?_
                        try go_wp2
                        go_roundg k2
                        case measure => have := HK1.out; have := HK2.out; omega
                        case rel => exact ⟨(x3_2), (wrap64 (x5_2 + 1)), (by first | rfl | (simp; done) | (simp [*]; done)), H', ⟨by have := HK1.out; have := HK2.out; omega⟩, ⟨by (with_reducible repeat (first | apply Kd.R_alloc | apply Kd.R_drewN | apply Kd.R_drew)); exact HO_3.out⟩, ⟨by repeat (first | (with_reducible first | exact HB.out | apply below_alloc | apply pw_below_drewN | apply below_drew1) | exact HB.out)⟩⟩
                    · rw [if_neg c7] at H
                      have c7b0 : decide (((rd_T31 l0 x4_1).f0) < ((rd_T31 l0 x5_2).f0)) = false := decide_eq_false c7
                      clear c7
                      have H' := Aside0.mk H
                      clear H
                      try go_wp2
                      have n0_ := Aside0.mk (Kd.R_drew HO_3.out)
                      have n1_ := Aside0.mk (below_drew1 HB.out)
                      clear HO_3
                      clear HB
                      have HO_3 := n0_
                      have HB := n1_
                      clear n0_ n1_
                      have p334 : 0 ≤ (x4_1 : Int) := of_decide_eq_true (by first | (with_reducible assumption) | assumption)
                      have q334 : x4_1 < (l0.length : Int) := of_decide_eq_true (by first | (with_reducible assumption) | assumption)
                      obtain ⟨ad334, e334, hx334_0, hx334_1, hx334_2, hx334_3, hx334_4, hx334_5⟩ := at_T31 HR0.out x4_1 p334 q334
                      have hw334_5 := hx334_5
                      have hw334_4 := hx334_4
                      have hw334_3 := hx334_3
                      have hw334_2 := hx334_2
                      have hw334_1 := hx334_1
                      have hw334_0 := hx334_0
                      cases e334
                      replace hx334_0 := (HB.out.cell (World.block_lt_of_cell? w _ hx334_0)).trans hx334_0
                      replace hx334_1 := (HB.out.cell (World.block_lt_of_cell? w _ hx334_1)).trans hx334_1
                      replace hx334_2 := (HB.out.cell (World.block_lt_of_cell? w _ hx334_2)).trans hx334_2
                      replace hx334_3 := (HB.out.cell (World.block_lt_of_cell? w _ hx334_3)).trans hx334_3
                      replace hx334_4 := (HB.out.cell (World.block_lt_of_cell? w _ hx334_4)).trans hx334_4
                      replace hx334_5 := (HB.out.cell (World.block_lt_of_cell? w _ hx334_5)).trans hx334_5
                      replace p334 := eq_true p334
                      replace q334 := eq_true q334
                      have p335 : 0 ≤ (x5_2 : Int) := of_decide_eq_true (by first | (with_reducible assumption) | assumption)
                      have q335 : x5_2 < (l0.length : Int) := of_decide_eq_true (by first | (with_reducible assumption) | assumption)
                      obtain ⟨ad335, e335, hx335_0, hx335_1, hx335_2, hx335_3, hx335_4, hx335_5⟩ := at_T31 HR0.out x5_2 p335 q335
                      have hw335_5 := hx335_5
                      have hw335_4 := hx335_4
                      have hw335_3 := hx335_3
                      have hw335_2 := hx335_2
                      have hw335_1 := hx335_1
                      have hw335_0 := hx335_0
                      obtain rfl : ad334 = ad335 := (by injection e335)
                      replace hx335_0 := (HB.out.cell (World.block_lt_of_cell? w _ hx335_0)).trans hx335_0
                      replace hx335_1 := (HB.out.cell (World.block_lt_of_cell? w _ hx335_1)).trans hx335_1
                      replace hx335_2 := (HB.out.cell (World.block_lt_of_cell? w _ hx335_2)).trans hx335_2
                      replace hx335_3 := (HB.out.cell (World.block_lt_of_cell? w _ hx335_3)).trans hx335_3
                      replace hx335_4 := (HB.out.cell (World.block_lt_of_cell? w _ hx335_4)).trans hx335_4
                      replace hx335_5 := (HB.out.cell (World.block_lt_of_cell? w _ hx335_5)).trans hx335_5
                      replace p335 := eq_true p335
                      replace q335 := eq_true q335
                      refine start_ (n := 22) (S := fun w' => w'.cell? (ad334.add ((x4_1).toNat * 6)) = some (.int .i64 ((rd_T31 l0 x4_1).f0)) ∧ w'.cell? ⟨(ad334.add ((x4_1).toNat * 6)).block, (ad334.add ((x4_1).toNat * 6)).off + 1, none⟩ = some (.int .i64 ((rd_T31 l0 x4_1).f1)) ∧ w'.cell? ⟨(ad334.add ((x4_1).toNat * 6)).block, (ad334.add ((x4_1).toNat * 6)).off + 2, none⟩ = some (.bool ((rd_T31 l0 x4_1).f2)) ∧ w'.cell? ⟨(ad334.add ((x4_1).toNat * 6)).block, (ad334.add ((x4_1).toNat * 6)).off + 3, none⟩ = some (.int .i64 ((rd_T31 l0 x4_1).f3)) ∧ w'.cell? ⟨(ad334.add ((x4_1).toNat * 6)).block, (ad334.add ((x4_1).toNat * 6)).off + 4, none⟩ = some (.bool ((rd_T31 l0 x4_1).f4)) ∧ w'.cell? ⟨(ad334.add ((x4_1).toNat * 6)).block, (ad334.add ((x4_1).toNat * 6)).off + 5, none⟩ = some (.int .i64 ((rd_T31 l0 x4_1).f5)) ∧ w'.cell? (ad334.add ((x5_2).toNat * 6)) = some (.int .i64 ((rd_T31 l0 x5_2).f0)) ∧ w'.cell? ⟨(ad334.add ((x5_2).toNat * 6)).block, (ad334.add ((x5_2).toNat * 6)).off + 1, none⟩ = some (.int .i64 ((rd_T31 l0 x5_2).f1)) ∧ w'.cell? ⟨(ad334.add ((x5_2).toNat * 6)).block, (ad334.add ((x5_2).toNat * 6)).off + 2, none⟩ = some (.bool ((rd_T31 l0 x5_2).f2)) ∧ w'.cell? ⟨(ad334.add ((x5_2).toNat * 6)).block, (ad334.add ((x5_2).toNat * 6)).off + 3, none⟩ = some (.int .i64 ((rd_T31 l0 x5_2).f3)) ∧ w'.cell? ⟨(ad334.add ((x5_2).toNat * 6)).block, (ad334.add ((x5_2).toNat * 6)).off + 4, none⟩ = some (.bool ((rd_T31 l0 x5_2).f4)) ∧ w'.cell? ⟨(ad334.add ((x5_2).toNat * 6)).block, (ad334.add ((x5_2).toNat * 6)).off + 5, none⟩ = some (.int .i64 ((rd_T31 l0 x5_2).f5))) (ds := []) #[false, false, false, false, false, false, false, false, false, false, false, false, false, false, false, false, false, false, false, false, false, false] (by kernel_rfl) rfl rfl ⟨((HB.out.cell (World.block_lt_of_cell? w _ hw334_0)).trans hw334_0), ((HB.out.cell (World.block_lt_of_cell? w _ hw334_1)).trans hw334_1), ((HB.out.cell (World.block_lt_of_cell? w _ hw334_2)).trans hw334_2), ((HB.out.cell (World.block_lt_of_cell? w _ hw334_3)).trans hw334_3), ((HB.out.cell (World.block_lt_of_cell? w _ hw334_4)).trans hw334_4), ((HB.out.cell (World.block_lt_of_cell? w _ hw334_5)).trans hw334_5), ((HB.out.cell (World.block_lt_of_cell? w _ hw335_0)).trans hw335_0), ((HB.out.cell (World.block_lt_of_cell? w _ hw335_1)).trans hw335_1), ((HB.out.cell (World.block_lt_of_cell? w _ hw335_2)).trans hw335_2), ((HB.out.cell (World.block_lt_of_cell? w _ hw335_3)).trans hw335_3), ((HB.out.cell (World.block_lt_of_cell? w _ hw335_4)).trans hw335_4), ((HB.out.cell (World.block_lt_of_cell? w _ hw335_5)).trans hw335_5)⟩ (fun hHeld => ?_); refine with_tabW meddlerref15_All.tab8 meddlerref15_All.bits8 (fun HT_ HW_ => ?_)
                      generalize wr.drew = w18 at HO_3 HB hx334_0 hx334_1 hx334_2 hx334_3 hx334_4 hx334_5 hx335_0 hx335_1 hx335_2 hx335_3 hx335_4 hx335_5 hHeld ⊢
                      refine pure_ (i := 0) (N := some 18) (v := ?_) (a' := ?_) #[true, false, false, false, false, false, false, false, false, false, false, false, false, false, false, false, false, false, false, false, false, false] rfl rfl (any_of HT_.out (by kernel_rfl)) (fun _ _ _ h => h) (Or.inl ⟨by rfl, ?_⟩) ?_ ?_
                      rotate_left
                      · intro w'
                        go_simp
                        with_reducible rfl
                      rotate_left
                      · simp only [Act.put, List.setIfInBounds_toArray, List.set_cons_zero, List.set_cons_succ, i64_w, i32_w]
                        rfl
                      refine pure_ (i := 1) (N := some 19) (v := ?_) (a' := ?_) #[true, true, false, false, false, false, false, false, false, false, false, false, false, false, false, false, false, false, false, false, false, false] rfl rfl (any_of HT_.out (by kernel_rfl)) (fun _ _ _ h => h) (Or.inl ⟨by rfl, ?_⟩) ?_ ?_
                      rotate_left
                      · intro w'
                        go_simp
                        with_reducible rfl
                      rotate_left
                      · simp only [Act.put, List.setIfInBounds_toArray, List.set_cons_zero, List.set_cons_succ, i64_w, i32_w]
                        rfl
                      refine pure_ (i := 2) (N := some 20) (v := ?_) (a' := ?_) #[true, true, true, false, false, false, false, false, false, false, false, false, false, false, false, false, false, false, false, false, false, false] rfl rfl (any_of HT_.out (by kernel_rfl)) (fun _ _ _ h => h) (Or.inl ⟨by rfl, ?_⟩) ?_ ?_
                      rotate_left
                      · intro w'
                        go_simp
                        with_reducible rfl
                      rotate_left
                      · simp only [Act.put, List.setIfInBounds_toArray, List.set_cons_zero, List.set_cons_succ, i64_w, i32_w]
                        rfl
                      refine pure_ (i := 3) (N := some 21) (v := ?_) (a' := ?_) #[true, true, true, true, false, false, false, false, false, false, false, false, false, false, false, false, false, false, false, false, false, false] rfl rfl (any_of HT_.out (by kernel_rfl)) (fun _ _ _ h => h) (Or.inl ⟨by rfl, ?_⟩) ?_ ?_
                      rotate_left
                      · intro w'
                        go_simp
                        with_reducible rfl
                      rotate_left
                      · simp only [Act.put, List.setIfInBounds_toArray, List.set_cons_zero, List.set_cons_succ, i64_w, i32_w]
                        rfl
                      refine pure_ (i := 5) (N := some 23) (v := ?_) (a' := ?_) #[true, true, true, true, false, true, false, false, false, false, false, false, false, false, false, false, false, false, false, false, false, false] rfl rfl (any_of HT_.out (by kernel_rfl)) (fun _ _ _ h => h) (Or.inl ⟨by rfl, ?_⟩) ?_ ?_
                      rotate_left
                      · intro w'
                        go_simp
                        with_reducible rfl
                      rotate_left
                      · simp only [Act.put, List.setIfInBounds_toArray, List.set_cons_zero, List.set_cons_succ, i64_w, i32_w]
                        rfl
                      refine pure_ (i := 6) (N := some 24) (v := ?_) (a' := ?_) #[true, true, true, true, false, true, true, false, false, false, false, false, false, false, false, false, false, false, false, false, false, false] rfl rfl (any_of HT_.out (by kernel_rfl)) (fun _ _ _ h => h) (Or.inl ⟨by rfl, ?_⟩) ?_ ?_
                      rotate_left
                      · intro w'
                        go_simp
                        with_reducible rfl
                      rotate_left
                      · simp only [Act.put, List.setIfInBounds_toArray, List.set_cons_zero, List.set_cons_succ, i64_w, i32_w]
                        rfl
                      refine pure_ (i := 7) (N := some 25) (v := ?_) (a' := ?_) #[true, true, true, true, false, true, true, true, false, false, false, false, false, false, false, false, false, false, false, false, false, false] rfl rfl (any_of HT_.out (by kernel_rfl)) (fun _ _ _ h => h) (Or.inl ⟨by rfl, ?_⟩) ?_ ?_
                      rotate_left
                      · intro w'
                        go_simp
                        with_reducible rfl
                      rotate_left
                      · simp only [Act.put, List.setIfInBounds_toArray, List.set_cons_zero, List.set_cons_succ, i64_w, i32_w]
                        rfl
                      refine pure_ (i := 8) (N := some 26) (v := ?_) (a' := ?_) #[true, true, true, true, false, true, true, true, true, false, false, false, false, false, false, false, false, false, false, false, false, false] rfl rfl (any_of HT_.out (by kernel_rfl)) (fun _ _ _ h => h) (Or.inl ⟨by rfl, ?_⟩) ?_ ?_
                      rotate_left
                      · intro w'
                        go_simp
                        with_reducible rfl
                      rotate_left
                      · simp only [Act.put, List.setIfInBounds_toArray, List.set_cons_zero, List.set_cons_succ, i64_w, i32_w]
                        rfl
                      refine take_ (i := 4) (N := some 22) (v := ?_) (a' := ?_) #[true, true, true, true, true, true, true, true, true, false, false, false, false, false, false, false, false, false, false, false, false, false] rfl rfl (take_ofW HT_.out HW_.out (by kernel_rfl)) (fun _ _ _ h => h) (Or.inl ⟨by rfl, ?_⟩) hHeld ?_ ?_
                      rotate_left
                      · rintro w' ⟨s0, s1, s2, s3, s4, s5, s6, s7, s8, s9, s10, s11⟩
                        go_simp
                        with_reducible rfl
                      rotate_left
                      · simp only [Act.put, List.setIfInBounds_toArray, List.set_cons_zero, List.set_cons_succ, i64_w, i32_w]
                        rfl
                      refine take_ (i := 9) (N := some 27) (v := ?_) (a' := ?_) #[true, true, true, true, true, true, true, true, true, true, false, false, false, false, false, false, false, false, false, false, false, false] rfl rfl (take_ofW HT_.out HW_.out (by kernel_rfl)) (fun _ _ _ h => h) (Or.inl ⟨by rfl, ?_⟩) hHeld ?_ ?_
                      rotate_left
                      · rintro w' ⟨s0, s1, s2, s3, s4, s5, s6, s7, s8, s9, s10, s11⟩
                        go_simp
                        with_reducible rfl
                      rotate_left
                      · simp only [Act.put, List.setIfInBounds_toArray, List.set_cons_zero, List.set_cons_succ, i64_w, i32_w]
                        rfl
                      refine pure_ (i := 10) (N := some 28) (v := ?_) (a' := ?_) #[true, true, true, true, true, true, true, true, true, true, true, false, false, false, false, false, false, false, false, false, false, false] rfl rfl (any_of HT_.out (by kernel_rfl)) (fun _ _ _ h => h) (Or.inl ⟨by rfl, ?_⟩) ?_ ?_
                      rotate_left
                      · intro w'
                        go_simp
                        with_reducible rfl
                      rotate_left
                      · simp only [Act.put, List.setIfInBounds_toArray, List.set_cons_zero, List.set_cons_succ, i64_w, i32_w]
                        rfl
                      refine pure_ (i := 11) (N := some 29) (v := ?_) (a' := ?_) #[true, true, true, true, true, true, true, true, true, true, true, true, false, false, false, false, false, false, false, false, false, false] rfl rfl (any_of HT_.out (by kernel_rfl)) (fun _ _ _ h => h) (Or.inl ⟨by rfl, ?_⟩) ?_ ?_
                      rotate_left
                      · intro w'
                        go_simp
                        with_reducible rfl
                      rotate_left
                      · simp only [Act.put, List.setIfInBounds_toArray, List.set_cons_zero, List.set_cons_succ, i64_w, i32_w]
                        rfl
                      refine pure_ (i := 12) (N := some 30) (v := undef) (a' := ?_) #[true, true, true, true, true, true, true, true, true, true, true, true, true, false, false, false, false, false, false, false, false, false] rfl rfl (any_of HT_.out (by kernel_rfl)) (fun _ _ _ h => h) (Or.inr ⟨by rfl, rfl⟩) ?_ ?_
                      rotate_left
                      · simp only [Act.put, List.setIfInBounds_toArray, List.set_cons_zero, List.set_cons_succ, i64_w, i32_w]
                        rfl
                      refine pure_ (i := 13) (N := some 31) (v := undef) (a' := ?_) #[true, true, true, true, true, true, true, true, true, true, true, true, true, true, false, false, false, false, false, false, false, false] rfl rfl (any_of HT_.out (by kernel_rfl)) (fun _ _ _ h => h) (Or.inr ⟨by rfl, rfl⟩) ?_ ?_
                      rotate_left
                      · simp only [Act.put, List.setIfInBounds_toArray, List.set_cons_zero, List.set_cons_succ, i64_w, i32_w]
                        rfl
                      refine pure_ (i := 14) (N := some 32) (v := undef) (a' := ?_) #[true, true, true, true, true, true, true, true, true, true, true, true, true, true, true, false, false, false, false, false, false, false] rfl rfl (any_of HT_.out (by kernel_rfl)) (fun _ _ _ h => h) (Or.inr ⟨by rfl, rfl⟩) ?_ ?_
                      rotate_left
                      · simp only [Act.put, List.setIfInBounds_toArray, List.set_cons_zero, List.set_cons_succ, i64_w, i32_w]
                        rfl
                      refine pure_ (i := 15) (N := some 33) (v := undef) (a' := ?_) #[true, true, true, true, true, true, true, true, true, true, true, true, true, true, true, true, false, false, false, false, false, false] rfl rfl (any_of HT_.out (by kernel_rfl)) (fun _ _ _ h => h) (Or.inr ⟨by rfl, rfl⟩) ?_ ?_
                      rotate_left
                      · simp only [Act.put, List.setIfInBounds_toArray, List.set_cons_zero, List.set_cons_succ, i64_w, i32_w]
                        rfl
                      refine pure_ (i := 16) (N := some 34) (v := undef) (a' := ?_) #[true, true, true, true, true, true, true, true, true, true, true, true, true, true, true, true, true, false, false, false, false, false] rfl rfl (any_of HT_.out (by kernel_rfl)) (fun _ _ _ h => h) (Or.inr ⟨by rfl, rfl⟩) ?_ ?_
                      rotate_left
                      · simp only [Act.put, List.setIfInBounds_toArray, List.set_cons_zero, List.set_cons_succ, i64_w, i32_w]
                        rfl
                      refine pure_ (i := 17) (N := some 35) (v := undef) (a' := ?_) #[true, true, true, true, true, true, true, true, true, true, true, true, true, true, true, true, true, true, false, false, false, false] rfl rfl (any_of HT_.out (by kernel_rfl)) (fun _ _ _ h => h) (Or.inr ⟨by rfl, rfl⟩) ?_ ?_
                      rotate_left
                      · simp only [Act.put, List.setIfInBounds_toArray, List.set_cons_zero, List.set_cons_succ, i64_w, i32_w]
                        rfl
                      refine pure_ (i := 18) (N := some 36) (v := undef) (a' := ?_) #[true, true, true, true, true, true, true, true, true, true, true, true, true, true, true, true, true, true, true, false, false, false] rfl rfl (any_of HT_.out (by kernel_rfl)) (fun _ _ _ h => h) (Or.inr ⟨by rfl, rfl⟩) ?_ ?_
                      rotate_left
                      · simp only [Act.put, List.setIfInBounds_toArray, List.set_cons_zero, List.set_cons_succ, i64_w, i32_w]
                        rfl
                      refine pure_ (i := 19) (N := some 37) (v := undef) (a' := ?_) #[true, true, true, true, true, true, true, true, true, true, true, true, true, true, true, true, true, true, true, true, false, false] rfl rfl (any_of HT_.out (by kernel_rfl)) (fun _ _ _ h => h) (Or.inr ⟨by rfl, rfl⟩) ?_ ?_
                      rotate_left
                      · simp only [Act.put, List.setIfInBounds_toArray, List.set_cons_zero, List.set_cons_succ, i64_w, i32_w]
                        rfl
                      refine pure_ (i := 20) (N := some 38) (v := undef) (a' := ?_) #[true, true, true, true, true, true, true, true, true, true, true, true, true, true, true, true, true, true, true, true, true, false] rfl rfl (any_of HT_.out (by kernel_rfl)) (fun _ _ _ h => h) (Or.inr ⟨by rfl, rfl⟩) ?_ ?_
                      rotate_left
                      · simp only [Act.put, List.setIfInBounds_toArray, List.set_cons_zero, List.set_cons_succ, i64_w, i32_w]
                        rfl
                      refine pure_ (i := 21) (N := some 39) (v := ?_) (a' := ?_) #[true, true, true, true, true, true, true, true, true, true, true, true, true, true, true, true, true, true, true, true, true, true] rfl rfl (any_of HT_.out (by kernel_rfl)) (fun _ _ _ h => h) (Or.inl ⟨by rfl, ?_⟩) ?_ ?_
                      rotate_left
                      · intro w'
                        go_simp
                        with_reducible rfl
                      rotate_left
                      · simp only [Act.put, List.setIfInBounds_toArray, List.set_cons_zero, List.set_cons_succ, i64_w, i32_w]
                        rfl
                      refine done_ (done_of HT_.out (by kernel_rfl)) ?_
                      try go_wp2
                      go_roundg k2
                      case measure => have := HK1.out; have := HK2.out; omega
                      case rel => exact ⟨(x3_2), (wrap64 (x5_2 + 1)), (by first | rfl | (simp; done) | (simp [*]; done)), H', ⟨by have := HK1.out; have := HK2.out; omega⟩, ⟨by (with_reducible repeat (first | apply Kd.R_alloc | apply Kd.R_drewN | apply Kd.R_drew)); exact HO_3.out⟩, ⟨by repeat (first | (with_reducible first | exact HB.out | apply below_alloc | apply pw_below_drewN | apply below_drew1) | exact HB.out)⟩⟩
                  · rw [if_neg c6] at H
                    exact absurd H (by simp)
                · rw [if_neg c5] at H
                  exact absurd H (by simp)
              · rw [if_neg c4] at H
                exact absurd H (by simp)
            · rw [if_neg c3] at H
              have c3b0 : decide (x5_2 < (l0.length : Int)) = false := decide_eq_false c3
              clear c3
              have H' := Aside0.mk H
              clear H
              go_wp2
              go_roundg k2
              case measure => have := HK1.out; have := HK2.out; omega
              case rel => exact ⟨(x3_2), (wrap64 (x4_1 + 1)), (by first | rfl | (simp; done) | (simp [*]; done)), H', ⟨by have := HK1.out; have := HK2.out; omega⟩, ⟨by (with_reducible repeat (first | apply Kd.R_alloc | apply Kd.R_drewN | apply Kd.R_drew)); exact HO_3.out⟩, ⟨by repeat (first | (with_reducible first | exact HB.out | apply below_alloc | apply pw_below_drewN | apply below_drew1) | exact HB.out)⟩⟩
      · rw [if_neg c2] at H
        have c2b0 : decide (x4_1 < (l0.length : Int)) = false := decide_eq_false c2
        clear c2
        obtain rfl := Option.some.inj H
        go_wp2
        go_ret
        exact ⟨_, by first | rfl | (simp [errW_none, errW_some] <;> rfl) | (simp [*, errW_none, errW_some] <;> rfl), by (with_reducible repeat (first | apply Kd.R_alloc | apply Kd.R_drewN | apply Kd.R_drew)); exact HO_3.out, by repeat (first | (with_reducible first | exact HB.out | apply below_alloc | apply pw_below_drewN | apply below_drew1) | exact HB.out)⟩
end Go.Proofs.Ytadnjibgdpjnlaa.Rp
