/- An own text of this seat: Lean functions with the answers of Go functions, and that the Go code comes to them. Written by a program of this session out of the translation. -/
import Derived.Test.YtadnjibgdpjnlaaRpx0
import Derived.Test.YtadnjibgdpjnlaaRpx1
import Derived.Test.YtadnjibgdpjnlaaRpF16
import Derived.Test.YtadnjibgdpjnlaaRpF19
import Derived.Test.YtadnjibgdpjnlaaRpF20
import Derived.Test.YtadnjibgdpjnlaaRpF22
namespace Go.Proofs.Ytadnjibgdpjnlaa.Rp
open Go.RowKit Go.Proofs.YtadnjibgdpjnlaaW.PrintWords Go.Proofs.YtadnjibgdpjnlaaW.PrintLast Go.Proofs.YtadnjibgdpjnlaaW.PrintMore
attribute [local go_sem] max2_int min2_int max_two min_two max_three min_three max_four min_four   -- for this text's walks alone
set_option linter.unusedVariables false
set_option linter.unusedSimpArgs false

attribute [local go_sem high] eqA24
/-! ### meddlerlaw15_ClashOrder: function 9 -/
mutual
def meddlerlaw15_ClashOrder.j0 : Nat → List (S31) → Int → Bool → Option (Bool)
  | 0, _, _, _ => none
  | k + 1, x0, x1, x22 => if x22 = true then (some true) else (if (x0.length : Int) = 0 then (none) else ((some (([] : List (S31)) : List (S31))).bind fun y424 => (if 0 ≤ (Int.tmod (Go.bits .and .i64 x1 1023) (x0.length : Int)) then (if (Int.tmod (Go.bits .and .i64 x1 1023) (x0.length : Int)) ≤ (x0.length : Int) then ((some (x0.drop ((Int.tmod (Go.bits .and .i64 x1 1023) (x0.length : Int)) : Int).toNat : List (S31))).bind fun y427 => (if y424.length + y427.length < 2932031007402 then ((some (y424 ++ y427 : List (S31))).bind fun y431 => ((some (x0.take ((Int.tmod (Go.bits .and .i64 x1 1023) (x0.length : Int)) : Int).toNat : List (S31))).bind fun y434 => (if y431.length + y434.length < 2932031007402 then ((some (y431 ++ y434 : List (S31))).bind fun y438 => (if 0 < (x0.length : Int) then ((some (([(⟨(rd_T31 x0 0).f0, (rd_T31 x0 0).f1, (rd_T31 x0 0).f2, (rd_T31 x0 0).f3, (rd_T31 x0 0).f4, (rd_T31 x0 0).f5⟩ : S31)] : List (S31)) : List (S31))).bind fun y442 => (if y438.length + y442.length < 2932031007402 then ((clash_All.f k x0).bind fun t448 => ((clash_All.f k (y438 ++ y442)).bind fun t451 => (if (t448.length : Int) = (t451.length : Int) then (meddlerlaw15_ClashOrder.l0 k t448 t451 0) else (some false)))) else (none))) else (none))) else (none)))) else (none))) else (none)) else (none))))
def meddlerlaw15_ClashOrder.l0 : Nat → List (S24) → List (S24) → Int → Option (Bool)
  | 0, _, _, _ => none
  | k + 1, x7, x8, x9 => if x9 < (x7.length : Int) then (if 0 ≤ x9 then (if x9 < (x8.length : Int) then (if (!(((rd_T24 x7 x9).f0) == ((rd_T24 x8 x9).f0)) || (!(((rd_T24 x7 x9).f1) == ((rd_T24 x8 x9).f1)) || (!(((rd_T24 x7 x9).f2) == ((rd_T24 x8 x9).f2)) || (!(((rd_T24 x7 x9).f3) == ((rd_T24 x8 x9).f3)) || (!(((rd_T24 x7 x9).f4) == ((rd_T24 x8 x9).f4)) || (!(((rd_T24 x7 x9).f5) == ((rd_T24 x8 x9).f5)))))))) = true then (some false) else (if ((rd_T24 x7 x9).f1) ≥ ((rd_T24 x7 x9).f4) then (some false) else (if x9 > 0 then (if 0 ≤ (wrap64 (x9 - 1)) then (if (wrap64 (x9 - 1)) < (x7.length : Int) then ((meddlerref15_Order.f k ((rd_T24 x7 (wrap64 (x9 - 1))).f0) ((rd_T24 x7 (wrap64 (x9 - 1))).f1) ((rd_T24 x7 (wrap64 (x9 - 1))).f2) ((rd_T24 x7 (wrap64 (x9 - 1))).f3) ((rd_T24 x7 (wrap64 (x9 - 1))).f4) ((rd_T24 x7 (wrap64 (x9 - 1))).f5) ((rd_T24 x7 x9).f0) ((rd_T24 x7 x9).f1) ((rd_T24 x7 x9).f2) ((rd_T24 x7 x9).f3) ((rd_T24 x7 x9).f4) ((rd_T24 x7 x9).f5)).bind fun t460 => (if t460 ≥ 0 then (some false) else (meddlerlaw15_ClashOrder.l0 k x7 x8 (wrap64 (x9 + 1))))) else (none)) else (none)) else (meddlerlaw15_ClashOrder.l0 k x7 x8 (wrap64 (x9 + 1)))))) else (none)) else (none)) else ((meddlerlaw15_known.f k).bind fun t461 => (some t461))
end
def meddlerlaw15_ClashOrder.f (k : Nat) (l0 : List (S31)) (a1 : Int) : Option (Bool) := if (l0.length : Int) > 30 then (meddlerlaw15_ClashOrder.j0 k l0 a1 true) else (if (l0.length : Int) = 0 then (meddlerlaw15_ClashOrder.j0 k l0 a1 true) else ((meddlerlaw15_may.f k l0).bind fun t423 => (meddlerlaw15_ClashOrder.j0 k l0 a1 (!t423))))
theorem meddlerlaw15_ClashOrder.mono_l : ∀ k, (∀ y0 y1 y2, LeO (meddlerlaw15_ClashOrder.j0 k y0 y1 y2) (meddlerlaw15_ClashOrder.j0 (k + 1) y0 y1 y2)) ∧ (∀ y0 y1 y2, LeO (meddlerlaw15_ClashOrder.l0 k y0 y1 y2) (meddlerlaw15_ClashOrder.l0 (k + 1) y0 y1 y2))
  | 0 => ⟨fun _ _ _ r h => by simp [meddlerlaw15_ClashOrder.j0] at h, fun _ _ _ r h => by simp [meddlerlaw15_ClashOrder.l0] at h⟩
  | k + 1 => by
    obtain ⟨ih0, ih1⟩ := meddlerlaw15_ClashOrder.mono_l k
    refine ⟨?_, ?_⟩
    · intro y0 y1 y2
      unfold meddlerlaw15_ClashOrder.j0
      repeat' first
      | (with_reducible exact ih0 _ _ _)
      | (with_reducible exact ih1 _ _ _)
      | (with_reducible exact clash_All.mono _ _)
      | (with_reducible exact meddlerlaw15_known.mono _)
      | (with_reducible exact meddlerlaw15_may.mono _ _)
      | (with_reducible exact meddlerref15_Order.mono _ _ _ _ _ _ _ _ _ _ _ _ _)
      | (with_reducible exact LeO.refl _)
      | (with_reducible exact LeO.none _)
      | (with_reducible refine LeO.ite ?_ ?_)
      | (with_reducible refine LeO.bind ?_ (fun _ => ?_))
      | exact ih0 _ _ _
      | exact ih1 _ _ _
      | exact clash_All.mono _ _
      | exact meddlerlaw15_known.mono _
      | exact meddlerlaw15_may.mono _ _
      | exact meddlerref15_Order.mono _ _ _ _ _ _ _ _ _ _ _ _ _
      | exact LeO.none _
      | refine LeO.ite ?_ ?_
      | refine LeO.bind ?_ (fun _ => ?_)
    · intro y0 y1 y2
      unfold meddlerlaw15_ClashOrder.l0
      repeat' first
      | (with_reducible exact ih0 _ _ _)
      | (with_reducible exact ih1 _ _ _)
      | (with_reducible exact clash_All.mono _ _)
      | (with_reducible exact meddlerlaw15_known.mono _)
      | (with_reducible exact meddlerlaw15_may.mono _ _)
      | (with_reducible exact meddlerref15_Order.mono _ _ _ _ _ _ _ _ _ _ _ _ _)
      | (with_reducible exact LeO.refl _)
      | (with_reducible exact LeO.none _)
      | (with_reducible refine LeO.ite ?_ ?_)
      | (with_reducible refine LeO.bind ?_ (fun _ => ?_))
      | exact ih0 _ _ _
      | exact ih1 _ _ _
      | exact clash_All.mono _ _
      | exact meddlerlaw15_known.mono _
      | exact meddlerlaw15_may.mono _ _
      | exact meddlerref15_Order.mono _ _ _ _ _ _ _ _ _ _ _ _ _
      | exact LeO.none _
      | refine LeO.ite ?_ ?_
      | refine LeO.bind ?_ (fun _ => ?_)
theorem meddlerlaw15_ClashOrder.mono : ∀ a0 a1 k, LeO (meddlerlaw15_ClashOrder.f k a0 a1) (meddlerlaw15_ClashOrder.f (k + 1) a0 a1) := by
  intro a0 a1 k
  obtain ⟨ih0, ih1⟩ := meddlerlaw15_ClashOrder.mono_l k
  unfold meddlerlaw15_ClashOrder.f
  repeat' first
      | (with_reducible exact ih0 _ _ _)
      | (with_reducible exact ih1 _ _ _)
      | (with_reducible exact clash_All.mono _ _)
      | (with_reducible exact meddlerlaw15_known.mono _)
      | (with_reducible exact meddlerlaw15_may.mono _ _)
      | (with_reducible exact meddlerref15_Order.mono _ _ _ _ _ _ _ _ _ _ _ _ _)
      | (with_reducible exact LeO.refl _)
      | (with_reducible exact LeO.none _)
      | (with_reducible refine LeO.ite ?_ ?_)
      | (with_reducible refine LeO.bind ?_ (fun _ => ?_))
      | exact ih0 _ _ _
      | exact ih1 _ _ _
      | exact clash_All.mono _ _
      | exact meddlerlaw15_known.mono _
      | exact meddlerlaw15_may.mono _ _
      | exact meddlerref15_Order.mono _ _ _ _ _ _ _ _ _ _ _ _ _
      | exact LeO.none _
      | refine LeO.ite ?_ ?_
      | refine LeO.bind ?_ (fun _ => ?_)
def meddlerlaw15_ClashOrder.T4 : Bool × List (List Nat × List Nat) := (true, [([], []), ([], []), ([], []), ([1, 2], [1, 2]), ([0, 3], [0, 3]), ([], []), ([], []), ([5, 6], [5, 6]), ([4, 7, 4], [4, 7]), ([], []), ([9], [9]), ([10], [10]), ([11], [11]), ([8, 12, 8], [8, 12]), ([13, 13, 0, 1, 2, 3, 4, 5, 6, 7, 8, 9, 10, 11, 12, 13], [13])])
def meddlerlaw15_ClashOrder.B4 : List Nat := [0, 0, 0, 6, 15, 0, 0, 96, 255, 0, 512, 1536, 3584, 8191, 16383]
theorem meddlerlaw15_ClashOrder.tab4 : rtab .any (opsOf Try.f9 4) = meddlerlaw15_ClashOrder.T4 := by kernel_rfl
theorem meddlerlaw15_ClashOrder.bits4 : waitsOk meddlerlaw15_ClashOrder.T4.2 meddlerlaw15_ClashOrder.B4 = true := by kernel_rfl
def meddlerlaw15_ClashOrder.T11 : Bool × List (List Nat × List Nat) := (true, [([], []), ([], []), ([0, 1], [0, 1]), ([2], [2]), ([], []), ([], []), ([4, 5], [4, 5]), ([6], [6]), ([3, 7], [3, 7]), ([8], [8]), ([9], [9]), ([9], [9]), ([10, 11, 9], [9, 10, 11]), ([12, 9], [9, 12]), ([13, 9], [9, 13]), ([9], [9]), ([9], [9]), ([15, 16, 9], [9, 15, 16]), ([17, 9], [9, 17]), ([18, 9], [9, 18]), ([14, 19, 9], [9, 14, 19]), ([9, 20], [9, 20]), ([21, 9], [21]), ([22], [22]), ([23, 22], [22, 23]), ([24, 22, 22], [22, 24]), ([25], [25]), ([25], [25]), ([27, 25], [25, 27]), ([26, 28, 25], [25, 26, 28]), ([29, 25], [25, 29]), ([25], [25]), ([25], [25]), ([31, 32, 25], [25, 31, 32]), ([33, 25], [25, 33]), ([30, 34, 25, 25], [25, 30, 34]), ([35, 25], [25, 35]), ([25, 36, 22], [22, 25, 36]), ([22, 37], [22, 37])])
def meddlerlaw15_ClashOrder.B11 : List Nat := [0, 0, 3, 7, 0, 0, 48, 112, 255, 511, 1023, 1023, 4095, 8191, 16383, 1023, 1023, 99327, 230399, 492543, 1048575, 2097151, 4194303, 8388607, 16777215, 33554431, 67108863, 67108863, 201326591, 536870911, 1073741823, 67108863, 67108863, 6509559807, 15099494399, 34359738367, 68719476735, 137438953471, 274877906943]
theorem meddlerlaw15_ClashOrder.tab11 : rtab .any (opsOf Try.f9 11) = meddlerlaw15_ClashOrder.T11 := by kernel_rfl
theorem meddlerlaw15_ClashOrder.bits11 : waitsOk meddlerlaw15_ClashOrder.T11.2 meddlerlaw15_ClashOrder.B11 = true := by kernel_rfl
set_option maxHeartbeats 8000000 in
set_option maxRecDepth 100000 in
theorem meddlerlaw15_ClashOrder.calls (k : Nat) (A0 : Option Addr) (c0 : Nat) (l0 : List (S31)) (a1 : Int) (w : World) (hr0 : Kd.C k31 w A0 l0.length l0) (hc0 : l0.length ≤ c0) (h : meddlerlaw15_ClashOrder.f k l0 a1 = some true) :
    Calls Try.prog 9 #[.slice A0 l0.length c0, .int .i64 a1] w fun e w' => e = .returned (.bool true) ∧ Below w.heap.size w w' := by
  have hu31 := Try.underlying31
  have hu24 := Try.underlying24
  have HR0 := Aside0.mk hr0
  have HC0 := Aside0.mk hc0
  clear hr0 hc0
  have HB := Aside0.mk (Below.refl w.heap.size w)
  have H : (if (l0.length : Int) > 30 then (meddlerlaw15_ClashOrder.j0 k l0 a1 true) else (if (l0.length : Int) = 0 then (meddlerlaw15_ClashOrder.j0 k l0 a1 true) else ((meddlerlaw15_may.f k l0).bind fun t423 => (meddlerlaw15_ClashOrder.j0 k l0 a1 (!t423))))) = some true := h
  clear h
  have HC3 := Aside0.mk H
  clear H
  go_enter Try.func9, Try.ntmps9
  go_upto_region 1 with (fail)
  go_cut [22] (fun v22 wc => ∃ (kq : Nat) (x22_2 : Bool), v22 = .bool x22_2 ∧ Aside0 (meddlerlaw15_ClashOrder.j0 kq l0 a1 x22_2 = some true) ∧ Aside0 (kq ≤ k) ∧ Aside0 (Below w.heap.size w wc))
  case first =>
    have H := HC3.out
    clear HC3
    by_cases c4 : (l0.length : Int) > 30
    · rw [if_pos c4] at H
      have c4b0 : decide (30 < (l0.length : Int)) = true := decide_eq_true c4
      have c4b1 : decide (30 < l0.length) = true := decide_eq_true (by omega)
      clear c4
      (first | rw [c4b0] | (simp only [i64_w, i32_w]; rw [c4b0]) | skip)
      have H' := Aside0.mk H
      clear H
      go_wp2
      go_meet
      case rel => exact ⟨_, (true), (by first | rfl | (simp; done) | (simp [*]; done)), H', ⟨by first | omega | exact Nat.le_refl _⟩, ⟨by repeat (first | (with_reducible first | exact HB.out | apply below_alloc | apply pw_below_drewN | apply below_drew1) | exact HB.out)⟩⟩
    · rw [if_neg c4] at H
      have c4b0 : decide (30 < (l0.length : Int)) = false := decide_eq_false c4
      have c4b1 : decide (30 < l0.length) = false := decide_eq_false (by omega)
      clear c4
      (first | rw [c4b0] | (simp only [i64_w, i32_w]; rw [c4b0]) | skip)
      by_cases c5 : (l0.length : Int) = 0
      · rw [if_pos c5] at H
        have c5b0 : ((l0.length : Int) == 0) = true := beq_iff_eq.mpr c5
        have c5b1 : ((l0.length : Int) != 0) = false := bne_eq_false_iff_eq.mpr c5
        clear c5
        have H' := Aside0.mk H
        clear H
        go_wp2
        go_meet
        case rel => exact ⟨_, (true), (by first | rfl | (simp; done) | (simp [*]; done)), H', ⟨by first | omega | exact Nat.le_refl _⟩, ⟨by repeat (first | (with_reducible first | exact HB.out | apply below_alloc | apply pw_below_drewN | apply below_drew1) | exact HB.out)⟩⟩
      · rw [if_neg c5] at H
        have c5b0 : ((l0.length : Int) == 0) = false := beq_eq_false_iff_ne.mpr c5
        have c5b1 : ((l0.length : Int) != 0) = true := bne_iff_ne.mpr c5
        have c5b2 : ¬ (l0 = []) := fun h_ => c5 (by rw [h_]; rfl)
        replace H := Option.bind_eq_some_iff.mp H
        obtain ⟨t423, A60, H⟩ := H
        replace H : (meddlerlaw15_ClashOrder.j0 k l0 a1 (!t423)) = some true := H
        have A6 := Aside0.mk A60
        clear A60
        have H' := Aside0.mk H
        clear H
        go_wp2_with (first | (go_at_call 19; (with_reducible refine (meddlerlaw15_may.calls k _ _ l0 t423 _ ?side1 ?side2 A6.out).mono ?_); (case side1 => repeat (first | exact (Kd.C_below HR0.out HB.out) | (with_reducible refine Kd.C_alloc ?_ _) | (with_reducible refine Kd.C_drewN ?_ _) | (with_reducible refine Kd.C_drew ?_))); (case side2 => exact HC0.out); rintro e w' ⟨rfl, ⟨nd, rfl⟩⟩))
        go_meet
        case rel => exact ⟨_, (!t423), (by first | rfl | (simp; done) | (simp [*]; done)), H', ⟨by first | omega | exact Nat.le_refl _⟩, ⟨by repeat (first | (with_reducible first | exact HB.out | apply below_alloc | apply pw_below_drewN | apply below_drew1) | exact HB.out)⟩⟩
  case rest =>
    clear HC3
    try clear p2
    try clear c4
    try clear c4b0
    try clear c4b1
    try clear c5
    try clear c5b0
    try clear c5b1
    try clear c5b2
    obtain ⟨kq, x22_2, rfl, HA, HJ2, HB⟩ := hcut
    cases kq with
    | zero => exact absurd HA.out (by simp [meddlerlaw15_ClashOrder.j0])
    | succ kj2 =>
      have H := HA.out
      clear HA
      simp only [meddlerlaw15_ClashOrder.j0] at H
      by_cases c7 : x22_2 = true
      · subst c7
        have H1 : (some true) = some true := rfl
        clear H
        have H := H1
        clear H1
        have HT := Aside0.mk (Option.some.inj H)
        clear H
        go_wp2
        go_ret
        exact ⟨by first | rfl | (simp [HT.out]; done) | (simp [errW_none, errW_some] <;> rfl) | (simp [*, errW_none, errW_some] <;> rfl), by repeat (first | (with_reducible first | exact HB.out | apply below_alloc | apply pw_below_drewN | apply below_drew1) | exact HB.out)⟩
      · replace c7 := Bool.eq_false_iff.mpr c7
        subst c7
        have H1 : (if (l0.length : Int) = 0 then (none) else ((some (([] : List (S31)) : List (S31))).bind fun y424 => (if 0 ≤ (Int.tmod (Go.bits .and .i64 a1 1023) (l0.length : Int)) then (if (Int.tmod (Go.bits .and .i64 a1 1023) (l0.length : Int)) ≤ (l0.length : Int) then ((some (l0.drop ((Int.tmod (Go.bits .and .i64 a1 1023) (l0.length : Int)) : Int).toNat : List (S31))).bind fun y427 => (if y424.length + y427.length < 2932031007402 then ((some (y424 ++ y427 : List (S31))).bind fun y431 => ((some (l0.take ((Int.tmod (Go.bits .and .i64 a1 1023) (l0.length : Int)) : Int).toNat : List (S31))).bind fun y434 => (if y431.length + y434.length < 2932031007402 then ((some (y431 ++ y434 : List (S31))).bind fun y438 => (if 0 < (l0.length : Int) then ((some (([(⟨(rd_T31 l0 0).f0, (rd_T31 l0 0).f1, (rd_T31 l0 0).f2, (rd_T31 l0 0).f3, (rd_T31 l0 0).f4, (rd_T31 l0 0).f5⟩ : S31)] : List (S31)) : List (S31))).bind fun y442 => (if y438.length + y442.length < 2932031007402 then ((clash_All.f kj2 l0).bind fun t448 => ((clash_All.f kj2 (y438 ++ y442)).bind fun t451 => (if (t448.length : Int) = (t451.length : Int) then (meddlerlaw15_ClashOrder.l0 kj2 t448 t451 0) else (some false)))) else (none))) else (none))) else (none)))) else (none))) else (none)) else (none)))) = some true := by rw [if_neg (show ¬ (false = true) by decide)] at H; exact H
        clear H
        have H := H1
        clear H1
        by_cases c8 : (l0.length : Int) = 0
        · rw [if_pos c8] at H
          exact absurd H (by simp)
        · rw [if_neg c8] at H
          have c8b0 : ((l0.length : Int) == 0) = false := beq_eq_false_iff_ne.mpr c8
          have c8b1 : ((l0.length : Int) != 0) = true := bne_iff_ne.mpr c8
          have c8b2 : ¬ (l0 = []) := fun h_ => c8 (by rw [h_]; rfl)
          obtain ⟨y424, hy424⟩ : ∃ y_ : List (S31), y_ = (([] : List (S31))) := ⟨_, rfl⟩
          replace H : (if 0 ≤ (Int.tmod (Go.bits .and .i64 a1 1023) (l0.length : Int)) then (if (Int.tmod (Go.bits .and .i64 a1 1023) (l0.length : Int)) ≤ (l0.length : Int) then ((some (l0.drop ((Int.tmod (Go.bits .and .i64 a1 1023) (l0.length : Int)) : Int).toNat : List (S31))).bind fun y427 => (if y424.length + y427.length < 2932031007402 then ((some (y424 ++ y427 : List (S31))).bind fun y431 => ((some (l0.take ((Int.tmod (Go.bits .and .i64 a1 1023) (l0.length : Int)) : Int).toNat : List (S31))).bind fun y434 => (if y431.length + y434.length < 2932031007402 then ((some (y431 ++ y434 : List (S31))).bind fun y438 => (if 0 < (l0.length : Int) then ((some (([(⟨(rd_T31 l0 0).f0, (rd_T31 l0 0).f1, (rd_T31 l0 0).f2, (rd_T31 l0 0).f3, (rd_T31 l0 0).f4, (rd_T31 l0 0).f5⟩ : S31)] : List (S31)) : List (S31))).bind fun y442 => (if y438.length + y442.length < 2932031007402 then ((clash_All.f kj2 l0).bind fun t448 => ((clash_All.f kj2 (y438 ++ y442)).bind fun t451 => (if (t448.length : Int) = (t451.length : Int) then (meddlerlaw15_ClashOrder.l0 kj2 t448 t451 0) else (some false)))) else (none))) else (none))) else (none)))) else (none))) else (none)) else (none)) = some true := by first | (rw [hy424]; with_reducible exact H) | (have H2_ := (Option.bind_some _ _).symm.trans H; rw [hy424]; with_reducible exact H2_) | (have H2_ := (Option.bind_some _ _).symm.trans H; with_reducible exact H2_) | with_reducible exact H | (rw [hy424]; exact H) | exact H
          have Ny424 := Aside0.mk hy424
          clear hy424
          obtain ⟨ji9, hji9⟩ : ∃ j_ : Int, (Int.tmod (Go.bits .and .i64 a1 1023) (l0.length : Int)) = j_ := ⟨_, rfl⟩
          replace H : (if 0 ≤ (ji9) then (if (ji9) ≤ (l0.length : Int) then ((some (l0.drop ((ji9) : Int).toNat : List (S31))).bind fun y427 => (if y424.length + y427.length < 2932031007402 then ((some (y424 ++ y427 : List (S31))).bind fun y431 => ((some (l0.take ((ji9) : Int).toNat : List (S31))).bind fun y434 => (if y431.length + y434.length < 2932031007402 then ((some (y431 ++ y434 : List (S31))).bind fun y438 => (if 0 < (l0.length : Int) then ((some (([(⟨(rd_T31 l0 0).f0, (rd_T31 l0 0).f1, (rd_T31 l0 0).f2, (rd_T31 l0 0).f3, (rd_T31 l0 0).f4, (rd_T31 l0 0).f5⟩ : S31)] : List (S31)) : List (S31))).bind fun y442 => (if y438.length + y442.length < 2932031007402 then ((clash_All.f kj2 l0).bind fun t448 => ((clash_All.f kj2 (y438 ++ y442)).bind fun t451 => (if (t448.length : Int) = (t451.length : Int) then (meddlerlaw15_ClashOrder.l0 kj2 t448 t451 0) else (some false)))) else (none))) else (none))) else (none)))) else (none))) else (none)) else (none)) = some true := by first | (rw [hji9] at H; exact H) | (simp only [hji9] at H ⊢; exact H)
          by_cases c10 : 0 ≤ (ji9)
          · rw [if_pos c10] at H
            have c10b0 := eq_true c10
            have c10b1 : decide (0 ≤ (ji9)) = true := decide_eq_true c10
            clear c10
            by_cases c11 : (ji9) ≤ (l0.length : Int)
            · rw [if_pos c11] at H
              have c11b0 := eq_true c11
              have c11b1 : decide ((ji9) ≤ (l0.length : Int)) = true := decide_eq_true c11
              clear c11
              obtain ⟨y427, hy427⟩ : ∃ y_ : List (S31), y_ = (l0.drop ((ji9) : Int).toNat) := ⟨_, rfl⟩
              replace H : (if y424.length + y427.length < 2932031007402 then ((some (y424 ++ y427 : List (S31))).bind fun y431 => ((some (l0.take ((ji9) : Int).toNat : List (S31))).bind fun y434 => (if y431.length + y434.length < 2932031007402 then ((some (y431 ++ y434 : List (S31))).bind fun y438 => (if 0 < (l0.length : Int) then ((some (([(⟨(rd_T31 l0 0).f0, (rd_T31 l0 0).f1, (rd_T31 l0 0).f2, (rd_T31 l0 0).f3, (rd_T31 l0 0).f4, (rd_T31 l0 0).f5⟩ : S31)] : List (S31)) : List (S31))).bind fun y442 => (if y438.length + y442.length < 2932031007402 then ((clash_All.f kj2 l0).bind fun t448 => ((clash_All.f kj2 (y438 ++ y442)).bind fun t451 => (if (t448.length : Int) = (t451.length : Int) then (meddlerlaw15_ClashOrder.l0 kj2 t448 t451 0) else (some false)))) else (none))) else (none))) else (none)))) else (none)) = some true := by first | (rw [hy427]; with_reducible exact H) | (have H2_ := (Option.bind_some _ _).symm.trans H; rw [hy427]; with_reducible exact H2_) | (have H2_ := (Option.bind_some _ _).symm.trans H; with_reducible exact H2_) | with_reducible exact H | (rw [hy427]; exact H) | exact H
              have Ny427 := Aside0.mk hy427
              clear hy427
              by_cases c12 : y424.length + y427.length < 2932031007402
              · rw [if_pos c12] at H
                have LMc12 := Aside0.mk c12
                clear c12
                obtain ⟨y431, hy431⟩ : ∃ y_ : List (S31), y_ = (y424 ++ y427) := ⟨_, rfl⟩
                replace H : ((some (l0.take ((ji9) : Int).toNat : List (S31))).bind fun y434 => (if y431.length + y434.length < 2932031007402 then ((some (y431 ++ y434 : List (S31))).bind fun y438 => (if 0 < (l0.length : Int) then ((some (([(⟨(rd_T31 l0 0).f0, (rd_T31 l0 0).f1, (rd_T31 l0 0).f2, (rd_T31 l0 0).f3, (rd_T31 l0 0).f4, (rd_T31 l0 0).f5⟩ : S31)] : List (S31)) : List (S31))).bind fun y442 => (if y438.length + y442.length < 2932031007402 then ((clash_All.f kj2 l0).bind fun t448 => ((clash_All.f kj2 (y438 ++ y442)).bind fun t451 => (if (t448.length : Int) = (t451.length : Int) then (meddlerlaw15_ClashOrder.l0 kj2 t448 t451 0) else (some false)))) else (none))) else (none))) else (none))) = some true := by first | (rw [hy431]; with_reducible exact H) | (have H2_ := (Option.bind_some _ _).symm.trans H; rw [hy431]; with_reducible exact H2_) | (have H2_ := (Option.bind_some _ _).symm.trans H; with_reducible exact H2_) | with_reducible exact H | (rw [hy431]; exact H) | exact H
                have Ny431 := Aside0.mk hy431
                clear hy431
                have c13b0 := eq_true (of_decide_eq_true (by first | (with_reducible assumption) | assumption) : 0 ≤ (ji9))
                have c14b0 := eq_true (of_decide_eq_true (by first | (with_reducible assumption) | assumption) : (ji9) ≤ (l0.length : Int))
                obtain ⟨y434, hy434⟩ : ∃ y_ : List (S31), y_ = (l0.take ((ji9) : Int).toNat) := ⟨_, rfl⟩
                replace H : (if y431.length + y434.length < 2932031007402 then ((some (y431 ++ y434 : List (S31))).bind fun y438 => (if 0 < (l0.length : Int) then ((some (([(⟨(rd_T31 l0 0).f0, (rd_T31 l0 0).f1, (rd_T31 l0 0).f2, (rd_T31 l0 0).f3, (rd_T31 l0 0).f4, (rd_T31 l0 0).f5⟩ : S31)] : List (S31)) : List (S31))).bind fun y442 => (if y438.length + y442.length < 2932031007402 then ((clash_All.f kj2 l0).bind fun t448 => ((clash_All.f kj2 (y438 ++ y442)).bind fun t451 => (if (t448.length : Int) = (t451.length : Int) then (meddlerlaw15_ClashOrder.l0 kj2 t448 t451 0) else (some false)))) else (none))) else (none))) else (none)) = some true := by first | (rw [hy434]; with_reducible exact H) | (have H2_ := (Option.bind_some _ _).symm.trans H; rw [hy434]; with_reducible exact H2_) | (have H2_ := (Option.bind_some _ _).symm.trans H; with_reducible exact H2_) | with_reducible exact H | (rw [hy434]; exact H) | exact H
                have Ny434 := Aside0.mk hy434
                clear hy434
                by_cases c15 : y431.length + y434.length < 2932031007402
                · rw [if_pos c15] at H
                  have LMc15 := Aside0.mk c15
                  clear c15
                  obtain ⟨y438, hy438⟩ : ∃ y_ : List (S31), y_ = (y431 ++ y434) := ⟨_, rfl⟩
                  replace H : (if 0 < (l0.length : Int) then ((some (([(⟨(rd_T31 l0 0).f0, (rd_T31 l0 0).f1, (rd_T31 l0 0).f2, (rd_T31 l0 0).f3, (rd_T31 l0 0).f4, (rd_T31 l0 0).f5⟩ : S31)] : List (S31)) : List (S31))).bind fun y442 => (if y438.length + y442.length < 2932031007402 then ((clash_All.f kj2 l0).bind fun t448 => ((clash_All.f kj2 (y438 ++ y442)).bind fun t451 => (if (t448.length : Int) = (t451.length : Int) then (meddlerlaw15_ClashOrder.l0 kj2 t448 t451 0) else (some false)))) else (none))) else (none)) = some true := by first | (rw [hy438]; with_reducible exact H) | (have H2_ := (Option.bind_some _ _).symm.trans H; rw [hy438]; with_reducible exact H2_) | (have H2_ := (Option.bind_some _ _).symm.trans H; with_reducible exact H2_) | with_reducible exact H | (rw [hy438]; exact H) | exact H
                  have Ny438 := Aside0.mk hy438
                  clear hy438
                  by_cases c16 : 0 < (l0.length : Int)
                  · rw [if_pos c16] at H
                    have c16b0 : decide (0 < (l0.length : Int)) = true := decide_eq_true c16
                    have c16b1 : decide (0 < l0.length) = true := decide_eq_true (by omega)
                    clear c16
                    obtain ⟨y442, hy442⟩ : ∃ y_ : List (S31), y_ = (([(⟨(rd_T31 l0 0).f0, (rd_T31 l0 0).f1, (rd_T31 l0 0).f2, (rd_T31 l0 0).f3, (rd_T31 l0 0).f4, (rd_T31 l0 0).f5⟩ : S31)] : List (S31))) := ⟨_, rfl⟩
                    replace H : (if y438.length + y442.length < 2932031007402 then ((clash_All.f kj2 l0).bind fun t448 => ((clash_All.f kj2 (y438 ++ y442)).bind fun t451 => (if (t448.length : Int) = (t451.length : Int) then (meddlerlaw15_ClashOrder.l0 kj2 t448 t451 0) else (some false)))) else (none)) = some true := by first | (rw [hy442]; with_reducible exact H) | (have H2_ := (Option.bind_some _ _).symm.trans H; rw [hy442]; with_reducible exact H2_) | (have H2_ := (Option.bind_some _ _).symm.trans H; with_reducible exact H2_) | with_reducible exact H | (rw [hy442]; exact H) | exact H
                    have Ny442 := Aside0.mk hy442
                    clear hy442
                    by_cases c17 : y438.length + y442.length < 2932031007402
                    · rw [if_pos c17] at H
                      have LMc17 := Aside0.mk c17
                      clear c17
                      obtain ⟨y445, hy445⟩ : ∃ y_ : List (S31), y_ = (y438 ++ y442) := ⟨_, rfl⟩
                      replace H : ((clash_All.f kj2 l0).bind fun t448 => ((clash_All.f kj2 y445).bind fun t451 => (if (t448.length : Int) = (t451.length : Int) then (meddlerlaw15_ClashOrder.l0 kj2 t448 t451 0) else (some false)))) = some true := by first | (rw [hy445]; with_reducible exact H) | (have H2_ := (Option.bind_some _ _).symm.trans H; rw [hy445]; with_reducible exact H2_) | (have H2_ := (Option.bind_some _ _).symm.trans H; with_reducible exact H2_) | with_reducible exact H | (rw [hy445]; exact H) | exact H
                      have Ny445 := Aside0.mk hy445
                      clear hy445
                      replace H := Option.bind_eq_some_iff.mp H
                      obtain ⟨t448, A180, H⟩ := H
                      replace H : ((clash_All.f kj2 y445).bind fun t451 => (if (t448.length : Int) = (t451.length : Int) then (meddlerlaw15_ClashOrder.l0 kj2 t448 t451 0) else (some false))) = some true := H
                      have A18 := Aside0.mk A180
                      clear A180
                      replace H := Option.bind_eq_some_iff.mp H
                      obtain ⟨t451, A190, H⟩ := H
                      replace H : (if (t448.length : Int) = (t451.length : Int) then (meddlerlaw15_ClashOrder.l0 kj2 t448 t451 0) else (some false)) = some true := H
                      have A19 := Aside0.mk A190
                      clear A190
                      by_cases c20 : (t448.length : Int) = (t451.length : Int)
                      · rw [if_pos c20] at H
                        have c20b0 : ((t448.length : Int) == (t451.length : Int)) = true := beq_iff_eq.mpr c20
                        have c20b1 : ((t448.length : Int) != (t451.length : Int)) = false := bne_eq_false_iff_eq.mpr c20
                        have c20b2 : (t448.length == t451.length) = true := by first | simpa using c20 | (simp at c20 ⊢; omega)
                        clear c20
                        have H' := Aside0.mk H
                        clear H
                        try go_wp2
                        have n0_ := Aside0.mk (below_drew1 HB.out)
                        clear HB
                        have HB := n0_
                        clear n0_
                        have q22 : ((ji9) : Int) ≤ ((l0.length : Int) : Int) := of_decide_eq_true (by first | (with_reducible assumption) | assumption)
                        obtain ⟨i022, hi022, _, hsz22, _⟩ := info_parts info31
                        have hroom22 : l0.length ≤ c0 := HC0.out
                        have hC22 : Kd.C k31 _ A0 l0.length l0 := HR0.out
                        have q022 : (0 : Int) ≤ ((ji9) : Int) := of_decide_eq_true (by first | (with_reducible assumption) | assumption)
                        have hcut22 := cut_from (P := Try.prog) 25 31 .i64 Try.underlying25 hi022 6 hsz22 A0 l0.length c0 (ji9) q022 q22
                        have hr22 := Kd.C_drop (m := ((ji9) : Int).toNat) (c := c0) hC22 (by omega) hroom22
                        obtain ⟨A22, hA22⟩ : ∃ A1, A1 = (if c0 = ((ji9) : Int).toNat then A0 else (A0 : Option Addr).map (·.add (((ji9) : Int).toNat * 6))) := ⟨_, rfl⟩
                        obtain ⟨c22, hc22⟩ : ∃ c1, c1 = c0 - ((ji9) : Int).toNat := ⟨_, rfl⟩
                        have hy22 : y427.length = l0.length - ((ji9) : Int).toNat := (by rw [Ny427.out, List.length_drop] <;> omega)
                        rw [show (l0).drop ((ji9) : Int).toNat = y427 from Ny427.out.symm] at hr22
                        replace hr22 : Kd.C k31 _ A22 y427.length y427 := (by rw [hA22]; exact hr22)
                        rw [← hy22, ← hA22, ← hc22] at hcut22
                        have HR430 := Aside0.mk hr22
                        have HC430 := Aside0.mk (show y427.length ≤ c22 from by rw [hy22, hc22]; exact Nat.sub_le_sub_right hroom22 _)
                        clear hr22 hC22 hroom22 hi022 hsz22 hc22
                        have KY22 := Aside0.mk hy22
                        have KA22 := Aside0.mk hA22
                        clear hy22 hA22
                        replace q22 := eq_true q22
                        have q23 : ((ji9) : Int) ≤ ((l0.length : Int) : Int) := of_decide_eq_true (by first | (with_reducible assumption) | assumption)
                        obtain ⟨i023, hi023, _, hsz23, _⟩ := info_parts info31
                        have hroom23 : l0.length ≤ c0 := HC0.out
                        have hC23 : Kd.C k31 _ A0 l0.length l0 := HR0.out
                        have hcut23 := cut_to (P := Try.prog) 25 31 .i64 Try.underlying25 hi023 A0 l0.length c0 (ji9) (of_decide_eq_true (by first | (with_reducible assumption) | assumption)) q23 hroom23
                        have hr23 := Kd.C_take (m := ((ji9) : Int).toNat) hC23 (by omega)
                        have hy23 : y434.length = ((ji9) : Int).toNat := (by rw [Ny434.out, List.length_take]; omega)
                        rw [← Ny434.out] at hr23
                        rw [← hy23] at hcut23
                        have HR437 := Aside0.mk hr23
                        have HC437 := Aside0.mk (show y434.length ≤ c0 from by omega)
                        clear hr23 hC23 hroom23 hi023 hsz23
                        have KY23 := Aside0.mk hy23
                        clear hy23
                        replace q23 := eq_true q23
                        have p441 : 0 ≤ (0 : Int) := (by omega)
                        have q441 : 0 < (l0.length : Int) := of_decide_eq_true (by first | (with_reducible assumption) | assumption)
                        obtain ⟨ad441, e441, hx441_0, hx441_1, hx441_2, hx441_3, hx441_4, hx441_5⟩ := at_T31 HR0.out 0 p441 q441
                        have hw441_5 := hx441_5
                        (try rw [show ((0 : Int)).toNat = 0 from rfl] at hw441_5)
                        (try rw [show 0 * 6 = 0 from rfl] at hw441_5)
                        (try rw [Addr.add_zero'] at hw441_5)
                        have hw441_4 := hx441_4
                        (try rw [show ((0 : Int)).toNat = 0 from rfl] at hw441_4)
                        (try rw [show 0 * 6 = 0 from rfl] at hw441_4)
                        (try rw [Addr.add_zero'] at hw441_4)
                        have hw441_3 := hx441_3
                        (try rw [show ((0 : Int)).toNat = 0 from rfl] at hw441_3)
                        (try rw [show 0 * 6 = 0 from rfl] at hw441_3)
                        (try rw [Addr.add_zero'] at hw441_3)
                        have hw441_2 := hx441_2
                        (try rw [show ((0 : Int)).toNat = 0 from rfl] at hw441_2)
                        (try rw [show 0 * 6 = 0 from rfl] at hw441_2)
                        (try rw [Addr.add_zero'] at hw441_2)
                        have hw441_1 := hx441_1
                        (try rw [show ((0 : Int)).toNat = 0 from rfl] at hw441_1)
                        (try rw [show 0 * 6 = 0 from rfl] at hw441_1)
                        (try rw [Addr.add_zero'] at hw441_1)
                        have hw441_0 := hx441_0
                        (try rw [show ((0 : Int)).toNat = 0 from rfl] at hw441_0)
                        (try rw [show 0 * 6 = 0 from rfl] at hw441_0)
                        (try rw [Addr.add_zero'] at hw441_0)
                        cases e441
                        have qi441 : (0 < l0.length) = True := eq_true (by omega)
                        (try rw [show ((0 : Int)).toNat = 0 from rfl] at hx441_0)
                        (try rw [show 0 * 6 = 0 from rfl] at hx441_0)
                        (try rw [Addr.add_zero'] at hx441_0)
                        (try rw [show ((0 : Int)).toNat = 0 from rfl] at hx441_1)
                        (try rw [show 0 * 6 = 0 from rfl] at hx441_1)
                        (try rw [Addr.add_zero'] at hx441_1)
                        (try rw [show ((0 : Int)).toNat = 0 from rfl] at hx441_2)
                        (try rw [show 0 * 6 = 0 from rfl] at hx441_2)
                        (try rw [Addr.add_zero'] at hx441_2)
                        (try rw [show ((0 : Int)).toNat = 0 from rfl] at hx441_3)
                        (try rw [show 0 * 6 = 0 from rfl] at hx441_3)
                        (try rw [Addr.add_zero'] at hx441_3)
                        (try rw [show ((0 : Int)).toNat = 0 from rfl] at hx441_4)
                        (try rw [show 0 * 6 = 0 from rfl] at hx441_4)
                        (try rw [Addr.add_zero'] at hx441_4)
                        (try rw [show ((0 : Int)).toNat = 0 from rfl] at hx441_5)
                        (try rw [show 0 * 6 = 0 from rfl] at hx441_5)
                        (try rw [Addr.add_zero'] at hx441_5)
                        replace hx441_0 := (HB.out.cell (World.block_lt_of_cell? w _ hx441_0)).trans hx441_0
                        replace hx441_1 := (HB.out.cell (World.block_lt_of_cell? w _ hx441_1)).trans hx441_1
                        replace hx441_2 := (HB.out.cell (World.block_lt_of_cell? w _ hx441_2)).trans hx441_2
                        replace hx441_3 := (HB.out.cell (World.block_lt_of_cell? w _ hx441_3)).trans hx441_3
                        replace hx441_4 := (HB.out.cell (World.block_lt_of_cell? w _ hx441_4)).trans hx441_4
                        replace hx441_5 := (HB.out.cell (World.block_lt_of_cell? w _ hx441_5)).trans hx441_5
                        replace p441 := eq_true p441
                        replace q441 := eq_true q441
                        refine start_ (n := 15) (S := fun w' => w'.cell? ad441 = some (.int .i64 ((rd_T31 l0 0).f0)) ∧ w'.cell? ⟨ad441.block, ad441.off + 1, none⟩ = some (.int .i64 ((rd_T31 l0 0).f1)) ∧ w'.cell? ⟨ad441.block, ad441.off + 2, none⟩ = some (.bool ((rd_T31 l0 0).f2)) ∧ w'.cell? ⟨ad441.block, ad441.off + 3, none⟩ = some (.int .i64 ((rd_T31 l0 0).f3)) ∧ w'.cell? ⟨ad441.block, ad441.off + 4, none⟩ = some (.bool ((rd_T31 l0 0).f4)) ∧ w'.cell? ⟨ad441.block, ad441.off + 5, none⟩ = some (.int .i64 ((rd_T31 l0 0).f5))) (ds := []) #[false, false, false, false, false, false, false, false, false, false, false, false, false, false, false] (by kernel_rfl) rfl rfl ⟨((HB.out.cell (World.block_lt_of_cell? w _ hw441_0)).trans hw441_0), ((HB.out.cell (World.block_lt_of_cell? w _ hw441_1)).trans hw441_1), ((HB.out.cell (World.block_lt_of_cell? w _ hw441_2)).trans hw441_2), ((HB.out.cell (World.block_lt_of_cell? w _ hw441_3)).trans hw441_3), ((HB.out.cell (World.block_lt_of_cell? w _ hw441_4)).trans hw441_4), ((HB.out.cell (World.block_lt_of_cell? w _ hw441_5)).trans hw441_5)⟩ (fun hHeld => ?_); refine with_tabW meddlerlaw15_ClashOrder.tab4 meddlerlaw15_ClashOrder.bits4 (fun HT_ HW_ => ?_)
                        generalize wc.drew = w21 at HB HR430 HR437 hx441_0 hx441_1 hx441_2 hx441_3 hx441_4 hx441_5 hHeld ⊢
                        refine pure_ (i := 1) (N := some 29) (v := ?_) (a' := ?_) #[false, true, false, false, false, false, false, false, false, false, false, false, false, false, false] rfl rfl (any_of HT_.out (by kernel_rfl)) (fun _ _ _ h => h) (Or.inl ⟨by rfl, ?_⟩) ?_ ?_
                        rotate_left
                        · intro w'
                          go_simp
                          with_reducible rfl
                        rotate_left
                        · simp only [Act.put, List.setIfInBounds_toArray, List.set_cons_zero, List.set_cons_succ, i64_w, i32_w]
                          rfl
                        refine pure_ (i := 2) (N := some 30) (v := ?_) (a' := ?_) #[false, true, true, false, false, false, false, false, false, false, false, false, false, false, false] rfl rfl (any_of HT_.out (by kernel_rfl)) (fun _ _ _ h => h) (Or.inl ⟨by rfl, ?_⟩) ?_ ?_
                        rotate_left
                        · intro w'
                          go_simp
                          with_reducible rfl
                        rotate_left
                        · simp only [Act.put, List.setIfInBounds_toArray, List.set_cons_zero, List.set_cons_succ, i64_w, i32_w]
                          rfl
                        refine pure_ (i := 3) (N := some 31) (v := ?_) (a' := ?_) #[false, true, true, true, false, false, false, false, false, false, false, false, false, false, false] rfl rfl (any_of HT_.out (by kernel_rfl)) (fun _ _ _ h => h) (Or.inl ⟨by rfl, ?_⟩) ?_ ?_
                        rotate_left
                        · intro w'
                          go_simp
                          with_reducible rfl
                        rotate_left
                        · simp only [Act.put, List.setIfInBounds_toArray, List.set_cons_zero, List.set_cons_succ, i64_w, i32_w]
                          rfl
                        refine pure_ (i := 5) (N := some 33) (v := ?_) (a' := ?_) #[false, true, true, true, false, true, false, false, false, false, false, false, false, false, false] rfl rfl (any_of HT_.out (by kernel_rfl)) (fun _ _ _ h => h) (Or.inl ⟨by rfl, ?_⟩) ?_ ?_
                        rotate_left
                        · intro w'
                          go_simp
                          with_reducible rfl
                        rotate_left
                        · simp only [Act.put, List.setIfInBounds_toArray, List.set_cons_zero, List.set_cons_succ, i64_w, i32_w]
                          rfl
                        refine pure_ (i := 6) (N := some 34) (v := ?_) (a' := ?_) #[false, true, true, true, false, true, true, false, false, false, false, false, false, false, false] rfl rfl (any_of HT_.out (by kernel_rfl)) (fun _ _ _ h => h) (Or.inl ⟨by rfl, ?_⟩) ?_ ?_
                        rotate_left
                        · intro w'
                          go_simp
                          with_reducible rfl
                        rotate_left
                        · simp only [Act.put, List.setIfInBounds_toArray, List.set_cons_zero, List.set_cons_succ, i64_w, i32_w]
                          rfl
                        refine pure_ (i := 7) (N := some 35) (v := ?_) (a' := ?_) #[false, true, true, true, false, true, true, true, false, false, false, false, false, false, false] rfl rfl (any_of HT_.out (by kernel_rfl)) (fun _ _ _ h => h) (Or.inl ⟨by rfl, ?_⟩) ?_ ?_
                        rotate_left
                        · intro w'
                          go_simp
                          with_reducible rfl
                        rotate_left
                        · simp only [Act.put, List.setIfInBounds_toArray, List.set_cons_zero, List.set_cons_succ, i64_w, i32_w]
                          rfl
                        refine pure_ (i := 9) (N := some 37) (v := ?_) (a' := ?_) #[false, true, true, true, false, true, true, true, false, true, false, false, false, false, false] rfl rfl (any_of HT_.out (by kernel_rfl)) (fun _ _ _ h => h) (Or.inl ⟨by rfl, ?_⟩) ?_ ?_
                        rotate_left
                        · intro w'
                          go_simp
                          with_reducible rfl
                        rotate_left
                        · simp only [Act.put, List.setIfInBounds_toArray, List.set_cons_zero, List.set_cons_succ, i64_w, i32_w]
                          rfl
                        refine pure_ (i := 10) (N := some 38) (v := ?_) (a' := ?_) #[false, true, true, true, false, true, true, true, false, true, true, false, false, false, false] rfl rfl (any_of HT_.out (by kernel_rfl)) (fun _ _ _ h => h) (Or.inl ⟨by rfl, ?_⟩) ?_ ?_
                        rotate_left
                        · intro w'
                          go_simp
                          with_reducible rfl
                        rotate_left
                        · simp only [Act.put, List.setIfInBounds_toArray, List.set_cons_zero, List.set_cons_succ, i64_w, i32_w]
                          rfl
                        refine take_ (i := 11) (N := some 39) (v := ?_) (a' := ?_) #[false, true, true, true, false, true, true, true, false, true, true, true, false, false, false] rfl rfl (take_ofW HT_.out HW_.out (by kernel_rfl)) (fun _ _ _ h => h) (Or.inl ⟨by rfl, ?_⟩) hHeld ?_ ?_
                        rotate_left
                        · rintro w' ⟨s0, s1, s2, s3, s4, s5⟩
                          go_simp
                          with_reducible rfl
                        rotate_left
                        · simp only [Act.put, List.setIfInBounds_toArray, List.set_cons_zero, List.set_cons_succ, i64_w, i32_w]
                          rfl
                        refine join_ (σ := Value × Value × Value × Value) 2 #[true, true, true, true, true, true, true, true, true, true, true, true, true, false, false] (fun s_ => [(28, s_.1), (32, s_.2.1), (36, s_.2.2.1), (40, s_.2.2.2)]) (fun s_ w' => (w'.cell? ad441 = some (.int .i64 ((rd_T31 l0 0).f0)) ∧ w'.cell? ⟨ad441.block, ad441.off + 1, none⟩ = some (.int .i64 ((rd_T31 l0 0).f1)) ∧ w'.cell? ⟨ad441.block, ad441.off + 2, none⟩ = some (.bool ((rd_T31 l0 0).f2)) ∧ w'.cell? ⟨ad441.block, ad441.off + 3, none⟩ = some (.int .i64 ((rd_T31 l0 0).f3)) ∧ w'.cell? ⟨ad441.block, ad441.off + 4, none⟩ = some (.bool ((rd_T31 l0 0).f4)) ∧ w'.cell? ⟨ad441.block, ad441.off + 5, none⟩ = some (.int .i64 ((rd_T31 l0 0).f5))) ∧ (Kd.R k31 31 w' w.heap.size (fun k_ => some k_ ≠ (s_.2.2.2 : Value).ownBlock) s_.2.2.1 y438) ∧ (Kd.R k31 31 w' w.heap.size (fun k_ => some k_ ≠ (s_.2.2.1 : Value).ownBlock) s_.2.2.2 y442) ∧ (Below w.heap.size w w')) ?_ ?_
                        rotate_left
                        · intro hCont
                          refine two_ (i := 0) (j := 12) (Ni := some 28) (Nj := some 40) #[true, true, true, true, false, true, true, true, false, true, true, true, false, false, false] #[false, true, true, true, false, true, true, true, false, true, true, true, true, false, false] rfl rfl rfl rfl (two_of HT_.out (by kernel_rfl)) (by decide) (by decide) (fun K hK => ?_) (fun K hK => ?_)
                          · skip
                            refine Kd.R_lit_step k31 _ 31 ?hg (N := 28) ?hd (xs := ([] : List (S31))) (inner := []) (ok := fun _ => True) (okp := fun _ => True) ?hr ?hp (fun _ hk => hk) trivial (Below.refl _ _) (Nat.le_refl _) (by simp) ?_; (case hd => rfl); (case hg => rfl); (case hr => first | (go_simp; done) | (go_simp; rfl)); (case hp => exact (Reps.none _ _))
                            intro v425 w24 ho25 hb hg_ hnew_
                            clear hg_ hnew_
                            (first | rw [← Ny424.out] at ho25 | (simp only [Int.reduceToNat] at ho25; rw [← Ny424.out] at ho25))
                            have n0_ := Aside0.mk (Kd.R_lower ho25 (below_size (by repeat (first | (with_reducible first | exact HB.out | apply below_alloc | apply pw_below_drewN | apply below_drew1) | exact HB.out))))
                            have n1_ := Aside0.mk (below_step (by repeat (first | (with_reducible first | exact HB.out | apply below_alloc | apply pw_below_drewN | apply below_drew1) | exact HB.out)) hb)
                            clear HB
                            have HO426 := n0_
                            have HB := n1_
                            clear n0_ n1_
                            clear hb ho25
                            refine hK.out _ _ ⟨((HB.out.cell (World.block_lt_of_cell? w _ hw441_0)).trans hw441_0), ((HB.out.cell (World.block_lt_of_cell? w _ hw441_1)).trans hw441_1), ((HB.out.cell (World.block_lt_of_cell? w _ hw441_2)).trans hw441_2), ((HB.out.cell (World.block_lt_of_cell? w _ hw441_3)).trans hw441_3), ((HB.out.cell (World.block_lt_of_cell? w _ hw441_4)).trans hw441_4), ((HB.out.cell (World.block_lt_of_cell? w _ hw441_5)).trans hw441_5)⟩ (fun hHeld => ?_)
                            clear hK K
                            refine norm_ (a' := ?_) ?_ ?_
                            rotate_left
                            · show Act.put _ (some 28) _ = _
                              simp only [Act.put, List.setIfInBounds_toArray, List.set_cons_zero, List.set_cons_succ, i64_w, i32_w]
                              rfl
                            refine two_ (i := 4) (j := 12) (Ni := some 32) (Nj := some 40) #[true, true, true, true, true, true, true, true, false, true, true, true, false, false, false] #[true, true, true, true, false, true, true, true, false, true, true, true, true, false, false] rfl rfl rfl rfl (two_of HT_.out (by kernel_rfl)) (by decide) (by decide) (fun K hK => ?_) (fun K hK => ?_)
                            · skip
                              refine Kd.R_append_rows_step k31 (w0 := w) w.heap.size (by rfl) (.tmp 28) (.tmp 31) 25 31 (.agg #[(.int .i64 0), (.int .i64 0), (.bool false), (.int .i64 0), (.bool false), (.int .i64 0)]) 48 rfl Try.underlying25 info31 rfl (by decide) (by omega) v425 y424 y427 _ _ _ (fun _ => True) (fun _ => False) rfl rfl ?aO ?aR (fun _ _ h => h) (fun _ h => h.elim) ?aF ?aB ?aS ?aL ?_
                              (case aR => repeat (first | exact (Kd.C_below HR430.out HB.out) | (with_reducible refine Kd.C_alloc ?_ _) | (with_reducible refine Kd.C_drewN ?_ _) | (with_reducible refine Kd.C_drew ?_)))
                              (case aB => exact (by repeat (first | (with_reducible first | exact HB.out | apply below_alloc | apply pw_below_drewN | apply below_drew1) | exact HB.out)))
                              (case aF => exact (fun _ _ => trivial))
                              (case aO => exact (by (with_reducible repeat (first | apply Kd.R_alloc | apply Kd.R_drewN | apply Kd.R_drew)); exact HO426.out))
                              (case aS => exact (below_size (by repeat (first | (with_reducible first | exact HB.out | apply below_alloc | apply pw_below_drewN | apply below_drew1) | exact HB.out))))
                              (case aL => have := LMc12.out; omega)
                              intro v432 w26 ho hb hg hat
                              rw [← Ny431.out] at ho
                              have n0_ := Aside0.mk (hb)
                              have n1_ := Aside0.mk (ho)
                              clear HB
                              clear HO426
                              have HB := n0_
                              have HO433 := n1_
                              clear n0_ n1_
                              clear ho hb hg hat
                              refine hK.out _ _ ⟨((HB.out.cell (World.block_lt_of_cell? w _ hw441_0)).trans hw441_0), ((HB.out.cell (World.block_lt_of_cell? w _ hw441_1)).trans hw441_1), ((HB.out.cell (World.block_lt_of_cell? w _ hw441_2)).trans hw441_2), ((HB.out.cell (World.block_lt_of_cell? w _ hw441_3)).trans hw441_3), ((HB.out.cell (World.block_lt_of_cell? w _ hw441_4)).trans hw441_4), ((HB.out.cell (World.block_lt_of_cell? w _ hw441_5)).trans hw441_5)⟩ (fun hHeld => ?_)
                              clear hK K
                              refine norm_ (a' := ?_) ?_ ?_
                              rotate_left
                              · show Act.put _ (some 32) _ = _
                                simp only [Act.put, List.setIfInBounds_toArray, List.set_cons_zero, List.set_cons_succ, i64_w, i32_w]
                                rfl
                              refine two_ (i := 8) (j := 12) (Ni := some 36) (Nj := some 40) #[true, true, true, true, true, true, true, true, true, true, true, true, false, false, false] #[true, true, true, true, true, true, true, true, false, true, true, true, true, false, false] rfl rfl rfl rfl (two_of HT_.out (by kernel_rfl)) (by decide) (by decide) (fun K hK => ?_) (fun K hK => ?_)
                              · skip
                                refine Kd.R_append_rows_step k31 (w0 := w) w.heap.size (by rfl) (.tmp 32) (.tmp 35) 25 31 (.agg #[(.int .i64 0), (.int .i64 0), (.bool false), (.int .i64 0), (.bool false), (.int .i64 0)]) 48 rfl Try.underlying25 info31 rfl (by decide) (by omega) v432 y431 y434 _ _ _ (fun _ => True) (fun _ => False) rfl rfl ?aO ?aR (fun _ _ h => h) (fun _ h => h.elim) ?aF ?aB ?aS ?aL ?_
                                (case aR => repeat (first | exact (Kd.C_below HR437.out HB.out) | (with_reducible refine Kd.C_alloc ?_ _) | (with_reducible refine Kd.C_drewN ?_ _) | (with_reducible refine Kd.C_drew ?_)))
                                (case aB => exact (by repeat (first | (with_reducible first | exact HB.out | apply below_alloc | apply pw_below_drewN | apply below_drew1) | exact HB.out)))
                                (case aF => exact (fun _ _ => trivial))
                                (case aO => exact (by (with_reducible repeat (first | apply Kd.R_alloc | apply Kd.R_drewN | apply Kd.R_drew)); exact HO433.out))
                                (case aS => exact (below_size (by repeat (first | (with_reducible first | exact HB.out | apply below_alloc | apply pw_below_drewN | apply below_drew1) | exact HB.out))))
                                (case aL => have := LMc15.out; omega)
                                intro v439 w27 ho hb hg hat
                                rw [← Ny438.out] at ho
                                have n0_ := Aside0.mk (hb)
                                have n1_ := Aside0.mk (ho)
                                clear HB
                                clear HO433
                                have HB := n0_
                                have HO440 := n1_
                                clear n0_ n1_
                                clear ho hb hg hat
                                refine hK.out _ _ ⟨((HB.out.cell (World.block_lt_of_cell? w _ hw441_0)).trans hw441_0), ((HB.out.cell (World.block_lt_of_cell? w _ hw441_1)).trans hw441_1), ((HB.out.cell (World.block_lt_of_cell? w _ hw441_2)).trans hw441_2), ((HB.out.cell (World.block_lt_of_cell? w _ hw441_3)).trans hw441_3), ((HB.out.cell (World.block_lt_of_cell? w _ hw441_4)).trans hw441_4), ((HB.out.cell (World.block_lt_of_cell? w _ hw441_5)).trans hw441_5)⟩ (fun hHeld => ?_)
                                clear hK K
                                refine norm_ (a' := ?_) ?_ ?_
                                rotate_left
                                · show Act.put _ (some 36) _ = _
                                  simp only [Act.put, List.setIfInBounds_toArray, List.set_cons_zero, List.set_cons_succ, i64_w, i32_w]
                                  rfl
                                refine one_ (i := 12) (N := some 40) #[true, true, true, true, true, true, true, true, true, true, true, true, true, false, false] rfl rfl (one_of HT_.out (by kernel_rfl)) (by decide) (fun K hK => ?_)
                                refine Kd.R_lit_step k31 _ 31 ?hg (N := 40) ?hd (xs := ([(⟨(rd_T31 l0 0).f0, (rd_T31 l0 0).f1, (rd_T31 l0 0).f2, (rd_T31 l0 0).f3, (rd_T31 l0 0).f4, (rd_T31 l0 0).f5⟩ : S31)] : List (S31))) (inner := [.int .i64 ((rd_T31 l0 0).f0), .int .i64 ((rd_T31 l0 0).f1), .bool ((rd_T31 l0 0).f2), .int .i64 ((rd_T31 l0 0).f3), .bool ((rd_T31 l0 0).f4), .int .i64 ((rd_T31 l0 0).f5)]) (ok := fun _ => True) (okp := fun _ => True) ?hr ?hp (fun _ hk => hk) trivial (Below.refl _ _) (Nat.le_refl _) (by simp) ?_; (case hd => rfl); (case hg => rfl); (case hr => first | (go_simp; done) | (go_simp; rfl)); (case hp => exact (Reps.c6 (show Kd.M k31 _ _ _ (⟨(rd_T31 l0 0).f0, (rd_T31 l0 0).f1, (rd_T31 l0 0).f2, (rd_T31 l0 0).f3, (rd_T31 l0 0).f4, (rd_T31 l0 0).f5⟩ : S31) [.int .i64 ((rd_T31 l0 0).f0), .int .i64 ((rd_T31 l0 0).f1), .bool ((rd_T31 l0 0).f2), .int .i64 ((rd_T31 l0 0).f3), .bool ((rd_T31 l0 0).f4), .int .i64 ((rd_T31 l0 0).f5)] from (k31_mkM _ _ _ (⟨(rd_T31 l0 0).f0, (rd_T31 l0 0).f1, (rd_T31 l0 0).f2, (rd_T31 l0 0).f3, (rd_T31 l0 0).f4, (rd_T31 l0 0).f5⟩ : S31) )) (Reps.none _ _)))
                                intro v443 w28 ho29 hb hg_ hnew_
                                clear hg_ hnew_
                                (first | rw [← Ny442.out] at ho29 | (simp only [Int.reduceToNat] at ho29; rw [← Ny442.out] at ho29))
                                have n0_ := Aside0.mk (Kd.R_elder' (by (with_reducible repeat (first | apply Kd.R_alloc | apply Kd.R_drewN | apply Kd.R_drew)); exact HO440.out) (Kd.R_base ho29) hb)
                                have n1_ := Aside0.mk (Kd.R_lower (Kd.R_new' ho29 (Kd.R_lt (by (with_reducible repeat (first | apply Kd.R_alloc | apply Kd.R_drewN | apply Kd.R_drew)); exact HO440.out))) (below_size (by repeat (first | (with_reducible first | exact HB.out | apply below_alloc | apply pw_below_drewN | apply below_drew1) | exact HB.out))))
                                have n2_ := Aside0.mk (below_step (by repeat (first | (with_reducible first | exact HB.out | apply below_alloc | apply pw_below_drewN | apply below_drew1) | exact HB.out)) hb)
                                clear HO440
                                clear HB
                                have HO440 := n0_
                                have HO444 := n1_
                                have HB := n2_
                                clear n0_ n1_ n2_
                                clear hb ho29
                                refine hK.out _ _ ⟨((HB.out.cell (World.block_lt_of_cell? w _ hw441_0)).trans hw441_0), ((HB.out.cell (World.block_lt_of_cell? w _ hw441_1)).trans hw441_1), ((HB.out.cell (World.block_lt_of_cell? w _ hw441_2)).trans hw441_2), ((HB.out.cell (World.block_lt_of_cell? w _ hw441_3)).trans hw441_3), ((HB.out.cell (World.block_lt_of_cell? w _ hw441_4)).trans hw441_4), ((HB.out.cell (World.block_lt_of_cell? w _ hw441_5)).trans hw441_5)⟩ (fun hHeld => ?_)
                                clear hK K
                                refine norm_ (a' := ?_) ?_ ?_
                                rotate_left
                                · show Act.put _ (some 40) _ = _
                                  simp only [Act.put, List.setIfInBounds_toArray, List.set_cons_zero, List.set_cons_succ, i64_w, i32_w]
                                  rfl
                                exact norm_ (by simp only [putAll, Act.put, List.setIfInBounds_toArray, List.set_cons_zero, List.set_cons_succ]) (hCont (v425, v432, v439, v443) _ ⟨hHeld, (by (with_reducible repeat (first | apply Kd.R_alloc | apply Kd.R_drewN | apply Kd.R_drew)); exact Kd.R_mono HO440.out (fun _ hk => hk.2)), (by (with_reducible repeat (first | apply Kd.R_alloc | apply Kd.R_drewN | apply Kd.R_drew)); exact Kd.R_mono HO444.out (fun _ hk => hk.2)), (by repeat (first | (with_reducible first | exact HB.out | apply below_alloc | apply pw_below_drewN | apply below_drew1) | exact HB.out))⟩)
                              · skip
                                refine Kd.R_lit_step k31 _ 31 ?hg (N := 40) ?hd (xs := ([(⟨(rd_T31 l0 0).f0, (rd_T31 l0 0).f1, (rd_T31 l0 0).f2, (rd_T31 l0 0).f3, (rd_T31 l0 0).f4, (rd_T31 l0 0).f5⟩ : S31)] : List (S31))) (inner := [.int .i64 ((rd_T31 l0 0).f0), .int .i64 ((rd_T31 l0 0).f1), .bool ((rd_T31 l0 0).f2), .int .i64 ((rd_T31 l0 0).f3), .bool ((rd_T31 l0 0).f4), .int .i64 ((rd_T31 l0 0).f5)]) (ok := fun _ => True) (okp := fun _ => True) ?hr ?hp (fun _ hk => hk) trivial (Below.refl _ _) (Nat.le_refl _) (by simp) ?_; (case hd => rfl); (case hg => rfl); (case hr => first | (go_simp; done) | (go_simp; rfl)); (case hp => exact (Reps.c6 (show Kd.M k31 _ _ _ (⟨(rd_T31 l0 0).f0, (rd_T31 l0 0).f1, (rd_T31 l0 0).f2, (rd_T31 l0 0).f3, (rd_T31 l0 0).f4, (rd_T31 l0 0).f5⟩ : S31) [.int .i64 ((rd_T31 l0 0).f0), .int .i64 ((rd_T31 l0 0).f1), .bool ((rd_T31 l0 0).f2), .int .i64 ((rd_T31 l0 0).f3), .bool ((rd_T31 l0 0).f4), .int .i64 ((rd_T31 l0 0).f5)] from (k31_mkM _ _ _ (⟨(rd_T31 l0 0).f0, (rd_T31 l0 0).f1, (rd_T31 l0 0).f2, (rd_T31 l0 0).f3, (rd_T31 l0 0).f4, (rd_T31 l0 0).f5⟩ : S31) )) (Reps.none _ _)))
                                intro v443 w27 ho28 hb hg_ hnew_
                                clear hg_ hnew_
                                (first | rw [← Ny442.out] at ho28 | (simp only [Int.reduceToNat] at ho28; rw [← Ny442.out] at ho28))
                                have n0_ := Aside0.mk (Kd.R_elder' (by (with_reducible repeat (first | apply Kd.R_alloc | apply Kd.R_drewN | apply Kd.R_drew)); exact HO433.out) (Kd.R_base ho28) hb)
                                have n1_ := Aside0.mk (Kd.R_lower (Kd.R_new' ho28 (Kd.R_lt (by (with_reducible repeat (first | apply Kd.R_alloc | apply Kd.R_drewN | apply Kd.R_drew)); exact HO433.out))) (below_size (by repeat (first | (with_reducible first | exact HB.out | apply below_alloc | apply pw_below_drewN | apply below_drew1) | exact HB.out))))
                                have n2_ := Aside0.mk (below_step (by repeat (first | (with_reducible first | exact HB.out | apply below_alloc | apply pw_below_drewN | apply below_drew1) | exact HB.out)) hb)
                                clear HO433
                                clear HB
                                have HO433 := n0_
                                have HO444 := n1_
                                have HB := n2_
                                clear n0_ n1_ n2_
                                clear hb ho28
                                refine hK.out _ _ ⟨((HB.out.cell (World.block_lt_of_cell? w _ hw441_0)).trans hw441_0), ((HB.out.cell (World.block_lt_of_cell? w _ hw441_1)).trans hw441_1), ((HB.out.cell (World.block_lt_of_cell? w _ hw441_2)).trans hw441_2), ((HB.out.cell (World.block_lt_of_cell? w _ hw441_3)).trans hw441_3), ((HB.out.cell (World.block_lt_of_cell? w _ hw441_4)).trans hw441_4), ((HB.out.cell (World.block_lt_of_cell? w _ hw441_5)).trans hw441_5)⟩ (fun hHeld => ?_)
                                clear hK K
                                refine norm_ (a' := ?_) ?_ ?_
                                rotate_left
                                · show Act.put _ (some 40) _ = _
                                  simp only [Act.put, List.setIfInBounds_toArray, List.set_cons_zero, List.set_cons_succ, i64_w, i32_w]
                                  rfl
                                refine one_ (i := 8) (N := some 36) #[true, true, true, true, true, true, true, true, true, true, true, true, true, false, false] rfl rfl (one_of HT_.out (by kernel_rfl)) (by decide) (fun K hK => ?_)
                                refine Kd.R_append_rows_step k31 (w0 := w) w.heap.size (by rfl) (.tmp 32) (.tmp 35) 25 31 (.agg #[(.int .i64 0), (.int .i64 0), (.bool false), (.int .i64 0), (.bool false), (.int .i64 0)]) 48 rfl Try.underlying25 info31 rfl (by decide) (by omega) v432 y431 y434 _ _ _ (fun k_ => some k_ ≠ (v443 : Value).ownBlock) (fun _ => False) rfl rfl ?aO ?aR (fun _ _ h => h) (fun _ h => h.elim) ?aF ?aB ?aS ?aL ?_
                                (case aR => repeat (first | exact (Kd.C_below HR437.out HB.out) | (with_reducible refine Kd.C_alloc ?_ _) | (with_reducible refine Kd.C_drewN ?_ _) | (with_reducible refine Kd.C_drew ?_)))
                                (case aB => exact (by repeat (first | (with_reducible first | exact HB.out | apply below_alloc | apply pw_below_drewN | apply below_drew1) | exact HB.out)))
                                (case aF => exact (fun k_ hk => Kd.fresh' (Kd.R_lt (by (with_reducible repeat (first | apply Kd.R_alloc | apply Kd.R_drewN | apply Kd.R_drew)); exact HO444.out)) k_ hk))
                                (case aO => exact (by (with_reducible repeat (first | apply Kd.R_alloc | apply Kd.R_drewN | apply Kd.R_drew)); exact Kd.R_mono HO433.out (fun _ hk => hk.2)))
                                (case aS => exact (below_size (by repeat (first | (with_reducible first | exact HB.out | apply below_alloc | apply pw_below_drewN | apply below_drew1) | exact HB.out))))
                                (case aL => have := LMc15.out; omega)
                                intro v439 w29 ho hb hg hat
                                rw [← Ny438.out] at ho
                                have n0_ := Aside0.mk (Kd.R_after (ok := (fun _ => True)) (by (with_reducible repeat (first | apply Kd.R_alloc | apply Kd.R_drewN | apply Kd.R_drew)); exact HO444.out) hg hat)
                                have n1_ := Aside0.mk (hb)
                                have n2_ := Aside0.mk (ho)
                                clear HO444
                                clear HB
                                clear HO433
                                have HO444 := n0_
                                have HB := n1_
                                have HO440 := n2_
                                clear n0_ n1_ n2_
                                clear ho hb hg hat
                                refine hK.out _ _ ⟨((HB.out.cell (World.block_lt_of_cell? w _ hw441_0)).trans hw441_0), ((HB.out.cell (World.block_lt_of_cell? w _ hw441_1)).trans hw441_1), ((HB.out.cell (World.block_lt_of_cell? w _ hw441_2)).trans hw441_2), ((HB.out.cell (World.block_lt_of_cell? w _ hw441_3)).trans hw441_3), ((HB.out.cell (World.block_lt_of_cell? w _ hw441_4)).trans hw441_4), ((HB.out.cell (World.block_lt_of_cell? w _ hw441_5)).trans hw441_5)⟩ (fun hHeld => ?_)
                                clear hK K
                                refine norm_ (a' := ?_) ?_ ?_
                                rotate_left
                                · show Act.put _ (some 36) _ = _
                                  simp only [Act.put, List.setIfInBounds_toArray, List.set_cons_zero, List.set_cons_succ, i64_w, i32_w]
                                  rfl
                                exact norm_ (by simp only [putAll, Act.put, List.setIfInBounds_toArray, List.set_cons_zero, List.set_cons_succ]) (hCont (v425, v432, v439, v443) _ ⟨hHeld, (by (with_reducible repeat (first | apply Kd.R_alloc | apply Kd.R_drewN | apply Kd.R_drew)); exact HO440.out), (by (with_reducible repeat (first | apply Kd.R_alloc | apply Kd.R_drewN | apply Kd.R_drew)); exact Kd.R_mono HO444.out (fun _ hk => hk.2)), (by repeat (first | (with_reducible first | exact HB.out | apply below_alloc | apply pw_below_drewN | apply below_drew1) | exact HB.out))⟩)
                            · skip
                              refine Kd.R_lit_step k31 _ 31 ?hg (N := 40) ?hd (xs := ([(⟨(rd_T31 l0 0).f0, (rd_T31 l0 0).f1, (rd_T31 l0 0).f2, (rd_T31 l0 0).f3, (rd_T31 l0 0).f4, (rd_T31 l0 0).f5⟩ : S31)] : List (S31))) (inner := [.int .i64 ((rd_T31 l0 0).f0), .int .i64 ((rd_T31 l0 0).f1), .bool ((rd_T31 l0 0).f2), .int .i64 ((rd_T31 l0 0).f3), .bool ((rd_T31 l0 0).f4), .int .i64 ((rd_T31 l0 0).f5)]) (ok := fun _ => True) (okp := fun _ => True) ?hr ?hp (fun _ hk => hk) trivial (Below.refl _ _) (Nat.le_refl _) (by simp) ?_; (case hd => rfl); (case hg => rfl); (case hr => first | (go_simp; done) | (go_simp; rfl)); (case hp => exact (Reps.c6 (show Kd.M k31 _ _ _ (⟨(rd_T31 l0 0).f0, (rd_T31 l0 0).f1, (rd_T31 l0 0).f2, (rd_T31 l0 0).f3, (rd_T31 l0 0).f4, (rd_T31 l0 0).f5⟩ : S31) [.int .i64 ((rd_T31 l0 0).f0), .int .i64 ((rd_T31 l0 0).f1), .bool ((rd_T31 l0 0).f2), .int .i64 ((rd_T31 l0 0).f3), .bool ((rd_T31 l0 0).f4), .int .i64 ((rd_T31 l0 0).f5)] from (k31_mkM _ _ _ (⟨(rd_T31 l0 0).f0, (rd_T31 l0 0).f1, (rd_T31 l0 0).f2, (rd_T31 l0 0).f3, (rd_T31 l0 0).f4, (rd_T31 l0 0).f5⟩ : S31) )) (Reps.none _ _)))
                              intro v443 w26 ho27 hb hg_ hnew_
                              clear hg_ hnew_
                              (first | rw [← Ny442.out] at ho27 | (simp only [Int.reduceToNat] at ho27; rw [← Ny442.out] at ho27))
                              have n0_ := Aside0.mk (Kd.R_elder' (by (with_reducible repeat (first | apply Kd.R_alloc | apply Kd.R_drewN | apply Kd.R_drew)); exact HO426.out) (Kd.R_base ho27) hb)
                              have n1_ := Aside0.mk (Kd.R_lower (Kd.R_new' ho27 (Kd.R_lt (by (with_reducible repeat (first | apply Kd.R_alloc | apply Kd.R_drewN | apply Kd.R_drew)); exact HO426.out))) (below_size (by repeat (first | (with_reducible first | exact HB.out | apply below_alloc | apply pw_below_drewN | apply below_drew1) | exact HB.out))))
                              have n2_ := Aside0.mk (below_step (by repeat (first | (with_reducible first | exact HB.out | apply below_alloc | apply pw_below_drewN | apply below_drew1) | exact HB.out)) hb)
                              clear HO426
                              clear HB
                              have HO426 := n0_
                              have HO444 := n1_
                              have HB := n2_
                              clear n0_ n1_ n2_
                              clear hb ho27
                              refine hK.out _ _ ⟨((HB.out.cell (World.block_lt_of_cell? w _ hw441_0)).trans hw441_0), ((HB.out.cell (World.block_lt_of_cell? w _ hw441_1)).trans hw441_1), ((HB.out.cell (World.block_lt_of_cell? w _ hw441_2)).trans hw441_2), ((HB.out.cell (World.block_lt_of_cell? w _ hw441_3)).trans hw441_3), ((HB.out.cell (World.block_lt_of_cell? w _ hw441_4)).trans hw441_4), ((HB.out.cell (World.block_lt_of_cell? w _ hw441_5)).trans hw441_5)⟩ (fun hHeld => ?_)
                              clear hK K
                              refine norm_ (a' := ?_) ?_ ?_
                              rotate_left
                              · show Act.put _ (some 40) _ = _
                                simp only [Act.put, List.setIfInBounds_toArray, List.set_cons_zero, List.set_cons_succ, i64_w, i32_w]
                                rfl
                              refine one_ (i := 4) (N := some 32) #[true, true, true, true, true, true, true, true, false, true, true, true, true, false, false] rfl rfl (one_of HT_.out (by kernel_rfl)) (by decide) (fun K hK => ?_)
                              refine Kd.R_append_rows_step k31 (w0 := w) w.heap.size (by rfl) (.tmp 28) (.tmp 31) 25 31 (.agg #[(.int .i64 0), (.int .i64 0), (.bool false), (.int .i64 0), (.bool false), (.int .i64 0)]) 48 rfl Try.underlying25 info31 rfl (by decide) (by omega) v425 y424 y427 _ _ _ (fun k_ => some k_ ≠ (v443 : Value).ownBlock) (fun _ => False) rfl rfl ?aO ?aR (fun _ _ h => h) (fun _ h => h.elim) ?aF ?aB ?aS ?aL ?_
                              (case aR => repeat (first | exact (Kd.C_below HR430.out HB.out) | (with_reducible refine Kd.C_alloc ?_ _) | (with_reducible refine Kd.C_drewN ?_ _) | (with_reducible refine Kd.C_drew ?_)))
                              (case aB => exact (by repeat (first | (with_reducible first | exact HB.out | apply below_alloc | apply pw_below_drewN | apply below_drew1) | exact HB.out)))
                              (case aF => exact (fun k_ hk => Kd.fresh' (Kd.R_lt (by (with_reducible repeat (first | apply Kd.R_alloc | apply Kd.R_drewN | apply Kd.R_drew)); exact HO444.out)) k_ hk))
                              (case aO => exact (by (with_reducible repeat (first | apply Kd.R_alloc | apply Kd.R_drewN | apply Kd.R_drew)); exact Kd.R_mono HO426.out (fun _ hk => hk.2)))
                              (case aS => exact (below_size (by repeat (first | (with_reducible first | exact HB.out | apply below_alloc | apply pw_below_drewN | apply below_drew1) | exact HB.out))))
                              (case aL => have := LMc12.out; omega)
                              intro v432 w28 ho hb hg hat
                              rw [← Ny431.out] at ho
                              have n0_ := Aside0.mk (Kd.R_after (ok := (fun _ => True)) (by (with_reducible repeat (first | apply Kd.R_alloc | apply Kd.R_drewN | apply Kd.R_drew)); exact HO444.out) hg hat)
                              have n1_ := Aside0.mk (hb)
                              have n2_ := Aside0.mk (ho)
                              clear HO444
                              clear HB
                              clear HO426
                              have HO444 := n0_
                              have HB := n1_
                              have HO433 := n2_
                              clear n0_ n1_ n2_
                              clear ho hb hg hat
                              refine hK.out _ _ ⟨((HB.out.cell (World.block_lt_of_cell? w _ hw441_0)).trans hw441_0), ((HB.out.cell (World.block_lt_of_cell? w _ hw441_1)).trans hw441_1), ((HB.out.cell (World.block_lt_of_cell? w _ hw441_2)).trans hw441_2), ((HB.out.cell (World.block_lt_of_cell? w _ hw441_3)).trans hw441_3), ((HB.out.cell (World.block_lt_of_cell? w _ hw441_4)).trans hw441_4), ((HB.out.cell (World.block_lt_of_cell? w _ hw441_5)).trans hw441_5)⟩ (fun hHeld => ?_)
                              clear hK K
                              refine norm_ (a' := ?_) ?_ ?_
                              rotate_left
                              · show Act.put _ (some 32) _ = _
                                simp only [Act.put, List.setIfInBounds_toArray, List.set_cons_zero, List.set_cons_succ, i64_w, i32_w]
                                rfl
                              refine one_ (i := 8) (N := some 36) #[true, true, true, true, true, true, true, true, true, true, true, true, true, false, false] rfl rfl (one_of HT_.out (by kernel_rfl)) (by decide) (fun K hK => ?_)
                              refine Kd.R_append_rows_step k31 (w0 := w) w.heap.size (by rfl) (.tmp 32) (.tmp 35) 25 31 (.agg #[(.int .i64 0), (.int .i64 0), (.bool false), (.int .i64 0), (.bool false), (.int .i64 0)]) 48 rfl Try.underlying25 info31 rfl (by decide) (by omega) v432 y431 y434 _ _ _ (fun k_ => some k_ ≠ (v443 : Value).ownBlock) (fun _ => False) rfl rfl ?aO ?aR (fun _ _ h => h) (fun _ h => h.elim) ?aF ?aB ?aS ?aL ?_
                              (case aR => repeat (first | exact (Kd.C_below HR437.out HB.out) | (with_reducible refine Kd.C_alloc ?_ _) | (with_reducible refine Kd.C_drewN ?_ _) | (with_reducible refine Kd.C_drew ?_)))
                              (case aB => exact (by repeat (first | (with_reducible first | exact HB.out | apply below_alloc | apply pw_below_drewN | apply below_drew1) | exact HB.out)))
                              (case aF => exact (fun k_ hk => Kd.fresh' (Kd.R_lt (by (with_reducible repeat (first | apply Kd.R_alloc | apply Kd.R_drewN | apply Kd.R_drew)); exact HO444.out)) k_ hk))
                              (case aO => exact (by (with_reducible repeat (first | apply Kd.R_alloc | apply Kd.R_drewN | apply Kd.R_drew)); exact HO433.out))
                              (case aS => exact (below_size (by repeat (first | (with_reducible first | exact HB.out | apply below_alloc | apply pw_below_drewN | apply below_drew1) | exact HB.out))))
                              (case aL => have := LMc15.out; omega)
                              intro v439 w29 ho hb hg hat
                              rw [← Ny438.out] at ho
                              have n0_ := Aside0.mk (Kd.R_after (ok := (fun _ => True)) (by (with_reducible repeat (first | apply Kd.R_alloc | apply Kd.R_drewN | apply Kd.R_drew)); exact HO444.out) hg hat)
                              have n1_ := Aside0.mk (hb)
                              have n2_ := Aside0.mk (ho)
                              clear HO444
                              clear HB
                              clear HO433
                              have HO444 := n0_
                              have HB := n1_
                              have HO440 := n2_
                              clear n0_ n1_ n2_
                              clear ho hb hg hat
                              refine hK.out _ _ ⟨((HB.out.cell (World.block_lt_of_cell? w _ hw441_0)).trans hw441_0), ((HB.out.cell (World.block_lt_of_cell? w _ hw441_1)).trans hw441_1), ((HB.out.cell (World.block_lt_of_cell? w _ hw441_2)).trans hw441_2), ((HB.out.cell (World.block_lt_of_cell? w _ hw441_3)).trans hw441_3), ((HB.out.cell (World.block_lt_of_cell? w _ hw441_4)).trans hw441_4), ((HB.out.cell (World.block_lt_of_cell? w _ hw441_5)).trans hw441_5)⟩ (fun hHeld => ?_)
                              clear hK K
                              refine norm_ (a' := ?_) ?_ ?_
                              rotate_left
                              · show Act.put _ (some 36) _ = _
                                simp only [Act.put, List.setIfInBounds_toArray, List.set_cons_zero, List.set_cons_succ, i64_w, i32_w]
                                rfl
                              exact norm_ (by simp only [putAll, Act.put, List.setIfInBounds_toArray, List.set_cons_zero, List.set_cons_succ]) (hCont (v425, v432, v439, v443) _ ⟨hHeld, (by (with_reducible repeat (first | apply Kd.R_alloc | apply Kd.R_drewN | apply Kd.R_drew)); exact HO440.out), (by (with_reducible repeat (first | apply Kd.R_alloc | apply Kd.R_drewN | apply Kd.R_drew)); exact Kd.R_mono HO444.out (fun _ hk => hk.2)), (by repeat (first | (with_reducible first | exact HB.out | apply below_alloc | apply pw_below_drewN | apply below_drew1) | exact HB.out))⟩)
                          · skip
                            refine Kd.R_lit_step k31 _ 31 ?hg (N := 40) ?hd (xs := ([(⟨(rd_T31 l0 0).f0, (rd_T31 l0 0).f1, (rd_T31 l0 0).f2, (rd_T31 l0 0).f3, (rd_T31 l0 0).f4, (rd_T31 l0 0).f5⟩ : S31)] : List (S31))) (inner := [.int .i64 ((rd_T31 l0 0).f0), .int .i64 ((rd_T31 l0 0).f1), .bool ((rd_T31 l0 0).f2), .int .i64 ((rd_T31 l0 0).f3), .bool ((rd_T31 l0 0).f4), .int .i64 ((rd_T31 l0 0).f5)]) (ok := fun _ => True) (okp := fun _ => True) ?hr ?hp (fun _ hk => hk) trivial (Below.refl _ _) (Nat.le_refl _) (by simp) ?_; (case hd => rfl); (case hg => rfl); (case hr => first | (go_simp; done) | (go_simp; rfl)); (case hp => exact (Reps.c6 (show Kd.M k31 _ _ _ (⟨(rd_T31 l0 0).f0, (rd_T31 l0 0).f1, (rd_T31 l0 0).f2, (rd_T31 l0 0).f3, (rd_T31 l0 0).f4, (rd_T31 l0 0).f5⟩ : S31) [.int .i64 ((rd_T31 l0 0).f0), .int .i64 ((rd_T31 l0 0).f1), .bool ((rd_T31 l0 0).f2), .int .i64 ((rd_T31 l0 0).f3), .bool ((rd_T31 l0 0).f4), .int .i64 ((rd_T31 l0 0).f5)] from (k31_mkM _ _ _ (⟨(rd_T31 l0 0).f0, (rd_T31 l0 0).f1, (rd_T31 l0 0).f2, (rd_T31 l0 0).f3, (rd_T31 l0 0).f4, (rd_T31 l0 0).f5⟩ : S31) )) (Reps.none _ _)))
                            intro v443 w24 ho25 hb hg_ hnew_
                            clear hg_ hnew_
                            (first | rw [← Ny442.out] at ho25 | (simp only [Int.reduceToNat] at ho25; rw [← Ny442.out] at ho25))
                            have n0_ := Aside0.mk (Kd.R_lower ho25 (below_size (by repeat (first | (with_reducible first | exact HB.out | apply below_alloc | apply pw_below_drewN | apply below_drew1) | exact HB.out))))
                            have n1_ := Aside0.mk (below_step (by repeat (first | (with_reducible first | exact HB.out | apply below_alloc | apply pw_below_drewN | apply below_drew1) | exact HB.out)) hb)
                            clear HB
                            have HO444 := n0_
                            have HB := n1_
                            clear n0_ n1_
                            clear hb ho25
                            refine hK.out _ _ ⟨((HB.out.cell (World.block_lt_of_cell? w _ hw441_0)).trans hw441_0), ((HB.out.cell (World.block_lt_of_cell? w _ hw441_1)).trans hw441_1), ((HB.out.cell (World.block_lt_of_cell? w _ hw441_2)).trans hw441_2), ((HB.out.cell (World.block_lt_of_cell? w _ hw441_3)).trans hw441_3), ((HB.out.cell (World.block_lt_of_cell? w _ hw441_4)).trans hw441_4), ((HB.out.cell (World.block_lt_of_cell? w _ hw441_5)).trans hw441_5)⟩ (fun hHeld => ?_)
                            clear hK K
                            refine norm_ (a' := ?_) ?_ ?_
                            rotate_left
                            · show Act.put _ (some 40) _ = _
                              simp only [Act.put, List.setIfInBounds_toArray, List.set_cons_zero, List.set_cons_succ, i64_w, i32_w]
                              rfl
                            refine one_ (i := 0) (N := some 28) #[true, true, true, true, false, true, true, true, false, true, true, true, true, false, false] rfl rfl (one_of HT_.out (by kernel_rfl)) (by decide) (fun K hK => ?_)
                            refine Kd.R_lit_step k31 _ 31 ?hg (N := 28) ?hd (xs := ([] : List (S31))) (inner := []) (ok := fun _ => True) (okp := fun _ => True) ?hr ?hp (fun _ hk => hk) trivial (Below.refl _ _) (Nat.le_refl _) (by simp) ?_; (case hd => rfl); (case hg => rfl); (case hr => first | (go_simp; done) | (go_simp; rfl)); (case hp => exact (Reps.none _ _))
                            intro v425 w26 ho27 hb hg_ hnew_
                            clear hg_ hnew_
                            (first | rw [← Ny424.out] at ho27 | (simp only [Int.reduceToNat] at ho27; rw [← Ny424.out] at ho27))
                            have n0_ := Aside0.mk (Kd.R_elder' (by (with_reducible repeat (first | apply Kd.R_alloc | apply Kd.R_drewN | apply Kd.R_drew)); exact HO444.out) (Kd.R_base ho27) hb)
                            have n1_ := Aside0.mk (Kd.R_lower (Kd.R_new' ho27 (Kd.R_lt (by (with_reducible repeat (first | apply Kd.R_alloc | apply Kd.R_drewN | apply Kd.R_drew)); exact HO444.out))) (below_size (by repeat (first | (with_reducible first | exact HB.out | apply below_alloc | apply pw_below_drewN | apply below_drew1) | exact HB.out))))
                            have n2_ := Aside0.mk (below_step (by repeat (first | (with_reducible first | exact HB.out | apply below_alloc | apply pw_below_drewN | apply below_drew1) | exact HB.out)) hb)
                            clear HO444
                            clear HB
                            have HO444 := n0_
                            have HO426 := n1_
                            have HB := n2_
                            clear n0_ n1_ n2_
                            clear hb ho27
                            refine hK.out _ _ ⟨((HB.out.cell (World.block_lt_of_cell? w _ hw441_0)).trans hw441_0), ((HB.out.cell (World.block_lt_of_cell? w _ hw441_1)).trans hw441_1), ((HB.out.cell (World.block_lt_of_cell? w _ hw441_2)).trans hw441_2), ((HB.out.cell (World.block_lt_of_cell? w _ hw441_3)).trans hw441_3), ((HB.out.cell (World.block_lt_of_cell? w _ hw441_4)).trans hw441_4), ((HB.out.cell (World.block_lt_of_cell? w _ hw441_5)).trans hw441_5)⟩ (fun hHeld => ?_)
                            clear hK K
                            refine norm_ (a' := ?_) ?_ ?_
                            rotate_left
                            · show Act.put _ (some 28) _ = _
                              simp only [Act.put, List.setIfInBounds_toArray, List.set_cons_zero, List.set_cons_succ, i64_w, i32_w]
                              rfl
                            refine one_ (i := 4) (N := some 32) #[true, true, true, true, true, true, true, true, false, true, true, true, true, false, false] rfl rfl (one_of HT_.out (by kernel_rfl)) (by decide) (fun K hK => ?_)
                            refine Kd.R_append_rows_step k31 (w0 := w) w.heap.size (by rfl) (.tmp 28) (.tmp 31) 25 31 (.agg #[(.int .i64 0), (.int .i64 0), (.bool false), (.int .i64 0), (.bool false), (.int .i64 0)]) 48 rfl Try.underlying25 info31 rfl (by decide) (by omega) v425 y424 y427 _ _ _ (fun k_ => some k_ ≠ (v443 : Value).ownBlock) (fun _ => False) rfl rfl ?aO ?aR (fun _ _ h => h) (fun _ h => h.elim) ?aF ?aB ?aS ?aL ?_
                            (case aR => repeat (first | exact (Kd.C_below HR430.out HB.out) | (with_reducible refine Kd.C_alloc ?_ _) | (with_reducible refine Kd.C_drewN ?_ _) | (with_reducible refine Kd.C_drew ?_)))
                            (case aB => exact (by repeat (first | (with_reducible first | exact HB.out | apply below_alloc | apply pw_below_drewN | apply below_drew1) | exact HB.out)))
                            (case aF => exact (fun k_ hk => Kd.fresh' (Kd.R_lt (by (with_reducible repeat (first | apply Kd.R_alloc | apply Kd.R_drewN | apply Kd.R_drew)); exact HO444.out)) k_ hk))
                            (case aO => exact (by (with_reducible repeat (first | apply Kd.R_alloc | apply Kd.R_drewN | apply Kd.R_drew)); exact Kd.R_mono HO426.out (fun _ hk => hk.2)))
                            (case aS => exact (below_size (by repeat (first | (with_reducible first | exact HB.out | apply below_alloc | apply pw_below_drewN | apply below_drew1) | exact HB.out))))
                            (case aL => have := LMc12.out; omega)
                            intro v432 w28 ho hb hg hat
                            rw [← Ny431.out] at ho
                            have n0_ := Aside0.mk (Kd.R_after (ok := (fun _ => True)) (by (with_reducible repeat (first | apply Kd.R_alloc | apply Kd.R_drewN | apply Kd.R_drew)); exact HO444.out) hg hat)
                            have n1_ := Aside0.mk (hb)
                            have n2_ := Aside0.mk (ho)
                            clear HO444
                            clear HB
                            clear HO426
                            have HO444 := n0_
                            have HB := n1_
                            have HO433 := n2_
                            clear n0_ n1_ n2_
                            clear ho hb hg hat
                            refine hK.out _ _ ⟨((HB.out.cell (World.block_lt_of_cell? w _ hw441_0)).trans hw441_0), ((HB.out.cell (World.block_lt_of_cell? w _ hw441_1)).trans hw441_1), ((HB.out.cell (World.block_lt_of_cell? w _ hw441_2)).trans hw441_2), ((HB.out.cell (World.block_lt_of_cell? w _ hw441_3)).trans hw441_3), ((HB.out.cell (World.block_lt_of_cell? w _ hw441_4)).trans hw441_4), ((HB.out.cell (World.block_lt_of_cell? w _ hw441_5)).trans hw441_5)⟩ (fun hHeld => ?_)
                            clear hK K
                            refine norm_ (a' := ?_) ?_ ?_
                            rotate_left
                            · show Act.put _ (some 32) _ = _
                              simp only [Act.put, List.setIfInBounds_toArray, List.set_cons_zero, List.set_cons_succ, i64_w, i32_w]
                              rfl
                            refine one_ (i := 8) (N := some 36) #[true, true, true, true, true, true, true, true, true, true, true, true, true, false, false] rfl rfl (one_of HT_.out (by kernel_rfl)) (by decide) (fun K hK => ?_)
                            refine Kd.R_append_rows_step k31 (w0 := w) w.heap.size (by rfl) (.tmp 32) (.tmp 35) 25 31 (.agg #[(.int .i64 0), (.int .i64 0), (.bool false), (.int .i64 0), (.bool false), (.int .i64 0)]) 48 rfl Try.underlying25 info31 rfl (by decide) (by omega) v432 y431 y434 _ _ _ (fun k_ => some k_ ≠ (v443 : Value).ownBlock) (fun _ => False) rfl rfl ?aO ?aR (fun _ _ h => h) (fun _ h => h.elim) ?aF ?aB ?aS ?aL ?_
                            (case aR => repeat (first | exact (Kd.C_below HR437.out HB.out) | (with_reducible refine Kd.C_alloc ?_ _) | (with_reducible refine Kd.C_drewN ?_ _) | (with_reducible refine Kd.C_drew ?_)))
                            (case aB => exact (by repeat (first | (with_reducible first | exact HB.out | apply below_alloc | apply pw_below_drewN | apply below_drew1) | exact HB.out)))
                            (case aF => exact (fun k_ hk => Kd.fresh' (Kd.R_lt (by (with_reducible repeat (first | apply Kd.R_alloc | apply Kd.R_drewN | apply Kd.R_drew)); exact HO444.out)) k_ hk))
                            (case aO => exact (by (with_reducible repeat (first | apply Kd.R_alloc | apply Kd.R_drewN | apply Kd.R_drew)); exact HO433.out))
                            (case aS => exact (below_size (by repeat (first | (with_reducible first | exact HB.out | apply below_alloc | apply pw_below_drewN | apply below_drew1) | exact HB.out))))
                            (case aL => have := LMc15.out; omega)
                            intro v439 w29 ho hb hg hat
                            rw [← Ny438.out] at ho
                            have n0_ := Aside0.mk (Kd.R_after (ok := (fun _ => True)) (by (with_reducible repeat (first | apply Kd.R_alloc | apply Kd.R_drewN | apply Kd.R_drew)); exact HO444.out) hg hat)
                            have n1_ := Aside0.mk (hb)
                            have n2_ := Aside0.mk (ho)
                            clear HO444
                            clear HB
                            clear HO433
                            have HO444 := n0_
                            have HB := n1_
                            have HO440 := n2_
                            clear n0_ n1_ n2_
                            clear ho hb hg hat
                            refine hK.out _ _ ⟨((HB.out.cell (World.block_lt_of_cell? w _ hw441_0)).trans hw441_0), ((HB.out.cell (World.block_lt_of_cell? w _ hw441_1)).trans hw441_1), ((HB.out.cell (World.block_lt_of_cell? w _ hw441_2)).trans hw441_2), ((HB.out.cell (World.block_lt_of_cell? w _ hw441_3)).trans hw441_3), ((HB.out.cell (World.block_lt_of_cell? w _ hw441_4)).trans hw441_4), ((HB.out.cell (World.block_lt_of_cell? w _ hw441_5)).trans hw441_5)⟩ (fun hHeld => ?_)
                            clear hK K
                            refine norm_ (a' := ?_) ?_ ?_
                            rotate_left
                            · show Act.put _ (some 36) _ = _
                              simp only [Act.put, List.setIfInBounds_toArray, List.set_cons_zero, List.set_cons_succ, i64_w, i32_w]
                              rfl
                            exact norm_ (by simp only [putAll, Act.put, List.setIfInBounds_toArray, List.set_cons_zero, List.set_cons_succ]) (hCont (v425, v432, v439, v443) _ ⟨hHeld, (by (with_reducible repeat (first | apply Kd.R_alloc | apply Kd.R_drewN | apply Kd.R_drew)); exact HO440.out), (by (with_reducible repeat (first | apply Kd.R_alloc | apply Kd.R_drewN | apply Kd.R_drew)); exact Kd.R_mono HO444.out (fun _ hk => hk.2)), (by repeat (first | (with_reducible first | exact HB.out | apply below_alloc | apply pw_below_drewN | apply below_drew1) | exact HB.out))⟩)
                        rintro ⟨v425, v432, v439, v443⟩ w30 ⟨hS_, h0_, h1_, h2_⟩
                        have n0_ : Aside0 (Kd.R k31 31 w30 w.heap.size (fun k_ => some k_ ≠ (v443 : Value).ownBlock) v439 y438) := ⟨h0_⟩
                        have n1_ : Aside0 (Kd.R k31 31 w30 w.heap.size (fun k_ => some k_ ≠ (v439 : Value).ownBlock) v443 y442) := ⟨h1_⟩
                        have n2_ : Aside0 (Below w.heap.size w w30) := ⟨h2_⟩
                        clear HB
                        clear h0_ h1_ h2_
                        have HO440 := n0_
                        have HO444 := n1_
                        have HB := n2_
                        clear n0_ n1_ n2_
                        have hHeld : w30.cell? ad441 = some (.int .i64 ((rd_T31 l0 0).f0)) ∧ w30.cell? ⟨ad441.block, ad441.off + 1, none⟩ = some (.int .i64 ((rd_T31 l0 0).f1)) ∧ w30.cell? ⟨ad441.block, ad441.off + 2, none⟩ = some (.bool ((rd_T31 l0 0).f2)) ∧ w30.cell? ⟨ad441.block, ad441.off + 3, none⟩ = some (.int .i64 ((rd_T31 l0 0).f3)) ∧ w30.cell? ⟨ad441.block, ad441.off + 4, none⟩ = some (.bool ((rd_T31 l0 0).f4)) ∧ w30.cell? ⟨ad441.block, ad441.off + 5, none⟩ = some (.int .i64 ((rd_T31 l0 0).f5)) := hS_
                        obtain ⟨Ao32, co32, eo32⟩ := Kd.R_slice HO444.out
                        (first | subst eo32 | (injection eo32 with f1_ f2_ f3_; have f4_ := f1_.symm; have f5_ := f3_.symm; clear f1_ f2_ f3_; subst f4_; subst f5_))
                        refine norm_ (a' := ?_) ?_ ?_
                        rotate_left
                        · simp only [putAll, Act.put, List.setIfInBounds_toArray, List.set_cons_zero, List.set_cons_succ]
                          rfl
                        refine one_ (i := 13) (N := some 41) #[true, true, true, true, true, true, true, true, true, true, true, true, true, true, false] rfl rfl (one_of HT_.out (by kernel_rfl)) (by decide) (fun K hK => ?_)
                        refine Kd.R_append_rows_step k31 (w0 := w) w.heap.size (by rfl) (.tmp 36) (.tmp 40) 25 31 (.agg #[(.int .i64 0), (.int .i64 0), (.bool false), (.int .i64 0), (.bool false), (.int .i64 0)]) 48 rfl Try.underlying25 info31 rfl (by decide) (by omega) v439 y438 y442 _ _ _ (fun k_ => some k_ ≠ (.slice Ao32 y442.length co32 : Value).ownBlock) (fun _ => False) rfl rfl ?aO ?aR (fun _ _ h => h) (fun _ h => h.elim) ?aF ?aB ?aS ?aL ?_
                        (case aR => repeat (first | exact (Kd.R_reads' HO444.out).2.2 | (with_reducible refine Kd.C_alloc ?_ _) | (with_reducible refine Kd.C_drewN ?_ _) | (with_reducible refine Kd.C_drew ?_)))
                        (case aB => exact (by repeat (first | (with_reducible first | exact HB.out | apply below_alloc | apply pw_below_drewN | apply below_drew1) | exact HB.out)))
                        (case aF => exact (fun k_ hk => Kd.fresh' (Kd.R_lt (by (with_reducible repeat (first | apply Kd.R_alloc | apply Kd.R_drewN | apply Kd.R_drew)); exact HO444.out)) k_ hk))
                        (case aO => exact (by (with_reducible repeat (first | apply Kd.R_alloc | apply Kd.R_drewN | apply Kd.R_drew)); exact HO440.out))
                        (case aS => exact (below_size (by repeat (first | (with_reducible first | exact HB.out | apply below_alloc | apply pw_below_drewN | apply below_drew1) | exact HB.out))))
                        (case aL => have := LMc17.out; omega)
                        intro v446 w31 ho hb hg hat
                        rw [← Ny445.out] at ho
                        have n0_ := Aside0.mk (Kd.R_after (ok := (fun _ => True)) (by (with_reducible repeat (first | apply Kd.R_alloc | apply Kd.R_drewN | apply Kd.R_drew)); exact Kd.R_mono HO444.out (fun _ hk => ⟨trivial, hk⟩)) hg hat)
                        have n1_ := Aside0.mk (hb)
                        have n2_ := Aside0.mk (ho)
                        clear HO444
                        clear HB
                        clear HO440
                        have HO444 := n0_
                        have HB := n1_
                        have HO447 := n2_
                        clear n0_ n1_ n2_
                        clear ho hb hg hat
                        refine hK.out _ _ ⟨((HB.out.cell (World.block_lt_of_cell? w _ hw441_0)).trans hw441_0), ((HB.out.cell (World.block_lt_of_cell? w _ hw441_1)).trans hw441_1), ((HB.out.cell (World.block_lt_of_cell? w _ hw441_2)).trans hw441_2), ((HB.out.cell (World.block_lt_of_cell? w _ hw441_3)).trans hw441_3), ((HB.out.cell (World.block_lt_of_cell? w _ hw441_4)).trans hw441_4), ((HB.out.cell (World.block_lt_of_cell? w _ hw441_5)).trans hw441_5)⟩ (fun hHeld => ?_)
                        clear hK K
                        refine norm_ (a' := ?_) ?_ ?_
                        rotate_left
                        · show Act.put _ (some 41) _ = _
                          simp only [Act.put, List.setIfInBounds_toArray, List.set_cons_zero, List.set_cons_succ, i64_w, i32_w]
                          rfl
                        refine pure_ (i := 14) (N := some 6) (v := ?_) (a' := ?_) #[true, true, true, true, true, true, true, true, true, true, true, true, true, true, true] rfl rfl (any_of HT_.out (by kernel_rfl)) (fun _ _ _ h => h) (Or.inl ⟨by rfl, ?_⟩) ?_ ?_
                        rotate_left
                        · intro w'
                          go_simp
                          with_reducible rfl
                        rotate_left
                        · simp only [Act.put, List.setIfInBounds_toArray, List.set_cons_zero, List.set_cons_succ, i64_w, i32_w]
                          rfl
                        refine done_ (done_of HT_.out (by kernel_rfl)) ?_
                        try go_wp2_with (first | ((with_reducible refine gate_callee (f := 20) rfl ?_); refine goesL_ (some 43) rfl rfl Try.func20 (by kernel_rfl) rfl #[.slice (some ad441) l0.length c0] rfl (by (try simp only [List.map_toArray, List.map_cons, List.map_nil]); first | done | rfl | (simp only [List.length_drop, List.length_take]; rfl)) ?_; (with_reducible refine (clash_All.calls kj2 _ _ l0 t448 _ ?side1 ?side2 A18.out).mono ?_); (case side1 => repeat (first | exact (Kd.C_below HR0.out HB.out) | (with_reducible refine Kd.C_alloc ?_ _) | (with_reducible refine Kd.C_drewN ?_ _) | (with_reducible refine Kd.C_drew ?_))); (case side2 => exact HC0.out); rintro e w33 ⟨v449, rfl, ho0, hb⟩; refine ⟨_, rfl, ?_⟩; have n0_ := Aside0.mk (Kd.R_below (by (with_reducible repeat (first | apply Kd.R_alloc | apply Kd.R_drewN | apply Kd.R_drew)); exact HO444.out) hb); have n1_ := Aside0.mk (Kd.R_below (by (with_reducible repeat (first | apply Kd.R_alloc | apply Kd.R_drewN | apply Kd.R_drew)); exact HO447.out) hb); have n2_ := Aside0.mk (Kd.R_lower ho0 (below_size (by repeat (first | (with_reducible first | exact HB.out | apply below_alloc | apply pw_below_drewN | apply below_drew1) | exact HB.out)))); have n3_ := Aside0.mk (below_step (by repeat (first | (with_reducible first | exact HB.out | apply below_alloc | apply pw_below_drewN | apply below_drew1) | exact HB.out)) hb); clear HO444; clear HO447; clear HB; have HO444 := n0_; have HO447 := n1_; have HO450 := n2_; have HB := n3_; clear n0_ n1_ n2_ n3_; (try clear hb); (try clear hb2); (try clear hk); (try clear hi); (try clear ho0); obtain ⟨Ao34, co34, eo34⟩ := Kd.R_slice HO447.out; subst eo34) | ((with_reducible refine gate_callee (f := 20) rfl ?_); refine goesL_ (some 45) rfl rfl Try.func20 (by kernel_rfl) rfl #[.slice Ao34 y445.length co34] rfl (by (try simp only [List.map_toArray, List.map_cons, List.map_nil]); first | done | rfl | (simp only [List.length_drop, List.length_take]; rfl)) ?_; (with_reducible refine (clash_All.calls kj2 _ _ y445 t451 _ ?side1 ?side2 A19.out).mono ?_); (case side1 => repeat (first | exact (Kd.R_reads' HO447.out).2.2 | (with_reducible refine Kd.C_alloc ?_ _) | (with_reducible refine Kd.C_drewN ?_ _) | (with_reducible refine Kd.C_drew ?_))); (case side2 => exact (Kd.R_reads' HO447.out).2.1); rintro e w35 ⟨v452, rfl, ho0, hb⟩; refine ⟨_, rfl, ?_⟩; have n0_ := Aside0.mk (Kd.R_below (by (with_reducible repeat (first | apply Kd.R_alloc | apply Kd.R_drewN | apply Kd.R_drew)); exact HO444.out) hb); have n1_ := Aside0.mk (Kd.R_below (by (with_reducible repeat (first | apply Kd.R_alloc | apply Kd.R_drewN | apply Kd.R_drew)); exact HO447.out) hb); have n2_ := Aside0.mk (Kd.R_elder' (by (with_reducible repeat (first | apply Kd.R_alloc | apply Kd.R_drewN | apply Kd.R_drew)); exact HO450.out) (Kd.R_base ho0) hb); have n3_ := Aside0.mk (Kd.R_lower (Kd.R_new' ho0 (Kd.R_lt (by (with_reducible repeat (first | apply Kd.R_alloc | apply Kd.R_drewN | apply Kd.R_drew)); exact HO450.out))) (below_size (by repeat (first | (with_reducible first | exact HB.out | apply below_alloc | apply pw_below_drewN | apply below_drew1) | exact HB.out)))); have n4_ := Aside0.mk (below_step (by repeat (first | (with_reducible first | exact HB.out | apply below_alloc | apply pw_below_drewN | apply below_drew1) | exact HB.out)) hb); clear HO444; clear HO447; clear HO450; clear HB; have HO444 := n0_; have HO447 := n1_; have HO450 := n2_; have HO453 := n3_; have HB := n4_; clear n0_ n1_ n2_ n3_ n4_; (try clear hb); (try clear hb2); (try clear hk); (try clear hi); (try clear ho0); obtain ⟨Ao36, co36, eo36⟩ := Kd.R_slice HO450.out; subst eo36; obtain ⟨Ao37, co37, eo37⟩ := Kd.R_slice HO453.out; subst eo37))
                        go_loopg [9] kj2 (fun kq v9 w' => ∃ (x9_2 : Int), v9 = .int .i64 x9_2 ∧ Aside0 (meddlerlaw15_ClashOrder.l0 kq t448 t451 x9_2 = some true) ∧ Aside0 (kq ≤ kj2) ∧ Aside0 (Kd.R k24 24 w' w.heap.size (fun k_ => some k_ ≠ ((.slice Ao37 t451.length co37) : Value).ownBlock) (.slice Ao36 t448.length co36) t448) ∧ Aside0 (Kd.R k24 24 w' w.heap.size (fun k_ => some k_ ≠ ((.slice Ao36 t448.length co36) : Value).ownBlock) (.slice Ao37 t451.length co37) t451) ∧ Aside0 (Below w.heap.size w w'))
                        case atStart => exact ⟨(0), (by first | rfl | (simp; done) | (simp [*]; done)), H', ⟨Nat.le_refl _⟩, ⟨by (with_reducible repeat (first | apply Kd.R_alloc | apply Kd.R_drewN | apply Kd.R_drew)); exact Kd.R_mono HO450.out (fun _ hk => hk.2)⟩, ⟨by (with_reducible repeat (first | apply Kd.R_alloc | apply Kd.R_drewN | apply Kd.R_drew)); exact Kd.R_mono HO453.out (fun _ hk => hk.2)⟩, ⟨by repeat (first | (with_reducible first | exact HB.out | apply below_alloc | apply pw_below_drewN | apply below_drew1) | exact HB.out)⟩⟩
                        case round =>
                          clear H'
                          try clear c1
                          try clear c2
                          try clear p2
                          try clear q2
                          try clear p4
                          try clear q4
                          try clear hx4
                          try clear qi4
                          try clear c6
                          try clear c12
                          try clear c15
                          try clear c16
                          try clear c16b0
                          try clear c16b1
                          try clear c17
                          try clear c20
                          try clear c20b0
                          try clear c20b1
                          try clear c20b2
                          try clear c22
                          try clear q22
                          try clear q23
                          try clear hx441_0
                          try clear hx441_1
                          try clear hx441_2
                          try clear hx441_3
                          try clear hx441_4
                          try clear hx441_5
                          try clear p441
                          try clear q022
                          try clear q22
                          try clear q23
                          try clear q441
                          obtain ⟨x9_2, rfl, HA, HK2, HO_7, HO_8, HB⟩ := hrel
                          cases gk with
                          | zero => exact absurd HA.out (by simp [meddlerlaw15_ClashOrder.l0])
                          | succ k2 =>
                            have H := HA.out
                            clear HA
                            simp only [meddlerlaw15_ClashOrder.l0] at H
                            by_cases c38 : x9_2 < (t448.length : Int)
                            · rw [if_pos c38] at H
                              have c38b0 : decide (x9_2 < (t448.length : Int)) = true := decide_eq_true c38
                              clear c38
                              by_cases c39 : 0 ≤ x9_2
                              · rw [if_pos c39] at H
                                have c39b0 : decide (0 ≤ x9_2) = true := decide_eq_true c39
                                clear c39
                                by_cases c40 : x9_2 < (t451.length : Int)
                                · rw [if_pos c40] at H
                                  have c40b0 : decide (x9_2 < (t451.length : Int)) = true := decide_eq_true c40
                                  clear c40
                                  by_cases c41 : (!(((rd_T24 t448 x9_2).f0) == ((rd_T24 t451 x9_2).f0)) || (!(((rd_T24 t448 x9_2).f1) == ((rd_T24 t451 x9_2).f1)) || (!(((rd_T24 t448 x9_2).f2) == ((rd_T24 t451 x9_2).f2)) || (!(((rd_T24 t448 x9_2).f3) == ((rd_T24 t451 x9_2).f3)) || (!(((rd_T24 t448 x9_2).f4) == ((rd_T24 t451 x9_2).f4)) || (!(((rd_T24 t448 x9_2).f5) == ((rd_T24 t451 x9_2).f5)))))))) = true
                                  · rw [if_pos c41] at H
                                    exact absurd H (by simp)
                                  · rw [if_neg c41] at H
                                    have c41b0 : (!(((rd_T24 t448 x9_2).f0) == ((rd_T24 t451 x9_2).f0)) || (!(((rd_T24 t448 x9_2).f1) == ((rd_T24 t451 x9_2).f1)) || (!(((rd_T24 t448 x9_2).f2) == ((rd_T24 t451 x9_2).f2)) || (!(((rd_T24 t448 x9_2).f3) == ((rd_T24 t451 x9_2).f3)) || (!(((rd_T24 t448 x9_2).f4) == ((rd_T24 t451 x9_2).f4)) || (!(((rd_T24 t448 x9_2).f5) == ((rd_T24 t451 x9_2).f5)))))))) = false := by simpa using c41
                                    clear c41
                                    by_cases c43 : ((rd_T24 t448 x9_2).f1) ≥ ((rd_T24 t448 x9_2).f4)
                                    · rw [if_pos c43] at H
                                      exact absurd H (by simp)
                                    · rw [if_neg c43] at H
                                      have c43b0 : decide (((rd_T24 t448 x9_2).f4) ≤ ((rd_T24 t448 x9_2).f1)) = false := decide_eq_false c43
                                      clear c43
                                      by_cases c45 : x9_2 > 0
                                      · rw [if_pos c45] at H
                                        have c45b0 : decide (0 < x9_2) = true := decide_eq_true c45
                                        clear c45
                                        obtain ⟨ji46, hji46⟩ : ∃ j_ : Int, (wrap64 (x9_2 - 1)) = j_ := ⟨_, rfl⟩
                                        replace H : (if 0 ≤ (ji46) then (if (ji46) < (t448.length : Int) then ((meddlerref15_Order.f k2 ((rd_T24 t448 (ji46)).f0) ((rd_T24 t448 (ji46)).f1) ((rd_T24 t448 (ji46)).f2) ((rd_T24 t448 (ji46)).f3) ((rd_T24 t448 (ji46)).f4) ((rd_T24 t448 (ji46)).f5) ((rd_T24 t448 x9_2).f0) ((rd_T24 t448 x9_2).f1) ((rd_T24 t448 x9_2).f2) ((rd_T24 t448 x9_2).f3) ((rd_T24 t448 x9_2).f4) ((rd_T24 t448 x9_2).f5)).bind fun t460 => (if t460 ≥ 0 then (some false) else (meddlerlaw15_ClashOrder.l0 k2 t448 t451 (wrap64 (x9_2 + 1))))) else (none)) else (none)) = some true := by first | (rw [hji46] at H; exact H) | (simp only [hji46] at H ⊢; exact H)
                                        have hji46w : (IntKind.i64.wrap (x9_2 - 1)) = ji46 := (i64_w _).trans hji46
                                        by_cases c47 : 0 ≤ (ji46)
                                        · rw [if_pos c47] at H
                                          have c47b0 : decide (0 ≤ (ji46)) = true := decide_eq_true c47
                                          clear c47
                                          by_cases c48 : (ji46) < (t448.length : Int)
                                          · rw [if_pos c48] at H
                                            have c48b0 : decide ((ji46) < (t448.length : Int)) = true := decide_eq_true c48
                                            clear c48
                                            replace H := Option.bind_eq_some_iff.mp H
                                            obtain ⟨t460, A490, H⟩ := H
                                            replace H : (if t460 ≥ 0 then (some false) else (meddlerlaw15_ClashOrder.l0 k2 t448 t451 (wrap64 (x9_2 + 1)))) = some true := H
                                            have A49 := Aside0.mk A490
                                            clear A490
                                            by_cases c50 : t460 ≥ 0
                                            · rw [if_pos c50] at H
                                              exact absurd H (by simp)
                                            · rw [if_neg c50] at H
                                              have c50b0 : decide (0 ≤ t460) = false := decide_eq_false c50
                                              clear c50
                                              have H' := Aside0.mk H
                                              clear H
                                              try go_wp2
                                              have n0_ := Aside0.mk (Kd.R_drew HO_7.out)
                                              have n1_ := Aside0.mk (Kd.R_drew HO_8.out)
                                              have n2_ := Aside0.mk (below_drew1 HB.out)
                                              clear HO_7
                                              clear HO_8
                                              clear HB
                                              have HO_7 := n0_
                                              have HO_8 := n1_
                                              have HB := n2_
                                              clear n0_ n1_ n2_
                                              have p454 : 0 ≤ (x9_2 : Int) := of_decide_eq_true (by first | (with_reducible assumption) | assumption)
                                              have q454 : x9_2 < (t448.length : Int) := of_decide_eq_true (by first | (with_reducible assumption) | assumption)
                                              obtain ⟨ad454, e454, hx454_0, hx454_1, hx454_2, hx454_3, hx454_4, hx454_5⟩ := at_T24 (Kd.R_reads' HO_7.out).2.2 x9_2 p454 q454
                                              cases e454
                                              replace p454 := eq_true p454
                                              replace q454 := eq_true q454
                                              have p455 : 0 ≤ (x9_2 : Int) := of_decide_eq_true (by first | (with_reducible assumption) | assumption)
                                              have q455 : x9_2 < (t451.length : Int) := of_decide_eq_true (by first | (with_reducible assumption) | assumption)
                                              obtain ⟨ad455, e455, hx455_0, hx455_1, hx455_2, hx455_3, hx455_4, hx455_5⟩ := at_T24 (Kd.R_reads' HO_8.out).2.2 x9_2 p455 q455
                                              cases e455
                                              replace p455 := eq_true p455
                                              replace q455 := eq_true q455
                                              have p456 : 0 ≤ (x9_2 : Int) := of_decide_eq_true (by first | (with_reducible assumption) | assumption)
                                              have q456 : x9_2 < (t448.length : Int) := of_decide_eq_true (by first | (with_reducible assumption) | assumption)
                                              obtain ⟨ad456, e456, hx456_0, hx456_1, hx456_2, hx456_3, hx456_4, hx456_5⟩ := at_T24 (Kd.R_reads' HO_7.out).2.2 x9_2 p456 q456
                                              obtain rfl : ad454 = ad456 := (by injection e456)
                                              replace p456 := eq_true p456
                                              replace q456 := eq_true q456
                                              have p457 : 0 ≤ (x9_2 : Int) := of_decide_eq_true (by first | (with_reducible assumption) | assumption)
                                              have q457 : x9_2 < (t448.length : Int) := of_decide_eq_true (by first | (with_reducible assumption) | assumption)
                                              obtain ⟨ad457, e457, hx457_0, hx457_1, hx457_2, hx457_3, hx457_4, hx457_5⟩ := at_T24 (Kd.R_reads' HO_7.out).2.2 x9_2 p457 q457
                                              obtain rfl : ad454 = ad457 := (by injection e457)
                                              replace p457 := eq_true p457
                                              replace q457 := eq_true q457
                                              have p458 : 0 ≤ ((ji46) : Int) := of_decide_eq_true (by first | (with_reducible assumption) | assumption)
                                              have q458 : (ji46) < (t448.length : Int) := of_decide_eq_true (by first | (with_reducible assumption) | assumption)
                                              obtain ⟨ad458, e458, hx458_0, hx458_1, hx458_2, hx458_3, hx458_4, hx458_5⟩ := at_T24 (Kd.R_reads' HO_7.out).2.2 (ji46) p458 q458
                                              obtain rfl : ad454 = ad458 := (by injection e458)
                                              replace p458 := eq_true p458
                                              replace q458 := eq_true q458
                                              have p459 : 0 ≤ (x9_2 : Int) := of_decide_eq_true (by first | (with_reducible assumption) | assumption)
                                              have q459 : x9_2 < (t448.length : Int) := of_decide_eq_true (by first | (with_reducible assumption) | assumption)
                                              obtain ⟨ad459, e459, hx459_0, hx459_1, hx459_2, hx459_3, hx459_4, hx459_5⟩ := at_T24 (Kd.R_reads' HO_7.out).2.2 x9_2 p459 q459
                                              obtain rfl : ad454 = ad459 := (by injection e459)
                                              replace p459 := eq_true p459
                                              replace q459 := eq_true q459
                                              refine start_ (n := 39) (S := fun w' => w'.cell? (ad454.add ((x9_2).toNat * 6)) = some (.int .i64 ((rd_T24 t448 x9_2).f0)) ∧ w'.cell? ⟨(ad454.add ((x9_2).toNat * 6)).block, (ad454.add ((x9_2).toNat * 6)).off + 1, none⟩ = some (.int .i64 ((rd_T24 t448 x9_2).f1)) ∧ w'.cell? ⟨(ad454.add ((x9_2).toNat * 6)).block, (ad454.add ((x9_2).toNat * 6)).off + 2, none⟩ = some (.int .i64 ((rd_T24 t448 x9_2).f2)) ∧ w'.cell? ⟨(ad454.add ((x9_2).toNat * 6)).block, (ad454.add ((x9_2).toNat * 6)).off + 3, none⟩ = some (.int .i64 ((rd_T24 t448 x9_2).f3)) ∧ w'.cell? ⟨(ad454.add ((x9_2).toNat * 6)).block, (ad454.add ((x9_2).toNat * 6)).off + 4, none⟩ = some (.int .i64 ((rd_T24 t448 x9_2).f4)) ∧ w'.cell? ⟨(ad454.add ((x9_2).toNat * 6)).block, (ad454.add ((x9_2).toNat * 6)).off + 5, none⟩ = some (.int .i64 ((rd_T24 t448 x9_2).f5)) ∧ w'.cell? (ad455.add ((x9_2).toNat * 6)) = some (.int .i64 ((rd_T24 t451 x9_2).f0)) ∧ w'.cell? ⟨(ad455.add ((x9_2).toNat * 6)).block, (ad455.add ((x9_2).toNat * 6)).off + 1, none⟩ = some (.int .i64 ((rd_T24 t451 x9_2).f1)) ∧ w'.cell? ⟨(ad455.add ((x9_2).toNat * 6)).block, (ad455.add ((x9_2).toNat * 6)).off + 2, none⟩ = some (.int .i64 ((rd_T24 t451 x9_2).f2)) ∧ w'.cell? ⟨(ad455.add ((x9_2).toNat * 6)).block, (ad455.add ((x9_2).toNat * 6)).off + 3, none⟩ = some (.int .i64 ((rd_T24 t451 x9_2).f3)) ∧ w'.cell? ⟨(ad455.add ((x9_2).toNat * 6)).block, (ad455.add ((x9_2).toNat * 6)).off + 4, none⟩ = some (.int .i64 ((rd_T24 t451 x9_2).f4)) ∧ w'.cell? ⟨(ad455.add ((x9_2).toNat * 6)).block, (ad455.add ((x9_2).toNat * 6)).off + 5, none⟩ = some (.int .i64 ((rd_T24 t451 x9_2).f5)) ∧ w'.cell? (ad454.add ((x9_2).toNat * 6)) = some (.int .i64 ((rd_T24 t448 x9_2).f0)) ∧ w'.cell? ⟨(ad454.add ((x9_2).toNat * 6)).block, (ad454.add ((x9_2).toNat * 6)).off + 1, none⟩ = some (.int .i64 ((rd_T24 t448 x9_2).f1)) ∧ w'.cell? ⟨(ad454.add ((x9_2).toNat * 6)).block, (ad454.add ((x9_2).toNat * 6)).off + 2, none⟩ = some (.int .i64 ((rd_T24 t448 x9_2).f2)) ∧ w'.cell? ⟨(ad454.add ((x9_2).toNat * 6)).block, (ad454.add ((x9_2).toNat * 6)).off + 3, none⟩ = some (.int .i64 ((rd_T24 t448 x9_2).f3)) ∧ w'.cell? ⟨(ad454.add ((x9_2).toNat * 6)).block, (ad454.add ((x9_2).toNat * 6)).off + 4, none⟩ = some (.int .i64 ((rd_T24 t448 x9_2).f4)) ∧ w'.cell? ⟨(ad454.add ((x9_2).toNat * 6)).block, (ad454.add ((x9_2).toNat * 6)).off + 5, none⟩ = some (.int .i64 ((rd_T24 t448 x9_2).f5)) ∧ w'.cell? (ad454.add ((x9_2).toNat * 6)) = some (.int .i64 ((rd_T24 t448 x9_2).f0)) ∧ w'.cell? ⟨(ad454.add ((x9_2).toNat * 6)).block, (ad454.add ((x9_2).toNat * 6)).off + 1, none⟩ = some (.int .i64 ((rd_T24 t448 x9_2).f1)) ∧ w'.cell? ⟨(ad454.add ((x9_2).toNat * 6)).block, (ad454.add ((x9_2).toNat * 6)).off + 2, none⟩ = some (.int .i64 ((rd_T24 t448 x9_2).f2)) ∧ w'.cell? ⟨(ad454.add ((x9_2).toNat * 6)).block, (ad454.add ((x9_2).toNat * 6)).off + 3, none⟩ = some (.int .i64 ((rd_T24 t448 x9_2).f3)) ∧ w'.cell? ⟨(ad454.add ((x9_2).toNat * 6)).block, (ad454.add ((x9_2).toNat * 6)).off + 4, none⟩ = some (.int .i64 ((rd_T24 t448 x9_2).f4)) ∧ w'.cell? ⟨(ad454.add ((x9_2).toNat * 6)).block, (ad454.add ((x9_2).toNat * 6)).off + 5, none⟩ = some (.int .i64 ((rd_T24 t448 x9_2).f5)) ∧ w'.cell? (ad454.add (((ji46)).toNat * 6)) = some (.int .i64 ((rd_T24 t448 (ji46)).f0)) ∧ w'.cell? ⟨(ad454.add (((ji46)).toNat * 6)).block, (ad454.add (((ji46)).toNat * 6)).off + 1, none⟩ = some (.int .i64 ((rd_T24 t448 (ji46)).f1)) ∧ w'.cell? ⟨(ad454.add (((ji46)).toNat * 6)).block, (ad454.add (((ji46)).toNat * 6)).off + 2, none⟩ = some (.int .i64 ((rd_T24 t448 (ji46)).f2)) ∧ w'.cell? ⟨(ad454.add (((ji46)).toNat * 6)).block, (ad454.add (((ji46)).toNat * 6)).off + 3, none⟩ = some (.int .i64 ((rd_T24 t448 (ji46)).f3)) ∧ w'.cell? ⟨(ad454.add (((ji46)).toNat * 6)).block, (ad454.add (((ji46)).toNat * 6)).off + 4, none⟩ = some (.int .i64 ((rd_T24 t448 (ji46)).f4)) ∧ w'.cell? ⟨(ad454.add (((ji46)).toNat * 6)).block, (ad454.add (((ji46)).toNat * 6)).off + 5, none⟩ = some (.int .i64 ((rd_T24 t448 (ji46)).f5)) ∧ w'.cell? (ad454.add ((x9_2).toNat * 6)) = some (.int .i64 ((rd_T24 t448 x9_2).f0)) ∧ w'.cell? ⟨(ad454.add ((x9_2).toNat * 6)).block, (ad454.add ((x9_2).toNat * 6)).off + 1, none⟩ = some (.int .i64 ((rd_T24 t448 x9_2).f1)) ∧ w'.cell? ⟨(ad454.add ((x9_2).toNat * 6)).block, (ad454.add ((x9_2).toNat * 6)).off + 2, none⟩ = some (.int .i64 ((rd_T24 t448 x9_2).f2)) ∧ w'.cell? ⟨(ad454.add ((x9_2).toNat * 6)).block, (ad454.add ((x9_2).toNat * 6)).off + 3, none⟩ = some (.int .i64 ((rd_T24 t448 x9_2).f3)) ∧ w'.cell? ⟨(ad454.add ((x9_2).toNat * 6)).block, (ad454.add ((x9_2).toNat * 6)).off + 4, none⟩ = some (.int .i64 ((rd_T24 t448 x9_2).f4)) ∧ w'.cell? ⟨(ad454.add ((x9_2).toNat * 6)).block, (ad454.add ((x9_2).toNat * 6)).off + 5, none⟩ = some (.int .i64 ((rd_T24 t448 x9_2).f5))) (ds := []) #[false, false, false, false, false, false, false, false, false, false, false, false, false, false, false, false, false, false, false, false, false, false, false, false, false, false, false, false, false, false, false, false, false, false, false, false, false, false, false] (by kernel_rfl) rfl rfl ⟨hx454_0, hx454_1, hx454_2, hx454_3, hx454_4, hx454_5, hx455_0, hx455_1, hx455_2, hx455_3, hx455_4, hx455_5, hx456_0, hx456_1, hx456_2, hx456_3, hx456_4, hx456_5, hx457_0, hx457_1, hx457_2, hx457_3, hx457_4, hx457_5, hx458_0, hx458_1, hx458_2, hx458_3, hx458_4, hx458_5, hx459_0, hx459_1, hx459_2, hx459_3, hx459_4, hx459_5⟩ (fun hHeld => ?_); refine with_tabW meddlerlaw15_ClashOrder.tab11 meddlerlaw15_ClashOrder.bits11 (fun HT_ HW_ => ?_)
                                              generalize wr.drew = w53 at HO_7 HO_8 HB hx454_0 hx454_1 hx454_2 hx454_3 hx454_4 hx454_5 hx455_0 hx455_1 hx455_2 hx455_3 hx455_4 hx455_5 hx456_0 hx456_1 hx456_2 hx456_3 hx456_4 hx456_5 hx457_0 hx457_1 hx457_2 hx457_3 hx457_4 hx457_5 hx458_0 hx458_1 hx458_2 hx458_3 hx458_4 hx458_5 hx459_0 hx459_1 hx459_2 hx459_3 hx459_4 hx459_5 hHeld ⊢
                                              refine pure_ (i := 0) (N := some 57) (v := ?_) (a' := ?_) #[true, false, false, false, false, false, false, false, false, false, false, false, false, false, false, false, false, false, false, false, false, false, false, false, false, false, false, false, false, false, false, false, false, false, false, false, false, false, false] rfl rfl (any_of HT_.out (by kernel_rfl)) (fun _ _ _ h => h) (Or.inl ⟨by rfl, ?_⟩) ?_ ?_
                                              rotate_left
                                              · intro w'
                                                go_simp
                                                with_reducible rfl
                                              rotate_left
                                              · simp only [Act.put, List.setIfInBounds_toArray, List.set_cons_zero, List.set_cons_succ, i64_w, i32_w]
                                                rfl
                                              refine pure_ (i := 1) (N := some 58) (v := ?_) (a' := ?_) #[true, true, false, false, false, false, false, false, false, false, false, false, false, false, false, false, false, false, false, false, false, false, false, false, false, false, false, false, false, false, false, false, false, false, false, false, false, false, false] rfl rfl (any_of HT_.out (by kernel_rfl)) (fun _ _ _ h => h) (Or.inl ⟨by rfl, ?_⟩) ?_ ?_
                                              rotate_left
                                              · intro w'
                                                go_simp
                                                with_reducible rfl
                                              rotate_left
                                              · simp only [Act.put, List.setIfInBounds_toArray, List.set_cons_zero, List.set_cons_succ, i64_w, i32_w]
                                                rfl
                                              refine pure_ (i := 2) (N := some 59) (v := ?_) (a' := ?_) #[true, true, true, false, false, false, false, false, false, false, false, false, false, false, false, false, false, false, false, false, false, false, false, false, false, false, false, false, false, false, false, false, false, false, false, false, false, false, false] rfl rfl (any_of HT_.out (by kernel_rfl)) (fun _ _ _ h => h) (Or.inl ⟨by rfl, ?_⟩) ?_ ?_
                                              rotate_left
                                              · intro w'
                                                go_simp
                                                with_reducible rfl
                                              rotate_left
                                              · simp only [Act.put, List.setIfInBounds_toArray, List.set_cons_zero, List.set_cons_succ, i64_w, i32_w]
                                                rfl
                                              refine pure_ (i := 4) (N := some 61) (v := ?_) (a' := ?_) #[true, true, true, false, true, false, false, false, false, false, false, false, false, false, false, false, false, false, false, false, false, false, false, false, false, false, false, false, false, false, false, false, false, false, false, false, false, false, false] rfl rfl (any_of HT_.out (by kernel_rfl)) (fun _ _ _ h => h) (Or.inl ⟨by rfl, ?_⟩) ?_ ?_
                                              rotate_left
                                              · intro w'
                                                go_simp
                                                with_reducible rfl
                                              rotate_left
                                              · simp only [Act.put, List.setIfInBounds_toArray, List.set_cons_zero, List.set_cons_succ, i64_w, i32_w]
                                                rfl
                                              refine pure_ (i := 5) (N := some 62) (v := ?_) (a' := ?_) #[true, true, true, false, true, true, false, false, false, false, false, false, false, false, false, false, false, false, false, false, false, false, false, false, false, false, false, false, false, false, false, false, false, false, false, false, false, false, false] rfl rfl (any_of HT_.out (by kernel_rfl)) (fun _ _ _ h => h) (Or.inl ⟨by rfl, ?_⟩) ?_ ?_
                                              rotate_left
                                              · intro w'
                                                go_simp
                                                with_reducible rfl
                                              rotate_left
                                              · simp only [Act.put, List.setIfInBounds_toArray, List.set_cons_zero, List.set_cons_succ, i64_w, i32_w]
                                                rfl
                                              refine pure_ (i := 6) (N := some 63) (v := ?_) (a' := ?_) #[true, true, true, false, true, true, true, false, false, false, false, false, false, false, false, false, false, false, false, false, false, false, false, false, false, false, false, false, false, false, false, false, false, false, false, false, false, false, false] rfl rfl (any_of HT_.out (by kernel_rfl)) (fun _ _ _ h => h) (Or.inl ⟨by rfl, ?_⟩) ?_ ?_
                                              rotate_left
                                              · intro w'
                                                go_simp
                                                with_reducible rfl
                                              rotate_left
                                              · simp only [Act.put, List.setIfInBounds_toArray, List.set_cons_zero, List.set_cons_succ, i64_w, i32_w]
                                                rfl
                                              refine take_ (i := 3) (N := some 60) (v := ?_) (a' := ?_) #[true, true, true, true, true, true, true, false, false, false, false, false, false, false, false, false, false, false, false, false, false, false, false, false, false, false, false, false, false, false, false, false, false, false, false, false, false, false, false] rfl rfl (take_ofW HT_.out HW_.out (by kernel_rfl)) (fun _ _ _ h => h) (Or.inl ⟨by rfl, ?_⟩) hHeld ?_ ?_
                                              rotate_left
                                              · rintro w' ⟨s0, s1, s2, s3, s4, s5, s6, s7, s8, s9, s10, s11, s12, s13, s14, s15, s16, s17, s18, s19, s20, s21, s22, s23, s24, s25, s26, s27, s28, s29, s30, s31, s32, s33, s34, s35⟩
                                                go_simp
                                                with_reducible rfl
                                              rotate_left
                                              · simp only [Act.put, List.setIfInBounds_toArray, List.set_cons_zero, List.set_cons_succ, i64_w, i32_w]
                                                rfl
                                              refine take_ (i := 7) (N := some 64) (v := ?_) (a' := ?_) #[true, true, true, true, true, true, true, true, false, false, false, false, false, false, false, false, false, false, false, false, false, false, false, false, false, false, false, false, false, false, false, false, false, false, false, false, false, false, false] rfl rfl (take_ofW HT_.out HW_.out (by kernel_rfl)) (fun _ _ _ h => h) (Or.inl ⟨by rfl, ?_⟩) hHeld ?_ ?_
                                              rotate_left
                                              · rintro w' ⟨s0, s1, s2, s3, s4, s5, s6, s7, s8, s9, s10, s11, s12, s13, s14, s15, s16, s17, s18, s19, s20, s21, s22, s23, s24, s25, s26, s27, s28, s29, s30, s31, s32, s33, s34, s35⟩
                                                go_simp
                                                with_reducible rfl
                                              rotate_left
                                              · simp only [Act.put, List.setIfInBounds_toArray, List.set_cons_zero, List.set_cons_succ, i64_w, i32_w]
                                                rfl
                                              refine pure_ (i := 8) (N := some 65) (v := ?_) (a' := ?_) #[true, true, true, true, true, true, true, true, true, false, false, false, false, false, false, false, false, false, false, false, false, false, false, false, false, false, false, false, false, false, false, false, false, false, false, false, false, false, false] rfl rfl (any_of HT_.out (by kernel_rfl)) (fun _ _ _ h => h) (Or.inl ⟨by rfl, ?_⟩) ?_ ?_
                                              rotate_left
                                              · intro w'
                                                go_simp
                                                with_reducible rfl
                                              rotate_left
                                              · simp only [Act.put, List.setIfInBounds_toArray, List.set_cons_zero, List.set_cons_succ, i64_w, i32_w]
                                                rfl
                                              refine pure_ (i := 9) (N := some 66) (v := ?_) (a' := ?_) #[true, true, true, true, true, true, true, true, true, true, false, false, false, false, false, false, false, false, false, false, false, false, false, false, false, false, false, false, false, false, false, false, false, false, false, false, false, false, false] rfl rfl (any_of HT_.out (by kernel_rfl)) (fun _ _ _ h => h) (Or.inl ⟨by rfl, ?_⟩) ?_ ?_
                                              rotate_left
                                              · intro w'
                                                go_simp
                                                with_reducible rfl
                                              rotate_left
                                              · simp only [Act.put, List.setIfInBounds_toArray, List.set_cons_zero, List.set_cons_succ, i64_w, i32_w]
                                                rfl
                                              refine pure_ (i := 10) (N := some 67) (v := ?_) (a' := ?_) #[true, true, true, true, true, true, true, true, true, true, true, false, false, false, false, false, false, false, false, false, false, false, false, false, false, false, false, false, false, false, false, false, false, false, false, false, false, false, false] rfl rfl (any_of HT_.out (by kernel_rfl)) (fun _ _ _ h => h) (Or.inl ⟨by rfl, ?_⟩) ?_ ?_
                                              rotate_left
                                              · intro w'
                                                go_simp
                                                with_reducible rfl
                                              rotate_left
                                              · simp only [Act.put, List.setIfInBounds_toArray, List.set_cons_zero, List.set_cons_succ, i64_w, i32_w]
                                                rfl
                                              refine pure_ (i := 11) (N := some 68) (v := ?_) (a' := ?_) #[true, true, true, true, true, true, true, true, true, true, true, true, false, false, false, false, false, false, false, false, false, false, false, false, false, false, false, false, false, false, false, false, false, false, false, false, false, false, false] rfl rfl (any_of HT_.out (by kernel_rfl)) (fun _ _ _ h => h) (Or.inl ⟨by rfl, ?_⟩) ?_ ?_
                                              rotate_left
                                              · intro w'
                                                go_simp
                                                with_reducible rfl
                                              rotate_left
                                              · simp only [Act.put, List.setIfInBounds_toArray, List.set_cons_zero, List.set_cons_succ, i64_w, i32_w]
                                                rfl
                                              refine pure_ (i := 12) (N := some 69) (v := ?_) (a' := ?_) #[true, true, true, true, true, true, true, true, true, true, true, true, true, false, false, false, false, false, false, false, false, false, false, false, false, false, false, false, false, false, false, false, false, false, false, false, false, false, false] rfl rfl (any_of HT_.out (by kernel_rfl)) (fun _ _ _ h => h) (Or.inl ⟨by rfl, ?_⟩) ?_ ?_
                                              rotate_left
                                              · intro w'
                                                go_simp
                                                with_reducible rfl
                                              rotate_left
                                              · simp only [Act.put, List.setIfInBounds_toArray, List.set_cons_zero, List.set_cons_succ, i64_w, i32_w]
                                                rfl
                                              refine pure_ (i := 13) (N := some 70) (v := ?_) (a' := ?_) #[true, true, true, true, true, true, true, true, true, true, true, true, true, true, false, false, false, false, false, false, false, false, false, false, false, false, false, false, false, false, false, false, false, false, false, false, false, false, false] rfl rfl (any_of HT_.out (by kernel_rfl)) (fun _ _ _ h => h) (Or.inl ⟨by rfl, ?_⟩) ?_ ?_
                                              rotate_left
                                              · intro w'
                                                go_simp
                                                with_reducible rfl
                                              rotate_left
                                              · simp only [Act.put, List.setIfInBounds_toArray, List.set_cons_zero, List.set_cons_succ, i64_w, i32_w]
                                                rfl
                                              refine pure_ (i := 15) (N := some 72) (v := ?_) (a' := ?_) #[true, true, true, true, true, true, true, true, true, true, true, true, true, true, false, true, false, false, false, false, false, false, false, false, false, false, false, false, false, false, false, false, false, false, false, false, false, false, false] rfl rfl (any_of HT_.out (by kernel_rfl)) (fun _ _ _ h => h) (Or.inl ⟨by rfl, ?_⟩) ?_ ?_
                                              rotate_left
                                              · intro w'
                                                go_simp
                                                with_reducible rfl
                                              rotate_left
                                              · simp only [Act.put, List.setIfInBounds_toArray, List.set_cons_zero, List.set_cons_succ, i64_w, i32_w]
                                                rfl
                                              refine pure_ (i := 16) (N := some 73) (v := ?_) (a' := ?_) #[true, true, true, true, true, true, true, true, true, true, true, true, true, true, false, true, true, false, false, false, false, false, false, false, false, false, false, false, false, false, false, false, false, false, false, false, false, false, false] rfl rfl (any_of HT_.out (by kernel_rfl)) (fun _ _ _ h => h) (Or.inl ⟨by rfl, ?_⟩) ?_ ?_
                                              rotate_left
                                              · intro w'
                                                go_simp
                                                with_reducible rfl
                                              rotate_left
                                              · simp only [Act.put, List.setIfInBounds_toArray, List.set_cons_zero, List.set_cons_succ, i64_w, i32_w]
                                                rfl
                                              refine pure_ (i := 17) (N := some 74) (v := ?_) (a' := ?_) #[true, true, true, true, true, true, true, true, true, true, true, true, true, true, false, true, true, true, false, false, false, false, false, false, false, false, false, false, false, false, false, false, false, false, false, false, false, false, false] rfl rfl (any_of HT_.out (by kernel_rfl)) (fun _ _ _ h => h) (Or.inl ⟨by rfl, ?_⟩) ?_ ?_
                                              rotate_left
                                              · intro w'
                                                go_simp
                                                with_reducible rfl
                                              rotate_left
                                              · simp only [Act.put, List.setIfInBounds_toArray, List.set_cons_zero, List.set_cons_succ, i64_w, i32_w]
                                                rfl
                                              refine pure_ (i := 18) (N := some 75) (v := ?_) (a' := ?_) #[true, true, true, true, true, true, true, true, true, true, true, true, true, true, false, true, true, true, true, false, false, false, false, false, false, false, false, false, false, false, false, false, false, false, false, false, false, false, false] rfl rfl (any_of HT_.out (by kernel_rfl)) (fun _ _ _ h => h) (Or.inl ⟨by rfl, ?_⟩) ?_ ?_
                                              rotate_left
                                              · intro w'
                                                go_simp
                                                with_reducible rfl
                                              rotate_left
                                              · simp only [Act.put, List.setIfInBounds_toArray, List.set_cons_zero, List.set_cons_succ, i64_w, i32_w]
                                                rfl
                                              refine take_ (i := 14) (N := some 71) (v := ?_) (a' := ?_) #[true, true, true, true, true, true, true, true, true, true, true, true, true, true, true, true, true, true, true, false, false, false, false, false, false, false, false, false, false, false, false, false, false, false, false, false, false, false, false] rfl rfl (take_ofW HT_.out HW_.out (by kernel_rfl)) (fun _ _ _ h => h) (Or.inl ⟨by rfl, ?_⟩) hHeld ?_ ?_
                                              rotate_left
                                              · rintro w' ⟨s0, s1, s2, s3, s4, s5, s6, s7, s8, s9, s10, s11, s12, s13, s14, s15, s16, s17, s18, s19, s20, s21, s22, s23, s24, s25, s26, s27, s28, s29, s30, s31, s32, s33, s34, s35⟩
                                                go_simp
                                                with_reducible rfl
                                              rotate_left
                                              · simp only [Act.put, List.setIfInBounds_toArray, List.set_cons_zero, List.set_cons_succ, i64_w, i32_w]
                                                rfl
                                              refine take_ (i := 19) (N := some 76) (v := ?_) (a' := ?_) #[true, true, true, true, true, true, true, true, true, true, true, true, true, true, true, true, true, true, true, true, false, false, false, false, false, false, false, false, false, false, false, false, false, false, false, false, false, false, false] rfl rfl (take_ofW HT_.out HW_.out (by kernel_rfl)) (fun _ _ _ h => h) (Or.inl ⟨by rfl, ?_⟩) hHeld ?_ ?_
                                              rotate_left
                                              · rintro w' ⟨s0, s1, s2, s3, s4, s5, s6, s7, s8, s9, s10, s11, s12, s13, s14, s15, s16, s17, s18, s19, s20, s21, s22, s23, s24, s25, s26, s27, s28, s29, s30, s31, s32, s33, s34, s35⟩
                                                go_simp
                                                with_reducible rfl
                                              rotate_left
                                              · simp only [Act.put, List.setIfInBounds_toArray, List.set_cons_zero, List.set_cons_succ, i64_w, i32_w]
                                                rfl
                                              refine pure_ (i := 20) (N := some 77) (v := ?_) (a' := ?_) #[true, true, true, true, true, true, true, true, true, true, true, true, true, true, true, true, true, true, true, true, true, false, false, false, false, false, false, false, false, false, false, false, false, false, false, false, false, false, false] rfl rfl (any_of HT_.out (by kernel_rfl)) (fun _ _ _ h => h) (Or.inl ⟨by rfl, ?_⟩) ?_ ?_
                                              rotate_left
                                              · intro w'
                                                go_simp
                                                with_reducible rfl
                                              rotate_left
                                              · simp only [Act.put, List.setIfInBounds_toArray, List.set_cons_zero, List.set_cons_succ, i64_w, i32_w]
                                                rfl
                                              refine pure_ (i := 21) (N := some 78) (v := ?_) (a' := ?_) #[true, true, true, true, true, true, true, true, true, true, true, true, true, true, true, true, true, true, true, true, true, true, false, false, false, false, false, false, false, false, false, false, false, false, false, false, false, false, false] rfl rfl (any_of HT_.out (by kernel_rfl)) (fun _ _ _ h => h) (Or.inl ⟨by rfl, ?_⟩) ?_ ?_
                                              rotate_left
                                              · intro w'
                                                go_simp
                                                with_reducible rfl
                                              rotate_left
                                              · simp only [Act.put, List.setIfInBounds_toArray, List.set_cons_zero, List.set_cons_succ, i64_w, i32_w]
                                                rfl
                                              refine pure_ (i := 22) (N := some 79) (v := ?_) (a' := ?_) #[true, true, true, true, true, true, true, true, true, true, true, true, true, true, true, true, true, true, true, true, true, true, true, false, false, false, false, false, false, false, false, false, false, false, false, false, false, false, false] rfl rfl (any_of HT_.out (by kernel_rfl)) (fun _ _ _ h => h) (Or.inl ⟨by rfl, ?_⟩) ?_ ?_
                                              rotate_left
                                              · intro w'
                                                go_simp
                                                with_reducible rfl
                                              rotate_left
                                              · simp only [Act.put, List.setIfInBounds_toArray, List.set_cons_zero, List.set_cons_succ, i64_w, i32_w]
                                                rfl
                                              refine pure_ (i := 23) (N := some 80) (v := ?_) (a' := ?_) #[true, true, true, true, true, true, true, true, true, true, true, true, true, true, true, true, true, true, true, true, true, true, true, true, false, false, false, false, false, false, false, false, false, false, false, false, false, false, false] rfl rfl (any_of HT_.out (by kernel_rfl)) (fun _ _ _ h => h) (Or.inl ⟨by rfl, ?_⟩) ?_ ?_
                                              rotate_left
                                              · intro w'
                                                go_simp
                                                with_reducible rfl
                                              rotate_left
                                              · simp only [Act.put, List.setIfInBounds_toArray, List.set_cons_zero, List.set_cons_succ, i64_w, i32_w]
                                                rfl
                                              refine pure_ (i := 24) (N := some 81) (v := ?_) (a' := ?_) #[true, true, true, true, true, true, true, true, true, true, true, true, true, true, true, true, true, true, true, true, true, true, true, true, true, false, false, false, false, false, false, false, false, false, false, false, false, false, false] rfl rfl (any_of HT_.out (by kernel_rfl)) (fun _ _ _ h => h) (Or.inl ⟨by rfl, ?_⟩) ?_ ?_
                                              rotate_left
                                              · intro w'
                                                go_simp
                                                with_reducible rfl
                                              rotate_left
                                              · simp only [Act.put, List.setIfInBounds_toArray, List.set_cons_zero, List.set_cons_succ, i64_w, i32_w]
                                                rfl
                                              refine pure_ (i := 25) (N := some 82) (v := ?_) (a' := ?_) #[true, true, true, true, true, true, true, true, true, true, true, true, true, true, true, true, true, true, true, true, true, true, true, true, true, true, false, false, false, false, false, false, false, false, false, false, false, false, false] rfl rfl (any_of HT_.out (by kernel_rfl)) (fun _ _ _ h => h) (Or.inl ⟨by rfl, ?_⟩) ?_ ?_
                                              rotate_left
                                              · intro w'
                                                go_simp
                                                with_reducible rfl
                                              rotate_left
                                              · simp only [Act.put, List.setIfInBounds_toArray, List.set_cons_zero, List.set_cons_succ, i64_w, i32_w]
                                                rfl
                                              refine pure_ (i := 26) (N := some 83) (v := ?_) (a' := ?_) #[true, true, true, true, true, true, true, true, true, true, true, true, true, true, true, true, true, true, true, true, true, true, true, true, true, true, true, false, false, false, false, false, false, false, false, false, false, false, false] rfl rfl (any_of HT_.out (by kernel_rfl)) (fun _ _ _ h => h) (Or.inl ⟨by rfl, ?_⟩) ?_ ?_
                                              rotate_left
                                              · intro w'
                                                go_simp
                                                with_reducible rfl
                                              rotate_left
                                              · simp only [Act.put, List.setIfInBounds_toArray, List.set_cons_zero, List.set_cons_succ, i64_w, i32_w]
                                                rfl
                                              refine pure_ (i := 27) (N := some 84) (v := ?_) (a' := ?_) #[true, true, true, true, true, true, true, true, true, true, true, true, true, true, true, true, true, true, true, true, true, true, true, true, true, true, true, true, false, false, false, false, false, false, false, false, false, false, false] rfl rfl (any_of HT_.out (by kernel_rfl)) (fun _ _ _ h => h) (Or.inl ⟨by rfl, ?_⟩) ?_ ?_
                                              rotate_left
                                              · intro w'
                                                go_simp
                                                with_reducible rfl
                                              rotate_left
                                              · simp only [Act.put, List.setIfInBounds_toArray, List.set_cons_zero, List.set_cons_succ, i64_w, i32_w]
                                                rfl
                                              refine pure_ (i := 28) (N := some 85) (v := ?_) (a' := ?_) #[true, true, true, true, true, true, true, true, true, true, true, true, true, true, true, true, true, true, true, true, true, true, true, true, true, true, true, true, true, false, false, false, false, false, false, false, false, false, false] rfl rfl (any_of HT_.out (by kernel_rfl)) (fun _ _ _ h => h) (Or.inl ⟨by rfl, ?_⟩) ?_ ?_
                                              rotate_left
                                              · intro w'
                                                go_simp
                                                with_reducible rfl
                                              rotate_left
                                              · simp only [Act.put, List.setIfInBounds_toArray, List.set_cons_zero, List.set_cons_succ, i64_w, i32_w]
                                                rfl
                                              refine pure_ (i := 29) (N := some 86) (v := ?_) (a' := ?_) #[true, true, true, true, true, true, true, true, true, true, true, true, true, true, true, true, true, true, true, true, true, true, true, true, true, true, true, true, true, true, false, false, false, false, false, false, false, false, false] rfl rfl (any_of HT_.out (by kernel_rfl)) (fun _ _ _ h => h) (Or.inl ⟨by rfl, ?_⟩) ?_ ?_
                                              rotate_left
                                              · intro w'
                                                go_simp
                                                with_reducible rfl
                                              rotate_left
                                              · simp only [Act.put, List.setIfInBounds_toArray, List.set_cons_zero, List.set_cons_succ, i64_w, i32_w]
                                                rfl
                                              refine pure_ (i := 31) (N := some 88) (v := ?_) (a' := ?_) #[true, true, true, true, true, true, true, true, true, true, true, true, true, true, true, true, true, true, true, true, true, true, true, true, true, true, true, true, true, true, false, true, false, false, false, false, false, false, false] rfl rfl (any_of HT_.out (by kernel_rfl)) (fun _ _ _ h => h) (Or.inl ⟨by rfl, ?_⟩) ?_ ?_
                                              rotate_left
                                              · intro w'
                                                go_simp
                                                with_reducible rfl
                                              rotate_left
                                              · simp only [Act.put, List.setIfInBounds_toArray, List.set_cons_zero, List.set_cons_succ, i64_w, i32_w]
                                                rfl
                                              refine pure_ (i := 32) (N := some 89) (v := ?_) (a' := ?_) #[true, true, true, true, true, true, true, true, true, true, true, true, true, true, true, true, true, true, true, true, true, true, true, true, true, true, true, true, true, true, false, true, true, false, false, false, false, false, false] rfl rfl (any_of HT_.out (by kernel_rfl)) (fun _ _ _ h => h) (Or.inl ⟨by rfl, ?_⟩) ?_ ?_
                                              rotate_left
                                              · intro w'
                                                go_simp
                                                with_reducible rfl
                                              rotate_left
                                              · simp only [Act.put, List.setIfInBounds_toArray, List.set_cons_zero, List.set_cons_succ, i64_w, i32_w]
                                                rfl
                                              refine pure_ (i := 33) (N := some 90) (v := ?_) (a' := ?_) #[true, true, true, true, true, true, true, true, true, true, true, true, true, true, true, true, true, true, true, true, true, true, true, true, true, true, true, true, true, true, false, true, true, true, false, false, false, false, false] rfl rfl (any_of HT_.out (by kernel_rfl)) (fun _ _ _ h => h) (Or.inl ⟨by rfl, ?_⟩) ?_ ?_
                                              rotate_left
                                              · intro w'
                                                go_simp
                                                with_reducible rfl
                                              rotate_left
                                              · simp only [Act.put, List.setIfInBounds_toArray, List.set_cons_zero, List.set_cons_succ, i64_w, i32_w]
                                                rfl
                                              refine take_ (i := 30) (N := some 87) (v := ?_) (a' := ?_) #[true, true, true, true, true, true, true, true, true, true, true, true, true, true, true, true, true, true, true, true, true, true, true, true, true, true, true, true, true, true, true, true, true, true, false, false, false, false, false] rfl rfl (take_ofW HT_.out HW_.out (by kernel_rfl)) (fun _ _ _ h => h) (Or.inl ⟨by rfl, ?_⟩) hHeld ?_ ?_
                                              rotate_left
                                              · rintro w' ⟨s0, s1, s2, s3, s4, s5, s6, s7, s8, s9, s10, s11, s12, s13, s14, s15, s16, s17, s18, s19, s20, s21, s22, s23, s24, s25, s26, s27, s28, s29, s30, s31, s32, s33, s34, s35⟩
                                                go_simp
                                                with_reducible rfl
                                              rotate_left
                                              · simp only [Act.put, List.setIfInBounds_toArray, List.set_cons_zero, List.set_cons_succ, i64_w, i32_w]
                                                rfl
                                              refine take_ (i := 34) (N := some 91) (v := ?_) (a' := ?_) #[true, true, true, true, true, true, true, true, true, true, true, true, true, true, true, true, true, true, true, true, true, true, true, true, true, true, true, true, true, true, true, true, true, true, true, false, false, false, false] rfl rfl (take_ofW HT_.out HW_.out (by kernel_rfl)) (fun _ _ _ h => h) (Or.inl ⟨by rfl, ?_⟩) hHeld ?_ ?_
                                              rotate_left
                                              · rintro w' ⟨s0, s1, s2, s3, s4, s5, s6, s7, s8, s9, s10, s11, s12, s13, s14, s15, s16, s17, s18, s19, s20, s21, s22, s23, s24, s25, s26, s27, s28, s29, s30, s31, s32, s33, s34, s35⟩
                                                go_simp
                                                with_reducible rfl
                                              rotate_left
                                              · simp only [Act.put, List.setIfInBounds_toArray, List.set_cons_zero, List.set_cons_succ, i64_w, i32_w]
                                                rfl
                                              refine one_ (i := 35) (N := some 92) #[true, true, true, true, true, true, true, true, true, true, true, true, true, true, true, true, true, true, true, true, true, true, true, true, true, true, true, true, true, true, true, true, true, true, true, true, false, false, false] rfl rfl (one_of HT_.out (by kernel_rfl)) (by decide) (fun K hK => ?_)
                                              refine goes_ Try.func16 (by kernel_rfl) rfl #[.agg #[.int .i64 ((rd_T24 t448 (ji46)).f0), .int .i64 ((rd_T24 t448 (ji46)).f1), .int .i64 ((rd_T24 t448 (ji46)).f2), .int .i64 ((rd_T24 t448 (ji46)).f3), .int .i64 ((rd_T24 t448 (ji46)).f4), .int .i64 ((rd_T24 t448 (ji46)).f5)], .agg #[.int .i64 ((rd_T24 t448 x9_2).f0), .int .i64 ((rd_T24 t448 x9_2).f1), .int .i64 ((rd_T24 t448 x9_2).f2), .int .i64 ((rd_T24 t448 x9_2).f3), .int .i64 ((rd_T24 t448 x9_2).f4), .int .i64 ((rd_T24 t448 x9_2).f5)]] (by rfl) rfl rfl (by (try simp only [List.map_toArray, List.map_cons, List.map_nil]); first | done | (simp only [hji46]; rfl) | rfl | (simp only [List.length_drop, List.length_take]; rfl)) ?_
                                              with_reducible refine (meddlerref15_Order.calls k2 ((rd_T24 t448 (ji46)).f0) ((rd_T24 t448 (ji46)).f1) ((rd_T24 t448 (ji46)).f2) ((rd_T24 t448 (ji46)).f3) ((rd_T24 t448 (ji46)).f4) ((rd_T24 t448 (ji46)).f5) ((rd_T24 t448 x9_2).f0) ((rd_T24 t448 x9_2).f1) ((rd_T24 t448 x9_2).f2) ((rd_T24 t448 x9_2).f3) ((rd_T24 t448 x9_2).f4) ((rd_T24 t448 x9_2).f5) t460 _ A49.out).mono ?_
                                              rintro e w54 ⟨rfl, hb⟩
                                              have HS0_ := (hb.cell (World.block_lt_of_cell? _ _ (hHeld.1))).trans (hHeld.1)
                                              have HS1_ := (hb.cell (World.block_lt_of_cell? _ _ (hHeld.2.1))).trans (hHeld.2.1)
                                              have HS2_ := (hb.cell (World.block_lt_of_cell? _ _ (hHeld.2.2.1))).trans (hHeld.2.2.1)
                                              have HS3_ := (hb.cell (World.block_lt_of_cell? _ _ (hHeld.2.2.2.1))).trans (hHeld.2.2.2.1)
                                              have HS4_ := (hb.cell (World.block_lt_of_cell? _ _ (hHeld.2.2.2.2.1))).trans (hHeld.2.2.2.2.1)
                                              have HS5_ := (hb.cell (World.block_lt_of_cell? _ _ (hHeld.2.2.2.2.2.1))).trans (hHeld.2.2.2.2.2.1)
                                              have HS6_ := (hb.cell (World.block_lt_of_cell? _ _ (hHeld.2.2.2.2.2.2.1))).trans (hHeld.2.2.2.2.2.2.1)
                                              have HS7_ := (hb.cell (World.block_lt_of_cell? _ _ (hHeld.2.2.2.2.2.2.2.1))).trans (hHeld.2.2.2.2.2.2.2.1)
                                              have HS8_ := (hb.cell (World.block_lt_of_cell? _ _ (hHeld.2.2.2.2.2.2.2.2.1))).trans (hHeld.2.2.2.2.2.2.2.2.1)
                                              have HS9_ := (hb.cell (World.block_lt_of_cell? _ _ (hHeld.2.2.2.2.2.2.2.2.2.1))).trans (hHeld.2.2.2.2.2.2.2.2.2.1)
                                              have HS10_ := (hb.cell (World.block_lt_of_cell? _ _ (hHeld.2.2.2.2.2.2.2.2.2.2.1))).trans (hHeld.2.2.2.2.2.2.2.2.2.2.1)
                                              have HS11_ := (hb.cell (World.block_lt_of_cell? _ _ (hHeld.2.2.2.2.2.2.2.2.2.2.2.1))).trans (hHeld.2.2.2.2.2.2.2.2.2.2.2.1)
                                              have HS12_ := (hb.cell (World.block_lt_of_cell? _ _ (hHeld.2.2.2.2.2.2.2.2.2.2.2.2.1))).trans (hHeld.2.2.2.2.2.2.2.2.2.2.2.2.1)
                                              have HS13_ := (hb.cell (World.block_lt_of_cell? _ _ (hHeld.2.2.2.2.2.2.2.2.2.2.2.2.2.1))).trans (hHeld.2.2.2.2.2.2.2.2.2.2.2.2.2.1)
                                              have HS14_ := (hb.cell (World.block_lt_of_cell? _ _ (hHeld.2.2.2.2.2.2.2.2.2.2.2.2.2.2.1))).trans (hHeld.2.2.2.2.2.2.2.2.2.2.2.2.2.2.1)
                                              have HS15_ := (hb.cell (World.block_lt_of_cell? _ _ (hHeld.2.2.2.2.2.2.2.2.2.2.2.2.2.2.2.1))).trans (hHeld.2.2.2.2.2.2.2.2.2.2.2.2.2.2.2.1)
                                              have HS16_ := (hb.cell (World.block_lt_of_cell? _ _ (hHeld.2.2.2.2.2.2.2.2.2.2.2.2.2.2.2.2.1))).trans (hHeld.2.2.2.2.2.2.2.2.2.2.2.2.2.2.2.2.1)
                                              have HS17_ := (hb.cell (World.block_lt_of_cell? _ _ (hHeld.2.2.2.2.2.2.2.2.2.2.2.2.2.2.2.2.2.1))).trans (hHeld.2.2.2.2.2.2.2.2.2.2.2.2.2.2.2.2.2.1)
                                              have HS18_ := (hb.cell (World.block_lt_of_cell? _ _ (hHeld.2.2.2.2.2.2.2.2.2.2.2.2.2.2.2.2.2.2.1))).trans (hHeld.2.2.2.2.2.2.2.2.2.2.2.2.2.2.2.2.2.2.1)
                                              have HS19_ := (hb.cell (World.block_lt_of_cell? _ _ (hHeld.2.2.2.2.2.2.2.2.2.2.2.2.2.2.2.2.2.2.2.1))).trans (hHeld.2.2.2.2.2.2.2.2.2.2.2.2.2.2.2.2.2.2.2.1)
                                              have HS20_ := (hb.cell (World.block_lt_of_cell? _ _ (hHeld.2.2.2.2.2.2.2.2.2.2.2.2.2.2.2.2.2.2.2.2.1))).trans (hHeld.2.2.2.2.2.2.2.2.2.2.2.2.2.2.2.2.2.2.2.2.1)
                                              have HS21_ := (hb.cell (World.block_lt_of_cell? _ _ (hHeld.2.2.2.2.2.2.2.2.2.2.2.2.2.2.2.2.2.2.2.2.2.1))).trans (hHeld.2.2.2.2.2.2.2.2.2.2.2.2.2.2.2.2.2.2.2.2.2.1)
                                              have HS22_ := (hb.cell (World.block_lt_of_cell? _ _ (hHeld.2.2.2.2.2.2.2.2.2.2.2.2.2.2.2.2.2.2.2.2.2.2.1))).trans (hHeld.2.2.2.2.2.2.2.2.2.2.2.2.2.2.2.2.2.2.2.2.2.2.1)
                                              have HS23_ := (hb.cell (World.block_lt_of_cell? _ _ (hHeld.2.2.2.2.2.2.2.2.2.2.2.2.2.2.2.2.2.2.2.2.2.2.2.1))).trans (hHeld.2.2.2.2.2.2.2.2.2.2.2.2.2.2.2.2.2.2.2.2.2.2.2.1)
                                              have HS24_ := (hb.cell (World.block_lt_of_cell? _ _ (hHeld.2.2.2.2.2.2.2.2.2.2.2.2.2.2.2.2.2.2.2.2.2.2.2.2.1))).trans (hHeld.2.2.2.2.2.2.2.2.2.2.2.2.2.2.2.2.2.2.2.2.2.2.2.2.1)
                                              have HS25_ := (hb.cell (World.block_lt_of_cell? _ _ (hHeld.2.2.2.2.2.2.2.2.2.2.2.2.2.2.2.2.2.2.2.2.2.2.2.2.2.1))).trans (hHeld.2.2.2.2.2.2.2.2.2.2.2.2.2.2.2.2.2.2.2.2.2.2.2.2.2.1)
                                              have HS26_ := (hb.cell (World.block_lt_of_cell? _ _ (hHeld.2.2.2.2.2.2.2.2.2.2.2.2.2.2.2.2.2.2.2.2.2.2.2.2.2.2.1))).trans (hHeld.2.2.2.2.2.2.2.2.2.2.2.2.2.2.2.2.2.2.2.2.2.2.2.2.2.2.1)
                                              have HS27_ := (hb.cell (World.block_lt_of_cell? _ _ (hHeld.2.2.2.2.2.2.2.2.2.2.2.2.2.2.2.2.2.2.2.2.2.2.2.2.2.2.2.1))).trans (hHeld.2.2.2.2.2.2.2.2.2.2.2.2.2.2.2.2.2.2.2.2.2.2.2.2.2.2.2.1)
                                              have HS28_ := (hb.cell (World.block_lt_of_cell? _ _ (hHeld.2.2.2.2.2.2.2.2.2.2.2.2.2.2.2.2.2.2.2.2.2.2.2.2.2.2.2.2.1))).trans (hHeld.2.2.2.2.2.2.2.2.2.2.2.2.2.2.2.2.2.2.2.2.2.2.2.2.2.2.2.2.1)
                                              have HS29_ := (hb.cell (World.block_lt_of_cell? _ _ (hHeld.2.2.2.2.2.2.2.2.2.2.2.2.2.2.2.2.2.2.2.2.2.2.2.2.2.2.2.2.2.1))).trans (hHeld.2.2.2.2.2.2.2.2.2.2.2.2.2.2.2.2.2.2.2.2.2.2.2.2.2.2.2.2.2.1)
                                              have HS30_ := (hb.cell (World.block_lt_of_cell? _ _ (hHeld.2.2.2.2.2.2.2.2.2.2.2.2.2.2.2.2.2.2.2.2.2.2.2.2.2.2.2.2.2.2.1))).trans (hHeld.2.2.2.2.2.2.2.2.2.2.2.2.2.2.2.2.2.2.2.2.2.2.2.2.2.2.2.2.2.2.1)
                                              have HS31_ := (hb.cell (World.block_lt_of_cell? _ _ (hHeld.2.2.2.2.2.2.2.2.2.2.2.2.2.2.2.2.2.2.2.2.2.2.2.2.2.2.2.2.2.2.2.1))).trans (hHeld.2.2.2.2.2.2.2.2.2.2.2.2.2.2.2.2.2.2.2.2.2.2.2.2.2.2.2.2.2.2.2.1)
                                              have HS32_ := (hb.cell (World.block_lt_of_cell? _ _ (hHeld.2.2.2.2.2.2.2.2.2.2.2.2.2.2.2.2.2.2.2.2.2.2.2.2.2.2.2.2.2.2.2.2.1))).trans (hHeld.2.2.2.2.2.2.2.2.2.2.2.2.2.2.2.2.2.2.2.2.2.2.2.2.2.2.2.2.2.2.2.2.1)
                                              have HS33_ := (hb.cell (World.block_lt_of_cell? _ _ (hHeld.2.2.2.2.2.2.2.2.2.2.2.2.2.2.2.2.2.2.2.2.2.2.2.2.2.2.2.2.2.2.2.2.2.1))).trans (hHeld.2.2.2.2.2.2.2.2.2.2.2.2.2.2.2.2.2.2.2.2.2.2.2.2.2.2.2.2.2.2.2.2.2.1)
                                              have HS34_ := (hb.cell (World.block_lt_of_cell? _ _ (hHeld.2.2.2.2.2.2.2.2.2.2.2.2.2.2.2.2.2.2.2.2.2.2.2.2.2.2.2.2.2.2.2.2.2.2.1))).trans (hHeld.2.2.2.2.2.2.2.2.2.2.2.2.2.2.2.2.2.2.2.2.2.2.2.2.2.2.2.2.2.2.2.2.2.2.1)
                                              have HS35_ := (hb.cell (World.block_lt_of_cell? _ _ (hHeld.2.2.2.2.2.2.2.2.2.2.2.2.2.2.2.2.2.2.2.2.2.2.2.2.2.2.2.2.2.2.2.2.2.2.2))).trans (hHeld.2.2.2.2.2.2.2.2.2.2.2.2.2.2.2.2.2.2.2.2.2.2.2.2.2.2.2.2.2.2.2.2.2.2.2)
                                              refine ⟨_, rfl, ?_⟩
                                              have n0_ := Aside0.mk (Kd.R_below (by (with_reducible repeat (first | apply Kd.R_alloc | apply Kd.R_drewN | apply Kd.R_drew)); exact HO_7.out) hb)
                                              have n1_ := Aside0.mk (Kd.R_below (by (with_reducible repeat (first | apply Kd.R_alloc | apply Kd.R_drewN | apply Kd.R_drew)); exact HO_8.out) hb)
                                              have n2_ := Aside0.mk (below_step (by repeat (first | (with_reducible first | exact HB.out | apply below_alloc | apply pw_below_drewN | apply below_drew1) | exact HB.out)) hb)
                                              clear HO_7
                                              clear HO_8
                                              clear HB
                                              have HO_7 := n0_
                                              have HO_8 := n1_
                                              have HB := n2_
                                              clear n0_ n1_ n2_
                                              (try clear hb)
                                              (try clear hb2)
                                              (try clear hk)
                                              (try clear hi)
                                              refine hK.out _ _ ⟨HS0_, HS1_, HS2_, HS3_, HS4_, HS5_, HS6_, HS7_, HS8_, HS9_, HS10_, HS11_, HS12_, HS13_, HS14_, HS15_, HS16_, HS17_, HS18_, HS19_, HS20_, HS21_, HS22_, HS23_, HS24_, HS25_, HS26_, HS27_, HS28_, HS29_, HS30_, HS31_, HS32_, HS33_, HS34_, HS35_⟩ (fun hHeld => ?_)
                                              clear hK K
                                              refine norm_ (a' := ?_) ?_ ?_
                                              rotate_left
                                              · show Act.put _ (some 92) _ = _
                                                simp only [Act.put, List.setIfInBounds_toArray, List.set_cons_zero, List.set_cons_succ, i64_w, i32_w]
                                                rfl
                                              refine pure_ (i := 36) (N := some 93) (v := ?_) (a' := ?_) #[true, true, true, true, true, true, true, true, true, true, true, true, true, true, true, true, true, true, true, true, true, true, true, true, true, true, true, true, true, true, true, true, true, true, true, true, true, false, false] rfl rfl (any_of HT_.out (by kernel_rfl)) (fun _ _ _ h => h) (Or.inl ⟨by rfl, ?_⟩) ?_ ?_
                                              rotate_left
                                              · intro w'
                                                go_simp
                                                with_reducible rfl
                                              rotate_left
                                              · simp only [Act.put, List.setIfInBounds_toArray, List.set_cons_zero, List.set_cons_succ, i64_w, i32_w]
                                                rfl
                                              refine pure_ (i := 37) (N := some 94) (v := ?_) (a' := ?_) #[true, true, true, true, true, true, true, true, true, true, true, true, true, true, true, true, true, true, true, true, true, true, true, true, true, true, true, true, true, true, true, true, true, true, true, true, true, true, false] rfl rfl (any_of HT_.out (by kernel_rfl)) (fun _ _ _ h => h) (Or.inl ⟨by rfl, ?_⟩) ?_ ?_
                                              rotate_left
                                              · intro w'
                                                go_simp
                                                with_reducible rfl
                                              rotate_left
                                              · simp only [Act.put, List.setIfInBounds_toArray, List.set_cons_zero, List.set_cons_succ, i64_w, i32_w]
                                                rfl
                                              refine pure_ (i := 38) (N := some 95) (v := ?_) (a' := ?_) #[true, true, true, true, true, true, true, true, true, true, true, true, true, true, true, true, true, true, true, true, true, true, true, true, true, true, true, true, true, true, true, true, true, true, true, true, true, true, true] rfl rfl (any_of HT_.out (by kernel_rfl)) (fun _ _ _ h => h) (Or.inl ⟨by rfl, ?_⟩) ?_ ?_
                                              rotate_left
                                              · intro w'
                                                go_simp
                                                with_reducible rfl
                                              rotate_left
                                              · simp only [Act.put, List.setIfInBounds_toArray, List.set_cons_zero, List.set_cons_succ, i64_w, i32_w]
                                                rfl
                                              refine done_ (done_of HT_.out (by kernel_rfl)) ?_
                                              try go_wp2
                                              go_roundg k2
                                              case measure => have := HJ2.out; have := HK2.out; omega
                                              case rel => exact ⟨(wrap64 (x9_2 + 1)), (by first | rfl | (simp; done) | (simp [*]; done)), H', ⟨by have := HJ2.out; have := HK2.out; omega⟩, ⟨by (with_reducible repeat (first | apply Kd.R_alloc | apply Kd.R_drewN | apply Kd.R_drew)); exact HO_7.out⟩, ⟨by (with_reducible repeat (first | apply Kd.R_alloc | apply Kd.R_drewN | apply Kd.R_drew)); exact HO_8.out⟩, ⟨by repeat (first | (with_reducible first | exact HB.out | apply below_alloc | apply pw_below_drewN | apply below_drew1) | exact HB.out)⟩⟩
                                          · rw [if_neg c48] at H
                                            exact absurd H (by simp)
                                        · rw [if_neg c47] at H
                                          exact absurd H (by simp)
                                      · rw [if_neg c45] at H
                                        have c45b0 : decide (0 < x9_2) = false := decide_eq_false c45
                                        clear c45
                                        have H' := Aside0.mk H
                                        clear H
                                        try go_wp2
                                        have n0_ := Aside0.mk (Kd.R_drew HO_7.out)
                                        have n1_ := Aside0.mk (Kd.R_drew HO_8.out)
                                        have n2_ := Aside0.mk (below_drew1 HB.out)
                                        clear HO_7
                                        clear HO_8
                                        clear HB
                                        have HO_7 := n0_
                                        have HO_8 := n1_
                                        have HB := n2_
                                        clear n0_ n1_ n2_
                                        have p454 : 0 ≤ (x9_2 : Int) := of_decide_eq_true (by first | (with_reducible assumption) | assumption)
                                        have q454 : x9_2 < (t448.length : Int) := of_decide_eq_true (by first | (with_reducible assumption) | assumption)
                                        obtain ⟨ad454, e454, hx454_0, hx454_1, hx454_2, hx454_3, hx454_4, hx454_5⟩ := at_T24 (Kd.R_reads' HO_7.out).2.2 x9_2 p454 q454
                                        cases e454
                                        replace p454 := eq_true p454
                                        replace q454 := eq_true q454
                                        have p455 : 0 ≤ (x9_2 : Int) := of_decide_eq_true (by first | (with_reducible assumption) | assumption)
                                        have q455 : x9_2 < (t451.length : Int) := of_decide_eq_true (by first | (with_reducible assumption) | assumption)
                                        obtain ⟨ad455, e455, hx455_0, hx455_1, hx455_2, hx455_3, hx455_4, hx455_5⟩ := at_T24 (Kd.R_reads' HO_8.out).2.2 x9_2 p455 q455
                                        cases e455
                                        replace p455 := eq_true p455
                                        replace q455 := eq_true q455
                                        have p456 : 0 ≤ (x9_2 : Int) := of_decide_eq_true (by first | (with_reducible assumption) | assumption)
                                        have q456 : x9_2 < (t448.length : Int) := of_decide_eq_true (by first | (with_reducible assumption) | assumption)
                                        obtain ⟨ad456, e456, hx456_0, hx456_1, hx456_2, hx456_3, hx456_4, hx456_5⟩ := at_T24 (Kd.R_reads' HO_7.out).2.2 x9_2 p456 q456
                                        obtain rfl : ad454 = ad456 := (by injection e456)
                                        replace p456 := eq_true p456
                                        replace q456 := eq_true q456
                                        have p457 : 0 ≤ (x9_2 : Int) := of_decide_eq_true (by first | (with_reducible assumption) | assumption)
                                        have q457 : x9_2 < (t448.length : Int) := of_decide_eq_true (by first | (with_reducible assumption) | assumption)
                                        obtain ⟨ad457, e457, hx457_0, hx457_1, hx457_2, hx457_3, hx457_4, hx457_5⟩ := at_T24 (Kd.R_reads' HO_7.out).2.2 x9_2 p457 q457
                                        obtain rfl : ad454 = ad457 := (by injection e457)
                                        replace p457 := eq_true p457
                                        replace q457 := eq_true q457
                                        refine start_ (n := 39) (S := fun w' => w'.cell? (ad454.add ((x9_2).toNat * 6)) = some (.int .i64 ((rd_T24 t448 x9_2).f0)) ∧ w'.cell? ⟨(ad454.add ((x9_2).toNat * 6)).block, (ad454.add ((x9_2).toNat * 6)).off + 1, none⟩ = some (.int .i64 ((rd_T24 t448 x9_2).f1)) ∧ w'.cell? ⟨(ad454.add ((x9_2).toNat * 6)).block, (ad454.add ((x9_2).toNat * 6)).off + 2, none⟩ = some (.int .i64 ((rd_T24 t448 x9_2).f2)) ∧ w'.cell? ⟨(ad454.add ((x9_2).toNat * 6)).block, (ad454.add ((x9_2).toNat * 6)).off + 3, none⟩ = some (.int .i64 ((rd_T24 t448 x9_2).f3)) ∧ w'.cell? ⟨(ad454.add ((x9_2).toNat * 6)).block, (ad454.add ((x9_2).toNat * 6)).off + 4, none⟩ = some (.int .i64 ((rd_T24 t448 x9_2).f4)) ∧ w'.cell? ⟨(ad454.add ((x9_2).toNat * 6)).block, (ad454.add ((x9_2).toNat * 6)).off + 5, none⟩ = some (.int .i64 ((rd_T24 t448 x9_2).f5)) ∧ w'.cell? (ad455.add ((x9_2).toNat * 6)) = some (.int .i64 ((rd_T24 t451 x9_2).f0)) ∧ w'.cell? ⟨(ad455.add ((x9_2).toNat * 6)).block, (ad455.add ((x9_2).toNat * 6)).off + 1, none⟩ = some (.int .i64 ((rd_T24 t451 x9_2).f1)) ∧ w'.cell? ⟨(ad455.add ((x9_2).toNat * 6)).block, (ad455.add ((x9_2).toNat * 6)).off + 2, none⟩ = some (.int .i64 ((rd_T24 t451 x9_2).f2)) ∧ w'.cell? ⟨(ad455.add ((x9_2).toNat * 6)).block, (ad455.add ((x9_2).toNat * 6)).off + 3, none⟩ = some (.int .i64 ((rd_T24 t451 x9_2).f3)) ∧ w'.cell? ⟨(ad455.add ((x9_2).toNat * 6)).block, (ad455.add ((x9_2).toNat * 6)).off + 4, none⟩ = some (.int .i64 ((rd_T24 t451 x9_2).f4)) ∧ w'.cell? ⟨(ad455.add ((x9_2).toNat * 6)).block, (ad455.add ((x9_2).toNat * 6)).off + 5, none⟩ = some (.int .i64 ((rd_T24 t451 x9_2).f5)) ∧ w'.cell? (ad454.add ((x9_2).toNat * 6)) = some (.int .i64 ((rd_T24 t448 x9_2).f0)) ∧ w'.cell? ⟨(ad454.add ((x9_2).toNat * 6)).block, (ad454.add ((x9_2).toNat * 6)).off + 1, none⟩ = some (.int .i64 ((rd_T24 t448 x9_2).f1)) ∧ w'.cell? ⟨(ad454.add ((x9_2).toNat * 6)).block, (ad454.add ((x9_2).toNat * 6)).off + 2, none⟩ = some (.int .i64 ((rd_T24 t448 x9_2).f2)) ∧ w'.cell? ⟨(ad454.add ((x9_2).toNat * 6)).block, (ad454.add ((x9_2).toNat * 6)).off + 3, none⟩ = some (.int .i64 ((rd_T24 t448 x9_2).f3)) ∧ w'.cell? ⟨(ad454.add ((x9_2).toNat * 6)).block, (ad454.add ((x9_2).toNat * 6)).off + 4, none⟩ = some (.int .i64 ((rd_T24 t448 x9_2).f4)) ∧ w'.cell? ⟨(ad454.add ((x9_2).toNat * 6)).block, (ad454.add ((x9_2).toNat * 6)).off + 5, none⟩ = some (.int .i64 ((rd_T24 t448 x9_2).f5)) ∧ w'.cell? (ad454.add ((x9_2).toNat * 6)) = some (.int .i64 ((rd_T24 t448 x9_2).f0)) ∧ w'.cell? ⟨(ad454.add ((x9_2).toNat * 6)).block, (ad454.add ((x9_2).toNat * 6)).off + 1, none⟩ = some (.int .i64 ((rd_T24 t448 x9_2).f1)) ∧ w'.cell? ⟨(ad454.add ((x9_2).toNat * 6)).block, (ad454.add ((x9_2).toNat * 6)).off + 2, none⟩ = some (.int .i64 ((rd_T24 t448 x9_2).f2)) ∧ w'.cell? ⟨(ad454.add ((x9_2).toNat * 6)).block, (ad454.add ((x9_2).toNat * 6)).off + 3, none⟩ = some (.int .i64 ((rd_T24 t448 x9_2).f3)) ∧ w'.cell? ⟨(ad454.add ((x9_2).toNat * 6)).block, (ad454.add ((x9_2).toNat * 6)).off + 4, none⟩ = some (.int .i64 ((rd_T24 t448 x9_2).f4)) ∧ w'.cell? ⟨(ad454.add ((x9_2).toNat * 6)).block, (ad454.add ((x9_2).toNat * 6)).off + 5, none⟩ = some (.int .i64 ((rd_T24 t448 x9_2).f5))) (ds := []) #[false, false, false, false, false, false, false, false, false, false, false, false, false, false, false, false, false, false, false, false, false, false, false, false, false, false, false, false, false, false, false, false, false, false, false, false, false, false, false] (by kernel_rfl) rfl rfl ⟨hx454_0, hx454_1, hx454_2, hx454_3, hx454_4, hx454_5, hx455_0, hx455_1, hx455_2, hx455_3, hx455_4, hx455_5, hx456_0, hx456_1, hx456_2, hx456_3, hx456_4, hx456_5, hx457_0, hx457_1, hx457_2, hx457_3, hx457_4, hx457_5⟩ (fun hHeld => ?_); refine with_tabW meddlerlaw15_ClashOrder.tab11 meddlerlaw15_ClashOrder.bits11 (fun HT_ HW_ => ?_)
                                        generalize wr.drew = w55 at HO_7 HO_8 HB hx454_0 hx454_1 hx454_2 hx454_3 hx454_4 hx454_5 hx455_0 hx455_1 hx455_2 hx455_3 hx455_4 hx455_5 hx456_0 hx456_1 hx456_2 hx456_3 hx456_4 hx456_5 hx457_0 hx457_1 hx457_2 hx457_3 hx457_4 hx457_5 hHeld ⊢
                                        refine pure_ (i := 0) (N := some 57) (v := ?_) (a' := ?_) #[true, false, false, false, false, false, false, false, false, false, false, false, false, false, false, false, false, false, false, false, false, false, false, false, false, false, false, false, false, false, false, false, false, false, false, false, false, false, false] rfl rfl (any_of HT_.out (by kernel_rfl)) (fun _ _ _ h => h) (Or.inl ⟨by rfl, ?_⟩) ?_ ?_
                                        rotate_left
                                        · intro w'
                                          go_simp
                                          with_reducible rfl
                                        rotate_left
                                        · simp only [Act.put, List.setIfInBounds_toArray, List.set_cons_zero, List.set_cons_succ, i64_w, i32_w]
                                          rfl
                                        refine pure_ (i := 1) (N := some 58) (v := ?_) (a' := ?_) #[true, true, false, false, false, false, false, false, false, false, false, false, false, false, false, false, false, false, false, false, false, false, false, false, false, false, false, false, false, false, false, false, false, false, false, false, false, false, false] rfl rfl (any_of HT_.out (by kernel_rfl)) (fun _ _ _ h => h) (Or.inl ⟨by rfl, ?_⟩) ?_ ?_
                                        rotate_left
                                        · intro w'
                                          go_simp
                                          with_reducible rfl
                                        rotate_left
                                        · simp only [Act.put, List.setIfInBounds_toArray, List.set_cons_zero, List.set_cons_succ, i64_w, i32_w]
                                          rfl
                                        refine pure_ (i := 2) (N := some 59) (v := ?_) (a' := ?_) #[true, true, true, false, false, false, false, false, false, false, false, false, false, false, false, false, false, false, false, false, false, false, false, false, false, false, false, false, false, false, false, false, false, false, false, false, false, false, false] rfl rfl (any_of HT_.out (by kernel_rfl)) (fun _ _ _ h => h) (Or.inl ⟨by rfl, ?_⟩) ?_ ?_
                                        rotate_left
                                        · intro w'
                                          go_simp
                                          with_reducible rfl
                                        rotate_left
                                        · simp only [Act.put, List.setIfInBounds_toArray, List.set_cons_zero, List.set_cons_succ, i64_w, i32_w]
                                          rfl
                                        refine pure_ (i := 4) (N := some 61) (v := ?_) (a' := ?_) #[true, true, true, false, true, false, false, false, false, false, false, false, false, false, false, false, false, false, false, false, false, false, false, false, false, false, false, false, false, false, false, false, false, false, false, false, false, false, false] rfl rfl (any_of HT_.out (by kernel_rfl)) (fun _ _ _ h => h) (Or.inl ⟨by rfl, ?_⟩) ?_ ?_
                                        rotate_left
                                        · intro w'
                                          go_simp
                                          with_reducible rfl
                                        rotate_left
                                        · simp only [Act.put, List.setIfInBounds_toArray, List.set_cons_zero, List.set_cons_succ, i64_w, i32_w]
                                          rfl
                                        refine pure_ (i := 5) (N := some 62) (v := ?_) (a' := ?_) #[true, true, true, false, true, true, false, false, false, false, false, false, false, false, false, false, false, false, false, false, false, false, false, false, false, false, false, false, false, false, false, false, false, false, false, false, false, false, false] rfl rfl (any_of HT_.out (by kernel_rfl)) (fun _ _ _ h => h) (Or.inl ⟨by rfl, ?_⟩) ?_ ?_
                                        rotate_left
                                        · intro w'
                                          go_simp
                                          with_reducible rfl
                                        rotate_left
                                        · simp only [Act.put, List.setIfInBounds_toArray, List.set_cons_zero, List.set_cons_succ, i64_w, i32_w]
                                          rfl
                                        refine pure_ (i := 6) (N := some 63) (v := ?_) (a' := ?_) #[true, true, true, false, true, true, true, false, false, false, false, false, false, false, false, false, false, false, false, false, false, false, false, false, false, false, false, false, false, false, false, false, false, false, false, false, false, false, false] rfl rfl (any_of HT_.out (by kernel_rfl)) (fun _ _ _ h => h) (Or.inl ⟨by rfl, ?_⟩) ?_ ?_
                                        rotate_left
                                        · intro w'
                                          go_simp
                                          with_reducible rfl
                                        rotate_left
                                        · simp only [Act.put, List.setIfInBounds_toArray, List.set_cons_zero, List.set_cons_succ, i64_w, i32_w]
                                          rfl
                                        refine take_ (i := 3) (N := some 60) (v := ?_) (a' := ?_) #[true, true, true, true, true, true, true, false, false, false, false, false, false, false, false, false, false, false, false, false, false, false, false, false, false, false, false, false, false, false, false, false, false, false, false, false, false, false, false] rfl rfl (take_ofW HT_.out HW_.out (by kernel_rfl)) (fun _ _ _ h => h) (Or.inl ⟨by rfl, ?_⟩) hHeld ?_ ?_
                                        rotate_left
                                        · rintro w' ⟨s0, s1, s2, s3, s4, s5, s6, s7, s8, s9, s10, s11, s12, s13, s14, s15, s16, s17, s18, s19, s20, s21, s22, s23⟩
                                          go_simp
                                          with_reducible rfl
                                        rotate_left
                                        · simp only [Act.put, List.setIfInBounds_toArray, List.set_cons_zero, List.set_cons_succ, i64_w, i32_w]
                                          rfl
                                        refine take_ (i := 7) (N := some 64) (v := ?_) (a' := ?_) #[true, true, true, true, true, true, true, true, false, false, false, false, false, false, false, false, false, false, false, false, false, false, false, false, false, false, false, false, false, false, false, false, false, false, false, false, false, false, false] rfl rfl (take_ofW HT_.out HW_.out (by kernel_rfl)) (fun _ _ _ h => h) (Or.inl ⟨by rfl, ?_⟩) hHeld ?_ ?_
                                        rotate_left
                                        · rintro w' ⟨s0, s1, s2, s3, s4, s5, s6, s7, s8, s9, s10, s11, s12, s13, s14, s15, s16, s17, s18, s19, s20, s21, s22, s23⟩
                                          go_simp
                                          with_reducible rfl
                                        rotate_left
                                        · simp only [Act.put, List.setIfInBounds_toArray, List.set_cons_zero, List.set_cons_succ, i64_w, i32_w]
                                          rfl
                                        refine pure_ (i := 8) (N := some 65) (v := ?_) (a' := ?_) #[true, true, true, true, true, true, true, true, true, false, false, false, false, false, false, false, false, false, false, false, false, false, false, false, false, false, false, false, false, false, false, false, false, false, false, false, false, false, false] rfl rfl (any_of HT_.out (by kernel_rfl)) (fun _ _ _ h => h) (Or.inl ⟨by rfl, ?_⟩) ?_ ?_
                                        rotate_left
                                        · intro w'
                                          go_simp
                                          with_reducible rfl
                                        rotate_left
                                        · simp only [Act.put, List.setIfInBounds_toArray, List.set_cons_zero, List.set_cons_succ, i64_w, i32_w]
                                          rfl
                                        refine pure_ (i := 9) (N := some 66) (v := ?_) (a' := ?_) #[true, true, true, true, true, true, true, true, true, true, false, false, false, false, false, false, false, false, false, false, false, false, false, false, false, false, false, false, false, false, false, false, false, false, false, false, false, false, false] rfl rfl (any_of HT_.out (by kernel_rfl)) (fun _ _ _ h => h) (Or.inl ⟨by rfl, ?_⟩) ?_ ?_
                                        rotate_left
                                        · intro w'
                                          go_simp
                                          with_reducible rfl
                                        rotate_left
                                        · simp only [Act.put, List.setIfInBounds_toArray, List.set_cons_zero, List.set_cons_succ, i64_w, i32_w]
                                          rfl
                                        refine pure_ (i := 10) (N := some 67) (v := ?_) (a' := ?_) #[true, true, true, true, true, true, true, true, true, true, true, false, false, false, false, false, false, false, false, false, false, false, false, false, false, false, false, false, false, false, false, false, false, false, false, false, false, false, false] rfl rfl (any_of HT_.out (by kernel_rfl)) (fun _ _ _ h => h) (Or.inl ⟨by rfl, ?_⟩) ?_ ?_
                                        rotate_left
                                        · intro w'
                                          go_simp
                                          with_reducible rfl
                                        rotate_left
                                        · simp only [Act.put, List.setIfInBounds_toArray, List.set_cons_zero, List.set_cons_succ, i64_w, i32_w]
                                          rfl
                                        refine pure_ (i := 11) (N := some 68) (v := ?_) (a' := ?_) #[true, true, true, true, true, true, true, true, true, true, true, true, false, false, false, false, false, false, false, false, false, false, false, false, false, false, false, false, false, false, false, false, false, false, false, false, false, false, false] rfl rfl (any_of HT_.out (by kernel_rfl)) (fun _ _ _ h => h) (Or.inl ⟨by rfl, ?_⟩) ?_ ?_
                                        rotate_left
                                        · intro w'
                                          go_simp
                                          with_reducible rfl
                                        rotate_left
                                        · simp only [Act.put, List.setIfInBounds_toArray, List.set_cons_zero, List.set_cons_succ, i64_w, i32_w]
                                          rfl
                                        refine pure_ (i := 12) (N := some 69) (v := ?_) (a' := ?_) #[true, true, true, true, true, true, true, true, true, true, true, true, true, false, false, false, false, false, false, false, false, false, false, false, false, false, false, false, false, false, false, false, false, false, false, false, false, false, false] rfl rfl (any_of HT_.out (by kernel_rfl)) (fun _ _ _ h => h) (Or.inl ⟨by rfl, ?_⟩) ?_ ?_
                                        rotate_left
                                        · intro w'
                                          go_simp
                                          with_reducible rfl
                                        rotate_left
                                        · simp only [Act.put, List.setIfInBounds_toArray, List.set_cons_zero, List.set_cons_succ, i64_w, i32_w]
                                          rfl
                                        refine pure_ (i := 13) (N := some 70) (v := ?_) (a' := ?_) #[true, true, true, true, true, true, true, true, true, true, true, true, true, true, false, false, false, false, false, false, false, false, false, false, false, false, false, false, false, false, false, false, false, false, false, false, false, false, false] rfl rfl (any_of HT_.out (by kernel_rfl)) (fun _ _ _ h => h) (Or.inl ⟨by rfl, ?_⟩) ?_ ?_
                                        rotate_left
                                        · intro w'
                                          go_simp
                                          with_reducible rfl
                                        rotate_left
                                        · simp only [Act.put, List.setIfInBounds_toArray, List.set_cons_zero, List.set_cons_succ, i64_w, i32_w]
                                          rfl
                                        refine pure_ (i := 15) (N := some 72) (v := ?_) (a' := ?_) #[true, true, true, true, true, true, true, true, true, true, true, true, true, true, false, true, false, false, false, false, false, false, false, false, false, false, false, false, false, false, false, false, false, false, false, false, false, false, false] rfl rfl (any_of HT_.out (by kernel_rfl)) (fun _ _ _ h => h) (Or.inl ⟨by rfl, ?_⟩) ?_ ?_
                                        rotate_left
                                        · intro w'
                                          go_simp
                                          with_reducible rfl
                                        rotate_left
                                        · simp only [Act.put, List.setIfInBounds_toArray, List.set_cons_zero, List.set_cons_succ, i64_w, i32_w]
                                          rfl
                                        refine pure_ (i := 16) (N := some 73) (v := ?_) (a' := ?_) #[true, true, true, true, true, true, true, true, true, true, true, true, true, true, false, true, true, false, false, false, false, false, false, false, false, false, false, false, false, false, false, false, false, false, false, false, false, false, false] rfl rfl (any_of HT_.out (by kernel_rfl)) (fun _ _ _ h => h) (Or.inl ⟨by rfl, ?_⟩) ?_ ?_
                                        rotate_left
                                        · intro w'
                                          go_simp
                                          with_reducible rfl
                                        rotate_left
                                        · simp only [Act.put, List.setIfInBounds_toArray, List.set_cons_zero, List.set_cons_succ, i64_w, i32_w]
                                          rfl
                                        refine pure_ (i := 17) (N := some 74) (v := ?_) (a' := ?_) #[true, true, true, true, true, true, true, true, true, true, true, true, true, true, false, true, true, true, false, false, false, false, false, false, false, false, false, false, false, false, false, false, false, false, false, false, false, false, false] rfl rfl (any_of HT_.out (by kernel_rfl)) (fun _ _ _ h => h) (Or.inl ⟨by rfl, ?_⟩) ?_ ?_
                                        rotate_left
                                        · intro w'
                                          go_simp
                                          with_reducible rfl
                                        rotate_left
                                        · simp only [Act.put, List.setIfInBounds_toArray, List.set_cons_zero, List.set_cons_succ, i64_w, i32_w]
                                          rfl
                                        refine pure_ (i := 18) (N := some 75) (v := ?_) (a' := ?_) #[true, true, true, true, true, true, true, true, true, true, true, true, true, true, false, true, true, true, true, false, false, false, false, false, false, false, false, false, false, false, false, false, false, false, false, false, false, false, false] rfl rfl (any_of HT_.out (by kernel_rfl)) (fun _ _ _ h => h) (Or.inl ⟨by rfl, ?_⟩) ?_ ?_
                                        rotate_left
                                        · intro w'
                                          go_simp
                                          with_reducible rfl
                                        rotate_left
                                        · simp only [Act.put, List.setIfInBounds_toArray, List.set_cons_zero, List.set_cons_succ, i64_w, i32_w]
                                          rfl
                                        refine take_ (i := 14) (N := some 71) (v := ?_) (a' := ?_) #[true, true, true, true, true, true, true, true, true, true, true, true, true, true, true, true, true, true, true, false, false, false, false, false, false, false, false, false, false, false, false, false, false, false, false, false, false, false, false] rfl rfl (take_ofW HT_.out HW_.out (by kernel_rfl)) (fun _ _ _ h => h) (Or.inl ⟨by rfl, ?_⟩) hHeld ?_ ?_
                                        rotate_left
                                        · rintro w' ⟨s0, s1, s2, s3, s4, s5, s6, s7, s8, s9, s10, s11, s12, s13, s14, s15, s16, s17, s18, s19, s20, s21, s22, s23⟩
                                          go_simp
                                          with_reducible rfl
                                        rotate_left
                                        · simp only [Act.put, List.setIfInBounds_toArray, List.set_cons_zero, List.set_cons_succ, i64_w, i32_w]
                                          rfl
                                        refine take_ (i := 19) (N := some 76) (v := ?_) (a' := ?_) #[true, true, true, true, true, true, true, true, true, true, true, true, true, true, true, true, true, true, true, true, false, false, false, false, false, false, false, false, false, false, false, false, false, false, false, false, false, false, false] rfl rfl (take_ofW HT_.out HW_.out (by kernel_rfl)) (fun _ _ _ h => h) (Or.inl ⟨by rfl, ?_⟩) hHeld ?_ ?_
                                        rotate_left
                                        · rintro w' ⟨s0, s1, s2, s3, s4, s5, s6, s7, s8, s9, s10, s11, s12, s13, s14, s15, s16, s17, s18, s19, s20, s21, s22, s23⟩
                                          go_simp
                                          with_reducible rfl
                                        rotate_left
                                        · simp only [Act.put, List.setIfInBounds_toArray, List.set_cons_zero, List.set_cons_succ, i64_w, i32_w]
                                          rfl
                                        refine pure_ (i := 20) (N := some 77) (v := ?_) (a' := ?_) #[true, true, true, true, true, true, true, true, true, true, true, true, true, true, true, true, true, true, true, true, true, false, false, false, false, false, false, false, false, false, false, false, false, false, false, false, false, false, false] rfl rfl (any_of HT_.out (by kernel_rfl)) (fun _ _ _ h => h) (Or.inl ⟨by rfl, ?_⟩) ?_ ?_
                                        rotate_left
                                        · intro w'
                                          go_simp
                                          with_reducible rfl
                                        rotate_left
                                        · simp only [Act.put, List.setIfInBounds_toArray, List.set_cons_zero, List.set_cons_succ, i64_w, i32_w]
                                          rfl
                                        refine pure_ (i := 21) (N := some 78) (v := ?_) (a' := ?_) #[true, true, true, true, true, true, true, true, true, true, true, true, true, true, true, true, true, true, true, true, true, true, false, false, false, false, false, false, false, false, false, false, false, false, false, false, false, false, false] rfl rfl (any_of HT_.out (by kernel_rfl)) (fun _ _ _ h => h) (Or.inl ⟨by rfl, ?_⟩) ?_ ?_
                                        rotate_left
                                        · intro w'
                                          go_simp
                                          with_reducible rfl
                                        rotate_left
                                        · simp only [Act.put, List.setIfInBounds_toArray, List.set_cons_zero, List.set_cons_succ, i64_w, i32_w]
                                          rfl
                                        refine pure_ (i := 22) (N := some 79) (v := ?_) (a' := ?_) #[true, true, true, true, true, true, true, true, true, true, true, true, true, true, true, true, true, true, true, true, true, true, true, false, false, false, false, false, false, false, false, false, false, false, false, false, false, false, false] rfl rfl (any_of HT_.out (by kernel_rfl)) (fun _ _ _ h => h) (Or.inl ⟨by rfl, ?_⟩) ?_ ?_
                                        rotate_left
                                        · intro w'
                                          go_simp
                                          with_reducible rfl
                                        rotate_left
                                        · simp only [Act.put, List.setIfInBounds_toArray, List.set_cons_zero, List.set_cons_succ, i64_w, i32_w]
                                          rfl
                                        refine pure_ (i := 23) (N := some 80) (v := ?_) (a' := ?_) #[true, true, true, true, true, true, true, true, true, true, true, true, true, true, true, true, true, true, true, true, true, true, true, true, false, false, false, false, false, false, false, false, false, false, false, false, false, false, false] rfl rfl (any_of HT_.out (by kernel_rfl)) (fun _ _ _ h => h) (Or.inl ⟨by rfl, ?_⟩) ?_ ?_
                                        rotate_left
                                        · intro w'
                                          go_simp
                                          with_reducible rfl
                                        rotate_left
                                        · simp only [Act.put, List.setIfInBounds_toArray, List.set_cons_zero, List.set_cons_succ, i64_w, i32_w]
                                          rfl
                                        refine pure_ (i := 24) (N := some 81) (v := ?_) (a' := ?_) #[true, true, true, true, true, true, true, true, true, true, true, true, true, true, true, true, true, true, true, true, true, true, true, true, true, false, false, false, false, false, false, false, false, false, false, false, false, false, false] rfl rfl (any_of HT_.out (by kernel_rfl)) (fun _ _ _ h => h) (Or.inl ⟨by rfl, ?_⟩) ?_ ?_
                                        rotate_left
                                        · intro w'
                                          go_simp
                                          with_reducible rfl
                                        rotate_left
                                        · simp only [Act.put, List.setIfInBounds_toArray, List.set_cons_zero, List.set_cons_succ, i64_w, i32_w]
                                          rfl
                                        refine pure_ (i := 25) (N := some 82) (v := ?_) (a' := ?_) #[true, true, true, true, true, true, true, true, true, true, true, true, true, true, true, true, true, true, true, true, true, true, true, true, true, true, false, false, false, false, false, false, false, false, false, false, false, false, false] rfl rfl (any_of HT_.out (by kernel_rfl)) (fun _ _ _ h => h) (Or.inl ⟨by rfl, ?_⟩) ?_ ?_
                                        rotate_left
                                        · intro w'
                                          go_simp
                                          with_reducible rfl
                                        rotate_left
                                        · simp only [Act.put, List.setIfInBounds_toArray, List.set_cons_zero, List.set_cons_succ, i64_w, i32_w]
                                          rfl
                                        refine pure_ (i := 26) (N := some 83) (v := undef) (a' := ?_) #[true, true, true, true, true, true, true, true, true, true, true, true, true, true, true, true, true, true, true, true, true, true, true, true, true, true, true, false, false, false, false, false, false, false, false, false, false, false, false] rfl rfl (any_of HT_.out (by kernel_rfl)) (fun _ _ _ h => h) (Or.inr ⟨by rfl, rfl⟩) ?_ ?_
                                        rotate_left
                                        · simp only [Act.put, List.setIfInBounds_toArray, List.set_cons_zero, List.set_cons_succ, i64_w, i32_w]
                                          rfl
                                        refine pure_ (i := 27) (N := some 84) (v := undef) (a' := ?_) #[true, true, true, true, true, true, true, true, true, true, true, true, true, true, true, true, true, true, true, true, true, true, true, true, true, true, true, true, false, false, false, false, false, false, false, false, false, false, false] rfl rfl (any_of HT_.out (by kernel_rfl)) (fun _ _ _ h => h) (Or.inr ⟨by rfl, rfl⟩) ?_ ?_
                                        rotate_left
                                        · simp only [Act.put, List.setIfInBounds_toArray, List.set_cons_zero, List.set_cons_succ, i64_w, i32_w]
                                          rfl
                                        refine pure_ (i := 28) (N := some 85) (v := undef) (a' := ?_) #[true, true, true, true, true, true, true, true, true, true, true, true, true, true, true, true, true, true, true, true, true, true, true, true, true, true, true, true, true, false, false, false, false, false, false, false, false, false, false] rfl rfl (any_of HT_.out (by kernel_rfl)) (fun _ _ _ h => h) (Or.inr ⟨by rfl, rfl⟩) ?_ ?_
                                        rotate_left
                                        · simp only [Act.put, List.setIfInBounds_toArray, List.set_cons_zero, List.set_cons_succ, i64_w, i32_w]
                                          rfl
                                        refine pure_ (i := 29) (N := some 86) (v := undef) (a' := ?_) #[true, true, true, true, true, true, true, true, true, true, true, true, true, true, true, true, true, true, true, true, true, true, true, true, true, true, true, true, true, true, false, false, false, false, false, false, false, false, false] rfl rfl (any_of HT_.out (by kernel_rfl)) (fun _ _ _ h => h) (Or.inr ⟨by rfl, rfl⟩) ?_ ?_
                                        rotate_left
                                        · simp only [Act.put, List.setIfInBounds_toArray, List.set_cons_zero, List.set_cons_succ, i64_w, i32_w]
                                          rfl
                                        refine pure_ (i := 30) (N := some 87) (v := undef) (a' := ?_) #[true, true, true, true, true, true, true, true, true, true, true, true, true, true, true, true, true, true, true, true, true, true, true, true, true, true, true, true, true, true, true, false, false, false, false, false, false, false, false] rfl rfl (any_of HT_.out (by kernel_rfl)) (fun _ _ _ h => h) (Or.inr ⟨by rfl, rfl⟩) ?_ ?_
                                        rotate_left
                                        · simp only [Act.put, List.setIfInBounds_toArray, List.set_cons_zero, List.set_cons_succ, i64_w, i32_w]
                                          rfl
                                        refine pure_ (i := 31) (N := some 88) (v := undef) (a' := ?_) #[true, true, true, true, true, true, true, true, true, true, true, true, true, true, true, true, true, true, true, true, true, true, true, true, true, true, true, true, true, true, true, true, false, false, false, false, false, false, false] rfl rfl (any_of HT_.out (by kernel_rfl)) (fun _ _ _ h => h) (Or.inr ⟨by rfl, rfl⟩) ?_ ?_
                                        rotate_left
                                        · simp only [Act.put, List.setIfInBounds_toArray, List.set_cons_zero, List.set_cons_succ, i64_w, i32_w]
                                          rfl
                                        refine pure_ (i := 32) (N := some 89) (v := undef) (a' := ?_) #[true, true, true, true, true, true, true, true, true, true, true, true, true, true, true, true, true, true, true, true, true, true, true, true, true, true, true, true, true, true, true, true, true, false, false, false, false, false, false] rfl rfl (any_of HT_.out (by kernel_rfl)) (fun _ _ _ h => h) (Or.inr ⟨by rfl, rfl⟩) ?_ ?_
                                        rotate_left
                                        · simp only [Act.put, List.setIfInBounds_toArray, List.set_cons_zero, List.set_cons_succ, i64_w, i32_w]
                                          rfl
                                        refine pure_ (i := 33) (N := some 90) (v := undef) (a' := ?_) #[true, true, true, true, true, true, true, true, true, true, true, true, true, true, true, true, true, true, true, true, true, true, true, true, true, true, true, true, true, true, true, true, true, true, false, false, false, false, false] rfl rfl (any_of HT_.out (by kernel_rfl)) (fun _ _ _ h => h) (Or.inr ⟨by rfl, rfl⟩) ?_ ?_
                                        rotate_left
                                        · simp only [Act.put, List.setIfInBounds_toArray, List.set_cons_zero, List.set_cons_succ, i64_w, i32_w]
                                          rfl
                                        refine pure_ (i := 34) (N := some 91) (v := undef) (a' := ?_) #[true, true, true, true, true, true, true, true, true, true, true, true, true, true, true, true, true, true, true, true, true, true, true, true, true, true, true, true, true, true, true, true, true, true, true, false, false, false, false] rfl rfl (any_of HT_.out (by kernel_rfl)) (fun _ _ _ h => h) (Or.inr ⟨by rfl, rfl⟩) ?_ ?_
                                        rotate_left
                                        · simp only [Act.put, List.setIfInBounds_toArray, List.set_cons_zero, List.set_cons_succ, i64_w, i32_w]
                                          rfl
                                        refine pure_ (i := 35) (N := some 92) (v := undef) (a' := ?_) #[true, true, true, true, true, true, true, true, true, true, true, true, true, true, true, true, true, true, true, true, true, true, true, true, true, true, true, true, true, true, true, true, true, true, true, true, false, false, false] rfl rfl (any_of HT_.out (by kernel_rfl)) (fun _ _ _ h => h) (Or.inr ⟨by rfl, rfl⟩) ?_ ?_
                                        rotate_left
                                        · simp only [Act.put, List.setIfInBounds_toArray, List.set_cons_zero, List.set_cons_succ, i64_w, i32_w]
                                          rfl
                                        refine pure_ (i := 36) (N := some 93) (v := undef) (a' := ?_) #[true, true, true, true, true, true, true, true, true, true, true, true, true, true, true, true, true, true, true, true, true, true, true, true, true, true, true, true, true, true, true, true, true, true, true, true, true, false, false] rfl rfl (any_of HT_.out (by kernel_rfl)) (fun _ _ _ h => h) (Or.inr ⟨by rfl, rfl⟩) ?_ ?_
                                        rotate_left
                                        · simp only [Act.put, List.setIfInBounds_toArray, List.set_cons_zero, List.set_cons_succ, i64_w, i32_w]
                                          rfl
                                        refine pure_ (i := 37) (N := some 94) (v := ?_) (a' := ?_) #[true, true, true, true, true, true, true, true, true, true, true, true, true, true, true, true, true, true, true, true, true, true, true, true, true, true, true, true, true, true, true, true, true, true, true, true, true, true, false] rfl rfl (any_of HT_.out (by kernel_rfl)) (fun _ _ _ h => h) (Or.inl ⟨by rfl, ?_⟩) ?_ ?_
                                        rotate_left
                                        · intro w'
                                          go_simp
                                          with_reducible rfl
                                        rotate_left
                                        · simp only [Act.put, List.setIfInBounds_toArray, List.set_cons_zero, List.set_cons_succ, i64_w, i32_w]
                                          rfl
                                        refine pure_ (i := 38) (N := some 95) (v := ?_) (a' := ?_) #[true, true, true, true, true, true, true, true, true, true, true, true, true, true, true, true, true, true, true, true, true, true, true, true, true, true, true, true, true, true, true, true, true, true, true, true, true, true, true] rfl rfl (any_of HT_.out (by kernel_rfl)) (fun _ _ _ h => h) (Or.inl ⟨by rfl, ?_⟩) ?_ ?_
                                        rotate_left
                                        · intro w'
                                          go_simp
                                          with_reducible rfl
                                        rotate_left
                                        · simp only [Act.put, List.setIfInBounds_toArray, List.set_cons_zero, List.set_cons_succ, i64_w, i32_w]
                                          rfl
                                        refine done_ (done_of HT_.out (by kernel_rfl)) ?_
                                        try go_wp2
                                        go_roundg k2
                                        case measure => have := HJ2.out; have := HK2.out; omega
                                        case rel => exact ⟨(wrap64 (x9_2 + 1)), (by first | rfl | (simp; done) | (simp [*]; done)), H', ⟨by have := HJ2.out; have := HK2.out; omega⟩, ⟨by (with_reducible repeat (first | apply Kd.R_alloc | apply Kd.R_drewN | apply Kd.R_drew)); exact HO_7.out⟩, ⟨by (with_reducible repeat (first | apply Kd.R_alloc | apply Kd.R_drewN | apply Kd.R_drew)); exact HO_8.out⟩, ⟨by repeat (first | (with_reducible first | exact HB.out | apply below_alloc | apply pw_below_drewN | apply below_drew1) | exact HB.out)⟩⟩
                                · rw [if_neg c40] at H
                                  exact absurd H (by simp)
                              · rw [if_neg c39] at H
                                exact absurd H (by simp)
                            · rw [if_neg c38] at H
                              have c38b0 : decide (x9_2 < (t448.length : Int)) = false := decide_eq_false c38
                              clear c38
                              replace H := Option.bind_eq_some_iff.mp H
                              obtain ⟨t461, A560, H⟩ := H
                              replace H : (some t461) = some true := H
                              have A56 := Aside0.mk A560
                              clear A560
                              have HT := Aside0.mk (Option.some.inj H)
                              clear H
                              go_wp2_with (first | ((with_reducible refine gate_callee (f := 22) rfl ?_); refine goesL_ (some 96) rfl rfl Try.func22 (by kernel_rfl) rfl #[] rfl (by (try simp only [List.map_toArray, List.map_cons, List.map_nil]); first | done | rfl | (simp only [List.length_drop, List.length_take]; rfl)) ?_; (with_reducible refine (meddlerlaw15_known.calls k2  t461 _ A56.out).mono ?_); rintro e w57 ⟨rfl, hb⟩; refine ⟨_, rfl, ?_⟩; have n0_ := Aside0.mk (Kd.R_below (by (with_reducible repeat (first | apply Kd.R_alloc | apply Kd.R_drewN | apply Kd.R_drew)); exact HO_7.out) hb); have n1_ := Aside0.mk (Kd.R_below (by (with_reducible repeat (first | apply Kd.R_alloc | apply Kd.R_drewN | apply Kd.R_drew)); exact HO_8.out) hb); have n2_ := Aside0.mk (below_step (by repeat (first | (with_reducible first | exact HB.out | apply below_alloc | apply pw_below_drewN | apply below_drew1) | exact HB.out)) hb); clear HO_7; clear HO_8; clear HB; have HO_7 := n0_; have HO_8 := n1_; have HB := n2_; clear n0_ n1_ n2_; (try clear hb); (try clear hb2); (try clear hk); (try clear hi)))
                              go_ret
                              exact ⟨by first | rfl | (simp [HT.out]; done) | (simp [errW_none, errW_some] <;> rfl) | (simp only [← hji9]; first | rfl | (simp [errW_none, errW_some] <;> rfl)) | (simp [*, errW_none, errW_some] <;> rfl), by repeat (first | (with_reducible first | exact HB.out | apply below_alloc | apply pw_below_drewN | apply below_drew1) | exact HB.out)⟩
                      · rw [if_neg c20] at H
                        exact absurd H (by simp)
                    · rw [if_neg c17] at H
                      exact absurd H (by simp)
                  · rw [if_neg c16] at H
                    exact absurd H (by simp)
                · rw [if_neg c15] at H
                  exact absurd H (by simp)
              · rw [if_neg c12] at H
                exact absurd H (by simp)
            · rw [if_neg c11] at H
              exact absurd H (by simp)
          · rw [if_neg c10] at H
            exact absurd H (by simp)
end Go.Proofs.Ytadnjibgdpjnlaa.Rp
