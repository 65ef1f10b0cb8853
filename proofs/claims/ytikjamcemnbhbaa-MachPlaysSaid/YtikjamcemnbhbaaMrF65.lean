/- An own text of this seat: Lean functions with the answers of Go functions, and that the Go code comes to them. Written by a program of this session out of the translation. -/
import Derived.Test.YtikjamcemnbhbaaMrx0
import Derived.Test.YtikjamcemnbhbaaMrF53
namespace Go.Proofs.Ytikjamcemnbhbaa.Mr
open Go.RowKit Go.Proofs.YtikjamcemnbhbaaW.PrintWords Go.Proofs.YtikjamcemnbhbaaW.PrintLast
set_option linter.unusedVariables false
set_option linter.unusedSimpArgs false

/-! ### meddlerref1_Do: function 65 -/
mutual
def meddlerref1_Do.j0 : Nat → Int → Int → Int → Bool → Option (Int × Int)
  | 0, _, _, _, _ => none
  | k + 1, x0, x1, x2, x24 => if x24 = true then (some (0, 1)) else (if x0 ≥ 4 then (meddlerref1_Do.j1 k x0 x1 x2 (x2 == 0)) else (meddlerref1_Do.j1 k x0 x1 x2 false))
def meddlerref1_Do.j1 : Nat → Int → Int → Int → Bool → Option (Int × Int)
  | 0, _, _, _, _ => none
  | k + 1, x0, x1, x2, x30 => if x30 = true then (some (0, 8)) else (if x0 = 1 then ((meddlerref1_Fits.f (wrap64 (x1 + x2))).bind fun t218 => (if t218 = true then (some (wrap64 (x1 + x2), 0)) else (some (0, 7)))) else (if x0 = 2 then ((meddlerref1_Fits.f (wrap64 (x1 - x2))).bind fun t219 => (if t219 = true then (some (wrap64 (x1 - x2), 0)) else (some (0, 7)))) else (if x0 = 3 then ((meddlerref1_Fits.f (wrap64 (x1 * x2))).bind fun t220 => (if t220 = true then (some (wrap64 (x1 * x2), 0)) else (some (0, 7)))) else (if x0 = 4 then (if x2 = 0 then (none) else ((meddlerref1_Fits.f (wrap64 (Int.tdiv x1 x2))).bind fun t221 => (if t221 = true then (some (wrap64 (Int.tdiv x1 x2), 0)) else (some (0, 7))))) else (if x2 = 0 then (none) else ((meddlerref1_Fits.f (Int.tmod x1 x2)).bind fun t222 => (if t222 = true then (some (Int.tmod x1 x2, 0)) else (some (0, 7)))))))))
end
def meddlerref1_Do.f (k : Nat) (a0 : Int) (a1 : Int) (a2 : Int) : Option (Int × Int) := (meddlerref1_Fits.f a1).bind fun t216 => (if t216 = true then ((meddlerref1_Fits.f a2).bind fun t217 => (if t217 = true then (if a0 < 1 then (meddlerref1_Do.j0 k a0 a1 a2 true) else (meddlerref1_Do.j0 k a0 a1 a2 (decide (a0 > 5)))) else (meddlerref1_Do.j0 k a0 a1 a2 true))) else (meddlerref1_Do.j0 k a0 a1 a2 true))
theorem meddlerref1_Do.mono_l : ∀ k, (∀ y0 y1 y2 y3, LeO (meddlerref1_Do.j0 k y0 y1 y2 y3) (meddlerref1_Do.j0 (k + 1) y0 y1 y2 y3)) ∧ (∀ y0 y1 y2 y3, LeO (meddlerref1_Do.j1 k y0 y1 y2 y3) (meddlerref1_Do.j1 (k + 1) y0 y1 y2 y3))
  | 0 => ⟨fun _ _ _ _ r h => by simp [meddlerref1_Do.j0] at h, fun _ _ _ _ r h => by simp [meddlerref1_Do.j1] at h⟩
  | k + 1 => by
    obtain ⟨ih0, ih1⟩ := meddlerref1_Do.mono_l k
    refine ⟨?_, ?_⟩
    · intro y0 y1 y2 y3
      unfold meddlerref1_Do.j0
      repeat' first
      | (with_reducible exact ih0 _ _ _ _)
      | (with_reducible exact ih1 _ _ _ _)
      | (with_reducible exact LeO.refl _)
      | (with_reducible exact LeO.none _)
      | (with_reducible refine LeO.ite ?_ ?_)
      | (with_reducible refine LeO.bind ?_ (fun _ => ?_))
      | exact ih0 _ _ _ _
      | exact ih1 _ _ _ _
      | exact LeO.none _
      | refine LeO.ite ?_ ?_
      | refine LeO.bind ?_ (fun _ => ?_)
    · intro y0 y1 y2 y3
      unfold meddlerref1_Do.j1
      repeat' first
      | (with_reducible exact ih0 _ _ _ _)
      | (with_reducible exact ih1 _ _ _ _)
      | (with_reducible exact LeO.refl _)
      | (with_reducible exact LeO.none _)
      | (with_reducible refine LeO.ite ?_ ?_)
      | (with_reducible refine LeO.bind ?_ (fun _ => ?_))
      | exact ih0 _ _ _ _
      | exact ih1 _ _ _ _
      | exact LeO.none _
      | refine LeO.ite ?_ ?_
      | refine LeO.bind ?_ (fun _ => ?_)
theorem meddlerref1_Do.mono : ∀ a0 a1 a2 k, LeO (meddlerref1_Do.f k a0 a1 a2) (meddlerref1_Do.f (k + 1) a0 a1 a2) := by
  intro a0 a1 a2 k
  obtain ⟨ih0, ih1⟩ := meddlerref1_Do.mono_l k
  unfold meddlerref1_Do.f
  repeat' first
      | (with_reducible exact ih0 _ _ _ _)
      | (with_reducible exact ih1 _ _ _ _)
      | (with_reducible exact LeO.refl _)
      | (with_reducible exact LeO.none _)
      | (with_reducible refine LeO.ite ?_ ?_)
      | (with_reducible refine LeO.bind ?_ (fun _ => ?_))
      | exact ih0 _ _ _ _
      | exact ih1 _ _ _ _
      | exact LeO.none _
      | refine LeO.ite ?_ ?_
      | refine LeO.bind ?_ (fun _ => ?_)
set_option maxHeartbeats 8000000 in
set_option maxRecDepth 100000 in
theorem meddlerref1_Do.calls (k : Nat) (a0 : Int) (a1 : Int) (a2 : Int) (r1 : Int) (r2 : Int) (w : World) (h : meddlerref1_Do.f k a0 a1 a2 = some (r1, r2)) :
    Calls Try.prog 65 #[.int .i64 a0, .int .i64 a1, .int .i64 a2] w fun e w' => e = .returned (.tuple #[.int .i64 r1, .int .i64 r2]) ∧ Drawn0 w w' := by
  have H : ((meddlerref1_Fits.f a1).bind fun t216 => (if t216 = true then ((meddlerref1_Fits.f a2).bind fun t217 => (if t217 = true then (if a0 < 1 then (meddlerref1_Do.j0 k a0 a1 a2 true) else (meddlerref1_Do.j0 k a0 a1 a2 (decide (a0 > 5)))) else (meddlerref1_Do.j0 k a0 a1 a2 true))) else (meddlerref1_Do.j0 k a0 a1 a2 true))) = some (r1, r2) := h
  clear h
  have HC4 := Aside0.mk H
  clear H
  go_enter Try.func65, Try.ntmps65
  go_upto_region 1 with (fail)
  go_cut [24] (fun v24 wc => ∃ (kq : Nat) (x24_3 : Bool), v24 = .bool x24_3 ∧ Aside0 (meddlerref1_Do.j0 kq a0 a1 a2 x24_3 = some (r1, r2)) ∧ Aside0 (kq ≤ k) ∧ Drawn0 w wc)
  case first =>
    have H := HC4.out
    clear HC4
    replace H := Option.bind_eq_some_iff.mp H
    obtain ⟨t216, A50, H⟩ := H
    replace H : (if t216 = true then ((meddlerref1_Fits.f a2).bind fun t217 => (if t217 = true then (if a0 < 1 then (meddlerref1_Do.j0 k a0 a1 a2 true) else (meddlerref1_Do.j0 k a0 a1 a2 (decide (a0 > 5)))) else (meddlerref1_Do.j0 k a0 a1 a2 true))) else (meddlerref1_Do.j0 k a0 a1 a2 true)) = some (r1, r2) := H
    have A5 := Aside0.mk A50
    clear A50
    by_cases c6 : t216 = true
    · subst c6
      have H1 : ((meddlerref1_Fits.f a2).bind fun t217 => (if t217 = true then (if a0 < 1 then (meddlerref1_Do.j0 k a0 a1 a2 true) else (meddlerref1_Do.j0 k a0 a1 a2 (decide (a0 > 5)))) else (meddlerref1_Do.j0 k a0 a1 a2 true))) = some (r1, r2) := by rw [if_pos rfl] at H; exact H
      clear H
      have H := H1
      clear H1
      replace H := Option.bind_eq_some_iff.mp H
      obtain ⟨t217, A70, H⟩ := H
      replace H : (if t217 = true then (if a0 < 1 then (meddlerref1_Do.j0 k a0 a1 a2 true) else (meddlerref1_Do.j0 k a0 a1 a2 (decide (a0 > 5)))) else (meddlerref1_Do.j0 k a0 a1 a2 true)) = some (r1, r2) := H
      have A7 := Aside0.mk A70
      clear A70
      by_cases c8 : t217 = true
      · subst c8
        have H1 : (if a0 < 1 then (meddlerref1_Do.j0 k a0 a1 a2 true) else (meddlerref1_Do.j0 k a0 a1 a2 (decide (a0 > 5)))) = some (r1, r2) := by rw [if_pos rfl] at H; exact H
        clear H
        have H := H1
        clear H1
        by_cases c9 : a0 < 1
        · rw [if_pos c9] at H
          have c9b0 : decide (a0 < 1) = true := decide_eq_true c9
          clear c9
          (first | rw [c9b0] | (simp only [i64_w, i32_w]; rw [c9b0]) | skip)
          have H' := Aside0.mk H
          clear H
          go_wp2_with (first | ((with_reducible refine gate_callee (f := 53) rfl ?_); refine goesL_ (some 10) rfl rfl Try.func53 (by kernel_rfl) rfl #[.int .i64 a1] rfl (by (try simp only [List.map_toArray, List.map_cons, List.map_nil]); first | done | rfl | (simp only [List.length_drop, List.length_take]; rfl)) ?_; (with_reducible refine (meddlerref1_Fits.calls a1 true _ A5.out).mono ?_); rintro e w' ⟨rfl, ⟨nd, rfl⟩⟩; refine ⟨_, rfl, ?_⟩) | (go_at_call 53; (with_reducible refine (meddlerref1_Fits.calls a2 true _ A7.out).mono ?_); rintro e w' ⟨rfl, ⟨nd, rfl⟩⟩))
          go_meet
          case rel => exact ⟨_, (true), (by first | rfl | (simp; done) | (simp [*]; done)), H', ⟨by first | omega | exact Nat.le_refl _⟩, by repeat (first | exact Drawn0.refl _ | apply Drawn0.step)⟩
        · rw [if_neg c9] at H
          have c9b0 : decide (a0 < 1) = false := decide_eq_false c9
          clear c9
          (first | rw [c9b0] | (simp only [i64_w, i32_w]; rw [c9b0]) | skip)
          have H' := Aside0.mk H
          clear H
          go_wp2_with (first | ((with_reducible refine gate_callee (f := 53) rfl ?_); refine goesL_ (some 10) rfl rfl Try.func53 (by kernel_rfl) rfl #[.int .i64 a1] rfl (by (try simp only [List.map_toArray, List.map_cons, List.map_nil]); first | done | rfl | (simp only [List.length_drop, List.length_take]; rfl)) ?_; (with_reducible refine (meddlerref1_Fits.calls a1 true _ A5.out).mono ?_); rintro e w' ⟨rfl, ⟨nd, rfl⟩⟩; refine ⟨_, rfl, ?_⟩) | (go_at_call 53; (with_reducible refine (meddlerref1_Fits.calls a2 true _ A7.out).mono ?_); rintro e w' ⟨rfl, ⟨nd, rfl⟩⟩))
          go_meet
          case rel => exact ⟨_, (decide (a0 > 5)), (by first | rfl | (simp; done) | (simp [*]; done)), H', ⟨by first | omega | exact Nat.le_refl _⟩, by repeat (first | exact Drawn0.refl _ | apply Drawn0.step)⟩
      · replace c8 := Bool.eq_false_iff.mpr c8
        subst c8
        have H1 : (meddlerref1_Do.j0 k a0 a1 a2 true) = some (r1, r2) := by rw [if_neg (show ¬ (false = true) by decide)] at H; exact H
        clear H
        have H := H1
        clear H1
        have H' := Aside0.mk H
        clear H
        go_wp2_with (first | ((with_reducible refine gate_callee (f := 53) rfl ?_); refine goesL_ (some 10) rfl rfl Try.func53 (by kernel_rfl) rfl #[.int .i64 a1] rfl (by (try simp only [List.map_toArray, List.map_cons, List.map_nil]); first | done | rfl | (simp only [List.length_drop, List.length_take]; rfl)) ?_; (with_reducible refine (meddlerref1_Fits.calls a1 true _ A5.out).mono ?_); rintro e w' ⟨rfl, ⟨nd, rfl⟩⟩; refine ⟨_, rfl, ?_⟩) | (go_at_call 53; (with_reducible refine (meddlerref1_Fits.calls a2 false _ A7.out).mono ?_); rintro e w' ⟨rfl, ⟨nd, rfl⟩⟩))
        go_meet
        case rel => exact ⟨_, (true), (by first | rfl | (simp; done) | (simp [*]; done)), H', ⟨by first | omega | exact Nat.le_refl _⟩, by repeat (first | exact Drawn0.refl _ | apply Drawn0.step)⟩
    · replace c6 := Bool.eq_false_iff.mpr c6
      subst c6
      have H1 : (meddlerref1_Do.j0 k a0 a1 a2 true) = some (r1, r2) := by rw [if_neg (show ¬ (false = true) by decide)] at H; exact H
      clear H
      have H := H1
      clear H1
      have H' := Aside0.mk H
      clear H
      go_wp2_with (first | ((with_reducible refine gate_callee (f := 53) rfl ?_); refine goesL_ (some 10) rfl rfl Try.func53 (by kernel_rfl) rfl #[.int .i64 a1] rfl (by (try simp only [List.map_toArray, List.map_cons, List.map_nil]); first | done | rfl | (simp only [List.length_drop, List.length_take]; rfl)) ?_; (with_reducible refine (meddlerref1_Fits.calls a1 false _ A5.out).mono ?_); rintro e w' ⟨rfl, ⟨nd, rfl⟩⟩; refine ⟨_, rfl, ?_⟩))
      go_meet
      case rel => exact ⟨_, (true), (by first | rfl | (simp; done) | (simp [*]; done)), H', ⟨by first | omega | exact Nat.le_refl _⟩, by repeat (first | exact Drawn0.refl _ | apply Drawn0.step)⟩
  case rest =>
    clear HC4
    try clear p2
    try clear c5
    try clear c6
    try clear c8
    try clear c9
    try clear c9b0
    obtain ⟨kq, x24_3, rfl, HA, HJ3, ⟨mc3, rfl⟩⟩ := hcut
    cases kq with
    | zero => exact absurd HA.out (by simp [meddlerref1_Do.j0])
    | succ kj3 =>
      have H := HA.out
      clear HA
      simp only [meddlerref1_Do.j0] at H
      by_cases c10 : x24_3 = true
      · subst c10
        have H1 : (some (0, 1)) = some (r1, r2) := by rw [if_pos rfl] at H; exact H
        clear H
        have H := H1
        clear H1
        simp only [Option.some.injEq, Prod.mk.injEq] at H
        obtain ⟨rfl, rfl⟩ := H
        go_wp2
        go_ret2
        exact ⟨by first | rfl | (simp; done) | (simp [*]; done), by repeat (first | exact Drawn0.refl _ | apply Drawn0.step)⟩
      · replace c10 := Bool.eq_false_iff.mpr c10
        subst c10
        have H1 : (if a0 ≥ 4 then (meddlerref1_Do.j1 kj3 a0 a1 a2 (a2 == 0)) else (meddlerref1_Do.j1 kj3 a0 a1 a2 false)) = some (r1, r2) := by rw [if_neg (show ¬ (false = true) by decide)] at H; exact H
        clear H
        have H := H1
        clear H1
        have HC11 := Aside0.mk H
        clear H
        go_upto_region 3 with (fail)
        go_cut [30] (fun v30 wc => ∃ (kq : Nat) (x30_10 : Bool), v30 = .bool x30_10 ∧ Aside0 (meddlerref1_Do.j1 kq a0 a1 a2 x30_10 = some (r1, r2)) ∧ Aside0 (kq ≤ kj3) ∧ Drawn0 w wc)
        case first =>
          have H := HC11.out
          clear HC11
          by_cases c12 : a0 ≥ 4
          · rw [if_pos c12] at H
            have c12b0 : decide (4 ≤ a0) = true := decide_eq_true c12
            clear c12
            (first | rw [c12b0] | (simp only [i64_w, i32_w]; rw [c12b0]) | skip)
            have H' := Aside0.mk H
            clear H
            go_wp2
            go_meet
            case rel => exact ⟨_, ((a2 == 0)), (by first | rfl | (simp; done) | (simp [*]; done)), H', ⟨by have := HJ3.out; first | omega | exact Nat.le_refl _⟩, by repeat (first | exact Drawn0.refl _ | apply Drawn0.step)⟩
          · rw [if_neg c12] at H
            have c12b0 : decide (4 ≤ a0) = false := decide_eq_false c12
            clear c12
            (first | rw [c12b0] | (simp only [i64_w, i32_w]; rw [c12b0]) | skip)
            have H' := Aside0.mk H
            clear H
            go_wp2
            go_meet
            case rel => exact ⟨_, (false), (by first | rfl | (simp; done) | (simp [*]; done)), H', ⟨by have := HJ3.out; first | omega | exact Nat.le_refl _⟩, by repeat (first | exact Drawn0.refl _ | apply Drawn0.step)⟩
        case rest =>
          clear HC11
          try clear c1
          try clear p2
          try clear c3
          try clear c5
          try clear c6
          try clear c8
          try clear c9
          try clear c9b0
          try clear c10
          try clear c12
          try clear c12b0
          try clear p2
          obtain ⟨kq, x30_10, rfl, HA, HJ10, ⟨mc10, rfl⟩⟩ := hcut
          cases kq with
          | zero => exact absurd HA.out (by simp [meddlerref1_Do.j1])
          | succ kj10 =>
            have H := HA.out
            clear HA
            simp only [meddlerref1_Do.j1] at H
            by_cases c13 : x30_10 = true
            · subst c13
              have H1 : (some (0, 8)) = some (r1, r2) := by rw [if_pos rfl] at H; exact H
              clear H
              have H := H1
              clear H1
              simp only [Option.some.injEq, Prod.mk.injEq] at H
              obtain ⟨rfl, rfl⟩ := H
              go_wp2
              go_ret2
              exact ⟨by first | rfl | (simp; done) | (simp [*]; done), by repeat (first | exact Drawn0.refl _ | apply Drawn0.step)⟩
            · replace c13 := Bool.eq_false_iff.mpr c13
              subst c13
              have H1 : (if a0 = 1 then ((meddlerref1_Fits.f (wrap64 (a1 + a2))).bind fun t218 => (if t218 = true then (some (wrap64 (a1 + a2), 0)) else (some (0, 7)))) else (if a0 = 2 then ((meddlerref1_Fits.f (wrap64 (a1 - a2))).bind fun t219 => (if t219 = true then (some (wrap64 (a1 - a2), 0)) else (some (0, 7)))) else (if a0 = 3 then ((meddlerref1_Fits.f (wrap64 (a1 * a2))).bind fun t220 => (if t220 = true then (some (wrap64 (a1 * a2), 0)) else (some (0, 7)))) else (if a0 = 4 then (if a2 = 0 then (none) else ((meddlerref1_Fits.f (wrap64 (Int.tdiv a1 a2))).bind fun t221 => (if t221 = true then (some (wrap64 (Int.tdiv a1 a2), 0)) else (some (0, 7))))) else (if a2 = 0 then (none) else ((meddlerref1_Fits.f (Int.tmod a1 a2)).bind fun t222 => (if t222 = true then (some (Int.tmod a1 a2, 0)) else (some (0, 7))))))))) = some (r1, r2) := by rw [if_neg (show ¬ (false = true) by decide)] at H; exact H
              clear H
              have H := H1
              clear H1
              by_cases c14 : a0 = 1
              · rw [if_pos c14] at H
                have c14b0 : (a0 == 1) = true := beq_iff_eq.mpr c14
                have c14b1 : (a0 != 1) = false := bne_eq_false_iff_eq.mpr c14
                clear c14
                replace H := Option.bind_eq_some_iff.mp H
                obtain ⟨t218, A150, H⟩ := H
                replace H : (if t218 = true then (some (wrap64 (a1 + a2), 0)) else (some (0, 7))) = some (r1, r2) := H
                have A15 := Aside0.mk A150
                clear A150
                by_cases c16 : t218 = true
                · subst c16
                  have H1 : (some (wrap64 (a1 + a2), 0)) = some (r1, r2) := by rw [if_pos rfl] at H; exact H
                  clear H
                  have H := H1
                  clear H1
                  simp only [Option.some.injEq, Prod.mk.injEq] at H
                  obtain ⟨rfl, rfl⟩ := H
                  go_wp2_with (first | ((with_reducible refine gate_callee (f := 53) rfl ?_); refine goesL_ (some 56) rfl rfl Try.func53 (by kernel_rfl) rfl #[.int .i64 (wrap64 (a1 + a2))] rfl (by (try simp only [List.map_toArray, List.map_cons, List.map_nil]); first | done | rfl | (simp only [List.length_drop, List.length_take]; rfl)) ?_; (with_reducible refine (meddlerref1_Fits.calls (wrap64 (a1 + a2)) true _ A15.out).mono ?_); rintro e w' ⟨rfl, ⟨nd, rfl⟩⟩; refine ⟨_, rfl, ?_⟩))
                  go_ret2
                  exact ⟨by first | rfl | (simp; done) | (simp [*]; done), by repeat (first | exact Drawn0.refl _ | apply Drawn0.step)⟩
                · replace c16 := Bool.eq_false_iff.mpr c16
                  subst c16
                  have H1 : (some (0, 7)) = some (r1, r2) := by rw [if_neg (show ¬ (false = true) by decide)] at H; exact H
                  clear H
                  have H := H1
                  clear H1
                  simp only [Option.some.injEq, Prod.mk.injEq] at H
                  obtain ⟨rfl, rfl⟩ := H
                  go_wp2_with (first | ((with_reducible refine gate_callee (f := 53) rfl ?_); refine goesL_ (some 56) rfl rfl Try.func53 (by kernel_rfl) rfl #[.int .i64 (wrap64 (a1 + a2))] rfl (by (try simp only [List.map_toArray, List.map_cons, List.map_nil]); first | done | rfl | (simp only [List.length_drop, List.length_take]; rfl)) ?_; (with_reducible refine (meddlerref1_Fits.calls (wrap64 (a1 + a2)) false _ A15.out).mono ?_); rintro e w' ⟨rfl, ⟨nd, rfl⟩⟩; refine ⟨_, rfl, ?_⟩))
                  go_ret2
                  exact ⟨by first | rfl | (simp; done) | (simp [*]; done), by repeat (first | exact Drawn0.refl _ | apply Drawn0.step)⟩
              · rw [if_neg c14] at H
                have c14b0 : (a0 == 1) = false := beq_eq_false_iff_ne.mpr c14
                have c14b1 : (a0 != 1) = true := bne_iff_ne.mpr c14
                by_cases c17 : a0 = 2
                · rw [if_pos c17] at H
                  have c17b0 : (a0 == 2) = true := beq_iff_eq.mpr c17
                  have c17b1 : (a0 != 2) = false := bne_eq_false_iff_eq.mpr c17
                  clear c17
                  replace H := Option.bind_eq_some_iff.mp H
                  obtain ⟨t219, A180, H⟩ := H
                  replace H : (if t219 = true then (some (wrap64 (a1 - a2), 0)) else (some (0, 7))) = some (r1, r2) := H
                  have A18 := Aside0.mk A180
                  clear A180
                  by_cases c19 : t219 = true
                  · subst c19
                    have H1 : (some (wrap64 (a1 - a2), 0)) = some (r1, r2) := by rw [if_pos rfl] at H; exact H
                    clear H
                    have H := H1
                    clear H1
                    simp only [Option.some.injEq, Prod.mk.injEq] at H
                    obtain ⟨rfl, rfl⟩ := H
                    go_wp2_with (first | ((with_reducible refine gate_callee (f := 53) rfl ?_); refine goesL_ (some 56) rfl rfl Try.func53 (by kernel_rfl) rfl #[.int .i64 (wrap64 (a1 - a2))] rfl (by (try simp only [List.map_toArray, List.map_cons, List.map_nil]); first | done | rfl | (simp only [List.length_drop, List.length_take]; rfl)) ?_; (with_reducible refine (meddlerref1_Fits.calls (wrap64 (a1 - a2)) true _ A18.out).mono ?_); rintro e w' ⟨rfl, ⟨nd, rfl⟩⟩; refine ⟨_, rfl, ?_⟩))
                    go_ret2
                    exact ⟨by first | rfl | (simp; done) | (simp [*]; done), by repeat (first | exact Drawn0.refl _ | apply Drawn0.step)⟩
                  · replace c19 := Bool.eq_false_iff.mpr c19
                    subst c19
                    have H1 : (some (0, 7)) = some (r1, r2) := by rw [if_neg (show ¬ (false = true) by decide)] at H; exact H
                    clear H
                    have H := H1
                    clear H1
                    simp only [Option.some.injEq, Prod.mk.injEq] at H
                    obtain ⟨rfl, rfl⟩ := H
                    go_wp2_with (first | ((with_reducible refine gate_callee (f := 53) rfl ?_); refine goesL_ (some 56) rfl rfl Try.func53 (by kernel_rfl) rfl #[.int .i64 (wrap64 (a1 - a2))] rfl (by (try simp only [List.map_toArray, List.map_cons, List.map_nil]); first | done | rfl | (simp only [List.length_drop, List.length_take]; rfl)) ?_; (with_reducible refine (meddlerref1_Fits.calls (wrap64 (a1 - a2)) false _ A18.out).mono ?_); rintro e w' ⟨rfl, ⟨nd, rfl⟩⟩; refine ⟨_, rfl, ?_⟩))
                    go_ret2
                    exact ⟨by first | rfl | (simp; done) | (simp [*]; done), by repeat (first | exact Drawn0.refl _ | apply Drawn0.step)⟩
                · rw [if_neg c17] at H
                  have c17b0 : (a0 == 2) = false := beq_eq_false_iff_ne.mpr c17
                  have c17b1 : (a0 != 2) = true := bne_iff_ne.mpr c17
                  by_cases c20 : a0 = 3
                  · rw [if_pos c20] at H
                    have c20b0 : (a0 == 3) = true := beq_iff_eq.mpr c20
                    have c20b1 : (a0 != 3) = false := bne_eq_false_iff_eq.mpr c20
                    clear c20
                    replace H := Option.bind_eq_some_iff.mp H
                    obtain ⟨t220, A210, H⟩ := H
                    replace H : (if t220 = true then (some (wrap64 (a1 * a2), 0)) else (some (0, 7))) = some (r1, r2) := H
                    have A21 := Aside0.mk A210
                    clear A210
                    by_cases c22 : t220 = true
                    · subst c22
                      have H1 : (some (wrap64 (a1 * a2), 0)) = some (r1, r2) := by rw [if_pos rfl] at H; exact H
                      clear H
                      have H := H1
                      clear H1
                      simp only [Option.some.injEq, Prod.mk.injEq] at H
                      obtain ⟨rfl, rfl⟩ := H
                      go_wp2_with (first | ((with_reducible refine gate_callee (f := 53) rfl ?_); refine goesL_ (some 56) rfl rfl Try.func53 (by kernel_rfl) rfl #[.int .i64 (wrap64 (a1 * a2))] rfl (by (try simp only [List.map_toArray, List.map_cons, List.map_nil]); first | done | rfl | (simp only [List.length_drop, List.length_take]; rfl)) ?_; (with_reducible refine (meddlerref1_Fits.calls (wrap64 (a1 * a2)) true _ A21.out).mono ?_); rintro e w' ⟨rfl, ⟨nd, rfl⟩⟩; refine ⟨_, rfl, ?_⟩))
                      go_ret2
                      exact ⟨by first | rfl | (simp; done) | (simp [*]; done), by repeat (first | exact Drawn0.refl _ | apply Drawn0.step)⟩
                    · replace c22 := Bool.eq_false_iff.mpr c22
                      subst c22
                      have H1 : (some (0, 7)) = some (r1, r2) := by rw [if_neg (show ¬ (false = true) by decide)] at H; exact H
                      clear H
                      have H := H1
                      clear H1
                      simp only [Option.some.injEq, Prod.mk.injEq] at H
                      obtain ⟨rfl, rfl⟩ := H
                      go_wp2_with (first | ((with_reducible refine gate_callee (f := 53) rfl ?_); refine goesL_ (some 56) rfl rfl Try.func53 (by kernel_rfl) rfl #[.int .i64 (wrap64 (a1 * a2))] rfl (by (try simp only [List.map_toArray, List.map_cons, List.map_nil]); first | done | rfl | (simp only [List.length_drop, List.length_take]; rfl)) ?_; (with_reducible refine (meddlerref1_Fits.calls (wrap64 (a1 * a2)) false _ A21.out).mono ?_); rintro e w' ⟨rfl, ⟨nd, rfl⟩⟩; refine ⟨_, rfl, ?_⟩))
                      go_ret2
                      exact ⟨by first | rfl | (simp; done) | (simp [*]; done), by repeat (first | exact Drawn0.refl _ | apply Drawn0.step)⟩
                  · rw [if_neg c20] at H
                    have c20b0 : (a0 == 3) = false := beq_eq_false_iff_ne.mpr c20
                    have c20b1 : (a0 != 3) = true := bne_iff_ne.mpr c20
                    by_cases c23 : a0 = 4
                    · rw [if_pos c23] at H
                      have c23b0 : (a0 == 4) = true := beq_iff_eq.mpr c23
                      have c23b1 : (a0 != 4) = false := bne_eq_false_iff_eq.mpr c23
                      clear c23
                      by_cases c24 : a2 = 0
                      · rw [if_pos c24] at H
                        exact absurd H (by simp)
                      · rw [if_neg c24] at H
                        have c24b0 : (a2 == 0) = false := beq_eq_false_iff_ne.mpr c24
                        have c24b1 : (a2 != 0) = true := bne_iff_ne.mpr c24
                        replace H := Option.bind_eq_some_iff.mp H
                        obtain ⟨t221, A250, H⟩ := H
                        replace H : (if t221 = true then (some (wrap64 (Int.tdiv a1 a2), 0)) else (some (0, 7))) = some (r1, r2) := H
                        have A25 := Aside0.mk A250
                        clear A250
                        by_cases c26 : t221 = true
                        · subst c26
                          have H1 : (some (wrap64 (Int.tdiv a1 a2), 0)) = some (r1, r2) := by rw [if_pos rfl] at H; exact H
                          clear H
                          have H := H1
                          clear H1
                          simp only [Option.some.injEq, Prod.mk.injEq] at H
                          obtain ⟨rfl, rfl⟩ := H
                          go_wp2_with (first | ((with_reducible refine gate_callee (f := 53) rfl ?_); refine goesL_ (some 56) rfl rfl Try.func53 (by kernel_rfl) rfl #[.int .i64 (wrap64 (Int.tdiv a1 a2))] rfl (by (try simp only [List.map_toArray, List.map_cons, List.map_nil]); first | done | rfl | (simp only [List.length_drop, List.length_take]; rfl)) ?_; (with_reducible refine (meddlerref1_Fits.calls (wrap64 (Int.tdiv a1 a2)) true _ A25.out).mono ?_); rintro e w' ⟨rfl, ⟨nd, rfl⟩⟩; refine ⟨_, rfl, ?_⟩))
                          go_ret2
                          exact ⟨by first | rfl | (simp; done) | (simp [*]; done), by repeat (first | exact Drawn0.refl _ | apply Drawn0.step)⟩
                        · replace c26 := Bool.eq_false_iff.mpr c26
                          subst c26
                          have H1 : (some (0, 7)) = some (r1, r2) := by rw [if_neg (show ¬ (false = true) by decide)] at H; exact H
                          clear H
                          have H := H1
                          clear H1
                          simp only [Option.some.injEq, Prod.mk.injEq] at H
                          obtain ⟨rfl, rfl⟩ := H
                          go_wp2_with (first | ((with_reducible refine gate_callee (f := 53) rfl ?_); refine goesL_ (some 56) rfl rfl Try.func53 (by kernel_rfl) rfl #[.int .i64 (wrap64 (Int.tdiv a1 a2))] rfl (by (try simp only [List.map_toArray, List.map_cons, List.map_nil]); first | done | rfl | (simp only [List.length_drop, List.length_take]; rfl)) ?_; (with_reducible refine (meddlerref1_Fits.calls (wrap64 (Int.tdiv a1 a2)) false _ A25.out).mono ?_); rintro e w' ⟨rfl, ⟨nd, rfl⟩⟩; refine ⟨_, rfl, ?_⟩))
                          go_ret2
                          exact ⟨by first | rfl | (simp; done) | (simp [*]; done), by repeat (first | exact Drawn0.refl _ | apply Drawn0.step)⟩
                    · rw [if_neg c23] at H
                      have c23b0 : (a0 == 4) = false := beq_eq_false_iff_ne.mpr c23
                      have c23b1 : (a0 != 4) = true := bne_iff_ne.mpr c23
                      by_cases c27 : a2 = 0
                      · rw [if_pos c27] at H
                        exact absurd H (by simp)
                      · rw [if_neg c27] at H
                        have c27b0 : (a2 == 0) = false := beq_eq_false_iff_ne.mpr c27
                        have c27b1 : (a2 != 0) = true := bne_iff_ne.mpr c27
                        replace H := Option.bind_eq_some_iff.mp H
                        obtain ⟨t222, A280, H⟩ := H
                        replace H : (if t222 = true then (some (Int.tmod a1 a2, 0)) else (some (0, 7))) = some (r1, r2) := H
                        have A28 := Aside0.mk A280
                        clear A280
                        by_cases c29 : t222 = true
                        · subst c29
                          have H1 : (some (Int.tmod a1 a2, 0)) = some (r1, r2) := by rw [if_pos rfl] at H; exact H
                          clear H
                          have H := H1
                          clear H1
                          simp only [Option.some.injEq, Prod.mk.injEq] at H
                          obtain ⟨rfl, rfl⟩ := H
                          go_wp2_with (first | ((with_reducible refine gate_callee (f := 53) rfl ?_); refine goesL_ (some 56) rfl rfl Try.func53 (by kernel_rfl) rfl #[.int .i64 (Int.tmod a1 a2)] rfl (by (try simp only [List.map_toArray, List.map_cons, List.map_nil]); first | done | rfl | (simp only [List.length_drop, List.length_take]; rfl)) ?_; (with_reducible refine (meddlerref1_Fits.calls (Int.tmod a1 a2) true _ A28.out).mono ?_); rintro e w' ⟨rfl, ⟨nd, rfl⟩⟩; refine ⟨_, rfl, ?_⟩))
                          go_ret2
                          exact ⟨by first | rfl | (simp; done) | (simp [*]; done), by repeat (first | exact Drawn0.refl _ | apply Drawn0.step)⟩
                        · replace c29 := Bool.eq_false_iff.mpr c29
                          subst c29
                          have H1 : (some (0, 7)) = some (r1, r2) := by rw [if_neg (show ¬ (false = true) by decide)] at H; exact H
                          clear H
                          have H := H1
                          clear H1
                          simp only [Option.some.injEq, Prod.mk.injEq] at H
                          obtain ⟨rfl, rfl⟩ := H
                          go_wp2_with (first | ((with_reducible refine gate_callee (f := 53) rfl ?_); refine goesL_ (some 56) rfl rfl Try.func53 (by kernel_rfl) rfl #[.int .i64 (Int.tmod a1 a2)] rfl (by (try simp only [List.map_toArray, List.map_cons, List.map_nil]); first | done | rfl | (simp only [List.length_drop, List.length_take]; rfl)) ?_; (with_reducible refine (meddlerref1_Fits.calls (Int.tmod a1 a2) false _ A28.out).mono ?_); rintro e w' ⟨rfl, ⟨nd, rfl⟩⟩; refine ⟨_, rfl, ?_⟩))
                          go_ret2
                          exact ⟨by first | rfl | (simp; done) | (simp [*]; done), by repeat (first | exact Drawn0.refl _ | apply Drawn0.step)⟩
end Go.Proofs.Ytikjamcemnbhbaa.Mr
