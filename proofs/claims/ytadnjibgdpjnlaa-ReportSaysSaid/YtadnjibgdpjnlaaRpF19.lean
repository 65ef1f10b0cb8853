/- An own text of this seat: Lean functions with the answers of Go functions, and that the Go code comes to them. Written by a program of this session out of the translation. -/
import Derived.Test.YtadnjibgdpjnlaaRpx0
import Derived.Test.YtadnjibgdpjnlaaRpx1
namespace Go.Proofs.Ytadnjibgdpjnlaa.Rp
open Go.RowKit Go.Proofs.YtadnjibgdpjnlaaW.PrintWords Go.Proofs.YtadnjibgdpjnlaaW.PrintLast Go.Proofs.YtadnjibgdpjnlaaW.PrintMore
attribute [local go_sem] max2_int min2_int max_two min_two max_three min_three max_four min_four   -- for this text's walks alone
set_option linter.unusedVariables false
set_option linter.unusedSimpArgs false

attribute [local go_sem high] eqA24
/-! ### meddlerlaw15_may: function 19 -/
def meddlerlaw15_may.l0 : Nat → List (S31) → Int → Option (Bool)
  | 0, _, _ => none
  | k + 1, x0, x3 => if x3 < (x0.length : Int) then (if 0 ≤ x3 then (if ((rd_T31 x0 x3).f5) < 0 then (some false) else (if ((rd_T31 x0 x3).f5) ≥ 2147483648 then (some false) else (meddlerlaw15_may.l0 k x0 (wrap64 (x3 + 1))))) else (none)) else (some true)
def meddlerlaw15_may.f (k : Nat) (l0 : List (S31)) : Option (Bool) := meddlerlaw15_may.l0 k l0 0
theorem meddlerlaw15_may.mono_l : ∀ k, (∀ y0 y1, LeO (meddlerlaw15_may.l0 k y0 y1) (meddlerlaw15_may.l0 (k + 1) y0 y1))
  | 0 => fun _ _ r h => by simp [meddlerlaw15_may.l0] at h
  | k + 1 => by
    have ih0 := meddlerlaw15_may.mono_l k
    · intro y0 y1
      unfold meddlerlaw15_may.l0
      repeat' first
      | (with_reducible exact ih0 _ _)
      | (with_reducible exact LeO.refl _)
      | (with_reducible exact LeO.none _)
      | (with_reducible refine LeO.ite ?_ ?_)
      | (with_reducible refine LeO.bind ?_ (fun _ => ?_))
      | exact ih0 _ _
      | exact LeO.none _
      | refine LeO.ite ?_ ?_
      | refine LeO.bind ?_ (fun _ => ?_)
theorem meddlerlaw15_may.mono : ∀ a0 k, LeO (meddlerlaw15_may.f k a0) (meddlerlaw15_may.f (k + 1) a0) := by
  intro a0 k
  have ih0 := meddlerlaw15_may.mono_l k
  unfold meddlerlaw15_may.f
  repeat' first
      | (with_reducible exact ih0 _ _)
      | (with_reducible exact LeO.refl _)
      | (with_reducible exact LeO.none _)
      | (with_reducible refine LeO.ite ?_ ?_)
      | (with_reducible refine LeO.bind ?_ (fun _ => ?_))
      | exact ih0 _ _
      | exact LeO.none _
      | refine LeO.ite ?_ ?_
      | refine LeO.bind ?_ (fun _ => ?_)
set_option maxHeartbeats 8000000 in
set_option maxRecDepth 100000 in
theorem meddlerlaw15_may.calls (k : Nat) (A0 : Option Addr) (c0 : Nat) (l0 : List (S31)) (r : Bool) (w : World) (hr0 : Kd.C k31 w A0 l0.length l0) (hc0 : l0.length ≤ c0) (h : meddlerlaw15_may.f k l0 = some r) :
    Calls Try.prog 19 #[.slice A0 l0.length c0] w fun e w' => e = .returned (.bool r) ∧ Drawn0 w w' := by
  have HR0 := Aside0.mk hr0
  have HC0 := Aside0.mk hc0
  clear hr0 hc0
  have H : (meddlerlaw15_may.l0 k l0 0) = some r := h
  clear h
  have H' := Aside0.mk H
  clear H
  go_enter Try.func19, Try.ntmps19
  go_wp2
  go_loopg [3] k (fun kq v3 w' => ∃ (x3_1 : Int), v3 = .int .i64 x3_1 ∧ Aside0 (meddlerlaw15_may.l0 kq l0 x3_1 = some r) ∧ Aside0 (kq ≤ k) ∧ Drawn0 w w')
  case atStart => exact ⟨(0), (by first | rfl | (simp; done) | (simp [*]; done)), H', ⟨Nat.le_refl _⟩, by repeat (first | exact Drawn0.refl _ | apply Drawn0.step)⟩
  case round =>
    clear H'
    try clear c1
    obtain ⟨x3_1, rfl, HA, HK1, ⟨m1, rfl⟩⟩ := hrel
    cases gk with
    | zero => exact absurd HA.out (by simp [meddlerlaw15_may.l0])
    | succ k1 =>
      have H := HA.out
      clear HA
      simp only [meddlerlaw15_may.l0] at H
      by_cases c2 : x3_1 < (l0.length : Int)
      · rw [if_pos c2] at H
        have c2b0 : decide (x3_1 < (l0.length : Int)) = true := decide_eq_true c2
        clear c2
        by_cases c3 : 0 ≤ x3_1
        · rw [if_pos c3] at H
          have c3b0 : decide (0 ≤ x3_1) = true := decide_eq_true c3
          clear c3
          by_cases c4 : ((rd_T31 l0 x3_1).f5) < 0
          · rw [if_pos c4] at H
            have c4b0 : decide (((rd_T31 l0 x3_1).f5) < 0) = true := decide_eq_true c4
            clear c4
            obtain rfl := Option.some.inj H
            have p398 : 0 ≤ (x3_1 : Int) := of_decide_eq_true (by first | (with_reducible assumption) | assumption)
            have q398 : x3_1 < (l0.length : Int) := of_decide_eq_true (by first | (with_reducible assumption) | assumption)
            obtain ⟨ad398, e398, hx398_0, hx398_1, hx398_2, hx398_3, hx398_4, hx398_5⟩ := at_T31 HR0.out x3_1 p398 q398
            cases e398
            replace p398 := eq_true p398
            replace q398 := eq_true q398
            go_wp2
            go_ret
            exact ⟨by first | rfl | (simp; done) | (simp [*]; done), by repeat (first | exact Drawn0.refl _ | apply Drawn0.step)⟩
          · rw [if_neg c4] at H
            have c4b0 : decide (((rd_T31 l0 x3_1).f5) < 0) = false := decide_eq_false c4
            clear c4
            by_cases c5 : ((rd_T31 l0 x3_1).f5) ≥ 2147483648
            · rw [if_pos c5] at H
              have c5b0 : decide (2147483648 ≤ ((rd_T31 l0 x3_1).f5)) = true := decide_eq_true c5
              clear c5
              obtain rfl := Option.some.inj H
              have p398 : 0 ≤ (x3_1 : Int) := of_decide_eq_true (by first | (with_reducible assumption) | assumption)
              have q398 : x3_1 < (l0.length : Int) := of_decide_eq_true (by first | (with_reducible assumption) | assumption)
              obtain ⟨ad398, e398, hx398_0, hx398_1, hx398_2, hx398_3, hx398_4, hx398_5⟩ := at_T31 HR0.out x3_1 p398 q398
              cases e398
              replace p398 := eq_true p398
              replace q398 := eq_true q398
              have p399 : 0 ≤ (x3_1 : Int) := of_decide_eq_true (by first | (with_reducible assumption) | assumption)
              have q399 : x3_1 < (l0.length : Int) := of_decide_eq_true (by first | (with_reducible assumption) | assumption)
              obtain ⟨ad399, e399, hx399_0, hx399_1, hx399_2, hx399_3, hx399_4, hx399_5⟩ := at_T31 HR0.out x3_1 p399 q399
              obtain rfl : ad398 = ad399 := (by injection e399)
              replace p399 := eq_true p399
              replace q399 := eq_true q399
              go_wp2
              go_ret
              exact ⟨by first | rfl | (simp; done) | (simp [*]; done), by repeat (first | exact Drawn0.refl _ | apply Drawn0.step)⟩
            · rw [if_neg c5] at H
              have c5b0 : decide (2147483648 ≤ ((rd_T31 l0 x3_1).f5)) = false := decide_eq_false c5
              clear c5
              have H' := Aside0.mk H
              clear H
              have p398 : 0 ≤ (x3_1 : Int) := of_decide_eq_true (by first | (with_reducible assumption) | assumption)
              have q398 : x3_1 < (l0.length : Int) := of_decide_eq_true (by first | (with_reducible assumption) | assumption)
              obtain ⟨ad398, e398, hx398_0, hx398_1, hx398_2, hx398_3, hx398_4, hx398_5⟩ := at_T31 HR0.out x3_1 p398 q398
              cases e398
              replace p398 := eq_true p398
              replace q398 := eq_true q398
              have p399 : 0 ≤ (x3_1 : Int) := of_decide_eq_true (by first | (with_reducible assumption) | assumption)
              have q399 : x3_1 < (l0.length : Int) := of_decide_eq_true (by first | (with_reducible assumption) | assumption)
              obtain ⟨ad399, e399, hx399_0, hx399_1, hx399_2, hx399_3, hx399_4, hx399_5⟩ := at_T31 HR0.out x3_1 p399 q399
              obtain rfl : ad398 = ad399 := (by injection e399)
              replace p399 := eq_true p399
              replace q399 := eq_true q399
              go_wp2
              go_roundg k1
              case measure => have := HK1.out; omega
              case rel => exact ⟨(wrap64 (x3_1 + 1)), (by first | rfl | (simp; done) | (simp [*]; done)), H', ⟨by have := HK1.out; omega⟩, by repeat (first | exact Drawn0.refl _ | apply Drawn0.step)⟩
        · rw [if_neg c3] at H
          exact absurd H (by simp)
      · rw [if_neg c2] at H
        have c2b0 : decide (x3_1 < (l0.length : Int)) = false := decide_eq_false c2
        clear c2
        obtain rfl := Option.some.inj H
        go_wp2
        go_ret
        exact ⟨by first | rfl | (simp; done) | (simp [*]; done), by repeat (first | exact Drawn0.refl _ | apply Drawn0.step)⟩
end Go.Proofs.Ytadnjibgdpjnlaa.Rp
