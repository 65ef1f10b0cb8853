/- An own text of this seat: Lean functions with the answers of Go functions, and that the Go code comes to them. Written by a program of this session out of the translation. -/
import Derived.Test.YtfeaekdhpkdljaaDoorShx0
import Derived.Test.YtfeaekdhpkdljaaDoorShF36
namespace Go.Proofs.YtfeaekdhpkdljaaDoor.Sh
open Go.RowKit Go.Proofs.YtfeaekdhpkdljaaDoorW.PrintWords Go.Proofs.YtfeaekdhpkdljaaDoorW.PrintLast Go.Proofs.YtfeaekdhpkdljaaDoorW.PrintMore
attribute [local go_sem] max2_int min2_int max_two min_two max_three min_three max_four min_four   -- for this text's walks alone
set_option linter.unusedVariables false
set_option linter.unusedSimpArgs false

-- NOT PRINTED: function 46 (meddlerref6_stmt)

-- NOT PRINTED: function 28 (meddlerref6_stmts)

-- NOT PRINTED: function 12 (meddlerref6_Print)

-- NOT PRINTED: function 17 (meddlerlaw6_known)

-- NOT PRINTED: function 3 (meddlerlaw6_ShowPrints)

/-! ### meddlerref4_number: function 37 -/
mutual
def meddlerref4_number.l0 : Nat → List Int → Int → Int → Option (Int × Int)
  | 0, _, _, _ => none
  | k + 1, x0, x1, x6 => if x1 < (x0.length : Int) then (if 0 ≤ x1 then ((meddlerref4_digit.f (rd x0 x1)).bind fun t244 => (meddlerref4_number.j1 k x0 x1 x6 t244)) else (none)) else (meddlerref4_number.j1 k x0 x1 x6 false)
def meddlerref4_number.j1 : Nat → List Int → Int → Int → Bool → Option (Int × Int)
  | 0, _, _, _, _ => none
  | k + 1, x0, x1, x6, x17 => if x17 = true then (if x6 ≤ 2147483647 then (if 0 ≤ x1 then (if x1 < (x0.length : Int) then (meddlerref4_number.l0 k x0 (wrap64 (x1 + 1)) (wrap64 ((wrap64 ((wrap64 (10 * x6)) + (wrap64 (rd x0 x1)))) - 48))) else (none)) else (none)) else (meddlerref4_number.l0 k x0 (wrap64 (x1 + 1)) x6)) else (if x6 > 2147483647 then (some ((-1), x1)) else (some (x6, x1)))
end
def meddlerref4_number.f (k : Nat) (l0 : List Int) (a1 : Int) : Option (Int × Int) := meddlerref4_number.l0 k l0 a1 0
theorem meddlerref4_number.mono_l : ∀ k, (∀ y0 y1 y2, LeO (meddlerref4_number.l0 k y0 y1 y2) (meddlerref4_number.l0 (k + 1) y0 y1 y2)) ∧ (∀ y0 y1 y2 y3, LeO (meddlerref4_number.j1 k y0 y1 y2 y3) (meddlerref4_number.j1 (k + 1) y0 y1 y2 y3))
  | 0 => ⟨fun _ _ _ r h => by simp [meddlerref4_number.l0] at h, fun _ _ _ _ r h => by simp [meddlerref4_number.j1] at h⟩
  | k + 1 => by
    obtain ⟨ih0, ih1⟩ := meddlerref4_number.mono_l k
    refine ⟨?_, ?_⟩
    · intro y0 y1 y2
      unfold meddlerref4_number.l0
      repeat' first
      | (with_reducible exact ih0 _ _ _)
      | (with_reducible exact ih1 _ _ _ _)
      | (with_reducible exact LeO.refl _)
      | (with_reducible exact LeO.none _)
      | (with_reducible refine LeO.ite ?_ ?_)
      | (with_reducible refine LeO.bind ?_ (fun _ => ?_))
      | exact ih0 _ _ _
      | exact ih1 _ _ _ _
      | exact LeO.none _
      | refine LeO.ite ?_ ?_
      | refine LeO.bind ?_ (fun _ => ?_)
    · intro y0 y1 y2 y3
      unfold meddlerref4_number.j1
      repeat' first
      | (with_reducible exact ih0 _ _ _)
      | (with_reducible exact ih1 _ _ _ _)
      | (with_reducible exact LeO.refl _)
      | (with_reducible exact LeO.none _)
      | (with_reducible refine LeO.ite ?_ ?_)
      | (with_reducible refine LeO.bind ?_ (fun _ => ?_))
      | exact ih0 _ _ _
      | exact ih1 _ _ _ _
      | exact LeO.none _
      | refine LeO.ite ?_ ?_
      | refine LeO.bind ?_ (fun _ => ?_)
theorem meddlerref4_number.mono : ∀ a0 a1 k, LeO (meddlerref4_number.f k a0 a1) (meddlerref4_number.f (k + 1) a0 a1) := by
  intro a0 a1 k
  obtain ⟨ih0, ih1⟩ := meddlerref4_number.mono_l k
  unfold meddlerref4_number.f
  repeat' first
      | (with_reducible exact ih0 _ _ _)
      | (with_reducible exact ih1 _ _ _ _)
      | (with_reducible exact LeO.refl _)
      | (with_reducible exact LeO.none _)
      | (with_reducible refine LeO.ite ?_ ?_)
      | (with_reducible refine LeO.bind ?_ (fun _ => ?_))
      | exact ih0 _ _ _
      | exact ih1 _ _ _ _
      | exact LeO.none _
      | refine LeO.ite ?_ ?_
      | refine LeO.bind ?_ (fun _ => ?_)
set_option maxHeartbeats 8000000 in
set_option maxRecDepth 100000 in
theorem meddlerref4_number.calls (k : Nat) (A0 : Option Addr) (c0 : Nat) (l0 : List Int) (a1 : Int) (r1 : Int) (r2 : Int) (w : World) (hr0 : Kd.C (Kd.int .u8) w A0 l0.length l0) (hc0 : l0.length ≤ c0) (h : meddlerref4_number.f k l0 a1 = some (r1, r2)) :
    Calls Tryd.prog 37 #[.slice A0 l0.length c0, .int .i64 a1] w fun e w' => e = .returned (.tuple #[.int .i64 r1, .int .i64 r2]) ∧ Drawn0 w w' := by
  have HR0 := Aside0.mk hr0
  have HC0 := Aside0.mk hc0
  clear hr0 hc0
  have H : (meddlerref4_number.l0 k l0 a1 0) = some (r1, r2) := h
  clear h
  have H' := Aside0.mk H
  clear H
  go_enter Tryd.func37, Tryd.ntmps37
  go_wp2
  go_loopg [1, 6] k (fun kq v1 v6 w' => ∃ (x1_1 : Int) (x6_1 : Int), v1 = .int .i64 x1_1 ∧ v6 = .int .i64 x6_1 ∧ Aside0 (meddlerref4_number.l0 kq l0 x1_1 x6_1 = some (r1, r2)) ∧ Aside0 (kq ≤ k) ∧ Drawn0 w w')
  case atStart => exact ⟨(a1), (0), (by first | rfl | (simp; done) | (simp [*]; done)), (by first | rfl | (simp; done) | (simp [*]; done)), H', ⟨Nat.le_refl _⟩, by repeat (first | exact Drawn0.refl _ | apply Drawn0.step)⟩
  case round =>
    clear H'
    try clear p2
    obtain ⟨x1_1, x6_1, rfl, rfl, HA, HK1, ⟨m1, rfl⟩⟩ := hrel
    cases gk with
    | zero => exact absurd HA.out (by simp [meddlerref4_number.l0])
    | succ k1 =>
      have H := HA.out
      clear HA
      simp only [meddlerref4_number.l0] at H
      have HC3 := Aside0.mk H
      clear H
      go_upto_region 2 with (fail)
      go_cut [17] (fun v17 wc => ∃ (kq : Nat) (x17_2 : Bool), v17 = .bool x17_2 ∧ Aside0 (meddlerref4_number.j1 kq l0 x1_1 x6_1 x17_2 = some (r1, r2)) ∧ Aside0 (kq ≤ k1) ∧ Drawn0 w wc)
      case first =>
        have H := HC3.out
        clear HC3
        by_cases c4 : x1_1 < (l0.length : Int)
        · rw [if_pos c4] at H
          have c4b0 : decide (x1_1 < (l0.length : Int)) = true := decide_eq_true c4
          clear c4
          (first | rw [c4b0] | (simp only [i64_w, i32_w]; rw [c4b0]) | skip)
          by_cases c5 : 0 ≤ x1_1
          · rw [if_pos c5] at H
            have c5b0 : decide (0 ≤ x1_1) = true := decide_eq_true c5
            clear c5
            replace H := Option.bind_eq_some_iff.mp H
            obtain ⟨t244, A60, H⟩ := H
            replace H : (meddlerref4_number.j1 k1 l0 x1_1 x6_1 t244) = some (r1, r2) := H
            have A6 := Aside0.mk A60
            clear A60
            have H' := Aside0.mk H
            clear H
            have p243 : 0 ≤ (x1_1 : Int) := of_decide_eq_true (by first | (with_reducible assumption) | assumption)
            have q243 : x1_1 < (l0.length : Int) := of_decide_eq_true (by first | (with_reducible assumption) | assumption)
            obtain ⟨ad243, e243, hx243_0⟩ := Kd.at_int HR0.out x1_1 p243 q243
            cases e243
            replace p243 := eq_true p243
            replace q243 := eq_true q243
            go_wp2_with (first | (go_at_call 36; (with_reducible refine (meddlerref4_digit.calls (rd l0 x1_1) t244 _ A6.out).mono ?_); rintro e w' ⟨rfl, ⟨nd, rfl⟩⟩))
            go_meet
            case rel => exact ⟨_, (t244), (by first | rfl | (simp; done) | (simp [*]; done)), H', ⟨by have := HK1.out; first | omega | exact Nat.le_refl _⟩, by repeat (first | exact Drawn0.refl _ | apply Drawn0.step)⟩
          · rw [if_neg c5] at H
            exact absurd H (by simp)
        · rw [if_neg c4] at H
          have c4b0 : decide (x1_1 < (l0.length : Int)) = false := decide_eq_false c4
          clear c4
          (first | rw [c4b0] | (simp only [i64_w, i32_w]; rw [c4b0]) | skip)
          have H' := Aside0.mk H
          clear H
          go_wp2
          go_meet
          case rel => exact ⟨_, (false), (by first | rfl | (simp; done) | (simp [*]; done)), H', ⟨by have := HK1.out; first | omega | exact Nat.le_refl _⟩, by repeat (first | exact Drawn0.refl _ | apply Drawn0.step)⟩
      case rest =>
        clear HC3
        try clear p2
        try clear q2
        try clear hx2
        try clear c3
        try clear c4
        try clear c4b0
        try clear c5
        try clear c5b0
        try clear hx243_0
        try clear p2
        try clear p243
        try clear q243
        obtain ⟨kq, x17_2, rfl, HA, HJ2, ⟨mc2, rfl⟩⟩ := hcut
        cases kq with
        | zero => exact absurd HA.out (by simp [meddlerref4_number.j1])
        | succ kj2 =>
          have H := HA.out
          clear HA
          simp only [meddlerref4_number.j1] at H
          by_cases c7 : x17_2 = true
          · subst c7
            have H1 : (if x6_1 ≤ 2147483647 then (if 0 ≤ x1_1 then (if x1_1 < (l0.length : Int) then (meddlerref4_number.l0 kj2 l0 (wrap64 (x1_1 + 1)) (wrap64 ((wrap64 ((wrap64 (10 * x6_1)) + (wrap64 (rd l0 x1_1)))) - 48))) else (none)) else (none)) else (meddlerref4_number.l0 kj2 l0 (wrap64 (x1_1 + 1)) x6_1)) = some (r1, r2) := by rw [if_pos rfl] at H; exact H
            clear H
            have H := H1
            clear H1
            by_cases c8 : x6_1 ≤ 2147483647
            · rw [if_pos c8] at H
              have c8b0 : decide (x6_1 ≤ 2147483647) = true := decide_eq_true c8
              clear c8
              by_cases c9 : 0 ≤ x1_1
              · rw [if_pos c9] at H
                have c9b0 : decide (0 ≤ x1_1) = true := decide_eq_true c9
                clear c9
                by_cases c10 : x1_1 < (l0.length : Int)
                · rw [if_pos c10] at H
                  have c10b0 : decide (x1_1 < (l0.length : Int)) = true := decide_eq_true c10
                  clear c10
                  have H' := Aside0.mk H
                  clear H
                  have p245 : 0 ≤ (x1_1 : Int) := of_decide_eq_true (by first | (with_reducible assumption) | assumption)
                  have q245 : x1_1 < (l0.length : Int) := of_decide_eq_true (by first | (with_reducible assumption) | assumption)
                  obtain ⟨ad245, e245, hx245_0⟩ := Kd.at_int HR0.out x1_1 p245 q245
                  cases e245
                  replace p245 := eq_true p245
                  replace q245 := eq_true q245
                  go_wp2
                  go_roundg kj2
                  case measure => have := HK1.out; have := HJ2.out; omega
                  case rel => exact ⟨(wrap64 (x1_1 + 1)), (wrap64 ((wrap64 ((wrap64 (10 * x6_1)) + (wrap64 (rd l0 x1_1)))) - 48)), (by first | rfl | (simp; done) | (simp [*]; done)), (by first | rfl | (simp; done) | (simp [*]; done)), H', ⟨by have := HK1.out; have := HJ2.out; omega⟩, by repeat (first | exact Drawn0.refl _ | apply Drawn0.step)⟩
                · rw [if_neg c10] at H
                  exact absurd H (by simp)
              · rw [if_neg c9] at H
                exact absurd H (by simp)
            · rw [if_neg c8] at H
              have c8b0 : decide (x6_1 ≤ 2147483647) = false := decide_eq_false c8
              clear c8
              have H' := Aside0.mk H
              clear H
              go_wp2
              go_roundg kj2
              case measure => have := HK1.out; have := HJ2.out; omega
              case rel => exact ⟨(wrap64 (x1_1 + 1)), (x6_1), (by first | rfl | (simp; done) | (simp [*]; done)), (by first | rfl | (simp; done) | (simp [*]; done)), H', ⟨by have := HK1.out; have := HJ2.out; omega⟩, by repeat (first | exact Drawn0.refl _ | apply Drawn0.step)⟩
          · replace c7 := Bool.eq_false_iff.mpr c7
            subst c7
            have H1 : (if x6_1 > 2147483647 then (some ((-1), x1_1)) else (some (x6_1, x1_1))) = some (r1, r2) := by rw [if_neg (show ¬ (false = true) by decide)] at H; exact H
            clear H
            have H := H1
            clear H1
            by_cases c11 : x6_1 > 2147483647
            · rw [if_pos c11] at H
              have c11b0 : decide (2147483647 < x6_1) = true := decide_eq_true c11
              clear c11
              simp only [Option.some.injEq, Prod.mk.injEq] at H
              obtain ⟨rfl, rfl⟩ := H
              go_wp2
              go_ret2
              exact ⟨by first | rfl | (simp; done) | (simp [*]; done), by repeat (first | exact Drawn0.refl _ | apply Drawn0.step)⟩
            · rw [if_neg c11] at H
              have c11b0 : decide (2147483647 < x6_1) = false := decide_eq_false c11
              clear c11
              simp only [Option.some.injEq, Prod.mk.injEq] at H
              obtain ⟨rfl, rfl⟩ := H
              go_wp2
              go_ret2
              exact ⟨by first | rfl | (simp; done) | (simp [*]; done), by repeat (first | exact Drawn0.refl _ | apply Drawn0.step)⟩
end Go.Proofs.YtfeaekdhpkdljaaDoor.Sh
