/- An own text of this seat: Lean functions with the answers of Go functions, and that the Go code comes to them. Written by a program of this session out of the translation. -/
import Derived.Test.YtikjamcemnbhbaaMrx0
namespace Go.Proofs.Ytikjamcemnbhbaa.Mr
open Go.RowKit Go.Proofs.YtikjamcemnbhbaaW.PrintWords Go.Proofs.YtikjamcemnbhbaaW.PrintLast
set_option linter.unusedVariables false
set_option linter.unusedSimpArgs false

/-! ### cfg_isIn: function 56 -/
def cfg_isIn.f (a0 : Int) (a1 : Int) (a2 : Int) : Option (Bool) := if a0 ≥ a1 then (some (decide (a0 ≤ a2))) else (some false)
set_option maxHeartbeats 8000000 in
set_option maxRecDepth 100000 in
theorem cfg_isIn.calls (a0 : Int) (a1 : Int) (a2 : Int) (r : Bool) (w : World) (h : cfg_isIn.f a0 a1 a2 = some r) :
    Calls Try.prog 56 #[.int .i64 a0, .int .i64 a1, .int .i64 a2] w fun e w' => e = .returned (.bool r) ∧ Drawn0 w w' := by
  have H : (if a0 ≥ a1 then (some (decide (a0 ≤ a2))) else (some false)) = some r := h
  clear h
  by_cases c4 : a0 ≥ a1
  · rw [if_pos c4] at H
    have c4b0 : decide (a1 ≤ a0) = true := decide_eq_true c4
    clear c4
    obtain rfl := Option.some.inj H
    go_enter Try.func56, Try.ntmps56
    go_wp2
    go_ret
    exact ⟨by first | rfl | (simp; done) | (simp [*]; done), by repeat (first | exact Drawn0.refl _ | apply Drawn0.step)⟩
  · rw [if_neg c4] at H
    have c4b0 : decide (a1 ≤ a0) = false := decide_eq_false c4
    clear c4
    obtain rfl := Option.some.inj H
    go_enter Try.func56, Try.ntmps56
    go_wp2
    go_ret
    exact ⟨by first | rfl | (simp; done) | (simp [*]; done), by repeat (first | exact Drawn0.refl _ | apply Drawn0.step)⟩

/-- THE ONE PURE STATEMENT of cfg_isIn: yours. -/
def cfg_isIn.Pure : Prop := ∀ (a0 : Int) (a1 : Int) (a2 : Int), (Lit.int .i64 a0).wf = true → (Lit.int .i64 a1).wf = true → (Lit.int .i64 a2).wf = true → cfg_isIn.f a0 a1 a2 = some true
theorem cfg_isIn.walk (P : cfg_isIn.Pure) (a0 : Int) (a1 : Int) (a2 : Int) (w : World) (w0 : (Lit.int .i64 a0).wf = true) (w1 : (Lit.int .i64 a1).wf = true) (w2 : (Lit.int .i64 a2).wf = true) :
    Calls Try.prog 56 #[.int .i64 a0, .int .i64 a1, .int .i64 a2] w fun e w' => e = .returned (.bool true) ∧ Below w.heap.size w w' := by
  have h := P a0 a1 a2 w0 w1 w2
  refine (cfg_isIn.calls a0 a1 a2 true w h).mono ?_
  rintro e w' ⟨rfl, hd⟩
  exact ⟨rfl, hd.below⟩

-- NOT PRINTED: function 69 (slices_IndexFunc_int_int)

-- NOT PRINTED: function 57 (slices_ContainsFunc_int_int)

-- NOT PRINTED: function 70 (api_Code_70)

-- NOT PRINTED: function 59 (api_Code_59)

-- NOT PRINTED: function 40 (cfg_Is)

-- NOT PRINTED: function 41 (slices_Clone_int_int)

-- NOT PRINTED: function 42 (api_Act)

-- NOT PRINTED: function 19 (mach_New)

-- NOT PRINTED: function 43 (mach_Mach_thread)

-- NOT PRINTED: function 20 (mach_Mach_Next)

-- NOT PRINTED: function 21 (mach_Mach_Owner)
end Go.Proofs.Ytikjamcemnbhbaa.Mr
