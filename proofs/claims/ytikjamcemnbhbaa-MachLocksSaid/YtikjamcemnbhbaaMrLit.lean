/- The function literals of cfg.Is and cfg.isAct that look at one number. -/
import Derived.Test.YtikjamcemnbhbaaMrFn
import Derived.Test.YtikjamcemnbhbaaMrF56
namespace Go.Proofs.Ytikjamcemnbhbaa.Mr
open Go.RowKit Go.Proofs.YtikjamcemnbhbaaW.PrintWords Go.Proofs.YtikjamcemnbhbaaW.PrintLast Go.Proofs.YtikjamcemnbhbaaW.PrintMore
set_option linter.unusedVariables false
set_option linter.unusedSimpArgs false
def inB (n lo hi : Int) : Bool := decide (lo ≤ n ∧ n ≤ hi)
theorem in_ok (n lo hi : Int) : cfg_isIn.f n lo hi = some (inB n lo hi) := by
  unfold cfg_isIn.f inB
  by_cases h : n ≥ lo
  · have h' : lo ≤ n := h
    simp [h, h']
  · have h' : ¬ lo ≤ n := h
    simp [h, h']
theorem in_calls (n lo hi : Int) (w : World) : Calls Try.prog 56 #[.int .i64 n, .int .i64 lo, .int .i64 hi] w fun e w' => e = .returned (.bool (inB n lo hi)) ∧ Below w.heap.size w w' :=
  (cfg_isIn.calls n lo hi _ w (in_ok n lo hi)).mono fun e w' h => ⟨h.1, h.2.below⟩
set_option maxHeartbeats 2000000 in
theorem lit58 (n : Int) (w : World) : Calls Try.prog 58 #[.int .i64 n] w fun e w' => e = .returned (.bool (!inB n 1 16)) ∧ Below w.heap.size w w' := by
  have HC := Aside0.mk (in_calls n 1 16 w)
  go_enter Try.func58, Try.ntmps58
  go_wp2_with (go_at_call 56; refine HC.out.mono ?_; rintro e w1 ⟨rfl, hb⟩)
  go_ret
  exact ⟨rfl, hb⟩
set_option maxHeartbeats 2000000 in
theorem lit80 (n nv : Int) (v : Value) (g : Nat) (w : World) (hg : w.heap[g]? = some (.cells #[.int .i64 nv, v] 49 (0, 0))) (hw : wrap64 (nv - 1) = nv - 1) :
    Calls Try.prog 80 #[.int .i64 n, .pointer (some ⟨g, 0, none⟩)] w fun e w' => e = .returned (.bool (!inB n 0 (nv - 1))) ∧ Below w.heap.size w w' := by
  have HC := Aside0.mk (in_calls n 0 (wrap64 (nv - 1)) w)
  have HW := Aside0.mk hw
  have hc := (blk_cell hg 0).trans rfl
  clear hg hw
  go_enter Try.func80, Try.ntmps80
  go_wp2_with (go_at_call 56; refine HC.out.mono ?_; rintro e w1 ⟨rfl, hb⟩)
  go_ret
  exact ⟨by rw [HW.out]; rfl, hb⟩
end Go.Proofs.Ytikjamcemnbhbaa.Mr
