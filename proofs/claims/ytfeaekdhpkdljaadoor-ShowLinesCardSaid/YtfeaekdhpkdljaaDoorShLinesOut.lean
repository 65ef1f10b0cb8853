/- ShLines out of range. -/
import Derived.Test.YtfeaekdhpkdljaaDoorShAnd
import Derived.Deep.DeepCutAuto
import Derived.Deep.CutBlock
namespace Go.Proofs.YtfeaekdhpkdljaaDoor.Sh
open Go.RowKit Go.Proofs.YtfeaekdhpkdljaaDoorW.PrintWords Go.Proofs.YtfeaekdhpkdljaaDoorW.PrintLast
set_option maxHeartbeats 8000000 in
set_option maxRecDepth 100000 in
theorem lines_out (g a m : Int) (A : Option Addr) (c n : Nat) (w0 : World) (h : g < 0 ∨ 6 < g ∨ a < 0 ∨ 3 < a ∨ m < 0 ∨ 6 < m ∨ (4 : Int) < (n : Int)) :
    Calls Tryd.prog 6 #[.int .i64 g, .int .i64 a, .int .i64 m, .slice A n c] w0 fun e w' => e = .returned (.bool true) ∧ Below w0.heap.size w0 w' := by
  rcases h with h | h | h | h | h | h | h <;>
  (go_enter Tryd.func6, Tryd.ntmps6
   go_upto_region 3 with fail
   all_goals first | (go_ret; exact ⟨rfl, Below.refl _ _⟩) | (exfalso; omega))
end Go.Proofs.YtfeaekdhpkdljaaDoor.Sh
