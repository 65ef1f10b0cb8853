/- meddlerref8.Ints at two equal rows; rows of rows that a law keeps. -/
import Derived.Test.YtikjamcemnbhbaaMrPkG
import Derived.Test.YtikjamcemnbhbaaMrPkF
import Derived.Test.YtikjamcemnbhbaaMrF26
namespace Go.Proofs.Ytikjamcemnbhbaa.Mr
open Go.RowKit Go.Proofs.YtikjamcemnbhbaaW.PrintWords Go.Proofs.YtikjamcemnbhbaaW.PrintLast
set_option linter.unusedVariables false
set_option linter.unusedSimpArgs false
theorem ints_l0 (a : List Int) (hl : a.length ≤ 1000000) : ∀ d i, a.length - i = d → Ev (fun k => meddlerref8_Ints.l0 k a a (i : Nat)) true := by
  intro d
  induction d with
  | zero =>
    intro i hi
    refine Ev_shift ?_
    simp only [meddlerref8_Ints.l0]
    exact Ev_neg (by omega) (Ev.now _)
  | succ d ih =>
    intro i hi
    refine Ev_shift ?_
    simp only [meddlerref8_Ints.l0]
    refine Ev_pos (by omega) (Ev_pos (by omega) (Ev_pos (by omega) (Ev_pos (by trivial) ?_)))
    rw [wrap_succ (n := a.length) (by omega) (by omega)]
    exact ih (i + 1) (by omega)
theorem ints_same (w : World) (a b : List Int) (hab : a = b) (hl : a.length ≤ 1000000) (A0 : Option Addr) (c0 : Nat) (A1 : Option Addr) (c1 : Nat) (h0 : Kd.C (Kd.int .i64) w A0 a.length a) (hc0 : a.length ≤ c0) (h1 : Kd.C (Kd.int .i64) w A1 b.length b) (hc1 : b.length ≤ c1) :
    Calls Try.prog 26 #[.slice A0 a.length c0, .slice A1 b.length c1] w fun e w' => e = .returned (.bool true) ∧ Below w.heap.size w w' := by
  subst hab
  have he : Ev (fun k => meddlerref8_Ints.f k a a) true := by
    simp only [meddlerref8_Ints.f]
    exact Ev_pos (by trivial) (ints_l0 a hl a.length 0 rfl)
  obtain ⟨k, hk⟩ := he.rounds
  exact (meddlerref8_Ints.calls k A0 c0 a A1 c1 a true w h0 hc0 h1 hc1 hk).mono fun e w' h => ⟨h.1, h.2.below⟩
/-- A row that was handed out, by its value. -/
def OwnOut (xs : List Int) (w : World) (e : Ending) (w' : World) : Prop := ∃ A c, e = .returned (.slice A xs.length c) ∧ Aside0 (w'.ownsRow w.heap.size 3 1 (.slice A xs.length c) xs.length (nums .i64 xs)) ∧ Below w.heap.size w w'
end Go.Proofs.Ytikjamcemnbhbaa.Mr
