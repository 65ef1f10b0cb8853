/- num.Do and num.Fits at once: no rounds. -/
import Derived.Test.YtikjamcemnbhbaaMrF63
namespace Go.Proofs.Ytikjamcemnbhbaa.Mr
open Go.RowKit Go.Proofs.YtikjamcemnbhbaaW.PrintWords Go.Proofs.YtikjamcemnbhbaaW.PrintLast Go.Proofs.YtikjamcemnbhbaaW.PrintMore
def fitsB (a : Int) : Bool := decide (-2147483648 ≤ a ∧ a ≤ 2147483647)
theorem fits1 (k : Nat) (a : Int) : num_Fits.f (k + 2) [a] = some (fitsB a) := by
  simp only [num_Fits.f, num_Fits.l0, List.length_cons, List.length_nil]
  by_cases h1 : a < -2147483648
  · simp [rd, h1, fitsB] <;> omega
  · by_cases h2 : a > 2147483647
    · simp [rd, h1, h2, fitsB] <;> omega
    · simp [rd, h1, h2, fitsB, wrap64] <;> omega
theorem fits2 (k : Nat) (a b : Int) : num_Fits.f (k + 3) [a, b] = some (fitsB a && fitsB b) := by
  simp only [num_Fits.f, num_Fits.l0, List.length_cons, List.length_nil]
  by_cases h1 : a < -2147483648
  · simp [rd, h1, fitsB] <;> omega
  · by_cases h2 : a > 2147483647
    · simp [rd, h1, h2, fitsB] <;> omega
    · by_cases h3 : b < -2147483648
      · simp [rd, h1, h2, h3, fitsB, wrap64] <;> omega
      · by_cases h4 : b > 2147483647
        · simp [rd, h1, h2, h3, h4, fitsB, wrap64] <;> omega
        · simp [rd, h1, h2, h3, h4, fitsB, wrap64] <;> omega
def opN (op x y : Int) : Int := if op = 1 then wrap64 (x + y) else if op = 2 then wrap64 (x - y) else if op = 3 then wrap64 (x * y) else if op = 4 then wrap64 (x.tdiv y) else x.tmod y
/-- num.Do: the number, the error. -/
def doP (op x y : Int) : Int × Int :=
  if (fitsB x && fitsB y) = true then
    (if op < 1 then (0, 1) else if op > 5 then (0, 1) else if op ≥ 4 ∧ y = 0 then (0, 8) else if fitsB (opN op x y) = true then (opN op x y, 0) else (0, 7))
  else (0, 1)
theorem do_ok (op x y : Int) : num_Do.f 9 op x y = some (doP op x y) := by
  rw [num_Do.f, show (9 : Nat) = 6 + 3 from rfl, fits2 6]
  simp only [Option.bind_some, num_Do.j0, num_Do.j1, fits1]
  unfold doP
  by_cases hf : (fitsB x && fitsB y) = true
  · rw [if_pos hf, if_pos hf]
    by_cases h1 : op < 1
    · simp [h1]
    · by_cases h5 : op > 5
      · simp [h1, h5]
      · by_cases hy : y = 0
        · obtain h | h | h | h | h : op = 1 ∨ op = 2 ∨ op = 3 ∨ op = 4 ∨ op = 5 := by omega
          all_goals (subst h; subst hy; simp [opN]; try (split <;> rfl))
        · obtain h | h | h | h | h : op = 1 ∨ op = 2 ∨ op = 3 ∨ op = 4 ∨ op = 5 := by omega
          all_goals (subst h; simp [opN, hy]; try (split <;> rfl))
  · rw [if_neg hf, if_neg hf]
    simp
end Go.Proofs.Ytikjamcemnbhbaa.Mr
