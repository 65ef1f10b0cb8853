/- From what the rows of these laws read to what the contracts ask: the structs. -/
import Derived.Test.YtikjamcemnbhbaaOpens
import Derived.Test.YtikjamcemnbhbaaMrUnit
namespace Go.Proofs.Ytikjamcemnbhbaa.Mr
open Go.RowKit Go.ChangeShapes Go.WideShapes Go.Proofs.YtikjamcemnbhbaaW.PrintWords Go.Proofs.Ytikjamcemnbhbaa.Opens
/-- What holds of every value of struct type 33 that comes in. -/
def W33 (x : S33) : Prop := (Lit.int .i64 x.f0).wf = true ∧ (Lit.int .i64 x.f1).wf = true ∧ (Lit.int .i64 x.f2).wf = true ∧ (Lit.int .i64 x.f3).wf = true ∧ (Lit.int .i64 x.f4).wf = true ∧ (Lit.int .i64 x.f5).wf = true ∧ (Lit.int .i64 x.f6).wf = true ∧ (Lit.int .i64 x.f7).wf = true ∧ (Lit.int .i64 x.f8).wf = true
theorem opens33 {w : World} : Opens Try.prog w k33 33 W33 := by
  have h := opens_struct (P := Try.prog) (w := w) (t := 33) (d := (Kd.pair (Kd.int .i64) (Kd.pair (Kd.int .i64) (Kd.pair (Kd.int .i64) (Kd.pair (Kd.int .i64) (Kd.pair (Kd.int .i64) (Kd.pair (Kd.int .i64) (Kd.pair (Kd.int .i64) (Kd.pair (Kd.int .i64) (Kd.int .i64)))))))))) Try.underlying33 (by kernel_rfl) (opensF_cons rfl (by kernel_rfl) (opens_int Try.underlying3) (opensF_cons rfl (by kernel_rfl) (opens_int Try.underlying3) (opensF_cons rfl (by kernel_rfl) (opens_int Try.underlying3) (opensF_cons rfl (by kernel_rfl) (opens_int Try.underlying3) (opensF_cons rfl (by kernel_rfl) (opens_int Try.underlying3) (opensF_cons rfl (by kernel_rfl) (opens_int Try.underlying3) (opensF_cons rfl (by kernel_rfl) (opens_int Try.underlying3) (opensF_cons rfl (by kernel_rfl) (opens_int Try.underlying3) (opensF_last rfl (by kernel_rfl) (opens_int Try.underlying3)))))))))) (fun x : S33 => (x.f0, x.f1, x.f2, x.f3, x.f4, x.f5, x.f6, x.f7, x.f8)) (fun y => (⟨y.1, y.2.1, y.2.2.1, y.2.2.2.1, y.2.2.2.2.1, y.2.2.2.2.2.1, y.2.2.2.2.2.2.1, y.2.2.2.2.2.2.2.1, y.2.2.2.2.2.2.2.2⟩ : S33)) (fun _ => rfl)
  exact h
/-- What holds of every value of struct type 49 that comes in. -/
def W49 (x : S49) : Prop := (Lit.int .i64 x.f0).wf = true ∧ (x.f1.length ≤ maxLen ∧ x.f1.length * Try.prog.bytesOf 33 ≤ 140737488351232 ∧ ∀ x_f1_ ∈ x.f1, W33 x_f1_)
theorem opens49 {w : World} : Opens Try.prog w k49 49 W49 := by
  have h := opens_struct (P := Try.prog) (w := w) (t := 49) (d := (Kd.pair (Kd.int .i64) (Kd.slice 33 k33))) Try.underlying49 (by kernel_rfl) (opensF_cons rfl (by kernel_rfl) (opens_int Try.underlying3) (opensF_last rfl (by kernel_rfl) (opens_slice Try.underlying47 (by kernel_rfl) opens33))) (fun x : S49 => (x.f0, x.f1)) (fun y => (⟨y.1, y.2⟩ : S49)) (fun _ => rfl)
  exact h
/-- What holds of every value of struct type 25 that comes in. -/
def W25 (x : S25) : Prop := (x.f0.length ≤ maxLen ∧ x.f0.length * Try.prog.bytesOf 3 ≤ 140737488351232 ∧ ∀ x_f0_ ∈ x.f0, (Lit.int .i64 x_f0_).wf = true) ∧ (x.f1.length ≤ maxLen ∧ x.f1.length * Try.prog.bytesOf 3 ≤ 140737488351232 ∧ ∀ x_f1_ ∈ x.f1, (Lit.int .i64 x_f1_).wf = true) ∧ (Lit.int .i64 x.f2).wf = true ∧ (x.f3.length ≤ maxLen ∧ x.f3.length * Try.prog.bytesOf 49 ≤ 140737488351232 ∧ ∀ x_f3_ ∈ x.f3, W49 x_f3_)
theorem opens25 {w : World} : Opens Try.prog w k25 25 W25 := by
  have h := opens_struct (P := Try.prog) (w := w) (t := 25) (d := (Kd.pair (Kd.slice 3 (Kd.int .i64)) (Kd.pair (Kd.slice 3 (Kd.int .i64)) (Kd.pair (Kd.int .i64) (Kd.slice 49 k49))))) Try.underlying25 (by kernel_rfl) (opensF_cons rfl (by kernel_rfl) (opens_slice Try.underlying22 (by kernel_rfl) (opens_int Try.underlying3)) (opensF_cons rfl (by kernel_rfl) (opens_slice Try.underlying22 (by kernel_rfl) (opens_int Try.underlying3)) (opensF_cons rfl (by kernel_rfl) (opens_int Try.underlying3) (opensF_last rfl (by kernel_rfl) (opens_slice Try.underlying23 (by kernel_rfl) opens49))))) (fun x : S25 => (x.f0, x.f1, x.f2, x.f3)) (fun y => (⟨y.1, y.2.1, y.2.2.1, y.2.2.2⟩ : S25)) (fun _ => rfl)
  exact h
/-- What holds of every value of struct type 37 that comes in. -/
def W37 (x : S37) : Prop := (Lit.int .i64 x.f0).wf = true ∧ (Lit.int .i64 x.f1).wf = true
theorem opens37 {w : World} : Opens Try.prog w k37 37 W37 := by
  have h := opens_struct (P := Try.prog) (w := w) (t := 37) (d := (Kd.pair (Kd.int .i64) (Kd.int .i64))) Try.underlying37 (by kernel_rfl) (opensF_cons rfl (by kernel_rfl) (opens_int Try.underlying3) (opensF_last rfl (by kernel_rfl) (opens_int Try.underlying3))) (fun x : S37 => (x.f0, x.f1)) (fun y => (⟨y.1, y.2⟩ : S37)) (fun _ => rfl)
  exact h
/-- What holds of every value of struct type 70 that comes in. -/
def W70 (x : S70) : Prop := (Lit.int .i64 x.f0).wf = true ∧ (Lit.int .i64 x.f1).wf = true
theorem opens70 {w : World} : Opens Try.prog w k70 70 W70 := by
  have h := opens_struct (P := Try.prog) (w := w) (t := 70) (d := (Kd.pair (Kd.int .i64) (Kd.int .i64))) Try.underlying70 (by kernel_rfl) (opensF_cons rfl (by kernel_rfl) (opens_int Try.underlying3) (opensF_last rfl (by kernel_rfl) (opens_int Try.underlying3))) (fun x : S70 => (x.f0, x.f1)) (fun y => (⟨y.1, y.2⟩ : S70)) (fun _ => rfl)
  exact h
end Go.Proofs.Ytikjamcemnbhbaa.Mr
