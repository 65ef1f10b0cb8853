/- Proved: for every input, Go function MachPlays returns true and leaves its arguments as they were. No condition beyond what the given row says. -/
import Derived.Test.YtikjamcemnbhbaaRows
import Derived.Test.YtikjamcemnbhbaaMrLaw9p
import Derived.Test.YtikjamcemnbhbaaMrOp
import Derived.WalkKit
import Derived.ProofKit
import Derived.OpenShut
import Derived.ShutString
import Derived.ChangeOld
import Derived.Below
import Derived.SizedLaws
import Derived.Test.YtikjamcemnbhbaaWSized
namespace Go.Proofs.Ytikjamcemnbhbaa.machPlays
open Go.ChangeShapes Go.WideShapes Go.ChangeAt Go.RowKit Go.Proofs.Ytikjamcemnbhbaa.Opens Go.Proofs.Ytikjamcemnbhbaa.Mr
open Go.Proofs.YtikjamcemnbhbaaW.PrintWords
open Go.ChangeMaps (open_string shut_string)
set_option linter.unusedVariables false
theorem own : ownKnob Try.prog.godebug = none := by kernel_rfl
theorem laidOut : laidOutB Try.prog = true := by kernel_rfl
set_option maxRecDepth 100000 in
theorem lifted (os : Os) (started : os.Started) (H : Type) (enc : TypeId × Value → H) :
    ReturnsInHanded {} Try.checked os 9 .any (Rows.machPlaysSpec.pre6 enc Try.prog Try.f9 Rows.machPlaysRow.domain false) (Rows.machPlaysSpec.post enc Try.prog Try.f9 false true false false) := by
  refine returnsInHanded_of_change_sized (C := Try.checked) own started (by kernel_rfl) Try.func9
    (ChangeSpec.witness6 (enc := enc) (C := Try.checked) false ⟨#[], #[.agg #[.slice none 0 0, .slice none 0 0, .int .i64 0, .slice none 0 0], .slice none 0 0], []⟩ 8 (by kernel_rfl) (by kernel_rfl) (by kernel_rfl) (by kernel_rfl)) ?_
  intro W base args ds gs before hval0 hW hcnd hsz0 _
  have hsz : (DataW.weightsEach Try.prog (Try.f9.params.toList ++ Rows.machPlaysSpec.plain.varTypes Try.prog) (ds ++ gs)).all (· ≤ reachBytes) = true := hsz0
  have hval : ∀ (j : Nat) t v, Try.f9.params[j]? = some t → args[j]? = some v → Value.okWide Try.prog W .any base t v := hval0
  have hW' := hW
  obtain ⟨p, q, hA0, hV, rfl, hfz, hnd⟩ := hW
  have hA : DataW.TrodAll enc Try.prog W 0 (fun _ => true) true Try.f9.params.toList args.toList ds p := hA0
  rw [Try.params9] at hA hval hsz
  obtain ⟨v0, vs0, d0, ds0, p0, q0, hargs, rfl, rfl, h0, r0⟩ := trodAll_cons hA
  obtain ⟨v1, vs1, d1, ds1, p1, q1, rfl, rfl, rfl, h1, r1⟩ := trodAll_cons r0
  obtain ⟨rfl, rfl, rfl⟩ := trodAll_nil r1
  obtain rfl : args = #[v0, v1] := by cases args; simp_all
  obtain ⟨rfl, rfl⟩ := trodVars_none hV
  obtain ⟨cs0, rfl, _⟩ := okWide_struct Try.underlying25 (hval 0 25 v0 rfl rfl)
  have k0 := h0
  have lt0 : ∀ x ∈ p0, x.block < W.heap.size := by obtain ⟨m, hm⟩ := k0; exact DataW.trod_lt m _ _ _ hm
  obtain ⟨a0, hK0, hw0⟩ := arg_struct (opens25 (w := W)) h0 (wts hsz (j := 0) (t := 25) rfl rfl)
  obtain ⟨A0, c0, A1, c1, A3, c3, e0, g0, G0, g1, G1, g3, G3⟩ := k25_open hK0
  obtain rfl : cs0 = #[.slice A0 a0.f0.length c0, .slice A1 a0.f1.length c1, .int .i64 a0.f2, .slice A3 a0.f3.length c3] := by cases cs0; simpa using e0
  obtain ⟨a1, len1, cap1, rfl⟩ := okWide_slice Try.underlying26 (hval 1 26 v1 rfl rfl)
  have k1 := h1
  have lt1 : ∀ x ∈ p1, x.block < W.heap.size := by obtain ⟨m, hm⟩ := k1; exact DataW.trod_lt m _ _ _ hm
  have y1 := sized_any hsz (j := 1) (t := 26) rfl rfl Try.underlying26 h1
  obtain ⟨l1, rfl, hc1, hC1, hm1, hw1⟩ := arg_slice Try.underlying26 (by kernel_rfl) opens37 h1 (wts hsz (j := 1) (t := 26) rfl rfl)
  clear hA0 hval0 hsz0 hsz
  refine (MachPlays_calls W A0 c0 a0.f0 A1 c1 a0.f1 a0.f2 A3 c3 a0.f3 G0 g0 G1 g1 G3 g3 hw0 a1 cap1 l1 hC1 hc1 hm1).mono fun e W' ⟨he, bel⟩ => ?_
  subst he
  exact ⟨_, rfl, _, _, _, [], _, [], hW', trodAll_mk1 (shut_bool Try.underlying4 _), (trodAll_cons_mk (Below.trod laidOut (by kernel_rfl) (of_decide_eq_true (by kernel_rfl)) k0 bel lt0) (trodAll_cons_mk (Below.trod laidOut (by kernel_rfl) (of_decide_eq_true (by kernel_rfl)) k1 bel lt1) trodAll_mk0)), rfl, bel.frame _, fun h => by cases h⟩
theorem over : Rows.machPlaysRow.holds Try.pinned (OpenSpec.ofChange Rows.machPlaysSpec) :=
  OpenClaim.holds_of_wide 9 Try.f9 rfl rfl rfl rfl rfl rfl rfl ⟨rfl, rfl, rfl, rfl, rfl⟩ rfl rfl rfl rfl rfl (by kernel_rfl) Try.func9 (by kernel_rfl)
    (of_decide_eq_true (by kernel_rfl)) (by unfold Func.isWrapper; first | (rw [if_pos (by decide +kernel)]; kernel_rfl) | (rw [if_neg (by decide +kernel)]; exact ⟨rfl, rfl⟩))
    (fun os started H enc _ => lifted os started H enc)
theorem proved : Rows.MachPlaysSaid := over
end Go.Proofs.Ytikjamcemnbhbaa.machPlays
namespace Go.Proofs.Ytikjamcemnbhbaa
/-- The row, under a short name, for the claim. -/
theorem machPlays_holds : Rows.MachPlaysSaid := machPlays.proved
end Go.Proofs.Ytikjamcemnbhbaa
