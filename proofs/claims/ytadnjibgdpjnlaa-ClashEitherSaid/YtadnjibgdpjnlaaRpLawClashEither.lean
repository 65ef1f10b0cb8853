/- Proved: for every input, Go function ClashEither returns true and leaves its arguments as they were. No condition beyond what the given row says. -/
import Derived.Test.YtadnjibgdpjnlaaRows
import Derived.Test.YtadnjibgdpjnlaaRpF8
import Derived.Test.YtadnjibgdpjnlaaRpOp
import Derived.Test.YtadnjibgdpjnlaaRpPureClashEither
import Derived.WalkKit
import Derived.ProofKit
import Derived.OpenShut
import Derived.ShutString
import Derived.ChangeOld
import Derived.Below
import Derived.SizedLaws
import Derived.Test.YtadnjibgdpjnlaaWSized
namespace Go.Proofs.Ytadnjibgdpjnlaa.clashEither
open Go.ChangeShapes Go.WideShapes Go.ChangeAt Go.RowKit Go.Proofs.Ytadnjibgdpjnlaa.Opens Go.Proofs.Ytadnjibgdpjnlaa.Rp
open Go.ChangeMaps (open_string shut_string)
set_option linter.unusedVariables false
theorem own : ownKnob Try.prog.godebug = none := by kernel_rfl
theorem laidOut : laidOutB Try.prog = true := by kernel_rfl
set_option maxRecDepth 100000 in
theorem lifted (os : Os) (started : os.Started) (H : Type) (enc : TypeId × Value → H) :
    ReturnsInHanded {} Try.checked os 8 .any (Rows.clashEitherSpec.pre6 enc Try.prog Try.f8 Rows.clashEitherRow.domain false) (Rows.clashEitherSpec.post enc Try.prog Try.f8 false true false false) := by
  refine returnsInHanded_of_change_sized (C := Try.checked) own started (by kernel_rfl) Try.func8
    (ChangeSpec.witness6 (enc := enc) (C := Try.checked) false ⟨#[], #[.agg #[.int .i64 0, .int .i64 0, .bool false, .int .i64 0, .bool false, .int .i64 0], .agg #[.int .i64 0, .int .i64 0, .bool false, .int .i64 0, .bool false, .int .i64 0]], []⟩ 8 (by kernel_rfl) (by kernel_rfl) (by kernel_rfl) (by kernel_rfl)) ?_
  intro W base args ds gs before hval0 hW hcnd hsz0 _
  have hsz : (DataW.weightsEach Try.prog (Try.f8.params.toList ++ Rows.clashEitherSpec.plain.varTypes Try.prog) (ds ++ gs)).all (· ≤ reachBytes) = true := hsz0
  have hval : ∀ (j : Nat) t v, Try.f8.params[j]? = some t → args[j]? = some v → Value.okWide Try.prog W .any base t v := hval0
  have hW' := hW
  obtain ⟨p, q, hA0, hV, rfl, hfz, hnd⟩ := hW
  have hA : DataW.TrodAll enc Try.prog W 0 (fun _ => true) true Try.f8.params.toList args.toList ds p := hA0
  rw [Try.params8] at hA hval hsz
  obtain ⟨v0, vs0, d0, ds0, p0, q0, hargs, rfl, rfl, h0, r0⟩ := trodAll_cons hA
  obtain ⟨v1, vs1, d1, ds1, p1, q1, rfl, rfl, rfl, h1, r1⟩ := trodAll_cons r0
  obtain ⟨rfl, rfl, rfl⟩ := trodAll_nil r1
  obtain rfl : args = #[v0, v1] := by cases args; simp_all
  obtain ⟨rfl, rfl⟩ := trodVars_none hV
  obtain ⟨cs0, rfl, _⟩ := okWide_struct Try.underlying31 (hval 0 31 v0 rfl rfl)
  have k0 := h0
  have lt0 : ∀ x ∈ p0, x.block < W.heap.size := by obtain ⟨m, hm⟩ := k0; exact DataW.trod_lt m _ _ _ hm
  obtain ⟨a0, hK0, hw0⟩ := arg_struct (opens31 (w := W)) h0
  obtain rfl : cs0 = #[.int .i64 a0.f0, .int .i64 a0.f1, .bool a0.f2, .int .i64 a0.f3, .bool a0.f4, .int .i64 a0.f5] := by have e := k31_open hK0; cases cs0; simpa using e
  obtain ⟨cs1, rfl, _⟩ := okWide_struct Try.underlying31 (hval 1 31 v1 rfl rfl)
  have k1 := h1
  have lt1 : ∀ x ∈ p1, x.block < W.heap.size := by obtain ⟨m, hm⟩ := k1; exact DataW.trod_lt m _ _ _ hm
  obtain ⟨a1, hK1, hw1⟩ := arg_struct (opens31 (w := W)) h1
  obtain rfl : cs1 = #[.int .i64 a1.f0, .int .i64 a1.f1, .bool a1.f2, .int .i64 a1.f3, .bool a1.f4, .int .i64 a1.f5] := by have e := k31_open hK1; cases cs1; simpa using e
  clear hA0 hval0 hsz0 hsz
  obtain ⟨kk, hkk⟩ := Pure.ClashEither a0 hw0 a1 hw1
  refine (meddlerlaw15_ClashEither.calls kk a0.f0 a0.f1 a0.f2 a0.f3 a0.f4 a0.f5 a1.f0 a1.f1 a1.f2 a1.f3 a1.f4 a1.f5 W  hkk).mono fun e W' ⟨he, bel⟩ => ?_
  subst he
  exact ⟨_, rfl, _, _, _, [], _, [], hW', trodAll_mk1 (shut_bool Try.underlying4 _), (trodAll_cons_mk (Below.trod laidOut (by kernel_rfl) (of_decide_eq_true (by kernel_rfl)) k0 bel lt0) (trodAll_cons_mk (Below.trod laidOut (by kernel_rfl) (of_decide_eq_true (by kernel_rfl)) k1 bel lt1) trodAll_mk0)), rfl, bel.frame _, fun h => by cases h⟩
theorem over : Rows.clashEitherRow.holds Try.pinned (OpenSpec.ofChange Rows.clashEitherSpec) :=
  OpenClaim.holds_of_wide 8 Try.f8 rfl rfl rfl rfl rfl rfl rfl ⟨rfl, rfl, rfl, rfl, rfl⟩ rfl rfl rfl rfl rfl (by kernel_rfl) Try.func8 (by kernel_rfl)
    (of_decide_eq_true (by kernel_rfl)) (by unfold Func.isWrapper; first | (rw [if_pos (by decide +kernel)]; kernel_rfl) | (rw [if_neg (by decide +kernel)]; exact ⟨rfl, rfl⟩))
    (fun os started H enc _ => lifted os started H enc)
theorem proved : Rows.ClashEitherSaid := over
end Go.Proofs.Ytadnjibgdpjnlaa.clashEither
namespace Go.Proofs.Ytadnjibgdpjnlaa
/-- The row, under a short name, for the claim. -/
theorem clashEither_holds : Rows.ClashEitherSaid := clashEither.proved
end Go.Proofs.Ytadnjibgdpjnlaa
