/- That nothing is safe, and what is not done is inconclusive: report.Of, called at these two. -/
import Derived.Test.YtadnjibgdpjnlaaRpF12
namespace Go.Proofs.Ytadnjibgdpjnlaa.Rp
open Go.RowKit Go.Proofs.YtadnjibgdpjnlaaW.PrintWords Go.Proofs.YtadnjibgdpjnlaaW.PrintLast Go.Proofs.YtadnjibgdpjnlaaW.PrintMore
set_option linter.unusedVariables false
set_option linter.unusedSimpArgs false
def meddlerlaw17_known.f (_k : Nat) : Option Bool := some true
theorem meddlerlaw17_known.mono : ∀ k, LeO (meddlerlaw17_known.f k) (meddlerlaw17_known.f (k + 1)) := fun _ => LeO.refl _
theorem of_nothing (b : Bool) (w : World) : Calls Try.prog 12 #[.agg #[.slice none 0 0, .slice none 0 0, .int .i64 0, .bool b]] w fun e w' => ∃ v, e = .returned (.agg #[.int .i64 (if b = true then 3 else 4), .int .i64 0, .int .i64 0, v]) ∧ Below w.heap.size w w' := by
  have h : report_Of.f 20 [] [] 0 b = some (if b = true then 3 else 4, 0, 0, []) := by cases b <;> decide +kernel
  refine (report_Of.calls 20 none 0 [] none 0 [] 0 b _ _ _ _ w (Kd.C_nil _ _) (Nat.le_refl _) (Kd.C_nil _ _) (Nat.le_refl _) h).mono ?_
  rintro e w' ⟨v, rfl, _, hb⟩
  exact ⟨v, rfl, hb⟩
set_option maxRecDepth 100000 in
set_option maxHeartbeats 1000000 in
theorem meddlerlaw17_known.calls (k : Nat) (r : Bool) (w : World) (h : meddlerlaw17_known.f k = some r) : Calls Try.prog 13 #[] w fun e w' => e = .returned (.bool r) ∧ Below w.heap.size w w' := by
  obtain rfl := Option.some.inj h
  clear h
  have h1 : ∀ W, Calls Try.prog 12 #[.agg #[.slice none 0 0, .slice none 0 0, .int .i64 0, .bool true]] W fun e w' => ∃ v, e = .returned (.agg #[.int .i64 3, .int .i64 0, .int .i64 0, v]) ∧ Below W.heap.size W w' := of_nothing true
  have h2 : ∀ W, Calls Try.prog 12 #[.agg #[.slice none 0 0, .slice none 0 0, .int .i64 0, .bool false]] W fun e w' => ∃ v, e = .returned (.agg #[.int .i64 4, .int .i64 0, .int .i64 0, v]) ∧ Below W.heap.size W w' := of_nothing false
  have H1 := Aside0.mk h1
  have H2 := Aside0.mk h2
  clear h1 h2
  have hf : ∀ (a b c v : Value) (W : World), (Instr.field 37 (.agg #[a, b, c, v]) 0).run Try.prog W = .ok a W := fun _ _ _ _ _ => by kernel_rfl
  go_enter Try.func13, Try.ntmps13
  go_wp2_with (first | (go_at_call 12; (with_reducible refine (H1.out _).mono ?_); rintro e w1 ⟨v1, rfl, hb1⟩; have B1 := Aside0.mk hb1; clear hb1) | (go_at_call 12; (with_reducible refine (H2.out _).mono ?_); rintro e w2 ⟨v2, rfl, hb2⟩; have B2 := Aside0.mk hb2; clear hb2))
  go_ret
  exact ⟨rfl, B1.out.trans (B2.out.mono B1.out.size)⟩
end Go.Proofs.Ytadnjibgdpjnlaa.Rp
