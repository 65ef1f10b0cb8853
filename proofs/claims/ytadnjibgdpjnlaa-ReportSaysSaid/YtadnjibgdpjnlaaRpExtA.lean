/- slices.Clone at alarms: a row that is read, laid anew. -/
import Derived.Test.YtadnjibgdpjnlaaRpx0
import Derived.Lib.BufferMore
import Derived.Outline
namespace Go.Proofs.Ytadnjibgdpjnlaa.Rp
open Go.RowKit Go.Proofs.YtadnjibgdpjnlaaW.PrintWords Go.Proofs.YtadnjibgdpjnlaaW.PrintLast Go.Proofs.YtadnjibgdpjnlaaW.PrintMore
set_option linter.unusedVariables false
set_option linter.unusedSimpArgs false

def api_Alarm_24.f (_k : Nat) (l0 : List S24) : Option (List S24) := if l0.length < 2932031007402 then some l0 else none
theorem api_Alarm_24.mono : ∀ a0 k, LeO (api_Alarm_24.f k a0) (api_Alarm_24.f (k + 1) a0) := fun _ _ => LeO.refl _
set_option maxHeartbeats 1000000 in
set_option maxRecDepth 100000 in
theorem api_Alarm_24.calls (k : Nat) (A0 : Option Addr) (c0 : Nat) (l0 : List S24) (r : List S24) (w : World) (hr0 : Kd.C k24 w A0 l0.length l0) (hc0 : l0.length ≤ c0) (h : api_Alarm_24.f k l0 = some r) :
    Calls Try.prog 24 #[.slice A0 l0.length c0] w fun e w' => ∃ v0_ : Value, e = .returned (v0_) ∧ Kd.R k24 24 w' w.heap.size (fun _ => True) v0_ r ∧ Below w.heap.size w w' := by
  unfold api_Alarm_24.f at h
  by_cases hl : l0.length < 2932031007402
  · rw [if_pos hl] at h
    obtain rfl := Option.some.inj h
    clear h
    have HR0 := Aside0.mk hr0
    have HC0 := Aside0.mk hc0
    have HL := Aside0.mk hl
    cases A0 with
    | none =>
      have hz : l0 = [] := by
        cases l0 with
        | nil => rfl
        | cons x l => obtain ⟨ad, h, _⟩ := hr0.2.2 (by simp); cases h
      subst hz
      clear hr0 hc0 hl
      have q : ∀ (W : World) (n c : Nat), (binOp .eql 33 (.slice none n c) (.slice none 0 0)).run Try.prog W = .ok (.bool true) W := fun W n c => Go.Lib.run_eql_slice_nil_nil W _ _ Try.underlying33
      go_enter Try.func24, Try.ntmps24
      go_wp2
      go_ret
      exact ⟨_, rfl, Kd.R_nil _ _ _ _ _, Below.refl _ _⟩
    | some ad =>
      clear hr0 hc0 hl
      have q : ∀ (W : World) (n c : Nat), (binOp .eql 33 (.slice (some ad) n c) (.slice none 0 0)).run Try.prog W = .ok (.bool false) W := fun W n c => Go.Lib.run_eql_slice_some_nil W _ _ _ Try.underlying33
      go_enter Try.func24, Try.ntmps24
      go_wp2_with (first
        | ((with_reducible refine gate_dst (N := 5) rfl ?_); refine Kd.R_lit k24 (w0 := w) w.heap.size 24 ?hg (N := 5) ?hd (xs := ([] : List S24)) (inner := []) (ok := fun _ => True) (okp := fun _ => True) ?hr ?hp (fun _ _ => trivial) trivial (Below.refl _ _) (Nat.le_refl _) (by simp) ?_; (case hd => rfl); (case hg => rfl); (case hr => first | (go_simp; done) | (go_simp; rfl)); (case hp => exact Reps.none _ _); rintro v1 w1 HO hb hg _; have HO1 := Aside0.mk HO; have HB1 := Aside0.mk hb; clear HO hb hg)
        | (at_builtin; go_loud (refine Kd.R_append_rows k24 (w0 := w) (Rr := k24.K w1) w.heap.size ?hg2 (.tmp 5) (.tmp 6) 33 24 _ 48 ?ho2 Try.underlying33 info24 ?hz2 ?hs2 ?hb2 v1 [] l0 (some ad) l0.length c0 (fun _ => True) (fun k => some k ≠ v1.ownBlock) ?e1 ?e2 HO1.out ?hr2 ?hk2 ?ok2 (fun _ _ => trivial) HB1.out HB1.out.size ?hl2 ?_); (case hg2 => rfl); (case ho2 => rfl); (case hz2 => rfl); (case hs2 => decide); (case hb2 => decide); (case e1 => rfl); (case e2 => rfl); (case hr2 => exact Kd.C_below HR0.out HB1.out); (case hk2 => exact fun x cs hx => by rw [k24_open hx]; exact k24_mkM _ _ _ _); (case ok2 => exact fun k hk => ⟨trivial, hk⟩); (case hl2 => have := HL.out; simp only [List.length_nil]; omega); rintro v2 w2 HO2 hb2 _ _; have HO3 := Aside0.mk HO2; have HB3 := Aside0.mk hb2; clear HO2 hb2))
      go_ret
      exact ⟨_, rfl, HO3.out, HB3.out⟩
  · rw [if_neg hl] at h; cases h
end Go.Proofs.Ytadnjibgdpjnlaa.Rp
