/- slices.Clone of actions. -/
import Derived.Test.YtikjamcemnbhbaaMrRead
namespace Go.Proofs.Ytikjamcemnbhbaa.Mr
open Go.RowKit Go.Proofs.YtikjamcemnbhbaaW.PrintWords Go.Proofs.YtikjamcemnbhbaaW.PrintLast Go.Proofs.YtikjamcemnbhbaaW.PrintMore
set_option linter.unusedVariables false
set_option linter.unusedSimpArgs false
attribute [local go_sem] Go.run_eql_slice_nil
set_option maxHeartbeats 4000000 in
set_option maxRecDepth 100000 in
theorem clone42 (w : World) (A : Option Addr) (c : Nat) (xs : List S33) (hr : k33.C w A xs.length xs) (hl : xs.length ≤ 1000) :
    Calls Try.prog 42 #[.slice A xs.length c] w fun e w' => ∃ v, e = .returned v ∧ k33.R 33 w' w.heap.size (fun _ => True) v xs ∧ Below w.heap.size w w' := by
  have HB := Aside0.mk (Below.refl w.heap.size w)
  have HR := Aside0.mk hr
  have HL := Aside0.mk hl
  clear hl
  cases A with
  | none =>
    have h0 : xs = [] := by
      rcases Nat.eq_zero_or_pos xs.length with h | h
      · exact List.eq_nil_of_length_eq_zero h
      · obtain ⟨ad, h, _⟩ := hr.2.2 h; cases h
    subst h0
    clear hr HR
    have hu47 := Try.underlying47
    go_enter Try.func42, Try.ntmps42
    go_wp2
    go_ret
    exact ⟨_, rfl, Kd.R_nil _ _ _ _ _, HB.out⟩
  | some ad =>
    clear hr
    have hu47 := Try.underlying47
    go_enter Try.func42, Try.ntmps42
    go_wp2_with (first | ((with_reducible refine gate_dst (N := 7) rfl ?_); refine Kd.R_append_rows k33 (Rr := k33.K (w.alloc (.cells #[] 33))) (w0 := w) w.heap.size ?hg (.tmp 5) (.tmp 6) 47 33 _ 72 ?ho ?ht info33 ?hz ?hs0 ?hb (.slice (some ⟨w.heap.size, 0, none⟩) 0 0) [] xs (some ad) xs.length c (fun _ => True) (fun k => k < w.heap.size) ?hs ?hx ?HO ?HR ?HKM ?hokp ?hfresh ?HB ?hbase ?hl ?_; (case hg => rfl); (case ho => rfl); (case ht => exact hu47); (case hz => rfl); (case hs0 => decide); (case hb => decide); (case hs => rfl); (case hx => rfl); (case HO => exact ⟨fun _ _ => trivial, [], World.ownsRow_made w #[] 0 (Nat.le_refl _) (Nat.zero_le _) (by simp), Reps.none _ _⟩); (case HR => exact Kd.C_below HR.out (below_alloc (Below.refl _ _) _)); (case HKM => intro x cs hk; rw [k33_open hk]; exact k33_mkM _ _ _ x); (case hokp => intro k hk; exact ⟨trivial, by simp only [Value.ownBlock, ne_eq, Option.some.injEq]; omega⟩); (case hfresh => exact fun _ _ => trivial); (case HB => exact below_alloc HB.out _); (case hbase => simp); (case hl => have h := HL.out; simp only [List.length_nil]; omega); intro v1 w1 ho1 hb1 hg1 _))
    go_ret
    exact ⟨_, rfl, by simpa using ho1, hb1⟩
end Go.Proofs.Ytikjamcemnbhbaa.Mr
