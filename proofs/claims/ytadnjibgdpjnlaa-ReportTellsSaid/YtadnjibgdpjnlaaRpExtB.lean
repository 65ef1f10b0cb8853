/- The two orders of alarms, called: what they answer, and that they only draw and lay blocks. -/
import Derived.Test.YtadnjibgdpjnlaaRpF35
import Derived.StillTailTactics
import Derived.Sort.Grow
namespace Go.Proofs.Ytadnjibgdpjnlaa.Rp
open Go.RowKit Go.Proofs.YtadnjibgdpjnlaaW.PrintWords Go.Proofs.YtadnjibgdpjnlaaW.PrintLast Go.Proofs.YtadnjibgdpjnlaaW.PrintMore Go.Sort
set_option linter.unusedVariables false
set_option linter.unusedSimpArgs false
/-- An alarm's six cells. -/
def enc24 (x : S24) : List Value := [.int .i64 x.f0, .int .i64 x.f1, .int .i64 x.f2, .int .i64 x.f3, .int .i64 x.f4, .int .i64 x.f5]
/-- Below -1, equal 0, above 1. -/
def cmpV (a b : Int) : Int := if a < b then -1 else if b < a then 1 else 0
/-- The first that is not nothing. -/
def orV : List Int → Int
  | [] => 0
  | x :: l => if x = 0 then orV l else x
theorem or_loop (l : List Int) (hn : l.length ≤ 100) : ∀ (d i : Nat), i + d = l.length → Ev (fun k => cmp_Or_int.l0 k 0 l (l.length : Int) (i : Int)) (orV (l.drop i)) := by
  intro d
  induction d with
  | zero =>
    intro i hi
    refine Ev.step (f := fun _ => some (orV (l.drop i))) (fun k => ?_) (Ev.now _)
    show cmp_Or_int.l0 (k + 1) 0 l l.length i = _
    rw [cmp_Or_int.l0, if_neg (by omega), List.drop_eq_nil_of_le (by omega)]; rfl
  | succ d ih =>
    intro i hi
    have hlt : i < l.length := by omega
    have hr : rd l (i : Int) = l[i] := by simp [rd, hlt]
    rw [List.drop_eq_getElem_cons hlt]
    by_cases h0 : l[i] = 0
    · refine Ev.step (fun k => ?_) (show Ev (fun k => cmp_Or_int.l0 k 0 l (l.length : Int) ((i + 1 : Nat) : Int)) _ by rw [orV, if_pos h0]; exact ih (i + 1) (by omega))
      show cmp_Or_int.l0 (k + 1) 0 l l.length i = _
      rw [cmp_Or_int.l0, if_pos (by omega), if_pos (by omega), if_pos (by omega), hr, if_pos h0, show wrap64 ((i : Int) + 1) = ((i + 1 : Nat) : Int) by unfold wrap64; omega]
    · rw [orV, if_neg h0]
      refine Ev.step (f := fun _ => some l[i]) (fun k => ?_) (Ev.now _)
      show cmp_Or_int.l0 (k + 1) 0 l l.length i = _
      rw [cmp_Or_int.l0, if_pos (by omega), if_pos (by omega), if_pos (by omega), hr, if_neg h0]
theorem or_some (l : List Int) (hn : l.length ≤ 100) : ∃ k, cmp_Or_int.f k l = some (orV l) := (or_loop l hn l.length 0 (by omega)).rounds
theorem cmp36 (a b : Int) (w : World) : Calls Try.prog 36 #[.int .i64 a, .int .i64 b] w fun e w' => e = .returned (.int .i64 (cmpV a b)) ∧ w' = w := by
  have h := cmpV
  unfold cmpV
  clear h
  by_cases h1 : a < b
  · rw [if_pos h1]
    go_enter Try.func36, Try.ntmps36
    go_wp2
    go_ret
    exact ⟨rfl, rfl⟩
  · by_cases h2 : b < a
    · rw [if_neg h1, if_pos h2]
      go_enter Try.func36, Try.ntmps36
      go_wp2
      go_ret
      exact ⟨rfl, rfl⟩
    · rw [if_neg h1, if_neg h2]
      go_enter Try.func36, Try.ntmps36
      go_wp2
      go_ret
      exact ⟨rfl, rfl⟩
theorem cmp37 (a b : Int) (w : World) : Calls Try.prog 37 #[.int .i64 a, .int .i64 b] w fun e w' => e = .returned (.int .i64 (cmpV a b)) ∧ w' = w := by
  unfold cmpV
  by_cases h1 : a < b
  · rw [if_pos h1]
    go_enter Try.func37, Try.ntmps37
    go_wp2
    go_ret
    exact ⟨rfl, rfl⟩
  · by_cases h2 : b < a
    · rw [if_neg h1, if_pos h2]
      go_enter Try.func37, Try.ntmps37
      go_wp2
      go_ret
      exact ⟨rfl, rfl⟩
    · rw [if_neg h1, if_neg h2]
      go_enter Try.func37, Try.ntmps37
      go_wp2
      go_ret
      exact ⟨rfl, rfl⟩
/-- As report.order tells it. -/
def cmpR (x y : S24) : Int := orV [cmpV x.f0 y.f0, cmpV x.f1 y.f1, cmpV x.f2 y.f2, cmpV x.f3 y.f3, cmpV x.f4 y.f4, cmpV x.f5 y.f5]
/-- As clash.order tells it. -/
def cmpC (x y : S24) : Int := orV [cmpV x.f1 y.f1, cmpV x.f2 y.f2, cmpV x.f4 y.f4, cmpV x.f5 y.f5]
theorem boxed (w : World) (x y : S24) : ∃ b0 b1 W2, (w.alloc (.cells (enc24 x).toArray 24)).alloc (.cells (enc24 y).toArray 24) = W2 ∧ w.heap.size = b0 ∧ w.heap.size + 1 = b1 ∧ W2 = grow w #[.cells (enc24 x).toArray 24, .cells (enc24 y).toArray 24] ∧
    (W2.cell? ⟨b0, 0, none⟩ = some (.int .i64 x.f0) ∧ W2.cell? ⟨b0, 1, none⟩ = some (.int .i64 x.f1) ∧ W2.cell? ⟨b0, 2, none⟩ = some (.int .i64 x.f2) ∧ W2.cell? ⟨b0, 3, none⟩ = some (.int .i64 x.f3) ∧ W2.cell? ⟨b0, 4, none⟩ = some (.int .i64 x.f4) ∧ W2.cell? ⟨b0, 5, none⟩ = some (.int .i64 x.f5)) ∧
    (W2.cell? ⟨b1, 0, none⟩ = some (.int .i64 y.f0) ∧ W2.cell? ⟨b1, 1, none⟩ = some (.int .i64 y.f1) ∧ W2.cell? ⟨b1, 2, none⟩ = some (.int .i64 y.f2) ∧ W2.cell? ⟨b1, 3, none⟩ = some (.int .i64 y.f3) ∧ W2.cell? ⟨b1, 4, none⟩ = some (.int .i64 y.f4) ∧ W2.cell? ⟨b1, 5, none⟩ = some (.int .i64 y.f5)) := by
  refine ⟨_, _, _, rfl, rfl, rfl, by rw [alloc_eq_grow, alloc_eq_grow, grow_grow]; rfl, ?_, ?_⟩
  · have hb : ((w.alloc (.cells (enc24 x).toArray 24)).alloc (.cells (enc24 y).toArray 24)).heap[w.heap.size]? = some (.cells (enc24 x).toArray 24) := by
      rw [(MapKept.heap_alloc _ _).2 _ (by rw [World.size_alloc]; omega)]; exact (MapKept.heap_alloc _ _).1
    refine ⟨?_, ?_, ?_, ?_, ?_, ?_⟩ <;> (rw [cell_of_row _ _ _ _ _ _ hb]; rfl)
  · have hb : ((w.alloc (.cells (enc24 x).toArray 24)).alloc (.cells (enc24 y).toArray 24)).heap[w.heap.size + 1]? = some (.cells (enc24 y).toArray 24) := by
      rw [← World.size_alloc]; exact (MapKept.heap_alloc _ _).1
    refine ⟨?_, ?_, ?_, ?_, ?_, ?_⟩ <;> (rw [cell_of_row _ _ _ _ _ _ hb]; rfl)
theorem lit_reads (W : World) (xs : List Int) (h : xs.length ≤ 9223372036854775807) : Kd.C (Kd.int .i64) (W.alloc (.cells (nums .i64 xs).toArray 3)).drew (some ⟨W.heap.size, 0, none⟩) xs.length xs := by
  obtain ⟨A, c, e, hr⟩ := own_reads (own_lit W W.heap.size 3 .i64 xs (Nat.le_refl _) h)
  injection e with e1 _ _
  subst e1
  exact Kd.C_below (Kd.C_of_reads (d := (0 : Int)) (h1 := fun _ => rfl) hr) (below_drew (Below.refl _ _))
theorem grown_as {w W2 : World} {os : Array Obj} (h : W2 = grow w os) (o : Obj) (nd : Nat) : (W2.alloc o).drewN nd = grow (w.drewN nd) (os ++ #[o]) := by
  rw [h, alloc_eq_grow, grow_grow]
  rfl
set_option maxHeartbeats 4000000 in
set_option maxRecDepth 100000 in
theorem report_order_grow (x y : S24) (w : World) : Calls Try.prog 26 #[.agg (enc24 x).toArray, .agg (enc24 y).toArray] w fun e w' => e = .returned (.int .i64 (cmpR x y)) ∧ ∃ q os', w' = grow (w.drewN q) os' := by
  have hu24 := Try.underlying24
  obtain ⟨k, hk⟩ := or_some [cmpV x.f0 y.f0, cmpV x.f1 y.f1, cmpV x.f2 y.f2, cmpV x.f3 y.f3, cmpV x.f4 y.f4, cmpV x.f5 y.f5] (by simp)
  have HK := Aside0.mk hk
  clear hk
  show Calls Try.prog 26 #[.agg (enc24 x).toArray, .agg (enc24 y).toArray] w fun e w' => e = .returned (.int .i64 (orV [cmpV x.f0 y.f0, cmpV x.f1 y.f1, cmpV x.f2 y.f2, cmpV x.f3 y.f3, cmpV x.f4 y.f4, cmpV x.f5 y.f5])) ∧ ∃ q os', w' = grow (w.drewN q) os'
  generalize orV [cmpV x.f0 y.f0, cmpV x.f1 y.f1, cmpV x.f2 y.f2, cmpV x.f3 y.f3, cmpV x.f4 y.f4, cmpV x.f5 y.f5] = r at HK ⊢
  go_enter Try.func26, Try.ntmps26
  go_wp2_with fail
  obtain ⟨b0, b1, W2, hW, h0, h1, hg, ⟨c0, c1, c2, c3, c4, c5⟩, ⟨d0, d1, d2, d3, d4, d5⟩⟩ := boxed w x y
  rw [hW, h1, h0]
  have HG := Aside0.mk hg
  clear hW h1 h0 hg
  refine wp_region_still_tail 30 (by kernel_rfl) (by kernel_rfl) ?_
  change wpStill Try.prog _ W2.drew _ _ _
  replace c0 : W2.drew.cell? ⟨b0, 0, none⟩ = some (.int .i64 x.f0) := c0
  replace c1 : W2.drew.cell? ⟨b0, 1, none⟩ = some (.int .i64 x.f1) := c1
  replace c2 : W2.drew.cell? ⟨b0, 2, none⟩ = some (.int .i64 x.f2) := c2
  replace c3 : W2.drew.cell? ⟨b0, 3, none⟩ = some (.int .i64 x.f3) := c3
  replace c4 : W2.drew.cell? ⟨b0, 4, none⟩ = some (.int .i64 x.f4) := c4
  replace c5 : W2.drew.cell? ⟨b0, 5, none⟩ = some (.int .i64 x.f5) := c5
  replace d0 : W2.drew.cell? ⟨b1, 0, none⟩ = some (.int .i64 y.f0) := d0
  replace d1 : W2.drew.cell? ⟨b1, 1, none⟩ = some (.int .i64 y.f1) := d1
  replace d2 : W2.drew.cell? ⟨b1, 2, none⟩ = some (.int .i64 y.f2) := d2
  replace d3 : W2.drew.cell? ⟨b1, 3, none⟩ = some (.int .i64 y.f3) := d3
  replace d4 : W2.drew.cell? ⟨b1, 4, none⟩ = some (.int .i64 y.f4) := d4
  replace d5 : W2.drew.cell? ⟨b1, 5, none⟩ = some (.int .i64 y.f5) := d5
  simp only [List.take_succ_cons, List.take_zero, List.drop_succ_cons, List.drop_zero]
  repeat (first | still_step | still_call (cmp36 _ _ _) | still_call (cmp37 _ _ _))
  refine wpStill_nil ?_
  clear c0 c1 c2 c3 c4 c5 d0 d1 d2 d3 d4 d5
  go_wp2_with (go_at_call 35; refine (cmp_Or_int.calls k _ 6 [cmpV x.f0 y.f0, cmpV x.f1 y.f1, cmpV x.f2 y.f2, cmpV x.f3 y.f3, cmpV x.f4 y.f4, cmpV x.f5 y.f5] r _ (lit_reads W2 [cmpV x.f0 y.f0, cmpV x.f1 y.f1, cmpV x.f2 y.f2, cmpV x.f3 y.f3, cmpV x.f4 y.f4, cmpV x.f5 y.f5] (by simp)) (by simp) HK.out).mono ?_; rintro e w' ⟨rfl, ⟨nd, rfl⟩⟩)
  go_ret
  exact ⟨rfl, 1 + nd, #[.cells (enc24 x).toArray 24, .cells (enc24 y).toArray 24] ++ #[.cells (nums .i64 [cmpV x.f0 y.f0, cmpV x.f1 y.f1, cmpV x.f2 y.f2, cmpV x.f3 y.f3, cmpV x.f4 y.f4, cmpV x.f5 y.f5]).toArray 3], grown_as HG.out _ _⟩
set_option maxHeartbeats 4000000 in
set_option maxRecDepth 100000 in
theorem clash_order_grow (x y : S24) (w : World) : Calls Try.prog 30 #[.agg (enc24 x).toArray, .agg (enc24 y).toArray] w fun e w' => e = .returned (.int .i64 (cmpC x y)) ∧ ∃ q os', w' = grow (w.drewN q) os' := by
  have hu24 := Try.underlying24
  obtain ⟨k, hk⟩ := or_some [cmpV x.f1 y.f1, cmpV x.f2 y.f2, cmpV x.f4 y.f4, cmpV x.f5 y.f5] (by simp)
  have HK := Aside0.mk hk
  clear hk
  show Calls Try.prog 30 #[.agg (enc24 x).toArray, .agg (enc24 y).toArray] w fun e w' => e = .returned (.int .i64 (orV [cmpV x.f1 y.f1, cmpV x.f2 y.f2, cmpV x.f4 y.f4, cmpV x.f5 y.f5])) ∧ ∃ q os', w' = grow (w.drewN q) os'
  generalize orV [cmpV x.f1 y.f1, cmpV x.f2 y.f2, cmpV x.f4 y.f4, cmpV x.f5 y.f5] = r at HK ⊢
  go_enter Try.func30, Try.ntmps30
  go_wp2_with fail
  obtain ⟨b0, b1, W2, hW, h0, h1, hg, ⟨c0, c1, c2, c3, c4, c5⟩, ⟨d0, d1, d2, d3, d4, d5⟩⟩ := boxed w x y
  rw [hW, h1, h0]
  have HG := Aside0.mk hg
  clear hW h1 h0 hg
  refine wp_region_still_tail 20 (by kernel_rfl) (by kernel_rfl) ?_
  change wpStill Try.prog _ W2.drew _ _ _
  replace c0 : W2.drew.cell? ⟨b0, 0, none⟩ = some (.int .i64 x.f0) := c0
  replace c1 : W2.drew.cell? ⟨b0, 1, none⟩ = some (.int .i64 x.f1) := c1
  replace c2 : W2.drew.cell? ⟨b0, 2, none⟩ = some (.int .i64 x.f2) := c2
  replace c3 : W2.drew.cell? ⟨b0, 3, none⟩ = some (.int .i64 x.f3) := c3
  replace c4 : W2.drew.cell? ⟨b0, 4, none⟩ = some (.int .i64 x.f4) := c4
  replace c5 : W2.drew.cell? ⟨b0, 5, none⟩ = some (.int .i64 x.f5) := c5
  replace d0 : W2.drew.cell? ⟨b1, 0, none⟩ = some (.int .i64 y.f0) := d0
  replace d1 : W2.drew.cell? ⟨b1, 1, none⟩ = some (.int .i64 y.f1) := d1
  replace d2 : W2.drew.cell? ⟨b1, 2, none⟩ = some (.int .i64 y.f2) := d2
  replace d3 : W2.drew.cell? ⟨b1, 3, none⟩ = some (.int .i64 y.f3) := d3
  replace d4 : W2.drew.cell? ⟨b1, 4, none⟩ = some (.int .i64 y.f4) := d4
  replace d5 : W2.drew.cell? ⟨b1, 5, none⟩ = some (.int .i64 y.f5) := d5
  simp only [List.take_succ_cons, List.take_zero, List.drop_succ_cons, List.drop_zero]
  repeat (first | still_step | still_call (cmp36 _ _ _) | still_call (cmp37 _ _ _))
  refine wpStill_nil ?_
  clear c0 c1 c2 c3 c4 c5 d0 d1 d2 d3 d4 d5
  go_wp2_with (go_at_call 35; refine (cmp_Or_int.calls k _ 4 [cmpV x.f1 y.f1, cmpV x.f2 y.f2, cmpV x.f4 y.f4, cmpV x.f5 y.f5] r _ (lit_reads W2 [cmpV x.f1 y.f1, cmpV x.f2 y.f2, cmpV x.f4 y.f4, cmpV x.f5 y.f5] (by simp)) (by simp) HK.out).mono ?_; rintro e w' ⟨rfl, ⟨nd, rfl⟩⟩)
  go_ret
  exact ⟨rfl, 1 + nd, #[.cells (enc24 x).toArray 24, .cells (enc24 y).toArray 24] ++ #[.cells (nums .i64 [cmpV x.f1 y.f1, cmpV x.f2 y.f2, cmpV x.f4 y.f4, cmpV x.f5 y.f5]).toArray 3], grown_as HG.out _ _⟩
end Go.Proofs.Ytadnjibgdpjnlaa.Rp
