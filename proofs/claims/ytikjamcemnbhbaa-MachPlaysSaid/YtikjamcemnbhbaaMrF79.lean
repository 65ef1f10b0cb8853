/- An own text of this seat: Lean functions with the answers of Go functions, and that the Go code comes to them. Written by a program of this session out of the translation. -/
import Derived.Test.YtikjamcemnbhbaaMrx0
namespace Go.Proofs.Ytikjamcemnbhbaa.Mr
open Go.RowKit Go.Proofs.YtikjamcemnbhbaaW.PrintWords Go.Proofs.YtikjamcemnbhbaaW.PrintLast
set_option linter.unusedVariables false
set_option linter.unusedSimpArgs false

/-! ### cfg_vars: function 79 -/
mutual
def cfg_vars.j0 : Nat → Int → Bool → Int → Int → Int → Int → Int → Int → Int → Int → Int → Option (List Int)
  | 0, _, _, _, _, _, _, _, _, _, _, _ => none
  | k + 1, x4, x5, x425000, x425001, x425002, x425003, x425004, x425005, x425006, x425007, x425008 => if x5 = true then (some (([x425001] : List Int))) else (if x4 = 2 then (cfg_vars.j1 k x4 (x4 == 2) x425000 x425001 x425002 x425003 x425004 x425005 x425006 x425007 x425008) else (cfg_vars.j1 k x4 (x4 == 7) x425000 x425001 x425002 x425003 x425004 x425005 x425006 x425007 x425008))
def cfg_vars.j1 : Nat → Int → Bool → Int → Int → Int → Int → Int → Int → Int → Int → Int → Option (List Int)
  | 0, _, _, _, _, _, _, _, _, _, _, _ => none
  | k + 1, x4, x12, x425000, x425001, x425002, x425003, x425004, x425005, x425006, x425007, x425008 => if x12 = true then (some (([x425001, x425002] : List Int))) else (if x4 = 4 then (some (([x425001, x425002, x425003] : List Int))) else (if x4 = 6 then (some (([x425002] : List Int))) else (if x4 = 8 then (some (([x425002, x425003] : List Int))) else (if x4 = 11 then (some (([x425002, x425003] : List Int))) else (some ([] : List Int))))))
end
def cfg_vars.f (k : Nat) (a0_0 : Int) (a0_1 : Int) (a0_2 : Int) (a0_3 : Int) (a0_4 : Int) (a0_5 : Int) (a0_6 : Int) (a0_7 : Int) (a0_8 : Int) : Option (List Int) := if a0_0 = 1 then (cfg_vars.j0 k a0_0 (a0_0 == 1) a0_0 a0_1 a0_2 a0_3 a0_4 a0_5 a0_6 a0_7 a0_8) else (if a0_0 = 3 then (cfg_vars.j0 k a0_0 (a0_0 == 3) a0_0 a0_1 a0_2 a0_3 a0_4 a0_5 a0_6 a0_7 a0_8) else (cfg_vars.j0 k a0_0 (a0_0 == 5) a0_0 a0_1 a0_2 a0_3 a0_4 a0_5 a0_6 a0_7 a0_8))
theorem cfg_vars.mono_l : ∀ k, (∀ y0 y1 y2 y3 y4 y5 y6 y7 y8 y9 y10, LeO (cfg_vars.j0 k y0 y1 y2 y3 y4 y5 y6 y7 y8 y9 y10) (cfg_vars.j0 (k + 1) y0 y1 y2 y3 y4 y5 y6 y7 y8 y9 y10)) ∧ (∀ y0 y1 y2 y3 y4 y5 y6 y7 y8 y9 y10, LeO (cfg_vars.j1 k y0 y1 y2 y3 y4 y5 y6 y7 y8 y9 y10) (cfg_vars.j1 (k + 1) y0 y1 y2 y3 y4 y5 y6 y7 y8 y9 y10))
  | 0 => ⟨fun _ _ _ _ _ _ _ _ _ _ _ r h => by simp [cfg_vars.j0] at h, fun _ _ _ _ _ _ _ _ _ _ _ r h => by simp [cfg_vars.j1] at h⟩
  | k + 1 => by
    obtain ⟨ih0, ih1⟩ := cfg_vars.mono_l k
    refine ⟨?_, ?_⟩
    · intro y0 y1 y2 y3 y4 y5 y6 y7 y8 y9 y10
      unfold cfg_vars.j0
      repeat' first
      | (with_reducible exact ih0 _ _ _ _ _ _ _ _ _ _ _)
      | (with_reducible exact ih1 _ _ _ _ _ _ _ _ _ _ _)
      | (with_reducible exact LeO.refl _)
      | (with_reducible exact LeO.none _)
      | (with_reducible refine LeO.ite ?_ ?_)
      | (with_reducible refine LeO.bind ?_ (fun _ => ?_))
      | exact ih0 _ _ _ _ _ _ _ _ _ _ _
      | exact ih1 _ _ _ _ _ _ _ _ _ _ _
      | exact LeO.none _
      | refine LeO.ite ?_ ?_
      | refine LeO.bind ?_ (fun _ => ?_)
    · intro y0 y1 y2 y3 y4 y5 y6 y7 y8 y9 y10
      unfold cfg_vars.j1
      repeat' first
      | (with_reducible exact ih0 _ _ _ _ _ _ _ _ _ _ _)
      | (with_reducible exact ih1 _ _ _ _ _ _ _ _ _ _ _)
      | (with_reducible exact LeO.refl _)
      | (with_reducible exact LeO.none _)
      | (with_reducible refine LeO.ite ?_ ?_)
      | (with_reducible refine LeO.bind ?_ (fun _ => ?_))
      | exact ih0 _ _ _ _ _ _ _ _ _ _ _
      | exact ih1 _ _ _ _ _ _ _ _ _ _ _
      | exact LeO.none _
      | refine LeO.ite ?_ ?_
      | refine LeO.bind ?_ (fun _ => ?_)
theorem cfg_vars.mono : ∀ a0 a1 a2 a3 a4 a5 a6 a7 a8 k, LeO (cfg_vars.f k a0 a1 a2 a3 a4 a5 a6 a7 a8) (cfg_vars.f (k + 1) a0 a1 a2 a3 a4 a5 a6 a7 a8) := by
  intro a0 a1 a2 a3 a4 a5 a6 a7 a8 k
  obtain ⟨ih0, ih1⟩ := cfg_vars.mono_l k
  unfold cfg_vars.f
  repeat' first
      | (with_reducible exact ih0 _ _ _ _ _ _ _ _ _ _ _)
      | (with_reducible exact ih1 _ _ _ _ _ _ _ _ _ _ _)
      | (with_reducible exact LeO.refl _)
      | (with_reducible exact LeO.none _)
      | (with_reducible refine LeO.ite ?_ ?_)
      | (with_reducible refine LeO.bind ?_ (fun _ => ?_))
      | exact ih0 _ _ _ _ _ _ _ _ _ _ _
      | exact ih1 _ _ _ _ _ _ _ _ _ _ _
      | exact LeO.none _
      | refine LeO.ite ?_ ?_
      | refine LeO.bind ?_ (fun _ => ?_)
set_option maxHeartbeats 8000000 in
set_option maxRecDepth 100000 in
theorem cfg_vars.calls (k : Nat) (a0_0 : Int) (a0_1 : Int) (a0_2 : Int) (a0_3 : Int) (a0_4 : Int) (a0_5 : Int) (a0_6 : Int) (a0_7 : Int) (a0_8 : Int) (r : List Int) (w : World) (h : cfg_vars.f k a0_0 a0_1 a0_2 a0_3 a0_4 a0_5 a0_6 a0_7 a0_8 = some r) :
    Calls Try.prog 79 #[.agg #[.int .i64 a0_0, .int .i64 a0_1, .int .i64 a0_2, .int .i64 a0_3, .int .i64 a0_4, .int .i64 a0_5, .int .i64 a0_6, .int .i64 a0_7, .int .i64 a0_8]] w fun e w' => ∃ v0_ : Value, e = .returned (v0_) ∧ Kd.R (Kd.int .i64) 3 w' w.heap.size (fun _ => True) v0_ r ∧ Below w.heap.size w w' := by
  have hu33 := Try.underlying33
  have HB := Aside0.mk (Below.refl w.heap.size w)
  have H : (if a0_0 = 1 then (cfg_vars.j0 k a0_0 (a0_0 == 1) a0_0 a0_1 a0_2 a0_3 a0_4 a0_5 a0_6 a0_7 a0_8) else (if a0_0 = 3 then (cfg_vars.j0 k a0_0 (a0_0 == 3) a0_0 a0_1 a0_2 a0_3 a0_4 a0_5 a0_6 a0_7 a0_8) else (cfg_vars.j0 k a0_0 (a0_0 == 5) a0_0 a0_1 a0_2 a0_3 a0_4 a0_5 a0_6 a0_7 a0_8))) = some r := h
  clear h
  have HC2 := Aside0.mk H
  clear H
  go_enter Try.func79, Try.ntmps79
  go_upto_if 5 with (first | ((with_reducible refine gate_dst (N := 1) rfl ?_); refine box_event ?hg (N := 1) ?hd (cs := #[.int .i64 a0_0, .int .i64 a0_1, .int .i64 a0_2, .int .i64 a0_3, .int .i64 a0_4, .int .i64 a0_5, .int .i64 a0_6, .int .i64 a0_7, .int .i64 a0_8]) (t := 33) ?hr ?_; (case hd => rfl); (case hg => rfl); (case hr => first | (go_simp; done) | (go_simp; rfl)); intro gb424 hg w3 hbox hb; have n0_ := Aside0.mk (below_step (by repeat (first | (with_reducible first | exact HB.out | apply below_alloc | apply pw_below_drewN | apply below_drew1) | exact HB.out)) hb); have n1_ := Aside0.mk (hbox); have n2_ := Aside0.mk ((by rw [hg]; exact (below_size (by repeat (first | (with_reducible first | exact HB.out | apply below_alloc | apply pw_below_drewN | apply below_drew1) | exact HB.out))) : w.heap.size ≤ gb424)); have n3_ := Aside0.mk ((by rw [hg]; exact (below_size (by repeat (first | (with_reducible first | exact HB.out | apply below_alloc | apply pw_below_drewN | apply below_drew1) | exact HB.out))) : w.heap.size ≤ gb424)); clear HB; have HB := n0_; have BK424 := n1_; have GW424 := n2_; have GE424 := n3_; clear n0_ n1_ n2_ n3_; clear hb hbox hg; have hcz4_0 : w3.cell? ⟨gb424, 0, none⟩ = some (.int .i64 a0_0) := (blk_cell BK424.out 0).trans rfl; have hcz4_1 : w3.cell? ⟨gb424, 1, none⟩ = some (.int .i64 a0_1) := (blk_cell BK424.out 1).trans rfl; have hcz4_2 : w3.cell? ⟨gb424, 2, none⟩ = some (.int .i64 a0_2) := (blk_cell BK424.out 2).trans rfl; have hcz4_3 : w3.cell? ⟨gb424, 3, none⟩ = some (.int .i64 a0_3) := (blk_cell BK424.out 3).trans rfl; have hcz4_4 : w3.cell? ⟨gb424, 4, none⟩ = some (.int .i64 a0_4) := (blk_cell BK424.out 4).trans rfl; have hcz4_5 : w3.cell? ⟨gb424, 5, none⟩ = some (.int .i64 a0_5) := (blk_cell BK424.out 5).trans rfl; have hcz4_6 : w3.cell? ⟨gb424, 6, none⟩ = some (.int .i64 a0_6) := (blk_cell BK424.out 6).trans rfl; have hcz4_7 : w3.cell? ⟨gb424, 7, none⟩ = some (.int .i64 a0_7) := (blk_cell BK424.out 7).trans rfl; have hcz4_8 : w3.cell? ⟨gb424, 8, none⟩ = some (.int .i64 a0_8) := (blk_cell BK424.out 8).trans rfl; have hfz4_0 := blk_frozen BK424.out 0; have hfz4_1 := blk_frozen BK424.out 1; have hfz4_2 := blk_frozen BK424.out 2; have hfz4_3 := blk_frozen BK424.out 3; have hfz4_4 := blk_frozen BK424.out 4; have hfz4_5 := blk_frozen BK424.out 5; have hfz4_6 := blk_frozen BK424.out 6; have hfz4_7 := blk_frozen BK424.out 7; have hfz4_8 := blk_frozen BK424.out 8))
  (try simp only [Act.put, List.setIfInBounds_toArray, List.set_cons_zero, List.set_cons_succ])
  go_cut [5] (fun v5 wc => ∃ (kq : Nat) (x5_1 : Bool), v5 = .bool x5_1 ∧ Aside0 (cfg_vars.j0 kq a0_0 x5_1 a0_0 a0_1 a0_2 a0_3 a0_4 a0_5 a0_6 a0_7 a0_8 = some r) ∧ Aside0 (kq ≤ k) ∧ Aside0 (wc.heap[gb424]? = some (.cells #[.int .i64 a0_0, .int .i64 a0_1, .int .i64 a0_2, .int .i64 a0_3, .int .i64 a0_4, .int .i64 a0_5, .int .i64 a0_6, .int .i64 a0_7, .int .i64 a0_8] 33 (0, 0))) ∧ Aside0 (Below w.heap.size w wc))
  case first =>
    have H := HC2.out
    clear HC2
    by_cases c5 : a0_0 = 1
    · rw [if_pos c5] at H
      have c5b0 : (a0_0 == 1) = true := beq_iff_eq.mpr c5
      have c5b1 : (a0_0 != 1) = false := bne_eq_false_iff_eq.mpr c5
      clear c5
      (first | rw [c5b0] | (simp only [i64_w, i32_w]; rw [c5b0]) | skip)
      have H' := Aside0.mk H
      clear H
      go_wp2
      go_meet
      case rel => exact ⟨_, ((a0_0 == 1)), (by first | rfl | (simp; done) | (simp [*]; done)), H', ⟨by first | omega | exact Nat.le_refl _⟩, ⟨by (with_reducible repeat (first | refine blk_drewN ?_ _ | refine blk_drew ?_ | refine blk_alloc ?_ _)); exact BK424.out⟩, ⟨by repeat (first | (with_reducible first | exact HB.out | apply below_alloc | apply pw_below_drewN | apply below_drew1 | refine below_set ?_ GE424.out) | exact HB.out)⟩⟩
    · rw [if_neg c5] at H
      have c5b0 : (a0_0 == 1) = false := beq_eq_false_iff_ne.mpr c5
      have c5b1 : (a0_0 != 1) = true := bne_iff_ne.mpr c5
      (first | rw [c5b0] | (simp only [i64_w, i32_w]; rw [c5b0]) | skip)
      by_cases c6 : a0_0 = 3
      · rw [if_pos c6] at H
        have c6b0 : (a0_0 == 3) = true := beq_iff_eq.mpr c6
        have c6b1 : (a0_0 != 3) = false := bne_eq_false_iff_eq.mpr c6
        clear c6
        have H' := Aside0.mk H
        clear H
        go_wp2
        go_meet
        case rel => exact ⟨_, ((a0_0 == 3)), (by first | rfl | (simp; done) | (simp [*]; done)), H', ⟨by first | omega | exact Nat.le_refl _⟩, ⟨by (with_reducible repeat (first | refine blk_drewN ?_ _ | refine blk_drew ?_ | refine blk_alloc ?_ _)); exact BK424.out⟩, ⟨by repeat (first | (with_reducible first | exact HB.out | apply below_alloc | apply pw_below_drewN | apply below_drew1 | refine below_set ?_ GE424.out) | exact HB.out)⟩⟩
      · rw [if_neg c6] at H
        have c6b0 : (a0_0 == 3) = false := beq_eq_false_iff_ne.mpr c6
        have c6b1 : (a0_0 != 3) = true := bne_iff_ne.mpr c6
        have H' := Aside0.mk H
        clear H
        go_wp2
        go_meet
        case rel => exact ⟨_, ((a0_0 == 5)), (by first | rfl | (simp; done) | (simp [*]; done)), H', ⟨by first | omega | exact Nat.le_refl _⟩, ⟨by (with_reducible repeat (first | refine blk_drewN ?_ _ | refine blk_drew ?_ | refine blk_alloc ?_ _)); exact BK424.out⟩, ⟨by repeat (first | (with_reducible first | exact HB.out | apply below_alloc | apply pw_below_drewN | apply below_drew1 | refine below_set ?_ GE424.out) | exact HB.out)⟩⟩
  case rest =>
    clear HC2
    try clear p2
    try clear c5
    try clear c5b0
    try clear c5b1
    try clear c6
    try clear c6b0
    try clear c6b1
    try clear hcz4_0
    try clear hcz4_1
    try clear hcz4_2
    try clear hcz4_3
    try clear hcz4_4
    try clear hcz4_5
    try clear hcz4_6
    try clear hcz4_7
    try clear hcz4_8
    try clear hfz4_0
    try clear hfz4_1
    try clear hfz4_2
    try clear hfz4_3
    try clear hfz4_4
    try clear hfz4_5
    try clear hfz4_6
    try clear hfz4_7
    try clear hfz4_8
    obtain ⟨kq, x5_1, rfl, HA, HJ1, BK424, HB⟩ := hcut
    cases kq with
    | zero => exact absurd HA.out (by simp [cfg_vars.j0])
    | succ kj1 =>
      have H := HA.out
      clear HA
      simp only [cfg_vars.j0] at H
      by_cases c7 : x5_1 = true
      · subst c7
        have H1 : (some (([a0_1] : List Int))) = some r := by rw [if_pos rfl] at H; exact H
        clear H
        have H := H1
        clear H1
        obtain ⟨y425, hy425⟩ : ∃ y_ : List Int, y_ = (([a0_1] : List Int)) := ⟨_, rfl⟩
        replace H : (some y425) = some r := by first | (rw [hy425]; with_reducible exact H) | (have H2_ := (Option.bind_some _ _).symm.trans H; rw [hy425]; with_reducible exact H2_) | (have H2_ := (Option.bind_some _ _).symm.trans H; with_reducible exact H2_) | with_reducible exact H | (rw [hy425]; exact H) | exact H
        have Ny425 := Aside0.mk hy425
        clear hy425
        obtain rfl := Option.some.inj H
        have hcz8_0 : wc.cell? ⟨gb424, 0, none⟩ = some (.int .i64 a0_0) := (blk_cell BK424.out 0).trans rfl
        have hcz8_1 : wc.cell? ⟨gb424, 1, none⟩ = some (.int .i64 a0_1) := (blk_cell BK424.out 1).trans rfl
        have hcz8_2 : wc.cell? ⟨gb424, 2, none⟩ = some (.int .i64 a0_2) := (blk_cell BK424.out 2).trans rfl
        have hcz8_3 : wc.cell? ⟨gb424, 3, none⟩ = some (.int .i64 a0_3) := (blk_cell BK424.out 3).trans rfl
        have hcz8_4 : wc.cell? ⟨gb424, 4, none⟩ = some (.int .i64 a0_4) := (blk_cell BK424.out 4).trans rfl
        have hcz8_5 : wc.cell? ⟨gb424, 5, none⟩ = some (.int .i64 a0_5) := (blk_cell BK424.out 5).trans rfl
        have hcz8_6 : wc.cell? ⟨gb424, 6, none⟩ = some (.int .i64 a0_6) := (blk_cell BK424.out 6).trans rfl
        have hcz8_7 : wc.cell? ⟨gb424, 7, none⟩ = some (.int .i64 a0_7) := (blk_cell BK424.out 7).trans rfl
        have hcz8_8 : wc.cell? ⟨gb424, 8, none⟩ = some (.int .i64 a0_8) := (blk_cell BK424.out 8).trans rfl
        have hfz8_0 := blk_frozen BK424.out 0
        have hfz8_1 := blk_frozen BK424.out 1
        have hfz8_2 := blk_frozen BK424.out 2
        have hfz8_3 := blk_frozen BK424.out 3
        have hfz8_4 := blk_frozen BK424.out 4
        have hfz8_5 := blk_frozen BK424.out 5
        have hfz8_6 := blk_frozen BK424.out 6
        have hfz8_7 := blk_frozen BK424.out 7
        have hfz8_8 := blk_frozen BK424.out 8
        go_wp2_with (first | ((with_reducible refine gate_dst (N := 11) rfl ?_); refine Kd.R_lit (Kd.int .i64) _ 3 ?hg (N := 11) ?hd (xs := ([a0_1] : List Int)) (inner := [.int .i64 a0_1]) (ok := fun _ => True) (okp := fun _ => True) ?hr ?hp (fun _ hk => hk) trivial (Below.refl _ _) (Nat.le_refl _) (by simp) ?_; (case hd => rfl); (case hg => rfl); (case hr => first | (go_simp; done) | (go_simp; rfl)); (case hp => exact (Reps.one (show Kd.M (Kd.int .i64) _ _ _ a0_1 [.int .i64 a0_1] from rfl) (Reps.none _ _))); intro v426 w9 ho10 hb hg_ hnew_; clear hg_ hnew_; (first | rw [← Ny425.out] at ho10 | (simp only [Int.reduceToNat] at ho10; rw [← Ny425.out] at ho10)); have n0_ := Aside0.mk (Kd.R_lower ho10 (below_size (by repeat (first | (with_reducible first | exact HB.out | apply below_alloc | apply pw_below_drewN | apply below_drew1 | refine below_set ?_ GE424.out) | exact HB.out)))); have n1_ := Aside0.mk (blk_below (g := gb424) (o := .cells #[.int .i64 a0_0, .int .i64 a0_1, .int .i64 a0_2, .int .i64 a0_3, .int .i64 a0_4, .int .i64 a0_5, .int .i64 a0_6, .int .i64 a0_7, .int .i64 a0_8] 33 (0, 0)) (by (with_reducible repeat (first | refine blk_drewN ?_ _ | refine blk_drew ?_ | refine blk_alloc ?_ _)); exact BK424.out) hb); have n2_ := Aside0.mk (below_step (by repeat (first | (with_reducible first | exact HB.out | apply below_alloc | apply pw_below_drewN | apply below_drew1 | refine below_set ?_ GE424.out) | exact HB.out)) hb); clear BK424; clear HB; have HO427 := n0_; have BK424 := n1_; have HB := n2_; clear n0_ n1_ n2_; clear hb ho10))
        go_ret
        exact ⟨_, by first | rfl | (simp [errW_none, errW_some] <;> rfl) | (simp [*, errW_none, errW_some] <;> rfl), by (with_reducible repeat (first | apply Kd.R_alloc | apply Kd.R_drewN | apply Kd.R_drew)); exact HO427.out, by repeat (first | (with_reducible first | exact HB.out | apply below_alloc | apply pw_below_drewN | apply below_drew1 | refine below_set ?_ GE424.out) | exact HB.out)⟩
      · replace c7 := Bool.eq_false_iff.mpr c7
        subst c7
        have H1 : (if a0_0 = 2 then (cfg_vars.j1 kj1 a0_0 (a0_0 == 2) a0_0 a0_1 a0_2 a0_3 a0_4 a0_5 a0_6 a0_7 a0_8) else (cfg_vars.j1 kj1 a0_0 (a0_0 == 7) a0_0 a0_1 a0_2 a0_3 a0_4 a0_5 a0_6 a0_7 a0_8)) = some r := by rw [if_neg (show ¬ (false = true) by decide)] at H; exact H
        clear H
        have H := H1
        clear H1
        have HC11 := Aside0.mk H
        clear H
        go_upto_if 12 with (fail)
        go_cut [12] (fun v12 wc => ∃ (kq : Nat) (x12_10 : Bool), v12 = .bool x12_10 ∧ Aside0 (cfg_vars.j1 kq a0_0 x12_10 a0_0 a0_1 a0_2 a0_3 a0_4 a0_5 a0_6 a0_7 a0_8 = some r) ∧ Aside0 (kq ≤ kj1) ∧ Aside0 (wc.heap[gb424]? = some (.cells #[.int .i64 a0_0, .int .i64 a0_1, .int .i64 a0_2, .int .i64 a0_3, .int .i64 a0_4, .int .i64 a0_5, .int .i64 a0_6, .int .i64 a0_7, .int .i64 a0_8] 33 (0, 0))) ∧ Aside0 (Below w.heap.size w wc))
        case first =>
          have H := HC11.out
          clear HC11
          by_cases c12 : a0_0 = 2
          · rw [if_pos c12] at H
            have c12b0 : (a0_0 == 2) = true := beq_iff_eq.mpr c12
            have c12b1 : (a0_0 != 2) = false := bne_eq_false_iff_eq.mpr c12
            clear c12
            (first | rw [c12b0] | (simp only [i64_w, i32_w]; rw [c12b0]) | skip)
            have H' := Aside0.mk H
            clear H
            go_wp2
            go_meet
            case rel => exact ⟨_, ((a0_0 == 2)), (by first | rfl | (simp; done) | (simp [*]; done)), H', ⟨by have := HJ1.out; first | omega | exact Nat.le_refl _⟩, ⟨by (with_reducible repeat (first | refine blk_drewN ?_ _ | refine blk_drew ?_ | refine blk_alloc ?_ _)); exact BK424.out⟩, ⟨by repeat (first | (with_reducible first | exact HB.out | apply below_alloc | apply pw_below_drewN | apply below_drew1 | refine below_set ?_ GE424.out) | exact HB.out)⟩⟩
          · rw [if_neg c12] at H
            have c12b0 : (a0_0 == 2) = false := beq_eq_false_iff_ne.mpr c12
            have c12b1 : (a0_0 != 2) = true := bne_iff_ne.mpr c12
            (first | rw [c12b0] | (simp only [i64_w, i32_w]; rw [c12b0]) | skip)
            have H' := Aside0.mk H
            clear H
            go_wp2
            go_meet
            case rel => exact ⟨_, ((a0_0 == 7)), (by first | rfl | (simp; done) | (simp [*]; done)), H', ⟨by have := HJ1.out; first | omega | exact Nat.le_refl _⟩, ⟨by (with_reducible repeat (first | refine blk_drewN ?_ _ | refine blk_drew ?_ | refine blk_alloc ?_ _)); exact BK424.out⟩, ⟨by repeat (first | (with_reducible first | exact HB.out | apply below_alloc | apply pw_below_drewN | apply below_drew1 | refine below_set ?_ GE424.out) | exact HB.out)⟩⟩
        case rest =>
          clear HC11
          try clear c1
          try clear p2
          try clear c5
          try clear c5b0
          try clear c5b1
          try clear c6
          try clear c6b0
          try clear c6b1
          try clear c7
          try clear c12
          try clear c12b0
          try clear c12b1
          try clear hcz4_0
          try clear hcz4_1
          try clear hcz4_2
          try clear hcz4_3
          try clear hcz4_4
          try clear hcz4_5
          try clear hcz4_6
          try clear hcz4_7
          try clear hcz4_8
          try clear hcz8_0
          try clear hcz8_1
          try clear hcz8_2
          try clear hcz8_3
          try clear hcz8_4
          try clear hcz8_5
          try clear hcz8_6
          try clear hcz8_7
          try clear hcz8_8
          try clear hfz4_0
          try clear hfz4_1
          try clear hfz4_2
          try clear hfz4_3
          try clear hfz4_4
          try clear hfz4_5
          try clear hfz4_6
          try clear hfz4_7
          try clear hfz4_8
          try clear hfz8_0
          try clear hfz8_1
          try clear hfz8_2
          try clear hfz8_3
          try clear hfz8_4
          try clear hfz8_5
          try clear hfz8_6
          try clear hfz8_7
          try clear hfz8_8
          try clear p2
          obtain ⟨kq, x12_10, rfl, HA, HJ10, BK424, HB⟩ := hcut
          cases kq with
          | zero => exact absurd HA.out (by simp [cfg_vars.j1])
          | succ kj10 =>
            have H := HA.out
            clear HA
            simp only [cfg_vars.j1] at H
            by_cases c13 : x12_10 = true
            · subst c13
              have H1 : (some (([a0_1, a0_2] : List Int))) = some r := by rw [if_pos rfl] at H; exact H
              clear H
              have H := H1
              clear H1
              obtain ⟨y428, hy428⟩ : ∃ y_ : List Int, y_ = (([a0_1, a0_2] : List Int)) := ⟨_, rfl⟩
              replace H : (some y428) = some r := by first | (rw [hy428]; with_reducible exact H) | (have H2_ := (Option.bind_some _ _).symm.trans H; rw [hy428]; with_reducible exact H2_) | (have H2_ := (Option.bind_some _ _).symm.trans H; with_reducible exact H2_) | with_reducible exact H | (rw [hy428]; exact H) | exact H
              have Ny428 := Aside0.mk hy428
              clear hy428
              obtain rfl := Option.some.inj H
              have hcz14_0 : wc.cell? ⟨gb424, 0, none⟩ = some (.int .i64 a0_0) := (blk_cell BK424.out 0).trans rfl
              have hcz14_1 : wc.cell? ⟨gb424, 1, none⟩ = some (.int .i64 a0_1) := (blk_cell BK424.out 1).trans rfl
              have hcz14_2 : wc.cell? ⟨gb424, 2, none⟩ = some (.int .i64 a0_2) := (blk_cell BK424.out 2).trans rfl
              have hcz14_3 : wc.cell? ⟨gb424, 3, none⟩ = some (.int .i64 a0_3) := (blk_cell BK424.out 3).trans rfl
              have hcz14_4 : wc.cell? ⟨gb424, 4, none⟩ = some (.int .i64 a0_4) := (blk_cell BK424.out 4).trans rfl
              have hcz14_5 : wc.cell? ⟨gb424, 5, none⟩ = some (.int .i64 a0_5) := (blk_cell BK424.out 5).trans rfl
              have hcz14_6 : wc.cell? ⟨gb424, 6, none⟩ = some (.int .i64 a0_6) := (blk_cell BK424.out 6).trans rfl
              have hcz14_7 : wc.cell? ⟨gb424, 7, none⟩ = some (.int .i64 a0_7) := (blk_cell BK424.out 7).trans rfl
              have hcz14_8 : wc.cell? ⟨gb424, 8, none⟩ = some (.int .i64 a0_8) := (blk_cell BK424.out 8).trans rfl
              have hfz14_0 := blk_frozen BK424.out 0
              have hfz14_1 := blk_frozen BK424.out 1
              have hfz14_2 := blk_frozen BK424.out 2
              have hfz14_3 := blk_frozen BK424.out 3
              have hfz14_4 := blk_frozen BK424.out 4
              have hfz14_5 := blk_frozen BK424.out 5
              have hfz14_6 := blk_frozen BK424.out 6
              have hfz14_7 := blk_frozen BK424.out 7
              have hfz14_8 := blk_frozen BK424.out 8
              go_wp2_with (first | ((with_reducible refine gate_dst (N := 19) rfl ?_); refine Kd.R_lit (Kd.int .i64) _ 3 ?hg (N := 19) ?hd (xs := ([a0_1, a0_2] : List Int)) (inner := [.int .i64 a0_1, .int .i64 a0_2]) (ok := fun _ => True) (okp := fun _ => True) ?hr ?hp (fun _ hk => hk) trivial (Below.refl _ _) (Nat.le_refl _) (by simp) ?_; (case hd => rfl); (case hg => rfl); (case hr => first | (go_simp; done) | (go_simp; rfl)); (case hp => exact (Reps.one (show Kd.M (Kd.int .i64) _ _ _ a0_1 [.int .i64 a0_1] from rfl) (Reps.one (show Kd.M (Kd.int .i64) _ _ _ a0_2 [.int .i64 a0_2] from rfl) (Reps.none _ _)))); intro v429 w15 ho16 hb hg_ hnew_; clear hg_ hnew_; (first | rw [← Ny428.out] at ho16 | (simp only [Int.reduceToNat] at ho16; rw [← Ny428.out] at ho16)); have n0_ := Aside0.mk (Kd.R_lower ho16 (below_size (by repeat (first | (with_reducible first | exact HB.out | apply below_alloc | apply pw_below_drewN | apply below_drew1 | refine below_set ?_ GE424.out) | exact HB.out)))); have n1_ := Aside0.mk (blk_below (g := gb424) (o := .cells #[.int .i64 a0_0, .int .i64 a0_1, .int .i64 a0_2, .int .i64 a0_3, .int .i64 a0_4, .int .i64 a0_5, .int .i64 a0_6, .int .i64 a0_7, .int .i64 a0_8] 33 (0, 0)) (by (with_reducible repeat (first | refine blk_drewN ?_ _ | refine blk_drew ?_ | refine blk_alloc ?_ _)); exact BK424.out) hb); have n2_ := Aside0.mk (below_step (by repeat (first | (with_reducible first | exact HB.out | apply below_alloc | apply pw_below_drewN | apply below_drew1 | refine below_set ?_ GE424.out) | exact HB.out)) hb); clear BK424; clear HB; have HO430 := n0_; have BK424 := n1_; have HB := n2_; clear n0_ n1_ n2_; clear hb ho16))
              go_ret
              exact ⟨_, by first | rfl | (simp [errW_none, errW_some] <;> rfl) | (simp [*, errW_none, errW_some] <;> rfl), by (with_reducible repeat (first | apply Kd.R_alloc | apply Kd.R_drewN | apply Kd.R_drew)); exact HO430.out, by repeat (first | (with_reducible first | exact HB.out | apply below_alloc | apply pw_below_drewN | apply below_drew1 | refine below_set ?_ GE424.out) | exact HB.out)⟩
            · replace c13 := Bool.eq_false_iff.mpr c13
              subst c13
              have H1 : (if a0_0 = 4 then (some (([a0_1, a0_2, a0_3] : List Int))) else (if a0_0 = 6 then (some (([a0_2] : List Int))) else (if a0_0 = 8 then (some (([a0_2, a0_3] : List Int))) else (if a0_0 = 11 then (some (([a0_2, a0_3] : List Int))) else (some ([] : List Int)))))) = some r := by rw [if_neg (show ¬ (false = true) by decide)] at H; exact H
              clear H
              have H := H1
              clear H1
              by_cases c17 : a0_0 = 4
              · rw [if_pos c17] at H
                have c17b0 : (a0_0 == 4) = true := beq_iff_eq.mpr c17
                have c17b1 : (a0_0 != 4) = false := bne_eq_false_iff_eq.mpr c17
                clear c17
                obtain ⟨y431, hy431⟩ : ∃ y_ : List Int, y_ = (([a0_1, a0_2, a0_3] : List Int)) := ⟨_, rfl⟩
                replace H : (some y431) = some r := by first | (rw [hy431]; with_reducible exact H) | (have H2_ := (Option.bind_some _ _).symm.trans H; rw [hy431]; with_reducible exact H2_) | (have H2_ := (Option.bind_some _ _).symm.trans H; with_reducible exact H2_) | with_reducible exact H | (rw [hy431]; exact H) | exact H
                have Ny431 := Aside0.mk hy431
                clear hy431
                obtain rfl := Option.some.inj H
                have hcz18_0 : wc.cell? ⟨gb424, 0, none⟩ = some (.int .i64 a0_0) := (blk_cell BK424.out 0).trans rfl
                have hcz18_1 : wc.cell? ⟨gb424, 1, none⟩ = some (.int .i64 a0_1) := (blk_cell BK424.out 1).trans rfl
                have hcz18_2 : wc.cell? ⟨gb424, 2, none⟩ = some (.int .i64 a0_2) := (blk_cell BK424.out 2).trans rfl
                have hcz18_3 : wc.cell? ⟨gb424, 3, none⟩ = some (.int .i64 a0_3) := (blk_cell BK424.out 3).trans rfl
                have hcz18_4 : wc.cell? ⟨gb424, 4, none⟩ = some (.int .i64 a0_4) := (blk_cell BK424.out 4).trans rfl
                have hcz18_5 : wc.cell? ⟨gb424, 5, none⟩ = some (.int .i64 a0_5) := (blk_cell BK424.out 5).trans rfl
                have hcz18_6 : wc.cell? ⟨gb424, 6, none⟩ = some (.int .i64 a0_6) := (blk_cell BK424.out 6).trans rfl
                have hcz18_7 : wc.cell? ⟨gb424, 7, none⟩ = some (.int .i64 a0_7) := (blk_cell BK424.out 7).trans rfl
                have hcz18_8 : wc.cell? ⟨gb424, 8, none⟩ = some (.int .i64 a0_8) := (blk_cell BK424.out 8).trans rfl
                have hfz18_0 := blk_frozen BK424.out 0
                have hfz18_1 := blk_frozen BK424.out 1
                have hfz18_2 := blk_frozen BK424.out 2
                have hfz18_3 := blk_frozen BK424.out 3
                have hfz18_4 := blk_frozen BK424.out 4
                have hfz18_5 := blk_frozen BK424.out 5
                have hfz18_6 := blk_frozen BK424.out 6
                have hfz18_7 := blk_frozen BK424.out 7
                have hfz18_8 := blk_frozen BK424.out 8
                go_wp2_with (first | ((with_reducible refine gate_dst (N := 28) rfl ?_); refine Kd.R_lit (Kd.int .i64) _ 3 ?hg (N := 28) ?hd (xs := ([a0_1, a0_2, a0_3] : List Int)) (inner := [.int .i64 a0_1, .int .i64 a0_2, .int .i64 a0_3]) (ok := fun _ => True) (okp := fun _ => True) ?hr ?hp (fun _ hk => hk) trivial (Below.refl _ _) (Nat.le_refl _) (by simp) ?_; (case hd => rfl); (case hg => rfl); (case hr => first | (go_simp; done) | (go_simp; rfl)); (case hp => exact (Reps.one (show Kd.M (Kd.int .i64) _ _ _ a0_1 [.int .i64 a0_1] from rfl) (Reps.one (show Kd.M (Kd.int .i64) _ _ _ a0_2 [.int .i64 a0_2] from rfl) (Reps.one (show Kd.M (Kd.int .i64) _ _ _ a0_3 [.int .i64 a0_3] from rfl) (Reps.none _ _))))); intro v432 w19 ho20 hb hg_ hnew_; clear hg_ hnew_; (first | rw [← Ny431.out] at ho20 | (simp only [Int.reduceToNat] at ho20; rw [← Ny431.out] at ho20)); have n0_ := Aside0.mk (Kd.R_lower ho20 (below_size (by repeat (first | (with_reducible first | exact HB.out | apply below_alloc | apply pw_below_drewN | apply below_drew1 | refine below_set ?_ GE424.out) | exact HB.out)))); have n1_ := Aside0.mk (blk_below (g := gb424) (o := .cells #[.int .i64 a0_0, .int .i64 a0_1, .int .i64 a0_2, .int .i64 a0_3, .int .i64 a0_4, .int .i64 a0_5, .int .i64 a0_6, .int .i64 a0_7, .int .i64 a0_8] 33 (0, 0)) (by (with_reducible repeat (first | refine blk_drewN ?_ _ | refine blk_drew ?_ | refine blk_alloc ?_ _)); exact BK424.out) hb); have n2_ := Aside0.mk (below_step (by repeat (first | (with_reducible first | exact HB.out | apply below_alloc | apply pw_below_drewN | apply below_drew1 | refine below_set ?_ GE424.out) | exact HB.out)) hb); clear BK424; clear HB; have HO433 := n0_; have BK424 := n1_; have HB := n2_; clear n0_ n1_ n2_; clear hb ho20))
                go_ret
                exact ⟨_, by first | rfl | (simp [errW_none, errW_some] <;> rfl) | (simp [*, errW_none, errW_some] <;> rfl), by (with_reducible repeat (first | apply Kd.R_alloc | apply Kd.R_drewN | apply Kd.R_drew)); exact HO433.out, by repeat (first | (with_reducible first | exact HB.out | apply below_alloc | apply pw_below_drewN | apply below_drew1 | refine below_set ?_ GE424.out) | exact HB.out)⟩
              · rw [if_neg c17] at H
                have c17b0 : (a0_0 == 4) = false := beq_eq_false_iff_ne.mpr c17
                have c17b1 : (a0_0 != 4) = true := bne_iff_ne.mpr c17
                by_cases c21 : a0_0 = 6
                · rw [if_pos c21] at H
                  have c21b0 : (a0_0 == 6) = true := beq_iff_eq.mpr c21
                  have c21b1 : (a0_0 != 6) = false := bne_eq_false_iff_eq.mpr c21
                  clear c21
                  obtain ⟨y434, hy434⟩ : ∃ y_ : List Int, y_ = (([a0_2] : List Int)) := ⟨_, rfl⟩
                  replace H : (some y434) = some r := by first | (rw [hy434]; with_reducible exact H) | (have H2_ := (Option.bind_some _ _).symm.trans H; rw [hy434]; with_reducible exact H2_) | (have H2_ := (Option.bind_some _ _).symm.trans H; with_reducible exact H2_) | with_reducible exact H | (rw [hy434]; exact H) | exact H
                  have Ny434 := Aside0.mk hy434
                  clear hy434
                  obtain rfl := Option.some.inj H
                  have hcz22_0 : wc.cell? ⟨gb424, 0, none⟩ = some (.int .i64 a0_0) := (blk_cell BK424.out 0).trans rfl
                  have hcz22_1 : wc.cell? ⟨gb424, 1, none⟩ = some (.int .i64 a0_1) := (blk_cell BK424.out 1).trans rfl
                  have hcz22_2 : wc.cell? ⟨gb424, 2, none⟩ = some (.int .i64 a0_2) := (blk_cell BK424.out 2).trans rfl
                  have hcz22_3 : wc.cell? ⟨gb424, 3, none⟩ = some (.int .i64 a0_3) := (blk_cell BK424.out 3).trans rfl
                  have hcz22_4 : wc.cell? ⟨gb424, 4, none⟩ = some (.int .i64 a0_4) := (blk_cell BK424.out 4).trans rfl
                  have hcz22_5 : wc.cell? ⟨gb424, 5, none⟩ = some (.int .i64 a0_5) := (blk_cell BK424.out 5).trans rfl
                  have hcz22_6 : wc.cell? ⟨gb424, 6, none⟩ = some (.int .i64 a0_6) := (blk_cell BK424.out 6).trans rfl
                  have hcz22_7 : wc.cell? ⟨gb424, 7, none⟩ = some (.int .i64 a0_7) := (blk_cell BK424.out 7).trans rfl
                  have hcz22_8 : wc.cell? ⟨gb424, 8, none⟩ = some (.int .i64 a0_8) := (blk_cell BK424.out 8).trans rfl
                  have hfz22_0 := blk_frozen BK424.out 0
                  have hfz22_1 := blk_frozen BK424.out 1
                  have hfz22_2 := blk_frozen BK424.out 2
                  have hfz22_3 := blk_frozen BK424.out 3
                  have hfz22_4 := blk_frozen BK424.out 4
                  have hfz22_5 := blk_frozen BK424.out 5
                  have hfz22_6 := blk_frozen BK424.out 6
                  have hfz22_7 := blk_frozen BK424.out 7
                  have hfz22_8 := blk_frozen BK424.out 8
                  go_wp2_with (first | ((with_reducible refine gate_dst (N := 33) rfl ?_); refine Kd.R_lit (Kd.int .i64) _ 3 ?hg (N := 33) ?hd (xs := ([a0_2] : List Int)) (inner := [.int .i64 a0_2]) (ok := fun _ => True) (okp := fun _ => True) ?hr ?hp (fun _ hk => hk) trivial (Below.refl _ _) (Nat.le_refl _) (by simp) ?_; (case hd => rfl); (case hg => rfl); (case hr => first | (go_simp; done) | (go_simp; rfl)); (case hp => exact (Reps.one (show Kd.M (Kd.int .i64) _ _ _ a0_2 [.int .i64 a0_2] from rfl) (Reps.none _ _))); intro v435 w23 ho24 hb hg_ hnew_; clear hg_ hnew_; (first | rw [← Ny434.out] at ho24 | (simp only [Int.reduceToNat] at ho24; rw [← Ny434.out] at ho24)); have n0_ := Aside0.mk (Kd.R_lower ho24 (below_size (by repeat (first | (with_reducible first | exact HB.out | apply below_alloc | apply pw_below_drewN | apply below_drew1 | refine below_set ?_ GE424.out) | exact HB.out)))); have n1_ := Aside0.mk (blk_below (g := gb424) (o := .cells #[.int .i64 a0_0, .int .i64 a0_1, .int .i64 a0_2, .int .i64 a0_3, .int .i64 a0_4, .int .i64 a0_5, .int .i64 a0_6, .int .i64 a0_7, .int .i64 a0_8] 33 (0, 0)) (by (with_reducible repeat (first | refine blk_drewN ?_ _ | refine blk_drew ?_ | refine blk_alloc ?_ _)); exact BK424.out) hb); have n2_ := Aside0.mk (below_step (by repeat (first | (with_reducible first | exact HB.out | apply below_alloc | apply pw_below_drewN | apply below_drew1 | refine below_set ?_ GE424.out) | exact HB.out)) hb); clear BK424; clear HB; have HO436 := n0_; have BK424 := n1_; have HB := n2_; clear n0_ n1_ n2_; clear hb ho24))
                  go_ret
                  exact ⟨_, by first | rfl | (simp [errW_none, errW_some] <;> rfl) | (simp [*, errW_none, errW_some] <;> rfl), by (with_reducible repeat (first | apply Kd.R_alloc | apply Kd.R_drewN | apply Kd.R_drew)); exact HO436.out, by repeat (first | (with_reducible first | exact HB.out | apply below_alloc | apply pw_below_drewN | apply below_drew1 | refine below_set ?_ GE424.out) | exact HB.out)⟩
                · rw [if_neg c21] at H
                  have c21b0 : (a0_0 == 6) = false := beq_eq_false_iff_ne.mpr c21
                  have c21b1 : (a0_0 != 6) = true := bne_iff_ne.mpr c21
                  by_cases c25 : a0_0 = 8
                  · rw [if_pos c25] at H
                    have c25b0 : (a0_0 == 8) = true := beq_iff_eq.mpr c25
                    have c25b1 : (a0_0 != 8) = false := bne_eq_false_iff_eq.mpr c25
                    clear c25
                    obtain ⟨y437, hy437⟩ : ∃ y_ : List Int, y_ = (([a0_2, a0_3] : List Int)) := ⟨_, rfl⟩
                    replace H : (some y437) = some r := by first | (rw [hy437]; with_reducible exact H) | (have H2_ := (Option.bind_some _ _).symm.trans H; rw [hy437]; with_reducible exact H2_) | (have H2_ := (Option.bind_some _ _).symm.trans H; with_reducible exact H2_) | with_reducible exact H | (rw [hy437]; exact H) | exact H
                    have Ny437 := Aside0.mk hy437
                    clear hy437
                    obtain rfl := Option.some.inj H
                    have hcz26_0 : wc.cell? ⟨gb424, 0, none⟩ = some (.int .i64 a0_0) := (blk_cell BK424.out 0).trans rfl
                    have hcz26_1 : wc.cell? ⟨gb424, 1, none⟩ = some (.int .i64 a0_1) := (blk_cell BK424.out 1).trans rfl
                    have hcz26_2 : wc.cell? ⟨gb424, 2, none⟩ = some (.int .i64 a0_2) := (blk_cell BK424.out 2).trans rfl
                    have hcz26_3 : wc.cell? ⟨gb424, 3, none⟩ = some (.int .i64 a0_3) := (blk_cell BK424.out 3).trans rfl
                    have hcz26_4 : wc.cell? ⟨gb424, 4, none⟩ = some (.int .i64 a0_4) := (blk_cell BK424.out 4).trans rfl
                    have hcz26_5 : wc.cell? ⟨gb424, 5, none⟩ = some (.int .i64 a0_5) := (blk_cell BK424.out 5).trans rfl
                    have hcz26_6 : wc.cell? ⟨gb424, 6, none⟩ = some (.int .i64 a0_6) := (blk_cell BK424.out 6).trans rfl
                    have hcz26_7 : wc.cell? ⟨gb424, 7, none⟩ = some (.int .i64 a0_7) := (blk_cell BK424.out 7).trans rfl
                    have hcz26_8 : wc.cell? ⟨gb424, 8, none⟩ = some (.int .i64 a0_8) := (blk_cell BK424.out 8).trans rfl
                    have hfz26_0 := blk_frozen BK424.out 0
                    have hfz26_1 := blk_frozen BK424.out 1
                    have hfz26_2 := blk_frozen BK424.out 2
                    have hfz26_3 := blk_frozen BK424.out 3
                    have hfz26_4 := blk_frozen BK424.out 4
                    have hfz26_5 := blk_frozen BK424.out 5
                    have hfz26_6 := blk_frozen BK424.out 6
                    have hfz26_7 := blk_frozen BK424.out 7
                    have hfz26_8 := blk_frozen BK424.out 8
                    go_wp2_with (first | ((with_reducible refine gate_dst (N := 41) rfl ?_); refine Kd.R_lit (Kd.int .i64) _ 3 ?hg (N := 41) ?hd (xs := ([a0_2, a0_3] : List Int)) (inner := [.int .i64 a0_2, .int .i64 a0_3]) (ok := fun _ => True) (okp := fun _ => True) ?hr ?hp (fun _ hk => hk) trivial (Below.refl _ _) (Nat.le_refl _) (by simp) ?_; (case hd => rfl); (case hg => rfl); (case hr => first | (go_simp; done) | (go_simp; rfl)); (case hp => exact (Reps.one (show Kd.M (Kd.int .i64) _ _ _ a0_2 [.int .i64 a0_2] from rfl) (Reps.one (show Kd.M (Kd.int .i64) _ _ _ a0_3 [.int .i64 a0_3] from rfl) (Reps.none _ _)))); intro v438 w27 ho28 hb hg_ hnew_; clear hg_ hnew_; (first | rw [← Ny437.out] at ho28 | (simp only [Int.reduceToNat] at ho28; rw [← Ny437.out] at ho28)); have n0_ := Aside0.mk (Kd.R_lower ho28 (below_size (by repeat (first | (with_reducible first | exact HB.out | apply below_alloc | apply pw_below_drewN | apply below_drew1 | refine below_set ?_ GE424.out) | exact HB.out)))); have n1_ := Aside0.mk (blk_below (g := gb424) (o := .cells #[.int .i64 a0_0, .int .i64 a0_1, .int .i64 a0_2, .int .i64 a0_3, .int .i64 a0_4, .int .i64 a0_5, .int .i64 a0_6, .int .i64 a0_7, .int .i64 a0_8] 33 (0, 0)) (by (with_reducible repeat (first | refine blk_drewN ?_ _ | refine blk_drew ?_ | refine blk_alloc ?_ _)); exact BK424.out) hb); have n2_ := Aside0.mk (below_step (by repeat (first | (with_reducible first | exact HB.out | apply below_alloc | apply pw_below_drewN | apply below_drew1 | refine below_set ?_ GE424.out) | exact HB.out)) hb); clear BK424; clear HB; have HO439 := n0_; have BK424 := n1_; have HB := n2_; clear n0_ n1_ n2_; clear hb ho28))
                    go_ret
                    exact ⟨_, by first | rfl | (simp [errW_none, errW_some] <;> rfl) | (simp [*, errW_none, errW_some] <;> rfl), by (with_reducible repeat (first | apply Kd.R_alloc | apply Kd.R_drewN | apply Kd.R_drew)); exact HO439.out, by repeat (first | (with_reducible first | exact HB.out | apply below_alloc | apply pw_below_drewN | apply below_drew1 | refine below_set ?_ GE424.out) | exact HB.out)⟩
                  · rw [if_neg c25] at H
                    have c25b0 : (a0_0 == 8) = false := beq_eq_false_iff_ne.mpr c25
                    have c25b1 : (a0_0 != 8) = true := bne_iff_ne.mpr c25
                    by_cases c29 : a0_0 = 11
                    · rw [if_pos c29] at H
                      have c29b0 : (a0_0 == 11) = true := beq_iff_eq.mpr c29
                      have c29b1 : (a0_0 != 11) = false := bne_eq_false_iff_eq.mpr c29
                      clear c29
                      obtain ⟨y440, hy440⟩ : ∃ y_ : List Int, y_ = (([a0_2, a0_3] : List Int)) := ⟨_, rfl⟩
                      replace H : (some y440) = some r := by first | (rw [hy440]; with_reducible exact H) | (have H2_ := (Option.bind_some _ _).symm.trans H; rw [hy440]; with_reducible exact H2_) | (have H2_ := (Option.bind_some _ _).symm.trans H; with_reducible exact H2_) | with_reducible exact H | (rw [hy440]; exact H) | exact H
                      have Ny440 := Aside0.mk hy440
                      clear hy440
                      obtain rfl := Option.some.inj H
                      have hcz30_0 : wc.cell? ⟨gb424, 0, none⟩ = some (.int .i64 a0_0) := (blk_cell BK424.out 0).trans rfl
                      have hcz30_1 : wc.cell? ⟨gb424, 1, none⟩ = some (.int .i64 a0_1) := (blk_cell BK424.out 1).trans rfl
                      have hcz30_2 : wc.cell? ⟨gb424, 2, none⟩ = some (.int .i64 a0_2) := (blk_cell BK424.out 2).trans rfl
                      have hcz30_3 : wc.cell? ⟨gb424, 3, none⟩ = some (.int .i64 a0_3) := (blk_cell BK424.out 3).trans rfl
                      have hcz30_4 : wc.cell? ⟨gb424, 4, none⟩ = some (.int .i64 a0_4) := (blk_cell BK424.out 4).trans rfl
                      have hcz30_5 : wc.cell? ⟨gb424, 5, none⟩ = some (.int .i64 a0_5) := (blk_cell BK424.out 5).trans rfl
                      have hcz30_6 : wc.cell? ⟨gb424, 6, none⟩ = some (.int .i64 a0_6) := (blk_cell BK424.out 6).trans rfl
                      have hcz30_7 : wc.cell? ⟨gb424, 7, none⟩ = some (.int .i64 a0_7) := (blk_cell BK424.out 7).trans rfl
                      have hcz30_8 : wc.cell? ⟨gb424, 8, none⟩ = some (.int .i64 a0_8) := (blk_cell BK424.out 8).trans rfl
                      have hfz30_0 := blk_frozen BK424.out 0
                      have hfz30_1 := blk_frozen BK424.out 1
                      have hfz30_2 := blk_frozen BK424.out 2
                      have hfz30_3 := blk_frozen BK424.out 3
                      have hfz30_4 := blk_frozen BK424.out 4
                      have hfz30_5 := blk_frozen BK424.out 5
                      have hfz30_6 := blk_frozen BK424.out 6
                      have hfz30_7 := blk_frozen BK424.out 7
                      have hfz30_8 := blk_frozen BK424.out 8
                      go_wp2_with (first | ((with_reducible refine gate_dst (N := 41) rfl ?_); refine Kd.R_lit (Kd.int .i64) _ 3 ?hg (N := 41) ?hd (xs := ([a0_2, a0_3] : List Int)) (inner := [.int .i64 a0_2, .int .i64 a0_3]) (ok := fun _ => True) (okp := fun _ => True) ?hr ?hp (fun _ hk => hk) trivial (Below.refl _ _) (Nat.le_refl _) (by simp) ?_; (case hd => rfl); (case hg => rfl); (case hr => first | (go_simp; done) | (go_simp; rfl)); (case hp => exact (Reps.one (show Kd.M (Kd.int .i64) _ _ _ a0_2 [.int .i64 a0_2] from rfl) (Reps.one (show Kd.M (Kd.int .i64) _ _ _ a0_3 [.int .i64 a0_3] from rfl) (Reps.none _ _)))); intro v441 w31 ho32 hb hg_ hnew_; clear hg_ hnew_; (first | rw [← Ny440.out] at ho32 | (simp only [Int.reduceToNat] at ho32; rw [← Ny440.out] at ho32)); have n0_ := Aside0.mk (Kd.R_lower ho32 (below_size (by repeat (first | (with_reducible first | exact HB.out | apply below_alloc | apply pw_below_drewN | apply below_drew1 | refine below_set ?_ GE424.out) | exact HB.out)))); have n1_ := Aside0.mk (blk_below (g := gb424) (o := .cells #[.int .i64 a0_0, .int .i64 a0_1, .int .i64 a0_2, .int .i64 a0_3, .int .i64 a0_4, .int .i64 a0_5, .int .i64 a0_6, .int .i64 a0_7, .int .i64 a0_8] 33 (0, 0)) (by (with_reducible repeat (first | refine blk_drewN ?_ _ | refine blk_drew ?_ | refine blk_alloc ?_ _)); exact BK424.out) hb); have n2_ := Aside0.mk (below_step (by repeat (first | (with_reducible first | exact HB.out | apply below_alloc | apply pw_below_drewN | apply below_drew1 | refine below_set ?_ GE424.out) | exact HB.out)) hb); clear BK424; clear HB; have HO442 := n0_; have BK424 := n1_; have HB := n2_; clear n0_ n1_ n2_; clear hb ho32))
                      go_ret
                      exact ⟨_, by first | rfl | (simp [errW_none, errW_some] <;> rfl) | (simp [*, errW_none, errW_some] <;> rfl), by (with_reducible repeat (first | apply Kd.R_alloc | apply Kd.R_drewN | apply Kd.R_drew)); exact HO442.out, by repeat (first | (with_reducible first | exact HB.out | apply below_alloc | apply pw_below_drewN | apply below_drew1 | refine below_set ?_ GE424.out) | exact HB.out)⟩
                    · rw [if_neg c29] at H
                      have c29b0 : (a0_0 == 11) = false := beq_eq_false_iff_ne.mpr c29
                      have c29b1 : (a0_0 != 11) = true := bne_iff_ne.mpr c29
                      obtain rfl := Option.some.inj H
                      go_wp2
                      go_ret
                      exact ⟨_, by first | rfl | (simp [errW_none, errW_some] <;> rfl) | (simp [*, errW_none, errW_some] <;> rfl), by first | exact Kd.R_nil _ _ _ _ _ | exact Kd.N_nil _ _ _ _ _ | exact Kd.V_nil _ _ _ _ _ | exact Kd.Q_nil _ _ _ _ _ | exact Kd.S_nil _ _ _ _ _, by repeat (first | (with_reducible first | exact HB.out | apply below_alloc | apply pw_below_drewN | apply below_drew1 | refine below_set ?_ GE424.out) | exact HB.out)⟩
end Go.Proofs.Ytikjamcemnbhbaa.Mr
