/- An own text of this seat: Lean functions with the answers of Go functions, and that the Go code comes to them. Written by a program of this session out of the translation. -/
import Derived.Test.YtikjamcemnbhbaaMrx0
namespace Go.Proofs.Ytikjamcemnbhbaa.Mr
open Go.RowKit Go.Proofs.YtikjamcemnbhbaaW.PrintWords Go.Proofs.YtikjamcemnbhbaaW.PrintLast
set_option linter.unusedVariables false
set_option linter.unusedSimpArgs false

/-! ### cfg_shared: function 78 -/
mutual
def cfg_shared.j0 : Nat → Int → Bool → List Int → List Int → Int → List (S49) → Option (Int)
  | 0, _, _, _, _, _, _ => none
  | k + 1, x5, x6, x424000, x424001, x424002, x424003 => if x6 = true then (some (x424000.length : Int)) else (if x5 = 7 then (cfg_shared.j1 k x5 (x5 == 7) x424000 x424001 x424002 x424003) else (cfg_shared.j1 k x5 (x5 == 8) x424000 x424001 x424002 x424003))
def cfg_shared.j1 : Nat → Int → Bool → List Int → List Int → Int → List (S49) → Option (Int)
  | 0, _, _, _, _, _, _ => none
  | k + 1, x5, x12, x424000, x424001, x424002, x424003 => if x12 = true then (some (x424001.length : Int)) else (if x5 = 9 then (some x424002) else (if x5 = 10 then (some x424002) else (some 1)))
end
def cfg_shared.f (k : Nat) (l0_0 : List Int) (l0_1 : List Int) (a0_2 : Int) (l0_3 : List (S49)) (a1 : Int) : Option (Int) := if a1 = 5 then (cfg_shared.j0 k a1 (a1 == 5) l0_0 l0_1 a0_2 l0_3) else (cfg_shared.j0 k a1 (a1 == 6) l0_0 l0_1 a0_2 l0_3)
theorem cfg_shared.mono_l : ∀ k, (∀ y0 y1 y2 y3 y4 y5, LeO (cfg_shared.j0 k y0 y1 y2 y3 y4 y5) (cfg_shared.j0 (k + 1) y0 y1 y2 y3 y4 y5)) ∧ (∀ y0 y1 y2 y3 y4 y5, LeO (cfg_shared.j1 k y0 y1 y2 y3 y4 y5) (cfg_shared.j1 (k + 1) y0 y1 y2 y3 y4 y5))
  | 0 => ⟨fun _ _ _ _ _ _ r h => by simp [cfg_shared.j0] at h, fun _ _ _ _ _ _ r h => by simp [cfg_shared.j1] at h⟩
  | k + 1 => by
    obtain ⟨ih0, ih1⟩ := cfg_shared.mono_l k
    refine ⟨?_, ?_⟩
    · intro y0 y1 y2 y3 y4 y5
      unfold cfg_shared.j0
      repeat' first
      | (with_reducible exact ih0 _ _ _ _ _ _)
      | (with_reducible exact ih1 _ _ _ _ _ _)
      | (with_reducible exact LeO.refl _)
      | (with_reducible exact LeO.none _)
      | (with_reducible refine LeO.ite ?_ ?_)
      | (with_reducible refine LeO.bind ?_ (fun _ => ?_))
      | exact ih0 _ _ _ _ _ _
      | exact ih1 _ _ _ _ _ _
      | exact LeO.none _
      | refine LeO.ite ?_ ?_
      | refine LeO.bind ?_ (fun _ => ?_)
    · intro y0 y1 y2 y3 y4 y5
      unfold cfg_shared.j1
      repeat' first
      | (with_reducible exact ih0 _ _ _ _ _ _)
      | (with_reducible exact ih1 _ _ _ _ _ _)
      | (with_reducible exact LeO.refl _)
      | (with_reducible exact LeO.none _)
      | (with_reducible refine LeO.ite ?_ ?_)
      | (with_reducible refine LeO.bind ?_ (fun _ => ?_))
      | exact ih0 _ _ _ _ _ _
      | exact ih1 _ _ _ _ _ _
      | exact LeO.none _
      | refine LeO.ite ?_ ?_
      | refine LeO.bind ?_ (fun _ => ?_)
theorem cfg_shared.mono : ∀ a0 a1 a2 a3 a4 k, LeO (cfg_shared.f k a0 a1 a2 a3 a4) (cfg_shared.f (k + 1) a0 a1 a2 a3 a4) := by
  intro a0 a1 a2 a3 a4 k
  obtain ⟨ih0, ih1⟩ := cfg_shared.mono_l k
  unfold cfg_shared.f
  repeat' first
      | (with_reducible exact ih0 _ _ _ _ _ _)
      | (with_reducible exact ih1 _ _ _ _ _ _)
      | (with_reducible exact LeO.refl _)
      | (with_reducible exact LeO.none _)
      | (with_reducible refine LeO.ite ?_ ?_)
      | (with_reducible refine LeO.bind ?_ (fun _ => ?_))
      | exact ih0 _ _ _ _ _ _
      | exact ih1 _ _ _ _ _ _
      | exact LeO.none _
      | refine LeO.ite ?_ ?_
      | refine LeO.bind ?_ (fun _ => ?_)
set_option maxHeartbeats 8000000 in
set_option maxRecDepth 100000 in
theorem cfg_shared.calls (k : Nat) (A0_0 : Option Addr) (c0_0 : Nat) (l0_0 : List Int) (A0_1 : Option Addr) (c0_1 : Nat) (l0_1 : List Int) (a0_2 : Int) (A0_3 : Option Addr) (c0_3 : Nat) (l0_3 : List (S49)) (a1 : Int) (r : Int) (w : World) (hr0_0 : Kd.C (Kd.int .i64) w A0_0 l0_0.length l0_0) (hc0_0 : l0_0.length ≤ c0_0) (hr0_1 : Kd.C (Kd.int .i64) w A0_1 l0_1.length l0_1) (hc0_1 : l0_1.length ≤ c0_1) (hr0_3 : Kd.C k49 w A0_3 l0_3.length l0_3) (hc0_3 : l0_3.length ≤ c0_3) (h : cfg_shared.f k l0_0 l0_1 a0_2 l0_3 a1 = some r) :
    Calls Try.prog 78 #[.agg #[.slice A0_0 l0_0.length c0_0, .slice A0_1 l0_1.length c0_1, .int .i64 a0_2, .slice A0_3 l0_3.length c0_3], .int .i64 a1] w fun e w' => e = .returned (.int .i64 r) ∧ Below w.heap.size w w' := by
  have hu25 := Try.underlying25
  have HR0_0 := Aside0.mk hr0_0
  have HC0_0 := Aside0.mk hc0_0
  clear hr0_0 hc0_0
  have HR0_1 := Aside0.mk hr0_1
  have HC0_1 := Aside0.mk hc0_1
  clear hr0_1 hc0_1
  have HR0_3 := Aside0.mk hr0_3
  have HC0_3 := Aside0.mk hc0_3
  clear hr0_3 hc0_3
  have HB := Aside0.mk (Below.refl w.heap.size w)
  have H : (if a1 = 5 then (cfg_shared.j0 k a1 (a1 == 5) l0_0 l0_1 a0_2 l0_3) else (cfg_shared.j0 k a1 (a1 == 6) l0_0 l0_1 a0_2 l0_3)) = some r := h
  clear h
  have HC3 := Aside0.mk H
  clear H
  go_enter Try.func78, Try.ntmps78
  go_upto_if 6 with (first | ((with_reducible refine gate_dst (N := 2) rfl ?_); refine box_event ?hg (N := 2) ?hd (cs := #[.slice A0_0 l0_0.length c0_0, .slice A0_1 l0_1.length c0_1, .int .i64 a0_2, .slice A0_3 l0_3.length c0_3]) (t := 25) ?hr ?_; (case hd => rfl); (case hg => rfl); (case hr => first | (go_simp; done) | (go_simp; rfl)); intro gb423 hg w4 hbox hb; have n0_ := Aside0.mk (below_step (by repeat (first | (with_reducible first | exact HB.out | apply below_alloc | apply pw_below_drewN | apply below_drew1) | exact HB.out)) hb); have n1_ := Aside0.mk (hbox); have n2_ := Aside0.mk ((by rw [hg]; exact (below_size (by repeat (first | (with_reducible first | exact HB.out | apply below_alloc | apply pw_below_drewN | apply below_drew1) | exact HB.out))) : w.heap.size ≤ gb423)); have n3_ := Aside0.mk ((by rw [hg]; exact (below_size (by repeat (first | (with_reducible first | exact HB.out | apply below_alloc | apply pw_below_drewN | apply below_drew1) | exact HB.out))) : w.heap.size ≤ gb423)); clear HB; have HB := n0_; have BK423 := n1_; have GW423 := n2_; have GE423 := n3_; clear n0_ n1_ n2_ n3_; clear hb hbox hg))
  (try simp only [Act.put, List.setIfInBounds_toArray, List.set_cons_zero, List.set_cons_succ])
  go_cut [6] (fun v6 wc => ∃ (kq : Nat) (x6_2 : Bool), v6 = .bool x6_2 ∧ Aside0 (cfg_shared.j0 kq a1 x6_2 l0_0 l0_1 a0_2 l0_3 = some r) ∧ Aside0 (kq ≤ k) ∧ Aside0 (wc.heap[gb423]? = some (.cells #[(.slice A0_0 l0_0.length c0_0), (.slice A0_1 l0_1.length c0_1), .int .i64 a0_2, (.slice A0_3 l0_3.length c0_3)] 25 (0, 0))) ∧ Aside0 (Below w.heap.size w wc))
  case first =>
    have H := HC3.out
    clear HC3
    by_cases c5 : a1 = 5
    · rw [if_pos c5] at H
      have c5b0 : (a1 == 5) = true := beq_iff_eq.mpr c5
      have c5b1 : (a1 != 5) = false := bne_eq_false_iff_eq.mpr c5
      clear c5
      (first | rw [c5b0] | (simp only [i64_w, i32_w]; rw [c5b0]) | skip)
      have H' := Aside0.mk H
      clear H
      go_wp2
      go_meet
      case rel => exact ⟨_, ((a1 == 5)), (by first | rfl | (simp; done) | (simp [*]; done)), H', ⟨by first | omega | exact Nat.le_refl _⟩, ⟨by (with_reducible repeat (first | refine blk_drewN ?_ _ | refine blk_drew ?_ | refine blk_alloc ?_ _)); exact BK423.out⟩, ⟨by repeat (first | (with_reducible first | exact HB.out | apply below_alloc | apply pw_below_drewN | apply below_drew1 | refine below_set ?_ GE423.out) | exact HB.out)⟩⟩
    · rw [if_neg c5] at H
      have c5b0 : (a1 == 5) = false := beq_eq_false_iff_ne.mpr c5
      have c5b1 : (a1 != 5) = true := bne_iff_ne.mpr c5
      (first | rw [c5b0] | (simp only [i64_w, i32_w]; rw [c5b0]) | skip)
      have H' := Aside0.mk H
      clear H
      go_wp2
      go_meet
      case rel => exact ⟨_, ((a1 == 6)), (by first | rfl | (simp; done) | (simp [*]; done)), H', ⟨by first | omega | exact Nat.le_refl _⟩, ⟨by (with_reducible repeat (first | refine blk_drewN ?_ _ | refine blk_drew ?_ | refine blk_alloc ?_ _)); exact BK423.out⟩, ⟨by repeat (first | (with_reducible first | exact HB.out | apply below_alloc | apply pw_below_drewN | apply below_drew1 | refine below_set ?_ GE423.out) | exact HB.out)⟩⟩
  case rest =>
    clear HC3
    try clear p2
    try clear c5
    try clear c5b0
    try clear c5b1
    obtain ⟨kq, x6_2, rfl, HA, HJ2, BK423, HB⟩ := hcut
    cases kq with
    | zero => exact absurd HA.out (by simp [cfg_shared.j0])
    | succ kj2 =>
      have H := HA.out
      clear HA
      simp only [cfg_shared.j0] at H
      by_cases c6 : x6_2 = true
      · subst c6
        have H1 : (some (l0_0.length : Int)) = some r := by rw [if_pos rfl] at H; exact H
        clear H
        have H := H1
        clear H1
        obtain rfl := Option.some.inj H
        have hcz7_0 : wc.cell? ⟨gb423, 0, none⟩ = some (.slice A0_0 l0_0.length c0_0) := (blk_cell BK423.out 0).trans rfl
        have hcz7_1 : wc.cell? ⟨gb423, 1, none⟩ = some (.slice A0_1 l0_1.length c0_1) := (blk_cell BK423.out 1).trans rfl
        have hcz7_2 : wc.cell? ⟨gb423, 2, none⟩ = some (.int .i64 a0_2) := (blk_cell BK423.out 2).trans rfl
        have hcz7_3 : wc.cell? ⟨gb423, 3, none⟩ = some (.slice A0_3 l0_3.length c0_3) := (blk_cell BK423.out 3).trans rfl
        have hfz7_0 := blk_frozen BK423.out 0
        have hfz7_1 := blk_frozen BK423.out 1
        have hfz7_2 := blk_frozen BK423.out 2
        have hfz7_3 := blk_frozen BK423.out 3
        go_wp2
        go_ret
        exact ⟨by first | rfl | (simp [errW_none, errW_some] <;> rfl) | (simp [*, errW_none, errW_some] <;> rfl), by repeat (first | (with_reducible first | exact HB.out | apply below_alloc | apply pw_below_drewN | apply below_drew1 | refine below_set ?_ GE423.out) | exact HB.out)⟩
      · replace c6 := Bool.eq_false_iff.mpr c6
        subst c6
        have H1 : (if a1 = 7 then (cfg_shared.j1 kj2 a1 (a1 == 7) l0_0 l0_1 a0_2 l0_3) else (cfg_shared.j1 kj2 a1 (a1 == 8) l0_0 l0_1 a0_2 l0_3)) = some r := by rw [if_neg (show ¬ (false = true) by decide)] at H; exact H
        clear H
        have H := H1
        clear H1
        have HC8 := Aside0.mk H
        clear H
        go_upto_if 12 with (fail)
        go_cut [12] (fun v12 wc => ∃ (kq : Nat) (x12_7 : Bool), v12 = .bool x12_7 ∧ Aside0 (cfg_shared.j1 kq a1 x12_7 l0_0 l0_1 a0_2 l0_3 = some r) ∧ Aside0 (kq ≤ kj2) ∧ Aside0 (wc.heap[gb423]? = some (.cells #[(.slice A0_0 l0_0.length c0_0), (.slice A0_1 l0_1.length c0_1), .int .i64 a0_2, (.slice A0_3 l0_3.length c0_3)] 25 (0, 0))) ∧ Aside0 (Below w.heap.size w wc))
        case first =>
          have H := HC8.out
          clear HC8
          by_cases c9 : a1 = 7
          · rw [if_pos c9] at H
            have c9b0 : (a1 == 7) = true := beq_iff_eq.mpr c9
            have c9b1 : (a1 != 7) = false := bne_eq_false_iff_eq.mpr c9
            clear c9
            (first | rw [c9b0] | (simp only [i64_w, i32_w]; rw [c9b0]) | skip)
            have H' := Aside0.mk H
            clear H
            go_wp2
            go_meet
            case rel => exact ⟨_, ((a1 == 7)), (by first | rfl | (simp; done) | (simp [*]; done)), H', ⟨by have := HJ2.out; first | omega | exact Nat.le_refl _⟩, ⟨by (with_reducible repeat (first | refine blk_drewN ?_ _ | refine blk_drew ?_ | refine blk_alloc ?_ _)); exact BK423.out⟩, ⟨by repeat (first | (with_reducible first | exact HB.out | apply below_alloc | apply pw_below_drewN | apply below_drew1 | refine below_set ?_ GE423.out) | exact HB.out)⟩⟩
          · rw [if_neg c9] at H
            have c9b0 : (a1 == 7) = false := beq_eq_false_iff_ne.mpr c9
            have c9b1 : (a1 != 7) = true := bne_iff_ne.mpr c9
            (first | rw [c9b0] | (simp only [i64_w, i32_w]; rw [c9b0]) | skip)
            have H' := Aside0.mk H
            clear H
            go_wp2
            go_meet
            case rel => exact ⟨_, ((a1 == 8)), (by first | rfl | (simp; done) | (simp [*]; done)), H', ⟨by have := HJ2.out; first | omega | exact Nat.le_refl _⟩, ⟨by (with_reducible repeat (first | refine blk_drewN ?_ _ | refine blk_drew ?_ | refine blk_alloc ?_ _)); exact BK423.out⟩, ⟨by repeat (first | (with_reducible first | exact HB.out | apply below_alloc | apply pw_below_drewN | apply below_drew1 | refine below_set ?_ GE423.out) | exact HB.out)⟩⟩
        case rest =>
          clear HC8
          try clear p2
          try clear c5
          try clear c5b0
          try clear c5b1
          try clear c6
          try clear c7
          try clear c9
          try clear c9b0
          try clear c9b1
          try clear hcz7_0
          try clear hcz7_1
          try clear hcz7_2
          try clear hcz7_3
          try clear hfz7_0
          try clear hfz7_1
          try clear hfz7_2
          try clear hfz7_3
          try clear p2
          obtain ⟨kq, x12_7, rfl, HA, HJ7, BK423, HB⟩ := hcut
          cases kq with
          | zero => exact absurd HA.out (by simp [cfg_shared.j1])
          | succ kj7 =>
            have H := HA.out
            clear HA
            simp only [cfg_shared.j1] at H
            by_cases c10 : x12_7 = true
            · subst c10
              have H1 : (some (l0_1.length : Int)) = some r := by rw [if_pos rfl] at H; exact H
              clear H
              have H := H1
              clear H1
              obtain rfl := Option.some.inj H
              have hcz11_0 : wc.cell? ⟨gb423, 0, none⟩ = some (.slice A0_0 l0_0.length c0_0) := (blk_cell BK423.out 0).trans rfl
              have hcz11_1 : wc.cell? ⟨gb423, 1, none⟩ = some (.slice A0_1 l0_1.length c0_1) := (blk_cell BK423.out 1).trans rfl
              have hcz11_2 : wc.cell? ⟨gb423, 2, none⟩ = some (.int .i64 a0_2) := (blk_cell BK423.out 2).trans rfl
              have hcz11_3 : wc.cell? ⟨gb423, 3, none⟩ = some (.slice A0_3 l0_3.length c0_3) := (blk_cell BK423.out 3).trans rfl
              have hfz11_0 := blk_frozen BK423.out 0
              have hfz11_1 := blk_frozen BK423.out 1
              have hfz11_2 := blk_frozen BK423.out 2
              have hfz11_3 := blk_frozen BK423.out 3
              go_wp2
              go_ret
              exact ⟨by first | rfl | (simp [errW_none, errW_some] <;> rfl) | (simp [*, errW_none, errW_some] <;> rfl), by repeat (first | (with_reducible first | exact HB.out | apply below_alloc | apply pw_below_drewN | apply below_drew1 | refine below_set ?_ GE423.out) | exact HB.out)⟩
            · replace c10 := Bool.eq_false_iff.mpr c10
              subst c10
              have H1 : (if a1 = 9 then (some a0_2) else (if a1 = 10 then (some a0_2) else (some 1))) = some r := by rw [if_neg (show ¬ (false = true) by decide)] at H; exact H
              clear H
              have H := H1
              clear H1
              by_cases c12 : a1 = 9
              · rw [if_pos c12] at H
                have c12b0 : (a1 == 9) = true := beq_iff_eq.mpr c12
                have c12b1 : (a1 != 9) = false := bne_eq_false_iff_eq.mpr c12
                clear c12
                obtain rfl := Option.some.inj H
                have hcz13_0 : wc.cell? ⟨gb423, 0, none⟩ = some (.slice A0_0 l0_0.length c0_0) := (blk_cell BK423.out 0).trans rfl
                have hcz13_1 : wc.cell? ⟨gb423, 1, none⟩ = some (.slice A0_1 l0_1.length c0_1) := (blk_cell BK423.out 1).trans rfl
                have hcz13_2 : wc.cell? ⟨gb423, 2, none⟩ = some (.int .i64 a0_2) := (blk_cell BK423.out 2).trans rfl
                have hcz13_3 : wc.cell? ⟨gb423, 3, none⟩ = some (.slice A0_3 l0_3.length c0_3) := (blk_cell BK423.out 3).trans rfl
                have hfz13_0 := blk_frozen BK423.out 0
                have hfz13_1 := blk_frozen BK423.out 1
                have hfz13_2 := blk_frozen BK423.out 2
                have hfz13_3 := blk_frozen BK423.out 3
                go_wp2
                go_ret
                exact ⟨by first | rfl | (simp [errW_none, errW_some] <;> rfl) | (simp [*, errW_none, errW_some] <;> rfl), by repeat (first | (with_reducible first | exact HB.out | apply below_alloc | apply pw_below_drewN | apply below_drew1 | refine below_set ?_ GE423.out) | exact HB.out)⟩
              · rw [if_neg c12] at H
                have c12b0 : (a1 == 9) = false := beq_eq_false_iff_ne.mpr c12
                have c12b1 : (a1 != 9) = true := bne_iff_ne.mpr c12
                by_cases c14 : a1 = 10
                · rw [if_pos c14] at H
                  have c14b0 : (a1 == 10) = true := beq_iff_eq.mpr c14
                  have c14b1 : (a1 != 10) = false := bne_eq_false_iff_eq.mpr c14
                  clear c14
                  obtain rfl := Option.some.inj H
                  have hcz15_0 : wc.cell? ⟨gb423, 0, none⟩ = some (.slice A0_0 l0_0.length c0_0) := (blk_cell BK423.out 0).trans rfl
                  have hcz15_1 : wc.cell? ⟨gb423, 1, none⟩ = some (.slice A0_1 l0_1.length c0_1) := (blk_cell BK423.out 1).trans rfl
                  have hcz15_2 : wc.cell? ⟨gb423, 2, none⟩ = some (.int .i64 a0_2) := (blk_cell BK423.out 2).trans rfl
                  have hcz15_3 : wc.cell? ⟨gb423, 3, none⟩ = some (.slice A0_3 l0_3.length c0_3) := (blk_cell BK423.out 3).trans rfl
                  have hfz15_0 := blk_frozen BK423.out 0
                  have hfz15_1 := blk_frozen BK423.out 1
                  have hfz15_2 := blk_frozen BK423.out 2
                  have hfz15_3 := blk_frozen BK423.out 3
                  go_wp2
                  go_ret
                  exact ⟨by first | rfl | (simp [errW_none, errW_some] <;> rfl) | (simp [*, errW_none, errW_some] <;> rfl), by repeat (first | (with_reducible first | exact HB.out | apply below_alloc | apply pw_below_drewN | apply below_drew1 | refine below_set ?_ GE423.out) | exact HB.out)⟩
                · rw [if_neg c14] at H
                  have c14b0 : (a1 == 10) = false := beq_eq_false_iff_ne.mpr c14
                  have c14b1 : (a1 != 10) = true := bne_iff_ne.mpr c14
                  obtain rfl := Option.some.inj H
                  go_wp2
                  go_ret
                  exact ⟨by first | rfl | (simp [errW_none, errW_some] <;> rfl) | (simp [*, errW_none, errW_some] <;> rfl), by repeat (first | (with_reducible first | exact HB.out | apply below_alloc | apply pw_below_drewN | apply below_drew1 | refine below_set ?_ GE423.out) | exact HB.out)⟩
end Go.Proofs.Ytikjamcemnbhbaa.Mr
