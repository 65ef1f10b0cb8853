-- PRINTED BY print.sh 35421559b90ae4d0a3588c463048766b98c2df88dd9212a6774a882060cdf62d: not written by this session
import Derived.Test.YteekfgemkjeklaaPNumOrderx0
import Derived.Test.YteekfgemkjeklaaPNumOrderx1
namespace Go.Proofs.Yteekfgemkjeklaa.PNumOrder
open Go.RowKit Go.Proofs.YteekfgemkjeklaaW.PrintWords Go.Proofs.YteekfgemkjeklaaW.PrintLast Go.Proofs.YteekfgemkjeklaaW.PrintMore
attribute [local go_sem] max2_int min2_int max_two min_two max_three min_three max_four min_four   -- for this text's walks alone
set_option linter.unusedVariables false
set_option linter.unusedSimpArgs false

/-! ### meddlerlaw1_NumOrder: function 9 -/
mutual
def meddlerlaw1_NumOrder.l0 : Nat → Int → Int → Int → List Int → Int → Int → Option (Bool)
  | 0, _, _, _, _, _, _ => none
  | k + 1, x0, x1, x5, x9, x10, x11 => if x11 < x10 then (if 0 ≤ x11 then (if x11 < (x9.length : Int) then ((num_Rel.f (rd x9 x11) x0 x1).bind fun t142 => (if t142 = true then (meddlerlaw1_NumOrder.l0 k x0 x1 (wrap64 (x5 + 1)) x9 x10 (wrap64 (x11 + 1))) else (meddlerlaw1_NumOrder.l0 k x0 x1 x5 x9 x10 (wrap64 (x11 + 1))))) else (none)) else (none)) else ((num_Rel.f 1 x0 x1).bind fun t143 => (if t143 = true then (meddlerlaw1_NumOrder.j1 k x0 x1 x5 true) else ((num_Rel.f 3 x0 x1).bind fun t144 => (meddlerlaw1_NumOrder.j1 k x0 x1 x5 t144))))
def meddlerlaw1_NumOrder.j1 : Nat → Int → Int → Int → Bool → Option (Bool)
  | 0, _, _, _, _ => none
  | k + 1, x0, x1, x5, x8 => if x5 = 1 then ((num_Rel.f 2 x0 x1).bind fun t145 => (if (t145 == x8) = true then ((num_Rel.f 5 x0 x1).bind fun t146 => ((num_Rel.f 2 x1 x0).bind fun t147 => (if (t146 == t147) = true then ((num_Rel.f 4 x0 x1).bind fun t148 => ((num_Rel.f 3 x0 x1).bind fun t149 => (if (t148 == (!t149)) = true then ((meddlerlaw1_known.f k).bind fun t150 => (some t150)) else (some false)))) else (some false)))) else (some false))) else (some false)
end
def meddlerlaw1_NumOrder.f (k : Nat) (a0 : Int) (a1 : Int) : Option (Bool) := (some (([1, 3, 6] : List Int) : List Int)).bind fun y138 => (meddlerlaw1_NumOrder.l0 k a0 a1 0 y138 (y138.length : Int) 0)
theorem meddlerlaw1_NumOrder.mono_l : ∀ k, (∀ y0 y1 y2 y3 y4 y5, LeO (meddlerlaw1_NumOrder.l0 k y0 y1 y2 y3 y4 y5) (meddlerlaw1_NumOrder.l0 (k + 1) y0 y1 y2 y3 y4 y5)) ∧ (∀ y0 y1 y2 y3, LeO (meddlerlaw1_NumOrder.j1 k y0 y1 y2 y3) (meddlerlaw1_NumOrder.j1 (k + 1) y0 y1 y2 y3))
  | 0 => ⟨fun _ _ _ _ _ _ r h => by simp [meddlerlaw1_NumOrder.l0] at h, fun _ _ _ _ r h => by simp [meddlerlaw1_NumOrder.j1] at h⟩
  | k + 1 => by
    obtain ⟨ih0, ih1⟩ := meddlerlaw1_NumOrder.mono_l k
    refine ⟨?_, ?_⟩
    · intro y0 y1 y2 y3 y4 y5
      unfold meddlerlaw1_NumOrder.l0
      repeat' first
      | (with_reducible exact ih0 _ _ _ _ _ _)
      | (with_reducible exact ih1 _ _ _ _)
      | (with_reducible exact meddlerlaw1_known.mono _)
      | (with_reducible exact LeO.refl _)
      | (with_reducible exact LeO.none _)
      | (with_reducible refine LeO.ite ?_ ?_)
      | (with_reducible refine LeO.bind ?_ (fun _ => ?_))
      | exact ih0 _ _ _ _ _ _
      | exact ih1 _ _ _ _
      | exact meddlerlaw1_known.mono _
      | exact LeO.none _
      | refine LeO.ite ?_ ?_
      | refine LeO.bind ?_ (fun _ => ?_)
    · intro y0 y1 y2 y3
      unfold meddlerlaw1_NumOrder.j1
      repeat' first
      | (with_reducible exact ih0 _ _ _ _ _ _)
      | (with_reducible exact ih1 _ _ _ _)
      | (with_reducible exact meddlerlaw1_known.mono _)
      | (with_reducible exact LeO.refl _)
      | (with_reducible exact LeO.none _)
      | (with_reducible refine LeO.ite ?_ ?_)
      | (with_reducible refine LeO.bind ?_ (fun _ => ?_))
      | exact ih0 _ _ _ _ _ _
      | exact ih1 _ _ _ _
      | exact meddlerlaw1_known.mono _
      | exact LeO.none _
      | refine LeO.ite ?_ ?_
      | refine LeO.bind ?_ (fun _ => ?_)
theorem meddlerlaw1_NumOrder.mono : ∀ a0 a1 k, LeO (meddlerlaw1_NumOrder.f k a0 a1) (meddlerlaw1_NumOrder.f (k + 1) a0 a1) := by
  intro a0 a1 k
  obtain ⟨ih0, ih1⟩ := meddlerlaw1_NumOrder.mono_l k
  unfold meddlerlaw1_NumOrder.f
  repeat' first
      | (with_reducible exact ih0 _ _ _ _ _ _)
      | (with_reducible exact ih1 _ _ _ _)
      | (with_reducible exact meddlerlaw1_known.mono _)
      | (with_reducible exact LeO.refl _)
      | (with_reducible exact LeO.none _)
      | (with_reducible refine LeO.ite ?_ ?_)
      | (with_reducible refine LeO.bind ?_ (fun _ => ?_))
      | exact ih0 _ _ _ _ _ _
      | exact ih1 _ _ _ _
      | exact meddlerlaw1_known.mono _
      | exact LeO.none _
      | refine LeO.ite ?_ ?_
      | refine LeO.bind ?_ (fun _ => ?_)
set_option maxHeartbeats 8000000 in
set_option maxRecDepth 100000 in
theorem meddlerlaw1_NumOrder.calls (k : Nat) (a0 : Int) (a1 : Int) (r : Bool) (w : World) (h : meddlerlaw1_NumOrder.f k a0 a1 = some r) :
    Calls Try.prog 9 #[.int .i64 a0, .int .i64 a1] w fun e w' => e = .returned (.bool r) ∧ Below w.heap.size w w' := by
  have HB := Aside0.mk (Below.refl w.heap.size w)
  have H : ((some (([1, 3, 6] : List Int) : List Int)).bind fun y138 => (meddlerlaw1_NumOrder.l0 k a0 a1 0 y138 (y138.length : Int) 0)) = some r := h
  clear h
  obtain ⟨y138, hy138⟩ : ∃ y_ : List Int, y_ = (([1, 3, 6] : List Int)) := ⟨_, rfl⟩
  replace H : (meddlerlaw1_NumOrder.l0 k a0 a1 0 y138 (y138.length : Int) 0) = some r := by first | (rw [hy138]; with_reducible exact H) | (have H2_ := (Option.bind_some _ _).symm.trans H; rw [hy138]; with_reducible exact H2_) | (have H2_ := (Option.bind_some _ _).symm.trans H; with_reducible exact H2_) | with_reducible exact H | (rw [hy138]; exact H) | exact H
  have Ny138 := Aside0.mk hy138
  clear hy138
  have H' := Aside0.mk H
  clear H
  go_enter Try.func9, Try.ntmps9
  go_wp2_with (first | ((with_reducible refine gate_dst (N := 9) rfl ?_); refine Kd.R_lit (Kd.int .i64) _ 3 ?hg (N := 9) ?hd (xs := ([1, 3, 6] : List Int)) (inner := [.int .i64 1, .int .i64 3, .int .i64 6]) (ok := fun _ => True) (okp := fun _ => True) ?hr ?hp (fun _ hk => hk) trivial (Below.refl _ _) (Nat.le_refl _) (by simp) ?_; (case hd => rfl); (case hg => rfl); (case hr => first | (go_simp; done) | (go_simp; rfl)); (case hp => exact (Reps.one (show Kd.M (Kd.int .i64) _ _ _ 1 [.int .i64 1] from rfl) (Reps.one (show Kd.M (Kd.int .i64) _ _ _ 3 [.int .i64 3] from rfl) (Reps.one (show Kd.M (Kd.int .i64) _ _ _ 6 [.int .i64 6] from rfl) (Reps.none _ _))))); intro v139 w3 ho4 hb hg_ hnew_; clear hg_ hnew_; (first | rw [← Ny138.out] at ho4 | (simp only [Int.reduceToNat] at ho4; rw [← Ny138.out] at ho4)); have n0_ := Aside0.mk (Kd.R_lower ho4 (below_size (by repeat (first | (with_reducible first | exact HB.out | apply below_alloc | apply pw_below_drewN | apply below_drew1) | exact HB.out)))); have n1_ := Aside0.mk (below_step (by repeat (first | (with_reducible first | exact HB.out | apply below_alloc | apply pw_below_drewN | apply below_drew1) | exact HB.out)) hb); clear HB; have HO140 := n0_; have HB := n1_; clear n0_ n1_; clear hb ho4; obtain ⟨Ao5, co5, eo5⟩ := Kd.R_slice HO140.out; subst eo5))
  go_loopg [5, 11] k (fun kq v5 v11 w' => ∃ (x5_1 : Int) (x11_1 : Int), v5 = .int .i64 x5_1 ∧ v11 = .int .i64 x11_1 ∧ Aside0 (meddlerlaw1_NumOrder.l0 kq a0 a1 x5_1 y138 (y138.length : Int) x11_1 = some r) ∧ Aside0 (kq ≤ k) ∧ Aside0 (Kd.R (Kd.int .i64) 3 w' w.heap.size (fun _ => True) (.slice Ao5 y138.length co5) y138) ∧ Aside0 (Below w.heap.size w w'))
  case atStart => exact ⟨(0), (0), (by first | rfl | (simp; done) | (simp [*]; done)), (by first | rfl | (simp; done) | (simp [*]; done)), H', ⟨Nat.le_refl _⟩, ⟨by (with_reducible repeat (first | apply Kd.R_alloc | apply Kd.R_drewN | apply Kd.R_drew)); exact HO140.out⟩, ⟨by repeat (first | (with_reducible first | exact HB.out | apply below_alloc | apply pw_below_drewN | apply below_drew1) | exact HB.out)⟩⟩
  case round =>
    clear H'
    try clear p2
    obtain ⟨x5_1, x11_1, rfl, rfl, HA, HK1, HO_9, HB⟩ := hrel
    cases gk with
    | zero => exact absurd HA.out (by simp [meddlerlaw1_NumOrder.l0])
    | succ k1 =>
      have H := HA.out
      clear HA
      simp only [meddlerlaw1_NumOrder.l0] at H
      by_cases c6 : x11_1 < (y138.length : Int)
      · rw [if_pos c6] at H
        have c6b0 : decide (x11_1 < (y138.length : Int)) = true := decide_eq_true c6
        clear c6
        by_cases c7 : 0 ≤ x11_1
        · rw [if_pos c7] at H
          have c7b0 : decide (0 ≤ x11_1) = true := decide_eq_true c7
          clear c7
          by_cases c8 : x11_1 < (y138.length : Int)
          · rw [if_pos c8] at H
            have c8b0 : decide (x11_1 < (y138.length : Int)) = true := decide_eq_true c8
            clear c8
            replace H := Option.bind_eq_some_iff.mp H
            obtain ⟨t142, A90, H⟩ := H
            replace H : (if t142 = true then (meddlerlaw1_NumOrder.l0 k1 a0 a1 (wrap64 (x5_1 + 1)) y138 (y138.length : Int) (wrap64 (x11_1 + 1))) else (meddlerlaw1_NumOrder.l0 k1 a0 a1 x5_1 y138 (y138.length : Int) (wrap64 (x11_1 + 1)))) = some r := H
            have A9 := Aside0.mk A90
            clear A90
            by_cases c10 : t142 = true
            · subst c10
              have H1 : (meddlerlaw1_NumOrder.l0 k1 a0 a1 (wrap64 (x5_1 + 1)) y138 (y138.length : Int) (wrap64 (x11_1 + 1))) = some r := by rw [if_pos rfl] at H; exact H
              clear H
              have H := H1
              clear H1
              have H' := Aside0.mk H
              clear H
              have p141 : 0 ≤ (x11_1 : Int) := of_decide_eq_true (by first | (with_reducible assumption) | assumption)
              have q141 : x11_1 < (y138.length : Int) := of_decide_eq_true (by first | (with_reducible assumption) | assumption)
              obtain ⟨ad141, e141, hx141_0⟩ := Kd.at_int (Kd.R_reads' HO_9.out).2.2 x11_1 p141 q141
              cases e141
              replace p141 := eq_true p141
              replace q141 := eq_true q141
              go_wp2_with (first | ((with_reducible refine gate_callee (f := 16) rfl ?_); refine goesL_ (some 18) rfl rfl Try.func16 (by kernel_rfl) rfl #[.int .i64 (rd y138 x11_1), .int .i64 a0, .int .i64 a1] rfl (by (try simp only [List.map_toArray, List.map_cons, List.map_nil]); first | done | rfl | (simp only [List.length_drop, List.length_take]; rfl)) ?_; (with_reducible refine (num_Rel.calls (rd y138 x11_1) a0 a1 true _ A9.out).mono ?_); rintro e w' ⟨rfl, ⟨nd, rfl⟩⟩; refine ⟨_, rfl, ?_⟩))
              go_roundg k1
              case measure => have := HK1.out; omega
              case rel => exact ⟨(wrap64 (x5_1 + 1)), (wrap64 (x11_1 + 1)), (by first | rfl | (simp; done) | (simp [*]; done)), (by first | rfl | (simp; done) | (simp [*]; done)), H', ⟨by have := HK1.out; omega⟩, ⟨by (with_reducible repeat (first | apply Kd.R_alloc | apply Kd.R_drewN | apply Kd.R_drew)); exact HO_9.out⟩, ⟨by repeat (first | (with_reducible first | exact HB.out | apply below_alloc | apply pw_below_drewN | apply below_drew1) | exact HB.out)⟩⟩
            · replace c10 := Bool.eq_false_iff.mpr c10
              subst c10
              have H1 : (meddlerlaw1_NumOrder.l0 k1 a0 a1 x5_1 y138 (y138.length : Int) (wrap64 (x11_1 + 1))) = some r := by rw [if_neg (show ¬ (false = true) by decide)] at H; exact H
              clear H
              have H := H1
              clear H1
              have H' := Aside0.mk H
              clear H
              have p141 : 0 ≤ (x11_1 : Int) := of_decide_eq_true (by first | (with_reducible assumption) | assumption)
              have q141 : x11_1 < (y138.length : Int) := of_decide_eq_true (by first | (with_reducible assumption) | assumption)
              obtain ⟨ad141, e141, hx141_0⟩ := Kd.at_int (Kd.R_reads' HO_9.out).2.2 x11_1 p141 q141
              cases e141
              replace p141 := eq_true p141
              replace q141 := eq_true q141
              go_wp2_with (first | ((with_reducible refine gate_callee (f := 16) rfl ?_); refine goesL_ (some 18) rfl rfl Try.func16 (by kernel_rfl) rfl #[.int .i64 (rd y138 x11_1), .int .i64 a0, .int .i64 a1] rfl (by (try simp only [List.map_toArray, List.map_cons, List.map_nil]); first | done | rfl | (simp only [List.length_drop, List.length_take]; rfl)) ?_; (with_reducible refine (num_Rel.calls (rd y138 x11_1) a0 a1 false _ A9.out).mono ?_); rintro e w' ⟨rfl, ⟨nd, rfl⟩⟩; refine ⟨_, rfl, ?_⟩))
              go_roundg k1
              case measure => have := HK1.out; omega
              case rel => exact ⟨(x5_1), (wrap64 (x11_1 + 1)), (by first | rfl | (simp; done) | (simp [*]; done)), (by first | rfl | (simp; done) | (simp [*]; done)), H', ⟨by have := HK1.out; omega⟩, ⟨by (with_reducible repeat (first | apply Kd.R_alloc | apply Kd.R_drewN | apply Kd.R_drew)); exact HO_9.out⟩, ⟨by repeat (first | (with_reducible first | exact HB.out | apply below_alloc | apply pw_below_drewN | apply below_drew1) | exact HB.out)⟩⟩
          · rw [if_neg c8] at H
            exact absurd H (by simp)
        · rw [if_neg c7] at H
          exact absurd H (by simp)
      · rw [if_neg c6] at H
        have c6b0 : decide (x11_1 < (y138.length : Int)) = false := decide_eq_false c6
        clear c6
        have HC11 := Aside0.mk H
        clear H
        go_upto_region 8 with (fail)
        go_cut [8] (fun v8 wc => ∃ (kq : Nat) (x8_10 : Bool), v8 = .bool x8_10 ∧ Aside0 (meddlerlaw1_NumOrder.j1 kq a0 a1 x5_1 x8_10 = some r) ∧ Aside0 (kq ≤ k1) ∧ Aside0 (Below w.heap.size w wc))
        case first =>
          have H := HC11.out
          clear HC11
          replace H := Option.bind_eq_some_iff.mp H
          obtain ⟨t143, A120, H⟩ := H
          replace H : (if t143 = true then (meddlerlaw1_NumOrder.j1 k1 a0 a1 x5_1 true) else ((num_Rel.f 3 a0 a1).bind fun t144 => (meddlerlaw1_NumOrder.j1 k1 a0 a1 x5_1 t144))) = some r := H
          have A12 := Aside0.mk A120
          clear A120
          by_cases c13 : t143 = true
          · subst c13
            have H1 : (meddlerlaw1_NumOrder.j1 k1 a0 a1 x5_1 true) = some r := by rw [if_pos rfl] at H; exact H
            clear H
            have H := H1
            clear H1
            have H' := Aside0.mk H
            clear H
            go_wp2_with (first | ((with_reducible refine gate_callee (f := 16) rfl ?_); refine goesL_ (some 24) rfl rfl Try.func16 (by kernel_rfl) rfl #[.int .i64 1, .int .i64 a0, .int .i64 a1] rfl (by (try simp only [List.map_toArray, List.map_cons, List.map_nil]); first | done | rfl | (simp only [List.length_drop, List.length_take]; rfl)) ?_; (with_reducible refine (num_Rel.calls 1 a0 a1 true _ A12.out).mono ?_); rintro e w' ⟨rfl, ⟨nd, rfl⟩⟩; refine ⟨_, rfl, ?_⟩))
            go_meet
            case rel => exact ⟨_, (true), (by first | rfl | (simp; done) | (simp [*]; done)), H', ⟨by have := HK1.out; first | omega | exact Nat.le_refl _⟩, ⟨by repeat (first | (with_reducible first | exact HB.out | apply below_alloc | apply pw_below_drewN | apply below_drew1) | exact HB.out)⟩⟩
          · replace c13 := Bool.eq_false_iff.mpr c13
            subst c13
            have H1 : ((num_Rel.f 3 a0 a1).bind fun t144 => (meddlerlaw1_NumOrder.j1 k1 a0 a1 x5_1 t144)) = some r := by rw [if_neg (show ¬ (false = true) by decide)] at H; exact H
            clear H
            have H := H1
            clear H1
            replace H := Option.bind_eq_some_iff.mp H
            obtain ⟨t144, A140, H⟩ := H
            replace H : (meddlerlaw1_NumOrder.j1 k1 a0 a1 x5_1 t144) = some r := H
            have A14 := Aside0.mk A140
            clear A140
            have H' := Aside0.mk H
            clear H
            go_wp2_with (first | ((with_reducible refine gate_callee (f := 16) rfl ?_); refine goesL_ (some 24) rfl rfl Try.func16 (by kernel_rfl) rfl #[.int .i64 1, .int .i64 a0, .int .i64 a1] rfl (by (try simp only [List.map_toArray, List.map_cons, List.map_nil]); first | done | rfl | (simp only [List.length_drop, List.length_take]; rfl)) ?_; (with_reducible refine (num_Rel.calls 1 a0 a1 false _ A12.out).mono ?_); rintro e w' ⟨rfl, ⟨nd, rfl⟩⟩; refine ⟨_, rfl, ?_⟩) | (go_at_call 16; (with_reducible refine (num_Rel.calls 3 a0 a1 t144 _ A14.out).mono ?_); rintro e w' ⟨rfl, ⟨nd, rfl⟩⟩))
            go_meet
            case rel => exact ⟨_, (t144), (by first | rfl | (simp; done) | (simp [*]; done)), H', ⟨by have := HK1.out; first | omega | exact Nat.le_refl _⟩, ⟨by repeat (first | (with_reducible first | exact HB.out | apply below_alloc | apply pw_below_drewN | apply below_drew1) | exact HB.out)⟩⟩
        case rest =>
          clear HC11
          try clear c1
          try clear p1
          try clear q1
          try clear hx1
          try clear p2
          try clear c6
          try clear c6b0
          try clear p6
          try clear c7
          try clear c7b0
          try clear c8
          try clear c8b0
          try clear c9
          try clear c10
          try clear c13
          try clear p14
          try clear q14
          try clear hx14
          try clear hx141_0
          try clear p141
          try clear p2
          try clear q141
          obtain ⟨kq, x8_10, rfl, HA, HJ10, HB⟩ := hcut
          cases kq with
          | zero => exact absurd HA.out (by simp [meddlerlaw1_NumOrder.j1])
          | succ kj10 =>
            have H := HA.out
            clear HA
            simp only [meddlerlaw1_NumOrder.j1] at H
            by_cases c15 : x5_1 = 1
            · rw [if_pos c15] at H
              have c15b0 : (x5_1 == 1) = true := beq_iff_eq.mpr c15
              have c15b1 : (x5_1 != 1) = false := bne_eq_false_iff_eq.mpr c15
              clear c15
              replace H := Option.bind_eq_some_iff.mp H
              obtain ⟨t145, A160, H⟩ := H
              replace H : (if (t145 == x8_10) = true then ((num_Rel.f 5 a0 a1).bind fun t146 => ((num_Rel.f 2 a1 a0).bind fun t147 => (if (t146 == t147) = true then ((num_Rel.f 4 a0 a1).bind fun t148 => ((num_Rel.f 3 a0 a1).bind fun t149 => (if (t148 == (!t149)) = true then ((meddlerlaw1_known.f kj10).bind fun t150 => (some t150)) else (some false)))) else (some false)))) else (some false)) = some r := H
              have A16 := Aside0.mk A160
              clear A160
              by_cases c17 : (t145 == x8_10) = true
              · rw [if_pos c17] at H
                have c17b0 : (t145 == x8_10) = true := c17
                (try (have c17b1 : decide (t145 = x8_10) = true := by simpa using c17))
                (try (have c17b2 : (t145 == x8_10) = true := by simpa using c17))
                clear c17
                replace H := Option.bind_eq_some_iff.mp H
                obtain ⟨t146, A180, H⟩ := H
                replace H : ((num_Rel.f 2 a1 a0).bind fun t147 => (if (t146 == t147) = true then ((num_Rel.f 4 a0 a1).bind fun t148 => ((num_Rel.f 3 a0 a1).bind fun t149 => (if (t148 == (!t149)) = true then ((meddlerlaw1_known.f kj10).bind fun t150 => (some t150)) else (some false)))) else (some false))) = some r := H
                have A18 := Aside0.mk A180
                clear A180
                replace H := Option.bind_eq_some_iff.mp H
                obtain ⟨t147, A190, H⟩ := H
                replace H : (if (t146 == t147) = true then ((num_Rel.f 4 a0 a1).bind fun t148 => ((num_Rel.f 3 a0 a1).bind fun t149 => (if (t148 == (!t149)) = true then ((meddlerlaw1_known.f kj10).bind fun t150 => (some t150)) else (some false)))) else (some false)) = some r := H
                have A19 := Aside0.mk A190
                clear A190
                by_cases c20 : (t146 == t147) = true
                · rw [if_pos c20] at H
                  have c20b0 : (t146 == t147) = true := c20
                  (try (have c20b1 : decide (t146 = t147) = true := by simpa using c20))
                  (try (have c20b2 : (t146 == t147) = true := by simpa using c20))
                  clear c20
                  replace H := Option.bind_eq_some_iff.mp H
                  obtain ⟨t148, A210, H⟩ := H
                  replace H : ((num_Rel.f 3 a0 a1).bind fun t149 => (if (t148 == (!t149)) = true then ((meddlerlaw1_known.f kj10).bind fun t150 => (some t150)) else (some false))) = some r := H
                  have A21 := Aside0.mk A210
                  clear A210
                  replace H := Option.bind_eq_some_iff.mp H
                  obtain ⟨t149, A220, H⟩ := H
                  replace H : (if (t148 == (!t149)) = true then ((meddlerlaw1_known.f kj10).bind fun t150 => (some t150)) else (some false)) = some r := H
                  have A22 := Aside0.mk A220
                  clear A220
                  by_cases c23 : (t148 == (!t149)) = true
                  · rw [if_pos c23] at H
                    have c23b0 : (t148 == (!t149)) = true := c23
                    (try (have c23b1 : decide (t148 = (!t149)) = true := by simpa using c23))
                    (try (have c23b2 : (t148 == (!t149)) = true := by simpa using c23))
                    clear c23
                    replace H := Option.bind_eq_some_iff.mp H
                    obtain ⟨t150, A240, H⟩ := H
                    replace H : (some t150) = some r := H
                    have A24 := Aside0.mk A240
                    clear A240
                    obtain rfl := Option.some.inj H
                    go_wp2_with (first | (go_at_call 16; (with_reducible refine (num_Rel.calls 2 a0 a1 t145 _ A16.out).mono ?_); rintro e w' ⟨rfl, ⟨nd, rfl⟩⟩) | (go_at_call 16; (with_reducible refine (num_Rel.calls 5 a0 a1 t146 _ A18.out).mono ?_); rintro e w' ⟨rfl, ⟨nd, rfl⟩⟩) | (go_at_call 16; (with_reducible refine (num_Rel.calls 2 a1 a0 t147 _ A19.out).mono ?_); rintro e w' ⟨rfl, ⟨nd, rfl⟩⟩) | (go_at_call 16; (with_reducible refine (num_Rel.calls 4 a0 a1 t148 _ A21.out).mono ?_); rintro e w' ⟨rfl, ⟨nd, rfl⟩⟩) | (go_at_call 16; (with_reducible refine (num_Rel.calls 3 a0 a1 t149 _ A22.out).mono ?_); rintro e w' ⟨rfl, ⟨nd, rfl⟩⟩) | (go_at_call 14; (with_reducible refine (meddlerlaw1_known.calls kj10  t150 _ A24.out).mono ?_); rintro e w25 ⟨rfl, hb⟩; have n0_ := Aside0.mk (below_step (by repeat (first | (with_reducible first | exact HB.out | apply below_alloc | apply pw_below_drewN | apply below_drew1) | exact HB.out)) hb); clear HB; have HB := n0_; clear n0_; (try clear hb); (try clear hb2); (try clear hk); (try clear hi)))
                    go_ret
                    exact ⟨by first | rfl | (simp [errW_none, errW_some] <;> rfl) | (simp [*, errW_none, errW_some] <;> rfl), by repeat (first | (with_reducible first | exact HB.out | apply below_alloc | apply pw_below_drewN | apply below_drew1) | exact HB.out)⟩
                  · rw [if_neg c23] at H
                    have c23b0 : (t148 == (!t149)) = false := by simpa using c23
                    (try (have c23b1 : decide (t148 = (!t149)) = false := by simpa using c23))
                    (try (have c23b2 : (t148 == (!t149)) = false := by simpa using c23))
                    (try (have c23b3 : ¬ (t148 = (!t149)) := by simpa using c23))
                    clear c23
                    obtain rfl := Option.some.inj H
                    go_wp2_with (first | (go_at_call 16; (with_reducible refine (num_Rel.calls 2 a0 a1 t145 _ A16.out).mono ?_); rintro e w' ⟨rfl, ⟨nd, rfl⟩⟩) | (go_at_call 16; (with_reducible refine (num_Rel.calls 5 a0 a1 t146 _ A18.out).mono ?_); rintro e w' ⟨rfl, ⟨nd, rfl⟩⟩) | (go_at_call 16; (with_reducible refine (num_Rel.calls 2 a1 a0 t147 _ A19.out).mono ?_); rintro e w' ⟨rfl, ⟨nd, rfl⟩⟩) | (go_at_call 16; (with_reducible refine (num_Rel.calls 4 a0 a1 t148 _ A21.out).mono ?_); rintro e w' ⟨rfl, ⟨nd, rfl⟩⟩) | (go_at_call 16; (with_reducible refine (num_Rel.calls 3 a0 a1 t149 _ A22.out).mono ?_); rintro e w' ⟨rfl, ⟨nd, rfl⟩⟩))
                    go_ret
                    exact ⟨by first | rfl | (simp [errW_none, errW_some] <;> rfl) | (simp [*, errW_none, errW_some] <;> rfl), by repeat (first | (with_reducible first | exact HB.out | apply below_alloc | apply pw_below_drewN | apply below_drew1) | exact HB.out)⟩
                · rw [if_neg c20] at H
                  have c20b0 : (t146 == t147) = false := by simpa using c20
                  (try (have c20b1 : decide (t146 = t147) = false := by simpa using c20))
                  (try (have c20b2 : (t146 == t147) = false := by simpa using c20))
                  (try (have c20b3 : ¬ (t146 = t147) := by simpa using c20))
                  clear c20
                  obtain rfl := Option.some.inj H
                  go_wp2_with (first | (go_at_call 16; (with_reducible refine (num_Rel.calls 2 a0 a1 t145 _ A16.out).mono ?_); rintro e w' ⟨rfl, ⟨nd, rfl⟩⟩) | (go_at_call 16; (with_reducible refine (num_Rel.calls 5 a0 a1 t146 _ A18.out).mono ?_); rintro e w' ⟨rfl, ⟨nd, rfl⟩⟩) | (go_at_call 16; (with_reducible refine (num_Rel.calls 2 a1 a0 t147 _ A19.out).mono ?_); rintro e w' ⟨rfl, ⟨nd, rfl⟩⟩))
                  go_ret
                  exact ⟨by first | rfl | (simp [errW_none, errW_some] <;> rfl) | (simp [*, errW_none, errW_some] <;> rfl), by repeat (first | (with_reducible first | exact HB.out | apply below_alloc | apply pw_below_drewN | apply below_drew1) | exact HB.out)⟩
              · rw [if_neg c17] at H
                have c17b0 : (t145 == x8_10) = false := by simpa using c17
                (try (have c17b1 : decide (t145 = x8_10) = false := by simpa using c17))
                (try (have c17b2 : (t145 == x8_10) = false := by simpa using c17))
                (try (have c17b3 : ¬ (t145 = x8_10) := by simpa using c17))
                clear c17
                obtain rfl := Option.some.inj H
                go_wp2_with (first | (go_at_call 16; (with_reducible refine (num_Rel.calls 2 a0 a1 t145 _ A16.out).mono ?_); rintro e w' ⟨rfl, ⟨nd, rfl⟩⟩))
                go_ret
                exact ⟨by first | rfl | (simp [errW_none, errW_some] <;> rfl) | (simp [*, errW_none, errW_some] <;> rfl), by repeat (first | (with_reducible first | exact HB.out | apply below_alloc | apply pw_below_drewN | apply below_drew1) | exact HB.out)⟩
            · rw [if_neg c15] at H
              have c15b0 : (x5_1 == 1) = false := beq_eq_false_iff_ne.mpr c15
              have c15b1 : (x5_1 != 1) = true := bne_iff_ne.mpr c15
              obtain rfl := Option.some.inj H
              go_wp2
              go_ret
              exact ⟨by first | rfl | (simp [errW_none, errW_some] <;> rfl) | (simp [*, errW_none, errW_some] <;> rfl), by repeat (first | (with_reducible first | exact HB.out | apply below_alloc | apply pw_below_drewN | apply below_drew1) | exact HB.out)⟩

/-- THE ONE PURE STATEMENT of meddlerlaw1_NumOrder: yours. -/
def meddlerlaw1_NumOrder.Pure : Prop := ∀ (a0 : Int) (a1 : Int), (Lit.int .i64 a0).wf = true → (Lit.int .i64 a1).wf = true → ∃ k, meddlerlaw1_NumOrder.f k a0 a1 = some true
theorem meddlerlaw1_NumOrder.walk (P : meddlerlaw1_NumOrder.Pure) (a0 : Int) (a1 : Int) (w : World) (w0 : (Lit.int .i64 a0).wf = true) (w1 : (Lit.int .i64 a1).wf = true) :
    Calls Try.prog 9 #[.int .i64 a0, .int .i64 a1] w fun e w' => e = .returned (.bool true) ∧ Below w.heap.size w w' := by
  obtain ⟨k, h⟩ := P a0 a1 w0 w1
  refine (meddlerlaw1_NumOrder.calls k a0 a1 true w h).mono ?_
  rintro e w' ⟨rfl, hd⟩
  exact ⟨rfl, hd⟩

end Go.Proofs.Yteekfgemkjeklaa.PNumOrder
