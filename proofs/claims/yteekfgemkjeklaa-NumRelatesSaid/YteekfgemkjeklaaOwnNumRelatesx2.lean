/- An own text for the statement NumRelates: its functions, and that the Go code comes to their answers; begun from what print.sh wrote. -/
import Derived.Test.YteekfgemkjeklaaPNumRelatesx0
import Derived.Test.YteekfgemkjeklaaPNumRelatesx1
namespace Go.Proofs.Yteekfgemkjeklaa.PNumRelates
open Go.RowKit Go.Proofs.YteekfgemkjeklaaW.PrintWords Go.Proofs.YteekfgemkjeklaaW.PrintLast Go.Proofs.YteekfgemkjeklaaW.PrintMore
attribute [local go_sem] max2_int min2_int max_two min_two max_three min_three max_four min_four   -- for this text's walks alone
set_option linter.unusedVariables false
set_option linter.unusedSimpArgs false

/-! ### num_Not: function 21 -/
def num_Not.f (a0 : Int) : Option (Int) := if a0 = 1 then (some 5) else (if a0 = 2 then (some 6) else (if a0 = 3 then (some 4) else (if a0 = 4 then (some 3) else (if a0 = 5 then (some 1) else (if a0 = 6 then (some 2) else (some a0))))))
set_option maxHeartbeats 8000000 in
set_option maxRecDepth 100000 in
theorem num_Not.calls (a0 : Int) (r : Int) (w : World) (h : num_Not.f a0 = some r) :
    Calls Try.prog 21 #[.int .i64 a0] w fun e w' => e = .returned (.int .i64 r) ∧ Drawn0 w w' := by
  have H : (if a0 = 1 then (some 5) else (if a0 = 2 then (some 6) else (if a0 = 3 then (some 4) else (if a0 = 4 then (some 3) else (if a0 = 5 then (some 1) else (if a0 = 6 then (some 2) else (some a0))))))) = some r := h
  clear h
  by_cases c2 : a0 = 1
  · rw [if_pos c2] at H
    have c2b0 : (a0 == 1) = true := beq_iff_eq.mpr c2
    have c2b1 : (a0 != 1) = false := bne_eq_false_iff_eq.mpr c2
    clear c2
    obtain rfl := Option.some.inj H
    go_enter Try.func21, Try.ntmps21
    go_wp2
    go_ret
    exact ⟨by first | rfl | (simp; done) | (simp [*]; done), by repeat (first | exact Drawn0.refl _ | apply Drawn0.step)⟩
  · rw [if_neg c2] at H
    have c2b0 : (a0 == 1) = false := beq_eq_false_iff_ne.mpr c2
    have c2b1 : (a0 != 1) = true := bne_iff_ne.mpr c2
    by_cases c3 : a0 = 2
    · rw [if_pos c3] at H
      have c3b0 : (a0 == 2) = true := beq_iff_eq.mpr c3
      have c3b1 : (a0 != 2) = false := bne_eq_false_iff_eq.mpr c3
      clear c3
      obtain rfl := Option.some.inj H
      go_enter Try.func21, Try.ntmps21
      go_wp2
      go_ret
      exact ⟨by first | rfl | (simp; done) | (simp [*]; done), by repeat (first | exact Drawn0.refl _ | apply Drawn0.step)⟩
    · rw [if_neg c3] at H
      have c3b0 : (a0 == 2) = false := beq_eq_false_iff_ne.mpr c3
      have c3b1 : (a0 != 2) = true := bne_iff_ne.mpr c3
      by_cases c4 : a0 = 3
      · rw [if_pos c4] at H
        have c4b0 : (a0 == 3) = true := beq_iff_eq.mpr c4
        have c4b1 : (a0 != 3) = false := bne_eq_false_iff_eq.mpr c4
        clear c4
        obtain rfl := Option.some.inj H
        go_enter Try.func21, Try.ntmps21
        go_wp2
        go_ret
        exact ⟨by first | rfl | (simp; done) | (simp [*]; done), by repeat (first | exact Drawn0.refl _ | apply Drawn0.step)⟩
      · rw [if_neg c4] at H
        have c4b0 : (a0 == 3) = false := beq_eq_false_iff_ne.mpr c4
        have c4b1 : (a0 != 3) = true := bne_iff_ne.mpr c4
        by_cases c5 : a0 = 4
        · rw [if_pos c5] at H
          have c5b0 : (a0 == 4) = true := beq_iff_eq.mpr c5
          have c5b1 : (a0 != 4) = false := bne_eq_false_iff_eq.mpr c5
          clear c5
          obtain rfl := Option.some.inj H
          go_enter Try.func21, Try.ntmps21
          go_wp2
          go_ret
          exact ⟨by first | rfl | (simp; done) | (simp [*]; done), by repeat (first | exact Drawn0.refl _ | apply Drawn0.step)⟩
        · rw [if_neg c5] at H
          have c5b0 : (a0 == 4) = false := beq_eq_false_iff_ne.mpr c5
          have c5b1 : (a0 != 4) = true := bne_iff_ne.mpr c5
          by_cases c6 : a0 = 5
          · rw [if_pos c6] at H
            have c6b0 : (a0 == 5) = true := beq_iff_eq.mpr c6
            have c6b1 : (a0 != 5) = false := bne_eq_false_iff_eq.mpr c6
            clear c6
            obtain rfl := Option.some.inj H
            go_enter Try.func21, Try.ntmps21
            go_wp2
            go_ret
            exact ⟨by first | rfl | (simp; done) | (simp [*]; done), by repeat (first | exact Drawn0.refl _ | apply Drawn0.step)⟩
          · rw [if_neg c6] at H
            have c6b0 : (a0 == 5) = false := beq_eq_false_iff_ne.mpr c6
            have c6b1 : (a0 != 5) = true := bne_iff_ne.mpr c6
            by_cases c7 : a0 = 6
            · rw [if_pos c7] at H
              have c7b0 : (a0 == 6) = true := beq_iff_eq.mpr c7
              have c7b1 : (a0 != 6) = false := bne_eq_false_iff_eq.mpr c7
              clear c7
              obtain rfl := Option.some.inj H
              go_enter Try.func21, Try.ntmps21
              go_wp2
              go_ret
              exact ⟨by first | rfl | (simp; done) | (simp [*]; done), by repeat (first | exact Drawn0.refl _ | apply Drawn0.step)⟩
            · rw [if_neg c7] at H
              have c7b0 : (a0 == 6) = false := beq_eq_false_iff_ne.mpr c7
              have c7b1 : (a0 != 6) = true := bne_iff_ne.mpr c7
              obtain rfl := Option.some.inj H
              go_enter Try.func21, Try.ntmps21
              go_wp2
              go_ret
              exact ⟨by first | rfl | (simp; done) | (simp [*]; done), by repeat (first | exact Drawn0.refl _ | apply Drawn0.step)⟩

/-! ### meddlerlaw1_NumRelates: function 11 -/
def meddlerlaw1_NumRelates.j0 : Nat → Int → Int → Int → Bool → Option (Bool)
  | 0, _, _, _, _ => none
  | k + 1, x0, x1, x2, x13 => if x13 = true then ((num_Turn.f x0).bind fun t138 => (if t138 = x0 then ((num_Not.f x0).bind fun t139 => (if t139 = x0 then ((num_Rel.f x0 x1 x2).bind fun t140 => (if t140 = true then (some false) else ((meddlerlaw1_known.f k).bind fun t141 => (some t141)))) else (some false))) else (some false))) else ((num_Rel.f x0 x1 x2).bind fun t142 => ((num_Turn.f x0).bind fun t143 => ((num_Rel.f t143 x2 x1).bind fun t144 => (if (t144 == t142) = true then ((num_Not.f x0).bind fun t145 => ((num_Rel.f t145 x1 x2).bind fun t146 => (if (t146 == (!t142)) = true then ((num_Turn.f x0).bind fun t147 => ((num_Turn.f t147).bind fun t148 => (if t148 = x0 then ((num_Not.f x0).bind fun t149 => ((num_Not.f t149).bind fun t150 => (if t150 = x0 then ((meddlerlaw1_known.f k).bind fun t151 => (some t151)) else (some false)))) else (some false)))) else (some false)))) else (some false)))))
def meddlerlaw1_NumRelates.f (k : Nat) (a0 : Int) (a1 : Int) (a2 : Int) : Option (Bool) := if a0 < 1 then (meddlerlaw1_NumRelates.j0 k a0 a1 a2 true) else (meddlerlaw1_NumRelates.j0 k a0 a1 a2 (decide (a0 > 6)))
theorem meddlerlaw1_NumRelates.mono_l : ∀ k, (∀ y0 y1 y2 y3, LeO (meddlerlaw1_NumRelates.j0 k y0 y1 y2 y3) (meddlerlaw1_NumRelates.j0 (k + 1) y0 y1 y2 y3))
  | 0 => fun _ _ _ _ r h => by simp [meddlerlaw1_NumRelates.j0] at h
  | k + 1 => by
    have ih0 := meddlerlaw1_NumRelates.mono_l k
    · intro y0 y1 y2 y3
      unfold meddlerlaw1_NumRelates.j0
      repeat' first
      | (with_reducible exact ih0 _ _ _ _)
      | (with_reducible exact meddlerlaw1_known.mono _)
      | (with_reducible exact LeO.refl _)
      | (with_reducible exact LeO.none _)
      | (with_reducible refine LeO.ite ?_ ?_)
      | (with_reducible refine LeO.bind ?_ (fun _ => ?_))
      | exact ih0 _ _ _ _
      | exact meddlerlaw1_known.mono _
      | exact LeO.none _
      | refine LeO.ite ?_ ?_
      | refine LeO.bind ?_ (fun _ => ?_)
theorem meddlerlaw1_NumRelates.mono : ∀ a0 a1 a2 k, LeO (meddlerlaw1_NumRelates.f k a0 a1 a2) (meddlerlaw1_NumRelates.f (k + 1) a0 a1 a2) := by
  intro a0 a1 a2 k
  have ih0 := meddlerlaw1_NumRelates.mono_l k
  unfold meddlerlaw1_NumRelates.f
  repeat' first
      | (with_reducible exact ih0 _ _ _ _)
      | (with_reducible exact meddlerlaw1_known.mono _)
      | (with_reducible exact LeO.refl _)
      | (with_reducible exact LeO.none _)
      | (with_reducible refine LeO.ite ?_ ?_)
      | (with_reducible refine LeO.bind ?_ (fun _ => ?_))
      | exact ih0 _ _ _ _
      | exact meddlerlaw1_known.mono _
      | exact LeO.none _
      | refine LeO.ite ?_ ?_
      | refine LeO.bind ?_ (fun _ => ?_)
set_option maxHeartbeats 8000000 in
set_option maxRecDepth 100000 in
theorem meddlerlaw1_NumRelates.calls (k : Nat) (a0 : Int) (a1 : Int) (a2 : Int) (r : Bool) (w : World) (h : meddlerlaw1_NumRelates.f k a0 a1 a2 = some r) :
    Calls Try.prog 11 #[.int .i64 a0, .int .i64 a1, .int .i64 a2] w fun e w' => e = .returned (.bool r) ∧ Below w.heap.size w w' := by
  have HB := Aside0.mk (Below.refl w.heap.size w)
  have H : (if a0 < 1 then (meddlerlaw1_NumRelates.j0 k a0 a1 a2 true) else (meddlerlaw1_NumRelates.j0 k a0 a1 a2 (decide (a0 > 6)))) = some r := h
  clear h
  have HC4 := Aside0.mk H
  clear H
  go_enter Try.func11, Try.ntmps11
  go_upto_region 1 with (fail)
  go_cut [13] (fun v13 wc => ∃ (kq : Nat) (x13_3 : Bool), v13 = .bool x13_3 ∧ Aside0 (meddlerlaw1_NumRelates.j0 kq a0 a1 a2 x13_3 = some r) ∧ Aside0 (kq ≤ k) ∧ Aside0 (Below w.heap.size w wc))
  case first =>
    have H := HC4.out
    clear HC4
    by_cases c5 : a0 < 1
    · rw [if_pos c5] at H
      have c5b0 : decide (a0 < 1) = true := decide_eq_true c5
      clear c5
      (first | rw [c5b0] | (simp only [i64_w, i32_w]; rw [c5b0]) | skip)
      have H' := Aside0.mk H
      clear H
      go_wp2
      go_meet
      case rel => exact ⟨_, (true), (by first | rfl | (simp; done) | (simp [*]; done)), H', ⟨by first | omega | exact Nat.le_refl _⟩, ⟨by repeat (first | (with_reducible first | exact HB.out | apply below_alloc | apply pw_below_drewN | apply below_drew1) | exact HB.out)⟩⟩
    · rw [if_neg c5] at H
      have c5b0 : decide (a0 < 1) = false := decide_eq_false c5
      clear c5
      (first | rw [c5b0] | (simp only [i64_w, i32_w]; rw [c5b0]) | skip)
      have H' := Aside0.mk H
      clear H
      go_wp2
      go_meet
      case rel => exact ⟨_, (decide (a0 > 6)), (by first | rfl | (simp; done) | (simp [*]; done)), H', ⟨by first | omega | exact Nat.le_refl _⟩, ⟨by repeat (first | (with_reducible first | exact HB.out | apply below_alloc | apply pw_below_drewN | apply below_drew1) | exact HB.out)⟩⟩
  case rest =>
    clear HC4
    try clear c1
    try clear p2
    try clear c5
    try clear c5b0
    obtain ⟨kq, x13_3, rfl, HA, HJ3, HB⟩ := hcut
    cases kq with
    | zero => exact absurd HA.out (by simp [meddlerlaw1_NumRelates.j0])
    | succ kj3 =>
      have H := HA.out
      clear HA
      simp only [meddlerlaw1_NumRelates.j0] at H
      by_cases c6 : x13_3 = true
      · subst c6
        have H1 : ((num_Turn.f a0).bind fun t138 => (if t138 = a0 then ((num_Not.f a0).bind fun t139 => (if t139 = a0 then ((num_Rel.f a0 a1 a2).bind fun t140 => (if t140 = true then (some false) else ((meddlerlaw1_known.f kj3).bind fun t141 => (some t141)))) else (some false))) else (some false))) = some r := by rw [if_pos rfl] at H; exact H
        clear H
        have H := H1
        clear H1
        replace H := Option.bind_eq_some_iff.mp H
        obtain ⟨t138, A70, H⟩ := H
        replace H : (if t138 = a0 then ((num_Not.f a0).bind fun t139 => (if t139 = a0 then ((num_Rel.f a0 a1 a2).bind fun t140 => (if t140 = true then (some false) else ((meddlerlaw1_known.f kj3).bind fun t141 => (some t141)))) else (some false))) else (some false)) = some r := H
        have A7 := Aside0.mk A70
        clear A70
        by_cases c8 : t138 = a0
        · rw [if_pos c8] at H
          have c8b0 : (t138 == a0) = true := beq_iff_eq.mpr c8
          have c8b1 : (t138 != a0) = false := bne_eq_false_iff_eq.mpr c8
          clear c8
          replace H := Option.bind_eq_some_iff.mp H
          obtain ⟨t139, A90, H⟩ := H
          replace H : (if t139 = a0 then ((num_Rel.f a0 a1 a2).bind fun t140 => (if t140 = true then (some false) else ((meddlerlaw1_known.f kj3).bind fun t141 => (some t141)))) else (some false)) = some r := H
          have A9 := Aside0.mk A90
          clear A90
          by_cases c10 : t139 = a0
          · rw [if_pos c10] at H
            have c10b0 : (t139 == a0) = true := beq_iff_eq.mpr c10
            have c10b1 : (t139 != a0) = false := bne_eq_false_iff_eq.mpr c10
            clear c10
            replace H := Option.bind_eq_some_iff.mp H
            obtain ⟨t140, A110, H⟩ := H
            replace H : (if t140 = true then (some false) else ((meddlerlaw1_known.f kj3).bind fun t141 => (some t141))) = some r := H
            have A11 := Aside0.mk A110
            clear A110
            by_cases c12 : t140 = true
            · subst c12
              have H1 : (some false) = some r := by rw [if_pos rfl] at H; exact H
              clear H
              have H := H1
              clear H1
              obtain rfl := Option.some.inj H
              go_wp2_with (first | ((with_reducible refine gate_callee (f := 19) rfl ?_); refine goesL_ (some 15) rfl rfl Try.func19 (by kernel_rfl) rfl #[.int .i64 a0] rfl (by (try simp only [List.map_toArray, List.map_cons, List.map_nil]); first | done | rfl | (simp only [List.length_drop, List.length_take]; rfl)) ?_; (with_reducible refine (num_Turn.calls a0 t138 _ A7.out).mono ?_); rintro e w' ⟨rfl, ⟨nd, rfl⟩⟩; refine ⟨_, rfl, ?_⟩) | (go_at_call 21; (with_reducible refine (num_Not.calls a0 t139 _ A9.out).mono ?_); rintro e w' ⟨rfl, ⟨nd, rfl⟩⟩) | (go_at_call 16; (with_reducible refine (num_Rel.calls a0 a1 a2 true _ A11.out).mono ?_); rintro e w' ⟨rfl, ⟨nd, rfl⟩⟩))
              go_ret
              exact ⟨by first | rfl | (simp [errW_none, errW_some] <;> rfl) | (simp [*, errW_none, errW_some] <;> rfl), by repeat (first | (with_reducible first | exact HB.out | apply below_alloc | apply pw_below_drewN | apply below_drew1) | exact HB.out)⟩
            · replace c12 := Bool.eq_false_iff.mpr c12
              subst c12
              have H1 : ((meddlerlaw1_known.f kj3).bind fun t141 => (some t141)) = some r := by rw [if_neg (show ¬ (false = true) by decide)] at H; exact H
              clear H
              have H := H1
              clear H1
              replace H := Option.bind_eq_some_iff.mp H
              obtain ⟨t141, A130, H⟩ := H
              replace H : (some t141) = some r := H
              have A13 := Aside0.mk A130
              clear A130
              obtain rfl := Option.some.inj H
              go_wp2_with (first | ((with_reducible refine gate_callee (f := 19) rfl ?_); refine goesL_ (some 15) rfl rfl Try.func19 (by kernel_rfl) rfl #[.int .i64 a0] rfl (by (try simp only [List.map_toArray, List.map_cons, List.map_nil]); first | done | rfl | (simp only [List.length_drop, List.length_take]; rfl)) ?_; (with_reducible refine (num_Turn.calls a0 t138 _ A7.out).mono ?_); rintro e w' ⟨rfl, ⟨nd, rfl⟩⟩; refine ⟨_, rfl, ?_⟩) | (go_at_call 21; (with_reducible refine (num_Not.calls a0 t139 _ A9.out).mono ?_); rintro e w' ⟨rfl, ⟨nd, rfl⟩⟩) | (go_at_call 16; (with_reducible refine (num_Rel.calls a0 a1 a2 false _ A11.out).mono ?_); rintro e w' ⟨rfl, ⟨nd, rfl⟩⟩) | (go_at_call 14; (with_reducible refine (meddlerlaw1_known.calls kj3  t141 _ A13.out).mono ?_); rintro e w14 ⟨rfl, hb⟩; have n0_ := Aside0.mk (below_step (by repeat (first | (with_reducible first | exact HB.out | apply below_alloc | apply pw_below_drewN | apply below_drew1) | exact HB.out)) hb); clear HB; have HB := n0_; clear n0_; (try clear hb); (try clear hb2); (try clear hk); (try clear hi)))
              go_ret
              exact ⟨by first | rfl | (simp [errW_none, errW_some] <;> rfl) | (simp [*, errW_none, errW_some] <;> rfl), by repeat (first | (with_reducible first | exact HB.out | apply below_alloc | apply pw_below_drewN | apply below_drew1) | exact HB.out)⟩
          · rw [if_neg c10] at H
            have c10b0 : (t139 == a0) = false := beq_eq_false_iff_ne.mpr c10
            have c10b1 : (t139 != a0) = true := bne_iff_ne.mpr c10
            obtain rfl := Option.some.inj H
            go_wp2_with (first | ((with_reducible refine gate_callee (f := 19) rfl ?_); refine goesL_ (some 15) rfl rfl Try.func19 (by kernel_rfl) rfl #[.int .i64 a0] rfl (by (try simp only [List.map_toArray, List.map_cons, List.map_nil]); first | done | rfl | (simp only [List.length_drop, List.length_take]; rfl)) ?_; (with_reducible refine (num_Turn.calls a0 t138 _ A7.out).mono ?_); rintro e w' ⟨rfl, ⟨nd, rfl⟩⟩; refine ⟨_, rfl, ?_⟩) | (go_at_call 21; (with_reducible refine (num_Not.calls a0 t139 _ A9.out).mono ?_); rintro e w' ⟨rfl, ⟨nd, rfl⟩⟩))
            go_ret
            exact ⟨by first | rfl | (simp [errW_none, errW_some] <;> rfl) | (simp [*, errW_none, errW_some] <;> rfl), by repeat (first | (with_reducible first | exact HB.out | apply below_alloc | apply pw_below_drewN | apply below_drew1) | exact HB.out)⟩
        · rw [if_neg c8] at H
          have c8b0 : (t138 == a0) = false := beq_eq_false_iff_ne.mpr c8
          have c8b1 : (t138 != a0) = true := bne_iff_ne.mpr c8
          obtain rfl := Option.some.inj H
          go_wp2_with (first | ((with_reducible refine gate_callee (f := 19) rfl ?_); refine goesL_ (some 15) rfl rfl Try.func19 (by kernel_rfl) rfl #[.int .i64 a0] rfl (by (try simp only [List.map_toArray, List.map_cons, List.map_nil]); first | done | rfl | (simp only [List.length_drop, List.length_take]; rfl)) ?_; (with_reducible refine (num_Turn.calls a0 t138 _ A7.out).mono ?_); rintro e w' ⟨rfl, ⟨nd, rfl⟩⟩; refine ⟨_, rfl, ?_⟩))
          go_ret
          exact ⟨by first | rfl | (simp [errW_none, errW_some] <;> rfl) | (simp [*, errW_none, errW_some] <;> rfl), by repeat (first | (with_reducible first | exact HB.out | apply below_alloc | apply pw_below_drewN | apply below_drew1) | exact HB.out)⟩
      · replace c6 := Bool.eq_false_iff.mpr c6
        subst c6
        have H1 : ((num_Rel.f a0 a1 a2).bind fun t142 => ((num_Turn.f a0).bind fun t143 => ((num_Rel.f t143 a2 a1).bind fun t144 => (if (t144 == t142) = true then ((num_Not.f a0).bind fun t145 => ((num_Rel.f t145 a1 a2).bind fun t146 => (if (t146 == (!t142)) = true then ((num_Turn.f a0).bind fun t147 => ((num_Turn.f t147).bind fun t148 => (if t148 = a0 then ((num_Not.f a0).bind fun t149 => ((num_Not.f t149).bind fun t150 => (if t150 = a0 then ((meddlerlaw1_known.f kj3).bind fun t151 => (some t151)) else (some false)))) else (some false)))) else (some false)))) else (some false))))) = some r := by rw [if_neg (show ¬ (false = true) by decide)] at H; exact H
        clear H
        have H := H1
        clear H1
        replace H := Option.bind_eq_some_iff.mp H
        obtain ⟨t142, A150, H⟩ := H
        replace H : ((num_Turn.f a0).bind fun t143 => ((num_Rel.f t143 a2 a1).bind fun t144 => (if (t144 == t142) = true then ((num_Not.f a0).bind fun t145 => ((num_Rel.f t145 a1 a2).bind fun t146 => (if (t146 == (!t142)) = true then ((num_Turn.f a0).bind fun t147 => ((num_Turn.f t147).bind fun t148 => (if t148 = a0 then ((num_Not.f a0).bind fun t149 => ((num_Not.f t149).bind fun t150 => (if t150 = a0 then ((meddlerlaw1_known.f kj3).bind fun t151 => (some t151)) else (some false)))) else (some false)))) else (some false)))) else (some false)))) = some r := H
        have A15 := Aside0.mk A150
        clear A150
        replace H := Option.bind_eq_some_iff.mp H
        obtain ⟨t143, A160, H⟩ := H
        replace H : ((num_Rel.f t143 a2 a1).bind fun t144 => (if (t144 == t142) = true then ((num_Not.f a0).bind fun t145 => ((num_Rel.f t145 a1 a2).bind fun t146 => (if (t146 == (!t142)) = true then ((num_Turn.f a0).bind fun t147 => ((num_Turn.f t147).bind fun t148 => (if t148 = a0 then ((num_Not.f a0).bind fun t149 => ((num_Not.f t149).bind fun t150 => (if t150 = a0 then ((meddlerlaw1_known.f kj3).bind fun t151 => (some t151)) else (some false)))) else (some false)))) else (some false)))) else (some false))) = some r := H
        have A16 := Aside0.mk A160
        clear A160
        replace H := Option.bind_eq_some_iff.mp H
        obtain ⟨t144, A170, H⟩ := H
        replace H : (if (t144 == t142) = true then ((num_Not.f a0).bind fun t145 => ((num_Rel.f t145 a1 a2).bind fun t146 => (if (t146 == (!t142)) = true then ((num_Turn.f a0).bind fun t147 => ((num_Turn.f t147).bind fun t148 => (if t148 = a0 then ((num_Not.f a0).bind fun t149 => ((num_Not.f t149).bind fun t150 => (if t150 = a0 then ((meddlerlaw1_known.f kj3).bind fun t151 => (some t151)) else (some false)))) else (some false)))) else (some false)))) else (some false)) = some r := H
        have A17 := Aside0.mk A170
        clear A170
        by_cases c18 : (t144 == t142) = true
        · rw [if_pos c18] at H
          have c18b0 : (t144 == t142) = true := c18
          (try (have c18b1 : decide (t144 = t142) = true := by simpa using c18))
          (try (have c18b2 : (t144 == t142) = true := by simpa using c18))
          clear c18
          replace H := Option.bind_eq_some_iff.mp H
          obtain ⟨t145, A190, H⟩ := H
          replace H : ((num_Rel.f t145 a1 a2).bind fun t146 => (if (t146 == (!t142)) = true then ((num_Turn.f a0).bind fun t147 => ((num_Turn.f t147).bind fun t148 => (if t148 = a0 then ((num_Not.f a0).bind fun t149 => ((num_Not.f t149).bind fun t150 => (if t150 = a0 then ((meddlerlaw1_known.f kj3).bind fun t151 => (some t151)) else (some false)))) else (some false)))) else (some false))) = some r := H
          have A19 := Aside0.mk A190
          clear A190
          replace H := Option.bind_eq_some_iff.mp H
          obtain ⟨t146, A200, H⟩ := H
          replace H : (if (t146 == (!t142)) = true then ((num_Turn.f a0).bind fun t147 => ((num_Turn.f t147).bind fun t148 => (if t148 = a0 then ((num_Not.f a0).bind fun t149 => ((num_Not.f t149).bind fun t150 => (if t150 = a0 then ((meddlerlaw1_known.f kj3).bind fun t151 => (some t151)) else (some false)))) else (some false)))) else (some false)) = some r := H
          have A20 := Aside0.mk A200
          clear A200
          by_cases c21 : (t146 == (!t142)) = true
          · rw [if_pos c21] at H
            have c21b0 : (t146 == (!t142)) = true := c21
            (try (have c21b1 : decide (t146 = (!t142)) = true := by simpa using c21))
            (try (have c21b2 : (t146 == (!t142)) = true := by simpa using c21))
            clear c21
            replace H := Option.bind_eq_some_iff.mp H
            obtain ⟨t147, A220, H⟩ := H
            replace H : ((num_Turn.f t147).bind fun t148 => (if t148 = a0 then ((num_Not.f a0).bind fun t149 => ((num_Not.f t149).bind fun t150 => (if t150 = a0 then ((meddlerlaw1_known.f kj3).bind fun t151 => (some t151)) else (some false)))) else (some false))) = some r := H
            have A22 := Aside0.mk A220
            clear A220
            obtain rfl : t143 = t147 := Option.some.inj (A16.out.symm.trans A22.out)
            replace H := Option.bind_eq_some_iff.mp H
            obtain ⟨t148, A230, H⟩ := H
            replace H : (if t148 = a0 then ((num_Not.f a0).bind fun t149 => ((num_Not.f t149).bind fun t150 => (if t150 = a0 then ((meddlerlaw1_known.f kj3).bind fun t151 => (some t151)) else (some false)))) else (some false)) = some r := H
            have A23 := Aside0.mk A230
            clear A230
            by_cases c24 : t148 = a0
            · rw [if_pos c24] at H
              have c24b0 : (t148 == a0) = true := beq_iff_eq.mpr c24
              have c24b1 : (t148 != a0) = false := bne_eq_false_iff_eq.mpr c24
              clear c24
              replace H := Option.bind_eq_some_iff.mp H
              obtain ⟨t149, A250, H⟩ := H
              replace H : ((num_Not.f t149).bind fun t150 => (if t150 = a0 then ((meddlerlaw1_known.f kj3).bind fun t151 => (some t151)) else (some false))) = some r := H
              have A25 := Aside0.mk A250
              clear A250
              obtain rfl : t145 = t149 := Option.some.inj (A19.out.symm.trans A25.out)
              replace H := Option.bind_eq_some_iff.mp H
              obtain ⟨t150, A260, H⟩ := H
              replace H : (if t150 = a0 then ((meddlerlaw1_known.f kj3).bind fun t151 => (some t151)) else (some false)) = some r := H
              have A26 := Aside0.mk A260
              clear A260
              by_cases c27 : t150 = a0
              · rw [if_pos c27] at H
                have c27b0 : (t150 == a0) = true := beq_iff_eq.mpr c27
                have c27b1 : (t150 != a0) = false := bne_eq_false_iff_eq.mpr c27
                clear c27
                replace H := Option.bind_eq_some_iff.mp H
                obtain ⟨t151, A280, H⟩ := H
                replace H : (some t151) = some r := H
                have A28 := Aside0.mk A280
                clear A280
                obtain rfl := Option.some.inj H
                go_wp2_with (first | ((with_reducible refine gate_callee (f := 16) rfl ?_); refine goesL_ (some 37) rfl rfl Try.func16 (by kernel_rfl) rfl #[.int .i64 a0, .int .i64 a1, .int .i64 a2] rfl (by (try simp only [List.map_toArray, List.map_cons, List.map_nil]); first | done | rfl | (simp only [List.length_drop, List.length_take]; rfl)) ?_; (with_reducible refine (num_Rel.calls a0 a1 a2 t142 _ A15.out).mono ?_); rintro e w' ⟨rfl, ⟨nd, rfl⟩⟩; refine ⟨_, rfl, ?_⟩) | ((with_reducible refine gate_callee (f := 19) rfl ?_); refine goesL_ (some 39) rfl rfl Try.func19 (by kernel_rfl) rfl #[.int .i64 a0] rfl (by (try simp only [List.map_toArray, List.map_cons, List.map_nil]); first | done | rfl | (simp only [List.length_drop, List.length_take]; rfl)) ?_; (with_reducible refine (num_Turn.calls a0 t143 _ A16.out).mono ?_); rintro e w' ⟨rfl, ⟨nd, rfl⟩⟩; refine ⟨_, rfl, ?_⟩) | ((with_reducible refine gate_callee (f := 16) rfl ?_); refine goesL_ (some 42) rfl rfl Try.func16 (by kernel_rfl) rfl #[.int .i64 t143, .int .i64 a2, .int .i64 a1] rfl (by (try simp only [List.map_toArray, List.map_cons, List.map_nil]); first | done | rfl | (simp only [List.length_drop, List.length_take]; rfl)) ?_; (with_reducible refine (num_Rel.calls t143 a2 a1 t144 _ A17.out).mono ?_); rintro e w' ⟨rfl, ⟨nd, rfl⟩⟩; refine ⟨_, rfl, ?_⟩) | (go_at_call 21; (with_reducible refine (num_Not.calls a0 t145 _ A19.out).mono ?_); rintro e w' ⟨rfl, ⟨nd, rfl⟩⟩) | (go_at_call 16; (with_reducible refine (num_Rel.calls t145 a1 a2 t146 _ A20.out).mono ?_); rintro e w' ⟨rfl, ⟨nd, rfl⟩⟩) | (go_at_call 19; (with_reducible refine (num_Turn.calls a0 t143 _ A22.out).mono ?_); rintro e w' ⟨rfl, ⟨nd, rfl⟩⟩) | (go_at_call 19; (with_reducible refine (num_Turn.calls t143 t148 _ A23.out).mono ?_); rintro e w' ⟨rfl, ⟨nd, rfl⟩⟩) | (go_at_call 21; (with_reducible refine (num_Not.calls a0 t145 _ A25.out).mono ?_); rintro e w' ⟨rfl, ⟨nd, rfl⟩⟩) | (go_at_call 21; (with_reducible refine (num_Not.calls t145 t150 _ A26.out).mono ?_); rintro e w' ⟨rfl, ⟨nd, rfl⟩⟩) | (go_at_call 14; (with_reducible refine (meddlerlaw1_known.calls kj3  t151 _ A28.out).mono ?_); rintro e w29 ⟨rfl, hb⟩; have n0_ := Aside0.mk (below_step (by repeat (first | (with_reducible first | exact HB.out | apply below_alloc | apply pw_below_drewN | apply below_drew1) | exact HB.out)) hb); clear HB; have HB := n0_; clear n0_; (try clear hb); (try clear hb2); (try clear hk); (try clear hi)))
                go_ret
                exact ⟨by first | rfl | (simp [errW_none, errW_some] <;> rfl) | (simp [*, errW_none, errW_some] <;> rfl), by repeat (first | (with_reducible first | exact HB.out | apply below_alloc | apply pw_below_drewN | apply below_drew1) | exact HB.out)⟩
              · rw [if_neg c27] at H
                have c27b0 : (t150 == a0) = false := beq_eq_false_iff_ne.mpr c27
                have c27b1 : (t150 != a0) = true := bne_iff_ne.mpr c27
                obtain rfl := Option.some.inj H
                go_wp2_with (first | ((with_reducible refine gate_callee (f := 16) rfl ?_); refine goesL_ (some 37) rfl rfl Try.func16 (by kernel_rfl) rfl #[.int .i64 a0, .int .i64 a1, .int .i64 a2] rfl (by (try simp only [List.map_toArray, List.map_cons, List.map_nil]); first | done | rfl | (simp only [List.length_drop, List.length_take]; rfl)) ?_; (with_reducible refine (num_Rel.calls a0 a1 a2 t142 _ A15.out).mono ?_); rintro e w' ⟨rfl, ⟨nd, rfl⟩⟩; refine ⟨_, rfl, ?_⟩) | ((with_reducible refine gate_callee (f := 19) rfl ?_); refine goesL_ (some 39) rfl rfl Try.func19 (by kernel_rfl) rfl #[.int .i64 a0] rfl (by (try simp only [List.map_toArray, List.map_cons, List.map_nil]); first | done | rfl | (simp only [List.length_drop, List.length_take]; rfl)) ?_; (with_reducible refine (num_Turn.calls a0 t143 _ A16.out).mono ?_); rintro e w' ⟨rfl, ⟨nd, rfl⟩⟩; refine ⟨_, rfl, ?_⟩) | ((with_reducible refine gate_callee (f := 16) rfl ?_); refine goesL_ (some 42) rfl rfl Try.func16 (by kernel_rfl) rfl #[.int .i64 t143, .int .i64 a2, .int .i64 a1] rfl (by (try simp only [List.map_toArray, List.map_cons, List.map_nil]); first | done | rfl | (simp only [List.length_drop, List.length_take]; rfl)) ?_; (with_reducible refine (num_Rel.calls t143 a2 a1 t144 _ A17.out).mono ?_); rintro e w' ⟨rfl, ⟨nd, rfl⟩⟩; refine ⟨_, rfl, ?_⟩) | (go_at_call 21; (with_reducible refine (num_Not.calls a0 t145 _ A19.out).mono ?_); rintro e w' ⟨rfl, ⟨nd, rfl⟩⟩) | (go_at_call 16; (with_reducible refine (num_Rel.calls t145 a1 a2 t146 _ A20.out).mono ?_); rintro e w' ⟨rfl, ⟨nd, rfl⟩⟩) | (go_at_call 19; (with_reducible refine (num_Turn.calls a0 t143 _ A22.out).mono ?_); rintro e w' ⟨rfl, ⟨nd, rfl⟩⟩) | (go_at_call 19; (with_reducible refine (num_Turn.calls t143 t148 _ A23.out).mono ?_); rintro e w' ⟨rfl, ⟨nd, rfl⟩⟩) | (go_at_call 21; (with_reducible refine (num_Not.calls a0 t145 _ A25.out).mono ?_); rintro e w' ⟨rfl, ⟨nd, rfl⟩⟩) | (go_at_call 21; (with_reducible refine (num_Not.calls t145 t150 _ A26.out).mono ?_); rintro e w' ⟨rfl, ⟨nd, rfl⟩⟩))
                go_ret
                exact ⟨by first | rfl | (simp [errW_none, errW_some] <;> rfl) | (simp [*, errW_none, errW_some] <;> rfl), by repeat (first | (with_reducible first | exact HB.out | apply below_alloc | apply pw_below_drewN | apply below_drew1) | exact HB.out)⟩
            · rw [if_neg c24] at H
              have c24b0 : (t148 == a0) = false := beq_eq_false_iff_ne.mpr c24
              have c24b1 : (t148 != a0) = true := bne_iff_ne.mpr c24
              obtain rfl := Option.some.inj H
              go_wp2_with (first | ((with_reducible refine gate_callee (f := 16) rfl ?_); refine goesL_ (some 37) rfl rfl Try.func16 (by kernel_rfl) rfl #[.int .i64 a0, .int .i64 a1, .int .i64 a2] rfl (by (try simp only [List.map_toArray, List.map_cons, List.map_nil]); first | done | rfl | (simp only [List.length_drop, List.length_take]; rfl)) ?_; (with_reducible refine (num_Rel.calls a0 a1 a2 t142 _ A15.out).mono ?_); rintro e w' ⟨rfl, ⟨nd, rfl⟩⟩; refine ⟨_, rfl, ?_⟩) | ((with_reducible refine gate_callee (f := 19) rfl ?_); refine goesL_ (some 39) rfl rfl Try.func19 (by kernel_rfl) rfl #[.int .i64 a0] rfl (by (try simp only [List.map_toArray, List.map_cons, List.map_nil]); first | done | rfl | (simp only [List.length_drop, List.length_take]; rfl)) ?_; (with_reducible refine (num_Turn.calls a0 t143 _ A16.out).mono ?_); rintro e w' ⟨rfl, ⟨nd, rfl⟩⟩; refine ⟨_, rfl, ?_⟩) | ((with_reducible refine gate_callee (f := 16) rfl ?_); refine goesL_ (some 42) rfl rfl Try.func16 (by kernel_rfl) rfl #[.int .i64 t143, .int .i64 a2, .int .i64 a1] rfl (by (try simp only [List.map_toArray, List.map_cons, List.map_nil]); first | done | rfl | (simp only [List.length_drop, List.length_take]; rfl)) ?_; (with_reducible refine (num_Rel.calls t143 a2 a1 t144 _ A17.out).mono ?_); rintro e w' ⟨rfl, ⟨nd, rfl⟩⟩; refine ⟨_, rfl, ?_⟩) | (go_at_call 21; (with_reducible refine (num_Not.calls a0 t145 _ A19.out).mono ?_); rintro e w' ⟨rfl, ⟨nd, rfl⟩⟩) | (go_at_call 16; (with_reducible refine (num_Rel.calls t145 a1 a2 t146 _ A20.out).mono ?_); rintro e w' ⟨rfl, ⟨nd, rfl⟩⟩) | (go_at_call 19; (with_reducible refine (num_Turn.calls a0 t143 _ A22.out).mono ?_); rintro e w' ⟨rfl, ⟨nd, rfl⟩⟩) | (go_at_call 19; (with_reducible refine (num_Turn.calls t143 t148 _ A23.out).mono ?_); rintro e w' ⟨rfl, ⟨nd, rfl⟩⟩))
              go_ret
              exact ⟨by first | rfl | (simp [errW_none, errW_some] <;> rfl) | (simp [*, errW_none, errW_some] <;> rfl), by repeat (first | (with_reducible first | exact HB.out | apply below_alloc | apply pw_below_drewN | apply below_drew1) | exact HB.out)⟩
          · rw [if_neg c21] at H
            have c21b0 : (t146 == (!t142)) = false := by simpa using c21
            (try (have c21b1 : decide (t146 = (!t142)) = false := by simpa using c21))
            (try (have c21b2 : (t146 == (!t142)) = false := by simpa using c21))
            (try (have c21b3 : ¬ (t146 = (!t142)) := by simpa using c21))
            clear c21
            obtain rfl := Option.some.inj H
            go_wp2_with (first | ((with_reducible refine gate_callee (f := 16) rfl ?_); refine goesL_ (some 37) rfl rfl Try.func16 (by kernel_rfl) rfl #[.int .i64 a0, .int .i64 a1, .int .i64 a2] rfl (by (try simp only [List.map_toArray, List.map_cons, List.map_nil]); first | done | rfl | (simp only [List.length_drop, List.length_take]; rfl)) ?_; (with_reducible refine (num_Rel.calls a0 a1 a2 t142 _ A15.out).mono ?_); rintro e w' ⟨rfl, ⟨nd, rfl⟩⟩; refine ⟨_, rfl, ?_⟩) | ((with_reducible refine gate_callee (f := 19) rfl ?_); refine goesL_ (some 39) rfl rfl Try.func19 (by kernel_rfl) rfl #[.int .i64 a0] rfl (by (try simp only [List.map_toArray, List.map_cons, List.map_nil]); first | done | rfl | (simp only [List.length_drop, List.length_take]; rfl)) ?_; (with_reducible refine (num_Turn.calls a0 t143 _ A16.out).mono ?_); rintro e w' ⟨rfl, ⟨nd, rfl⟩⟩; refine ⟨_, rfl, ?_⟩) | ((with_reducible refine gate_callee (f := 16) rfl ?_); refine goesL_ (some 42) rfl rfl Try.func16 (by kernel_rfl) rfl #[.int .i64 t143, .int .i64 a2, .int .i64 a1] rfl (by (try simp only [List.map_toArray, List.map_cons, List.map_nil]); first | done | rfl | (simp only [List.length_drop, List.length_take]; rfl)) ?_; (with_reducible refine (num_Rel.calls t143 a2 a1 t144 _ A17.out).mono ?_); rintro e w' ⟨rfl, ⟨nd, rfl⟩⟩; refine ⟨_, rfl, ?_⟩) | (go_at_call 21; (with_reducible refine (num_Not.calls a0 t145 _ A19.out).mono ?_); rintro e w' ⟨rfl, ⟨nd, rfl⟩⟩) | (go_at_call 16; (with_reducible refine (num_Rel.calls t145 a1 a2 t146 _ A20.out).mono ?_); rintro e w' ⟨rfl, ⟨nd, rfl⟩⟩))
            go_ret
            exact ⟨by first | rfl | (simp [errW_none, errW_some] <;> rfl) | (simp [*, errW_none, errW_some] <;> rfl), by repeat (first | (with_reducible first | exact HB.out | apply below_alloc | apply pw_below_drewN | apply below_drew1) | exact HB.out)⟩
        · rw [if_neg c18] at H
          have c18b0 : (t144 == t142) = false := by simpa using c18
          (try (have c18b1 : decide (t144 = t142) = false := by simpa using c18))
          (try (have c18b2 : (t144 == t142) = false := by simpa using c18))
          (try (have c18b3 : ¬ (t144 = t142) := by simpa using c18))
          clear c18
          obtain rfl := Option.some.inj H
          go_wp2_with (first | ((with_reducible refine gate_callee (f := 16) rfl ?_); refine goesL_ (some 37) rfl rfl Try.func16 (by kernel_rfl) rfl #[.int .i64 a0, .int .i64 a1, .int .i64 a2] rfl (by (try simp only [List.map_toArray, List.map_cons, List.map_nil]); first | done | rfl | (simp only [List.length_drop, List.length_take]; rfl)) ?_; (with_reducible refine (num_Rel.calls a0 a1 a2 t142 _ A15.out).mono ?_); rintro e w' ⟨rfl, ⟨nd, rfl⟩⟩; refine ⟨_, rfl, ?_⟩) | ((with_reducible refine gate_callee (f := 19) rfl ?_); refine goesL_ (some 39) rfl rfl Try.func19 (by kernel_rfl) rfl #[.int .i64 a0] rfl (by (try simp only [List.map_toArray, List.map_cons, List.map_nil]); first | done | rfl | (simp only [List.length_drop, List.length_take]; rfl)) ?_; (with_reducible refine (num_Turn.calls a0 t143 _ A16.out).mono ?_); rintro e w' ⟨rfl, ⟨nd, rfl⟩⟩; refine ⟨_, rfl, ?_⟩) | ((with_reducible refine gate_callee (f := 16) rfl ?_); refine goesL_ (some 42) rfl rfl Try.func16 (by kernel_rfl) rfl #[.int .i64 t143, .int .i64 a2, .int .i64 a1] rfl (by (try simp only [List.map_toArray, List.map_cons, List.map_nil]); first | done | rfl | (simp only [List.length_drop, List.length_take]; rfl)) ?_; (with_reducible refine (num_Rel.calls t143 a2 a1 t144 _ A17.out).mono ?_); rintro e w' ⟨rfl, ⟨nd, rfl⟩⟩; refine ⟨_, rfl, ?_⟩))
          go_ret
          exact ⟨by first | rfl | (simp [errW_none, errW_some] <;> rfl) | (simp [*, errW_none, errW_some] <;> rfl), by repeat (first | (with_reducible first | exact HB.out | apply below_alloc | apply pw_below_drewN | apply below_drew1) | exact HB.out)⟩

/-- THE ONE PURE STATEMENT of meddlerlaw1_NumRelates: yours. -/
def meddlerlaw1_NumRelates.Pure : Prop := ∀ (a0 : Int) (a1 : Int) (a2 : Int), (Lit.int .i64 a0).wf = true → (Lit.int .i64 a1).wf = true → (Lit.int .i64 a2).wf = true → ∃ k, meddlerlaw1_NumRelates.f k a0 a1 a2 = some true
theorem meddlerlaw1_NumRelates.walk (P : meddlerlaw1_NumRelates.Pure) (a0 : Int) (a1 : Int) (a2 : Int) (w : World) (w0 : (Lit.int .i64 a0).wf = true) (w1 : (Lit.int .i64 a1).wf = true) (w2 : (Lit.int .i64 a2).wf = true) :
    Calls Try.prog 11 #[.int .i64 a0, .int .i64 a1, .int .i64 a2] w fun e w' => e = .returned (.bool true) ∧ Below w.heap.size w w' := by
  obtain ⟨k, h⟩ := P a0 a1 a2 w0 w1 w2
  refine (meddlerlaw1_NumRelates.calls k a0 a1 a2 true w h).mono ?_
  rintro e w' ⟨rfl, hd⟩
  exact ⟨rfl, hd⟩

end Go.Proofs.Yteekfgemkjeklaa.PNumRelates
