-- PRINTED BY print.sh 35421559b90ae4d0a3588c463048766b98c2df88dd9212a6774a882060cdf62d: not written by this session
import Derived.Test.YteekfgemkjeklaaPNumDividesx0
import Derived.Test.YteekfgemkjeklaaPNumDividesx1
namespace Go.Proofs.Yteekfgemkjeklaa.PNumDivides
open Go.RowKit Go.Proofs.YteekfgemkjeklaaW.PrintWords Go.Proofs.YteekfgemkjeklaaW.PrintLast Go.Proofs.YteekfgemkjeklaaW.PrintMore
attribute [local go_sem] max2_int min2_int max_two min_two max_three min_three max_four min_four   -- for this text's walks alone
set_option linter.unusedVariables false
set_option linter.unusedSimpArgs false

/-! ### meddlerlaw1_NumDivides: function 3 -/
mutual
def meddlerlaw1_NumDivides.j0 : Nat → Int → Int → Bool → Option (Bool)
  | 0, _, _, _ => none
  | k + 1, x0, x1, x16 => if x16 = true then (some true) else ((num_Do.f k 4 x0 x1).bind fun bt140 => ((num_Do.f k 5 x0 x1).bind fun bt142 => (if x1 = 0 then (if bt140.2 = 8 then (if bt142.2 = 8 then (if bt140.1 = 0 then (if bt142.1 = 0 then ((meddlerlaw1_known.f k).bind fun t144 => (some t144)) else (some false)) else (some false)) else (some false)) else (some false)) else (if x0 = (-2147483648) then (meddlerlaw1_NumDivides.j1 k x0 x1 bt140.1 bt140.2 bt142.1 bt142.2 (x1 == (-1))) else (meddlerlaw1_NumDivides.j1 k x0 x1 bt140.1 bt140.2 bt142.1 bt142.2 false)))))
def meddlerlaw1_NumDivides.j1 : Nat → Int → Int → Int → Int → Int → Int → Bool → Option (Bool)
  | 0, _, _, _, _, _, _, _ => none
  | k + 1, x0, x1, x5, x6, x7, x8, x53 => if x53 = true then (if x6 = 7 then (if x8 = 0 then (if x7 = 0 then ((meddlerlaw1_known.f k).bind fun t145 => (some t145)) else (some false)) else (some false)) else (some false)) else (if x6 = 0 then (if x8 = 0 then (if (wrap64 ((wrap64 (x5 * x1)) + x7)) = x0 then (if (mx x7 (wrap64 (-x7))) < (mx x1 (wrap64 (-x1))) then (if x7 = 0 then ((meddlerlaw1_known.f k).bind fun t146 => (some t146)) else (if ((decide (x7 < 0)) == (decide (x0 < 0))) = true then ((meddlerlaw1_known.f k).bind fun t147 => (some t147)) else (some false))) else (some false)) else (some false)) else (some false)) else (some false))
end
def meddlerlaw1_NumDivides.f (k : Nat) (a0 : Int) (a1 : Int) : Option (Bool) := (meddlerref1_Fits.f a0).bind fun t138 => (if t138 = true then ((meddlerref1_Fits.f a1).bind fun t139 => (meddlerlaw1_NumDivides.j0 k a0 a1 (!t139))) else (meddlerlaw1_NumDivides.j0 k a0 a1 true))
theorem meddlerlaw1_NumDivides.mono_l : ∀ k, (∀ y0 y1 y2, LeO (meddlerlaw1_NumDivides.j0 k y0 y1 y2) (meddlerlaw1_NumDivides.j0 (k + 1) y0 y1 y2)) ∧ (∀ y0 y1 y2 y3 y4 y5 y6, LeO (meddlerlaw1_NumDivides.j1 k y0 y1 y2 y3 y4 y5 y6) (meddlerlaw1_NumDivides.j1 (k + 1) y0 y1 y2 y3 y4 y5 y6))
  | 0 => ⟨fun _ _ _ r h => by simp [meddlerlaw1_NumDivides.j0] at h, fun _ _ _ _ _ _ _ r h => by simp [meddlerlaw1_NumDivides.j1] at h⟩
  | k + 1 => by
    obtain ⟨ih0, ih1⟩ := meddlerlaw1_NumDivides.mono_l k
    refine ⟨?_, ?_⟩
    · intro y0 y1 y2
      unfold meddlerlaw1_NumDivides.j0
      repeat' first
      | (with_reducible exact ih0 _ _ _)
      | (with_reducible exact ih1 _ _ _ _ _ _ _)
      | (with_reducible exact meddlerlaw1_known.mono _)
      | (with_reducible exact num_Do.mono _ _ _ _)
      | (with_reducible exact LeO.refl _)
      | (with_reducible exact LeO.none _)
      | (with_reducible refine LeO.ite ?_ ?_)
      | (with_reducible refine LeO.bind ?_ (fun _ => ?_))
      | exact ih0 _ _ _
      | exact ih1 _ _ _ _ _ _ _
      | exact meddlerlaw1_known.mono _
      | exact num_Do.mono _ _ _ _
      | exact LeO.none _
      | refine LeO.ite ?_ ?_
      | refine LeO.bind ?_ (fun _ => ?_)
    · intro y0 y1 y2 y3 y4 y5 y6
      unfold meddlerlaw1_NumDivides.j1
      repeat' first
      | (with_reducible exact ih0 _ _ _)
      | (with_reducible exact ih1 _ _ _ _ _ _ _)
      | (with_reducible exact meddlerlaw1_known.mono _)
      | (with_reducible exact num_Do.mono _ _ _ _)
      | (with_reducible exact LeO.refl _)
      | (with_reducible exact LeO.none _)
      | (with_reducible refine LeO.ite ?_ ?_)
      | (with_reducible refine LeO.bind ?_ (fun _ => ?_))
      | exact ih0 _ _ _
      | exact ih1 _ _ _ _ _ _ _
      | exact meddlerlaw1_known.mono _
      | exact num_Do.mono _ _ _ _
      | exact LeO.none _
      | refine LeO.ite ?_ ?_
      | refine LeO.bind ?_ (fun _ => ?_)
theorem meddlerlaw1_NumDivides.mono : ∀ a0 a1 k, LeO (meddlerlaw1_NumDivides.f k a0 a1) (meddlerlaw1_NumDivides.f (k + 1) a0 a1) := by
  intro a0 a1 k
  obtain ⟨ih0, ih1⟩ := meddlerlaw1_NumDivides.mono_l k
  unfold meddlerlaw1_NumDivides.f
  repeat' first
      | (with_reducible exact ih0 _ _ _)
      | (with_reducible exact ih1 _ _ _ _ _ _ _)
      | (with_reducible exact meddlerlaw1_known.mono _)
      | (with_reducible exact num_Do.mono _ _ _ _)
      | (with_reducible exact LeO.refl _)
      | (with_reducible exact LeO.none _)
      | (with_reducible refine LeO.ite ?_ ?_)
      | (with_reducible refine LeO.bind ?_ (fun _ => ?_))
      | exact ih0 _ _ _
      | exact ih1 _ _ _ _ _ _ _
      | exact meddlerlaw1_known.mono _
      | exact num_Do.mono _ _ _ _
      | exact LeO.none _
      | refine LeO.ite ?_ ?_
      | refine LeO.bind ?_ (fun _ => ?_)
set_option maxHeartbeats 8000000 in
set_option maxRecDepth 100000 in
theorem meddlerlaw1_NumDivides.calls (k : Nat) (a0 : Int) (a1 : Int) (r : Bool) (w : World) (h : meddlerlaw1_NumDivides.f k a0 a1 = some r) :
    Calls Try.prog 3 #[.int .i64 a0, .int .i64 a1] w fun e w' => e = .returned (.bool r) ∧ Below w.heap.size w w' := by
  have HB := Aside0.mk (Below.refl w.heap.size w)
  have H : ((meddlerref1_Fits.f a0).bind fun t138 => (if t138 = true then ((meddlerref1_Fits.f a1).bind fun t139 => (meddlerlaw1_NumDivides.j0 k a0 a1 (!t139))) else (meddlerlaw1_NumDivides.j0 k a0 a1 true))) = some r := h
  clear h
  have HC3 := Aside0.mk H
  clear H
  go_enter Try.func3, Try.ntmps3
  go_upto_region 1 with (fail)
  go_cut [16] (fun v16 wc => ∃ (kq : Nat) (x16_2 : Bool), v16 = .bool x16_2 ∧ Aside0 (meddlerlaw1_NumDivides.j0 kq a0 a1 x16_2 = some r) ∧ Aside0 (kq ≤ k) ∧ Aside0 (Below w.heap.size w wc))
  case first =>
    have H := HC3.out
    clear HC3
    replace H := Option.bind_eq_some_iff.mp H
    obtain ⟨t138, A40, H⟩ := H
    replace H : (if t138 = true then ((meddlerref1_Fits.f a1).bind fun t139 => (meddlerlaw1_NumDivides.j0 k a0 a1 (!t139))) else (meddlerlaw1_NumDivides.j0 k a0 a1 true)) = some r := H
    have A4 := Aside0.mk A40
    clear A40
    by_cases c5 : t138 = true
    · subst c5
      have H1 : ((meddlerref1_Fits.f a1).bind fun t139 => (meddlerlaw1_NumDivides.j0 k a0 a1 (!t139))) = some r := by rw [if_pos rfl] at H; exact H
      clear H
      have H := H1
      clear H1
      replace H := Option.bind_eq_some_iff.mp H
      obtain ⟨t139, A60, H⟩ := H
      replace H : (meddlerlaw1_NumDivides.j0 k a0 a1 (!t139)) = some r := H
      have A6 := Aside0.mk A60
      clear A60
      have H' := Aside0.mk H
      clear H
      go_wp2_with (first | ((with_reducible refine gate_callee (f := 12) rfl ?_); refine goesL_ (some 10) rfl rfl Try.func12 (by kernel_rfl) rfl #[.int .i64 a0] rfl (by (try simp only [List.map_toArray, List.map_cons, List.map_nil]); first | done | rfl | (simp only [List.length_drop, List.length_take]; rfl)) ?_; (with_reducible refine (meddlerref1_Fits.calls a0 true _ A4.out).mono ?_); rintro e w' ⟨rfl, ⟨nd, rfl⟩⟩; refine ⟨_, rfl, ?_⟩) | (go_at_call 12; (with_reducible refine (meddlerref1_Fits.calls a1 t139 _ A6.out).mono ?_); rintro e w' ⟨rfl, ⟨nd, rfl⟩⟩))
      go_meet
      case rel => exact ⟨_, (!t139), (by first | rfl | (simp; done) | (simp [*]; done)), H', ⟨by first | omega | exact Nat.le_refl _⟩, ⟨by repeat (first | (with_reducible first | exact HB.out | apply below_alloc | apply pw_below_drewN | apply below_drew1) | exact HB.out)⟩⟩
    · replace c5 := Bool.eq_false_iff.mpr c5
      subst c5
      have H1 : (meddlerlaw1_NumDivides.j0 k a0 a1 true) = some r := by rw [if_neg (show ¬ (false = true) by decide)] at H; exact H
      clear H
      have H := H1
      clear H1
      have H' := Aside0.mk H
      clear H
      go_wp2_with (first | ((with_reducible refine gate_callee (f := 12) rfl ?_); refine goesL_ (some 10) rfl rfl Try.func12 (by kernel_rfl) rfl #[.int .i64 a0] rfl (by (try simp only [List.map_toArray, List.map_cons, List.map_nil]); first | done | rfl | (simp only [List.length_drop, List.length_take]; rfl)) ?_; (with_reducible refine (meddlerref1_Fits.calls a0 false _ A4.out).mono ?_); rintro e w' ⟨rfl, ⟨nd, rfl⟩⟩; refine ⟨_, rfl, ?_⟩))
      go_meet
      case rel => exact ⟨_, (true), (by first | rfl | (simp; done) | (simp [*]; done)), H', ⟨by first | omega | exact Nat.le_refl _⟩, ⟨by repeat (first | (with_reducible first | exact HB.out | apply below_alloc | apply pw_below_drewN | apply below_drew1) | exact HB.out)⟩⟩
  case rest =>
    clear HC3
    try clear c1
    try clear p2
    try clear c3
    try clear c5
    obtain ⟨kq, x16_2, rfl, HA, HJ2, HB⟩ := hcut
    cases kq with
    | zero => exact absurd HA.out (by simp [meddlerlaw1_NumDivides.j0])
    | succ kj2 =>
      have H := HA.out
      clear HA
      simp only [meddlerlaw1_NumDivides.j0] at H
      by_cases c7 : x16_2 = true
      · subst c7
        have H1 : (some true) = some r := by rw [if_pos rfl] at H; exact H
        clear H
        have H := H1
        clear H1
        obtain rfl := Option.some.inj H
        go_wp2
        go_ret
        exact ⟨by first | rfl | (simp [errW_none, errW_some] <;> rfl) | (simp [*, errW_none, errW_some] <;> rfl), by repeat (first | (with_reducible first | exact HB.out | apply below_alloc | apply pw_below_drewN | apply below_drew1) | exact HB.out)⟩
      · replace c7 := Bool.eq_false_iff.mpr c7
        subst c7
        have H1 : ((num_Do.f kj2 4 a0 a1).bind fun bt140 => ((num_Do.f kj2 5 a0 a1).bind fun bt142 => (if a1 = 0 then (if bt140.2 = 8 then (if bt142.2 = 8 then (if bt140.1 = 0 then (if bt142.1 = 0 then ((meddlerlaw1_known.f kj2).bind fun t144 => (some t144)) else (some false)) else (some false)) else (some false)) else (some false)) else (if a0 = (-2147483648) then (meddlerlaw1_NumDivides.j1 kj2 a0 a1 bt140.1 bt140.2 bt142.1 bt142.2 (a1 == (-1))) else (meddlerlaw1_NumDivides.j1 kj2 a0 a1 bt140.1 bt140.2 bt142.1 bt142.2 false))))) = some r := by rw [if_neg (show ¬ (false = true) by decide)] at H; exact H
        clear H
        have H := H1
        clear H1
        replace H := Option.bind_eq_some_iff.mp H
        obtain ⟨⟨t140, t141⟩, A80, H⟩ := H
        replace H : ((num_Do.f kj2 5 a0 a1).bind fun bt142 => (if a1 = 0 then (if t141 = 8 then (if bt142.2 = 8 then (if t140 = 0 then (if bt142.1 = 0 then ((meddlerlaw1_known.f kj2).bind fun t144 => (some t144)) else (some false)) else (some false)) else (some false)) else (some false)) else (if a0 = (-2147483648) then (meddlerlaw1_NumDivides.j1 kj2 a0 a1 t140 t141 bt142.1 bt142.2 (a1 == (-1))) else (meddlerlaw1_NumDivides.j1 kj2 a0 a1 t140 t141 bt142.1 bt142.2 false)))) = some r := H
        have A8 := Aside0.mk A80
        clear A80
        replace H := Option.bind_eq_some_iff.mp H
        obtain ⟨⟨t142, t143⟩, A90, H⟩ := H
        replace H : (if a1 = 0 then (if t141 = 8 then (if t143 = 8 then (if t140 = 0 then (if t142 = 0 then ((meddlerlaw1_known.f kj2).bind fun t144 => (some t144)) else (some false)) else (some false)) else (some false)) else (some false)) else (if a0 = (-2147483648) then (meddlerlaw1_NumDivides.j1 kj2 a0 a1 t140 t141 t142 t143 (a1 == (-1))) else (meddlerlaw1_NumDivides.j1 kj2 a0 a1 t140 t141 t142 t143 false))) = some r := H
        have A9 := Aside0.mk A90
        clear A90
        by_cases c10 : a1 = 0
        · rw [if_pos c10] at H
          have c10b0 : (a1 == 0) = true := beq_iff_eq.mpr c10
          have c10b1 : (a1 != 0) = false := bne_eq_false_iff_eq.mpr c10
          clear c10
          by_cases c11 : t141 = 8
          · rw [if_pos c11] at H
            have c11b0 : (t141 == 8) = true := beq_iff_eq.mpr c11
            have c11b1 : (t141 != 8) = false := bne_eq_false_iff_eq.mpr c11
            clear c11
            by_cases c12 : t143 = 8
            · rw [if_pos c12] at H
              have c12b0 : (t143 == 8) = true := beq_iff_eq.mpr c12
              have c12b1 : (t143 != 8) = false := bne_eq_false_iff_eq.mpr c12
              clear c12
              by_cases c13 : t140 = 0
              · rw [if_pos c13] at H
                have c13b0 : (t140 == 0) = true := beq_iff_eq.mpr c13
                have c13b1 : (t140 != 0) = false := bne_eq_false_iff_eq.mpr c13
                clear c13
                by_cases c14 : t142 = 0
                · rw [if_pos c14] at H
                  have c14b0 : (t142 == 0) = true := beq_iff_eq.mpr c14
                  have c14b1 : (t142 != 0) = false := bne_eq_false_iff_eq.mpr c14
                  clear c14
                  replace H := Option.bind_eq_some_iff.mp H
                  obtain ⟨t144, A150, H⟩ := H
                  replace H : (some t144) = some r := H
                  have A15 := Aside0.mk A150
                  clear A150
                  obtain rfl := Option.some.inj H
                  go_wp2_with (first | ((with_reducible refine gate_callee (f := 13) rfl ?_); refine goesL_ (some 20) rfl rfl Try.func13 (by kernel_rfl) rfl #[.int .i64 4, .int .i64 a0, .int .i64 a1] rfl (by (try simp only [List.map_toArray, List.map_cons, List.map_nil]); first | done | rfl | (simp only [List.length_drop, List.length_take]; rfl)) ?_; (with_reducible refine (num_Do.calls kj2 4 a0 a1 t140 t141 _ A8.out).mono ?_); rintro e w16 ⟨rfl, hb⟩; refine ⟨_, rfl, ?_⟩; have n0_ := Aside0.mk (below_step (by repeat (first | (with_reducible first | exact HB.out | apply below_alloc | apply pw_below_drewN | apply below_drew1) | exact HB.out)) hb); clear HB; have HB := n0_; clear n0_; (try clear hb); (try clear hb2); (try clear hk); (try clear hi)) | ((with_reducible refine gate_callee (f := 13) rfl ?_); refine goesL_ (some 26) rfl rfl Try.func13 (by kernel_rfl) rfl #[.int .i64 5, .int .i64 a0, .int .i64 a1] rfl (by (try simp only [List.map_toArray, List.map_cons, List.map_nil]); first | done | rfl | (simp only [List.length_drop, List.length_take]; rfl)) ?_; (with_reducible refine (num_Do.calls kj2 5 a0 a1 t142 t143 _ A9.out).mono ?_); rintro e w17 ⟨rfl, hb⟩; refine ⟨_, rfl, ?_⟩; have n0_ := Aside0.mk (below_step (by repeat (first | (with_reducible first | exact HB.out | apply below_alloc | apply pw_below_drewN | apply below_drew1) | exact HB.out)) hb); clear HB; have HB := n0_; clear n0_; (try clear hb); (try clear hb2); (try clear hk); (try clear hi)) | (go_at_call 14; (with_reducible refine (meddlerlaw1_known.calls kj2  t144 _ A15.out).mono ?_); rintro e w18 ⟨rfl, hb⟩; have n0_ := Aside0.mk (below_step (by repeat (first | (with_reducible first | exact HB.out | apply below_alloc | apply pw_below_drewN | apply below_drew1) | exact HB.out)) hb); clear HB; have HB := n0_; clear n0_; (try clear hb); (try clear hb2); (try clear hk); (try clear hi)))
                  go_ret
                  exact ⟨by first | rfl | (simp [errW_none, errW_some] <;> rfl) | (simp [*, errW_none, errW_some] <;> rfl), by repeat (first | (with_reducible first | exact HB.out | apply below_alloc | apply pw_below_drewN | apply below_drew1) | exact HB.out)⟩
                · rw [if_neg c14] at H
                  have c14b0 : (t142 == 0) = false := beq_eq_false_iff_ne.mpr c14
                  have c14b1 : (t142 != 0) = true := bne_iff_ne.mpr c14
                  obtain rfl := Option.some.inj H
                  go_wp2_with (first | ((with_reducible refine gate_callee (f := 13) rfl ?_); refine goesL_ (some 20) rfl rfl Try.func13 (by kernel_rfl) rfl #[.int .i64 4, .int .i64 a0, .int .i64 a1] rfl (by (try simp only [List.map_toArray, List.map_cons, List.map_nil]); first | done | rfl | (simp only [List.length_drop, List.length_take]; rfl)) ?_; (with_reducible refine (num_Do.calls kj2 4 a0 a1 t140 t141 _ A8.out).mono ?_); rintro e w19 ⟨rfl, hb⟩; refine ⟨_, rfl, ?_⟩; have n0_ := Aside0.mk (below_step (by repeat (first | (with_reducible first | exact HB.out | apply below_alloc | apply pw_below_drewN | apply below_drew1) | exact HB.out)) hb); clear HB; have HB := n0_; clear n0_; (try clear hb); (try clear hb2); (try clear hk); (try clear hi)) | ((with_reducible refine gate_callee (f := 13) rfl ?_); refine goesL_ (some 26) rfl rfl Try.func13 (by kernel_rfl) rfl #[.int .i64 5, .int .i64 a0, .int .i64 a1] rfl (by (try simp only [List.map_toArray, List.map_cons, List.map_nil]); first | done | rfl | (simp only [List.length_drop, List.length_take]; rfl)) ?_; (with_reducible refine (num_Do.calls kj2 5 a0 a1 t142 t143 _ A9.out).mono ?_); rintro e w20 ⟨rfl, hb⟩; refine ⟨_, rfl, ?_⟩; have n0_ := Aside0.mk (below_step (by repeat (first | (with_reducible first | exact HB.out | apply below_alloc | apply pw_below_drewN | apply below_drew1) | exact HB.out)) hb); clear HB; have HB := n0_; clear n0_; (try clear hb); (try clear hb2); (try clear hk); (try clear hi)))
                  go_ret
                  exact ⟨by first | rfl | (simp [errW_none, errW_some] <;> rfl) | (simp [*, errW_none, errW_some] <;> rfl), by repeat (first | (with_reducible first | exact HB.out | apply below_alloc | apply pw_below_drewN | apply below_drew1) | exact HB.out)⟩
              · rw [if_neg c13] at H
                have c13b0 : (t140 == 0) = false := beq_eq_false_iff_ne.mpr c13
                have c13b1 : (t140 != 0) = true := bne_iff_ne.mpr c13
                obtain rfl := Option.some.inj H
                go_wp2_with (first | ((with_reducible refine gate_callee (f := 13) rfl ?_); refine goesL_ (some 20) rfl rfl Try.func13 (by kernel_rfl) rfl #[.int .i64 4, .int .i64 a0, .int .i64 a1] rfl (by (try simp only [List.map_toArray, List.map_cons, List.map_nil]); first | done | rfl | (simp only [List.length_drop, List.length_take]; rfl)) ?_; (with_reducible refine (num_Do.calls kj2 4 a0 a1 t140 t141 _ A8.out).mono ?_); rintro e w21 ⟨rfl, hb⟩; refine ⟨_, rfl, ?_⟩; have n0_ := Aside0.mk (below_step (by repeat (first | (with_reducible first | exact HB.out | apply below_alloc | apply pw_below_drewN | apply below_drew1) | exact HB.out)) hb); clear HB; have HB := n0_; clear n0_; (try clear hb); (try clear hb2); (try clear hk); (try clear hi)) | ((with_reducible refine gate_callee (f := 13) rfl ?_); refine goesL_ (some 26) rfl rfl Try.func13 (by kernel_rfl) rfl #[.int .i64 5, .int .i64 a0, .int .i64 a1] rfl (by (try simp only [List.map_toArray, List.map_cons, List.map_nil]); first | done | rfl | (simp only [List.length_drop, List.length_take]; rfl)) ?_; (with_reducible refine (num_Do.calls kj2 5 a0 a1 t142 t143 _ A9.out).mono ?_); rintro e w22 ⟨rfl, hb⟩; refine ⟨_, rfl, ?_⟩; have n0_ := Aside0.mk (below_step (by repeat (first | (with_reducible first | exact HB.out | apply below_alloc | apply pw_below_drewN | apply below_drew1) | exact HB.out)) hb); clear HB; have HB := n0_; clear n0_; (try clear hb); (try clear hb2); (try clear hk); (try clear hi)))
                go_ret
                exact ⟨by first | rfl | (simp [errW_none, errW_some] <;> rfl) | (simp [*, errW_none, errW_some] <;> rfl), by repeat (first | (with_reducible first | exact HB.out | apply below_alloc | apply pw_below_drewN | apply below_drew1) | exact HB.out)⟩
            · rw [if_neg c12] at H
              have c12b0 : (t143 == 8) = false := beq_eq_false_iff_ne.mpr c12
              have c12b1 : (t143 != 8) = true := bne_iff_ne.mpr c12
              obtain rfl := Option.some.inj H
              go_wp2_with (first | ((with_reducible refine gate_callee (f := 13) rfl ?_); refine goesL_ (some 20) rfl rfl Try.func13 (by kernel_rfl) rfl #[.int .i64 4, .int .i64 a0, .int .i64 a1] rfl (by (try simp only [List.map_toArray, List.map_cons, List.map_nil]); first | done | rfl | (simp only [List.length_drop, List.length_take]; rfl)) ?_; (with_reducible refine (num_Do.calls kj2 4 a0 a1 t140 t141 _ A8.out).mono ?_); rintro e w23 ⟨rfl, hb⟩; refine ⟨_, rfl, ?_⟩; have n0_ := Aside0.mk (below_step (by repeat (first | (with_reducible first | exact HB.out | apply below_alloc | apply pw_below_drewN | apply below_drew1) | exact HB.out)) hb); clear HB; have HB := n0_; clear n0_; (try clear hb); (try clear hb2); (try clear hk); (try clear hi)) | ((with_reducible refine gate_callee (f := 13) rfl ?_); refine goesL_ (some 26) rfl rfl Try.func13 (by kernel_rfl) rfl #[.int .i64 5, .int .i64 a0, .int .i64 a1] rfl (by (try simp only [List.map_toArray, List.map_cons, List.map_nil]); first | done | rfl | (simp only [List.length_drop, List.length_take]; rfl)) ?_; (with_reducible refine (num_Do.calls kj2 5 a0 a1 t142 t143 _ A9.out).mono ?_); rintro e w24 ⟨rfl, hb⟩; refine ⟨_, rfl, ?_⟩; have n0_ := Aside0.mk (below_step (by repeat (first | (with_reducible first | exact HB.out | apply below_alloc | apply pw_below_drewN | apply below_drew1) | exact HB.out)) hb); clear HB; have HB := n0_; clear n0_; (try clear hb); (try clear hb2); (try clear hk); (try clear hi)))
              go_ret
              exact ⟨by first | rfl | (simp [errW_none, errW_some] <;> rfl) | (simp [*, errW_none, errW_some] <;> rfl), by repeat (first | (with_reducible first | exact HB.out | apply below_alloc | apply pw_below_drewN | apply below_drew1) | exact HB.out)⟩
          · rw [if_neg c11] at H
            have c11b0 : (t141 == 8) = false := beq_eq_false_iff_ne.mpr c11
            have c11b1 : (t141 != 8) = true := bne_iff_ne.mpr c11
            obtain rfl := Option.some.inj H
            go_wp2_with (first | ((with_reducible refine gate_callee (f := 13) rfl ?_); refine goesL_ (some 20) rfl rfl Try.func13 (by kernel_rfl) rfl #[.int .i64 4, .int .i64 a0, .int .i64 a1] rfl (by (try simp only [List.map_toArray, List.map_cons, List.map_nil]); first | done | rfl | (simp only [List.length_drop, List.length_take]; rfl)) ?_; (with_reducible refine (num_Do.calls kj2 4 a0 a1 t140 t141 _ A8.out).mono ?_); rintro e w25 ⟨rfl, hb⟩; refine ⟨_, rfl, ?_⟩; have n0_ := Aside0.mk (below_step (by repeat (first | (with_reducible first | exact HB.out | apply below_alloc | apply pw_below_drewN | apply below_drew1) | exact HB.out)) hb); clear HB; have HB := n0_; clear n0_; (try clear hb); (try clear hb2); (try clear hk); (try clear hi)) | ((with_reducible refine gate_callee (f := 13) rfl ?_); refine goesL_ (some 26) rfl rfl Try.func13 (by kernel_rfl) rfl #[.int .i64 5, .int .i64 a0, .int .i64 a1] rfl (by (try simp only [List.map_toArray, List.map_cons, List.map_nil]); first | done | rfl | (simp only [List.length_drop, List.length_take]; rfl)) ?_; (with_reducible refine (num_Do.calls kj2 5 a0 a1 t142 t143 _ A9.out).mono ?_); rintro e w26 ⟨rfl, hb⟩; refine ⟨_, rfl, ?_⟩; have n0_ := Aside0.mk (below_step (by repeat (first | (with_reducible first | exact HB.out | apply below_alloc | apply pw_below_drewN | apply below_drew1) | exact HB.out)) hb); clear HB; have HB := n0_; clear n0_; (try clear hb); (try clear hb2); (try clear hk); (try clear hi)))
            go_ret
            exact ⟨by first | rfl | (simp [errW_none, errW_some] <;> rfl) | (simp [*, errW_none, errW_some] <;> rfl), by repeat (first | (with_reducible first | exact HB.out | apply below_alloc | apply pw_below_drewN | apply below_drew1) | exact HB.out)⟩
        · rw [if_neg c10] at H
          have c10b0 : (a1 == 0) = false := beq_eq_false_iff_ne.mpr c10
          have c10b1 : (a1 != 0) = true := bne_iff_ne.mpr c10
          have HC27 := Aside0.mk H
          clear H
          go_upto_region 7 with (first | ((with_reducible refine gate_callee (f := 13) rfl ?_); refine goesL_ (some 20) rfl rfl Try.func13 (by kernel_rfl) rfl #[.int .i64 4, .int .i64 a0, .int .i64 a1] rfl (by (try simp only [List.map_toArray, List.map_cons, List.map_nil]); first | done | rfl | (simp only [List.length_drop, List.length_take]; rfl)) ?_; (with_reducible refine (num_Do.calls kj2 4 a0 a1 t140 t141 _ A8.out).mono ?_); rintro e w28 ⟨rfl, hb⟩; refine ⟨_, rfl, ?_⟩; have n0_ := Aside0.mk (below_step (by repeat (first | (with_reducible first | exact HB.out | apply below_alloc | apply pw_below_drewN | apply below_drew1) | exact HB.out)) hb); clear HB; have HB := n0_; clear n0_; (try clear hb); (try clear hb2); (try clear hk); (try clear hi)) | ((with_reducible refine gate_callee (f := 13) rfl ?_); refine goesL_ (some 26) rfl rfl Try.func13 (by kernel_rfl) rfl #[.int .i64 5, .int .i64 a0, .int .i64 a1] rfl (by (try simp only [List.map_toArray, List.map_cons, List.map_nil]); first | done | rfl | (simp only [List.length_drop, List.length_take]; rfl)) ?_; (with_reducible refine (num_Do.calls kj2 5 a0 a1 t142 t143 _ A9.out).mono ?_); rintro e w29 ⟨rfl, hb⟩; refine ⟨_, rfl, ?_⟩; have n0_ := Aside0.mk (below_step (by repeat (first | (with_reducible first | exact HB.out | apply below_alloc | apply pw_below_drewN | apply below_drew1) | exact HB.out)) hb); clear HB; have HB := n0_; clear n0_; (try clear hb); (try clear hb2); (try clear hk); (try clear hi)))
          (try simp only [Act.put, List.setIfInBounds_toArray, List.set_cons_zero, List.set_cons_succ])
          go_cut [53] (fun v53 wc => ∃ (kq : Nat) (x53_26 : Bool), v53 = .bool x53_26 ∧ Aside0 (meddlerlaw1_NumDivides.j1 kq a0 a1 t140 t141 t142 t143 x53_26 = some r) ∧ Aside0 (kq ≤ kj2) ∧ Aside0 (Below w.heap.size w wc))
          case first =>
            have H := HC27.out
            clear HC27
            by_cases c30 : a0 = (-2147483648)
            · rw [if_pos c30] at H
              have c30b0 : (a0 == (-2147483648)) = true := beq_iff_eq.mpr c30
              have c30b1 : (a0 != (-2147483648)) = false := bne_eq_false_iff_eq.mpr c30
              clear c30
              (first | rw [c30b0] | (simp only [i64_w, i32_w]; rw [c30b0]) | skip)
              have H' := Aside0.mk H
              clear H
              go_wp2
              go_meet
              case rel => exact ⟨_, ((a1 == (-1))), (by first | rfl | (simp; done) | (simp [*]; done)), H', ⟨by have := HJ2.out; first | omega | exact Nat.le_refl _⟩, ⟨by repeat (first | (with_reducible first | exact HB.out | apply below_alloc | apply pw_below_drewN | apply below_drew1) | exact HB.out)⟩⟩
            · rw [if_neg c30] at H
              have c30b0 : (a0 == (-2147483648)) = false := beq_eq_false_iff_ne.mpr c30
              have c30b1 : (a0 != (-2147483648)) = true := bne_iff_ne.mpr c30
              (first | rw [c30b0] | (simp only [i64_w, i32_w]; rw [c30b0]) | skip)
              have H' := Aside0.mk H
              clear H
              go_wp2
              go_meet
              case rel => exact ⟨_, (false), (by first | rfl | (simp; done) | (simp [*]; done)), H', ⟨by have := HJ2.out; first | omega | exact Nat.le_refl _⟩, ⟨by repeat (first | (with_reducible first | exact HB.out | apply below_alloc | apply pw_below_drewN | apply below_drew1) | exact HB.out)⟩⟩
          case rest =>
            clear HC27
            try clear c1
            try clear p2
            try clear c3
            try clear c5
            try clear c7
            try clear c10
            try clear c10b0
            try clear c10b1
            try clear c11
            try clear c11b0
            try clear c11b1
            try clear c12
            try clear c12b0
            try clear c12b1
            try clear c13
            try clear c13b0
            try clear c13b1
            try clear c14
            try clear c14b0
            try clear c14b1
            try clear c30
            try clear c30b0
            try clear c30b1
            try clear p2
            obtain ⟨kq, x53_26, rfl, HA, HJ26, HB⟩ := hcut
            cases kq with
            | zero => exact absurd HA.out (by simp [meddlerlaw1_NumDivides.j1])
            | succ kj26 =>
              have H := HA.out
              clear HA
              simp only [meddlerlaw1_NumDivides.j1] at H
              by_cases c31 : x53_26 = true
              · subst c31
                have H1 : (if t141 = 7 then (if t143 = 0 then (if t142 = 0 then ((meddlerlaw1_known.f kj26).bind fun t145 => (some t145)) else (some false)) else (some false)) else (some false)) = some r := by rw [if_pos rfl] at H; exact H
                clear H
                have H := H1
                clear H1
                by_cases c32 : t141 = 7
                · rw [if_pos c32] at H
                  have c32b0 : (t141 == 7) = true := beq_iff_eq.mpr c32
                  have c32b1 : (t141 != 7) = false := bne_eq_false_iff_eq.mpr c32
                  clear c32
                  by_cases c33 : t143 = 0
                  · rw [if_pos c33] at H
                    have c33b0 : (t143 == 0) = true := beq_iff_eq.mpr c33
                    have c33b1 : (t143 != 0) = false := bne_eq_false_iff_eq.mpr c33
                    clear c33
                    by_cases c34 : t142 = 0
                    · rw [if_pos c34] at H
                      have c34b0 : (t142 == 0) = true := beq_iff_eq.mpr c34
                      have c34b1 : (t142 != 0) = false := bne_eq_false_iff_eq.mpr c34
                      clear c34
                      replace H := Option.bind_eq_some_iff.mp H
                      obtain ⟨t145, A350, H⟩ := H
                      replace H : (some t145) = some r := H
                      have A35 := Aside0.mk A350
                      clear A350
                      obtain rfl := Option.some.inj H
                      go_wp2_with (first | (go_at_call 14; (with_reducible refine (meddlerlaw1_known.calls kj26  t145 _ A35.out).mono ?_); rintro e w36 ⟨rfl, hb⟩; have n0_ := Aside0.mk (below_step (by repeat (first | (with_reducible first | exact HB.out | apply below_alloc | apply pw_below_drewN | apply below_drew1) | exact HB.out)) hb); clear HB; have HB := n0_; clear n0_; (try clear hb); (try clear hb2); (try clear hk); (try clear hi)))
                      go_ret
                      exact ⟨by first | rfl | (simp [errW_none, errW_some] <;> rfl) | (simp [*, errW_none, errW_some] <;> rfl), by repeat (first | (with_reducible first | exact HB.out | apply below_alloc | apply pw_below_drewN | apply below_drew1) | exact HB.out)⟩
                    · rw [if_neg c34] at H
                      have c34b0 : (t142 == 0) = false := beq_eq_false_iff_ne.mpr c34
                      have c34b1 : (t142 != 0) = true := bne_iff_ne.mpr c34
                      obtain rfl := Option.some.inj H
                      go_wp2
                      go_ret
                      exact ⟨by first | rfl | (simp [errW_none, errW_some] <;> rfl) | (simp [*, errW_none, errW_some] <;> rfl), by repeat (first | (with_reducible first | exact HB.out | apply below_alloc | apply pw_below_drewN | apply below_drew1) | exact HB.out)⟩
                  · rw [if_neg c33] at H
                    have c33b0 : (t143 == 0) = false := beq_eq_false_iff_ne.mpr c33
                    have c33b1 : (t143 != 0) = true := bne_iff_ne.mpr c33
                    obtain rfl := Option.some.inj H
                    go_wp2
                    go_ret
                    exact ⟨by first | rfl | (simp [errW_none, errW_some] <;> rfl) | (simp [*, errW_none, errW_some] <;> rfl), by repeat (first | (with_reducible first | exact HB.out | apply below_alloc | apply pw_below_drewN | apply below_drew1) | exact HB.out)⟩
                · rw [if_neg c32] at H
                  have c32b0 : (t141 == 7) = false := beq_eq_false_iff_ne.mpr c32
                  have c32b1 : (t141 != 7) = true := bne_iff_ne.mpr c32
                  obtain rfl := Option.some.inj H
                  go_wp2
                  go_ret
                  exact ⟨by first | rfl | (simp [errW_none, errW_some] <;> rfl) | (simp [*, errW_none, errW_some] <;> rfl), by repeat (first | (with_reducible first | exact HB.out | apply below_alloc | apply pw_below_drewN | apply below_drew1) | exact HB.out)⟩
              · replace c31 := Bool.eq_false_iff.mpr c31
                subst c31
                have H1 : (if t141 = 0 then (if t143 = 0 then (if (wrap64 ((wrap64 (t140 * a1)) + t142)) = a0 then (if (mx t142 (wrap64 (-t142))) < (mx a1 (wrap64 (-a1))) then (if t142 = 0 then ((meddlerlaw1_known.f kj26).bind fun t146 => (some t146)) else (if ((decide (t142 < 0)) == (decide (a0 < 0))) = true then ((meddlerlaw1_known.f kj26).bind fun t147 => (some t147)) else (some false))) else (some false)) else (some false)) else (some false)) else (some false)) = some r := by rw [if_neg (show ¬ (false = true) by decide)] at H; exact H
                clear H
                have H := H1
                clear H1
                by_cases c37 : t141 = 0
                · rw [if_pos c37] at H
                  have c37b0 : (t141 == 0) = true := beq_iff_eq.mpr c37
                  have c37b1 : (t141 != 0) = false := bne_eq_false_iff_eq.mpr c37
                  clear c37
                  by_cases c38 : t143 = 0
                  · rw [if_pos c38] at H
                    have c38b0 : (t143 == 0) = true := beq_iff_eq.mpr c38
                    have c38b1 : (t143 != 0) = false := bne_eq_false_iff_eq.mpr c38
                    clear c38
                    by_cases c39 : (wrap64 ((wrap64 (t140 * a1)) + t142)) = a0
                    · rw [if_pos c39] at H
                      have c39b0 : ((wrap64 ((wrap64 (t140 * a1)) + t142)) == a0) = true := beq_iff_eq.mpr c39
                      have c39b1 : ((wrap64 ((wrap64 (t140 * a1)) + t142)) != a0) = false := bne_eq_false_iff_eq.mpr c39
                      clear c39
                      obtain ⟨ji40, hji40⟩ : ∃ j_ : Int, (mx t142 (wrap64 (-t142))) = j_ := ⟨_, rfl⟩
                      replace H : (if (ji40) < (mx a1 (wrap64 (-a1))) then (if t142 = 0 then ((meddlerlaw1_known.f kj26).bind fun t146 => (some t146)) else (if ((decide (t142 < 0)) == (decide (a0 < 0))) = true then ((meddlerlaw1_known.f kj26).bind fun t147 => (some t147)) else (some false))) else (some false)) = some r := by first | (rw [hji40] at H; exact H) | (simp only [hji40] at H ⊢; exact H)
                      have hji40_ : (if t142 < (wrap64 (-t142)) then (wrap64 (-t142)) else t142) = ji40 := hji40
                      obtain ⟨ji41, hji41⟩ : ∃ j_ : Int, (mx a1 (wrap64 (-a1))) = j_ := ⟨_, rfl⟩
                      replace H : (if (ji40) < (ji41) then (if t142 = 0 then ((meddlerlaw1_known.f kj26).bind fun t146 => (some t146)) else (if ((decide (t142 < 0)) == (decide (a0 < 0))) = true then ((meddlerlaw1_known.f kj26).bind fun t147 => (some t147)) else (some false))) else (some false)) = some r := by first | (rw [hji41] at H; exact H) | (simp only [hji41] at H ⊢; exact H)
                      have hji41_ : (if a1 < (wrap64 (-a1)) then (wrap64 (-a1)) else a1) = ji41 := hji41
                      by_cases c42 : (ji40) < (ji41)
                      · rw [if_pos c42] at H
                        have c42b0 : decide ((ji40) < (ji41)) = true := decide_eq_true c42
                        clear c42
                        by_cases c43 : t142 = 0
                        · rw [if_pos c43] at H
                          have c43b0 : (t142 == 0) = true := beq_iff_eq.mpr c43
                          have c43b1 : (t142 != 0) = false := bne_eq_false_iff_eq.mpr c43
                          clear c43
                          replace H := Option.bind_eq_some_iff.mp H
                          obtain ⟨t146, A440, H⟩ := H
                          replace H : (some t146) = some r := H
                          have A44 := Aside0.mk A440
                          clear A440
                          obtain rfl := Option.some.inj H
                          go_wp2_with (first | (go_at_call 14; (with_reducible refine (meddlerlaw1_known.calls kj26  t146 _ A44.out).mono ?_); rintro e w45 ⟨rfl, hb⟩; have n0_ := Aside0.mk (below_step (by repeat (first | (with_reducible first | exact HB.out | apply below_alloc | apply pw_below_drewN | apply below_drew1) | exact HB.out)) hb); clear HB; have HB := n0_; clear n0_; (try clear hb); (try clear hb2); (try clear hk); (try clear hi)))
                          go_ret
                          exact ⟨by first | rfl | (simp [errW_none, errW_some] <;> rfl) | (simp only [← hji40, ← hji41]; first | rfl | (simp [errW_none, errW_some] <;> rfl)) | (simp [*, errW_none, errW_some] <;> rfl), by repeat (first | (with_reducible first | exact HB.out | apply below_alloc | apply pw_below_drewN | apply below_drew1) | exact HB.out)⟩
                        · rw [if_neg c43] at H
                          have c43b0 : (t142 == 0) = false := beq_eq_false_iff_ne.mpr c43
                          have c43b1 : (t142 != 0) = true := bne_iff_ne.mpr c43
                          by_cases c46 : ((decide (t142 < 0)) == (decide (a0 < 0))) = true
                          · rw [if_pos c46] at H
                            have c46b0 : ((decide (t142 < 0)) == (decide (a0 < 0))) = true := c46
                            (try (have c46b1 : decide ((decide (t142 < 0)) = (decide (a0 < 0))) = true := by simpa using c46))
                            (try (have c46b2 : ((decide (t142 < 0)) == (decide (a0 < 0))) = true := by simpa using c46))
                            clear c46
                            replace H := Option.bind_eq_some_iff.mp H
                            obtain ⟨t147, A470, H⟩ := H
                            replace H : (some t147) = some r := H
                            have A47 := Aside0.mk A470
                            clear A470
                            obtain rfl := Option.some.inj H
                            go_wp2_with (first | (go_at_call 14; (with_reducible refine (meddlerlaw1_known.calls kj26  t147 _ A47.out).mono ?_); rintro e w48 ⟨rfl, hb⟩; have n0_ := Aside0.mk (below_step (by repeat (first | (with_reducible first | exact HB.out | apply below_alloc | apply pw_below_drewN | apply below_drew1) | exact HB.out)) hb); clear HB; have HB := n0_; clear n0_; (try clear hb); (try clear hb2); (try clear hk); (try clear hi)))
                            go_ret
                            exact ⟨by first | rfl | (simp [errW_none, errW_some] <;> rfl) | (simp only [← hji40, ← hji41]; first | rfl | (simp [errW_none, errW_some] <;> rfl)) | (simp [*, errW_none, errW_some] <;> rfl), by repeat (first | (with_reducible first | exact HB.out | apply below_alloc | apply pw_below_drewN | apply below_drew1) | exact HB.out)⟩
                          · rw [if_neg c46] at H
                            have c46b0 : ((decide (t142 < 0)) == (decide (a0 < 0))) = false := by simpa using c46
                            (try (have c46b1 : decide ((decide (t142 < 0)) = (decide (a0 < 0))) = false := by simpa using c46))
                            (try (have c46b2 : ((decide (t142 < 0)) == (decide (a0 < 0))) = false := by simpa using c46))
                            (try (have c46b3 : ¬ ((decide (t142 < 0)) = (decide (a0 < 0))) := by simpa using c46))
                            clear c46
                            obtain rfl := Option.some.inj H
                            go_wp2
                            go_ret
                            exact ⟨by first | rfl | (simp [errW_none, errW_some] <;> rfl) | (simp only [← hji40, ← hji41]; first | rfl | (simp [errW_none, errW_some] <;> rfl)) | (simp [*, errW_none, errW_some] <;> rfl), by repeat (first | (with_reducible first | exact HB.out | apply below_alloc | apply pw_below_drewN | apply below_drew1) | exact HB.out)⟩
                      · rw [if_neg c42] at H
                        have c42b0 : decide ((ji40) < (ji41)) = false := decide_eq_false c42
                        clear c42
                        obtain rfl := Option.some.inj H
                        go_wp2
                        go_ret
                        exact ⟨by first | rfl | (simp [errW_none, errW_some] <;> rfl) | (simp only [← hji40, ← hji41]; first | rfl | (simp [errW_none, errW_some] <;> rfl)) | (simp [*, errW_none, errW_some] <;> rfl), by repeat (first | (with_reducible first | exact HB.out | apply below_alloc | apply pw_below_drewN | apply below_drew1) | exact HB.out)⟩
                    · rw [if_neg c39] at H
                      have c39b0 : ((wrap64 ((wrap64 (t140 * a1)) + t142)) == a0) = false := beq_eq_false_iff_ne.mpr c39
                      have c39b1 : ((wrap64 ((wrap64 (t140 * a1)) + t142)) != a0) = true := bne_iff_ne.mpr c39
                      obtain rfl := Option.some.inj H
                      go_wp2
                      go_ret
                      exact ⟨by first | rfl | (simp [errW_none, errW_some] <;> rfl) | (simp [*, errW_none, errW_some] <;> rfl), by repeat (first | (with_reducible first | exact HB.out | apply below_alloc | apply pw_below_drewN | apply below_drew1) | exact HB.out)⟩
                  · rw [if_neg c38] at H
                    have c38b0 : (t143 == 0) = false := beq_eq_false_iff_ne.mpr c38
                    have c38b1 : (t143 != 0) = true := bne_iff_ne.mpr c38
                    obtain rfl := Option.some.inj H
                    go_wp2
                    go_ret
                    exact ⟨by first | rfl | (simp [errW_none, errW_some] <;> rfl) | (simp [*, errW_none, errW_some] <;> rfl), by repeat (first | (with_reducible first | exact HB.out | apply below_alloc | apply pw_below_drewN | apply below_drew1) | exact HB.out)⟩
                · rw [if_neg c37] at H
                  have c37b0 : (t141 == 0) = false := beq_eq_false_iff_ne.mpr c37
                  have c37b1 : (t141 != 0) = true := bne_iff_ne.mpr c37
                  obtain rfl := Option.some.inj H
                  go_wp2
                  go_ret
                  exact ⟨by first | rfl | (simp [errW_none, errW_some] <;> rfl) | (simp [*, errW_none, errW_some] <;> rfl), by repeat (first | (with_reducible first | exact HB.out | apply below_alloc | apply pw_below_drewN | apply below_drew1) | exact HB.out)⟩

/-- THE ONE PURE STATEMENT of meddlerlaw1_NumDivides: yours. -/
def meddlerlaw1_NumDivides.Pure : Prop := ∀ (a0 : Int) (a1 : Int), (Lit.int .i64 a0).wf = true → (Lit.int .i64 a1).wf = true → ∃ k, meddlerlaw1_NumDivides.f k a0 a1 = some true
theorem meddlerlaw1_NumDivides.walk (P : meddlerlaw1_NumDivides.Pure) (a0 : Int) (a1 : Int) (w : World) (w0 : (Lit.int .i64 a0).wf = true) (w1 : (Lit.int .i64 a1).wf = true) :
    Calls Try.prog 3 #[.int .i64 a0, .int .i64 a1] w fun e w' => e = .returned (.bool true) ∧ Below w.heap.size w w' := by
  obtain ⟨k, h⟩ := P a0 a1 w0 w1
  refine (meddlerlaw1_NumDivides.calls k a0 a1 true w h).mono ?_
  rintro e w' ⟨rfl, hd⟩
  exact ⟨rfl, hd⟩

end Go.Proofs.Yteekfgemkjeklaa.PNumDivides
