-- PRINTED BY print.sh 35421559b90ae4d0a3588c463048766b98c2df88dd9212a6774a882060cdf62d: not written by this session
import Derived.Test.YteekfgemkjeklaaPNumRoundsx0
import Derived.Test.YteekfgemkjeklaaPNumRoundsx1
namespace Go.Proofs.Yteekfgemkjeklaa.PNumRounds
open Go.RowKit Go.Proofs.YteekfgemkjeklaaW.PrintWords Go.Proofs.YteekfgemkjeklaaW.PrintLast Go.Proofs.YteekfgemkjeklaaW.PrintMore
attribute [local go_sem] max2_int min2_int max_two min_two max_three min_three max_four min_four   -- for this text's walks alone
set_option linter.unusedVariables false
set_option linter.unusedSimpArgs false

/-! ### meddlerlaw1_NumRounds: function 4 -/
mutual
def meddlerlaw1_NumRounds.j0 : Nat → Int → Int → Bool → Option (Bool)
  | 0, _, _, _ => none
  | k + 1, x0, x1, x22 => if x22 = true then (some true) else ((num_Do.f k 1 x0 x1).bind fun bt140 => ((num_Do.f k 1 x1 x0).bind fun bt142 => ((num_Do.f k 3 x0 x1).bind fun bt144 => ((num_Do.f k 3 x1 x0).bind fun bt146 => (if bt140.1 = bt142.1 then (if bt140.2 = bt142.2 then (if bt144.1 = bt146.1 then (if bt144.2 = bt146.2 then ((meddlerref1_Fits.f (wrap64 (x0 + x1))).bind fun t148 => (if ((bt140.2 == 0) != t148) = true then (meddlerlaw1_NumRounds.j1 k x0 x1 bt140.1 bt140.2 true) else ((meddlerref1_Fits.f (wrap64 (x0 * x1))).bind fun t149 => (meddlerlaw1_NumRounds.j1 k x0 x1 bt140.1 bt140.2 ((bt144.2 == 0) != t149))))) else (meddlerlaw1_NumRounds.j1 k x0 x1 bt140.1 bt140.2 true)) else (meddlerlaw1_NumRounds.j1 k x0 x1 bt140.1 bt140.2 true)) else (meddlerlaw1_NumRounds.j1 k x0 x1 bt140.1 bt140.2 true)) else (meddlerlaw1_NumRounds.j1 k x0 x1 bt140.1 bt140.2 true))))))
def meddlerlaw1_NumRounds.j1 : Nat → Int → Int → Int → Int → Bool → Option (Bool)
  | 0, _, _, _, _, _ => none
  | k + 1, x0, x1, x5, x6, x82 => if x82 = true then (some false) else (if x6 = 0 then ((num_Do.f k 2 x5 x1).bind fun bt150 => (if bt150.1 = x0 then (if bt150.2 = 0 then ((meddlerlaw1_known.f k).bind fun t152 => (some t152)) else (some false)) else (some false))) else ((meddlerlaw1_known.f k).bind fun t153 => (some t153)))
end
def meddlerlaw1_NumRounds.f (k : Nat) (a0 : Int) (a1 : Int) : Option (Bool) := (meddlerref1_Fits.f a0).bind fun t138 => (if t138 = true then ((meddlerref1_Fits.f a1).bind fun t139 => (meddlerlaw1_NumRounds.j0 k a0 a1 (!t139))) else (meddlerlaw1_NumRounds.j0 k a0 a1 true))
theorem meddlerlaw1_NumRounds.mono_l : ∀ k, (∀ y0 y1 y2, LeO (meddlerlaw1_NumRounds.j0 k y0 y1 y2) (meddlerlaw1_NumRounds.j0 (k + 1) y0 y1 y2)) ∧ (∀ y0 y1 y2 y3 y4, LeO (meddlerlaw1_NumRounds.j1 k y0 y1 y2 y3 y4) (meddlerlaw1_NumRounds.j1 (k + 1) y0 y1 y2 y3 y4))
  | 0 => ⟨fun _ _ _ r h => by simp [meddlerlaw1_NumRounds.j0] at h, fun _ _ _ _ _ r h => by simp [meddlerlaw1_NumRounds.j1] at h⟩
  | k + 1 => by
    obtain ⟨ih0, ih1⟩ := meddlerlaw1_NumRounds.mono_l k
    refine ⟨?_, ?_⟩
    · intro y0 y1 y2
      unfold meddlerlaw1_NumRounds.j0
      repeat' first
      | (with_reducible exact ih0 _ _ _)
      | (with_reducible exact ih1 _ _ _ _ _)
      | (with_reducible exact meddlerlaw1_known.mono _)
      | (with_reducible exact num_Do.mono _ _ _ _)
      | (with_reducible exact LeO.refl _)
      | (with_reducible exact LeO.none _)
      | (with_reducible refine LeO.ite ?_ ?_)
      | (with_reducible refine LeO.bind ?_ (fun _ => ?_))
      | exact ih0 _ _ _
      | exact ih1 _ _ _ _ _
      | exact meddlerlaw1_known.mono _
      | exact num_Do.mono _ _ _ _
      | exact LeO.none _
      | refine LeO.ite ?_ ?_
      | refine LeO.bind ?_ (fun _ => ?_)
    · intro y0 y1 y2 y3 y4
      unfold meddlerlaw1_NumRounds.j1
      repeat' first
      | (with_reducible exact ih0 _ _ _)
      | (with_reducible exact ih1 _ _ _ _ _)
      | (with_reducible exact meddlerlaw1_known.mono _)
      | (with_reducible exact num_Do.mono _ _ _ _)
      | (with_reducible exact LeO.refl _)
      | (with_reducible exact LeO.none _)
      | (with_reducible refine LeO.ite ?_ ?_)
      | (with_reducible refine LeO.bind ?_ (fun _ => ?_))
      | exact ih0 _ _ _
      | exact ih1 _ _ _ _ _
      | exact meddlerlaw1_known.mono _
      | exact num_Do.mono _ _ _ _
      | exact LeO.none _
      | refine LeO.ite ?_ ?_
      | refine LeO.bind ?_ (fun _ => ?_)
theorem meddlerlaw1_NumRounds.mono : ∀ a0 a1 k, LeO (meddlerlaw1_NumRounds.f k a0 a1) (meddlerlaw1_NumRounds.f (k + 1) a0 a1) := by
  intro a0 a1 k
  obtain ⟨ih0, ih1⟩ := meddlerlaw1_NumRounds.mono_l k
  unfold meddlerlaw1_NumRounds.f
  repeat' first
      | (with_reducible exact ih0 _ _ _)
      | (with_reducible exact ih1 _ _ _ _ _)
      | (with_reducible exact meddlerlaw1_known.mono _)
      | (with_reducible exact num_Do.mono _ _ _ _)
      | (with_reducible exact LeO.refl _)
      | (with_reducible exact LeO.none _)
      | (with_reducible refine LeO.ite ?_ ?_)
      | (with_reducible refine LeO.bind ?_ (fun _ => ?_))
      | exact ih0 _ _ _
      | exact ih1 _ _ _ _ _
      | exact meddlerlaw1_known.mono _
      | exact num_Do.mono _ _ _ _
      | exact LeO.none _
      | refine LeO.ite ?_ ?_
      | refine LeO.bind ?_ (fun _ => ?_)
set_option maxHeartbeats 8000000 in
set_option maxRecDepth 100000 in
theorem meddlerlaw1_NumRounds.calls (k : Nat) (a0 : Int) (a1 : Int) (r : Bool) (w : World) (h : meddlerlaw1_NumRounds.f k a0 a1 = some r) :
    Calls Try.prog 4 #[.int .i64 a0, .int .i64 a1] w fun e w' => e = .returned (.bool r) ∧ Below w.heap.size w w' := by
  have HB := Aside0.mk (Below.refl w.heap.size w)
  have H : ((meddlerref1_Fits.f a0).bind fun t138 => (if t138 = true then ((meddlerref1_Fits.f a1).bind fun t139 => (meddlerlaw1_NumRounds.j0 k a0 a1 (!t139))) else (meddlerlaw1_NumRounds.j0 k a0 a1 true))) = some r := h
  clear h
  have HC3 := Aside0.mk H
  clear H
  go_enter Try.func4, Try.ntmps4
  go_upto_region 1 with (fail)
  go_cut [22] (fun v22 wc => ∃ (kq : Nat) (x22_2 : Bool), v22 = .bool x22_2 ∧ Aside0 (meddlerlaw1_NumRounds.j0 kq a0 a1 x22_2 = some r) ∧ Aside0 (kq ≤ k) ∧ Aside0 (Below w.heap.size w wc))
  case first =>
    have H := HC3.out
    clear HC3
    replace H := Option.bind_eq_some_iff.mp H
    obtain ⟨t138, A40, H⟩ := H
    replace H : (if t138 = true then ((meddlerref1_Fits.f a1).bind fun t139 => (meddlerlaw1_NumRounds.j0 k a0 a1 (!t139))) else (meddlerlaw1_NumRounds.j0 k a0 a1 true)) = some r := H
    have A4 := Aside0.mk A40
    clear A40
    by_cases c5 : t138 = true
    · subst c5
      have H1 : ((meddlerref1_Fits.f a1).bind fun t139 => (meddlerlaw1_NumRounds.j0 k a0 a1 (!t139))) = some r := by rw [if_pos rfl] at H; exact H
      clear H
      have H := H1
      clear H1
      replace H := Option.bind_eq_some_iff.mp H
      obtain ⟨t139, A60, H⟩ := H
      replace H : (meddlerlaw1_NumRounds.j0 k a0 a1 (!t139)) = some r := H
      have A6 := Aside0.mk A60
      clear A60
      have H' := Aside0.mk H
      clear H
      go_wp2_with (first | ((with_reducible refine gate_callee (f := 12) rfl ?_); refine goesL_ (some 16) rfl rfl Try.func12 (by kernel_rfl) rfl #[.int .i64 a0] rfl (by (try simp only [List.map_toArray, List.map_cons, List.map_nil]); first | done | rfl | (simp only [List.length_drop, List.length_take]; rfl)) ?_; (with_reducible refine (meddlerref1_Fits.calls a0 true _ A4.out).mono ?_); rintro e w' ⟨rfl, ⟨nd, rfl⟩⟩; refine ⟨_, rfl, ?_⟩) | (go_at_call 12; (with_reducible refine (meddlerref1_Fits.calls a1 t139 _ A6.out).mono ?_); rintro e w' ⟨rfl, ⟨nd, rfl⟩⟩))
      go_meet
      case rel => exact ⟨_, (!t139), (by first | rfl | (simp; done) | (simp [*]; done)), H', ⟨by first | omega | exact Nat.le_refl _⟩, ⟨by repeat (first | (with_reducible first | exact HB.out | apply below_alloc | apply pw_below_drewN | apply below_drew1) | exact HB.out)⟩⟩
    · replace c5 := Bool.eq_false_iff.mpr c5
      subst c5
      have H1 : (meddlerlaw1_NumRounds.j0 k a0 a1 true) = some r := by rw [if_neg (show ¬ (false = true) by decide)] at H; exact H
      clear H
      have H := H1
      clear H1
      have H' := Aside0.mk H
      clear H
      go_wp2_with (first | ((with_reducible refine gate_callee (f := 12) rfl ?_); refine goesL_ (some 16) rfl rfl Try.func12 (by kernel_rfl) rfl #[.int .i64 a0] rfl (by (try simp only [List.map_toArray, List.map_cons, List.map_nil]); first | done | rfl | (simp only [List.length_drop, List.length_take]; rfl)) ?_; (with_reducible refine (meddlerref1_Fits.calls a0 false _ A4.out).mono ?_); rintro e w' ⟨rfl, ⟨nd, rfl⟩⟩; refine ⟨_, rfl, ?_⟩))
      go_meet
      case rel => exact ⟨_, (true), (by first | rfl | (simp; done) | (simp [*]; done)), H', ⟨by first | omega | exact Nat.le_refl _⟩, ⟨by repeat (first | (with_reducible first | exact HB.out | apply below_alloc | apply pw_below_drewN | apply below_drew1) | exact HB.out)⟩⟩
  case rest =>
    clear HC3
    try clear c1
    try clear p2
    try clear c4
    try clear c5
    obtain ⟨kq, x22_2, rfl, HA, HJ2, HB⟩ := hcut
    cases kq with
    | zero => exact absurd HA.out (by simp [meddlerlaw1_NumRounds.j0])
    | succ kj2 =>
      have H := HA.out
      clear HA
      simp only [meddlerlaw1_NumRounds.j0] at H
      by_cases c7 : x22_2 = true
      · subst c7
        have H1 : (some true) = some r := by rw [if_pos rfl] at H; exact H
        clear H
        have H := H1
        clear H1
        obtain rfl := Option.some.inj H
        go_wp2
        go_ret
        exact ⟨by first | rfl | (simp [errW_none, errW_some] <;> rfl) | (simp [*, errW_none, errW_some] <;> rfl), by repeat (first | (with_reducible first | exact HB.out | apply below_alloc | apply pw_below_drewN | apply below_drew1) | exact HB.out)⟩
      · replace c7 := Bool.eq_false_iff.mpr c7
        subst c7
        have H1 : ((num_Do.f kj2 1 a0 a1).bind fun bt140 => ((num_Do.f kj2 1 a1 a0).bind fun bt142 => ((num_Do.f kj2 3 a0 a1).bind fun bt144 => ((num_Do.f kj2 3 a1 a0).bind fun bt146 => (if bt140.1 = bt142.1 then (if bt140.2 = bt142.2 then (if bt144.1 = bt146.1 then (if bt144.2 = bt146.2 then ((meddlerref1_Fits.f (wrap64 (a0 + a1))).bind fun t148 => (if ((bt140.2 == 0) != t148) = true then (meddlerlaw1_NumRounds.j1 kj2 a0 a1 bt140.1 bt140.2 true) else ((meddlerref1_Fits.f (wrap64 (a0 * a1))).bind fun t149 => (meddlerlaw1_NumRounds.j1 kj2 a0 a1 bt140.1 bt140.2 ((bt144.2 == 0) != t149))))) else (meddlerlaw1_NumRounds.j1 kj2 a0 a1 bt140.1 bt140.2 true)) else (meddlerlaw1_NumRounds.j1 kj2 a0 a1 bt140.1 bt140.2 true)) else (meddlerlaw1_NumRounds.j1 kj2 a0 a1 bt140.1 bt140.2 true)) else (meddlerlaw1_NumRounds.j1 kj2 a0 a1 bt140.1 bt140.2 true)))))) = some r := by rw [if_neg (show ¬ (false = true) by decide)] at H; exact H
        clear H
        have H := H1
        clear H1
        replace H := Option.bind_eq_some_iff.mp H
        obtain ⟨⟨t140, t141⟩, A80, H⟩ := H
        replace H : ((num_Do.f kj2 1 a1 a0).bind fun bt142 => ((num_Do.f kj2 3 a0 a1).bind fun bt144 => ((num_Do.f kj2 3 a1 a0).bind fun bt146 => (if t140 = bt142.1 then (if t141 = bt142.2 then (if bt144.1 = bt146.1 then (if bt144.2 = bt146.2 then ((meddlerref1_Fits.f (wrap64 (a0 + a1))).bind fun t148 => (if ((t141 == 0) != t148) = true then (meddlerlaw1_NumRounds.j1 kj2 a0 a1 t140 t141 true) else ((meddlerref1_Fits.f (wrap64 (a0 * a1))).bind fun t149 => (meddlerlaw1_NumRounds.j1 kj2 a0 a1 t140 t141 ((bt144.2 == 0) != t149))))) else (meddlerlaw1_NumRounds.j1 kj2 a0 a1 t140 t141 true)) else (meddlerlaw1_NumRounds.j1 kj2 a0 a1 t140 t141 true)) else (meddlerlaw1_NumRounds.j1 kj2 a0 a1 t140 t141 true)) else (meddlerlaw1_NumRounds.j1 kj2 a0 a1 t140 t141 true))))) = some r := H
        have A8 := Aside0.mk A80
        clear A80
        replace H := Option.bind_eq_some_iff.mp H
        obtain ⟨⟨t142, t143⟩, A90, H⟩ := H
        replace H : ((num_Do.f kj2 3 a0 a1).bind fun bt144 => ((num_Do.f kj2 3 a1 a0).bind fun bt146 => (if t140 = t142 then (if t141 = t143 then (if bt144.1 = bt146.1 then (if bt144.2 = bt146.2 then ((meddlerref1_Fits.f (wrap64 (a0 + a1))).bind fun t148 => (if ((t141 == 0) != t148) = true then (meddlerlaw1_NumRounds.j1 kj2 a0 a1 t140 t141 true) else ((meddlerref1_Fits.f (wrap64 (a0 * a1))).bind fun t149 => (meddlerlaw1_NumRounds.j1 kj2 a0 a1 t140 t141 ((bt144.2 == 0) != t149))))) else (meddlerlaw1_NumRounds.j1 kj2 a0 a1 t140 t141 true)) else (meddlerlaw1_NumRounds.j1 kj2 a0 a1 t140 t141 true)) else (meddlerlaw1_NumRounds.j1 kj2 a0 a1 t140 t141 true)) else (meddlerlaw1_NumRounds.j1 kj2 a0 a1 t140 t141 true)))) = some r := H
        have A9 := Aside0.mk A90
        clear A90
        replace H := Option.bind_eq_some_iff.mp H
        obtain ⟨⟨t144, t145⟩, A100, H⟩ := H
        replace H : ((num_Do.f kj2 3 a1 a0).bind fun bt146 => (if t140 = t142 then (if t141 = t143 then (if t144 = bt146.1 then (if t145 = bt146.2 then ((meddlerref1_Fits.f (wrap64 (a0 + a1))).bind fun t148 => (if ((t141 == 0) != t148) = true then (meddlerlaw1_NumRounds.j1 kj2 a0 a1 t140 t141 true) else ((meddlerref1_Fits.f (wrap64 (a0 * a1))).bind fun t149 => (meddlerlaw1_NumRounds.j1 kj2 a0 a1 t140 t141 ((t145 == 0) != t149))))) else (meddlerlaw1_NumRounds.j1 kj2 a0 a1 t140 t141 true)) else (meddlerlaw1_NumRounds.j1 kj2 a0 a1 t140 t141 true)) else (meddlerlaw1_NumRounds.j1 kj2 a0 a1 t140 t141 true)) else (meddlerlaw1_NumRounds.j1 kj2 a0 a1 t140 t141 true))) = some r := H
        have A10 := Aside0.mk A100
        clear A100
        replace H := Option.bind_eq_some_iff.mp H
        obtain ⟨⟨t146, t147⟩, A110, H⟩ := H
        replace H : (if t140 = t142 then (if t141 = t143 then (if t144 = t146 then (if t145 = t147 then ((meddlerref1_Fits.f (wrap64 (a0 + a1))).bind fun t148 => (if ((t141 == 0) != t148) = true then (meddlerlaw1_NumRounds.j1 kj2 a0 a1 t140 t141 true) else ((meddlerref1_Fits.f (wrap64 (a0 * a1))).bind fun t149 => (meddlerlaw1_NumRounds.j1 kj2 a0 a1 t140 t141 ((t145 == 0) != t149))))) else (meddlerlaw1_NumRounds.j1 kj2 a0 a1 t140 t141 true)) else (meddlerlaw1_NumRounds.j1 kj2 a0 a1 t140 t141 true)) else (meddlerlaw1_NumRounds.j1 kj2 a0 a1 t140 t141 true)) else (meddlerlaw1_NumRounds.j1 kj2 a0 a1 t140 t141 true)) = some r := H
        have A11 := Aside0.mk A110
        clear A110
        have HC12 := Aside0.mk H
        clear H
        go_upto_region 7 with (first | ((with_reducible refine gate_callee (f := 13) rfl ?_); refine goesL_ (some 26) rfl rfl Try.func13 (by kernel_rfl) rfl #[.int .i64 1, .int .i64 a0, .int .i64 a1] rfl (by (try simp only [List.map_toArray, List.map_cons, List.map_nil]); first | done | rfl | (simp only [List.length_drop, List.length_take]; rfl)) ?_; (with_reducible refine (num_Do.calls kj2 1 a0 a1 t140 t141 _ A8.out).mono ?_); rintro e w13 ⟨rfl, hb⟩; refine ⟨_, rfl, ?_⟩; have n0_ := Aside0.mk (below_step (by repeat (first | (with_reducible first | exact HB.out | apply below_alloc | apply pw_below_drewN | apply below_drew1) | exact HB.out)) hb); clear HB; have HB := n0_; clear n0_; (try clear hb); (try clear hb2); (try clear hk); (try clear hi)) | ((with_reducible refine gate_callee (f := 13) rfl ?_); refine goesL_ (some 32) rfl rfl Try.func13 (by kernel_rfl) rfl #[.int .i64 1, .int .i64 a1, .int .i64 a0] rfl (by (try simp only [List.map_toArray, List.map_cons, List.map_nil]); first | done | rfl | (simp only [List.length_drop, List.length_take]; rfl)) ?_; (with_reducible refine (num_Do.calls kj2 1 a1 a0 t142 t143 _ A9.out).mono ?_); rintro e w14 ⟨rfl, hb⟩; refine ⟨_, rfl, ?_⟩; have n0_ := Aside0.mk (below_step (by repeat (first | (with_reducible first | exact HB.out | apply below_alloc | apply pw_below_drewN | apply below_drew1) | exact HB.out)) hb); clear HB; have HB := n0_; clear n0_; (try clear hb); (try clear hb2); (try clear hk); (try clear hi)) | ((with_reducible refine gate_callee (f := 13) rfl ?_); refine goesL_ (some 38) rfl rfl Try.func13 (by kernel_rfl) rfl #[.int .i64 3, .int .i64 a0, .int .i64 a1] rfl (by (try simp only [List.map_toArray, List.map_cons, List.map_nil]); first | done | rfl | (simp only [List.length_drop, List.length_take]; rfl)) ?_; (with_reducible refine (num_Do.calls kj2 3 a0 a1 t144 t145 _ A10.out).mono ?_); rintro e w15 ⟨rfl, hb⟩; refine ⟨_, rfl, ?_⟩; have n0_ := Aside0.mk (below_step (by repeat (first | (with_reducible first | exact HB.out | apply below_alloc | apply pw_below_drewN | apply below_drew1) | exact HB.out)) hb); clear HB; have HB := n0_; clear n0_; (try clear hb); (try clear hb2); (try clear hk); (try clear hi)) | ((with_reducible refine gate_callee (f := 13) rfl ?_); refine goesL_ (some 44) rfl rfl Try.func13 (by kernel_rfl) rfl #[.int .i64 3, .int .i64 a1, .int .i64 a0] rfl (by (try simp only [List.map_toArray, List.map_cons, List.map_nil]); first | done | rfl | (simp only [List.length_drop, List.length_take]; rfl)) ?_; (with_reducible refine (num_Do.calls kj2 3 a1 a0 t146 t147 _ A11.out).mono ?_); rintro e w16 ⟨rfl, hb⟩; refine ⟨_, rfl, ?_⟩; have n0_ := Aside0.mk (below_step (by repeat (first | (with_reducible first | exact HB.out | apply below_alloc | apply pw_below_drewN | apply below_drew1) | exact HB.out)) hb); clear HB; have HB := n0_; clear n0_; (try clear hb); (try clear hb2); (try clear hk); (try clear hi)))
        (try simp only [Act.put, List.setIfInBounds_toArray, List.set_cons_zero, List.set_cons_succ])
        go_cut [82] (fun v82 wc => ∃ (kq : Nat) (x82_11 : Bool), v82 = .bool x82_11 ∧ Aside0 (meddlerlaw1_NumRounds.j1 kq a0 a1 t140 t141 x82_11 = some r) ∧ Aside0 (kq ≤ kj2) ∧ Aside0 (Below w.heap.size w wc))
        case first =>
          have H := HC12.out
          clear HC12
          by_cases c17 : t140 = t142
          · rw [if_pos c17] at H
            have c17b0 : (t140 == t142) = true := beq_iff_eq.mpr c17
            have c17b1 : (t140 != t142) = false := bne_eq_false_iff_eq.mpr c17
            clear c17
            (first | rw [c17b0] | (simp only [i64_w, i32_w]; rw [c17b0]) | skip)
            by_cases c18 : t141 = t143
            · rw [if_pos c18] at H
              have c18b0 : (t141 == t143) = true := beq_iff_eq.mpr c18
              have c18b1 : (t141 != t143) = false := bne_eq_false_iff_eq.mpr c18
              clear c18
              by_cases c19 : t144 = t146
              · rw [if_pos c19] at H
                have c19b0 : (t144 == t146) = true := beq_iff_eq.mpr c19
                have c19b1 : (t144 != t146) = false := bne_eq_false_iff_eq.mpr c19
                clear c19
                by_cases c20 : t145 = t147
                · rw [if_pos c20] at H
                  have c20b0 : (t145 == t147) = true := beq_iff_eq.mpr c20
                  have c20b1 : (t145 != t147) = false := bne_eq_false_iff_eq.mpr c20
                  clear c20
                  replace H := Option.bind_eq_some_iff.mp H
                  obtain ⟨t148, A210, H⟩ := H
                  replace H : (if ((t141 == 0) != t148) = true then (meddlerlaw1_NumRounds.j1 kj2 a0 a1 t140 t141 true) else ((meddlerref1_Fits.f (wrap64 (a0 * a1))).bind fun t149 => (meddlerlaw1_NumRounds.j1 kj2 a0 a1 t140 t141 ((t145 == 0) != t149)))) = some r := H
                  have A21 := Aside0.mk A210
                  clear A210
                  by_cases c22 : ((t141 == 0) != t148) = true
                  · rw [if_pos c22] at H
                    have c22b0 : ((t141 == 0) != t148) = true := c22
                    (try (have c22b1 : decide ((t141 == 0) = t148) = false := by simpa using c22))
                    (try (have c22b2 : ((t141 == 0) == t148) = false := by simpa using c22))
                    (try (have c22b3 : ¬ ((t141 == 0) = t148) := by simpa using c22))
                    clear c22
                    have H' := Aside0.mk H
                    clear H
                    go_wp2_with (first | (go_at_call 12; (with_reducible refine (meddlerref1_Fits.calls (wrap64 (a0 + a1)) t148 _ A21.out).mono ?_); rintro e w' ⟨rfl, ⟨nd, rfl⟩⟩))
                    go_meet
                    case rel => exact ⟨_, (true), (by first | rfl | (simp; done) | (simp [*]; done)), H', ⟨by have := HJ2.out; first | omega | exact Nat.le_refl _⟩, ⟨by repeat (first | (with_reducible first | exact HB.out | apply below_alloc | apply pw_below_drewN | apply below_drew1) | exact HB.out)⟩⟩
                  · rw [if_neg c22] at H
                    have c22b0 : ((t141 == 0) != t148) = false := by simpa using c22
                    (try (have c22b1 : decide ((t141 == 0) = t148) = true := by simpa using c22))
                    (try (have c22b2 : ((t141 == 0) == t148) = true := by simpa using c22))
                    clear c22
                    replace H := Option.bind_eq_some_iff.mp H
                    obtain ⟨t149, A230, H⟩ := H
                    replace H : (meddlerlaw1_NumRounds.j1 kj2 a0 a1 t140 t141 ((t145 == 0) != t149)) = some r := H
                    have A23 := Aside0.mk A230
                    clear A230
                    have H' := Aside0.mk H
                    clear H
                    go_wp2_with (first | (go_at_call 12; (with_reducible refine (meddlerref1_Fits.calls (wrap64 (a0 + a1)) t148 _ A21.out).mono ?_); rintro e w' ⟨rfl, ⟨nd, rfl⟩⟩) | (go_at_call 12; (with_reducible refine (meddlerref1_Fits.calls (wrap64 (a0 * a1)) t149 _ A23.out).mono ?_); rintro e w' ⟨rfl, ⟨nd, rfl⟩⟩))
                    go_meet
                    case rel => exact ⟨_, (((t145 == 0) != t149)), (by first | rfl | (simp; done) | (simp [*]; done)), H', ⟨by have := HJ2.out; first | omega | exact Nat.le_refl _⟩, ⟨by repeat (first | (with_reducible first | exact HB.out | apply below_alloc | apply pw_below_drewN | apply below_drew1) | exact HB.out)⟩⟩
                · rw [if_neg c20] at H
                  have c20b0 : (t145 == t147) = false := beq_eq_false_iff_ne.mpr c20
                  have c20b1 : (t145 != t147) = true := bne_iff_ne.mpr c20
                  have H' := Aside0.mk H
                  clear H
                  go_wp2
                  go_meet
                  case rel => exact ⟨_, (true), (by first | rfl | (simp; done) | (simp [*]; done)), H', ⟨by have := HJ2.out; first | omega | exact Nat.le_refl _⟩, ⟨by repeat (first | (with_reducible first | exact HB.out | apply below_alloc | apply pw_below_drewN | apply below_drew1) | exact HB.out)⟩⟩
              · rw [if_neg c19] at H
                have c19b0 : (t144 == t146) = false := beq_eq_false_iff_ne.mpr c19
                have c19b1 : (t144 != t146) = true := bne_iff_ne.mpr c19
                have H' := Aside0.mk H
                clear H
                go_wp2
                go_meet
                case rel => exact ⟨_, (true), (by first | rfl | (simp; done) | (simp [*]; done)), H', ⟨by have := HJ2.out; first | omega | exact Nat.le_refl _⟩, ⟨by repeat (first | (with_reducible first | exact HB.out | apply below_alloc | apply pw_below_drewN | apply below_drew1) | exact HB.out)⟩⟩
            · rw [if_neg c18] at H
              have c18b0 : (t141 == t143) = false := beq_eq_false_iff_ne.mpr c18
              have c18b1 : (t141 != t143) = true := bne_iff_ne.mpr c18
              have H' := Aside0.mk H
              clear H
              go_wp2
              go_meet
              case rel => exact ⟨_, (true), (by first | rfl | (simp; done) | (simp [*]; done)), H', ⟨by have := HJ2.out; first | omega | exact Nat.le_refl _⟩, ⟨by repeat (first | (with_reducible first | exact HB.out | apply below_alloc | apply pw_below_drewN | apply below_drew1) | exact HB.out)⟩⟩
          · rw [if_neg c17] at H
            have c17b0 : (t140 == t142) = false := beq_eq_false_iff_ne.mpr c17
            have c17b1 : (t140 != t142) = true := bne_iff_ne.mpr c17
            (first | rw [c17b0] | (simp only [i64_w, i32_w]; rw [c17b0]) | skip)
            have H' := Aside0.mk H
            clear H
            go_wp2
            go_meet
            case rel => exact ⟨_, (true), (by first | rfl | (simp; done) | (simp [*]; done)), H', ⟨by have := HJ2.out; first | omega | exact Nat.le_refl _⟩, ⟨by repeat (first | (with_reducible first | exact HB.out | apply below_alloc | apply pw_below_drewN | apply below_drew1) | exact HB.out)⟩⟩
        case rest =>
          clear HC12
          try clear c1
          try clear c2
          try clear p2
          try clear c4
          try clear c5
          try clear p6
          try clear c7
          try clear c12
          try clear c13
          try clear c17
          try clear c17b0
          try clear c17b1
          try clear c18
          try clear c18b0
          try clear c18b1
          try clear c19
          try clear c19b0
          try clear c19b1
          try clear c20
          try clear c20b0
          try clear c20b1
          try clear c22
          try clear c22b0
          try clear c22b1
          try clear c22b2
          try clear p2
          obtain ⟨kq, x82_11, rfl, HA, HJ11, HB⟩ := hcut
          cases kq with
          | zero => exact absurd HA.out (by simp [meddlerlaw1_NumRounds.j1])
          | succ kj11 =>
            have H := HA.out
            clear HA
            simp only [meddlerlaw1_NumRounds.j1] at H
            by_cases c24 : x82_11 = true
            · subst c24
              have H1 : (some false) = some r := by rw [if_pos rfl] at H; exact H
              clear H
              have H := H1
              clear H1
              obtain rfl := Option.some.inj H
              go_wp2
              go_ret
              exact ⟨by first | rfl | (simp [errW_none, errW_some] <;> rfl) | (simp [*, errW_none, errW_some] <;> rfl), by repeat (first | (with_reducible first | exact HB.out | apply below_alloc | apply pw_below_drewN | apply below_drew1) | exact HB.out)⟩
            · replace c24 := Bool.eq_false_iff.mpr c24
              subst c24
              have H1 : (if t141 = 0 then ((num_Do.f kj11 2 t140 a1).bind fun bt150 => (if bt150.1 = a0 then (if bt150.2 = 0 then ((meddlerlaw1_known.f kj11).bind fun t152 => (some t152)) else (some false)) else (some false))) else ((meddlerlaw1_known.f kj11).bind fun t153 => (some t153))) = some r := by rw [if_neg (show ¬ (false = true) by decide)] at H; exact H
              clear H
              have H := H1
              clear H1
              by_cases c25 : t141 = 0
              · rw [if_pos c25] at H
                have c25b0 : (t141 == 0) = true := beq_iff_eq.mpr c25
                have c25b1 : (t141 != 0) = false := bne_eq_false_iff_eq.mpr c25
                clear c25
                replace H := Option.bind_eq_some_iff.mp H
                obtain ⟨⟨t150, t151⟩, A260, H⟩ := H
                replace H : (if t150 = a0 then (if t151 = 0 then ((meddlerlaw1_known.f kj11).bind fun t152 => (some t152)) else (some false)) else (some false)) = some r := H
                have A26 := Aside0.mk A260
                clear A260
                by_cases c27 : t150 = a0
                · rw [if_pos c27] at H
                  have c27b0 : (t150 == a0) = true := beq_iff_eq.mpr c27
                  have c27b1 : (t150 != a0) = false := bne_eq_false_iff_eq.mpr c27
                  clear c27
                  by_cases c28 : t151 = 0
                  · rw [if_pos c28] at H
                    have c28b0 : (t151 == 0) = true := beq_iff_eq.mpr c28
                    have c28b1 : (t151 != 0) = false := bne_eq_false_iff_eq.mpr c28
                    clear c28
                    replace H := Option.bind_eq_some_iff.mp H
                    obtain ⟨t152, A290, H⟩ := H
                    replace H : (some t152) = some r := H
                    have A29 := Aside0.mk A290
                    clear A290
                    obtain rfl := Option.some.inj H
                    go_wp2_with (first | ((with_reducible refine gate_callee (f := 13) rfl ?_); refine goesL_ (some 89) rfl rfl Try.func13 (by kernel_rfl) rfl #[.int .i64 2, .int .i64 t140, .int .i64 a1] rfl (by (try simp only [List.map_toArray, List.map_cons, List.map_nil]); first | done | rfl | (simp only [List.length_drop, List.length_take]; rfl)) ?_; (with_reducible refine (num_Do.calls kj11 2 t140 a1 t150 t151 _ A26.out).mono ?_); rintro e w30 ⟨rfl, hb⟩; refine ⟨_, rfl, ?_⟩; have n0_ := Aside0.mk (below_step (by repeat (first | (with_reducible first | exact HB.out | apply below_alloc | apply pw_below_drewN | apply below_drew1) | exact HB.out)) hb); clear HB; have HB := n0_; clear n0_; (try clear hb); (try clear hb2); (try clear hk); (try clear hi)) | (go_at_call 14; (with_reducible refine (meddlerlaw1_known.calls kj11  t152 _ A29.out).mono ?_); rintro e w31 ⟨rfl, hb⟩; have n0_ := Aside0.mk (below_step (by repeat (first | (with_reducible first | exact HB.out | apply below_alloc | apply pw_below_drewN | apply below_drew1) | exact HB.out)) hb); clear HB; have HB := n0_; clear n0_; (try clear hb); (try clear hb2); (try clear hk); (try clear hi)))
                    go_ret
                    exact ⟨by first | rfl | (simp [errW_none, errW_some] <;> rfl) | (simp [*, errW_none, errW_some] <;> rfl), by repeat (first | (with_reducible first | exact HB.out | apply below_alloc | apply pw_below_drewN | apply below_drew1) | exact HB.out)⟩
                  · rw [if_neg c28] at H
                    have c28b0 : (t151 == 0) = false := beq_eq_false_iff_ne.mpr c28
                    have c28b1 : (t151 != 0) = true := bne_iff_ne.mpr c28
                    obtain rfl := Option.some.inj H
                    go_wp2_with (first | ((with_reducible refine gate_callee (f := 13) rfl ?_); refine goesL_ (some 89) rfl rfl Try.func13 (by kernel_rfl) rfl #[.int .i64 2, .int .i64 t140, .int .i64 a1] rfl (by (try simp only [List.map_toArray, List.map_cons, List.map_nil]); first | done | rfl | (simp only [List.length_drop, List.length_take]; rfl)) ?_; (with_reducible refine (num_Do.calls kj11 2 t140 a1 t150 t151 _ A26.out).mono ?_); rintro e w32 ⟨rfl, hb⟩; refine ⟨_, rfl, ?_⟩; have n0_ := Aside0.mk (below_step (by repeat (first | (with_reducible first | exact HB.out | apply below_alloc | apply pw_below_drewN | apply below_drew1) | exact HB.out)) hb); clear HB; have HB := n0_; clear n0_; (try clear hb); (try clear hb2); (try clear hk); (try clear hi)))
                    go_ret
                    exact ⟨by first | rfl | (simp [errW_none, errW_some] <;> rfl) | (simp [*, errW_none, errW_some] <;> rfl), by repeat (first | (with_reducible first | exact HB.out | apply below_alloc | apply pw_below_drewN | apply below_drew1) | exact HB.out)⟩
                · rw [if_neg c27] at H
                  have c27b0 : (t150 == a0) = false := beq_eq_false_iff_ne.mpr c27
                  have c27b1 : (t150 != a0) = true := bne_iff_ne.mpr c27
                  obtain rfl := Option.some.inj H
                  go_wp2_with (first | ((with_reducible refine gate_callee (f := 13) rfl ?_); refine goesL_ (some 89) rfl rfl Try.func13 (by kernel_rfl) rfl #[.int .i64 2, .int .i64 t140, .int .i64 a1] rfl (by (try simp only [List.map_toArray, List.map_cons, List.map_nil]); first | done | rfl | (simp only [List.length_drop, List.length_take]; rfl)) ?_; (with_reducible refine (num_Do.calls kj11 2 t140 a1 t150 t151 _ A26.out).mono ?_); rintro e w33 ⟨rfl, hb⟩; refine ⟨_, rfl, ?_⟩; have n0_ := Aside0.mk (below_step (by repeat (first | (with_reducible first | exact HB.out | apply below_alloc | apply pw_below_drewN | apply below_drew1) | exact HB.out)) hb); clear HB; have HB := n0_; clear n0_; (try clear hb); (try clear hb2); (try clear hk); (try clear hi)))
                  go_ret
                  exact ⟨by first | rfl | (simp [errW_none, errW_some] <;> rfl) | (simp [*, errW_none, errW_some] <;> rfl), by repeat (first | (with_reducible first | exact HB.out | apply below_alloc | apply pw_below_drewN | apply below_drew1) | exact HB.out)⟩
              · rw [if_neg c25] at H
                have c25b0 : (t141 == 0) = false := beq_eq_false_iff_ne.mpr c25
                have c25b1 : (t141 != 0) = true := bne_iff_ne.mpr c25
                replace H := Option.bind_eq_some_iff.mp H
                obtain ⟨t153, A340, H⟩ := H
                replace H : (some t153) = some r := H
                have A34 := Aside0.mk A340
                clear A340
                obtain rfl := Option.some.inj H
                go_wp2_with (first | ((with_reducible refine gate_callee (f := 14) rfl ?_); refine goesL_ (some 85) rfl rfl Try.func14 (by kernel_rfl) rfl #[] rfl (by (try simp only [List.map_toArray, List.map_cons, List.map_nil]); first | done | rfl | (simp only [List.length_drop, List.length_take]; rfl)) ?_; (with_reducible refine (meddlerlaw1_known.calls kj11  t153 _ A34.out).mono ?_); rintro e w35 ⟨rfl, hb⟩; refine ⟨_, rfl, ?_⟩; have n0_ := Aside0.mk (below_step (by repeat (first | (with_reducible first | exact HB.out | apply below_alloc | apply pw_below_drewN | apply below_drew1) | exact HB.out)) hb); clear HB; have HB := n0_; clear n0_; (try clear hb); (try clear hb2); (try clear hk); (try clear hi)))
                go_ret
                exact ⟨by first | rfl | (simp [errW_none, errW_some] <;> rfl) | (simp [*, errW_none, errW_some] <;> rfl), by repeat (first | (with_reducible first | exact HB.out | apply below_alloc | apply pw_below_drewN | apply below_drew1) | exact HB.out)⟩

/-- THE ONE PURE STATEMENT of meddlerlaw1_NumRounds: yours. -/
def meddlerlaw1_NumRounds.Pure : Prop := ∀ (a0 : Int) (a1 : Int), (Lit.int .i64 a0).wf = true → (Lit.int .i64 a1).wf = true → ∃ k, meddlerlaw1_NumRounds.f k a0 a1 = some true
theorem meddlerlaw1_NumRounds.walk (P : meddlerlaw1_NumRounds.Pure) (a0 : Int) (a1 : Int) (w : World) (w0 : (Lit.int .i64 a0).wf = true) (w1 : (Lit.int .i64 a1).wf = true) :
    Calls Try.prog 4 #[.int .i64 a0, .int .i64 a1] w fun e w' => e = .returned (.bool true) ∧ Below w.heap.size w w' := by
  obtain ⟨k, h⟩ := P a0 a1 w0 w1
  refine (meddlerlaw1_NumRounds.calls k a0 a1 true w h).mono ?_
  rintro e w' ⟨rfl, hd⟩
  exact ⟨rfl, hd⟩

end Go.Proofs.Yteekfgemkjeklaa.PNumRounds
