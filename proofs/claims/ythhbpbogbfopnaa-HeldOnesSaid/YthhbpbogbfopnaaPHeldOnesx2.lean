-- PRINTED BY print.sh 35421559b90ae4d0a3588c463048766b98c2df88dd9212a6774a882060cdf62d: not written by this session
import Derived.Test.YthhbpbogbfopnaaPHeldOnesx0
import Derived.Test.YthhbpbogbfopnaaPHeldOnesx1
namespace Go.Proofs.Ythhbpbogbfopnaa.PHeldOnes
open Go.RowKit Go.Proofs.YthhbpbogbfopnaaW.PrintWords Go.Proofs.YthhbpbogbfopnaaW.PrintLast Go.Proofs.YthhbpbogbfopnaaW.PrintMore
attribute [local go_sem] max2_int min2_int max_two min_two max_three min_three max_four min_four   -- for this text's walks alone
set_option linter.unusedVariables false
set_option linter.unusedSimpArgs false

/-! ### meddlerlaw3_HeldOnes: function 6 -/
def meddlerlaw3_HeldOnes.j0 : Nat → Int → Int → Int → Int → Bool → Option (Bool)
  | 0, _, _, _, _, _ => none
  | k + 1, x0, x1, x5, x6, x27 => if x27 = true then (if x0 ≥ 0 then (if x0 ≤ 30 then (if x1 ≥ 0 then (if x1 ≤ 30 then ((meddlerlaw3_known.f k).bind fun t129 => (some t129)) else (if x6 = 0 then ((meddlerlaw3_known.f k).bind fun t130 => (some t130)) else (some false))) else (if x6 = 0 then ((meddlerlaw3_known.f k).bind fun t131 => (some t131)) else (some false))) else (if x5 = 0 then (if x1 ≥ 0 then (if x1 ≤ 30 then ((meddlerlaw3_known.f k).bind fun t132 => (some t132)) else (if x6 = 0 then ((meddlerlaw3_known.f k).bind fun t133 => (some t133)) else (some false))) else (if x6 = 0 then ((meddlerlaw3_known.f k).bind fun t134 => (some t134)) else (some false))) else (some false))) else (if x5 = 0 then (if x1 ≥ 0 then (if x1 ≤ 30 then ((meddlerlaw3_known.f k).bind fun t135 => (some t135)) else (if x6 = 0 then ((meddlerlaw3_known.f k).bind fun t136 => (some t136)) else (some false))) else (if x6 = 0 then ((meddlerlaw3_known.f k).bind fun t137 => (some t137)) else (some false))) else (some false))) else ((held_List.f k x5).bind fun t138 => (if 0 ≤ (IntKind.u64.wrap (x0)) then (if x5 = (shl .i64 1 (IntKind.u64.wrap (x0))) then (if (t138.length : Int) = 1 then (if 0 < (t138.length : Int) then (if (rd t138 0) = x0 then ((held_Apart.f k x5 x6).bind fun t142 => (if (t142 == (x0 != x1)) = true then ((held_Without.f k x5 (([x0] : List Int))).bind fun t146 => (if t146 = 0 then ((meddlerlaw3_known.f k).bind fun t147 => (some t147)) else (some false))) else (some false))) else (some false)) else (none)) else (some false)) else (some false)) else (none)))
def meddlerlaw3_HeldOnes.f (k : Nat) (a0 : Int) (a1 : Int) : Option (Bool) := (held_With.f k 0 (([a0] : List Int))).bind fun t124 => ((held_With.f k 0 (([a1] : List Int))).bind fun t128 => (if a0 < 0 then (meddlerlaw3_HeldOnes.j0 k a0 a1 t124 t128 true) else (if a0 > 30 then (meddlerlaw3_HeldOnes.j0 k a0 a1 t124 t128 true) else (if a1 < 0 then (meddlerlaw3_HeldOnes.j0 k a0 a1 t124 t128 true) else (meddlerlaw3_HeldOnes.j0 k a0 a1 t124 t128 (decide (a1 > 30)))))))
theorem meddlerlaw3_HeldOnes.mono_l : ∀ k, (∀ y0 y1 y2 y3 y4, LeO (meddlerlaw3_HeldOnes.j0 k y0 y1 y2 y3 y4) (meddlerlaw3_HeldOnes.j0 (k + 1) y0 y1 y2 y3 y4))
  | 0 => fun _ _ _ _ _ r h => by simp [meddlerlaw3_HeldOnes.j0] at h
  | k + 1 => by
    have ih0 := meddlerlaw3_HeldOnes.mono_l k
    · intro y0 y1 y2 y3 y4
      unfold meddlerlaw3_HeldOnes.j0
      repeat' first
      | (with_reducible exact ih0 _ _ _ _ _)
      | (with_reducible exact held_Apart.mono _ _ _)
      | (with_reducible exact held_List.mono _ _)
      | (with_reducible exact held_With.mono _ _ _)
      | (with_reducible exact held_Without.mono _ _ _)
      | (with_reducible exact meddlerlaw3_known.mono _)
      | (with_reducible exact LeO.refl _)
      | (with_reducible exact LeO.none _)
      | (with_reducible refine LeO.ite ?_ ?_)
      | (with_reducible refine LeO.bind ?_ (fun _ => ?_))
      | exact ih0 _ _ _ _ _
      | exact held_Apart.mono _ _ _
      | exact held_List.mono _ _
      | exact held_With.mono _ _ _
      | exact held_Without.mono _ _ _
      | exact meddlerlaw3_known.mono _
      | exact LeO.none _
      | refine LeO.ite ?_ ?_
      | refine LeO.bind ?_ (fun _ => ?_)
theorem meddlerlaw3_HeldOnes.mono : ∀ a0 a1 k, LeO (meddlerlaw3_HeldOnes.f k a0 a1) (meddlerlaw3_HeldOnes.f (k + 1) a0 a1) := by
  intro a0 a1 k
  have ih0 := meddlerlaw3_HeldOnes.mono_l k
  unfold meddlerlaw3_HeldOnes.f
  repeat' first
      | (with_reducible exact ih0 _ _ _ _ _)
      | (with_reducible exact held_Apart.mono _ _ _)
      | (with_reducible exact held_List.mono _ _)
      | (with_reducible exact held_With.mono _ _ _)
      | (with_reducible exact held_Without.mono _ _ _)
      | (with_reducible exact meddlerlaw3_known.mono _)
      | (with_reducible exact LeO.refl _)
      | (with_reducible exact LeO.none _)
      | (with_reducible refine LeO.ite ?_ ?_)
      | (with_reducible refine LeO.bind ?_ (fun _ => ?_))
      | exact ih0 _ _ _ _ _
      | exact held_Apart.mono _ _ _
      | exact held_List.mono _ _
      | exact held_With.mono _ _ _
      | exact held_Without.mono _ _ _
      | exact meddlerlaw3_known.mono _
      | exact LeO.none _
      | refine LeO.ite ?_ ?_
      | refine LeO.bind ?_ (fun _ => ?_)
set_option maxHeartbeats 8000000 in
set_option maxRecDepth 100000 in
theorem meddlerlaw3_HeldOnes.calls (k : Nat) (a0 : Int) (a1 : Int) (r : Bool) (w : World) (h : meddlerlaw3_HeldOnes.f k a0 a1 = some r) :
    Calls Try.prog 6 #[.int .i64 a0, .int .i64 a1] w fun e w' => e = .returned (.bool r) ∧ Below w.heap.size w w' := by
  have HB := Aside0.mk (Below.refl w.heap.size w)
  have H : ((held_With.f k 0 (([a0] : List Int))).bind fun t124 => ((held_With.f k 0 (([a1] : List Int))).bind fun t128 => (if a0 < 0 then (meddlerlaw3_HeldOnes.j0 k a0 a1 t124 t128 true) else (if a0 > 30 then (meddlerlaw3_HeldOnes.j0 k a0 a1 t124 t128 true) else (if a1 < 0 then (meddlerlaw3_HeldOnes.j0 k a0 a1 t124 t128 true) else (meddlerlaw3_HeldOnes.j0 k a0 a1 t124 t128 (decide (a1 > 30)))))))) = some r := h
  clear h
  obtain ⟨y121, hy121⟩ : ∃ y_ : List Int, y_ = (([a0] : List Int)) := ⟨_, rfl⟩
  replace H : ((held_With.f k 0 y121).bind fun t124 => ((held_With.f k 0 (([a1] : List Int))).bind fun t128 => (if a0 < 0 then (meddlerlaw3_HeldOnes.j0 k a0 a1 t124 t128 true) else (if a0 > 30 then (meddlerlaw3_HeldOnes.j0 k a0 a1 t124 t128 true) else (if a1 < 0 then (meddlerlaw3_HeldOnes.j0 k a0 a1 t124 t128 true) else (meddlerlaw3_HeldOnes.j0 k a0 a1 t124 t128 (decide (a1 > 30)))))))) = some r := by first | (rw [hy121]; with_reducible exact H) | (have H2_ := (Option.bind_some _ _).symm.trans H; rw [hy121]; with_reducible exact H2_) | (have H2_ := (Option.bind_some _ _).symm.trans H; with_reducible exact H2_) | with_reducible exact H | (rw [hy121]; exact H) | exact H
  have Ny121 := Aside0.mk hy121
  clear hy121
  replace H := Option.bind_eq_some_iff.mp H
  obtain ⟨t124, A30, H⟩ := H
  replace H : ((held_With.f k 0 (([a1] : List Int))).bind fun t128 => (if a0 < 0 then (meddlerlaw3_HeldOnes.j0 k a0 a1 t124 t128 true) else (if a0 > 30 then (meddlerlaw3_HeldOnes.j0 k a0 a1 t124 t128 true) else (if a1 < 0 then (meddlerlaw3_HeldOnes.j0 k a0 a1 t124 t128 true) else (meddlerlaw3_HeldOnes.j0 k a0 a1 t124 t128 (decide (a1 > 30))))))) = some r := H
  have A3 := Aside0.mk A30
  clear A30
  obtain ⟨y125, hy125⟩ : ∃ y_ : List Int, y_ = (([a1] : List Int)) := ⟨_, rfl⟩
  replace H : ((held_With.f k 0 y125).bind fun t128 => (if a0 < 0 then (meddlerlaw3_HeldOnes.j0 k a0 a1 t124 t128 true) else (if a0 > 30 then (meddlerlaw3_HeldOnes.j0 k a0 a1 t124 t128 true) else (if a1 < 0 then (meddlerlaw3_HeldOnes.j0 k a0 a1 t124 t128 true) else (meddlerlaw3_HeldOnes.j0 k a0 a1 t124 t128 (decide (a1 > 30))))))) = some r := by first | (rw [hy125]; with_reducible exact H) | (have H2_ := (Option.bind_some _ _).symm.trans H; rw [hy125]; with_reducible exact H2_) | (have H2_ := (Option.bind_some _ _).symm.trans H; with_reducible exact H2_) | with_reducible exact H | (rw [hy125]; exact H) | exact H
  have Ny125 := Aside0.mk hy125
  clear hy125
  replace H := Option.bind_eq_some_iff.mp H
  obtain ⟨t128, A40, H⟩ := H
  replace H : (if a0 < 0 then (meddlerlaw3_HeldOnes.j0 k a0 a1 t124 t128 true) else (if a0 > 30 then (meddlerlaw3_HeldOnes.j0 k a0 a1 t124 t128 true) else (if a1 < 0 then (meddlerlaw3_HeldOnes.j0 k a0 a1 t124 t128 true) else (meddlerlaw3_HeldOnes.j0 k a0 a1 t124 t128 (decide (a1 > 30)))))) = some r := H
  have A4 := Aside0.mk A40
  clear A40
  have HC5 := Aside0.mk H
  clear H
  go_enter Try.func6, Try.ntmps6
  go_upto_region 2 with (first | ((with_reducible refine gate_dst (N := 9) rfl ?_); (try (refine gate_guard (by rfl) ?_; dsimp only)); refine Kd.R_lit (Kd.int .i64) _ 3 ?hg (N := 9) ?hd (xs := ([a0] : List Int)) (inner := [.int .i64 a0]) (ok := fun _ => True) (okp := fun _ => True) ?hr ?hp (fun _ hk => hk) trivial (Below.refl _ _) (Nat.le_refl _) (by simp) ?_; (case hd => rfl); (case hg => rfl); (case hr => first | (go_simp; done) | (go_simp; rfl)); (case hp => exact (Reps.one (show Kd.M (Kd.int .i64) _ _ _ a0 [.int .i64 a0] from rfl) (Reps.none _ _))); intro v122 w6 ho7 hb hg_ hnew_; clear hg_ hnew_; (first | rw [← Ny121.out] at ho7 | (simp only [Int.reduceToNat] at ho7; rw [← Ny121.out] at ho7)); have n0_ := Aside0.mk (Kd.R_lower ho7 (below_size (by repeat (first | (with_reducible first | exact HB.out | apply below_alloc | apply pw_below_drewN | apply below_drew1) | exact HB.out)))); have n1_ := Aside0.mk (below_step (by repeat (first | (with_reducible first | exact HB.out | apply below_alloc | apply pw_below_drewN | apply below_drew1) | exact HB.out)) hb); clear HB; have HO123 := n0_; have HB := n1_; clear n0_ n1_; clear hb ho7; obtain ⟨Ao8, co8, eo8⟩ := Kd.R_slice HO123.out; subst eo8) | ((with_reducible refine gate_callee (f := 12) rfl ?_); refine goesL_ (some 10) rfl rfl Try.func12 (by kernel_rfl) rfl #[.int .i64 0, .slice Ao8 y121.length co8] rfl (by (try simp only [List.map_toArray, List.map_cons, List.map_nil]); first | done | rfl | (simp only [List.length_drop, List.length_take]; rfl)) ?_; (with_reducible refine (held_With.calls k 0 _ _ y121 t124 _ ?side1 ?side2 A3.out).mono ?_); (case side1 => repeat (first | exact (Kd.R_reads' HO123.out).2.2 | (with_reducible refine Kd.C_alloc ?_ _) | (with_reducible refine Kd.C_drewN ?_ _) | (with_reducible refine Kd.C_drew ?_))); (case side2 => exact (Kd.R_reads' HO123.out).2.1); rintro e w' ⟨rfl, ⟨nd, rfl⟩⟩; refine ⟨_, rfl, ?_⟩) | ((with_reducible refine gate_dst (N := 12) rfl ?_); (try (refine gate_guard (by rfl) ?_; dsimp only)); refine Kd.R_lit (Kd.int .i64) _ 3 ?hg (N := 12) ?hd (xs := ([a1] : List Int)) (inner := [.int .i64 a1]) (ok := fun _ => True) (okp := fun _ => True) ?hr ?hp (fun _ hk => hk) trivial (Below.refl _ _) (Nat.le_refl _) (by simp) ?_; (case hd => rfl); (case hg => rfl); (case hr => first | (go_simp; done) | (go_simp; rfl)); (case hp => exact (Reps.one (show Kd.M (Kd.int .i64) _ _ _ a1 [.int .i64 a1] from rfl) (Reps.none _ _))); intro v126 w9 ho10 hb hg_ hnew_; clear hg_ hnew_; (first | rw [← Ny125.out] at ho10 | (simp only [Int.reduceToNat] at ho10; rw [← Ny125.out] at ho10)); have n0_ := Aside0.mk (Kd.R_elder' (by (with_reducible repeat (first | apply Kd.R_alloc | apply Kd.R_drewN | apply Kd.R_drew)); exact HO123.out) (Kd.R_base ho10) hb); have n1_ := Aside0.mk (Kd.R_lower (Kd.R_new' ho10 (Kd.R_lt (by (with_reducible repeat (first | apply Kd.R_alloc | apply Kd.R_drewN | apply Kd.R_drew)); exact HO123.out))) (below_size (by repeat (first | (with_reducible first | exact HB.out | apply below_alloc | apply pw_below_drewN | apply below_drew1) | exact HB.out)))); have n2_ := Aside0.mk (below_step (by repeat (first | (with_reducible first | exact HB.out | apply below_alloc | apply pw_below_drewN | apply below_drew1) | exact HB.out)) hb); clear HO123; clear HB; have HO123 := n0_; have HO127 := n1_; have HB := n2_; clear n0_ n1_ n2_; clear hb ho10; obtain ⟨Ao11, co11, eo11⟩ := Kd.R_slice HO127.out; subst eo11) | ((with_reducible refine gate_callee (f := 12) rfl ?_); refine goesL_ (some 13) rfl rfl Try.func12 (by kernel_rfl) rfl #[.int .i64 0, .slice Ao11 y125.length co11] rfl (by (try simp only [List.map_toArray, List.map_cons, List.map_nil]); first | done | rfl | (simp only [List.length_drop, List.length_take]; rfl)) ?_; (with_reducible refine (held_With.calls k 0 _ _ y125 t128 _ ?side1 ?side2 A4.out).mono ?_); (case side1 => repeat (first | exact (Kd.R_reads' HO127.out).2.2 | (with_reducible refine Kd.C_alloc ?_ _) | (with_reducible refine Kd.C_drewN ?_ _) | (with_reducible refine Kd.C_drew ?_))); (case side2 => exact (Kd.R_reads' HO127.out).2.1); rintro e w' ⟨rfl, ⟨nd, rfl⟩⟩; refine ⟨_, rfl, ?_⟩))
  (try simp only [Act.put, List.setIfInBounds_toArray, List.set_cons_zero, List.set_cons_succ])
  go_cut [27] (fun v27 wc => ∃ (kq : Nat) (x27_4 : Bool), v27 = .bool x27_4 ∧ Aside0 (meddlerlaw3_HeldOnes.j0 kq a0 a1 t124 t128 x27_4 = some r) ∧ Aside0 (kq ≤ k) ∧ Aside0 (Below w.heap.size w wc))
  case first =>
    have H := HC5.out
    clear HC5
    by_cases c12 : a0 < 0
    · rw [if_pos c12] at H
      have c12b0 : decide (a0 < 0) = true := decide_eq_true c12
      clear c12
      (first | rw [c12b0] | (simp only [i64_w, i32_w]; rw [c12b0]) | skip)
      have H' := Aside0.mk H
      clear H
      go_wp2
      go_meet
      case rel => exact ⟨_, (true), (by first | rfl | (simp; done) | (simp [*]; done)), H', ⟨by first | omega | exact Nat.le_refl _⟩, ⟨by repeat (first | (with_reducible first | exact HB.out | apply below_alloc | apply pw_below_drewN | apply below_drew1) | exact HB.out)⟩⟩
    · rw [if_neg c12] at H
      have c12b0 : decide (a0 < 0) = false := decide_eq_false c12
      clear c12
      (first | rw [c12b0] | (simp only [i64_w, i32_w]; rw [c12b0]) | skip)
      by_cases c13 : a0 > 30
      · rw [if_pos c13] at H
        have c13b0 : decide (30 < a0) = true := decide_eq_true c13
        clear c13
        have H' := Aside0.mk H
        clear H
        go_wp2
        go_meet
        case rel => exact ⟨_, (true), (by first | rfl | (simp; done) | (simp [*]; done)), H', ⟨by first | omega | exact Nat.le_refl _⟩, ⟨by repeat (first | (with_reducible first | exact HB.out | apply below_alloc | apply pw_below_drewN | apply below_drew1) | exact HB.out)⟩⟩
      · rw [if_neg c13] at H
        have c13b0 : decide (30 < a0) = false := decide_eq_false c13
        clear c13
        by_cases c14 : a1 < 0
        · rw [if_pos c14] at H
          have c14b0 : decide (a1 < 0) = true := decide_eq_true c14
          clear c14
          have H' := Aside0.mk H
          clear H
          go_wp2
          go_meet
          case rel => exact ⟨_, (true), (by first | rfl | (simp; done) | (simp [*]; done)), H', ⟨by first | omega | exact Nat.le_refl _⟩, ⟨by repeat (first | (with_reducible first | exact HB.out | apply below_alloc | apply pw_below_drewN | apply below_drew1) | exact HB.out)⟩⟩
        · rw [if_neg c14] at H
          have c14b0 : decide (a1 < 0) = false := decide_eq_false c14
          clear c14
          have H' := Aside0.mk H
          clear H
          go_wp2
          go_meet
          case rel => exact ⟨_, (decide (a1 > 30)), (by first | rfl | (simp; done) | (simp [*]; done)), H', ⟨by first | omega | exact Nat.le_refl _⟩, ⟨by repeat (first | (with_reducible first | exact HB.out | apply below_alloc | apply pw_below_drewN | apply below_drew1) | exact HB.out)⟩⟩
  case rest =>
    clear HC5
    try clear c1
    try clear p2
    try clear c6
    try clear c12
    try clear c12b0
    try clear c13
    try clear c13b0
    try clear c14
    try clear c14b0
    obtain ⟨kq, x27_4, rfl, HA, HJ4, HB⟩ := hcut
    cases kq with
    | zero => exact absurd HA.out (by simp [meddlerlaw3_HeldOnes.j0])
    | succ kj4 =>
      have H := HA.out
      clear HA
      simp only [meddlerlaw3_HeldOnes.j0] at H
      by_cases c15 : x27_4 = true
      · subst c15
        have H1 : (if a0 ≥ 0 then (if a0 ≤ 30 then (if a1 ≥ 0 then (if a1 ≤ 30 then ((meddlerlaw3_known.f kj4).bind fun t129 => (some t129)) else (if t128 = 0 then ((meddlerlaw3_known.f kj4).bind fun t130 => (some t130)) else (some false))) else (if t128 = 0 then ((meddlerlaw3_known.f kj4).bind fun t131 => (some t131)) else (some false))) else (if t124 = 0 then (if a1 ≥ 0 then (if a1 ≤ 30 then ((meddlerlaw3_known.f kj4).bind fun t132 => (some t132)) else (if t128 = 0 then ((meddlerlaw3_known.f kj4).bind fun t133 => (some t133)) else (some false))) else (if t128 = 0 then ((meddlerlaw3_known.f kj4).bind fun t134 => (some t134)) else (some false))) else (some false))) else (if t124 = 0 then (if a1 ≥ 0 then (if a1 ≤ 30 then ((meddlerlaw3_known.f kj4).bind fun t135 => (some t135)) else (if t128 = 0 then ((meddlerlaw3_known.f kj4).bind fun t136 => (some t136)) else (some false))) else (if t128 = 0 then ((meddlerlaw3_known.f kj4).bind fun t137 => (some t137)) else (some false))) else (some false))) = some r := by rw [if_pos rfl] at H; exact H
        clear H
        have H := H1
        clear H1
        by_cases c16 : a0 ≥ 0
        · rw [if_pos c16] at H
          have c16b0 : decide (0 ≤ a0) = true := decide_eq_true c16
          clear c16
          by_cases c17 : a0 ≤ 30
          · rw [if_pos c17] at H
            have c17b0 : decide (a0 ≤ 30) = true := decide_eq_true c17
            clear c17
            by_cases c18 : a1 ≥ 0
            · rw [if_pos c18] at H
              have c18b0 : decide (0 ≤ a1) = true := decide_eq_true c18
              clear c18
              by_cases c19 : a1 ≤ 30
              · rw [if_pos c19] at H
                have c19b0 : decide (a1 ≤ 30) = true := decide_eq_true c19
                clear c19
                replace H := Option.bind_eq_some_iff.mp H
                obtain ⟨t129, A200, H⟩ := H
                replace H : (some t129) = some r := H
                have A20 := Aside0.mk A200
                clear A200
                obtain rfl := Option.some.inj H
                go_wp2_with (first | (go_at_call 14; (with_reducible refine (meddlerlaw3_known.calls kj4  t129 _ A20.out).mono ?_); rintro e w21 ⟨rfl, hb⟩; have n0_ := Aside0.mk (below_step (by repeat (first | (with_reducible first | exact HB.out | apply below_alloc | apply pw_below_drewN | apply below_drew1) | exact HB.out)) hb); clear HB; have HB := n0_; clear n0_; (try clear hb); (try clear hb2); (try clear hk); (try clear hi)))
                go_ret
                exact ⟨by first | rfl | (simp [errW_none, errW_some] <;> rfl) | (simp [*, errW_none, errW_some] <;> rfl), by repeat (first | (with_reducible first | exact HB.out | apply below_alloc | apply pw_below_drewN | apply below_drew1) | exact HB.out)⟩
              · rw [if_neg c19] at H
                have c19b0 : decide (a1 ≤ 30) = false := decide_eq_false c19
                clear c19
                by_cases c22 : t128 = 0
                · rw [if_pos c22] at H
                  have c22b0 : (t128 == 0) = true := beq_iff_eq.mpr c22
                  have c22b1 : (t128 != 0) = false := bne_eq_false_iff_eq.mpr c22
                  clear c22
                  replace H := Option.bind_eq_some_iff.mp H
                  obtain ⟨t130, A230, H⟩ := H
                  replace H : (some t130) = some r := H
                  have A23 := Aside0.mk A230
                  clear A230
                  obtain rfl := Option.some.inj H
                  go_wp2_with (first | (go_at_call 14; (with_reducible refine (meddlerlaw3_known.calls kj4  t130 _ A23.out).mono ?_); rintro e w24 ⟨rfl, hb⟩; have n0_ := Aside0.mk (below_step (by repeat (first | (with_reducible first | exact HB.out | apply below_alloc | apply pw_below_drewN | apply below_drew1) | exact HB.out)) hb); clear HB; have HB := n0_; clear n0_; (try clear hb); (try clear hb2); (try clear hk); (try clear hi)))
                  go_ret
                  exact ⟨by first | rfl | (simp [errW_none, errW_some] <;> rfl) | (simp [*, errW_none, errW_some] <;> rfl), by repeat (first | (with_reducible first | exact HB.out | apply below_alloc | apply pw_below_drewN | apply below_drew1) | exact HB.out)⟩
                · rw [if_neg c22] at H
                  have c22b0 : (t128 == 0) = false := beq_eq_false_iff_ne.mpr c22
                  have c22b1 : (t128 != 0) = true := bne_iff_ne.mpr c22
                  obtain rfl := Option.some.inj H
                  go_wp2
                  go_ret
                  exact ⟨by first | rfl | (simp [errW_none, errW_some] <;> rfl) | (simp [*, errW_none, errW_some] <;> rfl), by repeat (first | (with_reducible first | exact HB.out | apply below_alloc | apply pw_below_drewN | apply below_drew1) | exact HB.out)⟩
            · rw [if_neg c18] at H
              have c18b0 : decide (0 ≤ a1) = false := decide_eq_false c18
              clear c18
              by_cases c25 : t128 = 0
              · rw [if_pos c25] at H
                have c25b0 : (t128 == 0) = true := beq_iff_eq.mpr c25
                have c25b1 : (t128 != 0) = false := bne_eq_false_iff_eq.mpr c25
                clear c25
                replace H := Option.bind_eq_some_iff.mp H
                obtain ⟨t131, A260, H⟩ := H
                replace H : (some t131) = some r := H
                have A26 := Aside0.mk A260
                clear A260
                obtain rfl := Option.some.inj H
                go_wp2_with (first | (go_at_call 14; (with_reducible refine (meddlerlaw3_known.calls kj4  t131 _ A26.out).mono ?_); rintro e w27 ⟨rfl, hb⟩; have n0_ := Aside0.mk (below_step (by repeat (first | (with_reducible first | exact HB.out | apply below_alloc | apply pw_below_drewN | apply below_drew1) | exact HB.out)) hb); clear HB; have HB := n0_; clear n0_; (try clear hb); (try clear hb2); (try clear hk); (try clear hi)))
                go_ret
                exact ⟨by first | rfl | (simp [errW_none, errW_some] <;> rfl) | (simp [*, errW_none, errW_some] <;> rfl), by repeat (first | (with_reducible first | exact HB.out | apply below_alloc | apply pw_below_drewN | apply below_drew1) | exact HB.out)⟩
              · rw [if_neg c25] at H
                have c25b0 : (t128 == 0) = false := beq_eq_false_iff_ne.mpr c25
                have c25b1 : (t128 != 0) = true := bne_iff_ne.mpr c25
                obtain rfl := Option.some.inj H
                go_wp2
                go_ret
                exact ⟨by first | rfl | (simp [errW_none, errW_some] <;> rfl) | (simp [*, errW_none, errW_some] <;> rfl), by repeat (first | (with_reducible first | exact HB.out | apply below_alloc | apply pw_below_drewN | apply below_drew1) | exact HB.out)⟩
          · rw [if_neg c17] at H
            have c17b0 : decide (a0 ≤ 30) = false := decide_eq_false c17
            clear c17
            by_cases c28 : t124 = 0
            · rw [if_pos c28] at H
              have c28b0 : (t124 == 0) = true := beq_iff_eq.mpr c28
              have c28b1 : (t124 != 0) = false := bne_eq_false_iff_eq.mpr c28
              clear c28
              by_cases c29 : a1 ≥ 0
              · rw [if_pos c29] at H
                have c29b0 : decide (0 ≤ a1) = true := decide_eq_true c29
                clear c29
                by_cases c30 : a1 ≤ 30
                · rw [if_pos c30] at H
                  have c30b0 : decide (a1 ≤ 30) = true := decide_eq_true c30
                  clear c30
                  replace H := Option.bind_eq_some_iff.mp H
                  obtain ⟨t132, A310, H⟩ := H
                  replace H : (some t132) = some r := H
                  have A31 := Aside0.mk A310
                  clear A310
                  obtain rfl := Option.some.inj H
                  go_wp2_with (first | (go_at_call 14; (with_reducible refine (meddlerlaw3_known.calls kj4  t132 _ A31.out).mono ?_); rintro e w32 ⟨rfl, hb⟩; have n0_ := Aside0.mk (below_step (by repeat (first | (with_reducible first | exact HB.out | apply below_alloc | apply pw_below_drewN | apply below_drew1) | exact HB.out)) hb); clear HB; have HB := n0_; clear n0_; (try clear hb); (try clear hb2); (try clear hk); (try clear hi)))
                  go_ret
                  exact ⟨by first | rfl | (simp [errW_none, errW_some] <;> rfl) | (simp [*, errW_none, errW_some] <;> rfl), by repeat (first | (with_reducible first | exact HB.out | apply below_alloc | apply pw_below_drewN | apply below_drew1) | exact HB.out)⟩
                · rw [if_neg c30] at H
                  have c30b0 : decide (a1 ≤ 30) = false := decide_eq_false c30
                  clear c30
                  by_cases c33 : t128 = 0
                  · rw [if_pos c33] at H
                    have c33b0 : (t128 == 0) = true := beq_iff_eq.mpr c33
                    have c33b1 : (t128 != 0) = false := bne_eq_false_iff_eq.mpr c33
                    clear c33
                    replace H := Option.bind_eq_some_iff.mp H
                    obtain ⟨t133, A340, H⟩ := H
                    replace H : (some t133) = some r := H
                    have A34 := Aside0.mk A340
                    clear A340
                    obtain rfl := Option.some.inj H
                    go_wp2_with (first | (go_at_call 14; (with_reducible refine (meddlerlaw3_known.calls kj4  t133 _ A34.out).mono ?_); rintro e w35 ⟨rfl, hb⟩; have n0_ := Aside0.mk (below_step (by repeat (first | (with_reducible first | exact HB.out | apply below_alloc | apply pw_below_drewN | apply below_drew1) | exact HB.out)) hb); clear HB; have HB := n0_; clear n0_; (try clear hb); (try clear hb2); (try clear hk); (try clear hi)))
                    go_ret
                    exact ⟨by first | rfl | (simp [errW_none, errW_some] <;> rfl) | (simp [*, errW_none, errW_some] <;> rfl), by repeat (first | (with_reducible first | exact HB.out | apply below_alloc | apply pw_below_drewN | apply below_drew1) | exact HB.out)⟩
                  · rw [if_neg c33] at H
                    have c33b0 : (t128 == 0) = false := beq_eq_false_iff_ne.mpr c33
                    have c33b1 : (t128 != 0) = true := bne_iff_ne.mpr c33
                    obtain rfl := Option.some.inj H
                    go_wp2
                    go_ret
                    exact ⟨by first | rfl | (simp [errW_none, errW_some] <;> rfl) | (simp [*, errW_none, errW_some] <;> rfl), by repeat (first | (with_reducible first | exact HB.out | apply below_alloc | apply pw_below_drewN | apply below_drew1) | exact HB.out)⟩
              · rw [if_neg c29] at H
                have c29b0 : decide (0 ≤ a1) = false := decide_eq_false c29
                clear c29
                by_cases c36 : t128 = 0
                · rw [if_pos c36] at H
                  have c36b0 : (t128 == 0) = true := beq_iff_eq.mpr c36
                  have c36b1 : (t128 != 0) = false := bne_eq_false_iff_eq.mpr c36
                  clear c36
                  replace H := Option.bind_eq_some_iff.mp H
                  obtain ⟨t134, A370, H⟩ := H
                  replace H : (some t134) = some r := H
                  have A37 := Aside0.mk A370
                  clear A370
                  obtain rfl := Option.some.inj H
                  go_wp2_with (first | (go_at_call 14; (with_reducible refine (meddlerlaw3_known.calls kj4  t134 _ A37.out).mono ?_); rintro e w38 ⟨rfl, hb⟩; have n0_ := Aside0.mk (below_step (by repeat (first | (with_reducible first | exact HB.out | apply below_alloc | apply pw_below_drewN | apply below_drew1) | exact HB.out)) hb); clear HB; have HB := n0_; clear n0_; (try clear hb); (try clear hb2); (try clear hk); (try clear hi)))
                  go_ret
                  exact ⟨by first | rfl | (simp [errW_none, errW_some] <;> rfl) | (simp [*, errW_none, errW_some] <;> rfl), by repeat (first | (with_reducible first | exact HB.out | apply below_alloc | apply pw_below_drewN | apply below_drew1) | exact HB.out)⟩
                · rw [if_neg c36] at H
                  have c36b0 : (t128 == 0) = false := beq_eq_false_iff_ne.mpr c36
                  have c36b1 : (t128 != 0) = true := bne_iff_ne.mpr c36
                  obtain rfl := Option.some.inj H
                  go_wp2
                  go_ret
                  exact ⟨by first | rfl | (simp [errW_none, errW_some] <;> rfl) | (simp [*, errW_none, errW_some] <;> rfl), by repeat (first | (with_reducible first | exact HB.out | apply below_alloc | apply pw_below_drewN | apply below_drew1) | exact HB.out)⟩
            · rw [if_neg c28] at H
              have c28b0 : (t124 == 0) = false := beq_eq_false_iff_ne.mpr c28
              have c28b1 : (t124 != 0) = true := bne_iff_ne.mpr c28
              obtain rfl := Option.some.inj H
              go_wp2
              go_ret
              exact ⟨by first | rfl | (simp [errW_none, errW_some] <;> rfl) | (simp [*, errW_none, errW_some] <;> rfl), by repeat (first | (with_reducible first | exact HB.out | apply below_alloc | apply pw_below_drewN | apply below_drew1) | exact HB.out)⟩
        · rw [if_neg c16] at H
          have c16b0 : decide (0 ≤ a0) = false := decide_eq_false c16
          clear c16
          by_cases c39 : t124 = 0
          · rw [if_pos c39] at H
            have c39b0 : (t124 == 0) = true := beq_iff_eq.mpr c39
            have c39b1 : (t124 != 0) = false := bne_eq_false_iff_eq.mpr c39
            clear c39
            by_cases c40 : a1 ≥ 0
            · rw [if_pos c40] at H
              have c40b0 : decide (0 ≤ a1) = true := decide_eq_true c40
              clear c40
              by_cases c41 : a1 ≤ 30
              · rw [if_pos c41] at H
                have c41b0 : decide (a1 ≤ 30) = true := decide_eq_true c41
                clear c41
                replace H := Option.bind_eq_some_iff.mp H
                obtain ⟨t135, A420, H⟩ := H
                replace H : (some t135) = some r := H
                have A42 := Aside0.mk A420
                clear A420
                obtain rfl := Option.some.inj H
                go_wp2_with (first | (go_at_call 14; (with_reducible refine (meddlerlaw3_known.calls kj4  t135 _ A42.out).mono ?_); rintro e w43 ⟨rfl, hb⟩; have n0_ := Aside0.mk (below_step (by repeat (first | (with_reducible first | exact HB.out | apply below_alloc | apply pw_below_drewN | apply below_drew1) | exact HB.out)) hb); clear HB; have HB := n0_; clear n0_; (try clear hb); (try clear hb2); (try clear hk); (try clear hi)))
                go_ret
                exact ⟨by first | rfl | (simp [errW_none, errW_some] <;> rfl) | (simp [*, errW_none, errW_some] <;> rfl), by repeat (first | (with_reducible first | exact HB.out | apply below_alloc | apply pw_below_drewN | apply below_drew1) | exact HB.out)⟩
              · rw [if_neg c41] at H
                have c41b0 : decide (a1 ≤ 30) = false := decide_eq_false c41
                clear c41
                by_cases c44 : t128 = 0
                · rw [if_pos c44] at H
                  have c44b0 : (t128 == 0) = true := beq_iff_eq.mpr c44
                  have c44b1 : (t128 != 0) = false := bne_eq_false_iff_eq.mpr c44
                  clear c44
                  replace H := Option.bind_eq_some_iff.mp H
                  obtain ⟨t136, A450, H⟩ := H
                  replace H : (some t136) = some r := H
                  have A45 := Aside0.mk A450
                  clear A450
                  obtain rfl := Option.some.inj H
                  go_wp2_with (first | (go_at_call 14; (with_reducible refine (meddlerlaw3_known.calls kj4  t136 _ A45.out).mono ?_); rintro e w46 ⟨rfl, hb⟩; have n0_ := Aside0.mk (below_step (by repeat (first | (with_reducible first | exact HB.out | apply below_alloc | apply pw_below_drewN | apply below_drew1) | exact HB.out)) hb); clear HB; have HB := n0_; clear n0_; (try clear hb); (try clear hb2); (try clear hk); (try clear hi)))
                  go_ret
                  exact ⟨by first | rfl | (simp [errW_none, errW_some] <;> rfl) | (simp [*, errW_none, errW_some] <;> rfl), by repeat (first | (with_reducible first | exact HB.out | apply below_alloc | apply pw_below_drewN | apply below_drew1) | exact HB.out)⟩
                · rw [if_neg c44] at H
                  have c44b0 : (t128 == 0) = false := beq_eq_false_iff_ne.mpr c44
                  have c44b1 : (t128 != 0) = true := bne_iff_ne.mpr c44
                  obtain rfl := Option.some.inj H
                  go_wp2
                  go_ret
                  exact ⟨by first | rfl | (simp [errW_none, errW_some] <;> rfl) | (simp [*, errW_none, errW_some] <;> rfl), by repeat (first | (with_reducible first | exact HB.out | apply below_alloc | apply pw_below_drewN | apply below_drew1) | exact HB.out)⟩
            · rw [if_neg c40] at H
              have c40b0 : decide (0 ≤ a1) = false := decide_eq_false c40
              clear c40
              by_cases c47 : t128 = 0
              · rw [if_pos c47] at H
                have c47b0 : (t128 == 0) = true := beq_iff_eq.mpr c47
                have c47b1 : (t128 != 0) = false := bne_eq_false_iff_eq.mpr c47
                clear c47
                replace H := Option.bind_eq_some_iff.mp H
                obtain ⟨t137, A480, H⟩ := H
                replace H : (some t137) = some r := H
                have A48 := Aside0.mk A480
                clear A480
                obtain rfl := Option.some.inj H
                go_wp2_with (first | (go_at_call 14; (with_reducible refine (meddlerlaw3_known.calls kj4  t137 _ A48.out).mono ?_); rintro e w49 ⟨rfl, hb⟩; have n0_ := Aside0.mk (below_step (by repeat (first | (with_reducible first | exact HB.out | apply below_alloc | apply pw_below_drewN | apply below_drew1) | exact HB.out)) hb); clear HB; have HB := n0_; clear n0_; (try clear hb); (try clear hb2); (try clear hk); (try clear hi)))
                go_ret
                exact ⟨by first | rfl | (simp [errW_none, errW_some] <;> rfl) | (simp [*, errW_none, errW_some] <;> rfl), by repeat (first | (with_reducible first | exact HB.out | apply below_alloc | apply pw_below_drewN | apply below_drew1) | exact HB.out)⟩
              · rw [if_neg c47] at H
                have c47b0 : (t128 == 0) = false := beq_eq_false_iff_ne.mpr c47
                have c47b1 : (t128 != 0) = true := bne_iff_ne.mpr c47
                obtain rfl := Option.some.inj H
                go_wp2
                go_ret
                exact ⟨by first | rfl | (simp [errW_none, errW_some] <;> rfl) | (simp [*, errW_none, errW_some] <;> rfl), by repeat (first | (with_reducible first | exact HB.out | apply below_alloc | apply pw_below_drewN | apply below_drew1) | exact HB.out)⟩
          · rw [if_neg c39] at H
            have c39b0 : (t124 == 0) = false := beq_eq_false_iff_ne.mpr c39
            have c39b1 : (t124 != 0) = true := bne_iff_ne.mpr c39
            obtain rfl := Option.some.inj H
            go_wp2
            go_ret
            exact ⟨by first | rfl | (simp [errW_none, errW_some] <;> rfl) | (simp [*, errW_none, errW_some] <;> rfl), by repeat (first | (with_reducible first | exact HB.out | apply below_alloc | apply pw_below_drewN | apply below_drew1) | exact HB.out)⟩
      · replace c15 := Bool.eq_false_iff.mpr c15
        subst c15
        have H1 : ((held_List.f kj4 t124).bind fun t138 => (if 0 ≤ (IntKind.u64.wrap (a0)) then (if t124 = (shl .i64 1 (IntKind.u64.wrap (a0))) then (if (t138.length : Int) = 1 then (if 0 < (t138.length : Int) then (if (rd t138 0) = a0 then ((held_Apart.f kj4 t124 t128).bind fun t142 => (if (t142 == (a0 != a1)) = true then ((held_Without.f kj4 t124 (([a0] : List Int))).bind fun t146 => (if t146 = 0 then ((meddlerlaw3_known.f kj4).bind fun t147 => (some t147)) else (some false))) else (some false))) else (some false)) else (none)) else (some false)) else (some false)) else (none))) = some r := by rw [if_neg (show ¬ (false = true) by decide)] at H; exact H
        clear H
        have H := H1
        clear H1
        replace H := Option.bind_eq_some_iff.mp H
        obtain ⟨t138, A500, H⟩ := H
        replace H : (if 0 ≤ (IntKind.u64.wrap (a0)) then (if t124 = (shl .i64 1 (IntKind.u64.wrap (a0))) then (if (t138.length : Int) = 1 then (if 0 < (t138.length : Int) then (if (rd t138 0) = a0 then ((held_Apart.f kj4 t124 t128).bind fun t142 => (if (t142 == (a0 != a1)) = true then ((held_Without.f kj4 t124 (([a0] : List Int))).bind fun t146 => (if t146 = 0 then ((meddlerlaw3_known.f kj4).bind fun t147 => (some t147)) else (some false))) else (some false))) else (some false)) else (none)) else (some false)) else (some false)) else (none)) = some r := H
        have A50 := Aside0.mk A500
        clear A500
        obtain ⟨ji51, hji51⟩ : ∃ j_ : Int, (IntKind.u64.wrap (a0)) = j_ := ⟨_, rfl⟩
        replace H : (if 0 ≤ (ji51) then (if t124 = (shl .i64 1 (ji51)) then (if (t138.length : Int) = 1 then (if 0 < (t138.length : Int) then (if (rd t138 0) = a0 then ((held_Apart.f kj4 t124 t128).bind fun t142 => (if (t142 == (a0 != a1)) = true then ((held_Without.f kj4 t124 (([a0] : List Int))).bind fun t146 => (if t146 = 0 then ((meddlerlaw3_known.f kj4).bind fun t147 => (some t147)) else (some false))) else (some false))) else (some false)) else (none)) else (some false)) else (some false)) else (none)) = some r := by first | (rw [hji51] at H; exact H) | (simp only [hji51] at H ⊢; exact H)
        (try rw [hji51] at A50)
        by_cases c52 : 0 ≤ (ji51)
        · rw [if_pos c52] at H
          have c52b0 := eq_true c52
          have c52b1 : decide (0 ≤ (ji51)) = true := decide_eq_true c52
          clear c52
          obtain ⟨ji53, hji53⟩ : ∃ j_ : Int, (shl .i64 1 (ji51)) = j_ := ⟨_, rfl⟩
          replace H : (if t124 = (ji53) then (if (t138.length : Int) = 1 then (if 0 < (t138.length : Int) then (if (rd t138 0) = a0 then ((held_Apart.f kj4 t124 t128).bind fun t142 => (if (t142 == (a0 != a1)) = true then ((held_Without.f kj4 t124 (([a0] : List Int))).bind fun t146 => (if t146 = 0 then ((meddlerlaw3_known.f kj4).bind fun t147 => (some t147)) else (some false))) else (some false))) else (some false)) else (none)) else (some false)) else (some false)) = some r := by first | (rw [hji53] at H; exact H) | (simp only [hji53] at H ⊢; exact H)
          (try rw [hji53] at A50)
          have hji53_ : (IntKind.i64.wrap (1 * 2 ^ min (ji51).toNat 64)) = ji53 := hji53
          have hji53z : (ji51) ≤ 64 → (IntKind.i64.wrap (1 * 2 ^ (ji51).toNat)) = ji53 := shl_small hji53
          have hji53u : (IntKind.i64.wrap (2 ^ min (ji51).toNat 64)) = ji53 := by have h_ := hji53_; rw [Int.one_mul] at h_; exact h_
          have hji53v : (ji51) ≤ 64 → (IntKind.i64.wrap (2 ^ (ji51).toNat)) = ji53 := fun hle_ => by have h_ := hji53z hle_; rw [Int.one_mul] at h_; exact h_
          have hji53y : (wrap64 (1 * 2 ^ min (ji51).toNat 64)) = ji53 := (i64_w _).symm.trans hji53_
          have hji53x : (ji51) ≤ 64 → (wrap64 (1 * 2 ^ (ji51).toNat)) = ji53 := fun h_ => (i64_w _).symm.trans (hji53z h_)
          by_cases c54 : t124 = (ji53)
          · rw [if_pos c54] at H
            have c54b0 : (t124 == (ji53)) = true := beq_iff_eq.mpr c54
            have c54b1 : (t124 != (ji53)) = false := bne_eq_false_iff_eq.mpr c54
            clear c54
            by_cases c55 : (t138.length : Int) = 1
            · rw [if_pos c55] at H
              have c55b0 : ((t138.length : Int) == 1) = true := beq_iff_eq.mpr c55
              have c55b1 : ((t138.length : Int) != 1) = false := bne_eq_false_iff_eq.mpr c55
              clear c55
              by_cases c56 : 0 < (t138.length : Int)
              · rw [if_pos c56] at H
                have c56b0 : decide (0 < (t138.length : Int)) = true := decide_eq_true c56
                have c56b1 : decide (0 < t138.length) = true := decide_eq_true (by omega)
                clear c56
                by_cases c57 : (rd t138 0) = a0
                · rw [if_pos c57] at H
                  have c57b0 : ((rd t138 0) == a0) = true := beq_iff_eq.mpr c57
                  have c57b1 : ((rd t138 0) != a0) = false := bne_eq_false_iff_eq.mpr c57
                  clear c57
                  replace H := Option.bind_eq_some_iff.mp H
                  obtain ⟨t142, A580, H⟩ := H
                  replace H : (if (t142 == (a0 != a1)) = true then ((held_Without.f kj4 t124 (([a0] : List Int))).bind fun t146 => (if t146 = 0 then ((meddlerlaw3_known.f kj4).bind fun t147 => (some t147)) else (some false))) else (some false)) = some r := H
                  have A58 := Aside0.mk A580
                  clear A580
                  by_cases c59 : (t142 == (a0 != a1)) = true
                  · rw [if_pos c59] at H
                    have c59b0 : (t142 == (a0 != a1)) = true := c59
                    (try (have c59b1 : decide (t142 = (a0 != a1)) = true := by simpa using c59))
                    (try (have c59b2 : (t142 == (a0 != a1)) = true := by simpa using c59))
                    clear c59
                    obtain ⟨y143, hy143⟩ : ∃ y_ : List Int, y_ = (([a0] : List Int)) := ⟨_, rfl⟩
                    replace H : ((held_Without.f kj4 t124 y143).bind fun t146 => (if t146 = 0 then ((meddlerlaw3_known.f kj4).bind fun t147 => (some t147)) else (some false))) = some r := by first | (rw [hy143]; with_reducible exact H) | (have H2_ := (Option.bind_some _ _).symm.trans H; rw [hy143]; with_reducible exact H2_) | (have H2_ := (Option.bind_some _ _).symm.trans H; with_reducible exact H2_) | with_reducible exact H | (rw [hy143]; exact H) | exact H
                    have Ny143 := Aside0.mk hy143
                    clear hy143
                    replace H := Option.bind_eq_some_iff.mp H
                    obtain ⟨t146, A600, H⟩ := H
                    replace H : (if t146 = 0 then ((meddlerlaw3_known.f kj4).bind fun t147 => (some t147)) else (some false)) = some r := H
                    have A60 := Aside0.mk A600
                    clear A600
                    by_cases c61 : t146 = 0
                    · rw [if_pos c61] at H
                      have c61b0 : (t146 == 0) = true := beq_iff_eq.mpr c61
                      have c61b1 : (t146 != 0) = false := bne_eq_false_iff_eq.mpr c61
                      clear c61
                      replace H := Option.bind_eq_some_iff.mp H
                      obtain ⟨t147, A620, H⟩ := H
                      replace H : (some t147) = some r := H
                      have A62 := Aside0.mk A620
                      clear A620
                      obtain rfl := Option.some.inj H
                      go_wp2_with (first | ((with_reducible refine gate_callee (f := 15) rfl ?_); refine goesL_ (some 54) rfl rfl Try.func15 (by kernel_rfl) rfl #[.int .i64 t124] rfl (by (try simp only [List.map_toArray, List.map_cons, List.map_nil]); first | done | rfl | (simp only [List.length_drop, List.length_take]; rfl)) ?_; (with_reducible refine (held_List.calls kj4 t124 t138 _ A50.out).mono ?_); rintro e w63 ⟨v139, rfl, ho0, hb⟩; refine ⟨_, rfl, ?_⟩; have n0_ := Aside0.mk (Kd.R_lower ho0 (below_size (by repeat (first | (with_reducible first | exact HB.out | apply below_alloc | apply pw_below_drewN | apply below_drew1) | exact HB.out)))); have n1_ := Aside0.mk (below_step (by repeat (first | (with_reducible first | exact HB.out | apply below_alloc | apply pw_below_drewN | apply below_drew1) | exact HB.out)) hb); clear HB; have HO140 := n0_; have HB := n1_; clear n0_ n1_; (try clear hb); (try clear hb2); (try clear hk); (try clear hi); (try clear ho0); obtain ⟨Ao64, co64, eo64⟩ := Kd.R_slice HO140.out; subst eo64; have p141 : 0 ≤ (0 : Int) := (by omega); have q141 : 0 < (t138.length : Int) := of_decide_eq_true (by first | (with_reducible assumption) | assumption); obtain ⟨ad141, e141, hx141_0⟩ := Kd.at_int (Kd.R_reads' HO140.out).2.2 0 p141 q141; cases e141; have qi141 : (0 < t138.length) = True := eq_true (by omega); (try rw [show ((0 : Int)).toNat = 0 from rfl] at hx141_0); (try rw [Addr.add_zero'] at hx141_0); replace p141 := eq_true p141; replace q141 := eq_true q141) | (go_at_call 16; (with_reducible refine (held_Apart.calls kj4 t124 t128 t142 _ A58.out).mono ?_); rintro e w65 ⟨rfl, hb⟩; have n0_ := Aside0.mk (Kd.R_below (by (with_reducible repeat (first | apply Kd.R_alloc | apply Kd.R_drewN | apply Kd.R_drew)); exact HO140.out) hb); have n1_ := Aside0.mk (below_step (by repeat (first | (with_reducible first | exact HB.out | apply below_alloc | apply pw_below_drewN | apply below_drew1) | exact HB.out)) hb); clear HO140; clear HB; have HO140 := n0_; have HB := n1_; clear n0_ n1_; (try clear hb); (try clear hb2); (try clear hk); (try clear hi)) | ((with_reducible refine gate_dst (N := 84) rfl ?_); (try (refine gate_guard (by rfl) ?_; dsimp only)); refine Kd.R_lit (Kd.int .i64) _ 3 ?hg (N := 84) ?hd (xs := ([a0] : List Int)) (inner := [.int .i64 a0]) (ok := fun _ => True) (okp := fun _ => True) ?hr ?hp (fun _ hk => hk) trivial (Below.refl _ _) (Nat.le_refl _) (by simp) ?_; (case hd => rfl); (case hg => rfl); (case hr => first | (go_simp; done) | (go_simp; rfl)); (case hp => exact (Reps.one (show Kd.M (Kd.int .i64) _ _ _ a0 [.int .i64 a0] from rfl) (Reps.none _ _))); intro v144 w66 ho67 hb hg_ hnew_; clear hg_ hnew_; (first | rw [← Ny143.out] at ho67 | (simp only [Int.reduceToNat] at ho67; rw [← Ny143.out] at ho67)); have n0_ := Aside0.mk (Kd.R_elder' (by (with_reducible repeat (first | apply Kd.R_alloc | apply Kd.R_drewN | apply Kd.R_drew)); exact HO140.out) (Kd.R_base ho67) hb); have n1_ := Aside0.mk (Kd.R_lower (Kd.R_new' ho67 (Kd.R_lt (by (with_reducible repeat (first | apply Kd.R_alloc | apply Kd.R_drewN | apply Kd.R_drew)); exact HO140.out))) (below_size (by repeat (first | (with_reducible first | exact HB.out | apply below_alloc | apply pw_below_drewN | apply below_drew1) | exact HB.out)))); have n2_ := Aside0.mk (below_step (by repeat (first | (with_reducible first | exact HB.out | apply below_alloc | apply pw_below_drewN | apply below_drew1) | exact HB.out)) hb); clear HO140; clear HB; have HO140 := n0_; have HO145 := n1_; have HB := n2_; clear n0_ n1_ n2_; clear hb ho67; obtain ⟨Ao68, co68, eo68⟩ := Kd.R_slice HO145.out; subst eo68) | (go_at_call 13; (with_reducible refine (held_Without.calls kj4 t124 _ _ y143 t146 _ ?side1 ?side2 A60.out).mono ?_); (case side1 => repeat (first | exact (Kd.R_reads' HO145.out).2.2 | (with_reducible refine Kd.C_alloc ?_ _) | (with_reducible refine Kd.C_drewN ?_ _) | (with_reducible refine Kd.C_drew ?_))); (case side2 => exact (Kd.R_reads' HO145.out).2.1); rintro e w' ⟨rfl, ⟨nd, rfl⟩⟩) | (go_at_call 14; (with_reducible refine (meddlerlaw3_known.calls kj4  t147 _ A62.out).mono ?_); rintro e w69 ⟨rfl, hb⟩; have n0_ := Aside0.mk (Kd.R_below (by (with_reducible repeat (first | apply Kd.R_alloc | apply Kd.R_drewN | apply Kd.R_drew)); exact HO140.out) hb); have n1_ := Aside0.mk (Kd.R_below (by (with_reducible repeat (first | apply Kd.R_alloc | apply Kd.R_drewN | apply Kd.R_drew)); exact HO145.out) hb); have n2_ := Aside0.mk (below_step (by repeat (first | (with_reducible first | exact HB.out | apply below_alloc | apply pw_below_drewN | apply below_drew1) | exact HB.out)) hb); clear HO140; clear HO145; clear HB; have HO140 := n0_; have HO145 := n1_; have HB := n2_; clear n0_ n1_ n2_; (try clear hb); (try clear hb2); (try clear hk); (try clear hi)))
                      go_ret
                      exact ⟨by first | rfl | (simp [errW_none, errW_some] <;> rfl) | (simp only [← hji51, ← hji53]; first | rfl | (simp [errW_none, errW_some] <;> rfl)) | (simp [*, errW_none, errW_some] <;> rfl), by repeat (first | (with_reducible first | exact HB.out | apply below_alloc | apply pw_below_drewN | apply below_drew1) | exact HB.out)⟩
                    · rw [if_neg c61] at H
                      have c61b0 : (t146 == 0) = false := beq_eq_false_iff_ne.mpr c61
                      have c61b1 : (t146 != 0) = true := bne_iff_ne.mpr c61
                      obtain rfl := Option.some.inj H
                      go_wp2_with (first | ((with_reducible refine gate_callee (f := 15) rfl ?_); refine goesL_ (some 54) rfl rfl Try.func15 (by kernel_rfl) rfl #[.int .i64 t124] rfl (by (try simp only [List.map_toArray, List.map_cons, List.map_nil]); first | done | rfl | (simp only [List.length_drop, List.length_take]; rfl)) ?_; (with_reducible refine (held_List.calls kj4 t124 t138 _ A50.out).mono ?_); rintro e w70 ⟨v139, rfl, ho0, hb⟩; refine ⟨_, rfl, ?_⟩; have n0_ := Aside0.mk (Kd.R_lower ho0 (below_size (by repeat (first | (with_reducible first | exact HB.out | apply below_alloc | apply pw_below_drewN | apply below_drew1) | exact HB.out)))); have n1_ := Aside0.mk (below_step (by repeat (first | (with_reducible first | exact HB.out | apply below_alloc | apply pw_below_drewN | apply below_drew1) | exact HB.out)) hb); clear HB; have HO140 := n0_; have HB := n1_; clear n0_ n1_; (try clear hb); (try clear hb2); (try clear hk); (try clear hi); (try clear ho0); obtain ⟨Ao71, co71, eo71⟩ := Kd.R_slice HO140.out; subst eo71; have p141 : 0 ≤ (0 : Int) := (by omega); have q141 : 0 < (t138.length : Int) := of_decide_eq_true (by first | (with_reducible assumption) | assumption); obtain ⟨ad141, e141, hx141_0⟩ := Kd.at_int (Kd.R_reads' HO140.out).2.2 0 p141 q141; cases e141; have qi141 : (0 < t138.length) = True := eq_true (by omega); (try rw [show ((0 : Int)).toNat = 0 from rfl] at hx141_0); (try rw [Addr.add_zero'] at hx141_0); replace p141 := eq_true p141; replace q141 := eq_true q141) | (go_at_call 16; (with_reducible refine (held_Apart.calls kj4 t124 t128 t142 _ A58.out).mono ?_); rintro e w72 ⟨rfl, hb⟩; have n0_ := Aside0.mk (Kd.R_below (by (with_reducible repeat (first | apply Kd.R_alloc | apply Kd.R_drewN | apply Kd.R_drew)); exact HO140.out) hb); have n1_ := Aside0.mk (below_step (by repeat (first | (with_reducible first | exact HB.out | apply below_alloc | apply pw_below_drewN | apply below_drew1) | exact HB.out)) hb); clear HO140; clear HB; have HO140 := n0_; have HB := n1_; clear n0_ n1_; (try clear hb); (try clear hb2); (try clear hk); (try clear hi)) | ((with_reducible refine gate_dst (N := 84) rfl ?_); (try (refine gate_guard (by rfl) ?_; dsimp only)); refine Kd.R_lit (Kd.int .i64) _ 3 ?hg (N := 84) ?hd (xs := ([a0] : List Int)) (inner := [.int .i64 a0]) (ok := fun _ => True) (okp := fun _ => True) ?hr ?hp (fun _ hk => hk) trivial (Below.refl _ _) (Nat.le_refl _) (by simp) ?_; (case hd => rfl); (case hg => rfl); (case hr => first | (go_simp; done) | (go_simp; rfl)); (case hp => exact (Reps.one (show Kd.M (Kd.int .i64) _ _ _ a0 [.int .i64 a0] from rfl) (Reps.none _ _))); intro v144 w73 ho74 hb hg_ hnew_; clear hg_ hnew_; (first | rw [← Ny143.out] at ho74 | (simp only [Int.reduceToNat] at ho74; rw [← Ny143.out] at ho74)); have n0_ := Aside0.mk (Kd.R_elder' (by (with_reducible repeat (first | apply Kd.R_alloc | apply Kd.R_drewN | apply Kd.R_drew)); exact HO140.out) (Kd.R_base ho74) hb); have n1_ := Aside0.mk (Kd.R_lower (Kd.R_new' ho74 (Kd.R_lt (by (with_reducible repeat (first | apply Kd.R_alloc | apply Kd.R_drewN | apply Kd.R_drew)); exact HO140.out))) (below_size (by repeat (first | (with_reducible first | exact HB.out | apply below_alloc | apply pw_below_drewN | apply below_drew1) | exact HB.out)))); have n2_ := Aside0.mk (below_step (by repeat (first | (with_reducible first | exact HB.out | apply below_alloc | apply pw_below_drewN | apply below_drew1) | exact HB.out)) hb); clear HO140; clear HB; have HO140 := n0_; have HO145 := n1_; have HB := n2_; clear n0_ n1_ n2_; clear hb ho74; obtain ⟨Ao75, co75, eo75⟩ := Kd.R_slice HO145.out; subst eo75) | (go_at_call 13; (with_reducible refine (held_Without.calls kj4 t124 _ _ y143 t146 _ ?side1 ?side2 A60.out).mono ?_); (case side1 => repeat (first | exact (Kd.R_reads' HO145.out).2.2 | (with_reducible refine Kd.C_alloc ?_ _) | (with_reducible refine Kd.C_drewN ?_ _) | (with_reducible refine Kd.C_drew ?_))); (case side2 => exact (Kd.R_reads' HO145.out).2.1); rintro e w' ⟨rfl, ⟨nd, rfl⟩⟩))
                      go_ret
                      exact ⟨by first | rfl | (simp [errW_none, errW_some] <;> rfl) | (simp only [← hji51, ← hji53]; first | rfl | (simp [errW_none, errW_some] <;> rfl)) | (simp [*, errW_none, errW_some] <;> rfl), by repeat (first | (with_reducible first | exact HB.out | apply below_alloc | apply pw_below_drewN | apply below_drew1) | exact HB.out)⟩
                  · rw [if_neg c59] at H
                    have c59b0 : (t142 == (a0 != a1)) = false := by simpa using c59
                    (try (have c59b1 : decide (t142 = (a0 != a1)) = false := by simpa using c59))
                    (try (have c59b2 : (t142 == (a0 != a1)) = false := by simpa using c59))
                    (try (have c59b3 : ¬ (t142 = (a0 != a1)) := by simpa using c59))
                    clear c59
                    obtain rfl := Option.some.inj H
                    go_wp2_with (first | ((with_reducible refine gate_callee (f := 15) rfl ?_); refine goesL_ (some 54) rfl rfl Try.func15 (by kernel_rfl) rfl #[.int .i64 t124] rfl (by (try simp only [List.map_toArray, List.map_cons, List.map_nil]); first | done | rfl | (simp only [List.length_drop, List.length_take]; rfl)) ?_; (with_reducible refine (held_List.calls kj4 t124 t138 _ A50.out).mono ?_); rintro e w76 ⟨v139, rfl, ho0, hb⟩; refine ⟨_, rfl, ?_⟩; have n0_ := Aside0.mk (Kd.R_lower ho0 (below_size (by repeat (first | (with_reducible first | exact HB.out | apply below_alloc | apply pw_below_drewN | apply below_drew1) | exact HB.out)))); have n1_ := Aside0.mk (below_step (by repeat (first | (with_reducible first | exact HB.out | apply below_alloc | apply pw_below_drewN | apply below_drew1) | exact HB.out)) hb); clear HB; have HO140 := n0_; have HB := n1_; clear n0_ n1_; (try clear hb); (try clear hb2); (try clear hk); (try clear hi); (try clear ho0); obtain ⟨Ao77, co77, eo77⟩ := Kd.R_slice HO140.out; subst eo77; have p141 : 0 ≤ (0 : Int) := (by omega); have q141 : 0 < (t138.length : Int) := of_decide_eq_true (by first | (with_reducible assumption) | assumption); obtain ⟨ad141, e141, hx141_0⟩ := Kd.at_int (Kd.R_reads' HO140.out).2.2 0 p141 q141; cases e141; have qi141 : (0 < t138.length) = True := eq_true (by omega); (try rw [show ((0 : Int)).toNat = 0 from rfl] at hx141_0); (try rw [Addr.add_zero'] at hx141_0); replace p141 := eq_true p141; replace q141 := eq_true q141) | (go_at_call 16; (with_reducible refine (held_Apart.calls kj4 t124 t128 t142 _ A58.out).mono ?_); rintro e w78 ⟨rfl, hb⟩; have n0_ := Aside0.mk (Kd.R_below (by (with_reducible repeat (first | apply Kd.R_alloc | apply Kd.R_drewN | apply Kd.R_drew)); exact HO140.out) hb); have n1_ := Aside0.mk (below_step (by repeat (first | (with_reducible first | exact HB.out | apply below_alloc | apply pw_below_drewN | apply below_drew1) | exact HB.out)) hb); clear HO140; clear HB; have HO140 := n0_; have HB := n1_; clear n0_ n1_; (try clear hb); (try clear hb2); (try clear hk); (try clear hi)))
                    go_ret
                    exact ⟨by first | rfl | (simp [errW_none, errW_some] <;> rfl) | (simp only [← hji51, ← hji53]; first | rfl | (simp [errW_none, errW_some] <;> rfl)) | (simp [*, errW_none, errW_some] <;> rfl), by repeat (first | (with_reducible first | exact HB.out | apply below_alloc | apply pw_below_drewN | apply below_drew1) | exact HB.out)⟩
                · rw [if_neg c57] at H
                  have c57b0 : ((rd t138 0) == a0) = false := beq_eq_false_iff_ne.mpr c57
                  have c57b1 : ((rd t138 0) != a0) = true := bne_iff_ne.mpr c57
                  obtain rfl := Option.some.inj H
                  go_wp2_with (first | ((with_reducible refine gate_callee (f := 15) rfl ?_); refine goesL_ (some 54) rfl rfl Try.func15 (by kernel_rfl) rfl #[.int .i64 t124] rfl (by (try simp only [List.map_toArray, List.map_cons, List.map_nil]); first | done | rfl | (simp only [List.length_drop, List.length_take]; rfl)) ?_; (with_reducible refine (held_List.calls kj4 t124 t138 _ A50.out).mono ?_); rintro e w79 ⟨v139, rfl, ho0, hb⟩; refine ⟨_, rfl, ?_⟩; have n0_ := Aside0.mk (Kd.R_lower ho0 (below_size (by repeat (first | (with_reducible first | exact HB.out | apply below_alloc | apply pw_below_drewN | apply below_drew1) | exact HB.out)))); have n1_ := Aside0.mk (below_step (by repeat (first | (with_reducible first | exact HB.out | apply below_alloc | apply pw_below_drewN | apply below_drew1) | exact HB.out)) hb); clear HB; have HO140 := n0_; have HB := n1_; clear n0_ n1_; (try clear hb); (try clear hb2); (try clear hk); (try clear hi); (try clear ho0); obtain ⟨Ao80, co80, eo80⟩ := Kd.R_slice HO140.out; subst eo80; have p141 : 0 ≤ (0 : Int) := (by omega); have q141 : 0 < (t138.length : Int) := of_decide_eq_true (by first | (with_reducible assumption) | assumption); obtain ⟨ad141, e141, hx141_0⟩ := Kd.at_int (Kd.R_reads' HO140.out).2.2 0 p141 q141; cases e141; have qi141 : (0 < t138.length) = True := eq_true (by omega); (try rw [show ((0 : Int)).toNat = 0 from rfl] at hx141_0); (try rw [Addr.add_zero'] at hx141_0); replace p141 := eq_true p141; replace q141 := eq_true q141))
                  go_ret
                  exact ⟨by first | rfl | (simp [errW_none, errW_some] <;> rfl) | (simp only [← hji51, ← hji53]; first | rfl | (simp [errW_none, errW_some] <;> rfl)) | (simp [*, errW_none, errW_some] <;> rfl), by repeat (first | (with_reducible first | exact HB.out | apply below_alloc | apply pw_below_drewN | apply below_drew1) | exact HB.out)⟩
              · rw [if_neg c56] at H
                exact absurd H (by simp)
            · rw [if_neg c55] at H
              have c55b0 : ((t138.length : Int) == 1) = false := beq_eq_false_iff_ne.mpr c55
              have c55b1 : ((t138.length : Int) != 1) = true := bne_iff_ne.mpr c55
              obtain rfl := Option.some.inj H
              go_wp2_with (first | ((with_reducible refine gate_callee (f := 15) rfl ?_); refine goesL_ (some 54) rfl rfl Try.func15 (by kernel_rfl) rfl #[.int .i64 t124] rfl (by (try simp only [List.map_toArray, List.map_cons, List.map_nil]); first | done | rfl | (simp only [List.length_drop, List.length_take]; rfl)) ?_; (with_reducible refine (held_List.calls kj4 t124 t138 _ A50.out).mono ?_); rintro e w81 ⟨v139, rfl, ho0, hb⟩; refine ⟨_, rfl, ?_⟩; have n0_ := Aside0.mk (Kd.R_lower ho0 (below_size (by repeat (first | (with_reducible first | exact HB.out | apply below_alloc | apply pw_below_drewN | apply below_drew1) | exact HB.out)))); have n1_ := Aside0.mk (below_step (by repeat (first | (with_reducible first | exact HB.out | apply below_alloc | apply pw_below_drewN | apply below_drew1) | exact HB.out)) hb); clear HB; have HO140 := n0_; have HB := n1_; clear n0_ n1_; (try clear hb); (try clear hb2); (try clear hk); (try clear hi); (try clear ho0); obtain ⟨Ao82, co82, eo82⟩ := Kd.R_slice HO140.out; subst eo82))
              go_ret
              exact ⟨by first | rfl | (simp [errW_none, errW_some] <;> rfl) | (simp only [← hji51, ← hji53]; first | rfl | (simp [errW_none, errW_some] <;> rfl)) | (simp [*, errW_none, errW_some] <;> rfl), by repeat (first | (with_reducible first | exact HB.out | apply below_alloc | apply pw_below_drewN | apply below_drew1) | exact HB.out)⟩
          · rw [if_neg c54] at H
            have c54b0 : (t124 == (ji53)) = false := beq_eq_false_iff_ne.mpr c54
            have c54b1 : (t124 != (ji53)) = true := bne_iff_ne.mpr c54
            obtain rfl := Option.some.inj H
            go_wp2_with (first | ((with_reducible refine gate_callee (f := 15) rfl ?_); refine goesL_ (some 54) rfl rfl Try.func15 (by kernel_rfl) rfl #[.int .i64 t124] rfl (by (try simp only [List.map_toArray, List.map_cons, List.map_nil]); first | done | rfl | (simp only [List.length_drop, List.length_take]; rfl)) ?_; (with_reducible refine (held_List.calls kj4 t124 t138 _ A50.out).mono ?_); rintro e w83 ⟨v139, rfl, ho0, hb⟩; refine ⟨_, rfl, ?_⟩; have n0_ := Aside0.mk (Kd.R_lower ho0 (below_size (by repeat (first | (with_reducible first | exact HB.out | apply below_alloc | apply pw_below_drewN | apply below_drew1) | exact HB.out)))); have n1_ := Aside0.mk (below_step (by repeat (first | (with_reducible first | exact HB.out | apply below_alloc | apply pw_below_drewN | apply below_drew1) | exact HB.out)) hb); clear HB; have HO140 := n0_; have HB := n1_; clear n0_ n1_; (try clear hb); (try clear hb2); (try clear hk); (try clear hi); (try clear ho0)))
            go_ret
            exact ⟨by first | rfl | (simp [errW_none, errW_some] <;> rfl) | (simp only [← hji51, ← hji53]; first | rfl | (simp [errW_none, errW_some] <;> rfl)) | (simp [*, errW_none, errW_some] <;> rfl), by repeat (first | (with_reducible first | exact HB.out | apply below_alloc | apply pw_below_drewN | apply below_drew1) | exact HB.out)⟩
        · rw [if_neg c52] at H
          exact absurd H (by simp)

/-- THE ONE PURE STATEMENT of meddlerlaw3_HeldOnes: yours. -/
def meddlerlaw3_HeldOnes.Pure : Prop := ∀ (a0 : Int) (a1 : Int), (Lit.int .i64 a0).wf = true → (Lit.int .i64 a1).wf = true → ∃ k, meddlerlaw3_HeldOnes.f k a0 a1 = some true
theorem meddlerlaw3_HeldOnes.walk (P : meddlerlaw3_HeldOnes.Pure) (a0 : Int) (a1 : Int) (w : World) (w0 : (Lit.int .i64 a0).wf = true) (w1 : (Lit.int .i64 a1).wf = true) :
    Calls Try.prog 6 #[.int .i64 a0, .int .i64 a1] w fun e w' => e = .returned (.bool true) ∧ Below w.heap.size w w' := by
  obtain ⟨k, h⟩ := P a0 a1 w0 w1
  refine (meddlerlaw3_HeldOnes.calls k a0 a1 true w h).mono ?_
  rintro e w' ⟨rfl, hd⟩
  exact ⟨rfl, hd⟩

end Go.Proofs.Ythhbpbogbfopnaa.PHeldOnes
