/- An own text of this seat: Lean functions with the answers of Go functions, and that the Go code comes to them. Written by a program of this session out of the translation. -/
import Derived.Test.YtadnjibgdpjnlaaRpx0
import Derived.Test.YtadnjibgdpjnlaaRpF19
import Derived.Test.YtadnjibgdpjnlaaRpF20
import Derived.Test.YtadnjibgdpjnlaaRpF22
namespace Go.Proofs.Ytadnjibgdpjnlaa.Rp
open Go.RowKit Go.Proofs.YtadnjibgdpjnlaaW.PrintWords Go.Proofs.YtadnjibgdpjnlaaW.PrintLast Go.Proofs.YtadnjibgdpjnlaaW.PrintMore
attribute [local go_sem] max2_int min2_int max_two min_two max_three min_three max_four min_four   -- for this text's walks alone
set_option linter.unusedVariables false
set_option linter.unusedSimpArgs false

/-! ### meddlerlaw15_ClashGuards: function 11 -/
mutual
def meddlerlaw15_ClashGuards.j0 : Nat → List (S31) → Int → Int → Bool → Option (Bool)
  | 0, _, _, _, _ => none
  | k + 1, x0, x1, x2, x32 => if x32 = true then (some true) else ((some (([] : List (S31)) : List (S31))).bind fun y483 => (if y483.length + x0.length < 2932031007402 then (meddlerlaw15_ClashGuards.l0 k x1 x2 (y483 ++ x0) 0) else (none)))
def meddlerlaw15_ClashGuards.l0 : Nat → Int → Int → List (S31) → Int → Option (Bool)
  | 0, _, _, _, _ => none
  | k + 1, x1, x2, x7, x8 => if x8 < (x7.length : Int) then (if x1 = 0 then (if 0 ≤ x8 then (if 0 ≤ (IntKind.u64.wrap (x2)) then (meddlerlaw15_ClashGuards.l0 k x1 x2 (x7.set (x8 : Int).toNat (⟨(rd_T31 x7 x8).f0, (rd_T31 x7 x8).f1, (rd_T31 x7 x8).f2, (rd_T31 x7 x8).f3, (rd_T31 x7 x8).f4, Go.bits .or .i64 ((rd_T31 x7 x8).f5) (shl .i64 1 (IntKind.u64.wrap (x2)))⟩ : S31)) (wrap64 (x8 + 1))) else (none)) else (none)) else (if x1 = 1 then (if 0 ≤ x8 then (meddlerlaw15_ClashGuards.l0 k x1 x2 (x7.set (x8 : Int).toNat (⟨(rd_T31 x7 x8).f0, (rd_T31 x7 x8).f1, (rd_T31 x7 x8).f2, (rd_T31 x7 x8).f3, false, (rd_T31 x7 x8).f5⟩ : S31)) (wrap64 (x8 + 1))) else (none)) else (if 0 ≤ x8 then (meddlerlaw15_ClashGuards.l0 k x1 x2 (x7.set (x8 : Int).toNat (⟨x2, (rd_T31 x7 x8).f1, (rd_T31 x7 x8).f2, (rd_T31 x7 x8).f3, (rd_T31 x7 x8).f4, (rd_T31 x7 x8).f5⟩ : S31)) (wrap64 (x8 + 1))) else (none)))) else ((clash_All.f k x7).bind fun t489 => (if (t489.length : Int) = 0 then ((meddlerlaw15_known.f k).bind fun t492 => (some t492)) else (some false)))
end
def meddlerlaw15_ClashGuards.f (k : Nat) (l0 : List (S31)) (a1 : Int) (a2 : Int) : Option (Bool) := if (l0.length : Int) > 30 then (meddlerlaw15_ClashGuards.j0 k l0 a1 a2 true) else ((meddlerlaw15_may.f k l0).bind fun t482 => (if t482 = true then (if a1 < 0 then (meddlerlaw15_ClashGuards.j0 k l0 a1 a2 true) else (if a1 > 2 then (meddlerlaw15_ClashGuards.j0 k l0 a1 a2 true) else (if a2 < 0 then (meddlerlaw15_ClashGuards.j0 k l0 a1 a2 true) else (meddlerlaw15_ClashGuards.j0 k l0 a1 a2 (decide (a2 > 30)))))) else (meddlerlaw15_ClashGuards.j0 k l0 a1 a2 true)))
theorem meddlerlaw15_ClashGuards.mono_l : ∀ k, (∀ y0 y1 y2 y3, LeO (meddlerlaw15_ClashGuards.j0 k y0 y1 y2 y3) (meddlerlaw15_ClashGuards.j0 (k + 1) y0 y1 y2 y3)) ∧ (∀ y0 y1 y2 y3, LeO (meddlerlaw15_ClashGuards.l0 k y0 y1 y2 y3) (meddlerlaw15_ClashGuards.l0 (k + 1) y0 y1 y2 y3))
  | 0 => ⟨fun _ _ _ _ r h => by simp [meddlerlaw15_ClashGuards.j0] at h, fun _ _ _ _ r h => by simp [meddlerlaw15_ClashGuards.l0] at h⟩
  | k + 1 => by
    obtain ⟨ih0, ih1⟩ := meddlerlaw15_ClashGuards.mono_l k
    refine ⟨?_, ?_⟩
    · intro y0 y1 y2 y3
      unfold meddlerlaw15_ClashGuards.j0
      repeat' first
      | (with_reducible exact ih0 _ _ _ _)
      | (with_reducible exact ih1 _ _ _ _)
      | (with_reducible exact clash_All.mono _ _)
      | (with_reducible exact meddlerlaw15_known.mono _)
      | (with_reducible exact meddlerlaw15_may.mono _ _)
      | (with_reducible exact LeO.refl _)
      | (with_reducible exact LeO.none _)
      | (with_reducible refine LeO.ite ?_ ?_)
      | (with_reducible refine LeO.bind ?_ (fun _ => ?_))
      | exact ih0 _ _ _ _
      | exact ih1 _ _ _ _
      | exact clash_All.mono _ _
      | exact meddlerlaw15_known.mono _
      | exact meddlerlaw15_may.mono _ _
      | exact LeO.none _
      | refine LeO.ite ?_ ?_
      | refine LeO.bind ?_ (fun _ => ?_)
    · intro y0 y1 y2 y3
      unfold meddlerlaw15_ClashGuards.l0
      repeat' first
      | (with_reducible exact ih0 _ _ _ _)
      | (with_reducible exact ih1 _ _ _ _)
      | (with_reducible exact clash_All.mono _ _)
      | (with_reducible exact meddlerlaw15_known.mono _)
      | (with_reducible exact meddlerlaw15_may.mono _ _)
      | (with_reducible exact LeO.refl _)
      | (with_reducible exact LeO.none _)
      | (with_reducible refine LeO.ite ?_ ?_)
      | (with_reducible refine LeO.bind ?_ (fun _ => ?_))
      | exact ih0 _ _ _ _
      | exact ih1 _ _ _ _
      | exact clash_All.mono _ _
      | exact meddlerlaw15_known.mono _
      | exact meddlerlaw15_may.mono _ _
      | exact LeO.none _
      | refine LeO.ite ?_ ?_
      | refine LeO.bind ?_ (fun _ => ?_)
theorem meddlerlaw15_ClashGuards.mono : ∀ a0 a1 a2 k, LeO (meddlerlaw15_ClashGuards.f k a0 a1 a2) (meddlerlaw15_ClashGuards.f (k + 1) a0 a1 a2) := by
  intro a0 a1 a2 k
  obtain ⟨ih0, ih1⟩ := meddlerlaw15_ClashGuards.mono_l k
  unfold meddlerlaw15_ClashGuards.f
  repeat' first
      | (with_reducible exact ih0 _ _ _ _)
      | (with_reducible exact ih1 _ _ _ _)
      | (with_reducible exact clash_All.mono _ _)
      | (with_reducible exact meddlerlaw15_known.mono _)
      | (with_reducible exact meddlerlaw15_may.mono _ _)
      | (with_reducible exact LeO.refl _)
      | (with_reducible exact LeO.none _)
      | (with_reducible refine LeO.ite ?_ ?_)
      | (with_reducible refine LeO.bind ?_ (fun _ => ?_))
      | exact ih0 _ _ _ _
      | exact ih1 _ _ _ _
      | exact clash_All.mono _ _
      | exact meddlerlaw15_known.mono _
      | exact meddlerlaw15_may.mono _ _
      | exact LeO.none _
      | refine LeO.ite ?_ ?_
      | refine LeO.bind ?_ (fun _ => ?_)
set_option maxHeartbeats 8000000 in
set_option maxRecDepth 100000 in
theorem meddlerlaw15_ClashGuards.calls (k : Nat) (A0 : Option Addr) (c0 : Nat) (l0 : List (S31)) (a1 : Int) (a2 : Int) (r : Bool) (w : World) (hr0 : Kd.C k31 w A0 l0.length l0) (hc0 : l0.length ≤ c0) (h : meddlerlaw15_ClashGuards.f k l0 a1 a2 = some r) :
    Calls Try.prog 11 #[.slice A0 l0.length c0, .int .i64 a1, .int .i64 a2] w fun e w' => e = .returned (.bool r) ∧ Below w.heap.size w w' := by
  have HR0 := Aside0.mk hr0
  have HC0 := Aside0.mk hc0
  clear hr0 hc0
  have HB := Aside0.mk (Below.refl w.heap.size w)
  have H : (if (l0.length : Int) > 30 then (meddlerlaw15_ClashGuards.j0 k l0 a1 a2 true) else ((meddlerlaw15_may.f k l0).bind fun t482 => (if t482 = true then (if a1 < 0 then (meddlerlaw15_ClashGuards.j0 k l0 a1 a2 true) else (if a1 > 2 then (meddlerlaw15_ClashGuards.j0 k l0 a1 a2 true) else (if a2 < 0 then (meddlerlaw15_ClashGuards.j0 k l0 a1 a2 true) else (meddlerlaw15_ClashGuards.j0 k l0 a1 a2 (decide (a2 > 30)))))) else (meddlerlaw15_ClashGuards.j0 k l0 a1 a2 true)))) = some r := h
  clear h
  have HC4 := Aside0.mk H
  clear H
  go_enter Try.func11, Try.ntmps11
  go_upto_region 1 with (fail)
  go_cut [32] (fun v32 wc => ∃ (kq : Nat) (x32_3 : Bool), v32 = .bool x32_3 ∧ Aside0 (meddlerlaw15_ClashGuards.j0 kq l0 a1 a2 x32_3 = some r) ∧ Aside0 (kq ≤ k) ∧ Aside0 (Below w.heap.size w wc))
  case first =>
    have H := HC4.out
    clear HC4
    by_cases c5 : (l0.length : Int) > 30
    · rw [if_pos c5] at H
      have c5b0 : decide (30 < (l0.length : Int)) = true := decide_eq_true c5
      have c5b1 : decide (30 < l0.length) = true := decide_eq_true (by omega)
      clear c5
      (first | rw [c5b0] | (simp only [i64_w, i32_w]; rw [c5b0]) | skip)
      have H' := Aside0.mk H
      clear H
      go_wp2
      go_meet
      case rel => exact ⟨_, (true), (by first | rfl | (simp; done) | (simp [*]; done)), H', ⟨by first | omega | exact Nat.le_refl _⟩, ⟨by repeat (first | (with_reducible first | exact HB.out | apply below_alloc | apply pw_below_drewN | apply below_drew1) | exact HB.out)⟩⟩
    · rw [if_neg c5] at H
      have c5b0 : decide (30 < (l0.length : Int)) = false := decide_eq_false c5
      have c5b1 : decide (30 < l0.length) = false := decide_eq_false (by omega)
      clear c5
      (first | rw [c5b0] | (simp only [i64_w, i32_w]; rw [c5b0]) | skip)
      replace H := Option.bind_eq_some_iff.mp H
      obtain ⟨t482, A60, H⟩ := H
      replace H : (if t482 = true then (if a1 < 0 then (meddlerlaw15_ClashGuards.j0 k l0 a1 a2 true) else (if a1 > 2 then (meddlerlaw15_ClashGuards.j0 k l0 a1 a2 true) else (if a2 < 0 then (meddlerlaw15_ClashGuards.j0 k l0 a1 a2 true) else (meddlerlaw15_ClashGuards.j0 k l0 a1 a2 (decide (a2 > 30)))))) else (meddlerlaw15_ClashGuards.j0 k l0 a1 a2 true)) = some r := H
      have A6 := Aside0.mk A60
      clear A60
      by_cases c7 : t482 = true
      · subst c7
        have H1 : (if a1 < 0 then (meddlerlaw15_ClashGuards.j0 k l0 a1 a2 true) else (if a1 > 2 then (meddlerlaw15_ClashGuards.j0 k l0 a1 a2 true) else (if a2 < 0 then (meddlerlaw15_ClashGuards.j0 k l0 a1 a2 true) else (meddlerlaw15_ClashGuards.j0 k l0 a1 a2 (decide (a2 > 30)))))) = some r := by rw [if_pos rfl] at H; exact H
        clear H
        have H := H1
        clear H1
        by_cases c8 : a1 < 0
        · rw [if_pos c8] at H
          have c8b0 : decide (a1 < 0) = true := decide_eq_true c8
          clear c8
          have H' := Aside0.mk H
          clear H
          go_wp2_with (first | (go_at_call 19; (with_reducible refine (meddlerlaw15_may.calls k _ _ l0 true _ ?side1 ?side2 A6.out).mono ?_); (case side1 => repeat (first | exact (Kd.C_below HR0.out HB.out) | (with_reducible refine Kd.C_alloc ?_ _) | (with_reducible refine Kd.C_drewN ?_ _) | (with_reducible refine Kd.C_drew ?_))); (case side2 => exact HC0.out); rintro e w' ⟨rfl, ⟨nd, rfl⟩⟩))
          go_meet
          case rel => exact ⟨_, (true), (by first | rfl | (simp; done) | (simp [*]; done)), H', ⟨by first | omega | exact Nat.le_refl _⟩, ⟨by repeat (first | (with_reducible first | exact HB.out | apply below_alloc | apply pw_below_drewN | apply below_drew1) | exact HB.out)⟩⟩
        · rw [if_neg c8] at H
          have c8b0 : decide (a1 < 0) = false := decide_eq_false c8
          clear c8
          by_cases c9 : a1 > 2
          · rw [if_pos c9] at H
            have c9b0 : decide (2 < a1) = true := decide_eq_true c9
            clear c9
            have H' := Aside0.mk H
            clear H
            go_wp2_with (first | (go_at_call 19; (with_reducible refine (meddlerlaw15_may.calls k _ _ l0 true _ ?side1 ?side2 A6.out).mono ?_); (case side1 => repeat (first | exact (Kd.C_below HR0.out HB.out) | (with_reducible refine Kd.C_alloc ?_ _) | (with_reducible refine Kd.C_drewN ?_ _) | (with_reducible refine Kd.C_drew ?_))); (case side2 => exact HC0.out); rintro e w' ⟨rfl, ⟨nd, rfl⟩⟩))
            go_meet
            case rel => exact ⟨_, (true), (by first | rfl | (simp; done) | (simp [*]; done)), H', ⟨by first | omega | exact Nat.le_refl _⟩, ⟨by repeat (first | (with_reducible first | exact HB.out | apply below_alloc | apply pw_below_drewN | apply below_drew1) | exact HB.out)⟩⟩
          · rw [if_neg c9] at H
            have c9b0 : decide (2 < a1) = false := decide_eq_false c9
            clear c9
            by_cases c10 : a2 < 0
            · rw [if_pos c10] at H
              have c10b0 : decide (a2 < 0) = true := decide_eq_true c10
              clear c10
              have H' := Aside0.mk H
              clear H
              go_wp2_with (first | (go_at_call 19; (with_reducible refine (meddlerlaw15_may.calls k _ _ l0 true _ ?side1 ?side2 A6.out).mono ?_); (case side1 => repeat (first | exact (Kd.C_below HR0.out HB.out) | (with_reducible refine Kd.C_alloc ?_ _) | (with_reducible refine Kd.C_drewN ?_ _) | (with_reducible refine Kd.C_drew ?_))); (case side2 => exact HC0.out); rintro e w' ⟨rfl, ⟨nd, rfl⟩⟩))
              go_meet
              case rel => exact ⟨_, (true), (by first | rfl | (simp; done) | (simp [*]; done)), H', ⟨by first | omega | exact Nat.le_refl _⟩, ⟨by repeat (first | (with_reducible first | exact HB.out | apply below_alloc | apply pw_below_drewN | apply below_drew1) | exact HB.out)⟩⟩
            · rw [if_neg c10] at H
              have c10b0 : decide (a2 < 0) = false := decide_eq_false c10
              clear c10
              have H' := Aside0.mk H
              clear H
              go_wp2_with (first | (go_at_call 19; (with_reducible refine (meddlerlaw15_may.calls k _ _ l0 true _ ?side1 ?side2 A6.out).mono ?_); (case side1 => repeat (first | exact (Kd.C_below HR0.out HB.out) | (with_reducible refine Kd.C_alloc ?_ _) | (with_reducible refine Kd.C_drewN ?_ _) | (with_reducible refine Kd.C_drew ?_))); (case side2 => exact HC0.out); rintro e w' ⟨rfl, ⟨nd, rfl⟩⟩))
              go_meet
              case rel => exact ⟨_, (decide (a2 > 30)), (by first | rfl | (simp; done) | (simp [*]; done)), H', ⟨by first | omega | exact Nat.le_refl _⟩, ⟨by repeat (first | (with_reducible first | exact HB.out | apply below_alloc | apply pw_below_drewN | apply below_drew1) | exact HB.out)⟩⟩
      · replace c7 := Bool.eq_false_iff.mpr c7
        subst c7
        have H1 : (meddlerlaw15_ClashGuards.j0 k l0 a1 a2 true) = some r := by rw [if_neg (show ¬ (false = true) by decide)] at H; exact H
        clear H
        have H := H1
        clear H1
        have H' := Aside0.mk H
        clear H
        go_wp2_with (first | (go_at_call 19; (with_reducible refine (meddlerlaw15_may.calls k _ _ l0 false _ ?side1 ?side2 A6.out).mono ?_); (case side1 => repeat (first | exact (Kd.C_below HR0.out HB.out) | (with_reducible refine Kd.C_alloc ?_ _) | (with_reducible refine Kd.C_drewN ?_ _) | (with_reducible refine Kd.C_drew ?_))); (case side2 => exact HC0.out); rintro e w' ⟨rfl, ⟨nd, rfl⟩⟩))
        go_meet
        case rel => exact ⟨_, (true), (by first | rfl | (simp; done) | (simp [*]; done)), H', ⟨by first | omega | exact Nat.le_refl _⟩, ⟨by repeat (first | (with_reducible first | exact HB.out | apply below_alloc | apply pw_below_drewN | apply below_drew1) | exact HB.out)⟩⟩
  case rest =>
    clear HC4
    try clear c1
    try clear p2
    try clear c5
    try clear c5b0
    try clear c5b1
    try clear c7
    try clear c8
    try clear c8b0
    try clear c9
    try clear c9b0
    try clear c10
    try clear c10b0
    obtain ⟨kq, x32_3, rfl, HA, HJ3, HB⟩ := hcut
    cases kq with
    | zero => exact absurd HA.out (by simp [meddlerlaw15_ClashGuards.j0])
    | succ kj3 =>
      have H := HA.out
      clear HA
      simp only [meddlerlaw15_ClashGuards.j0] at H
      by_cases c11 : x32_3 = true
      · subst c11
        have H1 : (some true) = some r := by rw [if_pos rfl] at H; exact H
        clear H
        have H := H1
        clear H1
        obtain rfl := Option.some.inj H
        go_wp2
        go_ret
        exact ⟨by first | rfl | (simp [errW_none, errW_some] <;> rfl) | (simp [*, errW_none, errW_some] <;> rfl), by repeat (first | (with_reducible first | exact HB.out | apply below_alloc | apply pw_below_drewN | apply below_drew1) | exact HB.out)⟩
      · replace c11 := Bool.eq_false_iff.mpr c11
        subst c11
        have H1 : ((some (([] : List (S31)) : List (S31))).bind fun y483 => (if y483.length + l0.length < 2932031007402 then (meddlerlaw15_ClashGuards.l0 kj3 a1 a2 (y483 ++ l0) 0) else (none))) = some r := by rw [if_neg (show ¬ (false = true) by decide)] at H; exact H
        clear H
        have H := H1
        clear H1
        obtain ⟨y483, hy483⟩ : ∃ y_ : List (S31), y_ = (([] : List (S31))) := ⟨_, rfl⟩
        replace H : (if y483.length + l0.length < 2932031007402 then (meddlerlaw15_ClashGuards.l0 kj3 a1 a2 (y483 ++ l0) 0) else (none)) = some r := by first | (rw [hy483]; with_reducible exact H) | (have H2_ := (Option.bind_some _ _).symm.trans H; rw [hy483]; with_reducible exact H2_) | (have H2_ := (Option.bind_some _ _).symm.trans H; with_reducible exact H2_) | with_reducible exact H | (rw [hy483]; exact H) | exact H
        have Ny483 := Aside0.mk hy483
        clear hy483
        by_cases c12 : y483.length + l0.length < 2932031007402
        · rw [if_pos c12] at H
          have LMc12 := Aside0.mk c12
          clear c12
          obtain ⟨y486, hy486⟩ : ∃ y_ : List (S31), y_ = (y483 ++ l0) := ⟨_, rfl⟩
          replace H : (meddlerlaw15_ClashGuards.l0 kj3 a1 a2 y486 0) = some r := by first | (rw [hy486]; with_reducible exact H) | (have H2_ := (Option.bind_some _ _).symm.trans H; rw [hy486]; with_reducible exact H2_) | (have H2_ := (Option.bind_some _ _).symm.trans H; with_reducible exact H2_) | with_reducible exact H | (rw [hy486]; exact H) | exact H
          have Ny486 := Aside0.mk hy486
          clear hy486
          have H' := Aside0.mk H
          clear H
          go_wp2_with (first | ((with_reducible refine gate_dst (N := 33) rfl ?_); refine Kd.R_lit k31 _ 31 ?hg (N := 33) ?hd (xs := ([] : List (S31))) (inner := []) (ok := fun _ => True) (okp := fun _ => True) ?hr ?hp (fun _ hk => hk) trivial (Below.refl _ _) (Nat.le_refl _) (by simp) ?_; (case hd => rfl); (case hg => rfl); (case hr => first | (go_simp; done) | (go_simp; rfl)); (case hp => exact (Reps.none _ _)); intro v484 w13 ho14 hb hg_ hnew_; clear hg_ hnew_; (first | rw [← Ny483.out] at ho14 | (simp only [Int.reduceToNat] at ho14; rw [← Ny483.out] at ho14)); have n0_ := Aside0.mk (Kd.R_lower ho14 (below_size (by repeat (first | (with_reducible first | exact HB.out | apply below_alloc | apply pw_below_drewN | apply below_drew1) | exact HB.out)))); have n1_ := Aside0.mk (below_step (by repeat (first | (with_reducible first | exact HB.out | apply below_alloc | apply pw_below_drewN | apply below_drew1) | exact HB.out)) hb); clear HB; have HO485 := n0_; have HB := n1_; clear n0_ n1_; clear hb ho14) | ((with_reducible refine gate_builtin (b := .append) (xs := #[.tmp 33, .tmp 34]) rfl ?_); at_builtin; refine Kd.R_append_rows k31 (w0 := w) w.heap.size rfl (.tmp 33) (.tmp 34) 25 31 (.agg #[(.int .i64 0), (.int .i64 0), (.bool false), (.int .i64 0), (.bool false), (.int .i64 0)]) 48 rfl Try.underlying25 info31 rfl (by decide) (by omega) v484 y483 l0 _ _ _ (fun _ => True) (fun _ => False) rfl rfl ?aO ?aR (fun _ _ h => h) (fun _ h => h.elim) ?aF ?aB ?aS ?aL ?_; (case aR => repeat (first | exact (Kd.C_below HR0.out HB.out) | (with_reducible refine Kd.C_alloc ?_ _) | (with_reducible refine Kd.C_drewN ?_ _) | (with_reducible refine Kd.C_drew ?_))); (case aB => exact (by repeat (first | (with_reducible first | exact HB.out | apply below_alloc | apply pw_below_drewN | apply below_drew1) | exact HB.out))); (case aF => exact (fun _ _ => trivial)); (case aO => exact (by (with_reducible repeat (first | apply Kd.R_alloc | apply Kd.R_drewN | apply Kd.R_drew)); exact HO485.out)); (case aS => exact (below_size (by repeat (first | (with_reducible first | exact HB.out | apply below_alloc | apply pw_below_drewN | apply below_drew1) | exact HB.out)))); (case aL => have := LMc12.out; omega); intro v487 w15 ho hb hg hat; rw [← Ny486.out] at ho; have n0_ := Aside0.mk (hb); have n1_ := Aside0.mk (ho); clear HB; clear HO485; have HB := n0_; have HO488 := n1_; clear n0_ n1_; clear ho hb hg hat))
          go_loopg [8] kj3 (fun kq v8 w' => ∃ (x7_2 : List (S31)) (x8_2 : Int), v8 = .int .i64 x8_2 ∧ Aside0 (meddlerlaw15_ClashGuards.l0 kq a1 a2 x7_2 x8_2 = some r) ∧ Aside0 (kq ≤ kj3) ∧ Aside0 (Kd.R k31 31 w' w.heap.size (fun _ => True) v487 x7_2) ∧ Aside0 (Below w.heap.size w w'))
          case atStart => exact ⟨(y486), (0), (by first | rfl | (simp; done) | (simp [*]; done)), H', ⟨Nat.le_refl _⟩, ⟨by (with_reducible repeat (first | apply Kd.R_alloc | apply Kd.R_drewN | apply Kd.R_drew)); exact HO488.out⟩, ⟨by repeat (first | (with_reducible first | exact HB.out | apply below_alloc | apply pw_below_drewN | apply below_drew1) | exact HB.out)⟩⟩
          case round =>
            clear H'
            try clear c1
            try clear p2
            try clear c5
            try clear c5b0
            try clear c5b1
            try clear c7
            try clear c8
            try clear c8b0
            try clear c9
            try clear c9b0
            try clear c10
            try clear c10b0
            try clear c11
            try clear c12
            try clear p2
            obtain ⟨x7_2, x8_2, rfl, HA, HK2, HO_7, HB⟩ := hrel
            cases gk with
            | zero => exact absurd HA.out (by simp [meddlerlaw15_ClashGuards.l0])
            | succ k2 =>
              have H := HA.out
              clear HA
              simp only [meddlerlaw15_ClashGuards.l0] at H
              by_cases c16 : x8_2 < (x7_2.length : Int)
              · rw [if_pos c16] at H
                have c16b0 : decide (x8_2 < (x7_2.length : Int)) = true := decide_eq_true c16
                clear c16
                by_cases c17 : a1 = 0
                · rw [if_pos c17] at H
                  have c17b0 : (a1 == 0) = true := beq_iff_eq.mpr c17
                  have c17b1 : (a1 != 0) = false := bne_eq_false_iff_eq.mpr c17
                  clear c17
                  by_cases c18 : 0 ≤ x8_2
                  · rw [if_pos c18] at H
                    have c18b0 : decide (0 ≤ x8_2) = true := decide_eq_true c18
                    clear c18
                    obtain ⟨ji19, hji19⟩ : ∃ j_ : Int, (IntKind.u64.wrap (a2)) = j_ := ⟨_, rfl⟩
                    replace H : (if 0 ≤ (ji19) then (meddlerlaw15_ClashGuards.l0 k2 a1 a2 (x7_2.set (x8_2 : Int).toNat (⟨(rd_T31 x7_2 x8_2).f0, (rd_T31 x7_2 x8_2).f1, (rd_T31 x7_2 x8_2).f2, (rd_T31 x7_2 x8_2).f3, (rd_T31 x7_2 x8_2).f4, Go.bits .or .i64 ((rd_T31 x7_2 x8_2).f5) (shl .i64 1 (ji19))⟩ : S31)) (wrap64 (x8_2 + 1))) else (none)) = some r := by first | (rw [hji19] at H; exact H) | (simp only [hji19] at H ⊢; exact H)
                    by_cases c20 : 0 ≤ (ji19)
                    · rw [if_pos c20] at H
                      have c20b0 := eq_true c20
                      have c20b1 : decide (0 ≤ (ji19)) = true := decide_eq_true c20
                      clear c20
                      obtain ⟨ji21, hji21⟩ : ∃ j_ : Int, (shl .i64 1 (ji19)) = j_ := ⟨_, rfl⟩
                      replace H : (meddlerlaw15_ClashGuards.l0 k2 a1 a2 (x7_2.set (x8_2 : Int).toNat (⟨(rd_T31 x7_2 x8_2).f0, (rd_T31 x7_2 x8_2).f1, (rd_T31 x7_2 x8_2).f2, (rd_T31 x7_2 x8_2).f3, (rd_T31 x7_2 x8_2).f4, Go.bits .or .i64 ((rd_T31 x7_2 x8_2).f5) (ji21)⟩ : S31)) (wrap64 (x8_2 + 1))) = some r := by first | (rw [hji21] at H; exact H) | (simp only [hji21] at H ⊢; exact H)
                      have hji21_ : (IntKind.i64.wrap (1 * 2 ^ min (ji19).toNat 64)) = ji21 := hji21
                      have hji21z : (ji19) ≤ 64 → (IntKind.i64.wrap (1 * 2 ^ (ji19).toNat)) = ji21 := shl_small hji21
                      have hji21u : (IntKind.i64.wrap (2 ^ min (ji19).toNat 64)) = ji21 := by have h_ := hji21_; rw [Int.one_mul] at h_; exact h_
                      have hji21v : (ji19) ≤ 64 → (IntKind.i64.wrap (2 ^ (ji19).toNat)) = ji21 := fun hle_ => by have h_ := hji21z hle_; rw [Int.one_mul] at h_; exact h_
                      have hji21y : (wrap64 (1 * 2 ^ min (ji19).toNat 64)) = ji21 := (i64_w _).symm.trans hji21_
                      have hji21x : (ji19) ≤ 64 → (wrap64 (1 * 2 ^ (ji19).toNat)) = ji21 := fun h_ => (i64_w _).symm.trans (hji21z h_)
                      obtain ⟨y494, hy494⟩ : ∃ y_ : List (S31), y_ = (x7_2.set (x8_2 : Int).toNat (⟨(rd_T31 x7_2 x8_2).f0, (rd_T31 x7_2 x8_2).f1, (rd_T31 x7_2 x8_2).f2, (rd_T31 x7_2 x8_2).f3, (rd_T31 x7_2 x8_2).f4, Go.bits .or .i64 ((rd_T31 x7_2 x8_2).f5) (ji21)⟩ : S31)) := ⟨_, rfl⟩
                      replace H : (meddlerlaw15_ClashGuards.l0 k2 a1 a2 y494 (wrap64 (x8_2 + 1))) = some r := by first | (rw [hy494]; with_reducible exact H) | (have H2_ := (Option.bind_some _ _).symm.trans H; rw [hy494]; with_reducible exact H2_) | (have H2_ := (Option.bind_some _ _).symm.trans H; with_reducible exact H2_) | with_reducible exact H | (rw [hy494]; exact H) | exact H
                      have Ny494 := Aside0.mk hy494
                      clear hy494
                      have H' := Aside0.mk H
                      clear H
                      obtain ⟨Ao23, co23, eo23⟩ := Kd.R_slice HO_7.out
                      subst eo23
                      have p493 : 0 ≤ (x8_2 : Int) := of_decide_eq_true (by first | (with_reducible assumption) | assumption)
                      have q493 : x8_2 < (x7_2.length : Int) := of_decide_eq_true (by first | (with_reducible assumption) | assumption)
                      obtain ⟨ad493, e493, hx493_0, hx493_1, hx493_2, hx493_3, hx493_4, hx493_5⟩ := at_T31 (Kd.R_reads' HO_7.out).2.2 x8_2 p493 q493
                      cases e493
                      replace p493 := eq_true p493
                      replace q493 := eq_true q493
                      have p22 : 0 ≤ (x8_2 : Int) := of_decide_eq_true (by first | (with_reducible assumption) | assumption)
                      have q22 : (x8_2 : Int) < ((x7_2.length : Int) : Int) := of_decide_eq_true (by first | (with_reducible assumption) | assumption)
                      obtain ⟨go22, co22, eo22, gb22, gl22, cl22, HG22⟩ := Kd.R_form HO_7.out (by omega)
                      (first | cases eo22 | (injection eo22 with ea_ en_ ec_; (first | subst ea_ | (injection ea_ with ea_; subst ea_)); subst ec_; clear en_))
                      have GB22 := Aside0.mk gb22
                      have GG22 := Aside0.mk HG22
                      clear gb22 gl22 HG22
                      (first | simp only [add_plain] at hx493_0 | skip)
                      (first | simp only [add_plain] at hx493_1 | skip)
                      (first | simp only [add_plain] at hx493_2 | skip)
                      (first | simp only [add_plain] at hx493_3 | skip)
                      (first | simp only [add_plain] at hx493_4 | skip)
                      (first | simp only [add_plain] at hx493_5 | skip)
                      obtain ⟨ce22, hcl22, hM22, hcc22, hfr22⟩ := Kd.R_elem HO_7.out z31 (x8_2 : Int) p22 q22
                      obtain rfl := k31_openM hM22
                      have hx22_0 : wr.cell? ⟨go22, (x8_2 : Int).toNat * 6, none⟩ = some (.int .i64 ((rd_T31 x7_2 x8_2).f0)) := hcc22 0 _ rfl
                      have hx22_1 : wr.cell? ⟨go22, (x8_2 : Int).toNat * 6 + 1, none⟩ = some (.int .i64 ((rd_T31 x7_2 x8_2).f1)) := hcc22 1 _ rfl
                      have hx22_2 : wr.cell? ⟨go22, (x8_2 : Int).toNat * 6 + 2, none⟩ = some (.bool ((rd_T31 x7_2 x8_2).f2)) := hcc22 2 _ rfl
                      have hx22_3 : wr.cell? ⟨go22, (x8_2 : Int).toNat * 6 + 3, none⟩ = some (.int .i64 ((rd_T31 x7_2 x8_2).f3)) := hcc22 3 _ rfl
                      have hx22_4 : wr.cell? ⟨go22, (x8_2 : Int).toNat * 6 + 4, none⟩ = some (.bool ((rd_T31 x7_2 x8_2).f4)) := hcc22 4 _ rfl
                      have hx22_5 : wr.cell? ⟨go22, (x8_2 : Int).toNat * 6 + 5, none⟩ = some (.int .i64 ((rd_T31 x7_2 x8_2).f5)) := hcc22 5 _ rfl
                      have hf22_0 : wr.frozen? ⟨go22, (x8_2 : Int).toNat * 6, none⟩ = false := hfr22 0
                      have hf22_1 : wr.frozen? ⟨go22, (x8_2 : Int).toNat * 6 + 1, none⟩ = false := hfr22 1
                      have hf22_2 : wr.frozen? ⟨go22, (x8_2 : Int).toNat * 6 + 2, none⟩ = false := hfr22 2
                      have hf22_3 : wr.frozen? ⟨go22, (x8_2 : Int).toNat * 6 + 3, none⟩ = false := hfr22 3
                      have hf22_4 : wr.frozen? ⟨go22, (x8_2 : Int).toNat * 6 + 4, none⟩ = false := hfr22 4
                      have hf22_5 : wr.frozen? ⟨go22, (x8_2 : Int).toNat * 6 + 5, none⟩ = false := hfr22 5
                      clear hcl22 hcc22 hfr22 hM22
                      replace p22 := eq_true p22
                      replace q22 := eq_true q22
                      have HX24 := Aside0.mk (show Kd.R k31 31 wr w.heap.size (fun _ => True) (.slice (some ⟨go22, 0, none⟩) x7_2.length co23) x7_2 from (by (with_reducible repeat (first | apply Kd.R_alloc | apply Kd.R_drewN | apply Kd.R_drew)); exact HO_7.out))
                      obtain ⟨ce24, hcl24, hM24, hcc24, hfr24⟩ := Kd.R_elem HX24.out z31 (x8_2 : Int) (of_decide_eq_true (by first | (with_reducible assumption) | assumption)) (by have h_ : (x8_2 : Int) < ((x7_2.length : Int) : Int) := of_decide_eq_true (by first | (with_reducible assumption) | assumption); first | exact h_ | (have e_ := (Kd.R_reads' HO_7.out).1; omega) | simpa using h_)
                      obtain rfl := k31_openM hM24
                      have HP24 := Kd.R_seg HX24.out (x8_2 : Int) (of_decide_eq_true (by first | (with_reducible assumption) | assumption)) (by have h_ : (x8_2 : Int) < ((x7_2.length : Int) : Int) := of_decide_eq_true (by first | (with_reducible assumption) | assumption); first | exact h_ | (have e_ := (Kd.R_reads' HO_7.out).1; omega) | simpa using h_) (seg := [.int .i64 (Go.bits .or .i64 ((rd_T31 x7_2 x8_2).f5) (ji21))]) (j := 5) hcl24 hcc24 (show 6 ≤ 6 from by decide) (x' := (⟨(rd_T31 x7_2 x8_2).f0, (rd_T31 x7_2 x8_2).f1, (rd_T31 x7_2 x8_2).f2, (rd_T31 x7_2 x8_2).f3, (rd_T31 x7_2 x8_2).f4, Go.bits .or .i64 ((rd_T31 x7_2 x8_2).f5) (ji21)⟩ : S31)) (k31_mkM _ _ _ (⟨(rd_T31 x7_2 x8_2).f0, (rd_T31 x7_2 x8_2).f1, (rd_T31 x7_2 x8_2).f2, (rd_T31 x7_2 x8_2).f3, (rd_T31 x7_2 x8_2).f4, Go.bits .or .i64 ((rd_T31 x7_2 x8_2).f5) (ji21)⟩ : S31) ) (fun _ hk => hk)
                      have hx24_5 := hcc24 5 _ rfl
                      (try simp only [show (k31).sz = 6 from rfl, Nat.mul_one, Nat.add_zero] at hx24_5)
                      have hf24_5 := hfr24 5
                      (try simp only [show (k31).sz = 6 from rfl, Nat.mul_one, Nat.add_zero] at hf24_5)
                      clear hcl24 hcc24 hfr24 hM24
                      go_wp2_with (first | ((with_reducible refine gate_store (t := 3) (p := 62) rfl ?_); refine store_event (t := 3) (p := 62) (v := ?vo_w25) (w1 := (wr.setCell ⟨go22, (x8_2 : Int).toNat * 6 + 5, none⟩ (.int .i64 (Go.bits .or .i64 ((rd_T31 x7_2 x8_2).f5) (ji21))))) ?hg ?ho ?hn ?hr ?_; (case ho => rfl); (case hg => rfl); (case hn => rfl); (case hr => first | (go_simp; done) | (go_simp; rfl)); intro w25 hw; have hg : wr.grownBy w25 (some go22) := (by rw [hw]; exact HP24.2); have hp_ : Kd.R k31 31 w25 w.heap.size (fun _ => True) (.slice (some ⟨go22, 0, none⟩) x7_2.length co23) y494 := (by rw [hw, Ny494.out]; exact HP24.1); clear HP24; have n0_ := Aside0.mk (hp_); have n1_ := Aside0.mk ((by rw [hw]; exact below_set (HB.out) GB22.out : Below w.heap.size w w25)); clear HO_7; clear HB; have HO_7 := n0_; have HB := n1_; clear n0_ n1_; clear hg hw hp_))
                      go_roundg k2
                      case measure => have := HJ3.out; have := HK2.out; omega
                      case rel => exact ⟨(y494), (wrap64 (x8_2 + 1)), (by first | rfl | (simp; done) | (simp [*]; done)), H', ⟨by have := HJ3.out; have := HK2.out; omega⟩, ⟨by (with_reducible repeat (first | apply Kd.R_alloc | apply Kd.R_drewN | apply Kd.R_drew)); exact HO_7.out⟩, ⟨by repeat (first | (with_reducible first | exact HB.out | apply below_alloc | apply pw_below_drewN | apply below_drew1) | exact HB.out)⟩⟩
                    · rw [if_neg c20] at H
                      exact absurd H (by simp)
                  · rw [if_neg c18] at H
                    exact absurd H (by simp)
                · rw [if_neg c17] at H
                  have c17b0 : (a1 == 0) = false := beq_eq_false_iff_ne.mpr c17
                  have c17b1 : (a1 != 0) = true := bne_iff_ne.mpr c17
                  by_cases c26 : a1 = 1
                  · rw [if_pos c26] at H
                    have c26b0 : (a1 == 1) = true := beq_iff_eq.mpr c26
                    have c26b1 : (a1 != 1) = false := bne_eq_false_iff_eq.mpr c26
                    clear c26
                    by_cases c27 : 0 ≤ x8_2
                    · rw [if_pos c27] at H
                      have c27b0 : decide (0 ≤ x8_2) = true := decide_eq_true c27
                      clear c27
                      obtain ⟨y495, hy495⟩ : ∃ y_ : List (S31), y_ = (x7_2.set (x8_2 : Int).toNat (⟨(rd_T31 x7_2 x8_2).f0, (rd_T31 x7_2 x8_2).f1, (rd_T31 x7_2 x8_2).f2, (rd_T31 x7_2 x8_2).f3, false, (rd_T31 x7_2 x8_2).f5⟩ : S31)) := ⟨_, rfl⟩
                      replace H : (meddlerlaw15_ClashGuards.l0 k2 a1 a2 y495 (wrap64 (x8_2 + 1))) = some r := by first | (rw [hy495]; with_reducible exact H) | (have H2_ := (Option.bind_some _ _).symm.trans H; rw [hy495]; with_reducible exact H2_) | (have H2_ := (Option.bind_some _ _).symm.trans H; with_reducible exact H2_) | with_reducible exact H | (rw [hy495]; exact H) | exact H
                      have Ny495 := Aside0.mk hy495
                      clear hy495
                      have H' := Aside0.mk H
                      clear H
                      obtain ⟨Ao29, co29, eo29⟩ := Kd.R_slice HO_7.out
                      subst eo29
                      have p28 : 0 ≤ (x8_2 : Int) := of_decide_eq_true (by first | (with_reducible assumption) | assumption)
                      have q28 : (x8_2 : Int) < ((x7_2.length : Int) : Int) := of_decide_eq_true (by first | (with_reducible assumption) | assumption)
                      obtain ⟨go28, co28, eo28, gb28, gl28, cl28, HG28⟩ := Kd.R_form HO_7.out (by omega)
                      (first | cases eo28 | (injection eo28 with ea_ en_ ec_; (first | subst ea_ | (injection ea_ with ea_; subst ea_)); subst ec_; clear en_))
                      have GB28 := Aside0.mk gb28
                      have GG28 := Aside0.mk HG28
                      clear gb28 gl28 HG28
                      obtain ⟨ce28, hcl28, hM28, hcc28, hfr28⟩ := Kd.R_elem HO_7.out z31 (x8_2 : Int) p28 q28
                      obtain rfl := k31_openM hM28
                      have hx28_0 : wr.cell? ⟨go28, (x8_2 : Int).toNat * 6, none⟩ = some (.int .i64 ((rd_T31 x7_2 x8_2).f0)) := hcc28 0 _ rfl
                      have hx28_1 : wr.cell? ⟨go28, (x8_2 : Int).toNat * 6 + 1, none⟩ = some (.int .i64 ((rd_T31 x7_2 x8_2).f1)) := hcc28 1 _ rfl
                      have hx28_2 : wr.cell? ⟨go28, (x8_2 : Int).toNat * 6 + 2, none⟩ = some (.bool ((rd_T31 x7_2 x8_2).f2)) := hcc28 2 _ rfl
                      have hx28_3 : wr.cell? ⟨go28, (x8_2 : Int).toNat * 6 + 3, none⟩ = some (.int .i64 ((rd_T31 x7_2 x8_2).f3)) := hcc28 3 _ rfl
                      have hx28_4 : wr.cell? ⟨go28, (x8_2 : Int).toNat * 6 + 4, none⟩ = some (.bool ((rd_T31 x7_2 x8_2).f4)) := hcc28 4 _ rfl
                      have hx28_5 : wr.cell? ⟨go28, (x8_2 : Int).toNat * 6 + 5, none⟩ = some (.int .i64 ((rd_T31 x7_2 x8_2).f5)) := hcc28 5 _ rfl
                      have hf28_0 : wr.frozen? ⟨go28, (x8_2 : Int).toNat * 6, none⟩ = false := hfr28 0
                      have hf28_1 : wr.frozen? ⟨go28, (x8_2 : Int).toNat * 6 + 1, none⟩ = false := hfr28 1
                      have hf28_2 : wr.frozen? ⟨go28, (x8_2 : Int).toNat * 6 + 2, none⟩ = false := hfr28 2
                      have hf28_3 : wr.frozen? ⟨go28, (x8_2 : Int).toNat * 6 + 3, none⟩ = false := hfr28 3
                      have hf28_4 : wr.frozen? ⟨go28, (x8_2 : Int).toNat * 6 + 4, none⟩ = false := hfr28 4
                      have hf28_5 : wr.frozen? ⟨go28, (x8_2 : Int).toNat * 6 + 5, none⟩ = false := hfr28 5
                      clear hcl28 hcc28 hfr28 hM28
                      replace p28 := eq_true p28
                      replace q28 := eq_true q28
                      have HX30 := Aside0.mk (show Kd.R k31 31 wr w.heap.size (fun _ => True) (.slice (some ⟨go28, 0, none⟩) x7_2.length co29) x7_2 from (by (with_reducible repeat (first | apply Kd.R_alloc | apply Kd.R_drewN | apply Kd.R_drew)); exact HO_7.out))
                      obtain ⟨ce30, hcl30, hM30, hcc30, hfr30⟩ := Kd.R_elem HX30.out z31 (x8_2 : Int) (of_decide_eq_true (by first | (with_reducible assumption) | assumption)) (by have h_ : (x8_2 : Int) < ((x7_2.length : Int) : Int) := of_decide_eq_true (by first | (with_reducible assumption) | assumption); first | exact h_ | (have e_ := (Kd.R_reads' HO_7.out).1; omega) | simpa using h_)
                      obtain rfl := k31_openM hM30
                      have HP30 := Kd.R_seg HX30.out (x8_2 : Int) (of_decide_eq_true (by first | (with_reducible assumption) | assumption)) (by have h_ : (x8_2 : Int) < ((x7_2.length : Int) : Int) := of_decide_eq_true (by first | (with_reducible assumption) | assumption); first | exact h_ | (have e_ := (Kd.R_reads' HO_7.out).1; omega) | simpa using h_) (seg := [.bool false]) (j := 4) hcl30 hcc30 (show 5 ≤ 6 from by decide) (x' := (⟨(rd_T31 x7_2 x8_2).f0, (rd_T31 x7_2 x8_2).f1, (rd_T31 x7_2 x8_2).f2, (rd_T31 x7_2 x8_2).f3, false, (rd_T31 x7_2 x8_2).f5⟩ : S31)) (k31_mkM _ _ _ (⟨(rd_T31 x7_2 x8_2).f0, (rd_T31 x7_2 x8_2).f1, (rd_T31 x7_2 x8_2).f2, (rd_T31 x7_2 x8_2).f3, false, (rd_T31 x7_2 x8_2).f5⟩ : S31) ) (fun _ hk => hk)
                      have hx30_4 := hcc30 4 _ rfl
                      (try simp only [show (k31).sz = 6 from rfl, Nat.mul_one, Nat.add_zero] at hx30_4)
                      have hf30_4 := hfr30 4
                      (try simp only [show (k31).sz = 6 from rfl, Nat.mul_one, Nat.add_zero] at hf30_4)
                      clear hcl30 hcc30 hfr30 hM30
                      go_wp2_with (first | ((with_reducible refine gate_store (t := 4) (p := 68) rfl ?_); refine store_event (t := 4) (p := 68) (v := ?vo_w31) (w1 := (wr.setCell ⟨go28, (x8_2 : Int).toNat * 6 + 4, none⟩ (.bool false))) ?hg ?ho ?hn ?hr ?_; (case ho => rfl); (case hg => rfl); (case hn => rfl); (case hr => first | (go_simp; done) | (go_simp; rfl)); intro w31 hw; have hg : wr.grownBy w31 (some go28) := (by rw [hw]; exact HP30.2); have hp_ : Kd.R k31 31 w31 w.heap.size (fun _ => True) (.slice (some ⟨go28, 0, none⟩) x7_2.length co29) y495 := (by rw [hw, Ny495.out]; exact HP30.1); clear HP30; have n0_ := Aside0.mk (hp_); have n1_ := Aside0.mk ((by rw [hw]; exact below_set (HB.out) GB28.out : Below w.heap.size w w31)); clear HO_7; clear HB; have HO_7 := n0_; have HB := n1_; clear n0_ n1_; clear hg hw hp_))
                      go_roundg k2
                      case measure => have := HJ3.out; have := HK2.out; omega
                      case rel => exact ⟨(y495), (wrap64 (x8_2 + 1)), (by first | rfl | (simp; done) | (simp [*]; done)), H', ⟨by have := HJ3.out; have := HK2.out; omega⟩, ⟨by (with_reducible repeat (first | apply Kd.R_alloc | apply Kd.R_drewN | apply Kd.R_drew)); exact HO_7.out⟩, ⟨by repeat (first | (with_reducible first | exact HB.out | apply below_alloc | apply pw_below_drewN | apply below_drew1) | exact HB.out)⟩⟩
                    · rw [if_neg c27] at H
                      exact absurd H (by simp)
                  · rw [if_neg c26] at H
                    have c26b0 : (a1 == 1) = false := beq_eq_false_iff_ne.mpr c26
                    have c26b1 : (a1 != 1) = true := bne_iff_ne.mpr c26
                    by_cases c32 : 0 ≤ x8_2
                    · rw [if_pos c32] at H
                      have c32b0 : decide (0 ≤ x8_2) = true := decide_eq_true c32
                      clear c32
                      obtain ⟨y496, hy496⟩ : ∃ y_ : List (S31), y_ = (x7_2.set (x8_2 : Int).toNat (⟨a2, (rd_T31 x7_2 x8_2).f1, (rd_T31 x7_2 x8_2).f2, (rd_T31 x7_2 x8_2).f3, (rd_T31 x7_2 x8_2).f4, (rd_T31 x7_2 x8_2).f5⟩ : S31)) := ⟨_, rfl⟩
                      replace H : (meddlerlaw15_ClashGuards.l0 k2 a1 a2 y496 (wrap64 (x8_2 + 1))) = some r := by first | (rw [hy496]; with_reducible exact H) | (have H2_ := (Option.bind_some _ _).symm.trans H; rw [hy496]; with_reducible exact H2_) | (have H2_ := (Option.bind_some _ _).symm.trans H; with_reducible exact H2_) | with_reducible exact H | (rw [hy496]; exact H) | exact H
                      have Ny496 := Aside0.mk hy496
                      clear hy496
                      have H' := Aside0.mk H
                      clear H
                      obtain ⟨Ao34, co34, eo34⟩ := Kd.R_slice HO_7.out
                      subst eo34
                      have p33 : 0 ≤ (x8_2 : Int) := of_decide_eq_true (by first | (with_reducible assumption) | assumption)
                      have q33 : (x8_2 : Int) < ((x7_2.length : Int) : Int) := of_decide_eq_true (by first | (with_reducible assumption) | assumption)
                      obtain ⟨go33, co33, eo33, gb33, gl33, cl33, HG33⟩ := Kd.R_form HO_7.out (by omega)
                      (first | cases eo33 | (injection eo33 with ea_ en_ ec_; (first | subst ea_ | (injection ea_ with ea_; subst ea_)); subst ec_; clear en_))
                      have GB33 := Aside0.mk gb33
                      have GG33 := Aside0.mk HG33
                      clear gb33 gl33 HG33
                      obtain ⟨ce33, hcl33, hM33, hcc33, hfr33⟩ := Kd.R_elem HO_7.out z31 (x8_2 : Int) p33 q33
                      obtain rfl := k31_openM hM33
                      have hx33_0 : wr.cell? ⟨go33, (x8_2 : Int).toNat * 6, none⟩ = some (.int .i64 ((rd_T31 x7_2 x8_2).f0)) := hcc33 0 _ rfl
                      have hx33_1 : wr.cell? ⟨go33, (x8_2 : Int).toNat * 6 + 1, none⟩ = some (.int .i64 ((rd_T31 x7_2 x8_2).f1)) := hcc33 1 _ rfl
                      have hx33_2 : wr.cell? ⟨go33, (x8_2 : Int).toNat * 6 + 2, none⟩ = some (.bool ((rd_T31 x7_2 x8_2).f2)) := hcc33 2 _ rfl
                      have hx33_3 : wr.cell? ⟨go33, (x8_2 : Int).toNat * 6 + 3, none⟩ = some (.int .i64 ((rd_T31 x7_2 x8_2).f3)) := hcc33 3 _ rfl
                      have hx33_4 : wr.cell? ⟨go33, (x8_2 : Int).toNat * 6 + 4, none⟩ = some (.bool ((rd_T31 x7_2 x8_2).f4)) := hcc33 4 _ rfl
                      have hx33_5 : wr.cell? ⟨go33, (x8_2 : Int).toNat * 6 + 5, none⟩ = some (.int .i64 ((rd_T31 x7_2 x8_2).f5)) := hcc33 5 _ rfl
                      have hf33_0 : wr.frozen? ⟨go33, (x8_2 : Int).toNat * 6, none⟩ = false := hfr33 0
                      have hf33_1 : wr.frozen? ⟨go33, (x8_2 : Int).toNat * 6 + 1, none⟩ = false := hfr33 1
                      have hf33_2 : wr.frozen? ⟨go33, (x8_2 : Int).toNat * 6 + 2, none⟩ = false := hfr33 2
                      have hf33_3 : wr.frozen? ⟨go33, (x8_2 : Int).toNat * 6 + 3, none⟩ = false := hfr33 3
                      have hf33_4 : wr.frozen? ⟨go33, (x8_2 : Int).toNat * 6 + 4, none⟩ = false := hfr33 4
                      have hf33_5 : wr.frozen? ⟨go33, (x8_2 : Int).toNat * 6 + 5, none⟩ = false := hfr33 5
                      clear hcl33 hcc33 hfr33 hM33
                      replace p33 := eq_true p33
                      replace q33 := eq_true q33
                      have HX35 := Aside0.mk (show Kd.R k31 31 wr w.heap.size (fun _ => True) (.slice (some ⟨go33, 0, none⟩) x7_2.length co34) x7_2 from (by (with_reducible repeat (first | apply Kd.R_alloc | apply Kd.R_drewN | apply Kd.R_drew)); exact HO_7.out))
                      obtain ⟨ce35, hcl35, hM35, hcc35, hfr35⟩ := Kd.R_elem HX35.out z31 (x8_2 : Int) (of_decide_eq_true (by first | (with_reducible assumption) | assumption)) (by have h_ : (x8_2 : Int) < ((x7_2.length : Int) : Int) := of_decide_eq_true (by first | (with_reducible assumption) | assumption); first | exact h_ | (have e_ := (Kd.R_reads' HO_7.out).1; omega) | simpa using h_)
                      obtain rfl := k31_openM hM35
                      have HP35 := Kd.R_seg HX35.out (x8_2 : Int) (of_decide_eq_true (by first | (with_reducible assumption) | assumption)) (by have h_ : (x8_2 : Int) < ((x7_2.length : Int) : Int) := of_decide_eq_true (by first | (with_reducible assumption) | assumption); first | exact h_ | (have e_ := (Kd.R_reads' HO_7.out).1; omega) | simpa using h_) (seg := [.int .i64 a2]) (j := 0) hcl35 hcc35 (show 1 ≤ 6 from by decide) (x' := (⟨a2, (rd_T31 x7_2 x8_2).f1, (rd_T31 x7_2 x8_2).f2, (rd_T31 x7_2 x8_2).f3, (rd_T31 x7_2 x8_2).f4, (rd_T31 x7_2 x8_2).f5⟩ : S31)) (k31_mkM _ _ _ (⟨a2, (rd_T31 x7_2 x8_2).f1, (rd_T31 x7_2 x8_2).f2, (rd_T31 x7_2 x8_2).f3, (rd_T31 x7_2 x8_2).f4, (rd_T31 x7_2 x8_2).f5⟩ : S31) ) (fun _ hk => hk)
                      have hx35_0 := hcc35 0 _ rfl
                      (try simp only [show (k31).sz = 6 from rfl, Nat.mul_one, Nat.add_zero] at hx35_0)
                      have hf35_0 := hfr35 0
                      (try simp only [show (k31).sz = 6 from rfl, Nat.mul_one, Nat.add_zero] at hf35_0)
                      clear hcl35 hcc35 hfr35 hM35
                      go_wp2_with (first | ((with_reducible refine gate_store (t := 3) (p := 47) rfl ?_); refine store_event (t := 3) (p := 47) (v := ?vo_w36) (w1 := (wr.setCell ⟨go33, (x8_2 : Int).toNat * 6, none⟩ (.int .i64 a2))) ?hg ?ho ?hn ?hr ?_; (case ho => rfl); (case hg => rfl); (case hn => rfl); (case hr => first | (go_simp; done) | (go_simp; rfl)); intro w36 hw; have hg : wr.grownBy w36 (some go33) := (by rw [hw]; exact HP35.2); have hp_ : Kd.R k31 31 w36 w.heap.size (fun _ => True) (.slice (some ⟨go33, 0, none⟩) x7_2.length co34) y496 := (by rw [hw, Ny496.out]; exact HP35.1); clear HP35; have n0_ := Aside0.mk (hp_); have n1_ := Aside0.mk ((by rw [hw]; exact below_set (HB.out) GB33.out : Below w.heap.size w w36)); clear HO_7; clear HB; have HO_7 := n0_; have HB := n1_; clear n0_ n1_; clear hg hw hp_))
                      go_roundg k2
                      case measure => have := HJ3.out; have := HK2.out; omega
                      case rel => exact ⟨(y496), (wrap64 (x8_2 + 1)), (by first | rfl | (simp; done) | (simp [*]; done)), H', ⟨by have := HJ3.out; have := HK2.out; omega⟩, ⟨by (with_reducible repeat (first | apply Kd.R_alloc | apply Kd.R_drewN | apply Kd.R_drew)); exact HO_7.out⟩, ⟨by repeat (first | (with_reducible first | exact HB.out | apply below_alloc | apply pw_below_drewN | apply below_drew1) | exact HB.out)⟩⟩
                    · rw [if_neg c32] at H
                      exact absurd H (by simp)
              · rw [if_neg c16] at H
                have c16b0 : decide (x8_2 < (x7_2.length : Int)) = false := decide_eq_false c16
                clear c16
                replace H := Option.bind_eq_some_iff.mp H
                obtain ⟨t489, A370, H⟩ := H
                replace H : (if (t489.length : Int) = 0 then ((meddlerlaw15_known.f k2).bind fun t492 => (some t492)) else (some false)) = some r := H
                have A37 := Aside0.mk A370
                clear A370
                by_cases c38 : (t489.length : Int) = 0
                · rw [if_pos c38] at H
                  have c38b0 : ((t489.length : Int) == 0) = true := beq_iff_eq.mpr c38
                  have c38b1 : ((t489.length : Int) != 0) = false := bne_eq_false_iff_eq.mpr c38
                  clear c38
                  replace H := Option.bind_eq_some_iff.mp H
                  obtain ⟨t492, A390, H⟩ := H
                  replace H : (some t492) = some r := H
                  have A39 := Aside0.mk A390
                  clear A390
                  obtain rfl := Option.some.inj H
                  obtain ⟨Ao40, co40, eo40⟩ := Kd.R_slice HO_7.out
                  subst eo40
                  go_wp2_with (first | ((with_reducible refine gate_callee (f := 20) rfl ?_); refine goesL_ (some 70) rfl rfl Try.func20 (by kernel_rfl) rfl #[.slice Ao40 x7_2.length co40] rfl (by (try simp only [List.map_toArray, List.map_cons, List.map_nil]); first | done | rfl | (simp only [List.length_drop, List.length_take]; rfl)) ?_; (with_reducible refine (clash_All.calls k2 _ _ x7_2 t489 _ ?side1 ?side2 A37.out).mono ?_); (case side1 => repeat (first | exact (Kd.R_reads' HO_7.out).2.2 | (with_reducible refine Kd.C_alloc ?_ _) | (with_reducible refine Kd.C_drewN ?_ _) | (with_reducible refine Kd.C_drew ?_))); (case side2 => exact (Kd.R_reads' HO_7.out).2.1); rintro e w41 ⟨v490, rfl, ho0, hb⟩; refine ⟨_, rfl, ?_⟩; have n0_ := Aside0.mk (Kd.R_below (by (with_reducible repeat (first | apply Kd.R_alloc | apply Kd.R_drewN | apply Kd.R_drew)); exact HO_7.out) hb); have n1_ := Aside0.mk (Kd.R_lower ho0 (below_size (by repeat (first | (with_reducible first | exact HB.out | apply below_alloc | apply pw_below_drewN | apply below_drew1) | exact HB.out)))); have n2_ := Aside0.mk (below_step (by repeat (first | (with_reducible first | exact HB.out | apply below_alloc | apply pw_below_drewN | apply below_drew1) | exact HB.out)) hb); clear HO_7; clear HB; have HO_7 := n0_; have HO491 := n1_; have HB := n2_; clear n0_ n1_ n2_; (try clear hb); (try clear hb2); (try clear hk); (try clear hi); (try clear ho0); obtain ⟨Ao42, co42, eo42⟩ := Kd.R_slice HO491.out; subst eo42) | (go_at_call 22; (with_reducible refine (meddlerlaw15_known.calls k2  t492 _ A39.out).mono ?_); rintro e w43 ⟨rfl, hb⟩; have n0_ := Aside0.mk (Kd.R_below (by (with_reducible repeat (first | apply Kd.R_alloc | apply Kd.R_drewN | apply Kd.R_drew)); exact HO_7.out) hb); have n1_ := Aside0.mk (Kd.R_below (by (with_reducible repeat (first | apply Kd.R_alloc | apply Kd.R_drewN | apply Kd.R_drew)); exact HO491.out) hb); have n2_ := Aside0.mk (below_step (by repeat (first | (with_reducible first | exact HB.out | apply below_alloc | apply pw_below_drewN | apply below_drew1) | exact HB.out)) hb); clear HO_7; clear HO491; clear HB; have HO_7 := n0_; have HO491 := n1_; have HB := n2_; clear n0_ n1_ n2_; (try clear hb); (try clear hb2); (try clear hk); (try clear hi)))
                  go_ret
                  exact ⟨by first | rfl | (simp [errW_none, errW_some] <;> rfl) | (simp [*, errW_none, errW_some] <;> rfl), by repeat (first | (with_reducible first | exact HB.out | apply below_alloc | apply pw_below_drewN | apply below_drew1) | exact HB.out)⟩
                · rw [if_neg c38] at H
                  have c38b0 : ((t489.length : Int) == 0) = false := beq_eq_false_iff_ne.mpr c38
                  have c38b1 : ((t489.length : Int) != 0) = true := bne_iff_ne.mpr c38
                  have c38b2 : ¬ (t489 = []) := fun h_ => c38 (by rw [h_]; rfl)
                  obtain rfl := Option.some.inj H
                  obtain ⟨Ao44, co44, eo44⟩ := Kd.R_slice HO_7.out
                  subst eo44
                  go_wp2_with (first | ((with_reducible refine gate_callee (f := 20) rfl ?_); refine goesL_ (some 70) rfl rfl Try.func20 (by kernel_rfl) rfl #[.slice Ao44 x7_2.length co44] rfl (by (try simp only [List.map_toArray, List.map_cons, List.map_nil]); first | done | rfl | (simp only [List.length_drop, List.length_take]; rfl)) ?_; (with_reducible refine (clash_All.calls k2 _ _ x7_2 t489 _ ?side1 ?side2 A37.out).mono ?_); (case side1 => repeat (first | exact (Kd.R_reads' HO_7.out).2.2 | (with_reducible refine Kd.C_alloc ?_ _) | (with_reducible refine Kd.C_drewN ?_ _) | (with_reducible refine Kd.C_drew ?_))); (case side2 => exact (Kd.R_reads' HO_7.out).2.1); rintro e w45 ⟨v490, rfl, ho0, hb⟩; refine ⟨_, rfl, ?_⟩; have n0_ := Aside0.mk (Kd.R_below (by (with_reducible repeat (first | apply Kd.R_alloc | apply Kd.R_drewN | apply Kd.R_drew)); exact HO_7.out) hb); have n1_ := Aside0.mk (Kd.R_lower ho0 (below_size (by repeat (first | (with_reducible first | exact HB.out | apply below_alloc | apply pw_below_drewN | apply below_drew1) | exact HB.out)))); have n2_ := Aside0.mk (below_step (by repeat (first | (with_reducible first | exact HB.out | apply below_alloc | apply pw_below_drewN | apply below_drew1) | exact HB.out)) hb); clear HO_7; clear HB; have HO_7 := n0_; have HO491 := n1_; have HB := n2_; clear n0_ n1_ n2_; (try clear hb); (try clear hb2); (try clear hk); (try clear hi); (try clear ho0); obtain ⟨Ao46, co46, eo46⟩ := Kd.R_slice HO491.out; subst eo46))
                  go_ret
                  exact ⟨by first | rfl | (simp [errW_none, errW_some] <;> rfl) | (simp [*, errW_none, errW_some] <;> rfl), by repeat (first | (with_reducible first | exact HB.out | apply below_alloc | apply pw_below_drewN | apply below_drew1) | exact HB.out)⟩
        · rw [if_neg c12] at H
          exact absurd H (by simp)
end Go.Proofs.Ytadnjibgdpjnlaa.Rp
