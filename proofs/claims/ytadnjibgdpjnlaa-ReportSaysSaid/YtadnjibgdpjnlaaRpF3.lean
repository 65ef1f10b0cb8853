/- An own text of this seat: Lean functions with the answers of Go functions, and that the Go code comes to them. Written by a program of this session out of the translation. -/
import Derived.Test.YtadnjibgdpjnlaaRpx0
import Derived.Test.YtadnjibgdpjnlaaRpx1
import Derived.Test.YtadnjibgdpjnlaaRpF12
import Derived.Test.YtadnjibgdpjnlaaRpExu
namespace Go.Proofs.Ytadnjibgdpjnlaa.Rp
open Go.RowKit Go.Proofs.YtadnjibgdpjnlaaW.PrintWords Go.Proofs.YtadnjibgdpjnlaaW.PrintLast Go.Proofs.YtadnjibgdpjnlaaW.PrintMore
attribute [local go_sem] max2_int min2_int max_two min_two max_three min_three max_four min_four   -- for this text's walks alone
set_option linter.unusedVariables false
set_option linter.unusedSimpArgs false

attribute [local go_sem high] eqA24
/-! ### meddlerlaw17_ReportSays: function 3 -/
mutual
def meddlerlaw17_ReportSays.j0 : Nat → Int → List (S31) → Bool → Bool → Int → Int → Int → Int → Int → Int → Option (Bool)
  | 0, _, _, _, _, _, _, _, _, _, _ => none
  | k + 1, x1, x2, x3, x23, x190000, x190001, x190002, x190003, x190004, x190005 => if x23 = true then (some true) else (if 4 ≤ 2513169434916 then (meddlerlaw17_ReportSays.l0 k x1 x2 x3 0 x190000 x190001 x190002 x190003 x190004 x190005 (List.replicate 4 z35) 0 true) else (none))
def meddlerlaw17_ReportSays.l0 : Nat → Int → List (S31) → Bool → Int → Int → Int → Int → Int → Int → Int → List (S35) → Int → Bool → Option (Bool)
  | 0, _, _, _, _, _, _, _, _, _, _, _, _, _ => none
  | k + 1, x1, x2, x3, x10, x190000, x190001, x190002, x190003, x190004, x190005, x194000, x194002, x194003 => if x10 < (x2.length : Int) then (if 0 ≤ x10 then (if ((rd_T31 x2 x10).f5) < 0 then (some true) else (if ((rd_T31 x2 x10).f5) ≥ 2147483648 then (some true) else (if 0 ≤ x1 then (if x1 < (x194000.length : Int) then (if ((rd_T35 x194000 x1).f2).length < 2932031007402 then (meddlerlaw17_ReportSays.l0 k x1 x2 x3 (wrap64 (x10 + 1)) x190000 x190001 x190002 x190003 x190004 x190005 (x194000.set (x1 : Int).toNat (⟨(rd_T35 x194000 x1).f0, (rd_T35 x194000 x1).f1, (((rd_T35 x194000 x1).f2) ++ [(⟨(rd_T31 x2 x10).f0, (rd_T31 x2 x10).f1, (rd_T31 x2 x10).f2, (rd_T31 x2 x10).f3, false, (rd_T31 x2 x10).f5⟩ : S31)]), (rd_T35 x194000 x1).f3, (rd_T35 x194000 x1).f4, (rd_T35 x194000 x1).f5⟩ : S35)) x194002 x194003) else (none)) else (none)) else (none)))) else (none)) else (if x3 = true then (if 0 ≤ x1 then (if x1 < (x194000.length : Int) then (meddlerlaw17_ReportSays.j2 k x3 x190000 x190001 x190002 x190003 x190004 x190005 (x194000.set (x1 : Int).toNat (⟨(rd_T35 x194000 x1).f0, (rd_T35 x194000 x1).f1, (rd_T35 x194000 x1).f2, (([(⟨x190000, x190001, x190002, x190003, x190004, x190005⟩ : S24), (⟨x190000, x190001, x190002, x190003, x190004, x190005⟩ : S24)] : List (S24))), (rd_T35 x194000 x1).f4, (rd_T35 x194000 x1).f5⟩ : S35)) x194002 x194003) else (none)) else (none)) else (meddlerlaw17_ReportSays.j2 k x3 x190000 x190001 x190002 x190003 x190004 x190005 x194000 x194002 x194003))
def meddlerlaw17_ReportSays.j2 : Nat → Bool → Int → Int → Int → Int → Int → Int → List (S35) → Int → Bool → Option (Bool)
  | 0, _, _, _, _, _, _, _, _, _, _ => none
  | k + 1, x3, x190000, x190001, x190002, x190003, x190004, x190005, x194000, x194002, x194003 => (report_Of.f k x194000 ([] : List (S115)) x194002 x194003).bind fun bt205 => (if x3 = true then (if bt205.1 = 2 then (if (bt205.2.2.2.length : Int) = 1 then (if 0 < (bt205.2.2.2.length : Int) then (if (((rd_T24 bt205.2.2.2 0).f0) == x190000 && (((rd_T24 bt205.2.2.2 0).f1) == x190001 && (((rd_T24 bt205.2.2.2 0).f2) == x190002 && (((rd_T24 bt205.2.2.2 0).f3) == x190003 && (((rd_T24 bt205.2.2.2 0).f4) == x190004 && (((rd_T24 bt205.2.2.2 0).f5) == x190005)))))) = true then ((meddlerlaw17_known.f k).bind fun t213 => (some t213)) else (some false)) else (none)) else (some false)) else (some false)) else (if bt205.1 = 3 then (if (bt205.2.2.2.length : Int) = 0 then ((meddlerlaw17_known.f k).bind fun t214 => (some t214)) else (some false)) else (some false)))
end
def meddlerlaw17_ReportSays.f (k : Nat) (a0_0 : Int) (a0_1 : Int) (a0_2 : Int) (a0_3 : Int) (a0_4 : Int) (a0_5 : Int) (a1 : Int) (l2 : List (S31)) (a3 : Bool) : Option (Bool) := if a1 < 0 then (meddlerlaw17_ReportSays.j0 k a1 l2 a3 true a0_0 a0_1 a0_2 a0_3 a0_4 a0_5) else (if a1 > 3 then (meddlerlaw17_ReportSays.j0 k a1 l2 a3 true a0_0 a0_1 a0_2 a0_3 a0_4 a0_5) else (meddlerlaw17_ReportSays.j0 k a1 l2 a3 (decide ((l2.length : Int) > 20)) a0_0 a0_1 a0_2 a0_3 a0_4 a0_5))
theorem meddlerlaw17_ReportSays.mono_l : ∀ k, (∀ y0 y1 y2 y3 y4 y5 y6 y7 y8 y9, LeO (meddlerlaw17_ReportSays.j0 k y0 y1 y2 y3 y4 y5 y6 y7 y8 y9) (meddlerlaw17_ReportSays.j0 (k + 1) y0 y1 y2 y3 y4 y5 y6 y7 y8 y9)) ∧ (∀ y0 y1 y2 y3 y4 y5 y6 y7 y8 y9 y10 y11 y12, LeO (meddlerlaw17_ReportSays.l0 k y0 y1 y2 y3 y4 y5 y6 y7 y8 y9 y10 y11 y12) (meddlerlaw17_ReportSays.l0 (k + 1) y0 y1 y2 y3 y4 y5 y6 y7 y8 y9 y10 y11 y12)) ∧ (∀ y0 y1 y2 y3 y4 y5 y6 y7 y8 y9, LeO (meddlerlaw17_ReportSays.j2 k y0 y1 y2 y3 y4 y5 y6 y7 y8 y9) (meddlerlaw17_ReportSays.j2 (k + 1) y0 y1 y2 y3 y4 y5 y6 y7 y8 y9))
  | 0 => ⟨fun _ _ _ _ _ _ _ _ _ _ r h => by simp [meddlerlaw17_ReportSays.j0] at h, fun _ _ _ _ _ _ _ _ _ _ _ _ _ r h => by simp [meddlerlaw17_ReportSays.l0] at h, fun _ _ _ _ _ _ _ _ _ _ r h => by simp [meddlerlaw17_ReportSays.j2] at h⟩
  | k + 1 => by
    obtain ⟨ih0, ih1, ih2⟩ := meddlerlaw17_ReportSays.mono_l k
    refine ⟨?_, ?_, ?_⟩
    · intro y0 y1 y2 y3 y4 y5 y6 y7 y8 y9
      unfold meddlerlaw17_ReportSays.j0
      repeat' first
      | (with_reducible exact ih0 _ _ _ _ _ _ _ _ _ _)
      | (with_reducible exact ih1 _ _ _ _ _ _ _ _ _ _ _ _ _)
      | (with_reducible exact ih2 _ _ _ _ _ _ _ _ _ _)
      | (with_reducible exact meddlerlaw17_known.mono _)
      | (with_reducible exact report_Of.mono _ _ _ _ _)
      | (with_reducible exact LeO.refl _)
      | (with_reducible exact LeO.none _)
      | (with_reducible refine LeO.ite ?_ ?_)
      | (with_reducible refine LeO.bind ?_ (fun _ => ?_))
      | exact ih0 _ _ _ _ _ _ _ _ _ _
      | exact ih1 _ _ _ _ _ _ _ _ _ _ _ _ _
      | exact ih2 _ _ _ _ _ _ _ _ _ _
      | exact meddlerlaw17_known.mono _
      | exact report_Of.mono _ _ _ _ _
      | exact LeO.none _
      | refine LeO.ite ?_ ?_
      | refine LeO.bind ?_ (fun _ => ?_)
    · intro y0 y1 y2 y3 y4 y5 y6 y7 y8 y9 y10 y11 y12
      unfold meddlerlaw17_ReportSays.l0
      repeat' first
      | (with_reducible exact ih0 _ _ _ _ _ _ _ _ _ _)
      | (with_reducible exact ih1 _ _ _ _ _ _ _ _ _ _ _ _ _)
      | (with_reducible exact ih2 _ _ _ _ _ _ _ _ _ _)
      | (with_reducible exact meddlerlaw17_known.mono _)
      | (with_reducible exact report_Of.mono _ _ _ _ _)
      | (with_reducible exact LeO.refl _)
      | (with_reducible exact LeO.none _)
      | (with_reducible refine LeO.ite ?_ ?_)
      | (with_reducible refine LeO.bind ?_ (fun _ => ?_))
      | exact ih0 _ _ _ _ _ _ _ _ _ _
      | exact ih1 _ _ _ _ _ _ _ _ _ _ _ _ _
      | exact ih2 _ _ _ _ _ _ _ _ _ _
      | exact meddlerlaw17_known.mono _
      | exact report_Of.mono _ _ _ _ _
      | exact LeO.none _
      | refine LeO.ite ?_ ?_
      | refine LeO.bind ?_ (fun _ => ?_)
    · intro y0 y1 y2 y3 y4 y5 y6 y7 y8 y9
      unfold meddlerlaw17_ReportSays.j2
      repeat' first
      | (with_reducible exact ih0 _ _ _ _ _ _ _ _ _ _)
      | (with_reducible exact ih1 _ _ _ _ _ _ _ _ _ _ _ _ _)
      | (with_reducible exact ih2 _ _ _ _ _ _ _ _ _ _)
      | (with_reducible exact meddlerlaw17_known.mono _)
      | (with_reducible exact report_Of.mono _ _ _ _ _)
      | (with_reducible exact LeO.refl _)
      | (with_reducible exact LeO.none _)
      | (with_reducible refine LeO.ite ?_ ?_)
      | (with_reducible refine LeO.bind ?_ (fun _ => ?_))
      | exact ih0 _ _ _ _ _ _ _ _ _ _
      | exact ih1 _ _ _ _ _ _ _ _ _ _ _ _ _
      | exact ih2 _ _ _ _ _ _ _ _ _ _
      | exact meddlerlaw17_known.mono _
      | exact report_Of.mono _ _ _ _ _
      | exact LeO.none _
      | refine LeO.ite ?_ ?_
      | refine LeO.bind ?_ (fun _ => ?_)
theorem meddlerlaw17_ReportSays.mono : ∀ a0 a1 a2 a3 a4 a5 a6 a7 a8 k, LeO (meddlerlaw17_ReportSays.f k a0 a1 a2 a3 a4 a5 a6 a7 a8) (meddlerlaw17_ReportSays.f (k + 1) a0 a1 a2 a3 a4 a5 a6 a7 a8) := by
  intro a0 a1 a2 a3 a4 a5 a6 a7 a8 k
  obtain ⟨ih0, ih1, ih2⟩ := meddlerlaw17_ReportSays.mono_l k
  unfold meddlerlaw17_ReportSays.f
  repeat' first
      | (with_reducible exact ih0 _ _ _ _ _ _ _ _ _ _)
      | (with_reducible exact ih1 _ _ _ _ _ _ _ _ _ _ _ _ _)
      | (with_reducible exact ih2 _ _ _ _ _ _ _ _ _ _)
      | (with_reducible exact meddlerlaw17_known.mono _)
      | (with_reducible exact report_Of.mono _ _ _ _ _)
      | (with_reducible exact LeO.refl _)
      | (with_reducible exact LeO.none _)
      | (with_reducible refine LeO.ite ?_ ?_)
      | (with_reducible refine LeO.bind ?_ (fun _ => ?_))
      | exact ih0 _ _ _ _ _ _ _ _ _ _
      | exact ih1 _ _ _ _ _ _ _ _ _ _ _ _ _
      | exact ih2 _ _ _ _ _ _ _ _ _ _
      | exact meddlerlaw17_known.mono _
      | exact report_Of.mono _ _ _ _ _
      | exact LeO.none _
      | refine LeO.ite ?_ ?_
      | refine LeO.bind ?_ (fun _ => ?_)
def meddlerlaw17_ReportSays.T11 : Bool × List (List Nat × List Nat) := (true, [([], []), ([0], [0]), ([], []), ([], []), ([3], [3]), ([], []), ([4, 5], [4, 5]), ([6], [6]), ([7], [7]), ([], []), ([9], [9]), ([8, 10], [8, 10]), ([1, 2, 0, 1, 2, 3, 4, 5, 6, 7, 8, 9, 10, 11], [1, 2]), ([12, 0, 1, 2, 3, 4, 5, 6, 7, 8, 9, 10, 11], [12]), ([13, 11, 11, 0, 1, 2, 3, 4, 5, 6, 7, 8, 9, 10, 11], [11, 13])])
def meddlerlaw17_ReportSays.B11 : List Nat := [0, 1, 0, 0, 8, 0, 56, 120, 248, 0, 512, 2040, 4095, 8191, 16383]
theorem meddlerlaw17_ReportSays.tab11 : rtab .any (opsOf Try.f3 11) = meddlerlaw17_ReportSays.T11 := by kernel_rfl
theorem meddlerlaw17_ReportSays.bits11 : waitsOk meddlerlaw17_ReportSays.T11.2 meddlerlaw17_ReportSays.B11 = true := by kernel_rfl
def meddlerlaw17_ReportSays.T16 : Bool × List (List Nat × List Nat) := (true, [([], []), ([0], [0]), ([1], [1]), ([2], [2]), ([3], [3]), ([4, 3], [3, 4]), ([5, 3], [3, 5]), ([6, 3], [3, 6]), ([3, 7], [3, 7]), ([8, 3], [8]), ([9], [9]), ([10, 9], [9, 10]), ([11, 9], [9, 11]), ([12, 9], [9, 12]), ([9], [9]), ([13, 14, 9], [9, 13, 14]), ([9, 15], [9, 15]), ([16, 9], [16]), ([17, 17], [17]), ([17, 18], [17, 18]), ([19, 18, 0, 1, 2, 3, 4, 5, 6, 7, 8, 9, 10, 11, 12, 13, 14, 15, 16, 17, 18, 19], [19])])
def meddlerlaw17_ReportSays.B16 : List Nat := [0, 1, 3, 7, 15, 31, 63, 127, 255, 511, 1023, 2047, 4095, 8191, 1023, 32767, 65535, 131071, 262143, 524287, 1048575]
theorem meddlerlaw17_ReportSays.tab16 : rtab .any (opsOf Try.f3 16) = meddlerlaw17_ReportSays.T16 := by kernel_rfl
theorem meddlerlaw17_ReportSays.bits16 : waitsOk meddlerlaw17_ReportSays.T16.2 meddlerlaw17_ReportSays.B16 = true := by kernel_rfl
set_option maxHeartbeats 8000000 in
set_option maxRecDepth 100000 in
theorem meddlerlaw17_ReportSays.calls (k : Nat) (a0_0 : Int) (a0_1 : Int) (a0_2 : Int) (a0_3 : Int) (a0_4 : Int) (a0_5 : Int) (a1 : Int) (A2 : Option Addr) (c2 : Nat) (l2 : List (S31)) (a3 : Bool) (w : World) (hr2 : Kd.C k31 w A2 l2.length l2) (hc2 : l2.length ≤ c2) (h : meddlerlaw17_ReportSays.f k a0_0 a0_1 a0_2 a0_3 a0_4 a0_5 a1 l2 a3 = some true) :
    Calls Try.prog 3 #[.agg #[.int .i64 a0_0, .int .i64 a0_1, .int .i64 a0_2, .int .i64 a0_3, .int .i64 a0_4, .int .i64 a0_5], .int .i64 a1, .slice A2 l2.length c2, .bool a3] w fun e w' => e = .returned (.bool true) ∧ Below w.heap.size w w' := by
  have hu24 := Try.underlying24
  have hu29 := Try.underlying29
  have hu31 := Try.underlying31
  have hu37 := Try.underlying37
  have HR2 := Aside0.mk hr2
  have HC2 := Aside0.mk hc2
  clear hr2 hc2
  have HB := Aside0.mk (Below.refl w.heap.size w)
  have H : (if a1 < 0 then (meddlerlaw17_ReportSays.j0 k a1 l2 a3 true a0_0 a0_1 a0_2 a0_3 a0_4 a0_5) else (if a1 > 3 then (meddlerlaw17_ReportSays.j0 k a1 l2 a3 true a0_0 a0_1 a0_2 a0_3 a0_4 a0_5) else (meddlerlaw17_ReportSays.j0 k a1 l2 a3 (decide ((l2.length : Int) > 20)) a0_0 a0_1 a0_2 a0_3 a0_4 a0_5))) = some true := h
  clear h
  have HC5 := Aside0.mk H
  clear H
  go_enter Try.func3, Try.ntmps3
  go_upto_region 1 with (first | ((with_reducible refine gate_dst (N := 4) rfl ?_); (try (refine gate_guard (by rfl) ?_; dsimp only)); refine box_event ?hg (N := 4) ?hd (cs := #[.int .i64 a0_0, .int .i64 a0_1, .int .i64 a0_2, .int .i64 a0_3, .int .i64 a0_4, .int .i64 a0_5]) (t := 24) ?hr ?_; (case hd => rfl); (case hg => rfl); (case hr => first | (go_simp; done) | (go_simp; rfl)); intro gb189 hg w6 hbox hb; have n0_ := Aside0.mk (below_step (by repeat (first | (with_reducible first | exact HB.out | apply below_alloc | apply pw_below_drewN | apply below_drew1) | exact HB.out)) hb); have n1_ := Aside0.mk (hbox); have n2_ := Aside0.mk ((by rw [hg]; exact (below_size (by repeat (first | (with_reducible first | exact HB.out | apply below_alloc | apply pw_below_drewN | apply below_drew1) | exact HB.out))) : w.heap.size ≤ gb189)); have n3_ := Aside0.mk ((by rw [hg]; exact (below_size (by repeat (first | (with_reducible first | exact HB.out | apply below_alloc | apply pw_below_drewN | apply below_drew1) | exact HB.out))) : w.heap.size ≤ gb189)); clear HB; have HB := n0_; have BK189 := n1_; have GW189 := n2_; have GE189 := n3_; clear n0_ n1_ n2_ n3_; clear hb hbox hg))
  (try simp only [Act.put, List.setIfInBounds_toArray, List.set_cons_zero, List.set_cons_succ])
  go_cut [23] (fun v23 wc => ∃ (kq : Nat) (x23_4 : Bool), v23 = .bool x23_4 ∧ Aside0 (meddlerlaw17_ReportSays.j0 kq a1 l2 a3 x23_4 a0_0 a0_1 a0_2 a0_3 a0_4 a0_5 = some true) ∧ Aside0 (kq ≤ k) ∧ Aside0 (wc.heap[gb189]? = some (.cells #[.int .i64 a0_0, .int .i64 a0_1, .int .i64 a0_2, .int .i64 a0_3, .int .i64 a0_4, .int .i64 a0_5] 24 (0, 0))) ∧ Aside0 (Below w.heap.size w wc))
  case first =>
    have H := HC5.out
    clear HC5
    by_cases c7 : a1 < 0
    · rw [if_pos c7] at H
      have c7b0 : decide (a1 < 0) = true := decide_eq_true c7
      clear c7
      (first | rw [c7b0] | (simp only [i64_w, i32_w]; rw [c7b0]) | skip)
      have H' := Aside0.mk H
      clear H
      go_wp2
      go_meet
      case rel => exact ⟨_, (true), (by first | rfl | (simp; done) | (simp [*]; done)), H', ⟨by first | omega | exact Nat.le_refl _⟩, ⟨by (with_reducible repeat (first | refine blk_drewN ?_ _ | refine blk_drew ?_ | refine blk_alloc ?_ _)); exact BK189.out⟩, ⟨by repeat (first | (with_reducible first | exact HB.out | apply below_alloc | apply pw_below_drewN | apply below_drew1 | refine below_set ?_ GE189.out) | exact HB.out)⟩⟩
    · rw [if_neg c7] at H
      have c7b0 : decide (a1 < 0) = false := decide_eq_false c7
      clear c7
      (first | rw [c7b0] | (simp only [i64_w, i32_w]; rw [c7b0]) | skip)
      by_cases c8 : a1 > 3
      · rw [if_pos c8] at H
        have c8b0 : decide (3 < a1) = true := decide_eq_true c8
        clear c8
        have H' := Aside0.mk H
        clear H
        go_wp2
        go_meet
        case rel => exact ⟨_, (true), (by first | rfl | (simp; done) | (simp [*]; done)), H', ⟨by first | omega | exact Nat.le_refl _⟩, ⟨by (with_reducible repeat (first | refine blk_drewN ?_ _ | refine blk_drew ?_ | refine blk_alloc ?_ _)); exact BK189.out⟩, ⟨by repeat (first | (with_reducible first | exact HB.out | apply below_alloc | apply pw_below_drewN | apply below_drew1 | refine below_set ?_ GE189.out) | exact HB.out)⟩⟩
      · rw [if_neg c8] at H
        have c8b0 : decide (3 < a1) = false := decide_eq_false c8
        clear c8
        have H' := Aside0.mk H
        clear H
        go_wp2
        go_meet
        case rel => exact ⟨_, (decide ((l2.length : Int) > 20)), (by first | rfl | (simp; done) | (simp [*]; done)), H', ⟨by first | omega | exact Nat.le_refl _⟩, ⟨by (with_reducible repeat (first | refine blk_drewN ?_ _ | refine blk_drew ?_ | refine blk_alloc ?_ _)); exact BK189.out⟩, ⟨by repeat (first | (with_reducible first | exact HB.out | apply below_alloc | apply pw_below_drewN | apply below_drew1 | refine below_set ?_ GE189.out) | exact HB.out)⟩⟩
  case rest =>
    clear HC5
    try clear c2
    try clear p2
    try clear c3
    try clear c7
    try clear c7b0
    try clear c8
    try clear c8b0
    obtain ⟨kq, x23_4, rfl, HA, HJ4, BK189, HB⟩ := hcut
    cases kq with
    | zero => exact absurd HA.out (by simp [meddlerlaw17_ReportSays.j0])
    | succ kj4 =>
      have H := HA.out
      clear HA
      simp only [meddlerlaw17_ReportSays.j0] at H
      by_cases c9 : x23_4 = true
      · subst c9
        have H1 : (some true) = some true := rfl
        clear H
        have H := H1
        clear H1
        have HT := Aside0.mk (Option.some.inj H)
        clear H
        go_wp2
        go_ret
        exact ⟨by first | rfl | (simp [HT.out]; done) | (simp [errW_none, errW_some] <;> rfl) | (simp [*, errW_none, errW_some] <;> rfl), by repeat (first | (with_reducible first | exact HB.out | apply below_alloc | apply pw_below_drewN | apply below_drew1 | refine below_set ?_ GE189.out) | exact HB.out)⟩
      · replace c9 := Bool.eq_false_iff.mpr c9
        subst c9
        have H1 : (if 4 ≤ 2513169434916 then (meddlerlaw17_ReportSays.l0 kj4 a1 l2 a3 0 a0_0 a0_1 a0_2 a0_3 a0_4 a0_5 (List.replicate 4 z35) 0 true) else (none)) = some true := by rw [if_neg (show ¬ (false = true) by decide)] at H; exact H
        clear H
        have H := H1
        clear H1
        by_cases c10 : 4 ≤ 2513169434916
        · rw [if_pos c10] at H
          have c10b0 := eq_true c10
          have c10b1 : decide (4 ≤ 2513169434916) = true := decide_eq_true c10
          clear c10
          obtain ⟨y190, hy190⟩ : ∃ y_ : List (S35), y_ = (List.replicate 4 z35) := ⟨_, rfl⟩
          replace H : (meddlerlaw17_ReportSays.l0 kj4 a1 l2 a3 0 a0_0 a0_1 a0_2 a0_3 a0_4 a0_5 y190 0 true) = some true := by first | (rw [hy190]; with_reducible exact H) | (have H2_ := (Option.bind_some _ _).symm.trans H; rw [hy190]; with_reducible exact H2_) | (have H2_ := (Option.bind_some _ _).symm.trans H; with_reducible exact H2_) | with_reducible exact H | (rw [hy190]; exact H) | exact H
          have Ny190 := Aside0.mk hy190
          clear hy190
          have H' := Aside0.mk H
          clear H
          go_wp2_with (first | ((with_reducible refine gate_dst (N := 24) rfl ?_); (try (refine gate_guard (by rfl) ?_; dsimp only)); refine Kd.S_make k35 _ 35 rfl (N := 24) rfl 26 _ _ rfl 4 rfl rfl Try.underlying26 (.agg #[(.slice none 0 0), (.slice none 0 0), (.slice none 0 0), (.slice none 0 0), (.int .i64 0), (.bool false)]) 112 info35 rfl (by decide) (by omega) z35 (ok := fun _ => True) (okp := fun _ => True) (k35_mkM _ _ _ z35 (Kd.R_nil _ _ _ _ _) (Kd.R_nil _ _ _ _ _) (Kd.R_nil _ _ _ _ _) (Kd.R_nil _ _ _ _ _)) (fun _ hk => hk) trivial (by omega) (by omega) (Below.refl _ _) (Nat.le_refl _) ?_; intro v191 w11 ho12 hb hg_ hnew_; clear hg_ hnew_; (first | rw [← Ny190.out] at ho12 | (simp only [Int.reduceToNat] at ho12; rw [← Ny190.out] at ho12)); have n0_ := Aside0.mk (Kd.S_lower (Kd.S_newB ho12 (g := gb189) (o := .cells #[.int .i64 a0_0, .int .i64 a0_1, .int .i64 a0_2, .int .i64 a0_3, .int .i64 a0_4, .int .i64 a0_5] 24 (0, 0)) (by (with_reducible repeat (first | refine blk_drewN ?_ _ | refine blk_drew ?_ | refine blk_alloc ?_ _)); exact BK189.out)) (below_size (by repeat (first | (with_reducible first | exact HB.out | apply below_alloc | apply pw_below_drewN | apply below_drew1 | refine below_set ?_ GE189.out) | exact HB.out)))); have n1_ := Aside0.mk (blk_below (g := gb189) (o := .cells #[.int .i64 a0_0, .int .i64 a0_1, .int .i64 a0_2, .int .i64 a0_3, .int .i64 a0_4, .int .i64 a0_5] 24 (0, 0)) (by (with_reducible repeat (first | refine blk_drewN ?_ _ | refine blk_drew ?_ | refine blk_alloc ?_ _)); exact BK189.out) hb); have n2_ := Aside0.mk (below_step (by repeat (first | (with_reducible first | exact HB.out | apply below_alloc | apply pw_below_drewN | apply below_drew1 | refine below_set ?_ GE189.out) | exact HB.out)) hb); clear BK189; clear HB; have HO192 := n0_; have BK189 := n1_; have HB := n2_; clear n0_ n1_ n2_; clear hb ho12; obtain ⟨Ao13, co13, eo13⟩ := Kd.S_slice HO192.out; subst eo13) | ((with_reducible refine gate_dst (N := 9) rfl ?_); (try (refine gate_guard (by rfl) ?_; dsimp only)); refine box_event ?hg (N := 9) ?hd (cs := #[.slice none 0 0, .slice none 0 0, .int .i64 0, .bool false]) (t := 29) ?hr ?_; (case hd => rfl); (case hg => rfl); (case hr => first | (go_simp; done) | (go_simp; rfl)); intro gb193 hg w14 hbox hb; have n0_ := Aside0.mk (Kd.S_below (by (with_reducible repeat (first | apply Kd.S_alloc | apply Kd.S_drewN | apply Kd.S_drew)); exact HO192.out) hb); have n1_ := Aside0.mk (blk_below (g := gb189) (o := .cells #[.int .i64 a0_0, .int .i64 a0_1, .int .i64 a0_2, .int .i64 a0_3, .int .i64 a0_4, .int .i64 a0_5] 24 (0, 0)) (by (with_reducible repeat (first | refine blk_drewN ?_ _ | refine blk_drew ?_ | refine blk_alloc ?_ _)); exact BK189.out) hb); have n2_ := Aside0.mk (below_step (by repeat (first | (with_reducible first | exact HB.out | apply below_alloc | apply pw_below_drewN | apply below_drew1 | refine below_set ?_ GE189.out) | exact HB.out)) hb); have n3_ := Aside0.mk (hbox); have n4_ := Aside0.mk ((by rw [hg]; exact (below_size (by repeat (first | (with_reducible first | exact HB.out | apply below_alloc | apply pw_below_drewN | apply below_drew1 | refine below_set ?_ GE189.out) | exact HB.out))) : w.heap.size ≤ gb193)); have n5_ := Aside0.mk ((by rw [hg]; exact (below_size (by repeat (first | (with_reducible first | exact HB.out | apply below_alloc | apply pw_below_drewN | apply below_drew1 | refine below_set ?_ GE189.out) | exact HB.out))) : w.heap.size ≤ gb193)); have n6_ := Aside0.mk ((by rw [hg]; exact Nat.ne_of_lt (blk_lt (g := gb189) (o := .cells #[.int .i64 a0_0, .int .i64 a0_1, .int .i64 a0_2, .int .i64 a0_3, .int .i64 a0_4, .int .i64 a0_5] 24 (0, 0)) (by (with_reducible repeat (first | refine blk_drewN ?_ _ | refine blk_drew ?_ | refine blk_alloc ?_ _)); exact BK189.out)) : gb189 ≠ gb193)); have n7_ := Aside0.mk ((by rw [hg]; exact Nat.ne_of_gt (blk_lt (g := gb189) (o := .cells #[.int .i64 a0_0, .int .i64 a0_1, .int .i64 a0_2, .int .i64 a0_3, .int .i64 a0_4, .int .i64 a0_5] 24 (0, 0)) (by (with_reducible repeat (first | refine blk_drewN ?_ _ | refine blk_drew ?_ | refine blk_alloc ?_ _)); exact BK189.out)) : gb193 ≠ gb189)); clear HO192; clear BK189; clear HB; have HO192 := n0_; have BK189 := n1_; have HB := n2_; have BK193 := n3_; have GW193 := n4_; have GE193 := n5_; have NB189_193 := n6_; have NB193_189 := n7_; clear n0_ n1_ n2_ n3_ n4_ n5_ n6_ n7_; clear hb hbox hg; have hnb15 := NB193_189.out; have hnc15 := NB189_193.out; have hcz16_0 : w14.cell? ⟨gb193, 0, none⟩ = some (.slice none 0 0) := (blk_cell BK193.out 0).trans rfl; have hcz16_1 : w14.cell? ⟨gb193, 1, none⟩ = some (.slice none 0 0) := (blk_cell BK193.out 1).trans rfl; have hcz16_2 : w14.cell? ⟨gb193, 2, none⟩ = some (.int .i64 0) := (blk_cell BK193.out 2).trans rfl; have hcz16_3 : w14.cell? ⟨gb193, 3, none⟩ = some (.bool false) := (blk_cell BK193.out 3).trans rfl; have hfz16_0 := blk_frozen BK193.out 0; have hfz16_1 := blk_frozen BK193.out 1; have hfz16_2 := blk_frozen BK193.out 2; have hfz16_3 := blk_frozen BK193.out 3))
          go_loopg [10] kj4 (fun kq v10 w' => ∃ (x10_2 : Int) (x194000_2 : List (S35)) (u194000 : Value), v10 = .int .i64 x10_2 ∧ Aside0 (meddlerlaw17_ReportSays.l0 kq a1 l2 a3 x10_2 a0_0 a0_1 a0_2 a0_3 a0_4 a0_5 x194000_2 0 true = some true) ∧ Aside0 (kq ≤ kj4) ∧ Aside0 (Kd.S k35 35 w' w.heap.size (fun k_ => k_ ≠ gb189) u194000 x194000_2) ∧ Aside0 (w'.heap[gb189]? = some (.cells #[.int .i64 a0_0, .int .i64 a0_1, .int .i64 a0_2, .int .i64 a0_3, .int .i64 a0_4, .int .i64 a0_5] 24 (0, 0))) ∧ Aside0 (w'.heap[gb193]? = some (.cells #[u194000, (.slice none 0 0), .int .i64 0, .bool true] 29 (0, 0))) ∧ Aside0 (Below w.heap.size w w'))
          case atStart => exact ⟨(0), (y190), (.slice Ao13 y190.length co13), (by first | rfl | (simp; done) | (simp [*]; done)), H', ⟨Nat.le_refl _⟩, ⟨by (with_reducible repeat (first | apply Kd.S_alloc | apply Kd.S_drewN | apply Kd.S_drew)); exact Kd.S_mono (Kd.S_far (p := ⟨gb193, 3, none⟩) (Kd.S_far (p := ⟨gb193, 2, none⟩) (Kd.S_far (p := ⟨gb193, 1, none⟩) (Kd.S_far (p := ⟨gb193, 0, none⟩) (Kd.S_types HO192.out BK193.out (by decide)) (fun _ hk => hk.2) (.slice Ao13 y190.length co13)) (fun _ hk => hk.2) (.slice none 0 0)) (fun _ hk => hk.2) (.int .i64 0)) (fun _ hk => hk.2) (.bool true)) (fun _ hk => hk.1.2)⟩, ⟨by (with_reducible repeat (first | refine blk_drewN ?_ _ | refine blk_drew ?_ | refine blk_alloc ?_ _)); refine blk_far ?_ NB189_193.out _; (with_reducible repeat (first | refine blk_drewN ?_ _ | refine blk_drew ?_ | refine blk_alloc ?_ _)); refine blk_far ?_ NB189_193.out _; (with_reducible repeat (first | refine blk_drewN ?_ _ | refine blk_drew ?_ | refine blk_alloc ?_ _)); refine blk_far ?_ NB189_193.out _; (with_reducible repeat (first | refine blk_drewN ?_ _ | refine blk_drew ?_ | refine blk_alloc ?_ _)); refine blk_far ?_ NB189_193.out _; (with_reducible repeat (first | refine blk_drewN ?_ _ | refine blk_drew ?_ | refine blk_alloc ?_ _)); exact BK189.out⟩, ⟨by (with_reducible repeat (first | refine blk_drewN ?_ _ | refine blk_drew ?_ | refine blk_alloc ?_ _)); refine blk_put (cs := #[.slice Ao13 y190.length co13, .slice none 0 0, .int .i64 0, .bool false]) ?_ 3 _ rfl; (with_reducible repeat (first | refine blk_drewN ?_ _ | refine blk_drew ?_ | refine blk_alloc ?_ _)); refine blk_put (cs := #[.slice Ao13 y190.length co13, .slice none 0 0, .int .i64 0, .bool false]) ?_ 2 _ rfl; (with_reducible repeat (first | refine blk_drewN ?_ _ | refine blk_drew ?_ | refine blk_alloc ?_ _)); refine blk_put (cs := #[.slice Ao13 y190.length co13, .slice none 0 0, .int .i64 0, .bool false]) ?_ 1 _ rfl; (with_reducible repeat (first | refine blk_drewN ?_ _ | refine blk_drew ?_ | refine blk_alloc ?_ _)); refine blk_put (cs := #[.slice none 0 0, .slice none 0 0, .int .i64 0, .bool false]) ?_ 0 _ rfl; (with_reducible repeat (first | refine blk_drewN ?_ _ | refine blk_drew ?_ | refine blk_alloc ?_ _)); exact BK193.out⟩, ⟨by repeat (first | (with_reducible first | exact HB.out | apply below_alloc | apply pw_below_drewN | apply below_drew1 | refine below_set ?_ GE189.out | refine below_set ?_ GE193.out) | exact HB.out)⟩⟩
          case round =>
            clear H'
            try clear c1
            try clear c2
            try clear p2
            try clear c3
            try clear c7
            try clear c7b0
            try clear c8
            try clear c8b0
            try clear c9
            try clear c10
            try clear c10b0
            try clear c10b1
            try clear c15
            try clear hcz16_0
            try clear hcz16_1
            try clear hcz16_2
            try clear hcz16_3
            try clear hfz16_0
            try clear hfz16_1
            try clear hfz16_2
            try clear hfz16_3
            try clear p2
            obtain ⟨x10_2, x194000_2, u194000, rfl, HA, HK2, HO_194000, BK189, BK193, HB⟩ := hrel
            cases gk with
            | zero => exact absurd HA.out (by simp [meddlerlaw17_ReportSays.l0])
            | succ k2 =>
              have H := HA.out
              clear HA
              simp only [meddlerlaw17_ReportSays.l0] at H
              by_cases c17 : x10_2 < (l2.length : Int)
              · rw [if_pos c17] at H
                have c17b0 : decide (x10_2 < (l2.length : Int)) = true := decide_eq_true c17
                clear c17
                by_cases c18 : 0 ≤ x10_2
                · rw [if_pos c18] at H
                  have c18b0 : decide (0 ≤ x10_2) = true := decide_eq_true c18
                  clear c18
                  by_cases c19 : ((rd_T31 l2 x10_2).f5) < 0
                  · rw [if_pos c19] at H
                    have c19b0 : decide (((rd_T31 l2 x10_2).f5) < 0) = true := decide_eq_true c19
                    clear c19
                    have HT := Aside0.mk (Option.some.inj H)
                    clear H
                    have p194 : 0 ≤ (x10_2 : Int) := of_decide_eq_true (by first | (with_reducible assumption) | assumption)
                    have q194 : x10_2 < (l2.length : Int) := of_decide_eq_true (by first | (with_reducible assumption) | assumption)
                    obtain ⟨ad194, e194, hx194_0, hx194_1, hx194_2, hx194_3, hx194_4, hx194_5⟩ := at_T31 HR2.out x10_2 p194 q194
                    cases e194
                    replace hx194_0 := (HB.out.cell (World.block_lt_of_cell? w _ hx194_0)).trans hx194_0
                    replace hx194_1 := (HB.out.cell (World.block_lt_of_cell? w _ hx194_1)).trans hx194_1
                    replace hx194_2 := (HB.out.cell (World.block_lt_of_cell? w _ hx194_2)).trans hx194_2
                    replace hx194_3 := (HB.out.cell (World.block_lt_of_cell? w _ hx194_3)).trans hx194_3
                    replace hx194_4 := (HB.out.cell (World.block_lt_of_cell? w _ hx194_4)).trans hx194_4
                    replace hx194_5 := (HB.out.cell (World.block_lt_of_cell? w _ hx194_5)).trans hx194_5
                    replace p194 := eq_true p194
                    replace q194 := eq_true q194
                    go_wp2_with (first | ((with_reducible refine gate_dst (N := 11) rfl ?_); (try (refine gate_guard (by rfl) ?_; dsimp only)); refine box_event ?hg (N := 11) ?hd (cs := #[.int .i64 0, .int .i64 0, .bool false, .int .i64 0, .bool false, .int .i64 0]) (t := 31) ?hr ?_; (case hd => rfl); (case hg => rfl); (case hr => first | (go_simp; done) | (go_simp; rfl)); intro gb195 hg w20 hbox hb; have n0_ := Aside0.mk (Kd.S_below (Kd.S_elderB (by (with_reducible repeat (first | apply Kd.S_alloc | apply Kd.S_drewN | apply Kd.S_drew)); exact HO_194000.out) gb195 (Nat.le_of_eq hg.symm)) hb); have n1_ := Aside0.mk (blk_below (g := gb189) (o := .cells #[.int .i64 a0_0, .int .i64 a0_1, .int .i64 a0_2, .int .i64 a0_3, .int .i64 a0_4, .int .i64 a0_5] 24 (0, 0)) (by (with_reducible repeat (first | refine blk_drewN ?_ _ | refine blk_drew ?_ | refine blk_alloc ?_ _)); exact BK189.out) hb); have n2_ := Aside0.mk (blk_below (g := gb193) (o := .cells #[u194000, .slice none 0 0, .int .i64 0, .bool true] 29 (0, 0)) (by (with_reducible repeat (first | refine blk_drewN ?_ _ | refine blk_drew ?_ | refine blk_alloc ?_ _)); exact BK193.out) hb); have n3_ := Aside0.mk (below_step (by repeat (first | (with_reducible first | exact HB.out | apply below_alloc | apply pw_below_drewN | apply below_drew1 | refine below_set ?_ GE189.out | refine below_set ?_ GE193.out) | exact HB.out)) hb); have n4_ := Aside0.mk (hbox); have n5_ := Aside0.mk ((by rw [hg]; exact (below_size (by repeat (first | (with_reducible first | exact HB.out | apply below_alloc | apply pw_below_drewN | apply below_drew1 | refine below_set ?_ GE189.out | refine below_set ?_ GE193.out) | exact HB.out))) : w.heap.size ≤ gb195)); have n6_ := Aside0.mk ((by rw [hg]; exact (below_size (by repeat (first | (with_reducible first | exact HB.out | apply below_alloc | apply pw_below_drewN | apply below_drew1 | refine below_set ?_ GE189.out | refine below_set ?_ GE193.out) | exact HB.out))) : w.heap.size ≤ gb195)); have n7_ := Aside0.mk ((by rw [hg]; exact Nat.ne_of_lt (blk_lt (g := gb189) (o := .cells #[.int .i64 a0_0, .int .i64 a0_1, .int .i64 a0_2, .int .i64 a0_3, .int .i64 a0_4, .int .i64 a0_5] 24 (0, 0)) (by (with_reducible repeat (first | refine blk_drewN ?_ _ | refine blk_drew ?_ | refine blk_alloc ?_ _)); exact BK189.out)) : gb189 ≠ gb195)); have n8_ := Aside0.mk ((by rw [hg]; exact Nat.ne_of_gt (blk_lt (g := gb189) (o := .cells #[.int .i64 a0_0, .int .i64 a0_1, .int .i64 a0_2, .int .i64 a0_3, .int .i64 a0_4, .int .i64 a0_5] 24 (0, 0)) (by (with_reducible repeat (first | refine blk_drewN ?_ _ | refine blk_drew ?_ | refine blk_alloc ?_ _)); exact BK189.out)) : gb195 ≠ gb189)); have n9_ := Aside0.mk ((by rw [hg]; exact Nat.ne_of_lt (blk_lt (g := gb193) (o := .cells #[u194000, .slice none 0 0, .int .i64 0, .bool true] 29 (0, 0)) (by (with_reducible repeat (first | refine blk_drewN ?_ _ | refine blk_drew ?_ | refine blk_alloc ?_ _)); exact BK193.out)) : gb193 ≠ gb195)); have n10_ := Aside0.mk ((by rw [hg]; exact Nat.ne_of_gt (blk_lt (g := gb193) (o := .cells #[u194000, .slice none 0 0, .int .i64 0, .bool true] 29 (0, 0)) (by (with_reducible repeat (first | refine blk_drewN ?_ _ | refine blk_drew ?_ | refine blk_alloc ?_ _)); exact BK193.out)) : gb195 ≠ gb193)); clear HO_194000; clear BK189; clear BK193; clear HB; have HO_194000 := n0_; have BK189 := n1_; have BK193 := n2_; have HB := n3_; have BK195 := n4_; have GW195 := n5_; have GE195 := n6_; have NB189_195 := n7_; have NB195_189 := n8_; have NB193_195 := n9_; have NB195_193 := n10_; clear n0_ n1_ n2_ n3_ n4_ n5_ n6_ n7_ n8_ n9_ n10_; clear hb hbox hg; have hnb21 := NB195_189.out; have hnc21 := NB189_195.out; have hnb22 := NB195_193.out; have hnc22 := NB193_195.out; have hcz23_0 : w20.cell? ⟨gb195, 0, none⟩ = some (.int .i64 0) := (blk_cell BK195.out 0).trans rfl; have hcz23_1 : w20.cell? ⟨gb195, 1, none⟩ = some (.int .i64 0) := (blk_cell BK195.out 1).trans rfl; have hcz23_2 : w20.cell? ⟨gb195, 2, none⟩ = some (.bool false) := (blk_cell BK195.out 2).trans rfl; have hcz23_3 : w20.cell? ⟨gb195, 3, none⟩ = some (.int .i64 0) := (blk_cell BK195.out 3).trans rfl; have hcz23_4 : w20.cell? ⟨gb195, 4, none⟩ = some (.bool false) := (blk_cell BK195.out 4).trans rfl; have hcz23_5 : w20.cell? ⟨gb195, 5, none⟩ = some (.int .i64 0) := (blk_cell BK195.out 5).trans rfl; have hfz23_0 := blk_frozen BK195.out 0; have hfz23_1 := blk_frozen BK195.out 1; have hfz23_2 := blk_frozen BK195.out 2; have hfz23_3 := blk_frozen BK195.out 3; have hfz23_4 := blk_frozen BK195.out 4; have hfz23_5 := blk_frozen BK195.out 5))
                    go_ret
                    exact ⟨by first | rfl | (simp [HT.out]; done) | (simp [errW_none, errW_some] <;> rfl) | (simp [*, errW_none, errW_some] <;> rfl), by repeat (first | (with_reducible first | exact HB.out | apply below_alloc | apply pw_below_drewN | apply below_drew1 | refine below_set ?_ GE189.out | refine below_set ?_ GE193.out | refine below_set ?_ GE195.out) | exact HB.out)⟩
                  · rw [if_neg c19] at H
                    have c19b0 : decide (((rd_T31 l2 x10_2).f5) < 0) = false := decide_eq_false c19
                    clear c19
                    by_cases c24 : ((rd_T31 l2 x10_2).f5) ≥ 2147483648
                    · rw [if_pos c24] at H
                      have c24b0 : decide (2147483648 ≤ ((rd_T31 l2 x10_2).f5)) = true := decide_eq_true c24
                      clear c24
                      have HT := Aside0.mk (Option.some.inj H)
                      clear H
                      have p194 : 0 ≤ (x10_2 : Int) := of_decide_eq_true (by first | (with_reducible assumption) | assumption)
                      have q194 : x10_2 < (l2.length : Int) := of_decide_eq_true (by first | (with_reducible assumption) | assumption)
                      obtain ⟨ad194, e194, hx194_0, hx194_1, hx194_2, hx194_3, hx194_4, hx194_5⟩ := at_T31 HR2.out x10_2 p194 q194
                      cases e194
                      replace hx194_0 := (HB.out.cell (World.block_lt_of_cell? w _ hx194_0)).trans hx194_0
                      replace hx194_1 := (HB.out.cell (World.block_lt_of_cell? w _ hx194_1)).trans hx194_1
                      replace hx194_2 := (HB.out.cell (World.block_lt_of_cell? w _ hx194_2)).trans hx194_2
                      replace hx194_3 := (HB.out.cell (World.block_lt_of_cell? w _ hx194_3)).trans hx194_3
                      replace hx194_4 := (HB.out.cell (World.block_lt_of_cell? w _ hx194_4)).trans hx194_4
                      replace hx194_5 := (HB.out.cell (World.block_lt_of_cell? w _ hx194_5)).trans hx194_5
                      replace p194 := eq_true p194
                      replace q194 := eq_true q194
                      go_wp2_with (first | ((with_reducible refine gate_dst (N := 11) rfl ?_); (try (refine gate_guard (by rfl) ?_; dsimp only)); refine box_event ?hg (N := 11) ?hd (cs := #[.int .i64 0, .int .i64 0, .bool false, .int .i64 0, .bool false, .int .i64 0]) (t := 31) ?hr ?_; (case hd => rfl); (case hg => rfl); (case hr => first | (go_simp; done) | (go_simp; rfl)); intro gb195 hg w25 hbox hb; have n0_ := Aside0.mk (Kd.S_below (Kd.S_elderB (by (with_reducible repeat (first | apply Kd.S_alloc | apply Kd.S_drewN | apply Kd.S_drew)); exact HO_194000.out) gb195 (Nat.le_of_eq hg.symm)) hb); have n1_ := Aside0.mk (blk_below (g := gb189) (o := .cells #[.int .i64 a0_0, .int .i64 a0_1, .int .i64 a0_2, .int .i64 a0_3, .int .i64 a0_4, .int .i64 a0_5] 24 (0, 0)) (by (with_reducible repeat (first | refine blk_drewN ?_ _ | refine blk_drew ?_ | refine blk_alloc ?_ _)); exact BK189.out) hb); have n2_ := Aside0.mk (blk_below (g := gb193) (o := .cells #[u194000, .slice none 0 0, .int .i64 0, .bool true] 29 (0, 0)) (by (with_reducible repeat (first | refine blk_drewN ?_ _ | refine blk_drew ?_ | refine blk_alloc ?_ _)); exact BK193.out) hb); have n3_ := Aside0.mk (below_step (by repeat (first | (with_reducible first | exact HB.out | apply below_alloc | apply pw_below_drewN | apply below_drew1 | refine below_set ?_ GE189.out | refine below_set ?_ GE193.out) | exact HB.out)) hb); have n4_ := Aside0.mk (hbox); have n5_ := Aside0.mk ((by rw [hg]; exact (below_size (by repeat (first | (with_reducible first | exact HB.out | apply below_alloc | apply pw_below_drewN | apply below_drew1 | refine below_set ?_ GE189.out | refine below_set ?_ GE193.out) | exact HB.out))) : w.heap.size ≤ gb195)); have n6_ := Aside0.mk ((by rw [hg]; exact (below_size (by repeat (first | (with_reducible first | exact HB.out | apply below_alloc | apply pw_below_drewN | apply below_drew1 | refine below_set ?_ GE189.out | refine below_set ?_ GE193.out) | exact HB.out))) : w.heap.size ≤ gb195)); have n7_ := Aside0.mk ((by rw [hg]; exact Nat.ne_of_lt (blk_lt (g := gb189) (o := .cells #[.int .i64 a0_0, .int .i64 a0_1, .int .i64 a0_2, .int .i64 a0_3, .int .i64 a0_4, .int .i64 a0_5] 24 (0, 0)) (by (with_reducible repeat (first | refine blk_drewN ?_ _ | refine blk_drew ?_ | refine blk_alloc ?_ _)); exact BK189.out)) : gb189 ≠ gb195)); have n8_ := Aside0.mk ((by rw [hg]; exact Nat.ne_of_gt (blk_lt (g := gb189) (o := .cells #[.int .i64 a0_0, .int .i64 a0_1, .int .i64 a0_2, .int .i64 a0_3, .int .i64 a0_4, .int .i64 a0_5] 24 (0, 0)) (by (with_reducible repeat (first | refine blk_drewN ?_ _ | refine blk_drew ?_ | refine blk_alloc ?_ _)); exact BK189.out)) : gb195 ≠ gb189)); have n9_ := Aside0.mk ((by rw [hg]; exact Nat.ne_of_lt (blk_lt (g := gb193) (o := .cells #[u194000, .slice none 0 0, .int .i64 0, .bool true] 29 (0, 0)) (by (with_reducible repeat (first | refine blk_drewN ?_ _ | refine blk_drew ?_ | refine blk_alloc ?_ _)); exact BK193.out)) : gb193 ≠ gb195)); have n10_ := Aside0.mk ((by rw [hg]; exact Nat.ne_of_gt (blk_lt (g := gb193) (o := .cells #[u194000, .slice none 0 0, .int .i64 0, .bool true] 29 (0, 0)) (by (with_reducible repeat (first | refine blk_drewN ?_ _ | refine blk_drew ?_ | refine blk_alloc ?_ _)); exact BK193.out)) : gb195 ≠ gb193)); clear HO_194000; clear BK189; clear BK193; clear HB; have HO_194000 := n0_; have BK189 := n1_; have BK193 := n2_; have HB := n3_; have BK195 := n4_; have GW195 := n5_; have GE195 := n6_; have NB189_195 := n7_; have NB195_189 := n8_; have NB193_195 := n9_; have NB195_193 := n10_; clear n0_ n1_ n2_ n3_ n4_ n5_ n6_ n7_ n8_ n9_ n10_; clear hb hbox hg; have hnb26 := NB195_189.out; have hnc26 := NB189_195.out; have hnb27 := NB195_193.out; have hnc27 := NB193_195.out; have hcz28_0 : w25.cell? ⟨gb195, 0, none⟩ = some (.int .i64 0) := (blk_cell BK195.out 0).trans rfl; have hcz28_1 : w25.cell? ⟨gb195, 1, none⟩ = some (.int .i64 0) := (blk_cell BK195.out 1).trans rfl; have hcz28_2 : w25.cell? ⟨gb195, 2, none⟩ = some (.bool false) := (blk_cell BK195.out 2).trans rfl; have hcz28_3 : w25.cell? ⟨gb195, 3, none⟩ = some (.int .i64 0) := (blk_cell BK195.out 3).trans rfl; have hcz28_4 : w25.cell? ⟨gb195, 4, none⟩ = some (.bool false) := (blk_cell BK195.out 4).trans rfl; have hcz28_5 : w25.cell? ⟨gb195, 5, none⟩ = some (.int .i64 0) := (blk_cell BK195.out 5).trans rfl; have hfz28_0 := blk_frozen BK195.out 0; have hfz28_1 := blk_frozen BK195.out 1; have hfz28_2 := blk_frozen BK195.out 2; have hfz28_3 := blk_frozen BK195.out 3; have hfz28_4 := blk_frozen BK195.out 4; have hfz28_5 := blk_frozen BK195.out 5))
                      go_ret
                      exact ⟨by first | rfl | (simp [HT.out]; done) | (simp [errW_none, errW_some] <;> rfl) | (simp [*, errW_none, errW_some] <;> rfl), by repeat (first | (with_reducible first | exact HB.out | apply below_alloc | apply pw_below_drewN | apply below_drew1 | refine below_set ?_ GE189.out | refine below_set ?_ GE193.out | refine below_set ?_ GE195.out) | exact HB.out)⟩
                    · rw [if_neg c24] at H
                      have c24b0 : decide (2147483648 ≤ ((rd_T31 l2 x10_2).f5)) = false := decide_eq_false c24
                      clear c24
                      by_cases c29 : 0 ≤ a1
                      · rw [if_pos c29] at H
                        have c29b0 : decide (0 ≤ a1) = true := decide_eq_true c29
                        clear c29
                        by_cases c30 : a1 < (x194000_2.length : Int)
                        · rw [if_pos c30] at H
                          have c30b0 : decide (a1 < (x194000_2.length : Int)) = true := decide_eq_true c30
                          clear c30
                          by_cases c31 : ((rd_T35 x194000_2 a1).f2).length < 2932031007402
                          · rw [if_pos c31] at H
                            have LMc31 := Aside0.mk c31
                            clear c31
                            obtain ⟨y197, hy197⟩ : ∃ y_ : List (S31), y_ = (((rd_T35 x194000_2 a1).f2) ++ [(⟨(rd_T31 l2 x10_2).f0, (rd_T31 l2 x10_2).f1, (rd_T31 l2 x10_2).f2, (rd_T31 l2 x10_2).f3, false, (rd_T31 l2 x10_2).f5⟩ : S31)]) := ⟨_, rfl⟩
                            replace H : (meddlerlaw17_ReportSays.l0 k2 a1 l2 a3 (wrap64 (x10_2 + 1)) a0_0 a0_1 a0_2 a0_3 a0_4 a0_5 (x194000_2.set (a1 : Int).toNat (⟨(rd_T35 x194000_2 a1).f0, (rd_T35 x194000_2 a1).f1, y197, (rd_T35 x194000_2 a1).f3, (rd_T35 x194000_2 a1).f4, (rd_T35 x194000_2 a1).f5⟩ : S35)) 0 true) = some true := by first | (rw [hy197]; with_reducible exact H) | (have H2_ := (Option.bind_some _ _).symm.trans H; rw [hy197]; with_reducible exact H2_) | (have H2_ := (Option.bind_some _ _).symm.trans H; with_reducible exact H2_) | with_reducible exact H | (rw [hy197]; exact H) | exact H
                            have Ny197 := Aside0.mk hy197
                            clear hy197
                            obtain ⟨y200, hy200⟩ : ∃ y_ : List (S35), y_ = (x194000_2.set (a1 : Int).toNat (⟨(rd_T35 x194000_2 a1).f0, (rd_T35 x194000_2 a1).f1, y197, (rd_T35 x194000_2 a1).f3, (rd_T35 x194000_2 a1).f4, (rd_T35 x194000_2 a1).f5⟩ : S35)) := ⟨_, rfl⟩
                            replace H : (meddlerlaw17_ReportSays.l0 k2 a1 l2 a3 (wrap64 (x10_2 + 1)) a0_0 a0_1 a0_2 a0_3 a0_4 a0_5 y200 0 true) = some true := by first | (rw [hy200]; with_reducible exact H) | (have H2_ := (Option.bind_some _ _).symm.trans H; rw [hy200]; with_reducible exact H2_) | (have H2_ := (Option.bind_some _ _).symm.trans H; with_reducible exact H2_) | with_reducible exact H | (rw [hy200]; exact H) | exact H
                            have Ny200 := Aside0.mk hy200
                            clear hy200
                            have H' := Aside0.mk H
                            clear H
                            have p194 : 0 ≤ (x10_2 : Int) := of_decide_eq_true (by first | (with_reducible assumption) | assumption)
                            have q194 : x10_2 < (l2.length : Int) := of_decide_eq_true (by first | (with_reducible assumption) | assumption)
                            obtain ⟨ad194, e194, hx194_0, hx194_1, hx194_2, hx194_3, hx194_4, hx194_5⟩ := at_T31 HR2.out x10_2 p194 q194
                            cases e194
                            replace hx194_0 := (HB.out.cell (World.block_lt_of_cell? w _ hx194_0)).trans hx194_0
                            replace hx194_1 := (HB.out.cell (World.block_lt_of_cell? w _ hx194_1)).trans hx194_1
                            replace hx194_2 := (HB.out.cell (World.block_lt_of_cell? w _ hx194_2)).trans hx194_2
                            replace hx194_3 := (HB.out.cell (World.block_lt_of_cell? w _ hx194_3)).trans hx194_3
                            replace hx194_4 := (HB.out.cell (World.block_lt_of_cell? w _ hx194_4)).trans hx194_4
                            replace hx194_5 := (HB.out.cell (World.block_lt_of_cell? w _ hx194_5)).trans hx194_5
                            replace p194 := eq_true p194
                            replace q194 := eq_true q194
                            try go_wp2_with (first | ((with_reducible refine gate_dst (N := 11) rfl ?_); (try (refine gate_guard (by rfl) ?_; dsimp only)); refine box_event ?hg (N := 11) ?hd (cs := #[.int .i64 0, .int .i64 0, .bool false, .int .i64 0, .bool false, .int .i64 0]) (t := 31) ?hr ?_; (case hd => rfl); (case hg => rfl); (case hr => first | (go_simp; done) | (go_simp; rfl)); intro gb195 hg w33 hbox hb; have n0_ := Aside0.mk (Kd.S_below (Kd.S_elderB (by (with_reducible repeat (first | apply Kd.S_alloc | apply Kd.S_drewN | apply Kd.S_drew)); exact HO_194000.out) gb195 (Nat.le_of_eq hg.symm)) hb); have n1_ := Aside0.mk (blk_below (g := gb189) (o := .cells #[.int .i64 a0_0, .int .i64 a0_1, .int .i64 a0_2, .int .i64 a0_3, .int .i64 a0_4, .int .i64 a0_5] 24 (0, 0)) (by (with_reducible repeat (first | refine blk_drewN ?_ _ | refine blk_drew ?_ | refine blk_alloc ?_ _)); exact BK189.out) hb); have n2_ := Aside0.mk (blk_below (g := gb193) (o := .cells #[u194000, .slice none 0 0, .int .i64 0, .bool true] 29 (0, 0)) (by (with_reducible repeat (first | refine blk_drewN ?_ _ | refine blk_drew ?_ | refine blk_alloc ?_ _)); exact BK193.out) hb); have n3_ := Aside0.mk (below_step (by repeat (first | (with_reducible first | exact HB.out | apply below_alloc | apply pw_below_drewN | apply below_drew1 | refine below_set ?_ GE189.out | refine below_set ?_ GE193.out) | exact HB.out)) hb); have n4_ := Aside0.mk (hbox); have n5_ := Aside0.mk ((by rw [hg]; exact (below_size (by repeat (first | (with_reducible first | exact HB.out | apply below_alloc | apply pw_below_drewN | apply below_drew1 | refine below_set ?_ GE189.out | refine below_set ?_ GE193.out) | exact HB.out))) : w.heap.size ≤ gb195)); have n6_ := Aside0.mk ((by rw [hg]; exact (below_size (by repeat (first | (with_reducible first | exact HB.out | apply below_alloc | apply pw_below_drewN | apply below_drew1 | refine below_set ?_ GE189.out | refine below_set ?_ GE193.out) | exact HB.out))) : w.heap.size ≤ gb195)); have n7_ := Aside0.mk ((by rw [hg]; exact Nat.ne_of_lt (blk_lt (g := gb189) (o := .cells #[.int .i64 a0_0, .int .i64 a0_1, .int .i64 a0_2, .int .i64 a0_3, .int .i64 a0_4, .int .i64 a0_5] 24 (0, 0)) (by (with_reducible repeat (first | refine blk_drewN ?_ _ | refine blk_drew ?_ | refine blk_alloc ?_ _)); exact BK189.out)) : gb189 ≠ gb195)); have n8_ := Aside0.mk ((by rw [hg]; exact Nat.ne_of_gt (blk_lt (g := gb189) (o := .cells #[.int .i64 a0_0, .int .i64 a0_1, .int .i64 a0_2, .int .i64 a0_3, .int .i64 a0_4, .int .i64 a0_5] 24 (0, 0)) (by (with_reducible repeat (first | refine blk_drewN ?_ _ | refine blk_drew ?_ | refine blk_alloc ?_ _)); exact BK189.out)) : gb195 ≠ gb189)); have n9_ := Aside0.mk ((by rw [hg]; exact Nat.ne_of_lt (blk_lt (g := gb193) (o := .cells #[u194000, .slice none 0 0, .int .i64 0, .bool true] 29 (0, 0)) (by (with_reducible repeat (first | refine blk_drewN ?_ _ | refine blk_drew ?_ | refine blk_alloc ?_ _)); exact BK193.out)) : gb193 ≠ gb195)); have n10_ := Aside0.mk ((by rw [hg]; exact Nat.ne_of_gt (blk_lt (g := gb193) (o := .cells #[u194000, .slice none 0 0, .int .i64 0, .bool true] 29 (0, 0)) (by (with_reducible repeat (first | refine blk_drewN ?_ _ | refine blk_drew ?_ | refine blk_alloc ?_ _)); exact BK193.out)) : gb195 ≠ gb193)); clear HO_194000; clear BK189; clear BK193; clear HB; have HO_194000 := n0_; have BK189 := n1_; have BK193 := n2_; have HB := n3_; have BK195 := n4_; have GW195 := n5_; have GE195 := n6_; have NB189_195 := n7_; have NB195_189 := n8_; have NB193_195 := n9_; have NB195_193 := n10_; clear n0_ n1_ n2_ n3_ n4_ n5_ n6_ n7_ n8_ n9_ n10_; clear hb hbox hg; have hnb34 := NB195_189.out; have hnc34 := NB189_195.out; have hnb35 := NB195_193.out; have hnc35 := NB193_195.out; have hcz36_0 : w33.cell? ⟨gb195, 0, none⟩ = some (.int .i64 0) := (blk_cell BK195.out 0).trans rfl; have hcz36_1 : w33.cell? ⟨gb195, 1, none⟩ = some (.int .i64 0) := (blk_cell BK195.out 1).trans rfl; have hcz36_2 : w33.cell? ⟨gb195, 2, none⟩ = some (.bool false) := (blk_cell BK195.out 2).trans rfl; have hcz36_3 : w33.cell? ⟨gb195, 3, none⟩ = some (.int .i64 0) := (blk_cell BK195.out 3).trans rfl; have hcz36_4 : w33.cell? ⟨gb195, 4, none⟩ = some (.bool false) := (blk_cell BK195.out 4).trans rfl; have hcz36_5 : w33.cell? ⟨gb195, 5, none⟩ = some (.int .i64 0) := (blk_cell BK195.out 5).trans rfl; have hfz36_0 := blk_frozen BK195.out 0; have hfz36_1 := blk_frozen BK195.out 1; have hfz36_2 := blk_frozen BK195.out 2; have hfz36_3 := blk_frozen BK195.out 3; have hfz36_4 := blk_frozen BK195.out 4; have hfz36_5 := blk_frozen BK195.out 5))
                            have n0_ : Aside0 (Kd.S k35 35 (((((((w33.setCell ⟨gb195, 0, none⟩ (.int .i64 ((rd_T31 l2 x10_2).f0))).setCell ⟨gb195, 1, none⟩ (.int .i64 ((rd_T31 l2 x10_2).f1))).setCell ⟨gb195, 2, none⟩ (.bool ((rd_T31 l2 x10_2).f2))).setCell ⟨gb195, 3, none⟩ (.int .i64 ((rd_T31 l2 x10_2).f3))).setCell ⟨gb195, 4, none⟩ (.bool ((rd_T31 l2 x10_2).f4))).setCell ⟨gb195, 5, none⟩ (.int .i64 ((rd_T31 l2 x10_2).f5))).setCell ⟨gb195, 4, none⟩ (.bool false)) w.heap.size (fun k_ => k_ ≠ gb189 ∧ k_ ≠ gb195) u194000 x194000_2) := ⟨by (with_reducible repeat (first | apply Kd.S_alloc | apply Kd.S_drewN | apply Kd.S_drew)); exact Kd.S_mono (Kd.S_far (p := ⟨gb195, 4, none⟩) (Kd.S_far (p := ⟨gb195, 5, none⟩) (Kd.S_far (p := ⟨gb195, 4, none⟩) (Kd.S_far (p := ⟨gb195, 3, none⟩) (Kd.S_far (p := ⟨gb195, 2, none⟩) (Kd.S_far (p := ⟨gb195, 1, none⟩) (Kd.S_far (p := ⟨gb195, 0, none⟩) (Kd.S_mono HO_194000.out (fun k_ hk => (⟨hk, hk.2⟩ : _ ∧ k_ ≠ gb195))) (fun _ hk => hk.2) (.int .i64 ((rd_T31 l2 x10_2).f0))) (fun _ hk => hk.2) (.int .i64 ((rd_T31 l2 x10_2).f1))) (fun _ hk => hk.2) (.bool ((rd_T31 l2 x10_2).f2))) (fun _ hk => hk.2) (.int .i64 ((rd_T31 l2 x10_2).f3))) (fun _ hk => hk.2) (.bool ((rd_T31 l2 x10_2).f4))) (fun _ hk => hk.2) (.int .i64 ((rd_T31 l2 x10_2).f5))) (fun _ hk => hk.2) (.bool false)) (fun _ hk => ⟨hk.1.1, hk.1.2⟩)⟩
                            have n1_ : Aside0 ((((((((w33.setCell ⟨gb195, 0, none⟩ (.int .i64 ((rd_T31 l2 x10_2).f0))).setCell ⟨gb195, 1, none⟩ (.int .i64 ((rd_T31 l2 x10_2).f1))).setCell ⟨gb195, 2, none⟩ (.bool ((rd_T31 l2 x10_2).f2))).setCell ⟨gb195, 3, none⟩ (.int .i64 ((rd_T31 l2 x10_2).f3))).setCell ⟨gb195, 4, none⟩ (.bool ((rd_T31 l2 x10_2).f4))).setCell ⟨gb195, 5, none⟩ (.int .i64 ((rd_T31 l2 x10_2).f5))).setCell ⟨gb195, 4, none⟩ (.bool false)).heap[gb189]? = some (.cells #[.int .i64 a0_0, .int .i64 a0_1, .int .i64 a0_2, .int .i64 a0_3, .int .i64 a0_4, .int .i64 a0_5] 24 (0, 0))) := ⟨by (with_reducible repeat (first | refine blk_drewN ?_ _ | refine blk_drew ?_ | refine blk_alloc ?_ _)); refine blk_far ?_ NB189_195.out _; (with_reducible repeat (first | refine blk_drewN ?_ _ | refine blk_drew ?_ | refine blk_alloc ?_ _)); refine blk_far ?_ NB189_195.out _; (with_reducible repeat (first | refine blk_drewN ?_ _ | refine blk_drew ?_ | refine blk_alloc ?_ _)); refine blk_far ?_ NB189_195.out _; (with_reducible repeat (first | refine blk_drewN ?_ _ | refine blk_drew ?_ | refine blk_alloc ?_ _)); refine blk_far ?_ NB189_195.out _; (with_reducible repeat (first | refine blk_drewN ?_ _ | refine blk_drew ?_ | refine blk_alloc ?_ _)); refine blk_far ?_ NB189_195.out _; (with_reducible repeat (first | refine blk_drewN ?_ _ | refine blk_drew ?_ | refine blk_alloc ?_ _)); refine blk_far ?_ NB189_195.out _; (with_reducible repeat (first | refine blk_drewN ?_ _ | refine blk_drew ?_ | refine blk_alloc ?_ _)); refine blk_far ?_ NB189_195.out _; (with_reducible repeat (first | refine blk_drewN ?_ _ | refine blk_drew ?_ | refine blk_alloc ?_ _)); exact BK189.out⟩
                            have n2_ : Aside0 ((((((((w33.setCell ⟨gb195, 0, none⟩ (.int .i64 ((rd_T31 l2 x10_2).f0))).setCell ⟨gb195, 1, none⟩ (.int .i64 ((rd_T31 l2 x10_2).f1))).setCell ⟨gb195, 2, none⟩ (.bool ((rd_T31 l2 x10_2).f2))).setCell ⟨gb195, 3, none⟩ (.int .i64 ((rd_T31 l2 x10_2).f3))).setCell ⟨gb195, 4, none⟩ (.bool ((rd_T31 l2 x10_2).f4))).setCell ⟨gb195, 5, none⟩ (.int .i64 ((rd_T31 l2 x10_2).f5))).setCell ⟨gb195, 4, none⟩ (.bool false)).heap[gb193]? = some (.cells #[u194000, .slice none 0 0, .int .i64 0, .bool true] 29 (0, 0))) := ⟨by (with_reducible repeat (first | refine blk_drewN ?_ _ | refine blk_drew ?_ | refine blk_alloc ?_ _)); refine blk_far ?_ NB193_195.out _; (with_reducible repeat (first | refine blk_drewN ?_ _ | refine blk_drew ?_ | refine blk_alloc ?_ _)); refine blk_far ?_ NB193_195.out _; (with_reducible repeat (first | refine blk_drewN ?_ _ | refine blk_drew ?_ | refine blk_alloc ?_ _)); refine blk_far ?_ NB193_195.out _; (with_reducible repeat (first | refine blk_drewN ?_ _ | refine blk_drew ?_ | refine blk_alloc ?_ _)); refine blk_far ?_ NB193_195.out _; (with_reducible repeat (first | refine blk_drewN ?_ _ | refine blk_drew ?_ | refine blk_alloc ?_ _)); refine blk_far ?_ NB193_195.out _; (with_reducible repeat (first | refine blk_drewN ?_ _ | refine blk_drew ?_ | refine blk_alloc ?_ _)); refine blk_far ?_ NB193_195.out _; (with_reducible repeat (first | refine blk_drewN ?_ _ | refine blk_drew ?_ | refine blk_alloc ?_ _)); refine blk_far ?_ NB193_195.out _; (with_reducible repeat (first | refine blk_drewN ?_ _ | refine blk_drew ?_ | refine blk_alloc ?_ _)); exact BK193.out⟩
                            have n3_ : Aside0 ((((((((w33.setCell ⟨gb195, 0, none⟩ (.int .i64 ((rd_T31 l2 x10_2).f0))).setCell ⟨gb195, 1, none⟩ (.int .i64 ((rd_T31 l2 x10_2).f1))).setCell ⟨gb195, 2, none⟩ (.bool ((rd_T31 l2 x10_2).f2))).setCell ⟨gb195, 3, none⟩ (.int .i64 ((rd_T31 l2 x10_2).f3))).setCell ⟨gb195, 4, none⟩ (.bool ((rd_T31 l2 x10_2).f4))).setCell ⟨gb195, 5, none⟩ (.int .i64 ((rd_T31 l2 x10_2).f5))).setCell ⟨gb195, 4, none⟩ (.bool false)).heap[gb195]? = some (.cells #[.int .i64 ((rd_T31 l2 x10_2).f0), .int .i64 ((rd_T31 l2 x10_2).f1), .bool ((rd_T31 l2 x10_2).f2), .int .i64 ((rd_T31 l2 x10_2).f3), .bool false, .int .i64 ((rd_T31 l2 x10_2).f5)] 31 (0, 0))) := ⟨by (with_reducible repeat (first | refine blk_drewN ?_ _ | refine blk_drew ?_ | refine blk_alloc ?_ _)); refine blk_put (cs := #[.int .i64 ((rd_T31 l2 x10_2).f0), .int .i64 ((rd_T31 l2 x10_2).f1), .bool ((rd_T31 l2 x10_2).f2), .int .i64 ((rd_T31 l2 x10_2).f3), .bool ((rd_T31 l2 x10_2).f4), .int .i64 ((rd_T31 l2 x10_2).f5)]) ?_ 4 _ rfl; (with_reducible repeat (first | refine blk_drewN ?_ _ | refine blk_drew ?_ | refine blk_alloc ?_ _)); refine blk_put (cs := #[.int .i64 ((rd_T31 l2 x10_2).f0), .int .i64 ((rd_T31 l2 x10_2).f1), .bool ((rd_T31 l2 x10_2).f2), .int .i64 ((rd_T31 l2 x10_2).f3), .bool ((rd_T31 l2 x10_2).f4), .int .i64 0]) ?_ 5 _ rfl; (with_reducible repeat (first | refine blk_drewN ?_ _ | refine blk_drew ?_ | refine blk_alloc ?_ _)); refine blk_put (cs := #[.int .i64 ((rd_T31 l2 x10_2).f0), .int .i64 ((rd_T31 l2 x10_2).f1), .bool ((rd_T31 l2 x10_2).f2), .int .i64 ((rd_T31 l2 x10_2).f3), .bool false, .int .i64 0]) ?_ 4 _ rfl; (with_reducible repeat (first | refine blk_drewN ?_ _ | refine blk_drew ?_ | refine blk_alloc ?_ _)); refine blk_put (cs := #[.int .i64 ((rd_T31 l2 x10_2).f0), .int .i64 ((rd_T31 l2 x10_2).f1), .bool ((rd_T31 l2 x10_2).f2), .int .i64 0, .bool false, .int .i64 0]) ?_ 3 _ rfl; (with_reducible repeat (first | refine blk_drewN ?_ _ | refine blk_drew ?_ | refine blk_alloc ?_ _)); refine blk_put (cs := #[.int .i64 ((rd_T31 l2 x10_2).f0), .int .i64 ((rd_T31 l2 x10_2).f1), .bool false, .int .i64 0, .bool false, .int .i64 0]) ?_ 2 _ rfl; (with_reducible repeat (first | refine blk_drewN ?_ _ | refine blk_drew ?_ | refine blk_alloc ?_ _)); refine blk_put (cs := #[.int .i64 ((rd_T31 l2 x10_2).f0), .int .i64 0, .bool false, .int .i64 0, .bool false, .int .i64 0]) ?_ 1 _ rfl; (with_reducible repeat (first | refine blk_drewN ?_ _ | refine blk_drew ?_ | refine blk_alloc ?_ _)); refine blk_put (cs := #[.int .i64 0, .int .i64 0, .bool false, .int .i64 0, .bool false, .int .i64 0]) ?_ 0 _ rfl; (with_reducible repeat (first | refine blk_drewN ?_ _ | refine blk_drew ?_ | refine blk_alloc ?_ _)); exact BK195.out⟩
                            have n4_ : Aside0 (Below w.heap.size w (((((((w33.setCell ⟨gb195, 0, none⟩ (.int .i64 ((rd_T31 l2 x10_2).f0))).setCell ⟨gb195, 1, none⟩ (.int .i64 ((rd_T31 l2 x10_2).f1))).setCell ⟨gb195, 2, none⟩ (.bool ((rd_T31 l2 x10_2).f2))).setCell ⟨gb195, 3, none⟩ (.int .i64 ((rd_T31 l2 x10_2).f3))).setCell ⟨gb195, 4, none⟩ (.bool ((rd_T31 l2 x10_2).f4))).setCell ⟨gb195, 5, none⟩ (.int .i64 ((rd_T31 l2 x10_2).f5))).setCell ⟨gb195, 4, none⟩ (.bool false))) := ⟨by repeat (first | (with_reducible first | exact HB.out | apply below_alloc | apply pw_below_drewN | apply below_drew1 | refine below_set ?_ GE189.out | refine below_set ?_ GE193.out | refine below_set ?_ GE195.out) | exact HB.out)⟩
                            (try clear HO_194000)
                            (try clear BK189)
                            (try clear BK193)
                            (try clear BK195)
                            (try clear HB)
                            generalize (((((((w33.setCell ⟨gb195, 0, none⟩ (.int .i64 ((rd_T31 l2 x10_2).f0))).setCell ⟨gb195, 1, none⟩ (.int .i64 ((rd_T31 l2 x10_2).f1))).setCell ⟨gb195, 2, none⟩ (.bool ((rd_T31 l2 x10_2).f2))).setCell ⟨gb195, 3, none⟩ (.int .i64 ((rd_T31 l2 x10_2).f3))).setCell ⟨gb195, 4, none⟩ (.bool ((rd_T31 l2 x10_2).f4))).setCell ⟨gb195, 5, none⟩ (.int .i64 ((rd_T31 l2 x10_2).f5))).setCell ⟨gb195, 4, none⟩ (.bool false)) = w37 at n0_ n1_ n2_ n3_ n4_ ⊢
                            have HO_194000 := n0_
                            have BK189 := n1_
                            have BK193 := n2_
                            have BK195 := n3_
                            have HB := n4_
                            clear n0_ n1_ n2_ n3_ n4_
                            have n0_ := Aside0.mk (Kd.S_drew HO_194000.out)
                            have n1_ := Aside0.mk (blk_drew BK189.out)
                            have n2_ := Aside0.mk (blk_drew BK193.out)
                            have n3_ := Aside0.mk (blk_drew BK195.out)
                            have n4_ := Aside0.mk (below_drew1 HB.out)
                            clear HO_194000
                            clear BK189
                            clear BK193
                            clear BK195
                            clear HB
                            have HO_194000 := n0_
                            have BK189 := n1_
                            have BK193 := n2_
                            have BK195 := n3_
                            have HB := n4_
                            clear n0_ n1_ n2_ n3_ n4_
                            obtain ⟨Ao39, co39, eo39⟩ := Kd.S_slice HO_194000.out
                            (first | subst eo39 | (injection eo39 with f1_ f2_ f3_; have f4_ := f1_.symm; have f5_ := f3_.symm; clear f1_ f2_ f3_; subst f4_; subst f5_))
                            have p196 : 0 ≤ (a1 : Int) := of_decide_eq_true (by first | (with_reducible assumption) | assumption)
                            have q196 : a1 < (x194000_2.length : Int) := of_decide_eq_true (by first | (with_reducible assumption) | assumption)
                            obtain ⟨ad196, A196_0, c196_0, A196_1, c196_1, A196_2, c196_2, A196_3, c196_3, e196, hx196_0, hx196_1, hx196_2, hx196_3, hx196_4, hx196_5, hl196_0, hi196_0, hl196_1, hi196_1, hl196_2, hi196_2, hl196_3, hi196_3⟩ := at_T35 (Kd.S_reads' HO_194000.out).2.2 a1 p196 q196
                            cases e196
                            obtain ⟨ce196, hce196, hMe196, hcc196⟩ := Kd.S_get HO_194000.out z35 a1 p196 (by first | exact q196 | exact of_decide_eq_true (by first | (with_reducible assumption) | assumption) | (have e_ := (Kd.S_reads' HO_194000.out).1; omega))
                            obtain ⟨ve196_0, ve196_1, ve196_2, ve196_3, rfl, ge196_0, ge196_1, ge196_2, ge196_3⟩ := k35_openM hMe196
                            have hv196_0 := hcc196 0 _ rfl
                            rw [Nat.add_zero] at hv196_0
                            replace hv196_0 := Option.some.inj (hv196_0.symm.trans hx196_0)
                            rw [hv196_0] at ge196_0
                            have HL196_0 := Aside0.mk (show Kd.R k118 118 _ _ _ _ ((rd_T35 x194000_2 a1).f0) from ge196_0)
                            clear hv196_0 ge196_0
                            have HX196_0 := Aside0.mk hx196_0
                            have hv196_1 := hcc196 1 _ rfl
                            rw [add_field _ _ 1 (by omega)] at hv196_1
                            replace hv196_1 := Option.some.inj (hv196_1.symm.trans hx196_1)
                            rw [hv196_1] at ge196_1
                            have HL196_1 := Aside0.mk (show Kd.R k115 115 _ _ _ _ ((rd_T35 x194000_2 a1).f1) from ge196_1)
                            clear hv196_1 ge196_1
                            have HX196_1 := Aside0.mk hx196_1
                            have hv196_2 := hcc196 2 _ rfl
                            rw [add_field _ _ 2 (by omega)] at hv196_2
                            replace hv196_2 := Option.some.inj (hv196_2.symm.trans hx196_2)
                            rw [hv196_2] at ge196_2
                            have HL196_2 := Aside0.mk (show Kd.R k31 31 _ _ _ _ ((rd_T35 x194000_2 a1).f2) from ge196_2)
                            clear hv196_2 ge196_2
                            have HX196_2 := Aside0.mk hx196_2
                            have hv196_3 := hcc196 3 _ rfl
                            rw [add_field _ _ 3 (by omega)] at hv196_3
                            replace hv196_3 := Option.some.inj (hv196_3.symm.trans hx196_3)
                            rw [hv196_3] at ge196_3
                            have HL196_3 := Aside0.mk (show Kd.R k24 24 _ _ _ _ ((rd_T35 x194000_2 a1).f3) from ge196_3)
                            clear hv196_3 ge196_3
                            have HX196_3 := Aside0.mk hx196_3
                            clear hcc196 hce196
                            have HR196_0 := Aside0.mk hi196_0
                            have HC196_0 := Aside0.mk hl196_0
                            clear hi196_0 hl196_0
                            have HR196_1 := Aside0.mk hi196_1
                            have HC196_1 := Aside0.mk hl196_1
                            clear hi196_1 hl196_1
                            have HR196_2 := Aside0.mk hi196_2
                            have HC196_2 := Aside0.mk hl196_2
                            clear hi196_2 hl196_2
                            have HR196_3 := Aside0.mk hi196_3
                            have HC196_3 := Aside0.mk hl196_3
                            clear hi196_3 hl196_3
                            replace p196 := eq_true p196
                            replace q196 := eq_true q196
                            obtain ⟨go40, co40, eo40, gb40, gl40, cl40, HG40⟩ := Kd.S_form HO_194000.out (by have h_ : (a1 : Int) < ((x194000_2.length : Int) : Int) := of_decide_eq_true (by first | (with_reducible assumption) | assumption); have h2_ : 0 ≤ (a1 : Int) := (of_decide_eq_true (by first | (with_reducible assumption) | assumption)); omega)
                            (first | cases eo40 | (injection eo40 with ea_ en_ ec_; (first | subst ea_ | (injection ea_ with ea_; subst ea_)); subst ec_; clear en_))
                            have GB40 := Aside0.mk gb40
                            have GG40 := Aside0.mk HG40
                            clear gb40 gl40 HG40
                            (first | simp only [add_plain] at hx196_0 | skip)
                            (first | simp only [add_plain] at hx196_1 | skip)
                            (first | simp only [add_plain] at hx196_2 | skip)
                            (first | simp only [add_plain] at hx196_3 | skip)
                            (first | simp only [add_plain] at hx196_4 | skip)
                            (first | simp only [add_plain] at hx196_5 | skip)
                            obtain ⟨oki40, ce40, hcl40, hM40, hcc40, _, _, hH40⟩ := Kd.S_elem HO_194000.out z35 (a1 : Int) (of_decide_eq_true (by first | (with_reducible assumption) | assumption)) (by have h_ : (a1 : Int) < ((x194000_2.length : Int) : Int) := of_decide_eq_true (by first | (with_reducible assumption) | assumption); first | exact h_ | (have e_ := (Kd.S_reads' HO_194000.out).1; omega) | simpa using h_)
                            obtain ⟨ve40_0, ve40_1, ve40_2, ve40_3, rfl, ge40_0, ge40_1, ge40_2, ge40_3⟩ := k35_openM hM40
                            have hv40 := hcc40 2 _ rfl
                            have hX40 := HX196_2.out
                            (try simp only [add_plain] at hX40)
                            (try simp only [Nat.add_zero] at hv40)
                            replace hv40 := Option.some.inj (hv40.symm.trans hX40)
                            subst hv40
                            clear hX40 hcc40 hcl40
                            have UU40 := Aside0.mk (show Kd.R k31 31 _ w.heap.size oki40 (.slice A196_2 ((rd_T35 x194000_2 a1).f2).length c196_2) ((rd_T35 x194000_2 a1).f2) from ge40_2)
                            have HH40 := Aside0.mk hH40
                            have HN40 := Aside0.mk (Kd.S_reads' HO_194000.out).1
                            have HE40_0 := Aside0.mk ge40_0
                            have HE40_1 := Aside0.mk ge40_1
                            have HE40_3 := Aside0.mk ge40_3
                            clear hH40 ge40_0 ge40_1 ge40_2 ge40_3
                            refine start_ (n := 15) (S := fun w' => w'.cell? ⟨gb193, 0, none⟩ = some (.slice (some ⟨go40, 0, none⟩) x194000_2.length co39) ∧ w'.cell? ⟨gb193, 1, none⟩ = some (.slice none 0 0) ∧ w'.cell? ⟨gb193, 2, none⟩ = some (.int .i64 0) ∧ w'.cell? ⟨gb193, 3, none⟩ = some (.bool true) ∧ w'.cell? ⟨gb195, 0, none⟩ = some (.int .i64 ((rd_T31 l2 x10_2).f0)) ∧ w'.cell? ⟨gb195, 1, none⟩ = some (.int .i64 ((rd_T31 l2 x10_2).f1)) ∧ w'.cell? ⟨gb195, 2, none⟩ = some (.bool ((rd_T31 l2 x10_2).f2)) ∧ w'.cell? ⟨gb195, 3, none⟩ = some (.int .i64 ((rd_T31 l2 x10_2).f3)) ∧ w'.cell? ⟨gb195, 4, none⟩ = some (.bool false) ∧ w'.cell? ⟨gb195, 5, none⟩ = some (.int .i64 ((rd_T31 l2 x10_2).f5)) ∧ w'.cell? ⟨go40, ((a1).toNat * 6), none⟩ = some (.slice A196_0 ((rd_T35 x194000_2 a1).f0).length c196_0) ∧ w'.cell? ⟨go40, ((a1).toNat * 6) + 1, none⟩ = some (.slice A196_1 ((rd_T35 x194000_2 a1).f1).length c196_1) ∧ w'.cell? ⟨go40, ((a1).toNat * 6) + 2, none⟩ = some (.slice A196_2 ((rd_T35 x194000_2 a1).f2).length c196_2) ∧ w'.cell? ⟨go40, ((a1).toNat * 6) + 3, none⟩ = some (.slice A196_3 ((rd_T35 x194000_2 a1).f3).length c196_3) ∧ w'.cell? ⟨go40, ((a1).toNat * 6) + 4, none⟩ = some (.int .i64 ((rd_T35 x194000_2 a1).f4)) ∧ w'.cell? ⟨go40, ((a1).toNat * 6) + 5, none⟩ = some (.bool ((rd_T35 x194000_2 a1).f5))) (ds := [14]) #[false, false, false, false, false, false, false, false, false, false, false, false, false, false, false] (by kernel_rfl) rfl rfl ⟨(blk_cell BK193.out 0).trans rfl, (blk_cell BK193.out 1).trans rfl, (blk_cell BK193.out 2).trans rfl, (blk_cell BK193.out 3).trans rfl, (blk_cell BK195.out 0).trans rfl, (blk_cell BK195.out 1).trans rfl, (blk_cell BK195.out 2).trans rfl, (blk_cell BK195.out 3).trans rfl, (blk_cell BK195.out 4).trans rfl, (blk_cell BK195.out 5).trans rfl, hx196_0, hx196_1, hx196_2, hx196_3, hx196_4, hx196_5⟩ (fun hHeld => ?_); refine with_tabW meddlerlaw17_ReportSays.tab11 meddlerlaw17_ReportSays.bits11 (fun HT_ HW_ => ?_)
                            generalize w37.drew = w38 at HO_194000 BK189 BK193 BK195 HB GG40 HE40_0 HE40_1 HE40_3 HH40 HL196_0 HL196_1 HL196_2 HL196_3 HR196_0 HR196_1 HR196_2 HR196_3 HX196_0 HX196_1 HX196_2 HX196_3 UU40 hx196_0 hx196_1 hx196_2 hx196_3 hx196_4 hx196_5 hHeld ⊢
                            refine pure_ (i := 0) (N := some 45) (v := ?_) (a' := ?_) #[true, false, false, false, false, false, false, false, false, false, false, false, false, false, false] rfl rfl (any_of HT_.out (by kernel_rfl)) (fun _ _ _ h => h) (Or.inl ⟨by rfl, ?_⟩) ?_ ?_
                            rotate_left
                            · intro w'
                              go_simp
                              with_reducible rfl
                            rotate_left
                            · simp only [Act.put, List.setIfInBounds_toArray, List.set_cons_zero, List.set_cons_succ, i64_w, i32_w]
                              rfl
                            refine pure_ (i := 2) (N := some 47) (v := ?_) (a' := ?_) #[true, false, true, false, false, false, false, false, false, false, false, false, false, false, false] rfl rfl (any_of HT_.out (by kernel_rfl)) (fun _ _ _ h => h) (Or.inl ⟨by rfl, ?_⟩) ?_ ?_
                            rotate_left
                            · intro w'
                              go_simp
                              with_reducible rfl
                            rotate_left
                            · simp only [Act.put, List.setIfInBounds_toArray, List.set_cons_zero, List.set_cons_succ, i64_w, i32_w]
                              rfl
                            refine pure_ (i := 3) (N := some 48) (v := ?_) (a' := ?_) #[true, false, true, true, false, false, false, false, false, false, false, false, false, false, false] rfl rfl (any_of HT_.out (by kernel_rfl)) (fun _ _ _ h => h) (Or.inl ⟨by rfl, ?_⟩) ?_ ?_
                            rotate_left
                            · intro w'
                              go_simp
                              with_reducible rfl
                            rotate_left
                            · simp only [Act.put, List.setIfInBounds_toArray, List.set_cons_zero, List.set_cons_succ, i64_w, i32_w]
                              rfl
                            refine pure_ (i := 5) (N := some 50) (v := ?_) (a' := ?_) #[true, false, true, true, false, true, false, false, false, false, false, false, false, false, false] rfl rfl (any_of HT_.out (by kernel_rfl)) (fun _ _ _ h => h) (Or.inl ⟨by rfl, ?_⟩) ?_ ?_
                            rotate_left
                            · intro w'
                              go_simp
                              with_reducible rfl
                            rotate_left
                            · simp only [Act.put, List.setIfInBounds_toArray, List.set_cons_zero, List.set_cons_succ, i64_w, i32_w]
                              rfl
                            refine take_ (i := 1) (N := some 46) (v := ?_) (a' := ?_) #[true, true, true, true, false, true, false, false, false, false, false, false, false, false, false] rfl rfl (take_ofW HT_.out HW_.out (by kernel_rfl)) (fun _ _ _ h => h) (Or.inl ⟨by rfl, ?_⟩) hHeld ?_ ?_
                            rotate_left
                            · rintro w' ⟨s0, s1, s2, s3, s4, s5, s6, s7, s8, s9, s10, s11, s12, s13, s14, s15⟩
                              go_simp
                              with_reducible rfl
                            rotate_left
                            · simp only [Act.put, List.setIfInBounds_toArray, List.set_cons_zero, List.set_cons_succ, i64_w, i32_w]
                              rfl
                            refine take_ (i := 4) (N := some 49) (v := ?_) (a' := ?_) #[true, true, true, true, true, true, false, false, false, false, false, false, false, false, false] rfl rfl (take_ofW HT_.out HW_.out (by kernel_rfl)) (fun _ _ _ h => h) (Or.inl ⟨by rfl, ?_⟩) hHeld ?_ ?_
                            rotate_left
                            · rintro w' ⟨s0, s1, s2, s3, s4, s5, s6, s7, s8, s9, s10, s11, s12, s13, s14, s15⟩
                              go_simp
                              with_reducible rfl
                            rotate_left
                            · simp only [Act.put, List.setIfInBounds_toArray, List.set_cons_zero, List.set_cons_succ, i64_w, i32_w]
                              rfl
                            refine pure_ (i := 6) (N := some 51) (v := ?_) (a' := ?_) #[true, true, true, true, true, true, true, false, false, false, false, false, false, false, false] rfl rfl (any_of HT_.out (by kernel_rfl)) (fun _ _ _ h => h) (Or.inl ⟨by rfl, ?_⟩) ?_ ?_
                            rotate_left
                            · intro w'
                              go_simp
                              with_reducible rfl
                            rotate_left
                            · simp only [Act.put, List.setIfInBounds_toArray, List.set_cons_zero, List.set_cons_succ, i64_w, i32_w]
                              rfl
                            refine pure_ (i := 7) (N := some 52) (v := ?_) (a' := ?_) #[true, true, true, true, true, true, true, true, false, false, false, false, false, false, false] rfl rfl (any_of HT_.out (by kernel_rfl)) (fun _ _ _ h => h) (Or.inl ⟨by rfl, ?_⟩) ?_ ?_
                            rotate_left
                            · intro w'
                              go_simp
                              with_reducible rfl
                            rotate_left
                            · simp only [Act.put, List.setIfInBounds_toArray, List.set_cons_zero, List.set_cons_succ, i64_w, i32_w]
                              rfl
                            refine take_ (i := 8) (N := some 53) (v := ?_) (a' := ?_) #[true, true, true, true, true, true, true, true, true, false, false, false, false, false, false] rfl rfl (take_ofW HT_.out HW_.out (by kernel_rfl)) (fun _ _ _ h => h) (Or.inl ⟨by rfl, ?_⟩) hHeld ?_ ?_
                            rotate_left
                            · rintro w' ⟨s0, s1, s2, s3, s4, s5, s6, s7, s8, s9, s10, s11, s12, s13, s14, s15⟩
                              go_simp
                              with_reducible rfl
                            rotate_left
                            · simp only [Act.put, List.setIfInBounds_toArray, List.set_cons_zero, List.set_cons_succ, i64_w, i32_w]
                              rfl
                            refine take_ (i := 9) (N := some 54) (v := ?_) (a' := ?_) #[true, true, true, true, true, true, true, true, true, true, false, false, false, false, false] rfl rfl (take_ofW HT_.out HW_.out (by kernel_rfl)) (fun _ _ _ h => h) (Or.inl ⟨by rfl, ?_⟩) hHeld ?_ ?_
                            rotate_left
                            · rintro w' ⟨s0, s1, s2, s3, s4, s5, s6, s7, s8, s9, s10, s11, s12, s13, s14, s15⟩
                              go_simp
                              with_reducible rfl
                            rotate_left
                            · simp only [Act.put, List.setIfInBounds_toArray, List.set_cons_zero, List.set_cons_succ, i64_w, i32_w]
                              rfl
                            refine one_ (i := 10) (N := some 55) #[true, true, true, true, true, true, true, true, true, true, true, false, false, false, false] rfl rfl (one_of HT_.out (by kernel_rfl)) (by decide) (fun K hK => ?_)
                            refine value_ (w1 := ?_) (v := ?_) (by rfl) rfl ?_ ?_
                            rotate_left 2
                            · go_simp
                              constructor
                              · rfl
                              · rfl
                            refine hK.out _ _ ⟨(blk_cell (blk_alloc BK193.out _) 0).trans rfl, (blk_cell (blk_alloc BK193.out _) 1).trans rfl, (blk_cell (blk_alloc BK193.out _) 2).trans rfl, (blk_cell (blk_alloc BK193.out _) 3).trans rfl, (blk_cell (blk_alloc BK195.out _) 0).trans rfl, (blk_cell (blk_alloc BK195.out _) 1).trans rfl, (blk_cell (blk_alloc BK195.out _) 2).trans rfl, (blk_cell (blk_alloc BK195.out _) 3).trans rfl, (blk_cell (blk_alloc BK195.out _) 4).trans rfl, (blk_cell (blk_alloc BK195.out _) 5).trans rfl, (World.cell?_alloc_lt _ _ _ (World.block_lt_of_cell? _ _ (hHeld.2.2.2.2.2.2.2.2.2.2.1))).trans (hHeld.2.2.2.2.2.2.2.2.2.2.1), (World.cell?_alloc_lt _ _ _ (World.block_lt_of_cell? _ _ (hHeld.2.2.2.2.2.2.2.2.2.2.2.1))).trans (hHeld.2.2.2.2.2.2.2.2.2.2.2.1), (World.cell?_alloc_lt _ _ _ (World.block_lt_of_cell? _ _ (hHeld.2.2.2.2.2.2.2.2.2.2.2.2.1))).trans (hHeld.2.2.2.2.2.2.2.2.2.2.2.2.1), (World.cell?_alloc_lt _ _ _ (World.block_lt_of_cell? _ _ (hHeld.2.2.2.2.2.2.2.2.2.2.2.2.2.1))).trans (hHeld.2.2.2.2.2.2.2.2.2.2.2.2.2.1), (World.cell?_alloc_lt _ _ _ (World.block_lt_of_cell? _ _ (hHeld.2.2.2.2.2.2.2.2.2.2.2.2.2.2.1))).trans (hHeld.2.2.2.2.2.2.2.2.2.2.2.2.2.2.1), (World.cell?_alloc_lt _ _ _ (World.block_lt_of_cell? _ _ (hHeld.2.2.2.2.2.2.2.2.2.2.2.2.2.2.2))).trans (hHeld.2.2.2.2.2.2.2.2.2.2.2.2.2.2.2)⟩ (fun hHeld => ?_)
                            clear hK K
                            refine norm_ (a' := ?_) ?_ ?_
                            rotate_left
                            · show Act.put _ (some 55) _ = _
                              simp only [Act.put, List.setIfInBounds_toArray, List.set_cons_zero, List.set_cons_succ, i64_w, i32_w]
                              rfl
                            refine one_ (i := 11) (N := some 56) #[true, true, true, true, true, true, true, true, true, true, true, true, false, false, false] rfl rfl (one_of HT_.out (by kernel_rfl)) (by decide) (fun K hK => ?_)
                            refine Kd.R_append_step k31 (w0 := w) w.heap.size (by rfl) (.tmp 53) (.tmp 55) 25 31 (.agg #[(.int .i64 0), (.int .i64 0), (.bool false), (.int .i64 0), (.bool false), (.int .i64 0)]) 48 rfl Try.underlying25 info31 rfl (by decide) (by omega) (.slice A196_2 ((rd_T35 x194000_2 a1).f2).length c196_2) ((rd_T35 x194000_2 a1).f2) (⟨(rd_T31 l2 x10_2).f0, (rd_T31 l2 x10_2).f1, (rd_T31 l2 x10_2).f2, (rd_T31 l2 x10_2).f3, false, (rd_T31 l2 x10_2).f5⟩ : S31) [.int .i64 ((rd_T31 l2 x10_2).f0), .int .i64 ((rd_T31 l2 x10_2).f1), .bool ((rd_T31 l2 x10_2).f2), .int .i64 ((rd_T31 l2 x10_2).f3), .bool false, .int .i64 ((rd_T31 l2 x10_2).f5)] (fun k_ => oki40 k_ ∨ ((fun k_ => k_ ≠ gb189 ∧ k_ ≠ gb195)) k_ ∧ w38.heap.size ≤ k_) (fun _ => False) rfl rfl ?aP (fun _ hk => hk.elim) ?aF ?aO ?aB ?aS ?aL ?_
                            (case aP => exact k31_mkM _ _ _ (⟨(rd_T31 l2 x10_2).f0, (rd_T31 l2 x10_2).f1, (rd_T31 l2 x10_2).f2, (rd_T31 l2 x10_2).f3, false, (rd_T31 l2 x10_2).f5⟩ : S31))
                            (case aB => exact (by repeat (first | (with_reducible first | exact HB.out | apply below_alloc | apply pw_below_drewN | apply below_drew1 | refine below_set ?_ GE189.out | refine below_set ?_ GE193.out | refine below_set ?_ GE195.out) | exact HB.out)))
                            (case aF => exact (fun k_ hk => .inr ⟨⟨Kd.freshB (g := gb189) (o := .cells #[.int .i64 a0_0, .int .i64 a0_1, .int .i64 a0_2, .int .i64 a0_3, .int .i64 a0_4, .int .i64 a0_5] 24 (0, 0)) (by (with_reducible repeat (first | refine blk_drewN ?_ _ | refine blk_drew ?_ | refine blk_alloc ?_ _)); exact BK189.out) k_ hk, Kd.freshB (g := gb195) (o := .cells #[.int .i64 ((rd_T31 l2 x10_2).f0), .int .i64 ((rd_T31 l2 x10_2).f1), .bool ((rd_T31 l2 x10_2).f2), .int .i64 ((rd_T31 l2 x10_2).f3), .bool false, .int .i64 ((rd_T31 l2 x10_2).f5)] 31 (0, 0)) (by (with_reducible repeat (first | refine blk_drewN ?_ _ | refine blk_drew ?_ | refine blk_alloc ?_ _)); exact BK195.out) k_ hk⟩, hk⟩))
                            (case aO => exact (by (with_reducible repeat (first | apply Kd.R_alloc | apply Kd.R_drewN | apply Kd.R_drew)); exact Kd.R_mono UU40.out (fun _ hk => .inl hk)))
                            (case aS => exact (below_size (by repeat (first | (with_reducible first | exact HB.out | apply below_alloc | apply pw_below_drewN | apply below_drew1 | refine below_set ?_ GE189.out | refine below_set ?_ GE193.out | refine below_set ?_ GE195.out) | exact HB.out))))
                            (case aL => have := LMc31.out; omega)
                            intro v198 w41 ho hb hg hat
                            (first | have HS10_ := Go.Proofs.YtadnjibgdpjnlaaW.PrintWords.cell_grown hg (hHeld.2.2.2.2.2.2.2.2.2.2.1) (by first | (rw [add_block]; exact (fun e_ => ((HL196_2.out.1 _ e_.symm).2) rfl)) | (show some (Addr.add _ _).block ≠ _; rw [add_block]; exact (fun e_ => ((HL196_2.out.1 _ e_.symm).2) rfl)) | exact (fun e_ => ((HL196_2.out.1 _ e_.symm).2) rfl)) | have HS10_ := Go.Proofs.YtadnjibgdpjnlaaW.PrintWords.cell_grown hg (cell_unalloc (hHeld.2.2.2.2.2.2.2.2.2.2.1) (by first | (rw [add_block]; exact Kd.S_lt HO_194000.out _ rfl) | (show (Addr.add _ _).block < _; rw [add_block]; exact Kd.S_lt HO_194000.out _ rfl) | exact Kd.S_lt HO_194000.out _ rfl)) (by first | (rw [add_block]; exact (fun e_ => ((HL196_2.out.1 _ e_.symm).2) rfl)) | (show some (Addr.add _ _).block ≠ _; rw [add_block]; exact (fun e_ => ((HL196_2.out.1 _ e_.symm).2) rfl)) | exact (fun e_ => ((HL196_2.out.1 _ e_.symm).2) rfl)))
                            (first | have HS11_ := Go.Proofs.YtadnjibgdpjnlaaW.PrintWords.cell_grown hg (hHeld.2.2.2.2.2.2.2.2.2.2.2.1) (by first | (rw [add_block]; exact (fun e_ => ((HL196_2.out.1 _ e_.symm).2) rfl)) | (show some (Addr.add _ _).block ≠ _; rw [add_block]; exact (fun e_ => ((HL196_2.out.1 _ e_.symm).2) rfl)) | exact (fun e_ => ((HL196_2.out.1 _ e_.symm).2) rfl)) | have HS11_ := Go.Proofs.YtadnjibgdpjnlaaW.PrintWords.cell_grown hg (cell_unalloc (hHeld.2.2.2.2.2.2.2.2.2.2.2.1) (by first | (rw [add_block]; exact Kd.S_lt HO_194000.out _ rfl) | (show (Addr.add _ _).block < _; rw [add_block]; exact Kd.S_lt HO_194000.out _ rfl) | exact Kd.S_lt HO_194000.out _ rfl)) (by first | (rw [add_block]; exact (fun e_ => ((HL196_2.out.1 _ e_.symm).2) rfl)) | (show some (Addr.add _ _).block ≠ _; rw [add_block]; exact (fun e_ => ((HL196_2.out.1 _ e_.symm).2) rfl)) | exact (fun e_ => ((HL196_2.out.1 _ e_.symm).2) rfl)))
                            (first | have HS12_ := Go.Proofs.YtadnjibgdpjnlaaW.PrintWords.cell_grown hg (hHeld.2.2.2.2.2.2.2.2.2.2.2.2.1) (by first | (rw [add_block]; exact (fun e_ => ((HL196_2.out.1 _ e_.symm).2) rfl)) | (show some (Addr.add _ _).block ≠ _; rw [add_block]; exact (fun e_ => ((HL196_2.out.1 _ e_.symm).2) rfl)) | exact (fun e_ => ((HL196_2.out.1 _ e_.symm).2) rfl)) | have HS12_ := Go.Proofs.YtadnjibgdpjnlaaW.PrintWords.cell_grown hg (cell_unalloc (hHeld.2.2.2.2.2.2.2.2.2.2.2.2.1) (by first | (rw [add_block]; exact Kd.S_lt HO_194000.out _ rfl) | (show (Addr.add _ _).block < _; rw [add_block]; exact Kd.S_lt HO_194000.out _ rfl) | exact Kd.S_lt HO_194000.out _ rfl)) (by first | (rw [add_block]; exact (fun e_ => ((HL196_2.out.1 _ e_.symm).2) rfl)) | (show some (Addr.add _ _).block ≠ _; rw [add_block]; exact (fun e_ => ((HL196_2.out.1 _ e_.symm).2) rfl)) | exact (fun e_ => ((HL196_2.out.1 _ e_.symm).2) rfl)))
                            (first | have HS13_ := Go.Proofs.YtadnjibgdpjnlaaW.PrintWords.cell_grown hg (hHeld.2.2.2.2.2.2.2.2.2.2.2.2.2.1) (by first | (rw [add_block]; exact (fun e_ => ((HL196_2.out.1 _ e_.symm).2) rfl)) | (show some (Addr.add _ _).block ≠ _; rw [add_block]; exact (fun e_ => ((HL196_2.out.1 _ e_.symm).2) rfl)) | exact (fun e_ => ((HL196_2.out.1 _ e_.symm).2) rfl)) | have HS13_ := Go.Proofs.YtadnjibgdpjnlaaW.PrintWords.cell_grown hg (cell_unalloc (hHeld.2.2.2.2.2.2.2.2.2.2.2.2.2.1) (by first | (rw [add_block]; exact Kd.S_lt HO_194000.out _ rfl) | (show (Addr.add _ _).block < _; rw [add_block]; exact Kd.S_lt HO_194000.out _ rfl) | exact Kd.S_lt HO_194000.out _ rfl)) (by first | (rw [add_block]; exact (fun e_ => ((HL196_2.out.1 _ e_.symm).2) rfl)) | (show some (Addr.add _ _).block ≠ _; rw [add_block]; exact (fun e_ => ((HL196_2.out.1 _ e_.symm).2) rfl)) | exact (fun e_ => ((HL196_2.out.1 _ e_.symm).2) rfl)))
                            (first | have HS14_ := Go.Proofs.YtadnjibgdpjnlaaW.PrintWords.cell_grown hg (hHeld.2.2.2.2.2.2.2.2.2.2.2.2.2.2.1) (by first | (rw [add_block]; exact (fun e_ => ((HL196_2.out.1 _ e_.symm).2) rfl)) | (show some (Addr.add _ _).block ≠ _; rw [add_block]; exact (fun e_ => ((HL196_2.out.1 _ e_.symm).2) rfl)) | exact (fun e_ => ((HL196_2.out.1 _ e_.symm).2) rfl)) | have HS14_ := Go.Proofs.YtadnjibgdpjnlaaW.PrintWords.cell_grown hg (cell_unalloc (hHeld.2.2.2.2.2.2.2.2.2.2.2.2.2.2.1) (by first | (rw [add_block]; exact Kd.S_lt HO_194000.out _ rfl) | (show (Addr.add _ _).block < _; rw [add_block]; exact Kd.S_lt HO_194000.out _ rfl) | exact Kd.S_lt HO_194000.out _ rfl)) (by first | (rw [add_block]; exact (fun e_ => ((HL196_2.out.1 _ e_.symm).2) rfl)) | (show some (Addr.add _ _).block ≠ _; rw [add_block]; exact (fun e_ => ((HL196_2.out.1 _ e_.symm).2) rfl)) | exact (fun e_ => ((HL196_2.out.1 _ e_.symm).2) rfl)))
                            (first | have HS15_ := Go.Proofs.YtadnjibgdpjnlaaW.PrintWords.cell_grown hg (hHeld.2.2.2.2.2.2.2.2.2.2.2.2.2.2.2) (by first | (rw [add_block]; exact (fun e_ => ((HL196_2.out.1 _ e_.symm).2) rfl)) | (show some (Addr.add _ _).block ≠ _; rw [add_block]; exact (fun e_ => ((HL196_2.out.1 _ e_.symm).2) rfl)) | exact (fun e_ => ((HL196_2.out.1 _ e_.symm).2) rfl)) | have HS15_ := Go.Proofs.YtadnjibgdpjnlaaW.PrintWords.cell_grown hg (cell_unalloc (hHeld.2.2.2.2.2.2.2.2.2.2.2.2.2.2.2) (by first | (rw [add_block]; exact Kd.S_lt HO_194000.out _ rfl) | (show (Addr.add _ _).block < _; rw [add_block]; exact Kd.S_lt HO_194000.out _ rfl) | exact Kd.S_lt HO_194000.out _ rfl)) (by first | (rw [add_block]; exact (fun e_ => ((HL196_2.out.1 _ e_.symm).2) rfl)) | (show some (Addr.add _ _).block ≠ _; rw [add_block]; exact (fun e_ => ((HL196_2.out.1 _ e_.symm).2) rfl)) | exact (fun e_ => ((HL196_2.out.1 _ e_.symm).2) rfl)))
                            rw [← Ny197.out] at ho
                            have n0_ := Aside0.mk (blk_grown (g := gb189) (o := .cells #[.int .i64 a0_0, .int .i64 a0_1, .int .i64 a0_2, .int .i64 a0_3, .int .i64 a0_4, .int .i64 a0_5] 24 (0, 0)) (by (with_reducible repeat (first | refine blk_drewN ?_ _ | refine blk_drew ?_ | refine blk_alloc ?_ _)); exact BK189.out) hg (Kd.R_ne HL196_2.out BK189.out (by decide)))
                            have n1_ := Aside0.mk (blk_grown (g := gb193) (o := .cells #[.slice (some ⟨go40, 0, none⟩) x194000_2.length co39, .slice none 0 0, .int .i64 0, .bool true] 29 (0, 0)) (by (with_reducible repeat (first | refine blk_drewN ?_ _ | refine blk_drew ?_ | refine blk_alloc ?_ _)); exact BK193.out) hg (Kd.R_ne HL196_2.out BK193.out (by decide)))
                            have n2_ := Aside0.mk (blk_grown (g := gb195) (o := .cells #[.int .i64 ((rd_T31 l2 x10_2).f0), .int .i64 ((rd_T31 l2 x10_2).f1), .bool ((rd_T31 l2 x10_2).f2), .int .i64 ((rd_T31 l2 x10_2).f3), .bool false, .int .i64 ((rd_T31 l2 x10_2).f5)] 31 (0, 0)) (by (with_reducible repeat (first | refine blk_drewN ?_ _ | refine blk_drew ?_ | refine blk_alloc ?_ _)); exact BK195.out) hg (Kd.R_away HL196_2.out (fun _ hk => hk.1.2)))
                            have n3_ := Aside0.mk (hb)
                            have n4_ := Aside0.mk (Kd.H_grown (Kd.H_widen (by repeat (first | exact HH40.out | refine Kd.H_alloc ?_ _ | refine Kd.H_drewN ?_ _ | refine Kd.H_drew ?_))) hg (fun k_ e_ => .inl (UU40.out.1 k_ e_)))
                            have n5_ := Aside0.mk (Kd.R_over' (v := (.slice A196_2 ((rd_T35 x194000_2 a1).f2).length c196_2)) (by (with_reducible repeat (first | apply Kd.R_alloc | apply Kd.R_drewN | apply Kd.R_drew)); exact HE40_0.out) (Kd.R_typed UU40.out) (by decide) hg)
                            have n6_ := Aside0.mk (Kd.R_over' (v := (.slice A196_2 ((rd_T35 x194000_2 a1).f2).length c196_2)) (by (with_reducible repeat (first | apply Kd.R_alloc | apply Kd.R_drewN | apply Kd.R_drew)); exact HE40_1.out) (Kd.R_typed UU40.out) (by decide) hg)
                            have n7_ := Aside0.mk (Kd.R_over' (v := (.slice A196_2 ((rd_T35 x194000_2 a1).f2).length c196_2)) (by (with_reducible repeat (first | apply Kd.R_alloc | apply Kd.R_drewN | apply Kd.R_drew)); exact HE40_3.out) (Kd.R_typed UU40.out) (by decide) hg)
                            have n8_ := Aside0.mk (ho)
                            clear BK189
                            clear BK193
                            clear BK195
                            clear HB
                            clear HH40
                            clear HE40_0
                            clear HE40_1
                            clear HE40_3
                            clear HO_194000
                            clear UU40
                            clear HL196_0
                            clear HL196_1
                            clear HL196_2
                            clear HL196_3
                            have BK189 := n0_
                            have BK193 := n1_
                            have BK195 := n2_
                            have HB := n3_
                            have HH40 := n4_
                            have HE40_0 := n5_
                            have HE40_1 := n6_
                            have HE40_3 := n7_
                            have HO199 := n8_
                            clear n0_ n1_ n2_ n3_ n4_ n5_ n6_ n7_ n8_
                            clear ho hb hg hat
                            have p32 : 0 ≤ (a1 : Int) := of_decide_eq_true (by first | (with_reducible assumption) | assumption)
                            have q32 : (a1 : Int) < ((x194000_2.length : Int) : Int) := of_decide_eq_true (by first | (with_reducible assumption) | assumption)
                            replace p32 := eq_true p32
                            replace q32 := eq_true q32
                            obtain ⟨Ao44, co44, eo44⟩ := Kd.R_slice HO199.out
                            (first | subst eo44 | (injection eo44 with f1_ f2_ f3_; have f4_ := f1_.symm; have f5_ := f3_.symm; clear f1_ f2_ f3_; subst f4_; subst f5_))
                            obtain ⟨_, _, hraw42, _, _, hcc42, _⟩ := Kd.H_raw HH40.out (of_decide_eq_true (by first | (with_reducible assumption) | assumption)) (by have h_ : (a1 : Int) < ((x194000_2.length : Int) : Int) := of_decide_eq_true (by first | (with_reducible assumption) | assumption); first | exact h_ | (have e_ := (HN40.out); omega) | simpa using h_)
                            obtain ⟨_, hfr42⟩ := Kd.H_at HH40.out (of_decide_eq_true (by first | (with_reducible assumption) | assumption)) (by have h_ : (a1 : Int) < ((x194000_2.length : Int) : Int) := of_decide_eq_true (by first | (with_reducible assumption) | assumption); first | exact h_ | (have e_ := (HN40.out); omega) | simpa using h_)
                            have hx42_0 := hcc42 2 _ rfl
                            have hf42_0 := hfr42 2
                            (try rw [show (k35).sz = 6 from rfl] at hx42_0)
                            (try rw [show (k35).sz = 6 from rfl] at hf42_0)
                            have HP42 := Kd.S_seg0 HH40.out (of_decide_eq_true (by first | (with_reducible assumption) | assumption)) (by have h_ : (a1 : Int) < ((x194000_2.length : Int) : Int) := of_decide_eq_true (by first | (with_reducible assumption) | assumption); first | exact h_ | (have e_ := (HN40.out); omega) | simpa using h_) (seg := [.slice Ao44 y197.length co44]) (j := 2) (show 3 ≤ 6 from by decide) (x' := (⟨(rd_T35 x194000_2 a1).f0, (rd_T35 x194000_2 a1).f1, y197, (rd_T35 x194000_2 a1).f3, (rd_T35 x194000_2 a1).f4, (rd_T35 x194000_2 a1).f5⟩ : S35)) (k35_mkM _ _ _ (⟨(rd_T35 x194000_2 a1).f0, (rd_T35 x194000_2 a1).f1, y197, (rd_T35 x194000_2 a1).f3, (rd_T35 x194000_2 a1).f4, (rd_T35 x194000_2 a1).f5⟩ : S35) (Kd.R_mono HE40_0.out (fun _ h_ => .inl h_)) (Kd.R_mono HE40_1.out (fun _ h_ => .inl h_)) HO199.out (Kd.R_mono HE40_3.out (fun _ h_ => .inl h_))) (fun _ hk => hk)
                            clear hcc42 hfr42
                            have HNB189_go40 := Aside0.mk (show gb189 ≠ go40 from by have h_ := Kd.R_ne hraw42 BK189.out (by decide); intro e_; exact h_ (by rw [e_]; rfl))
                            have HNB193_go40 := Aside0.mk (show gb193 ≠ go40 from by have h_ := Kd.R_ne hraw42 BK193.out (by decide); intro e_; exact h_ (by rw [e_]; rfl))
                            have HNB195_go40 := Aside0.mk (show gb195 ≠ go40 from by have h_ := Kd.R_ne hraw42 BK195.out (by decide); intro e_; exact h_ (by rw [e_]; rfl))
                            have HS42 := HP42.1
                            rw [← Ny200.out] at HS42
                            have HQ42 := Aside0.mk HS42
                            obtain ⟨_, hgg42⟩ := Kd.R_typed hraw42 go40 rfl
                            have GG42_ := Aside0.mk hgg42
                            clear HP42 HS42 hgg42
                            refine hK.out _ _ ⟨(blk_cell BK193.out 0).trans rfl, (blk_cell BK193.out 1).trans rfl, (blk_cell BK193.out 2).trans rfl, (blk_cell BK193.out 3).trans rfl, (blk_cell BK195.out 0).trans rfl, (blk_cell BK195.out 1).trans rfl, (blk_cell BK195.out 2).trans rfl, (blk_cell BK195.out 3).trans rfl, (blk_cell BK195.out 4).trans rfl, (blk_cell BK195.out 5).trans rfl, HS10_, HS11_, HS12_, HS13_, HS14_, HS15_⟩ (fun hHeld => ?_)
                            clear hK K
                            refine norm_ (a' := ?_) ?_ ?_
                            rotate_left
                            · show Act.put _ (some 56) _ = _
                              simp only [Act.put, List.setIfInBounds_toArray, List.set_cons_zero, List.set_cons_succ, i64_w, i32_w]
                              rfl
                            refine pure_ (i := 12) (N := some 57) (v := ?_) (a' := ?_) #[true, true, true, true, true, true, true, true, true, true, true, true, true, false, false] rfl rfl (any_of HT_.out (by kernel_rfl)) (fun _ _ _ h => h) (Or.inl ⟨by rfl, ?_⟩) ?_ ?_
                            rotate_left
                            · intro w'
                              go_simp
                              with_reducible rfl
                            rotate_left
                            · simp only [Act.put, List.setIfInBounds_toArray, List.set_cons_zero, List.set_cons_succ, i64_w, i32_w]
                              rfl
                            refine pure_ (i := 13) (N := some 58) (v := ?_) (a' := ?_) #[true, true, true, true, true, true, true, true, true, true, true, true, true, true, false] rfl rfl (any_of HT_.out (by kernel_rfl)) (fun _ _ _ h => h) (Or.inl ⟨by rfl, ?_⟩) ?_ ?_
                            rotate_left
                            · intro w'
                              go_simp
                              with_reducible rfl
                            rotate_left
                            · simp only [Act.put, List.setIfInBounds_toArray, List.set_cons_zero, List.set_cons_succ, i64_w, i32_w]
                              rfl
                            refine last_ (i := 14) (N := none) #[true, true, true, true, true, true, true, true, true, true, true, true, true, true, true] rfl rfl (one_of HT_.out (by kernel_rfl)) (by decide) (fun K hK => ?_)
                            refine skip_ (w1 := ?_) (by rfl) rfl ?_ ?_
                            rotate_left
                            · go_simp
                              rfl
                            refine hK.out _ _ ?_
                            clear hK K
                            refine done_ (done_of HT_.out (by kernel_rfl)) ?_
                            try go_wp2
                            go_roundg k2
                            case measure => have := HJ4.out; have := HK2.out; omega
                            case rel => exact ⟨(wrap64 (x10_2 + 1)), (y200), (.slice (some ⟨go40, 0, none⟩) x194000_2.length co39), (by first | rfl | (simp; done) | (simp [*]; done)), H', ⟨by have := HJ4.out; have := HK2.out; omega⟩, ⟨by (with_reducible repeat (first | apply Kd.S_alloc | apply Kd.S_drewN | apply Kd.S_drew)); exact Kd.S_mono HQ42.out (fun _ hk => hk.1)⟩, ⟨by (with_reducible repeat (first | refine blk_drewN ?_ _ | refine blk_drew ?_ | refine blk_alloc ?_ _)); refine blk_far ?_ HNB189_go40.out _; (with_reducible repeat (first | refine blk_drewN ?_ _ | refine blk_drew ?_ | refine blk_alloc ?_ _)); exact BK189.out⟩, ⟨by (with_reducible repeat (first | refine blk_drewN ?_ _ | refine blk_drew ?_ | refine blk_alloc ?_ _)); refine blk_far ?_ HNB193_go40.out _; (with_reducible repeat (first | refine blk_drewN ?_ _ | refine blk_drew ?_ | refine blk_alloc ?_ _)); exact BK193.out⟩, ⟨by repeat (first | (with_reducible first | exact HB.out | apply below_alloc | apply pw_below_drewN | apply below_drew1 | refine below_set ?_ GB40.out | refine below_set ?_ GE189.out | refine below_set ?_ GE193.out | refine below_set ?_ GE195.out) | exact HB.out)⟩⟩
                          · rw [if_neg c31] at H
                            exact absurd H (by simp)
                        · rw [if_neg c30] at H
                          exact absurd H (by simp)
                      · rw [if_neg c29] at H
                        exact absurd H (by simp)
                · rw [if_neg c18] at H
                  exact absurd H (by simp)
              · rw [if_neg c17] at H
                have c17b0 : decide (x10_2 < (l2.length : Int)) = false := decide_eq_false c17
                clear c17
                have HC45 := Aside0.mk H
                clear H
                go_upto_if 59 with (fail)
                go_cut [] (fun wc => ∃ (kq : Nat) (x194000_44 : List (S35)) (u194000 : Value), Aside0 (meddlerlaw17_ReportSays.j2 kq a3 a0_0 a0_1 a0_2 a0_3 a0_4 a0_5 x194000_44 0 true = some true) ∧ Aside0 (kq ≤ k2) ∧ Aside0 (Kd.S k35 35 wc w.heap.size (fun k_ => k_ ≠ gb189) u194000 x194000_44) ∧ Aside0 (wc.heap[gb189]? = some (.cells #[.int .i64 a0_0, .int .i64 a0_1, .int .i64 a0_2, .int .i64 a0_3, .int .i64 a0_4, .int .i64 a0_5] 24 (0, 0))) ∧ Aside0 (wc.heap[gb193]? = some (.cells #[u194000, (.slice none 0 0), .int .i64 0, .bool true] 29 (0, 0))) ∧ Aside0 (Below w.heap.size w wc))
                case first =>
                  have H := HC45.out
                  clear HC45
                  by_cases c46 : a3 = true
                  · subst c46
                    have H1 : (if 0 ≤ a1 then (if a1 < (x194000_2.length : Int) then (meddlerlaw17_ReportSays.j2 k2 true a0_0 a0_1 a0_2 a0_3 a0_4 a0_5 (x194000_2.set (a1 : Int).toNat (⟨(rd_T35 x194000_2 a1).f0, (rd_T35 x194000_2 a1).f1, (rd_T35 x194000_2 a1).f2, (([(⟨a0_0, a0_1, a0_2, a0_3, a0_4, a0_5⟩ : S24), (⟨a0_0, a0_1, a0_2, a0_3, a0_4, a0_5⟩ : S24)] : List (S24))), (rd_T35 x194000_2 a1).f4, (rd_T35 x194000_2 a1).f5⟩ : S35)) 0 true) else (none)) else (none)) = some true := by rw [if_pos rfl] at H; exact H
                    clear H
                    have H := H1
                    clear H1
                    obtain ⟨y201, hy201⟩ : ∃ y_ : List (S24), y_ = (([(⟨a0_0, a0_1, a0_2, a0_3, a0_4, a0_5⟩ : S24), (⟨a0_0, a0_1, a0_2, a0_3, a0_4, a0_5⟩ : S24)] : List (S24))) := ⟨_, rfl⟩
                    replace H : (if 0 ≤ a1 then (if a1 < (x194000_2.length : Int) then (meddlerlaw17_ReportSays.j2 k2 true a0_0 a0_1 a0_2 a0_3 a0_4 a0_5 (x194000_2.set (a1 : Int).toNat (⟨(rd_T35 x194000_2 a1).f0, (rd_T35 x194000_2 a1).f1, (rd_T35 x194000_2 a1).f2, y201, (rd_T35 x194000_2 a1).f4, (rd_T35 x194000_2 a1).f5⟩ : S35)) 0 true) else (none)) else (none)) = some true := by first | (rw [hy201]; with_reducible exact H) | (have H2_ := (Option.bind_some _ _).symm.trans H; rw [hy201]; with_reducible exact H2_) | (have H2_ := (Option.bind_some _ _).symm.trans H; with_reducible exact H2_) | with_reducible exact H | (rw [hy201]; exact H) | exact H
                    have Ny201 := Aside0.mk hy201
                    clear hy201
                    by_cases c47 : 0 ≤ a1
                    · rw [if_pos c47] at H
                      have c47b0 : decide (0 ≤ a1) = true := decide_eq_true c47
                      clear c47
                      (first | rw [c47b0] | (simp only [i64_w, i32_w]; rw [c47b0]) | skip)
                      by_cases c48 : a1 < (x194000_2.length : Int)
                      · rw [if_pos c48] at H
                        have c48b0 : decide (a1 < (x194000_2.length : Int)) = true := decide_eq_true c48
                        clear c48
                        obtain ⟨y204, hy204⟩ : ∃ y_ : List (S35), y_ = (x194000_2.set (a1 : Int).toNat (⟨(rd_T35 x194000_2 a1).f0, (rd_T35 x194000_2 a1).f1, (rd_T35 x194000_2 a1).f2, y201, (rd_T35 x194000_2 a1).f4, (rd_T35 x194000_2 a1).f5⟩ : S35)) := ⟨_, rfl⟩
                        replace H : (meddlerlaw17_ReportSays.j2 k2 true a0_0 a0_1 a0_2 a0_3 a0_4 a0_5 y204 0 true) = some true := by first | (rw [hy204]; with_reducible exact H) | (have H2_ := (Option.bind_some _ _).symm.trans H; rw [hy204]; with_reducible exact H2_) | (have H2_ := (Option.bind_some _ _).symm.trans H; with_reducible exact H2_) | with_reducible exact H | (rw [hy204]; exact H) | exact H
                        have Ny204 := Aside0.mk hy204
                        clear hy204
                        have H' := Aside0.mk H
                        clear H
                        have hnb50 := NB193_189.out
                        have hnc50 := NB189_193.out
                        have hcz51_0 : wr.cell? ⟨gb193, 0, none⟩ = some (u194000) := (blk_cell BK193.out 0).trans rfl
                        have hcz51_1 : wr.cell? ⟨gb193, 1, none⟩ = some (.slice none 0 0) := (blk_cell BK193.out 1).trans rfl
                        have hcz51_2 : wr.cell? ⟨gb193, 2, none⟩ = some (.int .i64 0) := (blk_cell BK193.out 2).trans rfl
                        have hcz51_3 : wr.cell? ⟨gb193, 3, none⟩ = some (.bool true) := (blk_cell BK193.out 3).trans rfl
                        have hfz51_0 := blk_frozen BK193.out 0
                        have hfz51_1 := blk_frozen BK193.out 1
                        have hfz51_2 := blk_frozen BK193.out 2
                        have hfz51_3 := blk_frozen BK193.out 3
                        have hcz52_0 : wr.cell? ⟨gb189, 0, none⟩ = some (.int .i64 a0_0) := (blk_cell BK189.out 0).trans rfl
                        have hcz52_1 : wr.cell? ⟨gb189, 1, none⟩ = some (.int .i64 a0_1) := (blk_cell BK189.out 1).trans rfl
                        have hcz52_2 : wr.cell? ⟨gb189, 2, none⟩ = some (.int .i64 a0_2) := (blk_cell BK189.out 2).trans rfl
                        have hcz52_3 : wr.cell? ⟨gb189, 3, none⟩ = some (.int .i64 a0_3) := (blk_cell BK189.out 3).trans rfl
                        have hcz52_4 : wr.cell? ⟨gb189, 4, none⟩ = some (.int .i64 a0_4) := (blk_cell BK189.out 4).trans rfl
                        have hcz52_5 : wr.cell? ⟨gb189, 5, none⟩ = some (.int .i64 a0_5) := (blk_cell BK189.out 5).trans rfl
                        have hfz52_0 := blk_frozen BK189.out 0
                        have hfz52_1 := blk_frozen BK189.out 1
                        have hfz52_2 := blk_frozen BK189.out 2
                        have hfz52_3 := blk_frozen BK189.out 3
                        have hfz52_4 := blk_frozen BK189.out 4
                        have hfz52_5 := blk_frozen BK189.out 5
                        go_wp2_with (first | ((with_reducible refine gate_dst (N := 65) rfl ?_); (try (refine gate_guard (by rfl) ?_; dsimp only)); refine Kd.R_lit k24 _ 24 ?hg (N := 65) ?hd (xs := ([(⟨a0_0, a0_1, a0_2, a0_3, a0_4, a0_5⟩ : S24), (⟨a0_0, a0_1, a0_2, a0_3, a0_4, a0_5⟩ : S24)] : List (S24))) (inner := [.int .i64 a0_0, .int .i64 a0_1, .int .i64 a0_2, .int .i64 a0_3, .int .i64 a0_4, .int .i64 a0_5, .int .i64 a0_0, .int .i64 a0_1, .int .i64 a0_2, .int .i64 a0_3, .int .i64 a0_4, .int .i64 a0_5]) (ok := fun _ => True) (okp := fun _ => True) ?hr ?hp (fun _ hk => hk) trivial (Below.refl _ _) (Nat.le_refl _) (by simp) ?_; (case hd => rfl); (case hg => rfl); (case hr => first | (go_simp; done) | (go_simp; rfl)); (case hp => exact (Reps.c6 (show Kd.M k24 _ _ _ (⟨a0_0, a0_1, a0_2, a0_3, a0_4, a0_5⟩ : S24) [.int .i64 a0_0, .int .i64 a0_1, .int .i64 a0_2, .int .i64 a0_3, .int .i64 a0_4, .int .i64 a0_5] from (k24_mkM _ _ _ (⟨a0_0, a0_1, a0_2, a0_3, a0_4, a0_5⟩ : S24) )) (Reps.c6 (show Kd.M k24 _ _ _ (⟨a0_0, a0_1, a0_2, a0_3, a0_4, a0_5⟩ : S24) [.int .i64 a0_0, .int .i64 a0_1, .int .i64 a0_2, .int .i64 a0_3, .int .i64 a0_4, .int .i64 a0_5] from (k24_mkM _ _ _ (⟨a0_0, a0_1, a0_2, a0_3, a0_4, a0_5⟩ : S24) )) (Reps.none _ _)))); intro v202 w53 ho54 hb hg_ hnew_; clear hg_ hnew_; (first | rw [← Ny201.out] at ho54 | (simp only [Int.reduceToNat] at ho54; rw [← Ny201.out] at ho54)); have n0_ := Aside0.mk (Kd.S_elder' (by (with_reducible repeat (first | apply Kd.S_alloc | apply Kd.S_drewN | apply Kd.S_drew)); exact HO_194000.out) (Kd.R_base ho54) hb); have n1_ := Aside0.mk (Kd.R_lower (Kd.R_newB ho54 (g := gb189) (o := .cells #[.int .i64 a0_0, .int .i64 a0_1, .int .i64 a0_2, .int .i64 a0_3, .int .i64 a0_4, .int .i64 a0_5] 24 (0, 0)) (by (with_reducible repeat (first | refine blk_drewN ?_ _ | refine blk_drew ?_ | refine blk_alloc ?_ _)); exact BK189.out)) (below_size (by repeat (first | (with_reducible first | exact HB.out | apply below_alloc | apply pw_below_drewN | apply below_drew1 | refine below_set ?_ GE189.out | refine below_set ?_ GE193.out) | exact HB.out)))); have n2_ := Aside0.mk (blk_below (g := gb189) (o := .cells #[.int .i64 a0_0, .int .i64 a0_1, .int .i64 a0_2, .int .i64 a0_3, .int .i64 a0_4, .int .i64 a0_5] 24 (0, 0)) (by (with_reducible repeat (first | refine blk_drewN ?_ _ | refine blk_drew ?_ | refine blk_alloc ?_ _)); exact BK189.out) hb); have n3_ := Aside0.mk (blk_below (g := gb193) (o := .cells #[u194000, .slice none 0 0, .int .i64 0, .bool true] 29 (0, 0)) (by (with_reducible repeat (first | refine blk_drewN ?_ _ | refine blk_drew ?_ | refine blk_alloc ?_ _)); exact BK193.out) hb); have n4_ := Aside0.mk (below_step (by repeat (first | (with_reducible first | exact HB.out | apply below_alloc | apply pw_below_drewN | apply below_drew1 | refine below_set ?_ GE189.out | refine below_set ?_ GE193.out) | exact HB.out)) hb); clear HO_194000; clear BK189; clear BK193; clear HB; have HO_194000 := n0_; have HO203 := n1_; have BK189 := n2_; have BK193 := n3_; have HB := n4_; clear n0_ n1_ n2_ n3_ n4_; clear hb ho54; obtain ⟨Al202, cl202, ev202⟩ := Kd.R_slice HO203.out; subst ev202; have p49 : 0 ≤ (a1 : Int) := of_decide_eq_true (by first | (with_reducible assumption) | assumption); have q49 : (a1 : Int) < ((x194000_2.length : Int) : Int) := of_decide_eq_true (by first | (with_reducible assumption) | assumption); obtain ⟨go49, co49, eo49, gb49, gl49, cl49, HG49⟩ := Kd.S_form HO_194000.out (by omega); (first | cases eo49 | (injection eo49 with ea_ en_ ec_; (first | subst ea_ | (injection ea_ with ea_; subst ea_)); subst ec_; clear en_)); have GB49 := Aside0.mk gb49; have GG49 := Aside0.mk HG49; clear gb49 gl49 HG49; obtain ⟨_, ce49, hcl49, hM49, hcc49, hfr49, _, _⟩ := Kd.S_elem HO_194000.out z35 (a1 : Int) p49 q49; obtain ⟨ve49_0, ve49_1, ve49_2, ve49_3, rfl, ge49_0, ge49_1, ge49_2, ge49_3⟩ := k35_openM hM49; have hx49_0 : w53.cell? ⟨go49, (a1 : Int).toNat * 6, none⟩ = some (ve49_0) := hcc49 0 _ rfl; have hx49_1 : w53.cell? ⟨go49, (a1 : Int).toNat * 6 + 1, none⟩ = some (ve49_1) := hcc49 1 _ rfl; have hx49_2 : w53.cell? ⟨go49, (a1 : Int).toNat * 6 + 2, none⟩ = some (ve49_2) := hcc49 2 _ rfl; have hx49_3 : w53.cell? ⟨go49, (a1 : Int).toNat * 6 + 3, none⟩ = some (ve49_3) := hcc49 3 _ rfl; have hx49_4 : w53.cell? ⟨go49, (a1 : Int).toNat * 6 + 4, none⟩ = some (.int .i64 ((rd_T35 x194000_2 a1).f4)) := hcc49 4 _ rfl; have hx49_5 : w53.cell? ⟨go49, (a1 : Int).toNat * 6 + 5, none⟩ = some (.bool ((rd_T35 x194000_2 a1).f5)) := hcc49 5 _ rfl; have hf49_0 : w53.frozen? ⟨go49, (a1 : Int).toNat * 6, none⟩ = false := hfr49 0; have hf49_1 : w53.frozen? ⟨go49, (a1 : Int).toNat * 6 + 1, none⟩ = false := hfr49 1; have hf49_2 : w53.frozen? ⟨go49, (a1 : Int).toNat * 6 + 2, none⟩ = false := hfr49 2; have hf49_3 : w53.frozen? ⟨go49, (a1 : Int).toNat * 6 + 3, none⟩ = false := hfr49 3; have hf49_4 : w53.frozen? ⟨go49, (a1 : Int).toNat * 6 + 4, none⟩ = false := hfr49 4; have hf49_5 : w53.frozen? ⟨go49, (a1 : Int).toNat * 6 + 5, none⟩ = false := hfr49 5; clear hcl49 hcc49 hfr49 hM49; replace p49 := eq_true p49; replace q49 := eq_true q49; have HX55 := Aside0.mk (show Kd.S k35 35 w53 w.heap.size (fun k_ => ((fun k_ => k_ ≠ gb189)) k_ ∧ ¬ ((fun k_ => some k_ = (.slice Al202 y201.length cl202 : Value).ownBlock)) k_) (.slice (some ⟨go49, 0, none⟩) x194000_2.length co49) x194000_2 from (by (with_reducible repeat (first | apply Kd.S_alloc | apply Kd.S_drewN | apply Kd.S_drew)); exact Kd.S_mono HO_194000.out (fun k_ hk => ⟨hk.1, fun e_ => hk.2 e_⟩))); obtain ⟨oki55, ce55, hcl55, hM55, hcc55, hfr55, hoki55, hH55⟩ := Kd.S_elem HX55.out z35 (a1 : Int) (of_decide_eq_true (by first | (with_reducible assumption) | assumption)) (by have h_ : (a1 : Int) < ((x194000_2.length : Int) : Int) := of_decide_eq_true (by first | (with_reducible assumption) | assumption); first | exact h_ | (have e_ := (Kd.S_reads' HO_194000.out).1; omega) | simpa using h_); obtain ⟨ve55_0, ve55_1, ve55_2, ve55_3, rfl, ge55_0, ge55_1, ge55_2, ge55_3⟩ := k35_openM hM55; have HP55 := Kd.S_seg hH55 (of_decide_eq_true (by first | (with_reducible assumption) | assumption)) (by have h_ : (a1 : Int) < ((x194000_2.length : Int) : Int) := of_decide_eq_true (by first | (with_reducible assumption) | assumption); first | exact h_ | (have e_ := (Kd.S_reads' HO_194000.out).1; omega) | simpa using h_) (seg := [(.slice Al202 y201.length cl202)]) (j := 3) (show 4 ≤ 6 from by decide) (x' := (⟨(rd_T35 x194000_2 a1).f0, (rd_T35 x194000_2 a1).f1, (rd_T35 x194000_2 a1).f2, y201, (rd_T35 x194000_2 a1).f4, (rd_T35 x194000_2 a1).f5⟩ : S35)) (k35_mkM _ _ _ (⟨(rd_T35 x194000_2 a1).f0, (rd_T35 x194000_2 a1).f1, (rd_T35 x194000_2 a1).f2, y201, (rd_T35 x194000_2 a1).f4, (rd_T35 x194000_2 a1).f5⟩ : S35) (Kd.R_mono ge55_0 (fun _ h_ => Or.inl h_)) (Kd.R_mono ge55_1 (fun _ h_ => Or.inl h_)) (Kd.R_mono ge55_2 (fun _ h_ => Or.inl h_)) (Kd.R_mono (Kd.R_tight rfl (Kd.R_mono (ok' := fun k_ => ((fun k_ => k_ ≠ gb189)) k_ ∧ k_ ≠ go49) (Kd.R_apart' (HO203.out) (Kd.S_typed HO_194000.out) (by decide)) (fun k_ hk => ⟨hk.1.2, fun e_ => (hk.2) (by rw [e_]; rfl)⟩))) (fun _ h_ => Or.inr (h_)))) (fun _ hk => hk) (fun k_ hk_ => ((Kd.R_mono (ok' := fun k_ => ((fun k_ => k_ ≠ gb189)) k_ ∧ k_ ≠ go49) (Kd.R_apart' (HO203.out) (Kd.S_typed HO_194000.out) (by decide)) (fun k_ hk => ⟨hk.1.2, fun e_ => (hk.2) (by rw [e_]; rfl)⟩))).1 k_ hk_.symm); have hx55_3 := hcc55 3 _ rfl; (try simp only [show (k35).sz = 6 from rfl, Nat.mul_one, Nat.add_zero] at hx55_3); have hf55_3 := hfr55 3; (try simp only [show (k35).sz = 6 from rfl, Nat.mul_one, Nat.add_zero] at hf55_3); clear hcl55 hcc55 hfr55 hM55 hoki55 hH55) | ((with_reducible refine gate_store (t := 33) (p := 67) rfl ?_); refine store_event (t := 33) (p := 67) (v := ?vo_w56) (w1 := (w53.setCell ⟨go49, (a1 : Int).toNat * 6 + 3, none⟩ ((.slice Al202 y201.length cl202)))) ?hg ?ho ?hn ?hr ?_; (case ho => rfl); (case hg => rfl); (case hn => rfl); (case hr => first | (go_simp; done) | (go_simp; rfl)); intro w56 hw; have hg : w53.grownBy w56 (some go49) := (by rw [hw]; exact HP55.2); have hp_ : Kd.S k35 35 w56 w.heap.size (fun k_ => k_ ≠ gb189) (.slice (some ⟨go49, 0, none⟩) x194000_2.length co49) y204 := (by rw [hw, Ny204.out]; exact HP55.1); clear HP55; have n0_ := Aside0.mk (hp_); have n1_ := Aside0.mk (blk_grown (g := gb189) (o := .cells #[.int .i64 a0_0, .int .i64 a0_1, .int .i64 a0_2, .int .i64 a0_3, .int .i64 a0_4, .int .i64 a0_5] 24 (0, 0)) (by (with_reducible repeat (first | refine blk_drewN ?_ _ | refine blk_drew ?_ | refine blk_alloc ?_ _)); exact BK189.out) hg (Kd.S_ne HO_194000.out BK189.out (by decide))); have n2_ := Aside0.mk (blk_grown (g := gb193) (o := .cells #[.slice (some ⟨go49, 0, none⟩) x194000_2.length co49, .slice none 0 0, .int .i64 0, .bool true] 29 (0, 0)) (by (with_reducible repeat (first | refine blk_drewN ?_ _ | refine blk_drew ?_ | refine blk_alloc ?_ _)); exact BK193.out) hg (Kd.S_ne HO_194000.out BK193.out (by decide))); have n3_ := Aside0.mk ((by rw [hw]; exact below_set (HB.out) GB49.out : Below w.heap.size w w56)); clear HO_194000; clear BK189; clear BK193; clear HB; clear HO203; have HO_194000 := n0_; have BK189 := n1_; have BK193 := n2_; have HB := n3_; clear n0_ n1_ n2_ n3_; clear hg hw hp_))
                        go_meet
                        case rel => exact ⟨_, (y204), (.slice (some ⟨go49, 0, none⟩) x194000_2.length co49), H', ⟨by have := HJ4.out; have := HK2.out; first | omega | exact Nat.le_refl _⟩, ⟨by (with_reducible repeat (first | apply Kd.S_alloc | apply Kd.S_drewN | apply Kd.S_drew)); exact HO_194000.out⟩, ⟨by (with_reducible repeat (first | refine blk_drewN ?_ _ | refine blk_drew ?_ | refine blk_alloc ?_ _)); exact BK189.out⟩, ⟨by (with_reducible repeat (first | refine blk_drewN ?_ _ | refine blk_drew ?_ | refine blk_alloc ?_ _)); exact BK193.out⟩, ⟨by repeat (first | (with_reducible first | exact HB.out | apply below_alloc | apply pw_below_drewN | apply below_drew1 | refine below_set ?_ GE189.out | refine below_set ?_ GE193.out) | exact HB.out)⟩⟩
                      · rw [if_neg c48] at H
                        exact absurd H (by simp)
                    · rw [if_neg c47] at H
                      exact absurd H (by simp)
                  · replace c46 := Bool.eq_false_iff.mpr c46
                    subst c46
                    have H1 : (meddlerlaw17_ReportSays.j2 k2 false a0_0 a0_1 a0_2 a0_3 a0_4 a0_5 x194000_2 0 true) = some true := by rw [if_neg (show ¬ (false = true) by decide)] at H; exact H
                    clear H
                    have H := H1
                    clear H1
                    have H' := Aside0.mk H
                    clear H
                    go_wp2
                    go_meet
                    case rel => exact ⟨_, (x194000_2), (u194000), H', ⟨by have := HJ4.out; have := HK2.out; first | omega | exact Nat.le_refl _⟩, ⟨by (with_reducible repeat (first | apply Kd.S_alloc | apply Kd.S_drewN | apply Kd.S_drew)); exact HO_194000.out⟩, ⟨by (with_reducible repeat (first | refine blk_drewN ?_ _ | refine blk_drew ?_ | refine blk_alloc ?_ _)); exact BK189.out⟩, ⟨by (with_reducible repeat (first | refine blk_drewN ?_ _ | refine blk_drew ?_ | refine blk_alloc ?_ _)); exact BK193.out⟩, ⟨by repeat (first | (with_reducible first | exact HB.out | apply below_alloc | apply pw_below_drewN | apply below_drew1 | refine below_set ?_ GE189.out | refine below_set ?_ GE193.out) | exact HB.out)⟩⟩
                case rest =>
                  clear HC45
                  try clear c1
                  try clear p1
                  try clear q1
                  try clear hx1
                  try clear c2
                  try clear p2
                  try clear c3
                  try clear p3
                  try clear q3
                  try clear c4
                  try clear p4
                  try clear q4
                  try clear hx4
                  try clear hf4
                  try clear c5
                  try clear hx5
                  try clear hf5
                  try clear c6
                  try clear p6
                  try clear c7
                  try clear c7b0
                  try clear c8
                  try clear c8b0
                  try clear c9
                  try clear c10
                  try clear c10b0
                  try clear c10b1
                  try clear c15
                  try clear c17
                  try clear c17b0
                  try clear c18
                  try clear c18b0
                  try clear c19
                  try clear c19b0
                  try clear p19
                  try clear q19
                  try clear hx19
                  try clear c21
                  try clear c22
                  try clear c24
                  try clear c24b0
                  try clear c26
                  try clear c27
                  try clear c29
                  try clear c29b0
                  try clear c30
                  try clear c30b0
                  try clear c31
                  try clear p32
                  try clear q32
                  try clear c34
                  try clear c35
                  try clear c40
                  try clear c42
                  try clear hx42
                  try clear hf42
                  try clear c46
                  try clear c47
                  try clear c47b0
                  try clear c48
                  try clear c48b0
                  try clear c49
                  try clear p49
                  try clear q49
                  try clear hx49
                  try clear hf49
                  try clear c50
                  try clear c55
                  try clear hx55
                  try clear hf55
                  try clear hcz16_0
                  try clear hcz16_1
                  try clear hcz16_2
                  try clear hcz16_3
                  try clear hcz23_0
                  try clear hcz23_1
                  try clear hcz23_2
                  try clear hcz23_3
                  try clear hcz23_4
                  try clear hcz23_5
                  try clear hcz28_0
                  try clear hcz28_1
                  try clear hcz28_2
                  try clear hcz28_3
                  try clear hcz28_4
                  try clear hcz28_5
                  try clear hcz36_0
                  try clear hcz36_1
                  try clear hcz36_2
                  try clear hcz36_3
                  try clear hcz36_4
                  try clear hcz36_5
                  try clear hcz51_0
                  try clear hcz51_1
                  try clear hcz51_2
                  try clear hcz51_3
                  try clear hcz52_0
                  try clear hcz52_1
                  try clear hcz52_2
                  try clear hcz52_3
                  try clear hcz52_4
                  try clear hcz52_5
                  try clear hfz16_0
                  try clear hfz16_1
                  try clear hfz16_2
                  try clear hfz16_3
                  try clear hfz23_0
                  try clear hfz23_1
                  try clear hfz23_2
                  try clear hfz23_3
                  try clear hfz23_4
                  try clear hfz23_5
                  try clear hfz28_0
                  try clear hfz28_1
                  try clear hfz28_2
                  try clear hfz28_3
                  try clear hfz28_4
                  try clear hfz28_5
                  try clear hfz36_0
                  try clear hfz36_1
                  try clear hfz36_2
                  try clear hfz36_3
                  try clear hfz36_4
                  try clear hfz36_5
                  try clear hfz51_0
                  try clear hfz51_1
                  try clear hfz51_2
                  try clear hfz51_3
                  try clear hfz52_0
                  try clear hfz52_1
                  try clear hfz52_2
                  try clear hfz52_3
                  try clear hfz52_4
                  try clear hfz52_5
                  try clear hx194_0
                  try clear hx194_1
                  try clear hx194_2
                  try clear hx194_3
                  try clear hx194_4
                  try clear hx194_5
                  try clear hx196_0
                  try clear hx196_1
                  try clear hx196_2
                  try clear hx196_3
                  try clear hx196_4
                  try clear hx196_5
                  try clear hx42_0
                  try clear hx49_0
                  try clear hx49_1
                  try clear hx49_2
                  try clear hx49_3
                  try clear hx49_4
                  try clear hx49_5
                  try clear hx55_3
                  try clear p194
                  try clear p196
                  try clear p2
                  try clear p32
                  try clear p49
                  try clear q194
                  try clear q196
                  try clear q32
                  try clear q49
                  obtain ⟨kq, x194000_44, u194000, HA, HJ44, HO_194000, BK189, BK193, HB⟩ := hcut
                  cases kq with
                  | zero => exact absurd HA.out (by simp [meddlerlaw17_ReportSays.j2])
                  | succ kj44 =>
                    have H := HA.out
                    clear HA
                    simp only [meddlerlaw17_ReportSays.j2] at H
                    replace H := Option.bind_eq_some_iff.mp H
                    obtain ⟨⟨t205, t206, t207, t208⟩, A570, H⟩ := H
                    replace H : (if a3 = true then (if t205 = 2 then (if (t208.length : Int) = 1 then (if 0 < (t208.length : Int) then (if (((rd_T24 t208 0).f0) == a0_0 && (((rd_T24 t208 0).f1) == a0_1 && (((rd_T24 t208 0).f2) == a0_2 && (((rd_T24 t208 0).f3) == a0_3 && (((rd_T24 t208 0).f4) == a0_4 && (((rd_T24 t208 0).f5) == a0_5)))))) = true then ((meddlerlaw17_known.f kj44).bind fun t213 => (some t213)) else (some false)) else (none)) else (some false)) else (some false)) else (if t205 = 3 then (if (t208.length : Int) = 0 then ((meddlerlaw17_known.f kj44).bind fun t214 => (some t214)) else (some false)) else (some false))) = some true := H
                    have A57 := Aside0.mk A570
                    clear A570
                    by_cases c58 : a3 = true
                    · subst c58
                      have H1 : (if t205 = 2 then (if (t208.length : Int) = 1 then (if 0 < (t208.length : Int) then (if (((rd_T24 t208 0).f0) == a0_0 && (((rd_T24 t208 0).f1) == a0_1 && (((rd_T24 t208 0).f2) == a0_2 && (((rd_T24 t208 0).f3) == a0_3 && (((rd_T24 t208 0).f4) == a0_4 && (((rd_T24 t208 0).f5) == a0_5)))))) = true then ((meddlerlaw17_known.f kj44).bind fun t213 => (some t213)) else (some false)) else (none)) else (some false)) else (some false)) = some true := by rw [if_pos rfl] at H; exact H
                      clear H
                      have H := H1
                      clear H1
                      by_cases c59 : t205 = 2
                      · rw [if_pos c59] at H
                        have c59b0 : (t205 == 2) = true := beq_iff_eq.mpr c59
                        have c59b1 : (t205 != 2) = false := bne_eq_false_iff_eq.mpr c59
                        clear c59
                        by_cases c60 : (t208.length : Int) = 1
                        · rw [if_pos c60] at H
                          have c60b0 : ((t208.length : Int) == 1) = true := beq_iff_eq.mpr c60
                          have c60b1 : ((t208.length : Int) != 1) = false := bne_eq_false_iff_eq.mpr c60
                          clear c60
                          by_cases c61 : 0 < (t208.length : Int)
                          · rw [if_pos c61] at H
                            have c61b0 : decide (0 < (t208.length : Int)) = true := decide_eq_true c61
                            have c61b1 : decide (0 < t208.length) = true := decide_eq_true (by omega)
                            clear c61
                            by_cases c62 : (((rd_T24 t208 0).f0) == a0_0 && (((rd_T24 t208 0).f1) == a0_1 && (((rd_T24 t208 0).f2) == a0_2 && (((rd_T24 t208 0).f3) == a0_3 && (((rd_T24 t208 0).f4) == a0_4 && (((rd_T24 t208 0).f5) == a0_5)))))) = true
                            · rw [if_pos c62] at H
                              have c62b0 : (((rd_T24 t208 0).f0) == a0_0 && (((rd_T24 t208 0).f1) == a0_1 && (((rd_T24 t208 0).f2) == a0_2 && (((rd_T24 t208 0).f3) == a0_3 && (((rd_T24 t208 0).f4) == a0_4 && (((rd_T24 t208 0).f5) == a0_5)))))) = true := c62
                              (try (have c62b1 : decide (((rd_T24 t208 0).f0) = a0_0 && (((rd_T24 t208 0).f1) == a0_1 && (((rd_T24 t208 0).f2) == a0_2 && (((rd_T24 t208 0).f3) == a0_3 && (((rd_T24 t208 0).f4) == a0_4 && (((rd_T24 t208 0).f5) == a0_5)))))) = true := by simpa using c62))
                              (try (have c62b2 : (((rd_T24 t208 0).f0) == a0_0 && (((rd_T24 t208 0).f1) == a0_1 && (((rd_T24 t208 0).f2) == a0_2 && (((rd_T24 t208 0).f3) == a0_3 && (((rd_T24 t208 0).f4) == a0_4 && (((rd_T24 t208 0).f5) == a0_5)))))) = true := by simpa using c62))
                              clear c62
                              replace H := Option.bind_eq_some_iff.mp H
                              obtain ⟨t213, A630, H⟩ := H
                              replace H : (some t213) = some true := H
                              have A63 := Aside0.mk A630
                              clear A630
                              have HT := Aside0.mk (Option.some.inj H)
                              clear H
                              have hnb64 := NB193_189.out
                              have hnc64 := NB189_193.out
                              have hcz65_0 : wc.cell? ⟨gb193, 0, none⟩ = some (u194000) := (blk_cell BK193.out 0).trans rfl
                              have hcz65_1 : wc.cell? ⟨gb193, 1, none⟩ = some (.slice none 0 0) := (blk_cell BK193.out 1).trans rfl
                              have hcz65_2 : wc.cell? ⟨gb193, 2, none⟩ = some (.int .i64 0) := (blk_cell BK193.out 2).trans rfl
                              have hcz65_3 : wc.cell? ⟨gb193, 3, none⟩ = some (.bool true) := (blk_cell BK193.out 3).trans rfl
                              have hfz65_0 := blk_frozen BK193.out 0
                              have hfz65_1 := blk_frozen BK193.out 1
                              have hfz65_2 := blk_frozen BK193.out 2
                              have hfz65_3 := blk_frozen BK193.out 3
                              obtain ⟨Ao66, co66, eo66⟩ := Kd.S_slice HO_194000.out
                              subst eo66
                              try go_wp2_with (first | ((with_reducible refine gate_callee (f := 12) rfl ?_); refine goesL_ (some 69) rfl rfl Try.func12 (by kernel_rfl) rfl #[.agg #[.slice Ao66 x194000_44.length co66, .slice none 0 0, .int .i64 0, .bool true]] rfl (by (try simp only [List.map_toArray, List.map_cons, List.map_nil]); first | done | rfl | (simp only [List.length_drop, List.length_take]; rfl)) ?_; (refine (report_Of.calls kj44 _ _ x194000_44 _ _ ([] : List (S115)) 0 true t205 t206 t207 t208 _ ?side1 ?side2 ?side3 ?side4 A57.out).mono ?_); (case side1 => repeat (first | exact (Kd.S_reads' HO_194000.out).2.2 | (with_reducible refine Kd.C_alloc ?_ _) | (with_reducible refine Kd.C_drewN ?_ _) | (with_reducible refine Kd.C_drew ?_))); (case side2 => exact (Kd.S_reads' HO_194000.out).2.1); (case side3 => exact Kd.C_nil _ _); (case side4 => exact Nat.le_refl _); rintro e w67 ⟨v209, rfl, ho0, hb⟩; refine ⟨_, rfl, ?_⟩; have n0_ := Aside0.mk (Kd.S_elder' (by (with_reducible repeat (first | apply Kd.S_alloc | apply Kd.S_drewN | apply Kd.S_drew)); exact HO_194000.out) (Kd.R_base ho0) hb); have n1_ := Aside0.mk (Kd.R_lower (Kd.R_newB ho0 (g := gb189) (o := .cells #[.int .i64 a0_0, .int .i64 a0_1, .int .i64 a0_2, .int .i64 a0_3, .int .i64 a0_4, .int .i64 a0_5] 24 (0, 0)) (by (with_reducible repeat (first | refine blk_drewN ?_ _ | refine blk_drew ?_ | refine blk_alloc ?_ _)); exact BK189.out)) (below_size (by repeat (first | (with_reducible first | exact HB.out | apply below_alloc | apply pw_below_drewN | apply below_drew1 | refine below_set ?_ GE189.out | refine below_set ?_ GE193.out) | exact HB.out)))); have n2_ := Aside0.mk (blk_below (g := gb189) (o := .cells #[.int .i64 a0_0, .int .i64 a0_1, .int .i64 a0_2, .int .i64 a0_3, .int .i64 a0_4, .int .i64 a0_5] 24 (0, 0)) (by (with_reducible repeat (first | refine blk_drewN ?_ _ | refine blk_drew ?_ | refine blk_alloc ?_ _)); exact BK189.out) hb); have n3_ := Aside0.mk (blk_below (g := gb193) (o := .cells #[.slice Ao66 x194000_44.length co66, .slice none 0 0, .int .i64 0, .bool true] 29 (0, 0)) (by (with_reducible repeat (first | refine blk_drewN ?_ _ | refine blk_drew ?_ | refine blk_alloc ?_ _)); exact BK193.out) hb); have n4_ := Aside0.mk (below_step (by repeat (first | (with_reducible first | exact HB.out | apply below_alloc | apply pw_below_drewN | apply below_drew1 | refine below_set ?_ GE189.out | refine below_set ?_ GE193.out) | exact HB.out)) hb); clear HO_194000; clear BK189; clear BK193; clear HB; have HO_194000 := n0_; have HO210 := n1_; have BK189 := n2_; have BK193 := n3_; have HB := n4_; clear n0_ n1_ n2_ n3_ n4_; (try clear hb); (try clear hb2); (try clear hk); (try clear hi); (try clear ho0)) | ((with_reducible refine gate_dst (N := 12) rfl ?_); (try (refine gate_guard (by rfl) ?_; dsimp only)); refine box_event ?hg (N := 12) ?hd (cs := #[.int .i64 0, .int .i64 0, .int .i64 0, .slice none 0 0]) (t := 37) ?hr ?_; (case hd => rfl); (case hg => rfl); (case hr => first | (go_simp; done) | (go_simp; rfl)); intro gb211 hg w68 hbox hb; have n0_ := Aside0.mk (Kd.S_below (by (with_reducible repeat (first | apply Kd.S_alloc | apply Kd.S_drewN | apply Kd.S_drew)); exact HO_194000.out) hb); have n1_ := Aside0.mk (Kd.R_below (by (with_reducible repeat (first | apply Kd.R_alloc | apply Kd.R_drewN | apply Kd.R_drew)); exact HO210.out) hb); have n2_ := Aside0.mk (blk_below (g := gb189) (o := .cells #[.int .i64 a0_0, .int .i64 a0_1, .int .i64 a0_2, .int .i64 a0_3, .int .i64 a0_4, .int .i64 a0_5] 24 (0, 0)) (by (with_reducible repeat (first | refine blk_drewN ?_ _ | refine blk_drew ?_ | refine blk_alloc ?_ _)); exact BK189.out) hb); have n3_ := Aside0.mk (blk_below (g := gb193) (o := .cells #[.slice Ao66 x194000_44.length co66, .slice none 0 0, .int .i64 0, .bool true] 29 (0, 0)) (by (with_reducible repeat (first | refine blk_drewN ?_ _ | refine blk_drew ?_ | refine blk_alloc ?_ _)); exact BK193.out) hb); have n4_ := Aside0.mk (below_step (by repeat (first | (with_reducible first | exact HB.out | apply below_alloc | apply pw_below_drewN | apply below_drew1 | refine below_set ?_ GE189.out | refine below_set ?_ GE193.out) | exact HB.out)) hb); have n5_ := Aside0.mk (hbox); have n6_ := Aside0.mk ((by rw [hg]; exact (below_size (by repeat (first | (with_reducible first | exact HB.out | apply below_alloc | apply pw_below_drewN | apply below_drew1 | refine below_set ?_ GE189.out | refine below_set ?_ GE193.out) | exact HB.out))) : w.heap.size ≤ gb211)); have n7_ := Aside0.mk ((by rw [hg]; exact (below_size (by repeat (first | (with_reducible first | exact HB.out | apply below_alloc | apply pw_below_drewN | apply below_drew1 | refine below_set ?_ GE189.out | refine below_set ?_ GE193.out) | exact HB.out))) : w.heap.size ≤ gb211)); have n8_ := Aside0.mk ((by rw [hg]; exact Nat.ne_of_lt (blk_lt (g := gb189) (o := .cells #[.int .i64 a0_0, .int .i64 a0_1, .int .i64 a0_2, .int .i64 a0_3, .int .i64 a0_4, .int .i64 a0_5] 24 (0, 0)) (by (with_reducible repeat (first | refine blk_drewN ?_ _ | refine blk_drew ?_ | refine blk_alloc ?_ _)); exact BK189.out)) : gb189 ≠ gb211)); have n9_ := Aside0.mk ((by rw [hg]; exact Nat.ne_of_gt (blk_lt (g := gb189) (o := .cells #[.int .i64 a0_0, .int .i64 a0_1, .int .i64 a0_2, .int .i64 a0_3, .int .i64 a0_4, .int .i64 a0_5] 24 (0, 0)) (by (with_reducible repeat (first | refine blk_drewN ?_ _ | refine blk_drew ?_ | refine blk_alloc ?_ _)); exact BK189.out)) : gb211 ≠ gb189)); have n10_ := Aside0.mk ((by rw [hg]; exact Nat.ne_of_lt (blk_lt (g := gb193) (o := .cells #[.slice Ao66 x194000_44.length co66, .slice none 0 0, .int .i64 0, .bool true] 29 (0, 0)) (by (with_reducible repeat (first | refine blk_drewN ?_ _ | refine blk_drew ?_ | refine blk_alloc ?_ _)); exact BK193.out)) : gb193 ≠ gb211)); have n11_ := Aside0.mk ((by rw [hg]; exact Nat.ne_of_gt (blk_lt (g := gb193) (o := .cells #[.slice Ao66 x194000_44.length co66, .slice none 0 0, .int .i64 0, .bool true] 29 (0, 0)) (by (with_reducible repeat (first | refine blk_drewN ?_ _ | refine blk_drew ?_ | refine blk_alloc ?_ _)); exact BK193.out)) : gb211 ≠ gb193)); clear HO_194000; clear HO210; clear BK189; clear BK193; clear HB; have HO_194000 := n0_; have HO210 := n1_; have BK189 := n2_; have BK193 := n3_; have HB := n4_; have BK211 := n5_; have GW211 := n6_; have GE211 := n7_; have NB189_211 := n8_; have NB211_189 := n9_; have NB193_211 := n10_; have NB211_193 := n11_; clear n0_ n1_ n2_ n3_ n4_ n5_ n6_ n7_ n8_ n9_ n10_ n11_; clear hb hbox hg; have hnb69 := NB211_189.out; have hnc69 := NB189_211.out; have hnb70 := NB211_193.out; have hnc70 := NB193_211.out; have hcz71_0 : w68.cell? ⟨gb211, 0, none⟩ = some (.int .i64 0) := (blk_cell BK211.out 0).trans rfl; have hcz71_1 : w68.cell? ⟨gb211, 1, none⟩ = some (.int .i64 0) := (blk_cell BK211.out 1).trans rfl; have hcz71_2 : w68.cell? ⟨gb211, 2, none⟩ = some (.int .i64 0) := (blk_cell BK211.out 2).trans rfl; have hcz71_3 : w68.cell? ⟨gb211, 3, none⟩ = some (.slice none 0 0) := (blk_cell BK211.out 3).trans rfl; have hfz71_0 := blk_frozen BK211.out 0; have hfz71_1 := blk_frozen BK211.out 1; have hfz71_2 := blk_frozen BK211.out 2; have hfz71_3 := blk_frozen BK211.out 3; obtain ⟨Ao72, co72, eo72⟩ := Kd.R_slice HO210.out; subst eo72))
                              have n0_ : Aside0 (Kd.S k35 35 ((((w68.setCell ⟨gb211, 0, none⟩ (.int .i64 t205)).setCell ⟨gb211, 1, none⟩ (.int .i64 t206)).setCell ⟨gb211, 2, none⟩ (.int .i64 t207)).setCell ⟨gb211, 3, none⟩ (.slice Ao72 t208.length co72)) w.heap.size (fun k_ => some k_ ≠ (.slice Ao72 t208.length co72 : Value).ownBlock ∧ k_ ≠ gb189) (.slice Ao66 x194000_44.length co66) x194000_44) := ⟨by (with_reducible repeat (first | apply Kd.S_alloc | apply Kd.S_drewN | apply Kd.S_drew)); exact Kd.S_mono (Kd.S_far (p := ⟨gb211, 3, none⟩) (Kd.S_far (p := ⟨gb211, 2, none⟩) (Kd.S_far (p := ⟨gb211, 1, none⟩) (Kd.S_far (p := ⟨gb211, 0, none⟩) (Kd.S_types HO_194000.out BK211.out (by decide)) (fun _ hk => hk.2) (.int .i64 t205)) (fun _ hk => hk.2) (.int .i64 t206)) (fun _ hk => hk.2) (.int .i64 t207)) (fun _ hk => hk.2) (.slice Ao72 t208.length co72)) (fun _ hk => ⟨hk.1.2, hk.1.1⟩)⟩
                              have n1_ : Aside0 (Kd.R k24 24 ((((w68.setCell ⟨gb211, 0, none⟩ (.int .i64 t205)).setCell ⟨gb211, 1, none⟩ (.int .i64 t206)).setCell ⟨gb211, 2, none⟩ (.int .i64 t207)).setCell ⟨gb211, 3, none⟩ (.slice Ao72 t208.length co72)) w.heap.size (fun k_ => k_ ≠ gb189) (.slice Ao72 t208.length co72) t208) := ⟨by (with_reducible repeat (first | apply Kd.R_alloc | apply Kd.R_drewN | apply Kd.R_drew)); exact Kd.R_mono (Kd.R_far (p := ⟨gb211, 3, none⟩) (Kd.R_far (p := ⟨gb211, 2, none⟩) (Kd.R_far (p := ⟨gb211, 1, none⟩) (Kd.R_far (p := ⟨gb211, 0, none⟩) (Kd.R_types HO210.out BK211.out (by decide)) (fun _ hk => hk.2) (.int .i64 t205)) (fun _ hk => hk.2) (.int .i64 t206)) (fun _ hk => hk.2) (.int .i64 t207)) (fun _ hk => hk.2) (.slice Ao72 t208.length co72)) (fun _ hk => hk.1.2)⟩
                              have n2_ : Aside0 (((((w68.setCell ⟨gb211, 0, none⟩ (.int .i64 t205)).setCell ⟨gb211, 1, none⟩ (.int .i64 t206)).setCell ⟨gb211, 2, none⟩ (.int .i64 t207)).setCell ⟨gb211, 3, none⟩ (.slice Ao72 t208.length co72)).heap[gb189]? = some (.cells #[.int .i64 a0_0, .int .i64 a0_1, .int .i64 a0_2, .int .i64 a0_3, .int .i64 a0_4, .int .i64 a0_5] 24 (0, 0))) := ⟨by (with_reducible repeat (first | refine blk_drewN ?_ _ | refine blk_drew ?_ | refine blk_alloc ?_ _)); refine blk_far ?_ NB189_211.out _; (with_reducible repeat (first | refine blk_drewN ?_ _ | refine blk_drew ?_ | refine blk_alloc ?_ _)); refine blk_far ?_ NB189_211.out _; (with_reducible repeat (first | refine blk_drewN ?_ _ | refine blk_drew ?_ | refine blk_alloc ?_ _)); refine blk_far ?_ NB189_211.out _; (with_reducible repeat (first | refine blk_drewN ?_ _ | refine blk_drew ?_ | refine blk_alloc ?_ _)); refine blk_far ?_ NB189_211.out _; (with_reducible repeat (first | refine blk_drewN ?_ _ | refine blk_drew ?_ | refine blk_alloc ?_ _)); exact BK189.out⟩
                              have n3_ : Aside0 (((((w68.setCell ⟨gb211, 0, none⟩ (.int .i64 t205)).setCell ⟨gb211, 1, none⟩ (.int .i64 t206)).setCell ⟨gb211, 2, none⟩ (.int .i64 t207)).setCell ⟨gb211, 3, none⟩ (.slice Ao72 t208.length co72)).heap[gb193]? = some (.cells #[.slice Ao66 x194000_44.length co66, .slice none 0 0, .int .i64 0, .bool true] 29 (0, 0))) := ⟨by (with_reducible repeat (first | refine blk_drewN ?_ _ | refine blk_drew ?_ | refine blk_alloc ?_ _)); refine blk_far ?_ NB193_211.out _; (with_reducible repeat (first | refine blk_drewN ?_ _ | refine blk_drew ?_ | refine blk_alloc ?_ _)); refine blk_far ?_ NB193_211.out _; (with_reducible repeat (first | refine blk_drewN ?_ _ | refine blk_drew ?_ | refine blk_alloc ?_ _)); refine blk_far ?_ NB193_211.out _; (with_reducible repeat (first | refine blk_drewN ?_ _ | refine blk_drew ?_ | refine blk_alloc ?_ _)); refine blk_far ?_ NB193_211.out _; (with_reducible repeat (first | refine blk_drewN ?_ _ | refine blk_drew ?_ | refine blk_alloc ?_ _)); exact BK193.out⟩
                              have n4_ : Aside0 (((((w68.setCell ⟨gb211, 0, none⟩ (.int .i64 t205)).setCell ⟨gb211, 1, none⟩ (.int .i64 t206)).setCell ⟨gb211, 2, none⟩ (.int .i64 t207)).setCell ⟨gb211, 3, none⟩ (.slice Ao72 t208.length co72)).heap[gb211]? = some (.cells #[.int .i64 t205, .int .i64 t206, .int .i64 t207, .slice Ao72 t208.length co72] 37 (0, 0))) := ⟨by (with_reducible repeat (first | refine blk_drewN ?_ _ | refine blk_drew ?_ | refine blk_alloc ?_ _)); refine blk_put (cs := #[.int .i64 t205, .int .i64 t206, .int .i64 t207, .slice none 0 0]) ?_ 3 _ rfl; (with_reducible repeat (first | refine blk_drewN ?_ _ | refine blk_drew ?_ | refine blk_alloc ?_ _)); refine blk_put (cs := #[.int .i64 t205, .int .i64 t206, .int .i64 0, .slice none 0 0]) ?_ 2 _ rfl; (with_reducible repeat (first | refine blk_drewN ?_ _ | refine blk_drew ?_ | refine blk_alloc ?_ _)); refine blk_put (cs := #[.int .i64 t205, .int .i64 0, .int .i64 0, .slice none 0 0]) ?_ 1 _ rfl; (with_reducible repeat (first | refine blk_drewN ?_ _ | refine blk_drew ?_ | refine blk_alloc ?_ _)); refine blk_put (cs := #[.int .i64 0, .int .i64 0, .int .i64 0, .slice none 0 0]) ?_ 0 _ rfl; (with_reducible repeat (first | refine blk_drewN ?_ _ | refine blk_drew ?_ | refine blk_alloc ?_ _)); exact BK211.out⟩
                              have n5_ : Aside0 (Below w.heap.size w ((((w68.setCell ⟨gb211, 0, none⟩ (.int .i64 t205)).setCell ⟨gb211, 1, none⟩ (.int .i64 t206)).setCell ⟨gb211, 2, none⟩ (.int .i64 t207)).setCell ⟨gb211, 3, none⟩ (.slice Ao72 t208.length co72))) := ⟨by repeat (first | (with_reducible first | exact HB.out | apply below_alloc | apply pw_below_drewN | apply below_drew1 | refine below_set ?_ GE189.out | refine below_set ?_ GE193.out | refine below_set ?_ GE211.out) | exact HB.out)⟩
                              (try clear HO_194000)
                              (try clear HO210)
                              (try clear BK189)
                              (try clear BK193)
                              (try clear BK211)
                              (try clear HB)
                              generalize ((((w68.setCell ⟨gb211, 0, none⟩ (.int .i64 t205)).setCell ⟨gb211, 1, none⟩ (.int .i64 t206)).setCell ⟨gb211, 2, none⟩ (.int .i64 t207)).setCell ⟨gb211, 3, none⟩ (.slice Ao72 t208.length co72)) = w73 at n0_ n1_ n2_ n3_ n4_ n5_ ⊢
                              have HO_194000 := n0_
                              have HO210 := n1_
                              have BK189 := n2_
                              have BK193 := n3_
                              have BK211 := n4_
                              have HB := n5_
                              clear n0_ n1_ n2_ n3_ n4_ n5_
                              have n0_ := Aside0.mk (Kd.S_drew HO_194000.out)
                              have n1_ := Aside0.mk (Kd.R_drew HO210.out)
                              have n2_ := Aside0.mk (blk_drew BK189.out)
                              have n3_ := Aside0.mk (blk_drew BK193.out)
                              have n4_ := Aside0.mk (blk_drew BK211.out)
                              have n5_ := Aside0.mk (below_drew1 HB.out)
                              clear HO_194000
                              clear HO210
                              clear BK189
                              clear BK193
                              clear BK211
                              clear HB
                              have HO_194000 := n0_
                              have HO210 := n1_
                              have BK189 := n2_
                              have BK193 := n3_
                              have BK211 := n4_
                              have HB := n5_
                              clear n0_ n1_ n2_ n3_ n4_ n5_
                              have p212 : 0 ≤ (0 : Int) := (by omega)
                              have q212 : 0 < (t208.length : Int) := of_decide_eq_true (by first | (with_reducible assumption) | assumption)
                              obtain ⟨ad212, e212, hx212_0, hx212_1, hx212_2, hx212_3, hx212_4, hx212_5⟩ := at_T24 (Kd.R_reads' HO210.out).2.2 0 p212 q212
                              cases e212
                              have qi212 : (0 < t208.length) = True := eq_true (by omega)
                              (try rw [show ((0 : Int)).toNat = 0 from rfl] at hx212_0)
                              (try rw [show 0 * 6 = 0 from rfl] at hx212_0)
                              (try rw [Addr.add_zero'] at hx212_0)
                              (try rw [show ((0 : Int)).toNat = 0 from rfl] at hx212_1)
                              (try rw [show 0 * 6 = 0 from rfl] at hx212_1)
                              (try rw [Addr.add_zero'] at hx212_1)
                              (try rw [show ((0 : Int)).toNat = 0 from rfl] at hx212_2)
                              (try rw [show 0 * 6 = 0 from rfl] at hx212_2)
                              (try rw [Addr.add_zero'] at hx212_2)
                              (try rw [show ((0 : Int)).toNat = 0 from rfl] at hx212_3)
                              (try rw [show 0 * 6 = 0 from rfl] at hx212_3)
                              (try rw [Addr.add_zero'] at hx212_3)
                              (try rw [show ((0 : Int)).toNat = 0 from rfl] at hx212_4)
                              (try rw [show 0 * 6 = 0 from rfl] at hx212_4)
                              (try rw [Addr.add_zero'] at hx212_4)
                              (try rw [show ((0 : Int)).toNat = 0 from rfl] at hx212_5)
                              (try rw [show 0 * 6 = 0 from rfl] at hx212_5)
                              (try rw [Addr.add_zero'] at hx212_5)
                              replace p212 := eq_true p212
                              replace q212 := eq_true q212
                              refine start_ (n := 21) (S := fun w' => w'.cell? ⟨gb211, 0, none⟩ = some (.int .i64 t205) ∧ w'.cell? ⟨gb211, 1, none⟩ = some (.int .i64 t206) ∧ w'.cell? ⟨gb211, 2, none⟩ = some (.int .i64 t207) ∧ w'.cell? ⟨gb211, 3, none⟩ = some (.slice (some ad212) t208.length co72) ∧ w'.cell? ⟨gb189, 0, none⟩ = some (.int .i64 a0_0) ∧ w'.cell? ⟨gb189, 1, none⟩ = some (.int .i64 a0_1) ∧ w'.cell? ⟨gb189, 2, none⟩ = some (.int .i64 a0_2) ∧ w'.cell? ⟨gb189, 3, none⟩ = some (.int .i64 a0_3) ∧ w'.cell? ⟨gb189, 4, none⟩ = some (.int .i64 a0_4) ∧ w'.cell? ⟨gb189, 5, none⟩ = some (.int .i64 a0_5) ∧ w'.cell? ad212 = some (.int .i64 ((rd_T24 t208 0).f0)) ∧ w'.cell? ⟨ad212.block, ad212.off + 1, none⟩ = some (.int .i64 ((rd_T24 t208 0).f1)) ∧ w'.cell? ⟨ad212.block, ad212.off + 2, none⟩ = some (.int .i64 ((rd_T24 t208 0).f2)) ∧ w'.cell? ⟨ad212.block, ad212.off + 3, none⟩ = some (.int .i64 ((rd_T24 t208 0).f3)) ∧ w'.cell? ⟨ad212.block, ad212.off + 4, none⟩ = some (.int .i64 ((rd_T24 t208 0).f4)) ∧ w'.cell? ⟨ad212.block, ad212.off + 5, none⟩ = some (.int .i64 ((rd_T24 t208 0).f5))) (ds := []) #[false, false, false, false, false, false, false, false, false, false, false, false, false, false, false, false, false, false, false, false, false] (by kernel_rfl) rfl rfl ⟨(blk_cell BK211.out 0).trans rfl, (blk_cell BK211.out 1).trans rfl, (blk_cell BK211.out 2).trans rfl, (blk_cell BK211.out 3).trans rfl, (blk_cell BK189.out 0).trans rfl, (blk_cell BK189.out 1).trans rfl, (blk_cell BK189.out 2).trans rfl, (blk_cell BK189.out 3).trans rfl, (blk_cell BK189.out 4).trans rfl, (blk_cell BK189.out 5).trans rfl, hx212_0, hx212_1, hx212_2, hx212_3, hx212_4, hx212_5⟩ (fun hHeld => ?_); refine with_tabW meddlerlaw17_ReportSays.tab16 meddlerlaw17_ReportSays.bits16 (fun HT_ HW_ => ?_)
                              generalize w73.drew = w74 at HO_194000 HO210 BK189 BK193 BK211 HB hx212_0 hx212_1 hx212_2 hx212_3 hx212_4 hx212_5 hHeld ⊢
                              refine pure_ (i := 0) (N := some 71) (v := ?_) (a' := ?_) #[true, false, false, false, false, false, false, false, false, false, false, false, false, false, false, false, false, false, false, false, false] rfl rfl (any_of HT_.out (by kernel_rfl)) (fun _ _ _ h => h) (Or.inl ⟨by rfl, ?_⟩) ?_ ?_
                              rotate_left
                              · intro w'
                                go_simp
                                with_reducible rfl
                              rotate_left
                              · simp only [Act.put, List.setIfInBounds_toArray, List.set_cons_zero, List.set_cons_succ, i64_w, i32_w]
                                rfl
                              refine take_ (i := 1) (N := some 72) (v := ?_) (a' := ?_) #[true, true, false, false, false, false, false, false, false, false, false, false, false, false, false, false, false, false, false, false, false] rfl rfl (take_ofW HT_.out HW_.out (by kernel_rfl)) (fun _ _ _ h => h) (Or.inl ⟨by rfl, ?_⟩) hHeld ?_ ?_
                              rotate_left
                              · rintro w' ⟨s0, s1, s2, s3, s4, s5, s6, s7, s8, s9, s10, s11, s12, s13, s14, s15⟩
                                go_simp
                                with_reducible rfl
                              rotate_left
                              · simp only [Act.put, List.setIfInBounds_toArray, List.set_cons_zero, List.set_cons_succ, i64_w, i32_w]
                                rfl
                              refine pure_ (i := 2) (N := some 73) (v := ?_) (a' := ?_) #[true, true, true, false, false, false, false, false, false, false, false, false, false, false, false, false, false, false, false, false, false] rfl rfl (any_of HT_.out (by kernel_rfl)) (fun _ _ _ h => h) (Or.inl ⟨by rfl, ?_⟩) ?_ ?_
                              rotate_left
                              · intro w'
                                go_simp
                                with_reducible rfl
                              rotate_left
                              · simp only [Act.put, List.setIfInBounds_toArray, List.set_cons_zero, List.set_cons_succ, i64_w, i32_w]
                                rfl
                              refine pure_ (i := 3) (N := some 74) (v := ?_) (a' := ?_) #[true, true, true, true, false, false, false, false, false, false, false, false, false, false, false, false, false, false, false, false, false] rfl rfl (any_of HT_.out (by kernel_rfl)) (fun _ _ _ h => h) (Or.inl ⟨by rfl, ?_⟩) ?_ ?_
                              rotate_left
                              · intro w'
                                go_simp
                                with_reducible rfl
                              rotate_left
                              · simp only [Act.put, List.setIfInBounds_toArray, List.set_cons_zero, List.set_cons_succ, i64_w, i32_w]
                                rfl
                              refine pure_ (i := 4) (N := some 75) (v := ?_) (a' := ?_) #[true, true, true, true, true, false, false, false, false, false, false, false, false, false, false, false, false, false, false, false, false] rfl rfl (any_of HT_.out (by kernel_rfl)) (fun _ _ _ h => h) (Or.inl ⟨by rfl, ?_⟩) ?_ ?_
                              rotate_left
                              · intro w'
                                go_simp
                                with_reducible rfl
                              rotate_left
                              · simp only [Act.put, List.setIfInBounds_toArray, List.set_cons_zero, List.set_cons_succ, i64_w, i32_w]
                                rfl
                              refine take_ (i := 5) (N := some 76) (v := ?_) (a' := ?_) #[true, true, true, true, true, true, false, false, false, false, false, false, false, false, false, false, false, false, false, false, false] rfl rfl (take_ofW HT_.out HW_.out (by kernel_rfl)) (fun _ _ _ h => h) (Or.inl ⟨by rfl, ?_⟩) hHeld ?_ ?_
                              rotate_left
                              · rintro w' ⟨s0, s1, s2, s3, s4, s5, s6, s7, s8, s9, s10, s11, s12, s13, s14, s15⟩
                                go_simp
                                with_reducible rfl
                              rotate_left
                              · simp only [Act.put, List.setIfInBounds_toArray, List.set_cons_zero, List.set_cons_succ, i64_w, i32_w]
                                rfl
                              refine pure_ (i := 6) (N := some 77) (v := ?_) (a' := ?_) #[true, true, true, true, true, true, true, false, false, false, false, false, false, false, false, false, false, false, false, false, false] rfl rfl (any_of HT_.out (by kernel_rfl)) (fun _ _ _ h => h) (Or.inl ⟨by rfl, ?_⟩) ?_ ?_
                              rotate_left
                              · intro w'
                                go_simp
                                with_reducible rfl
                              rotate_left
                              · simp only [Act.put, List.setIfInBounds_toArray, List.set_cons_zero, List.set_cons_succ, i64_w, i32_w]
                                rfl
                              refine pure_ (i := 7) (N := some 78) (v := ?_) (a' := ?_) #[true, true, true, true, true, true, true, true, false, false, false, false, false, false, false, false, false, false, false, false, false] rfl rfl (any_of HT_.out (by kernel_rfl)) (fun _ _ _ h => h) (Or.inl ⟨by rfl, ?_⟩) ?_ ?_
                              rotate_left
                              · intro w'
                                go_simp
                                with_reducible rfl
                              rotate_left
                              · simp only [Act.put, List.setIfInBounds_toArray, List.set_cons_zero, List.set_cons_succ, i64_w, i32_w]
                                rfl
                              refine pure_ (i := 8) (N := some 79) (v := ?_) (a' := ?_) #[true, true, true, true, true, true, true, true, true, false, false, false, false, false, false, false, false, false, false, false, false] rfl rfl (any_of HT_.out (by kernel_rfl)) (fun _ _ _ h => h) (Or.inl ⟨by rfl, ?_⟩) ?_ ?_
                              rotate_left
                              · intro w'
                                go_simp
                                with_reducible rfl
                              rotate_left
                              · simp only [Act.put, List.setIfInBounds_toArray, List.set_cons_zero, List.set_cons_succ, i64_w, i32_w]
                                rfl
                              refine pure_ (i := 9) (N := some 80) (v := ?_) (a' := ?_) #[true, true, true, true, true, true, true, true, true, true, false, false, false, false, false, false, false, false, false, false, false] rfl rfl (any_of HT_.out (by kernel_rfl)) (fun _ _ _ h => h) (Or.inl ⟨by rfl, ?_⟩) ?_ ?_
                              rotate_left
                              · intro w'
                                go_simp
                                with_reducible rfl
                              rotate_left
                              · simp only [Act.put, List.setIfInBounds_toArray, List.set_cons_zero, List.set_cons_succ, i64_w, i32_w]
                                rfl
                              refine pure_ (i := 10) (N := some 81) (v := ?_) (a' := ?_) #[true, true, true, true, true, true, true, true, true, true, true, false, false, false, false, false, false, false, false, false, false] rfl rfl (any_of HT_.out (by kernel_rfl)) (fun _ _ _ h => h) (Or.inl ⟨by rfl, ?_⟩) ?_ ?_
                              rotate_left
                              · intro w'
                                go_simp
                                with_reducible rfl
                              rotate_left
                              · simp only [Act.put, List.setIfInBounds_toArray, List.set_cons_zero, List.set_cons_succ, i64_w, i32_w]
                                rfl
                              refine take_ (i := 11) (N := some 82) (v := ?_) (a' := ?_) #[true, true, true, true, true, true, true, true, true, true, true, true, false, false, false, false, false, false, false, false, false] rfl rfl (take_ofW HT_.out HW_.out (by kernel_rfl)) (fun _ _ _ h => h) (Or.inl ⟨by rfl, ?_⟩) hHeld ?_ ?_
                              rotate_left
                              · rintro w' ⟨s0, s1, s2, s3, s4, s5, s6, s7, s8, s9, s10, s11, s12, s13, s14, s15⟩
                                go_simp
                                with_reducible rfl
                              rotate_left
                              · simp only [Act.put, List.setIfInBounds_toArray, List.set_cons_zero, List.set_cons_succ, i64_w, i32_w]
                                rfl
                              refine pure_ (i := 12) (N := some 83) (v := ?_) (a' := ?_) #[true, true, true, true, true, true, true, true, true, true, true, true, true, false, false, false, false, false, false, false, false] rfl rfl (any_of HT_.out (by kernel_rfl)) (fun _ _ _ h => h) (Or.inl ⟨by rfl, ?_⟩) ?_ ?_
                              rotate_left
                              · intro w'
                                go_simp
                                with_reducible rfl
                              rotate_left
                              · simp only [Act.put, List.setIfInBounds_toArray, List.set_cons_zero, List.set_cons_succ, i64_w, i32_w]
                                rfl
                              refine take_ (i := 13) (N := some 84) (v := ?_) (a' := ?_) #[true, true, true, true, true, true, true, true, true, true, true, true, true, true, false, false, false, false, false, false, false] rfl rfl (take_ofW HT_.out HW_.out (by kernel_rfl)) (fun _ _ _ h => h) (Or.inl ⟨by rfl, ?_⟩) hHeld ?_ ?_
                              rotate_left
                              · rintro w' ⟨s0, s1, s2, s3, s4, s5, s6, s7, s8, s9, s10, s11, s12, s13, s14, s15⟩
                                go_simp
                                with_reducible rfl
                              rotate_left
                              · simp only [Act.put, List.setIfInBounds_toArray, List.set_cons_zero, List.set_cons_succ, i64_w, i32_w]
                                rfl
                              refine take_ (i := 14) (N := some 85) (v := ?_) (a' := ?_) #[true, true, true, true, true, true, true, true, true, true, true, true, true, true, true, false, false, false, false, false, false] rfl rfl (take_ofW HT_.out HW_.out (by kernel_rfl)) (fun _ _ _ h => h) (Or.inl ⟨by rfl, ?_⟩) hHeld ?_ ?_
                              rotate_left
                              · rintro w' ⟨s0, s1, s2, s3, s4, s5, s6, s7, s8, s9, s10, s11, s12, s13, s14, s15⟩
                                go_simp
                                with_reducible rfl
                              rotate_left
                              · simp only [Act.put, List.setIfInBounds_toArray, List.set_cons_zero, List.set_cons_succ, i64_w, i32_w]
                                rfl
                              refine pure_ (i := 15) (N := some 86) (v := ?_) (a' := ?_) #[true, true, true, true, true, true, true, true, true, true, true, true, true, true, true, true, false, false, false, false, false] rfl rfl (any_of HT_.out (by kernel_rfl)) (fun _ _ _ h => h) (Or.inl ⟨by rfl, ?_⟩) ?_ ?_
                              rotate_left
                              · intro w'
                                go_simp
                                with_reducible rfl
                              rotate_left
                              · simp only [Act.put, List.setIfInBounds_toArray, List.set_cons_zero, List.set_cons_succ, i64_w, i32_w]
                                rfl
                              refine pure_ (i := 16) (N := some 87) (v := ?_) (a' := ?_) #[true, true, true, true, true, true, true, true, true, true, true, true, true, true, true, true, true, false, false, false, false] rfl rfl (any_of HT_.out (by kernel_rfl)) (fun _ _ _ h => h) (Or.inl ⟨by rfl, ?_⟩) ?_ ?_
                              rotate_left
                              · intro w'
                                go_simp
                                with_reducible rfl
                              rotate_left
                              · simp only [Act.put, List.setIfInBounds_toArray, List.set_cons_zero, List.set_cons_succ, i64_w, i32_w]
                                rfl
                              refine pure_ (i := 17) (N := some 88) (v := ?_) (a' := ?_) #[true, true, true, true, true, true, true, true, true, true, true, true, true, true, true, true, true, true, false, false, false] rfl rfl (any_of HT_.out (by kernel_rfl)) (fun _ _ _ h => h) (Or.inl ⟨by rfl, ?_⟩) ?_ ?_
                              rotate_left
                              · intro w'
                                go_simp
                                with_reducible rfl
                              rotate_left
                              · simp only [Act.put, List.setIfInBounds_toArray, List.set_cons_zero, List.set_cons_succ, i64_w, i32_w]
                                rfl
                              refine one_ (i := 18) (N := some 89) #[true, true, true, true, true, true, true, true, true, true, true, true, true, true, true, true, true, true, true, false, false] rfl rfl (one_of HT_.out (by kernel_rfl)) (by decide) (fun K hK => ?_)
                              refine goes_ Try.func13 (by kernel_rfl) rfl #[] (by rfl) rfl rfl (by (try simp only [List.map_toArray, List.map_cons, List.map_nil]); first | done | rfl | (simp only [List.length_drop, List.length_take]; rfl)) ?_
                              with_reducible refine (meddlerlaw17_known.calls kj44  t213 _ A63.out).mono ?_
                              rintro e w75 ⟨rfl, hb⟩
                              have HS10_ := (hb.cell (World.block_lt_of_cell? _ _ (hHeld.2.2.2.2.2.2.2.2.2.2.1))).trans (hHeld.2.2.2.2.2.2.2.2.2.2.1)
                              have HS11_ := (hb.cell (World.block_lt_of_cell? _ _ (hHeld.2.2.2.2.2.2.2.2.2.2.2.1))).trans (hHeld.2.2.2.2.2.2.2.2.2.2.2.1)
                              have HS12_ := (hb.cell (World.block_lt_of_cell? _ _ (hHeld.2.2.2.2.2.2.2.2.2.2.2.2.1))).trans (hHeld.2.2.2.2.2.2.2.2.2.2.2.2.1)
                              have HS13_ := (hb.cell (World.block_lt_of_cell? _ _ (hHeld.2.2.2.2.2.2.2.2.2.2.2.2.2.1))).trans (hHeld.2.2.2.2.2.2.2.2.2.2.2.2.2.1)
                              have HS14_ := (hb.cell (World.block_lt_of_cell? _ _ (hHeld.2.2.2.2.2.2.2.2.2.2.2.2.2.2.1))).trans (hHeld.2.2.2.2.2.2.2.2.2.2.2.2.2.2.1)
                              have HS15_ := (hb.cell (World.block_lt_of_cell? _ _ (hHeld.2.2.2.2.2.2.2.2.2.2.2.2.2.2.2))).trans (hHeld.2.2.2.2.2.2.2.2.2.2.2.2.2.2.2)
                              refine ⟨_, rfl, ?_⟩
                              have n0_ := Aside0.mk (Kd.S_below (by (with_reducible repeat (first | apply Kd.S_alloc | apply Kd.S_drewN | apply Kd.S_drew)); exact HO_194000.out) hb)
                              have n1_ := Aside0.mk (Kd.R_below (by (with_reducible repeat (first | apply Kd.R_alloc | apply Kd.R_drewN | apply Kd.R_drew)); exact HO210.out) hb)
                              have n2_ := Aside0.mk (blk_below (g := gb189) (o := .cells #[.int .i64 a0_0, .int .i64 a0_1, .int .i64 a0_2, .int .i64 a0_3, .int .i64 a0_4, .int .i64 a0_5] 24 (0, 0)) (by (with_reducible repeat (first | refine blk_drewN ?_ _ | refine blk_drew ?_ | refine blk_alloc ?_ _)); exact BK189.out) hb)
                              have n3_ := Aside0.mk (blk_below (g := gb193) (o := .cells #[.slice Ao66 x194000_44.length co66, .slice none 0 0, .int .i64 0, .bool true] 29 (0, 0)) (by (with_reducible repeat (first | refine blk_drewN ?_ _ | refine blk_drew ?_ | refine blk_alloc ?_ _)); exact BK193.out) hb)
                              have n4_ := Aside0.mk (blk_below (g := gb211) (o := .cells #[.int .i64 t205, .int .i64 t206, .int .i64 t207, .slice (some ad212) t208.length co72] 37 (0, 0)) (by (with_reducible repeat (first | refine blk_drewN ?_ _ | refine blk_drew ?_ | refine blk_alloc ?_ _)); exact BK211.out) hb)
                              have n5_ := Aside0.mk (below_step (by repeat (first | (with_reducible first | exact HB.out | apply below_alloc | apply pw_below_drewN | apply below_drew1 | refine below_set ?_ GE189.out | refine below_set ?_ GE193.out | refine below_set ?_ GE211.out) | exact HB.out)) hb)
                              clear HO_194000
                              clear HO210
                              clear BK189
                              clear BK193
                              clear BK211
                              clear HB
                              have HO_194000 := n0_
                              have HO210 := n1_
                              have BK189 := n2_
                              have BK193 := n3_
                              have BK211 := n4_
                              have HB := n5_
                              clear n0_ n1_ n2_ n3_ n4_ n5_
                              (try clear hb)
                              (try clear hb2)
                              (try clear hk)
                              (try clear hi)
                              refine hK.out _ _ ⟨(blk_cell BK211.out 0).trans rfl, (blk_cell BK211.out 1).trans rfl, (blk_cell BK211.out 2).trans rfl, (blk_cell BK211.out 3).trans rfl, (blk_cell BK189.out 0).trans rfl, (blk_cell BK189.out 1).trans rfl, (blk_cell BK189.out 2).trans rfl, (blk_cell BK189.out 3).trans rfl, (blk_cell BK189.out 4).trans rfl, (blk_cell BK189.out 5).trans rfl, HS10_, HS11_, HS12_, HS13_, HS14_, HS15_⟩ (fun hHeld => ?_)
                              clear hK K
                              refine norm_ (a' := ?_) ?_ ?_
                              rotate_left
                              · show Act.put _ (some 89) _ = _
                                simp only [Act.put, List.setIfInBounds_toArray, List.set_cons_zero, List.set_cons_succ, i64_w, i32_w]
                                rfl
                              refine pure_ (i := 19) (N := some 90) (v := ?_) (a' := ?_) #[true, true, true, true, true, true, true, true, true, true, true, true, true, true, true, true, true, true, true, true, false] rfl rfl (any_of HT_.out (by kernel_rfl)) (fun _ _ _ h => h) (Or.inl ⟨by rfl, ?_⟩) ?_ ?_
                              rotate_left
                              · intro w'
                                go_simp
                                with_reducible rfl
                              rotate_left
                              · simp only [Act.put, List.setIfInBounds_toArray, List.set_cons_zero, List.set_cons_succ, i64_w, i32_w]
                                rfl
                              refine pure_ (i := 20) (N := some 8) (v := ?_) (a' := ?_) #[true, true, true, true, true, true, true, true, true, true, true, true, true, true, true, true, true, true, true, true, true] rfl rfl (any_of HT_.out (by kernel_rfl)) (fun _ _ _ h => h) (Or.inl ⟨by rfl, ?_⟩) ?_ ?_
                              rotate_left
                              · intro w'
                                go_simp
                                with_reducible rfl
                              rotate_left
                              · simp only [Act.put, List.setIfInBounds_toArray, List.set_cons_zero, List.set_cons_succ, i64_w, i32_w]
                                rfl
                              refine done_ (done_of HT_.out (by kernel_rfl)) ?_
                              try go_wp2
                              go_ret
                              exact ⟨by first | rfl | (simp [HT.out]; done) | (simp [errW_none, errW_some] <;> rfl) | (simp [*, errW_none, errW_some] <;> rfl), by repeat (first | (with_reducible first | exact HB.out | apply below_alloc | apply pw_below_drewN | apply below_drew1 | refine below_set ?_ GE189.out | refine below_set ?_ GE193.out | refine below_set ?_ GE211.out) | exact HB.out)⟩
                            · rw [if_neg c62] at H
                              have c62b0 : (((rd_T24 t208 0).f0) == a0_0 && (((rd_T24 t208 0).f1) == a0_1 && (((rd_T24 t208 0).f2) == a0_2 && (((rd_T24 t208 0).f3) == a0_3 && (((rd_T24 t208 0).f4) == a0_4 && (((rd_T24 t208 0).f5) == a0_5)))))) = false := by simpa using c62
                              (try (have c62b1 : decide (((rd_T24 t208 0).f0) = a0_0 && (((rd_T24 t208 0).f1) == a0_1 && (((rd_T24 t208 0).f2) == a0_2 && (((rd_T24 t208 0).f3) == a0_3 && (((rd_T24 t208 0).f4) == a0_4 && (((rd_T24 t208 0).f5) == a0_5)))))) = false := by simpa using c62))
                              (try (have c62b2 : (((rd_T24 t208 0).f0) == a0_0 && (((rd_T24 t208 0).f1) == a0_1 && (((rd_T24 t208 0).f2) == a0_2 && (((rd_T24 t208 0).f3) == a0_3 && (((rd_T24 t208 0).f4) == a0_4 && (((rd_T24 t208 0).f5) == a0_5)))))) = false := by simpa using c62))
                              (try (have c62b3 : ¬ (((rd_T24 t208 0).f0) = a0_0 && (((rd_T24 t208 0).f1) == a0_1 && (((rd_T24 t208 0).f2) == a0_2 && (((rd_T24 t208 0).f3) == a0_3 && (((rd_T24 t208 0).f4) == a0_4 && (((rd_T24 t208 0).f5) == a0_5)))))) := by simpa using c62))
                              clear c62
                              have HT := Aside0.mk (Option.some.inj H)
                              clear H
                              have hnb76 := NB193_189.out
                              have hnc76 := NB189_193.out
                              have hcz77_0 : wc.cell? ⟨gb193, 0, none⟩ = some (u194000) := (blk_cell BK193.out 0).trans rfl
                              have hcz77_1 : wc.cell? ⟨gb193, 1, none⟩ = some (.slice none 0 0) := (blk_cell BK193.out 1).trans rfl
                              have hcz77_2 : wc.cell? ⟨gb193, 2, none⟩ = some (.int .i64 0) := (blk_cell BK193.out 2).trans rfl
                              have hcz77_3 : wc.cell? ⟨gb193, 3, none⟩ = some (.bool true) := (blk_cell BK193.out 3).trans rfl
                              have hfz77_0 := blk_frozen BK193.out 0
                              have hfz77_1 := blk_frozen BK193.out 1
                              have hfz77_2 := blk_frozen BK193.out 2
                              have hfz77_3 := blk_frozen BK193.out 3
                              obtain ⟨Ao78, co78, eo78⟩ := Kd.S_slice HO_194000.out
                              subst eo78
                              try go_wp2_with (first | ((with_reducible refine gate_callee (f := 12) rfl ?_); refine goesL_ (some 69) rfl rfl Try.func12 (by kernel_rfl) rfl #[.agg #[.slice Ao78 x194000_44.length co78, .slice none 0 0, .int .i64 0, .bool true]] rfl (by (try simp only [List.map_toArray, List.map_cons, List.map_nil]); first | done | rfl | (simp only [List.length_drop, List.length_take]; rfl)) ?_; (refine (report_Of.calls kj44 _ _ x194000_44 _ _ ([] : List (S115)) 0 true t205 t206 t207 t208 _ ?side1 ?side2 ?side3 ?side4 A57.out).mono ?_); (case side1 => repeat (first | exact (Kd.S_reads' HO_194000.out).2.2 | (with_reducible refine Kd.C_alloc ?_ _) | (with_reducible refine Kd.C_drewN ?_ _) | (with_reducible refine Kd.C_drew ?_))); (case side2 => exact (Kd.S_reads' HO_194000.out).2.1); (case side3 => exact Kd.C_nil _ _); (case side4 => exact Nat.le_refl _); rintro e w79 ⟨v209, rfl, ho0, hb⟩; refine ⟨_, rfl, ?_⟩; have n0_ := Aside0.mk (Kd.S_elder' (by (with_reducible repeat (first | apply Kd.S_alloc | apply Kd.S_drewN | apply Kd.S_drew)); exact HO_194000.out) (Kd.R_base ho0) hb); have n1_ := Aside0.mk (Kd.R_lower (Kd.R_newB ho0 (g := gb189) (o := .cells #[.int .i64 a0_0, .int .i64 a0_1, .int .i64 a0_2, .int .i64 a0_3, .int .i64 a0_4, .int .i64 a0_5] 24 (0, 0)) (by (with_reducible repeat (first | refine blk_drewN ?_ _ | refine blk_drew ?_ | refine blk_alloc ?_ _)); exact BK189.out)) (below_size (by repeat (first | (with_reducible first | exact HB.out | apply below_alloc | apply pw_below_drewN | apply below_drew1 | refine below_set ?_ GE189.out | refine below_set ?_ GE193.out) | exact HB.out)))); have n2_ := Aside0.mk (blk_below (g := gb189) (o := .cells #[.int .i64 a0_0, .int .i64 a0_1, .int .i64 a0_2, .int .i64 a0_3, .int .i64 a0_4, .int .i64 a0_5] 24 (0, 0)) (by (with_reducible repeat (first | refine blk_drewN ?_ _ | refine blk_drew ?_ | refine blk_alloc ?_ _)); exact BK189.out) hb); have n3_ := Aside0.mk (blk_below (g := gb193) (o := .cells #[.slice Ao78 x194000_44.length co78, .slice none 0 0, .int .i64 0, .bool true] 29 (0, 0)) (by (with_reducible repeat (first | refine blk_drewN ?_ _ | refine blk_drew ?_ | refine blk_alloc ?_ _)); exact BK193.out) hb); have n4_ := Aside0.mk (below_step (by repeat (first | (with_reducible first | exact HB.out | apply below_alloc | apply pw_below_drewN | apply below_drew1 | refine below_set ?_ GE189.out | refine below_set ?_ GE193.out) | exact HB.out)) hb); clear HO_194000; clear BK189; clear BK193; clear HB; have HO_194000 := n0_; have HO210 := n1_; have BK189 := n2_; have BK193 := n3_; have HB := n4_; clear n0_ n1_ n2_ n3_ n4_; (try clear hb); (try clear hb2); (try clear hk); (try clear hi); (try clear ho0)) | ((with_reducible refine gate_dst (N := 12) rfl ?_); (try (refine gate_guard (by rfl) ?_; dsimp only)); refine box_event ?hg (N := 12) ?hd (cs := #[.int .i64 0, .int .i64 0, .int .i64 0, .slice none 0 0]) (t := 37) ?hr ?_; (case hd => rfl); (case hg => rfl); (case hr => first | (go_simp; done) | (go_simp; rfl)); intro gb211 hg w80 hbox hb; have n0_ := Aside0.mk (Kd.S_below (by (with_reducible repeat (first | apply Kd.S_alloc | apply Kd.S_drewN | apply Kd.S_drew)); exact HO_194000.out) hb); have n1_ := Aside0.mk (Kd.R_below (by (with_reducible repeat (first | apply Kd.R_alloc | apply Kd.R_drewN | apply Kd.R_drew)); exact HO210.out) hb); have n2_ := Aside0.mk (blk_below (g := gb189) (o := .cells #[.int .i64 a0_0, .int .i64 a0_1, .int .i64 a0_2, .int .i64 a0_3, .int .i64 a0_4, .int .i64 a0_5] 24 (0, 0)) (by (with_reducible repeat (first | refine blk_drewN ?_ _ | refine blk_drew ?_ | refine blk_alloc ?_ _)); exact BK189.out) hb); have n3_ := Aside0.mk (blk_below (g := gb193) (o := .cells #[.slice Ao78 x194000_44.length co78, .slice none 0 0, .int .i64 0, .bool true] 29 (0, 0)) (by (with_reducible repeat (first | refine blk_drewN ?_ _ | refine blk_drew ?_ | refine blk_alloc ?_ _)); exact BK193.out) hb); have n4_ := Aside0.mk (below_step (by repeat (first | (with_reducible first | exact HB.out | apply below_alloc | apply pw_below_drewN | apply below_drew1 | refine below_set ?_ GE189.out | refine below_set ?_ GE193.out) | exact HB.out)) hb); have n5_ := Aside0.mk (hbox); have n6_ := Aside0.mk ((by rw [hg]; exact (below_size (by repeat (first | (with_reducible first | exact HB.out | apply below_alloc | apply pw_below_drewN | apply below_drew1 | refine below_set ?_ GE189.out | refine below_set ?_ GE193.out) | exact HB.out))) : w.heap.size ≤ gb211)); have n7_ := Aside0.mk ((by rw [hg]; exact (below_size (by repeat (first | (with_reducible first | exact HB.out | apply below_alloc | apply pw_below_drewN | apply below_drew1 | refine below_set ?_ GE189.out | refine below_set ?_ GE193.out) | exact HB.out))) : w.heap.size ≤ gb211)); have n8_ := Aside0.mk ((by rw [hg]; exact Nat.ne_of_lt (blk_lt (g := gb189) (o := .cells #[.int .i64 a0_0, .int .i64 a0_1, .int .i64 a0_2, .int .i64 a0_3, .int .i64 a0_4, .int .i64 a0_5] 24 (0, 0)) (by (with_reducible repeat (first | refine blk_drewN ?_ _ | refine blk_drew ?_ | refine blk_alloc ?_ _)); exact BK189.out)) : gb189 ≠ gb211)); have n9_ := Aside0.mk ((by rw [hg]; exact Nat.ne_of_gt (blk_lt (g := gb189) (o := .cells #[.int .i64 a0_0, .int .i64 a0_1, .int .i64 a0_2, .int .i64 a0_3, .int .i64 a0_4, .int .i64 a0_5] 24 (0, 0)) (by (with_reducible repeat (first | refine blk_drewN ?_ _ | refine blk_drew ?_ | refine blk_alloc ?_ _)); exact BK189.out)) : gb211 ≠ gb189)); have n10_ := Aside0.mk ((by rw [hg]; exact Nat.ne_of_lt (blk_lt (g := gb193) (o := .cells #[.slice Ao78 x194000_44.length co78, .slice none 0 0, .int .i64 0, .bool true] 29 (0, 0)) (by (with_reducible repeat (first | refine blk_drewN ?_ _ | refine blk_drew ?_ | refine blk_alloc ?_ _)); exact BK193.out)) : gb193 ≠ gb211)); have n11_ := Aside0.mk ((by rw [hg]; exact Nat.ne_of_gt (blk_lt (g := gb193) (o := .cells #[.slice Ao78 x194000_44.length co78, .slice none 0 0, .int .i64 0, .bool true] 29 (0, 0)) (by (with_reducible repeat (first | refine blk_drewN ?_ _ | refine blk_drew ?_ | refine blk_alloc ?_ _)); exact BK193.out)) : gb211 ≠ gb193)); clear HO_194000; clear HO210; clear BK189; clear BK193; clear HB; have HO_194000 := n0_; have HO210 := n1_; have BK189 := n2_; have BK193 := n3_; have HB := n4_; have BK211 := n5_; have GW211 := n6_; have GE211 := n7_; have NB189_211 := n8_; have NB211_189 := n9_; have NB193_211 := n10_; have NB211_193 := n11_; clear n0_ n1_ n2_ n3_ n4_ n5_ n6_ n7_ n8_ n9_ n10_ n11_; clear hb hbox hg; have hnb81 := NB211_189.out; have hnc81 := NB189_211.out; have hnb82 := NB211_193.out; have hnc82 := NB193_211.out; have hcz83_0 : w80.cell? ⟨gb211, 0, none⟩ = some (.int .i64 0) := (blk_cell BK211.out 0).trans rfl; have hcz83_1 : w80.cell? ⟨gb211, 1, none⟩ = some (.int .i64 0) := (blk_cell BK211.out 1).trans rfl; have hcz83_2 : w80.cell? ⟨gb211, 2, none⟩ = some (.int .i64 0) := (blk_cell BK211.out 2).trans rfl; have hcz83_3 : w80.cell? ⟨gb211, 3, none⟩ = some (.slice none 0 0) := (blk_cell BK211.out 3).trans rfl; have hfz83_0 := blk_frozen BK211.out 0; have hfz83_1 := blk_frozen BK211.out 1; have hfz83_2 := blk_frozen BK211.out 2; have hfz83_3 := blk_frozen BK211.out 3; obtain ⟨Ao84, co84, eo84⟩ := Kd.R_slice HO210.out; subst eo84))
                              have n0_ : Aside0 (Kd.S k35 35 ((((w80.setCell ⟨gb211, 0, none⟩ (.int .i64 t205)).setCell ⟨gb211, 1, none⟩ (.int .i64 t206)).setCell ⟨gb211, 2, none⟩ (.int .i64 t207)).setCell ⟨gb211, 3, none⟩ (.slice Ao84 t208.length co84)) w.heap.size (fun k_ => some k_ ≠ (.slice Ao84 t208.length co84 : Value).ownBlock ∧ k_ ≠ gb189) (.slice Ao78 x194000_44.length co78) x194000_44) := ⟨by (with_reducible repeat (first | apply Kd.S_alloc | apply Kd.S_drewN | apply Kd.S_drew)); exact Kd.S_mono (Kd.S_far (p := ⟨gb211, 3, none⟩) (Kd.S_far (p := ⟨gb211, 2, none⟩) (Kd.S_far (p := ⟨gb211, 1, none⟩) (Kd.S_far (p := ⟨gb211, 0, none⟩) (Kd.S_types HO_194000.out BK211.out (by decide)) (fun _ hk => hk.2) (.int .i64 t205)) (fun _ hk => hk.2) (.int .i64 t206)) (fun _ hk => hk.2) (.int .i64 t207)) (fun _ hk => hk.2) (.slice Ao84 t208.length co84)) (fun _ hk => ⟨hk.1.2, hk.1.1⟩)⟩
                              have n1_ : Aside0 (Kd.R k24 24 ((((w80.setCell ⟨gb211, 0, none⟩ (.int .i64 t205)).setCell ⟨gb211, 1, none⟩ (.int .i64 t206)).setCell ⟨gb211, 2, none⟩ (.int .i64 t207)).setCell ⟨gb211, 3, none⟩ (.slice Ao84 t208.length co84)) w.heap.size (fun k_ => k_ ≠ gb189) (.slice Ao84 t208.length co84) t208) := ⟨by (with_reducible repeat (first | apply Kd.R_alloc | apply Kd.R_drewN | apply Kd.R_drew)); exact Kd.R_mono (Kd.R_far (p := ⟨gb211, 3, none⟩) (Kd.R_far (p := ⟨gb211, 2, none⟩) (Kd.R_far (p := ⟨gb211, 1, none⟩) (Kd.R_far (p := ⟨gb211, 0, none⟩) (Kd.R_types HO210.out BK211.out (by decide)) (fun _ hk => hk.2) (.int .i64 t205)) (fun _ hk => hk.2) (.int .i64 t206)) (fun _ hk => hk.2) (.int .i64 t207)) (fun _ hk => hk.2) (.slice Ao84 t208.length co84)) (fun _ hk => hk.1.2)⟩
                              have n2_ : Aside0 (((((w80.setCell ⟨gb211, 0, none⟩ (.int .i64 t205)).setCell ⟨gb211, 1, none⟩ (.int .i64 t206)).setCell ⟨gb211, 2, none⟩ (.int .i64 t207)).setCell ⟨gb211, 3, none⟩ (.slice Ao84 t208.length co84)).heap[gb189]? = some (.cells #[.int .i64 a0_0, .int .i64 a0_1, .int .i64 a0_2, .int .i64 a0_3, .int .i64 a0_4, .int .i64 a0_5] 24 (0, 0))) := ⟨by (with_reducible repeat (first | refine blk_drewN ?_ _ | refine blk_drew ?_ | refine blk_alloc ?_ _)); refine blk_far ?_ NB189_211.out _; (with_reducible repeat (first | refine blk_drewN ?_ _ | refine blk_drew ?_ | refine blk_alloc ?_ _)); refine blk_far ?_ NB189_211.out _; (with_reducible repeat (first | refine blk_drewN ?_ _ | refine blk_drew ?_ | refine blk_alloc ?_ _)); refine blk_far ?_ NB189_211.out _; (with_reducible repeat (first | refine blk_drewN ?_ _ | refine blk_drew ?_ | refine blk_alloc ?_ _)); refine blk_far ?_ NB189_211.out _; (with_reducible repeat (first | refine blk_drewN ?_ _ | refine blk_drew ?_ | refine blk_alloc ?_ _)); exact BK189.out⟩
                              have n3_ : Aside0 (((((w80.setCell ⟨gb211, 0, none⟩ (.int .i64 t205)).setCell ⟨gb211, 1, none⟩ (.int .i64 t206)).setCell ⟨gb211, 2, none⟩ (.int .i64 t207)).setCell ⟨gb211, 3, none⟩ (.slice Ao84 t208.length co84)).heap[gb193]? = some (.cells #[.slice Ao78 x194000_44.length co78, .slice none 0 0, .int .i64 0, .bool true] 29 (0, 0))) := ⟨by (with_reducible repeat (first | refine blk_drewN ?_ _ | refine blk_drew ?_ | refine blk_alloc ?_ _)); refine blk_far ?_ NB193_211.out _; (with_reducible repeat (first | refine blk_drewN ?_ _ | refine blk_drew ?_ | refine blk_alloc ?_ _)); refine blk_far ?_ NB193_211.out _; (with_reducible repeat (first | refine blk_drewN ?_ _ | refine blk_drew ?_ | refine blk_alloc ?_ _)); refine blk_far ?_ NB193_211.out _; (with_reducible repeat (first | refine blk_drewN ?_ _ | refine blk_drew ?_ | refine blk_alloc ?_ _)); refine blk_far ?_ NB193_211.out _; (with_reducible repeat (first | refine blk_drewN ?_ _ | refine blk_drew ?_ | refine blk_alloc ?_ _)); exact BK193.out⟩
                              have n4_ : Aside0 (((((w80.setCell ⟨gb211, 0, none⟩ (.int .i64 t205)).setCell ⟨gb211, 1, none⟩ (.int .i64 t206)).setCell ⟨gb211, 2, none⟩ (.int .i64 t207)).setCell ⟨gb211, 3, none⟩ (.slice Ao84 t208.length co84)).heap[gb211]? = some (.cells #[.int .i64 t205, .int .i64 t206, .int .i64 t207, .slice Ao84 t208.length co84] 37 (0, 0))) := ⟨by (with_reducible repeat (first | refine blk_drewN ?_ _ | refine blk_drew ?_ | refine blk_alloc ?_ _)); refine blk_put (cs := #[.int .i64 t205, .int .i64 t206, .int .i64 t207, .slice none 0 0]) ?_ 3 _ rfl; (with_reducible repeat (first | refine blk_drewN ?_ _ | refine blk_drew ?_ | refine blk_alloc ?_ _)); refine blk_put (cs := #[.int .i64 t205, .int .i64 t206, .int .i64 0, .slice none 0 0]) ?_ 2 _ rfl; (with_reducible repeat (first | refine blk_drewN ?_ _ | refine blk_drew ?_ | refine blk_alloc ?_ _)); refine blk_put (cs := #[.int .i64 t205, .int .i64 0, .int .i64 0, .slice none 0 0]) ?_ 1 _ rfl; (with_reducible repeat (first | refine blk_drewN ?_ _ | refine blk_drew ?_ | refine blk_alloc ?_ _)); refine blk_put (cs := #[.int .i64 0, .int .i64 0, .int .i64 0, .slice none 0 0]) ?_ 0 _ rfl; (with_reducible repeat (first | refine blk_drewN ?_ _ | refine blk_drew ?_ | refine blk_alloc ?_ _)); exact BK211.out⟩
                              have n5_ : Aside0 (Below w.heap.size w ((((w80.setCell ⟨gb211, 0, none⟩ (.int .i64 t205)).setCell ⟨gb211, 1, none⟩ (.int .i64 t206)).setCell ⟨gb211, 2, none⟩ (.int .i64 t207)).setCell ⟨gb211, 3, none⟩ (.slice Ao84 t208.length co84))) := ⟨by repeat (first | (with_reducible first | exact HB.out | apply below_alloc | apply pw_below_drewN | apply below_drew1 | refine below_set ?_ GE189.out | refine below_set ?_ GE193.out | refine below_set ?_ GE211.out) | exact HB.out)⟩
                              (try clear HO_194000)
                              (try clear HO210)
                              (try clear BK189)
                              (try clear BK193)
                              (try clear BK211)
                              (try clear HB)
                              generalize ((((w80.setCell ⟨gb211, 0, none⟩ (.int .i64 t205)).setCell ⟨gb211, 1, none⟩ (.int .i64 t206)).setCell ⟨gb211, 2, none⟩ (.int .i64 t207)).setCell ⟨gb211, 3, none⟩ (.slice Ao84 t208.length co84)) = w85 at n0_ n1_ n2_ n3_ n4_ n5_ ⊢
                              have HO_194000 := n0_
                              have HO210 := n1_
                              have BK189 := n2_
                              have BK193 := n3_
                              have BK211 := n4_
                              have HB := n5_
                              clear n0_ n1_ n2_ n3_ n4_ n5_
                              have n0_ := Aside0.mk (Kd.S_drew HO_194000.out)
                              have n1_ := Aside0.mk (Kd.R_drew HO210.out)
                              have n2_ := Aside0.mk (blk_drew BK189.out)
                              have n3_ := Aside0.mk (blk_drew BK193.out)
                              have n4_ := Aside0.mk (blk_drew BK211.out)
                              have n5_ := Aside0.mk (below_drew1 HB.out)
                              clear HO_194000
                              clear HO210
                              clear BK189
                              clear BK193
                              clear BK211
                              clear HB
                              have HO_194000 := n0_
                              have HO210 := n1_
                              have BK189 := n2_
                              have BK193 := n3_
                              have BK211 := n4_
                              have HB := n5_
                              clear n0_ n1_ n2_ n3_ n4_ n5_
                              have p212 : 0 ≤ (0 : Int) := (by omega)
                              have q212 : 0 < (t208.length : Int) := of_decide_eq_true (by first | (with_reducible assumption) | assumption)
                              obtain ⟨ad212, e212, hx212_0, hx212_1, hx212_2, hx212_3, hx212_4, hx212_5⟩ := at_T24 (Kd.R_reads' HO210.out).2.2 0 p212 q212
                              cases e212
                              have qi212 : (0 < t208.length) = True := eq_true (by omega)
                              (try rw [show ((0 : Int)).toNat = 0 from rfl] at hx212_0)
                              (try rw [show 0 * 6 = 0 from rfl] at hx212_0)
                              (try rw [Addr.add_zero'] at hx212_0)
                              (try rw [show ((0 : Int)).toNat = 0 from rfl] at hx212_1)
                              (try rw [show 0 * 6 = 0 from rfl] at hx212_1)
                              (try rw [Addr.add_zero'] at hx212_1)
                              (try rw [show ((0 : Int)).toNat = 0 from rfl] at hx212_2)
                              (try rw [show 0 * 6 = 0 from rfl] at hx212_2)
                              (try rw [Addr.add_zero'] at hx212_2)
                              (try rw [show ((0 : Int)).toNat = 0 from rfl] at hx212_3)
                              (try rw [show 0 * 6 = 0 from rfl] at hx212_3)
                              (try rw [Addr.add_zero'] at hx212_3)
                              (try rw [show ((0 : Int)).toNat = 0 from rfl] at hx212_4)
                              (try rw [show 0 * 6 = 0 from rfl] at hx212_4)
                              (try rw [Addr.add_zero'] at hx212_4)
                              (try rw [show ((0 : Int)).toNat = 0 from rfl] at hx212_5)
                              (try rw [show 0 * 6 = 0 from rfl] at hx212_5)
                              (try rw [Addr.add_zero'] at hx212_5)
                              replace p212 := eq_true p212
                              replace q212 := eq_true q212
                              refine start_ (n := 21) (S := fun w' => w'.cell? ⟨gb211, 0, none⟩ = some (.int .i64 t205) ∧ w'.cell? ⟨gb211, 1, none⟩ = some (.int .i64 t206) ∧ w'.cell? ⟨gb211, 2, none⟩ = some (.int .i64 t207) ∧ w'.cell? ⟨gb211, 3, none⟩ = some (.slice (some ad212) t208.length co84) ∧ w'.cell? ⟨gb189, 0, none⟩ = some (.int .i64 a0_0) ∧ w'.cell? ⟨gb189, 1, none⟩ = some (.int .i64 a0_1) ∧ w'.cell? ⟨gb189, 2, none⟩ = some (.int .i64 a0_2) ∧ w'.cell? ⟨gb189, 3, none⟩ = some (.int .i64 a0_3) ∧ w'.cell? ⟨gb189, 4, none⟩ = some (.int .i64 a0_4) ∧ w'.cell? ⟨gb189, 5, none⟩ = some (.int .i64 a0_5) ∧ w'.cell? ad212 = some (.int .i64 ((rd_T24 t208 0).f0)) ∧ w'.cell? ⟨ad212.block, ad212.off + 1, none⟩ = some (.int .i64 ((rd_T24 t208 0).f1)) ∧ w'.cell? ⟨ad212.block, ad212.off + 2, none⟩ = some (.int .i64 ((rd_T24 t208 0).f2)) ∧ w'.cell? ⟨ad212.block, ad212.off + 3, none⟩ = some (.int .i64 ((rd_T24 t208 0).f3)) ∧ w'.cell? ⟨ad212.block, ad212.off + 4, none⟩ = some (.int .i64 ((rd_T24 t208 0).f4)) ∧ w'.cell? ⟨ad212.block, ad212.off + 5, none⟩ = some (.int .i64 ((rd_T24 t208 0).f5))) (ds := []) #[false, false, false, false, false, false, false, false, false, false, false, false, false, false, false, false, false, false, false, false, false] (by kernel_rfl) rfl rfl ⟨(blk_cell BK211.out 0).trans rfl, (blk_cell BK211.out 1).trans rfl, (blk_cell BK211.out 2).trans rfl, (blk_cell BK211.out 3).trans rfl, (blk_cell BK189.out 0).trans rfl, (blk_cell BK189.out 1).trans rfl, (blk_cell BK189.out 2).trans rfl, (blk_cell BK189.out 3).trans rfl, (blk_cell BK189.out 4).trans rfl, (blk_cell BK189.out 5).trans rfl, hx212_0, hx212_1, hx212_2, hx212_3, hx212_4, hx212_5⟩ (fun hHeld => ?_); refine with_tabW meddlerlaw17_ReportSays.tab16 meddlerlaw17_ReportSays.bits16 (fun HT_ HW_ => ?_)
                              generalize w85.drew = w86 at HO_194000 HO210 BK189 BK193 BK211 HB hx212_0 hx212_1 hx212_2 hx212_3 hx212_4 hx212_5 hHeld ⊢
                              refine pure_ (i := 0) (N := some 71) (v := ?_) (a' := ?_) #[true, false, false, false, false, false, false, false, false, false, false, false, false, false, false, false, false, false, false, false, false] rfl rfl (any_of HT_.out (by kernel_rfl)) (fun _ _ _ h => h) (Or.inl ⟨by rfl, ?_⟩) ?_ ?_
                              rotate_left
                              · intro w'
                                go_simp
                                with_reducible rfl
                              rotate_left
                              · simp only [Act.put, List.setIfInBounds_toArray, List.set_cons_zero, List.set_cons_succ, i64_w, i32_w]
                                rfl
                              refine take_ (i := 1) (N := some 72) (v := ?_) (a' := ?_) #[true, true, false, false, false, false, false, false, false, false, false, false, false, false, false, false, false, false, false, false, false] rfl rfl (take_ofW HT_.out HW_.out (by kernel_rfl)) (fun _ _ _ h => h) (Or.inl ⟨by rfl, ?_⟩) hHeld ?_ ?_
                              rotate_left
                              · rintro w' ⟨s0, s1, s2, s3, s4, s5, s6, s7, s8, s9, s10, s11, s12, s13, s14, s15⟩
                                go_simp
                                with_reducible rfl
                              rotate_left
                              · simp only [Act.put, List.setIfInBounds_toArray, List.set_cons_zero, List.set_cons_succ, i64_w, i32_w]
                                rfl
                              refine pure_ (i := 2) (N := some 73) (v := ?_) (a' := ?_) #[true, true, true, false, false, false, false, false, false, false, false, false, false, false, false, false, false, false, false, false, false] rfl rfl (any_of HT_.out (by kernel_rfl)) (fun _ _ _ h => h) (Or.inl ⟨by rfl, ?_⟩) ?_ ?_
                              rotate_left
                              · intro w'
                                go_simp
                                with_reducible rfl
                              rotate_left
                              · simp only [Act.put, List.setIfInBounds_toArray, List.set_cons_zero, List.set_cons_succ, i64_w, i32_w]
                                rfl
                              refine pure_ (i := 3) (N := some 74) (v := ?_) (a' := ?_) #[true, true, true, true, false, false, false, false, false, false, false, false, false, false, false, false, false, false, false, false, false] rfl rfl (any_of HT_.out (by kernel_rfl)) (fun _ _ _ h => h) (Or.inl ⟨by rfl, ?_⟩) ?_ ?_
                              rotate_left
                              · intro w'
                                go_simp
                                with_reducible rfl
                              rotate_left
                              · simp only [Act.put, List.setIfInBounds_toArray, List.set_cons_zero, List.set_cons_succ, i64_w, i32_w]
                                rfl
                              refine pure_ (i := 4) (N := some 75) (v := ?_) (a' := ?_) #[true, true, true, true, true, false, false, false, false, false, false, false, false, false, false, false, false, false, false, false, false] rfl rfl (any_of HT_.out (by kernel_rfl)) (fun _ _ _ h => h) (Or.inl ⟨by rfl, ?_⟩) ?_ ?_
                              rotate_left
                              · intro w'
                                go_simp
                                with_reducible rfl
                              rotate_left
                              · simp only [Act.put, List.setIfInBounds_toArray, List.set_cons_zero, List.set_cons_succ, i64_w, i32_w]
                                rfl
                              refine take_ (i := 5) (N := some 76) (v := ?_) (a' := ?_) #[true, true, true, true, true, true, false, false, false, false, false, false, false, false, false, false, false, false, false, false, false] rfl rfl (take_ofW HT_.out HW_.out (by kernel_rfl)) (fun _ _ _ h => h) (Or.inl ⟨by rfl, ?_⟩) hHeld ?_ ?_
                              rotate_left
                              · rintro w' ⟨s0, s1, s2, s3, s4, s5, s6, s7, s8, s9, s10, s11, s12, s13, s14, s15⟩
                                go_simp
                                with_reducible rfl
                              rotate_left
                              · simp only [Act.put, List.setIfInBounds_toArray, List.set_cons_zero, List.set_cons_succ, i64_w, i32_w]
                                rfl
                              refine pure_ (i := 6) (N := some 77) (v := ?_) (a' := ?_) #[true, true, true, true, true, true, true, false, false, false, false, false, false, false, false, false, false, false, false, false, false] rfl rfl (any_of HT_.out (by kernel_rfl)) (fun _ _ _ h => h) (Or.inl ⟨by rfl, ?_⟩) ?_ ?_
                              rotate_left
                              · intro w'
                                go_simp
                                with_reducible rfl
                              rotate_left
                              · simp only [Act.put, List.setIfInBounds_toArray, List.set_cons_zero, List.set_cons_succ, i64_w, i32_w]
                                rfl
                              refine pure_ (i := 7) (N := some 78) (v := ?_) (a' := ?_) #[true, true, true, true, true, true, true, true, false, false, false, false, false, false, false, false, false, false, false, false, false] rfl rfl (any_of HT_.out (by kernel_rfl)) (fun _ _ _ h => h) (Or.inl ⟨by rfl, ?_⟩) ?_ ?_
                              rotate_left
                              · intro w'
                                go_simp
                                with_reducible rfl
                              rotate_left
                              · simp only [Act.put, List.setIfInBounds_toArray, List.set_cons_zero, List.set_cons_succ, i64_w, i32_w]
                                rfl
                              refine pure_ (i := 8) (N := some 79) (v := ?_) (a' := ?_) #[true, true, true, true, true, true, true, true, true, false, false, false, false, false, false, false, false, false, false, false, false] rfl rfl (any_of HT_.out (by kernel_rfl)) (fun _ _ _ h => h) (Or.inl ⟨by rfl, ?_⟩) ?_ ?_
                              rotate_left
                              · intro w'
                                go_simp
                                with_reducible rfl
                              rotate_left
                              · simp only [Act.put, List.setIfInBounds_toArray, List.set_cons_zero, List.set_cons_succ, i64_w, i32_w]
                                rfl
                              refine pure_ (i := 9) (N := some 80) (v := ?_) (a' := ?_) #[true, true, true, true, true, true, true, true, true, true, false, false, false, false, false, false, false, false, false, false, false] rfl rfl (any_of HT_.out (by kernel_rfl)) (fun _ _ _ h => h) (Or.inl ⟨by rfl, ?_⟩) ?_ ?_
                              rotate_left
                              · intro w'
                                go_simp
                                with_reducible rfl
                              rotate_left
                              · simp only [Act.put, List.setIfInBounds_toArray, List.set_cons_zero, List.set_cons_succ, i64_w, i32_w]
                                rfl
                              refine pure_ (i := 10) (N := some 81) (v := ?_) (a' := ?_) #[true, true, true, true, true, true, true, true, true, true, true, false, false, false, false, false, false, false, false, false, false] rfl rfl (any_of HT_.out (by kernel_rfl)) (fun _ _ _ h => h) (Or.inl ⟨by rfl, ?_⟩) ?_ ?_
                              rotate_left
                              · intro w'
                                go_simp
                                with_reducible rfl
                              rotate_left
                              · simp only [Act.put, List.setIfInBounds_toArray, List.set_cons_zero, List.set_cons_succ, i64_w, i32_w]
                                rfl
                              refine take_ (i := 11) (N := some 82) (v := ?_) (a' := ?_) #[true, true, true, true, true, true, true, true, true, true, true, true, false, false, false, false, false, false, false, false, false] rfl rfl (take_ofW HT_.out HW_.out (by kernel_rfl)) (fun _ _ _ h => h) (Or.inl ⟨by rfl, ?_⟩) hHeld ?_ ?_
                              rotate_left
                              · rintro w' ⟨s0, s1, s2, s3, s4, s5, s6, s7, s8, s9, s10, s11, s12, s13, s14, s15⟩
                                go_simp
                                with_reducible rfl
                              rotate_left
                              · simp only [Act.put, List.setIfInBounds_toArray, List.set_cons_zero, List.set_cons_succ, i64_w, i32_w]
                                rfl
                              refine pure_ (i := 12) (N := some 83) (v := ?_) (a' := ?_) #[true, true, true, true, true, true, true, true, true, true, true, true, true, false, false, false, false, false, false, false, false] rfl rfl (any_of HT_.out (by kernel_rfl)) (fun _ _ _ h => h) (Or.inl ⟨by rfl, ?_⟩) ?_ ?_
                              rotate_left
                              · intro w'
                                go_simp
                                with_reducible rfl
                              rotate_left
                              · simp only [Act.put, List.setIfInBounds_toArray, List.set_cons_zero, List.set_cons_succ, i64_w, i32_w]
                                rfl
                              refine take_ (i := 13) (N := some 84) (v := ?_) (a' := ?_) #[true, true, true, true, true, true, true, true, true, true, true, true, true, true, false, false, false, false, false, false, false] rfl rfl (take_ofW HT_.out HW_.out (by kernel_rfl)) (fun _ _ _ h => h) (Or.inl ⟨by rfl, ?_⟩) hHeld ?_ ?_
                              rotate_left
                              · rintro w' ⟨s0, s1, s2, s3, s4, s5, s6, s7, s8, s9, s10, s11, s12, s13, s14, s15⟩
                                go_simp
                                with_reducible rfl
                              rotate_left
                              · simp only [Act.put, List.setIfInBounds_toArray, List.set_cons_zero, List.set_cons_succ, i64_w, i32_w]
                                rfl
                              refine take_ (i := 14) (N := some 85) (v := ?_) (a' := ?_) #[true, true, true, true, true, true, true, true, true, true, true, true, true, true, true, false, false, false, false, false, false] rfl rfl (take_ofW HT_.out HW_.out (by kernel_rfl)) (fun _ _ _ h => h) (Or.inl ⟨by rfl, ?_⟩) hHeld ?_ ?_
                              rotate_left
                              · rintro w' ⟨s0, s1, s2, s3, s4, s5, s6, s7, s8, s9, s10, s11, s12, s13, s14, s15⟩
                                go_simp
                                with_reducible rfl
                              rotate_left
                              · simp only [Act.put, List.setIfInBounds_toArray, List.set_cons_zero, List.set_cons_succ, i64_w, i32_w]
                                rfl
                              refine pure_ (i := 15) (N := some 86) (v := ?_) (a' := ?_) #[true, true, true, true, true, true, true, true, true, true, true, true, true, true, true, true, false, false, false, false, false] rfl rfl (any_of HT_.out (by kernel_rfl)) (fun _ _ _ h => h) (Or.inl ⟨by rfl, ?_⟩) ?_ ?_
                              rotate_left
                              · intro w'
                                go_simp
                                with_reducible rfl
                              rotate_left
                              · simp only [Act.put, List.setIfInBounds_toArray, List.set_cons_zero, List.set_cons_succ, i64_w, i32_w]
                                rfl
                              refine pure_ (i := 16) (N := some 87) (v := ?_) (a' := ?_) #[true, true, true, true, true, true, true, true, true, true, true, true, true, true, true, true, true, false, false, false, false] rfl rfl (any_of HT_.out (by kernel_rfl)) (fun _ _ _ h => h) (Or.inl ⟨by rfl, ?_⟩) ?_ ?_
                              rotate_left
                              · intro w'
                                go_simp
                                with_reducible rfl
                              rotate_left
                              · simp only [Act.put, List.setIfInBounds_toArray, List.set_cons_zero, List.set_cons_succ, i64_w, i32_w]
                                rfl
                              refine pure_ (i := 17) (N := some 88) (v := ?_) (a' := ?_) #[true, true, true, true, true, true, true, true, true, true, true, true, true, true, true, true, true, true, false, false, false] rfl rfl (any_of HT_.out (by kernel_rfl)) (fun _ _ _ h => h) (Or.inl ⟨by rfl, ?_⟩) ?_ ?_
                              rotate_left
                              · intro w'
                                go_simp
                                with_reducible rfl
                              rotate_left
                              · simp only [Act.put, List.setIfInBounds_toArray, List.set_cons_zero, List.set_cons_succ, i64_w, i32_w]
                                rfl
                              refine pure_ (i := 18) (N := some 89) (v := undef) (a' := ?_) #[true, true, true, true, true, true, true, true, true, true, true, true, true, true, true, true, true, true, true, false, false] rfl rfl (any_of HT_.out (by kernel_rfl)) (fun _ _ _ h => h) (Or.inr ⟨by rfl, rfl⟩) ?_ ?_
                              rotate_left
                              · simp only [Act.put, List.setIfInBounds_toArray, List.set_cons_zero, List.set_cons_succ, i64_w, i32_w]
                                rfl
                              refine pure_ (i := 19) (N := some 90) (v := ?_) (a' := ?_) #[true, true, true, true, true, true, true, true, true, true, true, true, true, true, true, true, true, true, true, true, false] rfl rfl (any_of HT_.out (by kernel_rfl)) (fun _ _ _ h => h) (Or.inl ⟨by rfl, ?_⟩) ?_ ?_
                              rotate_left
                              · intro w'
                                go_simp
                                with_reducible rfl
                              rotate_left
                              · simp only [Act.put, List.setIfInBounds_toArray, List.set_cons_zero, List.set_cons_succ, i64_w, i32_w]
                                rfl
                              refine pure_ (i := 20) (N := some 8) (v := ?_) (a' := ?_) #[true, true, true, true, true, true, true, true, true, true, true, true, true, true, true, true, true, true, true, true, true] rfl rfl (any_of HT_.out (by kernel_rfl)) (fun _ _ _ h => h) (Or.inl ⟨by rfl, ?_⟩) ?_ ?_
                              rotate_left
                              · intro w'
                                go_simp
                                with_reducible rfl
                              rotate_left
                              · simp only [Act.put, List.setIfInBounds_toArray, List.set_cons_zero, List.set_cons_succ, i64_w, i32_w]
                                rfl
                              refine done_ (done_of HT_.out (by kernel_rfl)) ?_
                              try go_wp2
                              go_ret
                              exact ⟨by first | rfl | (simp [HT.out]; done) | (simp [errW_none, errW_some] <;> rfl) | (simp [*, errW_none, errW_some] <;> rfl), by repeat (first | (with_reducible first | exact HB.out | apply below_alloc | apply pw_below_drewN | apply below_drew1 | refine below_set ?_ GE189.out | refine below_set ?_ GE193.out | refine below_set ?_ GE211.out) | exact HB.out)⟩
                          · rw [if_neg c61] at H
                            exact absurd H (by simp)
                        · rw [if_neg c60] at H
                          have c60b0 : ((t208.length : Int) == 1) = false := beq_eq_false_iff_ne.mpr c60
                          have c60b1 : ((t208.length : Int) != 1) = true := bne_iff_ne.mpr c60
                          have HT := Aside0.mk (Option.some.inj H)
                          clear H
                          have hnb87 := NB193_189.out
                          have hnc87 := NB189_193.out
                          have hcz88_0 : wc.cell? ⟨gb193, 0, none⟩ = some (u194000) := (blk_cell BK193.out 0).trans rfl
                          have hcz88_1 : wc.cell? ⟨gb193, 1, none⟩ = some (.slice none 0 0) := (blk_cell BK193.out 1).trans rfl
                          have hcz88_2 : wc.cell? ⟨gb193, 2, none⟩ = some (.int .i64 0) := (blk_cell BK193.out 2).trans rfl
                          have hcz88_3 : wc.cell? ⟨gb193, 3, none⟩ = some (.bool true) := (blk_cell BK193.out 3).trans rfl
                          have hfz88_0 := blk_frozen BK193.out 0
                          have hfz88_1 := blk_frozen BK193.out 1
                          have hfz88_2 := blk_frozen BK193.out 2
                          have hfz88_3 := blk_frozen BK193.out 3
                          obtain ⟨Ao89, co89, eo89⟩ := Kd.S_slice HO_194000.out
                          subst eo89
                          try go_wp2_with (first | ((with_reducible refine gate_callee (f := 12) rfl ?_); refine goesL_ (some 69) rfl rfl Try.func12 (by kernel_rfl) rfl #[.agg #[.slice Ao89 x194000_44.length co89, .slice none 0 0, .int .i64 0, .bool true]] rfl (by (try simp only [List.map_toArray, List.map_cons, List.map_nil]); first | done | rfl | (simp only [List.length_drop, List.length_take]; rfl)) ?_; (refine (report_Of.calls kj44 _ _ x194000_44 _ _ ([] : List (S115)) 0 true t205 t206 t207 t208 _ ?side1 ?side2 ?side3 ?side4 A57.out).mono ?_); (case side1 => repeat (first | exact (Kd.S_reads' HO_194000.out).2.2 | (with_reducible refine Kd.C_alloc ?_ _) | (with_reducible refine Kd.C_drewN ?_ _) | (with_reducible refine Kd.C_drew ?_))); (case side2 => exact (Kd.S_reads' HO_194000.out).2.1); (case side3 => exact Kd.C_nil _ _); (case side4 => exact Nat.le_refl _); rintro e w90 ⟨v209, rfl, ho0, hb⟩; refine ⟨_, rfl, ?_⟩; have n0_ := Aside0.mk (Kd.S_elder' (by (with_reducible repeat (first | apply Kd.S_alloc | apply Kd.S_drewN | apply Kd.S_drew)); exact HO_194000.out) (Kd.R_base ho0) hb); have n1_ := Aside0.mk (Kd.R_lower (Kd.R_newB ho0 (g := gb189) (o := .cells #[.int .i64 a0_0, .int .i64 a0_1, .int .i64 a0_2, .int .i64 a0_3, .int .i64 a0_4, .int .i64 a0_5] 24 (0, 0)) (by (with_reducible repeat (first | refine blk_drewN ?_ _ | refine blk_drew ?_ | refine blk_alloc ?_ _)); exact BK189.out)) (below_size (by repeat (first | (with_reducible first | exact HB.out | apply below_alloc | apply pw_below_drewN | apply below_drew1 | refine below_set ?_ GE189.out | refine below_set ?_ GE193.out) | exact HB.out)))); have n2_ := Aside0.mk (blk_below (g := gb189) (o := .cells #[.int .i64 a0_0, .int .i64 a0_1, .int .i64 a0_2, .int .i64 a0_3, .int .i64 a0_4, .int .i64 a0_5] 24 (0, 0)) (by (with_reducible repeat (first | refine blk_drewN ?_ _ | refine blk_drew ?_ | refine blk_alloc ?_ _)); exact BK189.out) hb); have n3_ := Aside0.mk (blk_below (g := gb193) (o := .cells #[.slice Ao89 x194000_44.length co89, .slice none 0 0, .int .i64 0, .bool true] 29 (0, 0)) (by (with_reducible repeat (first | refine blk_drewN ?_ _ | refine blk_drew ?_ | refine blk_alloc ?_ _)); exact BK193.out) hb); have n4_ := Aside0.mk (below_step (by repeat (first | (with_reducible first | exact HB.out | apply below_alloc | apply pw_below_drewN | apply below_drew1 | refine below_set ?_ GE189.out | refine below_set ?_ GE193.out) | exact HB.out)) hb); clear HO_194000; clear BK189; clear BK193; clear HB; have HO_194000 := n0_; have HO210 := n1_; have BK189 := n2_; have BK193 := n3_; have HB := n4_; clear n0_ n1_ n2_ n3_ n4_; (try clear hb); (try clear hb2); (try clear hk); (try clear hi); (try clear ho0)) | ((with_reducible refine gate_dst (N := 12) rfl ?_); (try (refine gate_guard (by rfl) ?_; dsimp only)); refine box_event ?hg (N := 12) ?hd (cs := #[.int .i64 0, .int .i64 0, .int .i64 0, .slice none 0 0]) (t := 37) ?hr ?_; (case hd => rfl); (case hg => rfl); (case hr => first | (go_simp; done) | (go_simp; rfl)); intro gb211 hg w91 hbox hb; have n0_ := Aside0.mk (Kd.S_below (by (with_reducible repeat (first | apply Kd.S_alloc | apply Kd.S_drewN | apply Kd.S_drew)); exact HO_194000.out) hb); have n1_ := Aside0.mk (Kd.R_below (by (with_reducible repeat (first | apply Kd.R_alloc | apply Kd.R_drewN | apply Kd.R_drew)); exact HO210.out) hb); have n2_ := Aside0.mk (blk_below (g := gb189) (o := .cells #[.int .i64 a0_0, .int .i64 a0_1, .int .i64 a0_2, .int .i64 a0_3, .int .i64 a0_4, .int .i64 a0_5] 24 (0, 0)) (by (with_reducible repeat (first | refine blk_drewN ?_ _ | refine blk_drew ?_ | refine blk_alloc ?_ _)); exact BK189.out) hb); have n3_ := Aside0.mk (blk_below (g := gb193) (o := .cells #[.slice Ao89 x194000_44.length co89, .slice none 0 0, .int .i64 0, .bool true] 29 (0, 0)) (by (with_reducible repeat (first | refine blk_drewN ?_ _ | refine blk_drew ?_ | refine blk_alloc ?_ _)); exact BK193.out) hb); have n4_ := Aside0.mk (below_step (by repeat (first | (with_reducible first | exact HB.out | apply below_alloc | apply pw_below_drewN | apply below_drew1 | refine below_set ?_ GE189.out | refine below_set ?_ GE193.out) | exact HB.out)) hb); have n5_ := Aside0.mk (hbox); have n6_ := Aside0.mk ((by rw [hg]; exact (below_size (by repeat (first | (with_reducible first | exact HB.out | apply below_alloc | apply pw_below_drewN | apply below_drew1 | refine below_set ?_ GE189.out | refine below_set ?_ GE193.out) | exact HB.out))) : w.heap.size ≤ gb211)); have n7_ := Aside0.mk ((by rw [hg]; exact (below_size (by repeat (first | (with_reducible first | exact HB.out | apply below_alloc | apply pw_below_drewN | apply below_drew1 | refine below_set ?_ GE189.out | refine below_set ?_ GE193.out) | exact HB.out))) : w.heap.size ≤ gb211)); have n8_ := Aside0.mk ((by rw [hg]; exact Nat.ne_of_lt (blk_lt (g := gb189) (o := .cells #[.int .i64 a0_0, .int .i64 a0_1, .int .i64 a0_2, .int .i64 a0_3, .int .i64 a0_4, .int .i64 a0_5] 24 (0, 0)) (by (with_reducible repeat (first | refine blk_drewN ?_ _ | refine blk_drew ?_ | refine blk_alloc ?_ _)); exact BK189.out)) : gb189 ≠ gb211)); have n9_ := Aside0.mk ((by rw [hg]; exact Nat.ne_of_gt (blk_lt (g := gb189) (o := .cells #[.int .i64 a0_0, .int .i64 a0_1, .int .i64 a0_2, .int .i64 a0_3, .int .i64 a0_4, .int .i64 a0_5] 24 (0, 0)) (by (with_reducible repeat (first | refine blk_drewN ?_ _ | refine blk_drew ?_ | refine blk_alloc ?_ _)); exact BK189.out)) : gb211 ≠ gb189)); have n10_ := Aside0.mk ((by rw [hg]; exact Nat.ne_of_lt (blk_lt (g := gb193) (o := .cells #[.slice Ao89 x194000_44.length co89, .slice none 0 0, .int .i64 0, .bool true] 29 (0, 0)) (by (with_reducible repeat (first | refine blk_drewN ?_ _ | refine blk_drew ?_ | refine blk_alloc ?_ _)); exact BK193.out)) : gb193 ≠ gb211)); have n11_ := Aside0.mk ((by rw [hg]; exact Nat.ne_of_gt (blk_lt (g := gb193) (o := .cells #[.slice Ao89 x194000_44.length co89, .slice none 0 0, .int .i64 0, .bool true] 29 (0, 0)) (by (with_reducible repeat (first | refine blk_drewN ?_ _ | refine blk_drew ?_ | refine blk_alloc ?_ _)); exact BK193.out)) : gb211 ≠ gb193)); clear HO_194000; clear HO210; clear BK189; clear BK193; clear HB; have HO_194000 := n0_; have HO210 := n1_; have BK189 := n2_; have BK193 := n3_; have HB := n4_; have BK211 := n5_; have GW211 := n6_; have GE211 := n7_; have NB189_211 := n8_; have NB211_189 := n9_; have NB193_211 := n10_; have NB211_193 := n11_; clear n0_ n1_ n2_ n3_ n4_ n5_ n6_ n7_ n8_ n9_ n10_ n11_; clear hb hbox hg; have hnb92 := NB211_189.out; have hnc92 := NB189_211.out; have hnb93 := NB211_193.out; have hnc93 := NB193_211.out; have hcz94_0 : w91.cell? ⟨gb211, 0, none⟩ = some (.int .i64 0) := (blk_cell BK211.out 0).trans rfl; have hcz94_1 : w91.cell? ⟨gb211, 1, none⟩ = some (.int .i64 0) := (blk_cell BK211.out 1).trans rfl; have hcz94_2 : w91.cell? ⟨gb211, 2, none⟩ = some (.int .i64 0) := (blk_cell BK211.out 2).trans rfl; have hcz94_3 : w91.cell? ⟨gb211, 3, none⟩ = some (.slice none 0 0) := (blk_cell BK211.out 3).trans rfl; have hfz94_0 := blk_frozen BK211.out 0; have hfz94_1 := blk_frozen BK211.out 1; have hfz94_2 := blk_frozen BK211.out 2; have hfz94_3 := blk_frozen BK211.out 3; obtain ⟨Ao95, co95, eo95⟩ := Kd.R_slice HO210.out; subst eo95))
                          have n0_ : Aside0 (Kd.S k35 35 ((((w91.setCell ⟨gb211, 0, none⟩ (.int .i64 t205)).setCell ⟨gb211, 1, none⟩ (.int .i64 t206)).setCell ⟨gb211, 2, none⟩ (.int .i64 t207)).setCell ⟨gb211, 3, none⟩ (.slice Ao95 t208.length co95)) w.heap.size (fun k_ => some k_ ≠ (.slice Ao95 t208.length co95 : Value).ownBlock ∧ k_ ≠ gb189) (.slice Ao89 x194000_44.length co89) x194000_44) := ⟨by (with_reducible repeat (first | apply Kd.S_alloc | apply Kd.S_drewN | apply Kd.S_drew)); exact Kd.S_mono (Kd.S_far (p := ⟨gb211, 3, none⟩) (Kd.S_far (p := ⟨gb211, 2, none⟩) (Kd.S_far (p := ⟨gb211, 1, none⟩) (Kd.S_far (p := ⟨gb211, 0, none⟩) (Kd.S_types HO_194000.out BK211.out (by decide)) (fun _ hk => hk.2) (.int .i64 t205)) (fun _ hk => hk.2) (.int .i64 t206)) (fun _ hk => hk.2) (.int .i64 t207)) (fun _ hk => hk.2) (.slice Ao95 t208.length co95)) (fun _ hk => ⟨hk.1.2, hk.1.1⟩)⟩
                          have n1_ : Aside0 (Kd.R k24 24 ((((w91.setCell ⟨gb211, 0, none⟩ (.int .i64 t205)).setCell ⟨gb211, 1, none⟩ (.int .i64 t206)).setCell ⟨gb211, 2, none⟩ (.int .i64 t207)).setCell ⟨gb211, 3, none⟩ (.slice Ao95 t208.length co95)) w.heap.size (fun k_ => k_ ≠ gb189) (.slice Ao95 t208.length co95) t208) := ⟨by (with_reducible repeat (first | apply Kd.R_alloc | apply Kd.R_drewN | apply Kd.R_drew)); exact Kd.R_mono (Kd.R_far (p := ⟨gb211, 3, none⟩) (Kd.R_far (p := ⟨gb211, 2, none⟩) (Kd.R_far (p := ⟨gb211, 1, none⟩) (Kd.R_far (p := ⟨gb211, 0, none⟩) (Kd.R_types HO210.out BK211.out (by decide)) (fun _ hk => hk.2) (.int .i64 t205)) (fun _ hk => hk.2) (.int .i64 t206)) (fun _ hk => hk.2) (.int .i64 t207)) (fun _ hk => hk.2) (.slice Ao95 t208.length co95)) (fun _ hk => hk.1.2)⟩
                          have n2_ : Aside0 (((((w91.setCell ⟨gb211, 0, none⟩ (.int .i64 t205)).setCell ⟨gb211, 1, none⟩ (.int .i64 t206)).setCell ⟨gb211, 2, none⟩ (.int .i64 t207)).setCell ⟨gb211, 3, none⟩ (.slice Ao95 t208.length co95)).heap[gb189]? = some (.cells #[.int .i64 a0_0, .int .i64 a0_1, .int .i64 a0_2, .int .i64 a0_3, .int .i64 a0_4, .int .i64 a0_5] 24 (0, 0))) := ⟨by (with_reducible repeat (first | refine blk_drewN ?_ _ | refine blk_drew ?_ | refine blk_alloc ?_ _)); refine blk_far ?_ NB189_211.out _; (with_reducible repeat (first | refine blk_drewN ?_ _ | refine blk_drew ?_ | refine blk_alloc ?_ _)); refine blk_far ?_ NB189_211.out _; (with_reducible repeat (first | refine blk_drewN ?_ _ | refine blk_drew ?_ | refine blk_alloc ?_ _)); refine blk_far ?_ NB189_211.out _; (with_reducible repeat (first | refine blk_drewN ?_ _ | refine blk_drew ?_ | refine blk_alloc ?_ _)); refine blk_far ?_ NB189_211.out _; (with_reducible repeat (first | refine blk_drewN ?_ _ | refine blk_drew ?_ | refine blk_alloc ?_ _)); exact BK189.out⟩
                          have n3_ : Aside0 (((((w91.setCell ⟨gb211, 0, none⟩ (.int .i64 t205)).setCell ⟨gb211, 1, none⟩ (.int .i64 t206)).setCell ⟨gb211, 2, none⟩ (.int .i64 t207)).setCell ⟨gb211, 3, none⟩ (.slice Ao95 t208.length co95)).heap[gb193]? = some (.cells #[.slice Ao89 x194000_44.length co89, .slice none 0 0, .int .i64 0, .bool true] 29 (0, 0))) := ⟨by (with_reducible repeat (first | refine blk_drewN ?_ _ | refine blk_drew ?_ | refine blk_alloc ?_ _)); refine blk_far ?_ NB193_211.out _; (with_reducible repeat (first | refine blk_drewN ?_ _ | refine blk_drew ?_ | refine blk_alloc ?_ _)); refine blk_far ?_ NB193_211.out _; (with_reducible repeat (first | refine blk_drewN ?_ _ | refine blk_drew ?_ | refine blk_alloc ?_ _)); refine blk_far ?_ NB193_211.out _; (with_reducible repeat (first | refine blk_drewN ?_ _ | refine blk_drew ?_ | refine blk_alloc ?_ _)); refine blk_far ?_ NB193_211.out _; (with_reducible repeat (first | refine blk_drewN ?_ _ | refine blk_drew ?_ | refine blk_alloc ?_ _)); exact BK193.out⟩
                          have n4_ : Aside0 (((((w91.setCell ⟨gb211, 0, none⟩ (.int .i64 t205)).setCell ⟨gb211, 1, none⟩ (.int .i64 t206)).setCell ⟨gb211, 2, none⟩ (.int .i64 t207)).setCell ⟨gb211, 3, none⟩ (.slice Ao95 t208.length co95)).heap[gb211]? = some (.cells #[.int .i64 t205, .int .i64 t206, .int .i64 t207, .slice Ao95 t208.length co95] 37 (0, 0))) := ⟨by (with_reducible repeat (first | refine blk_drewN ?_ _ | refine blk_drew ?_ | refine blk_alloc ?_ _)); refine blk_put (cs := #[.int .i64 t205, .int .i64 t206, .int .i64 t207, .slice none 0 0]) ?_ 3 _ rfl; (with_reducible repeat (first | refine blk_drewN ?_ _ | refine blk_drew ?_ | refine blk_alloc ?_ _)); refine blk_put (cs := #[.int .i64 t205, .int .i64 t206, .int .i64 0, .slice none 0 0]) ?_ 2 _ rfl; (with_reducible repeat (first | refine blk_drewN ?_ _ | refine blk_drew ?_ | refine blk_alloc ?_ _)); refine blk_put (cs := #[.int .i64 t205, .int .i64 0, .int .i64 0, .slice none 0 0]) ?_ 1 _ rfl; (with_reducible repeat (first | refine blk_drewN ?_ _ | refine blk_drew ?_ | refine blk_alloc ?_ _)); refine blk_put (cs := #[.int .i64 0, .int .i64 0, .int .i64 0, .slice none 0 0]) ?_ 0 _ rfl; (with_reducible repeat (first | refine blk_drewN ?_ _ | refine blk_drew ?_ | refine blk_alloc ?_ _)); exact BK211.out⟩
                          have n5_ : Aside0 (Below w.heap.size w ((((w91.setCell ⟨gb211, 0, none⟩ (.int .i64 t205)).setCell ⟨gb211, 1, none⟩ (.int .i64 t206)).setCell ⟨gb211, 2, none⟩ (.int .i64 t207)).setCell ⟨gb211, 3, none⟩ (.slice Ao95 t208.length co95))) := ⟨by repeat (first | (with_reducible first | exact HB.out | apply below_alloc | apply pw_below_drewN | apply below_drew1 | refine below_set ?_ GE189.out | refine below_set ?_ GE193.out | refine below_set ?_ GE211.out) | exact HB.out)⟩
                          (try clear HO_194000)
                          (try clear HO210)
                          (try clear BK189)
                          (try clear BK193)
                          (try clear BK211)
                          (try clear HB)
                          generalize ((((w91.setCell ⟨gb211, 0, none⟩ (.int .i64 t205)).setCell ⟨gb211, 1, none⟩ (.int .i64 t206)).setCell ⟨gb211, 2, none⟩ (.int .i64 t207)).setCell ⟨gb211, 3, none⟩ (.slice Ao95 t208.length co95)) = w96 at n0_ n1_ n2_ n3_ n4_ n5_ ⊢
                          have HO_194000 := n0_
                          have HO210 := n1_
                          have BK189 := n2_
                          have BK193 := n3_
                          have BK211 := n4_
                          have HB := n5_
                          clear n0_ n1_ n2_ n3_ n4_ n5_
                          have n0_ := Aside0.mk (Kd.S_drew HO_194000.out)
                          have n1_ := Aside0.mk (Kd.R_drew HO210.out)
                          have n2_ := Aside0.mk (blk_drew BK189.out)
                          have n3_ := Aside0.mk (blk_drew BK193.out)
                          have n4_ := Aside0.mk (blk_drew BK211.out)
                          have n5_ := Aside0.mk (below_drew1 HB.out)
                          clear HO_194000
                          clear HO210
                          clear BK189
                          clear BK193
                          clear BK211
                          clear HB
                          have HO_194000 := n0_
                          have HO210 := n1_
                          have BK189 := n2_
                          have BK193 := n3_
                          have BK211 := n4_
                          have HB := n5_
                          clear n0_ n1_ n2_ n3_ n4_ n5_
                          refine start_ (n := 21) (S := fun w' => w'.cell? ⟨gb211, 0, none⟩ = some (.int .i64 t205) ∧ w'.cell? ⟨gb211, 1, none⟩ = some (.int .i64 t206) ∧ w'.cell? ⟨gb211, 2, none⟩ = some (.int .i64 t207) ∧ w'.cell? ⟨gb211, 3, none⟩ = some (.slice Ao95 t208.length co95)) (ds := []) #[false, false, false, false, false, false, false, false, false, false, false, false, false, false, false, false, false, false, false, false, false] (by kernel_rfl) rfl rfl ⟨(blk_cell BK211.out 0).trans rfl, (blk_cell BK211.out 1).trans rfl, (blk_cell BK211.out 2).trans rfl, (blk_cell BK211.out 3).trans rfl⟩ (fun hHeld => ?_); refine with_tabW meddlerlaw17_ReportSays.tab16 meddlerlaw17_ReportSays.bits16 (fun HT_ HW_ => ?_)
                          generalize w96.drew = w97 at HO_194000 HO210 BK189 BK193 BK211 HB hHeld ⊢
                          refine pure_ (i := 0) (N := some 71) (v := ?_) (a' := ?_) #[true, false, false, false, false, false, false, false, false, false, false, false, false, false, false, false, false, false, false, false, false] rfl rfl (any_of HT_.out (by kernel_rfl)) (fun _ _ _ h => h) (Or.inl ⟨by rfl, ?_⟩) ?_ ?_
                          rotate_left
                          · intro w'
                            go_simp
                            with_reducible rfl
                          rotate_left
                          · simp only [Act.put, List.setIfInBounds_toArray, List.set_cons_zero, List.set_cons_succ, i64_w, i32_w]
                            rfl
                          refine take_ (i := 1) (N := some 72) (v := ?_) (a' := ?_) #[true, true, false, false, false, false, false, false, false, false, false, false, false, false, false, false, false, false, false, false, false] rfl rfl (take_ofW HT_.out HW_.out (by kernel_rfl)) (fun _ _ _ h => h) (Or.inl ⟨by rfl, ?_⟩) hHeld ?_ ?_
                          rotate_left
                          · rintro w' ⟨s0, s1, s2, s3⟩
                            go_simp
                            with_reducible rfl
                          rotate_left
                          · simp only [Act.put, List.setIfInBounds_toArray, List.set_cons_zero, List.set_cons_succ, i64_w, i32_w]
                            rfl
                          refine pure_ (i := 2) (N := some 73) (v := ?_) (a' := ?_) #[true, true, true, false, false, false, false, false, false, false, false, false, false, false, false, false, false, false, false, false, false] rfl rfl (any_of HT_.out (by kernel_rfl)) (fun _ _ _ h => h) (Or.inl ⟨by rfl, ?_⟩) ?_ ?_
                          rotate_left
                          · intro w'
                            go_simp
                            with_reducible rfl
                          rotate_left
                          · simp only [Act.put, List.setIfInBounds_toArray, List.set_cons_zero, List.set_cons_succ, i64_w, i32_w]
                            rfl
                          refine pure_ (i := 3) (N := some 74) (v := ?_) (a' := ?_) #[true, true, true, true, false, false, false, false, false, false, false, false, false, false, false, false, false, false, false, false, false] rfl rfl (any_of HT_.out (by kernel_rfl)) (fun _ _ _ h => h) (Or.inl ⟨by rfl, ?_⟩) ?_ ?_
                          rotate_left
                          · intro w'
                            go_simp
                            with_reducible rfl
                          rotate_left
                          · simp only [Act.put, List.setIfInBounds_toArray, List.set_cons_zero, List.set_cons_succ, i64_w, i32_w]
                            rfl
                          refine pure_ (i := 4) (N := some 75) (v := ?_) (a' := ?_) #[true, true, true, true, true, false, false, false, false, false, false, false, false, false, false, false, false, false, false, false, false] rfl rfl (any_of HT_.out (by kernel_rfl)) (fun _ _ _ h => h) (Or.inl ⟨by rfl, ?_⟩) ?_ ?_
                          rotate_left
                          · intro w'
                            go_simp
                            with_reducible rfl
                          rotate_left
                          · simp only [Act.put, List.setIfInBounds_toArray, List.set_cons_zero, List.set_cons_succ, i64_w, i32_w]
                            rfl
                          refine take_ (i := 5) (N := some 76) (v := ?_) (a' := ?_) #[true, true, true, true, true, true, false, false, false, false, false, false, false, false, false, false, false, false, false, false, false] rfl rfl (take_ofW HT_.out HW_.out (by kernel_rfl)) (fun _ _ _ h => h) (Or.inl ⟨by rfl, ?_⟩) hHeld ?_ ?_
                          rotate_left
                          · rintro w' ⟨s0, s1, s2, s3⟩
                            go_simp
                            with_reducible rfl
                          rotate_left
                          · simp only [Act.put, List.setIfInBounds_toArray, List.set_cons_zero, List.set_cons_succ, i64_w, i32_w]
                            rfl
                          refine pure_ (i := 6) (N := some 77) (v := ?_) (a' := ?_) #[true, true, true, true, true, true, true, false, false, false, false, false, false, false, false, false, false, false, false, false, false] rfl rfl (any_of HT_.out (by kernel_rfl)) (fun _ _ _ h => h) (Or.inl ⟨by rfl, ?_⟩) ?_ ?_
                          rotate_left
                          · intro w'
                            go_simp
                            with_reducible rfl
                          rotate_left
                          · simp only [Act.put, List.setIfInBounds_toArray, List.set_cons_zero, List.set_cons_succ, i64_w, i32_w]
                            rfl
                          refine pure_ (i := 7) (N := some 78) (v := ?_) (a' := ?_) #[true, true, true, true, true, true, true, true, false, false, false, false, false, false, false, false, false, false, false, false, false] rfl rfl (any_of HT_.out (by kernel_rfl)) (fun _ _ _ h => h) (Or.inl ⟨by rfl, ?_⟩) ?_ ?_
                          rotate_left
                          · intro w'
                            go_simp
                            with_reducible rfl
                          rotate_left
                          · simp only [Act.put, List.setIfInBounds_toArray, List.set_cons_zero, List.set_cons_succ, i64_w, i32_w]
                            rfl
                          refine pure_ (i := 8) (N := some 79) (v := ?_) (a' := ?_) #[true, true, true, true, true, true, true, true, true, false, false, false, false, false, false, false, false, false, false, false, false] rfl rfl (any_of HT_.out (by kernel_rfl)) (fun _ _ _ h => h) (Or.inl ⟨by rfl, ?_⟩) ?_ ?_
                          rotate_left
                          · intro w'
                            go_simp
                            with_reducible rfl
                          rotate_left
                          · simp only [Act.put, List.setIfInBounds_toArray, List.set_cons_zero, List.set_cons_succ, i64_w, i32_w]
                            rfl
                          refine pure_ (i := 9) (N := some 80) (v := ?_) (a' := ?_) #[true, true, true, true, true, true, true, true, true, true, false, false, false, false, false, false, false, false, false, false, false] rfl rfl (any_of HT_.out (by kernel_rfl)) (fun _ _ _ h => h) (Or.inl ⟨by rfl, ?_⟩) ?_ ?_
                          rotate_left
                          · intro w'
                            go_simp
                            with_reducible rfl
                          rotate_left
                          · simp only [Act.put, List.setIfInBounds_toArray, List.set_cons_zero, List.set_cons_succ, i64_w, i32_w]
                            rfl
                          refine pure_ (i := 10) (N := some 81) (v := undef) (a' := ?_) #[true, true, true, true, true, true, true, true, true, true, true, false, false, false, false, false, false, false, false, false, false] rfl rfl (any_of HT_.out (by kernel_rfl)) (fun _ _ _ h => h) (Or.inr ⟨by rfl, rfl⟩) ?_ ?_
                          rotate_left
                          · simp only [Act.put, List.setIfInBounds_toArray, List.set_cons_zero, List.set_cons_succ, i64_w, i32_w]
                            rfl
                          refine pure_ (i := 11) (N := some 82) (v := undef) (a' := ?_) #[true, true, true, true, true, true, true, true, true, true, true, true, false, false, false, false, false, false, false, false, false] rfl rfl (any_of HT_.out (by kernel_rfl)) (fun _ _ _ h => h) (Or.inr ⟨by rfl, rfl⟩) ?_ ?_
                          rotate_left
                          · simp only [Act.put, List.setIfInBounds_toArray, List.set_cons_zero, List.set_cons_succ, i64_w, i32_w]
                            rfl
                          refine pure_ (i := 12) (N := some 83) (v := undef) (a' := ?_) #[true, true, true, true, true, true, true, true, true, true, true, true, true, false, false, false, false, false, false, false, false] rfl rfl (any_of HT_.out (by kernel_rfl)) (fun _ _ _ h => h) (Or.inr ⟨by rfl, rfl⟩) ?_ ?_
                          rotate_left
                          · simp only [Act.put, List.setIfInBounds_toArray, List.set_cons_zero, List.set_cons_succ, i64_w, i32_w]
                            rfl
                          refine pure_ (i := 13) (N := some 84) (v := undef) (a' := ?_) #[true, true, true, true, true, true, true, true, true, true, true, true, true, true, false, false, false, false, false, false, false] rfl rfl (any_of HT_.out (by kernel_rfl)) (fun _ _ _ h => h) (Or.inr ⟨by rfl, rfl⟩) ?_ ?_
                          rotate_left
                          · simp only [Act.put, List.setIfInBounds_toArray, List.set_cons_zero, List.set_cons_succ, i64_w, i32_w]
                            rfl
                          refine pure_ (i := 14) (N := some 85) (v := undef) (a' := ?_) #[true, true, true, true, true, true, true, true, true, true, true, true, true, true, true, false, false, false, false, false, false] rfl rfl (any_of HT_.out (by kernel_rfl)) (fun _ _ _ h => h) (Or.inr ⟨by rfl, rfl⟩) ?_ ?_
                          rotate_left
                          · simp only [Act.put, List.setIfInBounds_toArray, List.set_cons_zero, List.set_cons_succ, i64_w, i32_w]
                            rfl
                          refine pure_ (i := 15) (N := some 86) (v := undef) (a' := ?_) #[true, true, true, true, true, true, true, true, true, true, true, true, true, true, true, true, false, false, false, false, false] rfl rfl (any_of HT_.out (by kernel_rfl)) (fun _ _ _ h => h) (Or.inr ⟨by rfl, rfl⟩) ?_ ?_
                          rotate_left
                          · simp only [Act.put, List.setIfInBounds_toArray, List.set_cons_zero, List.set_cons_succ, i64_w, i32_w]
                            rfl
                          refine pure_ (i := 16) (N := some 87) (v := ?_) (a' := ?_) #[true, true, true, true, true, true, true, true, true, true, true, true, true, true, true, true, true, false, false, false, false] rfl rfl (any_of HT_.out (by kernel_rfl)) (fun _ _ _ h => h) (Or.inl ⟨by rfl, ?_⟩) ?_ ?_
                          rotate_left
                          · intro w'
                            go_simp
                            with_reducible rfl
                          rotate_left
                          · simp only [Act.put, List.setIfInBounds_toArray, List.set_cons_zero, List.set_cons_succ, i64_w, i32_w]
                            rfl
                          refine pure_ (i := 17) (N := some 88) (v := ?_) (a' := ?_) #[true, true, true, true, true, true, true, true, true, true, true, true, true, true, true, true, true, true, false, false, false] rfl rfl (any_of HT_.out (by kernel_rfl)) (fun _ _ _ h => h) (Or.inl ⟨by rfl, ?_⟩) ?_ ?_
                          rotate_left
                          · intro w'
                            go_simp
                            with_reducible rfl
                          rotate_left
                          · simp only [Act.put, List.setIfInBounds_toArray, List.set_cons_zero, List.set_cons_succ, i64_w, i32_w]
                            rfl
                          refine pure_ (i := 18) (N := some 89) (v := undef) (a' := ?_) #[true, true, true, true, true, true, true, true, true, true, true, true, true, true, true, true, true, true, true, false, false] rfl rfl (any_of HT_.out (by kernel_rfl)) (fun _ _ _ h => h) (Or.inr ⟨by rfl, rfl⟩) ?_ ?_
                          rotate_left
                          · simp only [Act.put, List.setIfInBounds_toArray, List.set_cons_zero, List.set_cons_succ, i64_w, i32_w]
                            rfl
                          refine pure_ (i := 19) (N := some 90) (v := ?_) (a' := ?_) #[true, true, true, true, true, true, true, true, true, true, true, true, true, true, true, true, true, true, true, true, false] rfl rfl (any_of HT_.out (by kernel_rfl)) (fun _ _ _ h => h) (Or.inl ⟨by rfl, ?_⟩) ?_ ?_
                          rotate_left
                          · intro w'
                            go_simp
                            with_reducible rfl
                          rotate_left
                          · simp only [Act.put, List.setIfInBounds_toArray, List.set_cons_zero, List.set_cons_succ, i64_w, i32_w]
                            rfl
                          refine pure_ (i := 20) (N := some 8) (v := ?_) (a' := ?_) #[true, true, true, true, true, true, true, true, true, true, true, true, true, true, true, true, true, true, true, true, true] rfl rfl (any_of HT_.out (by kernel_rfl)) (fun _ _ _ h => h) (Or.inl ⟨by rfl, ?_⟩) ?_ ?_
                          rotate_left
                          · intro w'
                            go_simp
                            with_reducible rfl
                          rotate_left
                          · simp only [Act.put, List.setIfInBounds_toArray, List.set_cons_zero, List.set_cons_succ, i64_w, i32_w]
                            rfl
                          refine done_ (done_of HT_.out (by kernel_rfl)) ?_
                          try go_wp2
                          go_ret
                          exact ⟨by first | rfl | (simp [HT.out]; done) | (simp [errW_none, errW_some] <;> rfl) | (simp [*, errW_none, errW_some] <;> rfl), by repeat (first | (with_reducible first | exact HB.out | apply below_alloc | apply pw_below_drewN | apply below_drew1 | refine below_set ?_ GE189.out | refine below_set ?_ GE193.out | refine below_set ?_ GE211.out) | exact HB.out)⟩
                      · rw [if_neg c59] at H
                        exact absurd H (by simp)
                    · replace c58 := Bool.eq_false_iff.mpr c58
                      subst c58
                      have H1 : (if t205 = 3 then (if (t208.length : Int) = 0 then ((meddlerlaw17_known.f kj44).bind fun t214 => (some t214)) else (some false)) else (some false)) = some true := by rw [if_neg (show ¬ (false = true) by decide)] at H; exact H
                      clear H
                      have H := H1
                      clear H1
                      by_cases c109 : t205 = 3
                      · rw [if_pos c109] at H
                        have c109b0 : (t205 == 3) = true := beq_iff_eq.mpr c109
                        have c109b1 : (t205 != 3) = false := bne_eq_false_iff_eq.mpr c109
                        clear c109
                        by_cases c110 : (t208.length : Int) = 0
                        · rw [if_pos c110] at H
                          have c110b0 : ((t208.length : Int) == 0) = true := beq_iff_eq.mpr c110
                          have c110b1 : ((t208.length : Int) != 0) = false := bne_eq_false_iff_eq.mpr c110
                          clear c110
                          replace H := Option.bind_eq_some_iff.mp H
                          obtain ⟨t214, A1110, H⟩ := H
                          replace H : (some t214) = some true := H
                          have A111 := Aside0.mk A1110
                          clear A1110
                          have HT := Aside0.mk (Option.some.inj H)
                          clear H
                          have hnb112 := NB193_189.out
                          have hnc112 := NB189_193.out
                          have hcz113_0 : wc.cell? ⟨gb193, 0, none⟩ = some (u194000) := (blk_cell BK193.out 0).trans rfl
                          have hcz113_1 : wc.cell? ⟨gb193, 1, none⟩ = some (.slice none 0 0) := (blk_cell BK193.out 1).trans rfl
                          have hcz113_2 : wc.cell? ⟨gb193, 2, none⟩ = some (.int .i64 0) := (blk_cell BK193.out 2).trans rfl
                          have hcz113_3 : wc.cell? ⟨gb193, 3, none⟩ = some (.bool true) := (blk_cell BK193.out 3).trans rfl
                          have hfz113_0 := blk_frozen BK193.out 0
                          have hfz113_1 := blk_frozen BK193.out 1
                          have hfz113_2 := blk_frozen BK193.out 2
                          have hfz113_3 := blk_frozen BK193.out 3
                          obtain ⟨Ao114, co114, eo114⟩ := Kd.S_slice HO_194000.out
                          subst eo114
                          go_wp2_with (first | ((with_reducible refine gate_callee (f := 12) rfl ?_); refine goesL_ (some 69) rfl rfl Try.func12 (by kernel_rfl) rfl #[.agg #[.slice Ao114 x194000_44.length co114, .slice none 0 0, .int .i64 0, .bool true]] rfl (by (try simp only [List.map_toArray, List.map_cons, List.map_nil]); first | done | rfl | (simp only [List.length_drop, List.length_take]; rfl)) ?_; (refine (report_Of.calls kj44 _ _ x194000_44 _ _ ([] : List (S115)) 0 true t205 t206 t207 t208 _ ?side1 ?side2 ?side3 ?side4 A57.out).mono ?_); (case side1 => repeat (first | exact (Kd.S_reads' HO_194000.out).2.2 | (with_reducible refine Kd.C_alloc ?_ _) | (with_reducible refine Kd.C_drewN ?_ _) | (with_reducible refine Kd.C_drew ?_))); (case side2 => exact (Kd.S_reads' HO_194000.out).2.1); (case side3 => exact Kd.C_nil _ _); (case side4 => exact Nat.le_refl _); rintro e w115 ⟨v209, rfl, ho0, hb⟩; refine ⟨_, rfl, ?_⟩; have n0_ := Aside0.mk (Kd.S_elder' (by (with_reducible repeat (first | apply Kd.S_alloc | apply Kd.S_drewN | apply Kd.S_drew)); exact HO_194000.out) (Kd.R_base ho0) hb); have n1_ := Aside0.mk (Kd.R_lower (Kd.R_newB ho0 (g := gb189) (o := .cells #[.int .i64 a0_0, .int .i64 a0_1, .int .i64 a0_2, .int .i64 a0_3, .int .i64 a0_4, .int .i64 a0_5] 24 (0, 0)) (by (with_reducible repeat (first | refine blk_drewN ?_ _ | refine blk_drew ?_ | refine blk_alloc ?_ _)); exact BK189.out)) (below_size (by repeat (first | (with_reducible first | exact HB.out | apply below_alloc | apply pw_below_drewN | apply below_drew1 | refine below_set ?_ GE189.out | refine below_set ?_ GE193.out) | exact HB.out)))); have n2_ := Aside0.mk (blk_below (g := gb189) (o := .cells #[.int .i64 a0_0, .int .i64 a0_1, .int .i64 a0_2, .int .i64 a0_3, .int .i64 a0_4, .int .i64 a0_5] 24 (0, 0)) (by (with_reducible repeat (first | refine blk_drewN ?_ _ | refine blk_drew ?_ | refine blk_alloc ?_ _)); exact BK189.out) hb); have n3_ := Aside0.mk (blk_below (g := gb193) (o := .cells #[.slice Ao114 x194000_44.length co114, .slice none 0 0, .int .i64 0, .bool true] 29 (0, 0)) (by (with_reducible repeat (first | refine blk_drewN ?_ _ | refine blk_drew ?_ | refine blk_alloc ?_ _)); exact BK193.out) hb); have n4_ := Aside0.mk (below_step (by repeat (first | (with_reducible first | exact HB.out | apply below_alloc | apply pw_below_drewN | apply below_drew1 | refine below_set ?_ GE189.out | refine below_set ?_ GE193.out) | exact HB.out)) hb); clear HO_194000; clear BK189; clear BK193; clear HB; have HO_194000 := n0_; have HO210 := n1_; have BK189 := n2_; have BK193 := n3_; have HB := n4_; clear n0_ n1_ n2_ n3_ n4_; (try clear hb); (try clear hb2); (try clear hk); (try clear hi); (try clear ho0)) | ((with_reducible refine gate_dst (N := 12) rfl ?_); (try (refine gate_guard (by rfl) ?_; dsimp only)); refine box_event ?hg (N := 12) ?hd (cs := #[.int .i64 0, .int .i64 0, .int .i64 0, .slice none 0 0]) (t := 37) ?hr ?_; (case hd => rfl); (case hg => rfl); (case hr => first | (go_simp; done) | (go_simp; rfl)); intro gb211 hg w116 hbox hb; have n0_ := Aside0.mk (Kd.S_below (by (with_reducible repeat (first | apply Kd.S_alloc | apply Kd.S_drewN | apply Kd.S_drew)); exact HO_194000.out) hb); have n1_ := Aside0.mk (Kd.R_below (by (with_reducible repeat (first | apply Kd.R_alloc | apply Kd.R_drewN | apply Kd.R_drew)); exact HO210.out) hb); have n2_ := Aside0.mk (blk_below (g := gb189) (o := .cells #[.int .i64 a0_0, .int .i64 a0_1, .int .i64 a0_2, .int .i64 a0_3, .int .i64 a0_4, .int .i64 a0_5] 24 (0, 0)) (by (with_reducible repeat (first | refine blk_drewN ?_ _ | refine blk_drew ?_ | refine blk_alloc ?_ _)); exact BK189.out) hb); have n3_ := Aside0.mk (blk_below (g := gb193) (o := .cells #[.slice Ao114 x194000_44.length co114, .slice none 0 0, .int .i64 0, .bool true] 29 (0, 0)) (by (with_reducible repeat (first | refine blk_drewN ?_ _ | refine blk_drew ?_ | refine blk_alloc ?_ _)); exact BK193.out) hb); have n4_ := Aside0.mk (below_step (by repeat (first | (with_reducible first | exact HB.out | apply below_alloc | apply pw_below_drewN | apply below_drew1 | refine below_set ?_ GE189.out | refine below_set ?_ GE193.out) | exact HB.out)) hb); have n5_ := Aside0.mk (hbox); have n6_ := Aside0.mk ((by rw [hg]; exact (below_size (by repeat (first | (with_reducible first | exact HB.out | apply below_alloc | apply pw_below_drewN | apply below_drew1 | refine below_set ?_ GE189.out | refine below_set ?_ GE193.out) | exact HB.out))) : w.heap.size ≤ gb211)); have n7_ := Aside0.mk ((by rw [hg]; exact (below_size (by repeat (first | (with_reducible first | exact HB.out | apply below_alloc | apply pw_below_drewN | apply below_drew1 | refine below_set ?_ GE189.out | refine below_set ?_ GE193.out) | exact HB.out))) : w.heap.size ≤ gb211)); have n8_ := Aside0.mk ((by rw [hg]; exact Nat.ne_of_lt (blk_lt (g := gb189) (o := .cells #[.int .i64 a0_0, .int .i64 a0_1, .int .i64 a0_2, .int .i64 a0_3, .int .i64 a0_4, .int .i64 a0_5] 24 (0, 0)) (by (with_reducible repeat (first | refine blk_drewN ?_ _ | refine blk_drew ?_ | refine blk_alloc ?_ _)); exact BK189.out)) : gb189 ≠ gb211)); have n9_ := Aside0.mk ((by rw [hg]; exact Nat.ne_of_gt (blk_lt (g := gb189) (o := .cells #[.int .i64 a0_0, .int .i64 a0_1, .int .i64 a0_2, .int .i64 a0_3, .int .i64 a0_4, .int .i64 a0_5] 24 (0, 0)) (by (with_reducible repeat (first | refine blk_drewN ?_ _ | refine blk_drew ?_ | refine blk_alloc ?_ _)); exact BK189.out)) : gb211 ≠ gb189)); have n10_ := Aside0.mk ((by rw [hg]; exact Nat.ne_of_lt (blk_lt (g := gb193) (o := .cells #[.slice Ao114 x194000_44.length co114, .slice none 0 0, .int .i64 0, .bool true] 29 (0, 0)) (by (with_reducible repeat (first | refine blk_drewN ?_ _ | refine blk_drew ?_ | refine blk_alloc ?_ _)); exact BK193.out)) : gb193 ≠ gb211)); have n11_ := Aside0.mk ((by rw [hg]; exact Nat.ne_of_gt (blk_lt (g := gb193) (o := .cells #[.slice Ao114 x194000_44.length co114, .slice none 0 0, .int .i64 0, .bool true] 29 (0, 0)) (by (with_reducible repeat (first | refine blk_drewN ?_ _ | refine blk_drew ?_ | refine blk_alloc ?_ _)); exact BK193.out)) : gb211 ≠ gb193)); clear HO_194000; clear HO210; clear BK189; clear BK193; clear HB; have HO_194000 := n0_; have HO210 := n1_; have BK189 := n2_; have BK193 := n3_; have HB := n4_; have BK211 := n5_; have GW211 := n6_; have GE211 := n7_; have NB189_211 := n8_; have NB211_189 := n9_; have NB193_211 := n10_; have NB211_193 := n11_; clear n0_ n1_ n2_ n3_ n4_ n5_ n6_ n7_ n8_ n9_ n10_ n11_; clear hb hbox hg; have hnb117 := NB211_189.out; have hnc117 := NB189_211.out; have hnb118 := NB211_193.out; have hnc118 := NB193_211.out; have hcz119_0 : w116.cell? ⟨gb211, 0, none⟩ = some (.int .i64 0) := (blk_cell BK211.out 0).trans rfl; have hcz119_1 : w116.cell? ⟨gb211, 1, none⟩ = some (.int .i64 0) := (blk_cell BK211.out 1).trans rfl; have hcz119_2 : w116.cell? ⟨gb211, 2, none⟩ = some (.int .i64 0) := (blk_cell BK211.out 2).trans rfl; have hcz119_3 : w116.cell? ⟨gb211, 3, none⟩ = some (.slice none 0 0) := (blk_cell BK211.out 3).trans rfl; have hfz119_0 := blk_frozen BK211.out 0; have hfz119_1 := blk_frozen BK211.out 1; have hfz119_2 := blk_frozen BK211.out 2; have hfz119_3 := blk_frozen BK211.out 3; obtain ⟨Ao120, co120, eo120⟩ := Kd.R_slice HO210.out; subst eo120) | (go_at_call 13; (with_reducible refine (meddlerlaw17_known.calls kj44  t214 _ A111.out).mono ?_); rintro e w121 ⟨rfl, hb⟩; have n0_ := Aside0.mk (Kd.S_below (by (with_reducible repeat (first | apply Kd.S_alloc | apply Kd.S_drewN | apply Kd.S_drew)); exact (Kd.S_mono (Kd.S_far (p := ⟨gb211, 3, none⟩) (Kd.S_far (p := ⟨gb211, 2, none⟩) (Kd.S_far (p := ⟨gb211, 1, none⟩) (Kd.S_far (p := ⟨gb211, 0, none⟩) (Kd.S_types HO_194000.out BK211.out (by decide)) (fun _ hk => hk.2) (.int .i64 t205)) (fun _ hk => hk.2) (.int .i64 t206)) (fun _ hk => hk.2) (.int .i64 t207)) (fun _ hk => hk.2) (.slice Ao120 t208.length co120)) (fun _ h_ => h_.1))) hb); have n1_ := Aside0.mk (Kd.R_below (by (with_reducible repeat (first | apply Kd.R_alloc | apply Kd.R_drewN | apply Kd.R_drew)); exact (Kd.R_mono (Kd.R_far (p := ⟨gb211, 3, none⟩) (Kd.R_far (p := ⟨gb211, 2, none⟩) (Kd.R_far (p := ⟨gb211, 1, none⟩) (Kd.R_far (p := ⟨gb211, 0, none⟩) (Kd.R_types HO210.out BK211.out (by decide)) (fun _ hk => hk.2) (.int .i64 t205)) (fun _ hk => hk.2) (.int .i64 t206)) (fun _ hk => hk.2) (.int .i64 t207)) (fun _ hk => hk.2) (.slice Ao120 t208.length co120)) (fun _ h_ => h_.1))) hb); have n2_ := Aside0.mk (blk_below (g := gb189) (o := .cells #[.int .i64 a0_0, .int .i64 a0_1, .int .i64 a0_2, .int .i64 a0_3, .int .i64 a0_4, .int .i64 a0_5] 24 (0, 0)) (by (with_reducible repeat (first | refine blk_drewN ?_ _ | refine blk_drew ?_ | refine blk_alloc ?_ _)); refine blk_far ?_ NB189_211.out _; (with_reducible repeat (first | refine blk_drewN ?_ _ | refine blk_drew ?_ | refine blk_alloc ?_ _)); refine blk_far ?_ NB189_211.out _; (with_reducible repeat (first | refine blk_drewN ?_ _ | refine blk_drew ?_ | refine blk_alloc ?_ _)); refine blk_far ?_ NB189_211.out _; (with_reducible repeat (first | refine blk_drewN ?_ _ | refine blk_drew ?_ | refine blk_alloc ?_ _)); refine blk_far ?_ NB189_211.out _; (with_reducible repeat (first | refine blk_drewN ?_ _ | refine blk_drew ?_ | refine blk_alloc ?_ _)); exact BK189.out) hb); have n3_ := Aside0.mk (blk_below (g := gb193) (o := .cells #[.slice Ao114 x194000_44.length co114, .slice none 0 0, .int .i64 0, .bool true] 29 (0, 0)) (by (with_reducible repeat (first | refine blk_drewN ?_ _ | refine blk_drew ?_ | refine blk_alloc ?_ _)); refine blk_far ?_ NB193_211.out _; (with_reducible repeat (first | refine blk_drewN ?_ _ | refine blk_drew ?_ | refine blk_alloc ?_ _)); refine blk_far ?_ NB193_211.out _; (with_reducible repeat (first | refine blk_drewN ?_ _ | refine blk_drew ?_ | refine blk_alloc ?_ _)); refine blk_far ?_ NB193_211.out _; (with_reducible repeat (first | refine blk_drewN ?_ _ | refine blk_drew ?_ | refine blk_alloc ?_ _)); refine blk_far ?_ NB193_211.out _; (with_reducible repeat (first | refine blk_drewN ?_ _ | refine blk_drew ?_ | refine blk_alloc ?_ _)); exact BK193.out) hb); have n4_ := Aside0.mk (blk_below (g := gb211) (o := .cells #[.int .i64 t205, .int .i64 t206, .int .i64 t207, .slice Ao120 t208.length co120] 37 (0, 0)) (by (with_reducible repeat (first | refine blk_drewN ?_ _ | refine blk_drew ?_ | refine blk_alloc ?_ _)); refine blk_put (cs := #[.int .i64 t205, .int .i64 t206, .int .i64 t207, .slice none 0 0]) ?_ 3 _ rfl; (with_reducible repeat (first | refine blk_drewN ?_ _ | refine blk_drew ?_ | refine blk_alloc ?_ _)); refine blk_put (cs := #[.int .i64 t205, .int .i64 t206, .int .i64 0, .slice none 0 0]) ?_ 2 _ rfl; (with_reducible repeat (first | refine blk_drewN ?_ _ | refine blk_drew ?_ | refine blk_alloc ?_ _)); refine blk_put (cs := #[.int .i64 t205, .int .i64 0, .int .i64 0, .slice none 0 0]) ?_ 1 _ rfl; (with_reducible repeat (first | refine blk_drewN ?_ _ | refine blk_drew ?_ | refine blk_alloc ?_ _)); refine blk_put (cs := #[.int .i64 0, .int .i64 0, .int .i64 0, .slice none 0 0]) ?_ 0 _ rfl; (with_reducible repeat (first | refine blk_drewN ?_ _ | refine blk_drew ?_ | refine blk_alloc ?_ _)); exact BK211.out) hb); have n5_ := Aside0.mk (below_step (by repeat (first | (with_reducible first | exact HB.out | apply below_alloc | apply pw_below_drewN | apply below_drew1 | refine below_set ?_ GE189.out | refine below_set ?_ GE193.out | refine below_set ?_ GE211.out) | exact HB.out)) hb); clear HO_194000; clear HO210; clear BK189; clear BK193; clear BK211; clear HB; have HO_194000 := n0_; have HO210 := n1_; have BK189 := n2_; have BK193 := n3_; have BK211 := n4_; have HB := n5_; clear n0_ n1_ n2_ n3_ n4_ n5_; (try clear hb); (try clear hb2); (try clear hk); (try clear hi)))
                          go_ret
                          exact ⟨by first | rfl | (simp [HT.out]; done) | (simp [errW_none, errW_some] <;> rfl) | (simp [*, errW_none, errW_some] <;> rfl), by repeat (first | (with_reducible first | exact HB.out | apply below_alloc | apply pw_below_drewN | apply below_drew1 | refine below_set ?_ GE189.out | refine below_set ?_ GE193.out | refine below_set ?_ GE211.out) | exact HB.out)⟩
                        · rw [if_neg c110] at H
                          have c110b0 : ((t208.length : Int) == 0) = false := beq_eq_false_iff_ne.mpr c110
                          have c110b1 : ((t208.length : Int) != 0) = true := bne_iff_ne.mpr c110
                          have c110b2 : ¬ (t208 = []) := fun h_ => c110 (by rw [h_]; rfl)
                          have HT := Aside0.mk (Option.some.inj H)
                          clear H
                          have hnb122 := NB193_189.out
                          have hnc122 := NB189_193.out
                          have hcz123_0 : wc.cell? ⟨gb193, 0, none⟩ = some (u194000) := (blk_cell BK193.out 0).trans rfl
                          have hcz123_1 : wc.cell? ⟨gb193, 1, none⟩ = some (.slice none 0 0) := (blk_cell BK193.out 1).trans rfl
                          have hcz123_2 : wc.cell? ⟨gb193, 2, none⟩ = some (.int .i64 0) := (blk_cell BK193.out 2).trans rfl
                          have hcz123_3 : wc.cell? ⟨gb193, 3, none⟩ = some (.bool true) := (blk_cell BK193.out 3).trans rfl
                          have hfz123_0 := blk_frozen BK193.out 0
                          have hfz123_1 := blk_frozen BK193.out 1
                          have hfz123_2 := blk_frozen BK193.out 2
                          have hfz123_3 := blk_frozen BK193.out 3
                          obtain ⟨Ao124, co124, eo124⟩ := Kd.S_slice HO_194000.out
                          subst eo124
                          go_wp2_with (first | ((with_reducible refine gate_callee (f := 12) rfl ?_); refine goesL_ (some 69) rfl rfl Try.func12 (by kernel_rfl) rfl #[.agg #[.slice Ao124 x194000_44.length co124, .slice none 0 0, .int .i64 0, .bool true]] rfl (by (try simp only [List.map_toArray, List.map_cons, List.map_nil]); first | done | rfl | (simp only [List.length_drop, List.length_take]; rfl)) ?_; (refine (report_Of.calls kj44 _ _ x194000_44 _ _ ([] : List (S115)) 0 true t205 t206 t207 t208 _ ?side1 ?side2 ?side3 ?side4 A57.out).mono ?_); (case side1 => repeat (first | exact (Kd.S_reads' HO_194000.out).2.2 | (with_reducible refine Kd.C_alloc ?_ _) | (with_reducible refine Kd.C_drewN ?_ _) | (with_reducible refine Kd.C_drew ?_))); (case side2 => exact (Kd.S_reads' HO_194000.out).2.1); (case side3 => exact Kd.C_nil _ _); (case side4 => exact Nat.le_refl _); rintro e w125 ⟨v209, rfl, ho0, hb⟩; refine ⟨_, rfl, ?_⟩; have n0_ := Aside0.mk (Kd.S_elder' (by (with_reducible repeat (first | apply Kd.S_alloc | apply Kd.S_drewN | apply Kd.S_drew)); exact HO_194000.out) (Kd.R_base ho0) hb); have n1_ := Aside0.mk (Kd.R_lower (Kd.R_newB ho0 (g := gb189) (o := .cells #[.int .i64 a0_0, .int .i64 a0_1, .int .i64 a0_2, .int .i64 a0_3, .int .i64 a0_4, .int .i64 a0_5] 24 (0, 0)) (by (with_reducible repeat (first | refine blk_drewN ?_ _ | refine blk_drew ?_ | refine blk_alloc ?_ _)); exact BK189.out)) (below_size (by repeat (first | (with_reducible first | exact HB.out | apply below_alloc | apply pw_below_drewN | apply below_drew1 | refine below_set ?_ GE189.out | refine below_set ?_ GE193.out) | exact HB.out)))); have n2_ := Aside0.mk (blk_below (g := gb189) (o := .cells #[.int .i64 a0_0, .int .i64 a0_1, .int .i64 a0_2, .int .i64 a0_3, .int .i64 a0_4, .int .i64 a0_5] 24 (0, 0)) (by (with_reducible repeat (first | refine blk_drewN ?_ _ | refine blk_drew ?_ | refine blk_alloc ?_ _)); exact BK189.out) hb); have n3_ := Aside0.mk (blk_below (g := gb193) (o := .cells #[.slice Ao124 x194000_44.length co124, .slice none 0 0, .int .i64 0, .bool true] 29 (0, 0)) (by (with_reducible repeat (first | refine blk_drewN ?_ _ | refine blk_drew ?_ | refine blk_alloc ?_ _)); exact BK193.out) hb); have n4_ := Aside0.mk (below_step (by repeat (first | (with_reducible first | exact HB.out | apply below_alloc | apply pw_below_drewN | apply below_drew1 | refine below_set ?_ GE189.out | refine below_set ?_ GE193.out) | exact HB.out)) hb); clear HO_194000; clear BK189; clear BK193; clear HB; have HO_194000 := n0_; have HO210 := n1_; have BK189 := n2_; have BK193 := n3_; have HB := n4_; clear n0_ n1_ n2_ n3_ n4_; (try clear hb); (try clear hb2); (try clear hk); (try clear hi); (try clear ho0)) | ((with_reducible refine gate_dst (N := 12) rfl ?_); (try (refine gate_guard (by rfl) ?_; dsimp only)); refine box_event ?hg (N := 12) ?hd (cs := #[.int .i64 0, .int .i64 0, .int .i64 0, .slice none 0 0]) (t := 37) ?hr ?_; (case hd => rfl); (case hg => rfl); (case hr => first | (go_simp; done) | (go_simp; rfl)); intro gb211 hg w126 hbox hb; have n0_ := Aside0.mk (Kd.S_below (by (with_reducible repeat (first | apply Kd.S_alloc | apply Kd.S_drewN | apply Kd.S_drew)); exact HO_194000.out) hb); have n1_ := Aside0.mk (Kd.R_below (by (with_reducible repeat (first | apply Kd.R_alloc | apply Kd.R_drewN | apply Kd.R_drew)); exact HO210.out) hb); have n2_ := Aside0.mk (blk_below (g := gb189) (o := .cells #[.int .i64 a0_0, .int .i64 a0_1, .int .i64 a0_2, .int .i64 a0_3, .int .i64 a0_4, .int .i64 a0_5] 24 (0, 0)) (by (with_reducible repeat (first | refine blk_drewN ?_ _ | refine blk_drew ?_ | refine blk_alloc ?_ _)); exact BK189.out) hb); have n3_ := Aside0.mk (blk_below (g := gb193) (o := .cells #[.slice Ao124 x194000_44.length co124, .slice none 0 0, .int .i64 0, .bool true] 29 (0, 0)) (by (with_reducible repeat (first | refine blk_drewN ?_ _ | refine blk_drew ?_ | refine blk_alloc ?_ _)); exact BK193.out) hb); have n4_ := Aside0.mk (below_step (by repeat (first | (with_reducible first | exact HB.out | apply below_alloc | apply pw_below_drewN | apply below_drew1 | refine below_set ?_ GE189.out | refine below_set ?_ GE193.out) | exact HB.out)) hb); have n5_ := Aside0.mk (hbox); have n6_ := Aside0.mk ((by rw [hg]; exact (below_size (by repeat (first | (with_reducible first | exact HB.out | apply below_alloc | apply pw_below_drewN | apply below_drew1 | refine below_set ?_ GE189.out | refine below_set ?_ GE193.out) | exact HB.out))) : w.heap.size ≤ gb211)); have n7_ := Aside0.mk ((by rw [hg]; exact (below_size (by repeat (first | (with_reducible first | exact HB.out | apply below_alloc | apply pw_below_drewN | apply below_drew1 | refine below_set ?_ GE189.out | refine below_set ?_ GE193.out) | exact HB.out))) : w.heap.size ≤ gb211)); have n8_ := Aside0.mk ((by rw [hg]; exact Nat.ne_of_lt (blk_lt (g := gb189) (o := .cells #[.int .i64 a0_0, .int .i64 a0_1, .int .i64 a0_2, .int .i64 a0_3, .int .i64 a0_4, .int .i64 a0_5] 24 (0, 0)) (by (with_reducible repeat (first | refine blk_drewN ?_ _ | refine blk_drew ?_ | refine blk_alloc ?_ _)); exact BK189.out)) : gb189 ≠ gb211)); have n9_ := Aside0.mk ((by rw [hg]; exact Nat.ne_of_gt (blk_lt (g := gb189) (o := .cells #[.int .i64 a0_0, .int .i64 a0_1, .int .i64 a0_2, .int .i64 a0_3, .int .i64 a0_4, .int .i64 a0_5] 24 (0, 0)) (by (with_reducible repeat (first | refine blk_drewN ?_ _ | refine blk_drew ?_ | refine blk_alloc ?_ _)); exact BK189.out)) : gb211 ≠ gb189)); have n10_ := Aside0.mk ((by rw [hg]; exact Nat.ne_of_lt (blk_lt (g := gb193) (o := .cells #[.slice Ao124 x194000_44.length co124, .slice none 0 0, .int .i64 0, .bool true] 29 (0, 0)) (by (with_reducible repeat (first | refine blk_drewN ?_ _ | refine blk_drew ?_ | refine blk_alloc ?_ _)); exact BK193.out)) : gb193 ≠ gb211)); have n11_ := Aside0.mk ((by rw [hg]; exact Nat.ne_of_gt (blk_lt (g := gb193) (o := .cells #[.slice Ao124 x194000_44.length co124, .slice none 0 0, .int .i64 0, .bool true] 29 (0, 0)) (by (with_reducible repeat (first | refine blk_drewN ?_ _ | refine blk_drew ?_ | refine blk_alloc ?_ _)); exact BK193.out)) : gb211 ≠ gb193)); clear HO_194000; clear HO210; clear BK189; clear BK193; clear HB; have HO_194000 := n0_; have HO210 := n1_; have BK189 := n2_; have BK193 := n3_; have HB := n4_; have BK211 := n5_; have GW211 := n6_; have GE211 := n7_; have NB189_211 := n8_; have NB211_189 := n9_; have NB193_211 := n10_; have NB211_193 := n11_; clear n0_ n1_ n2_ n3_ n4_ n5_ n6_ n7_ n8_ n9_ n10_ n11_; clear hb hbox hg; have hnb127 := NB211_189.out; have hnc127 := NB189_211.out; have hnb128 := NB211_193.out; have hnc128 := NB193_211.out; have hcz129_0 : w126.cell? ⟨gb211, 0, none⟩ = some (.int .i64 0) := (blk_cell BK211.out 0).trans rfl; have hcz129_1 : w126.cell? ⟨gb211, 1, none⟩ = some (.int .i64 0) := (blk_cell BK211.out 1).trans rfl; have hcz129_2 : w126.cell? ⟨gb211, 2, none⟩ = some (.int .i64 0) := (blk_cell BK211.out 2).trans rfl; have hcz129_3 : w126.cell? ⟨gb211, 3, none⟩ = some (.slice none 0 0) := (blk_cell BK211.out 3).trans rfl; have hfz129_0 := blk_frozen BK211.out 0; have hfz129_1 := blk_frozen BK211.out 1; have hfz129_2 := blk_frozen BK211.out 2; have hfz129_3 := blk_frozen BK211.out 3; obtain ⟨Ao130, co130, eo130⟩ := Kd.R_slice HO210.out; subst eo130))
                          go_ret
                          exact ⟨by first | rfl | (simp [HT.out]; done) | (simp [errW_none, errW_some] <;> rfl) | (simp [*, errW_none, errW_some] <;> rfl), by repeat (first | (with_reducible first | exact HB.out | apply below_alloc | apply pw_below_drewN | apply below_drew1 | refine below_set ?_ GE189.out | refine below_set ?_ GE193.out | refine below_set ?_ GE211.out) | exact HB.out)⟩
                      · rw [if_neg c109] at H
                        exact absurd H (by simp)
        · rw [if_neg c10] at H
          exact absurd H (by simp)
end Go.Proofs.Ytadnjibgdpjnlaa.Rp
