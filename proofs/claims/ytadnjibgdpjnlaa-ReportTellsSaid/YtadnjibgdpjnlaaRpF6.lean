/- An own text of this seat: Lean functions with the answers of Go functions, and that the Go code comes to them. Written by a program of this session out of the translation. -/
import Derived.Test.YtadnjibgdpjnlaaRpx0
import Derived.Test.YtadnjibgdpjnlaaRpF12
import Derived.Test.YtadnjibgdpjnlaaRpF18
import Derived.Test.YtadnjibgdpjnlaaRpF18
import Derived.Test.YtadnjibgdpjnlaaRpExu
namespace Go.Proofs.Ytadnjibgdpjnlaa.Rp
open Go.RowKit Go.Proofs.YtadnjibgdpjnlaaW.PrintWords Go.Proofs.YtadnjibgdpjnlaaW.PrintLast Go.Proofs.YtadnjibgdpjnlaaW.PrintMore
open Go.Proofs.YtadnjibgdpjnlaaW.PrintWords renaming below_alloc → gx, pw_below_drewN → gy, below_drew1 → gz, below_size → gA, blk_drewN → gB, blk_alloc → gC, blk_drew → gD, blk_cell → gE, blk_frozen → gF, below_set → gG
open Go.Proofs.YtadnjibgdpjnlaaW.PrintWords.Kd renaming N_alloc → gH, N_drewN → gI, N_drew → gJ, V_alloc → gK, V_drewN → gL, V_drew → gM
open List renaming setIfInBounds_toArray → gN, set_cons_zero → gO, set_cons_succ → gP
theorem q6 {p : Prop} (h : p) : Aside0 p := ⟨h⟩
attribute [local go_sem] max2_int min2_int max_two min_two max_three min_three max_four min_four   -- for this text's walks alone
set_option linter.unusedVariables false
set_option linter.unusedSimpArgs false

/-! ### meddlerlaw17_ReportTells: function 6 -/
mutual
def meddlerlaw17_ReportTells.j0 : Nat → List (List (S24)) → List (List (S31)) → Bool → Bool → Option (Bool)
 | 0, _, _, _, _ => none
 | k + 1, x0, x1, x2, ew => if ew = true then (some true) else (meddlerlaw17_ReportTells.l0 k x0 x1 0 0 ([] : List (S35)) 0 x2 ([] : List (S51)) 0 x2)
def meddlerlaw17_ReportTells.l0 : Nat → List (List (S24)) → List (List (S31)) → Int → Int → List (S35) → Int → Bool → List (S51) → Int → Bool → Option (Bool)
 | 0, _, _, _, _, _, _, _, _, _, _ => none
 | k + 1, x0, x1, x9, aG, x366000, bN, bO, x367000, bP, bQ => if aG < (x0.length : Int) then (if 0 ≤ aG then (if aG < (x1.length : Int) then (meddlerlaw17_ReportTells.l1 k x0 x1 (wrap64 ((wrap64 (x9 + ((rd_L10 x0 aG).length : Int))) + ((rd_L9 x1 aG).length : Int))) aG 0 x366000 bN bO x367000 bP bQ) else (none)) else (none)) else (if x9 > 60 then (some true) else ((report_Of.f k x366000 ([] : List (S115)) bN bO).bind fun bt384 => ((meddlerref17_Of.f k x367000 ([] : List (S115)) bP bQ).bind fun bt390 => ((meddlerref17_Same.f k bt384.1 bt384.2.1 bt384.2.2.1 bt384.2.2.2 bt390.1 bt390.2.1 bt390.2.2.1 bt390.2.2.2).bind fun bk => (if bk = true then ((meddlerlaw17_known.f k).bind fun aX => (some aX)) else (some false))))))
def meddlerlaw17_ReportTells.l1 : Nat → List (List (S24)) → List (List (S31)) → Int → Int → Int → List (S35) → Int → Bool → List (S51) → Int → Bool → Option (Bool)
 | 0, _, _, _, _, _, _, _, _, _, _, _ => none
 | k + 1, x0, x1, x9, aG, bR, x366000, bN, bO, x367000, bP, bQ => if 0 ≤ aG then (if aG < (x1.length : Int) then (if bR < ((rd_L9 x1 aG).length : Int) then (if 0 ≤ bR then (if ((rd_T31 (rd_L9 x1 aG) bR).f5) < 0 then (some true) else (if ((rd_T31 (rd_L9 x1 aG) bR).f5) ≥ 2147483648 then (some true) else (meddlerlaw17_ReportTells.l1 k x0 x1 x9 aG (wrap64 (bR + 1)) x366000 bN bO x367000 bP bQ))) else (none)) else (if aG < (x0.length : Int) then (if x366000.length < 1256584717458 then (if x367000.length < 1256584717458 then (meddlerlaw17_ReportTells.l0 k x0 x1 x9 (wrap64 (aG + 1)) (x366000 ++ [(⟨([] : List (S118)), ([] : List (S115)), rd_L9 x1 aG, rd_L10 x0 aG, 0, true⟩ : S35)]) bN bO (x367000 ++ [(⟨([] : List (S118)), ([] : List (S115)), rd_L9 x1 aG, rd_L10 x0 aG, 0, true⟩ : S51)]) bP bQ) else (none)) else (none)) else (none))) else (none)) else (none)
end
def meddlerlaw17_ReportTells.f (k : Nat) (l0 : List (List (S24))) (l1 : List (List (S31))) (a2 : Bool) : Option (Bool) := if (l0.length : Int) > 6 then (meddlerlaw17_ReportTells.j0 k l0 l1 a2 true) else (meddlerlaw17_ReportTells.j0 k l0 l1 a2 (decide ((l1.length : Int) < (l0.length : Int))))
theorem meddlerlaw17_ReportTells.mono_l : ∀ k, (∀ y0 y1 y2 y3, LeO (meddlerlaw17_ReportTells.j0 k y0 y1 y2 y3) (meddlerlaw17_ReportTells.j0 (k + 1) y0 y1 y2 y3)) ∧ (∀ y0 y1 y2 y3 y4 y5 y6 y7 y8 y9, LeO (meddlerlaw17_ReportTells.l0 k y0 y1 y2 y3 y4 y5 y6 y7 y8 y9) (meddlerlaw17_ReportTells.l0 (k + 1) y0 y1 y2 y3 y4 y5 y6 y7 y8 y9)) ∧ (∀ y0 y1 y2 y3 y4 y5 y6 y7 y8 y9 cK, LeO (meddlerlaw17_ReportTells.l1 k y0 y1 y2 y3 y4 y5 y6 y7 y8 y9 cK) (meddlerlaw17_ReportTells.l1 (k + 1) y0 y1 y2 y3 y4 y5 y6 y7 y8 y9 cK))
 | 0 => ⟨fun _ _ _ _ r h => by simp [meddlerlaw17_ReportTells.j0] at h, fun _ _ _ _ _ _ _ _ _ _ r h => by simp [meddlerlaw17_ReportTells.l0] at h, fun _ _ _ _ _ _ _ _ _ _ _ r h => by simp [meddlerlaw17_ReportTells.l1] at h⟩
 | k + 1 => by
  obtain ⟨be, bf, bg⟩ := meddlerlaw17_ReportTells.mono_l k
  refine ⟨?_, ?_, ?_⟩
  ·intro y0 y1 y2 y3
   unfold meddlerlaw17_ReportTells.j0
   repeat' first
   | (with_reducible exact be _ _ _ _)
   | (with_reducible exact bf _ _ _ _ _ _ _ _ _ _)
   | (with_reducible exact bg _ _ _ _ _ _ _ _ _ _ _)
   | (with_reducible exact meddlerlaw17_known.mono _)
   | (with_reducible exact meddlerref17_Of.mono _ _ _ _ _)
   | (with_reducible exact meddlerref17_Same.mono _ _ _ _ _ _ _ _ _)
   | (with_reducible exact report_Of.mono _ _ _ _ _)
   | (with_reducible exact LeO.refl _)
   | (with_reducible exact LeO.none _)
   | (with_reducible refine LeO.ite ?_ ?_)
   | (with_reducible refine LeO.bind ?_ (fun _ => ?_))
   | exact be _ _ _ _
   | exact bf _ _ _ _ _ _ _ _ _ _
   | exact bg _ _ _ _ _ _ _ _ _ _ _
   | exact meddlerlaw17_known.mono _
   | exact meddlerref17_Of.mono _ _ _ _ _
   | exact meddlerref17_Same.mono _ _ _ _ _ _ _ _ _
   | exact report_Of.mono _ _ _ _ _
   | exact LeO.none _
   | refine LeO.ite ?_ ?_
   | refine LeO.bind ?_ (fun _ => ?_)
  ·intro y0 y1 y2 y3 y4 y5 y6 y7 y8 y9
   unfold meddlerlaw17_ReportTells.l0
   repeat' first
   | (with_reducible exact be _ _ _ _)
   | (with_reducible exact bf _ _ _ _ _ _ _ _ _ _)
   | (with_reducible exact bg _ _ _ _ _ _ _ _ _ _ _)
   | (with_reducible exact meddlerlaw17_known.mono _)
   | (with_reducible exact meddlerref17_Of.mono _ _ _ _ _)
   | (with_reducible exact meddlerref17_Same.mono _ _ _ _ _ _ _ _ _)
   | (with_reducible exact report_Of.mono _ _ _ _ _)
   | (with_reducible exact LeO.refl _)
   | (with_reducible exact LeO.none _)
   | (with_reducible refine LeO.ite ?_ ?_)
   | (with_reducible refine LeO.bind ?_ (fun _ => ?_))
   | exact be _ _ _ _
   | exact bf _ _ _ _ _ _ _ _ _ _
   | exact bg _ _ _ _ _ _ _ _ _ _ _
   | exact meddlerlaw17_known.mono _
   | exact meddlerref17_Of.mono _ _ _ _ _
   | exact meddlerref17_Same.mono _ _ _ _ _ _ _ _ _
   | exact report_Of.mono _ _ _ _ _
   | exact LeO.none _
   | refine LeO.ite ?_ ?_
   | refine LeO.bind ?_ (fun _ => ?_)
  ·intro y0 y1 y2 y3 y4 y5 y6 y7 y8 y9 cK
   unfold meddlerlaw17_ReportTells.l1
   repeat' first
   | (with_reducible exact be _ _ _ _)
   | (with_reducible exact bf _ _ _ _ _ _ _ _ _ _)
   | (with_reducible exact bg _ _ _ _ _ _ _ _ _ _ _)
   | (with_reducible exact meddlerlaw17_known.mono _)
   | (with_reducible exact meddlerref17_Of.mono _ _ _ _ _)
   | (with_reducible exact meddlerref17_Same.mono _ _ _ _ _ _ _ _ _)
   | (with_reducible exact report_Of.mono _ _ _ _ _)
   | (with_reducible exact LeO.refl _)
   | (with_reducible exact LeO.none _)
   | (with_reducible refine LeO.ite ?_ ?_)
   | (with_reducible refine LeO.bind ?_ (fun _ => ?_))
   | exact be _ _ _ _
   | exact bf _ _ _ _ _ _ _ _ _ _
   | exact bg _ _ _ _ _ _ _ _ _ _ _
   | exact meddlerlaw17_known.mono _
   | exact meddlerref17_Of.mono _ _ _ _ _
   | exact meddlerref17_Same.mono _ _ _ _ _ _ _ _ _
   | exact report_Of.mono _ _ _ _ _
   | exact LeO.none _
   | refine LeO.ite ?_ ?_
   | refine LeO.bind ?_ (fun _ => ?_)
theorem meddlerlaw17_ReportTells.mono : ∀ a0 a1 a2 k, LeO (meddlerlaw17_ReportTells.f k a0 a1 a2) (meddlerlaw17_ReportTells.f (k + 1) a0 a1 a2) := by
 intro a0 a1 a2 k
 obtain ⟨be, bf, bg⟩ := meddlerlaw17_ReportTells.mono_l k
 unfold meddlerlaw17_ReportTells.f
 repeat' first
   | (with_reducible exact be _ _ _ _)
   | (with_reducible exact bf _ _ _ _ _ _ _ _ _ _)
   | (with_reducible exact bg _ _ _ _ _ _ _ _ _ _ _)
   | (with_reducible exact meddlerlaw17_known.mono _)
   | (with_reducible exact meddlerref17_Of.mono _ _ _ _ _)
   | (with_reducible exact meddlerref17_Same.mono _ _ _ _ _ _ _ _ _)
   | (with_reducible exact report_Of.mono _ _ _ _ _)
   | (with_reducible exact LeO.refl _)
   | (with_reducible exact LeO.none _)
   | (with_reducible refine LeO.ite ?_ ?_)
   | (with_reducible refine LeO.bind ?_ (fun _ => ?_))
   | exact be _ _ _ _
   | exact bf _ _ _ _ _ _ _ _ _ _
   | exact bg _ _ _ _ _ _ _ _ _ _ _
   | exact meddlerlaw17_known.mono _
   | exact meddlerref17_Of.mono _ _ _ _ _
   | exact meddlerref17_Same.mono _ _ _ _ _ _ _ _ _
   | exact report_Of.mono _ _ _ _ _
   | exact LeO.none _
   | refine LeO.ite ?_ ?_
   | refine LeO.bind ?_ (fun _ => ?_)
def meddlerlaw17_ReportTells.T8 : Bool × List (List Nat × List Nat) := (true, [([], []), ([], []), ([], []), ([1, 2], [1, 2]), ([3], [3]), ([4], [4]), ([0, 5], [0, 5]), ([], []), ([], []), ([7, 8], [7, 8]), ([9], [9]), ([10], [10]), ([6, 11], [6, 11]), ([12, 0, 1, 2, 3, 4, 5, 6, 7, 8, 9, 10, 11, 12], [0, 12])])
def meddlerlaw17_ReportTells.B8 : List Nat := [0, 0, 0, 6, 14, 30, 63, 0, 0, 384, 896, 1920, 4095, 8191]
theorem meddlerlaw17_ReportTells.tab8 : rtab .any (opsOf Try.f6 8) = meddlerlaw17_ReportTells.T8 := by kernel_rfl
theorem meddlerlaw17_ReportTells.bits8 : waitsOk meddlerlaw17_ReportTells.T8.2 meddlerlaw17_ReportTells.B8 = true := by kernel_rfl
def meddlerlaw17_ReportTells.T14 : Bool × List (List Nat × List Nat) := (true, [([], []), ([0], [0]), ([], []), ([], []), ([2, 3], [2, 3]), ([4], [4]), ([], []), ([], []), ([6, 7], [6, 7]), ([8], [8]), ([5, 9], [5, 9]), ([10], [10]), ([1, 11], [1, 11]), ([0, 1, 2, 3, 4, 5, 6, 7, 8, 9, 10, 11, 12], []), ([13, 12, 12, 0, 1, 2, 3, 4, 5, 6, 7, 8, 9, 10, 11, 12], [12, 13])])
def meddlerlaw17_ReportTells.B14 : List Nat := [0, 1, 0, 0, 12, 28, 0, 0, 192, 448, 1020, 2044, 4095, 8191, 16383]
theorem meddlerlaw17_ReportTells.tab14 : rtab .any (opsOf Try.f6 14) = meddlerlaw17_ReportTells.T14 := by kernel_rfl
theorem meddlerlaw17_ReportTells.bits14 : waitsOk meddlerlaw17_ReportTells.T14.2 meddlerlaw17_ReportTells.B14 = true := by kernel_rfl
def meddlerlaw17_ReportTells.T15 : Bool × List (List Nat × List Nat) := (true, [([], []), ([0], [0]), ([], []), ([], []), ([2, 3], [2, 3]), ([4], [4]), ([], []), ([], []), ([6, 7], [6, 7]), ([8], [8]), ([5, 9], [5, 9]), ([10], [10]), ([1, 11], [1, 11]), ([0, 1, 2, 3, 4, 5, 6, 7, 8, 9, 10, 11, 12], []), ([13, 12, 12, 0, 1, 2, 3, 4, 5, 6, 7, 8, 9, 10, 11, 12], [12, 13])])
def meddlerlaw17_ReportTells.B15 : List Nat := [0, 1, 0, 0, 12, 28, 0, 0, 192, 448, 1020, 2044, 4095, 8191, 16383]
theorem meddlerlaw17_ReportTells.tab15 : rtab .any (opsOf Try.f6 15) = meddlerlaw17_ReportTells.T15 := by kernel_rfl
theorem meddlerlaw17_ReportTells.bits15 : waitsOk meddlerlaw17_ReportTells.T15.2 meddlerlaw17_ReportTells.B15 = true := by kernel_rfl
def meddlerlaw17_ReportTells.T18 : Bool × List (List Nat × List Nat) := (true, [([], []), ([0], [0]), ([], []), ([2, 1], [2]), ([1, 3, 3], [1, 3]), ([4, 4], [4]), ([5, 5], [5]), ([5, 6], [5, 6]), ([7, 6, 0, 1, 2, 3, 4, 5, 6, 7], [7])])
def meddlerlaw17_ReportTells.B18 : List Nat := [0, 1, 0, 7, 15, 31, 63, 127, 255]
theorem meddlerlaw17_ReportTells.tab18 : rtab .any (opsOf Try.f6 18) = meddlerlaw17_ReportTells.T18 := by kernel_rfl
theorem meddlerlaw17_ReportTells.bits18 : waitsOk meddlerlaw17_ReportTells.T18.2 meddlerlaw17_ReportTells.B18 = true := by kernel_rfl
set_option maxHeartbeats 8000000 in
set_option maxRecDepth 100000 in
theorem meddlerlaw17_ReportTells.calls (k : Nat) (ah : Nat → Prop) (A0 : Option Addr) (c0 : Nat) (l0 : List (List (S24))) (ai : Nat → Prop) (A1 : Option Addr) (c1 : Nat) (l1 : List (List (S31))) (a2 : Bool) (w : World) (ex : Kd.V (Kd.slice 24 k24) 33 w w.heap.size (fun k_ => ah k_) (.slice A0 l0.length c0) l0) (ey : Kd.V (Kd.slice 31 k31) 25 w w.heap.size (fun k_ => ai k_) (.slice A1 l1.length c1) l1) (h : meddlerlaw17_ReportTells.f k l0 l1 a2 = some true) :
  Calls Try.prog 6 #[.slice A0 l0.length c0, .slice A1 l1.length c1, .bool a2] w fun e w' => e = .returned (.bool true) ∧ Below w.heap.size w w' := by
 have hu29 := Try.underlying29
 have hu50 := Try.underlying50
 have hu35 := Try.underlying35
 have hu51 := Try.underlying51
 have dn := q6 (show Kd.V (Kd.slice 24 k24) 33 w w.heap.size (fun k_ => ((ah k_ ∨ ai k_) ∨ w.heap.size ≤ k_)) (.slice A0 l0.length c0) l0 from Kd.V_mono ex (fun k_ hk => .inl (.inl hk)))
 have dp := q6 (show Kd.V (Kd.slice 31 k31) 25 w w.heap.size (fun k_ => ((ah k_ ∨ ai k_) ∨ w.heap.size ≤ k_)) (.slice A1 l1.length c1) l1 from Kd.V_mono ey (fun k_ hk => .inl (.inr hk)))
 have HB := q6 (Below.refl w.heap.size w)
 have H : (if (l0.length : Int) > 6 then (meddlerlaw17_ReportTells.j0 k l0 l1 a2 true) else (meddlerlaw17_ReportTells.j0 k l0 l1 a2 (decide ((l1.length : Int) < (l0.length : Int))))) = some true := h
 clear h
 have cL := q6 H
 clear H
 go_enter Try.func6, Try.ntmps6
 go_upto_region 1 with (fail)
 go_cut [21] (fun ez wc => ∃ (kq : Nat) (cg : Bool), ez = .bool cg ∧ Aside0 (meddlerlaw17_ReportTells.j0 kq l0 l1 a2 cg = some true) ∧ Aside0 (kq ≤ k) ∧ Aside0 (Kd.V (Kd.slice 24 k24) 33 wc w.heap.size (fun k_ => ((ah k_ ∨ ai k_) ∨ w.heap.size ≤ k_)) (.slice A0 l0.length c0) l0) ∧ Aside0 (Kd.V (Kd.slice 31 k31) 25 wc w.heap.size (fun k_ => ((ah k_ ∨ ai k_) ∨ w.heap.size ≤ k_)) (.slice A1 l1.length c1) l1) ∧ Aside0 (Below w.heap.size w wc))
 case first =>
  have H := cL.out
  clear cL
  by_cases c5 : (l0.length : Int) > 6
  ·rw [if_pos c5] at H
   have bl : decide (6 < (l0.length : Int)) = true := decide_eq_true c5
   have ch : decide (6 < l0.length) = true := decide_eq_true (by omega)
   clear c5
   (first | rw [bl] | (simp only [i64_w, i32_w]; rw [bl]) | skip)
   have H' := q6 H
   clear H
   go_wp2
   go_meet
   case rel => exact ⟨_, (true), (by first | rfl | (simp; done) | (simp [*]; done)), H', ⟨by first | omega | exact Nat.le_refl _⟩, ⟨by (with_reducible repeat (first | apply gK | apply gL | apply gM)); exact dn.out⟩, ⟨by (with_reducible repeat (first | apply gK | apply gL | apply gM)); exact dp.out⟩, ⟨by repeat (first | (with_reducible first | exact HB.out | apply gx | apply gy | apply gz) | exact HB.out)⟩⟩
  ·rw [if_neg c5] at H
   have bl : decide (6 < (l0.length : Int)) = false := decide_eq_false c5
   have ch : decide (6 < l0.length) = false := decide_eq_false (by omega)
   clear c5
   (first | rw [bl] | (simp only [i64_w, i32_w]; rw [bl]) | skip)
   have H' := q6 H
   clear H
   go_wp2
   go_meet
   case rel => exact ⟨_, (decide ((l1.length : Int) < (l0.length : Int))), (by first | rfl | (simp; done) | (simp [*]; done)), H', ⟨by first | omega | exact Nat.le_refl _⟩, ⟨by (with_reducible repeat (first | apply gK | apply gL | apply gM)); exact dn.out⟩, ⟨by (with_reducible repeat (first | apply gK | apply gL | apply gM)); exact dp.out⟩, ⟨by repeat (first | (with_reducible first | exact HB.out | apply gx | apply gy | apply gz) | exact HB.out)⟩⟩
 case rest =>
  clear cL
  try clear c1
  try clear p2
  try clear c5
  try clear bl
  try clear ch
  obtain ⟨kq, cg, rfl, HA, ci, ag, ae, HB⟩ := hcut
  cases kq with
  | zero => exact absurd HA.out (by simp [meddlerlaw17_ReportTells.j0])
  | succ cM =>
   have H := HA.out
   clear HA
   simp only [meddlerlaw17_ReportTells.j0] at H
   by_cases c6 : cg = true
   ·subst c6
    have H1 : (some true) = some true := rfl
    clear H
    have H := H1
    clear H1
    have HT := q6 (Option.some.inj H)
    clear H
    go_wp2
    go_ret
    exact ⟨by first | rfl | (simp [HT.out]; done) | (simp [errW_none, errW_some] <;> rfl) | (simp [*, errW_none, errW_some] <;> rfl), by repeat (first | (with_reducible first | exact HB.out | apply gx | apply gy | apply gz) | exact HB.out)⟩
   ·replace c6 := Bool.eq_false_iff.mpr c6
    subst c6
    have H1 : (meddlerlaw17_ReportTells.l0 cM l0 l1 0 0 ([] : List (S35)) 0 a2 ([] : List (S51)) 0 a2) = some true := by rw [if_neg (show ¬ (false = true) by decide)] at H; exact H
    clear H
    have H := H1
    clear H1
    have H' := q6 H
    clear H
    go_wp2_with (first | ((with_reducible refine gate_dst (N := 7) rfl ?_); (try (refine gate_guard (by rfl) ?_; dsimp only)); refine box_event ?hg (N := 7) ?hd (cs := #[.slice none 0 0, .slice none 0 0, .int .i64 0, .bool false]) (t := 29) ?hr ?_; (case hd => rfl); (case hg => rfl); (case hr => first | (go_simp; done) | (go_simp; rfl)); intro ab hg w7 hbox hb; have an := q6 (Kd.V_below (Kd.V_elderB (by (with_reducible repeat (first | apply gK | apply gL | apply gM)); exact ag.out) ab (Nat.le_of_eq hg.symm)) hb); have ao := q6 (Kd.V_below (Kd.V_elderB (by (with_reducible repeat (first | apply gK | apply gL | apply gM)); exact ae.out) ab (Nat.le_of_eq hg.symm)) hb); have ap := q6 (below_step (by repeat (first | (with_reducible first | exact HB.out | apply gx | apply gy | apply gz) | exact HB.out)) hb); have aq := q6 (hbox); have ar := q6 ((by rw [hg]; exact (gA (by repeat (first | (with_reducible first | exact HB.out | apply gx | apply gy | apply gz) | exact HB.out))) : w.heap.size ≤ ab)); have au := q6 ((by rw [hg]; exact (gA (by repeat (first | (with_reducible first | exact HB.out | apply gx | apply gy | apply gz) | exact HB.out))) : w.heap.size ≤ ab)); clear ag; clear ae; clear HB; have ag := an; have ae := ao; have HB := ap; have ac := aq; have fC := ar; have aA := au; clear an ao ap aq ar au; clear hb hbox hg) | ((with_reducible refine gate_dst (N := 8) rfl ?_); (try (refine gate_guard (by rfl) ?_; dsimp only)); refine box_event ?hg (N := 8) ?hd (cs := #[.slice none 0 0, .slice none 0 0, .int .i64 0, .bool false]) (t := 50) ?hr ?_; (case hd => rfl); (case hg => rfl); (case hr => first | (go_simp; done) | (go_simp; rfl)); intro ad hg w8 hbox hb; have an := q6 (Kd.V_below (Kd.V_elderB (by (with_reducible repeat (first | apply gK | apply gL | apply gM)); exact ag.out) ad (Nat.le_of_eq hg.symm)) hb); have ao := q6 (Kd.V_below (Kd.V_elderB (by (with_reducible repeat (first | apply gK | apply gL | apply gM)); exact ae.out) ad (Nat.le_of_eq hg.symm)) hb); have ap := q6 (blk_below (g := ab) (o := .cells #[.slice none 0 0, .slice none 0 0, .int .i64 0, .bool false] 29 (0, 0)) (by (with_reducible repeat (first | refine gB ?_ _ | refine gD ?_ | refine gC ?_ _)); exact ac.out) hb); have aq := q6 (below_step (by repeat (first | (with_reducible first | exact HB.out | apply gx | apply gy | apply gz | refine gG ?_ aA.out) | exact HB.out)) hb); have ar := q6 (hbox); have au := q6 ((by rw [hg]; exact (gA (by repeat (first | (with_reducible first | exact HB.out | apply gx | apply gy | apply gz | refine gG ?_ aA.out) | exact HB.out))) : w.heap.size ≤ ad)); have av := q6 ((by rw [hg]; exact (gA (by repeat (first | (with_reducible first | exact HB.out | apply gx | apply gy | apply gz | refine gG ?_ aA.out) | exact HB.out))) : w.heap.size ≤ ad)); have ax := q6 ((by rw [hg]; exact Nat.ne_of_lt (blk_lt (g := ab) (o := .cells #[.slice none 0 0, .slice none 0 0, .int .i64 0, .bool false] 29 (0, 0)) (by (with_reducible repeat (first | refine gB ?_ _ | refine gD ?_ | refine gC ?_ _)); exact ac.out)) : ab ≠ ad)); have az := q6 ((by rw [hg]; exact Nat.ne_of_gt (blk_lt (g := ab) (o := .cells #[.slice none 0 0, .slice none 0 0, .int .i64 0, .bool false] 29 (0, 0)) (by (with_reducible repeat (first | refine gB ?_ _ | refine gD ?_ | refine gC ?_ _)); exact ac.out)) : ad ≠ ab)); clear ag; clear ae; clear ac; clear HB; have ag := an; have ae := ao; have ac := ap; have HB := aq; have af := ar; have fD := au; have aC := av; have bm := ax; have bn := az; clear an ao ap aq ar au av ax az; clear hb hbox hg; have fE := bm.out; have fF := bn.out; have dq : w8.cell? ⟨ab, 0, none⟩ = some (.slice none 0 0) := (gE ac.out 0).trans rfl; have dr : w8.cell? ⟨ab, 1, none⟩ = some (.slice none 0 0) := (gE ac.out 1).trans rfl; have dt : w8.cell? ⟨ab, 2, none⟩ = some (.int .i64 0) := (gE ac.out 2).trans rfl; have du : w8.cell? ⟨ab, 3, none⟩ = some (.bool false) := (gE ac.out 3).trans rfl; have dv := gF ac.out 0; have dw := gF ac.out 1; have dx := gF ac.out 2; have dy := gF ac.out 3; have dz : w8.cell? ⟨ad, 0, none⟩ = some (.slice none 0 0) := (gE af.out 0).trans rfl; have dA : w8.cell? ⟨ad, 1, none⟩ = some (.slice none 0 0) := (gE af.out 1).trans rfl; have dB : w8.cell? ⟨ad, 2, none⟩ = some (.int .i64 0) := (gE af.out 2).trans rfl; have dC : w8.cell? ⟨ad, 3, none⟩ = some (.bool false) := (gE af.out 3).trans rfl; have dD := gF af.out 0; have dE := gF af.out 1; have dF := gF af.out 2; have dG := gF af.out 3))
    go_loopg [9, 10] cM (fun kq v9 eA w' => ∃ (bb : Int) (aa : Int) (x366000_2 : List (S35)) (x367000_2 : List (S51)) (aD : Value) (aj : Value), v9 = .int .i64 bb ∧ eA = .int .i64 aa ∧ Aside0 (meddlerlaw17_ReportTells.l0 kq l0 l1 bb aa x366000_2 0 a2 x367000_2 0 a2 = some true) ∧ Aside0 (kq ≤ cM) ∧ Aside0 (Kd.V (Kd.slice 24 k24) 33 w' w.heap.size (fun k_ => ((ah k_ ∨ ai k_) ∨ w.heap.size ≤ k_) ∧ some k_ ≠ (aD : Value).ownBlock ∧ some k_ ≠ (aj : Value).ownBlock ∧ k_ ≠ ab ∧ k_ ≠ ad) (.slice A0 l0.length c0) l0) ∧ Aside0 (Kd.V (Kd.slice 31 k31) 25 w' w.heap.size (fun k_ => ((ah k_ ∨ ai k_) ∨ w.heap.size ≤ k_) ∧ some k_ ≠ (aD : Value).ownBlock ∧ some k_ ≠ (aj : Value).ownBlock ∧ k_ ≠ ab ∧ k_ ≠ ad) (.slice A1 l1.length c1) l1) ∧ Aside0 (Kd.N k35 35 w' w.heap.size (fun k_ => ((ah k_ ∨ ai k_) ∨ w.heap.size ≤ k_) ∧ some k_ ≠ (aj : Value).ownBlock ∧ k_ ≠ ab ∧ k_ ≠ ad) aD x366000_2) ∧ Aside0 (Kd.N k51 51 w' w.heap.size (fun k_ => ((ah k_ ∨ ai k_) ∨ w.heap.size ≤ k_) ∧ some k_ ≠ (aD : Value).ownBlock ∧ k_ ≠ ab ∧ k_ ≠ ad) aj x367000_2) ∧ Aside0 (w'.heap[ab]? = some (.cells #[aD, (.slice none 0 0), .int .i64 0, .bool a2] 29 (0, 0))) ∧ Aside0 (w'.heap[ad]? = some (.cells #[aj, (.slice none 0 0), .int .i64 0, .bool a2] 50 (0, 0))) ∧ Aside0 (Below w.heap.size w w'))
    case atStart => exact ⟨(0), (0), (([] : List (S35))), (([] : List (S51))), (.slice none 0 0), (.slice none 0 0), (by first | rfl | (simp; done) | (simp [*]; done)), (by first | rfl | (simp; done) | (simp [*]; done)), H', ⟨Nat.le_refl _⟩, ⟨by (with_reducible repeat (first | apply gK | apply gL | apply gM)); exact Kd.V_mono (Kd.V_far (p := ⟨ad, 3, none⟩) (Kd.V_far (p := ⟨ad, 2, none⟩) (Kd.V_far (p := ⟨ad, 1, none⟩) (Kd.V_far (p := ⟨ad, 0, none⟩) (Kd.V_far (p := ⟨ab, 3, none⟩) (Kd.V_far (p := ⟨ab, 2, none⟩) (Kd.V_far (p := ⟨ab, 1, none⟩) (Kd.V_far (p := ⟨ab, 0, none⟩) (Kd.V_mono (Kd.V_mono ag.out (fun k_ hk => (⟨hk, hk.1.2⟩ : _ ∧ k_ ≠ ab))) (fun k_ hk => (⟨hk, hk.1.2⟩ : _ ∧ k_ ≠ ad))) (fun _ hk => hk.1.2) (.slice none 0 0)) (fun _ hk => hk.1.2) (.slice none 0 0)) (fun _ hk => hk.1.2) (.int .i64 0)) (fun _ hk => hk.1.2) (.bool a2)) (fun _ hk => hk.2) (.slice none 0 0)) (fun _ hk => hk.2) (.slice none 0 0)) (fun _ hk => hk.2) (.int .i64 0)) (fun _ hk => hk.2) (.bool a2)) (fun _ hk => ⟨hk.1.1.1.1, ⟨(by simp [Value.ownBlock]), ⟨(by simp [Value.ownBlock]), ⟨hk.1.1.1.2, hk.1.1.2⟩⟩⟩⟩)⟩, ⟨by (with_reducible repeat (first | apply gK | apply gL | apply gM)); exact Kd.V_mono (Kd.V_far (p := ⟨ad, 3, none⟩) (Kd.V_far (p := ⟨ad, 2, none⟩) (Kd.V_far (p := ⟨ad, 1, none⟩) (Kd.V_far (p := ⟨ad, 0, none⟩) (Kd.V_far (p := ⟨ab, 3, none⟩) (Kd.V_far (p := ⟨ab, 2, none⟩) (Kd.V_far (p := ⟨ab, 1, none⟩) (Kd.V_far (p := ⟨ab, 0, none⟩) (Kd.V_mono (Kd.V_mono ae.out (fun k_ hk => (⟨hk, hk.1.2⟩ : _ ∧ k_ ≠ ab))) (fun k_ hk => (⟨hk, hk.1.2⟩ : _ ∧ k_ ≠ ad))) (fun _ hk => hk.1.2) (.slice none 0 0)) (fun _ hk => hk.1.2) (.slice none 0 0)) (fun _ hk => hk.1.2) (.int .i64 0)) (fun _ hk => hk.1.2) (.bool a2)) (fun _ hk => hk.2) (.slice none 0 0)) (fun _ hk => hk.2) (.slice none 0 0)) (fun _ hk => hk.2) (.int .i64 0)) (fun _ hk => hk.2) (.bool a2)) (fun _ hk => ⟨hk.1.1.1.1, ⟨(by simp [Value.ownBlock]), ⟨(by simp [Value.ownBlock]), ⟨hk.1.1.1.2, hk.1.1.2⟩⟩⟩⟩)⟩, ⟨by first | exact Kd.S_nil _ _ _ _ _ | exact Kd.N_nil _ _ _ _ _ | exact Kd.V_nil _ _ _ _ _ | exact Kd.Q_nil _ _ _ _ _ | exact Kd.R_nil _ _ _ _ _⟩, ⟨by first | exact Kd.S_nil _ _ _ _ _ | exact Kd.N_nil _ _ _ _ _ | exact Kd.V_nil _ _ _ _ _ | exact Kd.Q_nil _ _ _ _ _ | exact Kd.R_nil _ _ _ _ _⟩, ⟨by (with_reducible repeat (first | refine gB ?_ _ | refine gD ?_ | refine gC ?_ _)); refine blk_far ?_ bm.out _; (with_reducible repeat (first | refine gB ?_ _ | refine gD ?_ | refine gC ?_ _)); refine blk_far ?_ bm.out _; (with_reducible repeat (first | refine gB ?_ _ | refine gD ?_ | refine gC ?_ _)); refine blk_far ?_ bm.out _; (with_reducible repeat (first | refine gB ?_ _ | refine gD ?_ | refine gC ?_ _)); refine blk_far ?_ bm.out _; (with_reducible repeat (first | refine gB ?_ _ | refine gD ?_ | refine gC ?_ _)); refine blk_put (cs := #[.slice none 0 0, .slice none 0 0, .int .i64 0, .bool false]) ?_ 3 _ rfl; (with_reducible repeat (first | refine gB ?_ _ | refine gD ?_ | refine gC ?_ _)); refine blk_put (cs := #[.slice none 0 0, .slice none 0 0, .int .i64 0, .bool false]) ?_ 2 _ rfl; (with_reducible repeat (first | refine gB ?_ _ | refine gD ?_ | refine gC ?_ _)); refine blk_put (cs := #[.slice none 0 0, .slice none 0 0, .int .i64 0, .bool false]) ?_ 1 _ rfl; (with_reducible repeat (first | refine gB ?_ _ | refine gD ?_ | refine gC ?_ _)); refine blk_put (cs := #[.slice none 0 0, .slice none 0 0, .int .i64 0, .bool false]) ?_ 0 _ rfl; (with_reducible repeat (first | refine gB ?_ _ | refine gD ?_ | refine gC ?_ _)); exact ac.out⟩, ⟨by (with_reducible repeat (first | refine gB ?_ _ | refine gD ?_ | refine gC ?_ _)); refine blk_put (cs := #[.slice none 0 0, .slice none 0 0, .int .i64 0, .bool false]) ?_ 3 _ rfl; (with_reducible repeat (first | refine gB ?_ _ | refine gD ?_ | refine gC ?_ _)); refine blk_put (cs := #[.slice none 0 0, .slice none 0 0, .int .i64 0, .bool false]) ?_ 2 _ rfl; (with_reducible repeat (first | refine gB ?_ _ | refine gD ?_ | refine gC ?_ _)); refine blk_put (cs := #[.slice none 0 0, .slice none 0 0, .int .i64 0, .bool false]) ?_ 1 _ rfl; (with_reducible repeat (first | refine gB ?_ _ | refine gD ?_ | refine gC ?_ _)); refine blk_put (cs := #[.slice none 0 0, .slice none 0 0, .int .i64 0, .bool false]) ?_ 0 _ rfl; (with_reducible repeat (first | refine gB ?_ _ | refine gD ?_ | refine gC ?_ _)); refine blk_far ?_ bn.out _; (with_reducible repeat (first | refine gB ?_ _ | refine gD ?_ | refine gC ?_ _)); refine blk_far ?_ bn.out _; (with_reducible repeat (first | refine gB ?_ _ | refine gD ?_ | refine gC ?_ _)); refine blk_far ?_ bn.out _; (with_reducible repeat (first | refine gB ?_ _ | refine gD ?_ | refine gC ?_ _)); refine blk_far ?_ bn.out _; (with_reducible repeat (first | refine gB ?_ _ | refine gD ?_ | refine gC ?_ _)); exact af.out⟩, ⟨by repeat (first | (with_reducible first | exact HB.out | apply gx | apply gy | apply gz | refine gG ?_ aA.out | refine gG ?_ aC.out) | exact HB.out)⟩⟩
    case round =>
     clear H'
     try clear c1
     try clear p2
     try clear c5
     try clear bl
     try clear ch
     try clear c6
     try clear c9
     try clear dq
     try clear dr
     try clear dt
     try clear du
     try clear dz
     try clear dA
     try clear dB
     try clear dC
     try clear dv
     try clear dw
     try clear dx
     try clear dy
     try clear dD
     try clear dE
     try clear dF
     try clear dG
     try clear p2
     obtain ⟨bb, aa, x366000_2, x367000_2, aD, aj, rfl, rfl, HA, cj, ag, ae, aw, ak, ac, af, HB⟩ := hrel
     cases gk with
     | zero => exact absurd HA.out (by simp [meddlerlaw17_ReportTells.l0])
     | succ k2 =>
      have H := HA.out
      clear HA
      simp only [meddlerlaw17_ReportTells.l0] at H
      by_cases bt : aa < (l0.length : Int)
      ·rw [if_pos bt] at H
       have dH : decide (aa < (l0.length : Int)) = true := decide_eq_true bt
       clear bt
       by_cases bS : 0 ≤ aa
       ·rw [if_pos bS] at H
        have eB : decide (0 ≤ aa) = true := decide_eq_true bS
        clear bS
        by_cases bT : aa < (l1.length : Int)
        ·rw [if_pos bT] at H
         have eC : decide (aa < (l1.length : Int)) = true := decide_eq_true bT
         clear bT
         have H' := q6 H
         clear H
         try go_wp2
         have an := q6 (gM ag.out)
         have ao := q6 (gM ae.out)
         have ap := q6 (gJ aw.out)
         have aq := q6 (gJ ak.out)
         have ar := q6 (gD ac.out)
         have au := q6 (gD af.out)
         have av := q6 (gz HB.out)
         clear ag
         clear ae
         clear aw
         clear ak
         clear ac
         clear af
         clear HB
         have ag := an
         have ae := ao
         have aw := ap
         have ak := aq
         have ac := ar
         have af := au
         have HB := av
         clear an ao ap aq ar au av
         have bU : 0 ≤ (aa : Int) := of_decide_eq_true (by first | (with_reducible assumption) | assumption)
         have bV : aa < (l0.length : Int) := of_decide_eq_true (by first | (with_reducible assumption) | assumption)
         obtain ⟨ad367, dI, eD, eE, ck, dJ, dK⟩ := at_L10 (Kd.V_reads' ag.out).2.2 aa bU bV
         cases eE
         obtain ⟨fG, eF, eG, dL⟩ := Kd.V_get ag.out [] aa bU (by first | exact bV | exact of_decide_eq_true (by first | (with_reducible assumption) | assumption) | (have e_ := (Kd.V_reads' ag.out).1; omega))
         obtain ⟨fH, fI, rfl, cN, cO⟩ := Kd.FK_slice_open eG
         have hv367_0 := dL 0 _ rfl
         rw [Nat.add_zero, show ((Kd.slice 24 k24)).sz = 1 from rfl, Nat.mul_one] at hv367_0
         replace hv367_0 := Option.some.inj (hv367_0.symm.trans ck)
         injection hv367_0 with hva_ hvn_ hvc_
         rw [hva_] at cO
         rw [hvc_] at cN
         have eH := q6 (show Kd.V k24 24 _ w.heap.size _ _ (rd_L10 l0 aa) from Kd.V_mk cN cO)
         clear hva_ hvn_ hvc_ cO cN
         clear dL eF
         have bc := q6 dK
         have fJ := q6 dJ
         clear dK dJ
         replace bU := eq_true bU
         replace bV := eq_true bV
         have bW : 0 ≤ (aa : Int) := of_decide_eq_true (by first | (with_reducible assumption) | assumption)
         have bX : aa < (l1.length : Int) := of_decide_eq_true (by first | (with_reducible assumption) | assumption)
         obtain ⟨ad368, dM, eI, eJ, cl, dN, dO⟩ := at_L9 (Kd.V_reads' ae.out).2.2 aa bW bX
         cases eJ
         obtain ⟨fK, eK, eL, dP⟩ := Kd.V_get ae.out [] aa bW (by first | exact bX | exact of_decide_eq_true (by first | (with_reducible assumption) | assumption) | (have e_ := (Kd.V_reads' ae.out).1; omega))
         obtain ⟨fL, fM, rfl, cP, cQ⟩ := Kd.FK_slice_open eL
         have hv368_0 := dP 0 _ rfl
         rw [Nat.add_zero, show ((Kd.slice 31 k31)).sz = 1 from rfl, Nat.mul_one] at hv368_0
         replace hv368_0 := Option.some.inj (hv368_0.symm.trans cl)
         injection hv368_0 with hva_ hvn_ hvc_
         rw [hva_] at cQ
         rw [hvc_] at cP
         have eM := q6 (show Kd.V k31 31 _ w.heap.size _ _ (rd_L9 l1 aa) from Kd.V_mk cP cQ)
         clear hva_ hvn_ hvc_ cQ cP
         clear dP eK
         have bd := q6 dO
         have fN := q6 dN
         clear dO dN
         replace bW := eq_true bW
         replace bX := eq_true bX
         refine start_ (n := 14) (S := fun w' => w'.cell? (ad367.add (aa).toNat) = some (.slice dI (rd_L10 l0 aa).length eD) ∧ w'.cell? (ad368.add (aa).toNat) = some (.slice dM (rd_L9 l1 aa).length eI)) (ds := []) #[false, false, false, false, false, false, false, false, false, false, false, false, false, false] (by kernel_rfl) rfl rfl ⟨ck, cl⟩ (fun hHeld => ?_); refine with_tabW meddlerlaw17_ReportTells.tab8 meddlerlaw17_ReportTells.bits8 (fun HT_ HW_ => ?_)
         generalize wr.drew = fO at ag ae aw ak ac af HB eH eM bc bd ck cl hHeld ⊢
         refine pure_ (i := 0) (N := some 32) (v := ?_) (a' := ?_) #[true, false, false, false, false, false, false, false, false, false, false, false, false, false] rfl rfl (any_of HT_.out (by kernel_rfl)) (fun _ _ _ h => h) (Or.inl ⟨by rfl, ?_⟩) ?_ ?_
         rotate_left
         ·intro w'
          go_simp
          with_reducible rfl
         rotate_left
         ·simp only [Act.put, gN, gO, gP, i64_w, i32_w]
          rfl
         refine pure_ (i := 1) (N := some 33) (v := ?_) (a' := ?_) #[true, true, false, false, false, false, false, false, false, false, false, false, false, false] rfl rfl (any_of HT_.out (by kernel_rfl)) (fun _ _ _ h => h) (Or.inl ⟨by rfl, ?_⟩) ?_ ?_
         rotate_left
         ·intro w'
          go_simp
          with_reducible rfl
         rotate_left
         ·simp only [Act.put, gN, gO, gP, i64_w, i32_w]
          rfl
         refine pure_ (i := 2) (N := some 34) (v := ?_) (a' := ?_) #[true, true, true, false, false, false, false, false, false, false, false, false, false, false] rfl rfl (any_of HT_.out (by kernel_rfl)) (fun _ _ _ h => h) (Or.inl ⟨by rfl, ?_⟩) ?_ ?_
         rotate_left
         ·intro w'
          go_simp
          with_reducible rfl
         rotate_left
         ·simp only [Act.put, gN, gO, gP, i64_w, i32_w]
          rfl
         refine pure_ (i := 3) (N := some 35) (v := ?_) (a' := ?_) #[true, true, true, true, false, false, false, false, false, false, false, false, false, false] rfl rfl (any_of HT_.out (by kernel_rfl)) (fun _ _ _ h => h) (Or.inl ⟨by rfl, ?_⟩) ?_ ?_
         rotate_left
         ·intro w'
          go_simp
          with_reducible rfl
         rotate_left
         ·simp only [Act.put, gN, gO, gP, i64_w, i32_w]
          rfl
         refine pure_ (i := 7) (N := some 39) (v := ?_) (a' := ?_) #[true, true, true, true, false, false, false, true, false, false, false, false, false, false] rfl rfl (any_of HT_.out (by kernel_rfl)) (fun _ _ _ h => h) (Or.inl ⟨by rfl, ?_⟩) ?_ ?_
         rotate_left
         ·intro w'
          go_simp
          with_reducible rfl
         rotate_left
         ·simp only [Act.put, gN, gO, gP, i64_w, i32_w]
          rfl
         refine pure_ (i := 8) (N := some 40) (v := ?_) (a' := ?_) #[true, true, true, true, false, false, false, true, true, false, false, false, false, false] rfl rfl (any_of HT_.out (by kernel_rfl)) (fun _ _ _ h => h) (Or.inl ⟨by rfl, ?_⟩) ?_ ?_
         rotate_left
         ·intro w'
          go_simp
          with_reducible rfl
         rotate_left
         ·simp only [Act.put, gN, gO, gP, i64_w, i32_w]
          rfl
         refine pure_ (i := 9) (N := some 41) (v := ?_) (a' := ?_) #[true, true, true, true, false, false, false, true, true, true, false, false, false, false] rfl rfl (any_of HT_.out (by kernel_rfl)) (fun _ _ _ h => h) (Or.inl ⟨by rfl, ?_⟩) ?_ ?_
         rotate_left
         ·intro w'
          go_simp
          with_reducible rfl
         rotate_left
         ·simp only [Act.put, gN, gO, gP, i64_w, i32_w]
          rfl
         refine take_ (i := 4) (N := some 36) (v := ?_) (a' := ?_) #[true, true, true, true, true, false, false, true, true, true, false, false, false, false] rfl rfl (take_ofW HT_.out HW_.out (by kernel_rfl)) (fun _ _ _ h => h) (Or.inl ⟨by rfl, ?_⟩) hHeld ?_ ?_
         rotate_left
         ·rintro w' ⟨s0, s1⟩
          go_simp
          with_reducible rfl
         rotate_left
         ·simp only [Act.put, gN, gO, gP, i64_w, i32_w]
          rfl
         refine pure_ (i := 5) (N := some 37) (v := ?_) (a' := ?_) #[true, true, true, true, true, true, false, true, true, true, false, false, false, false] rfl rfl (any_of HT_.out (by kernel_rfl)) (fun _ _ _ h => h) (Or.inl ⟨by rfl, ?_⟩) ?_ ?_
         rotate_left
         ·intro w'
          go_simp
          with_reducible rfl
         rotate_left
         ·simp only [Act.put, gN, gO, gP, i64_w, i32_w]
          rfl
         refine pure_ (i := 6) (N := some 38) (v := ?_) (a' := ?_) #[true, true, true, true, true, true, true, true, true, true, false, false, false, false] rfl rfl (any_of HT_.out (by kernel_rfl)) (fun _ _ _ h => h) (Or.inl ⟨by rfl, ?_⟩) ?_ ?_
         rotate_left
         ·intro w'
          go_simp
          with_reducible rfl
         rotate_left
         ·simp only [Act.put, gN, gO, gP, i64_w, i32_w]
          rfl
         refine take_ (i := 10) (N := some 42) (v := ?_) (a' := ?_) #[true, true, true, true, true, true, true, true, true, true, true, false, false, false] rfl rfl (take_ofW HT_.out HW_.out (by kernel_rfl)) (fun _ _ _ h => h) (Or.inl ⟨by rfl, ?_⟩) hHeld ?_ ?_
         rotate_left
         ·rintro w' ⟨s0, s1⟩
          go_simp
          with_reducible rfl
         rotate_left
         ·simp only [Act.put, gN, gO, gP, i64_w, i32_w]
          rfl
         refine pure_ (i := 11) (N := some 43) (v := ?_) (a' := ?_) #[true, true, true, true, true, true, true, true, true, true, true, true, false, false] rfl rfl (any_of HT_.out (by kernel_rfl)) (fun _ _ _ h => h) (Or.inl ⟨by rfl, ?_⟩) ?_ ?_
         rotate_left
         ·intro w'
          go_simp
          with_reducible rfl
         rotate_left
         ·simp only [Act.put, gN, gO, gP, i64_w, i32_w]
          rfl
         refine pure_ (i := 12) (N := some 44) (v := ?_) (a' := ?_) #[true, true, true, true, true, true, true, true, true, true, true, true, true, false] rfl rfl (any_of HT_.out (by kernel_rfl)) (fun _ _ _ h => h) (Or.inl ⟨by rfl, ?_⟩) ?_ ?_
         rotate_left
         ·intro w'
          go_simp
          with_reducible rfl
         rotate_left
         ·simp only [Act.put, gN, gO, gP, i64_w, i32_w]
          rfl
         refine pure_ (i := 13) (N := some 9) (v := ?_) (a' := ?_) #[true, true, true, true, true, true, true, true, true, true, true, true, true, true] rfl rfl (any_of HT_.out (by kernel_rfl)) (fun _ _ _ h => h) (Or.inl ⟨by rfl, ?_⟩) ?_ ?_
         rotate_left
         ·intro w'
          go_simp
          with_reducible rfl
         rotate_left
         ·simp only [Act.put, gN, gO, gP, i64_w, i32_w]
          rfl
         refine done_ (done_of HT_.out (by kernel_rfl)) ?_
         try go_wp2
         go_loopg [11] k2 (fun kq eN w' => ∃ (ay : Int), eN = .int .i64 ay ∧ Aside0 (meddlerlaw17_ReportTells.l1 kq l0 l1 (wrap64 ((wrap64 (bb + ((rd_L10 l0 aa).length : Int))) + ((rd_L9 l1 aa).length : Int))) aa ay x366000_2 0 a2 x367000_2 0 a2 = some true) ∧ Aside0 (kq ≤ k2) ∧ Aside0 (Kd.V (Kd.slice 24 k24) 33 w' w.heap.size (fun k_ => ((ah k_ ∨ ai k_) ∨ w.heap.size ≤ k_) ∧ some k_ ≠ (aD : Value).ownBlock ∧ some k_ ≠ (aj : Value).ownBlock ∧ k_ ≠ ab ∧ k_ ≠ ad) (.slice (some ad367) l0.length c0) l0) ∧ Aside0 (Kd.V (Kd.slice 31 k31) 25 w' w.heap.size (fun k_ => ((ah k_ ∨ ai k_) ∨ w.heap.size ≤ k_) ∧ some k_ ≠ (aD : Value).ownBlock ∧ some k_ ≠ (aj : Value).ownBlock ∧ k_ ≠ ab ∧ k_ ≠ ad) (.slice (some ad368) l1.length c1) l1) ∧ Aside0 (Kd.N k35 35 w' w.heap.size (fun k_ => ((ah k_ ∨ ai k_) ∨ w.heap.size ≤ k_) ∧ some k_ ≠ (aj : Value).ownBlock ∧ k_ ≠ ab ∧ k_ ≠ ad) aD x366000_2) ∧ Aside0 (Kd.N k51 51 w' w.heap.size (fun k_ => ((ah k_ ∨ ai k_) ∨ w.heap.size ≤ k_) ∧ some k_ ≠ (aD : Value).ownBlock ∧ k_ ≠ ab ∧ k_ ≠ ad) aj x367000_2) ∧ Aside0 (w'.heap[ab]? = some (.cells #[aD, (.slice none 0 0), .int .i64 0, .bool a2] 29 (0, 0))) ∧ Aside0 (w'.heap[ad]? = some (.cells #[aj, (.slice none 0 0), .int .i64 0, .bool a2] 50 (0, 0))) ∧ Aside0 (Kd.C k24 w' dI (rd_L10 l0 aa).length (rd_L10 l0 aa)) ∧ Aside0 (Kd.C k31 w' dM (rd_L9 l1 aa).length (rd_L9 l1 aa)) ∧ Aside0 (Below w.heap.size w w'))
         case atStart => exact ⟨(0), (by first | rfl | (simp; done) | (simp [*]; done)), H', ⟨Nat.le_refl _⟩, ⟨by (with_reducible repeat (first | apply gK | apply gL | apply gM)); exact ag.out⟩, ⟨by (with_reducible repeat (first | apply gK | apply gL | apply gM)); exact ae.out⟩, ⟨by (with_reducible repeat (first | apply gH | apply gI | apply gJ)); exact aw.out⟩, ⟨by (with_reducible repeat (first | apply gH | apply gI | apply gJ)); exact ak.out⟩, ⟨by (with_reducible repeat (first | refine gB ?_ _ | refine gD ?_ | refine gC ?_ _)); exact ac.out⟩, ⟨by (with_reducible repeat (first | refine gB ?_ _ | refine gD ?_ | refine gC ?_ _)); exact af.out⟩, ⟨by repeat (first | (with_reducible exact bc.out) | (with_reducible refine Kd.C_alloc ?_ _) | (with_reducible refine Kd.C_drewN ?_ _) | (with_reducible refine Kd.C_drew ?_) | exact bc.out)⟩, ⟨by repeat (first | (with_reducible exact bd.out) | (with_reducible refine Kd.C_alloc ?_ _) | (with_reducible refine Kd.C_drewN ?_ _) | (with_reducible refine Kd.C_drew ?_) | exact bd.out)⟩, ⟨by repeat (first | (with_reducible first | exact HB.out | apply gx | apply gy | apply gz | refine gG ?_ aA.out | refine gG ?_ aC.out) | exact HB.out)⟩⟩
         case round =>
          clear H'
          try clear c1
          try clear p2
          try clear c3
          try clear p3
          try clear q3
          try clear fP
          try clear c5
          try clear bl
          try clear ch
          try clear c6
          try clear p6
          try clear c9
          try clear bt
          try clear dH
          try clear bS
          try clear eB
          try clear bT
          try clear eC
          try clear dq
          try clear dr
          try clear dt
          try clear du
          try clear dz
          try clear dA
          try clear dB
          try clear dC
          try clear dv
          try clear dw
          try clear dx
          try clear dy
          try clear dD
          try clear dE
          try clear dF
          try clear dG
          try clear ck
          try clear cl
          try clear p2
          try clear bU
          try clear bW
          try clear bV
          try clear bX
          obtain ⟨ay, rfl, HA, cm, ag, ae, aw, ak, ac, af, bc, bd, HB⟩ := hrel
          cases gk with
          | zero => exact absurd HA.out (by simp [meddlerlaw17_ReportTells.l1])
          | succ k3 =>
           have H := HA.out
           clear HA
           simp only [meddlerlaw17_ReportTells.l1] at H
           by_cases cn : 0 ≤ aa
           ·rw [if_pos cn] at H
            have fQ : decide (0 ≤ aa) = true := decide_eq_true cn
            clear cn
            by_cases co : aa < (l1.length : Int)
            ·rw [if_pos co] at H
             have fR : decide (aa < (l1.length : Int)) = true := decide_eq_true co
             clear co
             by_cases bF : ay < ((rd_L9 l1 aa).length : Int)
             ·rw [if_pos bF] at H
              have eO : decide (ay < ((rd_L9 l1 aa).length : Int)) = true := decide_eq_true bF
              clear bF
              by_cases cp : 0 ≤ ay
              ·rw [if_pos cp] at H
               have fS : decide (0 ≤ ay) = true := decide_eq_true cp
               clear cp
               by_cases bG : ((rd_T31 (rd_L9 l1 aa) ay).f5) < 0
               ·rw [if_pos bG] at H
                have eP : decide (((rd_T31 (rd_L9 l1 aa) ay).f5) < 0) = true := decide_eq_true bG
                clear bG
                have HT := q6 (Option.some.inj H)
                clear H
                have aH : 0 ≤ (aa : Int) := of_decide_eq_true (by first | (with_reducible assumption) | assumption)
                have aI : aa < (l1.length : Int) := of_decide_eq_true (by first | (with_reducible assumption) | assumption)
                obtain ⟨bu, cq, cr, bv, hx369_0, aY, aZ⟩ := at_L9 (Kd.V_reads' ae.out).2.2 aa aH aI
                obtain rfl : ad368 = bu := (by injection bv)
                obtain ⟨cR, bw, bx, a3⟩ := Kd.V_get ae.out [] aa aH (by first | exact aI | exact of_decide_eq_true (by first | (with_reducible assumption) | assumption) | (have e_ := (Kd.V_reads' ae.out).1; omega))
                obtain ⟨cS, cT, rfl, aM, aN⟩ := Kd.FK_slice_open bx
                have hv369_0 := a3 0 _ rfl
                rw [Nat.add_zero, show ((Kd.slice 31 k31)).sz = 1 from rfl, Nat.mul_one] at hv369_0
                replace hv369_0 := Option.some.inj (hv369_0.symm.trans hx369_0)
                injection hv369_0 with hva_ hvn_ hvc_
                rw [hva_] at aN
                rw [hvc_] at aM
                have aE := q6 (show Kd.V k31 31 _ w.heap.size _ _ (rd_L9 l1 aa) from Kd.V_mk aM aN)
                clear hva_ hvn_ hvc_ aN aM
                clear a3 bw
                have bz := q6 aZ
                have cU := q6 aY
                clear aZ aY
                replace aH := eq_true aH
                replace aI := eq_true aI
                have aR : 0 ≤ (aa : Int) := of_decide_eq_true (by first | (with_reducible assumption) | assumption)
                have aT : aa < (l1.length : Int) := of_decide_eq_true (by first | (with_reducible assumption) | assumption)
                obtain ⟨bY, dQ, dR, bZ, bo, bp, bq⟩ := at_L9 (Kd.V_reads' ae.out).2.2 aa aR aT
                obtain rfl : ad368 = bY := (by injection bZ)
                obtain ⟨dS, b0, b1, br⟩ := Kd.V_get ae.out [] aa aR (by first | exact aT | exact of_decide_eq_true (by first | (with_reducible assumption) | assumption) | (have e_ := (Kd.V_reads' ae.out).1; omega))
                obtain ⟨dT, dU, rfl, a4, a5⟩ := Kd.FK_slice_open b1
                have hv370_0 := br 0 _ rfl
                rw [Nat.add_zero, show ((Kd.slice 31 k31)).sz = 1 from rfl, Nat.mul_one] at hv370_0
                replace hv370_0 := Option.some.inj (hv370_0.symm.trans bo)
                injection hv370_0 with hva_ hvn_ hvc_
                rw [hva_] at a5
                rw [hvc_] at a4
                have dV := q6 (show Kd.V k31 31 _ w.heap.size _ _ (rd_L9 l1 aa) from Kd.V_mk a4 a5)
                clear hva_ hvn_ hvc_ a5 a4
                clear br b0
                have bs := q6 bq
                have dW := q6 bp
                clear bq bp
                replace aR := eq_true aR
                replace aT := eq_true aT
                have ea_ := Option.some.inj (hx369_0.symm.trans bo)
                injection ea_ with ea_ en_ ec_
                subst ea_
                subst ec_
                clear en_
                have a6 : 0 ≤ (ay : Int) := of_decide_eq_true (by first | (with_reducible assumption) | assumption)
                have a7 : ay < ((rd_L9 l1 aa).length : Int) := of_decide_eq_true (by first | (with_reducible assumption) | assumption)
                obtain ⟨dX, b2, dY, dZ, d0, d1, d2, d3⟩ := at_T31 (by repeat (first | (with_reducible exact bs.out) | (with_reducible refine Kd.C_alloc ?_ _) | (with_reducible refine Kd.C_drewN ?_ _) | (with_reducible refine Kd.C_drew ?_) | exact bs.out)) ay a6 a7
                cases b2
                replace a6 := eq_true a6
                replace a7 := eq_true a7
                go_wp2
                go_ret
                exact ⟨by first | rfl | (simp [HT.out]; done) | (simp [errW_none, errW_some] <;> rfl) | (simp [*, errW_none, errW_some] <;> rfl), by repeat (first | (with_reducible first | exact HB.out | apply gx | apply gy | apply gz | refine gG ?_ aA.out | refine gG ?_ aC.out) | exact HB.out)⟩
               ·rw [if_neg bG] at H
                have eP : decide (((rd_T31 (rd_L9 l1 aa) ay).f5) < 0) = false := decide_eq_false bG
                clear bG
                by_cases bH : ((rd_T31 (rd_L9 l1 aa) ay).f5) ≥ 2147483648
                ·rw [if_pos bH] at H
                 have eQ : decide (2147483648 ≤ ((rd_T31 (rd_L9 l1 aa) ay).f5)) = true := decide_eq_true bH
                 clear bH
                 have HT := q6 (Option.some.inj H)
                 clear H
                 have aH : 0 ≤ (aa : Int) := of_decide_eq_true (by first | (with_reducible assumption) | assumption)
                 have aI : aa < (l1.length : Int) := of_decide_eq_true (by first | (with_reducible assumption) | assumption)
                 obtain ⟨bu, cq, cr, bv, hx369_0, aY, aZ⟩ := at_L9 (Kd.V_reads' ae.out).2.2 aa aH aI
                 obtain rfl : ad368 = bu := (by injection bv)
                 obtain ⟨cR, bw, bx, a3⟩ := Kd.V_get ae.out [] aa aH (by first | exact aI | exact of_decide_eq_true (by first | (with_reducible assumption) | assumption) | (have e_ := (Kd.V_reads' ae.out).1; omega))
                 obtain ⟨cS, cT, rfl, aM, aN⟩ := Kd.FK_slice_open bx
                 have hv369_0 := a3 0 _ rfl
                 rw [Nat.add_zero, show ((Kd.slice 31 k31)).sz = 1 from rfl, Nat.mul_one] at hv369_0
                 replace hv369_0 := Option.some.inj (hv369_0.symm.trans hx369_0)
                 injection hv369_0 with hva_ hvn_ hvc_
                 rw [hva_] at aN
                 rw [hvc_] at aM
                 have aE := q6 (show Kd.V k31 31 _ w.heap.size _ _ (rd_L9 l1 aa) from Kd.V_mk aM aN)
                 clear hva_ hvn_ hvc_ aN aM
                 clear a3 bw
                 have bz := q6 aZ
                 have cU := q6 aY
                 clear aZ aY
                 replace aH := eq_true aH
                 replace aI := eq_true aI
                 have aR : 0 ≤ (aa : Int) := of_decide_eq_true (by first | (with_reducible assumption) | assumption)
                 have aT : aa < (l1.length : Int) := of_decide_eq_true (by first | (with_reducible assumption) | assumption)
                 obtain ⟨bY, dQ, dR, bZ, bo, bp, bq⟩ := at_L9 (Kd.V_reads' ae.out).2.2 aa aR aT
                 obtain rfl : ad368 = bY := (by injection bZ)
                 obtain ⟨dS, b0, b1, br⟩ := Kd.V_get ae.out [] aa aR (by first | exact aT | exact of_decide_eq_true (by first | (with_reducible assumption) | assumption) | (have e_ := (Kd.V_reads' ae.out).1; omega))
                 obtain ⟨dT, dU, rfl, a4, a5⟩ := Kd.FK_slice_open b1
                 have hv370_0 := br 0 _ rfl
                 rw [Nat.add_zero, show ((Kd.slice 31 k31)).sz = 1 from rfl, Nat.mul_one] at hv370_0
                 replace hv370_0 := Option.some.inj (hv370_0.symm.trans bo)
                 injection hv370_0 with hva_ hvn_ hvc_
                 rw [hva_] at a5
                 rw [hvc_] at a4
                 have dV := q6 (show Kd.V k31 31 _ w.heap.size _ _ (rd_L9 l1 aa) from Kd.V_mk a4 a5)
                 clear hva_ hvn_ hvc_ a5 a4
                 clear br b0
                 have bs := q6 bq
                 have dW := q6 bp
                 clear bq bp
                 replace aR := eq_true aR
                 replace aT := eq_true aT
                 have ea_ := Option.some.inj (hx369_0.symm.trans bo)
                 injection ea_ with ea_ en_ ec_
                 subst ea_
                 subst ec_
                 clear en_
                 have a6 : 0 ≤ (ay : Int) := of_decide_eq_true (by first | (with_reducible assumption) | assumption)
                 have a7 : ay < ((rd_L9 l1 aa).length : Int) := of_decide_eq_true (by first | (with_reducible assumption) | assumption)
                 obtain ⟨dX, b2, dY, dZ, d0, d1, d2, d3⟩ := at_T31 (by repeat (first | (with_reducible exact bs.out) | (with_reducible refine Kd.C_alloc ?_ _) | (with_reducible refine Kd.C_drewN ?_ _) | (with_reducible refine Kd.C_drew ?_) | exact bs.out)) ay a6 a7
                 cases b2
                 replace a6 := eq_true a6
                 replace a7 := eq_true a7
                 have bh : 0 ≤ (aa : Int) := of_decide_eq_true (by first | (with_reducible assumption) | assumption)
                 have bi : aa < (l1.length : Int) := of_decide_eq_true (by first | (with_reducible assumption) | assumption)
                 obtain ⟨cV, eR, eS, cW, b3, b4, b5⟩ := at_L9 (Kd.V_reads' ae.out).2.2 aa bh bi
                 obtain rfl : ad368 = cV := (by injection cW)
                 obtain ⟨eT, cX, cY, b6⟩ := Kd.V_get ae.out [] aa bh (by first | exact bi | exact of_decide_eq_true (by first | (with_reducible assumption) | assumption) | (have e_ := (Kd.V_reads' ae.out).1; omega))
                 obtain ⟨eU, eV, rfl, bA, bB⟩ := Kd.FK_slice_open cY
                 have hv372_0 := b6 0 _ rfl
                 rw [Nat.add_zero, show ((Kd.slice 31 k31)).sz = 1 from rfl, Nat.mul_one] at hv372_0
                 replace hv372_0 := Option.some.inj (hv372_0.symm.trans b3)
                 injection hv372_0 with hva_ hvn_ hvc_
                 rw [hva_] at bB
                 rw [hvc_] at bA
                 have eW := q6 (show Kd.V k31 31 _ w.heap.size _ _ (rd_L9 l1 aa) from Kd.V_mk bA bB)
                 clear hva_ hvn_ hvc_ bB bA
                 clear b6 cX
                 have b7 := q6 b5
                 have eX := q6 b4
                 clear b5 b4
                 replace bh := eq_true bh
                 replace bi := eq_true bi
                 have ea_ := Option.some.inj (hx369_0.symm.trans b3)
                 injection ea_ with ea_ en_ ec_
                 subst ea_
                 subst ec_
                 clear en_
                 have bC : 0 ≤ (ay : Int) := of_decide_eq_true (by first | (with_reducible assumption) | assumption)
                 have bD : ay < ((rd_L9 l1 aa).length : Int) := of_decide_eq_true (by first | (with_reducible assumption) | assumption)
                 obtain ⟨eY, cZ, eZ, e0, e1, e2, e3, e4⟩ := at_T31 (by repeat (first | (with_reducible exact b7.out) | (with_reducible refine Kd.C_alloc ?_ _) | (with_reducible refine Kd.C_drewN ?_ _) | (with_reducible refine Kd.C_drew ?_) | exact b7.out)) ay bC bD
                 cases cZ
                 replace bC := eq_true bC
                 replace bD := eq_true bD
                 go_wp2
                 go_ret
                 exact ⟨by first | rfl | (simp [HT.out]; done) | (simp [errW_none, errW_some] <;> rfl) | (simp [*, errW_none, errW_some] <;> rfl), by repeat (first | (with_reducible first | exact HB.out | apply gx | apply gy | apply gz | refine gG ?_ aA.out | refine gG ?_ aC.out) | exact HB.out)⟩
                ·rw [if_neg bH] at H
                 have eQ : decide (2147483648 ≤ ((rd_T31 (rd_L9 l1 aa) ay).f5)) = false := decide_eq_false bH
                 clear bH
                 have H' := q6 H
                 clear H
                 have aH : 0 ≤ (aa : Int) := of_decide_eq_true (by first | (with_reducible assumption) | assumption)
                 have aI : aa < (l1.length : Int) := of_decide_eq_true (by first | (with_reducible assumption) | assumption)
                 obtain ⟨bu, cq, cr, bv, hx369_0, aY, aZ⟩ := at_L9 (Kd.V_reads' ae.out).2.2 aa aH aI
                 obtain rfl : ad368 = bu := (by injection bv)
                 obtain ⟨cR, bw, bx, a3⟩ := Kd.V_get ae.out [] aa aH (by first | exact aI | exact of_decide_eq_true (by first | (with_reducible assumption) | assumption) | (have e_ := (Kd.V_reads' ae.out).1; omega))
                 obtain ⟨cS, cT, rfl, aM, aN⟩ := Kd.FK_slice_open bx
                 have hv369_0 := a3 0 _ rfl
                 rw [Nat.add_zero, show ((Kd.slice 31 k31)).sz = 1 from rfl, Nat.mul_one] at hv369_0
                 replace hv369_0 := Option.some.inj (hv369_0.symm.trans hx369_0)
                 injection hv369_0 with hva_ hvn_ hvc_
                 rw [hva_] at aN
                 rw [hvc_] at aM
                 have aE := q6 (show Kd.V k31 31 _ w.heap.size _ _ (rd_L9 l1 aa) from Kd.V_mk aM aN)
                 clear hva_ hvn_ hvc_ aN aM
                 clear a3 bw
                 have bz := q6 aZ
                 have cU := q6 aY
                 clear aZ aY
                 replace aH := eq_true aH
                 replace aI := eq_true aI
                 have aR : 0 ≤ (aa : Int) := of_decide_eq_true (by first | (with_reducible assumption) | assumption)
                 have aT : aa < (l1.length : Int) := of_decide_eq_true (by first | (with_reducible assumption) | assumption)
                 obtain ⟨bY, dQ, dR, bZ, bo, bp, bq⟩ := at_L9 (Kd.V_reads' ae.out).2.2 aa aR aT
                 obtain rfl : ad368 = bY := (by injection bZ)
                 obtain ⟨dS, b0, b1, br⟩ := Kd.V_get ae.out [] aa aR (by first | exact aT | exact of_decide_eq_true (by first | (with_reducible assumption) | assumption) | (have e_ := (Kd.V_reads' ae.out).1; omega))
                 obtain ⟨dT, dU, rfl, a4, a5⟩ := Kd.FK_slice_open b1
                 have hv370_0 := br 0 _ rfl
                 rw [Nat.add_zero, show ((Kd.slice 31 k31)).sz = 1 from rfl, Nat.mul_one] at hv370_0
                 replace hv370_0 := Option.some.inj (hv370_0.symm.trans bo)
                 injection hv370_0 with hva_ hvn_ hvc_
                 rw [hva_] at a5
                 rw [hvc_] at a4
                 have dV := q6 (show Kd.V k31 31 _ w.heap.size _ _ (rd_L9 l1 aa) from Kd.V_mk a4 a5)
                 clear hva_ hvn_ hvc_ a5 a4
                 clear br b0
                 have bs := q6 bq
                 have dW := q6 bp
                 clear bq bp
                 replace aR := eq_true aR
                 replace aT := eq_true aT
                 have ea_ := Option.some.inj (hx369_0.symm.trans bo)
                 injection ea_ with ea_ en_ ec_
                 subst ea_
                 subst ec_
                 clear en_
                 have a6 : 0 ≤ (ay : Int) := of_decide_eq_true (by first | (with_reducible assumption) | assumption)
                 have a7 : ay < ((rd_L9 l1 aa).length : Int) := of_decide_eq_true (by first | (with_reducible assumption) | assumption)
                 obtain ⟨dX, b2, dY, dZ, d0, d1, d2, d3⟩ := at_T31 (by repeat (first | (with_reducible exact bs.out) | (with_reducible refine Kd.C_alloc ?_ _) | (with_reducible refine Kd.C_drewN ?_ _) | (with_reducible refine Kd.C_drew ?_) | exact bs.out)) ay a6 a7
                 cases b2
                 replace a6 := eq_true a6
                 replace a7 := eq_true a7
                 have bh : 0 ≤ (aa : Int) := of_decide_eq_true (by first | (with_reducible assumption) | assumption)
                 have bi : aa < (l1.length : Int) := of_decide_eq_true (by first | (with_reducible assumption) | assumption)
                 obtain ⟨cV, eR, eS, cW, b3, b4, b5⟩ := at_L9 (Kd.V_reads' ae.out).2.2 aa bh bi
                 obtain rfl : ad368 = cV := (by injection cW)
                 obtain ⟨eT, cX, cY, b6⟩ := Kd.V_get ae.out [] aa bh (by first | exact bi | exact of_decide_eq_true (by first | (with_reducible assumption) | assumption) | (have e_ := (Kd.V_reads' ae.out).1; omega))
                 obtain ⟨eU, eV, rfl, bA, bB⟩ := Kd.FK_slice_open cY
                 have hv372_0 := b6 0 _ rfl
                 rw [Nat.add_zero, show ((Kd.slice 31 k31)).sz = 1 from rfl, Nat.mul_one] at hv372_0
                 replace hv372_0 := Option.some.inj (hv372_0.symm.trans b3)
                 injection hv372_0 with hva_ hvn_ hvc_
                 rw [hva_] at bB
                 rw [hvc_] at bA
                 have eW := q6 (show Kd.V k31 31 _ w.heap.size _ _ (rd_L9 l1 aa) from Kd.V_mk bA bB)
                 clear hva_ hvn_ hvc_ bB bA
                 clear b6 cX
                 have b7 := q6 b5
                 have eX := q6 b4
                 clear b5 b4
                 replace bh := eq_true bh
                 replace bi := eq_true bi
                 have ea_ := Option.some.inj (hx369_0.symm.trans b3)
                 injection ea_ with ea_ en_ ec_
                 subst ea_
                 subst ec_
                 clear en_
                 have bC : 0 ≤ (ay : Int) := of_decide_eq_true (by first | (with_reducible assumption) | assumption)
                 have bD : ay < ((rd_L9 l1 aa).length : Int) := of_decide_eq_true (by first | (with_reducible assumption) | assumption)
                 obtain ⟨eY, cZ, eZ, e0, e1, e2, e3, e4⟩ := at_T31 (by repeat (first | (with_reducible exact b7.out) | (with_reducible refine Kd.C_alloc ?_ _) | (with_reducible refine Kd.C_drewN ?_ _) | (with_reducible refine Kd.C_drew ?_) | exact b7.out)) ay bC bD
                 cases cZ
                 replace bC := eq_true bC
                 replace bD := eq_true bD
                 go_wp2
                 go_roundg k3
                 case measure => have := ci.out; have := cj.out; have := cm.out; omega
                 case rel => exact ⟨(wrap64 (ay + 1)), (by first | rfl | (simp; done) | (simp [*]; done)), H', ⟨by have := ci.out; have := cj.out; have := cm.out; omega⟩, ⟨by (with_reducible repeat (first | apply gK | apply gL | apply gM)); exact ag.out⟩, ⟨by (with_reducible repeat (first | apply gK | apply gL | apply gM)); exact ae.out⟩, ⟨by (with_reducible repeat (first | apply gH | apply gI | apply gJ)); exact aw.out⟩, ⟨by (with_reducible repeat (first | apply gH | apply gI | apply gJ)); exact ak.out⟩, ⟨by (with_reducible repeat (first | refine gB ?_ _ | refine gD ?_ | refine gC ?_ _)); exact ac.out⟩, ⟨by (with_reducible repeat (first | refine gB ?_ _ | refine gD ?_ | refine gC ?_ _)); exact af.out⟩, ⟨by repeat (first | (with_reducible exact bc.out) | (with_reducible refine Kd.C_alloc ?_ _) | (with_reducible refine Kd.C_drewN ?_ _) | (with_reducible refine Kd.C_drew ?_) | exact bc.out)⟩, ⟨by repeat (first | (with_reducible exact bd.out) | (with_reducible refine Kd.C_alloc ?_ _) | (with_reducible refine Kd.C_drewN ?_ _) | (with_reducible refine Kd.C_drew ?_) | exact bd.out)⟩, ⟨by repeat (first | (with_reducible first | exact HB.out | apply gx | apply gy | apply gz | refine gG ?_ aA.out | refine gG ?_ aC.out) | exact HB.out)⟩⟩
              ·rw [if_neg cp] at H
               exact absurd H (by simp)
             ·rw [if_neg bF] at H
              have eO : decide (ay < ((rd_L9 l1 aa).length : Int)) = false := decide_eq_false bF
              clear bF
              by_cases ct : aa < (l0.length : Int)
              ·rw [if_pos ct] at H
               have fT : decide (aa < (l0.length : Int)) = true := decide_eq_true ct
               clear ct
               by_cases cu : x366000_2.length < 1256584717458
               ·rw [if_pos cu] at H
                have e5 := q6 cu
                clear cu
                obtain ⟨y376, b8⟩ : ∃ y_ : List (S35), y_ = (x366000_2 ++ [(⟨([] : List (S118)), ([] : List (S115)), rd_L9 l1 aa, rd_L10 l0 aa, 0, true⟩ : S35)]) := ⟨_, rfl⟩
                replace H : (if x367000_2.length < 1256584717458 then (meddlerlaw17_ReportTells.l0 k3 l0 l1 (wrap64 ((wrap64 (bb + ((rd_L10 l0 aa).length : Int))) + ((rd_L9 l1 aa).length : Int))) (wrap64 (aa + 1)) y376 0 a2 (x367000_2 ++ [(⟨([] : List (S118)), ([] : List (S115)), rd_L9 l1 aa, rd_L10 l0 aa, 0, true⟩ : S51)]) 0 a2) else (none)) = some true := by first | (rw [b8]; with_reducible exact H) | (have bE := (Option.bind_some _ _).symm.trans H; rw [b8]; with_reducible exact bE) | (have bE := (Option.bind_some _ _).symm.trans H; with_reducible exact bE) | with_reducible exact H | (rw [b8]; exact H) | exact H
                have e6 := q6 b8
                clear b8
                by_cases cv : x367000_2.length < 1256584717458
                ·rw [if_pos cv] at H
                 have e7 := q6 cv
                 clear cv
                 obtain ⟨y381, b9⟩ : ∃ y_ : List (S51), y_ = (x367000_2 ++ [(⟨([] : List (S118)), ([] : List (S115)), rd_L9 l1 aa, rd_L10 l0 aa, 0, true⟩ : S51)]) := ⟨_, rfl⟩
                 replace H : (meddlerlaw17_ReportTells.l0 k3 l0 l1 (wrap64 ((wrap64 (bb + ((rd_L10 l0 aa).length : Int))) + ((rd_L9 l1 aa).length : Int))) (wrap64 (aa + 1)) y376 0 a2 y381 0 a2) = some true := by first | (rw [b9]; with_reducible exact H) | (have bE := (Option.bind_some _ _).symm.trans H; rw [b9]; with_reducible exact bE) | (have bE := (Option.bind_some _ _).symm.trans H; with_reducible exact bE) | with_reducible exact H | (rw [b9]; exact H) | exact H
                 have e8 := q6 b9
                 clear b9
                 have H' := q6 H
                 clear H
                 have aH : 0 ≤ (aa : Int) := of_decide_eq_true (by first | (with_reducible assumption) | assumption)
                 have aI : aa < (l1.length : Int) := of_decide_eq_true (by first | (with_reducible assumption) | assumption)
                 obtain ⟨bu, cq, cr, bv, hx369_0, aY, aZ⟩ := at_L9 (Kd.V_reads' ae.out).2.2 aa aH aI
                 obtain rfl : ad368 = bu := (by injection bv)
                 obtain ⟨cR, bw, bx, a3⟩ := Kd.V_get ae.out [] aa aH (by first | exact aI | exact of_decide_eq_true (by first | (with_reducible assumption) | assumption) | (have e_ := (Kd.V_reads' ae.out).1; omega))
                 obtain ⟨cS, cT, rfl, aM, aN⟩ := Kd.FK_slice_open bx
                 have hv369_0 := a3 0 _ rfl
                 rw [Nat.add_zero, show ((Kd.slice 31 k31)).sz = 1 from rfl, Nat.mul_one] at hv369_0
                 replace hv369_0 := Option.some.inj (hv369_0.symm.trans hx369_0)
                 injection hv369_0 with hva_ hvn_ hvc_
                 rw [hva_] at aN
                 rw [hvc_] at aM
                 have aE := q6 (show Kd.V k31 31 _ w.heap.size _ _ (rd_L9 l1 aa) from Kd.V_mk aM aN)
                 clear hva_ hvn_ hvc_ aN aM
                 clear a3 bw
                 have bz := q6 aZ
                 have cU := q6 aY
                 clear aZ aY
                 replace aH := eq_true aH
                 replace aI := eq_true aI
                 try go_wp2
                 have an := q6 (gM ag.out)
                 have ao := q6 (gM ae.out)
                 have ap := q6 (gJ aw.out)
                 have aq := q6 (gJ ak.out)
                 have ar := q6 (gM aE.out)
                 have au := q6 (gD ac.out)
                 have av := q6 (gD af.out)
                 have ax := q6 (Kd.C_drew bc.out)
                 have az := q6 (Kd.C_drew bd.out)
                 have aQ := q6 (Kd.C_drew bz.out)
                 have ca := q6 (gz HB.out)
                 clear ag
                 clear ae
                 clear aw
                 clear ak
                 clear aE
                 clear ac
                 clear af
                 clear bc
                 clear bd
                 clear bz
                 clear HB
                 have ag := an
                 have ae := ao
                 have aw := ap
                 have ak := aq
                 have aE := ar
                 have ac := au
                 have af := av
                 have bc := ax
                 have bd := az
                 have bz := aQ
                 have HB := ca
                 clear an ao ap aq ar au av ax az aQ ca
                 have cw : 0 ≤ (aa : Int) := of_decide_eq_true (by first | (with_reducible assumption) | assumption)
                 have cx : aa < (l0.length : Int) := of_decide_eq_true (by first | (with_reducible assumption) | assumption)
                 obtain ⟨e9, c2, c4, fa, c7, d4, d5⟩ := at_L10 (Kd.V_reads' ag.out).2.2 aa cw cx
                 obtain rfl : ad367 = e9 := (by injection fa)
                 obtain ⟨fU, fb, fc, d6⟩ := Kd.V_get ag.out [] aa cw (by first | exact cx | exact of_decide_eq_true (by first | (with_reducible assumption) | assumption) | (have e_ := (Kd.V_reads' ag.out).1; omega))
                 obtain ⟨fV, fW, rfl, c8, da⟩ := Kd.FK_slice_open fc
                 have hv374_0 := d6 0 _ rfl
                 rw [Nat.add_zero, show ((Kd.slice 24 k24)).sz = 1 from rfl, Nat.mul_one] at hv374_0
                 replace hv374_0 := Option.some.inj (hv374_0.symm.trans c7)
                 injection hv374_0 with hva_ hvn_ hvc_
                 rw [hva_] at da
                 rw [hvc_] at c8
                 have aJ := q6 (show Kd.V k24 24 _ w.heap.size _ _ (rd_L10 l0 aa) from Kd.V_mk c8 da)
                 clear hva_ hvn_ hvc_ da c8
                 clear d6 fb
                 have fd := q6 d5
                 have fX := q6 d4
                 clear d5 d4
                 replace cw := eq_true cw
                 replace cx := eq_true cx
                 have cy : 0 ≤ (aa : Int) := of_decide_eq_true (by first | (with_reducible assumption) | assumption)
                 have cz : aa < (l1.length : Int) := of_decide_eq_true (by first | (with_reducible assumption) | assumption)
                 obtain ⟨fe, db, dc, ff, dd, d7, d8⟩ := at_L9 (Kd.V_reads' ae.out).2.2 aa cy cz
                 obtain rfl : ad368 = fe := (by injection ff)
                 obtain ⟨fY, fg, fh, d9⟩ := Kd.V_get ae.out [] aa cy (by first | exact cz | exact of_decide_eq_true (by first | (with_reducible assumption) | assumption) | (have e_ := (Kd.V_reads' ae.out).1; omega))
                 obtain ⟨fZ, f0, rfl, de, df⟩ := Kd.FK_slice_open fh
                 have hv375_0 := d9 0 _ rfl
                 rw [Nat.add_zero, show ((Kd.slice 31 k31)).sz = 1 from rfl, Nat.mul_one] at hv375_0
                 replace hv375_0 := Option.some.inj (hv375_0.symm.trans dd)
                 injection hv375_0 with hva_ hvn_ hvc_
                 rw [hva_] at df
                 rw [hvc_] at de
                 have aK := q6 (show Kd.V k31 31 _ w.heap.size _ _ (rd_L9 l1 aa) from Kd.V_mk de df)
                 clear hva_ hvn_ hvc_ df de
                 clear d9 fg
                 have fi := q6 d8
                 have f1 := q6 d7
                 clear d8 d7
                 replace cy := eq_true cy
                 replace cz := eq_true cz
                 refine start_ (n := 15) (S := fun w' => w'.cell? ⟨ab, 0, none⟩ = some (aD) ∧ w'.cell? ⟨ab, 1, none⟩ = some (.slice none 0 0) ∧ w'.cell? ⟨ab, 2, none⟩ = some (.int .i64 0) ∧ w'.cell? ⟨ab, 3, none⟩ = some (.bool a2) ∧ w'.cell? (ad367.add (aa).toNat) = some (.slice c2 (rd_L10 l0 aa).length c4) ∧ w'.cell? (ad368.add (aa).toNat) = some (.slice db (rd_L9 l1 aa).length dc)) (ds := [12, 14]) #[false, false, false, false, false, false, false, false, false, false, false, false, false, false, false] (by kernel_rfl) rfl rfl ⟨(gE ac.out 0).trans rfl, (gE ac.out 1).trans rfl, (gE ac.out 2).trans rfl, (gE ac.out 3).trans rfl, c7, dd⟩ (fun hHeld => ?_); refine with_tabW meddlerlaw17_ReportTells.tab14 meddlerlaw17_ReportTells.bits14 (fun HT_ HW_ => ?_)
                 generalize wr.drew = f2 at ag ae aw ak aE ac af bc bd bz HB aJ aK fd fi c7 dd hHeld ⊢
                 refine pure_ (i := 0) (N := some 74) (v := ?_) (a' := ?_) #[true, false, false, false, false, false, false, false, false, false, false, false, false, false, false] rfl rfl (any_of HT_.out (by kernel_rfl)) (fun _ _ _ h => h) (Or.inl ⟨by rfl, ?_⟩) ?_ ?_
                 rotate_left
                 ·intro w'
                  go_simp
                  with_reducible rfl
                 rotate_left
                 ·simp only [Act.put, gN, gO, gP, i64_w, i32_w]
                  rfl
                 refine pure_ (i := 2) (N := some 76) (v := ?_) (a' := ?_) #[true, false, true, false, false, false, false, false, false, false, false, false, false, false, false] rfl rfl (any_of HT_.out (by kernel_rfl)) (fun _ _ _ h => h) (Or.inl ⟨by rfl, ?_⟩) ?_ ?_
                 rotate_left
                 ·intro w'
                  go_simp
                  with_reducible rfl
                 rotate_left
                 ·simp only [Act.put, gN, gO, gP, i64_w, i32_w]
                  rfl
                 refine pure_ (i := 3) (N := some 77) (v := ?_) (a' := ?_) #[true, false, true, true, false, false, false, false, false, false, false, false, false, false, false] rfl rfl (any_of HT_.out (by kernel_rfl)) (fun _ _ _ h => h) (Or.inl ⟨by rfl, ?_⟩) ?_ ?_
                 rotate_left
                 ·intro w'
                  go_simp
                  with_reducible rfl
                 rotate_left
                 ·simp only [Act.put, gN, gO, gP, i64_w, i32_w]
                  rfl
                 refine pure_ (i := 4) (N := some 78) (v := ?_) (a' := ?_) #[true, false, true, true, true, false, false, false, false, false, false, false, false, false, false] rfl rfl (any_of HT_.out (by kernel_rfl)) (fun _ _ _ h => h) (Or.inl ⟨by rfl, ?_⟩) ?_ ?_
                 rotate_left
                 ·intro w'
                  go_simp
                  with_reducible rfl
                 rotate_left
                 ·simp only [Act.put, gN, gO, gP, i64_w, i32_w]
                  rfl
                 refine pure_ (i := 6) (N := some 80) (v := ?_) (a' := ?_) #[true, false, true, true, true, false, true, false, false, false, false, false, false, false, false] rfl rfl (any_of HT_.out (by kernel_rfl)) (fun _ _ _ h => h) (Or.inl ⟨by rfl, ?_⟩) ?_ ?_
                 rotate_left
                 ·intro w'
                  go_simp
                  with_reducible rfl
                 rotate_left
                 ·simp only [Act.put, gN, gO, gP, i64_w, i32_w]
                  rfl
                 refine pure_ (i := 7) (N := some 81) (v := ?_) (a' := ?_) #[true, false, true, true, true, false, true, true, false, false, false, false, false, false, false] rfl rfl (any_of HT_.out (by kernel_rfl)) (fun _ _ _ h => h) (Or.inl ⟨by rfl, ?_⟩) ?_ ?_
                 rotate_left
                 ·intro w'
                  go_simp
                  with_reducible rfl
                 rotate_left
                 ·simp only [Act.put, gN, gO, gP, i64_w, i32_w]
                  rfl
                 refine pure_ (i := 8) (N := some 82) (v := ?_) (a' := ?_) #[true, false, true, true, true, false, true, true, true, false, false, false, false, false, false] rfl rfl (any_of HT_.out (by kernel_rfl)) (fun _ _ _ h => h) (Or.inl ⟨by rfl, ?_⟩) ?_ ?_
                 rotate_left
                 ·intro w'
                  go_simp
                  with_reducible rfl
                 rotate_left
                 ·simp only [Act.put, gN, gO, gP, i64_w, i32_w]
                  rfl
                 refine take_ (i := 1) (N := some 75) (v := ?_) (a' := ?_) #[true, true, true, true, true, false, true, true, true, false, false, false, false, false, false] rfl rfl (take_ofW HT_.out HW_.out (by kernel_rfl)) (fun _ _ _ h => h) (Or.inl ⟨by rfl, ?_⟩) hHeld ?_ ?_
                 rotate_left
                 ·rintro w' ⟨s0, s1, s2, s3, s4, s5⟩
                  go_simp
                  with_reducible rfl
                 rotate_left
                 ·simp only [Act.put, gN, gO, gP, i64_w, i32_w]
                  rfl
                 refine take_ (i := 5) (N := some 79) (v := ?_) (a' := ?_) #[true, true, true, true, true, true, true, true, true, false, false, false, false, false, false] rfl rfl (take_ofW HT_.out HW_.out (by kernel_rfl)) (fun _ _ _ h => h) (Or.inl ⟨by rfl, ?_⟩) hHeld ?_ ?_
                 rotate_left
                 ·rintro w' ⟨s0, s1, s2, s3, s4, s5⟩
                  go_simp
                  with_reducible rfl
                 rotate_left
                 ·simp only [Act.put, gN, gO, gP, i64_w, i32_w]
                  rfl
                 refine take_ (i := 9) (N := some 83) (v := ?_) (a' := ?_) #[true, true, true, true, true, true, true, true, true, true, false, false, false, false, false] rfl rfl (take_ofW HT_.out HW_.out (by kernel_rfl)) (fun _ _ _ h => h) (Or.inl ⟨by rfl, ?_⟩) hHeld ?_ ?_
                 rotate_left
                 ·rintro w' ⟨s0, s1, s2, s3, s4, s5⟩
                  go_simp
                  with_reducible rfl
                 rotate_left
                 ·simp only [Act.put, gN, gO, gP, i64_w, i32_w]
                  rfl
                 refine pure_ (i := 10) (N := some 84) (v := ?_) (a' := ?_) #[true, true, true, true, true, true, true, true, true, true, true, false, false, false, false] rfl rfl (any_of HT_.out (by kernel_rfl)) (fun _ _ _ h => h) (Or.inl ⟨by rfl, ?_⟩) ?_ ?_
                 rotate_left
                 ·intro w'
                  go_simp
                  with_reducible rfl
                 rotate_left
                 ·simp only [Act.put, gN, gO, gP, i64_w, i32_w]
                  rfl
                 refine one_ (i := 11) (N := some 85) #[true, true, true, true, true, true, true, true, true, true, true, true, false, false, false] rfl rfl (one_of HT_.out (by kernel_rfl)) (by decide) (fun K hK => ?_)
                 refine value_ (w1 := ?_) (v := ?_) (by rfl) rfl ?_ ?_
                 rotate_left 2
                 ·go_simp
                  constructor
                  ·rfl
                  ·rfl
                 refine hK.out _ _ ⟨(gE (gC ac.out _) 0).trans rfl, (gE (gC ac.out _) 1).trans rfl, (gE (gC ac.out _) 2).trans rfl, (gE (gC ac.out _) 3).trans rfl, (World.cell?_alloc_lt _ _ _ (World.block_lt_of_cell? _ _ (hHeld.2.2.2.2.1))).trans (hHeld.2.2.2.2.1), (World.cell?_alloc_lt _ _ _ (World.block_lt_of_cell? _ _ (hHeld.2.2.2.2.2))).trans (hHeld.2.2.2.2.2)⟩ (fun hHeld => ?_)
                 clear hK K
                 refine norm_ (a' := ?_) ?_ ?_
                 rotate_left
                 ·show Act.put _ (some 85) _ = _
                  simp only [Act.put, gN, gO, gP, i64_w, i32_w]
                  rfl
                 refine last_ (i := 12) (N := some 86) #[true, true, true, true, true, true, true, true, true, true, true, true, true, false, false] rfl rfl (one_of HT_.out (by kernel_rfl)) (by decide) (fun K hK => ?_)
                 refine Kd.N_append_step k35 (w0 := w) w.heap.size (by rfl) (.tmp 75) (.tmp 85) 26 35 (.agg #[(.slice none 0 0), (.slice none 0 0), (.slice none 0 0), (.slice none 0 0), (.int .i64 0), (.bool false)]) 112 rfl Try.underlying26 info35 rfl (by decide) (by omega) aD x366000_2 (⟨([] : List (S118)), ([] : List (S115)), rd_L9 l1 aa, rd_L10 l0 aa, 0, true⟩ : S35) [.slice none 0 0, .slice none 0 0, .slice db (rd_L9 l1 aa).length dc, .slice c2 (rd_L10 l0 aa).length c4, .int .i64 0, .bool true] (fun k_ => ((ah k_ ∨ ai k_) ∨ w.heap.size ≤ k_) ∧ some k_ ≠ (aj : Value).ownBlock ∧ k_ ≠ ab ∧ k_ ≠ ad) (fun k_ => ((fun k_ => ((ah k_ ∨ ai k_) ∨ w.heap.size ≤ k_) ∧ some k_ ≠ (aj : Value).ownBlock ∧ k_ ≠ ab ∧ k_ ≠ ad)) k_ ∧ some k_ ≠ (aD : Value).ownBlock) rfl rfl ?aP (fun _ hk => hk) ?aF ?aO ?aB ?aS ?aL ?_
                 (case aP => exact (k35_mkF _ _ (⟨([] : List (S118)), ([] : List (S115)), rd_L9 l1 aa, rd_L10 l0 aa, 0, true⟩ : S35) (Nat.le_refl _) (Kd.F_nil _ _ _) (Nat.le_refl _) (Kd.F_nil _ _ _) (Kd.V_reads' (Kd.V_mono (ok' := (fun k_ => ((fun k_ => ((ah k_ ∨ ai k_) ∨ w.heap.size ≤ k_) ∧ some k_ ≠ (aj : Value).ownBlock ∧ k_ ≠ ab ∧ k_ ≠ ad)) k_ ∧ some k_ ≠ (aD : Value).ownBlock)) (aK.out) (fun k_ hk => ⟨⟨hk.1, ⟨hk.2.2.1, ⟨hk.2.2.2.1, hk.2.2.2.2⟩⟩⟩, hk.2.1⟩))).2.1 (Kd.V_F (Kd.V_mono (ok' := (fun k_ => ((fun k_ => ((ah k_ ∨ ai k_) ∨ w.heap.size ≤ k_) ∧ some k_ ≠ (aj : Value).ownBlock ∧ k_ ≠ ab ∧ k_ ≠ ad)) k_ ∧ some k_ ≠ (aD : Value).ownBlock)) (aK.out) (fun k_ hk => ⟨⟨hk.1, ⟨hk.2.2.1, ⟨hk.2.2.2.1, hk.2.2.2.2⟩⟩⟩, hk.2.1⟩))) (Kd.V_reads' (Kd.V_mono (ok' := (fun k_ => ((fun k_ => ((ah k_ ∨ ai k_) ∨ w.heap.size ≤ k_) ∧ some k_ ≠ (aj : Value).ownBlock ∧ k_ ≠ ab ∧ k_ ≠ ad)) k_ ∧ some k_ ≠ (aD : Value).ownBlock)) (aJ.out) (fun k_ hk => ⟨⟨hk.1, ⟨hk.2.2.1, ⟨hk.2.2.2.1, hk.2.2.2.2⟩⟩⟩, hk.2.1⟩))).2.1 (Kd.V_F (Kd.V_mono (ok' := (fun k_ => ((fun k_ => ((ah k_ ∨ ai k_) ∨ w.heap.size ≤ k_) ∧ some k_ ≠ (aj : Value).ownBlock ∧ k_ ≠ ab ∧ k_ ≠ ad)) k_ ∧ some k_ ≠ (aD : Value).ownBlock)) (aJ.out) (fun k_ hk => ⟨⟨hk.1, ⟨hk.2.2.1, ⟨hk.2.2.2.1, hk.2.2.2.2⟩⟩⟩, hk.2.1⟩)))))
                 (case aB => exact (by repeat (first | (with_reducible first | exact HB.out | apply gx | apply gy | apply gz | refine gG ?_ aA.out | refine gG ?_ aC.out) | exact HB.out)))
                 (case aF => exact (fun k_ hk => ⟨(.inr (Nat.le_trans (gA (by repeat (first | (with_reducible first | exact HB.out | apply gx | apply gy | apply gz | refine gG ?_ aA.out | refine gG ?_ aC.out) | exact HB.out))) hk)), Kd.fresh' (Kd.N_lt (by (with_reducible repeat (first | apply gH | apply gI | apply gJ)); exact ak.out)) k_ hk, Kd.freshB (g := ab) (o := .cells #[aD, .slice none 0 0, .int .i64 0, .bool a2] 29 (0, 0)) (by (with_reducible repeat (first | refine gB ?_ _ | refine gD ?_ | refine gC ?_ _)); exact ac.out) k_ hk, Kd.freshB (g := ad) (o := .cells #[aj, .slice none 0 0, .int .i64 0, .bool a2] 50 (0, 0)) (by (with_reducible repeat (first | refine gB ?_ _ | refine gD ?_ | refine gC ?_ _)); exact af.out) k_ hk⟩))
                 (case aO => exact (by (with_reducible repeat (first | apply gH | apply gI | apply gJ)); exact aw.out))
                 (case aS => exact (gA (by repeat (first | (with_reducible first | exact HB.out | apply gx | apply gy | apply gz | refine gG ?_ aA.out | refine gG ?_ aC.out) | exact HB.out))))
                 (case aL => have := e5.out; omega)
                 intro f3 w26 ho hb hg hat
                 rw [← e6.out] at ho
                 have an := q6 (Kd.V_afterv (ok := (fun k_ => ((ah k_ ∨ ai k_) ∨ w.heap.size ≤ k_) ∧ some k_ ≠ (aj : Value).ownBlock ∧ k_ ≠ ab ∧ k_ ≠ ad)) (by (with_reducible repeat (first | apply gK | apply gL | apply gM)); exact Kd.V_mono ag.out (fun _ hk => ⟨⟨hk.1, ⟨hk.2.2.1, ⟨hk.2.2.2.1, hk.2.2.2.2⟩⟩⟩, hk.2.1⟩)) hg hat)
                 have ao := q6 (Kd.V_afterv (ok := (fun k_ => ((ah k_ ∨ ai k_) ∨ w.heap.size ≤ k_) ∧ some k_ ≠ (aj : Value).ownBlock ∧ k_ ≠ ab ∧ k_ ≠ ad)) (by (with_reducible repeat (first | apply gK | apply gL | apply gM)); exact Kd.V_mono ae.out (fun _ hk => ⟨⟨hk.1, ⟨hk.2.2.1, ⟨hk.2.2.2.1, hk.2.2.2.2⟩⟩⟩, hk.2.1⟩)) hg hat)
                 have ap := q6 (Kd.N_afterv (ok := (fun k_ => ((ah k_ ∨ ai k_) ∨ w.heap.size ≤ k_) ∧ k_ ≠ ab ∧ k_ ≠ ad)) (by (with_reducible repeat (first | apply gH | apply gI | apply gJ)); exact Kd.N_mono ak.out (fun _ hk => ⟨⟨hk.1, ⟨hk.2.2.1, hk.2.2.2⟩⟩, hk.2.1⟩)) hg hat)
                 have aq := q6 (blk_grown (g := ab) (o := .cells #[aD, .slice none 0 0, .int .i64 0, .bool a2] 29 (0, 0)) (by (with_reducible repeat (first | refine gB ?_ _ | refine gD ?_ | refine gC ?_ _)); exact ac.out) hg (Kd.N_ne aw.out ac.out (by decide)))
                 have ar := q6 (blk_grown (g := ad) (o := .cells #[aj, .slice none 0 0, .int .i64 0, .bool a2] 50 (0, 0)) (by (with_reducible repeat (first | refine gB ?_ _ | refine gD ?_ | refine gC ?_ _)); exact af.out) hg (Kd.N_ne aw.out af.out (by decide)))
                 have au := q6 (Kd.V_afterv (ok := (fun k_ => ((ah k_ ∨ ai k_) ∨ w.heap.size ≤ k_) ∧ some k_ ≠ (aj : Value).ownBlock ∧ k_ ≠ ab ∧ k_ ≠ ad)) (by (with_reducible repeat (first | apply gK | apply gL | apply gM)); exact Kd.V_mono aE.out (fun _ hk => ⟨⟨hk.1, ⟨hk.2.2.1, ⟨hk.2.2.2.1, hk.2.2.2.2⟩⟩⟩, hk.2.1⟩)) hg hat)
                 have av := q6 (Kd.V_afterv (ok := (fun k_ => ((ah k_ ∨ ai k_) ∨ w.heap.size ≤ k_) ∧ some k_ ≠ (aj : Value).ownBlock ∧ k_ ≠ ab ∧ k_ ≠ ad)) (by (with_reducible repeat (first | apply gK | apply gL | apply gM)); exact Kd.V_mono aJ.out (fun _ hk => ⟨⟨hk.1, ⟨hk.2.2.1, ⟨hk.2.2.2.1, hk.2.2.2.2⟩⟩⟩, hk.2.1⟩)) hg hat)
                 have ax := q6 (Kd.V_afterv (ok := (fun k_ => ((ah k_ ∨ ai k_) ∨ w.heap.size ≤ k_) ∧ some k_ ≠ (aj : Value).ownBlock ∧ k_ ≠ ab ∧ k_ ≠ ad)) (by (with_reducible repeat (first | apply gK | apply gL | apply gM)); exact Kd.V_mono aK.out (fun _ hk => ⟨⟨hk.1, ⟨hk.2.2.1, ⟨hk.2.2.2.1, hk.2.2.2.2⟩⟩⟩, hk.2.1⟩)) hg hat)
                 have az := q6 (hb)
                 have aQ := q6 (ho)
                 clear ag
                 clear ae
                 clear ak
                 clear ac
                 clear af
                 clear aE
                 clear aJ
                 clear aK
                 clear HB
                 clear aw
                 have ag := an
                 have ae := ao
                 have ak := ap
                 have ac := aq
                 have af := ar
                 have aE := au
                 have aJ := av
                 have aK := ax
                 have HB := az
                 have aV := aQ
                 clear an ao ap aq ar au av ax az aQ
                 clear ho hb hg hat
                 obtain ⟨al, am, ea⟩ := Kd.N_slice aV.out
                 (first | subst ea | (injection ea with f1_ a8 f3_; have a9 := f1_.symm; have ba := f3_.symm; clear f1_ a8 f3_; subst a9; subst ba))
                 refine hK.out _ _ ?_
                 clear hK K
                 refine norm_ (a' := ?_) ?_ ?_
                 rotate_left
                 ·show Act.put _ (some 86) _ = _
                  simp only [Act.put, gN, gO, gP, i64_w, i32_w]
                  rfl
                 refine pure_ (i := 13) (N := some 87) (v := ?_) (a' := ?_) #[true, true, true, true, true, true, true, true, true, true, true, true, true, true, false] rfl rfl (any_of HT_.out (by kernel_rfl)) (fun _ _ _ h => h) (Or.inl ⟨by rfl, ?_⟩) ?_ ?_
                 rotate_left
                 ·intro w'
                  go_simp
                  with_reducible rfl
                 rotate_left
                 ·simp only [Act.put, gN, gO, gP, i64_w, i32_w]
                  rfl
                 refine last_ (i := 14) (N := none) #[true, true, true, true, true, true, true, true, true, true, true, true, true, true, true] rfl rfl (one_of HT_.out (by kernel_rfl)) (by decide) (fun K hK => ?_)
                 have f4 : w26.cell? ⟨ab, 0, none⟩ = some (aD) := (gE ac.out 0).trans rfl
                 have f7 := gF ac.out 0
                 have f8 := bn.out
                 have f9 := bm.out
                 refine skip_ (w1 := ?_) (by rfl) rfl ?_ ?_
                 rotate_left
                 ·go_simp
                  rfl
                 refine hK.out _ _ ?_
                 clear hK K
                 refine done_ (done_of HT_.out (by kernel_rfl)) ?_
                 try go_wp2
                 have an : Aside0 (Kd.V (Kd.slice 24 k24) 33 (w26.setCell ⟨ab, 0, none⟩ (.slice al y376.length am)) w.heap.size (fun k_ => ((ah k_ ∨ ai k_) ∨ w.heap.size ≤ k_) ∧ some k_ ≠ (aj : Value).ownBlock ∧ some k_ ≠ (.slice al y376.length am : Value).ownBlock ∧ k_ ≠ ab ∧ k_ ≠ ad) (.slice (some ad367) l0.length c0) l0) := ⟨by (with_reducible repeat (first | apply gK | apply gL | apply gM)); exact Kd.V_mono (Kd.V_far (p := ⟨ab, 0, none⟩) (Kd.V_mono ag.out (fun k_ hk => (⟨hk, hk.1.2.2.1⟩ : _ ∧ k_ ≠ ab))) (fun _ hk => hk.2) (.slice al y376.length am)) (fun _ hk => ⟨hk.1.1.1, ⟨hk.1.1.2.1, ⟨hk.1.2, ⟨hk.1.1.2.2.1, hk.1.1.2.2.2⟩⟩⟩⟩)⟩
                 have ao : Aside0 (Kd.V (Kd.slice 31 k31) 25 (w26.setCell ⟨ab, 0, none⟩ (.slice al y376.length am)) w.heap.size (fun k_ => ((ah k_ ∨ ai k_) ∨ w.heap.size ≤ k_) ∧ some k_ ≠ (aj : Value).ownBlock ∧ some k_ ≠ (.slice al y376.length am : Value).ownBlock ∧ k_ ≠ ab ∧ k_ ≠ ad) (.slice (some ad368) l1.length c1) l1) := ⟨by (with_reducible repeat (first | apply gK | apply gL | apply gM)); exact Kd.V_mono (Kd.V_far (p := ⟨ab, 0, none⟩) (Kd.V_mono ae.out (fun k_ hk => (⟨hk, hk.1.2.2.1⟩ : _ ∧ k_ ≠ ab))) (fun _ hk => hk.2) (.slice al y376.length am)) (fun _ hk => ⟨hk.1.1.1, ⟨hk.1.1.2.1, ⟨hk.1.2, ⟨hk.1.1.2.2.1, hk.1.1.2.2.2⟩⟩⟩⟩)⟩
                 have ap : Aside0 (Kd.N k51 51 (w26.setCell ⟨ab, 0, none⟩ (.slice al y376.length am)) w.heap.size (fun k_ => ((ah k_ ∨ ai k_) ∨ w.heap.size ≤ k_) ∧ some k_ ≠ (.slice al y376.length am : Value).ownBlock ∧ k_ ≠ ab ∧ k_ ≠ ad) aj x367000_2) := ⟨by (with_reducible repeat (first | apply gH | apply gI | apply gJ)); exact Kd.N_mono (Kd.N_far (p := ⟨ab, 0, none⟩) (Kd.N_mono ak.out (fun k_ hk => (⟨hk, hk.1.2.1⟩ : _ ∧ k_ ≠ ab))) (fun _ hk => hk.2) (.slice al y376.length am)) (fun _ hk => ⟨hk.1.1.1, ⟨hk.1.2, ⟨hk.1.1.2.1, hk.1.1.2.2⟩⟩⟩)⟩
                 have aq : Aside0 (Kd.V k31 31 (w26.setCell ⟨ab, 0, none⟩ (.slice al y376.length am)) w.heap.size (fun k_ => ((ah k_ ∨ ai k_) ∨ w.heap.size ≤ k_) ∧ some k_ ≠ (aj : Value).ownBlock ∧ some k_ ≠ (.slice al y376.length am : Value).ownBlock ∧ k_ ≠ ab ∧ k_ ≠ ad) (.slice cq (rd_L9 l1 aa).length cr) (rd_L9 l1 aa)) := ⟨by (with_reducible repeat (first | apply gK | apply gL | apply gM)); exact Kd.V_mono (Kd.V_far (p := ⟨ab, 0, none⟩) (Kd.V_mono aE.out (fun k_ hk => (⟨hk, hk.1.2.2.1⟩ : _ ∧ k_ ≠ ab))) (fun _ hk => hk.2) (.slice al y376.length am)) (fun _ hk => ⟨hk.1.1.1, ⟨hk.1.1.2.1, ⟨hk.1.2, ⟨hk.1.1.2.2.1, hk.1.1.2.2.2⟩⟩⟩⟩)⟩
                 have ar : Aside0 (Kd.V k24 24 (w26.setCell ⟨ab, 0, none⟩ (.slice al y376.length am)) w.heap.size (fun k_ => ((ah k_ ∨ ai k_) ∨ w.heap.size ≤ k_) ∧ some k_ ≠ (aj : Value).ownBlock ∧ some k_ ≠ (.slice al y376.length am : Value).ownBlock ∧ k_ ≠ ab ∧ k_ ≠ ad) (.slice c2 (rd_L10 l0 aa).length c4) (rd_L10 l0 aa)) := ⟨by (with_reducible repeat (first | apply gK | apply gL | apply gM)); exact Kd.V_mono (Kd.V_far (p := ⟨ab, 0, none⟩) (Kd.V_mono aJ.out (fun k_ hk => (⟨hk, hk.1.2.2.1⟩ : _ ∧ k_ ≠ ab))) (fun _ hk => hk.2) (.slice al y376.length am)) (fun _ hk => ⟨hk.1.1.1, ⟨hk.1.1.2.1, ⟨hk.1.2, ⟨hk.1.1.2.2.1, hk.1.1.2.2.2⟩⟩⟩⟩)⟩
                 have au : Aside0 (Kd.V k31 31 (w26.setCell ⟨ab, 0, none⟩ (.slice al y376.length am)) w.heap.size (fun k_ => ((ah k_ ∨ ai k_) ∨ w.heap.size ≤ k_) ∧ some k_ ≠ (aj : Value).ownBlock ∧ some k_ ≠ (.slice al y376.length am : Value).ownBlock ∧ k_ ≠ ab ∧ k_ ≠ ad) (.slice db (rd_L9 l1 aa).length dc) (rd_L9 l1 aa)) := ⟨by (with_reducible repeat (first | apply gK | apply gL | apply gM)); exact Kd.V_mono (Kd.V_far (p := ⟨ab, 0, none⟩) (Kd.V_mono aK.out (fun k_ hk => (⟨hk, hk.1.2.2.1⟩ : _ ∧ k_ ≠ ab))) (fun _ hk => hk.2) (.slice al y376.length am)) (fun _ hk => ⟨hk.1.1.1, ⟨hk.1.1.2.1, ⟨hk.1.2, ⟨hk.1.1.2.2.1, hk.1.1.2.2.2⟩⟩⟩⟩)⟩
                 have av : Aside0 (Kd.N k35 35 (w26.setCell ⟨ab, 0, none⟩ (.slice al y376.length am)) w.heap.size (fun k_ => ((ah k_ ∨ ai k_) ∨ w.heap.size ≤ k_) ∧ some k_ ≠ (aj : Value).ownBlock ∧ k_ ≠ ab ∧ k_ ≠ ad) (.slice al y376.length am) y376) := ⟨by (with_reducible repeat (first | apply gH | apply gI | apply gJ)); exact Kd.N_mono (Kd.N_far (p := ⟨ab, 0, none⟩) (Kd.N_mono aV.out (fun k_ hk => (⟨hk, hk.2.2.1⟩ : _ ∧ k_ ≠ ab))) (fun _ hk => hk.2) (.slice al y376.length am)) (fun _ hk => ⟨hk.1.1, ⟨hk.1.2.1, ⟨hk.1.2.2.1, hk.1.2.2.2⟩⟩⟩)⟩
                 have ax : Aside0 ((w26.setCell ⟨ab, 0, none⟩ (.slice al y376.length am)).heap[ab]? = some (.cells #[.slice al y376.length am, .slice none 0 0, .int .i64 0, .bool a2] 29 (0, 0))) := ⟨by (with_reducible repeat (first | refine gB ?_ _ | refine gD ?_ | refine gC ?_ _)); refine blk_put (cs := #[aD, .slice none 0 0, .int .i64 0, .bool a2]) ?_ 0 _ rfl; (with_reducible repeat (first | refine gB ?_ _ | refine gD ?_ | refine gC ?_ _)); exact ac.out⟩
                 have az : Aside0 ((w26.setCell ⟨ab, 0, none⟩ (.slice al y376.length am)).heap[ad]? = some (.cells #[aj, .slice none 0 0, .int .i64 0, .bool a2] 50 (0, 0))) := ⟨by (with_reducible repeat (first | refine gB ?_ _ | refine gD ?_ | refine gC ?_ _)); refine blk_far ?_ bn.out _; (with_reducible repeat (first | refine gB ?_ _ | refine gD ?_ | refine gC ?_ _)); exact af.out⟩
                 have aQ : Aside0 (Below w.heap.size w (w26.setCell ⟨ab, 0, none⟩ (.slice al y376.length am))) := ⟨by repeat (first | (with_reducible first | exact HB.out | apply gx | apply gy | apply gz | refine gG ?_ aA.out | refine gG ?_ aC.out) | exact HB.out)⟩
                 (try clear ag)
                 (try clear ae)
                 (try clear ak)
                 (try clear aE)
                 (try clear aJ)
                 (try clear aK)
                 (try clear aV)
                 (try clear ac)
                 (try clear af)
                 (try clear HB)
                 generalize (w26.setCell ⟨ab, 0, none⟩ (.slice al y376.length am)) = w29 at an ao ap aq ar au av ax az aQ ⊢
                 have ag := an
                 have ae := ao
                 have ak := ap
                 have aE := aq
                 have aJ := ar
                 have aK := au
                 have aV := av
                 have ac := ax
                 have af := az
                 have HB := aQ
                 clear an ao ap aq ar au av ax az aQ
                 have an := q6 (gM ag.out)
                 have ao := q6 (gM ae.out)
                 have ap := q6 (gJ ak.out)
                 have aq := q6 (gM aE.out)
                 have ar := q6 (gM aJ.out)
                 have au := q6 (gM aK.out)
                 have av := q6 (gJ aV.out)
                 have ax := q6 (gD ac.out)
                 have az := q6 (gD af.out)
                 have aQ := q6 (gz HB.out)
                 clear ag
                 clear ae
                 clear ak
                 clear aE
                 clear aJ
                 clear aK
                 clear aV
                 clear ac
                 clear af
                 clear HB
                 have ag := an
                 have ae := ao
                 have ak := ap
                 have aE := aq
                 have aJ := ar
                 have aK := au
                 have aV := av
                 have ac := ax
                 have af := az
                 have HB := aQ
                 clear an ao ap aq ar au av ax az aQ
                 have cA : 0 ≤ (aa : Int) := of_decide_eq_true (by first | (with_reducible assumption) | assumption)
                 have cB : aa < (l0.length : Int) := of_decide_eq_true (by first | (with_reducible assumption) | assumption)
                 obtain ⟨fj, eb, ec, fk, dg, ed, ee⟩ := at_L10 (Kd.V_reads' ag.out).2.2 aa cA cB
                 obtain rfl : ad367 = fj := (by injection fk)
                 obtain ⟨ga, fl, fm, ef⟩ := Kd.V_get ag.out [] aa cA (by first | exact cB | exact of_decide_eq_true (by first | (with_reducible assumption) | assumption) | (have e_ := (Kd.V_reads' ag.out).1; omega))
                 obtain ⟨gb, gc, rfl, dh, di⟩ := Kd.FK_slice_open fm
                 have hv379_0 := ef 0 _ rfl
                 rw [Nat.add_zero, show ((Kd.slice 24 k24)).sz = 1 from rfl, Nat.mul_one] at hv379_0
                 replace hv379_0 := Option.some.inj (hv379_0.symm.trans dg)
                 injection hv379_0 with hva_ hvn_ hvc_
                 rw [hva_] at di
                 rw [hvc_] at dh
                 have bI := q6 (show Kd.V k24 24 _ w.heap.size _ _ (rd_L10 l0 aa) from Kd.V_mk dh di)
                 clear hva_ hvn_ hvc_ di dh
                 clear ef fl
                 have fn := q6 ee
                 have gd := q6 ed
                 clear ee ed
                 replace cA := eq_true cA
                 replace cB := eq_true cB
                 have cC : 0 ≤ (aa : Int) := of_decide_eq_true (by first | (with_reducible assumption) | assumption)
                 have cD : aa < (l1.length : Int) := of_decide_eq_true (by first | (with_reducible assumption) | assumption)
                 obtain ⟨fo, eg, eh, fp, dj, ei, ej⟩ := at_L9 (Kd.V_reads' ae.out).2.2 aa cC cD
                 obtain rfl : ad368 = fo := (by injection fp)
                 obtain ⟨ge, fq, fr, ek⟩ := Kd.V_get ae.out [] aa cC (by first | exact cD | exact of_decide_eq_true (by first | (with_reducible assumption) | assumption) | (have e_ := (Kd.V_reads' ae.out).1; omega))
                 obtain ⟨gf, gg, rfl, dk, dl⟩ := Kd.FK_slice_open fr
                 have hv380_0 := ek 0 _ rfl
                 rw [Nat.add_zero, show ((Kd.slice 31 k31)).sz = 1 from rfl, Nat.mul_one] at hv380_0
                 replace hv380_0 := Option.some.inj (hv380_0.symm.trans dj)
                 injection hv380_0 with hva_ hvn_ hvc_
                 rw [hva_] at dl
                 rw [hvc_] at dk
                 have bJ := q6 (show Kd.V k31 31 _ w.heap.size _ _ (rd_L9 l1 aa) from Kd.V_mk dk dl)
                 clear hva_ hvn_ hvc_ dl dk
                 clear ek fq
                 have fs := q6 ej
                 have gh := q6 ei
                 clear ej ei
                 replace cC := eq_true cC
                 replace cD := eq_true cD
                 refine start_ (n := 15) (S := fun w' => w'.cell? ⟨ad, 0, none⟩ = some (aj) ∧ w'.cell? ⟨ad, 1, none⟩ = some (.slice none 0 0) ∧ w'.cell? ⟨ad, 2, none⟩ = some (.int .i64 0) ∧ w'.cell? ⟨ad, 3, none⟩ = some (.bool a2) ∧ w'.cell? (ad367.add (aa).toNat) = some (.slice eb (rd_L10 l0 aa).length ec) ∧ w'.cell? (ad368.add (aa).toNat) = some (.slice eg (rd_L9 l1 aa).length eh)) (ds := [12, 14]) #[false, false, false, false, false, false, false, false, false, false, false, false, false, false, false] (by kernel_rfl) rfl rfl ⟨(gE af.out 0).trans rfl, (gE af.out 1).trans rfl, (gE af.out 2).trans rfl, (gE af.out 3).trans rfl, dg, dj⟩ (fun hHeld => ?_); refine with_tabW meddlerlaw17_ReportTells.tab15 meddlerlaw17_ReportTells.bits15 (fun HT_ HW_ => ?_)
                 generalize w29.drew = gi at ag ae ak aE aJ aK aV ac af HB bI bJ fn fs dg dj hHeld ⊢
                 refine pure_ (i := 0) (N := some 88) (v := ?_) (a' := ?_) #[true, false, false, false, false, false, false, false, false, false, false, false, false, false, false] rfl rfl (any_of HT_.out (by kernel_rfl)) (fun _ _ _ h => h) (Or.inl ⟨by rfl, ?_⟩) ?_ ?_
                 rotate_left
                 ·intro w'
                  go_simp
                  with_reducible rfl
                 rotate_left
                 ·simp only [Act.put, gN, gO, gP, i64_w, i32_w]
                  rfl
                 refine pure_ (i := 2) (N := some 90) (v := ?_) (a' := ?_) #[true, false, true, false, false, false, false, false, false, false, false, false, false, false, false] rfl rfl (any_of HT_.out (by kernel_rfl)) (fun _ _ _ h => h) (Or.inl ⟨by rfl, ?_⟩) ?_ ?_
                 rotate_left
                 ·intro w'
                  go_simp
                  with_reducible rfl
                 rotate_left
                 ·simp only [Act.put, gN, gO, gP, i64_w, i32_w]
                  rfl
                 refine pure_ (i := 3) (N := some 91) (v := ?_) (a' := ?_) #[true, false, true, true, false, false, false, false, false, false, false, false, false, false, false] rfl rfl (any_of HT_.out (by kernel_rfl)) (fun _ _ _ h => h) (Or.inl ⟨by rfl, ?_⟩) ?_ ?_
                 rotate_left
                 ·intro w'
                  go_simp
                  with_reducible rfl
                 rotate_left
                 ·simp only [Act.put, gN, gO, gP, i64_w, i32_w]
                  rfl
                 refine pure_ (i := 4) (N := some 92) (v := ?_) (a' := ?_) #[true, false, true, true, true, false, false, false, false, false, false, false, false, false, false] rfl rfl (any_of HT_.out (by kernel_rfl)) (fun _ _ _ h => h) (Or.inl ⟨by rfl, ?_⟩) ?_ ?_
                 rotate_left
                 ·intro w'
                  go_simp
                  with_reducible rfl
                 rotate_left
                 ·simp only [Act.put, gN, gO, gP, i64_w, i32_w]
                  rfl
                 refine pure_ (i := 6) (N := some 94) (v := ?_) (a' := ?_) #[true, false, true, true, true, false, true, false, false, false, false, false, false, false, false] rfl rfl (any_of HT_.out (by kernel_rfl)) (fun _ _ _ h => h) (Or.inl ⟨by rfl, ?_⟩) ?_ ?_
                 rotate_left
                 ·intro w'
                  go_simp
                  with_reducible rfl
                 rotate_left
                 ·simp only [Act.put, gN, gO, gP, i64_w, i32_w]
                  rfl
                 refine pure_ (i := 7) (N := some 95) (v := ?_) (a' := ?_) #[true, false, true, true, true, false, true, true, false, false, false, false, false, false, false] rfl rfl (any_of HT_.out (by kernel_rfl)) (fun _ _ _ h => h) (Or.inl ⟨by rfl, ?_⟩) ?_ ?_
                 rotate_left
                 ·intro w'
                  go_simp
                  with_reducible rfl
                 rotate_left
                 ·simp only [Act.put, gN, gO, gP, i64_w, i32_w]
                  rfl
                 refine pure_ (i := 8) (N := some 96) (v := ?_) (a' := ?_) #[true, false, true, true, true, false, true, true, true, false, false, false, false, false, false] rfl rfl (any_of HT_.out (by kernel_rfl)) (fun _ _ _ h => h) (Or.inl ⟨by rfl, ?_⟩) ?_ ?_
                 rotate_left
                 ·intro w'
                  go_simp
                  with_reducible rfl
                 rotate_left
                 ·simp only [Act.put, gN, gO, gP, i64_w, i32_w]
                  rfl
                 refine take_ (i := 1) (N := some 89) (v := ?_) (a' := ?_) #[true, true, true, true, true, false, true, true, true, false, false, false, false, false, false] rfl rfl (take_ofW HT_.out HW_.out (by kernel_rfl)) (fun _ _ _ h => h) (Or.inl ⟨by rfl, ?_⟩) hHeld ?_ ?_
                 rotate_left
                 ·rintro w' ⟨s0, s1, s2, s3, s4, s5⟩
                  go_simp
                  with_reducible rfl
                 rotate_left
                 ·simp only [Act.put, gN, gO, gP, i64_w, i32_w]
                  rfl
                 refine take_ (i := 5) (N := some 93) (v := ?_) (a' := ?_) #[true, true, true, true, true, true, true, true, true, false, false, false, false, false, false] rfl rfl (take_ofW HT_.out HW_.out (by kernel_rfl)) (fun _ _ _ h => h) (Or.inl ⟨by rfl, ?_⟩) hHeld ?_ ?_
                 rotate_left
                 ·rintro w' ⟨s0, s1, s2, s3, s4, s5⟩
                  go_simp
                  with_reducible rfl
                 rotate_left
                 ·simp only [Act.put, gN, gO, gP, i64_w, i32_w]
                  rfl
                 refine take_ (i := 9) (N := some 97) (v := ?_) (a' := ?_) #[true, true, true, true, true, true, true, true, true, true, false, false, false, false, false] rfl rfl (take_ofW HT_.out HW_.out (by kernel_rfl)) (fun _ _ _ h => h) (Or.inl ⟨by rfl, ?_⟩) hHeld ?_ ?_
                 rotate_left
                 ·rintro w' ⟨s0, s1, s2, s3, s4, s5⟩
                  go_simp
                  with_reducible rfl
                 rotate_left
                 ·simp only [Act.put, gN, gO, gP, i64_w, i32_w]
                  rfl
                 refine pure_ (i := 10) (N := some 98) (v := ?_) (a' := ?_) #[true, true, true, true, true, true, true, true, true, true, true, false, false, false, false] rfl rfl (any_of HT_.out (by kernel_rfl)) (fun _ _ _ h => h) (Or.inl ⟨by rfl, ?_⟩) ?_ ?_
                 rotate_left
                 ·intro w'
                  go_simp
                  with_reducible rfl
                 rotate_left
                 ·simp only [Act.put, gN, gO, gP, i64_w, i32_w]
                  rfl
                 refine one_ (i := 11) (N := some 99) #[true, true, true, true, true, true, true, true, true, true, true, true, false, false, false] rfl rfl (one_of HT_.out (by kernel_rfl)) (by decide) (fun K hK => ?_)
                 refine value_ (w1 := ?_) (v := ?_) (by rfl) rfl ?_ ?_
                 rotate_left 2
                 ·go_simp
                  constructor
                  ·rfl
                  ·rfl
                 refine hK.out _ _ ⟨(gE (gC af.out _) 0).trans rfl, (gE (gC af.out _) 1).trans rfl, (gE (gC af.out _) 2).trans rfl, (gE (gC af.out _) 3).trans rfl, (World.cell?_alloc_lt _ _ _ (World.block_lt_of_cell? _ _ (hHeld.2.2.2.2.1))).trans (hHeld.2.2.2.2.1), (World.cell?_alloc_lt _ _ _ (World.block_lt_of_cell? _ _ (hHeld.2.2.2.2.2))).trans (hHeld.2.2.2.2.2)⟩ (fun hHeld => ?_)
                 clear hK K
                 refine norm_ (a' := ?_) ?_ ?_
                 rotate_left
                 ·show Act.put _ (some 99) _ = _
                  simp only [Act.put, gN, gO, gP, i64_w, i32_w]
                  rfl
                 refine last_ (i := 12) (N := some 100) #[true, true, true, true, true, true, true, true, true, true, true, true, true, false, false] rfl rfl (one_of HT_.out (by kernel_rfl)) (by decide) (fun K hK => ?_)
                 refine Kd.N_append_step k51 (w0 := w) w.heap.size (by rfl) (.tmp 89) (.tmp 99) 48 51 (.agg #[(.slice none 0 0), (.slice none 0 0), (.slice none 0 0), (.slice none 0 0), (.int .i64 0), (.bool false)]) 112 rfl Try.underlying48 info51 rfl (by decide) (by omega) aj x367000_2 (⟨([] : List (S118)), ([] : List (S115)), rd_L9 l1 aa, rd_L10 l0 aa, 0, true⟩ : S51) [.slice none 0 0, .slice none 0 0, .slice eg (rd_L9 l1 aa).length eh, .slice eb (rd_L10 l0 aa).length ec, .int .i64 0, .bool true] (fun k_ => ((ah k_ ∨ ai k_) ∨ w.heap.size ≤ k_) ∧ some k_ ≠ (.slice al y376.length am : Value).ownBlock ∧ k_ ≠ ab ∧ k_ ≠ ad) (fun k_ => ((fun k_ => ((ah k_ ∨ ai k_) ∨ w.heap.size ≤ k_) ∧ some k_ ≠ (.slice al y376.length am : Value).ownBlock ∧ k_ ≠ ab ∧ k_ ≠ ad)) k_ ∧ some k_ ≠ (aj : Value).ownBlock) rfl rfl ?aP (fun _ hk => hk) ?aF ?aO ?aB ?aS ?aL ?_
                 (case aP => exact (k51_mkF _ _ (⟨([] : List (S118)), ([] : List (S115)), rd_L9 l1 aa, rd_L10 l0 aa, 0, true⟩ : S51) (Nat.le_refl _) (Kd.F_nil _ _ _) (Nat.le_refl _) (Kd.F_nil _ _ _) (Kd.V_reads' (Kd.V_mono (ok' := (fun k_ => ((fun k_ => ((ah k_ ∨ ai k_) ∨ w.heap.size ≤ k_) ∧ some k_ ≠ (.slice al y376.length am : Value).ownBlock ∧ k_ ≠ ab ∧ k_ ≠ ad)) k_ ∧ some k_ ≠ (aj : Value).ownBlock)) (bJ.out) (fun k_ hk => ⟨⟨hk.1, ⟨hk.2.2.1, ⟨hk.2.2.2.1, hk.2.2.2.2⟩⟩⟩, hk.2.1⟩))).2.1 (Kd.V_F (Kd.V_mono (ok' := (fun k_ => ((fun k_ => ((ah k_ ∨ ai k_) ∨ w.heap.size ≤ k_) ∧ some k_ ≠ (.slice al y376.length am : Value).ownBlock ∧ k_ ≠ ab ∧ k_ ≠ ad)) k_ ∧ some k_ ≠ (aj : Value).ownBlock)) (bJ.out) (fun k_ hk => ⟨⟨hk.1, ⟨hk.2.2.1, ⟨hk.2.2.2.1, hk.2.2.2.2⟩⟩⟩, hk.2.1⟩))) (Kd.V_reads' (Kd.V_mono (ok' := (fun k_ => ((fun k_ => ((ah k_ ∨ ai k_) ∨ w.heap.size ≤ k_) ∧ some k_ ≠ (.slice al y376.length am : Value).ownBlock ∧ k_ ≠ ab ∧ k_ ≠ ad)) k_ ∧ some k_ ≠ (aj : Value).ownBlock)) (bI.out) (fun k_ hk => ⟨⟨hk.1, ⟨hk.2.2.1, ⟨hk.2.2.2.1, hk.2.2.2.2⟩⟩⟩, hk.2.1⟩))).2.1 (Kd.V_F (Kd.V_mono (ok' := (fun k_ => ((fun k_ => ((ah k_ ∨ ai k_) ∨ w.heap.size ≤ k_) ∧ some k_ ≠ (.slice al y376.length am : Value).ownBlock ∧ k_ ≠ ab ∧ k_ ≠ ad)) k_ ∧ some k_ ≠ (aj : Value).ownBlock)) (bI.out) (fun k_ hk => ⟨⟨hk.1, ⟨hk.2.2.1, ⟨hk.2.2.2.1, hk.2.2.2.2⟩⟩⟩, hk.2.1⟩)))))
                 (case aB => exact (by repeat (first | (with_reducible first | exact HB.out | apply gx | apply gy | apply gz | refine gG ?_ aA.out | refine gG ?_ aC.out) | exact HB.out)))
                 (case aF => exact (fun k_ hk => ⟨(.inr (Nat.le_trans (gA (by repeat (first | (with_reducible first | exact HB.out | apply gx | apply gy | apply gz | refine gG ?_ aA.out | refine gG ?_ aC.out) | exact HB.out))) hk)), Kd.fresh' (Kd.N_lt (by (with_reducible repeat (first | apply gH | apply gI | apply gJ)); exact aV.out)) k_ hk, Kd.freshB (g := ab) (o := .cells #[.slice al y376.length am, .slice none 0 0, .int .i64 0, .bool a2] 29 (0, 0)) (by (with_reducible repeat (first | refine gB ?_ _ | refine gD ?_ | refine gC ?_ _)); exact ac.out) k_ hk, Kd.freshB (g := ad) (o := .cells #[aj, .slice none 0 0, .int .i64 0, .bool a2] 50 (0, 0)) (by (with_reducible repeat (first | refine gB ?_ _ | refine gD ?_ | refine gC ?_ _)); exact af.out) k_ hk⟩))
                 (case aO => exact (by (with_reducible repeat (first | apply gH | apply gI | apply gJ)); exact ak.out))
                 (case aS => exact (gA (by repeat (first | (with_reducible first | exact HB.out | apply gx | apply gy | apply gz | refine gG ?_ aA.out | refine gG ?_ aC.out) | exact HB.out))))
                 (case aL => have := e7.out; omega)
                 intro gj w31 ho hb hg hat
                 rw [← e8.out] at ho
                 have an := q6 (Kd.V_afterv (ok := (fun k_ => ((ah k_ ∨ ai k_) ∨ w.heap.size ≤ k_) ∧ some k_ ≠ (.slice al y376.length am : Value).ownBlock ∧ k_ ≠ ab ∧ k_ ≠ ad)) (by (with_reducible repeat (first | apply gK | apply gL | apply gM)); exact Kd.V_mono ag.out (fun _ hk => ⟨⟨hk.1, ⟨hk.2.2.1, ⟨hk.2.2.2.1, hk.2.2.2.2⟩⟩⟩, hk.2.1⟩)) hg hat)
                 have ao := q6 (Kd.V_afterv (ok := (fun k_ => ((ah k_ ∨ ai k_) ∨ w.heap.size ≤ k_) ∧ some k_ ≠ (.slice al y376.length am : Value).ownBlock ∧ k_ ≠ ab ∧ k_ ≠ ad)) (by (with_reducible repeat (first | apply gK | apply gL | apply gM)); exact Kd.V_mono ae.out (fun _ hk => ⟨⟨hk.1, ⟨hk.2.2.1, ⟨hk.2.2.2.1, hk.2.2.2.2⟩⟩⟩, hk.2.1⟩)) hg hat)
                 have ap := q6 (blk_grown (g := ab) (o := .cells #[.slice al y376.length am, .slice none 0 0, .int .i64 0, .bool a2] 29 (0, 0)) (by (with_reducible repeat (first | refine gB ?_ _ | refine gD ?_ | refine gC ?_ _)); exact ac.out) hg (Kd.N_ne ak.out ac.out (by decide)))
                 have aq := q6 (blk_grown (g := ad) (o := .cells #[aj, .slice none 0 0, .int .i64 0, .bool a2] 50 (0, 0)) (by (with_reducible repeat (first | refine gB ?_ _ | refine gD ?_ | refine gC ?_ _)); exact af.out) hg (Kd.N_ne ak.out af.out (by decide)))
                 have ar := q6 (Kd.V_afterv (ok := (fun k_ => ((ah k_ ∨ ai k_) ∨ w.heap.size ≤ k_) ∧ some k_ ≠ (.slice al y376.length am : Value).ownBlock ∧ k_ ≠ ab ∧ k_ ≠ ad)) (by (with_reducible repeat (first | apply gK | apply gL | apply gM)); exact Kd.V_mono aE.out (fun _ hk => ⟨⟨hk.1, ⟨hk.2.2.1, ⟨hk.2.2.2.1, hk.2.2.2.2⟩⟩⟩, hk.2.1⟩)) hg hat)
                 have au := q6 (Kd.V_afterv (ok := (fun k_ => ((ah k_ ∨ ai k_) ∨ w.heap.size ≤ k_) ∧ some k_ ≠ (.slice al y376.length am : Value).ownBlock ∧ k_ ≠ ab ∧ k_ ≠ ad)) (by (with_reducible repeat (first | apply gK | apply gL | apply gM)); exact Kd.V_mono aJ.out (fun _ hk => ⟨⟨hk.1, ⟨hk.2.2.1, ⟨hk.2.2.2.1, hk.2.2.2.2⟩⟩⟩, hk.2.1⟩)) hg hat)
                 have av := q6 (Kd.V_afterv (ok := (fun k_ => ((ah k_ ∨ ai k_) ∨ w.heap.size ≤ k_) ∧ some k_ ≠ (.slice al y376.length am : Value).ownBlock ∧ k_ ≠ ab ∧ k_ ≠ ad)) (by (with_reducible repeat (first | apply gK | apply gL | apply gM)); exact Kd.V_mono aK.out (fun _ hk => ⟨⟨hk.1, ⟨hk.2.2.1, ⟨hk.2.2.2.1, hk.2.2.2.2⟩⟩⟩, hk.2.1⟩)) hg hat)
                 have ax := q6 (Kd.N_afterv (ok := (fun k_ => ((ah k_ ∨ ai k_) ∨ w.heap.size ≤ k_) ∧ k_ ≠ ab ∧ k_ ≠ ad)) (by (with_reducible repeat (first | apply gH | apply gI | apply gJ)); exact Kd.N_mono aV.out (fun _ hk => ⟨⟨hk.1, ⟨hk.2.2.1, hk.2.2.2⟩⟩, hk.2.1⟩)) hg hat)
                 have az := q6 (Kd.V_afterv (ok := (fun k_ => ((ah k_ ∨ ai k_) ∨ w.heap.size ≤ k_) ∧ some k_ ≠ (.slice al y376.length am : Value).ownBlock ∧ k_ ≠ ab ∧ k_ ≠ ad)) (by (with_reducible repeat (first | apply gK | apply gL | apply gM)); exact Kd.V_mono bI.out (fun _ hk => ⟨⟨hk.1, ⟨hk.2.2.1, ⟨hk.2.2.2.1, hk.2.2.2.2⟩⟩⟩, hk.2.1⟩)) hg hat)
                 have aQ := q6 (Kd.V_afterv (ok := (fun k_ => ((ah k_ ∨ ai k_) ∨ w.heap.size ≤ k_) ∧ some k_ ≠ (.slice al y376.length am : Value).ownBlock ∧ k_ ≠ ab ∧ k_ ≠ ad)) (by (with_reducible repeat (first | apply gK | apply gL | apply gM)); exact Kd.V_mono bJ.out (fun _ hk => ⟨⟨hk.1, ⟨hk.2.2.1, ⟨hk.2.2.2.1, hk.2.2.2.2⟩⟩⟩, hk.2.1⟩)) hg hat)
                 have ca := q6 (hb)
                 have el := q6 (ho)
                 clear ag
                 clear ae
                 clear ac
                 clear af
                 clear aE
                 clear aJ
                 clear aK
                 clear aV
                 clear bI
                 clear bJ
                 clear HB
                 clear ak
                 have ag := an
                 have ae := ao
                 have ac := ap
                 have af := aq
                 have aE := ar
                 have aJ := au
                 have aK := av
                 have aV := ax
                 have bI := az
                 have bJ := aQ
                 have HB := ca
                 have em := el
                 clear an ao ap aq ar au av ax az aQ ca el
                 clear ho hb hg hat
                 obtain ⟨cb, cc, en⟩ := Kd.N_slice em.out
                 (first | subst en | (injection en with f1_ a8 f3_; have a9 := f1_.symm; have ba := f3_.symm; clear f1_ a8 f3_; subst a9; subst ba))
                 refine hK.out _ _ ?_
                 clear hK K
                 refine norm_ (a' := ?_) ?_ ?_
                 rotate_left
                 ·show Act.put _ (some 100) _ = _
                  simp only [Act.put, gN, gO, gP, i64_w, i32_w]
                  rfl
                 refine pure_ (i := 13) (N := some 101) (v := ?_) (a' := ?_) #[true, true, true, true, true, true, true, true, true, true, true, true, true, true, false] rfl rfl (any_of HT_.out (by kernel_rfl)) (fun _ _ _ h => h) (Or.inl ⟨by rfl, ?_⟩) ?_ ?_
                 rotate_left
                 ·intro w'
                  go_simp
                  with_reducible rfl
                 rotate_left
                 ·simp only [Act.put, gN, gO, gP, i64_w, i32_w]
                  rfl
                 refine last_ (i := 14) (N := none) #[true, true, true, true, true, true, true, true, true, true, true, true, true, true, true] rfl rfl (one_of HT_.out (by kernel_rfl)) (by decide) (fun K hK => ?_)
                 have gl : w31.cell? ⟨ad, 0, none⟩ = some (aj) := (gE af.out 0).trans rfl
                 have gm := gF af.out 0
                 have gn := bm.out
                 have gp := bn.out
                 refine skip_ (w1 := ?_) (by rfl) rfl ?_ ?_
                 rotate_left
                 ·go_simp
                  rfl
                 refine hK.out _ _ ?_
                 clear hK K
                 refine done_ (done_of HT_.out (by kernel_rfl)) ?_
                 try go_wp2
                 go_roundg k3
                 case measure => have := ci.out; have := cj.out; have := cm.out; omega
                 case rel => exact ⟨((wrap64 ((wrap64 (bb + ((rd_L10 l0 aa).length : Int))) + ((rd_L9 l1 aa).length : Int)))), (wrap64 (aa + 1)), (y376), (y381), (.slice al y376.length am), (.slice cb y381.length cc), (by first | rfl | (simp; done) | (simp [*]; done)), (by first | rfl | (simp; done) | (simp [*]; done)), H', ⟨by have := ci.out; have := cj.out; have := cm.out; omega⟩, ⟨by (with_reducible repeat (first | apply gK | apply gL | apply gM)); exact Kd.V_mono (Kd.V_far (p := ⟨ad, 0, none⟩) (Kd.V_mono ag.out (fun k_ hk => (⟨hk, hk.1.2.2.2⟩ : _ ∧ k_ ≠ ad))) (fun _ hk => hk.2) (.slice cb y381.length cc)) (fun _ hk => ⟨hk.1.1.1, ⟨hk.1.1.2.1, ⟨hk.1.2, ⟨hk.1.1.2.2.1, hk.1.1.2.2.2⟩⟩⟩⟩)⟩, ⟨by (with_reducible repeat (first | apply gK | apply gL | apply gM)); exact Kd.V_mono (Kd.V_far (p := ⟨ad, 0, none⟩) (Kd.V_mono ae.out (fun k_ hk => (⟨hk, hk.1.2.2.2⟩ : _ ∧ k_ ≠ ad))) (fun _ hk => hk.2) (.slice cb y381.length cc)) (fun _ hk => ⟨hk.1.1.1, ⟨hk.1.1.2.1, ⟨hk.1.2, ⟨hk.1.1.2.2.1, hk.1.1.2.2.2⟩⟩⟩⟩)⟩, ⟨by (with_reducible repeat (first | apply gH | apply gI | apply gJ)); exact Kd.N_mono (Kd.N_far (p := ⟨ad, 0, none⟩) (Kd.N_mono aV.out (fun k_ hk => (⟨hk, hk.1.2.2⟩ : _ ∧ k_ ≠ ad))) (fun _ hk => hk.2) (.slice cb y381.length cc)) (fun _ hk => ⟨hk.1.1.1, ⟨hk.1.2, ⟨hk.1.1.2.1, hk.1.1.2.2⟩⟩⟩)⟩, ⟨by (with_reducible repeat (first | apply gH | apply gI | apply gJ)); exact Kd.N_mono (Kd.N_far (p := ⟨ad, 0, none⟩) (Kd.N_mono em.out (fun k_ hk => (⟨hk, hk.2.2.2⟩ : _ ∧ k_ ≠ ad))) (fun _ hk => hk.2) (.slice cb y381.length cc)) (fun _ hk => ⟨hk.1.1, ⟨hk.1.2.1, ⟨hk.1.2.2.1, hk.1.2.2.2⟩⟩⟩)⟩, ⟨by (with_reducible repeat (first | refine gB ?_ _ | refine gD ?_ | refine gC ?_ _)); refine blk_far ?_ bm.out _; (with_reducible repeat (first | refine gB ?_ _ | refine gD ?_ | refine gC ?_ _)); exact ac.out⟩, ⟨by (with_reducible repeat (first | refine gB ?_ _ | refine gD ?_ | refine gC ?_ _)); refine blk_put (cs := #[aj, .slice none 0 0, .int .i64 0, .bool a2]) ?_ 0 _ rfl; (with_reducible repeat (first | refine gB ?_ _ | refine gD ?_ | refine gC ?_ _)); exact af.out⟩, ⟨by repeat (first | (with_reducible first | exact HB.out | apply gx | apply gy | apply gz | refine gG ?_ aA.out | refine gG ?_ aC.out) | exact HB.out)⟩⟩
                ·rw [if_neg cv] at H
                 exact absurd H (by simp)
               ·rw [if_neg cu] at H
                exact absurd H (by simp)
              ·rw [if_neg ct] at H
               exact absurd H (by simp)
            ·rw [if_neg co] at H
             exact absurd H (by simp)
           ·rw [if_neg cn] at H
            exact absurd H (by simp)
        ·rw [if_neg bT] at H
         exact absurd H (by simp)
       ·rw [if_neg bS] at H
        exact absurd H (by simp)
      ·rw [if_neg bt] at H
       have dH : decide (aa < (l0.length : Int)) = false := decide_eq_false bt
       clear bt
       by_cases bK : bb > 60
       ·rw [if_pos bK] at H
        have ft : decide (60 < bb) = true := decide_eq_true bK
        clear bK
        have HT := q6 (Option.some.inj H)
        clear H
        go_wp2
        go_ret
        exact ⟨by first | rfl | (simp [HT.out]; done) | (simp [errW_none, errW_some] <;> rfl) | (simp [*, errW_none, errW_some] <;> rfl), by repeat (first | (with_reducible first | exact HB.out | apply gx | apply gy | apply gz | refine gG ?_ aA.out | refine gG ?_ aC.out) | exact HB.out)⟩
       ·rw [if_neg bK] at H
        have ft : decide (60 < bb) = false := decide_eq_false bK
        clear bK
        replace H := Option.bind_eq_some_iff.mp H
        obtain ⟨⟨cd, ce, cf, t387⟩, eo, H⟩ := H
        replace H : ((meddlerref17_Of.f k2 x367000_2 ([] : List (S115)) 0 a2).bind fun bt390 => ((meddlerref17_Same.f k2 cd ce cf t387 bt390.1 bt390.2.1 bt390.2.2.1 bt390.2.2.2).bind fun bk => (if bk = true then ((meddlerlaw17_known.f k2).bind fun aX => (some aX)) else (some false)))) = some true := H
        have fu := q6 eo
        clear eo
        replace H := Option.bind_eq_some_iff.mp H
        obtain ⟨⟨cE, cF, cG, t393⟩, ep, H⟩ := H
        replace H : ((meddlerref17_Same.f k2 cd ce cf t387 cE cF cG t393).bind fun bk => (if bk = true then ((meddlerlaw17_known.f k2).bind fun aX => (some aX)) else (some false))) = some true := H
        have fv := q6 ep
        clear ep
        replace H := Option.bind_eq_some_iff.mp H
        obtain ⟨bk, eq, H⟩ := H
        replace H : (if bk = true then ((meddlerlaw17_known.f k2).bind fun aX => (some aX)) else (some false)) = some true := H
        have fw := q6 eq
        clear eq
        by_cases cH : bk = true
        ·subst cH
         have H1 : ((meddlerlaw17_known.f k2).bind fun aX => (some aX)) = some true := by rw [if_pos rfl] at H; exact H
         clear H
         have H := H1
         clear H1
         replace H := Option.bind_eq_some_iff.mp H
         obtain ⟨aX, er, H⟩ := H
         replace H : (some aX) = some true := H
         have fx := q6 er
         clear er
         have HT := q6 (Option.some.inj H)
         clear H
         try go_wp2
         have an := q6 (gM ag.out)
         have ao := q6 (gM ae.out)
         have ap := q6 (gJ aw.out)
         have aq := q6 (gJ ak.out)
         have ar := q6 (gD ac.out)
         have au := q6 (gD af.out)
         have av := q6 (gz HB.out)
         clear ag
         clear ae
         clear aw
         clear ak
         clear ac
         clear af
         clear HB
         have ag := an
         have ae := ao
         have aw := ap
         have ak := aq
         have ac := ar
         have af := au
         have HB := av
         clear an ao ap aq ar au av
         obtain ⟨bL, bM, es⟩ := Kd.N_slice aw.out
         (first | subst es | (injection es with f1_ a8 f3_; have a9 := f1_.symm; have ba := f3_.symm; clear f1_ a8 f3_; subst a9; subst ba))
         refine start_ (n := 9) (S := fun w' => w'.cell? ⟨ab, 0, none⟩ = some (.slice bL x366000_2.length bM) ∧ w'.cell? ⟨ab, 1, none⟩ = some (.slice none 0 0) ∧ w'.cell? ⟨ab, 2, none⟩ = some (.int .i64 0) ∧ w'.cell? ⟨ab, 3, none⟩ = some (.bool a2) ∧ w'.cell? ⟨ad, 0, none⟩ = some (aj) ∧ w'.cell? ⟨ad, 1, none⟩ = some (.slice none 0 0) ∧ w'.cell? ⟨ad, 2, none⟩ = some (.int .i64 0) ∧ w'.cell? ⟨ad, 3, none⟩ = some (.bool a2)) (ds := []) #[false, false, false, false, false, false, false, false, false] (by kernel_rfl) rfl rfl ⟨(gE ac.out 0).trans rfl, (gE ac.out 1).trans rfl, (gE ac.out 2).trans rfl, (gE ac.out 3).trans rfl, (gE af.out 0).trans rfl, (gE af.out 1).trans rfl, (gE af.out 2).trans rfl, (gE af.out 3).trans rfl⟩ (fun hHeld => ?_); refine with_tabW meddlerlaw17_ReportTells.tab18 meddlerlaw17_ReportTells.bits18 (fun HT_ HW_ => ?_)
         generalize wr.drew = gq at ag ae aw ak ac af HB hHeld ⊢
         refine take_ (i := 0) (N := some 104) (v := ?_) (a' := ?_) #[true, false, false, false, false, false, false, false, false] rfl rfl (take_ofW HT_.out HW_.out (by kernel_rfl)) (fun _ _ _ h => h) (Or.inl ⟨by rfl, ?_⟩) hHeld ?_ ?_
         rotate_left
         ·rintro w' ⟨s0, s1, s2, s3, s4, s5, s6, s7⟩
          go_simp
          with_reducible rfl
         rotate_left
         ·simp only [Act.put, gN, gO, gP, i64_w, i32_w]
          rfl
         refine take_ (i := 2) (N := some 106) (v := ?_) (a' := ?_) #[true, false, true, false, false, false, false, false, false] rfl rfl (take_ofW HT_.out HW_.out (by kernel_rfl)) (fun _ _ _ h => h) (Or.inl ⟨by rfl, ?_⟩) hHeld ?_ ?_
         rotate_left
         ·rintro w' ⟨s0, s1, s2, s3, s4, s5, s6, s7⟩
          go_simp
          with_reducible rfl
         rotate_left
         ·simp only [Act.put, gN, gO, gP, i64_w, i32_w]
          rfl
         refine one_ (i := 1) (N := some 105) #[true, true, true, false, false, false, false, false, false] rfl rfl (one_of HT_.out (by kernel_rfl)) (by decide) (fun K hK => ?_)
         refine goes_ Try.func12 (by kernel_rfl) rfl #[.agg #[.slice bL x366000_2.length bM, .slice none 0 0, .int .i64 0, .bool a2]] (by rfl) rfl rfl (by (try simp only [List.map_toArray, List.map_cons, List.map_nil]); first | done | rfl | (simp only [List.length_drop, List.length_take]; rfl)) ?_
         refine (report_Of.calls k2 _ _ x366000_2 _ _ ([] : List (S115)) 0 a2 cd ce cf t387 _ ?side1 ?side2 ?side3 ?side4 fu.out).mono ?_
         (case side1 => repeat (first | exact (Kd.N_reads' aw.out).2.2 | (with_reducible refine Kd.C_alloc ?_ _) | (with_reducible refine Kd.C_drewN ?_ _) | (with_reducible refine Kd.C_drew ?_)))
         (case side2 => exact (Kd.N_reads' aw.out).2.1)
         (case side3 => exact Kd.C_nil _ _)
         (case side4 => exact Nat.le_refl _)
         rintro e gr ⟨gs, rfl, aU, hb⟩
         refine ⟨_, rfl, ?_⟩
         have an := q6 (Kd.V_elder' (by (with_reducible repeat (first | apply gK | apply gL | apply gM)); exact ag.out) (Kd.R_base aU) hb)
         have ao := q6 (Kd.V_elder' (by (with_reducible repeat (first | apply gK | apply gL | apply gM)); exact ae.out) (Kd.R_base aU) hb)
         have ap := q6 (Kd.N_elder' (by (with_reducible repeat (first | apply gH | apply gI | apply gJ)); exact aw.out) (Kd.R_base aU) hb)
         have aq := q6 (Kd.N_elder' (by (with_reducible repeat (first | apply gH | apply gI | apply gJ)); exact ak.out) (Kd.R_base aU) hb)
         have ar := q6 (Kd.R_lower (Kd.R_newM (M := fun k_ => (w.heap.size ≤ k_)) aU (gA (by repeat (first | (with_reducible first | exact HB.out | apply gx | apply gy | apply gz | refine gG ?_ aA.out | refine gG ?_ aC.out) | exact HB.out))) (fun k_ h_ => h_)) (gA (by repeat (first | (with_reducible first | exact HB.out | apply gx | apply gy | apply gz | refine gG ?_ aA.out | refine gG ?_ aC.out) | exact HB.out))))
         have au := q6 (blk_below (g := ab) (o := .cells #[.slice bL x366000_2.length bM, .slice none 0 0, .int .i64 0, .bool a2] 29 (0, 0)) (by (with_reducible repeat (first | refine gB ?_ _ | refine gD ?_ | refine gC ?_ _)); exact ac.out) hb)
         have av := q6 (blk_below (g := ad) (o := .cells #[aj, .slice none 0 0, .int .i64 0, .bool a2] 50 (0, 0)) (by (with_reducible repeat (first | refine gB ?_ _ | refine gD ?_ | refine gC ?_ _)); exact af.out) hb)
         have ax := q6 (below_step (by repeat (first | (with_reducible first | exact HB.out | apply gx | apply gy | apply gz | refine gG ?_ aA.out | refine gG ?_ aC.out) | exact HB.out)) hb)
         clear ag
         clear ae
         clear aw
         clear ak
         clear ac
         clear af
         clear HB
         have ag := an
         have ae := ao
         have aw := ap
         have ak := aq
         have aW := ar
         have ac := au
         have af := av
         have HB := ax
         clear an ao ap aq ar au av ax
         (try clear hb)
         (try clear dm)
         (try clear hk)
         (try clear hi)
         (try clear aU)
         obtain ⟨cI, cJ, et⟩ := Kd.N_slice ak.out
         (first | subst et | (injection et with f1_ a8 f3_; have a9 := f1_.symm; have ba := f3_.symm; clear f1_ a8 f3_; subst a9; subst ba))
         refine hK.out _ _ ⟨(gE ac.out 0).trans rfl, (gE ac.out 1).trans rfl, (gE ac.out 2).trans rfl, (gE ac.out 3).trans rfl, (gE af.out 0).trans rfl, (gE af.out 1).trans rfl, (gE af.out 2).trans rfl, (gE af.out 3).trans rfl⟩ (fun hHeld => ?_)
         clear hK K
         refine norm_ (a' := ?_) ?_ ?_
         rotate_left
         ·show Act.put _ (some 105) _ = _
          simp only [Act.put, gN, gO, gP, i64_w, i32_w]
          rfl
         refine one_ (i := 3) (N := some 107) #[true, true, true, true, false, false, false, false, false] rfl rfl (one_of HT_.out (by kernel_rfl)) (by decide) (fun K hK => ?_)
         refine goes_ Try.func18 (by kernel_rfl) rfl #[.agg #[.slice cI x367000_2.length cJ, .slice none 0 0, .int .i64 0, .bool a2]] (by rfl) rfl rfl (by (try simp only [List.map_toArray, List.map_cons, List.map_nil]); first | done | rfl | (simp only [List.length_drop, List.length_take]; rfl)) ?_
         refine (meddlerref17_Of.calls k2 _ _ x367000_2 _ _ ([] : List (S115)) 0 a2 cE cF cG t393 _ ?side1 ?side2 ?side3 ?side4 fv.out).mono ?_
         (case side1 => repeat (first | exact (Kd.N_reads' ak.out).2.2 | (with_reducible refine Kd.C_alloc ?_ _) | (with_reducible refine Kd.C_drewN ?_ _) | (with_reducible refine Kd.C_drew ?_)))
         (case side2 => exact (Kd.N_reads' ak.out).2.1)
         (case side3 => exact Kd.C_nil _ _)
         (case side4 => exact Nat.le_refl _)
         rintro e gt ⟨gu, rfl, aU, hb⟩
         refine ⟨_, rfl, ?_⟩
         have an := q6 (Kd.V_elder' (by (with_reducible repeat (first | apply gK | apply gL | apply gM)); exact ag.out) (Kd.R_base aU) hb)
         have ao := q6 (Kd.V_elder' (by (with_reducible repeat (first | apply gK | apply gL | apply gM)); exact ae.out) (Kd.R_base aU) hb)
         have ap := q6 (Kd.N_elder' (by (with_reducible repeat (first | apply gH | apply gI | apply gJ)); exact aw.out) (Kd.R_base aU) hb)
         have aq := q6 (Kd.N_elder' (by (with_reducible repeat (first | apply gH | apply gI | apply gJ)); exact ak.out) (Kd.R_base aU) hb)
         have ar := q6 (Kd.R_elder' (by (with_reducible repeat (first | apply Kd.R_alloc | apply Kd.R_drewN | apply Kd.R_drew)); exact aW.out) (Kd.R_base aU) hb)
         have au := q6 (Kd.R_lower (Kd.R_new' (Kd.R_newM (M := fun k_ => (w.heap.size ≤ k_)) aU (gA (by repeat (first | (with_reducible first | exact HB.out | apply gx | apply gy | apply gz | refine gG ?_ aA.out | refine gG ?_ aC.out) | exact HB.out))) (fun k_ h_ => h_)) (Kd.R_lt (by (with_reducible repeat (first | apply Kd.R_alloc | apply Kd.R_drewN | apply Kd.R_drew)); exact aW.out))) (gA (by repeat (first | (with_reducible first | exact HB.out | apply gx | apply gy | apply gz | refine gG ?_ aA.out | refine gG ?_ aC.out) | exact HB.out))))
         have av := q6 (blk_below (g := ab) (o := .cells #[.slice bL x366000_2.length bM, .slice none 0 0, .int .i64 0, .bool a2] 29 (0, 0)) (by (with_reducible repeat (first | refine gB ?_ _ | refine gD ?_ | refine gC ?_ _)); exact ac.out) hb)
         have ax := q6 (blk_below (g := ad) (o := .cells #[.slice cI x367000_2.length cJ, .slice none 0 0, .int .i64 0, .bool a2] 50 (0, 0)) (by (with_reducible repeat (first | refine gB ?_ _ | refine gD ?_ | refine gC ?_ _)); exact af.out) hb)
         have az := q6 (below_step (by repeat (first | (with_reducible first | exact HB.out | apply gx | apply gy | apply gz | refine gG ?_ aA.out | refine gG ?_ aC.out) | exact HB.out)) hb)
         clear ag
         clear ae
         clear aw
         clear ak
         clear aW
         clear ac
         clear af
         clear HB
         have ag := an
         have ae := ao
         have aw := ap
         have ak := aq
         have aW := ar
         have bj := au
         have ac := av
         have af := ax
         have HB := az
         clear an ao ap aq ar au av ax az
         (try clear hb)
         (try clear dm)
         (try clear hk)
         (try clear hi)
         (try clear aU)
         obtain ⟨fy, fz, eu⟩ := Kd.R_slice aW.out
         (first | subst eu | (injection eu with f1_ a8 f3_; have a9 := f1_.symm; have ba := f3_.symm; clear f1_ a8 f3_; subst a9; subst ba))
         obtain ⟨fA, fB, ev⟩ := Kd.R_slice bj.out
         (first | subst ev | (injection ev with f1_ a8 f3_; have a9 := f1_.symm; have ba := f3_.symm; clear f1_ a8 f3_; subst a9; subst ba))
         refine hK.out _ _ ⟨(gE ac.out 0).trans rfl, (gE ac.out 1).trans rfl, (gE ac.out 2).trans rfl, (gE ac.out 3).trans rfl, (gE af.out 0).trans rfl, (gE af.out 1).trans rfl, (gE af.out 2).trans rfl, (gE af.out 3).trans rfl⟩ (fun hHeld => ?_)
         clear hK K
         refine norm_ (a' := ?_) ?_ ?_
         rotate_left
         ·show Act.put _ (some 107) _ = _
          simp only [Act.put, gN, gO, gP, i64_w, i32_w]
          rfl
         refine one_ (i := 4) (N := some 108) #[true, true, true, true, true, false, false, false, false] rfl rfl (one_of HT_.out (by kernel_rfl)) (by decide) (fun K hK => ?_)
         refine goes_ Try.func17 (by kernel_rfl) rfl #[.agg #[.int .i64 cd, .int .i64 ce, .int .i64 cf, .slice fy t387.length fz], .agg #[.int .i64 cE, .int .i64 cF, .int .i64 cG, .slice fA t393.length fB]] (by rfl) rfl rfl (by (try simp only [List.map_toArray, List.map_cons, List.map_nil]); first | done | rfl | (simp only [List.length_drop, List.length_take]; rfl)) ?_
         with_reducible refine (meddlerref17_Same.calls k2 cd ce cf _ _ t387 cE cF cG _ _ t393 true _ ?side1 ?side2 ?side3 ?side4 fw.out).mono ?_
         (case side1 => repeat (first | exact (Kd.R_reads' aW.out).2.2 | (with_reducible refine Kd.C_alloc ?_ _) | (with_reducible refine Kd.C_drewN ?_ _) | (with_reducible refine Kd.C_drew ?_)))
         (case side2 => exact (Kd.R_reads' aW.out).2.1)
         (case side3 => repeat (first | exact (Kd.R_reads' bj.out).2.2 | (with_reducible refine Kd.C_alloc ?_ _) | (with_reducible refine Kd.C_drewN ?_ _) | (with_reducible refine Kd.C_drew ?_)))
         (case side4 => exact (Kd.R_reads' bj.out).2.1)
         rintro e gv ⟨rfl, hb⟩
         refine ⟨_, rfl, ?_⟩
         have an := q6 (Kd.V_below (by (with_reducible repeat (first | apply gK | apply gL | apply gM)); exact ag.out) hb)
         have ao := q6 (Kd.V_below (by (with_reducible repeat (first | apply gK | apply gL | apply gM)); exact ae.out) hb)
         have ap := q6 (Kd.N_below (by (with_reducible repeat (first | apply gH | apply gI | apply gJ)); exact aw.out) hb)
         have aq := q6 (Kd.N_below (by (with_reducible repeat (first | apply gH | apply gI | apply gJ)); exact ak.out) hb)
         have ar := q6 (Kd.R_below (by (with_reducible repeat (first | apply Kd.R_alloc | apply Kd.R_drewN | apply Kd.R_drew)); exact aW.out) hb)
         have au := q6 (Kd.R_below (by (with_reducible repeat (first | apply Kd.R_alloc | apply Kd.R_drewN | apply Kd.R_drew)); exact bj.out) hb)
         have av := q6 (blk_below (g := ab) (o := .cells #[.slice bL x366000_2.length bM, .slice none 0 0, .int .i64 0, .bool a2] 29 (0, 0)) (by (with_reducible repeat (first | refine gB ?_ _ | refine gD ?_ | refine gC ?_ _)); exact ac.out) hb)
         have ax := q6 (blk_below (g := ad) (o := .cells #[.slice cI x367000_2.length cJ, .slice none 0 0, .int .i64 0, .bool a2] 50 (0, 0)) (by (with_reducible repeat (first | refine gB ?_ _ | refine gD ?_ | refine gC ?_ _)); exact af.out) hb)
         have az := q6 (below_step (by repeat (first | (with_reducible first | exact HB.out | apply gx | apply gy | apply gz | refine gG ?_ aA.out | refine gG ?_ aC.out) | exact HB.out)) hb)
         clear ag
         clear ae
         clear aw
         clear ak
         clear aW
         clear bj
         clear ac
         clear af
         clear HB
         have ag := an
         have ae := ao
         have aw := ap
         have ak := aq
         have aW := ar
         have bj := au
         have ac := av
         have af := ax
         have HB := az
         clear an ao ap aq ar au av ax az
         (try clear hb)
         (try clear dm)
         (try clear hk)
         (try clear hi)
         refine hK.out _ _ ⟨(gE ac.out 0).trans rfl, (gE ac.out 1).trans rfl, (gE ac.out 2).trans rfl, (gE ac.out 3).trans rfl, (gE af.out 0).trans rfl, (gE af.out 1).trans rfl, (gE af.out 2).trans rfl, (gE af.out 3).trans rfl⟩ (fun hHeld => ?_)
         clear hK K
         refine norm_ (a' := ?_) ?_ ?_
         rotate_left
         ·show Act.put _ (some 108) _ = _
          simp only [Act.put, gN, gO, gP, i64_w, i32_w]
          rfl
         refine pure_ (i := 5) (N := some 109) (v := ?_) (a' := ?_) #[true, true, true, true, true, true, false, false, false] rfl rfl (any_of HT_.out (by kernel_rfl)) (fun _ _ _ h => h) (Or.inl ⟨by rfl, ?_⟩) ?_ ?_
         rotate_left
         ·intro w'
          go_simp
          with_reducible rfl
         rotate_left
         ·simp only [Act.put, gN, gO, gP, i64_w, i32_w]
          rfl
         refine one_ (i := 6) (N := some 110) #[true, true, true, true, true, true, true, false, false] rfl rfl (one_of HT_.out (by kernel_rfl)) (by decide) (fun K hK => ?_)
         refine goes_ Try.func13 (by kernel_rfl) rfl #[] (by rfl) rfl rfl (by (try simp only [List.map_toArray, List.map_cons, List.map_nil]); first | done | rfl | (simp only [List.length_drop, List.length_take]; rfl)) ?_
         with_reducible refine (meddlerlaw17_known.calls k2  aX _ fx.out).mono ?_
         rintro e gw ⟨rfl, hb⟩
         refine ⟨_, rfl, ?_⟩
         have an := q6 (Kd.V_below (by (with_reducible repeat (first | apply gK | apply gL | apply gM)); exact ag.out) hb)
         have ao := q6 (Kd.V_below (by (with_reducible repeat (first | apply gK | apply gL | apply gM)); exact ae.out) hb)
         have ap := q6 (Kd.N_below (by (with_reducible repeat (first | apply gH | apply gI | apply gJ)); exact aw.out) hb)
         have aq := q6 (Kd.N_below (by (with_reducible repeat (first | apply gH | apply gI | apply gJ)); exact ak.out) hb)
         have ar := q6 (Kd.R_below (by (with_reducible repeat (first | apply Kd.R_alloc | apply Kd.R_drewN | apply Kd.R_drew)); exact aW.out) hb)
         have au := q6 (Kd.R_below (by (with_reducible repeat (first | apply Kd.R_alloc | apply Kd.R_drewN | apply Kd.R_drew)); exact bj.out) hb)
         have av := q6 (blk_below (g := ab) (o := .cells #[.slice bL x366000_2.length bM, .slice none 0 0, .int .i64 0, .bool a2] 29 (0, 0)) (by (with_reducible repeat (first | refine gB ?_ _ | refine gD ?_ | refine gC ?_ _)); exact ac.out) hb)
         have ax := q6 (blk_below (g := ad) (o := .cells #[.slice cI x367000_2.length cJ, .slice none 0 0, .int .i64 0, .bool a2] 50 (0, 0)) (by (with_reducible repeat (first | refine gB ?_ _ | refine gD ?_ | refine gC ?_ _)); exact af.out) hb)
         have az := q6 (below_step (by repeat (first | (with_reducible first | exact HB.out | apply gx | apply gy | apply gz | refine gG ?_ aA.out | refine gG ?_ aC.out) | exact HB.out)) hb)
         clear ag
         clear ae
         clear aw
         clear ak
         clear aW
         clear bj
         clear ac
         clear af
         clear HB
         have ag := an
         have ae := ao
         have aw := ap
         have ak := aq
         have aW := ar
         have bj := au
         have ac := av
         have af := ax
         have HB := az
         clear an ao ap aq ar au av ax az
         (try clear hb)
         (try clear dm)
         (try clear hk)
         (try clear hi)
         refine hK.out _ _ ⟨(gE ac.out 0).trans rfl, (gE ac.out 1).trans rfl, (gE ac.out 2).trans rfl, (gE ac.out 3).trans rfl, (gE af.out 0).trans rfl, (gE af.out 1).trans rfl, (gE af.out 2).trans rfl, (gE af.out 3).trans rfl⟩ (fun hHeld => ?_)
         clear hK K
         refine norm_ (a' := ?_) ?_ ?_
         rotate_left
         ·show Act.put _ (some 110) _ = _
          simp only [Act.put, gN, gO, gP, i64_w, i32_w]
          rfl
         refine pure_ (i := 7) (N := some 111) (v := ?_) (a' := ?_) #[true, true, true, true, true, true, true, true, false] rfl rfl (any_of HT_.out (by kernel_rfl)) (fun _ _ _ h => h) (Or.inl ⟨by rfl, ?_⟩) ?_ ?_
         rotate_left
         ·intro w'
          go_simp
          with_reducible rfl
         rotate_left
         ·simp only [Act.put, gN, gO, gP, i64_w, i32_w]
          rfl
         refine pure_ (i := 8) (N := some 6) (v := ?_) (a' := ?_) #[true, true, true, true, true, true, true, true, true] rfl rfl (any_of HT_.out (by kernel_rfl)) (fun _ _ _ h => h) (Or.inl ⟨by rfl, ?_⟩) ?_ ?_
         rotate_left
         ·intro w'
          go_simp
          with_reducible rfl
         rotate_left
         ·simp only [Act.put, gN, gO, gP, i64_w, i32_w]
          rfl
         refine done_ (done_of HT_.out (by kernel_rfl)) ?_
         try go_wp2
         go_ret
         exact ⟨by first | rfl | (simp [HT.out]; done) | (simp [errW_none, errW_some] <;> rfl) | (simp [*, errW_none, errW_some] <;> rfl), by repeat (first | (with_reducible first | exact HB.out | apply gx | apply gy | apply gz | refine gG ?_ aA.out | refine gG ?_ aC.out) | exact HB.out)⟩
        ·replace cH := Bool.eq_false_iff.mpr cH
         subst cH
         have H1 : (some false) = some true := by rw [if_neg (show ¬ (false = true) by decide)] at H; exact H
         exact absurd H1 (by simp)
end Go.Proofs.Ytadnjibgdpjnlaa.Rp
