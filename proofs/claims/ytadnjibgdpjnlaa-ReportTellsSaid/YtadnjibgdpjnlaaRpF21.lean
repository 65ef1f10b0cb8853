/- An own text of this seat: Lean functions with the answers of Go functions, and that the Go code comes to them. Written by a program of this session out of the translation. -/
import Derived.Test.YtadnjibgdpjnlaaRpx0
import Derived.Test.YtadnjibgdpjnlaaRpF28
import Derived.Test.YtadnjibgdpjnlaaRpF31
namespace Go.Proofs.Ytadnjibgdpjnlaa.Rp
open Go.RowKit Go.Proofs.YtadnjibgdpjnlaaW.PrintWords Go.Proofs.YtadnjibgdpjnlaaW.PrintLast Go.Proofs.YtadnjibgdpjnlaaW.PrintMore
open Go.Proofs.YtadnjibgdpjnlaaW.PrintWords renaming below_alloc → dj, pw_below_drewN → dk, below_drew1 → dl
open List renaming setIfInBounds_toArray → dm, set_cons_zero → dn, set_cons_succ → dp
open Go.World renaming block_lt_of_cell? → dq
theorem q21 {p : Prop} (h : p) : Aside0 p := ⟨h⟩
attribute [local go_sem] max2_int min2_int max_two min_two max_three min_three max_four min_four   -- for this text's walks alone
set_option linter.unusedVariables false
set_option linter.unusedSimpArgs false

/-! ### meddlerref15_All: function 21 -/
mutual
def meddlerref15_All.l0 : Nat → List (S31) → List (S24) → Int → Option ((List (S24)))
 | 0, _, _, _ => none
 | k + 1, x0, x3, x4 => if x4 < (x0.length : Int) then (meddlerref15_All.l1 k x0 x3 x4 0) else (some x3)
def meddlerref15_All.l1 : Nat → List (S31) → List (S24) → Int → Int → Option ((List (S24)))
 | 0, _, _, _, _ => none
 | k + 1, x0, x3, x4, x5 => if x5 < (x0.length : Int) then (if 0 ≤ x4 then (if x4 < (x0.length : Int) then (if 0 ≤ x5 then (if ((rd_T31 x0 x4).f0) < ((rd_T31 x0 x5).f0) then ((meddlerref15_Meet.f ((rd_T31 x0 x4).f0) ((rd_T31 x0 x4).f1) ((rd_T31 x0 x4).f2) ((rd_T31 x0 x4).f3) ((rd_T31 x0 x4).f4) ((rd_T31 x0 x4).f5) ((rd_T31 x0 x5).f0) ((rd_T31 x0 x5).f1) ((rd_T31 x0 x5).f2) ((rd_T31 x0 x5).f3) ((rd_T31 x0 x5).f4) ((rd_T31 x0 x5).f5)).bind fun bY => (if bY = true then ((meddlerref15_Lay.f k x3 2 ((rd_T31 x0 x4).f0) ((rd_T31 x0 x4).f1) 0 ((rd_T31 x0 x5).f0) ((rd_T31 x0 x5).f1)).bind fun bb => (meddlerref15_All.l1 k x0 bb x4 (wrap64 (x5 + 1)))) else (meddlerref15_All.l1 k x0 x3 x4 (wrap64 (x5 + 1))))) else (meddlerref15_All.l1 k x0 x3 x4 (wrap64 (x5 + 1)))) else (none)) else (none)) else (none)) else (meddlerref15_All.l0 k x0 x3 (wrap64 (x4 + 1)))
end
def meddlerref15_All.f (k : Nat) (l0 : List (S31)) : Option ((List (S24))) := meddlerref15_All.l0 k l0 ([] : List (S24)) 0
theorem meddlerref15_All.mono_l : ∀ k, (∀ y0 y1 y2, LeO (meddlerref15_All.l0 k y0 y1 y2) (meddlerref15_All.l0 (k + 1) y0 y1 y2)) ∧ (∀ y0 y1 y2 y3, LeO (meddlerref15_All.l1 k y0 y1 y2 y3) (meddlerref15_All.l1 (k + 1) y0 y1 y2 y3))
 | 0 => ⟨fun _ _ _ r h => by simp [meddlerref15_All.l0] at h, fun _ _ _ _ r h => by simp [meddlerref15_All.l1] at h⟩
 | k + 1 => by
  obtain ⟨bq, br⟩ := meddlerref15_All.mono_l k
  refine ⟨?_, ?_⟩
  ·intro y0 y1 y2
   unfold meddlerref15_All.l0
   repeat' first
   | (with_reducible exact bq _ _ _)
   | (with_reducible exact br _ _ _ _)
   | (with_reducible exact meddlerref15_Lay.mono _ _ _ _ _ _ _ _)
   | (with_reducible exact LeO.refl _)
   | (with_reducible exact LeO.none _)
   | (with_reducible refine LeO.ite ?_ ?_)
   | (with_reducible refine LeO.bind ?_ (fun _ => ?_))
   | exact bq _ _ _
   | exact br _ _ _ _
   | exact meddlerref15_Lay.mono _ _ _ _ _ _ _ _
   | exact LeO.none _
   | refine LeO.ite ?_ ?_
   | refine LeO.bind ?_ (fun _ => ?_)
  ·intro y0 y1 y2 y3
   unfold meddlerref15_All.l1
   repeat' first
   | (with_reducible exact bq _ _ _)
   | (with_reducible exact br _ _ _ _)
   | (with_reducible exact meddlerref15_Lay.mono _ _ _ _ _ _ _ _)
   | (with_reducible exact LeO.refl _)
   | (with_reducible exact LeO.none _)
   | (with_reducible refine LeO.ite ?_ ?_)
   | (with_reducible refine LeO.bind ?_ (fun _ => ?_))
   | exact bq _ _ _
   | exact br _ _ _ _
   | exact meddlerref15_Lay.mono _ _ _ _ _ _ _ _
   | exact LeO.none _
   | refine LeO.ite ?_ ?_
   | refine LeO.bind ?_ (fun _ => ?_)
theorem meddlerref15_All.mono : ∀ a0 k, LeO (meddlerref15_All.f k a0) (meddlerref15_All.f (k + 1) a0) := by
 intro a0 k
 obtain ⟨bq, br⟩ := meddlerref15_All.mono_l k
 unfold meddlerref15_All.f
 repeat' first
   | (with_reducible exact bq _ _ _)
   | (with_reducible exact br _ _ _ _)
   | (with_reducible exact meddlerref15_Lay.mono _ _ _ _ _ _ _ _)
   | (with_reducible exact LeO.refl _)
   | (with_reducible exact LeO.none _)
   | (with_reducible refine LeO.ite ?_ ?_)
   | (with_reducible refine LeO.bind ?_ (fun _ => ?_))
   | exact bq _ _ _
   | exact br _ _ _ _
   | exact meddlerref15_Lay.mono _ _ _ _ _ _ _ _
   | exact LeO.none _
   | refine LeO.ite ?_ ?_
   | refine LeO.bind ?_ (fun _ => ?_)
def meddlerref15_All.T8 : Bool × List (List Nat × List Nat) := (true, [([], []), ([], []), ([0, 1], [0, 1]), ([2], [2]), ([3], [3]), ([], []), ([], []), ([5, 6], [5, 6]), ([7], [7]), ([8], [8]), ([4, 9], [4, 9]), ([10], [10]), ([11], [11]), ([11], [11]), ([12, 13, 11], [11, 12, 13]), ([14, 11], [11, 14]), ([11], [11]), ([11], [11]), ([16, 17, 11], [11, 16, 17]), ([18, 11], [11, 18]), ([15, 19, 11, 11], [11, 15, 19]), ([11, 20], [11, 20])])
def meddlerref15_All.B8 : List Nat := [0, 0, 3, 7, 15, 0, 0, 96, 224, 480, 1023, 2047, 4095, 4095, 16383, 32767, 4095, 4095, 200703, 462847, 1048575, 2097151]
theorem meddlerref15_All.tab8 : rtab .any (opsOf Try.f21 8) = meddlerref15_All.T8 := by kernel_rfl
theorem meddlerref15_All.bits8 : waitsOk meddlerref15_All.T8.2 meddlerref15_All.B8 = true := by kernel_rfl
def meddlerref15_All.T9 : Bool × List (List Nat × List Nat) := (true, [([], []), ([], []), ([], []), ([1, 2], [1, 2]), ([3], [3]), ([4], [4]), ([], []), ([], []), ([6, 7], [6, 7]), ([8], [8]), ([9], [9]), ([], []), ([], []), ([11, 12], [11, 12]), ([13], [13]), ([14], [14]), ([], []), ([], []), ([16, 17], [16, 17]), ([18], [18]), ([19], [19]), ([5, 10, 15, 20], [5, 10, 15, 20]), ([0, 21], [0, 21]), ([22, 22, 0, 1, 2, 3, 4, 5, 6, 7, 8, 9, 10, 11, 12, 13, 14, 15, 16, 17, 18, 19, 20, 21, 22], [0, 22])])
def meddlerref15_All.B9 : List Nat := [0, 0, 0, 6, 14, 30, 0, 0, 192, 448, 960, 0, 0, 6144, 14336, 30720, 0, 0, 196608, 458752, 983040, 2097150, 4194303, 8388607]
theorem meddlerref15_All.tab9 : rtab .any (opsOf Try.f21 9) = meddlerref15_All.T9 := by kernel_rfl
theorem meddlerref15_All.bits9 : waitsOk meddlerref15_All.T9.2 meddlerref15_All.B9 = true := by kernel_rfl
set_option maxHeartbeats 8000000 in
set_option maxRecDepth 100000 in
theorem meddlerref15_All.calls (k : Nat) (A0 : Option Addr) (c0 : Nat) (l0 : List (S31)) (r : List (S24)) (w : World) (cC : Kd.C k31 w A0 l0.length l0) (cD : l0.length ≤ c0) (h : meddlerref15_All.f k l0 = some r) :
  Calls Try.prog 21 #[.slice A0 l0.length c0] w fun e w' => ∃ cE : Value, e = .returned (cE) ∧ Kd.R k24 24 w' w.heap.size (fun _ => True) cE r ∧ Below w.heap.size w w' := by
 have hu31 := Try.underlying31
 have hu24 := Try.underlying24
 have ar := q21 cC
 have c1 := q21 cD
 clear cC cD
 have HB := q21 (Below.refl w.heap.size w)
 have H : (meddlerref15_All.l0 k l0 ([] : List (S24)) 0) = some r := h
 clear h
 have H' := q21 H
 clear H
 go_enter Try.func21, Try.ntmps21
 go_wp2
 go_loopg [3, 4] k (fun kq v3 v4 w' => ∃ (bZ : List (S24)) (aa : Int), v4 = .int .i64 aa ∧ Aside0 (meddlerref15_All.l0 kq l0 bZ aa = some r) ∧ Aside0 (kq ≤ k) ∧ Aside0 (Kd.R k24 24 w' w.heap.size (fun _ => True) v3 bZ) ∧ Aside0 (Below w.heap.size w w'))
 case atStart => exact ⟨(([] : List (S24))), (0), (by first | rfl | (simp; done) | (simp [*]; done)), H', ⟨Nat.le_refl _⟩, ⟨by first | exact Kd.R_nil _ _ _ _ _ | exact Kd.N_nil _ _ _ _ _ | exact Kd.V_nil _ _ _ _ _ | exact Kd.Q_nil _ _ _ _ _ | exact Kd.S_nil _ _ _ _ _⟩, ⟨by repeat (first | (with_reducible first | exact HB.out | apply dj | apply dk | apply dl) | exact HB.out)⟩⟩
 case round =>
  clear H'
  obtain ⟨bZ, aa, rfl, HA, bo, ac, HB⟩ := hrel
  cases gk with
  | zero => exact absurd HA.out (by simp [meddlerref15_All.l0])
  | succ k1 =>
   have H := HA.out
   clear HA
   simp only [meddlerref15_All.l0] at H
   by_cases c2 : aa < (l0.length : Int)
   ·rw [if_pos c2] at H
    have cF : decide (aa < (l0.length : Int)) = true := decide_eq_true c2
    clear c2
    have H' := q21 H
    clear H
    go_wp2
    go_loopg [3, 5] k1 (fun kq v3 v5 w' => ∃ (x3_2 : List (S24)) (ab : Int), v5 = .int .i64 ab ∧ Aside0 (meddlerref15_All.l1 kq l0 x3_2 aa ab = some r) ∧ Aside0 (kq ≤ k1) ∧ Aside0 (Kd.R k24 24 w' w.heap.size (fun _ => True) v3 x3_2) ∧ Aside0 (Below w.heap.size w w'))
    case atStart => exact ⟨(bZ), (0), (by first | rfl | (simp; done) | (simp [*]; done)), H', ⟨Nat.le_refl _⟩, ⟨by (with_reducible repeat (first | apply Kd.R_alloc | apply Kd.R_drewN | apply Kd.R_drew)); exact ac.out⟩, ⟨by repeat (first | (with_reducible first | exact HB.out | apply dj | apply dk | apply dl) | exact HB.out)⟩⟩
    case round =>
     clear H'
     try clear c2
     try clear cF
     try clear p2
     obtain ⟨x3_2, ab, rfl, HA, bp, ac, HB⟩ := hrel
     cases gk with
     | zero => exact absurd HA.out (by simp [meddlerref15_All.l1])
     | succ k2 =>
      have H := HA.out
      clear HA
      simp only [meddlerref15_All.l1] at H
      by_cases c3 : ab < (l0.length : Int)
      ·rw [if_pos c3] at H
       have cK : decide (ab < (l0.length : Int)) = true := decide_eq_true c3
       clear c3
       by_cases c4 : 0 ≤ aa
       ·rw [if_pos c4] at H
        have c8 : decide (0 ≤ aa) = true := decide_eq_true c4
        clear c4
        by_cases c5 : aa < (l0.length : Int)
        ·rw [if_pos c5] at H
         have da : decide (aa < (l0.length : Int)) = true := decide_eq_true c5
         clear c5
         by_cases c6 : 0 ≤ ab
         ·rw [if_pos c6] at H
          have db : decide (0 ≤ ab) = true := decide_eq_true c6
          clear c6
          by_cases c7 : ((rd_T31 l0 aa).f0) < ((rd_T31 l0 ab).f0)
          ·rw [if_pos c7] at H
           have cL : decide (((rd_T31 l0 aa).f0) < ((rd_T31 l0 ab).f0)) = true := decide_eq_true c7
           clear c7
           replace H := Option.bind_eq_some_iff.mp H
           obtain ⟨bY, cG, H⟩ := H
           replace H : (if bY = true then ((meddlerref15_Lay.f k2 x3_2 2 ((rd_T31 l0 aa).f0) ((rd_T31 l0 aa).f1) 0 ((rd_T31 l0 ab).f0) ((rd_T31 l0 ab).f1)).bind fun bb => (meddlerref15_All.l1 k2 l0 bb aa (wrap64 (ab + 1)))) else (meddlerref15_All.l1 k2 l0 x3_2 aa (wrap64 (ab + 1)))) = some r := H
           have A8 := q21 cG
           clear cG
           by_cases c9 : bY = true
           ·subst c9
            have H1 : ((meddlerref15_Lay.f k2 x3_2 2 ((rd_T31 l0 aa).f0) ((rd_T31 l0 aa).f1) 0 ((rd_T31 l0 ab).f0) ((rd_T31 l0 ab).f1)).bind fun bb => (meddlerref15_All.l1 k2 l0 bb aa (wrap64 (ab + 1)))) = some r := by rw [if_pos rfl] at H; exact H
            clear H
            have H := H1
            clear H1
            replace H := Option.bind_eq_some_iff.mp H
            obtain ⟨bb, cH, H⟩ := H
            replace H : (meddlerref15_All.l1 k2 l0 bb aa (wrap64 (ab + 1))) = some r := H
            have cM := q21 cH
            clear cH
            have H' := q21 H
            clear H
            try go_wp2
            have ad := q21 (Kd.R_drew ac.out)
            have ae := q21 (dl HB.out)
            clear ac
            clear HB
            have ac := ad
            have HB := ae
            clear ad ae
            have aI : 0 ≤ (aa : Int) := of_decide_eq_true (by first | (with_reducible assumption) | assumption)
            have aJ : aa < (l0.length : Int) := of_decide_eq_true (by first | (with_reducible assumption) | assumption)
            obtain ⟨ad334, bw, af, ag, ah, ai, aj, ak⟩ := at_T31 ar.out aa aI aJ
            have aw := ak
            have ax := aj
            have ay := ai
            have az := ah
            have aA := ag
            have aB := af
            cases bw
            replace af := (HB.out.cell (dq w _ af)).trans af
            replace ag := (HB.out.cell (dq w _ ag)).trans ag
            replace ah := (HB.out.cell (dq w _ ah)).trans ah
            replace ai := (HB.out.cell (dq w _ ai)).trans ai
            replace aj := (HB.out.cell (dq w _ aj)).trans aj
            replace ak := (HB.out.cell (dq w _ ak)).trans ak
            replace aI := eq_true aI
            replace aJ := eq_true aJ
            have aK : 0 ≤ (ab : Int) := of_decide_eq_true (by first | (with_reducible assumption) | assumption)
            have aL : ab < (l0.length : Int) := of_decide_eq_true (by first | (with_reducible assumption) | assumption)
            obtain ⟨bx, bz, al, am, an, ao, ap, aq⟩ := at_T31 ar.out ab aK aL
            have aC := aq
            have aD := ap
            have aE := ao
            have aF := an
            have aG := am
            have aH := al
            obtain rfl : ad334 = bx := (by injection bz)
            replace al := (HB.out.cell (dq w _ al)).trans al
            replace am := (HB.out.cell (dq w _ am)).trans am
            replace an := (HB.out.cell (dq w _ an)).trans an
            replace ao := (HB.out.cell (dq w _ ao)).trans ao
            replace ap := (HB.out.cell (dq w _ ap)).trans ap
            replace aq := (HB.out.cell (dq w _ aq)).trans aq
            replace aK := eq_true aK
            replace aL := eq_true aL
            have bs : 0 ≤ (aa : Int) := of_decide_eq_true (by first | (with_reducible assumption) | assumption)
            have bt : aa < (l0.length : Int) := of_decide_eq_true (by first | (with_reducible assumption) | assumption)
            obtain ⟨co, cp, aM, aN, aO, aP, aQ, aR⟩ := at_T31 ar.out aa bs bt
            have bc := aR
            have bd := aQ
            have be := aP
            have bf := aO
            have bg := aN
            have bh := aM
            obtain rfl : ad334 = co := (by injection cp)
            replace aM := (HB.out.cell (dq w _ aM)).trans aM
            replace aN := (HB.out.cell (dq w _ aN)).trans aN
            replace aO := (HB.out.cell (dq w _ aO)).trans aO
            replace aP := (HB.out.cell (dq w _ aP)).trans aP
            replace aQ := (HB.out.cell (dq w _ aQ)).trans aQ
            replace aR := (HB.out.cell (dq w _ aR)).trans aR
            replace bs := eq_true bs
            replace bt := eq_true bt
            have bu : 0 ≤ (ab : Int) := of_decide_eq_true (by first | (with_reducible assumption) | assumption)
            have bv : ab < (l0.length : Int) := of_decide_eq_true (by first | (with_reducible assumption) | assumption)
            obtain ⟨cq, cr, aS, aT, aU, aV, aW, aX⟩ := at_T31 ar.out ab bu bv
            have bi := aX
            have bj := aW
            have bk := aV
            have bl := aU
            have bm := aT
            have bn := aS
            obtain rfl : ad334 = cq := (by injection cr)
            replace aS := (HB.out.cell (dq w _ aS)).trans aS
            replace aT := (HB.out.cell (dq w _ aT)).trans aT
            replace aU := (HB.out.cell (dq w _ aU)).trans aU
            replace aV := (HB.out.cell (dq w _ aV)).trans aV
            replace aW := (HB.out.cell (dq w _ aW)).trans aW
            replace aX := (HB.out.cell (dq w _ aX)).trans aX
            replace bu := eq_true bu
            replace bv := eq_true bv
            refine start_ (n := 22) (S := fun w' => w'.cell? (ad334.add ((aa).toNat * 6)) = some (.int .i64 ((rd_T31 l0 aa).f0)) ∧ w'.cell? ⟨(ad334.add ((aa).toNat * 6)).block, (ad334.add ((aa).toNat * 6)).off + 1, none⟩ = some (.int .i64 ((rd_T31 l0 aa).f1)) ∧ w'.cell? ⟨(ad334.add ((aa).toNat * 6)).block, (ad334.add ((aa).toNat * 6)).off + 2, none⟩ = some (.bool ((rd_T31 l0 aa).f2)) ∧ w'.cell? ⟨(ad334.add ((aa).toNat * 6)).block, (ad334.add ((aa).toNat * 6)).off + 3, none⟩ = some (.int .i64 ((rd_T31 l0 aa).f3)) ∧ w'.cell? ⟨(ad334.add ((aa).toNat * 6)).block, (ad334.add ((aa).toNat * 6)).off + 4, none⟩ = some (.bool ((rd_T31 l0 aa).f4)) ∧ w'.cell? ⟨(ad334.add ((aa).toNat * 6)).block, (ad334.add ((aa).toNat * 6)).off + 5, none⟩ = some (.int .i64 ((rd_T31 l0 aa).f5)) ∧ w'.cell? (ad334.add ((ab).toNat * 6)) = some (.int .i64 ((rd_T31 l0 ab).f0)) ∧ w'.cell? ⟨(ad334.add ((ab).toNat * 6)).block, (ad334.add ((ab).toNat * 6)).off + 1, none⟩ = some (.int .i64 ((rd_T31 l0 ab).f1)) ∧ w'.cell? ⟨(ad334.add ((ab).toNat * 6)).block, (ad334.add ((ab).toNat * 6)).off + 2, none⟩ = some (.bool ((rd_T31 l0 ab).f2)) ∧ w'.cell? ⟨(ad334.add ((ab).toNat * 6)).block, (ad334.add ((ab).toNat * 6)).off + 3, none⟩ = some (.int .i64 ((rd_T31 l0 ab).f3)) ∧ w'.cell? ⟨(ad334.add ((ab).toNat * 6)).block, (ad334.add ((ab).toNat * 6)).off + 4, none⟩ = some (.bool ((rd_T31 l0 ab).f4)) ∧ w'.cell? ⟨(ad334.add ((ab).toNat * 6)).block, (ad334.add ((ab).toNat * 6)).off + 5, none⟩ = some (.int .i64 ((rd_T31 l0 ab).f5)) ∧ w'.cell? (ad334.add ((aa).toNat * 6)) = some (.int .i64 ((rd_T31 l0 aa).f0)) ∧ w'.cell? ⟨(ad334.add ((aa).toNat * 6)).block, (ad334.add ((aa).toNat * 6)).off + 1, none⟩ = some (.int .i64 ((rd_T31 l0 aa).f1)) ∧ w'.cell? ⟨(ad334.add ((aa).toNat * 6)).block, (ad334.add ((aa).toNat * 6)).off + 2, none⟩ = some (.bool ((rd_T31 l0 aa).f2)) ∧ w'.cell? ⟨(ad334.add ((aa).toNat * 6)).block, (ad334.add ((aa).toNat * 6)).off + 3, none⟩ = some (.int .i64 ((rd_T31 l0 aa).f3)) ∧ w'.cell? ⟨(ad334.add ((aa).toNat * 6)).block, (ad334.add ((aa).toNat * 6)).off + 4, none⟩ = some (.bool ((rd_T31 l0 aa).f4)) ∧ w'.cell? ⟨(ad334.add ((aa).toNat * 6)).block, (ad334.add ((aa).toNat * 6)).off + 5, none⟩ = some (.int .i64 ((rd_T31 l0 aa).f5)) ∧ w'.cell? (ad334.add ((ab).toNat * 6)) = some (.int .i64 ((rd_T31 l0 ab).f0)) ∧ w'.cell? ⟨(ad334.add ((ab).toNat * 6)).block, (ad334.add ((ab).toNat * 6)).off + 1, none⟩ = some (.int .i64 ((rd_T31 l0 ab).f1)) ∧ w'.cell? ⟨(ad334.add ((ab).toNat * 6)).block, (ad334.add ((ab).toNat * 6)).off + 2, none⟩ = some (.bool ((rd_T31 l0 ab).f2)) ∧ w'.cell? ⟨(ad334.add ((ab).toNat * 6)).block, (ad334.add ((ab).toNat * 6)).off + 3, none⟩ = some (.int .i64 ((rd_T31 l0 ab).f3)) ∧ w'.cell? ⟨(ad334.add ((ab).toNat * 6)).block, (ad334.add ((ab).toNat * 6)).off + 4, none⟩ = some (.bool ((rd_T31 l0 ab).f4)) ∧ w'.cell? ⟨(ad334.add ((ab).toNat * 6)).block, (ad334.add ((ab).toNat * 6)).off + 5, none⟩ = some (.int .i64 ((rd_T31 l0 ab).f5))) (ds := []) #[false, false, false, false, false, false, false, false, false, false, false, false, false, false, false, false, false, false, false, false, false, false] (by kernel_rfl) rfl rfl ⟨((HB.out.cell (dq w _ aB)).trans aB), ((HB.out.cell (dq w _ aA)).trans aA), ((HB.out.cell (dq w _ az)).trans az), ((HB.out.cell (dq w _ ay)).trans ay), ((HB.out.cell (dq w _ ax)).trans ax), ((HB.out.cell (dq w _ aw)).trans aw), ((HB.out.cell (dq w _ aH)).trans aH), ((HB.out.cell (dq w _ aG)).trans aG), ((HB.out.cell (dq w _ aF)).trans aF), ((HB.out.cell (dq w _ aE)).trans aE), ((HB.out.cell (dq w _ aD)).trans aD), ((HB.out.cell (dq w _ aC)).trans aC), ((HB.out.cell (dq w _ bh)).trans bh), ((HB.out.cell (dq w _ bg)).trans bg), ((HB.out.cell (dq w _ bf)).trans bf), ((HB.out.cell (dq w _ be)).trans be), ((HB.out.cell (dq w _ bd)).trans bd), ((HB.out.cell (dq w _ bc)).trans bc), ((HB.out.cell (dq w _ bn)).trans bn), ((HB.out.cell (dq w _ bm)).trans bm), ((HB.out.cell (dq w _ bl)).trans bl), ((HB.out.cell (dq w _ bk)).trans bk), ((HB.out.cell (dq w _ bj)).trans bj), ((HB.out.cell (dq w _ bi)).trans bi)⟩ (fun hHeld => ?_); refine with_tabW meddlerref15_All.tab8 meddlerref15_All.bits8 (fun HT_ HW_ => ?_)
            generalize wr.drew = dc at ac HB af ag ah ai aj ak al am an ao ap aq aM aN aO aP aQ aR aS aT aU aV aW aX hHeld ⊢
            refine pure_ (i := 0) (N := some 18) (v := ?_) (a' := ?_) #[true, false, false, false, false, false, false, false, false, false, false, false, false, false, false, false, false, false, false, false, false, false] rfl rfl (any_of HT_.out (by kernel_rfl)) (fun _ _ _ h => h) (Or.inl ⟨by rfl, ?_⟩) ?_ ?_
            rotate_left
            ·intro w'
             go_simp
             with_reducible rfl
            rotate_left
            ·simp only [Act.put, dm, dn, dp, i64_w, i32_w]
             rfl
            refine pure_ (i := 1) (N := some 19) (v := ?_) (a' := ?_) #[true, true, false, false, false, false, false, false, false, false, false, false, false, false, false, false, false, false, false, false, false, false] rfl rfl (any_of HT_.out (by kernel_rfl)) (fun _ _ _ h => h) (Or.inl ⟨by rfl, ?_⟩) ?_ ?_
            rotate_left
            ·intro w'
             go_simp
             with_reducible rfl
            rotate_left
            ·simp only [Act.put, dm, dn, dp, i64_w, i32_w]
             rfl
            refine pure_ (i := 2) (N := some 20) (v := ?_) (a' := ?_) #[true, true, true, false, false, false, false, false, false, false, false, false, false, false, false, false, false, false, false, false, false, false] rfl rfl (any_of HT_.out (by kernel_rfl)) (fun _ _ _ h => h) (Or.inl ⟨by rfl, ?_⟩) ?_ ?_
            rotate_left
            ·intro w'
             go_simp
             with_reducible rfl
            rotate_left
            ·simp only [Act.put, dm, dn, dp, i64_w, i32_w]
             rfl
            refine pure_ (i := 3) (N := some 21) (v := ?_) (a' := ?_) #[true, true, true, true, false, false, false, false, false, false, false, false, false, false, false, false, false, false, false, false, false, false] rfl rfl (any_of HT_.out (by kernel_rfl)) (fun _ _ _ h => h) (Or.inl ⟨by rfl, ?_⟩) ?_ ?_
            rotate_left
            ·intro w'
             go_simp
             with_reducible rfl
            rotate_left
            ·simp only [Act.put, dm, dn, dp, i64_w, i32_w]
             rfl
            refine pure_ (i := 5) (N := some 23) (v := ?_) (a' := ?_) #[true, true, true, true, false, true, false, false, false, false, false, false, false, false, false, false, false, false, false, false, false, false] rfl rfl (any_of HT_.out (by kernel_rfl)) (fun _ _ _ h => h) (Or.inl ⟨by rfl, ?_⟩) ?_ ?_
            rotate_left
            ·intro w'
             go_simp
             with_reducible rfl
            rotate_left
            ·simp only [Act.put, dm, dn, dp, i64_w, i32_w]
             rfl
            refine pure_ (i := 6) (N := some 24) (v := ?_) (a' := ?_) #[true, true, true, true, false, true, true, false, false, false, false, false, false, false, false, false, false, false, false, false, false, false] rfl rfl (any_of HT_.out (by kernel_rfl)) (fun _ _ _ h => h) (Or.inl ⟨by rfl, ?_⟩) ?_ ?_
            rotate_left
            ·intro w'
             go_simp
             with_reducible rfl
            rotate_left
            ·simp only [Act.put, dm, dn, dp, i64_w, i32_w]
             rfl
            refine pure_ (i := 7) (N := some 25) (v := ?_) (a' := ?_) #[true, true, true, true, false, true, true, true, false, false, false, false, false, false, false, false, false, false, false, false, false, false] rfl rfl (any_of HT_.out (by kernel_rfl)) (fun _ _ _ h => h) (Or.inl ⟨by rfl, ?_⟩) ?_ ?_
            rotate_left
            ·intro w'
             go_simp
             with_reducible rfl
            rotate_left
            ·simp only [Act.put, dm, dn, dp, i64_w, i32_w]
             rfl
            refine pure_ (i := 8) (N := some 26) (v := ?_) (a' := ?_) #[true, true, true, true, false, true, true, true, true, false, false, false, false, false, false, false, false, false, false, false, false, false] rfl rfl (any_of HT_.out (by kernel_rfl)) (fun _ _ _ h => h) (Or.inl ⟨by rfl, ?_⟩) ?_ ?_
            rotate_left
            ·intro w'
             go_simp
             with_reducible rfl
            rotate_left
            ·simp only [Act.put, dm, dn, dp, i64_w, i32_w]
             rfl
            refine take_ (i := 4) (N := some 22) (v := ?_) (a' := ?_) #[true, true, true, true, true, true, true, true, true, false, false, false, false, false, false, false, false, false, false, false, false, false] rfl rfl (take_ofW HT_.out HW_.out (by kernel_rfl)) (fun _ _ _ h => h) (Or.inl ⟨by rfl, ?_⟩) hHeld ?_ ?_
            rotate_left
            ·rintro w' ⟨s0, s1, s2, s3, s4, s5, s6, s7, s8, s9, au, av, aY, aZ, a1, a2, a3, a4, a5, a6, a7, a8, a9, ba⟩
             go_simp
             with_reducible rfl
            rotate_left
            ·simp only [Act.put, dm, dn, dp, i64_w, i32_w]
             rfl
            refine take_ (i := 9) (N := some 27) (v := ?_) (a' := ?_) #[true, true, true, true, true, true, true, true, true, true, false, false, false, false, false, false, false, false, false, false, false, false] rfl rfl (take_ofW HT_.out HW_.out (by kernel_rfl)) (fun _ _ _ h => h) (Or.inl ⟨by rfl, ?_⟩) hHeld ?_ ?_
            rotate_left
            ·rintro w' ⟨s0, s1, s2, s3, s4, s5, s6, s7, s8, s9, au, av, aY, aZ, a1, a2, a3, a4, a5, a6, a7, a8, a9, ba⟩
             go_simp
             with_reducible rfl
            rotate_left
            ·simp only [Act.put, dm, dn, dp, i64_w, i32_w]
             rfl
            refine pure_ (i := 10) (N := some 28) (v := ?_) (a' := ?_) #[true, true, true, true, true, true, true, true, true, true, true, false, false, false, false, false, false, false, false, false, false, false] rfl rfl (any_of HT_.out (by kernel_rfl)) (fun _ _ _ h => h) (Or.inl ⟨by rfl, ?_⟩) ?_ ?_
            rotate_left
            ·intro w'
             go_simp
             with_reducible rfl
            rotate_left
            ·simp only [Act.put, dm, dn, dp, i64_w, i32_w]
             rfl
            refine pure_ (i := 11) (N := some 29) (v := ?_) (a' := ?_) #[true, true, true, true, true, true, true, true, true, true, true, true, false, false, false, false, false, false, false, false, false, false] rfl rfl (any_of HT_.out (by kernel_rfl)) (fun _ _ _ h => h) (Or.inl ⟨by rfl, ?_⟩) ?_ ?_
            rotate_left
            ·intro w'
             go_simp
             with_reducible rfl
            rotate_left
            ·simp only [Act.put, dm, dn, dp, i64_w, i32_w]
             rfl
            refine pure_ (i := 12) (N := some 30) (v := ?_) (a' := ?_) #[true, true, true, true, true, true, true, true, true, true, true, true, true, false, false, false, false, false, false, false, false, false] rfl rfl (any_of HT_.out (by kernel_rfl)) (fun _ _ _ h => h) (Or.inl ⟨by rfl, ?_⟩) ?_ ?_
            rotate_left
            ·intro w'
             go_simp
             with_reducible rfl
            rotate_left
            ·simp only [Act.put, dm, dn, dp, i64_w, i32_w]
             rfl
            refine pure_ (i := 13) (N := some 31) (v := ?_) (a' := ?_) #[true, true, true, true, true, true, true, true, true, true, true, true, true, true, false, false, false, false, false, false, false, false] rfl rfl (any_of HT_.out (by kernel_rfl)) (fun _ _ _ h => h) (Or.inl ⟨by rfl, ?_⟩) ?_ ?_
            rotate_left
            ·intro w'
             go_simp
             with_reducible rfl
            rotate_left
            ·simp only [Act.put, dm, dn, dp, i64_w, i32_w]
             rfl
            refine pure_ (i := 14) (N := some 32) (v := ?_) (a' := ?_) #[true, true, true, true, true, true, true, true, true, true, true, true, true, true, true, false, false, false, false, false, false, false] rfl rfl (any_of HT_.out (by kernel_rfl)) (fun _ _ _ h => h) (Or.inl ⟨by rfl, ?_⟩) ?_ ?_
            rotate_left
            ·intro w'
             go_simp
             with_reducible rfl
            rotate_left
            ·simp only [Act.put, dm, dn, dp, i64_w, i32_w]
             rfl
            refine pure_ (i := 16) (N := some 34) (v := ?_) (a' := ?_) #[true, true, true, true, true, true, true, true, true, true, true, true, true, true, true, false, true, false, false, false, false, false] rfl rfl (any_of HT_.out (by kernel_rfl)) (fun _ _ _ h => h) (Or.inl ⟨by rfl, ?_⟩) ?_ ?_
            rotate_left
            ·intro w'
             go_simp
             with_reducible rfl
            rotate_left
            ·simp only [Act.put, dm, dn, dp, i64_w, i32_w]
             rfl
            refine pure_ (i := 17) (N := some 35) (v := ?_) (a' := ?_) #[true, true, true, true, true, true, true, true, true, true, true, true, true, true, true, false, true, true, false, false, false, false] rfl rfl (any_of HT_.out (by kernel_rfl)) (fun _ _ _ h => h) (Or.inl ⟨by rfl, ?_⟩) ?_ ?_
            rotate_left
            ·intro w'
             go_simp
             with_reducible rfl
            rotate_left
            ·simp only [Act.put, dm, dn, dp, i64_w, i32_w]
             rfl
            refine pure_ (i := 18) (N := some 36) (v := ?_) (a' := ?_) #[true, true, true, true, true, true, true, true, true, true, true, true, true, true, true, false, true, true, true, false, false, false] rfl rfl (any_of HT_.out (by kernel_rfl)) (fun _ _ _ h => h) (Or.inl ⟨by rfl, ?_⟩) ?_ ?_
            rotate_left
            ·intro w'
             go_simp
             with_reducible rfl
            rotate_left
            ·simp only [Act.put, dm, dn, dp, i64_w, i32_w]
             rfl
            refine take_ (i := 15) (N := some 33) (v := ?_) (a' := ?_) #[true, true, true, true, true, true, true, true, true, true, true, true, true, true, true, true, true, true, true, false, false, false] rfl rfl (take_ofW HT_.out HW_.out (by kernel_rfl)) (fun _ _ _ h => h) (Or.inl ⟨by rfl, ?_⟩) hHeld ?_ ?_
            rotate_left
            ·rintro w' ⟨s0, s1, s2, s3, s4, s5, s6, s7, s8, s9, au, av, aY, aZ, a1, a2, a3, a4, a5, a6, a7, a8, a9, ba⟩
             go_simp
             with_reducible rfl
            rotate_left
            ·simp only [Act.put, dm, dn, dp, i64_w, i32_w]
             rfl
            refine take_ (i := 19) (N := some 37) (v := ?_) (a' := ?_) #[true, true, true, true, true, true, true, true, true, true, true, true, true, true, true, true, true, true, true, true, false, false] rfl rfl (take_ofW HT_.out HW_.out (by kernel_rfl)) (fun _ _ _ h => h) (Or.inl ⟨by rfl, ?_⟩) hHeld ?_ ?_
            rotate_left
            ·rintro w' ⟨s0, s1, s2, s3, s4, s5, s6, s7, s8, s9, au, av, aY, aZ, a1, a2, a3, a4, a5, a6, a7, a8, a9, ba⟩
             go_simp
             with_reducible rfl
            rotate_left
            ·simp only [Act.put, dm, dn, dp, i64_w, i32_w]
             rfl
            refine one_ (i := 20) (N := some 38) #[true, true, true, true, true, true, true, true, true, true, true, true, true, true, true, true, true, true, true, true, true, false] rfl rfl (one_of HT_.out (by kernel_rfl)) (by decide) (fun K hK => ?_)
            refine goes_ Try.func31 (by kernel_rfl) rfl #[.agg #[.int .i64 ((rd_T31 l0 aa).f0), .int .i64 ((rd_T31 l0 aa).f1), .bool ((rd_T31 l0 aa).f2), .int .i64 ((rd_T31 l0 aa).f3), .bool ((rd_T31 l0 aa).f4), .int .i64 ((rd_T31 l0 aa).f5)], .agg #[.int .i64 ((rd_T31 l0 ab).f0), .int .i64 ((rd_T31 l0 ab).f1), .bool ((rd_T31 l0 ab).f2), .int .i64 ((rd_T31 l0 ab).f3), .bool ((rd_T31 l0 ab).f4), .int .i64 ((rd_T31 l0 ab).f5)]] (by rfl) rfl rfl (by (try simp only [List.map_toArray, List.map_cons, List.map_nil]); first | done | rfl | (simp only [List.length_drop, List.length_take]; rfl)) ?_
            with_reducible refine (meddlerref15_Meet.calls ((rd_T31 l0 aa).f0) ((rd_T31 l0 aa).f1) ((rd_T31 l0 aa).f2) ((rd_T31 l0 aa).f3) ((rd_T31 l0 aa).f4) ((rd_T31 l0 aa).f5) ((rd_T31 l0 ab).f0) ((rd_T31 l0 ab).f1) ((rd_T31 l0 ab).f2) ((rd_T31 l0 ab).f3) ((rd_T31 l0 ab).f4) ((rd_T31 l0 ab).f5) true _ A8.out).mono ?_
            rintro e w12 ⟨rfl, hb⟩
            refine ⟨_, rfl, ?_⟩
            have ad := q21 (Kd.R_below (by (with_reducible repeat (first | apply Kd.R_alloc | apply Kd.R_drewN | apply Kd.R_drew)); exact ac.out) hb)
            have ae := q21 (below_step (by repeat (first | (with_reducible first | exact HB.out | apply dj | apply dk | apply dl) | exact HB.out)) hb)
            clear ac
            clear HB
            have ac := ad
            have HB := ae
            clear ad ae
            (try clear hb)
            (try clear cN)
            (try clear hk)
            (try clear hi)
            refine hK.out _ _ ⟨((HB.out.cell (dq w _ aB)).trans aB), ((HB.out.cell (dq w _ aA)).trans aA), ((HB.out.cell (dq w _ az)).trans az), ((HB.out.cell (dq w _ ay)).trans ay), ((HB.out.cell (dq w _ ax)).trans ax), ((HB.out.cell (dq w _ aw)).trans aw), ((HB.out.cell (dq w _ aH)).trans aH), ((HB.out.cell (dq w _ aG)).trans aG), ((HB.out.cell (dq w _ aF)).trans aF), ((HB.out.cell (dq w _ aE)).trans aE), ((HB.out.cell (dq w _ aD)).trans aD), ((HB.out.cell (dq w _ aC)).trans aC), ((HB.out.cell (dq w _ bh)).trans bh), ((HB.out.cell (dq w _ bg)).trans bg), ((HB.out.cell (dq w _ bf)).trans bf), ((HB.out.cell (dq w _ be)).trans be), ((HB.out.cell (dq w _ bd)).trans bd), ((HB.out.cell (dq w _ bc)).trans bc), ((HB.out.cell (dq w _ bn)).trans bn), ((HB.out.cell (dq w _ bm)).trans bm), ((HB.out.cell (dq w _ bl)).trans bl), ((HB.out.cell (dq w _ bk)).trans bk), ((HB.out.cell (dq w _ bj)).trans bj), ((HB.out.cell (dq w _ bi)).trans bi)⟩ (fun hHeld => ?_)
            clear hK K
            refine norm_ (a' := ?_) ?_ ?_
            rotate_left
            ·show Act.put _ (some 38) _ = _
             simp only [Act.put, dm, dn, dp, i64_w, i32_w]
             rfl
            refine pure_ (i := 21) (N := some 39) (v := ?_) (a' := ?_) #[true, true, true, true, true, true, true, true, true, true, true, true, true, true, true, true, true, true, true, true, true, true] rfl rfl (any_of HT_.out (by kernel_rfl)) (fun _ _ _ h => h) (Or.inl ⟨by rfl, ?_⟩) ?_ ?_
            rotate_left
            ·intro w'
             go_simp
             with_reducible rfl
            rotate_left
            ·simp only [Act.put, dm, dn, dp, i64_w, i32_w]
             rfl
            refine done_ (done_of HT_.out (by kernel_rfl)) ?_
            try go_wp2
            have ad := q21 (Kd.R_drew ac.out)
            have ae := q21 (dl HB.out)
            clear ac
            clear HB
            have ac := ad
            have HB := ae
            clear ad ae
            have cs : 0 ≤ (aa : Int) := of_decide_eq_true (by first | (with_reducible assumption) | assumption)
            have ct : aa < (l0.length : Int) := of_decide_eq_true (by first | (with_reducible assumption) | assumption)
            obtain ⟨cO, cP, bA, bB, bC, bD, bE, bF⟩ := at_T31 ar.out aa cs ct
            have b0 := bF
            have b1 := bE
            have b2 := bD
            have b3 := bC
            have b4 := bB
            have b5 := bA
            obtain rfl : ad334 = cO := (by injection cP)
            replace bA := (HB.out.cell (dq w _ bA)).trans bA
            replace bB := (HB.out.cell (dq w _ bB)).trans bB
            replace bC := (HB.out.cell (dq w _ bC)).trans bC
            replace bD := (HB.out.cell (dq w _ bD)).trans bD
            replace bE := (HB.out.cell (dq w _ bE)).trans bE
            replace bF := (HB.out.cell (dq w _ bF)).trans bF
            replace cs := eq_true cs
            replace ct := eq_true ct
            have cu : 0 ≤ (aa : Int) := of_decide_eq_true (by first | (with_reducible assumption) | assumption)
            have cv : aa < (l0.length : Int) := of_decide_eq_true (by first | (with_reducible assumption) | assumption)
            obtain ⟨cQ, cR, bG, bH, bI, bJ, bK, bL⟩ := at_T31 ar.out aa cu cv
            have b6 := bL
            have b7 := bK
            have b8 := bJ
            have b9 := bI
            have ca := bH
            have cb := bG
            obtain rfl : ad334 = cQ := (by injection cR)
            replace bG := (HB.out.cell (dq w _ bG)).trans bG
            replace bH := (HB.out.cell (dq w _ bH)).trans bH
            replace bI := (HB.out.cell (dq w _ bI)).trans bI
            replace bJ := (HB.out.cell (dq w _ bJ)).trans bJ
            replace bK := (HB.out.cell (dq w _ bK)).trans bK
            replace bL := (HB.out.cell (dq w _ bL)).trans bL
            replace cu := eq_true cu
            replace cv := eq_true cv
            have cw : 0 ≤ (ab : Int) := of_decide_eq_true (by first | (with_reducible assumption) | assumption)
            have cx : ab < (l0.length : Int) := of_decide_eq_true (by first | (with_reducible assumption) | assumption)
            obtain ⟨cS, cT, bM, bN, bO, bP, bQ, bR⟩ := at_T31 ar.out ab cw cx
            have cc := bR
            have cd := bQ
            have ce := bP
            have cf := bO
            have cg := bN
            have ch := bM
            obtain rfl : ad334 = cS := (by injection cT)
            replace bM := (HB.out.cell (dq w _ bM)).trans bM
            replace bN := (HB.out.cell (dq w _ bN)).trans bN
            replace bO := (HB.out.cell (dq w _ bO)).trans bO
            replace bP := (HB.out.cell (dq w _ bP)).trans bP
            replace bQ := (HB.out.cell (dq w _ bQ)).trans bQ
            replace bR := (HB.out.cell (dq w _ bR)).trans bR
            replace cw := eq_true cw
            replace cx := eq_true cx
            have cy : 0 ≤ (ab : Int) := of_decide_eq_true (by first | (with_reducible assumption) | assumption)
            have cz : ab < (l0.length : Int) := of_decide_eq_true (by first | (with_reducible assumption) | assumption)
            obtain ⟨cU, cV, bS, bT, bU, bV, bW, bX⟩ := at_T31 ar.out ab cy cz
            have ci := bX
            have cj := bW
            have ck := bV
            have cl := bU
            have cm := bT
            have cn := bS
            obtain rfl : ad334 = cU := (by injection cV)
            replace bS := (HB.out.cell (dq w _ bS)).trans bS
            replace bT := (HB.out.cell (dq w _ bT)).trans bT
            replace bU := (HB.out.cell (dq w _ bU)).trans bU
            replace bV := (HB.out.cell (dq w _ bV)).trans bV
            replace bW := (HB.out.cell (dq w _ bW)).trans bW
            replace bX := (HB.out.cell (dq w _ bX)).trans bX
            replace cy := eq_true cy
            replace cz := eq_true cz
            obtain ⟨cA, cB, cI⟩ := Kd.R_slice ac.out
            (first | subst cI | (injection cI with f1_ cW f3_; have cX := f1_.symm; have cY := f3_.symm; clear f1_ cW f3_; subst cX; subst cY))
            refine start_ (n := 24) (S := fun w' => w'.cell? (ad334.add ((aa).toNat * 6)) = some (.int .i64 ((rd_T31 l0 aa).f0)) ∧ w'.cell? ⟨(ad334.add ((aa).toNat * 6)).block, (ad334.add ((aa).toNat * 6)).off + 1, none⟩ = some (.int .i64 ((rd_T31 l0 aa).f1)) ∧ w'.cell? ⟨(ad334.add ((aa).toNat * 6)).block, (ad334.add ((aa).toNat * 6)).off + 2, none⟩ = some (.bool ((rd_T31 l0 aa).f2)) ∧ w'.cell? ⟨(ad334.add ((aa).toNat * 6)).block, (ad334.add ((aa).toNat * 6)).off + 3, none⟩ = some (.int .i64 ((rd_T31 l0 aa).f3)) ∧ w'.cell? ⟨(ad334.add ((aa).toNat * 6)).block, (ad334.add ((aa).toNat * 6)).off + 4, none⟩ = some (.bool ((rd_T31 l0 aa).f4)) ∧ w'.cell? ⟨(ad334.add ((aa).toNat * 6)).block, (ad334.add ((aa).toNat * 6)).off + 5, none⟩ = some (.int .i64 ((rd_T31 l0 aa).f5)) ∧ w'.cell? (ad334.add ((aa).toNat * 6)) = some (.int .i64 ((rd_T31 l0 aa).f0)) ∧ w'.cell? ⟨(ad334.add ((aa).toNat * 6)).block, (ad334.add ((aa).toNat * 6)).off + 1, none⟩ = some (.int .i64 ((rd_T31 l0 aa).f1)) ∧ w'.cell? ⟨(ad334.add ((aa).toNat * 6)).block, (ad334.add ((aa).toNat * 6)).off + 2, none⟩ = some (.bool ((rd_T31 l0 aa).f2)) ∧ w'.cell? ⟨(ad334.add ((aa).toNat * 6)).block, (ad334.add ((aa).toNat * 6)).off + 3, none⟩ = some (.int .i64 ((rd_T31 l0 aa).f3)) ∧ w'.cell? ⟨(ad334.add ((aa).toNat * 6)).block, (ad334.add ((aa).toNat * 6)).off + 4, none⟩ = some (.bool ((rd_T31 l0 aa).f4)) ∧ w'.cell? ⟨(ad334.add ((aa).toNat * 6)).block, (ad334.add ((aa).toNat * 6)).off + 5, none⟩ = some (.int .i64 ((rd_T31 l0 aa).f5)) ∧ w'.cell? (ad334.add ((ab).toNat * 6)) = some (.int .i64 ((rd_T31 l0 ab).f0)) ∧ w'.cell? ⟨(ad334.add ((ab).toNat * 6)).block, (ad334.add ((ab).toNat * 6)).off + 1, none⟩ = some (.int .i64 ((rd_T31 l0 ab).f1)) ∧ w'.cell? ⟨(ad334.add ((ab).toNat * 6)).block, (ad334.add ((ab).toNat * 6)).off + 2, none⟩ = some (.bool ((rd_T31 l0 ab).f2)) ∧ w'.cell? ⟨(ad334.add ((ab).toNat * 6)).block, (ad334.add ((ab).toNat * 6)).off + 3, none⟩ = some (.int .i64 ((rd_T31 l0 ab).f3)) ∧ w'.cell? ⟨(ad334.add ((ab).toNat * 6)).block, (ad334.add ((ab).toNat * 6)).off + 4, none⟩ = some (.bool ((rd_T31 l0 ab).f4)) ∧ w'.cell? ⟨(ad334.add ((ab).toNat * 6)).block, (ad334.add ((ab).toNat * 6)).off + 5, none⟩ = some (.int .i64 ((rd_T31 l0 ab).f5)) ∧ w'.cell? (ad334.add ((ab).toNat * 6)) = some (.int .i64 ((rd_T31 l0 ab).f0)) ∧ w'.cell? ⟨(ad334.add ((ab).toNat * 6)).block, (ad334.add ((ab).toNat * 6)).off + 1, none⟩ = some (.int .i64 ((rd_T31 l0 ab).f1)) ∧ w'.cell? ⟨(ad334.add ((ab).toNat * 6)).block, (ad334.add ((ab).toNat * 6)).off + 2, none⟩ = some (.bool ((rd_T31 l0 ab).f2)) ∧ w'.cell? ⟨(ad334.add ((ab).toNat * 6)).block, (ad334.add ((ab).toNat * 6)).off + 3, none⟩ = some (.int .i64 ((rd_T31 l0 ab).f3)) ∧ w'.cell? ⟨(ad334.add ((ab).toNat * 6)).block, (ad334.add ((ab).toNat * 6)).off + 4, none⟩ = some (.bool ((rd_T31 l0 ab).f4)) ∧ w'.cell? ⟨(ad334.add ((ab).toNat * 6)).block, (ad334.add ((ab).toNat * 6)).off + 5, none⟩ = some (.int .i64 ((rd_T31 l0 ab).f5))) (ds := []) #[false, false, false, false, false, false, false, false, false, false, false, false, false, false, false, false, false, false, false, false, false, false, false, false] (by kernel_rfl) rfl rfl ⟨((HB.out.cell (dq w _ b5)).trans b5), ((HB.out.cell (dq w _ b4)).trans b4), ((HB.out.cell (dq w _ b3)).trans b3), ((HB.out.cell (dq w _ b2)).trans b2), ((HB.out.cell (dq w _ b1)).trans b1), ((HB.out.cell (dq w _ b0)).trans b0), ((HB.out.cell (dq w _ cb)).trans cb), ((HB.out.cell (dq w _ ca)).trans ca), ((HB.out.cell (dq w _ b9)).trans b9), ((HB.out.cell (dq w _ b8)).trans b8), ((HB.out.cell (dq w _ b7)).trans b7), ((HB.out.cell (dq w _ b6)).trans b6), ((HB.out.cell (dq w _ ch)).trans ch), ((HB.out.cell (dq w _ cg)).trans cg), ((HB.out.cell (dq w _ cf)).trans cf), ((HB.out.cell (dq w _ ce)).trans ce), ((HB.out.cell (dq w _ cd)).trans cd), ((HB.out.cell (dq w _ cc)).trans cc), ((HB.out.cell (dq w _ cn)).trans cn), ((HB.out.cell (dq w _ cm)).trans cm), ((HB.out.cell (dq w _ cl)).trans cl), ((HB.out.cell (dq w _ ck)).trans ck), ((HB.out.cell (dq w _ cj)).trans cj), ((HB.out.cell (dq w _ ci)).trans ci)⟩ (fun hHeld => ?_); refine with_tabW meddlerref15_All.tab9 meddlerref15_All.bits9 (fun HT_ HW_ => ?_)
            generalize w12.drew = dd at ac HB bA bB bC bD bE bF bG bH bI bJ bK bL bM bN bO bP bQ bR bS bT bU bV bW bX hHeld ⊢
            refine pure_ (i := 0) (N := some 40) (v := ?_) (a' := ?_) #[true, false, false, false, false, false, false, false, false, false, false, false, false, false, false, false, false, false, false, false, false, false, false, false] rfl rfl (any_of HT_.out (by kernel_rfl)) (fun _ _ _ h => h) (Or.inl ⟨by rfl, ?_⟩) ?_ ?_
            rotate_left
            ·intro w'
             go_simp
             with_reducible rfl
            rotate_left
            ·simp only [Act.put, dm, dn, dp, i64_w, i32_w]
             rfl
            refine pure_ (i := 1) (N := some 41) (v := ?_) (a' := ?_) #[true, true, false, false, false, false, false, false, false, false, false, false, false, false, false, false, false, false, false, false, false, false, false, false] rfl rfl (any_of HT_.out (by kernel_rfl)) (fun _ _ _ h => h) (Or.inl ⟨by rfl, ?_⟩) ?_ ?_
            rotate_left
            ·intro w'
             go_simp
             with_reducible rfl
            rotate_left
            ·simp only [Act.put, dm, dn, dp, i64_w, i32_w]
             rfl
            refine pure_ (i := 2) (N := some 42) (v := ?_) (a' := ?_) #[true, true, true, false, false, false, false, false, false, false, false, false, false, false, false, false, false, false, false, false, false, false, false, false] rfl rfl (any_of HT_.out (by kernel_rfl)) (fun _ _ _ h => h) (Or.inl ⟨by rfl, ?_⟩) ?_ ?_
            rotate_left
            ·intro w'
             go_simp
             with_reducible rfl
            rotate_left
            ·simp only [Act.put, dm, dn, dp, i64_w, i32_w]
             rfl
            refine pure_ (i := 3) (N := some 43) (v := ?_) (a' := ?_) #[true, true, true, true, false, false, false, false, false, false, false, false, false, false, false, false, false, false, false, false, false, false, false, false] rfl rfl (any_of HT_.out (by kernel_rfl)) (fun _ _ _ h => h) (Or.inl ⟨by rfl, ?_⟩) ?_ ?_
            rotate_left
            ·intro w'
             go_simp
             with_reducible rfl
            rotate_left
            ·simp only [Act.put, dm, dn, dp, i64_w, i32_w]
             rfl
            refine pure_ (i := 4) (N := some 44) (v := ?_) (a' := ?_) #[true, true, true, true, true, false, false, false, false, false, false, false, false, false, false, false, false, false, false, false, false, false, false, false] rfl rfl (any_of HT_.out (by kernel_rfl)) (fun _ _ _ h => h) (Or.inl ⟨by rfl, ?_⟩) ?_ ?_
            rotate_left
            ·intro w'
             go_simp
             with_reducible rfl
            rotate_left
            ·simp only [Act.put, dm, dn, dp, i64_w, i32_w]
             rfl
            refine pure_ (i := 6) (N := some 46) (v := ?_) (a' := ?_) #[true, true, true, true, true, false, true, false, false, false, false, false, false, false, false, false, false, false, false, false, false, false, false, false] rfl rfl (any_of HT_.out (by kernel_rfl)) (fun _ _ _ h => h) (Or.inl ⟨by rfl, ?_⟩) ?_ ?_
            rotate_left
            ·intro w'
             go_simp
             with_reducible rfl
            rotate_left
            ·simp only [Act.put, dm, dn, dp, i64_w, i32_w]
             rfl
            refine pure_ (i := 7) (N := some 47) (v := ?_) (a' := ?_) #[true, true, true, true, true, false, true, true, false, false, false, false, false, false, false, false, false, false, false, false, false, false, false, false] rfl rfl (any_of HT_.out (by kernel_rfl)) (fun _ _ _ h => h) (Or.inl ⟨by rfl, ?_⟩) ?_ ?_
            rotate_left
            ·intro w'
             go_simp
             with_reducible rfl
            rotate_left
            ·simp only [Act.put, dm, dn, dp, i64_w, i32_w]
             rfl
            refine pure_ (i := 8) (N := some 48) (v := ?_) (a' := ?_) #[true, true, true, true, true, false, true, true, true, false, false, false, false, false, false, false, false, false, false, false, false, false, false, false] rfl rfl (any_of HT_.out (by kernel_rfl)) (fun _ _ _ h => h) (Or.inl ⟨by rfl, ?_⟩) ?_ ?_
            rotate_left
            ·intro w'
             go_simp
             with_reducible rfl
            rotate_left
            ·simp only [Act.put, dm, dn, dp, i64_w, i32_w]
             rfl
            refine pure_ (i := 9) (N := some 49) (v := ?_) (a' := ?_) #[true, true, true, true, true, false, true, true, true, true, false, false, false, false, false, false, false, false, false, false, false, false, false, false] rfl rfl (any_of HT_.out (by kernel_rfl)) (fun _ _ _ h => h) (Or.inl ⟨by rfl, ?_⟩) ?_ ?_
            rotate_left
            ·intro w'
             go_simp
             with_reducible rfl
            rotate_left
            ·simp only [Act.put, dm, dn, dp, i64_w, i32_w]
             rfl
            refine pure_ (i := 11) (N := some 51) (v := ?_) (a' := ?_) #[true, true, true, true, true, false, true, true, true, true, false, true, false, false, false, false, false, false, false, false, false, false, false, false] rfl rfl (any_of HT_.out (by kernel_rfl)) (fun _ _ _ h => h) (Or.inl ⟨by rfl, ?_⟩) ?_ ?_
            rotate_left
            ·intro w'
             go_simp
             with_reducible rfl
            rotate_left
            ·simp only [Act.put, dm, dn, dp, i64_w, i32_w]
             rfl
            refine pure_ (i := 12) (N := some 52) (v := ?_) (a' := ?_) #[true, true, true, true, true, false, true, true, true, true, false, true, true, false, false, false, false, false, false, false, false, false, false, false] rfl rfl (any_of HT_.out (by kernel_rfl)) (fun _ _ _ h => h) (Or.inl ⟨by rfl, ?_⟩) ?_ ?_
            rotate_left
            ·intro w'
             go_simp
             with_reducible rfl
            rotate_left
            ·simp only [Act.put, dm, dn, dp, i64_w, i32_w]
             rfl
            refine pure_ (i := 13) (N := some 53) (v := ?_) (a' := ?_) #[true, true, true, true, true, false, true, true, true, true, false, true, true, true, false, false, false, false, false, false, false, false, false, false] rfl rfl (any_of HT_.out (by kernel_rfl)) (fun _ _ _ h => h) (Or.inl ⟨by rfl, ?_⟩) ?_ ?_
            rotate_left
            ·intro w'
             go_simp
             with_reducible rfl
            rotate_left
            ·simp only [Act.put, dm, dn, dp, i64_w, i32_w]
             rfl
            refine pure_ (i := 14) (N := some 54) (v := ?_) (a' := ?_) #[true, true, true, true, true, false, true, true, true, true, false, true, true, true, true, false, false, false, false, false, false, false, false, false] rfl rfl (any_of HT_.out (by kernel_rfl)) (fun _ _ _ h => h) (Or.inl ⟨by rfl, ?_⟩) ?_ ?_
            rotate_left
            ·intro w'
             go_simp
             with_reducible rfl
            rotate_left
            ·simp only [Act.put, dm, dn, dp, i64_w, i32_w]
             rfl
            refine pure_ (i := 16) (N := some 56) (v := ?_) (a' := ?_) #[true, true, true, true, true, false, true, true, true, true, false, true, true, true, true, false, true, false, false, false, false, false, false, false] rfl rfl (any_of HT_.out (by kernel_rfl)) (fun _ _ _ h => h) (Or.inl ⟨by rfl, ?_⟩) ?_ ?_
            rotate_left
            ·intro w'
             go_simp
             with_reducible rfl
            rotate_left
            ·simp only [Act.put, dm, dn, dp, i64_w, i32_w]
             rfl
            refine pure_ (i := 17) (N := some 57) (v := ?_) (a' := ?_) #[true, true, true, true, true, false, true, true, true, true, false, true, true, true, true, false, true, true, false, false, false, false, false, false] rfl rfl (any_of HT_.out (by kernel_rfl)) (fun _ _ _ h => h) (Or.inl ⟨by rfl, ?_⟩) ?_ ?_
            rotate_left
            ·intro w'
             go_simp
             with_reducible rfl
            rotate_left
            ·simp only [Act.put, dm, dn, dp, i64_w, i32_w]
             rfl
            refine pure_ (i := 18) (N := some 58) (v := ?_) (a' := ?_) #[true, true, true, true, true, false, true, true, true, true, false, true, true, true, true, false, true, true, true, false, false, false, false, false] rfl rfl (any_of HT_.out (by kernel_rfl)) (fun _ _ _ h => h) (Or.inl ⟨by rfl, ?_⟩) ?_ ?_
            rotate_left
            ·intro w'
             go_simp
             with_reducible rfl
            rotate_left
            ·simp only [Act.put, dm, dn, dp, i64_w, i32_w]
             rfl
            refine pure_ (i := 19) (N := some 59) (v := ?_) (a' := ?_) #[true, true, true, true, true, false, true, true, true, true, false, true, true, true, true, false, true, true, true, true, false, false, false, false] rfl rfl (any_of HT_.out (by kernel_rfl)) (fun _ _ _ h => h) (Or.inl ⟨by rfl, ?_⟩) ?_ ?_
            rotate_left
            ·intro w'
             go_simp
             with_reducible rfl
            rotate_left
            ·simp only [Act.put, dm, dn, dp, i64_w, i32_w]
             rfl
            refine take_ (i := 5) (N := some 45) (v := ?_) (a' := ?_) #[true, true, true, true, true, true, true, true, true, true, false, true, true, true, true, false, true, true, true, true, false, false, false, false] rfl rfl (take_ofW HT_.out HW_.out (by kernel_rfl)) (fun _ _ _ h => h) (Or.inl ⟨by rfl, ?_⟩) hHeld ?_ ?_
            rotate_left
            ·rintro w' ⟨s0, s1, s2, s3, s4, s5, s6, s7, s8, s9, au, av, aY, aZ, a1, a2, a3, a4, a5, a6, a7, a8, a9, ba⟩
             go_simp
             with_reducible rfl
            rotate_left
            ·simp only [Act.put, dm, dn, dp, i64_w, i32_w]
             rfl
            refine take_ (i := 10) (N := some 50) (v := ?_) (a' := ?_) #[true, true, true, true, true, true, true, true, true, true, true, true, true, true, true, false, true, true, true, true, false, false, false, false] rfl rfl (take_ofW HT_.out HW_.out (by kernel_rfl)) (fun _ _ _ h => h) (Or.inl ⟨by rfl, ?_⟩) hHeld ?_ ?_
            rotate_left
            ·rintro w' ⟨s0, s1, s2, s3, s4, s5, s6, s7, s8, s9, au, av, aY, aZ, a1, a2, a3, a4, a5, a6, a7, a8, a9, ba⟩
             go_simp
             with_reducible rfl
            rotate_left
            ·simp only [Act.put, dm, dn, dp, i64_w, i32_w]
             rfl
            refine take_ (i := 15) (N := some 55) (v := ?_) (a' := ?_) #[true, true, true, true, true, true, true, true, true, true, true, true, true, true, true, true, true, true, true, true, false, false, false, false] rfl rfl (take_ofW HT_.out HW_.out (by kernel_rfl)) (fun _ _ _ h => h) (Or.inl ⟨by rfl, ?_⟩) hHeld ?_ ?_
            rotate_left
            ·rintro w' ⟨s0, s1, s2, s3, s4, s5, s6, s7, s8, s9, au, av, aY, aZ, a1, a2, a3, a4, a5, a6, a7, a8, a9, ba⟩
             go_simp
             with_reducible rfl
            rotate_left
            ·simp only [Act.put, dm, dn, dp, i64_w, i32_w]
             rfl
            refine take_ (i := 20) (N := some 60) (v := ?_) (a' := ?_) #[true, true, true, true, true, true, true, true, true, true, true, true, true, true, true, true, true, true, true, true, true, false, false, false] rfl rfl (take_ofW HT_.out HW_.out (by kernel_rfl)) (fun _ _ _ h => h) (Or.inl ⟨by rfl, ?_⟩) hHeld ?_ ?_
            rotate_left
            ·rintro w' ⟨s0, s1, s2, s3, s4, s5, s6, s7, s8, s9, au, av, aY, aZ, a1, a2, a3, a4, a5, a6, a7, a8, a9, ba⟩
             go_simp
             with_reducible rfl
            rotate_left
            ·simp only [Act.put, dm, dn, dp, i64_w, i32_w]
             rfl
            refine pure_ (i := 21) (N := some 61) (v := ?_) (a' := ?_) #[true, true, true, true, true, true, true, true, true, true, true, true, true, true, true, true, true, true, true, true, true, true, false, false] rfl rfl (any_of HT_.out (by kernel_rfl)) (fun _ _ _ h => h) (Or.inl ⟨by rfl, ?_⟩) ?_ ?_
            rotate_left
            ·intro w'
             go_simp
             with_reducible rfl
            rotate_left
            ·simp only [Act.put, dm, dn, dp, i64_w, i32_w]
             rfl
            refine one_ (i := 22) (N := some 62) #[true, true, true, true, true, true, true, true, true, true, true, true, true, true, true, true, true, true, true, true, true, true, true, false] rfl rfl (one_of HT_.out (by kernel_rfl)) (by decide) (fun K hK => ?_)
            refine goes_ Try.func28 (by kernel_rfl) rfl #[.slice cA x3_2.length cB, .agg #[.int .i64 2, .int .i64 ((rd_T31 l0 aa).f0), .int .i64 ((rd_T31 l0 aa).f1), .int .i64 0, .int .i64 ((rd_T31 l0 ab).f0), .int .i64 ((rd_T31 l0 ab).f1)]] (by rfl) rfl rfl (by (try simp only [List.map_toArray, List.map_cons, List.map_nil]); first | done | rfl | (simp only [List.length_drop, List.length_take]; rfl)) ?_
            with_reducible refine (meddlerref15_Lay.calls k2 (fun k_ => some k_ = (.slice cA x3_2.length cB : Value).ownBlock) (.slice cA x3_2.length cB) x3_2 2 ((rd_T31 l0 aa).f0) ((rd_T31 l0 aa).f1) 0 ((rd_T31 l0 ab).f0) ((rd_T31 l0 ab).f1) bb w _ ?side1 ?side2 cM.out).mono ?_
            (case side1 => repeat (first | (with_reducible first | exact HB.out | apply dj | apply dk | apply dl) | exact HB.out))
            (case side2 => exact Kd.R_tight rfl ac.out)
            rintro e de ⟨df, rfl, cJ, hb, hkp⟩
            refine ⟨_, rfl, ?_⟩
            have ad := q21 (Kd.R_mono (ok' := fun k_ => True) cJ (fun k_ hk_ => trivial))
            have ae := q21 (hb)
            clear HB
            clear ac
            have cZ := ad
            have HB := ae
            clear ad ae
            (try clear hb)
            (try clear hkp)
            (try clear cJ)
            refine hK.out _ _ ⟨((HB.out.cell (dq w _ b5)).trans b5), ((HB.out.cell (dq w _ b4)).trans b4), ((HB.out.cell (dq w _ b3)).trans b3), ((HB.out.cell (dq w _ b2)).trans b2), ((HB.out.cell (dq w _ b1)).trans b1), ((HB.out.cell (dq w _ b0)).trans b0), ((HB.out.cell (dq w _ cb)).trans cb), ((HB.out.cell (dq w _ ca)).trans ca), ((HB.out.cell (dq w _ b9)).trans b9), ((HB.out.cell (dq w _ b8)).trans b8), ((HB.out.cell (dq w _ b7)).trans b7), ((HB.out.cell (dq w _ b6)).trans b6), ((HB.out.cell (dq w _ ch)).trans ch), ((HB.out.cell (dq w _ cg)).trans cg), ((HB.out.cell (dq w _ cf)).trans cf), ((HB.out.cell (dq w _ ce)).trans ce), ((HB.out.cell (dq w _ cd)).trans cd), ((HB.out.cell (dq w _ cc)).trans cc), ((HB.out.cell (dq w _ cn)).trans cn), ((HB.out.cell (dq w _ cm)).trans cm), ((HB.out.cell (dq w _ cl)).trans cl), ((HB.out.cell (dq w _ ck)).trans ck), ((HB.out.cell (dq w _ cj)).trans cj), ((HB.out.cell (dq w _ ci)).trans ci)⟩ (fun hHeld => ?_)
            clear hK K
            refine norm_ (a' := ?_) ?_ ?_
            rotate_left
            ·show Act.put _ (some 62) _ = _
             simp only [Act.put, dm, dn, dp, i64_w, i32_w]
             rfl
            refine pure_ (i := 23) (N := some 3) (v := ?_) (a' := ?_) #[true, true, true, true, true, true, true, true, true, true, true, true, true, true, true, true, true, true, true, true, true, true, true, true] rfl rfl (any_of HT_.out (by kernel_rfl)) (fun _ _ _ h => h) (Or.inl ⟨by rfl, ?_⟩) ?_ ?_
            rotate_left
            ·intro w'
             go_simp
             with_reducible rfl
            rotate_left
            ·simp only [Act.put, dm, dn, dp, i64_w, i32_w]
             rfl
            refine done_ (done_of HT_.out (by kernel_rfl)) ?_
            try go_wp2
            go_roundg k2
            case measure => have := bo.out; have := bp.out; omega
            case rel => exact ⟨(bb), (wrap64 (ab + 1)), (by first | rfl | (simp; done) | (simp [*]; done)), H', ⟨by have := bo.out; have := bp.out; omega⟩, ⟨by (with_reducible repeat (first | apply Kd.R_alloc | apply Kd.R_drewN | apply Kd.R_drew)); exact cZ.out⟩, ⟨by repeat (first | (with_reducible first | exact HB.out | apply dj | apply dk | apply dl) | exact HB.out)⟩⟩
           ·replace c9 := Bool.eq_false_iff.mpr c9
            subst c9
            have H1 : (meddlerref15_All.l1 k2 l0 x3_2 aa (wrap64 (ab + 1))) = some r := by rw [if_neg (show ¬ (false = true) by decide)] at H; exact H
            clear H
            have H := H1
            clear H1
            have H' := q21 H
            clear H
            try go_wp2
            have ad := q21 (Kd.R_drew ac.out)
            have ae := q21 (dl HB.out)
            clear ac
            clear HB
            have ac := ad
            have HB := ae
            clear ad ae
            have aI : 0 ≤ (aa : Int) := of_decide_eq_true (by first | (with_reducible assumption) | assumption)
            have aJ : aa < (l0.length : Int) := of_decide_eq_true (by first | (with_reducible assumption) | assumption)
            obtain ⟨ad334, bw, af, ag, ah, ai, aj, ak⟩ := at_T31 ar.out aa aI aJ
            have aw := ak
            have ax := aj
            have ay := ai
            have az := ah
            have aA := ag
            have aB := af
            cases bw
            replace af := (HB.out.cell (dq w _ af)).trans af
            replace ag := (HB.out.cell (dq w _ ag)).trans ag
            replace ah := (HB.out.cell (dq w _ ah)).trans ah
            replace ai := (HB.out.cell (dq w _ ai)).trans ai
            replace aj := (HB.out.cell (dq w _ aj)).trans aj
            replace ak := (HB.out.cell (dq w _ ak)).trans ak
            replace aI := eq_true aI
            replace aJ := eq_true aJ
            have aK : 0 ≤ (ab : Int) := of_decide_eq_true (by first | (with_reducible assumption) | assumption)
            have aL : ab < (l0.length : Int) := of_decide_eq_true (by first | (with_reducible assumption) | assumption)
            obtain ⟨bx, bz, al, am, an, ao, ap, aq⟩ := at_T31 ar.out ab aK aL
            have aC := aq
            have aD := ap
            have aE := ao
            have aF := an
            have aG := am
            have aH := al
            obtain rfl : ad334 = bx := (by injection bz)
            replace al := (HB.out.cell (dq w _ al)).trans al
            replace am := (HB.out.cell (dq w _ am)).trans am
            replace an := (HB.out.cell (dq w _ an)).trans an
            replace ao := (HB.out.cell (dq w _ ao)).trans ao
            replace ap := (HB.out.cell (dq w _ ap)).trans ap
            replace aq := (HB.out.cell (dq w _ aq)).trans aq
            replace aK := eq_true aK
            replace aL := eq_true aL
            have bs : 0 ≤ (aa : Int) := of_decide_eq_true (by first | (with_reducible assumption) | assumption)
            have bt : aa < (l0.length : Int) := of_decide_eq_true (by first | (with_reducible assumption) | assumption)
            obtain ⟨co, cp, aM, aN, aO, aP, aQ, aR⟩ := at_T31 ar.out aa bs bt
            have bc := aR
            have bd := aQ
            have be := aP
            have bf := aO
            have bg := aN
            have bh := aM
            obtain rfl : ad334 = co := (by injection cp)
            replace aM := (HB.out.cell (dq w _ aM)).trans aM
            replace aN := (HB.out.cell (dq w _ aN)).trans aN
            replace aO := (HB.out.cell (dq w _ aO)).trans aO
            replace aP := (HB.out.cell (dq w _ aP)).trans aP
            replace aQ := (HB.out.cell (dq w _ aQ)).trans aQ
            replace aR := (HB.out.cell (dq w _ aR)).trans aR
            replace bs := eq_true bs
            replace bt := eq_true bt
            have bu : 0 ≤ (ab : Int) := of_decide_eq_true (by first | (with_reducible assumption) | assumption)
            have bv : ab < (l0.length : Int) := of_decide_eq_true (by first | (with_reducible assumption) | assumption)
            obtain ⟨cq, cr, aS, aT, aU, aV, aW, aX⟩ := at_T31 ar.out ab bu bv
            have bi := aX
            have bj := aW
            have bk := aV
            have bl := aU
            have bm := aT
            have bn := aS
            obtain rfl : ad334 = cq := (by injection cr)
            replace aS := (HB.out.cell (dq w _ aS)).trans aS
            replace aT := (HB.out.cell (dq w _ aT)).trans aT
            replace aU := (HB.out.cell (dq w _ aU)).trans aU
            replace aV := (HB.out.cell (dq w _ aV)).trans aV
            replace aW := (HB.out.cell (dq w _ aW)).trans aW
            replace aX := (HB.out.cell (dq w _ aX)).trans aX
            replace bu := eq_true bu
            replace bv := eq_true bv
            refine start_ (n := 22) (S := fun w' => w'.cell? (ad334.add ((aa).toNat * 6)) = some (.int .i64 ((rd_T31 l0 aa).f0)) ∧ w'.cell? ⟨(ad334.add ((aa).toNat * 6)).block, (ad334.add ((aa).toNat * 6)).off + 1, none⟩ = some (.int .i64 ((rd_T31 l0 aa).f1)) ∧ w'.cell? ⟨(ad334.add ((aa).toNat * 6)).block, (ad334.add ((aa).toNat * 6)).off + 2, none⟩ = some (.bool ((rd_T31 l0 aa).f2)) ∧ w'.cell? ⟨(ad334.add ((aa).toNat * 6)).block, (ad334.add ((aa).toNat * 6)).off + 3, none⟩ = some (.int .i64 ((rd_T31 l0 aa).f3)) ∧ w'.cell? ⟨(ad334.add ((aa).toNat * 6)).block, (ad334.add ((aa).toNat * 6)).off + 4, none⟩ = some (.bool ((rd_T31 l0 aa).f4)) ∧ w'.cell? ⟨(ad334.add ((aa).toNat * 6)).block, (ad334.add ((aa).toNat * 6)).off + 5, none⟩ = some (.int .i64 ((rd_T31 l0 aa).f5)) ∧ w'.cell? (ad334.add ((ab).toNat * 6)) = some (.int .i64 ((rd_T31 l0 ab).f0)) ∧ w'.cell? ⟨(ad334.add ((ab).toNat * 6)).block, (ad334.add ((ab).toNat * 6)).off + 1, none⟩ = some (.int .i64 ((rd_T31 l0 ab).f1)) ∧ w'.cell? ⟨(ad334.add ((ab).toNat * 6)).block, (ad334.add ((ab).toNat * 6)).off + 2, none⟩ = some (.bool ((rd_T31 l0 ab).f2)) ∧ w'.cell? ⟨(ad334.add ((ab).toNat * 6)).block, (ad334.add ((ab).toNat * 6)).off + 3, none⟩ = some (.int .i64 ((rd_T31 l0 ab).f3)) ∧ w'.cell? ⟨(ad334.add ((ab).toNat * 6)).block, (ad334.add ((ab).toNat * 6)).off + 4, none⟩ = some (.bool ((rd_T31 l0 ab).f4)) ∧ w'.cell? ⟨(ad334.add ((ab).toNat * 6)).block, (ad334.add ((ab).toNat * 6)).off + 5, none⟩ = some (.int .i64 ((rd_T31 l0 ab).f5)) ∧ w'.cell? (ad334.add ((aa).toNat * 6)) = some (.int .i64 ((rd_T31 l0 aa).f0)) ∧ w'.cell? ⟨(ad334.add ((aa).toNat * 6)).block, (ad334.add ((aa).toNat * 6)).off + 1, none⟩ = some (.int .i64 ((rd_T31 l0 aa).f1)) ∧ w'.cell? ⟨(ad334.add ((aa).toNat * 6)).block, (ad334.add ((aa).toNat * 6)).off + 2, none⟩ = some (.bool ((rd_T31 l0 aa).f2)) ∧ w'.cell? ⟨(ad334.add ((aa).toNat * 6)).block, (ad334.add ((aa).toNat * 6)).off + 3, none⟩ = some (.int .i64 ((rd_T31 l0 aa).f3)) ∧ w'.cell? ⟨(ad334.add ((aa).toNat * 6)).block, (ad334.add ((aa).toNat * 6)).off + 4, none⟩ = some (.bool ((rd_T31 l0 aa).f4)) ∧ w'.cell? ⟨(ad334.add ((aa).toNat * 6)).block, (ad334.add ((aa).toNat * 6)).off + 5, none⟩ = some (.int .i64 ((rd_T31 l0 aa).f5)) ∧ w'.cell? (ad334.add ((ab).toNat * 6)) = some (.int .i64 ((rd_T31 l0 ab).f0)) ∧ w'.cell? ⟨(ad334.add ((ab).toNat * 6)).block, (ad334.add ((ab).toNat * 6)).off + 1, none⟩ = some (.int .i64 ((rd_T31 l0 ab).f1)) ∧ w'.cell? ⟨(ad334.add ((ab).toNat * 6)).block, (ad334.add ((ab).toNat * 6)).off + 2, none⟩ = some (.bool ((rd_T31 l0 ab).f2)) ∧ w'.cell? ⟨(ad334.add ((ab).toNat * 6)).block, (ad334.add ((ab).toNat * 6)).off + 3, none⟩ = some (.int .i64 ((rd_T31 l0 ab).f3)) ∧ w'.cell? ⟨(ad334.add ((ab).toNat * 6)).block, (ad334.add ((ab).toNat * 6)).off + 4, none⟩ = some (.bool ((rd_T31 l0 ab).f4)) ∧ w'.cell? ⟨(ad334.add ((ab).toNat * 6)).block, (ad334.add ((ab).toNat * 6)).off + 5, none⟩ = some (.int .i64 ((rd_T31 l0 ab).f5))) (ds := []) #[false, false, false, false, false, false, false, false, false, false, false, false, false, false, false, false, false, false, false, false, false, false] (by kernel_rfl) rfl rfl ⟨((HB.out.cell (dq w _ aB)).trans aB), ((HB.out.cell (dq w _ aA)).trans aA), ((HB.out.cell (dq w _ az)).trans az), ((HB.out.cell (dq w _ ay)).trans ay), ((HB.out.cell (dq w _ ax)).trans ax), ((HB.out.cell (dq w _ aw)).trans aw), ((HB.out.cell (dq w _ aH)).trans aH), ((HB.out.cell (dq w _ aG)).trans aG), ((HB.out.cell (dq w _ aF)).trans aF), ((HB.out.cell (dq w _ aE)).trans aE), ((HB.out.cell (dq w _ aD)).trans aD), ((HB.out.cell (dq w _ aC)).trans aC), ((HB.out.cell (dq w _ bh)).trans bh), ((HB.out.cell (dq w _ bg)).trans bg), ((HB.out.cell (dq w _ bf)).trans bf), ((HB.out.cell (dq w _ be)).trans be), ((HB.out.cell (dq w _ bd)).trans bd), ((HB.out.cell (dq w _ bc)).trans bc), ((HB.out.cell (dq w _ bn)).trans bn), ((HB.out.cell (dq w _ bm)).trans bm), ((HB.out.cell (dq w _ bl)).trans bl), ((HB.out.cell (dq w _ bk)).trans bk), ((HB.out.cell (dq w _ bj)).trans bj), ((HB.out.cell (dq w _ bi)).trans bi)⟩ (fun hHeld => ?_); refine with_tabW meddlerref15_All.tab8 meddlerref15_All.bits8 (fun HT_ HW_ => ?_)
            generalize wr.drew = dg at ac HB af ag ah ai aj ak al am an ao ap aq aM aN aO aP aQ aR aS aT aU aV aW aX hHeld ⊢
            refine pure_ (i := 0) (N := some 18) (v := ?_) (a' := ?_) #[true, false, false, false, false, false, false, false, false, false, false, false, false, false, false, false, false, false, false, false, false, false] rfl rfl (any_of HT_.out (by kernel_rfl)) (fun _ _ _ h => h) (Or.inl ⟨by rfl, ?_⟩) ?_ ?_
            rotate_left
            ·intro w'
             go_simp
             with_reducible rfl
            rotate_left
            ·simp only [Act.put, dm, dn, dp, i64_w, i32_w]
             rfl
            refine pure_ (i := 1) (N := some 19) (v := ?_) (a' := ?_) #[true, true, false, false, false, false, false, false, false, false, false, false, false, false, false, false, false, false, false, false, false, false] rfl rfl (any_of HT_.out (by kernel_rfl)) (fun _ _ _ h => h) (Or.inl ⟨by rfl, ?_⟩) ?_ ?_
            rotate_left
            ·intro w'
             go_simp
             with_reducible rfl
            rotate_left
            ·simp only [Act.put, dm, dn, dp, i64_w, i32_w]
             rfl
            refine pure_ (i := 2) (N := some 20) (v := ?_) (a' := ?_) #[true, true, true, false, false, false, false, false, false, false, false, false, false, false, false, false, false, false, false, false, false, false] rfl rfl (any_of HT_.out (by kernel_rfl)) (fun _ _ _ h => h) (Or.inl ⟨by rfl, ?_⟩) ?_ ?_
            rotate_left
            ·intro w'
             go_simp
             with_reducible rfl
            rotate_left
            ·simp only [Act.put, dm, dn, dp, i64_w, i32_w]
             rfl
            refine pure_ (i := 3) (N := some 21) (v := ?_) (a' := ?_) #[true, true, true, true, false, false, false, false, false, false, false, false, false, false, false, false, false, false, false, false, false, false] rfl rfl (any_of HT_.out (by kernel_rfl)) (fun _ _ _ h => h) (Or.inl ⟨by rfl, ?_⟩) ?_ ?_
            rotate_left
            ·intro w'
             go_simp
             with_reducible rfl
            rotate_left
            ·simp only [Act.put, dm, dn, dp, i64_w, i32_w]
             rfl
            refine pure_ (i := 5) (N := some 23) (v := ?_) (a' := ?_) #[true, true, true, true, false, true, false, false, false, false, false, false, false, false, false, false, false, false, false, false, false, false] rfl rfl (any_of HT_.out (by kernel_rfl)) (fun _ _ _ h => h) (Or.inl ⟨by rfl, ?_⟩) ?_ ?_
            rotate_left
            ·intro w'
             go_simp
             with_reducible rfl
            rotate_left
            ·simp only [Act.put, dm, dn, dp, i64_w, i32_w]
             rfl
            refine pure_ (i := 6) (N := some 24) (v := ?_) (a' := ?_) #[true, true, true, true, false, true, true, false, false, false, false, false, false, false, false, false, false, false, false, false, false, false] rfl rfl (any_of HT_.out (by kernel_rfl)) (fun _ _ _ h => h) (Or.inl ⟨by rfl, ?_⟩) ?_ ?_
            rotate_left
            ·intro w'
             go_simp
             with_reducible rfl
            rotate_left
            ·simp only [Act.put, dm, dn, dp, i64_w, i32_w]
             rfl
            refine pure_ (i := 7) (N := some 25) (v := ?_) (a' := ?_) #[true, true, true, true, false, true, true, true, false, false, false, false, false, false, false, false, false, false, false, false, false, false] rfl rfl (any_of HT_.out (by kernel_rfl)) (fun _ _ _ h => h) (Or.inl ⟨by rfl, ?_⟩) ?_ ?_
            rotate_left
            ·intro w'
             go_simp
             with_reducible rfl
            rotate_left
            ·simp only [Act.put, dm, dn, dp, i64_w, i32_w]
             rfl
            refine pure_ (i := 8) (N := some 26) (v := ?_) (a' := ?_) #[true, true, true, true, false, true, true, true, true, false, false, false, false, false, false, false, false, false, false, false, false, false] rfl rfl (any_of HT_.out (by kernel_rfl)) (fun _ _ _ h => h) (Or.inl ⟨by rfl, ?_⟩) ?_ ?_
            rotate_left
            ·intro w'
             go_simp
             with_reducible rfl
            rotate_left
            ·simp only [Act.put, dm, dn, dp, i64_w, i32_w]
             rfl
            refine take_ (i := 4) (N := some 22) (v := ?_) (a' := ?_) #[true, true, true, true, true, true, true, true, true, false, false, false, false, false, false, false, false, false, false, false, false, false] rfl rfl (take_ofW HT_.out HW_.out (by kernel_rfl)) (fun _ _ _ h => h) (Or.inl ⟨by rfl, ?_⟩) hHeld ?_ ?_
            rotate_left
            ·rintro w' ⟨s0, s1, s2, s3, s4, s5, s6, s7, s8, s9, au, av, aY, aZ, a1, a2, a3, a4, a5, a6, a7, a8, a9, ba⟩
             go_simp
             with_reducible rfl
            rotate_left
            ·simp only [Act.put, dm, dn, dp, i64_w, i32_w]
             rfl
            refine take_ (i := 9) (N := some 27) (v := ?_) (a' := ?_) #[true, true, true, true, true, true, true, true, true, true, false, false, false, false, false, false, false, false, false, false, false, false] rfl rfl (take_ofW HT_.out HW_.out (by kernel_rfl)) (fun _ _ _ h => h) (Or.inl ⟨by rfl, ?_⟩) hHeld ?_ ?_
            rotate_left
            ·rintro w' ⟨s0, s1, s2, s3, s4, s5, s6, s7, s8, s9, au, av, aY, aZ, a1, a2, a3, a4, a5, a6, a7, a8, a9, ba⟩
             go_simp
             with_reducible rfl
            rotate_left
            ·simp only [Act.put, dm, dn, dp, i64_w, i32_w]
             rfl
            refine pure_ (i := 10) (N := some 28) (v := ?_) (a' := ?_) #[true, true, true, true, true, true, true, true, true, true, true, false, false, false, false, false, false, false, false, false, false, false] rfl rfl (any_of HT_.out (by kernel_rfl)) (fun _ _ _ h => h) (Or.inl ⟨by rfl, ?_⟩) ?_ ?_
            rotate_left
            ·intro w'
             go_simp
             with_reducible rfl
            rotate_left
            ·simp only [Act.put, dm, dn, dp, i64_w, i32_w]
             rfl
            refine pure_ (i := 11) (N := some 29) (v := ?_) (a' := ?_) #[true, true, true, true, true, true, true, true, true, true, true, true, false, false, false, false, false, false, false, false, false, false] rfl rfl (any_of HT_.out (by kernel_rfl)) (fun _ _ _ h => h) (Or.inl ⟨by rfl, ?_⟩) ?_ ?_
            rotate_left
            ·intro w'
             go_simp
             with_reducible rfl
            rotate_left
            ·simp only [Act.put, dm, dn, dp, i64_w, i32_w]
             rfl
            refine pure_ (i := 12) (N := some 30) (v := ?_) (a' := ?_) #[true, true, true, true, true, true, true, true, true, true, true, true, true, false, false, false, false, false, false, false, false, false] rfl rfl (any_of HT_.out (by kernel_rfl)) (fun _ _ _ h => h) (Or.inl ⟨by rfl, ?_⟩) ?_ ?_
            rotate_left
            ·intro w'
             go_simp
             with_reducible rfl
            rotate_left
            ·simp only [Act.put, dm, dn, dp, i64_w, i32_w]
             rfl
            refine pure_ (i := 13) (N := some 31) (v := ?_) (a' := ?_) #[true, true, true, true, true, true, true, true, true, true, true, true, true, true, false, false, false, false, false, false, false, false] rfl rfl (any_of HT_.out (by kernel_rfl)) (fun _ _ _ h => h) (Or.inl ⟨by rfl, ?_⟩) ?_ ?_
            rotate_left
            ·intro w'
             go_simp
             with_reducible rfl
            rotate_left
            ·simp only [Act.put, dm, dn, dp, i64_w, i32_w]
             rfl
            refine pure_ (i := 14) (N := some 32) (v := ?_) (a' := ?_) #[true, true, true, true, true, true, true, true, true, true, true, true, true, true, true, false, false, false, false, false, false, false] rfl rfl (any_of HT_.out (by kernel_rfl)) (fun _ _ _ h => h) (Or.inl ⟨by rfl, ?_⟩) ?_ ?_
            rotate_left
            ·intro w'
             go_simp
             with_reducible rfl
            rotate_left
            ·simp only [Act.put, dm, dn, dp, i64_w, i32_w]
             rfl
            refine pure_ (i := 16) (N := some 34) (v := ?_) (a' := ?_) #[true, true, true, true, true, true, true, true, true, true, true, true, true, true, true, false, true, false, false, false, false, false] rfl rfl (any_of HT_.out (by kernel_rfl)) (fun _ _ _ h => h) (Or.inl ⟨by rfl, ?_⟩) ?_ ?_
            rotate_left
            ·intro w'
             go_simp
             with_reducible rfl
            rotate_left
            ·simp only [Act.put, dm, dn, dp, i64_w, i32_w]
             rfl
            refine pure_ (i := 17) (N := some 35) (v := ?_) (a' := ?_) #[true, true, true, true, true, true, true, true, true, true, true, true, true, true, true, false, true, true, false, false, false, false] rfl rfl (any_of HT_.out (by kernel_rfl)) (fun _ _ _ h => h) (Or.inl ⟨by rfl, ?_⟩) ?_ ?_
            rotate_left
            ·intro w'
             go_simp
             with_reducible rfl
            rotate_left
            ·simp only [Act.put, dm, dn, dp, i64_w, i32_w]
             rfl
            refine pure_ (i := 18) (N := some 36) (v := ?_) (a' := ?_) #[true, true, true, true, true, true, true, true, true, true, true, true, true, true, true, false, true, true, true, false, false, false] rfl rfl (any_of HT_.out (by kernel_rfl)) (fun _ _ _ h => h) (Or.inl ⟨by rfl, ?_⟩) ?_ ?_
            rotate_left
            ·intro w'
             go_simp
             with_reducible rfl
            rotate_left
            ·simp only [Act.put, dm, dn, dp, i64_w, i32_w]
             rfl
            refine take_ (i := 15) (N := some 33) (v := ?_) (a' := ?_) #[true, true, true, true, true, true, true, true, true, true, true, true, true, true, true, true, true, true, true, false, false, false] rfl rfl (take_ofW HT_.out HW_.out (by kernel_rfl)) (fun _ _ _ h => h) (Or.inl ⟨by rfl, ?_⟩) hHeld ?_ ?_
            rotate_left
            ·rintro w' ⟨s0, s1, s2, s3, s4, s5, s6, s7, s8, s9, au, av, aY, aZ, a1, a2, a3, a4, a5, a6, a7, a8, a9, ba⟩
             go_simp
             with_reducible rfl
            rotate_left
            ·simp only [Act.put, dm, dn, dp, i64_w, i32_w]
             rfl
            refine take_ (i := 19) (N := some 37) (v := ?_) (a' := ?_) #[true, true, true, true, true, true, true, true, true, true, true, true, true, true, true, true, true, true, true, true, false, false] rfl rfl (take_ofW HT_.out HW_.out (by kernel_rfl)) (fun _ _ _ h => h) (Or.inl ⟨by rfl, ?_⟩) hHeld ?_ ?_
            rotate_left
            ·rintro w' ⟨s0, s1, s2, s3, s4, s5, s6, s7, s8, s9, au, av, aY, aZ, a1, a2, a3, a4, a5, a6, a7, a8, a9, ba⟩
             go_simp
             with_reducible rfl
            rotate_left
            ·simp only [Act.put, dm, dn, dp, i64_w, i32_w]
             rfl
            refine one_ (i := 20) (N := some 38) #[true, true, true, true, true, true, true, true, true, true, true, true, true, true, true, true, true, true, true, true, true, false] rfl rfl (one_of HT_.out (by kernel_rfl)) (by decide) (fun K hK => ?_)
            refine goes_ Try.func31 (by kernel_rfl) rfl #[.agg #[.int .i64 ((rd_T31 l0 aa).f0), .int .i64 ((rd_T31 l0 aa).f1), .bool ((rd_T31 l0 aa).f2), .int .i64 ((rd_T31 l0 aa).f3), .bool ((rd_T31 l0 aa).f4), .int .i64 ((rd_T31 l0 aa).f5)], .agg #[.int .i64 ((rd_T31 l0 ab).f0), .int .i64 ((rd_T31 l0 ab).f1), .bool ((rd_T31 l0 ab).f2), .int .i64 ((rd_T31 l0 ab).f3), .bool ((rd_T31 l0 ab).f4), .int .i64 ((rd_T31 l0 ab).f5)]] (by rfl) rfl rfl (by (try simp only [List.map_toArray, List.map_cons, List.map_nil]); first | done | rfl | (simp only [List.length_drop, List.length_take]; rfl)) ?_
            with_reducible refine (meddlerref15_Meet.calls ((rd_T31 l0 aa).f0) ((rd_T31 l0 aa).f1) ((rd_T31 l0 aa).f2) ((rd_T31 l0 aa).f3) ((rd_T31 l0 aa).f4) ((rd_T31 l0 aa).f5) ((rd_T31 l0 ab).f0) ((rd_T31 l0 ab).f1) ((rd_T31 l0 ab).f2) ((rd_T31 l0 ab).f3) ((rd_T31 l0 ab).f4) ((rd_T31 l0 ab).f5) false _ A8.out).mono ?_
            rintro e dh ⟨rfl, hb⟩
            refine ⟨_, rfl, ?_⟩
            have ad := q21 (Kd.R_below (by (with_reducible repeat (first | apply Kd.R_alloc | apply Kd.R_drewN | apply Kd.R_drew)); exact ac.out) hb)
            have ae := q21 (below_step (by repeat (first | (with_reducible first | exact HB.out | apply dj | apply dk | apply dl) | exact HB.out)) hb)
            clear ac
            clear HB
            have ac := ad
            have HB := ae
            clear ad ae
            (try clear hb)
            (try clear cN)
            (try clear hk)
            (try clear hi)
            refine hK.out _ _ ⟨((HB.out.cell (dq w _ aB)).trans aB), ((HB.out.cell (dq w _ aA)).trans aA), ((HB.out.cell (dq w _ az)).trans az), ((HB.out.cell (dq w _ ay)).trans ay), ((HB.out.cell (dq w _ ax)).trans ax), ((HB.out.cell (dq w _ aw)).trans aw), ((HB.out.cell (dq w _ aH)).trans aH), ((HB.out.cell (dq w _ aG)).trans aG), ((HB.out.cell (dq w _ aF)).trans aF), ((HB.out.cell (dq w _ aE)).trans aE), ((HB.out.cell (dq w _ aD)).trans aD), ((HB.out.cell (dq w _ aC)).trans aC), ((HB.out.cell (dq w _ bh)).trans bh), ((HB.out.cell (dq w _ bg)).trans bg), ((HB.out.cell (dq w _ bf)).trans bf), ((HB.out.cell (dq w _ be)).trans be), ((HB.out.cell (dq w _ bd)).trans bd), ((HB.out.cell (dq w _ bc)).trans bc), ((HB.out.cell (dq w _ bn)).trans bn), ((HB.out.cell (dq w _ bm)).trans bm), ((HB.out.cell (dq w _ bl)).trans bl), ((HB.out.cell (dq w _ bk)).trans bk), ((HB.out.cell (dq w _ bj)).trans bj), ((HB.out.cell (dq w _ bi)).trans bi)⟩ (fun hHeld => ?_)
            clear hK K
            refine norm_ (a' := ?_) ?_ ?_
            rotate_left
            ·show Act.put _ (some 38) _ = _
             simp only [Act.put, dm, dn, dp, i64_w, i32_w]
             rfl
            refine pure_ (i := 21) (N := some 39) (v := ?_) (a' := ?_) #[true, true, true, true, true, true, true, true, true, true, true, true, true, true, true, true, true, true, true, true, true, true] rfl rfl (any_of HT_.out (by kernel_rfl)) (fun _ _ _ h => h) (Or.inl ⟨by rfl, ?_⟩) ?_ ?_
            rotate_left
            ·intro w'
             go_simp
             with_reducible rfl
            rotate_left
            ·simp only [Act.put, dm, dn, dp, i64_w, i32_w]
             rfl
            refine done_ (done_of HT_.out (by kernel_rfl)) ?_
            try go_wp2
            go_roundg k2
            case measure => have := bo.out; have := bp.out; omega
            case rel => exact ⟨(x3_2), (wrap64 (ab + 1)), (by first | rfl | (simp; done) | (simp [*]; done)), H', ⟨by have := bo.out; have := bp.out; omega⟩, ⟨by (with_reducible repeat (first | apply Kd.R_alloc | apply Kd.R_drewN | apply Kd.R_drew)); exact ac.out⟩, ⟨by repeat (first | (with_reducible first | exact HB.out | apply dj | apply dk | apply dl) | exact HB.out)⟩⟩
          ·rw [if_neg c7] at H
           have cL : decide (((rd_T31 l0 aa).f0) < ((rd_T31 l0 ab).f0)) = false := decide_eq_false c7
           clear c7
           have H' := q21 H
           clear H
           try go_wp2
           have ad := q21 (Kd.R_drew ac.out)
           have ae := q21 (dl HB.out)
           clear ac
           clear HB
           have ac := ad
           have HB := ae
           clear ad ae
           have aI : 0 ≤ (aa : Int) := of_decide_eq_true (by first | (with_reducible assumption) | assumption)
           have aJ : aa < (l0.length : Int) := of_decide_eq_true (by first | (with_reducible assumption) | assumption)
           obtain ⟨ad334, bw, af, ag, ah, ai, aj, ak⟩ := at_T31 ar.out aa aI aJ
           have aw := ak
           have ax := aj
           have ay := ai
           have az := ah
           have aA := ag
           have aB := af
           cases bw
           replace af := (HB.out.cell (dq w _ af)).trans af
           replace ag := (HB.out.cell (dq w _ ag)).trans ag
           replace ah := (HB.out.cell (dq w _ ah)).trans ah
           replace ai := (HB.out.cell (dq w _ ai)).trans ai
           replace aj := (HB.out.cell (dq w _ aj)).trans aj
           replace ak := (HB.out.cell (dq w _ ak)).trans ak
           replace aI := eq_true aI
           replace aJ := eq_true aJ
           have aK : 0 ≤ (ab : Int) := of_decide_eq_true (by first | (with_reducible assumption) | assumption)
           have aL : ab < (l0.length : Int) := of_decide_eq_true (by first | (with_reducible assumption) | assumption)
           obtain ⟨bx, bz, al, am, an, ao, ap, aq⟩ := at_T31 ar.out ab aK aL
           have aC := aq
           have aD := ap
           have aE := ao
           have aF := an
           have aG := am
           have aH := al
           obtain rfl : ad334 = bx := (by injection bz)
           replace al := (HB.out.cell (dq w _ al)).trans al
           replace am := (HB.out.cell (dq w _ am)).trans am
           replace an := (HB.out.cell (dq w _ an)).trans an
           replace ao := (HB.out.cell (dq w _ ao)).trans ao
           replace ap := (HB.out.cell (dq w _ ap)).trans ap
           replace aq := (HB.out.cell (dq w _ aq)).trans aq
           replace aK := eq_true aK
           replace aL := eq_true aL
           refine start_ (n := 22) (S := fun w' => w'.cell? (ad334.add ((aa).toNat * 6)) = some (.int .i64 ((rd_T31 l0 aa).f0)) ∧ w'.cell? ⟨(ad334.add ((aa).toNat * 6)).block, (ad334.add ((aa).toNat * 6)).off + 1, none⟩ = some (.int .i64 ((rd_T31 l0 aa).f1)) ∧ w'.cell? ⟨(ad334.add ((aa).toNat * 6)).block, (ad334.add ((aa).toNat * 6)).off + 2, none⟩ = some (.bool ((rd_T31 l0 aa).f2)) ∧ w'.cell? ⟨(ad334.add ((aa).toNat * 6)).block, (ad334.add ((aa).toNat * 6)).off + 3, none⟩ = some (.int .i64 ((rd_T31 l0 aa).f3)) ∧ w'.cell? ⟨(ad334.add ((aa).toNat * 6)).block, (ad334.add ((aa).toNat * 6)).off + 4, none⟩ = some (.bool ((rd_T31 l0 aa).f4)) ∧ w'.cell? ⟨(ad334.add ((aa).toNat * 6)).block, (ad334.add ((aa).toNat * 6)).off + 5, none⟩ = some (.int .i64 ((rd_T31 l0 aa).f5)) ∧ w'.cell? (ad334.add ((ab).toNat * 6)) = some (.int .i64 ((rd_T31 l0 ab).f0)) ∧ w'.cell? ⟨(ad334.add ((ab).toNat * 6)).block, (ad334.add ((ab).toNat * 6)).off + 1, none⟩ = some (.int .i64 ((rd_T31 l0 ab).f1)) ∧ w'.cell? ⟨(ad334.add ((ab).toNat * 6)).block, (ad334.add ((ab).toNat * 6)).off + 2, none⟩ = some (.bool ((rd_T31 l0 ab).f2)) ∧ w'.cell? ⟨(ad334.add ((ab).toNat * 6)).block, (ad334.add ((ab).toNat * 6)).off + 3, none⟩ = some (.int .i64 ((rd_T31 l0 ab).f3)) ∧ w'.cell? ⟨(ad334.add ((ab).toNat * 6)).block, (ad334.add ((ab).toNat * 6)).off + 4, none⟩ = some (.bool ((rd_T31 l0 ab).f4)) ∧ w'.cell? ⟨(ad334.add ((ab).toNat * 6)).block, (ad334.add ((ab).toNat * 6)).off + 5, none⟩ = some (.int .i64 ((rd_T31 l0 ab).f5))) (ds := []) #[false, false, false, false, false, false, false, false, false, false, false, false, false, false, false, false, false, false, false, false, false, false] (by kernel_rfl) rfl rfl ⟨((HB.out.cell (dq w _ aB)).trans aB), ((HB.out.cell (dq w _ aA)).trans aA), ((HB.out.cell (dq w _ az)).trans az), ((HB.out.cell (dq w _ ay)).trans ay), ((HB.out.cell (dq w _ ax)).trans ax), ((HB.out.cell (dq w _ aw)).trans aw), ((HB.out.cell (dq w _ aH)).trans aH), ((HB.out.cell (dq w _ aG)).trans aG), ((HB.out.cell (dq w _ aF)).trans aF), ((HB.out.cell (dq w _ aE)).trans aE), ((HB.out.cell (dq w _ aD)).trans aD), ((HB.out.cell (dq w _ aC)).trans aC)⟩ (fun hHeld => ?_); refine with_tabW meddlerref15_All.tab8 meddlerref15_All.bits8 (fun HT_ HW_ => ?_)
           generalize wr.drew = di at ac HB af ag ah ai aj ak al am an ao ap aq hHeld ⊢
           refine pure_ (i := 0) (N := some 18) (v := ?_) (a' := ?_) #[true, false, false, false, false, false, false, false, false, false, false, false, false, false, false, false, false, false, false, false, false, false] rfl rfl (any_of HT_.out (by kernel_rfl)) (fun _ _ _ h => h) (Or.inl ⟨by rfl, ?_⟩) ?_ ?_
           rotate_left
           ·intro w'
            go_simp
            with_reducible rfl
           rotate_left
           ·simp only [Act.put, dm, dn, dp, i64_w, i32_w]
            rfl
           refine pure_ (i := 1) (N := some 19) (v := ?_) (a' := ?_) #[true, true, false, false, false, false, false, false, false, false, false, false, false, false, false, false, false, false, false, false, false, false] rfl rfl (any_of HT_.out (by kernel_rfl)) (fun _ _ _ h => h) (Or.inl ⟨by rfl, ?_⟩) ?_ ?_
           rotate_left
           ·intro w'
            go_simp
            with_reducible rfl
           rotate_left
           ·simp only [Act.put, dm, dn, dp, i64_w, i32_w]
            rfl
           refine pure_ (i := 2) (N := some 20) (v := ?_) (a' := ?_) #[true, true, true, false, false, false, false, false, false, false, false, false, false, false, false, false, false, false, false, false, false, false] rfl rfl (any_of HT_.out (by kernel_rfl)) (fun _ _ _ h => h) (Or.inl ⟨by rfl, ?_⟩) ?_ ?_
           rotate_left
           ·intro w'
            go_simp
            with_reducible rfl
           rotate_left
           ·simp only [Act.put, dm, dn, dp, i64_w, i32_w]
            rfl
           refine pure_ (i := 3) (N := some 21) (v := ?_) (a' := ?_) #[true, true, true, true, false, false, false, false, false, false, false, false, false, false, false, false, false, false, false, false, false, false] rfl rfl (any_of HT_.out (by kernel_rfl)) (fun _ _ _ h => h) (Or.inl ⟨by rfl, ?_⟩) ?_ ?_
           rotate_left
           ·intro w'
            go_simp
            with_reducible rfl
           rotate_left
           ·simp only [Act.put, dm, dn, dp, i64_w, i32_w]
            rfl
           refine pure_ (i := 5) (N := some 23) (v := ?_) (a' := ?_) #[true, true, true, true, false, true, false, false, false, false, false, false, false, false, false, false, false, false, false, false, false, false] rfl rfl (any_of HT_.out (by kernel_rfl)) (fun _ _ _ h => h) (Or.inl ⟨by rfl, ?_⟩) ?_ ?_
           rotate_left
           ·intro w'
            go_simp
            with_reducible rfl
           rotate_left
           ·simp only [Act.put, dm, dn, dp, i64_w, i32_w]
            rfl
           refine pure_ (i := 6) (N := some 24) (v := ?_) (a' := ?_) #[true, true, true, true, false, true, true, false, false, false, false, false, false, false, false, false, false, false, false, false, false, false] rfl rfl (any_of HT_.out (by kernel_rfl)) (fun _ _ _ h => h) (Or.inl ⟨by rfl, ?_⟩) ?_ ?_
           rotate_left
           ·intro w'
            go_simp
            with_reducible rfl
           rotate_left
           ·simp only [Act.put, dm, dn, dp, i64_w, i32_w]
            rfl
           refine pure_ (i := 7) (N := some 25) (v := ?_) (a' := ?_) #[true, true, true, true, false, true, true, true, false, false, false, false, false, false, false, false, false, false, false, false, false, false] rfl rfl (any_of HT_.out (by kernel_rfl)) (fun _ _ _ h => h) (Or.inl ⟨by rfl, ?_⟩) ?_ ?_
           rotate_left
           ·intro w'
            go_simp
            with_reducible rfl
           rotate_left
           ·simp only [Act.put, dm, dn, dp, i64_w, i32_w]
            rfl
           refine pure_ (i := 8) (N := some 26) (v := ?_) (a' := ?_) #[true, true, true, true, false, true, true, true, true, false, false, false, false, false, false, false, false, false, false, false, false, false] rfl rfl (any_of HT_.out (by kernel_rfl)) (fun _ _ _ h => h) (Or.inl ⟨by rfl, ?_⟩) ?_ ?_
           rotate_left
           ·intro w'
            go_simp
            with_reducible rfl
           rotate_left
           ·simp only [Act.put, dm, dn, dp, i64_w, i32_w]
            rfl
           refine take_ (i := 4) (N := some 22) (v := ?_) (a' := ?_) #[true, true, true, true, true, true, true, true, true, false, false, false, false, false, false, false, false, false, false, false, false, false] rfl rfl (take_ofW HT_.out HW_.out (by kernel_rfl)) (fun _ _ _ h => h) (Or.inl ⟨by rfl, ?_⟩) hHeld ?_ ?_
           rotate_left
           ·rintro w' ⟨s0, s1, s2, s3, s4, s5, s6, s7, s8, s9, au, av⟩
            go_simp
            with_reducible rfl
           rotate_left
           ·simp only [Act.put, dm, dn, dp, i64_w, i32_w]
            rfl
           refine take_ (i := 9) (N := some 27) (v := ?_) (a' := ?_) #[true, true, true, true, true, true, true, true, true, true, false, false, false, false, false, false, false, false, false, false, false, false] rfl rfl (take_ofW HT_.out HW_.out (by kernel_rfl)) (fun _ _ _ h => h) (Or.inl ⟨by rfl, ?_⟩) hHeld ?_ ?_
           rotate_left
           ·rintro w' ⟨s0, s1, s2, s3, s4, s5, s6, s7, s8, s9, au, av⟩
            go_simp
            with_reducible rfl
           rotate_left
           ·simp only [Act.put, dm, dn, dp, i64_w, i32_w]
            rfl
           refine pure_ (i := 10) (N := some 28) (v := ?_) (a' := ?_) #[true, true, true, true, true, true, true, true, true, true, true, false, false, false, false, false, false, false, false, false, false, false] rfl rfl (any_of HT_.out (by kernel_rfl)) (fun _ _ _ h => h) (Or.inl ⟨by rfl, ?_⟩) ?_ ?_
           rotate_left
           ·intro w'
            go_simp
            with_reducible rfl
           rotate_left
           ·simp only [Act.put, dm, dn, dp, i64_w, i32_w]
            rfl
           refine pure_ (i := 11) (N := some 29) (v := ?_) (a' := ?_) #[true, true, true, true, true, true, true, true, true, true, true, true, false, false, false, false, false, false, false, false, false, false] rfl rfl (any_of HT_.out (by kernel_rfl)) (fun _ _ _ h => h) (Or.inl ⟨by rfl, ?_⟩) ?_ ?_
           rotate_left
           ·intro w'
            go_simp
            with_reducible rfl
           rotate_left
           ·simp only [Act.put, dm, dn, dp, i64_w, i32_w]
            rfl
           refine pure_ (i := 12) (N := some 30) (v := undef) (a' := ?_) #[true, true, true, true, true, true, true, true, true, true, true, true, true, false, false, false, false, false, false, false, false, false] rfl rfl (any_of HT_.out (by kernel_rfl)) (fun _ _ _ h => h) (Or.inr ⟨by rfl, rfl⟩) ?_ ?_
           rotate_left
           ·simp only [Act.put, dm, dn, dp, i64_w, i32_w]
            rfl
           refine pure_ (i := 13) (N := some 31) (v := undef) (a' := ?_) #[true, true, true, true, true, true, true, true, true, true, true, true, true, true, false, false, false, false, false, false, false, false] rfl rfl (any_of HT_.out (by kernel_rfl)) (fun _ _ _ h => h) (Or.inr ⟨by rfl, rfl⟩) ?_ ?_
           rotate_left
           ·simp only [Act.put, dm, dn, dp, i64_w, i32_w]
            rfl
           refine pure_ (i := 14) (N := some 32) (v := undef) (a' := ?_) #[true, true, true, true, true, true, true, true, true, true, true, true, true, true, true, false, false, false, false, false, false, false] rfl rfl (any_of HT_.out (by kernel_rfl)) (fun _ _ _ h => h) (Or.inr ⟨by rfl, rfl⟩) ?_ ?_
           rotate_left
           ·simp only [Act.put, dm, dn, dp, i64_w, i32_w]
            rfl
           refine pure_ (i := 15) (N := some 33) (v := undef) (a' := ?_) #[true, true, true, true, true, true, true, true, true, true, true, true, true, true, true, true, false, false, false, false, false, false] rfl rfl (any_of HT_.out (by kernel_rfl)) (fun _ _ _ h => h) (Or.inr ⟨by rfl, rfl⟩) ?_ ?_
           rotate_left
           ·simp only [Act.put, dm, dn, dp, i64_w, i32_w]
            rfl
           refine pure_ (i := 16) (N := some 34) (v := undef) (a' := ?_) #[true, true, true, true, true, true, true, true, true, true, true, true, true, true, true, true, true, false, false, false, false, false] rfl rfl (any_of HT_.out (by kernel_rfl)) (fun _ _ _ h => h) (Or.inr ⟨by rfl, rfl⟩) ?_ ?_
           rotate_left
           ·simp only [Act.put, dm, dn, dp, i64_w, i32_w]
            rfl
           refine pure_ (i := 17) (N := some 35) (v := undef) (a' := ?_) #[true, true, true, true, true, true, true, true, true, true, true, true, true, true, true, true, true, true, false, false, false, false] rfl rfl (any_of HT_.out (by kernel_rfl)) (fun _ _ _ h => h) (Or.inr ⟨by rfl, rfl⟩) ?_ ?_
           rotate_left
           ·simp only [Act.put, dm, dn, dp, i64_w, i32_w]
            rfl
           refine pure_ (i := 18) (N := some 36) (v := undef) (a' := ?_) #[true, true, true, true, true, true, true, true, true, true, true, true, true, true, true, true, true, true, true, false, false, false] rfl rfl (any_of HT_.out (by kernel_rfl)) (fun _ _ _ h => h) (Or.inr ⟨by rfl, rfl⟩) ?_ ?_
           rotate_left
           ·simp only [Act.put, dm, dn, dp, i64_w, i32_w]
            rfl
           refine pure_ (i := 19) (N := some 37) (v := undef) (a' := ?_) #[true, true, true, true, true, true, true, true, true, true, true, true, true, true, true, true, true, true, true, true, false, false] rfl rfl (any_of HT_.out (by kernel_rfl)) (fun _ _ _ h => h) (Or.inr ⟨by rfl, rfl⟩) ?_ ?_
           rotate_left
           ·simp only [Act.put, dm, dn, dp, i64_w, i32_w]
            rfl
           refine pure_ (i := 20) (N := some 38) (v := undef) (a' := ?_) #[true, true, true, true, true, true, true, true, true, true, true, true, true, true, true, true, true, true, true, true, true, false] rfl rfl (any_of HT_.out (by kernel_rfl)) (fun _ _ _ h => h) (Or.inr ⟨by rfl, rfl⟩) ?_ ?_
           rotate_left
           ·simp only [Act.put, dm, dn, dp, i64_w, i32_w]
            rfl
           refine pure_ (i := 21) (N := some 39) (v := ?_) (a' := ?_) #[true, true, true, true, true, true, true, true, true, true, true, true, true, true, true, true, true, true, true, true, true, true] rfl rfl (any_of HT_.out (by kernel_rfl)) (fun _ _ _ h => h) (Or.inl ⟨by rfl, ?_⟩) ?_ ?_
           rotate_left
           ·intro w'
            go_simp
            with_reducible rfl
           rotate_left
           ·simp only [Act.put, dm, dn, dp, i64_w, i32_w]
            rfl
           refine done_ (done_of HT_.out (by kernel_rfl)) ?_
           try go_wp2
           go_roundg k2
           case measure => have := bo.out; have := bp.out; omega
           case rel => exact ⟨(x3_2), (wrap64 (ab + 1)), (by first | rfl | (simp; done) | (simp [*]; done)), H', ⟨by have := bo.out; have := bp.out; omega⟩, ⟨by (with_reducible repeat (first | apply Kd.R_alloc | apply Kd.R_drewN | apply Kd.R_drew)); exact ac.out⟩, ⟨by repeat (first | (with_reducible first | exact HB.out | apply dj | apply dk | apply dl) | exact HB.out)⟩⟩
         ·rw [if_neg c6] at H
          exact absurd H (by simp)
        ·rw [if_neg c5] at H
         exact absurd H (by simp)
       ·rw [if_neg c4] at H
        exact absurd H (by simp)
      ·rw [if_neg c3] at H
       have cK : decide (ab < (l0.length : Int)) = false := decide_eq_false c3
       clear c3
       have H' := q21 H
       clear H
       go_wp2
       go_roundg k2
       case measure => have := bo.out; have := bp.out; omega
       case rel => exact ⟨(x3_2), (wrap64 (aa + 1)), (by first | rfl | (simp; done) | (simp [*]; done)), H', ⟨by have := bo.out; have := bp.out; omega⟩, ⟨by (with_reducible repeat (first | apply Kd.R_alloc | apply Kd.R_drewN | apply Kd.R_drew)); exact ac.out⟩, ⟨by repeat (first | (with_reducible first | exact HB.out | apply dj | apply dk | apply dl) | exact HB.out)⟩⟩
   ·rw [if_neg c2] at H
    have cF : decide (aa < (l0.length : Int)) = false := decide_eq_false c2
    clear c2
    obtain rfl := Option.some.inj H
    go_wp2
    go_ret
    exact ⟨_, by first | rfl | (simp [errW_none, errW_some] <;> rfl) | (simp [*, errW_none, errW_some] <;> rfl), by (with_reducible repeat (first | apply Kd.R_alloc | apply Kd.R_drewN | apply Kd.R_drew)); exact ac.out, by repeat (first | (with_reducible first | exact HB.out | apply dj | apply dk | apply dl) | exact HB.out)⟩
end Go.Proofs.Ytadnjibgdpjnlaa.Rp
