/- meddlerref10.meet: do two actions meet? -/
import Derived.BigQuiet
import Derived.Deep.QuietTactic
import Derived.Deep.DeepCutAuto
import Derived.Deep.CutBlock
import Derived.Test.YtikjamcemnbhbaaMrRef9
namespace Go.Proofs.Ytikjamcemnbhbaa.Mr
open Go.RowKit Go.Proofs.YtikjamcemnbhbaaW.PrintWords Go.Proofs.YtikjamcemnbhbaaW.PrintLast
set_option linter.unusedVariables false
set_option linter.unusedSimpArgs false
def isLS (x : Int) : Bool := x == 5 || x == 6
def isFP (x : Int) : Bool := x == 7 || x == 8
/-- What it answers. -/
def rmet (s : St) (i a0 a2 a4 k b0 b2 b4 : Int) : Bool :=
  if isLS a0 && isLS b0 then a4 == b4 && (a0 == 6 || b0 == 6)
  else isFP a0 && (isFP b0 && (a4 == b4 && ((a0 == 8 || b0 == 8) && rd (s.row (4 + 2 * i.toNat)) a2 == rd (s.row (4 + 2 * k.toNat)) b2)))
set_option maxHeartbeats 8000000 in
set_option maxRecDepth 100000 in
theorem rmeet_calls (w : World) {lo hi : Nat} {u : RefU} {pr : PhR} {cs : List S49} {nA : Nat} {s : St} (H : RefIn w lo hi u pr cs.length nA s) (i k : Int) (hi : 0 ≤ i ∧ i < cs.length) (hk : 0 ≤ k ∧ k < cs.length) (a0 a1 a2 a3 a4 a5 a6 a7 a8 b0 b1 b2 b3 b4 b5 b6 b7 b8 : Int) (hA : isFP a0 = true → 0 ≤ a2 ∧ a2 < (s.row (4 + 2 * i.toNat)).length) (hB : isFP b0 = true → 0 ≤ b2 ∧ b2 < (s.row (4 + 2 * k.toNat)).length) :
    Calls Try.prog 51 #[.pointer (some ⟨pr.bm, 0, none⟩), .int .i64 i, .agg #[.int .i64 a0, .int .i64 a1, .int .i64 a2, .int .i64 a3, .int .i64 a4, .int .i64 a5, .int .i64 a6, .int .i64 a7, .int .i64 a8], .int .i64 k, .agg #[.int .i64 b0, .int .i64 b1, .int .i64 b2, .int .i64 b3, .int .i64 b4, .int .i64 b5, .int .i64 b6, .int .i64 b7, .int .i64 b8]] w fun e w' => e = .returned (.bool (rmet s i a0 a2 a4 k b0 b2 b4)) ∧ Below w.heap.size w w' := by
  have HX := Aside0.mk H
  have HA := Aside0.mk hA
  have HB := Aside0.mk hB
  have HI := Aside0.mk hi
  have HK := Aside0.mk hk
  clear H hA hB hi hk
  go_enter Try.func51, Try.ntmps51
  go_upto_region 1 with (first | ((with_reducible refine gate_dst (N := 7) rfl ?_); refine box_event ?hg (N := 7) ?hd (cs := #[.int .i64 a0, .int .i64 a1, .int .i64 a2, .int .i64 a3, .int .i64 a4, .int .i64 a5, .int .i64 a6, .int .i64 a7, .int .i64 a8]) (t := 33) ?hr ?_; (case hd => rfl); (case hg => rfl); (case hr => first | (go_simp; done) | (go_simp; rfl)); intro g7 hgg w1 hlit hb; have HLw1 := Aside0.mk hlit; have HKw1 := Aside0.mk hb; have HGw1 := Aside0.mk hgg; have HB1 := Aside0.mk hb; clear hlit hb hgg) | ((with_reducible refine gate_dst (N := 9) rfl ?_); refine box_event ?hg (N := 9) ?hd (cs := #[.int .i64 b0, .int .i64 b1, .int .i64 b2, .int .i64 b3, .int .i64 b4, .int .i64 b5, .int .i64 b6, .int .i64 b7, .int .i64 b8]) (t := 33) ?hr ?_; (case hd => rfl); (case hg => rfl); (case hr => first | (go_simp; done) | (go_simp; rfl)); intro g9 hgg w2 hlit hb; have HLw2 := Aside0.mk hlit; have HKw2 := Aside0.mk hb; have HGw2 := Aside0.mk hgg; have HB2 := Aside0.mk (below_on HB1.out hb); have HL7 := Aside0.mk (below_read hb HLw1.out); have p0 : w2.cell? ⟨g7, 0, none⟩ = some (.int .i64 a0) := (blk_cell HL7.out 0).trans rfl; have q0 : w2.cell? ⟨g9, 0, none⟩ = some (.int .i64 b0) := (blk_cell HLw2.out 0).trans rfl; have p2 : w2.cell? ⟨g7, 2, none⟩ = some (.int .i64 a2) := (blk_cell HL7.out 2).trans rfl; have q2 : w2.cell? ⟨g9, 2, none⟩ = some (.int .i64 b2) := (blk_cell HLw2.out 2).trans rfl; have p4 : w2.cell? ⟨g7, 4, none⟩ = some (.int .i64 a4) := (blk_cell HL7.out 4).trans rfl; have q4 : w2.cell? ⟨g9, 4, none⟩ = some (.int .i64 b4) := (blk_cell HLw2.out 4).trans rfl; clear hlit hb hgg))
  go_cut [11] (fun s11 wx => s11 = .bool (isLS a0) ∧  wx = w2)
  case first =>
    by_cases h1 : a0 = 5
    · have e1 : (a0 == 5) = true := beq_iff_eq.mpr h1
      clear h1
      go_wp2_with fail
      go_meet
      exact ⟨by unfold isLS; rw [e1]; rfl, rfl⟩
    · have e1 : (a0 == 5) = false := beq_eq_false_iff_ne.mpr h1
      clear h1
      by_cases h2 : a0 = 6
      · have e2 : (a0 == 6) = true := beq_iff_eq.mpr h2
        clear h2
        go_wp2_with fail
        go_meet
        exact ⟨by unfold isLS; rw [e1, e2]; rfl, rfl⟩
      · have e2 : (a0 == 6) = false := beq_eq_false_iff_ne.mpr h2
        clear h2
        go_wp2_with fail
        go_meet
        exact ⟨by unfold isLS; rw [e1, e2]; rfl, rfl⟩
  case rest =>
  obtain ⟨rfl, rfl⟩ := hcut
  generalize wc = w2 at *
  go_upto_region 2 with fail
  go_cut [11, 12] (fun s11 s12 wx => s11 = .bool (isLS a0) ∧ s12 = .bool (isLS b0) ∧  wx = w2)
  case first =>
    by_cases h1 : b0 = 5
    · have e1 : (b0 == 5) = true := beq_iff_eq.mpr h1
      clear h1
      go_wp2_with fail
      go_meet
      exact ⟨rfl, by unfold isLS; rw [e1]; rfl, rfl⟩
    · have e1 : (b0 == 5) = false := beq_eq_false_iff_ne.mpr h1
      clear h1
      by_cases h2 : b0 = 6
      · have e2 : (b0 == 6) = true := beq_iff_eq.mpr h2
        clear h2
        go_wp2_with fail
        go_meet
        exact ⟨rfl, by unfold isLS; rw [e1, e2]; rfl, rfl⟩
      · have e2 : (b0 == 6) = false := beq_eq_false_iff_ne.mpr h2
        clear h2
        go_wp2_with fail
        go_meet
        exact ⟨rfl, by unfold isLS; rw [e1, e2]; rfl, rfl⟩
  case rest =>
  obtain ⟨rfl, rfl, rfl⟩ := hcut
  generalize wc = w2 at *
  go_upto_region 3 with fail
  go_cut [11, 12, 34] (fun s11 s12 s34 wx => s34 = .bool (isLS a0 && isLS b0) ∧ wx = w2)
  case first =>
    cases ha : isLS a0 with
    | false => go_wp2_with fail; go_meet; exact ⟨by rw [ha]; rfl, rfl⟩
    | true => cases hb : isLS b0 with | false => go_wp2_with fail; go_meet; exact ⟨by rw [ha, hb]; rfl, rfl⟩ | true => go_wp2_with fail; go_meet; exact ⟨by rw [ha, hb]; rfl, rfl⟩
  case rest =>
  obtain ⟨rfl, rfl⟩ := hcut
  generalize wc = w2 at *
  cases hab : (isLS a0 && isLS b0) with
  | true =>
    have HAB := Aside0.mk hab
    clear hab
    cases h4 : (a4 == b4) with
    | false => go_wp2_with fail; go_ret; exact ⟨by rw [rmet, HAB.out, if_pos rfl, h4]; rfl, HB2.out⟩
    | true =>
      cases h6 : (a0 == 6) with
      | true => go_wp2_with fail; go_ret; exact ⟨by rw [rmet, HAB.out, if_pos rfl, h4, h6]; rfl, HB2.out⟩
      | false => cases h7 : (b0 == 6) with | true => go_wp2_with fail; go_ret; exact ⟨by rw [rmet, HAB.out, if_pos rfl, h4, h6, h7]; rfl, HB2.out⟩ | false => go_wp2_with fail; go_ret; exact ⟨by rw [rmet, HAB.out, if_pos rfl, h4, h6, h7]; rfl, HB2.out⟩
  | false =>
  have HNL := Aside0.mk hab
  clear hab
  go_upto_region 5 with fail
  go_cut [13] (fun s13 wx => s13 = .bool (isFP a0) ∧  wx = w2)
  case first =>
    by_cases h1 : a0 = 7
    · have e1 : (a0 == 7) = true := beq_iff_eq.mpr h1
      clear h1
      go_wp2_with fail
      go_meet
      exact ⟨by unfold isFP; rw [e1]; rfl, rfl⟩
    · have e1 : (a0 == 7) = false := beq_eq_false_iff_ne.mpr h1
      clear h1
      by_cases h2 : a0 = 8
      · have e2 : (a0 == 8) = true := beq_iff_eq.mpr h2
        clear h2
        go_wp2_with fail
        go_meet
        exact ⟨by unfold isFP; rw [e1, e2]; rfl, rfl⟩
      · have e2 : (a0 == 8) = false := beq_eq_false_iff_ne.mpr h2
        clear h2
        go_wp2_with fail
        go_meet
        exact ⟨by unfold isFP; rw [e1, e2]; rfl, rfl⟩
  case rest =>
  obtain ⟨rfl, rfl⟩ := hcut
  generalize wc = w2 at *
  go_upto_region 6 with fail
  go_cut [13, 14] (fun s13 s14 wx => s13 = .bool (isFP a0) ∧ s14 = .bool (isFP b0) ∧  wx = w2)
  case first =>
    by_cases h1 : b0 = 7
    · have e1 : (b0 == 7) = true := beq_iff_eq.mpr h1
      clear h1
      go_wp2_with fail
      go_meet
      exact ⟨rfl, by unfold isFP; rw [e1]; rfl, rfl⟩
    · have e1 : (b0 == 7) = false := beq_eq_false_iff_ne.mpr h1
      clear h1
      by_cases h2 : b0 = 8
      · have e2 : (b0 == 8) = true := beq_iff_eq.mpr h2
        clear h2
        go_wp2_with fail
        go_meet
        exact ⟨rfl, by unfold isFP; rw [e1, e2]; rfl, rfl⟩
      · have e2 : (b0 == 8) = false := beq_eq_false_iff_ne.mpr h2
        clear h2
        go_wp2_with fail
        go_meet
        exact ⟨rfl, by unfold isFP; rw [e1, e2]; rfl, rfl⟩
  case rest =>
  obtain ⟨rfl, rfl, rfl⟩ := hcut
  generalize wc = w2 at *
  go_upto_region 7 with fail
  cases ha : isFP a0 with
  | false =>
    go_wp2_with fail
    go_quiet (fail)
    go_wp2_with fail
    go_ret
    exact ⟨by rw [rmet, HNL.out, if_neg Bool.false_ne_true, ha]; rfl, pw_below_drewN HB2.out nq⟩
  | true =>
    cases hb : isFP b0 with
    | false =>
      go_wp2_with fail
      go_quiet (fail)
      go_wp2_with fail
      go_ret
      exact ⟨by rw [rmet, HNL.out, if_neg Bool.false_ne_true, ha, hb]; rfl, pw_below_drewN HB2.out nq⟩
    | true =>
      have HFA := Aside0.mk ha
      have HFB := Aside0.mk hb
      obtain ⟨f, hm, -⟩ := HX.out.hm
      obtain ⟨gV, cV, eV, hcV, hv1⟩ := HX.out.vcell i HI.out.1 HI.out.2
      obtain ⟨gV2, cV2, eV2, -, hv2⟩ := HX.out.vcell k HK.out.1 HK.out.2
      rw [eV] at eV2
      injection eV2 with e1 e2 e3
      injection e1 with e1
      injection e1 with e1
      subst e1
      have hA := HA.out HFA.out
      have hB := HB.out HFB.out
      obtain ⟨gi, ci, ei, -, hx1, _, _, _⟩ := own_int (HX.out.rows (4 + 2 * i.toNat)) a2 hA.1 (by rw [rowR_ne _ _ (by omega)]; exact hA.2)
      obtain ⟨gk, ck, ek, -, hx2, _, _, _⟩ := own_int (HX.out.rows (4 + 2 * k.toNat)) b2 hB.1 (by rw [rowR_ne _ _ (by omega)]; exact hB.2)
      rw [rowR_ne _ _ (by omega)] at ei ek hx1 hx2
      rw [ei] at hv1
      rw [ek] at hv2
      generalize hX : rd (s.row (4 + 2 * i.toNat)) a2 = x at hx1
      generalize hY : rd (s.row (4 + 2 * k.toNat)) b2 = y at hx2
      have EX := Aside0.mk hX
      have EY := Aside0.mk hY
      have m5 : w2.cell? ⟨pr.bm, 5, none⟩ = some (.slice (some ⟨gV, 0, none⟩) cs.length cV) := (blk_cell (below_read HB2.out hm) 5).trans (congrArg some eV)
      have v1 := pw_cell_below HB2.out hv1
      have v2 := pw_cell_below HB2.out hv2
      have x1 := pw_cell_below HB2.out hx1
      have x2 := pw_cell_below HB2.out hx2
      have hi0 := HI.out.1
      have hi1 := HI.out.2
      have hk0 := HK.out.1
      have hk1 := HK.out.2
      have ha0 := hA.1
      have ha1 := hA.2
      have hb0 := hB.1
      have hb1 := hB.2
      clear hX hY hx1 hx2 hv1 hv2 ei ek eV e2 e3 hm hcV ha hb hA hB
      cases h4 : (a4 == b4) with
      | false =>
        go_wp2_with fail
        go_quiet (fail)
        go_wp2_with fail
        go_ret
        exact ⟨by rw [rmet, HNL.out, if_neg Bool.false_ne_true, HFA.out, HFB.out, h4]; rfl, pw_below_drewN HB2.out nq⟩
      | true =>
        cases h6 : (a0 == 8) with
        | true =>
          go_wp2_with fail
          go_quiet (fail)
          go_wp2_with fail
          go_ret
          exact ⟨by rw [rmet, HNL.out, if_neg Bool.false_ne_true, HFA.out, HFB.out, h4, h6, EX.out, EY.out]; rfl, pw_below_drewN HB2.out nq⟩
        | false =>
          cases h7 : (b0 == 8) with
          | true =>
            go_wp2_with fail
            go_quiet (fail)
            go_wp2_with fail
            go_ret
            exact ⟨by rw [rmet, HNL.out, if_neg Bool.false_ne_true, HFA.out, HFB.out, h4, h6, h7, EX.out, EY.out]; rfl, pw_below_drewN HB2.out nq⟩
          | false =>
            go_wp2_with fail
            go_quiet (fail)
            go_wp2_with fail
            go_ret
            exact ⟨by rw [rmet, HNL.out, if_neg Bool.false_ne_true, HFA.out, HFB.out, h4, h6, h7]; rfl, pw_below_drewN HB2.out nq⟩
end Go.Proofs.Ytikjamcemnbhbaa.Mr
