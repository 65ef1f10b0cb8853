/- Mach.share: what is shared behind it, and the error. -/
import Derived.Test.YtikjamcemnbhbaaMrReckon
import Derived.Test.YtikjamcemnbhbaaMrRead2
namespace Go.Proofs.Ytikjamcemnbhbaa.Mr
open Go.RowKit Go.Proofs.YtikjamcemnbhbaaW.PrintWords Go.Proofs.YtikjamcemnbhbaaW.PrintLast Go.Proofs.YtikjamcemnbhbaaW.PrintMore
set_option linter.unusedVariables false
set_option linter.unusedSimpArgs false
/-- What share leaves, and the error. -/
def shr (nA : Nat) (s : St) (i : Int) (a : S33) : St × Int :=
  if a.f0 = 5 then (s.setRow (4 + 2 * i.toNat) ((s.row (4 + 2 * i.toNat)).set a.f1.toNat (rd (s.row 0) a.f4)), 0)
  else if a.f0 = 6 then (s.setRow 0 ((s.row 0).set a.f4.toNat (rd (s.row (4 + 2 * i.toNat)) a.f2)), 0)
  else if a.f0 = 7 ∨ a.f0 = 8 then
    (if 0 ≤ rd (s.row (4 + 2 * i.toNat)) a.f2 ∧ rd (s.row (4 + 2 * i.toNat)) a.f2 < (s.row (3 + 2 * a.f4.toNat)).length then
      (if a.f0 = 7 then (s.setRow (4 + 2 * i.toNat) ((s.row (4 + 2 * i.toNat)).set a.f1.toNat (rd (s.row (3 + 2 * a.f4.toNat)) (rd (s.row (4 + 2 * i.toNat)) a.f2))), 0)
       else (s.setRow (3 + 2 * a.f4.toNat) ((s.row (3 + 2 * a.f4.toNat)).set (rd (s.row (4 + 2 * i.toNat)) a.f2).toNat (rd (s.row (4 + 2 * i.toNat)) a.f3)), 0))
     else (s, 9))
  else if a.f0 = 9 then (if rd (s.row 1) a.f4 = i then (s, 11) else (s.setRow 1 ((s.row 1).set a.f4.toNat i), 0))
  else if a.f0 = 10 then (if rd (s.row 1) a.f4 = i then (s.setRow 1 ((s.row 1).set a.f4.toNat (-1)), 0) else (s, 12))
  else (s, 0)
set_option maxHeartbeats 8000000 in
set_option maxRecDepth 100000 in
theorem share_5 (w : World) {nl : Int} {lo hi fl : Nat} {ph : Ph} {cs : List S49} {nA : Nat} {s : St} (H : MachIn w lo hi fl ph cs nA s) (i : Int) (h0 : 0 ≤ i) (h1 : i < cs.length) (a : S33)
    (ha : okA (s.row (4 + 2 * i.toNat)).length (s.row 0).length nA (s.row 1).length nl a) (k : a.f0 = 5) :
    Calls Try.prog 45 #[.pointer (some ⟨ph.bm, 0, none⟩), .int .i64 i, actV a] w fun e w' => e = .returned (.int .i64 (shr nA s i a).2) ∧ Left w lo hi fl ph cs nA (shr nA s i a).1 w' := by
  have HH := Aside0.mk H
  have HR : Aside0 (shr nA s i a = (s.setRow (4 + 2 * i.toNat) ((s.row (4 + 2 * i.toNat)).set a.f1.toNat (rd (s.row 0) a.f4)), 0)) := ⟨by rw [shr, if_pos k]⟩
  have HT := Aside0.mk (ha.t (by omega))
  obtain ⟨hg0, hg1⟩ := ha.g (by omega)
  have kb5 : (a.f0 == 5) = true := beq_iff_eq.mpr (by omega)
  clear H ha
  go_enter Try.func45, Try.ntmps45
  go_wp2_with (first | ((with_reducible refine gate_dst (N := 5) rfl ?_); refine box_event ?hg (N := 5) ?hd (cs := actC a) (t := 33) ?hr ?_; (case hd => rfl); (case hg => rfl); (case hr => first | (go_simp; done) | (go_simp; rfl)); intro gb hg w1 hbox hb; have HBX := Aside0.mk hbox; have HB := Aside0.mk hb; have H1 := Aside0.mk (HH.out.below hb); have hy0 : w1.cell? ⟨gb, 0, none⟩ = some (.int .i64 a.f0) := (blk_cell hbox 0).trans rfl; have hy1 : w1.cell? ⟨gb, 1, none⟩ = some (.int .i64 a.f1) := (blk_cell hbox 1).trans rfl; have hy2 : w1.cell? ⟨gb, 2, none⟩ = some (.int .i64 a.f2) := (blk_cell hbox 2).trans rfl; have hy3 : w1.cell? ⟨gb, 3, none⟩ = some (.int .i64 a.f3) := (blk_cell hbox 3).trans rfl; have hy4 : w1.cell? ⟨gb, 4, none⟩ = some (.int .i64 a.f4) := (blk_cell hbox 4).trans rfl; have hy5 : w1.cell? ⟨gb, 5, none⟩ = some (.int .i64 a.f5) := (blk_cell hbox 5).trans rfl; have hy6 : w1.cell? ⟨gb, 6, none⟩ = some (.int .i64 a.f6) := (blk_cell hbox 6).trans rfl; have hy7 : w1.cell? ⟨gb, 7, none⟩ = some (.int .i64 a.f7) := (blk_cell hbox 7).trans rfl; have hy8 : w1.cell? ⟨gb, 8, none⟩ = some (.int .i64 a.f8) := (blk_cell hbox 8).trans rfl; have htc0 : w1.cell? ⟨ph.tb i.toNat, 0, none⟩ = some (ph.rv (4 + 2 * i.toNat)) := (blk_cell (H1.out.th i.toNat (by omega)).1 0).trans rfl; obtain ⟨fp, hm1, _⟩ := H1.out.hm; have hm4 : w1.cell? ⟨ph.bm, 4, none⟩ = some ph.hT := (blk_cell hm1 4).trans rfl; have hm5 : w1.cell? ⟨ph.bm, 5, none⟩ = some (ph.rv 0) := (blk_cell hm1 5).trans rfl; have hm7 : w1.cell? ⟨ph.bm, 7, none⟩ = some (ph.rv 1) := (blk_cell hm1 7).trans rfl; obtain ⟨gT, cT, eT, _, hTc⟩ := H1.out.tcell i h0 h1; rw [eT] at hm4; have ho := Aside0.mk (H1.out.rows (4 + 2 * i.toNat)); obtain ⟨g0, c0, e0, hl0, hc0, _⟩ := own_int (H1.out.rows 0) a.f4 hg0 hg1; rw [e0] at hm5; clear e0; clear hb hbox hg HH hm1 eT))
  go_still_tail 13, (by kernel_rfl)
  change wpList _ _ _ _ _ w1.drew
  go_wp2_with (go_at_call 62; refine (set_calls (ph.tb i.toNat) 0 (ph.rv (4 + 2 * i.toNat)) (s.row (4 + 2 * i.toNat)) a.f1 (rd (s.row 0) a.f4) lo w1.drew htc0 ho.out HT.out.1 HT.out.2).mono ?_; rintro e w2 ⟨rfl, ho2, hg2⟩)
  go_ret
  exact ⟨by rw [HR.out]; rfl, by rw [HR.out]; exact (H1.out.below (below_drew (Below.refl _ w1))).rowChg _ _ (.of_below (below_drew HB.out)) (setlen ho2) hg2⟩
set_option maxHeartbeats 8000000 in
set_option maxRecDepth 100000 in
theorem share_6 (w : World) {nl : Int} {lo hi fl : Nat} {ph : Ph} {cs : List S49} {nA : Nat} {s : St} (H : MachIn w lo hi fl ph cs nA s) (i : Int) (h0 : 0 ≤ i) (h1 : i < cs.length) (a : S33)
    (ha : okA (s.row (4 + 2 * i.toNat)).length (s.row 0).length nA (s.row 1).length nl a) (k : a.f0 = 6) :
    Calls Try.prog 45 #[.pointer (some ⟨ph.bm, 0, none⟩), .int .i64 i, actV a] w fun e w' => e = .returned (.int .i64 (shr nA s i a).2) ∧ Left w lo hi fl ph cs nA (shr nA s i a).1 w' := by
  have HH := Aside0.mk H
  have HR : Aside0 (shr nA s i a = (s.setRow 0 ((s.row 0).set a.f4.toNat (rd (s.row (4 + 2 * i.toNat)) a.f2)), 0)) := ⟨by rw [shr, if_neg (by omega), if_pos k]⟩
  have HX := Aside0.mk (ha.x (by omega))
  obtain ⟨hg0, hg1⟩ := ha.g (by omega)
  have kb5 : (a.f0 == 5) = false := beq_eq_false_iff_ne.mpr (by omega)
  have kb6 : (a.f0 == 6) = true := beq_iff_eq.mpr (by omega)
  clear H ha
  go_enter Try.func45, Try.ntmps45
  go_wp2_with (first | ((with_reducible refine gate_dst (N := 5) rfl ?_); refine box_event ?hg (N := 5) ?hd (cs := actC a) (t := 33) ?hr ?_; (case hd => rfl); (case hg => rfl); (case hr => first | (go_simp; done) | (go_simp; rfl)); intro gb hg w1 hbox hb; have HBX := Aside0.mk hbox; have HB := Aside0.mk hb; have H1 := Aside0.mk (HH.out.below hb); have hy0 : w1.cell? ⟨gb, 0, none⟩ = some (.int .i64 a.f0) := (blk_cell hbox 0).trans rfl; have hy1 : w1.cell? ⟨gb, 1, none⟩ = some (.int .i64 a.f1) := (blk_cell hbox 1).trans rfl; have hy2 : w1.cell? ⟨gb, 2, none⟩ = some (.int .i64 a.f2) := (blk_cell hbox 2).trans rfl; have hy3 : w1.cell? ⟨gb, 3, none⟩ = some (.int .i64 a.f3) := (blk_cell hbox 3).trans rfl; have hy4 : w1.cell? ⟨gb, 4, none⟩ = some (.int .i64 a.f4) := (blk_cell hbox 4).trans rfl; have hy5 : w1.cell? ⟨gb, 5, none⟩ = some (.int .i64 a.f5) := (blk_cell hbox 5).trans rfl; have hy6 : w1.cell? ⟨gb, 6, none⟩ = some (.int .i64 a.f6) := (blk_cell hbox 6).trans rfl; have hy7 : w1.cell? ⟨gb, 7, none⟩ = some (.int .i64 a.f7) := (blk_cell hbox 7).trans rfl; have hy8 : w1.cell? ⟨gb, 8, none⟩ = some (.int .i64 a.f8) := (blk_cell hbox 8).trans rfl; have htc0 : w1.cell? ⟨ph.tb i.toNat, 0, none⟩ = some (ph.rv (4 + 2 * i.toNat)) := (blk_cell (H1.out.th i.toNat (by omega)).1 0).trans rfl; obtain ⟨fp, hm1, _⟩ := H1.out.hm; have hm4 : w1.cell? ⟨ph.bm, 4, none⟩ = some ph.hT := (blk_cell hm1 4).trans rfl; have hm5 : w1.cell? ⟨ph.bm, 5, none⟩ = some (ph.rv 0) := (blk_cell hm1 5).trans rfl; have hm7 : w1.cell? ⟨ph.bm, 7, none⟩ = some (ph.rv 1) := (blk_cell hm1 7).trans rfl; obtain ⟨gT, cT, eT, _, hTc⟩ := H1.out.tcell i h0 h1; rw [eT] at hm4; have ho := Aside0.mk (H1.out.rows (4 + 2 * i.toNat)); obtain ⟨g0, c0, e0, hl0, hc0, hf0, _⟩ := own_int (H1.out.rows 0) a.f4 hg0 hg1; rw [e0] at hm5; have E0 := Aside0.mk e0; have HS := Aside0.mk (own_store (W := w1.drew) (x := rd (s.row (4 + 2 * i.toNat)) a.f2) (i := a.f4) (e0 ▸ H1.out.rows 0)); clear e0; clear hb hbox hg HH hm1 eT))
  refine wp_region_still_tail 13 (by kernel_rfl) (by kernel_rfl) ?_
  simp only [List.take_succ_cons, List.take_zero, List.drop_succ_cons, List.drop_zero]
  iterate 11 still_step
  still_call (get_calls (ph.tb i.toNat) 0 (ph.rv (4 + 2 * i.toNat)) (s.row (4 + 2 * i.toNat)) a.f2 lo _ htc0 ho.out HX.out.1 HX.out.2)
  still_step
  refine wpStill_nil ?_
  change wpList _ _ _ _ _ w1.drew
  go_wp2
  go_ret
  exact ⟨by rw [HR.out]; rfl, by rw [HR.out]; exact (H1.out.below (below_drew (Below.refl _ w1))).rowChg _ _ (.of_below (below_drew HB.out)) (by rw [E0.out]; exact setlen HS.out.1) (by rw [E0.out]; exact HS.out.2)⟩
set_option maxHeartbeats 8000000 in
set_option maxRecDepth 100000 in
theorem share_7 (w : World) {nl : Int} {lo hi fl : Nat} {ph : Ph} {cs : List S49} {nA : Nat} {s : St} (H : MachIn w lo hi fl ph cs nA s) (i : Int) (h0 : 0 ≤ i) (h1 : i < cs.length) (a : S33)
    (ha : okA (s.row (4 + 2 * i.toNat)).length (s.row 0).length nA (s.row 1).length nl a) (k : a.f0 = 7) (hin : 0 ≤ (rd (s.row (4 + 2 * i.toNat)) a.f2) ∧ (rd (s.row (4 + 2 * i.toNat)) a.f2) < (s.row (3 + 2 * a.f4.toNat)).length) :
    Calls Try.prog 45 #[.pointer (some ⟨ph.bm, 0, none⟩), .int .i64 i, actV a] w fun e w' => e = .returned (.int .i64 (shr nA s i a).2) ∧ Left w lo hi fl ph cs nA (shr nA s i a).1 w' := by
  have HH := Aside0.mk H
  have HR : Aside0 (shr nA s i a = (s.setRow (4 + 2 * i.toNat) ((s.row (4 + 2 * i.toNat)).set a.f1.toNat (rd (s.row (3 + 2 * a.f4.toNat)) (rd (s.row (4 + 2 * i.toNat)) a.f2))), 0)) := ⟨by rw [shr, if_neg (by omega), if_neg (by omega), if_pos (by omega), if_pos hin, if_pos k]⟩
  have HX := Aside0.mk (ha.x (by omega))
  have HG := Aside0.mk (ha.arr (by omega))
  have HI := Aside0.mk hin
  have HT := Aside0.mk (ha.t (by omega))
  have kb5 : (a.f0 == 5) = false := beq_eq_false_iff_ne.mpr (by omega)
  have kb6 : (a.f0 == 6) = false := beq_eq_false_iff_ne.mpr (by omega)
  have kb7 : (a.f0 == 7) = true := beq_iff_eq.mpr (by omega)
  clear H ha
  go_enter Try.func45, Try.ntmps45
  go_wp2_with (first | ((with_reducible refine gate_dst (N := 5) rfl ?_); refine box_event ?hg (N := 5) ?hd (cs := actC a) (t := 33) ?hr ?_; (case hd => rfl); (case hg => rfl); (case hr => first | (go_simp; done) | (go_simp; rfl)); intro gb hg w1 hbox hb; have HBX := Aside0.mk hbox; have HB := Aside0.mk hb; have H1 := Aside0.mk (HH.out.below hb); have hy0 : w1.cell? ⟨gb, 0, none⟩ = some (.int .i64 a.f0) := (blk_cell hbox 0).trans rfl; have hy1 : w1.cell? ⟨gb, 1, none⟩ = some (.int .i64 a.f1) := (blk_cell hbox 1).trans rfl; have hy2 : w1.cell? ⟨gb, 2, none⟩ = some (.int .i64 a.f2) := (blk_cell hbox 2).trans rfl; have hy3 : w1.cell? ⟨gb, 3, none⟩ = some (.int .i64 a.f3) := (blk_cell hbox 3).trans rfl; have hy4 : w1.cell? ⟨gb, 4, none⟩ = some (.int .i64 a.f4) := (blk_cell hbox 4).trans rfl; have hy5 : w1.cell? ⟨gb, 5, none⟩ = some (.int .i64 a.f5) := (blk_cell hbox 5).trans rfl; have hy6 : w1.cell? ⟨gb, 6, none⟩ = some (.int .i64 a.f6) := (blk_cell hbox 6).trans rfl; have hy7 : w1.cell? ⟨gb, 7, none⟩ = some (.int .i64 a.f7) := (blk_cell hbox 7).trans rfl; have hy8 : w1.cell? ⟨gb, 8, none⟩ = some (.int .i64 a.f8) := (blk_cell hbox 8).trans rfl; have htc0 : w1.cell? ⟨ph.tb i.toNat, 0, none⟩ = some (ph.rv (4 + 2 * i.toNat)) := (blk_cell (H1.out.th i.toNat (by omega)).1 0).trans rfl; obtain ⟨fp, hm1, _⟩ := H1.out.hm; have hm4 : w1.cell? ⟨ph.bm, 4, none⟩ = some ph.hT := (blk_cell hm1 4).trans rfl; have hm5 : w1.cell? ⟨ph.bm, 5, none⟩ = some (ph.rv 0) := (blk_cell hm1 5).trans rfl; have hm7 : w1.cell? ⟨ph.bm, 7, none⟩ = some (ph.rv 1) := (blk_cell hm1 7).trans rfl; obtain ⟨gT, cT, eT, _, hTc⟩ := H1.out.tcell i h0 h1; rw [eT] at hm4; have ho := Aside0.mk (H1.out.rows (4 + 2 * i.toNat)); clear hb hbox hg HH hm1 eT))
  refine wp_region_still_tail 9 (by kernel_rfl) (by kernel_rfl) ?_
  simp only [List.take_succ_cons, List.take_zero, List.drop_succ_cons, List.drop_zero]
  iterate 8 still_step
  still_call (get_calls (ph.tb i.toNat) 0 (ph.rv (4 + 2 * i.toNat)) (s.row (4 + 2 * i.toNat)) a.f2 lo _ htc0 ho.out HX.out.1 HX.out.2)
  refine wpStill_nil ?_
  change wpList _ _ _ _ _ w1.drew
  go_wp2_with fail
  go_at_call 64
  refine (elem_in w1.drew (H1.out.below (below_drew (Below.refl _ w1))) a.f4 (rd (s.row (4 + 2 * i.toNat)) a.f2) HG.out.1 HG.out.2 HI.out.1 HI.out.2).mono ?_
  rintro e w2 ⟨⟨b, cb, eb, rfl⟩, hb2⟩
  have HB2 := Aside0.mk (below_on (below_drew HB.out) hb2)
  have H2 := Aside0.mk ((H1.out.below (below_drew (Below.refl _ w1))).below hb2)
  have hbox2 : w2.heap[gb]? = _ := below_read (w := w1.drew) hb2 HBX.out
  have hz0 : w2.cell? ⟨gb, 0, none⟩ = some (.int .i64 a.f0) := (blk_cell hbox2 0).trans rfl
  have hz1 : w2.cell? ⟨gb, 1, none⟩ = some (.int .i64 a.f1) := (blk_cell hbox2 1).trans rfl
  have hz2 : w2.cell? ⟨gb, 2, none⟩ = some (.int .i64 a.f2) := (blk_cell hbox2 2).trans rfl
  have hz3 : w2.cell? ⟨gb, 3, none⟩ = some (.int .i64 a.f3) := (blk_cell hbox2 3).trans rfl
  have hz4 : w2.cell? ⟨gb, 4, none⟩ = some (.int .i64 a.f4) := (blk_cell hbox2 4).trans rfl
  have hz5 : w2.cell? ⟨gb, 5, none⟩ = some (.int .i64 a.f5) := (blk_cell hbox2 5).trans rfl
  have hz6 : w2.cell? ⟨gb, 6, none⟩ = some (.int .i64 a.f6) := (blk_cell hbox2 6).trans rfl
  have hz7 : w2.cell? ⟨gb, 7, none⟩ = some (.int .i64 a.f7) := (blk_cell hbox2 7).trans rfl
  have hz8 : w2.cell? ⟨gb, 8, none⟩ = some (.int .i64 a.f8) := (blk_cell hbox2 8).trans rfl
  have htc0' : w2.cell? ⟨ph.tb i.toNat, 0, none⟩ = some (ph.rv (4 + 2 * i.toNat)) := (blk_cell (H2.out.th i.toNat (by omega)).1 0).trans rfl
  have ho' := Aside0.mk (H2.out.rows (4 + 2 * i.toNat))
  clear hb2 hbox2 ho htc0 hy0 hy1 hy2 hy3 hy4 hy5 hy6 hy7 hy8 H1 HB HBX hm4 hm5 hm7 hTc
  obtain ⟨g2, c2, e2, hl2, hc2, hf2, _⟩ := own_int (H2.out.rows (3 + 2 * a.f4.toNat)) (rd (s.row (4 + 2 * i.toNat)) a.f2) HI.out.1 HI.out.2
  rw [eb] at e2
  cases e2
  clear eb
  go_wp2_with fail
  go_still_tail 8, (by kernel_rfl)
  change wpList _ _ _ _ _ w2.drew
  go_wp2_with (go_at_call 62; refine (set_calls (ph.tb i.toNat) 0 (ph.rv (4 + 2 * i.toNat)) (s.row (4 + 2 * i.toNat)) a.f1 (rd (s.row (3 + 2 * a.f4.toNat)) (rd (s.row (4 + 2 * i.toNat)) a.f2)) lo w2.drew htc0' ho'.out HT.out.1 HT.out.2).mono ?_; rintro e w3 ⟨rfl, ho2, hg2⟩)
  go_ret
  exact ⟨by rw [HR.out]; rfl, by rw [HR.out]; exact (H2.out.below (below_drew (Below.refl _ w2))).rowChg _ _ (.of_below (below_drew HB2.out)) (setlen ho2) hg2⟩
set_option maxHeartbeats 8000000 in
set_option maxRecDepth 100000 in
theorem share_8 (w : World) {nl : Int} {lo hi fl : Nat} {ph : Ph} {cs : List S49} {nA : Nat} {s : St} (H : MachIn w lo hi fl ph cs nA s) (i : Int) (h0 : 0 ≤ i) (h1 : i < cs.length) (a : S33)
    (ha : okA (s.row (4 + 2 * i.toNat)).length (s.row 0).length nA (s.row 1).length nl a) (k : a.f0 = 8) (hin : 0 ≤ (rd (s.row (4 + 2 * i.toNat)) a.f2) ∧ (rd (s.row (4 + 2 * i.toNat)) a.f2) < (s.row (3 + 2 * a.f4.toNat)).length) :
    Calls Try.prog 45 #[.pointer (some ⟨ph.bm, 0, none⟩), .int .i64 i, actV a] w fun e w' => e = .returned (.int .i64 (shr nA s i a).2) ∧ Left w lo hi fl ph cs nA (shr nA s i a).1 w' := by
  have HH := Aside0.mk H
  have HR : Aside0 (shr nA s i a = (s.setRow (3 + 2 * a.f4.toNat) ((s.row (3 + 2 * a.f4.toNat)).set (rd (s.row (4 + 2 * i.toNat)) a.f2).toNat (rd (s.row (4 + 2 * i.toNat)) a.f3)), 0)) := ⟨by rw [shr, if_neg (by omega), if_neg (by omega), if_pos (by omega), if_pos hin, if_neg (by omega)]⟩
  have HX := Aside0.mk (ha.x (by omega))
  have HG := Aside0.mk (ha.arr (by omega))
  have HI := Aside0.mk hin
  have HY := Aside0.mk (ha.y (by omega))
  have kb5 : (a.f0 == 5) = false := beq_eq_false_iff_ne.mpr (by omega)
  have kb6 : (a.f0 == 6) = false := beq_eq_false_iff_ne.mpr (by omega)
  have kb7 : (a.f0 == 7) = false := beq_eq_false_iff_ne.mpr (by omega)
  have kb8 : (a.f0 == 8) = true := beq_iff_eq.mpr (by omega)
  clear H ha
  go_enter Try.func45, Try.ntmps45
  go_wp2_with (first | ((with_reducible refine gate_dst (N := 5) rfl ?_); refine box_event ?hg (N := 5) ?hd (cs := actC a) (t := 33) ?hr ?_; (case hd => rfl); (case hg => rfl); (case hr => first | (go_simp; done) | (go_simp; rfl)); intro gb hg w1 hbox hb; have HBX := Aside0.mk hbox; have HB := Aside0.mk hb; have H1 := Aside0.mk (HH.out.below hb); have hy0 : w1.cell? ⟨gb, 0, none⟩ = some (.int .i64 a.f0) := (blk_cell hbox 0).trans rfl; have hy1 : w1.cell? ⟨gb, 1, none⟩ = some (.int .i64 a.f1) := (blk_cell hbox 1).trans rfl; have hy2 : w1.cell? ⟨gb, 2, none⟩ = some (.int .i64 a.f2) := (blk_cell hbox 2).trans rfl; have hy3 : w1.cell? ⟨gb, 3, none⟩ = some (.int .i64 a.f3) := (blk_cell hbox 3).trans rfl; have hy4 : w1.cell? ⟨gb, 4, none⟩ = some (.int .i64 a.f4) := (blk_cell hbox 4).trans rfl; have hy5 : w1.cell? ⟨gb, 5, none⟩ = some (.int .i64 a.f5) := (blk_cell hbox 5).trans rfl; have hy6 : w1.cell? ⟨gb, 6, none⟩ = some (.int .i64 a.f6) := (blk_cell hbox 6).trans rfl; have hy7 : w1.cell? ⟨gb, 7, none⟩ = some (.int .i64 a.f7) := (blk_cell hbox 7).trans rfl; have hy8 : w1.cell? ⟨gb, 8, none⟩ = some (.int .i64 a.f8) := (blk_cell hbox 8).trans rfl; have htc0 : w1.cell? ⟨ph.tb i.toNat, 0, none⟩ = some (ph.rv (4 + 2 * i.toNat)) := (blk_cell (H1.out.th i.toNat (by omega)).1 0).trans rfl; obtain ⟨fp, hm1, _⟩ := H1.out.hm; have hm4 : w1.cell? ⟨ph.bm, 4, none⟩ = some ph.hT := (blk_cell hm1 4).trans rfl; have hm5 : w1.cell? ⟨ph.bm, 5, none⟩ = some (ph.rv 0) := (blk_cell hm1 5).trans rfl; have hm7 : w1.cell? ⟨ph.bm, 7, none⟩ = some (ph.rv 1) := (blk_cell hm1 7).trans rfl; obtain ⟨gT, cT, eT, _, hTc⟩ := H1.out.tcell i h0 h1; rw [eT] at hm4; have ho := Aside0.mk (H1.out.rows (4 + 2 * i.toNat)); clear hb hbox hg HH hm1 eT))
  refine wp_region_still_tail 9 (by kernel_rfl) (by kernel_rfl) ?_
  simp only [List.take_succ_cons, List.take_zero, List.drop_succ_cons, List.drop_zero]
  iterate 8 still_step
  still_call (get_calls (ph.tb i.toNat) 0 (ph.rv (4 + 2 * i.toNat)) (s.row (4 + 2 * i.toNat)) a.f2 lo _ htc0 ho.out HX.out.1 HX.out.2)
  refine wpStill_nil ?_
  change wpList _ _ _ _ _ w1.drew
  go_wp2_with fail
  go_at_call 64
  refine (elem_in w1.drew (H1.out.below (below_drew (Below.refl _ w1))) a.f4 (rd (s.row (4 + 2 * i.toNat)) a.f2) HG.out.1 HG.out.2 HI.out.1 HI.out.2).mono ?_
  rintro e w2 ⟨⟨b, cb, eb, rfl⟩, hb2⟩
  have HB2 := Aside0.mk (below_on (below_drew HB.out) hb2)
  have H2 := Aside0.mk ((H1.out.below (below_drew (Below.refl _ w1))).below hb2)
  have hbox2 : w2.heap[gb]? = _ := below_read (w := w1.drew) hb2 HBX.out
  have hz0 : w2.cell? ⟨gb, 0, none⟩ = some (.int .i64 a.f0) := (blk_cell hbox2 0).trans rfl
  have hz1 : w2.cell? ⟨gb, 1, none⟩ = some (.int .i64 a.f1) := (blk_cell hbox2 1).trans rfl
  have hz2 : w2.cell? ⟨gb, 2, none⟩ = some (.int .i64 a.f2) := (blk_cell hbox2 2).trans rfl
  have hz3 : w2.cell? ⟨gb, 3, none⟩ = some (.int .i64 a.f3) := (blk_cell hbox2 3).trans rfl
  have hz4 : w2.cell? ⟨gb, 4, none⟩ = some (.int .i64 a.f4) := (blk_cell hbox2 4).trans rfl
  have hz5 : w2.cell? ⟨gb, 5, none⟩ = some (.int .i64 a.f5) := (blk_cell hbox2 5).trans rfl
  have hz6 : w2.cell? ⟨gb, 6, none⟩ = some (.int .i64 a.f6) := (blk_cell hbox2 6).trans rfl
  have hz7 : w2.cell? ⟨gb, 7, none⟩ = some (.int .i64 a.f7) := (blk_cell hbox2 7).trans rfl
  have hz8 : w2.cell? ⟨gb, 8, none⟩ = some (.int .i64 a.f8) := (blk_cell hbox2 8).trans rfl
  have htc0' : w2.cell? ⟨ph.tb i.toNat, 0, none⟩ = some (ph.rv (4 + 2 * i.toNat)) := (blk_cell (H2.out.th i.toNat (by omega)).1 0).trans rfl
  have ho' := Aside0.mk (H2.out.rows (4 + 2 * i.toNat))
  clear hb2 hbox2 ho htc0 hy0 hy1 hy2 hy3 hy4 hy5 hy6 hy7 hy8 H1 HB HBX hm4 hm5 hm7 hTc
  obtain ⟨g2, c2, e2, hl2, hc2, hf2, _⟩ := own_int (H2.out.rows (3 + 2 * a.f4.toNat)) (rd (s.row (4 + 2 * i.toNat)) a.f2) HI.out.1 HI.out.2
  rw [eb] at e2
  cases e2
  have E0 := Aside0.mk eb
  have HS := Aside0.mk (own_store (W := w2.drew) (x := rd (s.row (4 + 2 * i.toNat)) a.f3) (i := (rd (s.row (4 + 2 * i.toNat)) a.f2)) (eb ▸ H2.out.rows (3 + 2 * a.f4.toNat)))
  clear eb
  go_wp2_with fail
  refine wp_region_still_tail 8 (by kernel_rfl) (by kernel_rfl) ?_
  simp only [List.take_succ_cons, List.take_zero, List.drop_succ_cons, List.drop_zero]
  iterate 6 still_step
  still_call (get_calls (ph.tb i.toNat) 0 (ph.rv (4 + 2 * i.toNat)) (s.row (4 + 2 * i.toNat)) a.f3 lo _ htc0' ho'.out HY.out.1 HY.out.2)
  still_step
  refine wpStill_nil ?_
  change wpList _ _ _ _ _ w2.drew
  go_wp2
  go_ret
  exact ⟨by rw [HR.out]; rfl, by rw [HR.out]; exact (H2.out.below (below_drew (Below.refl _ w2))).rowChg _ _ (.of_below (below_drew HB2.out)) (by rw [E0.out]; exact setlen HS.out.1) (by rw [E0.out]; exact HS.out.2)⟩
set_option maxHeartbeats 8000000 in
set_option maxRecDepth 100000 in
theorem share_7out (w : World) {nl : Int} {lo hi fl : Nat} {ph : Ph} {cs : List S49} {nA : Nat} {s : St} (H : MachIn w lo hi fl ph cs nA s) (i : Int) (h0 : 0 ≤ i) (h1 : i < cs.length) (a : S33)
    (ha : okA (s.row (4 + 2 * i.toNat)).length (s.row 0).length nA (s.row 1).length nl a) (k : a.f0 = 7) (hin : ¬ (0 ≤ (rd (s.row (4 + 2 * i.toNat)) a.f2) ∧ (rd (s.row (4 + 2 * i.toNat)) a.f2) < (s.row (3 + 2 * a.f4.toNat)).length)) :
    Calls Try.prog 45 #[.pointer (some ⟨ph.bm, 0, none⟩), .int .i64 i, actV a] w fun e w' => e = .returned (.int .i64 (shr nA s i a).2) ∧ Left w lo hi fl ph cs nA (shr nA s i a).1 w' := by
  have HH := Aside0.mk H
  have HR : Aside0 (shr nA s i a = (s, 9)) := ⟨by rw [shr, if_neg (by omega), if_neg (by omega), if_pos (by omega), if_neg hin]⟩
  have HX := Aside0.mk (ha.x (by omega))
  have HG := Aside0.mk (ha.arr (by omega))
  have HI := Aside0.mk hin
  have kb5 : (a.f0 == 5) = false := beq_eq_false_iff_ne.mpr (by omega)
  have kb6 : (a.f0 == 6) = false := beq_eq_false_iff_ne.mpr (by omega)
  have kb7 : (a.f0 == 7) = true := beq_iff_eq.mpr (by omega)
  clear H ha
  go_enter Try.func45, Try.ntmps45
  go_wp2_with (first | ((with_reducible refine gate_dst (N := 5) rfl ?_); refine box_event ?hg (N := 5) ?hd (cs := actC a) (t := 33) ?hr ?_; (case hd => rfl); (case hg => rfl); (case hr => first | (go_simp; done) | (go_simp; rfl)); intro gb hg w1 hbox hb; have HBX := Aside0.mk hbox; have HB := Aside0.mk hb; have H1 := Aside0.mk (HH.out.below hb); have hy0 : w1.cell? ⟨gb, 0, none⟩ = some (.int .i64 a.f0) := (blk_cell hbox 0).trans rfl; have hy1 : w1.cell? ⟨gb, 1, none⟩ = some (.int .i64 a.f1) := (blk_cell hbox 1).trans rfl; have hy2 : w1.cell? ⟨gb, 2, none⟩ = some (.int .i64 a.f2) := (blk_cell hbox 2).trans rfl; have hy3 : w1.cell? ⟨gb, 3, none⟩ = some (.int .i64 a.f3) := (blk_cell hbox 3).trans rfl; have hy4 : w1.cell? ⟨gb, 4, none⟩ = some (.int .i64 a.f4) := (blk_cell hbox 4).trans rfl; have hy5 : w1.cell? ⟨gb, 5, none⟩ = some (.int .i64 a.f5) := (blk_cell hbox 5).trans rfl; have hy6 : w1.cell? ⟨gb, 6, none⟩ = some (.int .i64 a.f6) := (blk_cell hbox 6).trans rfl; have hy7 : w1.cell? ⟨gb, 7, none⟩ = some (.int .i64 a.f7) := (blk_cell hbox 7).trans rfl; have hy8 : w1.cell? ⟨gb, 8, none⟩ = some (.int .i64 a.f8) := (blk_cell hbox 8).trans rfl; have htc0 : w1.cell? ⟨ph.tb i.toNat, 0, none⟩ = some (ph.rv (4 + 2 * i.toNat)) := (blk_cell (H1.out.th i.toNat (by omega)).1 0).trans rfl; obtain ⟨fp, hm1, _⟩ := H1.out.hm; have hm4 : w1.cell? ⟨ph.bm, 4, none⟩ = some ph.hT := (blk_cell hm1 4).trans rfl; have hm5 : w1.cell? ⟨ph.bm, 5, none⟩ = some (ph.rv 0) := (blk_cell hm1 5).trans rfl; have hm7 : w1.cell? ⟨ph.bm, 7, none⟩ = some (ph.rv 1) := (blk_cell hm1 7).trans rfl; obtain ⟨gT, cT, eT, _, hTc⟩ := H1.out.tcell i h0 h1; rw [eT] at hm4; have ho := Aside0.mk (H1.out.rows (4 + 2 * i.toNat)); clear hb hbox hg HH hm1 eT))
  refine wp_region_still_tail 9 (by kernel_rfl) (by kernel_rfl) ?_
  simp only [List.take_succ_cons, List.take_zero, List.drop_succ_cons, List.drop_zero]
  iterate 8 still_step
  still_call (get_calls (ph.tb i.toNat) 0 (ph.rv (4 + 2 * i.toNat)) (s.row (4 + 2 * i.toNat)) a.f2 lo _ htc0 ho.out HX.out.1 HX.out.2)
  refine wpStill_nil ?_
  change wpList _ _ _ _ _ w1.drew
  go_wp2_with fail
  go_at_call 64
  refine (elem_out w1.drew (H1.out.below (below_drew (Below.refl _ w1))) a.f4 (rd (s.row (4 + 2 * i.toNat)) a.f2) HG.out.1 HG.out.2 HI.out).mono ?_
  rintro e w2 ⟨rfl, hb2⟩
  have HB2 := Aside0.mk (below_on (below_drew HB.out) hb2)
  have H2 := Aside0.mk ((H1.out.below (below_drew (Below.refl _ w1))).below hb2)
  have hbox2 : w2.heap[gb]? = _ := below_read (w := w1.drew) hb2 HBX.out
  have hz0 : w2.cell? ⟨gb, 0, none⟩ = some (.int .i64 a.f0) := (blk_cell hbox2 0).trans rfl
  have hz1 : w2.cell? ⟨gb, 1, none⟩ = some (.int .i64 a.f1) := (blk_cell hbox2 1).trans rfl
  have hz2 : w2.cell? ⟨gb, 2, none⟩ = some (.int .i64 a.f2) := (blk_cell hbox2 2).trans rfl
  have hz3 : w2.cell? ⟨gb, 3, none⟩ = some (.int .i64 a.f3) := (blk_cell hbox2 3).trans rfl
  have hz4 : w2.cell? ⟨gb, 4, none⟩ = some (.int .i64 a.f4) := (blk_cell hbox2 4).trans rfl
  have hz5 : w2.cell? ⟨gb, 5, none⟩ = some (.int .i64 a.f5) := (blk_cell hbox2 5).trans rfl
  have hz6 : w2.cell? ⟨gb, 6, none⟩ = some (.int .i64 a.f6) := (blk_cell hbox2 6).trans rfl
  have hz7 : w2.cell? ⟨gb, 7, none⟩ = some (.int .i64 a.f7) := (blk_cell hbox2 7).trans rfl
  have hz8 : w2.cell? ⟨gb, 8, none⟩ = some (.int .i64 a.f8) := (blk_cell hbox2 8).trans rfl
  have htc0' : w2.cell? ⟨ph.tb i.toNat, 0, none⟩ = some (ph.rv (4 + 2 * i.toNat)) := (blk_cell (H2.out.th i.toNat (by omega)).1 0).trans rfl
  have ho' := Aside0.mk (H2.out.rows (4 + 2 * i.toNat))
  clear hb2 hbox2 ho htc0 hy0 hy1 hy2 hy3 hy4 hy5 hy6 hy7 hy8 H1 HB HBX hm4 hm5 hm7 hTc
  clear HI
  go_wp2
  go_ret
  exact ⟨by rw [HR.out]; rfl, by rw [HR.out]; exact ⟨H2.out, .of_below HB2.out⟩⟩
set_option maxHeartbeats 8000000 in
set_option maxRecDepth 100000 in
theorem share_8out (w : World) {nl : Int} {lo hi fl : Nat} {ph : Ph} {cs : List S49} {nA : Nat} {s : St} (H : MachIn w lo hi fl ph cs nA s) (i : Int) (h0 : 0 ≤ i) (h1 : i < cs.length) (a : S33)
    (ha : okA (s.row (4 + 2 * i.toNat)).length (s.row 0).length nA (s.row 1).length nl a) (k : a.f0 = 8) (hin : ¬ (0 ≤ (rd (s.row (4 + 2 * i.toNat)) a.f2) ∧ (rd (s.row (4 + 2 * i.toNat)) a.f2) < (s.row (3 + 2 * a.f4.toNat)).length)) :
    Calls Try.prog 45 #[.pointer (some ⟨ph.bm, 0, none⟩), .int .i64 i, actV a] w fun e w' => e = .returned (.int .i64 (shr nA s i a).2) ∧ Left w lo hi fl ph cs nA (shr nA s i a).1 w' := by
  have HH := Aside0.mk H
  have HR : Aside0 (shr nA s i a = (s, 9)) := ⟨by rw [shr, if_neg (by omega), if_neg (by omega), if_pos (by omega), if_neg hin]⟩
  have HX := Aside0.mk (ha.x (by omega))
  have HG := Aside0.mk (ha.arr (by omega))
  have HI := Aside0.mk hin
  have kb5 : (a.f0 == 5) = false := beq_eq_false_iff_ne.mpr (by omega)
  have kb6 : (a.f0 == 6) = false := beq_eq_false_iff_ne.mpr (by omega)
  have kb7 : (a.f0 == 7) = false := beq_eq_false_iff_ne.mpr (by omega)
  have kb8 : (a.f0 == 8) = true := beq_iff_eq.mpr (by omega)
  clear H ha
  go_enter Try.func45, Try.ntmps45
  go_wp2_with (first | ((with_reducible refine gate_dst (N := 5) rfl ?_); refine box_event ?hg (N := 5) ?hd (cs := actC a) (t := 33) ?hr ?_; (case hd => rfl); (case hg => rfl); (case hr => first | (go_simp; done) | (go_simp; rfl)); intro gb hg w1 hbox hb; have HBX := Aside0.mk hbox; have HB := Aside0.mk hb; have H1 := Aside0.mk (HH.out.below hb); have hy0 : w1.cell? ⟨gb, 0, none⟩ = some (.int .i64 a.f0) := (blk_cell hbox 0).trans rfl; have hy1 : w1.cell? ⟨gb, 1, none⟩ = some (.int .i64 a.f1) := (blk_cell hbox 1).trans rfl; have hy2 : w1.cell? ⟨gb, 2, none⟩ = some (.int .i64 a.f2) := (blk_cell hbox 2).trans rfl; have hy3 : w1.cell? ⟨gb, 3, none⟩ = some (.int .i64 a.f3) := (blk_cell hbox 3).trans rfl; have hy4 : w1.cell? ⟨gb, 4, none⟩ = some (.int .i64 a.f4) := (blk_cell hbox 4).trans rfl; have hy5 : w1.cell? ⟨gb, 5, none⟩ = some (.int .i64 a.f5) := (blk_cell hbox 5).trans rfl; have hy6 : w1.cell? ⟨gb, 6, none⟩ = some (.int .i64 a.f6) := (blk_cell hbox 6).trans rfl; have hy7 : w1.cell? ⟨gb, 7, none⟩ = some (.int .i64 a.f7) := (blk_cell hbox 7).trans rfl; have hy8 : w1.cell? ⟨gb, 8, none⟩ = some (.int .i64 a.f8) := (blk_cell hbox 8).trans rfl; have htc0 : w1.cell? ⟨ph.tb i.toNat, 0, none⟩ = some (ph.rv (4 + 2 * i.toNat)) := (blk_cell (H1.out.th i.toNat (by omega)).1 0).trans rfl; obtain ⟨fp, hm1, _⟩ := H1.out.hm; have hm4 : w1.cell? ⟨ph.bm, 4, none⟩ = some ph.hT := (blk_cell hm1 4).trans rfl; have hm5 : w1.cell? ⟨ph.bm, 5, none⟩ = some (ph.rv 0) := (blk_cell hm1 5).trans rfl; have hm7 : w1.cell? ⟨ph.bm, 7, none⟩ = some (ph.rv 1) := (blk_cell hm1 7).trans rfl; obtain ⟨gT, cT, eT, _, hTc⟩ := H1.out.tcell i h0 h1; rw [eT] at hm4; have ho := Aside0.mk (H1.out.rows (4 + 2 * i.toNat)); clear hb hbox hg HH hm1 eT))
  refine wp_region_still_tail 9 (by kernel_rfl) (by kernel_rfl) ?_
  simp only [List.take_succ_cons, List.take_zero, List.drop_succ_cons, List.drop_zero]
  iterate 8 still_step
  still_call (get_calls (ph.tb i.toNat) 0 (ph.rv (4 + 2 * i.toNat)) (s.row (4 + 2 * i.toNat)) a.f2 lo _ htc0 ho.out HX.out.1 HX.out.2)
  refine wpStill_nil ?_
  change wpList _ _ _ _ _ w1.drew
  go_wp2_with fail
  go_at_call 64
  refine (elem_out w1.drew (H1.out.below (below_drew (Below.refl _ w1))) a.f4 (rd (s.row (4 + 2 * i.toNat)) a.f2) HG.out.1 HG.out.2 HI.out).mono ?_
  rintro e w2 ⟨rfl, hb2⟩
  have HB2 := Aside0.mk (below_on (below_drew HB.out) hb2)
  have H2 := Aside0.mk ((H1.out.below (below_drew (Below.refl _ w1))).below hb2)
  have hbox2 : w2.heap[gb]? = _ := below_read (w := w1.drew) hb2 HBX.out
  have hz0 : w2.cell? ⟨gb, 0, none⟩ = some (.int .i64 a.f0) := (blk_cell hbox2 0).trans rfl
  have hz1 : w2.cell? ⟨gb, 1, none⟩ = some (.int .i64 a.f1) := (blk_cell hbox2 1).trans rfl
  have hz2 : w2.cell? ⟨gb, 2, none⟩ = some (.int .i64 a.f2) := (blk_cell hbox2 2).trans rfl
  have hz3 : w2.cell? ⟨gb, 3, none⟩ = some (.int .i64 a.f3) := (blk_cell hbox2 3).trans rfl
  have hz4 : w2.cell? ⟨gb, 4, none⟩ = some (.int .i64 a.f4) := (blk_cell hbox2 4).trans rfl
  have hz5 : w2.cell? ⟨gb, 5, none⟩ = some (.int .i64 a.f5) := (blk_cell hbox2 5).trans rfl
  have hz6 : w2.cell? ⟨gb, 6, none⟩ = some (.int .i64 a.f6) := (blk_cell hbox2 6).trans rfl
  have hz7 : w2.cell? ⟨gb, 7, none⟩ = some (.int .i64 a.f7) := (blk_cell hbox2 7).trans rfl
  have hz8 : w2.cell? ⟨gb, 8, none⟩ = some (.int .i64 a.f8) := (blk_cell hbox2 8).trans rfl
  have htc0' : w2.cell? ⟨ph.tb i.toNat, 0, none⟩ = some (ph.rv (4 + 2 * i.toNat)) := (blk_cell (H2.out.th i.toNat (by omega)).1 0).trans rfl
  have ho' := Aside0.mk (H2.out.rows (4 + 2 * i.toNat))
  clear hb2 hbox2 ho htc0 hy0 hy1 hy2 hy3 hy4 hy5 hy6 hy7 hy8 H1 HB HBX hm4 hm5 hm7 hTc
  clear HI
  go_wp2
  go_ret
  exact ⟨by rw [HR.out]; rfl, by rw [HR.out]; exact ⟨H2.out, .of_below HB2.out⟩⟩
set_option maxHeartbeats 8000000 in
set_option maxRecDepth 100000 in
theorem share_9own (w : World) {nl : Int} {lo hi fl : Nat} {ph : Ph} {cs : List S49} {nA : Nat} {s : St} (H : MachIn w lo hi fl ph cs nA s) (i : Int) (h0 : 0 ≤ i) (h1 : i < cs.length) (a : S33)
    (ha : okA (s.row (4 + 2 * i.toNat)).length (s.row 0).length nA (s.row 1).length nl a) (k : a.f0 = 9) (hown : rd (s.row 1) a.f4 = i) :
    Calls Try.prog 45 #[.pointer (some ⟨ph.bm, 0, none⟩), .int .i64 i, actV a] w fun e w' => e = .returned (.int .i64 (shr nA s i a).2) ∧ Left w lo hi fl ph cs nA (shr nA s i a).1 w' := by
  have HH := Aside0.mk H
  have HR : Aside0 (shr nA s i a = (s, 11)) := ⟨by rw [shr, if_neg (by omega), if_neg (by omega), if_neg (by omega), if_pos k, if_pos hown]⟩
  obtain ⟨hg0, hg1⟩ := ha.mx (by omega)
  have kow : (rd (s.row 1) a.f4 == i) = true := beq_iff_eq.mpr hown
  have kno : (rd (s.row 1) a.f4 != i) = false := bne_eq_false_iff_eq.mpr hown
  clear hown
  have kb5 : (a.f0 == 5) = false := beq_eq_false_iff_ne.mpr (by omega)
  have kb6 : (a.f0 == 6) = false := beq_eq_false_iff_ne.mpr (by omega)
  have kb7 : (a.f0 == 7) = false := beq_eq_false_iff_ne.mpr (by omega)
  have kb8 : (a.f0 == 8) = false := beq_eq_false_iff_ne.mpr (by omega)
  have kb9 : (a.f0 == 9) = true := beq_iff_eq.mpr (by omega)
  clear H ha
  go_enter Try.func45, Try.ntmps45
  go_wp2_with (first | ((with_reducible refine gate_dst (N := 5) rfl ?_); refine box_event ?hg (N := 5) ?hd (cs := actC a) (t := 33) ?hr ?_; (case hd => rfl); (case hg => rfl); (case hr => first | (go_simp; done) | (go_simp; rfl)); intro gb hg w1 hbox hb; have HBX := Aside0.mk hbox; have HB := Aside0.mk hb; have H1 := Aside0.mk (HH.out.below hb); have hy0 : w1.cell? ⟨gb, 0, none⟩ = some (.int .i64 a.f0) := (blk_cell hbox 0).trans rfl; have hy1 : w1.cell? ⟨gb, 1, none⟩ = some (.int .i64 a.f1) := (blk_cell hbox 1).trans rfl; have hy2 : w1.cell? ⟨gb, 2, none⟩ = some (.int .i64 a.f2) := (blk_cell hbox 2).trans rfl; have hy3 : w1.cell? ⟨gb, 3, none⟩ = some (.int .i64 a.f3) := (blk_cell hbox 3).trans rfl; have hy4 : w1.cell? ⟨gb, 4, none⟩ = some (.int .i64 a.f4) := (blk_cell hbox 4).trans rfl; have hy5 : w1.cell? ⟨gb, 5, none⟩ = some (.int .i64 a.f5) := (blk_cell hbox 5).trans rfl; have hy6 : w1.cell? ⟨gb, 6, none⟩ = some (.int .i64 a.f6) := (blk_cell hbox 6).trans rfl; have hy7 : w1.cell? ⟨gb, 7, none⟩ = some (.int .i64 a.f7) := (blk_cell hbox 7).trans rfl; have hy8 : w1.cell? ⟨gb, 8, none⟩ = some (.int .i64 a.f8) := (blk_cell hbox 8).trans rfl; have htc0 : w1.cell? ⟨ph.tb i.toNat, 0, none⟩ = some (ph.rv (4 + 2 * i.toNat)) := (blk_cell (H1.out.th i.toNat (by omega)).1 0).trans rfl; obtain ⟨fp, hm1, _⟩ := H1.out.hm; have hm4 : w1.cell? ⟨ph.bm, 4, none⟩ = some ph.hT := (blk_cell hm1 4).trans rfl; have hm5 : w1.cell? ⟨ph.bm, 5, none⟩ = some (ph.rv 0) := (blk_cell hm1 5).trans rfl; have hm7 : w1.cell? ⟨ph.bm, 7, none⟩ = some (ph.rv 1) := (blk_cell hm1 7).trans rfl; obtain ⟨gT, cT, eT, _, hTc⟩ := H1.out.tcell i h0 h1; rw [eT] at hm4; have ho := Aside0.mk (H1.out.rows (4 + 2 * i.toNat)); obtain ⟨g1, c1, e1, hl1, hc1, hf1, _⟩ := own_int (H1.out.rows 1) a.f4 hg0 hg1; rw [e1] at hm7; have E0 := Aside0.mk e1; clear e1; clear hb hbox hg HH hm1 eT))
  go_quiet (fail)
  go_wp2
  go_ret
  exact ⟨by rw [HR.out]; rfl, by rw [HR.out]; exact ⟨H1.out.below (pw_below_drewN (Below.refl _ w1) _), .of_below (pw_below_drewN HB.out _)⟩⟩
set_option maxHeartbeats 8000000 in
set_option maxRecDepth 100000 in
theorem share_9free (w : World) {nl : Int} {lo hi fl : Nat} {ph : Ph} {cs : List S49} {nA : Nat} {s : St} (H : MachIn w lo hi fl ph cs nA s) (i : Int) (h0 : 0 ≤ i) (h1 : i < cs.length) (a : S33)
    (ha : okA (s.row (4 + 2 * i.toNat)).length (s.row 0).length nA (s.row 1).length nl a) (k : a.f0 = 9) (hown : ¬ rd (s.row 1) a.f4 = i) :
    Calls Try.prog 45 #[.pointer (some ⟨ph.bm, 0, none⟩), .int .i64 i, actV a] w fun e w' => e = .returned (.int .i64 (shr nA s i a).2) ∧ Left w lo hi fl ph cs nA (shr nA s i a).1 w' := by
  have HH := Aside0.mk H
  have HR : Aside0 (shr nA s i a = (s.setRow 1 ((s.row 1).set a.f4.toNat i), 0)) := ⟨by rw [shr, if_neg (by omega), if_neg (by omega), if_neg (by omega), if_pos k, if_neg hown]⟩
  obtain ⟨hg0, hg1⟩ := ha.mx (by omega)
  have kow : (rd (s.row 1) a.f4 == i) = false := beq_eq_false_iff_ne.mpr hown
  have kno : (rd (s.row 1) a.f4 != i) = true := bne_iff_ne.mpr hown
  clear hown
  have kb5 : (a.f0 == 5) = false := beq_eq_false_iff_ne.mpr (by omega)
  have kb6 : (a.f0 == 6) = false := beq_eq_false_iff_ne.mpr (by omega)
  have kb7 : (a.f0 == 7) = false := beq_eq_false_iff_ne.mpr (by omega)
  have kb8 : (a.f0 == 8) = false := beq_eq_false_iff_ne.mpr (by omega)
  have kb9 : (a.f0 == 9) = true := beq_iff_eq.mpr (by omega)
  clear H ha
  go_enter Try.func45, Try.ntmps45
  go_wp2_with (first | ((with_reducible refine gate_dst (N := 5) rfl ?_); refine box_event ?hg (N := 5) ?hd (cs := actC a) (t := 33) ?hr ?_; (case hd => rfl); (case hg => rfl); (case hr => first | (go_simp; done) | (go_simp; rfl)); intro gb hg w1 hbox hb; have HBX := Aside0.mk hbox; have HB := Aside0.mk hb; have H1 := Aside0.mk (HH.out.below hb); have hy0 : w1.cell? ⟨gb, 0, none⟩ = some (.int .i64 a.f0) := (blk_cell hbox 0).trans rfl; have hy1 : w1.cell? ⟨gb, 1, none⟩ = some (.int .i64 a.f1) := (blk_cell hbox 1).trans rfl; have hy2 : w1.cell? ⟨gb, 2, none⟩ = some (.int .i64 a.f2) := (blk_cell hbox 2).trans rfl; have hy3 : w1.cell? ⟨gb, 3, none⟩ = some (.int .i64 a.f3) := (blk_cell hbox 3).trans rfl; have hy4 : w1.cell? ⟨gb, 4, none⟩ = some (.int .i64 a.f4) := (blk_cell hbox 4).trans rfl; have hy5 : w1.cell? ⟨gb, 5, none⟩ = some (.int .i64 a.f5) := (blk_cell hbox 5).trans rfl; have hy6 : w1.cell? ⟨gb, 6, none⟩ = some (.int .i64 a.f6) := (blk_cell hbox 6).trans rfl; have hy7 : w1.cell? ⟨gb, 7, none⟩ = some (.int .i64 a.f7) := (blk_cell hbox 7).trans rfl; have hy8 : w1.cell? ⟨gb, 8, none⟩ = some (.int .i64 a.f8) := (blk_cell hbox 8).trans rfl; have htc0 : w1.cell? ⟨ph.tb i.toNat, 0, none⟩ = some (ph.rv (4 + 2 * i.toNat)) := (blk_cell (H1.out.th i.toNat (by omega)).1 0).trans rfl; obtain ⟨fp, hm1, _⟩ := H1.out.hm; have hm4 : w1.cell? ⟨ph.bm, 4, none⟩ = some ph.hT := (blk_cell hm1 4).trans rfl; have hm5 : w1.cell? ⟨ph.bm, 5, none⟩ = some (ph.rv 0) := (blk_cell hm1 5).trans rfl; have hm7 : w1.cell? ⟨ph.bm, 7, none⟩ = some (ph.rv 1) := (blk_cell hm1 7).trans rfl; obtain ⟨gT, cT, eT, _, hTc⟩ := H1.out.tcell i h0 h1; rw [eT] at hm4; have ho := Aside0.mk (H1.out.rows (4 + 2 * i.toNat)); obtain ⟨g1, c1, e1, hl1, hc1, hf1, _⟩ := own_int (H1.out.rows 1) a.f4 hg0 hg1; rw [e1] at hm7; have E0 := Aside0.mk e1; clear e1; clear hb hbox hg HH hm1 eT))
  go_quiet (fail)
  have q7 : (w1.drewN nq).cell? ⟨ph.bm, 7, none⟩ = _ := hm7
  have q4 : (w1.drewN nq).cell? ⟨gb, 4, none⟩ = _ := hy4
  have qc : (w1.drewN nq).cell? ⟨g1, a.f4.toNat, none⟩ = _ := hc1
  have qf : (w1.drewN nq).frozen? ⟨g1, a.f4.toNat, none⟩ = _ := hf1
  have Q1 := Aside0.mk (H1.out.below (pw_below_drewN (Below.refl _ w1) nq))
  have QB := Aside0.mk (pw_below_drewN HB.out nq)
  clear H1 HB HBX hy0 hy1 hy2 hy3 hy4 hy5 hy6 hy7 hy8 htc0 ho hm4 hm5 hm7 hTc hc1 hf1
  generalize w1.drewN nq = w2 at *
  go_wp2_with fail
  go_still_tail 8, (by kernel_rfl)
  change wpList _ _ _ _ _ w2.drew
  have HS := Aside0.mk (own_store (W := w2.drew) (x := i) (i := a.f4) (E0.out ▸ Q1.out.rows 1))
  go_wp2
  go_ret
  exact ⟨by rw [HR.out]; rfl, by rw [HR.out]; exact (Q1.out.below (below_drew (Below.refl _ w2))).rowChg _ _ (.of_below (below_drew QB.out)) (by rw [E0.out]; exact setlen HS.out.1) (by rw [E0.out]; exact HS.out.2)⟩
set_option maxHeartbeats 8000000 in
set_option maxRecDepth 100000 in
theorem share_10own (w : World) {nl : Int} {lo hi fl : Nat} {ph : Ph} {cs : List S49} {nA : Nat} {s : St} (H : MachIn w lo hi fl ph cs nA s) (i : Int) (h0 : 0 ≤ i) (h1 : i < cs.length) (a : S33)
    (ha : okA (s.row (4 + 2 * i.toNat)).length (s.row 0).length nA (s.row 1).length nl a) (k : a.f0 = 10) (hown : rd (s.row 1) a.f4 = i) :
    Calls Try.prog 45 #[.pointer (some ⟨ph.bm, 0, none⟩), .int .i64 i, actV a] w fun e w' => e = .returned (.int .i64 (shr nA s i a).2) ∧ Left w lo hi fl ph cs nA (shr nA s i a).1 w' := by
  have HH := Aside0.mk H
  have HR : Aside0 (shr nA s i a = (s.setRow 1 ((s.row 1).set a.f4.toNat (-1)), 0)) := ⟨by rw [shr, if_neg (by omega), if_neg (by omega), if_neg (by omega), if_neg (by omega), if_pos k, if_pos hown]⟩
  obtain ⟨hg0, hg1⟩ := ha.mx (by omega)
  have kow : (rd (s.row 1) a.f4 == i) = true := beq_iff_eq.mpr hown
  have kno : (rd (s.row 1) a.f4 != i) = false := bne_eq_false_iff_eq.mpr hown
  clear hown
  have kb5 : (a.f0 == 5) = false := beq_eq_false_iff_ne.mpr (by omega)
  have kb6 : (a.f0 == 6) = false := beq_eq_false_iff_ne.mpr (by omega)
  have kb7 : (a.f0 == 7) = false := beq_eq_false_iff_ne.mpr (by omega)
  have kb8 : (a.f0 == 8) = false := beq_eq_false_iff_ne.mpr (by omega)
  have kb9 : (a.f0 == 9) = false := beq_eq_false_iff_ne.mpr (by omega)
  have kb10 : (a.f0 == 10) = true := beq_iff_eq.mpr (by omega)
  clear H ha
  go_enter Try.func45, Try.ntmps45
  go_wp2_with (first | ((with_reducible refine gate_dst (N := 5) rfl ?_); refine box_event ?hg (N := 5) ?hd (cs := actC a) (t := 33) ?hr ?_; (case hd => rfl); (case hg => rfl); (case hr => first | (go_simp; done) | (go_simp; rfl)); intro gb hg w1 hbox hb; have HBX := Aside0.mk hbox; have HB := Aside0.mk hb; have H1 := Aside0.mk (HH.out.below hb); have hy0 : w1.cell? ⟨gb, 0, none⟩ = some (.int .i64 a.f0) := (blk_cell hbox 0).trans rfl; have hy1 : w1.cell? ⟨gb, 1, none⟩ = some (.int .i64 a.f1) := (blk_cell hbox 1).trans rfl; have hy2 : w1.cell? ⟨gb, 2, none⟩ = some (.int .i64 a.f2) := (blk_cell hbox 2).trans rfl; have hy3 : w1.cell? ⟨gb, 3, none⟩ = some (.int .i64 a.f3) := (blk_cell hbox 3).trans rfl; have hy4 : w1.cell? ⟨gb, 4, none⟩ = some (.int .i64 a.f4) := (blk_cell hbox 4).trans rfl; have hy5 : w1.cell? ⟨gb, 5, none⟩ = some (.int .i64 a.f5) := (blk_cell hbox 5).trans rfl; have hy6 : w1.cell? ⟨gb, 6, none⟩ = some (.int .i64 a.f6) := (blk_cell hbox 6).trans rfl; have hy7 : w1.cell? ⟨gb, 7, none⟩ = some (.int .i64 a.f7) := (blk_cell hbox 7).trans rfl; have hy8 : w1.cell? ⟨gb, 8, none⟩ = some (.int .i64 a.f8) := (blk_cell hbox 8).trans rfl; have htc0 : w1.cell? ⟨ph.tb i.toNat, 0, none⟩ = some (ph.rv (4 + 2 * i.toNat)) := (blk_cell (H1.out.th i.toNat (by omega)).1 0).trans rfl; obtain ⟨fp, hm1, _⟩ := H1.out.hm; have hm4 : w1.cell? ⟨ph.bm, 4, none⟩ = some ph.hT := (blk_cell hm1 4).trans rfl; have hm5 : w1.cell? ⟨ph.bm, 5, none⟩ = some (ph.rv 0) := (blk_cell hm1 5).trans rfl; have hm7 : w1.cell? ⟨ph.bm, 7, none⟩ = some (ph.rv 1) := (blk_cell hm1 7).trans rfl; obtain ⟨gT, cT, eT, _, hTc⟩ := H1.out.tcell i h0 h1; rw [eT] at hm4; have ho := Aside0.mk (H1.out.rows (4 + 2 * i.toNat)); obtain ⟨g1, c1, e1, hl1, hc1, hf1, _⟩ := own_int (H1.out.rows 1) a.f4 hg0 hg1; rw [e1] at hm7; have E0 := Aside0.mk e1; clear e1; clear hb hbox hg HH hm1 eT))
  go_quiet (fail)
  have q7 : (w1.drewN nq).cell? ⟨ph.bm, 7, none⟩ = _ := hm7
  have q4 : (w1.drewN nq).cell? ⟨gb, 4, none⟩ = _ := hy4
  have qc : (w1.drewN nq).cell? ⟨g1, a.f4.toNat, none⟩ = _ := hc1
  have qf : (w1.drewN nq).frozen? ⟨g1, a.f4.toNat, none⟩ = _ := hf1
  have Q1 := Aside0.mk (H1.out.below (pw_below_drewN (Below.refl _ w1) nq))
  have QB := Aside0.mk (pw_below_drewN HB.out nq)
  clear H1 HB HBX hy0 hy1 hy2 hy3 hy4 hy5 hy6 hy7 hy8 htc0 ho hm4 hm5 hm7 hTc hc1 hf1
  generalize w1.drewN nq = w2 at *
  go_wp2_with fail
  go_still_tail 7, (by kernel_rfl)
  change wpList _ _ _ _ _ w2.drew
  have HS := Aside0.mk (own_store (W := w2.drew) (x := -1) (i := a.f4) (E0.out ▸ Q1.out.rows 1))
  go_wp2
  go_ret
  exact ⟨by rw [HR.out]; rfl, by rw [HR.out]; exact (Q1.out.below (below_drew (Below.refl _ w2))).rowChg _ _ (.of_below (below_drew QB.out)) (by rw [E0.out]; exact setlen HS.out.1) (by rw [E0.out]; exact HS.out.2)⟩
set_option maxHeartbeats 8000000 in
set_option maxRecDepth 100000 in
theorem share_10not (w : World) {nl : Int} {lo hi fl : Nat} {ph : Ph} {cs : List S49} {nA : Nat} {s : St} (H : MachIn w lo hi fl ph cs nA s) (i : Int) (h0 : 0 ≤ i) (h1 : i < cs.length) (a : S33)
    (ha : okA (s.row (4 + 2 * i.toNat)).length (s.row 0).length nA (s.row 1).length nl a) (k : a.f0 = 10) (hown : ¬ rd (s.row 1) a.f4 = i) :
    Calls Try.prog 45 #[.pointer (some ⟨ph.bm, 0, none⟩), .int .i64 i, actV a] w fun e w' => e = .returned (.int .i64 (shr nA s i a).2) ∧ Left w lo hi fl ph cs nA (shr nA s i a).1 w' := by
  have HH := Aside0.mk H
  have HR : Aside0 (shr nA s i a = (s, 12)) := ⟨by rw [shr, if_neg (by omega), if_neg (by omega), if_neg (by omega), if_neg (by omega), if_pos k, if_neg hown]⟩
  obtain ⟨hg0, hg1⟩ := ha.mx (by omega)
  have kow : (rd (s.row 1) a.f4 == i) = false := beq_eq_false_iff_ne.mpr hown
  have kno : (rd (s.row 1) a.f4 != i) = true := bne_iff_ne.mpr hown
  clear hown
  have kb5 : (a.f0 == 5) = false := beq_eq_false_iff_ne.mpr (by omega)
  have kb6 : (a.f0 == 6) = false := beq_eq_false_iff_ne.mpr (by omega)
  have kb7 : (a.f0 == 7) = false := beq_eq_false_iff_ne.mpr (by omega)
  have kb8 : (a.f0 == 8) = false := beq_eq_false_iff_ne.mpr (by omega)
  have kb9 : (a.f0 == 9) = false := beq_eq_false_iff_ne.mpr (by omega)
  have kb10 : (a.f0 == 10) = true := beq_iff_eq.mpr (by omega)
  clear H ha
  go_enter Try.func45, Try.ntmps45
  go_wp2_with (first | ((with_reducible refine gate_dst (N := 5) rfl ?_); refine box_event ?hg (N := 5) ?hd (cs := actC a) (t := 33) ?hr ?_; (case hd => rfl); (case hg => rfl); (case hr => first | (go_simp; done) | (go_simp; rfl)); intro gb hg w1 hbox hb; have HBX := Aside0.mk hbox; have HB := Aside0.mk hb; have H1 := Aside0.mk (HH.out.below hb); have hy0 : w1.cell? ⟨gb, 0, none⟩ = some (.int .i64 a.f0) := (blk_cell hbox 0).trans rfl; have hy1 : w1.cell? ⟨gb, 1, none⟩ = some (.int .i64 a.f1) := (blk_cell hbox 1).trans rfl; have hy2 : w1.cell? ⟨gb, 2, none⟩ = some (.int .i64 a.f2) := (blk_cell hbox 2).trans rfl; have hy3 : w1.cell? ⟨gb, 3, none⟩ = some (.int .i64 a.f3) := (blk_cell hbox 3).trans rfl; have hy4 : w1.cell? ⟨gb, 4, none⟩ = some (.int .i64 a.f4) := (blk_cell hbox 4).trans rfl; have hy5 : w1.cell? ⟨gb, 5, none⟩ = some (.int .i64 a.f5) := (blk_cell hbox 5).trans rfl; have hy6 : w1.cell? ⟨gb, 6, none⟩ = some (.int .i64 a.f6) := (blk_cell hbox 6).trans rfl; have hy7 : w1.cell? ⟨gb, 7, none⟩ = some (.int .i64 a.f7) := (blk_cell hbox 7).trans rfl; have hy8 : w1.cell? ⟨gb, 8, none⟩ = some (.int .i64 a.f8) := (blk_cell hbox 8).trans rfl; have htc0 : w1.cell? ⟨ph.tb i.toNat, 0, none⟩ = some (ph.rv (4 + 2 * i.toNat)) := (blk_cell (H1.out.th i.toNat (by omega)).1 0).trans rfl; obtain ⟨fp, hm1, _⟩ := H1.out.hm; have hm4 : w1.cell? ⟨ph.bm, 4, none⟩ = some ph.hT := (blk_cell hm1 4).trans rfl; have hm5 : w1.cell? ⟨ph.bm, 5, none⟩ = some (ph.rv 0) := (blk_cell hm1 5).trans rfl; have hm7 : w1.cell? ⟨ph.bm, 7, none⟩ = some (ph.rv 1) := (blk_cell hm1 7).trans rfl; obtain ⟨gT, cT, eT, _, hTc⟩ := H1.out.tcell i h0 h1; rw [eT] at hm4; have ho := Aside0.mk (H1.out.rows (4 + 2 * i.toNat)); obtain ⟨g1, c1, e1, hl1, hc1, hf1, _⟩ := own_int (H1.out.rows 1) a.f4 hg0 hg1; rw [e1] at hm7; have E0 := Aside0.mk e1; clear e1; clear hb hbox hg HH hm1 eT))
  go_quiet (fail)
  go_wp2
  go_ret
  exact ⟨by rw [HR.out]; rfl, by rw [HR.out]; exact ⟨H1.out.below (pw_below_drewN (Below.refl _ w1) _), .of_below (pw_below_drewN HB.out _)⟩⟩
set_option maxHeartbeats 8000000 in
set_option maxRecDepth 100000 in
theorem share_no (w : World) {nl : Int} {lo hi fl : Nat} {ph : Ph} {cs : List S49} {nA : Nat} {s : St} (H : MachIn w lo hi fl ph cs nA s) (i : Int) (h0 : 0 ≤ i) (h1 : i < cs.length) (a : S33)
    (ha : okA (s.row (4 + 2 * i.toNat)).length (s.row 0).length nA (s.row 1).length nl a) (k : a.f0 ≠ 5 ∧ a.f0 ≠ 6 ∧ a.f0 ≠ 7 ∧ a.f0 ≠ 8 ∧ a.f0 ≠ 9 ∧ a.f0 ≠ 10) :
    Calls Try.prog 45 #[.pointer (some ⟨ph.bm, 0, none⟩), .int .i64 i, actV a] w fun e w' => e = .returned (.int .i64 (shr nA s i a).2) ∧ Left w lo hi fl ph cs nA (shr nA s i a).1 w' := by
  have HH := Aside0.mk H
  have HR : Aside0 (shr nA s i a = (s, 0)) := ⟨by rw [shr, if_neg k.1, if_neg k.2.1, if_neg (by omega), if_neg k.2.2.2.2.1, if_neg k.2.2.2.2.2]⟩
  have kb5 : (a.f0 == 5) = false := beq_eq_false_iff_ne.mpr (by omega)
  have kb6 : (a.f0 == 6) = false := beq_eq_false_iff_ne.mpr (by omega)
  have kb7 : (a.f0 == 7) = false := beq_eq_false_iff_ne.mpr (by omega)
  have kb8 : (a.f0 == 8) = false := beq_eq_false_iff_ne.mpr (by omega)
  have kb9 : (a.f0 == 9) = false := beq_eq_false_iff_ne.mpr (by omega)
  have kb10 : (a.f0 == 10) = false := beq_eq_false_iff_ne.mpr (by omega)
  clear H ha
  go_enter Try.func45, Try.ntmps45
  go_wp2_with (first | ((with_reducible refine gate_dst (N := 5) rfl ?_); refine box_event ?hg (N := 5) ?hd (cs := actC a) (t := 33) ?hr ?_; (case hd => rfl); (case hg => rfl); (case hr => first | (go_simp; done) | (go_simp; rfl)); intro gb hg w1 hbox hb; have HBX := Aside0.mk hbox; have HB := Aside0.mk hb; have H1 := Aside0.mk (HH.out.below hb); have hy0 : w1.cell? ⟨gb, 0, none⟩ = some (.int .i64 a.f0) := (blk_cell hbox 0).trans rfl; have hy1 : w1.cell? ⟨gb, 1, none⟩ = some (.int .i64 a.f1) := (blk_cell hbox 1).trans rfl; have hy2 : w1.cell? ⟨gb, 2, none⟩ = some (.int .i64 a.f2) := (blk_cell hbox 2).trans rfl; have hy3 : w1.cell? ⟨gb, 3, none⟩ = some (.int .i64 a.f3) := (blk_cell hbox 3).trans rfl; have hy4 : w1.cell? ⟨gb, 4, none⟩ = some (.int .i64 a.f4) := (blk_cell hbox 4).trans rfl; have hy5 : w1.cell? ⟨gb, 5, none⟩ = some (.int .i64 a.f5) := (blk_cell hbox 5).trans rfl; have hy6 : w1.cell? ⟨gb, 6, none⟩ = some (.int .i64 a.f6) := (blk_cell hbox 6).trans rfl; have hy7 : w1.cell? ⟨gb, 7, none⟩ = some (.int .i64 a.f7) := (blk_cell hbox 7).trans rfl; have hy8 : w1.cell? ⟨gb, 8, none⟩ = some (.int .i64 a.f8) := (blk_cell hbox 8).trans rfl; have htc0 : w1.cell? ⟨ph.tb i.toNat, 0, none⟩ = some (ph.rv (4 + 2 * i.toNat)) := (blk_cell (H1.out.th i.toNat (by omega)).1 0).trans rfl; obtain ⟨fp, hm1, _⟩ := H1.out.hm; have hm4 : w1.cell? ⟨ph.bm, 4, none⟩ = some ph.hT := (blk_cell hm1 4).trans rfl; have hm5 : w1.cell? ⟨ph.bm, 5, none⟩ = some (ph.rv 0) := (blk_cell hm1 5).trans rfl; have hm7 : w1.cell? ⟨ph.bm, 7, none⟩ = some (ph.rv 1) := (blk_cell hm1 7).trans rfl; obtain ⟨gT, cT, eT, _, hTc⟩ := H1.out.tcell i h0 h1; rw [eT] at hm4; have ho := Aside0.mk (H1.out.rows (4 + 2 * i.toNat)); clear hb hbox hg HH hm1 eT))
  go_ret
  exact ⟨by rw [HR.out]; rfl, by rw [HR.out]; exact ⟨H1.out, .of_below HB.out⟩⟩
theorem share_calls (w : World) {nl : Int} {lo hi fl : Nat} {ph : Ph} {cs : List S49} {nA : Nat} {s : St} (H : MachIn w lo hi fl ph cs nA s) (i : Int) (h0 : 0 ≤ i) (h1 : i < cs.length) (a : S33)
    (ha : okA (s.row (4 + 2 * i.toNat)).length (s.row 0).length nA (s.row 1).length nl a) :
    Calls Try.prog 45 #[.pointer (some ⟨ph.bm, 0, none⟩), .int .i64 i, actV a] w fun e w' => e = .returned (.int .i64 (shr nA s i a).2) ∧ Left w lo hi fl ph cs nA (shr nA s i a).1 w' := by
  by_cases k5 : a.f0 = 5
  · exact share_5 w H i h0 h1 a ha k5
  by_cases k6 : a.f0 = 6
  · exact share_6 w H i h0 h1 a ha k6
  by_cases k7 : a.f0 = 7
  · by_cases hin : 0 ≤ (rd (s.row (4 + 2 * i.toNat)) a.f2) ∧ (rd (s.row (4 + 2 * i.toNat)) a.f2) < (s.row (3 + 2 * a.f4.toNat)).length
    · exact share_7 w H i h0 h1 a ha k7 hin
    · exact share_7out w H i h0 h1 a ha k7 hin
  by_cases k8 : a.f0 = 8
  · by_cases hin : 0 ≤ (rd (s.row (4 + 2 * i.toNat)) a.f2) ∧ (rd (s.row (4 + 2 * i.toNat)) a.f2) < (s.row (3 + 2 * a.f4.toNat)).length
    · exact share_8 w H i h0 h1 a ha k8 hin
    · exact share_8out w H i h0 h1 a ha k8 hin
  by_cases k9 : a.f0 = 9
  · by_cases hown : rd (s.row 1) a.f4 = i
    · exact share_9own w H i h0 h1 a ha k9 hown
    · exact share_9free w H i h0 h1 a ha k9 hown
  by_cases k10 : a.f0 = 10
  · by_cases hown : rd (s.row 1) a.f4 = i
    · exact share_10own w H i h0 h1 a ha k10 hown
    · exact share_10not w H i h0 h1 a ha k10 hown
  exact share_no w H i h0 h1 a ha ⟨k5, k6, k7, k8, k9, k10⟩
end Go.Proofs.Ytikjamcemnbhbaa.Mr
