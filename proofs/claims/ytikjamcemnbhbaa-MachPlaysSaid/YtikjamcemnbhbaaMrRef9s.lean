/- The reference's machine: a step. -/
import Derived.Test.YtikjamcemnbhbaaMrRef9d
namespace Go.Proofs.Ytikjamcemnbhbaa.Mr
open Go.RowKit Go.Proofs.YtikjamcemnbhbaaW.PrintWords Go.Proofs.YtikjamcemnbhbaaW.PrintLast
set_option linter.unusedVariables false
set_option linter.unusedSimpArgs false
theorem does_calls (w : World) {lo hi : Nat} {u : RefU} {pr : PhR} {cs : List S49} {nA : Nat} {s : St} (H : RefIn w lo hi u pr cs.length nA s) (t : Int) (h0 : 0 ≤ t) (h1 : t < cs.length) (a : S33) (inp : Int) {nl : Int} (ha : okA (s.row (4 + 2 * t.toNat)).length (s.row 0).length nA (s.row 1).length nl a) :
    Calls Try.prog 49 #[.pointer (some ⟨pr.bm, 0, none⟩), .int .i64 t, .agg #[.int .i64 a.f0, .int .i64 a.f1, .int .i64 a.f2, .int .i64 a.f3, .int .i64 a.f4, .int .i64 a.f5, .int .i64 a.f6, .int .i64 a.f7, .int .i64 a.f8], .int .i64 inp] w fun e w' => DoesOut w lo hi u pr cs.length nA s t a inp e w' := by
  have hk := ha.kind
  rcases (by omega : a.f0 = 1 ∨ a.f0 = 2 ∨ a.f0 = 3 ∨ a.f0 = 4 ∨ a.f0 = 5 ∨ a.f0 = 6 ∨ a.f0 = 7 ∨ a.f0 = 8 ∨ a.f0 = 9 ∨ a.f0 = 10 ∨ a.f0 = 11 ∨ (a.f0 = 12 ∨ a.f0 = 14) ∨ a.f0 = 13) with k | k | k | k | k | k | k | k | k | k | k | k | k
  · exact does_1 w H t h0 h1 a inp ha k
  · exact does_2 w H t h0 h1 a inp ha k
  · by_cases h : inp < -2147483648
    · exact does_3a w H t h0 h1 a inp ha k h
    · by_cases h' : 2147483647 < inp
      · exact does_3b w H t h0 h1 a inp ha k h h'
      · exact does_3c w H t h0 h1 a inp ha k h h'
  · obtain ⟨d1, d2, hd⟩ : ∃ d1 d2, doP a.f6 (rd (s.row (4 + 2 * t.toNat)) a.f2) (rd (s.row (4 + 2 * t.toNat)) a.f3) = (d1, d2) := ⟨_, _, rfl⟩
    by_cases h : d2 = 0
    · exact does_4s w H t h0 h1 a inp ha k d1 d2 hd h
    · exact does_4e w H t h0 h1 a inp ha k d1 d2 hd h
  · exact does_5 w H t h0 h1 a inp ha k
  · exact does_6 w H t h0 h1 a inp ha k
  · by_cases h : rd (s.row (4 + 2 * t.toNat)) a.f2 < 0
    · exact does_7e0 w H t h0 h1 a inp ha k h
    · by_cases h' : ((s.row (3 + 2 * a.f4.toNat)).length : Int) ≤ rd (s.row (4 + 2 * t.toNat)) a.f2
      · exact does_7e1 w H t h0 h1 a inp ha k h h'
      · exact does_7s w H t h0 h1 a inp ha k (by omega) (by omega)
  · by_cases h : rd (s.row (4 + 2 * t.toNat)) a.f2 < 0
    · exact does_8e0 w H t h0 h1 a inp ha k h
    · by_cases h' : ((s.row (3 + 2 * a.f4.toNat)).length : Int) ≤ rd (s.row (4 + 2 * t.toNat)) a.f2
      · exact does_8e1 w H t h0 h1 a inp ha k h h'
      · exact does_8s w H t h0 h1 a inp ha k (by omega) (by omega)
  · by_cases h : rd (s.row 1) a.f4 = t
    · exact does_9a w H t h0 h1 a inp ha k h
    · exact does_9b w H t h0 h1 a inp ha k h
  · by_cases h : rd (s.row 1) a.f4 = t
    · exact does_10b w H t h0 h1 a inp ha k h
    · exact does_10a w H t h0 h1 a inp ha k h
  · cases h : relP a.f6 (rd (s.row (4 + 2 * t.toNat)) a.f2) (rd (s.row (4 + 2 * t.toNat)) a.f3) with
    | true => exact does_11t w H t h0 h1 a inp ha k h
    | false => exact does_11f w H t h0 h1 a inp ha k h
  · exact does_0 w H t h0 h1 a inp ha k
  · exact does_13 w H t h0 h1 a inp ha k
def RefOut (w : World) (lo hi : Nat) (u : RefU) (pr : PhR) (cs : List S49) (nA : Nat) (s : St) (t inp : Int) (w' : World) : Prop := RefIn w' lo hi u pr cs.length nA (stepP cs nA s t inp) ∧ Chg lo hi w w'
theorem set_g {w W : World} {g i : Nat} {x : Value} (h : w.grownBy W (some g)) : w.grownBy (W.setCell ⟨g, i, none⟩ x) (some g) :=
  ⟨h.os, h.tape, h.output, by simpa [World.setCell] using h.size, fun k hk hn => (Below.heap_setCell W ⟨g, i, none⟩ x k (fun e => hn (by rw [e]))).trans (h.block k hk hn)⟩
set_option maxHeartbeats 8000000 in
set_option maxRecDepth 100000 in
theorem rstep_none (w : World) {lo hi : Nat} {u : RefU} {pr : PhR} {cs : List S49} {nA : Nat} {s : St} (H : RefIn w lo hi u pr cs.length nA s) (W : Wf cs nA s) (OG : OwnGe s) (hT : Kd.C k49 w u.At cs.length cs) (hct : cs.length ≤ u.ct) (t inp : Int) (hn : nxt cs s t = none) :
    Calls Try.prog 30 #[.pointer (some ⟨pr.bm, 0, none⟩), .int .i64 t, .int .i64 inp] w fun e w' => e = .returned (.bool false) ∧ RefOut w lo hi u pr cs nA s t inp w' := by
  have HH := Aside0.mk H
  have HW := Aside0.mk W
  have HOG := Aside0.mk OG
  have HT := Aside0.mk hT
  have HCT := Aside0.mk hct
  have HS := Aside0.mk (show stepP cs nA s t inp = s by unfold stepP; rw [hn])
  have HV := Aside0.mk (show nxtV (nxt cs s t) = .tuple #[.agg #[.int .i64 0, .int .i64 0, .int .i64 0, .int .i64 0, .int .i64 0, .int .i64 0, .int .i64 0, .int .i64 0, .int .i64 0], .bool false] by rw [hn]; rfl)
  clear H W OG hT hct hn
  go_enter Try.func30, Try.ntmps30
  go_wp2_with (first | (go_at_call 48; (with_reducible refine (rnext_calls w HH.out HW.out HOG.out HT.out HCT.out t HV.out).mono ?_); rintro e w1 ⟨rfl, hb⟩; have HB1 := Aside0.mk hb; clear hb) | ((with_reducible refine gate_dst (N := 7) rfl ?_); refine box_event ?hg (N := 7) ?hd (cs := #[.int .i64 0, .int .i64 0, .int .i64 0, .int .i64 0, .int .i64 0, .int .i64 0, .int .i64 0, .int .i64 0, .int .i64 0]) (t := 33) ?hr ?_; (case hd => rfl); (case hg => rfl); (case hr => first | (go_simp; done) | (go_simp; rfl)); intro g7 hgg w2 hlit hb; have HLw2 := Aside0.mk hlit; have HKw2 := Aside0.mk hb; have HGw2 := Aside0.mk hgg; have HB2 := Aside0.mk (below_on HB1.out hb); clear hlit hb hgg) | ((with_reducible refine gate_store (t := 33) (p := 7) rfl ?_); refine put_row ?hg ?hn 33 (.tmp 7) (.tmp 15) ?ho g7 33 _ (#[.int .i64 0, .int .i64 0, .int .i64 0, .int .i64 0, .int .i64 0, .int .i64 0, .int .i64 0, .int .i64 0, .int .i64 0]) ?hp ?hx ?hu HLw2.out ?ht ?hs ?h1 ?_; (case hg => rfl); (case hn => rfl); (case ho => rfl); (case hp => rfl); (case hx => rfl); (case hu => rfl); (case ht => kernel_rfl); (case hs => rfl); (case h1 => exact actC_one z33); intro w3 hlit hg; have HLw3 := Aside0.mk hlit; have HB3 := Aside0.mk (HB2.out.grown hg HB2.out.size (fun q hq => by injection hq with hq; rw [← hq, HGw2.out]; exact HB1.out.size)); clear hlit hg))
  go_ret
  exact ⟨rfl, by rw [RefOut, HS.out]; exact ⟨HH.out.below HB3.out, .of_below HB3.out⟩⟩
set_option maxHeartbeats 8000000 in
set_option maxRecDepth 100000 in
theorem rstep_some (w : World) {lo hi : Nat} {u : RefU} {pr : PhR} {cs : List S49} {nA : Nat} {s : St} (H : RefIn w lo hi u pr cs.length nA s) (W : Wf cs nA s) (OG : OwnGe s) (hT : Kd.C k49 w u.At cs.length cs) (hct : cs.length ≤ u.ct) (t inp : Int) (a : S33) (hn : nxt cs s t = some a) :
    Calls Try.prog 30 #[.pointer (some ⟨pr.bm, 0, none⟩), .int .i64 t, .int .i64 inp] w fun e w' => e = .returned (.bool true) ∧ RefOut w lo hi u pr cs nA s t inp w' := by
  have HH := Aside0.mk H
  have HW := Aside0.mk W
  have HOG := Aside0.mk OG
  have HT := Aside0.mk hT
  have HCT := Aside0.mk hct
  obtain ⟨⟨ht0, ht1⟩, hbad, hact⟩ := nxt_some hn
  have hok := (W.act t ht0 ht1).1
  rw [← hact] at hok
  have HOK := Aside0.mk hok
  have HS := Aside0.mk (show stepP cs nA s t inp = doneP nA s t a inp by unfold stepP; rw [hn])
  have HV := Aside0.mk (show nxtV (nxt cs s t) = .tuple #[.agg #[.int .i64 a.f0, .int .i64 a.f1, .int .i64 a.f2, .int .i64 a.f3, .int .i64 a.f4, .int .i64 a.f5, .int .i64 a.f6, .int .i64 a.f7, .int .i64 a.f8], .bool true] by rw [hn]; rfl)
  have HT0 := Aside0.mk (show 0 ≤ t ∧ t < cs.length from ⟨ht0, ht1⟩)
  have HPCS := Aside0.mk (after_pc nA s t a inp)
  clear H W OG hT hct hn hbad hact hok
  go_enter Try.func30, Try.ntmps30
  go_wp2_with (first | (go_at_call 48; (with_reducible refine (rnext_calls w HH.out HW.out HOG.out HT.out HCT.out t HV.out).mono ?_); rintro e w1 ⟨rfl, hb⟩; have HB1 := Aside0.mk hb; clear hb) | ((with_reducible refine gate_dst (N := 7) rfl ?_); refine box_event ?hg (N := 7) ?hd (cs := #[.int .i64 0, .int .i64 0, .int .i64 0, .int .i64 0, .int .i64 0, .int .i64 0, .int .i64 0, .int .i64 0, .int .i64 0]) (t := 33) ?hr ?_; (case hd => rfl); (case hg => rfl); (case hr => first | (go_simp; done) | (go_simp; rfl)); intro g7 hgg w2 hlit hb; have HLw2 := Aside0.mk hlit; have HKw2 := Aside0.mk hb; have HGw2 := Aside0.mk hgg; have HB2 := Aside0.mk (below_on HB1.out hb); clear hlit hb hgg) | ((with_reducible refine gate_store (t := 33) (p := 7) rfl ?_); refine put_row ?hg ?hn 33 (.tmp 7) (.tmp 15) ?ho g7 33 _ (#[.int .i64 a.f0, .int .i64 a.f1, .int .i64 a.f2, .int .i64 a.f3, .int .i64 a.f4, .int .i64 a.f5, .int .i64 a.f6, .int .i64 a.f7, .int .i64 a.f8]) ?hp ?hx ?hu HLw2.out ?ht ?hs ?h1 ?_; (case hg => rfl); (case hn => rfl); (case ho => rfl); (case hp => rfl); (case hx => rfl); (case hu => rfl); (case ht => kernel_rfl); (case hs => rfl); (case h1 => exact actC_one a); intro w3 hlit hg; have HLw3 := Aside0.mk hlit; have HB3 := Aside0.mk (HB2.out.grown hg HB2.out.size (fun q hq => by injection hq with hq; rw [← hq, HGw2.out]; exact HB1.out.size)); have hy0 := (blk_cell hlit 0).trans rfl; have hy1 := (blk_cell hlit 1).trans rfl; have hy2 := (blk_cell hlit 2).trans rfl; have hy3 := (blk_cell hlit 3).trans rfl; have hy4 := (blk_cell hlit 4).trans rfl; have hy5 := (blk_cell hlit 5).trans rfl; have hy6 := (blk_cell hlit 6).trans rfl; have hy7 := (blk_cell hlit 7).trans rfl; have hy8 := (blk_cell hlit 8).trans rfl; clear hlit hg))
  refine (does_calls w3 (HH.out.below HB3.out) t HT0.out.1 HT0.out.2 a inp HOK.out).mono ?_
  rintro e w4 ⟨rfl, hH4, hC4⟩
  have H4 := Aside0.mk hH4
  have HC4 := Aside0.mk ((Chg.of_below HB3.out).trans hC4)
  have HER := Aside0.mk (show doneP nA s t a inp = if (after1 nA s t a inp).2 = 0 then (after1 nA s t a inp).1.setPc t.toNat (nxP (after1 nA s t a inp).1 t a) else (after1 nA s t a inp).1.setBad (t, s.pc t.toNat, (after1 nA s t a inp).2) from rfl)
  clear hH4 hC4
  obtain ⟨er, her⟩ : ∃ er, (after1 nA s t a inp).2 = er := ⟨_, rfl⟩
  obtain ⟨nx, hnx⟩ : ∃ nx, nxP (after1 nA s t a inp).1 t a = nx := ⟨_, rfl⟩
  obtain ⟨s4, hs4⟩ : ∃ s4, (after1 nA s t a inp).1 = s4 := ⟨_, rfl⟩
  rw [hnx, her, hs4] at HER
  rw [hs4] at H4 HPCS
  rw [hnx, her]
  clear her hnx hs4
  have h2 := H4.out.rows 2
  have hl2 : (rowR cs.length s4 2).length = cs.length := by rw [rowR_pc]; simp
  have hpc := rd_pc cs.length s4 t ht0 ht1
  obtain ⟨gp, cp, ep, hcp, hpcell, hpf, hplo, hpl⟩ := own_int h2 t ht0 (by rw [hl2]; exact ht1)
  rw [hpc] at hpcell
  rw [hl2] at ep hcp
  have EP := Aside0.mk ep
  obtain ⟨f, hm, -⟩ := H4.out.hm
  have HM := Aside0.mk hm
  have hm4 : w4.cell? ⟨pr.bm, 4, none⟩ = some (.slice (some ⟨gp, 0, none⟩) cs.length cp) := (blk_cell hm 4).trans (congrArg some EP.out)
  by_cases he : er = 0
  · have HE := Aside0.mk he
    subst he
    have HFIN := Aside0.mk (HS.out.trans (HER.out.trans (if_pos rfl)))
    have HO2 := Aside0.mk h2
    have HB2R := Aside0.mk (H4.out.rlt 2 gp (by rw [ep]; rfl))
    clear hm h2 hl2 hpc ep
    rw [if_pos rfl]
    go_wp2_with fail
    go_ret
    have hst := own_store (e := 3) (k := .i64) (base := lo) (g := gp) (n := cs.length) (cap := cp) (xs := rowR cs.length s4 2) (W := w4) (by have h := HO2.out; rw [EP.out] at h; rw [show (rowR cs.length s4 2).length = cs.length by rw [rowR_pc]; simp] at h; exact h) t nx
    have hob : (pr.rv 2).ownBlock = some gp := by rw [EP.out]; rfl
    have HX := H4.out.putPc t.toNat nx (w' := w4.setCell ⟨gp, t.toNat, none⟩ (.int .i64 nx)) (by rw [EP.out, List.length_set, show (rowR cs.length s4 2).length = cs.length by rw [rowR_pc]; simp]; exact hst.1) (by rw [hob]; exact hst.2)
    exact ⟨rfl, by rw [RefOut, HFIN.out]; exact ⟨HX, HC4.out.trans (Chg.of_grown hst.2 (fun b hb => by injection hb with hb; subst hb; exact ⟨hplo, HB2R.out⟩))⟩⟩
  · have HFIN := Aside0.mk (HS.out.trans (HER.out.trans (if_neg he)))
    have hne : (er != 0) = true := bne_iff_ne.mpr he
    have hm9 : w4.cell? ⟨pr.bm, 9, none⟩ = some (.int .i64 f.1) := (blk_cell hm 9).trans rfl
    have hq9 := blk_frozen hm 9
    have hA := blk_put hm 9 (.int .i64 t) rfl
    have hA10 : (w4.setCell ⟨pr.bm, 9, none⟩ (.int .i64 t)).cell? ⟨pr.bm, 10, none⟩ = some (.int .i64 f.2.1) := (blk_cell hA 10).trans rfl
    have hAf := blk_frozen hA 10
    have hB := blk_put hA 10 (.int .i64 (s4.pc t.toNat)) rfl
    have hB11 : ((w4.setCell ⟨pr.bm, 9, none⟩ (.int .i64 t)).setCell ⟨pr.bm, 10, none⟩ (.int .i64 (s4.pc t.toNat))).cell? ⟨pr.bm, 11, none⟩ = some (.int .i64 f.2.2) := (blk_cell hB 11).trans rfl
    have hBf := blk_frozen hB 11
    have hC := blk_put hB 11 (.int .i64 er) rfl
    have hC12 : (((w4.setCell ⟨pr.bm, 9, none⟩ (.int .i64 t)).setCell ⟨pr.bm, 10, none⟩ (.int .i64 (s4.pc t.toNat))).setCell ⟨pr.bm, 11, none⟩ (.int .i64 er)).cell? ⟨pr.bm, 12, none⟩ = some (.bool s4.bad.isSome) := (blk_cell hC 12).trans rfl
    have hCf := blk_frozen hC 12
    have HD := Aside0.mk (blk_put hC 12 (.bool true) (cs' := refC u pr cs.length (t, s4.pc t.toNat, er) true) rfl)
    clear hA hB hC
    have HPX := Aside0.mk (show s4.pc t.toNat = s.pc t.toNat by rw [HPCS.out])
    rw [if_neg he]
    clear hm h2 hl2 hpc ep he
    go_wp2_with fail
    go_ret
    have hg := set_g (i := 12) (x := .bool true) (set_g (i := 11) (x := .int .i64 er) (set_g (i := 10) (x := .int .i64 (s4.pc t.toNat)) (set_grown w4 pr.bm 9 (.int .i64 t))))
    have HX := H4.out.putBad (t, s4.pc t.toNat, er) HD.out hg
    rw [HPX.out] at HX
    exact ⟨rfl, by rw [RefOut, HFIN.out]; exact ⟨by rw [← HPX.out] at HX ⊢; exact HX, HC4.out.trans (Chg.of_grown hg (fun b hb => by injection hb with hb; subst hb; exact H4.out.bm))⟩⟩
end Go.Proofs.Ytikjamcemnbhbaa.Mr
