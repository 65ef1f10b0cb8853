/- The reference's machine: what an action does. -/
import Derived.Test.YtikjamcemnbhbaaMrRef9
import Derived.Test.YtikjamcemnbhbaaMrF65
import Derived.Test.YtikjamcemnbhbaaMrF66
import Derived.StillTailTactics
namespace Go.Proofs.Ytikjamcemnbhbaa.Mr
open Go.RowKit Go.Proofs.YtikjamcemnbhbaaW.PrintWords Go.Proofs.YtikjamcemnbhbaaW.PrintLast
set_option linter.unusedVariables false
set_option linter.unusedSimpArgs false
def nxP (s1 : St) (t : Int) (a : S33) : Int := if a.f0 = 11 ∧ relP a.f6 (rd (s1.row (4 + 2 * t.toNat)) a.f2) (rd (s1.row (4 + 2 * t.toNat)) a.f3) = false then a.f8 else a.f7
def DoesOut (w : World) (lo hi : Nat) (u : RefU) (pr : PhR) (n nA : Nat) (s : St) (t : Int) (a : S33) (inp : Int) (e : Ending) (w' : World) : Prop :=
  e = .returned (.tuple #[.int .i64 (if (after1 nA s t a inp).2 = 0 then nxP (after1 nA s t a inp).1 t a else 0), .int .i64 (after1 nA s t a inp).2]) ∧ RefIn w' lo hi u pr n nA (after1 nA s t a inp).1 ∧ Chg lo hi w w'
theorem does_mk {w : World} {lo hi : Nat} {u : RefU} {pr : PhR} {n nA : Nat} {s : St} {t : Int} {a : S33} {inp : Int} {e : Ending} {w' : World} {S' : St} {er n' : Int} (hR : after1 nA s t a inp = (S', er)) (hn : (if er = 0 then nxP S' t a else 0) = n')
    (he : e = .returned (.tuple #[.int .i64 n', .int .i64 er])) (H : RefIn w' lo hi u pr n nA S') (C : Chg lo hi w w') : DoesOut w lo hi u pr n nA s t a inp e w' := by
  unfold DoesOut
  rw [hR]
  subst hn
  exact ⟨he, H, C⟩
theorem nxP_plain {s1 : St} {t : Int} {a : S33} (h : a.f0 ≠ 11) : (if (0 : Int) = 0 then nxP s1 t a else 0) = a.f7 := by
  rw [if_pos rfl]; unfold nxP; rw [if_neg (fun h' => h h'.1)]
theorem after_reck {nA : Nat} {s : St} {t : Int} {a : S33} {inp : Int} (hk : a.f0 < 5 ∨ 10 < a.f0) : after1 nA s t a inp = (s.setRow (4 + 2 * t.toNat) (reck (s.row (4 + 2 * t.toNat)) a inp).1, (reck (s.row (4 + 2 * t.toNat)) a inp).2) := by
  unfold after1
  split
  · rename_i h
    unfold shr
    rw [if_neg (by omega), if_neg (by omega), if_neg (by omega), if_neg (by omega), if_neg (by omega), h]
  · rfl
theorem after_shr {nA : Nat} {s : St} {t : Int} {a : S33} {inp : Int} (h5 : 5 ≤ a.f0) (h10 : a.f0 ≤ 10) : after1 nA s t a inp = shr nA s t a := by
  have hr : reck (s.row (4 + 2 * t.toNat)) a inp = (s.row (4 + 2 * t.toNat), 0) := by
    unfold reck
    rw [if_neg (by omega), if_neg (by omega), if_neg (by omega), if_neg (by omega), if_neg (by omega)]
  unfold after1
  rw [hr]
  simp only [if_true]
  rw [St.setRow_same]
theorem RefIn.rowAt {w : World} {lo hi : Nat} {u : RefU} {pr : PhR} {n nA : Nat} {s : St} (H : RefIn w lo hi u pr n nA s) (k : Nat) (hk : k ≠ 2) (hne : 0 < (s.row k).length) :
    ∃ g c, pr.rv k = .slice (some ⟨g, 0, none⟩) (s.row k).length c ∧ (s.row k).length ≤ c ∧ lo ≤ g ∧ g < hi ∧ g < w.heap.size ∧ ∀ W, Below w.heap.size w W → ∀ i : Int, 0 ≤ i → i < (s.row k).length → W.cell? ⟨g, i.toNat, none⟩ = some (.int .i64 (rd (s.row k) i)) ∧ W.frozen? ⟨g, i.toNat, none⟩ = false := by
  have h := H.rows k
  rw [rowR_ne _ _ hk] at h
  obtain ⟨g, c, e, hc, _, _, hlo, hlt⟩ := own_int h 0 (Int.le_refl _) (by omega)
  have hhi := H.rlt k g (by rw [e]; rfl)
  refine ⟨g, c, e, hc, hlo, hhi, hlt, fun W hW i h0 h1 => ?_⟩
  obtain ⟨g', c', e', _, hx, hf, _, hl⟩ := own_int h i h0 h1
  rw [e] at e'
  cases e'
  exact ⟨pw_cell_below hW hx, (hW.frozen (p := ⟨g, i.toNat, none⟩) hl).trans hf⟩
/-- A row's element is written. -/
theorem RefIn.wrote {w W : World} {lo hi : Nat} {u : RefU} {pr : PhR} {n nA : Nat} {s : St} (H : RefIn w lo hi u pr n nA s) (hW : Below w.heap.size w W) (k : Nat) (hk : k ≠ 2) {g c : Nat} (e : pr.rv k = .slice (some ⟨g, 0, none⟩) (s.row k).length c) (i x : Int) :
    RefIn (W.setCell ⟨g, i.toNat, none⟩ (.int .i64 x)) lo hi u pr n nA (s.setRow k ((s.row k).set i.toNat x)) ∧ Chg lo hi w (W.setCell ⟨g, i.toNat, none⟩ (.int .i64 x)) := by
  have H' := H.below hW
  have h := H'.rows k
  rw [rowR_ne _ _ hk, e] at h
  have hs := own_store h i x
  have hb : (pr.rv k).ownBlock = some g := by rw [e]; rfl
  refine ⟨H'.stored k hk _ (by rw [e, List.length_set]; exact hs.1) (by rw [hb]; exact hs.2), ?_⟩
  exact (Chg.of_below hW).trans (Chg.of_grown hs.2 (fun b hb' => by injection hb' with hb'; subst hb'; exact ⟨(H'.rows k |>.lt g hb).1, H.rlt k g hb⟩))
theorem fit8_k (k : Int) : meddlerref1_Fits.f k = some (fitsB k) := by
  unfold meddlerref1_Fits.f fitsB
  by_cases h : -2147483648 ≤ k <;> simp [h]
theorem rdo_ok (op x y : Int) : meddlerref1_Do.f 9 op x y = some (doP op x y) := by
  rw [meddlerref1_Do.f, fit8_k, fit8_k]
  simp only [Option.bind_some]
  unfold doP
  cases hx : fitsB x with
  | false => simp [meddlerref1_Do.j0]
  | true =>
    cases hy : fitsB y with
    | false => simp [meddlerref1_Do.j0]
    | true =>
      simp only [Bool.and_self, if_true, meddlerref1_Do.j0, meddlerref1_Do.j1, fit8_k, Option.bind_some]
      clear hx hy
      by_cases h1 : op < 1
      · simp [h1]
      · by_cases h5 : op > 5
        · simp [h1, h5]
        · by_cases hy0 : y = 0
          · obtain h | h | h | h | h : op = 1 ∨ op = 2 ∨ op = 3 ∨ op = 4 ∨ op = 5 := by omega
            all_goals (subst h; subst hy0; simp [opN]; try (split <;> rfl))
          · obtain h | h | h | h | h : op = 1 ∨ op = 2 ∨ op = 3 ∨ op = 4 ∨ op = 5 := by omega
            all_goals (subst h; simp [opN, hy0]; try (split <;> rfl))
theorem rdo_calls (op x y : Int) {d1 d2 : Int} (h : doP op x y = (d1, d2)) (w : World) : Calls Try.prog 65 #[.int .i64 op, .int .i64 x, .int .i64 y] w fun e w' => e = .returned (.tuple #[.int .i64 d1, .int .i64 d2]) ∧ Drawn0 w w' :=
  meddlerref1_Do.calls 9 op x y d1 d2 w (by rw [rdo_ok, h])
theorem rrel_calls (op x y : Int) {b : Bool} (h : relP op x y = b) (w : World) : Calls Try.prog 66 #[.int .i64 op, .int .i64 x, .int .i64 y] w fun e w' => e = .returned (.bool b) ∧ Drawn0 w w' :=
  meddlerref1_Rel.calls op x y b w (by rw [← h]; exact rel_ok op x y)
set_option maxHeartbeats 8000000 in
set_option maxRecDepth 100000 in
theorem does_1 (w : World) {lo hi : Nat} {u : RefU} {pr : PhR} {cs : List S49} {nA : Nat} {s : St} (H : RefIn w lo hi u pr cs.length nA s) (t : Int) (h0 : 0 ≤ t) (h1 : t < cs.length) (a : S33) (inp : Int) {nl : Int} (ha : okA (s.row (4 + 2 * t.toNat)).length (s.row 0).length nA (s.row 1).length nl a) (kk : a.f0 = 1) :
    Calls Try.prog 49 #[.pointer (some ⟨pr.bm, 0, none⟩), .int .i64 t, .agg #[.int .i64 a.f0, .int .i64 a.f1, .int .i64 a.f2, .int .i64 a.f3, .int .i64 a.f4, .int .i64 a.f5, .int .i64 a.f6, .int .i64 a.f7, .int .i64 a.f8], .int .i64 inp] w fun e w' => DoesOut w lo hi u pr cs.length nA s t a inp e w' := by
  have ht0 := (ha.t (.inl kk)).1
  have ht1 := (ha.t (.inl kk)).2
  have hVne : 0 < (s.row (4 + 2 * t.toNat)).length := by have := ha.t (.inl kk); omega
  obtain ⟨f, hm, -⟩ := H.hm
  have HM := Aside0.mk hm
  have HH := Aside0.mk H
  have HA := Aside0.mk ha
  have HK := Aside0.mk kk
  obtain ⟨gv, cv, ev, hcv, hvc⟩ := H.vcell t h0 h1
  have EVV := Aside0.mk ev
  have HVC := Aside0.mk hvc
  have hcvz : (cs.length : Int) ≤ cv := by omega
  obtain ⟨gV, cV, eV, hcV, hloV, hhiV, hltV, hallV⟩ := H.rowAt (4 + 2 * t.toNat) (by omega) (by have := hVne; omega)
  have EV := Aside0.mk eV
  have HALV := Aside0.mk hallV
  have HLV := Aside0.mk (show lo ≤ gV ∧ gV < hi ∧ gV < w.heap.size from ⟨hloV, hhiV, hltV⟩)
  have kb1 : (a.f0 == 1) = true := beq_iff_eq.mpr kk
  have HR : Aside0 (after1 nA s t a inp = (s.setRow (4 + 2 * t.toNat) ((s.row (4 + 2 * t.toNat)).set (a.f1).toNat (a.f5)), 0)) := ⟨by rw [after_reck (by omega), reck, if_pos kk]⟩
  clear H hm ha kk ev hvc eV hallV hloV hhiV hltV hVne
  go_enter Try.func49, Try.ntmps49
  go_wp2_with (first | ((with_reducible refine gate_dst (N := 6) rfl ?_); refine box_event ?hg (N := 6) ?hd (cs := #[.int .i64 a.f0, .int .i64 a.f1, .int .i64 a.f2, .int .i64 a.f3, .int .i64 a.f4, .int .i64 a.f5, .int .i64 a.f6, .int .i64 a.f7, .int .i64 a.f8]) (t := 33) ?hr ?_; (case hd => rfl); (case hg => rfl); (case hr => first | (go_simp; done) | (go_simp; rfl)); intro g6 hgg w1 hlit hb; have HLw1 := Aside0.mk hlit; have HKw1 := Aside0.mk hb; have HGw1 := Aside0.mk hgg; have HB1 := Aside0.mk hb; have HM1 := Aside0.mk (below_read hb HM.out); have hm5 : w1.cell? ⟨pr.bm, 5, none⟩ = some (.slice (some ⟨gv, 0, none⟩) cs.length cv) := (blk_cell HM1.out 5).trans (congrArg some EVV.out); have hvc1 : w1.cell? ⟨gv, t.toNat, none⟩ = some (.slice (some ⟨gV, 0, none⟩) (s.row (4 + 2 * t.toNat)).length cV) := (pw_cell_below hb HVC.out).trans (congrArg some EV.out); have hy0 : w1.cell? ⟨g6, 0, none⟩ = some (.int .i64 a.f0) := (blk_cell hlit 0).trans rfl; have hy1 : w1.cell? ⟨g6, 1, none⟩ = some (.int .i64 a.f1) := (blk_cell hlit 1).trans rfl; have hy2 : w1.cell? ⟨g6, 2, none⟩ = some (.int .i64 a.f2) := (blk_cell hlit 2).trans rfl; have hy3 : w1.cell? ⟨g6, 3, none⟩ = some (.int .i64 a.f3) := (blk_cell hlit 3).trans rfl; have hy4 : w1.cell? ⟨g6, 4, none⟩ = some (.int .i64 a.f4) := (blk_cell hlit 4).trans rfl; have hy5 : w1.cell? ⟨g6, 5, none⟩ = some (.int .i64 a.f5) := (blk_cell hlit 5).trans rfl; have hy6 : w1.cell? ⟨g6, 6, none⟩ = some (.int .i64 a.f6) := (blk_cell hlit 6).trans rfl; have hy7 : w1.cell? ⟨g6, 7, none⟩ = some (.int .i64 a.f7) := (blk_cell hlit 7).trans rfl; have hy8 : w1.cell? ⟨g6, 8, none⟩ = some (.int .i64 a.f8) := (blk_cell hlit 8).trans rfl; have hwq := (HALV.out w1 hb (a.f1) ht0 ht1).1; have hwf := (HALV.out w1 hb (a.f1) ht0 ht1).2; have hz7 : (w1.setCell ⟨gV, (a.f1).toNat, none⟩ (.int .i64 (a.f5))).cell? ⟨g6, 7, none⟩ = some (.int .i64 a.f7) := (blk_cell (blk_far (show w1.heap[g6]? = _ from hlit) (show g6 ≠ (⟨gV, (a.f1).toNat, none⟩ : Addr).block from fun e => absurd HLV.out.2.2 (by rw [← show g6 = gV from e, hgg]; exact Nat.lt_irrefl _)) _) 7).trans rfl; clear hlit hb hgg))
  go_ret2
  have HX := HH.out.wrote HB1.out (4 + 2 * t.toNat) (by omega) EV.out (a.f1) (a.f5)
  exact does_mk HR.out (nxP_plain (by have := HK.out; omega)) rfl (HX.1) (HX.2)
set_option maxHeartbeats 8000000 in
set_option maxRecDepth 100000 in
theorem does_2 (w : World) {lo hi : Nat} {u : RefU} {pr : PhR} {cs : List S49} {nA : Nat} {s : St} (H : RefIn w lo hi u pr cs.length nA s) (t : Int) (h0 : 0 ≤ t) (h1 : t < cs.length) (a : S33) (inp : Int) {nl : Int} (ha : okA (s.row (4 + 2 * t.toNat)).length (s.row 0).length nA (s.row 1).length nl a) (kk : a.f0 = 2) :
    Calls Try.prog 49 #[.pointer (some ⟨pr.bm, 0, none⟩), .int .i64 t, .agg #[.int .i64 a.f0, .int .i64 a.f1, .int .i64 a.f2, .int .i64 a.f3, .int .i64 a.f4, .int .i64 a.f5, .int .i64 a.f6, .int .i64 a.f7, .int .i64 a.f8], .int .i64 inp] w fun e w' => DoesOut w lo hi u pr cs.length nA s t a inp e w' := by
  have ht0 := (ha.t (.inr (.inl kk))).1
  have ht1 := (ha.t (.inr (.inl kk))).2
  have hx0 := (ha.x (.inl kk)).1
  have hx1 := (ha.x (.inl kk)).2
  have hVne : 0 < (s.row (4 + 2 * t.toNat)).length := by have := ha.t (.inr (.inl kk)); omega
  obtain ⟨f, hm, -⟩ := H.hm
  have HM := Aside0.mk hm
  have HH := Aside0.mk H
  have HA := Aside0.mk ha
  have HK := Aside0.mk kk
  obtain ⟨gv, cv, ev, hcv, hvc⟩ := H.vcell t h0 h1
  have EVV := Aside0.mk ev
  have HVC := Aside0.mk hvc
  have hcvz : (cs.length : Int) ≤ cv := by omega
  obtain ⟨gV, cV, eV, hcV, hloV, hhiV, hltV, hallV⟩ := H.rowAt (4 + 2 * t.toNat) (by omega) (by have := hVne; omega)
  have EV := Aside0.mk eV
  have HALV := Aside0.mk hallV
  have HLV := Aside0.mk (show lo ≤ gV ∧ gV < hi ∧ gV < w.heap.size from ⟨hloV, hhiV, hltV⟩)
  have kb1 : (a.f0 == 1) = false := beq_eq_false_iff_ne.mpr (by omega)
  have kb2 : (a.f0 == 2) = true := beq_iff_eq.mpr kk
  have HR : Aside0 (after1 nA s t a inp = (s.setRow (4 + 2 * t.toNat) ((s.row (4 + 2 * t.toNat)).set (a.f1).toNat (rd (s.row (4 + 2 * t.toNat)) a.f2)), 0)) := ⟨by rw [after_reck (by omega), reck, if_neg (by omega), if_pos kk]⟩
  clear H hm ha kk ev hvc eV hallV hloV hhiV hltV hVne
  go_enter Try.func49, Try.ntmps49
  go_wp2_with (first | ((with_reducible refine gate_dst (N := 6) rfl ?_); refine box_event ?hg (N := 6) ?hd (cs := #[.int .i64 a.f0, .int .i64 a.f1, .int .i64 a.f2, .int .i64 a.f3, .int .i64 a.f4, .int .i64 a.f5, .int .i64 a.f6, .int .i64 a.f7, .int .i64 a.f8]) (t := 33) ?hr ?_; (case hd => rfl); (case hg => rfl); (case hr => first | (go_simp; done) | (go_simp; rfl)); intro g6 hgg w1 hlit hb; have HLw1 := Aside0.mk hlit; have HKw1 := Aside0.mk hb; have HGw1 := Aside0.mk hgg; have HB1 := Aside0.mk hb; have HM1 := Aside0.mk (below_read hb HM.out); have hm5 : w1.cell? ⟨pr.bm, 5, none⟩ = some (.slice (some ⟨gv, 0, none⟩) cs.length cv) := (blk_cell HM1.out 5).trans (congrArg some EVV.out); have hvc1 : w1.cell? ⟨gv, t.toNat, none⟩ = some (.slice (some ⟨gV, 0, none⟩) (s.row (4 + 2 * t.toNat)).length cV) := (pw_cell_below hb HVC.out).trans (congrArg some EV.out); have hy0 : w1.cell? ⟨g6, 0, none⟩ = some (.int .i64 a.f0) := (blk_cell hlit 0).trans rfl; have hy1 : w1.cell? ⟨g6, 1, none⟩ = some (.int .i64 a.f1) := (blk_cell hlit 1).trans rfl; have hy2 : w1.cell? ⟨g6, 2, none⟩ = some (.int .i64 a.f2) := (blk_cell hlit 2).trans rfl; have hy3 : w1.cell? ⟨g6, 3, none⟩ = some (.int .i64 a.f3) := (blk_cell hlit 3).trans rfl; have hy4 : w1.cell? ⟨g6, 4, none⟩ = some (.int .i64 a.f4) := (blk_cell hlit 4).trans rfl; have hy5 : w1.cell? ⟨g6, 5, none⟩ = some (.int .i64 a.f5) := (blk_cell hlit 5).trans rfl; have hy6 : w1.cell? ⟨g6, 6, none⟩ = some (.int .i64 a.f6) := (blk_cell hlit 6).trans rfl; have hy7 : w1.cell? ⟨g6, 7, none⟩ = some (.int .i64 a.f7) := (blk_cell hlit 7).trans rfl; have hy8 : w1.cell? ⟨g6, 8, none⟩ = some (.int .i64 a.f8) := (blk_cell hlit 8).trans rfl; have hx := (HALV.out w1 hb (a.f2) hx0 hx1).1; have hwq := (HALV.out w1 hb (a.f1) ht0 ht1).1; have hwf := (HALV.out w1 hb (a.f1) ht0 ht1).2; have hz7 : (w1.setCell ⟨gV, (a.f1).toNat, none⟩ (.int .i64 (rd (s.row (4 + 2 * t.toNat)) a.f2))).cell? ⟨g6, 7, none⟩ = some (.int .i64 a.f7) := (blk_cell (blk_far (show w1.heap[g6]? = _ from hlit) (show g6 ≠ (⟨gV, (a.f1).toNat, none⟩ : Addr).block from fun e => absurd HLV.out.2.2 (by rw [← show g6 = gV from e, hgg]; exact Nat.lt_irrefl _)) _) 7).trans rfl; clear hlit hb hgg))
  go_still_tail 9, (by kernel_rfl)
  change wpList _ _ _ _ _ w1.drew
  go_wp2_with fail
  go_ret2
  have HX := HH.out.wrote HB1.out (4 + 2 * t.toNat) (by omega) EV.out (a.f1) (rd (s.row (4 + 2 * t.toNat)) a.f2)
  exact does_mk HR.out (nxP_plain (by have := HK.out; omega)) rfl (HX.1.below (drew_below _)) (HX.2.trans (.of_below (drew_below _)))
set_option maxHeartbeats 8000000 in
set_option maxRecDepth 100000 in
theorem does_3a (w : World) {lo hi : Nat} {u : RefU} {pr : PhR} {cs : List S49} {nA : Nat} {s : St} (H : RefIn w lo hi u pr cs.length nA s) (t : Int) (h0 : 0 ≤ t) (h1 : t < cs.length) (a : S33) (inp : Int) {nl : Int} (ha : okA (s.row (4 + 2 * t.toNat)).length (s.row 0).length nA (s.row 1).length nl a) (kk : a.f0 = 3) (hq1 : inp < -2147483648) :
    Calls Try.prog 49 #[.pointer (some ⟨pr.bm, 0, none⟩), .int .i64 t, .agg #[.int .i64 a.f0, .int .i64 a.f1, .int .i64 a.f2, .int .i64 a.f3, .int .i64 a.f4, .int .i64 a.f5, .int .i64 a.f6, .int .i64 a.f7, .int .i64 a.f8], .int .i64 inp] w fun e w' => DoesOut w lo hi u pr cs.length nA s t a inp e w' := by
  have ht0 := (ha.t (.inr (.inr (.inl kk)))).1
  have ht1 := (ha.t (.inr (.inr (.inl kk)))).2
  have hv : mn (mx inp (-2147483648)) 2147483647 = (-2147483648) := by unfold mx mn; rw [if_pos hq1]; decide
  have hVne : 0 < (s.row (4 + 2 * t.toNat)).length := by have := ha.t (.inr (.inr (.inl kk))); omega
  obtain ⟨f, hm, -⟩ := H.hm
  have HM := Aside0.mk hm
  have HH := Aside0.mk H
  have HA := Aside0.mk ha
  have HK := Aside0.mk kk
  obtain ⟨gv, cv, ev, hcv, hvc⟩ := H.vcell t h0 h1
  have EVV := Aside0.mk ev
  have HVC := Aside0.mk hvc
  have hcvz : (cs.length : Int) ≤ cv := by omega
  obtain ⟨gV, cV, eV, hcV, hloV, hhiV, hltV, hallV⟩ := H.rowAt (4 + 2 * t.toNat) (by omega) (by have := hVne; omega)
  have EV := Aside0.mk eV
  have HALV := Aside0.mk hallV
  have HLV := Aside0.mk (show lo ≤ gV ∧ gV < hi ∧ gV < w.heap.size from ⟨hloV, hhiV, hltV⟩)
  have kb1 : (a.f0 == 1) = false := beq_eq_false_iff_ne.mpr (by omega)
  have kb2 : (a.f0 == 2) = false := beq_eq_false_iff_ne.mpr (by omega)
  have kb3 : (a.f0 == 3) = true := beq_iff_eq.mpr kk
  have HR : Aside0 (after1 nA s t a inp = (s.setRow (4 + 2 * t.toNat) ((s.row (4 + 2 * t.toNat)).set (a.f1).toNat ((-2147483648))), 0)) := ⟨by rw [after_reck (by omega), reck, if_neg (by omega), if_neg (by omega), if_pos kk, hv]⟩
  clear hv H hm ha kk ev hvc eV hallV hloV hhiV hltV hVne
  go_enter Try.func49, Try.ntmps49
  go_wp2_with (first | ((with_reducible refine gate_dst (N := 6) rfl ?_); refine box_event ?hg (N := 6) ?hd (cs := #[.int .i64 a.f0, .int .i64 a.f1, .int .i64 a.f2, .int .i64 a.f3, .int .i64 a.f4, .int .i64 a.f5, .int .i64 a.f6, .int .i64 a.f7, .int .i64 a.f8]) (t := 33) ?hr ?_; (case hd => rfl); (case hg => rfl); (case hr => first | (go_simp; done) | (go_simp; rfl)); intro g6 hgg w1 hlit hb; have HLw1 := Aside0.mk hlit; have HKw1 := Aside0.mk hb; have HGw1 := Aside0.mk hgg; have HB1 := Aside0.mk hb; have HM1 := Aside0.mk (below_read hb HM.out); have hm5 : w1.cell? ⟨pr.bm, 5, none⟩ = some (.slice (some ⟨gv, 0, none⟩) cs.length cv) := (blk_cell HM1.out 5).trans (congrArg some EVV.out); have hvc1 : w1.cell? ⟨gv, t.toNat, none⟩ = some (.slice (some ⟨gV, 0, none⟩) (s.row (4 + 2 * t.toNat)).length cV) := (pw_cell_below hb HVC.out).trans (congrArg some EV.out); have hy0 : w1.cell? ⟨g6, 0, none⟩ = some (.int .i64 a.f0) := (blk_cell hlit 0).trans rfl; have hy1 : w1.cell? ⟨g6, 1, none⟩ = some (.int .i64 a.f1) := (blk_cell hlit 1).trans rfl; have hy2 : w1.cell? ⟨g6, 2, none⟩ = some (.int .i64 a.f2) := (blk_cell hlit 2).trans rfl; have hy3 : w1.cell? ⟨g6, 3, none⟩ = some (.int .i64 a.f3) := (blk_cell hlit 3).trans rfl; have hy4 : w1.cell? ⟨g6, 4, none⟩ = some (.int .i64 a.f4) := (blk_cell hlit 4).trans rfl; have hy5 : w1.cell? ⟨g6, 5, none⟩ = some (.int .i64 a.f5) := (blk_cell hlit 5).trans rfl; have hy6 : w1.cell? ⟨g6, 6, none⟩ = some (.int .i64 a.f6) := (blk_cell hlit 6).trans rfl; have hy7 : w1.cell? ⟨g6, 7, none⟩ = some (.int .i64 a.f7) := (blk_cell hlit 7).trans rfl; have hy8 : w1.cell? ⟨g6, 8, none⟩ = some (.int .i64 a.f8) := (blk_cell hlit 8).trans rfl; have hwq := (HALV.out w1 hb (a.f1) ht0 ht1).1; have hwf := (HALV.out w1 hb (a.f1) ht0 ht1).2; have hz7 : (w1.setCell ⟨gV, (a.f1).toNat, none⟩ (.int .i64 ((-2147483648)))).cell? ⟨g6, 7, none⟩ = some (.int .i64 a.f7) := (blk_cell (blk_far (show w1.heap[g6]? = _ from hlit) (show g6 ≠ (⟨gV, (a.f1).toNat, none⟩ : Addr).block from fun e => absurd HLV.out.2.2 (by rw [← show g6 = gV from e, hgg]; exact Nat.lt_irrefl _)) _) 7).trans rfl; clear hlit hb hgg))
  go_ret2
  have HX := HH.out.wrote HB1.out (4 + 2 * t.toNat) (by omega) EV.out (a.f1) ((-2147483648))
  exact does_mk HR.out (nxP_plain (by have := HK.out; omega)) rfl (HX.1) (HX.2)
set_option maxHeartbeats 8000000 in
set_option maxRecDepth 100000 in
theorem does_3b (w : World) {lo hi : Nat} {u : RefU} {pr : PhR} {cs : List S49} {nA : Nat} {s : St} (H : RefIn w lo hi u pr cs.length nA s) (t : Int) (h0 : 0 ≤ t) (h1 : t < cs.length) (a : S33) (inp : Int) {nl : Int} (ha : okA (s.row (4 + 2 * t.toNat)).length (s.row 0).length nA (s.row 1).length nl a) (kk : a.f0 = 3) (hq1 : ¬ inp < -2147483648) (hq2 : 2147483647 < inp) :
    Calls Try.prog 49 #[.pointer (some ⟨pr.bm, 0, none⟩), .int .i64 t, .agg #[.int .i64 a.f0, .int .i64 a.f1, .int .i64 a.f2, .int .i64 a.f3, .int .i64 a.f4, .int .i64 a.f5, .int .i64 a.f6, .int .i64 a.f7, .int .i64 a.f8], .int .i64 inp] w fun e w' => DoesOut w lo hi u pr cs.length nA s t a inp e w' := by
  have ht0 := (ha.t (.inr (.inr (.inl kk)))).1
  have ht1 := (ha.t (.inr (.inr (.inl kk)))).2
  have hv : mn (mx inp (-2147483648)) 2147483647 = 2147483647 := by unfold mx mn; rw [if_neg hq1, if_pos hq2]
  have hVne : 0 < (s.row (4 + 2 * t.toNat)).length := by have := ha.t (.inr (.inr (.inl kk))); omega
  obtain ⟨f, hm, -⟩ := H.hm
  have HM := Aside0.mk hm
  have HH := Aside0.mk H
  have HA := Aside0.mk ha
  have HK := Aside0.mk kk
  obtain ⟨gv, cv, ev, hcv, hvc⟩ := H.vcell t h0 h1
  have EVV := Aside0.mk ev
  have HVC := Aside0.mk hvc
  have hcvz : (cs.length : Int) ≤ cv := by omega
  obtain ⟨gV, cV, eV, hcV, hloV, hhiV, hltV, hallV⟩ := H.rowAt (4 + 2 * t.toNat) (by omega) (by have := hVne; omega)
  have EV := Aside0.mk eV
  have HALV := Aside0.mk hallV
  have HLV := Aside0.mk (show lo ≤ gV ∧ gV < hi ∧ gV < w.heap.size from ⟨hloV, hhiV, hltV⟩)
  have kb1 : (a.f0 == 1) = false := beq_eq_false_iff_ne.mpr (by omega)
  have kb2 : (a.f0 == 2) = false := beq_eq_false_iff_ne.mpr (by omega)
  have kb3 : (a.f0 == 3) = true := beq_iff_eq.mpr kk
  have HR : Aside0 (after1 nA s t a inp = (s.setRow (4 + 2 * t.toNat) ((s.row (4 + 2 * t.toNat)).set (a.f1).toNat (2147483647)), 0)) := ⟨by rw [after_reck (by omega), reck, if_neg (by omega), if_neg (by omega), if_pos kk, hv]⟩
  clear hv H hm ha kk ev hvc eV hallV hloV hhiV hltV hVne
  go_enter Try.func49, Try.ntmps49
  go_wp2_with (first | ((with_reducible refine gate_dst (N := 6) rfl ?_); refine box_event ?hg (N := 6) ?hd (cs := #[.int .i64 a.f0, .int .i64 a.f1, .int .i64 a.f2, .int .i64 a.f3, .int .i64 a.f4, .int .i64 a.f5, .int .i64 a.f6, .int .i64 a.f7, .int .i64 a.f8]) (t := 33) ?hr ?_; (case hd => rfl); (case hg => rfl); (case hr => first | (go_simp; done) | (go_simp; rfl)); intro g6 hgg w1 hlit hb; have HLw1 := Aside0.mk hlit; have HKw1 := Aside0.mk hb; have HGw1 := Aside0.mk hgg; have HB1 := Aside0.mk hb; have HM1 := Aside0.mk (below_read hb HM.out); have hm5 : w1.cell? ⟨pr.bm, 5, none⟩ = some (.slice (some ⟨gv, 0, none⟩) cs.length cv) := (blk_cell HM1.out 5).trans (congrArg some EVV.out); have hvc1 : w1.cell? ⟨gv, t.toNat, none⟩ = some (.slice (some ⟨gV, 0, none⟩) (s.row (4 + 2 * t.toNat)).length cV) := (pw_cell_below hb HVC.out).trans (congrArg some EV.out); have hy0 : w1.cell? ⟨g6, 0, none⟩ = some (.int .i64 a.f0) := (blk_cell hlit 0).trans rfl; have hy1 : w1.cell? ⟨g6, 1, none⟩ = some (.int .i64 a.f1) := (blk_cell hlit 1).trans rfl; have hy2 : w1.cell? ⟨g6, 2, none⟩ = some (.int .i64 a.f2) := (blk_cell hlit 2).trans rfl; have hy3 : w1.cell? ⟨g6, 3, none⟩ = some (.int .i64 a.f3) := (blk_cell hlit 3).trans rfl; have hy4 : w1.cell? ⟨g6, 4, none⟩ = some (.int .i64 a.f4) := (blk_cell hlit 4).trans rfl; have hy5 : w1.cell? ⟨g6, 5, none⟩ = some (.int .i64 a.f5) := (blk_cell hlit 5).trans rfl; have hy6 : w1.cell? ⟨g6, 6, none⟩ = some (.int .i64 a.f6) := (blk_cell hlit 6).trans rfl; have hy7 : w1.cell? ⟨g6, 7, none⟩ = some (.int .i64 a.f7) := (blk_cell hlit 7).trans rfl; have hy8 : w1.cell? ⟨g6, 8, none⟩ = some (.int .i64 a.f8) := (blk_cell hlit 8).trans rfl; have hwq := (HALV.out w1 hb (a.f1) ht0 ht1).1; have hwf := (HALV.out w1 hb (a.f1) ht0 ht1).2; have hz7 : (w1.setCell ⟨gV, (a.f1).toNat, none⟩ (.int .i64 (2147483647))).cell? ⟨g6, 7, none⟩ = some (.int .i64 a.f7) := (blk_cell (blk_far (show w1.heap[g6]? = _ from hlit) (show g6 ≠ (⟨gV, (a.f1).toNat, none⟩ : Addr).block from fun e => absurd HLV.out.2.2 (by rw [← show g6 = gV from e, hgg]; exact Nat.lt_irrefl _)) _) 7).trans rfl; clear hlit hb hgg))
  go_ret2
  have HX := HH.out.wrote HB1.out (4 + 2 * t.toNat) (by omega) EV.out (a.f1) (2147483647)
  exact does_mk HR.out (nxP_plain (by have := HK.out; omega)) rfl (HX.1) (HX.2)
set_option maxHeartbeats 8000000 in
set_option maxRecDepth 100000 in
theorem does_3c (w : World) {lo hi : Nat} {u : RefU} {pr : PhR} {cs : List S49} {nA : Nat} {s : St} (H : RefIn w lo hi u pr cs.length nA s) (t : Int) (h0 : 0 ≤ t) (h1 : t < cs.length) (a : S33) (inp : Int) {nl : Int} (ha : okA (s.row (4 + 2 * t.toNat)).length (s.row 0).length nA (s.row 1).length nl a) (kk : a.f0 = 3) (hq1 : ¬ inp < -2147483648) (hq2 : ¬ 2147483647 < inp) :
    Calls Try.prog 49 #[.pointer (some ⟨pr.bm, 0, none⟩), .int .i64 t, .agg #[.int .i64 a.f0, .int .i64 a.f1, .int .i64 a.f2, .int .i64 a.f3, .int .i64 a.f4, .int .i64 a.f5, .int .i64 a.f6, .int .i64 a.f7, .int .i64 a.f8], .int .i64 inp] w fun e w' => DoesOut w lo hi u pr cs.length nA s t a inp e w' := by
  have ht0 := (ha.t (.inr (.inr (.inl kk)))).1
  have ht1 := (ha.t (.inr (.inr (.inl kk)))).2
  have hv : mn (mx inp (-2147483648)) 2147483647 = inp := by unfold mx mn; rw [if_neg hq1, if_neg hq2]
  have hVne : 0 < (s.row (4 + 2 * t.toNat)).length := by have := ha.t (.inr (.inr (.inl kk))); omega
  obtain ⟨f, hm, -⟩ := H.hm
  have HM := Aside0.mk hm
  have HH := Aside0.mk H
  have HA := Aside0.mk ha
  have HK := Aside0.mk kk
  obtain ⟨gv, cv, ev, hcv, hvc⟩ := H.vcell t h0 h1
  have EVV := Aside0.mk ev
  have HVC := Aside0.mk hvc
  have hcvz : (cs.length : Int) ≤ cv := by omega
  obtain ⟨gV, cV, eV, hcV, hloV, hhiV, hltV, hallV⟩ := H.rowAt (4 + 2 * t.toNat) (by omega) (by have := hVne; omega)
  have EV := Aside0.mk eV
  have HALV := Aside0.mk hallV
  have HLV := Aside0.mk (show lo ≤ gV ∧ gV < hi ∧ gV < w.heap.size from ⟨hloV, hhiV, hltV⟩)
  have kb1 : (a.f0 == 1) = false := beq_eq_false_iff_ne.mpr (by omega)
  have kb2 : (a.f0 == 2) = false := beq_eq_false_iff_ne.mpr (by omega)
  have kb3 : (a.f0 == 3) = true := beq_iff_eq.mpr kk
  have HR : Aside0 (after1 nA s t a inp = (s.setRow (4 + 2 * t.toNat) ((s.row (4 + 2 * t.toNat)).set (a.f1).toNat (inp)), 0)) := ⟨by rw [after_reck (by omega), reck, if_neg (by omega), if_neg (by omega), if_pos kk, hv]⟩
  clear hv H hm ha kk ev hvc eV hallV hloV hhiV hltV hVne
  go_enter Try.func49, Try.ntmps49
  go_wp2_with (first | ((with_reducible refine gate_dst (N := 6) rfl ?_); refine box_event ?hg (N := 6) ?hd (cs := #[.int .i64 a.f0, .int .i64 a.f1, .int .i64 a.f2, .int .i64 a.f3, .int .i64 a.f4, .int .i64 a.f5, .int .i64 a.f6, .int .i64 a.f7, .int .i64 a.f8]) (t := 33) ?hr ?_; (case hd => rfl); (case hg => rfl); (case hr => first | (go_simp; done) | (go_simp; rfl)); intro g6 hgg w1 hlit hb; have HLw1 := Aside0.mk hlit; have HKw1 := Aside0.mk hb; have HGw1 := Aside0.mk hgg; have HB1 := Aside0.mk hb; have HM1 := Aside0.mk (below_read hb HM.out); have hm5 : w1.cell? ⟨pr.bm, 5, none⟩ = some (.slice (some ⟨gv, 0, none⟩) cs.length cv) := (blk_cell HM1.out 5).trans (congrArg some EVV.out); have hvc1 : w1.cell? ⟨gv, t.toNat, none⟩ = some (.slice (some ⟨gV, 0, none⟩) (s.row (4 + 2 * t.toNat)).length cV) := (pw_cell_below hb HVC.out).trans (congrArg some EV.out); have hy0 : w1.cell? ⟨g6, 0, none⟩ = some (.int .i64 a.f0) := (blk_cell hlit 0).trans rfl; have hy1 : w1.cell? ⟨g6, 1, none⟩ = some (.int .i64 a.f1) := (blk_cell hlit 1).trans rfl; have hy2 : w1.cell? ⟨g6, 2, none⟩ = some (.int .i64 a.f2) := (blk_cell hlit 2).trans rfl; have hy3 : w1.cell? ⟨g6, 3, none⟩ = some (.int .i64 a.f3) := (blk_cell hlit 3).trans rfl; have hy4 : w1.cell? ⟨g6, 4, none⟩ = some (.int .i64 a.f4) := (blk_cell hlit 4).trans rfl; have hy5 : w1.cell? ⟨g6, 5, none⟩ = some (.int .i64 a.f5) := (blk_cell hlit 5).trans rfl; have hy6 : w1.cell? ⟨g6, 6, none⟩ = some (.int .i64 a.f6) := (blk_cell hlit 6).trans rfl; have hy7 : w1.cell? ⟨g6, 7, none⟩ = some (.int .i64 a.f7) := (blk_cell hlit 7).trans rfl; have hy8 : w1.cell? ⟨g6, 8, none⟩ = some (.int .i64 a.f8) := (blk_cell hlit 8).trans rfl; have hwq := (HALV.out w1 hb (a.f1) ht0 ht1).1; have hwf := (HALV.out w1 hb (a.f1) ht0 ht1).2; have hz7 : (w1.setCell ⟨gV, (a.f1).toNat, none⟩ (.int .i64 (inp))).cell? ⟨g6, 7, none⟩ = some (.int .i64 a.f7) := (blk_cell (blk_far (show w1.heap[g6]? = _ from hlit) (show g6 ≠ (⟨gV, (a.f1).toNat, none⟩ : Addr).block from fun e => absurd HLV.out.2.2 (by rw [← show g6 = gV from e, hgg]; exact Nat.lt_irrefl _)) _) 7).trans rfl; clear hlit hb hgg))
  go_ret2
  have HX := HH.out.wrote HB1.out (4 + 2 * t.toNat) (by omega) EV.out (a.f1) (inp)
  exact does_mk HR.out (nxP_plain (by have := HK.out; omega)) rfl (HX.1) (HX.2)
set_option maxHeartbeats 8000000 in
set_option maxRecDepth 100000 in
theorem does_4s (w : World) {lo hi : Nat} {u : RefU} {pr : PhR} {cs : List S49} {nA : Nat} {s : St} (H : RefIn w lo hi u pr cs.length nA s) (t : Int) (h0 : 0 ≤ t) (h1 : t < cs.length) (a : S33) (inp : Int) {nl : Int} (ha : okA (s.row (4 + 2 * t.toNat)).length (s.row 0).length nA (s.row 1).length nl a) (kk : a.f0 = 4) (d1 d2 : Int) (hdo : doP a.f6 (rd (s.row (4 + 2 * t.toNat)) a.f2) (rd (s.row (4 + 2 * t.toNat)) a.f3) = (d1, d2)) (hd2 : d2 = 0) :
    Calls Try.prog 49 #[.pointer (some ⟨pr.bm, 0, none⟩), .int .i64 t, .agg #[.int .i64 a.f0, .int .i64 a.f1, .int .i64 a.f2, .int .i64 a.f3, .int .i64 a.f4, .int .i64 a.f5, .int .i64 a.f6, .int .i64 a.f7, .int .i64 a.f8], .int .i64 inp] w fun e w' => DoesOut w lo hi u pr cs.length nA s t a inp e w' := by
  have hx0 := (ha.x (.inr (.inl kk))).1
  have hx1 := (ha.x (.inr (.inl kk))).2
  have hyy0 := (ha.y (.inl kk)).1
  have hyy1 := (ha.y (.inl kk)).2
  have ht0 := (ha.t (.inr (.inr (.inr (.inl kk))))).1
  have ht1 := (ha.t (.inr (.inr (.inr (.inl kk))))).2
  have hVne : 0 < (s.row (4 + 2 * t.toNat)).length := by omega
  obtain ⟨f, hm, -⟩ := H.hm
  have HM := Aside0.mk hm
  have HH := Aside0.mk H
  have HA := Aside0.mk ha
  have HK := Aside0.mk kk
  obtain ⟨gv, cv, ev, hcv, hvc⟩ := H.vcell t h0 h1
  have EVV := Aside0.mk ev
  have HVC := Aside0.mk hvc
  have hcvz : (cs.length : Int) ≤ cv := by omega
  obtain ⟨gV, cV, eV, hcV, hloV, hhiV, hltV, hallV⟩ := H.rowAt (4 + 2 * t.toNat) (by omega) (by have := hVne; omega)
  have EV := Aside0.mk eV
  have HALV := Aside0.mk hallV
  have HLV := Aside0.mk (show lo ≤ gV ∧ gV < hi ∧ gV < w.heap.size from ⟨hloV, hhiV, hltV⟩)
  have kb1 : (a.f0 == 1) = false := beq_eq_false_iff_ne.mpr (by omega)
  have kb2 : (a.f0 == 2) = false := beq_eq_false_iff_ne.mpr (by omega)
  have kb3 : (a.f0 == 3) = false := beq_eq_false_iff_ne.mpr (by omega)
  have kb4 : (a.f0 == 4) = true := beq_iff_eq.mpr kk
  have HR := Aside0.mk (show after1 nA s t a inp = (s.setRow (4 + 2 * t.toNat) ((s.row (4 + 2 * t.toNat)).set (a.f1).toNat (d1)), 0) from by rw [after_reck (by omega), reck, if_neg (by omega), if_neg (by omega), if_neg (by omega), if_pos kk, hdo, if_pos hd2])
  have HDO := Aside0.mk hdo
  have kd : (d2 != 0) = false := bne_eq_false_iff_eq.mpr hd2
  have HD2 := Aside0.mk hd2
  clear hdo hd2 H hm ha kk ev hvc eV hallV hloV hhiV hltV hVne
  go_enter Try.func49, Try.ntmps49
  go_wp2_with (first | ((with_reducible refine gate_dst (N := 6) rfl ?_); refine box_event ?hg (N := 6) ?hd (cs := #[.int .i64 a.f0, .int .i64 a.f1, .int .i64 a.f2, .int .i64 a.f3, .int .i64 a.f4, .int .i64 a.f5, .int .i64 a.f6, .int .i64 a.f7, .int .i64 a.f8]) (t := 33) ?hr ?_; (case hd => rfl); (case hg => rfl); (case hr => first | (go_simp; done) | (go_simp; rfl)); intro g6 hgg w1 hlit hb; have HLw1 := Aside0.mk hlit; have HKw1 := Aside0.mk hb; have HGw1 := Aside0.mk hgg; have HB1 := Aside0.mk hb; have HM1 := Aside0.mk (below_read hb HM.out); have hm5 : w1.cell? ⟨pr.bm, 5, none⟩ = some (.slice (some ⟨gv, 0, none⟩) cs.length cv) := (blk_cell HM1.out 5).trans (congrArg some EVV.out); have hvc1 : w1.cell? ⟨gv, t.toNat, none⟩ = some (.slice (some ⟨gV, 0, none⟩) (s.row (4 + 2 * t.toNat)).length cV) := (pw_cell_below hb HVC.out).trans (congrArg some EV.out); have hy0 : w1.cell? ⟨g6, 0, none⟩ = some (.int .i64 a.f0) := (blk_cell hlit 0).trans rfl; have hy1 : w1.cell? ⟨g6, 1, none⟩ = some (.int .i64 a.f1) := (blk_cell hlit 1).trans rfl; have hy2 : w1.cell? ⟨g6, 2, none⟩ = some (.int .i64 a.f2) := (blk_cell hlit 2).trans rfl; have hy3 : w1.cell? ⟨g6, 3, none⟩ = some (.int .i64 a.f3) := (blk_cell hlit 3).trans rfl; have hy4 : w1.cell? ⟨g6, 4, none⟩ = some (.int .i64 a.f4) := (blk_cell hlit 4).trans rfl; have hy5 : w1.cell? ⟨g6, 5, none⟩ = some (.int .i64 a.f5) := (blk_cell hlit 5).trans rfl; have hy6 : w1.cell? ⟨g6, 6, none⟩ = some (.int .i64 a.f6) := (blk_cell hlit 6).trans rfl; have hy7 : w1.cell? ⟨g6, 7, none⟩ = some (.int .i64 a.f7) := (blk_cell hlit 7).trans rfl; have hy8 : w1.cell? ⟨g6, 8, none⟩ = some (.int .i64 a.f8) := (blk_cell hlit 8).trans rfl; have hx := (HALV.out w1 hb (a.f2) hx0 hx1).1; have hw := (HALV.out w1 hb (a.f3) hyy0 hyy1).1; clear hlit hb hgg))
  refine start_ (n := 18) (S := fun w' => w'.cell? ⟨g6, 2, none⟩ = some (.int .i64 a.f2) ∧ w'.cell? ⟨g6, 3, none⟩ = some (.int .i64 a.f3) ∧ w'.cell? ⟨g6, 6, none⟩ = some (.int .i64 a.f6) ∧ w'.cell? ⟨gV, a.f2.toNat, none⟩ = some (.int .i64 (rd (s.row (4 + 2 * t.toNat)) a.f2)) ∧ w'.cell? ⟨gV, a.f3.toNat, none⟩ = some (.int .i64 (rd (s.row (4 + 2 * t.toNat)) a.f3)) ∧ Aside0 (Below w.heap.size w w') ∧ Aside0 (w'.heap[g6]? = some (.cells #[.int .i64 a.f0, .int .i64 a.f1, .int .i64 a.f2, .int .i64 a.f3, .int .i64 a.f4, .int .i64 a.f5, .int .i64 a.f6, .int .i64 a.f7, .int .i64 a.f8] 33 (0, 0)))) (ds := []) #[false, false, false, false, false, false, false, false, false, false, false, false, false, false, false, false, false, false] (by kernel_rfl) rfl rfl ⟨hy2, hy3, hy6, hx, hw, ⟨below_drew HB1.out⟩, ⟨HLw1.out⟩⟩ (fun hHeld => ?_)
  refine pure_ (i := 0) (N := some 53) (v := ?_) (a' := ?_) #[true, false, false, false, false, false, false, false, false, false, false, false, false, false, false, false, false, false] rfl rfl (by kernel_rfl) (fun _ _ _ h => h) (Or.inl ⟨by rfl, ?_⟩) ?_ ?_
  rotate_left
  · intro w'
    go_simp
    with_reducible rfl
  rotate_left
  · simp only [Act.put, List.setIfInBounds_toArray, List.set_cons_zero, List.set_cons_succ, i64_w, i32_w]
    rfl
  refine pure_ (i := 2) (N := some 55) (v := ?_) (a' := ?_) #[true, false, true, false, false, false, false, false, false, false, false, false, false, false, false, false, false, false] rfl rfl (by kernel_rfl) (fun _ _ _ h => h) (Or.inl ⟨by rfl, ?_⟩) ?_ ?_
  rotate_left
  · intro w'
    go_simp
    with_reducible rfl
  rotate_left
  · simp only [Act.put, List.setIfInBounds_toArray, List.set_cons_zero, List.set_cons_succ, i64_w, i32_w]
    rfl
  refine pure_ (i := 3) (N := some 56) (v := ?_) (a' := ?_) #[true, false, true, true, false, false, false, false, false, false, false, false, false, false, false, false, false, false] rfl rfl (by kernel_rfl) (fun _ _ _ h => h) (Or.inl ⟨by rfl, ?_⟩) ?_ ?_
  rotate_left
  · intro w'
    go_simp
    with_reducible rfl
  rotate_left
  · simp only [Act.put, List.setIfInBounds_toArray, List.set_cons_zero, List.set_cons_succ, i64_w, i32_w]
    rfl
  refine pure_ (i := 7) (N := some 60) (v := ?_) (a' := ?_) #[true, false, true, true, false, false, false, true, false, false, false, false, false, false, false, false, false, false] rfl rfl (by kernel_rfl) (fun _ _ _ h => h) (Or.inl ⟨by rfl, ?_⟩) ?_ ?_
  rotate_left
  · intro w'
    go_simp
    with_reducible rfl
  rotate_left
  · simp only [Act.put, List.setIfInBounds_toArray, List.set_cons_zero, List.set_cons_succ, i64_w, i32_w]
    rfl
  refine pure_ (i := 8) (N := some 61) (v := ?_) (a' := ?_) #[true, false, true, true, false, false, false, true, true, false, false, false, false, false, false, false, false, false] rfl rfl (by kernel_rfl) (fun _ _ _ h => h) (Or.inl ⟨by rfl, ?_⟩) ?_ ?_
  rotate_left
  · intro w'
    go_simp
    with_reducible rfl
  rotate_left
  · simp only [Act.put, List.setIfInBounds_toArray, List.set_cons_zero, List.set_cons_succ, i64_w, i32_w]
    rfl
  refine take_ (i := 1) (N := some 54) (v := ?_) (a' := ?_) #[true, true, true, true, false, false, false, true, true, false, false, false, false, false, false, false, false, false] rfl rfl (by kernel_rfl) (fun _ _ _ h => h) (Or.inl ⟨by rfl, ?_⟩) hHeld ?_ ?_
  rotate_left
  · rintro w' ⟨s0, s1, s2, s3, s4, s5, s6⟩
    go_simp
    with_reducible rfl
  rotate_left
  · simp only [Act.put, List.setIfInBounds_toArray, List.set_cons_zero, List.set_cons_succ, i64_w, i32_w]
    rfl
  refine take_ (i := 4) (N := some 57) (v := ?_) (a' := ?_) #[true, true, true, true, true, false, false, true, true, false, false, false, false, false, false, false, false, false] rfl rfl (by kernel_rfl) (fun _ _ _ h => h) (Or.inl ⟨by rfl, ?_⟩) hHeld ?_ ?_
  rotate_left
  · rintro w' ⟨s0, s1, s2, s3, s4, s5, s6⟩
    go_simp
    with_reducible rfl
  rotate_left
  · simp only [Act.put, List.setIfInBounds_toArray, List.set_cons_zero, List.set_cons_succ, i64_w, i32_w]
    rfl
  refine pure_ (i := 5) (N := some 58) (v := ?_) (a' := ?_) #[true, true, true, true, true, true, false, true, true, false, false, false, false, false, false, false, false, false] rfl rfl (by kernel_rfl) (fun _ _ _ h => h) (Or.inl ⟨by rfl, ?_⟩) ?_ ?_
  rotate_left
  · intro w'
    go_simp
    with_reducible rfl
  rotate_left
  · simp only [Act.put, List.setIfInBounds_toArray, List.set_cons_zero, List.set_cons_succ, i64_w, i32_w]
    rfl
  refine take_ (i := 6) (N := some 59) (v := ?_) (a' := ?_) #[true, true, true, true, true, true, true, true, true, false, false, false, false, false, false, false, false, false] rfl rfl (by kernel_rfl) (fun _ _ _ h => h) (Or.inl ⟨by rfl, ?_⟩) hHeld ?_ ?_
  rotate_left
  · rintro w' ⟨s0, s1, s2, s3, s4, s5, s6⟩
    go_simp
    with_reducible rfl
  rotate_left
  · simp only [Act.put, List.setIfInBounds_toArray, List.set_cons_zero, List.set_cons_succ, i64_w, i32_w]
    rfl
  refine take_ (i := 9) (N := some 62) (v := ?_) (a' := ?_) #[true, true, true, true, true, true, true, true, true, true, false, false, false, false, false, false, false, false] rfl rfl (by kernel_rfl) (fun _ _ _ h => h) (Or.inl ⟨by rfl, ?_⟩) hHeld ?_ ?_
  rotate_left
  · rintro w' ⟨s0, s1, s2, s3, s4, s5, s6⟩
    go_simp
    with_reducible rfl
  rotate_left
  · simp only [Act.put, List.setIfInBounds_toArray, List.set_cons_zero, List.set_cons_succ, i64_w, i32_w]
    rfl
  refine pure_ (i := 10) (N := some 63) (v := ?_) (a' := ?_) #[true, true, true, true, true, true, true, true, true, true, true, false, false, false, false, false, false, false] rfl rfl (by kernel_rfl) (fun _ _ _ h => h) (Or.inl ⟨by rfl, ?_⟩) ?_ ?_
  rotate_left
  · intro w'
    go_simp
    with_reducible rfl
  rotate_left
  · simp only [Act.put, List.setIfInBounds_toArray, List.set_cons_zero, List.set_cons_succ, i64_w, i32_w]
    rfl
  refine take_ (i := 11) (N := some 64) (v := ?_) (a' := ?_) #[true, true, true, true, true, true, true, true, true, true, true, true, false, false, false, false, false, false] rfl rfl (by kernel_rfl) (fun _ _ _ h => h) (Or.inl ⟨by rfl, ?_⟩) hHeld ?_ ?_
  rotate_left
  · rintro w' ⟨s0, s1, s2, s3, s4, s5, s6⟩
    go_simp
    with_reducible rfl
  rotate_left
  · simp only [Act.put, List.setIfInBounds_toArray, List.set_cons_zero, List.set_cons_succ, i64_w, i32_w]
    rfl
  refine one_ (i := 12) (N := some 65) #[true, true, true, true, true, true, true, true, true, true, true, true, true, false, false, false, false, false] rfl rfl (by kernel_rfl) (by decide) (fun K hK => ?_)
  refine goes_ Try.func65 (by kernel_rfl) rfl #[.int .i64 a.f6, .int .i64 (rd (s.row (4 + 2 * t.toNat)) a.f2), .int .i64 (rd (s.row (4 + 2 * t.toNat)) a.f3)] (by rfl) rfl rfl (by simp only [List.map_toArray, List.map_cons, List.map_nil, Act.eval]; rfl) ?_
  refine (rdo_calls _ _ _ HDO.out _).mono ?_
  rintro e w2 ⟨rfl, hd⟩
  have hb := hd.below
  clear hd
  refine ⟨_, rfl, ?_⟩
  refine hK.out _ _ ⟨pw_cell_below hb hHeld.1, pw_cell_below hb hHeld.2.1, pw_cell_below hb hHeld.2.2.1, pw_cell_below hb hHeld.2.2.2.1, pw_cell_below hb hHeld.2.2.2.2.1, ⟨below_on hHeld.2.2.2.2.2.1.out hb⟩, ⟨below_read hb hHeld.2.2.2.2.2.2.out⟩⟩ (fun hHeld => ?_)
  clear hK K
  refine norm_ (a' := ?_) ?_ ?_
  rotate_left
  · show Act.put _ (some 65) _ = _
    simp only [Act.put, List.setIfInBounds_toArray, List.set_cons_zero, List.set_cons_succ, i64_w, i32_w]
    rfl
  refine pure_ (i := 13) (N := some 52) (v := ?_) (a' := ?_) #[true, true, true, true, true, true, true, true, true, true, true, true, true, true, false, false, false, false] rfl rfl (by kernel_rfl) (fun _ _ _ h => h) (Or.inl ⟨by rfl, ?_⟩) ?_ ?_
  rotate_left
  · intro w'
    go_simp
    with_reducible rfl
  rotate_left
  · simp only [Act.put, List.setIfInBounds_toArray, List.set_cons_zero, List.set_cons_succ, i64_w, i32_w]
    rfl
  refine pure_ (i := 14) (N := some 66) (v := ?_) (a' := ?_) #[true, true, true, true, true, true, true, true, true, true, true, true, true, true, true, false, false, false] rfl rfl (by kernel_rfl) (fun _ _ _ h => h) (Or.inl ⟨by rfl, ?_⟩) ?_ ?_
  rotate_left
  · intro w'
    go_simp
    with_reducible rfl
  rotate_left
  · simp only [Act.put, List.setIfInBounds_toArray, List.set_cons_zero, List.set_cons_succ, i64_w, i32_w]
    rfl
  refine pure_ (i := 15) (N := some 67) (v := ?_) (a' := ?_) #[true, true, true, true, true, true, true, true, true, true, true, true, true, true, true, true, false, false] rfl rfl (by kernel_rfl) (fun _ _ _ h => h) (Or.inl ⟨by rfl, ?_⟩) ?_ ?_
  rotate_left
  · intro w'
    go_simp
    with_reducible rfl
  rotate_left
  · simp only [Act.put, List.setIfInBounds_toArray, List.set_cons_zero, List.set_cons_succ, i64_w, i32_w]
    rfl
  refine pure_ (i := 16) (N := some 11) (v := ?_) (a' := ?_) #[true, true, true, true, true, true, true, true, true, true, true, true, true, true, true, true, true, false] rfl rfl (by kernel_rfl) (fun _ _ _ h => h) (Or.inl ⟨by rfl, ?_⟩) ?_ ?_
  rotate_left
  · intro w'
    go_simp
    with_reducible rfl
  rotate_left
  · simp only [Act.put, List.setIfInBounds_toArray, List.set_cons_zero, List.set_cons_succ, i64_w, i32_w]
    rfl
  refine pure_ (i := 17) (N := some 12) (v := ?_) (a' := ?_) #[true, true, true, true, true, true, true, true, true, true, true, true, true, true, true, true, true, true] rfl rfl (by kernel_rfl) (fun _ _ _ h => h) (Or.inl ⟨by rfl, ?_⟩) ?_ ?_
  rotate_left
  · intro w'
    go_simp
    with_reducible rfl
  rotate_left
  · simp only [Act.put, List.setIfInBounds_toArray, List.set_cons_zero, List.set_cons_succ, i64_w, i32_w]
    rfl
  refine done_ (by kernel_rfl) ?_
  have HB2 := Aside0.mk hHeld.2.2.2.2.2.1.out
  have HL2 := Aside0.mk hHeld.2.2.2.2.2.2.out
  clear hHeld
  have hy1 := (blk_cell HL2.out 1).trans rfl
  have hwq := (HALV.out _ HB2.out a.f1 ht0 ht1).1
  have hwf := (HALV.out _ HB2.out a.f1 ht0 ht1).2
  have hz7 : (w2.setCell ⟨gV, (a.f1).toNat, none⟩ (.int .i64 (d1))).cell? ⟨g6, 7, none⟩ = some (.int .i64 a.f7) := (blk_cell (blk_far HL2.out (show g6 ≠ (⟨gV, (a.f1).toNat, none⟩ : Addr).block from fun e => absurd HLV.out.2.2 (by rw [← show g6 = gV from e, HGw1.out]; exact Nat.lt_irrefl _)) _) 7).trans rfl
  go_wp2_with fail
  go_ret2
  have HX := HH.out.wrote HB2.out (4 + 2 * t.toNat) (by omega) EV.out (a.f1) (d1)
  exact does_mk HR.out (nxP_plain (by have := HK.out; omega)) rfl HX.1 HX.2
set_option maxHeartbeats 8000000 in
set_option maxRecDepth 100000 in
theorem does_4e (w : World) {lo hi : Nat} {u : RefU} {pr : PhR} {cs : List S49} {nA : Nat} {s : St} (H : RefIn w lo hi u pr cs.length nA s) (t : Int) (h0 : 0 ≤ t) (h1 : t < cs.length) (a : S33) (inp : Int) {nl : Int} (ha : okA (s.row (4 + 2 * t.toNat)).length (s.row 0).length nA (s.row 1).length nl a) (kk : a.f0 = 4) (d1 d2 : Int) (hdo : doP a.f6 (rd (s.row (4 + 2 * t.toNat)) a.f2) (rd (s.row (4 + 2 * t.toNat)) a.f3) = (d1, d2)) (hd2 : d2 ≠ 0) :
    Calls Try.prog 49 #[.pointer (some ⟨pr.bm, 0, none⟩), .int .i64 t, .agg #[.int .i64 a.f0, .int .i64 a.f1, .int .i64 a.f2, .int .i64 a.f3, .int .i64 a.f4, .int .i64 a.f5, .int .i64 a.f6, .int .i64 a.f7, .int .i64 a.f8], .int .i64 inp] w fun e w' => DoesOut w lo hi u pr cs.length nA s t a inp e w' := by
  have hx0 := (ha.x (.inr (.inl kk))).1
  have hx1 := (ha.x (.inr (.inl kk))).2
  have hyy0 := (ha.y (.inl kk)).1
  have hyy1 := (ha.y (.inl kk)).2
  have ht0 := (ha.t (.inr (.inr (.inr (.inl kk))))).1
  have ht1 := (ha.t (.inr (.inr (.inr (.inl kk))))).2
  have hVne : 0 < (s.row (4 + 2 * t.toNat)).length := by omega
  obtain ⟨f, hm, -⟩ := H.hm
  have HM := Aside0.mk hm
  have HH := Aside0.mk H
  have HA := Aside0.mk ha
  have HK := Aside0.mk kk
  obtain ⟨gv, cv, ev, hcv, hvc⟩ := H.vcell t h0 h1
  have EVV := Aside0.mk ev
  have HVC := Aside0.mk hvc
  have hcvz : (cs.length : Int) ≤ cv := by omega
  obtain ⟨gV, cV, eV, hcV, hloV, hhiV, hltV, hallV⟩ := H.rowAt (4 + 2 * t.toNat) (by omega) (by have := hVne; omega)
  have EV := Aside0.mk eV
  have HALV := Aside0.mk hallV
  have HLV := Aside0.mk (show lo ≤ gV ∧ gV < hi ∧ gV < w.heap.size from ⟨hloV, hhiV, hltV⟩)
  have kb1 : (a.f0 == 1) = false := beq_eq_false_iff_ne.mpr (by omega)
  have kb2 : (a.f0 == 2) = false := beq_eq_false_iff_ne.mpr (by omega)
  have kb3 : (a.f0 == 3) = false := beq_eq_false_iff_ne.mpr (by omega)
  have kb4 : (a.f0 == 4) = true := beq_iff_eq.mpr kk
  have HR := Aside0.mk (show after1 nA s t a inp = (s, d2) from by rw [after_reck (by omega), reck, if_neg (by omega), if_neg (by omega), if_neg (by omega), if_pos kk, hdo, if_neg hd2, St.setRow_same])
  have HDO := Aside0.mk hdo
  have kd : (d2 != 0) = true := bne_iff_ne.mpr hd2
  have HD2 := Aside0.mk hd2
  clear hdo hd2 H hm ha kk ev hvc eV hallV hloV hhiV hltV hVne
  go_enter Try.func49, Try.ntmps49
  go_wp2_with (first | ((with_reducible refine gate_dst (N := 6) rfl ?_); refine box_event ?hg (N := 6) ?hd (cs := #[.int .i64 a.f0, .int .i64 a.f1, .int .i64 a.f2, .int .i64 a.f3, .int .i64 a.f4, .int .i64 a.f5, .int .i64 a.f6, .int .i64 a.f7, .int .i64 a.f8]) (t := 33) ?hr ?_; (case hd => rfl); (case hg => rfl); (case hr => first | (go_simp; done) | (go_simp; rfl)); intro g6 hgg w1 hlit hb; have HLw1 := Aside0.mk hlit; have HKw1 := Aside0.mk hb; have HGw1 := Aside0.mk hgg; have HB1 := Aside0.mk hb; have HM1 := Aside0.mk (below_read hb HM.out); have hm5 : w1.cell? ⟨pr.bm, 5, none⟩ = some (.slice (some ⟨gv, 0, none⟩) cs.length cv) := (blk_cell HM1.out 5).trans (congrArg some EVV.out); have hvc1 : w1.cell? ⟨gv, t.toNat, none⟩ = some (.slice (some ⟨gV, 0, none⟩) (s.row (4 + 2 * t.toNat)).length cV) := (pw_cell_below hb HVC.out).trans (congrArg some EV.out); have hy0 : w1.cell? ⟨g6, 0, none⟩ = some (.int .i64 a.f0) := (blk_cell hlit 0).trans rfl; have hy1 : w1.cell? ⟨g6, 1, none⟩ = some (.int .i64 a.f1) := (blk_cell hlit 1).trans rfl; have hy2 : w1.cell? ⟨g6, 2, none⟩ = some (.int .i64 a.f2) := (blk_cell hlit 2).trans rfl; have hy3 : w1.cell? ⟨g6, 3, none⟩ = some (.int .i64 a.f3) := (blk_cell hlit 3).trans rfl; have hy4 : w1.cell? ⟨g6, 4, none⟩ = some (.int .i64 a.f4) := (blk_cell hlit 4).trans rfl; have hy5 : w1.cell? ⟨g6, 5, none⟩ = some (.int .i64 a.f5) := (blk_cell hlit 5).trans rfl; have hy6 : w1.cell? ⟨g6, 6, none⟩ = some (.int .i64 a.f6) := (blk_cell hlit 6).trans rfl; have hy7 : w1.cell? ⟨g6, 7, none⟩ = some (.int .i64 a.f7) := (blk_cell hlit 7).trans rfl; have hy8 : w1.cell? ⟨g6, 8, none⟩ = some (.int .i64 a.f8) := (blk_cell hlit 8).trans rfl; have hx := (HALV.out w1 hb (a.f2) hx0 hx1).1; have hw := (HALV.out w1 hb (a.f3) hyy0 hyy1).1; clear hlit hb hgg))
  refine start_ (n := 18) (S := fun w' => w'.cell? ⟨g6, 2, none⟩ = some (.int .i64 a.f2) ∧ w'.cell? ⟨g6, 3, none⟩ = some (.int .i64 a.f3) ∧ w'.cell? ⟨g6, 6, none⟩ = some (.int .i64 a.f6) ∧ w'.cell? ⟨gV, a.f2.toNat, none⟩ = some (.int .i64 (rd (s.row (4 + 2 * t.toNat)) a.f2)) ∧ w'.cell? ⟨gV, a.f3.toNat, none⟩ = some (.int .i64 (rd (s.row (4 + 2 * t.toNat)) a.f3)) ∧ Aside0 (Below w.heap.size w w') ∧ Aside0 (w'.heap[g6]? = some (.cells #[.int .i64 a.f0, .int .i64 a.f1, .int .i64 a.f2, .int .i64 a.f3, .int .i64 a.f4, .int .i64 a.f5, .int .i64 a.f6, .int .i64 a.f7, .int .i64 a.f8] 33 (0, 0)))) (ds := []) #[false, false, false, false, false, false, false, false, false, false, false, false, false, false, false, false, false, false] (by kernel_rfl) rfl rfl ⟨hy2, hy3, hy6, hx, hw, ⟨below_drew HB1.out⟩, ⟨HLw1.out⟩⟩ (fun hHeld => ?_)
  refine pure_ (i := 0) (N := some 53) (v := ?_) (a' := ?_) #[true, false, false, false, false, false, false, false, false, false, false, false, false, false, false, false, false, false] rfl rfl (by kernel_rfl) (fun _ _ _ h => h) (Or.inl ⟨by rfl, ?_⟩) ?_ ?_
  rotate_left
  · intro w'
    go_simp
    with_reducible rfl
  rotate_left
  · simp only [Act.put, List.setIfInBounds_toArray, List.set_cons_zero, List.set_cons_succ, i64_w, i32_w]
    rfl
  refine pure_ (i := 2) (N := some 55) (v := ?_) (a' := ?_) #[true, false, true, false, false, false, false, false, false, false, false, false, false, false, false, false, false, false] rfl rfl (by kernel_rfl) (fun _ _ _ h => h) (Or.inl ⟨by rfl, ?_⟩) ?_ ?_
  rotate_left
  · intro w'
    go_simp
    with_reducible rfl
  rotate_left
  · simp only [Act.put, List.setIfInBounds_toArray, List.set_cons_zero, List.set_cons_succ, i64_w, i32_w]
    rfl
  refine pure_ (i := 3) (N := some 56) (v := ?_) (a' := ?_) #[true, false, true, true, false, false, false, false, false, false, false, false, false, false, false, false, false, false] rfl rfl (by kernel_rfl) (fun _ _ _ h => h) (Or.inl ⟨by rfl, ?_⟩) ?_ ?_
  rotate_left
  · intro w'
    go_simp
    with_reducible rfl
  rotate_left
  · simp only [Act.put, List.setIfInBounds_toArray, List.set_cons_zero, List.set_cons_succ, i64_w, i32_w]
    rfl
  refine pure_ (i := 7) (N := some 60) (v := ?_) (a' := ?_) #[true, false, true, true, false, false, false, true, false, false, false, false, false, false, false, false, false, false] rfl rfl (by kernel_rfl) (fun _ _ _ h => h) (Or.inl ⟨by rfl, ?_⟩) ?_ ?_
  rotate_left
  · intro w'
    go_simp
    with_reducible rfl
  rotate_left
  · simp only [Act.put, List.setIfInBounds_toArray, List.set_cons_zero, List.set_cons_succ, i64_w, i32_w]
    rfl
  refine pure_ (i := 8) (N := some 61) (v := ?_) (a' := ?_) #[true, false, true, true, false, false, false, true, true, false, false, false, false, false, false, false, false, false] rfl rfl (by kernel_rfl) (fun _ _ _ h => h) (Or.inl ⟨by rfl, ?_⟩) ?_ ?_
  rotate_left
  · intro w'
    go_simp
    with_reducible rfl
  rotate_left
  · simp only [Act.put, List.setIfInBounds_toArray, List.set_cons_zero, List.set_cons_succ, i64_w, i32_w]
    rfl
  refine take_ (i := 1) (N := some 54) (v := ?_) (a' := ?_) #[true, true, true, true, false, false, false, true, true, false, false, false, false, false, false, false, false, false] rfl rfl (by kernel_rfl) (fun _ _ _ h => h) (Or.inl ⟨by rfl, ?_⟩) hHeld ?_ ?_
  rotate_left
  · rintro w' ⟨s0, s1, s2, s3, s4, s5, s6⟩
    go_simp
    with_reducible rfl
  rotate_left
  · simp only [Act.put, List.setIfInBounds_toArray, List.set_cons_zero, List.set_cons_succ, i64_w, i32_w]
    rfl
  refine take_ (i := 4) (N := some 57) (v := ?_) (a' := ?_) #[true, true, true, true, true, false, false, true, true, false, false, false, false, false, false, false, false, false] rfl rfl (by kernel_rfl) (fun _ _ _ h => h) (Or.inl ⟨by rfl, ?_⟩) hHeld ?_ ?_
  rotate_left
  · rintro w' ⟨s0, s1, s2, s3, s4, s5, s6⟩
    go_simp
    with_reducible rfl
  rotate_left
  · simp only [Act.put, List.setIfInBounds_toArray, List.set_cons_zero, List.set_cons_succ, i64_w, i32_w]
    rfl
  refine pure_ (i := 5) (N := some 58) (v := ?_) (a' := ?_) #[true, true, true, true, true, true, false, true, true, false, false, false, false, false, false, false, false, false] rfl rfl (by kernel_rfl) (fun _ _ _ h => h) (Or.inl ⟨by rfl, ?_⟩) ?_ ?_
  rotate_left
  · intro w'
    go_simp
    with_reducible rfl
  rotate_left
  · simp only [Act.put, List.setIfInBounds_toArray, List.set_cons_zero, List.set_cons_succ, i64_w, i32_w]
    rfl
  refine take_ (i := 6) (N := some 59) (v := ?_) (a' := ?_) #[true, true, true, true, true, true, true, true, true, false, false, false, false, false, false, false, false, false] rfl rfl (by kernel_rfl) (fun _ _ _ h => h) (Or.inl ⟨by rfl, ?_⟩) hHeld ?_ ?_
  rotate_left
  · rintro w' ⟨s0, s1, s2, s3, s4, s5, s6⟩
    go_simp
    with_reducible rfl
  rotate_left
  · simp only [Act.put, List.setIfInBounds_toArray, List.set_cons_zero, List.set_cons_succ, i64_w, i32_w]
    rfl
  refine take_ (i := 9) (N := some 62) (v := ?_) (a' := ?_) #[true, true, true, true, true, true, true, true, true, true, false, false, false, false, false, false, false, false] rfl rfl (by kernel_rfl) (fun _ _ _ h => h) (Or.inl ⟨by rfl, ?_⟩) hHeld ?_ ?_
  rotate_left
  · rintro w' ⟨s0, s1, s2, s3, s4, s5, s6⟩
    go_simp
    with_reducible rfl
  rotate_left
  · simp only [Act.put, List.setIfInBounds_toArray, List.set_cons_zero, List.set_cons_succ, i64_w, i32_w]
    rfl
  refine pure_ (i := 10) (N := some 63) (v := ?_) (a' := ?_) #[true, true, true, true, true, true, true, true, true, true, true, false, false, false, false, false, false, false] rfl rfl (by kernel_rfl) (fun _ _ _ h => h) (Or.inl ⟨by rfl, ?_⟩) ?_ ?_
  rotate_left
  · intro w'
    go_simp
    with_reducible rfl
  rotate_left
  · simp only [Act.put, List.setIfInBounds_toArray, List.set_cons_zero, List.set_cons_succ, i64_w, i32_w]
    rfl
  refine take_ (i := 11) (N := some 64) (v := ?_) (a' := ?_) #[true, true, true, true, true, true, true, true, true, true, true, true, false, false, false, false, false, false] rfl rfl (by kernel_rfl) (fun _ _ _ h => h) (Or.inl ⟨by rfl, ?_⟩) hHeld ?_ ?_
  rotate_left
  · rintro w' ⟨s0, s1, s2, s3, s4, s5, s6⟩
    go_simp
    with_reducible rfl
  rotate_left
  · simp only [Act.put, List.setIfInBounds_toArray, List.set_cons_zero, List.set_cons_succ, i64_w, i32_w]
    rfl
  refine one_ (i := 12) (N := some 65) #[true, true, true, true, true, true, true, true, true, true, true, true, true, false, false, false, false, false] rfl rfl (by kernel_rfl) (by decide) (fun K hK => ?_)
  refine goes_ Try.func65 (by kernel_rfl) rfl #[.int .i64 a.f6, .int .i64 (rd (s.row (4 + 2 * t.toNat)) a.f2), .int .i64 (rd (s.row (4 + 2 * t.toNat)) a.f3)] (by rfl) rfl rfl (by simp only [List.map_toArray, List.map_cons, List.map_nil, Act.eval]; rfl) ?_
  refine (rdo_calls _ _ _ HDO.out _).mono ?_
  rintro e w2 ⟨rfl, hd⟩
  have hb := hd.below
  clear hd
  refine ⟨_, rfl, ?_⟩
  refine hK.out _ _ ⟨pw_cell_below hb hHeld.1, pw_cell_below hb hHeld.2.1, pw_cell_below hb hHeld.2.2.1, pw_cell_below hb hHeld.2.2.2.1, pw_cell_below hb hHeld.2.2.2.2.1, ⟨below_on hHeld.2.2.2.2.2.1.out hb⟩, ⟨below_read hb hHeld.2.2.2.2.2.2.out⟩⟩ (fun hHeld => ?_)
  clear hK K
  refine norm_ (a' := ?_) ?_ ?_
  rotate_left
  · show Act.put _ (some 65) _ = _
    simp only [Act.put, List.setIfInBounds_toArray, List.set_cons_zero, List.set_cons_succ, i64_w, i32_w]
    rfl
  refine pure_ (i := 13) (N := some 52) (v := ?_) (a' := ?_) #[true, true, true, true, true, true, true, true, true, true, true, true, true, true, false, false, false, false] rfl rfl (by kernel_rfl) (fun _ _ _ h => h) (Or.inl ⟨by rfl, ?_⟩) ?_ ?_
  rotate_left
  · intro w'
    go_simp
    with_reducible rfl
  rotate_left
  · simp only [Act.put, List.setIfInBounds_toArray, List.set_cons_zero, List.set_cons_succ, i64_w, i32_w]
    rfl
  refine pure_ (i := 14) (N := some 66) (v := ?_) (a' := ?_) #[true, true, true, true, true, true, true, true, true, true, true, true, true, true, true, false, false, false] rfl rfl (by kernel_rfl) (fun _ _ _ h => h) (Or.inl ⟨by rfl, ?_⟩) ?_ ?_
  rotate_left
  · intro w'
    go_simp
    with_reducible rfl
  rotate_left
  · simp only [Act.put, List.setIfInBounds_toArray, List.set_cons_zero, List.set_cons_succ, i64_w, i32_w]
    rfl
  refine pure_ (i := 15) (N := some 67) (v := ?_) (a' := ?_) #[true, true, true, true, true, true, true, true, true, true, true, true, true, true, true, true, false, false] rfl rfl (by kernel_rfl) (fun _ _ _ h => h) (Or.inl ⟨by rfl, ?_⟩) ?_ ?_
  rotate_left
  · intro w'
    go_simp
    with_reducible rfl
  rotate_left
  · simp only [Act.put, List.setIfInBounds_toArray, List.set_cons_zero, List.set_cons_succ, i64_w, i32_w]
    rfl
  refine pure_ (i := 16) (N := some 11) (v := ?_) (a' := ?_) #[true, true, true, true, true, true, true, true, true, true, true, true, true, true, true, true, true, false] rfl rfl (by kernel_rfl) (fun _ _ _ h => h) (Or.inl ⟨by rfl, ?_⟩) ?_ ?_
  rotate_left
  · intro w'
    go_simp
    with_reducible rfl
  rotate_left
  · simp only [Act.put, List.setIfInBounds_toArray, List.set_cons_zero, List.set_cons_succ, i64_w, i32_w]
    rfl
  refine pure_ (i := 17) (N := some 12) (v := ?_) (a' := ?_) #[true, true, true, true, true, true, true, true, true, true, true, true, true, true, true, true, true, true] rfl rfl (by kernel_rfl) (fun _ _ _ h => h) (Or.inl ⟨by rfl, ?_⟩) ?_ ?_
  rotate_left
  · intro w'
    go_simp
    with_reducible rfl
  rotate_left
  · simp only [Act.put, List.setIfInBounds_toArray, List.set_cons_zero, List.set_cons_succ, i64_w, i32_w]
    rfl
  refine done_ (by kernel_rfl) ?_
  have HB2 := Aside0.mk hHeld.2.2.2.2.2.1.out
  have HL2 := Aside0.mk hHeld.2.2.2.2.2.2.out
  clear hHeld
  go_wp2_with fail
  go_ret2
  exact does_mk HR.out (if_neg HD2.out) rfl (HH.out.below HB2.out) (.of_below HB2.out)
set_option maxHeartbeats 8000000 in
set_option maxRecDepth 100000 in
theorem does_5 (w : World) {lo hi : Nat} {u : RefU} {pr : PhR} {cs : List S49} {nA : Nat} {s : St} (H : RefIn w lo hi u pr cs.length nA s) (t : Int) (h0 : 0 ≤ t) (h1 : t < cs.length) (a : S33) (inp : Int) {nl : Int} (ha : okA (s.row (4 + 2 * t.toNat)).length (s.row 0).length nA (s.row 1).length nl a) (kk : a.f0 = 5) :
    Calls Try.prog 49 #[.pointer (some ⟨pr.bm, 0, none⟩), .int .i64 t, .agg #[.int .i64 a.f0, .int .i64 a.f1, .int .i64 a.f2, .int .i64 a.f3, .int .i64 a.f4, .int .i64 a.f5, .int .i64 a.f6, .int .i64 a.f7, .int .i64 a.f8], .int .i64 inp] w fun e w' => DoesOut w lo hi u pr cs.length nA s t a inp e w' := by
  have ht0 := (ha.t (.inr (.inr (.inr (.inr (.inl kk)))))).1
  have ht1 := (ha.t (.inr (.inr (.inr (.inr (.inl kk)))))).2
  have hg0 := (ha.g (.inl kk)).1
  have hg1 := (ha.g (.inl kk)).2
  have hVne : 0 < (s.row (4 + 2 * t.toNat)).length := by have := ha.t (.inr (.inr (.inr (.inr (.inl kk))))); omega
  have hGne : 0 < (s.row 0).length := by have := ha.g (.inl kk); omega
  obtain ⟨f, hm, -⟩ := H.hm
  have HM := Aside0.mk hm
  have HH := Aside0.mk H
  have HA := Aside0.mk ha
  have HK := Aside0.mk kk
  obtain ⟨gv, cv, ev, hcv, hvc⟩ := H.vcell t h0 h1
  have EVV := Aside0.mk ev
  have HVC := Aside0.mk hvc
  have hcvz : (cs.length : Int) ≤ cv := by omega
  obtain ⟨gV, cV, eV, hcV, hloV, hhiV, hltV, hallV⟩ := H.rowAt (4 + 2 * t.toNat) (by omega) (by have := hVne; omega)
  have EV := Aside0.mk eV
  have HALV := Aside0.mk hallV
  have HLV := Aside0.mk (show lo ≤ gV ∧ gV < hi ∧ gV < w.heap.size from ⟨hloV, hhiV, hltV⟩)
  obtain ⟨gG, cG, eG, hcG, hloG, hhiG, hltG, hallG⟩ := H.rowAt 0 (by decide) (by have := hGne; omega)
  have EG := Aside0.mk eG
  have HALG := Aside0.mk hallG
  have HLG := Aside0.mk (show lo ≤ gG ∧ gG < hi ∧ gG < w.heap.size from ⟨hloG, hhiG, hltG⟩)
  have kb1 : (a.f0 == 1) = false := beq_eq_false_iff_ne.mpr (by omega)
  have kb2 : (a.f0 == 2) = false := beq_eq_false_iff_ne.mpr (by omega)
  have kb3 : (a.f0 == 3) = false := beq_eq_false_iff_ne.mpr (by omega)
  have kb4 : (a.f0 == 4) = false := beq_eq_false_iff_ne.mpr (by omega)
  have kb5 : (a.f0 == 5) = true := beq_iff_eq.mpr kk
  have HR : Aside0 (after1 nA s t a inp = (s.setRow (4 + 2 * t.toNat) ((s.row (4 + 2 * t.toNat)).set (a.f1).toNat (rd (s.row 0) a.f4)), 0)) := ⟨by rw [after_shr (by omega) (by omega), shr, if_pos kk]⟩
  clear H hm ha kk ev hvc eV hallV hloV hhiV hltV hVne eG hallG hloG hhiG hltG hGne
  go_enter Try.func49, Try.ntmps49
  go_wp2_with (first | ((with_reducible refine gate_dst (N := 6) rfl ?_); refine box_event ?hg (N := 6) ?hd (cs := #[.int .i64 a.f0, .int .i64 a.f1, .int .i64 a.f2, .int .i64 a.f3, .int .i64 a.f4, .int .i64 a.f5, .int .i64 a.f6, .int .i64 a.f7, .int .i64 a.f8]) (t := 33) ?hr ?_; (case hd => rfl); (case hg => rfl); (case hr => first | (go_simp; done) | (go_simp; rfl)); intro g6 hgg w1 hlit hb; have HLw1 := Aside0.mk hlit; have HKw1 := Aside0.mk hb; have HGw1 := Aside0.mk hgg; have HB1 := Aside0.mk hb; have HM1 := Aside0.mk (below_read hb HM.out); have hm5 : w1.cell? ⟨pr.bm, 5, none⟩ = some (.slice (some ⟨gv, 0, none⟩) cs.length cv) := (blk_cell HM1.out 5).trans (congrArg some EVV.out); have hvc1 : w1.cell? ⟨gv, t.toNat, none⟩ = some (.slice (some ⟨gV, 0, none⟩) (s.row (4 + 2 * t.toNat)).length cV) := (pw_cell_below hb HVC.out).trans (congrArg some EV.out); have hm6 : w1.cell? ⟨pr.bm, 6, none⟩ = some (.slice (some ⟨gG, 0, none⟩) (s.row 0).length cG) := (blk_cell HM1.out 6).trans (congrArg some EG.out); have hy0 : w1.cell? ⟨g6, 0, none⟩ = some (.int .i64 a.f0) := (blk_cell hlit 0).trans rfl; have hy1 : w1.cell? ⟨g6, 1, none⟩ = some (.int .i64 a.f1) := (blk_cell hlit 1).trans rfl; have hy2 : w1.cell? ⟨g6, 2, none⟩ = some (.int .i64 a.f2) := (blk_cell hlit 2).trans rfl; have hy3 : w1.cell? ⟨g6, 3, none⟩ = some (.int .i64 a.f3) := (blk_cell hlit 3).trans rfl; have hy4 : w1.cell? ⟨g6, 4, none⟩ = some (.int .i64 a.f4) := (blk_cell hlit 4).trans rfl; have hy5 : w1.cell? ⟨g6, 5, none⟩ = some (.int .i64 a.f5) := (blk_cell hlit 5).trans rfl; have hy6 : w1.cell? ⟨g6, 6, none⟩ = some (.int .i64 a.f6) := (blk_cell hlit 6).trans rfl; have hy7 : w1.cell? ⟨g6, 7, none⟩ = some (.int .i64 a.f7) := (blk_cell hlit 7).trans rfl; have hy8 : w1.cell? ⟨g6, 8, none⟩ = some (.int .i64 a.f8) := (blk_cell hlit 8).trans rfl; have hx := (HALG.out w1 hb (a.f4) hg0 hg1).1; have hwq := (HALV.out w1 hb (a.f1) ht0 ht1).1; have hwf := (HALV.out w1 hb (a.f1) ht0 ht1).2; have hz7 : (w1.setCell ⟨gV, (a.f1).toNat, none⟩ (.int .i64 (rd (s.row 0) a.f4))).cell? ⟨g6, 7, none⟩ = some (.int .i64 a.f7) := (blk_cell (blk_far (show w1.heap[g6]? = _ from hlit) (show g6 ≠ (⟨gV, (a.f1).toNat, none⟩ : Addr).block from fun e => absurd HLV.out.2.2 (by rw [← show g6 = gV from e, hgg]; exact Nat.lt_irrefl _)) _) 7).trans rfl; clear hlit hb hgg))
  go_still_tail 12, (by kernel_rfl)
  change wpList _ _ _ _ _ w1.drew
  go_wp2_with fail
  go_ret2
  have HX := HH.out.wrote HB1.out (4 + 2 * t.toNat) (by omega) EV.out (a.f1) (rd (s.row 0) a.f4)
  exact does_mk HR.out (nxP_plain (by have := HK.out; omega)) rfl (HX.1.below (drew_below _)) (HX.2.trans (.of_below (drew_below _)))
set_option maxHeartbeats 8000000 in
set_option maxRecDepth 100000 in
theorem does_6 (w : World) {lo hi : Nat} {u : RefU} {pr : PhR} {cs : List S49} {nA : Nat} {s : St} (H : RefIn w lo hi u pr cs.length nA s) (t : Int) (h0 : 0 ≤ t) (h1 : t < cs.length) (a : S33) (inp : Int) {nl : Int} (ha : okA (s.row (4 + 2 * t.toNat)).length (s.row 0).length nA (s.row 1).length nl a) (kk : a.f0 = 6) :
    Calls Try.prog 49 #[.pointer (some ⟨pr.bm, 0, none⟩), .int .i64 t, .agg #[.int .i64 a.f0, .int .i64 a.f1, .int .i64 a.f2, .int .i64 a.f3, .int .i64 a.f4, .int .i64 a.f5, .int .i64 a.f6, .int .i64 a.f7, .int .i64 a.f8], .int .i64 inp] w fun e w' => DoesOut w lo hi u pr cs.length nA s t a inp e w' := by
  have hx0 := (ha.x (.inr (.inr (.inl kk)))).1
  have hx1 := (ha.x (.inr (.inr (.inl kk)))).2
  have hg0 := (ha.g (.inr kk)).1
  have hg1 := (ha.g (.inr kk)).2
  have hVne : 0 < (s.row (4 + 2 * t.toNat)).length := by have := ha.x (.inr (.inr (.inl kk))); omega
  have hGne : 0 < (s.row 0).length := by have := ha.g (.inr kk); omega
  obtain ⟨f, hm, -⟩ := H.hm
  have HM := Aside0.mk hm
  have HH := Aside0.mk H
  have HA := Aside0.mk ha
  have HK := Aside0.mk kk
  obtain ⟨gv, cv, ev, hcv, hvc⟩ := H.vcell t h0 h1
  have EVV := Aside0.mk ev
  have HVC := Aside0.mk hvc
  have hcvz : (cs.length : Int) ≤ cv := by omega
  obtain ⟨gV, cV, eV, hcV, hloV, hhiV, hltV, hallV⟩ := H.rowAt (4 + 2 * t.toNat) (by omega) (by have := hVne; omega)
  have EV := Aside0.mk eV
  have HALV := Aside0.mk hallV
  have HLV := Aside0.mk (show lo ≤ gV ∧ gV < hi ∧ gV < w.heap.size from ⟨hloV, hhiV, hltV⟩)
  obtain ⟨gG, cG, eG, hcG, hloG, hhiG, hltG, hallG⟩ := H.rowAt 0 (by decide) (by have := hGne; omega)
  have EG := Aside0.mk eG
  have HALG := Aside0.mk hallG
  have HLG := Aside0.mk (show lo ≤ gG ∧ gG < hi ∧ gG < w.heap.size from ⟨hloG, hhiG, hltG⟩)
  have kb1 : (a.f0 == 1) = false := beq_eq_false_iff_ne.mpr (by omega)
  have kb2 : (a.f0 == 2) = false := beq_eq_false_iff_ne.mpr (by omega)
  have kb3 : (a.f0 == 3) = false := beq_eq_false_iff_ne.mpr (by omega)
  have kb4 : (a.f0 == 4) = false := beq_eq_false_iff_ne.mpr (by omega)
  have kb5 : (a.f0 == 5) = false := beq_eq_false_iff_ne.mpr (by omega)
  have kb6 : (a.f0 == 6) = true := beq_iff_eq.mpr kk
  have HR : Aside0 (after1 nA s t a inp = (s.setRow 0 ((s.row 0).set (a.f4).toNat (rd (s.row (4 + 2 * t.toNat)) a.f2)), 0)) := ⟨by rw [after_shr (by omega) (by omega), shr, if_neg (by omega), if_pos kk]⟩
  clear H hm ha kk ev hvc eV hallV hloV hhiV hltV hVne eG hallG hloG hhiG hltG hGne
  go_enter Try.func49, Try.ntmps49
  go_wp2_with (first | ((with_reducible refine gate_dst (N := 6) rfl ?_); refine box_event ?hg (N := 6) ?hd (cs := #[.int .i64 a.f0, .int .i64 a.f1, .int .i64 a.f2, .int .i64 a.f3, .int .i64 a.f4, .int .i64 a.f5, .int .i64 a.f6, .int .i64 a.f7, .int .i64 a.f8]) (t := 33) ?hr ?_; (case hd => rfl); (case hg => rfl); (case hr => first | (go_simp; done) | (go_simp; rfl)); intro g6 hgg w1 hlit hb; have HLw1 := Aside0.mk hlit; have HKw1 := Aside0.mk hb; have HGw1 := Aside0.mk hgg; have HB1 := Aside0.mk hb; have HM1 := Aside0.mk (below_read hb HM.out); have hm5 : w1.cell? ⟨pr.bm, 5, none⟩ = some (.slice (some ⟨gv, 0, none⟩) cs.length cv) := (blk_cell HM1.out 5).trans (congrArg some EVV.out); have hvc1 : w1.cell? ⟨gv, t.toNat, none⟩ = some (.slice (some ⟨gV, 0, none⟩) (s.row (4 + 2 * t.toNat)).length cV) := (pw_cell_below hb HVC.out).trans (congrArg some EV.out); have hm6 : w1.cell? ⟨pr.bm, 6, none⟩ = some (.slice (some ⟨gG, 0, none⟩) (s.row 0).length cG) := (blk_cell HM1.out 6).trans (congrArg some EG.out); have hy0 : w1.cell? ⟨g6, 0, none⟩ = some (.int .i64 a.f0) := (blk_cell hlit 0).trans rfl; have hy1 : w1.cell? ⟨g6, 1, none⟩ = some (.int .i64 a.f1) := (blk_cell hlit 1).trans rfl; have hy2 : w1.cell? ⟨g6, 2, none⟩ = some (.int .i64 a.f2) := (blk_cell hlit 2).trans rfl; have hy3 : w1.cell? ⟨g6, 3, none⟩ = some (.int .i64 a.f3) := (blk_cell hlit 3).trans rfl; have hy4 : w1.cell? ⟨g6, 4, none⟩ = some (.int .i64 a.f4) := (blk_cell hlit 4).trans rfl; have hy5 : w1.cell? ⟨g6, 5, none⟩ = some (.int .i64 a.f5) := (blk_cell hlit 5).trans rfl; have hy6 : w1.cell? ⟨g6, 6, none⟩ = some (.int .i64 a.f6) := (blk_cell hlit 6).trans rfl; have hy7 : w1.cell? ⟨g6, 7, none⟩ = some (.int .i64 a.f7) := (blk_cell hlit 7).trans rfl; have hy8 : w1.cell? ⟨g6, 8, none⟩ = some (.int .i64 a.f8) := (blk_cell hlit 8).trans rfl; have hx := (HALV.out w1 hb (a.f2) hx0 hx1).1; have hwq := (HALG.out w1 hb (a.f4) hg0 hg1).1; have hwf := (HALG.out w1 hb (a.f4) hg0 hg1).2; have hz7 : (w1.setCell ⟨gG, (a.f4).toNat, none⟩ (.int .i64 (rd (s.row (4 + 2 * t.toNat)) a.f2))).cell? ⟨g6, 7, none⟩ = some (.int .i64 a.f7) := (blk_cell (blk_far (show w1.heap[g6]? = _ from hlit) (show g6 ≠ (⟨gG, (a.f4).toNat, none⟩ : Addr).block from fun e => absurd HLG.out.2.2 (by rw [← show g6 = gG from e, hgg]; exact Nat.lt_irrefl _)) _) 7).trans rfl; clear hlit hb hgg))
  go_still_tail 12, (by kernel_rfl)
  change wpList _ _ _ _ _ w1.drew
  go_wp2_with fail
  go_ret2
  have HX := HH.out.wrote HB1.out 0 (by decide) EG.out (a.f4) (rd (s.row (4 + 2 * t.toNat)) a.f2)
  exact does_mk HR.out (nxP_plain (by have := HK.out; omega)) rfl (HX.1.below (drew_below _)) (HX.2.trans (.of_below (drew_below _)))
set_option maxHeartbeats 8000000 in
set_option maxRecDepth 100000 in
theorem does_7e0 (w : World) {lo hi : Nat} {u : RefU} {pr : PhR} {cs : List S49} {nA : Nat} {s : St} (H : RefIn w lo hi u pr cs.length nA s) (t : Int) (h0 : 0 ≤ t) (h1 : t < cs.length) (a : S33) (inp : Int) {nl : Int} (ha : okA (s.row (4 + 2 * t.toNat)).length (s.row 0).length nA (s.row 1).length nl a) (kk : a.f0 = 7) (hz : rd (s.row (4 + 2 * t.toNat)) a.f2 < 0) :
    Calls Try.prog 49 #[.pointer (some ⟨pr.bm, 0, none⟩), .int .i64 t, .agg #[.int .i64 a.f0, .int .i64 a.f1, .int .i64 a.f2, .int .i64 a.f3, .int .i64 a.f4, .int .i64 a.f5, .int .i64 a.f6, .int .i64 a.f7, .int .i64 a.f8], .int .i64 inp] w fun e w' => DoesOut w lo hi u pr cs.length nA s t a inp e w' := by
  have hx0 := (ha.x (.inr (.inr (.inr (.inl kk))))).1
  have hx1 := (ha.x (.inr (.inr (.inr (.inl kk))))).2
  have hg0 := (ha.arr (.inl kk)).1
  have hg1 := (ha.arr (.inl kk)).2
  obtain ⟨ga, caa, eha, hcaa, hac⟩ := H.acell a.f4 hg0 hg1
  have EHA := Aside0.mk eha
  have HAC := Aside0.mk hac
  have hcz : (nA : Int) ≤ caa := by omega
  have ht0 := (ha.t (.inr (.inr (.inr (.inr (.inr kk)))))).1
  have ht1 := (ha.t (.inr (.inr (.inr (.inr (.inr kk)))))).2
  obtain ⟨AA, cAA, eAA⟩ := H.slice (3 + 2 * a.f4.toNat)
  rw [rowR_ne _ _ (show 3 + 2 * a.f4.toNat ≠ 2 by omega)] at eAA
  have EAA := Aside0.mk eAA
  have hVne : 0 < (s.row (4 + 2 * t.toNat)).length := by omega
  obtain ⟨f, hm, -⟩ := H.hm
  have HM := Aside0.mk hm
  have HH := Aside0.mk H
  have HA := Aside0.mk ha
  have HK := Aside0.mk kk
  obtain ⟨gv, cv, ev, hcv, hvc⟩ := H.vcell t h0 h1
  have EVV := Aside0.mk ev
  have HVC := Aside0.mk hvc
  have hcvz : (cs.length : Int) ≤ cv := by omega
  obtain ⟨gV, cV, eV, hcV, hloV, hhiV, hltV, hallV⟩ := H.rowAt (4 + 2 * t.toNat) (by omega) (by have := hVne; omega)
  have EV := Aside0.mk eV
  have HALV := Aside0.mk hallV
  have HLV := Aside0.mk (show lo ≤ gV ∧ gV < hi ∧ gV < w.heap.size from ⟨hloV, hhiV, hltV⟩)
  have kb1 : (a.f0 == 1) = false := beq_eq_false_iff_ne.mpr (by omega)
  have kb2 : (a.f0 == 2) = false := beq_eq_false_iff_ne.mpr (by omega)
  have kb3 : (a.f0 == 3) = false := beq_eq_false_iff_ne.mpr (by omega)
  have kb4 : (a.f0 == 4) = false := beq_eq_false_iff_ne.mpr (by omega)
  have kb5 : (a.f0 == 5) = false := beq_eq_false_iff_ne.mpr (by omega)
  have kb6 : (a.f0 == 6) = false := beq_eq_false_iff_ne.mpr (by omega)
  have kb7 : (a.f0 == 7) = true := beq_iff_eq.mpr kk
  have d0 : decide (rd (s.row (4 + 2 * t.toNat)) a.f2 < 0) = true := decide_eq_true hz
  have HR := Aside0.mk (show after1 nA s t a inp = (s, 9) from by rw [after_shr (by omega) (by omega), shr, if_neg (by omega), if_neg (by omega), if_pos (by omega), if_neg (by omega)])
  clear hz eha hac eAA H hm ha kk ev hvc eV hallV hloV hhiV hltV hVne
  go_enter Try.func49, Try.ntmps49
  go_wp2_with (first | ((with_reducible refine gate_dst (N := 6) rfl ?_); refine box_event ?hg (N := 6) ?hd (cs := #[.int .i64 a.f0, .int .i64 a.f1, .int .i64 a.f2, .int .i64 a.f3, .int .i64 a.f4, .int .i64 a.f5, .int .i64 a.f6, .int .i64 a.f7, .int .i64 a.f8]) (t := 33) ?hr ?_; (case hd => rfl); (case hg => rfl); (case hr => first | (go_simp; done) | (go_simp; rfl)); intro g6 hgg w1 hlit hb; have HLw1 := Aside0.mk hlit; have HKw1 := Aside0.mk hb; have HGw1 := Aside0.mk hgg; have HB1 := Aside0.mk hb; have HM1 := Aside0.mk (below_read hb HM.out); have hm5 : w1.cell? ⟨pr.bm, 5, none⟩ = some (.slice (some ⟨gv, 0, none⟩) cs.length cv) := (blk_cell HM1.out 5).trans (congrArg some EVV.out); have hvc1 : w1.cell? ⟨gv, t.toNat, none⟩ = some (.slice (some ⟨gV, 0, none⟩) (s.row (4 + 2 * t.toNat)).length cV) := (pw_cell_below hb HVC.out).trans (congrArg some EV.out); have hm7 : w1.cell? ⟨pr.bm, 7, none⟩ = some (.slice (some ⟨ga, 0, none⟩) nA caa) := (blk_cell HM1.out 7).trans (congrArg some EHA.out); have hy0 : w1.cell? ⟨g6, 0, none⟩ = some (.int .i64 a.f0) := (blk_cell hlit 0).trans rfl; have hy1 : w1.cell? ⟨g6, 1, none⟩ = some (.int .i64 a.f1) := (blk_cell hlit 1).trans rfl; have hy2 : w1.cell? ⟨g6, 2, none⟩ = some (.int .i64 a.f2) := (blk_cell hlit 2).trans rfl; have hy3 : w1.cell? ⟨g6, 3, none⟩ = some (.int .i64 a.f3) := (blk_cell hlit 3).trans rfl; have hy4 : w1.cell? ⟨g6, 4, none⟩ = some (.int .i64 a.f4) := (blk_cell hlit 4).trans rfl; have hy5 : w1.cell? ⟨g6, 5, none⟩ = some (.int .i64 a.f5) := (blk_cell hlit 5).trans rfl; have hy6 : w1.cell? ⟨g6, 6, none⟩ = some (.int .i64 a.f6) := (blk_cell hlit 6).trans rfl; have hy7 : w1.cell? ⟨g6, 7, none⟩ = some (.int .i64 a.f7) := (blk_cell hlit 7).trans rfl; have hy8 : w1.cell? ⟨g6, 8, none⟩ = some (.int .i64 a.f8) := (blk_cell hlit 8).trans rfl; have hx := (HALV.out w1 hb (a.f2) hx0 hx1).1; have hac1 : w1.cell? ⟨ga, a.f4.toNat, none⟩ = some (.slice AA (s.row (3 + 2 * a.f4.toNat)).length cAA) := (pw_cell_below hb HAC.out).trans (congrArg some EAA.out); clear hlit hb hgg))
  go_quiet (fail)
  have hbq := pw_below_drewN (Below.refl w1.heap.size w1) nq
  have HB2 := Aside0.mk (below_on HB1.out hbq)
  have HL2 := Aside0.mk (below_read hbq HLw1.out)
  clear hbq hm5 hvc1 hm7 hy0 hy1 hy2 hy3 hy4 hy5 hy6 hy7 hy8 hx hac1
  generalize w1.drewN nq = w2 at *
  go_wp2_with fail
  go_ret2
  exact does_mk HR.out rfl rfl (HH.out.below HB2.out) (.of_below HB2.out)
set_option maxHeartbeats 8000000 in
set_option maxRecDepth 100000 in
theorem does_7e1 (w : World) {lo hi : Nat} {u : RefU} {pr : PhR} {cs : List S49} {nA : Nat} {s : St} (H : RefIn w lo hi u pr cs.length nA s) (t : Int) (h0 : 0 ≤ t) (h1 : t < cs.length) (a : S33) (inp : Int) {nl : Int} (ha : okA (s.row (4 + 2 * t.toNat)).length (s.row 0).length nA (s.row 1).length nl a) (kk : a.f0 = 7) (hz : ¬ rd (s.row (4 + 2 * t.toNat)) a.f2 < 0) (hz2 : ((s.row (3 + 2 * a.f4.toNat)).length : Int) ≤ rd (s.row (4 + 2 * t.toNat)) a.f2) :
    Calls Try.prog 49 #[.pointer (some ⟨pr.bm, 0, none⟩), .int .i64 t, .agg #[.int .i64 a.f0, .int .i64 a.f1, .int .i64 a.f2, .int .i64 a.f3, .int .i64 a.f4, .int .i64 a.f5, .int .i64 a.f6, .int .i64 a.f7, .int .i64 a.f8], .int .i64 inp] w fun e w' => DoesOut w lo hi u pr cs.length nA s t a inp e w' := by
  have hx0 := (ha.x (.inr (.inr (.inr (.inl kk))))).1
  have hx1 := (ha.x (.inr (.inr (.inr (.inl kk))))).2
  have hg0 := (ha.arr (.inl kk)).1
  have hg1 := (ha.arr (.inl kk)).2
  obtain ⟨ga, caa, eha, hcaa, hac⟩ := H.acell a.f4 hg0 hg1
  have EHA := Aside0.mk eha
  have HAC := Aside0.mk hac
  have hcz : (nA : Int) ≤ caa := by omega
  have ht0 := (ha.t (.inr (.inr (.inr (.inr (.inr kk)))))).1
  have ht1 := (ha.t (.inr (.inr (.inr (.inr (.inr kk)))))).2
  obtain ⟨AA, cAA, eAA⟩ := H.slice (3 + 2 * a.f4.toNat)
  rw [rowR_ne _ _ (show 3 + 2 * a.f4.toNat ≠ 2 by omega)] at eAA
  have EAA := Aside0.mk eAA
  have hVne : 0 < (s.row (4 + 2 * t.toNat)).length := by omega
  obtain ⟨f, hm, -⟩ := H.hm
  have HM := Aside0.mk hm
  have HH := Aside0.mk H
  have HA := Aside0.mk ha
  have HK := Aside0.mk kk
  obtain ⟨gv, cv, ev, hcv, hvc⟩ := H.vcell t h0 h1
  have EVV := Aside0.mk ev
  have HVC := Aside0.mk hvc
  have hcvz : (cs.length : Int) ≤ cv := by omega
  obtain ⟨gV, cV, eV, hcV, hloV, hhiV, hltV, hallV⟩ := H.rowAt (4 + 2 * t.toNat) (by omega) (by have := hVne; omega)
  have EV := Aside0.mk eV
  have HALV := Aside0.mk hallV
  have HLV := Aside0.mk (show lo ≤ gV ∧ gV < hi ∧ gV < w.heap.size from ⟨hloV, hhiV, hltV⟩)
  have kb1 : (a.f0 == 1) = false := beq_eq_false_iff_ne.mpr (by omega)
  have kb2 : (a.f0 == 2) = false := beq_eq_false_iff_ne.mpr (by omega)
  have kb3 : (a.f0 == 3) = false := beq_eq_false_iff_ne.mpr (by omega)
  have kb4 : (a.f0 == 4) = false := beq_eq_false_iff_ne.mpr (by omega)
  have kb5 : (a.f0 == 5) = false := beq_eq_false_iff_ne.mpr (by omega)
  have kb6 : (a.f0 == 6) = false := beq_eq_false_iff_ne.mpr (by omega)
  have kb7 : (a.f0 == 7) = true := beq_iff_eq.mpr kk
  have d0 : decide (rd (s.row (4 + 2 * t.toNat)) a.f2 < 0) = false := decide_eq_false hz
  have d1 : decide (((s.row (3 + 2 * a.f4.toNat)).length : Int) ≤ rd (s.row (4 + 2 * t.toNat)) a.f2) = true := decide_eq_true hz2
  have HR := Aside0.mk (show after1 nA s t a inp = (s, 9) from by rw [after_shr (by omega) (by omega), shr, if_neg (by omega), if_neg (by omega), if_pos (by omega), if_neg (by omega)])
  clear hz hz2 eha hac eAA H hm ha kk ev hvc eV hallV hloV hhiV hltV hVne
  go_enter Try.func49, Try.ntmps49
  go_wp2_with (first | ((with_reducible refine gate_dst (N := 6) rfl ?_); refine box_event ?hg (N := 6) ?hd (cs := #[.int .i64 a.f0, .int .i64 a.f1, .int .i64 a.f2, .int .i64 a.f3, .int .i64 a.f4, .int .i64 a.f5, .int .i64 a.f6, .int .i64 a.f7, .int .i64 a.f8]) (t := 33) ?hr ?_; (case hd => rfl); (case hg => rfl); (case hr => first | (go_simp; done) | (go_simp; rfl)); intro g6 hgg w1 hlit hb; have HLw1 := Aside0.mk hlit; have HKw1 := Aside0.mk hb; have HGw1 := Aside0.mk hgg; have HB1 := Aside0.mk hb; have HM1 := Aside0.mk (below_read hb HM.out); have hm5 : w1.cell? ⟨pr.bm, 5, none⟩ = some (.slice (some ⟨gv, 0, none⟩) cs.length cv) := (blk_cell HM1.out 5).trans (congrArg some EVV.out); have hvc1 : w1.cell? ⟨gv, t.toNat, none⟩ = some (.slice (some ⟨gV, 0, none⟩) (s.row (4 + 2 * t.toNat)).length cV) := (pw_cell_below hb HVC.out).trans (congrArg some EV.out); have hm7 : w1.cell? ⟨pr.bm, 7, none⟩ = some (.slice (some ⟨ga, 0, none⟩) nA caa) := (blk_cell HM1.out 7).trans (congrArg some EHA.out); have hy0 : w1.cell? ⟨g6, 0, none⟩ = some (.int .i64 a.f0) := (blk_cell hlit 0).trans rfl; have hy1 : w1.cell? ⟨g6, 1, none⟩ = some (.int .i64 a.f1) := (blk_cell hlit 1).trans rfl; have hy2 : w1.cell? ⟨g6, 2, none⟩ = some (.int .i64 a.f2) := (blk_cell hlit 2).trans rfl; have hy3 : w1.cell? ⟨g6, 3, none⟩ = some (.int .i64 a.f3) := (blk_cell hlit 3).trans rfl; have hy4 : w1.cell? ⟨g6, 4, none⟩ = some (.int .i64 a.f4) := (blk_cell hlit 4).trans rfl; have hy5 : w1.cell? ⟨g6, 5, none⟩ = some (.int .i64 a.f5) := (blk_cell hlit 5).trans rfl; have hy6 : w1.cell? ⟨g6, 6, none⟩ = some (.int .i64 a.f6) := (blk_cell hlit 6).trans rfl; have hy7 : w1.cell? ⟨g6, 7, none⟩ = some (.int .i64 a.f7) := (blk_cell hlit 7).trans rfl; have hy8 : w1.cell? ⟨g6, 8, none⟩ = some (.int .i64 a.f8) := (blk_cell hlit 8).trans rfl; have hx := (HALV.out w1 hb (a.f2) hx0 hx1).1; have hac1 : w1.cell? ⟨ga, a.f4.toNat, none⟩ = some (.slice AA (s.row (3 + 2 * a.f4.toNat)).length cAA) := (pw_cell_below hb HAC.out).trans (congrArg some EAA.out); clear hlit hb hgg))
  go_quiet (fail)
  have hbq := pw_below_drewN (Below.refl w1.heap.size w1) nq
  have HB2 := Aside0.mk (below_on HB1.out hbq)
  have HL2 := Aside0.mk (below_read hbq HLw1.out)
  clear hbq hm5 hvc1 hm7 hy0 hy1 hy2 hy3 hy4 hy5 hy6 hy7 hy8 hx hac1
  generalize w1.drewN nq = w2 at *
  go_wp2_with fail
  go_ret2
  exact does_mk HR.out rfl rfl (HH.out.below HB2.out) (.of_below HB2.out)
set_option maxHeartbeats 8000000 in
set_option maxRecDepth 100000 in
theorem does_7s (w : World) {lo hi : Nat} {u : RefU} {pr : PhR} {cs : List S49} {nA : Nat} {s : St} (H : RefIn w lo hi u pr cs.length nA s) (t : Int) (h0 : 0 ≤ t) (h1 : t < cs.length) (a : S33) (inp : Int) {nl : Int} (ha : okA (s.row (4 + 2 * t.toNat)).length (s.row 0).length nA (s.row 1).length nl a) (kk : a.f0 = 7) (hA0 : 0 ≤ rd (s.row (4 + 2 * t.toNat)) a.f2) (hA1 : rd (s.row (4 + 2 * t.toNat)) a.f2 < ((s.row (3 + 2 * a.f4.toNat)).length : Int)) :
    Calls Try.prog 49 #[.pointer (some ⟨pr.bm, 0, none⟩), .int .i64 t, .agg #[.int .i64 a.f0, .int .i64 a.f1, .int .i64 a.f2, .int .i64 a.f3, .int .i64 a.f4, .int .i64 a.f5, .int .i64 a.f6, .int .i64 a.f7, .int .i64 a.f8], .int .i64 inp] w fun e w' => DoesOut w lo hi u pr cs.length nA s t a inp e w' := by
  have hx0 := (ha.x (.inr (.inr (.inr (.inl kk))))).1
  have hx1 := (ha.x (.inr (.inr (.inr (.inl kk))))).2
  have hg0 := (ha.arr (.inl kk)).1
  have hg1 := (ha.arr (.inl kk)).2
  obtain ⟨ga, caa, eha, hcaa, hac⟩ := H.acell a.f4 hg0 hg1
  have EHA := Aside0.mk eha
  have HAC := Aside0.mk hac
  have hcz : (nA : Int) ≤ caa := by omega
  have ht0 := (ha.t (.inr (.inr (.inr (.inr (.inr kk)))))).1
  have ht1 := (ha.t (.inr (.inr (.inr (.inr (.inr kk)))))).2
  have hVne : 0 < (s.row (4 + 2 * t.toNat)).length := by omega
  have hAne : 0 < (s.row (3 + 2 * a.f4.toNat)).length := by omega
  obtain ⟨f, hm, -⟩ := H.hm
  have HM := Aside0.mk hm
  have HH := Aside0.mk H
  have HA := Aside0.mk ha
  have HK := Aside0.mk kk
  obtain ⟨gv, cv, ev, hcv, hvc⟩ := H.vcell t h0 h1
  have EVV := Aside0.mk ev
  have HVC := Aside0.mk hvc
  have hcvz : (cs.length : Int) ≤ cv := by omega
  obtain ⟨gV, cV, eV, hcV, hloV, hhiV, hltV, hallV⟩ := H.rowAt (4 + 2 * t.toNat) (by omega) (by have := hVne; omega)
  have EV := Aside0.mk eV
  have HALV := Aside0.mk hallV
  have HLV := Aside0.mk (show lo ≤ gV ∧ gV < hi ∧ gV < w.heap.size from ⟨hloV, hhiV, hltV⟩)
  obtain ⟨gA, cA, eA, hcA, hloA, hhiA, hltA, hallA⟩ := H.rowAt (3 + 2 * a.f4.toNat) (by omega) (by have := hAne; omega)
  have EA := Aside0.mk eA
  have HALA := Aside0.mk hallA
  have HLA := Aside0.mk (show lo ≤ gA ∧ gA < hi ∧ gA < w.heap.size from ⟨hloA, hhiA, hltA⟩)
  have kb1 : (a.f0 == 1) = false := beq_eq_false_iff_ne.mpr (by omega)
  have kb2 : (a.f0 == 2) = false := beq_eq_false_iff_ne.mpr (by omega)
  have kb3 : (a.f0 == 3) = false := beq_eq_false_iff_ne.mpr (by omega)
  have kb4 : (a.f0 == 4) = false := beq_eq_false_iff_ne.mpr (by omega)
  have kb5 : (a.f0 == 5) = false := beq_eq_false_iff_ne.mpr (by omega)
  have kb6 : (a.f0 == 6) = false := beq_eq_false_iff_ne.mpr (by omega)
  have kb7 : (a.f0 == 7) = true := beq_iff_eq.mpr kk
  have d0 : decide (rd (s.row (4 + 2 * t.toNat)) a.f2 < 0) = false := decide_eq_false (by omega)
  have d1 : decide (((s.row (3 + 2 * a.f4.toNat)).length : Int) ≤ rd (s.row (4 + 2 * t.toNat)) a.f2) = false := decide_eq_false (by omega)
  have HR := Aside0.mk (show after1 nA s t a inp = (s.setRow (4 + 2 * t.toNat) ((s.row (4 + 2 * t.toNat)).set (a.f1).toNat (rd (s.row (3 + 2 * a.f4.toNat)) (rd (s.row (4 + 2 * t.toNat)) a.f2))), 0) from by rw [after_shr (by omega) (by omega), shr, if_neg (by omega), if_neg (by omega), if_pos (by omega), if_pos ⟨hA0, hA1⟩, if_pos kk])
  clear eha hac H hm ha kk ev hvc eV hallV hloV hhiV hltV hVne eA hallA hloA hhiA hltA hAne
  go_enter Try.func49, Try.ntmps49
  go_wp2_with (first | ((with_reducible refine gate_dst (N := 6) rfl ?_); refine box_event ?hg (N := 6) ?hd (cs := #[.int .i64 a.f0, .int .i64 a.f1, .int .i64 a.f2, .int .i64 a.f3, .int .i64 a.f4, .int .i64 a.f5, .int .i64 a.f6, .int .i64 a.f7, .int .i64 a.f8]) (t := 33) ?hr ?_; (case hd => rfl); (case hg => rfl); (case hr => first | (go_simp; done) | (go_simp; rfl)); intro g6 hgg w1 hlit hb; have HLw1 := Aside0.mk hlit; have HKw1 := Aside0.mk hb; have HGw1 := Aside0.mk hgg; have HB1 := Aside0.mk hb; have HM1 := Aside0.mk (below_read hb HM.out); have hm5 : w1.cell? ⟨pr.bm, 5, none⟩ = some (.slice (some ⟨gv, 0, none⟩) cs.length cv) := (blk_cell HM1.out 5).trans (congrArg some EVV.out); have hvc1 : w1.cell? ⟨gv, t.toNat, none⟩ = some (.slice (some ⟨gV, 0, none⟩) (s.row (4 + 2 * t.toNat)).length cV) := (pw_cell_below hb HVC.out).trans (congrArg some EV.out); have hm7 : w1.cell? ⟨pr.bm, 7, none⟩ = some (.slice (some ⟨ga, 0, none⟩) nA caa) := (blk_cell HM1.out 7).trans (congrArg some EHA.out); have hy0 : w1.cell? ⟨g6, 0, none⟩ = some (.int .i64 a.f0) := (blk_cell hlit 0).trans rfl; have hy1 : w1.cell? ⟨g6, 1, none⟩ = some (.int .i64 a.f1) := (blk_cell hlit 1).trans rfl; have hy2 : w1.cell? ⟨g6, 2, none⟩ = some (.int .i64 a.f2) := (blk_cell hlit 2).trans rfl; have hy3 : w1.cell? ⟨g6, 3, none⟩ = some (.int .i64 a.f3) := (blk_cell hlit 3).trans rfl; have hy4 : w1.cell? ⟨g6, 4, none⟩ = some (.int .i64 a.f4) := (blk_cell hlit 4).trans rfl; have hy5 : w1.cell? ⟨g6, 5, none⟩ = some (.int .i64 a.f5) := (blk_cell hlit 5).trans rfl; have hy6 : w1.cell? ⟨g6, 6, none⟩ = some (.int .i64 a.f6) := (blk_cell hlit 6).trans rfl; have hy7 : w1.cell? ⟨g6, 7, none⟩ = some (.int .i64 a.f7) := (blk_cell hlit 7).trans rfl; have hy8 : w1.cell? ⟨g6, 8, none⟩ = some (.int .i64 a.f8) := (blk_cell hlit 8).trans rfl; have hx := (HALV.out w1 hb (a.f2) hx0 hx1).1; have hac1 : w1.cell? ⟨ga, a.f4.toNat, none⟩ = some (.slice (some ⟨gA, 0, none⟩) (s.row (3 + 2 * a.f4.toNat)).length cA) := (pw_cell_below hb HAC.out).trans (congrArg some EA.out); clear hlit hb hgg))
  go_quiet (fail)
  have hbq := pw_below_drewN (Below.refl w1.heap.size w1) nq
  have HB2 := Aside0.mk (below_on HB1.out hbq)
  have HL2 := Aside0.mk (below_read hbq HLw1.out)
  clear hbq hm5 hvc1 hm7 hy0 hy1 hy2 hy3 hy4 hy5 hy6 hy7 hy8 hx hac1
  generalize w1.drewN nq = w2 at *
  have HM2 := Aside0.mk (below_read HB2.out HM.out)
  have hm7 : w2.cell? ⟨pr.bm, 7, none⟩ = some (.slice (some ⟨ga, 0, none⟩) nA caa) := (blk_cell HM2.out 7).trans (congrArg some EHA.out)
  have hy0 : w2.cell? ⟨g6, 0, none⟩ = some (.int .i64 a.f0) := (blk_cell HL2.out 0).trans rfl
  have hy1 : w2.cell? ⟨g6, 1, none⟩ = some (.int .i64 a.f1) := (blk_cell HL2.out 1).trans rfl
  have hy2 : w2.cell? ⟨g6, 2, none⟩ = some (.int .i64 a.f2) := (blk_cell HL2.out 2).trans rfl
  have hy3 : w2.cell? ⟨g6, 3, none⟩ = some (.int .i64 a.f3) := (blk_cell HL2.out 3).trans rfl
  have hy4 : w2.cell? ⟨g6, 4, none⟩ = some (.int .i64 a.f4) := (blk_cell HL2.out 4).trans rfl
  have hy5 : w2.cell? ⟨g6, 5, none⟩ = some (.int .i64 a.f5) := (blk_cell HL2.out 5).trans rfl
  have hy6 : w2.cell? ⟨g6, 6, none⟩ = some (.int .i64 a.f6) := (blk_cell HL2.out 6).trans rfl
  have hy7 : w2.cell? ⟨g6, 7, none⟩ = some (.int .i64 a.f7) := (blk_cell HL2.out 7).trans rfl
  have hy8 : w2.cell? ⟨g6, 8, none⟩ = some (.int .i64 a.f8) := (blk_cell HL2.out 8).trans rfl
  have hx := (HALV.out w2 HB2.out (a.f2) hx0 hx1).1
  have hac1 : w2.cell? ⟨ga, a.f4.toNat, none⟩ = some (.slice (some ⟨gA, 0, none⟩) (s.row (3 + 2 * a.f4.toNat)).length cA) := (pw_cell_below HB2.out HAC.out).trans (congrArg some EA.out)
  have hz := (HALA.out w2 HB2.out (rd (s.row (4 + 2 * t.toNat)) a.f2) hA0 hA1).1
  have hwq := (HALV.out w2 HB2.out (a.f1) ht0 ht1).1
  have hwf := (HALV.out w2 HB2.out (a.f1) ht0 ht1).2
  have hz7 : (w2.setCell ⟨gV, (a.f1).toNat, none⟩ (.int .i64 (rd (s.row (3 + 2 * a.f4.toNat)) (rd (s.row (4 + 2 * t.toNat)) a.f2)))).cell? ⟨g6, 7, none⟩ = some (.int .i64 a.f7) := (blk_cell (blk_far HL2.out (show g6 ≠ (⟨gV, (a.f1).toNat, none⟩ : Addr).block from fun e => absurd HLV.out.2.2 (by rw [← show g6 = gV from e, HGw1.out]; exact Nat.lt_irrefl _)) _) 7).trans rfl
  go_wp2_with fail
  go_still_tail 19, (by kernel_rfl)
  change wpList _ _ _ _ _ w2.drew
  go_wp2_with fail
  go_ret2
  have HX := HH.out.wrote HB2.out (4 + 2 * t.toNat) (by omega) EV.out (a.f1) (rd (s.row (3 + 2 * a.f4.toNat)) (rd (s.row (4 + 2 * t.toNat)) a.f2))
  exact does_mk HR.out (nxP_plain (by have := HK.out; omega)) rfl (HX.1.below (drew_below _)) (HX.2.trans (.of_below (drew_below _)))
set_option maxHeartbeats 8000000 in
set_option maxRecDepth 100000 in
theorem does_8e0 (w : World) {lo hi : Nat} {u : RefU} {pr : PhR} {cs : List S49} {nA : Nat} {s : St} (H : RefIn w lo hi u pr cs.length nA s) (t : Int) (h0 : 0 ≤ t) (h1 : t < cs.length) (a : S33) (inp : Int) {nl : Int} (ha : okA (s.row (4 + 2 * t.toNat)).length (s.row 0).length nA (s.row 1).length nl a) (kk : a.f0 = 8) (hz : rd (s.row (4 + 2 * t.toNat)) a.f2 < 0) :
    Calls Try.prog 49 #[.pointer (some ⟨pr.bm, 0, none⟩), .int .i64 t, .agg #[.int .i64 a.f0, .int .i64 a.f1, .int .i64 a.f2, .int .i64 a.f3, .int .i64 a.f4, .int .i64 a.f5, .int .i64 a.f6, .int .i64 a.f7, .int .i64 a.f8], .int .i64 inp] w fun e w' => DoesOut w lo hi u pr cs.length nA s t a inp e w' := by
  have hx0 := (ha.x (.inr (.inr (.inr (.inr (.inl kk)))))).1
  have hx1 := (ha.x (.inr (.inr (.inr (.inr (.inl kk)))))).2
  have hg0 := (ha.arr (.inr kk)).1
  have hg1 := (ha.arr (.inr kk)).2
  obtain ⟨ga, caa, eha, hcaa, hac⟩ := H.acell a.f4 hg0 hg1
  have EHA := Aside0.mk eha
  have HAC := Aside0.mk hac
  have hcz : (nA : Int) ≤ caa := by omega
  have hyy0 := (ha.y (.inr (.inl kk))).1
  have hyy1 := (ha.y (.inr (.inl kk))).2
  obtain ⟨AA, cAA, eAA⟩ := H.slice (3 + 2 * a.f4.toNat)
  rw [rowR_ne _ _ (show 3 + 2 * a.f4.toNat ≠ 2 by omega)] at eAA
  have EAA := Aside0.mk eAA
  have hVne : 0 < (s.row (4 + 2 * t.toNat)).length := by omega
  obtain ⟨f, hm, -⟩ := H.hm
  have HM := Aside0.mk hm
  have HH := Aside0.mk H
  have HA := Aside0.mk ha
  have HK := Aside0.mk kk
  obtain ⟨gv, cv, ev, hcv, hvc⟩ := H.vcell t h0 h1
  have EVV := Aside0.mk ev
  have HVC := Aside0.mk hvc
  have hcvz : (cs.length : Int) ≤ cv := by omega
  obtain ⟨gV, cV, eV, hcV, hloV, hhiV, hltV, hallV⟩ := H.rowAt (4 + 2 * t.toNat) (by omega) (by have := hVne; omega)
  have EV := Aside0.mk eV
  have HALV := Aside0.mk hallV
  have HLV := Aside0.mk (show lo ≤ gV ∧ gV < hi ∧ gV < w.heap.size from ⟨hloV, hhiV, hltV⟩)
  have kb1 : (a.f0 == 1) = false := beq_eq_false_iff_ne.mpr (by omega)
  have kb2 : (a.f0 == 2) = false := beq_eq_false_iff_ne.mpr (by omega)
  have kb3 : (a.f0 == 3) = false := beq_eq_false_iff_ne.mpr (by omega)
  have kb4 : (a.f0 == 4) = false := beq_eq_false_iff_ne.mpr (by omega)
  have kb5 : (a.f0 == 5) = false := beq_eq_false_iff_ne.mpr (by omega)
  have kb6 : (a.f0 == 6) = false := beq_eq_false_iff_ne.mpr (by omega)
  have kb7 : (a.f0 == 7) = false := beq_eq_false_iff_ne.mpr (by omega)
  have kb8 : (a.f0 == 8) = true := beq_iff_eq.mpr kk
  have d0 : decide (rd (s.row (4 + 2 * t.toNat)) a.f2 < 0) = true := decide_eq_true hz
  have HR := Aside0.mk (show after1 nA s t a inp = (s, 9) from by rw [after_shr (by omega) (by omega), shr, if_neg (by omega), if_neg (by omega), if_pos (by omega), if_neg (by omega)])
  clear hz eha hac eAA H hm ha kk ev hvc eV hallV hloV hhiV hltV hVne
  go_enter Try.func49, Try.ntmps49
  go_wp2_with (first | ((with_reducible refine gate_dst (N := 6) rfl ?_); refine box_event ?hg (N := 6) ?hd (cs := #[.int .i64 a.f0, .int .i64 a.f1, .int .i64 a.f2, .int .i64 a.f3, .int .i64 a.f4, .int .i64 a.f5, .int .i64 a.f6, .int .i64 a.f7, .int .i64 a.f8]) (t := 33) ?hr ?_; (case hd => rfl); (case hg => rfl); (case hr => first | (go_simp; done) | (go_simp; rfl)); intro g6 hgg w1 hlit hb; have HLw1 := Aside0.mk hlit; have HKw1 := Aside0.mk hb; have HGw1 := Aside0.mk hgg; have HB1 := Aside0.mk hb; have HM1 := Aside0.mk (below_read hb HM.out); have hm5 : w1.cell? ⟨pr.bm, 5, none⟩ = some (.slice (some ⟨gv, 0, none⟩) cs.length cv) := (blk_cell HM1.out 5).trans (congrArg some EVV.out); have hvc1 : w1.cell? ⟨gv, t.toNat, none⟩ = some (.slice (some ⟨gV, 0, none⟩) (s.row (4 + 2 * t.toNat)).length cV) := (pw_cell_below hb HVC.out).trans (congrArg some EV.out); have hm7 : w1.cell? ⟨pr.bm, 7, none⟩ = some (.slice (some ⟨ga, 0, none⟩) nA caa) := (blk_cell HM1.out 7).trans (congrArg some EHA.out); have hy0 : w1.cell? ⟨g6, 0, none⟩ = some (.int .i64 a.f0) := (blk_cell hlit 0).trans rfl; have hy1 : w1.cell? ⟨g6, 1, none⟩ = some (.int .i64 a.f1) := (blk_cell hlit 1).trans rfl; have hy2 : w1.cell? ⟨g6, 2, none⟩ = some (.int .i64 a.f2) := (blk_cell hlit 2).trans rfl; have hy3 : w1.cell? ⟨g6, 3, none⟩ = some (.int .i64 a.f3) := (blk_cell hlit 3).trans rfl; have hy4 : w1.cell? ⟨g6, 4, none⟩ = some (.int .i64 a.f4) := (blk_cell hlit 4).trans rfl; have hy5 : w1.cell? ⟨g6, 5, none⟩ = some (.int .i64 a.f5) := (blk_cell hlit 5).trans rfl; have hy6 : w1.cell? ⟨g6, 6, none⟩ = some (.int .i64 a.f6) := (blk_cell hlit 6).trans rfl; have hy7 : w1.cell? ⟨g6, 7, none⟩ = some (.int .i64 a.f7) := (blk_cell hlit 7).trans rfl; have hy8 : w1.cell? ⟨g6, 8, none⟩ = some (.int .i64 a.f8) := (blk_cell hlit 8).trans rfl; have hx := (HALV.out w1 hb (a.f2) hx0 hx1).1; have hac1 : w1.cell? ⟨ga, a.f4.toNat, none⟩ = some (.slice AA (s.row (3 + 2 * a.f4.toNat)).length cAA) := (pw_cell_below hb HAC.out).trans (congrArg some EAA.out); clear hlit hb hgg))
  go_quiet (fail)
  have hbq := pw_below_drewN (Below.refl w1.heap.size w1) nq
  have HB2 := Aside0.mk (below_on HB1.out hbq)
  have HL2 := Aside0.mk (below_read hbq HLw1.out)
  clear hbq hm5 hvc1 hm7 hy0 hy1 hy2 hy3 hy4 hy5 hy6 hy7 hy8 hx hac1
  generalize w1.drewN nq = w2 at *
  go_wp2_with fail
  go_ret2
  exact does_mk HR.out rfl rfl (HH.out.below HB2.out) (.of_below HB2.out)
set_option maxHeartbeats 8000000 in
set_option maxRecDepth 100000 in
theorem does_8e1 (w : World) {lo hi : Nat} {u : RefU} {pr : PhR} {cs : List S49} {nA : Nat} {s : St} (H : RefIn w lo hi u pr cs.length nA s) (t : Int) (h0 : 0 ≤ t) (h1 : t < cs.length) (a : S33) (inp : Int) {nl : Int} (ha : okA (s.row (4 + 2 * t.toNat)).length (s.row 0).length nA (s.row 1).length nl a) (kk : a.f0 = 8) (hz : ¬ rd (s.row (4 + 2 * t.toNat)) a.f2 < 0) (hz2 : ((s.row (3 + 2 * a.f4.toNat)).length : Int) ≤ rd (s.row (4 + 2 * t.toNat)) a.f2) :
    Calls Try.prog 49 #[.pointer (some ⟨pr.bm, 0, none⟩), .int .i64 t, .agg #[.int .i64 a.f0, .int .i64 a.f1, .int .i64 a.f2, .int .i64 a.f3, .int .i64 a.f4, .int .i64 a.f5, .int .i64 a.f6, .int .i64 a.f7, .int .i64 a.f8], .int .i64 inp] w fun e w' => DoesOut w lo hi u pr cs.length nA s t a inp e w' := by
  have hx0 := (ha.x (.inr (.inr (.inr (.inr (.inl kk)))))).1
  have hx1 := (ha.x (.inr (.inr (.inr (.inr (.inl kk)))))).2
  have hg0 := (ha.arr (.inr kk)).1
  have hg1 := (ha.arr (.inr kk)).2
  obtain ⟨ga, caa, eha, hcaa, hac⟩ := H.acell a.f4 hg0 hg1
  have EHA := Aside0.mk eha
  have HAC := Aside0.mk hac
  have hcz : (nA : Int) ≤ caa := by omega
  have hyy0 := (ha.y (.inr (.inl kk))).1
  have hyy1 := (ha.y (.inr (.inl kk))).2
  obtain ⟨AA, cAA, eAA⟩ := H.slice (3 + 2 * a.f4.toNat)
  rw [rowR_ne _ _ (show 3 + 2 * a.f4.toNat ≠ 2 by omega)] at eAA
  have EAA := Aside0.mk eAA
  have hVne : 0 < (s.row (4 + 2 * t.toNat)).length := by omega
  obtain ⟨f, hm, -⟩ := H.hm
  have HM := Aside0.mk hm
  have HH := Aside0.mk H
  have HA := Aside0.mk ha
  have HK := Aside0.mk kk
  obtain ⟨gv, cv, ev, hcv, hvc⟩ := H.vcell t h0 h1
  have EVV := Aside0.mk ev
  have HVC := Aside0.mk hvc
  have hcvz : (cs.length : Int) ≤ cv := by omega
  obtain ⟨gV, cV, eV, hcV, hloV, hhiV, hltV, hallV⟩ := H.rowAt (4 + 2 * t.toNat) (by omega) (by have := hVne; omega)
  have EV := Aside0.mk eV
  have HALV := Aside0.mk hallV
  have HLV := Aside0.mk (show lo ≤ gV ∧ gV < hi ∧ gV < w.heap.size from ⟨hloV, hhiV, hltV⟩)
  have kb1 : (a.f0 == 1) = false := beq_eq_false_iff_ne.mpr (by omega)
  have kb2 : (a.f0 == 2) = false := beq_eq_false_iff_ne.mpr (by omega)
  have kb3 : (a.f0 == 3) = false := beq_eq_false_iff_ne.mpr (by omega)
  have kb4 : (a.f0 == 4) = false := beq_eq_false_iff_ne.mpr (by omega)
  have kb5 : (a.f0 == 5) = false := beq_eq_false_iff_ne.mpr (by omega)
  have kb6 : (a.f0 == 6) = false := beq_eq_false_iff_ne.mpr (by omega)
  have kb7 : (a.f0 == 7) = false := beq_eq_false_iff_ne.mpr (by omega)
  have kb8 : (a.f0 == 8) = true := beq_iff_eq.mpr kk
  have d0 : decide (rd (s.row (4 + 2 * t.toNat)) a.f2 < 0) = false := decide_eq_false hz
  have d1 : decide (((s.row (3 + 2 * a.f4.toNat)).length : Int) ≤ rd (s.row (4 + 2 * t.toNat)) a.f2) = true := decide_eq_true hz2
  have HR := Aside0.mk (show after1 nA s t a inp = (s, 9) from by rw [after_shr (by omega) (by omega), shr, if_neg (by omega), if_neg (by omega), if_pos (by omega), if_neg (by omega)])
  clear hz hz2 eha hac eAA H hm ha kk ev hvc eV hallV hloV hhiV hltV hVne
  go_enter Try.func49, Try.ntmps49
  go_wp2_with (first | ((with_reducible refine gate_dst (N := 6) rfl ?_); refine box_event ?hg (N := 6) ?hd (cs := #[.int .i64 a.f0, .int .i64 a.f1, .int .i64 a.f2, .int .i64 a.f3, .int .i64 a.f4, .int .i64 a.f5, .int .i64 a.f6, .int .i64 a.f7, .int .i64 a.f8]) (t := 33) ?hr ?_; (case hd => rfl); (case hg => rfl); (case hr => first | (go_simp; done) | (go_simp; rfl)); intro g6 hgg w1 hlit hb; have HLw1 := Aside0.mk hlit; have HKw1 := Aside0.mk hb; have HGw1 := Aside0.mk hgg; have HB1 := Aside0.mk hb; have HM1 := Aside0.mk (below_read hb HM.out); have hm5 : w1.cell? ⟨pr.bm, 5, none⟩ = some (.slice (some ⟨gv, 0, none⟩) cs.length cv) := (blk_cell HM1.out 5).trans (congrArg some EVV.out); have hvc1 : w1.cell? ⟨gv, t.toNat, none⟩ = some (.slice (some ⟨gV, 0, none⟩) (s.row (4 + 2 * t.toNat)).length cV) := (pw_cell_below hb HVC.out).trans (congrArg some EV.out); have hm7 : w1.cell? ⟨pr.bm, 7, none⟩ = some (.slice (some ⟨ga, 0, none⟩) nA caa) := (blk_cell HM1.out 7).trans (congrArg some EHA.out); have hy0 : w1.cell? ⟨g6, 0, none⟩ = some (.int .i64 a.f0) := (blk_cell hlit 0).trans rfl; have hy1 : w1.cell? ⟨g6, 1, none⟩ = some (.int .i64 a.f1) := (blk_cell hlit 1).trans rfl; have hy2 : w1.cell? ⟨g6, 2, none⟩ = some (.int .i64 a.f2) := (blk_cell hlit 2).trans rfl; have hy3 : w1.cell? ⟨g6, 3, none⟩ = some (.int .i64 a.f3) := (blk_cell hlit 3).trans rfl; have hy4 : w1.cell? ⟨g6, 4, none⟩ = some (.int .i64 a.f4) := (blk_cell hlit 4).trans rfl; have hy5 : w1.cell? ⟨g6, 5, none⟩ = some (.int .i64 a.f5) := (blk_cell hlit 5).trans rfl; have hy6 : w1.cell? ⟨g6, 6, none⟩ = some (.int .i64 a.f6) := (blk_cell hlit 6).trans rfl; have hy7 : w1.cell? ⟨g6, 7, none⟩ = some (.int .i64 a.f7) := (blk_cell hlit 7).trans rfl; have hy8 : w1.cell? ⟨g6, 8, none⟩ = some (.int .i64 a.f8) := (blk_cell hlit 8).trans rfl; have hx := (HALV.out w1 hb (a.f2) hx0 hx1).1; have hac1 : w1.cell? ⟨ga, a.f4.toNat, none⟩ = some (.slice AA (s.row (3 + 2 * a.f4.toNat)).length cAA) := (pw_cell_below hb HAC.out).trans (congrArg some EAA.out); clear hlit hb hgg))
  go_quiet (fail)
  have hbq := pw_below_drewN (Below.refl w1.heap.size w1) nq
  have HB2 := Aside0.mk (below_on HB1.out hbq)
  have HL2 := Aside0.mk (below_read hbq HLw1.out)
  clear hbq hm5 hvc1 hm7 hy0 hy1 hy2 hy3 hy4 hy5 hy6 hy7 hy8 hx hac1
  generalize w1.drewN nq = w2 at *
  go_wp2_with fail
  go_ret2
  exact does_mk HR.out rfl rfl (HH.out.below HB2.out) (.of_below HB2.out)
set_option maxHeartbeats 8000000 in
set_option maxRecDepth 100000 in
theorem does_8s (w : World) {lo hi : Nat} {u : RefU} {pr : PhR} {cs : List S49} {nA : Nat} {s : St} (H : RefIn w lo hi u pr cs.length nA s) (t : Int) (h0 : 0 ≤ t) (h1 : t < cs.length) (a : S33) (inp : Int) {nl : Int} (ha : okA (s.row (4 + 2 * t.toNat)).length (s.row 0).length nA (s.row 1).length nl a) (kk : a.f0 = 8) (hA0 : 0 ≤ rd (s.row (4 + 2 * t.toNat)) a.f2) (hA1 : rd (s.row (4 + 2 * t.toNat)) a.f2 < ((s.row (3 + 2 * a.f4.toNat)).length : Int)) :
    Calls Try.prog 49 #[.pointer (some ⟨pr.bm, 0, none⟩), .int .i64 t, .agg #[.int .i64 a.f0, .int .i64 a.f1, .int .i64 a.f2, .int .i64 a.f3, .int .i64 a.f4, .int .i64 a.f5, .int .i64 a.f6, .int .i64 a.f7, .int .i64 a.f8], .int .i64 inp] w fun e w' => DoesOut w lo hi u pr cs.length nA s t a inp e w' := by
  have hx0 := (ha.x (.inr (.inr (.inr (.inr (.inl kk)))))).1
  have hx1 := (ha.x (.inr (.inr (.inr (.inr (.inl kk)))))).2
  have hg0 := (ha.arr (.inr kk)).1
  have hg1 := (ha.arr (.inr kk)).2
  obtain ⟨ga, caa, eha, hcaa, hac⟩ := H.acell a.f4 hg0 hg1
  have EHA := Aside0.mk eha
  have HAC := Aside0.mk hac
  have hcz : (nA : Int) ≤ caa := by omega
  have hyy0 := (ha.y (.inr (.inl kk))).1
  have hyy1 := (ha.y (.inr (.inl kk))).2
  have hVne : 0 < (s.row (4 + 2 * t.toNat)).length := by omega
  have hAne : 0 < (s.row (3 + 2 * a.f4.toNat)).length := by omega
  obtain ⟨f, hm, -⟩ := H.hm
  have HM := Aside0.mk hm
  have HH := Aside0.mk H
  have HA := Aside0.mk ha
  have HK := Aside0.mk kk
  obtain ⟨gv, cv, ev, hcv, hvc⟩ := H.vcell t h0 h1
  have EVV := Aside0.mk ev
  have HVC := Aside0.mk hvc
  have hcvz : (cs.length : Int) ≤ cv := by omega
  obtain ⟨gV, cV, eV, hcV, hloV, hhiV, hltV, hallV⟩ := H.rowAt (4 + 2 * t.toNat) (by omega) (by have := hVne; omega)
  have EV := Aside0.mk eV
  have HALV := Aside0.mk hallV
  have HLV := Aside0.mk (show lo ≤ gV ∧ gV < hi ∧ gV < w.heap.size from ⟨hloV, hhiV, hltV⟩)
  obtain ⟨gA, cA, eA, hcA, hloA, hhiA, hltA, hallA⟩ := H.rowAt (3 + 2 * a.f4.toNat) (by omega) (by have := hAne; omega)
  have EA := Aside0.mk eA
  have HALA := Aside0.mk hallA
  have HLA := Aside0.mk (show lo ≤ gA ∧ gA < hi ∧ gA < w.heap.size from ⟨hloA, hhiA, hltA⟩)
  have kb1 : (a.f0 == 1) = false := beq_eq_false_iff_ne.mpr (by omega)
  have kb2 : (a.f0 == 2) = false := beq_eq_false_iff_ne.mpr (by omega)
  have kb3 : (a.f0 == 3) = false := beq_eq_false_iff_ne.mpr (by omega)
  have kb4 : (a.f0 == 4) = false := beq_eq_false_iff_ne.mpr (by omega)
  have kb5 : (a.f0 == 5) = false := beq_eq_false_iff_ne.mpr (by omega)
  have kb6 : (a.f0 == 6) = false := beq_eq_false_iff_ne.mpr (by omega)
  have kb7 : (a.f0 == 7) = false := beq_eq_false_iff_ne.mpr (by omega)
  have kb8 : (a.f0 == 8) = true := beq_iff_eq.mpr kk
  have d0 : decide (rd (s.row (4 + 2 * t.toNat)) a.f2 < 0) = false := decide_eq_false (by omega)
  have d1 : decide (((s.row (3 + 2 * a.f4.toNat)).length : Int) ≤ rd (s.row (4 + 2 * t.toNat)) a.f2) = false := decide_eq_false (by omega)
  have HR := Aside0.mk (show after1 nA s t a inp = (s.setRow (3 + 2 * a.f4.toNat) ((s.row (3 + 2 * a.f4.toNat)).set (rd (s.row (4 + 2 * t.toNat)) a.f2).toNat (rd (s.row (4 + 2 * t.toNat)) a.f3)), 0) from by rw [after_shr (by omega) (by omega), shr, if_neg (by omega), if_neg (by omega), if_pos (by omega), if_pos ⟨hA0, hA1⟩, if_neg (by omega)])
  clear eha hac H hm ha kk ev hvc eV hallV hloV hhiV hltV hVne eA hallA hloA hhiA hltA hAne
  go_enter Try.func49, Try.ntmps49
  go_wp2_with (first | ((with_reducible refine gate_dst (N := 6) rfl ?_); refine box_event ?hg (N := 6) ?hd (cs := #[.int .i64 a.f0, .int .i64 a.f1, .int .i64 a.f2, .int .i64 a.f3, .int .i64 a.f4, .int .i64 a.f5, .int .i64 a.f6, .int .i64 a.f7, .int .i64 a.f8]) (t := 33) ?hr ?_; (case hd => rfl); (case hg => rfl); (case hr => first | (go_simp; done) | (go_simp; rfl)); intro g6 hgg w1 hlit hb; have HLw1 := Aside0.mk hlit; have HKw1 := Aside0.mk hb; have HGw1 := Aside0.mk hgg; have HB1 := Aside0.mk hb; have HM1 := Aside0.mk (below_read hb HM.out); have hm5 : w1.cell? ⟨pr.bm, 5, none⟩ = some (.slice (some ⟨gv, 0, none⟩) cs.length cv) := (blk_cell HM1.out 5).trans (congrArg some EVV.out); have hvc1 : w1.cell? ⟨gv, t.toNat, none⟩ = some (.slice (some ⟨gV, 0, none⟩) (s.row (4 + 2 * t.toNat)).length cV) := (pw_cell_below hb HVC.out).trans (congrArg some EV.out); have hm7 : w1.cell? ⟨pr.bm, 7, none⟩ = some (.slice (some ⟨ga, 0, none⟩) nA caa) := (blk_cell HM1.out 7).trans (congrArg some EHA.out); have hy0 : w1.cell? ⟨g6, 0, none⟩ = some (.int .i64 a.f0) := (blk_cell hlit 0).trans rfl; have hy1 : w1.cell? ⟨g6, 1, none⟩ = some (.int .i64 a.f1) := (blk_cell hlit 1).trans rfl; have hy2 : w1.cell? ⟨g6, 2, none⟩ = some (.int .i64 a.f2) := (blk_cell hlit 2).trans rfl; have hy3 : w1.cell? ⟨g6, 3, none⟩ = some (.int .i64 a.f3) := (blk_cell hlit 3).trans rfl; have hy4 : w1.cell? ⟨g6, 4, none⟩ = some (.int .i64 a.f4) := (blk_cell hlit 4).trans rfl; have hy5 : w1.cell? ⟨g6, 5, none⟩ = some (.int .i64 a.f5) := (blk_cell hlit 5).trans rfl; have hy6 : w1.cell? ⟨g6, 6, none⟩ = some (.int .i64 a.f6) := (blk_cell hlit 6).trans rfl; have hy7 : w1.cell? ⟨g6, 7, none⟩ = some (.int .i64 a.f7) := (blk_cell hlit 7).trans rfl; have hy8 : w1.cell? ⟨g6, 8, none⟩ = some (.int .i64 a.f8) := (blk_cell hlit 8).trans rfl; have hx := (HALV.out w1 hb (a.f2) hx0 hx1).1; have hac1 : w1.cell? ⟨ga, a.f4.toNat, none⟩ = some (.slice (some ⟨gA, 0, none⟩) (s.row (3 + 2 * a.f4.toNat)).length cA) := (pw_cell_below hb HAC.out).trans (congrArg some EA.out); clear hlit hb hgg))
  go_quiet (fail)
  have hbq := pw_below_drewN (Below.refl w1.heap.size w1) nq
  have HB2 := Aside0.mk (below_on HB1.out hbq)
  have HL2 := Aside0.mk (below_read hbq HLw1.out)
  clear hbq hm5 hvc1 hm7 hy0 hy1 hy2 hy3 hy4 hy5 hy6 hy7 hy8 hx hac1
  generalize w1.drewN nq = w2 at *
  have HM2 := Aside0.mk (below_read HB2.out HM.out)
  have hm7 : w2.cell? ⟨pr.bm, 7, none⟩ = some (.slice (some ⟨ga, 0, none⟩) nA caa) := (blk_cell HM2.out 7).trans (congrArg some EHA.out)
  have hy0 : w2.cell? ⟨g6, 0, none⟩ = some (.int .i64 a.f0) := (blk_cell HL2.out 0).trans rfl
  have hy1 : w2.cell? ⟨g6, 1, none⟩ = some (.int .i64 a.f1) := (blk_cell HL2.out 1).trans rfl
  have hy2 : w2.cell? ⟨g6, 2, none⟩ = some (.int .i64 a.f2) := (blk_cell HL2.out 2).trans rfl
  have hy3 : w2.cell? ⟨g6, 3, none⟩ = some (.int .i64 a.f3) := (blk_cell HL2.out 3).trans rfl
  have hy4 : w2.cell? ⟨g6, 4, none⟩ = some (.int .i64 a.f4) := (blk_cell HL2.out 4).trans rfl
  have hy5 : w2.cell? ⟨g6, 5, none⟩ = some (.int .i64 a.f5) := (blk_cell HL2.out 5).trans rfl
  have hy6 : w2.cell? ⟨g6, 6, none⟩ = some (.int .i64 a.f6) := (blk_cell HL2.out 6).trans rfl
  have hy7 : w2.cell? ⟨g6, 7, none⟩ = some (.int .i64 a.f7) := (blk_cell HL2.out 7).trans rfl
  have hy8 : w2.cell? ⟨g6, 8, none⟩ = some (.int .i64 a.f8) := (blk_cell HL2.out 8).trans rfl
  have hx := (HALV.out w2 HB2.out (a.f2) hx0 hx1).1
  have hac1 : w2.cell? ⟨ga, a.f4.toNat, none⟩ = some (.slice (some ⟨gA, 0, none⟩) (s.row (3 + 2 * a.f4.toNat)).length cA) := (pw_cell_below HB2.out HAC.out).trans (congrArg some EA.out)
  have hw := (HALV.out w2 HB2.out (a.f3) hyy0 hyy1).1
  have hwq := (HALA.out w2 HB2.out (rd (s.row (4 + 2 * t.toNat)) a.f2) hA0 hA1).1
  have hwf := (HALA.out w2 HB2.out (rd (s.row (4 + 2 * t.toNat)) a.f2) hA0 hA1).2
  have hz7 : (w2.setCell ⟨gA, (rd (s.row (4 + 2 * t.toNat)) a.f2).toNat, none⟩ (.int .i64 (rd (s.row (4 + 2 * t.toNat)) a.f3))).cell? ⟨g6, 7, none⟩ = some (.int .i64 a.f7) := (blk_cell (blk_far HL2.out (show g6 ≠ (⟨gA, (rd (s.row (4 + 2 * t.toNat)) a.f2).toNat, none⟩ : Addr).block from fun e => absurd HLA.out.2.2 (by rw [← show g6 = gA from e, HGw1.out]; exact Nat.lt_irrefl _)) _) 7).trans rfl
  go_wp2_with fail
  go_still_tail 19, (by kernel_rfl)
  change wpList _ _ _ _ _ w2.drew
  go_wp2_with fail
  go_ret2
  have HX := HH.out.wrote HB2.out (3 + 2 * a.f4.toNat) (by omega) EA.out (rd (s.row (4 + 2 * t.toNat)) a.f2) (rd (s.row (4 + 2 * t.toNat)) a.f3)
  exact does_mk HR.out (nxP_plain (by have := HK.out; omega)) rfl (HX.1.below (drew_below _)) (HX.2.trans (.of_below (drew_below _)))
set_option maxHeartbeats 8000000 in
set_option maxRecDepth 100000 in
theorem does_0 (w : World) {lo hi : Nat} {u : RefU} {pr : PhR} {cs : List S49} {nA : Nat} {s : St} (H : RefIn w lo hi u pr cs.length nA s) (t : Int) (h0 : 0 ≤ t) (h1 : t < cs.length) (a : S33) (inp : Int) {nl : Int} (ha : okA (s.row (4 + 2 * t.toNat)).length (s.row 0).length nA (s.row 1).length nl a) (kk : a.f0 = 12 ∨ a.f0 = 14) :
    Calls Try.prog 49 #[.pointer (some ⟨pr.bm, 0, none⟩), .int .i64 t, .agg #[.int .i64 a.f0, .int .i64 a.f1, .int .i64 a.f2, .int .i64 a.f3, .int .i64 a.f4, .int .i64 a.f5, .int .i64 a.f6, .int .i64 a.f7, .int .i64 a.f8], .int .i64 inp] w fun e w' => DoesOut w lo hi u pr cs.length nA s t a inp e w' := by
  have hVV := H.slice (4 + 2 * t.toNat)
  obtain ⟨f, hm, -⟩ := H.hm
  have HM := Aside0.mk hm
  have HH := Aside0.mk H
  have HA := Aside0.mk ha
  have HK := Aside0.mk kk
  obtain ⟨gv, cv, ev, hcv, hvc⟩ := H.vcell t h0 h1
  have EVV := Aside0.mk ev
  have HVC := Aside0.mk hvc
  have hcvz : (cs.length : Int) ≤ cv := by omega
  obtain ⟨Av, cvv, eV⟩ := H.slice (4 + 2 * t.toNat)
  rw [rowR_ne _ _ (show (4 + 2 * t.toNat) ≠ 2 by omega)] at eV
  have EV := Aside0.mk eV
  have kb1 : (a.f0 == 1) = false := beq_eq_false_iff_ne.mpr (by omega)
  have kb2 : (a.f0 == 2) = false := beq_eq_false_iff_ne.mpr (by omega)
  have kb3 : (a.f0 == 3) = false := beq_eq_false_iff_ne.mpr (by omega)
  have kb4 : (a.f0 == 4) = false := beq_eq_false_iff_ne.mpr (by omega)
  have kb5 : (a.f0 == 5) = false := beq_eq_false_iff_ne.mpr (by omega)
  have kb6 : (a.f0 == 6) = false := beq_eq_false_iff_ne.mpr (by omega)
  have kb7 : (a.f0 == 7) = false := beq_eq_false_iff_ne.mpr (by omega)
  have kb8 : (a.f0 == 8) = false := beq_eq_false_iff_ne.mpr (by omega)
  have kb9 : (a.f0 == 9) = false := beq_eq_false_iff_ne.mpr (by omega)
  have kb10 : (a.f0 == 10) = false := beq_eq_false_iff_ne.mpr (by omega)
  have kb11 : (a.f0 == 11) = false := beq_eq_false_iff_ne.mpr (by omega)
  have kb13 : (a.f0 == 13) = false := beq_eq_false_iff_ne.mpr (by omega)
  have HR := Aside0.mk (show after1 nA s t a inp = (s, 0) from by rw [after_reck (by omega), reck, if_neg (by omega), if_neg (by omega), if_neg (by omega), if_neg (by omega), if_neg (by omega), St.setRow_same])
  clear H hm ha kk ev hvc eV hVV
  go_enter Try.func49, Try.ntmps49
  go_wp2_with (first | ((with_reducible refine gate_dst (N := 6) rfl ?_); refine box_event ?hg (N := 6) ?hd (cs := #[.int .i64 a.f0, .int .i64 a.f1, .int .i64 a.f2, .int .i64 a.f3, .int .i64 a.f4, .int .i64 a.f5, .int .i64 a.f6, .int .i64 a.f7, .int .i64 a.f8]) (t := 33) ?hr ?_; (case hd => rfl); (case hg => rfl); (case hr => first | (go_simp; done) | (go_simp; rfl)); intro g6 hgg w1 hlit hb; have HLw1 := Aside0.mk hlit; have HKw1 := Aside0.mk hb; have HGw1 := Aside0.mk hgg; have HB1 := Aside0.mk hb; have HM1 := Aside0.mk (below_read hb HM.out); have hm5 : w1.cell? ⟨pr.bm, 5, none⟩ = some (.slice (some ⟨gv, 0, none⟩) cs.length cv) := (blk_cell HM1.out 5).trans (congrArg some EVV.out); have hvc1 : w1.cell? ⟨gv, t.toNat, none⟩ = some (.slice Av (s.row (4 + 2 * t.toNat)).length cvv) := (pw_cell_below hb HVC.out).trans (congrArg some EV.out); have hy0 : w1.cell? ⟨g6, 0, none⟩ = some (.int .i64 a.f0) := (blk_cell hlit 0).trans rfl; have hy1 : w1.cell? ⟨g6, 1, none⟩ = some (.int .i64 a.f1) := (blk_cell hlit 1).trans rfl; have hy2 : w1.cell? ⟨g6, 2, none⟩ = some (.int .i64 a.f2) := (blk_cell hlit 2).trans rfl; have hy3 : w1.cell? ⟨g6, 3, none⟩ = some (.int .i64 a.f3) := (blk_cell hlit 3).trans rfl; have hy4 : w1.cell? ⟨g6, 4, none⟩ = some (.int .i64 a.f4) := (blk_cell hlit 4).trans rfl; have hy5 : w1.cell? ⟨g6, 5, none⟩ = some (.int .i64 a.f5) := (blk_cell hlit 5).trans rfl; have hy6 : w1.cell? ⟨g6, 6, none⟩ = some (.int .i64 a.f6) := (blk_cell hlit 6).trans rfl; have hy7 : w1.cell? ⟨g6, 7, none⟩ = some (.int .i64 a.f7) := (blk_cell hlit 7).trans rfl; have hy8 : w1.cell? ⟨g6, 8, none⟩ = some (.int .i64 a.f8) := (blk_cell hlit 8).trans rfl; clear hlit hb hgg))
  go_ret2
  exact does_mk HR.out (nxP_plain (by have := HK.out; omega)) rfl (HH.out.below HB1.out) (.of_below HB1.out)
set_option maxHeartbeats 8000000 in
set_option maxRecDepth 100000 in
theorem does_13 (w : World) {lo hi : Nat} {u : RefU} {pr : PhR} {cs : List S49} {nA : Nat} {s : St} (H : RefIn w lo hi u pr cs.length nA s) (t : Int) (h0 : 0 ≤ t) (h1 : t < cs.length) (a : S33) (inp : Int) {nl : Int} (ha : okA (s.row (4 + 2 * t.toNat)).length (s.row 0).length nA (s.row 1).length nl a) (kk : a.f0 = 13) :
    Calls Try.prog 49 #[.pointer (some ⟨pr.bm, 0, none⟩), .int .i64 t, .agg #[.int .i64 a.f0, .int .i64 a.f1, .int .i64 a.f2, .int .i64 a.f3, .int .i64 a.f4, .int .i64 a.f5, .int .i64 a.f6, .int .i64 a.f7, .int .i64 a.f8], .int .i64 inp] w fun e w' => DoesOut w lo hi u pr cs.length nA s t a inp e w' := by
  have hVV := H.slice (4 + 2 * t.toNat)
  obtain ⟨f, hm, -⟩ := H.hm
  have HM := Aside0.mk hm
  have HH := Aside0.mk H
  have HA := Aside0.mk ha
  have HK := Aside0.mk kk
  obtain ⟨gv, cv, ev, hcv, hvc⟩ := H.vcell t h0 h1
  have EVV := Aside0.mk ev
  have HVC := Aside0.mk hvc
  have hcvz : (cs.length : Int) ≤ cv := by omega
  obtain ⟨Av, cvv, eV⟩ := H.slice (4 + 2 * t.toNat)
  rw [rowR_ne _ _ (show (4 + 2 * t.toNat) ≠ 2 by omega)] at eV
  have EV := Aside0.mk eV
  have kb1 : (a.f0 == 1) = false := beq_eq_false_iff_ne.mpr (by omega)
  have kb2 : (a.f0 == 2) = false := beq_eq_false_iff_ne.mpr (by omega)
  have kb3 : (a.f0 == 3) = false := beq_eq_false_iff_ne.mpr (by omega)
  have kb4 : (a.f0 == 4) = false := beq_eq_false_iff_ne.mpr (by omega)
  have kb5 : (a.f0 == 5) = false := beq_eq_false_iff_ne.mpr (by omega)
  have kb6 : (a.f0 == 6) = false := beq_eq_false_iff_ne.mpr (by omega)
  have kb7 : (a.f0 == 7) = false := beq_eq_false_iff_ne.mpr (by omega)
  have kb8 : (a.f0 == 8) = false := beq_eq_false_iff_ne.mpr (by omega)
  have kb9 : (a.f0 == 9) = false := beq_eq_false_iff_ne.mpr (by omega)
  have kb10 : (a.f0 == 10) = false := beq_eq_false_iff_ne.mpr (by omega)
  have kb11 : (a.f0 == 11) = false := beq_eq_false_iff_ne.mpr (by omega)
  have kb13 : (a.f0 == 13) = true := beq_iff_eq.mpr kk
  have HR := Aside0.mk (show after1 nA s t a inp = (s, 10) from by rw [after_reck (by omega), reck, if_neg (by omega), if_neg (by omega), if_neg (by omega), if_neg (by omega), if_pos kk, St.setRow_same])
  clear H hm ha kk ev hvc eV hVV
  go_enter Try.func49, Try.ntmps49
  go_wp2_with (first | ((with_reducible refine gate_dst (N := 6) rfl ?_); refine box_event ?hg (N := 6) ?hd (cs := #[.int .i64 a.f0, .int .i64 a.f1, .int .i64 a.f2, .int .i64 a.f3, .int .i64 a.f4, .int .i64 a.f5, .int .i64 a.f6, .int .i64 a.f7, .int .i64 a.f8]) (t := 33) ?hr ?_; (case hd => rfl); (case hg => rfl); (case hr => first | (go_simp; done) | (go_simp; rfl)); intro g6 hgg w1 hlit hb; have HLw1 := Aside0.mk hlit; have HKw1 := Aside0.mk hb; have HGw1 := Aside0.mk hgg; have HB1 := Aside0.mk hb; have HM1 := Aside0.mk (below_read hb HM.out); have hm5 : w1.cell? ⟨pr.bm, 5, none⟩ = some (.slice (some ⟨gv, 0, none⟩) cs.length cv) := (blk_cell HM1.out 5).trans (congrArg some EVV.out); have hvc1 : w1.cell? ⟨gv, t.toNat, none⟩ = some (.slice Av (s.row (4 + 2 * t.toNat)).length cvv) := (pw_cell_below hb HVC.out).trans (congrArg some EV.out); have hy0 : w1.cell? ⟨g6, 0, none⟩ = some (.int .i64 a.f0) := (blk_cell hlit 0).trans rfl; have hy1 : w1.cell? ⟨g6, 1, none⟩ = some (.int .i64 a.f1) := (blk_cell hlit 1).trans rfl; have hy2 : w1.cell? ⟨g6, 2, none⟩ = some (.int .i64 a.f2) := (blk_cell hlit 2).trans rfl; have hy3 : w1.cell? ⟨g6, 3, none⟩ = some (.int .i64 a.f3) := (blk_cell hlit 3).trans rfl; have hy4 : w1.cell? ⟨g6, 4, none⟩ = some (.int .i64 a.f4) := (blk_cell hlit 4).trans rfl; have hy5 : w1.cell? ⟨g6, 5, none⟩ = some (.int .i64 a.f5) := (blk_cell hlit 5).trans rfl; have hy6 : w1.cell? ⟨g6, 6, none⟩ = some (.int .i64 a.f6) := (blk_cell hlit 6).trans rfl; have hy7 : w1.cell? ⟨g6, 7, none⟩ = some (.int .i64 a.f7) := (blk_cell hlit 7).trans rfl; have hy8 : w1.cell? ⟨g6, 8, none⟩ = some (.int .i64 a.f8) := (blk_cell hlit 8).trans rfl; clear hlit hb hgg))
  go_ret2
  exact does_mk HR.out rfl rfl (HH.out.below HB1.out) (.of_below HB1.out)
set_option maxHeartbeats 8000000 in
set_option maxRecDepth 100000 in
theorem does_9a (w : World) {lo hi : Nat} {u : RefU} {pr : PhR} {cs : List S49} {nA : Nat} {s : St} (H : RefIn w lo hi u pr cs.length nA s) (t : Int) (h0 : 0 ≤ t) (h1 : t < cs.length) (a : S33) (inp : Int) {nl : Int} (ha : okA (s.row (4 + 2 * t.toNat)).length (s.row 0).length nA (s.row 1).length nl a) (kk : a.f0 = 9) (ho1 : rd (s.row 1) a.f4 = t) :
    Calls Try.prog 49 #[.pointer (some ⟨pr.bm, 0, none⟩), .int .i64 t, .agg #[.int .i64 a.f0, .int .i64 a.f1, .int .i64 a.f2, .int .i64 a.f3, .int .i64 a.f4, .int .i64 a.f5, .int .i64 a.f6, .int .i64 a.f7, .int .i64 a.f8], .int .i64 inp] w fun e w' => DoesOut w lo hi u pr cs.length nA s t a inp e w' := by
  have hg0 := (ha.mx (.inl kk)).1
  have hg1 := (ha.mx (.inl kk)).2
  have hOne : 0 < (s.row 1).length := by have := ha.mx (.inl kk); omega
  obtain ⟨f, hm, -⟩ := H.hm
  have HM := Aside0.mk hm
  have HH := Aside0.mk H
  have HA := Aside0.mk ha
  have HK := Aside0.mk kk
  obtain ⟨gv, cv, ev, hcv, hvc⟩ := H.vcell t h0 h1
  have EVV := Aside0.mk ev
  have HVC := Aside0.mk hvc
  have hcvz : (cs.length : Int) ≤ cv := by omega
  obtain ⟨Av, cvv, eV⟩ := H.slice (4 + 2 * t.toNat)
  rw [rowR_ne _ _ (show (4 + 2 * t.toNat) ≠ 2 by omega)] at eV
  have EV := Aside0.mk eV
  obtain ⟨gO, cO, eO, hcO, hloO, hhiO, hltO, hallO⟩ := H.rowAt 1 (by decide) (by have := hOne; omega)
  have EO := Aside0.mk eO
  have HALO := Aside0.mk hallO
  have HLO := Aside0.mk (show lo ≤ gO ∧ gO < hi ∧ gO < w.heap.size from ⟨hloO, hhiO, hltO⟩)
  have kb1 : (a.f0 == 1) = false := beq_eq_false_iff_ne.mpr (by omega)
  have kb2 : (a.f0 == 2) = false := beq_eq_false_iff_ne.mpr (by omega)
  have kb3 : (a.f0 == 3) = false := beq_eq_false_iff_ne.mpr (by omega)
  have kb4 : (a.f0 == 4) = false := beq_eq_false_iff_ne.mpr (by omega)
  have kb5 : (a.f0 == 5) = false := beq_eq_false_iff_ne.mpr (by omega)
  have kb6 : (a.f0 == 6) = false := beq_eq_false_iff_ne.mpr (by omega)
  have kb7 : (a.f0 == 7) = false := beq_eq_false_iff_ne.mpr (by omega)
  have kb8 : (a.f0 == 8) = false := beq_eq_false_iff_ne.mpr (by omega)
  have kb9 : (a.f0 == 9) = true := beq_iff_eq.mpr kk
  have htt : (rd (s.row 1) a.f4 == t) = true := beq_iff_eq.mpr ho1
  have HR := Aside0.mk (show after1 nA s t a inp = (s, 11) from by rw [after_shr (by omega) (by omega), shr, if_neg (by omega), if_neg (by omega), if_neg (by omega), if_pos kk, if_pos ho1])
  clear ho1 H hm ha kk ev hvc eV eO hallO hloO hhiO hltO hOne
  go_enter Try.func49, Try.ntmps49
  go_wp2_with (first | ((with_reducible refine gate_dst (N := 6) rfl ?_); refine box_event ?hg (N := 6) ?hd (cs := #[.int .i64 a.f0, .int .i64 a.f1, .int .i64 a.f2, .int .i64 a.f3, .int .i64 a.f4, .int .i64 a.f5, .int .i64 a.f6, .int .i64 a.f7, .int .i64 a.f8]) (t := 33) ?hr ?_; (case hd => rfl); (case hg => rfl); (case hr => first | (go_simp; done) | (go_simp; rfl)); intro g6 hgg w1 hlit hb; have HLw1 := Aside0.mk hlit; have HKw1 := Aside0.mk hb; have HGw1 := Aside0.mk hgg; have HB1 := Aside0.mk hb; have HM1 := Aside0.mk (below_read hb HM.out); have hm5 : w1.cell? ⟨pr.bm, 5, none⟩ = some (.slice (some ⟨gv, 0, none⟩) cs.length cv) := (blk_cell HM1.out 5).trans (congrArg some EVV.out); have hvc1 : w1.cell? ⟨gv, t.toNat, none⟩ = some (.slice Av (s.row (4 + 2 * t.toNat)).length cvv) := (pw_cell_below hb HVC.out).trans (congrArg some EV.out); have hm8 : w1.cell? ⟨pr.bm, 8, none⟩ = some (.slice (some ⟨gO, 0, none⟩) (s.row 1).length cO) := (blk_cell HM1.out 8).trans (congrArg some EO.out); have hy0 : w1.cell? ⟨g6, 0, none⟩ = some (.int .i64 a.f0) := (blk_cell hlit 0).trans rfl; have hy1 : w1.cell? ⟨g6, 1, none⟩ = some (.int .i64 a.f1) := (blk_cell hlit 1).trans rfl; have hy2 : w1.cell? ⟨g6, 2, none⟩ = some (.int .i64 a.f2) := (blk_cell hlit 2).trans rfl; have hy3 : w1.cell? ⟨g6, 3, none⟩ = some (.int .i64 a.f3) := (blk_cell hlit 3).trans rfl; have hy4 : w1.cell? ⟨g6, 4, none⟩ = some (.int .i64 a.f4) := (blk_cell hlit 4).trans rfl; have hy5 : w1.cell? ⟨g6, 5, none⟩ = some (.int .i64 a.f5) := (blk_cell hlit 5).trans rfl; have hy6 : w1.cell? ⟨g6, 6, none⟩ = some (.int .i64 a.f6) := (blk_cell hlit 6).trans rfl; have hy7 : w1.cell? ⟨g6, 7, none⟩ = some (.int .i64 a.f7) := (blk_cell hlit 7).trans rfl; have hy8 : w1.cell? ⟨g6, 8, none⟩ = some (.int .i64 a.f8) := (blk_cell hlit 8).trans rfl; have ho := (HALO.out w1 hb (a.f4) hg0 hg1).1; clear hlit hb hgg))
  go_quiet (fail)
  have hbq := pw_below_drewN (Below.refl w1.heap.size w1) nq
  have HB2 := Aside0.mk (below_on HB1.out hbq)
  have HL2 := Aside0.mk (below_read hbq HLw1.out)
  clear hbq hm5 hvc1 hm8 hy0 hy1 hy2 hy3 hy4 hy5 hy6 hy7 hy8 ho
  generalize w1.drewN nq = w2 at *
  go_wp2_with fail
  go_ret2
  exact does_mk HR.out rfl rfl (HH.out.below HB2.out) (.of_below HB2.out)
set_option maxHeartbeats 8000000 in
set_option maxRecDepth 100000 in
theorem does_9b (w : World) {lo hi : Nat} {u : RefU} {pr : PhR} {cs : List S49} {nA : Nat} {s : St} (H : RefIn w lo hi u pr cs.length nA s) (t : Int) (h0 : 0 ≤ t) (h1 : t < cs.length) (a : S33) (inp : Int) {nl : Int} (ha : okA (s.row (4 + 2 * t.toNat)).length (s.row 0).length nA (s.row 1).length nl a) (kk : a.f0 = 9) (ho1 : ¬ rd (s.row 1) a.f4 = t) :
    Calls Try.prog 49 #[.pointer (some ⟨pr.bm, 0, none⟩), .int .i64 t, .agg #[.int .i64 a.f0, .int .i64 a.f1, .int .i64 a.f2, .int .i64 a.f3, .int .i64 a.f4, .int .i64 a.f5, .int .i64 a.f6, .int .i64 a.f7, .int .i64 a.f8], .int .i64 inp] w fun e w' => DoesOut w lo hi u pr cs.length nA s t a inp e w' := by
  have hg0 := (ha.mx (.inl kk)).1
  have hg1 := (ha.mx (.inl kk)).2
  have hOne : 0 < (s.row 1).length := by have := ha.mx (.inl kk); omega
  obtain ⟨f, hm, -⟩ := H.hm
  have HM := Aside0.mk hm
  have HH := Aside0.mk H
  have HA := Aside0.mk ha
  have HK := Aside0.mk kk
  obtain ⟨gv, cv, ev, hcv, hvc⟩ := H.vcell t h0 h1
  have EVV := Aside0.mk ev
  have HVC := Aside0.mk hvc
  have hcvz : (cs.length : Int) ≤ cv := by omega
  obtain ⟨Av, cvv, eV⟩ := H.slice (4 + 2 * t.toNat)
  rw [rowR_ne _ _ (show (4 + 2 * t.toNat) ≠ 2 by omega)] at eV
  have EV := Aside0.mk eV
  obtain ⟨gO, cO, eO, hcO, hloO, hhiO, hltO, hallO⟩ := H.rowAt 1 (by decide) (by have := hOne; omega)
  have EO := Aside0.mk eO
  have HALO := Aside0.mk hallO
  have HLO := Aside0.mk (show lo ≤ gO ∧ gO < hi ∧ gO < w.heap.size from ⟨hloO, hhiO, hltO⟩)
  have kb1 : (a.f0 == 1) = false := beq_eq_false_iff_ne.mpr (by omega)
  have kb2 : (a.f0 == 2) = false := beq_eq_false_iff_ne.mpr (by omega)
  have kb3 : (a.f0 == 3) = false := beq_eq_false_iff_ne.mpr (by omega)
  have kb4 : (a.f0 == 4) = false := beq_eq_false_iff_ne.mpr (by omega)
  have kb5 : (a.f0 == 5) = false := beq_eq_false_iff_ne.mpr (by omega)
  have kb6 : (a.f0 == 6) = false := beq_eq_false_iff_ne.mpr (by omega)
  have kb7 : (a.f0 == 7) = false := beq_eq_false_iff_ne.mpr (by omega)
  have kb8 : (a.f0 == 8) = false := beq_eq_false_iff_ne.mpr (by omega)
  have kb9 : (a.f0 == 9) = true := beq_iff_eq.mpr kk
  have htt : (rd (s.row 1) a.f4 == t) = false := beq_eq_false_iff_ne.mpr ho1
  have HR := Aside0.mk (show after1 nA s t a inp = (s.setRow 1 ((s.row 1).set a.f4.toNat t), 0) from by rw [after_shr (by omega) (by omega), shr, if_neg (by omega), if_neg (by omega), if_neg (by omega), if_pos kk, if_neg ho1])
  clear ho1 H hm ha kk ev hvc eV eO hallO hloO hhiO hltO hOne
  go_enter Try.func49, Try.ntmps49
  go_wp2_with (first | ((with_reducible refine gate_dst (N := 6) rfl ?_); refine box_event ?hg (N := 6) ?hd (cs := #[.int .i64 a.f0, .int .i64 a.f1, .int .i64 a.f2, .int .i64 a.f3, .int .i64 a.f4, .int .i64 a.f5, .int .i64 a.f6, .int .i64 a.f7, .int .i64 a.f8]) (t := 33) ?hr ?_; (case hd => rfl); (case hg => rfl); (case hr => first | (go_simp; done) | (go_simp; rfl)); intro g6 hgg w1 hlit hb; have HLw1 := Aside0.mk hlit; have HKw1 := Aside0.mk hb; have HGw1 := Aside0.mk hgg; have HB1 := Aside0.mk hb; have HM1 := Aside0.mk (below_read hb HM.out); have hm5 : w1.cell? ⟨pr.bm, 5, none⟩ = some (.slice (some ⟨gv, 0, none⟩) cs.length cv) := (blk_cell HM1.out 5).trans (congrArg some EVV.out); have hvc1 : w1.cell? ⟨gv, t.toNat, none⟩ = some (.slice Av (s.row (4 + 2 * t.toNat)).length cvv) := (pw_cell_below hb HVC.out).trans (congrArg some EV.out); have hm8 : w1.cell? ⟨pr.bm, 8, none⟩ = some (.slice (some ⟨gO, 0, none⟩) (s.row 1).length cO) := (blk_cell HM1.out 8).trans (congrArg some EO.out); have hy0 : w1.cell? ⟨g6, 0, none⟩ = some (.int .i64 a.f0) := (blk_cell hlit 0).trans rfl; have hy1 : w1.cell? ⟨g6, 1, none⟩ = some (.int .i64 a.f1) := (blk_cell hlit 1).trans rfl; have hy2 : w1.cell? ⟨g6, 2, none⟩ = some (.int .i64 a.f2) := (blk_cell hlit 2).trans rfl; have hy3 : w1.cell? ⟨g6, 3, none⟩ = some (.int .i64 a.f3) := (blk_cell hlit 3).trans rfl; have hy4 : w1.cell? ⟨g6, 4, none⟩ = some (.int .i64 a.f4) := (blk_cell hlit 4).trans rfl; have hy5 : w1.cell? ⟨g6, 5, none⟩ = some (.int .i64 a.f5) := (blk_cell hlit 5).trans rfl; have hy6 : w1.cell? ⟨g6, 6, none⟩ = some (.int .i64 a.f6) := (blk_cell hlit 6).trans rfl; have hy7 : w1.cell? ⟨g6, 7, none⟩ = some (.int .i64 a.f7) := (blk_cell hlit 7).trans rfl; have hy8 : w1.cell? ⟨g6, 8, none⟩ = some (.int .i64 a.f8) := (blk_cell hlit 8).trans rfl; have ho := (HALO.out w1 hb (a.f4) hg0 hg1).1; clear hlit hb hgg))
  go_quiet (fail)
  have hbq := pw_below_drewN (Below.refl w1.heap.size w1) nq
  have HB2 := Aside0.mk (below_on HB1.out hbq)
  have HL2 := Aside0.mk (below_read hbq HLw1.out)
  clear hbq hm5 hvc1 hm8 hy0 hy1 hy2 hy3 hy4 hy5 hy6 hy7 hy8 ho
  generalize w1.drewN nq = w2 at *
  have HM2 := Aside0.mk (below_read HB2.out HM.out)
  have hm8 : w2.cell? ⟨pr.bm, 8, none⟩ = some (.slice (some ⟨gO, 0, none⟩) (s.row 1).length cO) := (blk_cell HM2.out 8).trans (congrArg some EO.out)
  have hy0 : w2.cell? ⟨g6, 0, none⟩ = some (.int .i64 a.f0) := (blk_cell HL2.out 0).trans rfl
  have hy1 : w2.cell? ⟨g6, 1, none⟩ = some (.int .i64 a.f1) := (blk_cell HL2.out 1).trans rfl
  have hy2 : w2.cell? ⟨g6, 2, none⟩ = some (.int .i64 a.f2) := (blk_cell HL2.out 2).trans rfl
  have hy3 : w2.cell? ⟨g6, 3, none⟩ = some (.int .i64 a.f3) := (blk_cell HL2.out 3).trans rfl
  have hy4 : w2.cell? ⟨g6, 4, none⟩ = some (.int .i64 a.f4) := (blk_cell HL2.out 4).trans rfl
  have hy5 : w2.cell? ⟨g6, 5, none⟩ = some (.int .i64 a.f5) := (blk_cell HL2.out 5).trans rfl
  have hy6 : w2.cell? ⟨g6, 6, none⟩ = some (.int .i64 a.f6) := (blk_cell HL2.out 6).trans rfl
  have hy7 : w2.cell? ⟨g6, 7, none⟩ = some (.int .i64 a.f7) := (blk_cell HL2.out 7).trans rfl
  have hy8 : w2.cell? ⟨g6, 8, none⟩ = some (.int .i64 a.f8) := (blk_cell HL2.out 8).trans rfl
  have hwq := (HALO.out w2 HB2.out (a.f4) hg0 hg1).1
  have hwf := (HALO.out w2 HB2.out (a.f4) hg0 hg1).2
  have hz7 : (w2.setCell ⟨gO, (a.f4).toNat, none⟩ (.int .i64 (t))).cell? ⟨g6, 7, none⟩ = some (.int .i64 a.f7) := (blk_cell (blk_far HL2.out (show g6 ≠ (⟨gO, (a.f4).toNat, none⟩ : Addr).block from fun e => absurd HLO.out.2.2 (by rw [← show g6 = gO from e, HGw1.out]; exact Nat.lt_irrefl _)) _) 7).trans rfl
  go_wp2_with fail
  go_still_tail 8, (by kernel_rfl)
  change wpList _ _ _ _ _ w2.drew
  go_wp2_with fail
  go_ret2
  have HX := HH.out.wrote HB2.out 1 (by decide) EO.out (a.f4) (t)
  exact does_mk HR.out (nxP_plain (by have := HK.out; omega)) rfl (HX.1.below (drew_below _)) (HX.2.trans (.of_below (drew_below _)))
set_option maxHeartbeats 8000000 in
set_option maxRecDepth 100000 in
theorem does_10a (w : World) {lo hi : Nat} {u : RefU} {pr : PhR} {cs : List S49} {nA : Nat} {s : St} (H : RefIn w lo hi u pr cs.length nA s) (t : Int) (h0 : 0 ≤ t) (h1 : t < cs.length) (a : S33) (inp : Int) {nl : Int} (ha : okA (s.row (4 + 2 * t.toNat)).length (s.row 0).length nA (s.row 1).length nl a) (kk : a.f0 = 10) (ho1 : ¬ rd (s.row 1) a.f4 = t) :
    Calls Try.prog 49 #[.pointer (some ⟨pr.bm, 0, none⟩), .int .i64 t, .agg #[.int .i64 a.f0, .int .i64 a.f1, .int .i64 a.f2, .int .i64 a.f3, .int .i64 a.f4, .int .i64 a.f5, .int .i64 a.f6, .int .i64 a.f7, .int .i64 a.f8], .int .i64 inp] w fun e w' => DoesOut w lo hi u pr cs.length nA s t a inp e w' := by
  have hg0 := (ha.mx (.inr kk)).1
  have hg1 := (ha.mx (.inr kk)).2
  have hOne : 0 < (s.row 1).length := by have := ha.mx (.inr kk); omega
  obtain ⟨f, hm, -⟩ := H.hm
  have HM := Aside0.mk hm
  have HH := Aside0.mk H
  have HA := Aside0.mk ha
  have HK := Aside0.mk kk
  obtain ⟨gv, cv, ev, hcv, hvc⟩ := H.vcell t h0 h1
  have EVV := Aside0.mk ev
  have HVC := Aside0.mk hvc
  have hcvz : (cs.length : Int) ≤ cv := by omega
  obtain ⟨Av, cvv, eV⟩ := H.slice (4 + 2 * t.toNat)
  rw [rowR_ne _ _ (show (4 + 2 * t.toNat) ≠ 2 by omega)] at eV
  have EV := Aside0.mk eV
  obtain ⟨gO, cO, eO, hcO, hloO, hhiO, hltO, hallO⟩ := H.rowAt 1 (by decide) (by have := hOne; omega)
  have EO := Aside0.mk eO
  have HALO := Aside0.mk hallO
  have HLO := Aside0.mk (show lo ≤ gO ∧ gO < hi ∧ gO < w.heap.size from ⟨hloO, hhiO, hltO⟩)
  have kb1 : (a.f0 == 1) = false := beq_eq_false_iff_ne.mpr (by omega)
  have kb2 : (a.f0 == 2) = false := beq_eq_false_iff_ne.mpr (by omega)
  have kb3 : (a.f0 == 3) = false := beq_eq_false_iff_ne.mpr (by omega)
  have kb4 : (a.f0 == 4) = false := beq_eq_false_iff_ne.mpr (by omega)
  have kb5 : (a.f0 == 5) = false := beq_eq_false_iff_ne.mpr (by omega)
  have kb6 : (a.f0 == 6) = false := beq_eq_false_iff_ne.mpr (by omega)
  have kb7 : (a.f0 == 7) = false := beq_eq_false_iff_ne.mpr (by omega)
  have kb8 : (a.f0 == 8) = false := beq_eq_false_iff_ne.mpr (by omega)
  have kb9 : (a.f0 == 9) = false := beq_eq_false_iff_ne.mpr (by omega)
  have kb10 : (a.f0 == 10) = true := beq_iff_eq.mpr kk
  have htt : (rd (s.row 1) a.f4 != t) = true := bne_iff_ne.mpr ho1
  have HR := Aside0.mk (show after1 nA s t a inp = (s, 12) from by rw [after_shr (by omega) (by omega), shr, if_neg (by omega), if_neg (by omega), if_neg (by omega), if_neg (by omega), if_pos kk, if_neg ho1])
  clear ho1 H hm ha kk ev hvc eV eO hallO hloO hhiO hltO hOne
  go_enter Try.func49, Try.ntmps49
  go_wp2_with (first | ((with_reducible refine gate_dst (N := 6) rfl ?_); refine box_event ?hg (N := 6) ?hd (cs := #[.int .i64 a.f0, .int .i64 a.f1, .int .i64 a.f2, .int .i64 a.f3, .int .i64 a.f4, .int .i64 a.f5, .int .i64 a.f6, .int .i64 a.f7, .int .i64 a.f8]) (t := 33) ?hr ?_; (case hd => rfl); (case hg => rfl); (case hr => first | (go_simp; done) | (go_simp; rfl)); intro g6 hgg w1 hlit hb; have HLw1 := Aside0.mk hlit; have HKw1 := Aside0.mk hb; have HGw1 := Aside0.mk hgg; have HB1 := Aside0.mk hb; have HM1 := Aside0.mk (below_read hb HM.out); have hm5 : w1.cell? ⟨pr.bm, 5, none⟩ = some (.slice (some ⟨gv, 0, none⟩) cs.length cv) := (blk_cell HM1.out 5).trans (congrArg some EVV.out); have hvc1 : w1.cell? ⟨gv, t.toNat, none⟩ = some (.slice Av (s.row (4 + 2 * t.toNat)).length cvv) := (pw_cell_below hb HVC.out).trans (congrArg some EV.out); have hm8 : w1.cell? ⟨pr.bm, 8, none⟩ = some (.slice (some ⟨gO, 0, none⟩) (s.row 1).length cO) := (blk_cell HM1.out 8).trans (congrArg some EO.out); have hy0 : w1.cell? ⟨g6, 0, none⟩ = some (.int .i64 a.f0) := (blk_cell hlit 0).trans rfl; have hy1 : w1.cell? ⟨g6, 1, none⟩ = some (.int .i64 a.f1) := (blk_cell hlit 1).trans rfl; have hy2 : w1.cell? ⟨g6, 2, none⟩ = some (.int .i64 a.f2) := (blk_cell hlit 2).trans rfl; have hy3 : w1.cell? ⟨g6, 3, none⟩ = some (.int .i64 a.f3) := (blk_cell hlit 3).trans rfl; have hy4 : w1.cell? ⟨g6, 4, none⟩ = some (.int .i64 a.f4) := (blk_cell hlit 4).trans rfl; have hy5 : w1.cell? ⟨g6, 5, none⟩ = some (.int .i64 a.f5) := (blk_cell hlit 5).trans rfl; have hy6 : w1.cell? ⟨g6, 6, none⟩ = some (.int .i64 a.f6) := (blk_cell hlit 6).trans rfl; have hy7 : w1.cell? ⟨g6, 7, none⟩ = some (.int .i64 a.f7) := (blk_cell hlit 7).trans rfl; have hy8 : w1.cell? ⟨g6, 8, none⟩ = some (.int .i64 a.f8) := (blk_cell hlit 8).trans rfl; have ho := (HALO.out w1 hb (a.f4) hg0 hg1).1; clear hlit hb hgg))
  go_quiet (fail)
  have hbq := pw_below_drewN (Below.refl w1.heap.size w1) nq
  have HB2 := Aside0.mk (below_on HB1.out hbq)
  have HL2 := Aside0.mk (below_read hbq HLw1.out)
  clear hbq hm5 hvc1 hm8 hy0 hy1 hy2 hy3 hy4 hy5 hy6 hy7 hy8 ho
  generalize w1.drewN nq = w2 at *
  go_wp2_with fail
  go_ret2
  exact does_mk HR.out rfl rfl (HH.out.below HB2.out) (.of_below HB2.out)
set_option maxHeartbeats 8000000 in
set_option maxRecDepth 100000 in
theorem does_10b (w : World) {lo hi : Nat} {u : RefU} {pr : PhR} {cs : List S49} {nA : Nat} {s : St} (H : RefIn w lo hi u pr cs.length nA s) (t : Int) (h0 : 0 ≤ t) (h1 : t < cs.length) (a : S33) (inp : Int) {nl : Int} (ha : okA (s.row (4 + 2 * t.toNat)).length (s.row 0).length nA (s.row 1).length nl a) (kk : a.f0 = 10) (ho1 : rd (s.row 1) a.f4 = t) :
    Calls Try.prog 49 #[.pointer (some ⟨pr.bm, 0, none⟩), .int .i64 t, .agg #[.int .i64 a.f0, .int .i64 a.f1, .int .i64 a.f2, .int .i64 a.f3, .int .i64 a.f4, .int .i64 a.f5, .int .i64 a.f6, .int .i64 a.f7, .int .i64 a.f8], .int .i64 inp] w fun e w' => DoesOut w lo hi u pr cs.length nA s t a inp e w' := by
  have hg0 := (ha.mx (.inr kk)).1
  have hg1 := (ha.mx (.inr kk)).2
  have hOne : 0 < (s.row 1).length := by have := ha.mx (.inr kk); omega
  obtain ⟨f, hm, -⟩ := H.hm
  have HM := Aside0.mk hm
  have HH := Aside0.mk H
  have HA := Aside0.mk ha
  have HK := Aside0.mk kk
  obtain ⟨gv, cv, ev, hcv, hvc⟩ := H.vcell t h0 h1
  have EVV := Aside0.mk ev
  have HVC := Aside0.mk hvc
  have hcvz : (cs.length : Int) ≤ cv := by omega
  obtain ⟨Av, cvv, eV⟩ := H.slice (4 + 2 * t.toNat)
  rw [rowR_ne _ _ (show (4 + 2 * t.toNat) ≠ 2 by omega)] at eV
  have EV := Aside0.mk eV
  obtain ⟨gO, cO, eO, hcO, hloO, hhiO, hltO, hallO⟩ := H.rowAt 1 (by decide) (by have := hOne; omega)
  have EO := Aside0.mk eO
  have HALO := Aside0.mk hallO
  have HLO := Aside0.mk (show lo ≤ gO ∧ gO < hi ∧ gO < w.heap.size from ⟨hloO, hhiO, hltO⟩)
  have kb1 : (a.f0 == 1) = false := beq_eq_false_iff_ne.mpr (by omega)
  have kb2 : (a.f0 == 2) = false := beq_eq_false_iff_ne.mpr (by omega)
  have kb3 : (a.f0 == 3) = false := beq_eq_false_iff_ne.mpr (by omega)
  have kb4 : (a.f0 == 4) = false := beq_eq_false_iff_ne.mpr (by omega)
  have kb5 : (a.f0 == 5) = false := beq_eq_false_iff_ne.mpr (by omega)
  have kb6 : (a.f0 == 6) = false := beq_eq_false_iff_ne.mpr (by omega)
  have kb7 : (a.f0 == 7) = false := beq_eq_false_iff_ne.mpr (by omega)
  have kb8 : (a.f0 == 8) = false := beq_eq_false_iff_ne.mpr (by omega)
  have kb9 : (a.f0 == 9) = false := beq_eq_false_iff_ne.mpr (by omega)
  have kb10 : (a.f0 == 10) = true := beq_iff_eq.mpr kk
  have htt : (rd (s.row 1) a.f4 != t) = false := bne_eq_false_iff_eq.mpr ho1
  have HR := Aside0.mk (show after1 nA s t a inp = (s.setRow 1 ((s.row 1).set a.f4.toNat (-1)), 0) from by rw [after_shr (by omega) (by omega), shr, if_neg (by omega), if_neg (by omega), if_neg (by omega), if_neg (by omega), if_pos kk, if_pos ho1])
  clear ho1 H hm ha kk ev hvc eV eO hallO hloO hhiO hltO hOne
  go_enter Try.func49, Try.ntmps49
  go_wp2_with (first | ((with_reducible refine gate_dst (N := 6) rfl ?_); refine box_event ?hg (N := 6) ?hd (cs := #[.int .i64 a.f0, .int .i64 a.f1, .int .i64 a.f2, .int .i64 a.f3, .int .i64 a.f4, .int .i64 a.f5, .int .i64 a.f6, .int .i64 a.f7, .int .i64 a.f8]) (t := 33) ?hr ?_; (case hd => rfl); (case hg => rfl); (case hr => first | (go_simp; done) | (go_simp; rfl)); intro g6 hgg w1 hlit hb; have HLw1 := Aside0.mk hlit; have HKw1 := Aside0.mk hb; have HGw1 := Aside0.mk hgg; have HB1 := Aside0.mk hb; have HM1 := Aside0.mk (below_read hb HM.out); have hm5 : w1.cell? ⟨pr.bm, 5, none⟩ = some (.slice (some ⟨gv, 0, none⟩) cs.length cv) := (blk_cell HM1.out 5).trans (congrArg some EVV.out); have hvc1 : w1.cell? ⟨gv, t.toNat, none⟩ = some (.slice Av (s.row (4 + 2 * t.toNat)).length cvv) := (pw_cell_below hb HVC.out).trans (congrArg some EV.out); have hm8 : w1.cell? ⟨pr.bm, 8, none⟩ = some (.slice (some ⟨gO, 0, none⟩) (s.row 1).length cO) := (blk_cell HM1.out 8).trans (congrArg some EO.out); have hy0 : w1.cell? ⟨g6, 0, none⟩ = some (.int .i64 a.f0) := (blk_cell hlit 0).trans rfl; have hy1 : w1.cell? ⟨g6, 1, none⟩ = some (.int .i64 a.f1) := (blk_cell hlit 1).trans rfl; have hy2 : w1.cell? ⟨g6, 2, none⟩ = some (.int .i64 a.f2) := (blk_cell hlit 2).trans rfl; have hy3 : w1.cell? ⟨g6, 3, none⟩ = some (.int .i64 a.f3) := (blk_cell hlit 3).trans rfl; have hy4 : w1.cell? ⟨g6, 4, none⟩ = some (.int .i64 a.f4) := (blk_cell hlit 4).trans rfl; have hy5 : w1.cell? ⟨g6, 5, none⟩ = some (.int .i64 a.f5) := (blk_cell hlit 5).trans rfl; have hy6 : w1.cell? ⟨g6, 6, none⟩ = some (.int .i64 a.f6) := (blk_cell hlit 6).trans rfl; have hy7 : w1.cell? ⟨g6, 7, none⟩ = some (.int .i64 a.f7) := (blk_cell hlit 7).trans rfl; have hy8 : w1.cell? ⟨g6, 8, none⟩ = some (.int .i64 a.f8) := (blk_cell hlit 8).trans rfl; have ho := (HALO.out w1 hb (a.f4) hg0 hg1).1; clear hlit hb hgg))
  go_quiet (fail)
  have hbq := pw_below_drewN (Below.refl w1.heap.size w1) nq
  have HB2 := Aside0.mk (below_on HB1.out hbq)
  have HL2 := Aside0.mk (below_read hbq HLw1.out)
  clear hbq hm5 hvc1 hm8 hy0 hy1 hy2 hy3 hy4 hy5 hy6 hy7 hy8 ho
  generalize w1.drewN nq = w2 at *
  have HM2 := Aside0.mk (below_read HB2.out HM.out)
  have hm8 : w2.cell? ⟨pr.bm, 8, none⟩ = some (.slice (some ⟨gO, 0, none⟩) (s.row 1).length cO) := (blk_cell HM2.out 8).trans (congrArg some EO.out)
  have hy0 : w2.cell? ⟨g6, 0, none⟩ = some (.int .i64 a.f0) := (blk_cell HL2.out 0).trans rfl
  have hy1 : w2.cell? ⟨g6, 1, none⟩ = some (.int .i64 a.f1) := (blk_cell HL2.out 1).trans rfl
  have hy2 : w2.cell? ⟨g6, 2, none⟩ = some (.int .i64 a.f2) := (blk_cell HL2.out 2).trans rfl
  have hy3 : w2.cell? ⟨g6, 3, none⟩ = some (.int .i64 a.f3) := (blk_cell HL2.out 3).trans rfl
  have hy4 : w2.cell? ⟨g6, 4, none⟩ = some (.int .i64 a.f4) := (blk_cell HL2.out 4).trans rfl
  have hy5 : w2.cell? ⟨g6, 5, none⟩ = some (.int .i64 a.f5) := (blk_cell HL2.out 5).trans rfl
  have hy6 : w2.cell? ⟨g6, 6, none⟩ = some (.int .i64 a.f6) := (blk_cell HL2.out 6).trans rfl
  have hy7 : w2.cell? ⟨g6, 7, none⟩ = some (.int .i64 a.f7) := (blk_cell HL2.out 7).trans rfl
  have hy8 : w2.cell? ⟨g6, 8, none⟩ = some (.int .i64 a.f8) := (blk_cell HL2.out 8).trans rfl
  have hwq := (HALO.out w2 HB2.out (a.f4) hg0 hg1).1
  have hwf := (HALO.out w2 HB2.out (a.f4) hg0 hg1).2
  have hz7 : (w2.setCell ⟨gO, (a.f4).toNat, none⟩ (.int .i64 (-1))).cell? ⟨g6, 7, none⟩ = some (.int .i64 a.f7) := (blk_cell (blk_far HL2.out (show g6 ≠ (⟨gO, (a.f4).toNat, none⟩ : Addr).block from fun e => absurd HLO.out.2.2 (by rw [← show g6 = gO from e, HGw1.out]; exact Nat.lt_irrefl _)) _) 7).trans rfl
  go_wp2_with fail
  go_still_tail 6, (by kernel_rfl)
  change wpList _ _ _ _ _ w2.drew
  go_wp2_with fail
  go_ret2
  have HX := HH.out.wrote HB2.out 1 (by decide) EO.out (a.f4) (-1)
  exact does_mk HR.out (nxP_plain (by have := HK.out; omega)) rfl (HX.1.below (drew_below _)) (HX.2.trans (.of_below (drew_below _)))
set_option maxHeartbeats 8000000 in
set_option maxRecDepth 100000 in
theorem does_11t (w : World) {lo hi : Nat} {u : RefU} {pr : PhR} {cs : List S49} {nA : Nat} {s : St} (H : RefIn w lo hi u pr cs.length nA s) (t : Int) (h0 : 0 ≤ t) (h1 : t < cs.length) (a : S33) (inp : Int) {nl : Int} (ha : okA (s.row (4 + 2 * t.toNat)).length (s.row 0).length nA (s.row 1).length nl a) (kk : a.f0 = 11) (hrel : relP a.f6 (rd (s.row (4 + 2 * t.toNat)) a.f2) (rd (s.row (4 + 2 * t.toNat)) a.f3) = true) :
    Calls Try.prog 49 #[.pointer (some ⟨pr.bm, 0, none⟩), .int .i64 t, .agg #[.int .i64 a.f0, .int .i64 a.f1, .int .i64 a.f2, .int .i64 a.f3, .int .i64 a.f4, .int .i64 a.f5, .int .i64 a.f6, .int .i64 a.f7, .int .i64 a.f8], .int .i64 inp] w fun e w' => DoesOut w lo hi u pr cs.length nA s t a inp e w' := by
  have hx0 := (ha.x (.inr (.inr (.inr (.inr (.inr kk)))))).1
  have hx1 := (ha.x (.inr (.inr (.inr (.inr (.inr kk)))))).2
  have hyy0 := (ha.y (.inr (.inr kk))).1
  have hyy1 := (ha.y (.inr (.inr kk))).2
  have hVne : 0 < (s.row (4 + 2 * t.toNat)).length := by omega
  obtain ⟨f, hm, -⟩ := H.hm
  have HM := Aside0.mk hm
  have HH := Aside0.mk H
  have HA := Aside0.mk ha
  have HK := Aside0.mk kk
  obtain ⟨gv, cv, ev, hcv, hvc⟩ := H.vcell t h0 h1
  have EVV := Aside0.mk ev
  have HVC := Aside0.mk hvc
  have hcvz : (cs.length : Int) ≤ cv := by omega
  obtain ⟨gV, cV, eV, hcV, hloV, hhiV, hltV, hallV⟩ := H.rowAt (4 + 2 * t.toNat) (by omega) (by have := hVne; omega)
  have EV := Aside0.mk eV
  have HALV := Aside0.mk hallV
  have HLV := Aside0.mk (show lo ≤ gV ∧ gV < hi ∧ gV < w.heap.size from ⟨hloV, hhiV, hltV⟩)
  have kb1 : (a.f0 == 1) = false := beq_eq_false_iff_ne.mpr (by omega)
  have kb2 : (a.f0 == 2) = false := beq_eq_false_iff_ne.mpr (by omega)
  have kb3 : (a.f0 == 3) = false := beq_eq_false_iff_ne.mpr (by omega)
  have kb4 : (a.f0 == 4) = false := beq_eq_false_iff_ne.mpr (by omega)
  have kb5 : (a.f0 == 5) = false := beq_eq_false_iff_ne.mpr (by omega)
  have kb6 : (a.f0 == 6) = false := beq_eq_false_iff_ne.mpr (by omega)
  have kb7 : (a.f0 == 7) = false := beq_eq_false_iff_ne.mpr (by omega)
  have kb8 : (a.f0 == 8) = false := beq_eq_false_iff_ne.mpr (by omega)
  have kb9 : (a.f0 == 9) = false := beq_eq_false_iff_ne.mpr (by omega)
  have kb10 : (a.f0 == 10) = false := beq_eq_false_iff_ne.mpr (by omega)
  have kb11 : (a.f0 == 11) = true := beq_iff_eq.mpr kk
  have HR := Aside0.mk (show after1 nA s t a inp = (s, 0) from by rw [after_reck (by omega), reck, if_neg (by omega), if_neg (by omega), if_neg (by omega), if_neg (by omega), if_neg (by omega), St.setRow_same])
  have HREL := Aside0.mk hrel
  clear hrel H hm ha kk ev hvc eV hallV hloV hhiV hltV hVne
  go_enter Try.func49, Try.ntmps49
  go_wp2_with (first | ((with_reducible refine gate_dst (N := 6) rfl ?_); refine box_event ?hg (N := 6) ?hd (cs := #[.int .i64 a.f0, .int .i64 a.f1, .int .i64 a.f2, .int .i64 a.f3, .int .i64 a.f4, .int .i64 a.f5, .int .i64 a.f6, .int .i64 a.f7, .int .i64 a.f8]) (t := 33) ?hr ?_; (case hd => rfl); (case hg => rfl); (case hr => first | (go_simp; done) | (go_simp; rfl)); intro g6 hgg w1 hlit hb; have HLw1 := Aside0.mk hlit; have HKw1 := Aside0.mk hb; have HGw1 := Aside0.mk hgg; have HB1 := Aside0.mk hb; have HM1 := Aside0.mk (below_read hb HM.out); have hm5 : w1.cell? ⟨pr.bm, 5, none⟩ = some (.slice (some ⟨gv, 0, none⟩) cs.length cv) := (blk_cell HM1.out 5).trans (congrArg some EVV.out); have hvc1 : w1.cell? ⟨gv, t.toNat, none⟩ = some (.slice (some ⟨gV, 0, none⟩) (s.row (4 + 2 * t.toNat)).length cV) := (pw_cell_below hb HVC.out).trans (congrArg some EV.out); have hy0 : w1.cell? ⟨g6, 0, none⟩ = some (.int .i64 a.f0) := (blk_cell hlit 0).trans rfl; have hy1 : w1.cell? ⟨g6, 1, none⟩ = some (.int .i64 a.f1) := (blk_cell hlit 1).trans rfl; have hy2 : w1.cell? ⟨g6, 2, none⟩ = some (.int .i64 a.f2) := (blk_cell hlit 2).trans rfl; have hy3 : w1.cell? ⟨g6, 3, none⟩ = some (.int .i64 a.f3) := (blk_cell hlit 3).trans rfl; have hy4 : w1.cell? ⟨g6, 4, none⟩ = some (.int .i64 a.f4) := (blk_cell hlit 4).trans rfl; have hy5 : w1.cell? ⟨g6, 5, none⟩ = some (.int .i64 a.f5) := (blk_cell hlit 5).trans rfl; have hy6 : w1.cell? ⟨g6, 6, none⟩ = some (.int .i64 a.f6) := (blk_cell hlit 6).trans rfl; have hy7 : w1.cell? ⟨g6, 7, none⟩ = some (.int .i64 a.f7) := (blk_cell hlit 7).trans rfl; have hy8 : w1.cell? ⟨g6, 8, none⟩ = some (.int .i64 a.f8) := (blk_cell hlit 8).trans rfl; have hx := (HALV.out w1 hb (a.f2) hx0 hx1).1; have hw := (HALV.out w1 hb (a.f3) hyy0 hyy1).1; clear hlit hb hgg))
  go_still_tail 12, (by kernel_rfl)
  change wpList _ _ _ _ _ w1.drew
  go_wp2_with (go_at_call 66; (refine (rrel_calls _ _ _ HREL.out _).mono ?_); rintro e w2 ⟨rfl, hd⟩; have HB2 := Aside0.mk (below_on (below_drew HB1.out) hd.below); have hy7 := (blk_cell (below_read hd.below (HLw1.out : w1.drew.heap[g6]? = _)) 7).trans rfl; clear hd)
  go_ret2
  exact does_mk HR.out (by rw [if_pos rfl]; unfold nxP; rw [HREL.out]; exact if_neg (fun h => by cases h.2)) rfl (HH.out.below HB2.out) (.of_below HB2.out)
set_option maxHeartbeats 8000000 in
set_option maxRecDepth 100000 in
theorem does_11f (w : World) {lo hi : Nat} {u : RefU} {pr : PhR} {cs : List S49} {nA : Nat} {s : St} (H : RefIn w lo hi u pr cs.length nA s) (t : Int) (h0 : 0 ≤ t) (h1 : t < cs.length) (a : S33) (inp : Int) {nl : Int} (ha : okA (s.row (4 + 2 * t.toNat)).length (s.row 0).length nA (s.row 1).length nl a) (kk : a.f0 = 11) (hrel : relP a.f6 (rd (s.row (4 + 2 * t.toNat)) a.f2) (rd (s.row (4 + 2 * t.toNat)) a.f3) = false) :
    Calls Try.prog 49 #[.pointer (some ⟨pr.bm, 0, none⟩), .int .i64 t, .agg #[.int .i64 a.f0, .int .i64 a.f1, .int .i64 a.f2, .int .i64 a.f3, .int .i64 a.f4, .int .i64 a.f5, .int .i64 a.f6, .int .i64 a.f7, .int .i64 a.f8], .int .i64 inp] w fun e w' => DoesOut w lo hi u pr cs.length nA s t a inp e w' := by
  have hx0 := (ha.x (.inr (.inr (.inr (.inr (.inr kk)))))).1
  have hx1 := (ha.x (.inr (.inr (.inr (.inr (.inr kk)))))).2
  have hyy0 := (ha.y (.inr (.inr kk))).1
  have hyy1 := (ha.y (.inr (.inr kk))).2
  have hVne : 0 < (s.row (4 + 2 * t.toNat)).length := by omega
  obtain ⟨f, hm, -⟩ := H.hm
  have HM := Aside0.mk hm
  have HH := Aside0.mk H
  have HA := Aside0.mk ha
  have HK := Aside0.mk kk
  obtain ⟨gv, cv, ev, hcv, hvc⟩ := H.vcell t h0 h1
  have EVV := Aside0.mk ev
  have HVC := Aside0.mk hvc
  have hcvz : (cs.length : Int) ≤ cv := by omega
  obtain ⟨gV, cV, eV, hcV, hloV, hhiV, hltV, hallV⟩ := H.rowAt (4 + 2 * t.toNat) (by omega) (by have := hVne; omega)
  have EV := Aside0.mk eV
  have HALV := Aside0.mk hallV
  have HLV := Aside0.mk (show lo ≤ gV ∧ gV < hi ∧ gV < w.heap.size from ⟨hloV, hhiV, hltV⟩)
  have kb1 : (a.f0 == 1) = false := beq_eq_false_iff_ne.mpr (by omega)
  have kb2 : (a.f0 == 2) = false := beq_eq_false_iff_ne.mpr (by omega)
  have kb3 : (a.f0 == 3) = false := beq_eq_false_iff_ne.mpr (by omega)
  have kb4 : (a.f0 == 4) = false := beq_eq_false_iff_ne.mpr (by omega)
  have kb5 : (a.f0 == 5) = false := beq_eq_false_iff_ne.mpr (by omega)
  have kb6 : (a.f0 == 6) = false := beq_eq_false_iff_ne.mpr (by omega)
  have kb7 : (a.f0 == 7) = false := beq_eq_false_iff_ne.mpr (by omega)
  have kb8 : (a.f0 == 8) = false := beq_eq_false_iff_ne.mpr (by omega)
  have kb9 : (a.f0 == 9) = false := beq_eq_false_iff_ne.mpr (by omega)
  have kb10 : (a.f0 == 10) = false := beq_eq_false_iff_ne.mpr (by omega)
  have kb11 : (a.f0 == 11) = true := beq_iff_eq.mpr kk
  have HR := Aside0.mk (show after1 nA s t a inp = (s, 0) from by rw [after_reck (by omega), reck, if_neg (by omega), if_neg (by omega), if_neg (by omega), if_neg (by omega), if_neg (by omega), St.setRow_same])
  have HREL := Aside0.mk hrel
  clear hrel H hm ha kk ev hvc eV hallV hloV hhiV hltV hVne
  go_enter Try.func49, Try.ntmps49
  go_wp2_with (first | ((with_reducible refine gate_dst (N := 6) rfl ?_); refine box_event ?hg (N := 6) ?hd (cs := #[.int .i64 a.f0, .int .i64 a.f1, .int .i64 a.f2, .int .i64 a.f3, .int .i64 a.f4, .int .i64 a.f5, .int .i64 a.f6, .int .i64 a.f7, .int .i64 a.f8]) (t := 33) ?hr ?_; (case hd => rfl); (case hg => rfl); (case hr => first | (go_simp; done) | (go_simp; rfl)); intro g6 hgg w1 hlit hb; have HLw1 := Aside0.mk hlit; have HKw1 := Aside0.mk hb; have HGw1 := Aside0.mk hgg; have HB1 := Aside0.mk hb; have HM1 := Aside0.mk (below_read hb HM.out); have hm5 : w1.cell? ⟨pr.bm, 5, none⟩ = some (.slice (some ⟨gv, 0, none⟩) cs.length cv) := (blk_cell HM1.out 5).trans (congrArg some EVV.out); have hvc1 : w1.cell? ⟨gv, t.toNat, none⟩ = some (.slice (some ⟨gV, 0, none⟩) (s.row (4 + 2 * t.toNat)).length cV) := (pw_cell_below hb HVC.out).trans (congrArg some EV.out); have hy0 : w1.cell? ⟨g6, 0, none⟩ = some (.int .i64 a.f0) := (blk_cell hlit 0).trans rfl; have hy1 : w1.cell? ⟨g6, 1, none⟩ = some (.int .i64 a.f1) := (blk_cell hlit 1).trans rfl; have hy2 : w1.cell? ⟨g6, 2, none⟩ = some (.int .i64 a.f2) := (blk_cell hlit 2).trans rfl; have hy3 : w1.cell? ⟨g6, 3, none⟩ = some (.int .i64 a.f3) := (blk_cell hlit 3).trans rfl; have hy4 : w1.cell? ⟨g6, 4, none⟩ = some (.int .i64 a.f4) := (blk_cell hlit 4).trans rfl; have hy5 : w1.cell? ⟨g6, 5, none⟩ = some (.int .i64 a.f5) := (blk_cell hlit 5).trans rfl; have hy6 : w1.cell? ⟨g6, 6, none⟩ = some (.int .i64 a.f6) := (blk_cell hlit 6).trans rfl; have hy7 : w1.cell? ⟨g6, 7, none⟩ = some (.int .i64 a.f7) := (blk_cell hlit 7).trans rfl; have hy8 : w1.cell? ⟨g6, 8, none⟩ = some (.int .i64 a.f8) := (blk_cell hlit 8).trans rfl; have hx := (HALV.out w1 hb (a.f2) hx0 hx1).1; have hw := (HALV.out w1 hb (a.f3) hyy0 hyy1).1; clear hlit hb hgg))
  go_still_tail 12, (by kernel_rfl)
  change wpList _ _ _ _ _ w1.drew
  go_wp2_with (go_at_call 66; (refine (rrel_calls _ _ _ HREL.out _).mono ?_); rintro e w2 ⟨rfl, hd⟩; have HB2 := Aside0.mk (below_on (below_drew HB1.out) hd.below); have hy8 := (blk_cell (below_read hd.below (HLw1.out : w1.drew.heap[g6]? = _)) 8).trans rfl; clear hd)
  go_ret2
  exact does_mk HR.out (by rw [if_pos rfl]; unfold nxP; rw [HREL.out]; exact if_pos ⟨HK.out, rfl⟩) rfl (HH.out.below HB2.out) (.of_below HB2.out)
end Go.Proofs.Ytikjamcemnbhbaa.Mr
