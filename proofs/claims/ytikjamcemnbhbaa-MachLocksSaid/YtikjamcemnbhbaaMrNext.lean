/- Mach.Next: what it answers. -/
import Derived.Test.YtikjamcemnbhbaaMrMach
import Derived.BigRegion
namespace Go.Proofs.Ytikjamcemnbhbaa.Mr
open Go.RowKit Go.Proofs.YtikjamcemnbhbaaW.PrintWords Go.Proofs.YtikjamcemnbhbaaW.PrintLast Go.Proofs.YtikjamcemnbhbaaW.PrintMore
set_option linter.unusedVariables false
set_option linter.unusedSimpArgs false
def actV (a : S33) : Value := .agg #[.int .i64 a.f0, .int .i64 a.f1, .int .i64 a.f2, .int .i64 a.f3, .int .i64 a.f4, .int .i64 a.f5, .int .i64 a.f6, .int .i64 a.f7, .int .i64 a.f8]
def actC (a : S33) : Array Value := #[.int .i64 a.f0, .int .i64 a.f1, .int .i64 a.f2, .int .i64 a.f3, .int .i64 a.f4, .int .i64 a.f5, .int .i64 a.f6, .int .i64 a.f7, .int .i64 a.f8]
theorem actC_one (a : S33) : ∀ q ∈ (actC a).toList, q.oneCell' = true := by
  intro q hq
  simp only [actC, List.mem_cons, List.not_mem_nil, or_false] at hq
  rcases hq with rfl | rfl | rfl | rfl | rfl | rfl | rfl | rfl | rfl <;> rfl
def nxtV : Option S33 → Value
  | none => .tuple #[actV z33, .bool false]
  | some a => .tuple #[actV a, .bool true]
def actOf (cs : List S49) (s : St) (t : Int) : S33 := rd_T33 (rd_T49 cs t).f1 (s.pc t.toNat)
def nxt (cs : List S49) (s : St) (t : Int) : Option S33 :=
  if 0 ≤ t ∧ t < cs.length then
    (if s.bad = none then
      (if (actOf cs s t).f0 = 14 then none
       else if (actOf cs s t).f0 = 9 then (if rd (s.row 1) (actOf cs s t).f4 = -1 then some (actOf cs s t) else if rd (s.row 1) (actOf cs s t).f4 = t then some (actOf cs s t) else none)
       else some (actOf cs s t))
     else none)
  else none
structure okA (nv ng na nm nl : Int) (a : S33) : Prop where
  kind : 1 ≤ a.f0 ∧ a.f0 ≤ 14
  next : 0 ≤ a.f7 ∧ a.f7 < nl
  els : 0 ≤ a.f8 ∧ a.f8 < nl
  t : a.f0 = 1 ∨ a.f0 = 2 ∨ a.f0 = 3 ∨ a.f0 = 4 ∨ a.f0 = 5 ∨ a.f0 = 7 → 0 ≤ a.f1 ∧ a.f1 < nv
  x : a.f0 = 2 ∨ a.f0 = 4 ∨ a.f0 = 6 ∨ a.f0 = 7 ∨ a.f0 = 8 ∨ a.f0 = 11 → 0 ≤ a.f2 ∧ a.f2 < nv
  y : a.f0 = 4 ∨ a.f0 = 8 ∨ a.f0 = 11 → 0 ≤ a.f3 ∧ a.f3 < nv
  g : a.f0 = 5 ∨ a.f0 = 6 → 0 ≤ a.f4 ∧ a.f4 < ng
  arr : a.f0 = 7 ∨ a.f0 = 8 → 0 ≤ a.f4 ∧ a.f4 < na
  mx : a.f0 = 9 ∨ a.f0 = 10 → 0 ≤ a.f4 ∧ a.f4 < nm
  op : a.f0 = 4 → 1 ≤ a.f6 ∧ a.f6 ≤ 5
  rel : a.f0 = 11 → 1 ≤ a.f6 ∧ a.f6 ≤ 6
structure Wf (cs : List S49) (nA : Nat) (s : St) : Prop where
  pcs : ∀ i, (h : i < cs.length) → 0 ≤ s.pc i ∧ s.pc i < cs[i].f1.length
  acts : ∀ i, (h : i < cs.length) → ∀ a, a ∈ cs[i].f1 → okA (s.row (4 + 2 * i)).length (s.row 0).length nA (s.row 1).length cs[i].f1.length a
theorem rd49_at (cs : List S49) (t : Int) (h0 : 0 ≤ t) (h1 : t < cs.length) : rd_T49 cs t = cs[t.toNat]'(by omega) := by
  have : t.toNat < cs.length := by omega
  simp [rd_T49, this]
theorem rd33_mem (xs : List S33) (t : Int) (h0 : 0 ≤ t) (h1 : t < xs.length) : rd_T33 xs t ∈ xs := by
  have h : t.toNat < xs.length := by omega
  have : rd_T33 xs t = xs[t.toNat] := by simp [rd_T33, h]
  rw [this]; exact List.getElem_mem h
theorem Wf.act {cs : List S49} {nA : Nat} {s : St} (W : Wf cs nA s) (t : Int) (h0 : 0 ≤ t) (h1 : t < cs.length) :
    okA (s.row (4 + 2 * t.toNat)).length (s.row 0).length nA (s.row 1).length (rd_T49 cs t).f1.length (actOf cs s t) ∧ 0 ≤ s.pc t.toNat ∧ s.pc t.toNat < (rd_T49 cs t).f1.length := by
  have h := W.pcs t.toNat (by omega)
  have h2 := W.acts t.toNat (by omega)
  rw [rd49_at cs t h0 h1]
  refine ⟨h2 _ ?_, h⟩
  unfold actOf
  rw [rd49_at cs t h0 h1]
  exact rd33_mem _ _ h.1 h.2
/-- All that is read of a thread that is. -/
theorem MachIn.at_thread {w : World} {lo hi fl : Nat} {ph : Ph} {cs : List S49} {nA : Nat} {s : St} (H : MachIn w lo hi fl ph cs nA s) (t : Int) (h0 : 0 ≤ t) (h1 : t < cs.length) :
    ∃ A c, w.heap[ph.tb t.toNat]? = some (.cells #[ph.rv (4 + 2 * t.toNat), .int .i64 (rd_T49 cs t).f0, .slice A (rd_T49 cs t).f1.length c, .int .i64 (s.pc t.toNat)] 85 (0, 0)) ∧ (rd_T49 cs t).f1.length ≤ c ∧ k33.C w A (rd_T49 cs t).f1.length (rd_T49 cs t).f1 := by
  have h := (H.th t.toNat (by omega)).1
  obtain ⟨A, c, e, hl, hC⟩ := Kd.R_reads (H.code t.toNat (by omega))
  rw [rd49_at cs t h0 h1]
  rw [e] at h
  exact ⟨A, c, h, hl, hC⟩
theorem blk_after {w w' : World} {o : Obj} (h : Below (w.alloc o).heap.size (w.alloc o) w') : w'.heap[w.heap.size]? = some o :=
  (h.block _ (by simp)).trans (heap_alloc_new w o)
set_option maxHeartbeats 4000000 in
theorem next_none (w : World) {lo hi fl : Nat} {ph : Ph} {cs : List S49} {nA : Nat} {s : St} (H : MachIn w lo hi fl ph cs nA s) (i : Int) (c0 : ¬ (0 ≤ i ∧ i < cs.length)) :
    Calls Try.prog 20 #[.pointer (some ⟨ph.bm, 0, none⟩), .int .i64 i] w fun e w' => e = .returned (nxtV none) ∧ Below w.heap.size w w' := by
  have HT := Aside0.mk (fun W' (hb : Below w.heap.size w W') => thread_calls W' (H.below hb) i)
  have HB := Aside0.mk (Below.refl w.heap.size w)
  clear H
  simp only [thr, if_neg c0] at HT
  go_enter Try.func20, Try.ntmps20
  go_wp2_with fail
  go_at_call 43
  refine (HT.out _ (below_alloc HB.out _)).mono ?_
  rintro e w1 ⟨rfl, hb⟩
  have BW := Aside0.mk (below_on (below_alloc HB.out _) hb)
  have hR := blk_after hb
  clear HT HB hb
  go_wp2_with (first | ((with_reducible refine gate_store (t := 33) (p := 4) rfl ?_); refine put_row ?hg ?hn 33 (.tmp 4) (.tmp 20) ?ho w.heap.size 33 _ #[.int .i64 0, .int .i64 0, .int .i64 0, .int .i64 0, .int .i64 0, .int .i64 0, .int .i64 0, .int .i64 0, .int .i64 0] ?hp ?hx ?hu hR ?ht ?hs ?h1 ?_; (case hg => rfl); (case hn => rfl); (case ho => rfl); (case hp => rfl); (case hx => rfl); (case hu => rfl); (case ht => kernel_rfl); (case hs => rfl); (case h1 => exact actC_one z33); intro w2 hR2 hG))
  refine bodyPost_ret (results_ct rfl _ _ w.heap.size 33 _ (0, 0) _ rfl hR2 Try.underlying33 rfl (by kernel_rfl)) rfl ?_
  exact ⟨rfl, BW.out.grown hG BW.out.size (fun k hk => by injection hk with hk; omega)⟩
set_option maxHeartbeats 4000000 in
theorem next_bad (w : World) {lo hi fl : Nat} {ph : Ph} {cs : List S49} {nA : Nat} {s : St} (H : MachIn w lo hi fl ph cs nA s) (i : Int) (c0 : 0 ≤ i ∧ i < cs.length) (hbad : s.bad ≠ none) :
    Calls Try.prog 20 #[.pointer (some ⟨ph.bm, 0, none⟩), .int .i64 i] w fun e w' => e = .returned (nxtV none) ∧ Below w.heap.size w w' := by
  have HT := Aside0.mk (fun W' (hb : Below w.heap.size w W') => thread_calls W' (H.below hb) i)
  have HB := Aside0.mk (Below.refl w.heap.size w)
  simp only [thr, if_pos c0] at HT
  obtain ⟨fp, hm, hf⟩ := H.hm
  obtain ⟨f, hf1⟩ := Option.ne_none_iff_exists'.1 hbad
  rw [hf1] at hf
  obtain ⟨b, rfl, _, _⟩ := hf
  clear H hbad hf1
  go_enter Try.func20, Try.ntmps20
  go_wp2_with fail
  go_at_call 43
  refine (HT.out _ (below_alloc HB.out _)).mono ?_
  rintro e w1 ⟨rfl, hb⟩
  have BW := Aside0.mk (below_on (below_alloc HB.out _) hb)
  have hR := blk_after hb
  have hc := (blk_cell ((BW.out.block _ (blk_lt hm)).trans hm) 8).trans rfl
  clear HT HB hb hm
  go_wp2_with (first | ((with_reducible refine gate_store (t := 33) (p := 4) rfl ?_); refine put_row ?hg ?hn 33 (.tmp 4) (.tmp 20) ?ho w.heap.size 33 _ (actC z33) ?hp ?hx ?hu hR ?ht ?hs ?h1 ?_; (case hg => rfl); (case hn => rfl); (case ho => rfl); (case hp => rfl); (case hx => rfl); (case hu => rfl); (case ht => kernel_rfl); (case hs => rfl); (case h1 => exact actC_one z33); intro w2 hR2 hG))
  refine bodyPost_ret (results_ct rfl _ _ w.heap.size 33 _ (0, 0) _ rfl hR2 Try.underlying33 rfl (by kernel_rfl)) rfl ?_
  exact ⟨rfl, BW.out.grown hG BW.out.size (fun k hk => by injection hk with hk; omega)⟩
theorem cell_on {w : World} (o : Obj) {a : Addr} {v : Value} (h : w.cell? a = some v) : (w.alloc o).cell? a = some v := pw_cell_below (below_alloc (Below.refl _ _) o) h
theorem below_read {w w' : World} (h : Below w.heap.size w w') {g : Nat} {o : Obj} (hg : w.heap[g]? = some o) : w'.heap[g]? = some o := (h.block _ (blk_lt hg)).trans hg
set_option maxHeartbeats 4000000 in
theorem next_live (w : World) {lo hi fl : Nat} {ph : Ph} {cs : List S49} {nA : Nat} {s : St} (H : MachIn w lo hi fl ph cs nA s) (W : Wf cs nA s) (i : Int) (c0 : 0 ≤ i ∧ i < cs.length) (hbad : s.bad = none) :
    Calls Try.prog 20 #[.pointer (some ⟨ph.bm, 0, none⟩), .int .i64 i] w fun e w' => e = .returned (nxtV (nxt cs s i)) ∧ Below w.heap.size w w' := by
  have HT := Aside0.mk (fun W' (hb : Below w.heap.size w W') => thread_calls W' (H.below hb) i)
  have HB := Aside0.mk (Below.refl w.heap.size w)
  simp only [thr, if_pos c0] at HT
  obtain ⟨fp, hm, hf⟩ := H.hm
  rw [hbad] at hf
  obtain rfl : fp = _ := hf
  have HM := Aside0.mk hm
  have HH := Aside0.mk H
  have HA := Aside0.mk (W.act i c0.1 c0.2)
  have HNX : Aside0 (nxt cs s i = _) := ⟨by rw [nxt, if_pos c0, if_pos hbad]⟩
  clear H hbad hm W
  go_enter Try.func20, Try.ntmps20
  go_wp2_with fail
  go_at_call 43
  refine (HT.out _ (below_alloc HB.out _)).mono ?_
  rintro e w1 ⟨rfl, hb⟩
  have BW := Aside0.mk (below_on (below_alloc HB.out _) hb)
  have hR := blk_after hb
  clear HT HB hb
  have H1 := Aside0.mk (HH.out.below BW.out)
  have hm1 := below_read BW.out HM.out
  have hmc8 : w1.cell? ⟨ph.bm, 8, none⟩ = some (.pointer none) := (blk_cell hm1 8).trans rfl
  have hmc7 : w1.cell? ⟨ph.bm, 7, none⟩ = some (ph.rv 1) := (blk_cell hm1 7).trans rfl
  obtain ⟨A, c, hth, hlc, hC⟩ := H1.out.at_thread i c0.1 c0.2
  have htc2 : w1.cell? ⟨ph.tb i.toNat, 2, none⟩ = some (.slice A (rd_T49 cs i).f1.length c) := (blk_cell hth 2).trans rfl
  have htc3 : w1.cell? ⟨ph.tb i.toNat, 3, none⟩ = some (.int .i64 (s.pc i.toNat)) := (blk_cell hth 3).trans rfl
  obtain ⟨hact, hp0, hp1⟩ := HA.out
  obtain ⟨ad, rfl, ha0, ha1, ha2, ha3, ha4, ha5, ha6, ha7, ha8⟩ := at_T33 hC _ hp0 hp1
  clear HH HM HA hm1 hth hC
  have hbtc2 := cell_on (.cells (actC z33) 33) htc2
  have hbtc3 := cell_on (.cells (actC z33) 33) htc3
  have hba0 := cell_on (.cells (actC z33) 33) ha0
  have hba1 := cell_on (.cells (actC z33) 33) ha1
  have hba2 := cell_on (.cells (actC z33) 33) ha2
  have hba3 := cell_on (.cells (actC z33) 33) ha3
  have hba4 := cell_on (.cells (actC z33) 33) ha4
  have hba5 := cell_on (.cells (actC z33) 33) ha5
  have hba6 := cell_on (.cells (actC z33) 33) ha6
  have hba7 := cell_on (.cells (actC z33) 33) ha7
  have hba8 := cell_on (.cells (actC z33) 33) ha8
  simp only [actC, z33] at hbtc2 hbtc3 hba0 hba1 hba2 hba3 hba4 hba5 hba6 hba7 hba8
  go_wp2_with fail
  go_region
  clear hbtc2 hbtc3 hba0 hba1 hba2 hba3 hba4 hba5 hba6 hba7 hba8 htc2 htc3 ha0 ha1 ha2 ha3 ha4 ha5 ha6 ha7 ha8
  have hy : actOf cs s i = rd_T33 (rd_T49 cs i).f1 (s.pc i.toNat) := rfl
  rw [hy] at hact HNX
  generalize rd_T33 (rd_T49 cs i).f1 (s.pc i.toNat) = y at *
  have hbw2 := below_drew (below_alloc (Below.refl w1.heap.size w1) (.cells (actC y) 33))
  have hY : (w1.alloc (.cells (actC y) 33)).drew.heap[w1.heap.size]? = some (.cells (actC y) 33 (0, 0)) := heap_alloc_new w1 _
  have hlt : w.heap.size ≠ w1.heap.size := Nat.ne_of_lt (blk_lt hR)
  have ho := H1.out.rows 1
  have hmx := hact.mx
  clear hact hy H1 hp0 hp1 hlc
  simp only [actC] at hY hbw2
  generalize hw2 : World.drew _ = w2 at *
  clear hw2
  replace hR := below_read hbw2 hR
  replace hmc7 := pw_cell_below hbw2 hmc7
  have ho2 := pw_own_below ho hbw2
  have BW2 := Aside0.mk (below_on BW.out hbw2)
  clear BW hmc8 ho hbw2
  have hy0 : w2.cell? ⟨w1.heap.size, 0, none⟩ = some (.int .i64 y.f0) := (blk_cell hY 0).trans rfl
  have hy1 : w2.cell? ⟨w1.heap.size, 1, none⟩ = some (.int .i64 y.f1) := (blk_cell hY 1).trans rfl
  have hy2 : w2.cell? ⟨w1.heap.size, 2, none⟩ = some (.int .i64 y.f2) := (blk_cell hY 2).trans rfl
  have hy3 : w2.cell? ⟨w1.heap.size, 3, none⟩ = some (.int .i64 y.f3) := (blk_cell hY 3).trans rfl
  have hy4 : w2.cell? ⟨w1.heap.size, 4, none⟩ = some (.int .i64 y.f4) := (blk_cell hY 4).trans rfl
  have hy5 : w2.cell? ⟨w1.heap.size, 5, none⟩ = some (.int .i64 y.f5) := (blk_cell hY 5).trans rfl
  have hy6 : w2.cell? ⟨w1.heap.size, 6, none⟩ = some (.int .i64 y.f6) := (blk_cell hY 6).trans rfl
  have hy7 : w2.cell? ⟨w1.heap.size, 7, none⟩ = some (.int .i64 y.f7) := (blk_cell hY 7).trans rfl
  have hy8 : w2.cell? ⟨w1.heap.size, 8, none⟩ = some (.int .i64 y.f8) := (blk_cell hY 8).trans rfl
  by_cases k14 : y.f0 = 14
  · have kb : (y.f0 == 14) = true := beq_iff_eq.mpr k14
    have HN := Aside0.mk (HNX.out.trans (if_pos k14))
    clear HNX hmx hmc7 ho2
    go_wp2_with fail
    go_quiet (fail)
    go_wp2_with (first | ((with_reducible refine gate_store (t := 33) (p := 4) rfl ?_); refine put_row ?hg ?hn 33 (.tmp 4) (.tmp 63) ?ho w.heap.size 33 _ (actC z33) ?hp ?hx ?hu hR ?ht ?hs ?h1 ?_; (case hg => rfl); (case hn => rfl); (case ho => rfl); (case hp => rfl); (case hx => rfl); (case hu => rfl); (case ht => kernel_rfl); (case hs => rfl); (case h1 => exact actC_one z33); intro w3 hR2 hG))
    refine bodyPost_ret (results_ct rfl _ _ w.heap.size 33 _ (0, 0) _ rfl hR2 Try.underlying33 rfl (by kernel_rfl)) rfl ?_
    exact ⟨by rw [HN.out]; rfl, (show Below w.heap.size w (w2.drewN nq) from pw_below_drewN BW2.out nq).grown hG BW2.out.size (fun k hk => by injection hk with hk; omega)⟩
  · have kb : (y.f0 == 14) = false := beq_eq_false_iff_ne.mpr k14
    replace HNX := Aside0.mk (HNX.out.trans (if_neg k14))
    by_cases k9 : y.f0 = 9
    · have kb9 : (y.f0 == 9) = true := beq_iff_eq.mpr k9
      replace HNX := Aside0.mk (HNX.out.trans (if_pos k9))
      obtain ⟨g0, g1⟩ := hmx (.inl k9)
      obtain ⟨gw, cw, eo, hlw, hown, _, _, _⟩ := own_int ho2 y.f4 g0 g1
      rw [eo] at hmc7
      clear hmx ho2 eo k9
      generalize rd (s.row 1) y.f4 = ow at *
      by_cases kn : ow = -1
      · have kbn : (ow != -1) = false := bne_eq_false_iff_eq.mpr kn
        have HN := Aside0.mk (HNX.out.trans (if_pos kn))
        clear HNX kn
        go_wp2_with fail
        go_quiet (fail)
        go_wp2_with (first | ((with_reducible refine gate_store (t := 33) (p := 4) rfl ?_); refine put_row ?hg ?hn 33 (.tmp 4) (.tmp 64) ?ho w.heap.size 33 _ (actC y) ?hp ?hx ?hu hR ?ht ?hs ?h1 ?_; (case hg => rfl); (case hn => rfl); (case ho => rfl); (case hp => rfl); (case hx => rfl); (case hu => rfl); (case ht => kernel_rfl); (case hs => rfl); (case h1 => exact actC_one y); intro w3 hR2 hG))
        refine bodyPost_ret (results_ct rfl _ _ w.heap.size 33 _ (0, 0) _ rfl hR2 Try.underlying33 rfl (by kernel_rfl)) rfl ?_
        exact ⟨by rw [HN.out]; rfl, (show Below w.heap.size w (w2.drewN nq) from pw_below_drewN BW2.out nq).grown hG BW2.out.size (fun k hk => by injection hk with hk; omega)⟩
      · have kbn : (ow != -1) = true := bne_iff_ne.mpr kn
        replace HNX := Aside0.mk (HNX.out.trans (if_neg kn))
        by_cases kt : ow = i
        · have kbt : (ow != i) = false := bne_eq_false_iff_eq.mpr kt
          have HN := Aside0.mk (HNX.out.trans (if_pos kt))
          clear HNX kt kn
          go_wp2_with fail
          go_quiet (fail)
          go_wp2_with (first | ((with_reducible refine gate_store (t := 33) (p := 4) rfl ?_); refine put_row ?hg ?hn 33 (.tmp 4) (.tmp 64) ?ho w.heap.size 33 _ (actC y) ?hp ?hx ?hu hR ?ht ?hs ?h1 ?_; (case hg => rfl); (case hn => rfl); (case ho => rfl); (case hp => rfl); (case hx => rfl); (case hu => rfl); (case ht => kernel_rfl); (case hs => rfl); (case h1 => exact actC_one y); intro w3 hR2 hG))
          refine bodyPost_ret (results_ct rfl _ _ w.heap.size 33 _ (0, 0) _ rfl hR2 Try.underlying33 rfl (by kernel_rfl)) rfl ?_
          exact ⟨by rw [HN.out]; rfl, (show Below w.heap.size w (w2.drewN nq) from pw_below_drewN BW2.out nq).grown hG BW2.out.size (fun k hk => by injection hk with hk; omega)⟩
        · have kbt : (ow != i) = true := bne_iff_ne.mpr kt
          have HN := Aside0.mk (HNX.out.trans (if_neg kt))
          clear HNX
          go_wp2_with fail
          go_quiet (fail)
          go_wp2_with (first | ((with_reducible refine gate_store (t := 33) (p := 4) rfl ?_); refine put_row ?hg ?hn 33 (.tmp 4) (.tmp 63) ?ho w.heap.size 33 _ (actC z33) ?hp ?hx ?hu hR ?ht ?hs ?h1 ?_; (case hg => rfl); (case hn => rfl); (case ho => rfl); (case hp => rfl); (case hx => rfl); (case hu => rfl); (case ht => kernel_rfl); (case hs => rfl); (case h1 => exact actC_one z33); intro w3 hR2 hG))
          refine bodyPost_ret (results_ct rfl _ _ w.heap.size 33 _ (0, 0) _ rfl hR2 Try.underlying33 rfl (by kernel_rfl)) rfl ?_
          exact ⟨by rw [HN.out]; rfl, (show Below w.heap.size w (w2.drewN nq) from pw_below_drewN BW2.out nq).grown hG BW2.out.size (fun k hk => by injection hk with hk; omega)⟩
    · have kb9 : (y.f0 == 9) = false := beq_eq_false_iff_ne.mpr k9
      have HN := Aside0.mk (HNX.out.trans (if_neg k9))
      clear HNX hmx hmc7 ho2
      go_wp2_with fail
      go_quiet (fail)
      go_wp2_with (first | ((with_reducible refine gate_store (t := 33) (p := 4) rfl ?_); refine put_row ?hg ?hn 33 (.tmp 4) (.tmp 64) ?ho w.heap.size 33 _ (actC y) ?hp ?hx ?hu hR ?ht ?hs ?h1 ?_; (case hg => rfl); (case hn => rfl); (case ho => rfl); (case hp => rfl); (case hx => rfl); (case hu => rfl); (case ht => kernel_rfl); (case hs => rfl); (case h1 => exact actC_one y); intro w3 hR2 hG))
      refine bodyPost_ret (results_ct rfl _ _ w.heap.size 33 _ (0, 0) _ rfl hR2 Try.underlying33 rfl (by kernel_rfl)) rfl ?_
      exact ⟨by rw [HN.out]; rfl, (show Below w.heap.size w (w2.drewN nq) from pw_below_drewN BW2.out nq).grown hG BW2.out.size (fun k hk => by injection hk with hk; omega)⟩
theorem next_calls (w : World) {lo hi fl : Nat} {ph : Ph} {cs : List S49} {nA : Nat} {s : St} (H : MachIn w lo hi fl ph cs nA s) (W : Wf cs nA s) (i : Int) :
    Calls Try.prog 20 #[.pointer (some ⟨ph.bm, 0, none⟩), .int .i64 i] w fun e w' => e = .returned (nxtV (nxt cs s i)) ∧ Below w.heap.size w w' := by
  by_cases c0 : 0 ≤ i ∧ i < cs.length
  · by_cases hb : s.bad = none
    · exact next_live w H W i c0 hb
    · rw [show nxt cs s i = none by rw [nxt, if_pos c0, if_neg hb]]
      exact next_bad w H i c0 hb
  · rw [show nxt cs s i = none by rw [nxt, if_neg c0]]
    exact next_none w H i c0
end Go.Proofs.Ytikjamcemnbhbaa.Mr
