/- Mach.Step: whether something was done, and the machine behind it. -/
import Derived.Test.YtikjamcemnbhbaaMrShare
import Derived.Test.YtikjamcemnbhbaaMrF46
namespace Go.Proofs.Ytikjamcemnbhbaa.Mr
open Go.RowKit Go.Proofs.YtikjamcemnbhbaaW.PrintWords Go.Proofs.YtikjamcemnbhbaaW.PrintLast Go.Proofs.YtikjamcemnbhbaaW.PrintMore
set_option linter.unusedVariables false
set_option linter.unusedSimpArgs false
/-- num.Rel at once. -/
def relP (op x y : Int) : Bool := (num_Rel.f op x y).getD false
theorem rel_ok (op x y : Int) : num_Rel.f op x y = some (relP op x y) := by
  unfold relP num_Rel.f
  repeat' split
  all_goals rfl
/-- An action of a thread that may be done: the state behind it. -/
def after1 (nA : Nat) (s : St) (i : Int) (a : S33) (inp : Int) : St × Int :=
  if (reck (s.row (4 + 2 * i.toNat)) a inp).2 = 0 then shr nA (s.setRow (4 + 2 * i.toNat) (reck (s.row (4 + 2 * i.toNat)) a inp).1) i a
  else (s.setRow (4 + 2 * i.toNat) (reck (s.row (4 + 2 * i.toNat)) a inp).1, (reck (s.row (4 + 2 * i.toNat)) a inp).2)
def doneP (nA : Nat) (s : St) (i : Int) (a : S33) (inp : Int) : St :=
  if (after1 nA s i a inp).2 = 0 then
    (after1 nA s i a inp).1.setPc i.toNat (if a.f0 = 11 ∧ relP a.f6 (rd ((after1 nA s i a inp).1.row (4 + 2 * i.toNat)) a.f2) (rd ((after1 nA s i a inp).1.row (4 + 2 * i.toNat)) a.f3) = false then a.f8 else a.f7)
  else (after1 nA s i a inp).1.setBad (i, s.pc i.toNat, (after1 nA s i a inp).2)
def stepP (cs : List S49) (nA : Nat) (s : St) (i : Int) (inp : Int) : St :=
  match nxt cs s i with
  | none => s
  | some a => doneP nA s i a inp
theorem nxt_some {cs : List S49} {s : St} {i : Int} {a : S33} (h : nxt cs s i = some a) : (0 ≤ i ∧ i < cs.length) ∧ s.bad = none ∧ a = actOf cs s i := by
  unfold nxt at h
  split at h
  · rename_i h0
    split at h
    · rename_i hb
      refine ⟨h0, hb, ?_⟩
      split at h
      · cases h
      · split at h
        · split at h
          · exact (Option.some.inj h).symm
          · split at h
            · exact (Option.some.inj h).symm
            · cases h
        · exact (Option.some.inj h).symm
    · cases h
  · cases h
set_option maxHeartbeats 4000000 in
set_option maxRecDepth 100000 in
theorem step_none (w : World) {lo hi fl : Nat} {ph : Ph} {cs : List S49} {nA : Nat} {s : St} (H : MachIn w lo hi fl ph cs nA s) (W : Wf cs nA s) (i inp : Int) (hn : nxt cs s i = none) :
    Calls Try.prog 22 #[.pointer (some ⟨ph.bm, 0, none⟩), .int .i64 i, .int .i64 inp] w fun e w' => e = .returned (.bool false) ∧ Below w.heap.size w w' := by
  have HN := Aside0.mk (next_calls w H W i)
  rw [hn] at HN
  clear H W hn
  go_enter Try.func22, Try.ntmps22
  go_wp2_with fail
  go_at_call 20
  refine HN.out.mono ?_
  rintro e w1 ⟨rfl, hb⟩
  have HB := Aside0.mk hb
  clear hb HN
  simp only [nxtV, actV]
  go_wp2
  go_ret
  exact ⟨rfl, below_alloc HB.out _⟩
theorem set_len (xs : List Int) (j : Nat) (x : Int) : (xs.set j x).length = xs.length := List.length_set
theorem reck_len (vs : List Int) (a : S33) (inp : Int) : (reck vs a inp).1.length = vs.length := by
  unfold reck
  repeat' split
  all_goals first | rfl | exact List.length_set
theorem setRow_len {s : St} {k : Nat} {xs : List Int} (h : xs.length = (s.row k).length) (j : Nat) : ((s.setRow k xs).row j).length = (s.row j).length := by
  by_cases e : j = k
  · subst e; simp [St.setRow, h]
  · simp [St.setRow, e]
theorem shr_len (nA : Nat) (s : St) (i : Int) (a : S33) (j : Nat) : ((shr nA s i a).1.row j).length = (s.row j).length := by
  unfold shr
  repeat' split
  all_goals first | rfl | exact setRow_len List.length_set j
theorem after1_len (nA : Nat) (s : St) (i : Int) (a : S33) (inp : Int) (j : Nat) : ((after1 nA s i a inp).1.row j).length = (s.row j).length := by
  unfold after1
  split
  · rw [shr_len]; exact setRow_len (reck_len _ _ _) j
  · exact setRow_len (reck_len _ _ _) j
theorem set_grown (w : World) (g j : Nat) (u : Value) : w.grownBy (w.setCell ⟨g, j, none⟩ u) (some g) :=
  ⟨rfl, rfl, rfl, by simp [World.setCell], fun k _ hk => Below.heap_setCell w ⟨g, j, none⟩ u k (fun e => hk (by rw [e]))⟩
theorem shr_pc (nA : Nat) (s : St) (i : Int) (a : S33) : (shr nA s i a).1.pc = s.pc := by
  unfold shr
  repeat' split
  all_goals rfl
set_option maxHeartbeats 8000000 in
set_option maxRecDepth 100000 in
theorem step_some (w : World) {lo hi fl : Nat} {ph : Ph} {cs : List S49} {nA : Nat} {s : St} (H : MachIn w lo hi fl ph cs nA s) (W : Wf cs nA s) (hz : fl ≤ w.heap.size) (i inp : Int) (a : S33) (hn : nxt cs s i = some a) :
    Calls Try.prog 22 #[.pointer (some ⟨ph.bm, 0, none⟩), .int .i64 i, .int .i64 inp] w fun e w' => e = .returned (.bool true) ∧ Left w lo hi fl ph cs nA (doneP nA s i a inp) w' := by
  have HN := Aside0.mk (next_calls w H W i)
  rw [hn] at HN
  obtain ⟨⟨h0, h1⟩, _, ea⟩ := nxt_some hn
  have ha := (W.act i h0 h1).1
  rw [← ea] at ha
  have HA := Aside0.mk ha
  have HH := Aside0.mk H
  have HZ := Aside0.mk hz
  obtain ⟨r1, r2, hre⟩ : ∃ r1 r2, reck (s.row (4 + 2 * i.toNat)) a inp = (r1, r2) := ⟨_, _, rfl⟩
  have HRE := Aside0.mk hre
  have HR1 : Aside0 (r1.length = (s.row (4 + 2 * i.toNat)).length) := ⟨by have h := reck_len (s.row (4 + 2 * i.toNat)) a inp; rw [hre] at h; exact h⟩
  clear H W hn ea ha hz hre
  go_enter Try.func22, Try.ntmps22
  go_wp2_with fail
  go_at_call 20
  refine HN.out.mono ?_
  rintro e w1 ⟨rfl, hb⟩
  have HB := Aside0.mk hb
  obtain ⟨W1, hW1⟩ : ∃ W1, W1 = w1.alloc (.cells (actC a) 33) := ⟨_, rfl⟩
  have HB1 : Aside0 (Below w.heap.size w W1) := ⟨by rw [hW1]; exact below_alloc hb _⟩
  have H1 := Aside0.mk (HH.out.below HB1.out)
  have hboxW : W1.heap[w1.heap.size]? = some (.cells (actC a) 33 (0, 0)) := by rw [hW1]; exact heap_alloc_new w1 _
  have hy0 : W1.cell? ⟨w1.heap.size, 0, none⟩ = some (.int .i64 a.f0) := (blk_cell hboxW 0).trans rfl
  have hy1 : W1.cell? ⟨w1.heap.size, 1, none⟩ = some (.int .i64 a.f1) := (blk_cell hboxW 1).trans rfl
  have hy2 : W1.cell? ⟨w1.heap.size, 2, none⟩ = some (.int .i64 a.f2) := (blk_cell hboxW 2).trans rfl
  have hy3 : W1.cell? ⟨w1.heap.size, 3, none⟩ = some (.int .i64 a.f3) := (blk_cell hboxW 3).trans rfl
  have hy4 : W1.cell? ⟨w1.heap.size, 4, none⟩ = some (.int .i64 a.f4) := (blk_cell hboxW 4).trans rfl
  have hy5 : W1.cell? ⟨w1.heap.size, 5, none⟩ = some (.int .i64 a.f5) := (blk_cell hboxW 5).trans rfl
  have hy6 : W1.cell? ⟨w1.heap.size, 6, none⟩ = some (.int .i64 a.f6) := (blk_cell hboxW 6).trans rfl
  have hy7 : W1.cell? ⟨w1.heap.size, 7, none⟩ = some (.int .i64 a.f7) := (blk_cell hboxW 7).trans rfl
  have hy8 : W1.cell? ⟨w1.heap.size, 8, none⟩ = some (.int .i64 a.f8) := (blk_cell hboxW 8).trans rfl
  have HZ1 : Aside0 (fl ≤ w1.heap.size) := ⟨Nat.le_trans HZ.out hb.size⟩
  have hm4 : W1.cell? ⟨ph.bm, 4, none⟩ = some ph.hT := by obtain ⟨fp, hm1, _⟩ := H1.out.hm; exact (blk_cell hm1 4).trans rfl
  obtain ⟨gT, cT, eT, _, hTc⟩ := H1.out.tcell i h0 h1
  rw [eT] at hm4
  have HBX := Aside0.mk hboxW
  have HK := Aside0.mk (reckon_calls _ H1.out i h0 h1 a inp HA.out)
  rw [HRE.out] at HK
  clear hb HN HB eT hboxW HZ HH
  simp only [nxtV, actV]
  simp only [actC, actV] at hW1 HK
  subst hW1
  go_wp2_with fail
  refine HK.out.mono ?_
  rintro e w2 ⟨rfl, HL0⟩
  have HFH := HL0.1.fh
  have hbox2 : w2.heap[w1.heap.size]? = some (.cells (actC a) 33 (0, 0)) := (HL0.2.block _ (blk_lt HBX.out) (by have := HZ1.out; omega)).trans HBX.out
  have HZ2 : Aside0 (fl ≤ w2.heap.size) := ⟨Nat.le_trans HZ1.out (Nat.le_of_lt (blk_lt hbox2))⟩
  have HC2 : Aside0 (Chg lo hi w w2) := ⟨(Chg.of_below HB1.out).trans HL0.2⟩
  have HM2 : Aside0 (MachIn w2 lo hi fl ph cs nA (s.setRow (4 + 2 * i.toNat) r1)) := ⟨HL0.1⟩
  have HPC : Aside0 ((s.setRow (4 + 2 * i.toNat) r1).pc = s.pc) := ⟨rfl⟩
  clear HK HL0 HBX HB1 H1 hTc hm4 hy0 hy1 hy2 hy3 hy4 hy5 hy6 hy7 hy8 HFH
  generalize w1.heap.size = gb at *
  have hz0 : w2.cell? ⟨gb, 0, none⟩ = some (.int .i64 a.f0) := (blk_cell hbox2 0).trans rfl
  have hz1 : w2.cell? ⟨gb, 1, none⟩ = some (.int .i64 a.f1) := (blk_cell hbox2 1).trans rfl
  have hz2 : w2.cell? ⟨gb, 2, none⟩ = some (.int .i64 a.f2) := (blk_cell hbox2 2).trans rfl
  have hz3 : w2.cell? ⟨gb, 3, none⟩ = some (.int .i64 a.f3) := (blk_cell hbox2 3).trans rfl
  have hz4 : w2.cell? ⟨gb, 4, none⟩ = some (.int .i64 a.f4) := (blk_cell hbox2 4).trans rfl
  have hz5 : w2.cell? ⟨gb, 5, none⟩ = some (.int .i64 a.f5) := (blk_cell hbox2 5).trans rfl
  have hz6 : w2.cell? ⟨gb, 6, none⟩ = some (.int .i64 a.f6) := (blk_cell hbox2 6).trans rfl
  have hz7 : w2.cell? ⟨gb, 7, none⟩ = some (.int .i64 a.f7) := (blk_cell hbox2 7).trans rfl
  have hz8 : w2.cell? ⟨gb, 8, none⟩ = some (.int .i64 a.f8) := (blk_cell hbox2 8).trans rfl
  have HBX2 := Aside0.mk hbox2
  clear hbox2
  by_cases he : r2 = 0
  · have kb : (r2 == 0) = true := beq_iff_eq.mpr he
    obtain ⟨s2, e2, hsh⟩ : ∃ s2 e2, shr nA (s.setRow (4 + 2 * i.toNat) r1) i a = (s2, e2) := ⟨_, _, rfl⟩
    have HSE := Aside0.mk hsh
    have haS : okA ((s.setRow (4 + 2 * i.toNat) r1).row (4 + 2 * i.toNat)).length ((s.setRow (4 + 2 * i.toNat) r1).row 0).length nA ((s.setRow (4 + 2 * i.toNat) r1).row 1).length (rd_T49 cs i).f1.length a := by
      rw [setRow_len HR1.out, setRow_len HR1.out, setRow_len HR1.out]; exact HA.out
    have HSH := Aside0.mk (share_calls w2 HM2.out i h0 h1 a haS)
    rw [hsh] at HSH
    have HP3 : Aside0 (s2.pc = s.pc) := ⟨by have h := shr_pc nA (s.setRow (4 + 2 * i.toNat) r1) i a; rw [hsh] at h; exact h⟩
    have HLN : Aside0 ((s2.row (4 + 2 * i.toNat)).length = (s.row (4 + 2 * i.toNat)).length) := ⟨by have h := shr_len nA (s.setRow (4 + 2 * i.toNat) r1) i a (4 + 2 * i.toNat); rw [hsh] at h; exact h.trans (setRow_len HR1.out _)⟩
    have HAF : Aside0 (after1 nA s i a inp = (s2, e2)) := ⟨by rw [after1, HRE.out, if_pos he, hsh]⟩
    clear hsh haS he HRE HPC HSE
    simp only [actV] at HSH
    go_wp2_with fail
    refine HSH.out.mono ?_
    rintro e w3 ⟨rfl, HL1⟩
    have HFH := HL1.1.fh
    have hbox3 : w3.heap[gb]? = some (.cells (actC a) 33 (0, 0)) := (HL1.2.block _ (blk_lt HBX2.out) (by have := HZ1.out; omega)).trans HBX2.out
    have HZ3 : Aside0 (fl ≤ w3.heap.size) := ⟨Nat.le_trans HZ2.out HL1.2.size⟩
    have HC3 : Aside0 (Chg lo hi w w3) := ⟨HC2.out.trans HL1.2⟩
    have HM3 : Aside0 (MachIn w3 lo hi fl ph cs nA s2) := ⟨HL1.1⟩
    have HPC := HP3
    clear HSH HL1 HBX2 HZ2 HC2 HM2 HFH hz0 hz1 hz2 hz3 hz4 hz5 hz6 hz7 hz8
    have hx0 : w3.cell? ⟨gb, 0, none⟩ = some (.int .i64 a.f0) := (blk_cell hbox3 0).trans rfl
    have hx1 : w3.cell? ⟨gb, 1, none⟩ = some (.int .i64 a.f1) := (blk_cell hbox3 1).trans rfl
    have hx2 : w3.cell? ⟨gb, 2, none⟩ = some (.int .i64 a.f2) := (blk_cell hbox3 2).trans rfl
    have hx3 : w3.cell? ⟨gb, 3, none⟩ = some (.int .i64 a.f3) := (blk_cell hbox3 3).trans rfl
    have hx4 : w3.cell? ⟨gb, 4, none⟩ = some (.int .i64 a.f4) := (blk_cell hbox3 4).trans rfl
    have hx5 : w3.cell? ⟨gb, 5, none⟩ = some (.int .i64 a.f5) := (blk_cell hbox3 5).trans rfl
    have hx6 : w3.cell? ⟨gb, 6, none⟩ = some (.int .i64 a.f6) := (blk_cell hbox3 6).trans rfl
    have hx7 : w3.cell? ⟨gb, 7, none⟩ = some (.int .i64 a.f7) := (blk_cell hbox3 7).trans rfl
    have hx8 : w3.cell? ⟨gb, 8, none⟩ = some (.int .i64 a.f8) := (blk_cell hbox3 8).trans rfl
    clear hbox3
    by_cases he2 : e2 = 0
    · have kb2 : (e2 != 0) = false := bne_eq_false_iff_eq.mpr he2
      have HD0 : Aside0 (doneP nA s i a inp = s2.setPc i.toNat (if a.f0 = 11 ∧ relP a.f6 (rd (s2.row (4 + 2 * i.toNat)) a.f2) (rd (s2.row (4 + 2 * i.toNat)) a.f3) = false then a.f8 else a.f7)) := ⟨by rw [doneP, HAF.out, if_pos he2]⟩
      have hth := (HM3.out.th i.toNat (by omega)).1
      rw [HPC.out] at hth
      have htc0 : w3.cell? ⟨ph.tb i.toNat, 0, none⟩ = some (ph.rv (4 + 2 * i.toNat)) := (blk_cell hth 0).trans rfl
      clear he2 HAF HPC
      by_cases k11 : a.f0 = 11
      · have kk : (a.f0 == 11) = true := beq_iff_eq.mpr k11
        have HX : Aside0 (0 ≤ a.f2 ∧ a.f2 < (s2.row (4 + 2 * i.toNat)).length) := ⟨by rw [HLN.out]; exact HA.out.x (by omega)⟩
        have HY : Aside0 (0 ≤ a.f3 ∧ a.f3 < (s2.row (4 + 2 * i.toNat)).length) := ⟨by rw [HLN.out]; exact HA.out.y (by omega)⟩
        have ho := Aside0.mk (HM3.out.rows (4 + 2 * i.toNat))
        have HTB0 := Aside0.mk hth
        clear hth
        obtain ⟨rr, hrr⟩ : ∃ rr, relP a.f6 (rd (s2.row (4 + 2 * i.toNat)) a.f2) (rd (s2.row (4 + 2 * i.toNat)) a.f3) = rr := ⟨_, rfl⟩
        have HRR : Aside0 (num_Rel.f a.f6 (rd (s2.row (4 + 2 * i.toNat)) a.f2) (rd (s2.row (4 + 2 * i.toNat)) a.f3) = some rr) := ⟨by rw [rel_ok, hrr]⟩
        rw [hrr] at HD0
        have HD : Aside0 (doneP nA s i a inp = s2.setPc i.toNat (if rr = false then a.f8 else a.f7)) := ⟨by rw [HD0.out]; simp [k11]⟩
        clear HD0 hrr k11
        generalize hvs2 : s2.row (4 + 2 * i.toNat) = vs2 at *
        have A1 := fun n => Calls.quiet_of_same (n := n) (get_calls (ph.tb i.toNat) 0 (ph.rv (4 + 2 * i.toNat)) vs2 a.f2 lo (w3.drewN n) htc0 ho.out HX.out.1 HX.out.2)
        have A2 := fun n => Calls.quiet_of_same (n := n) (get_calls (ph.tb i.toNat) 0 (ph.rv (4 + 2 * i.toNat)) vs2 a.f3 lo (w3.drewN n) htc0 ho.out HY.out.1 HY.out.2)
        have A3 := fun n => Calls.quiet_of (n := n) ((num_Rel.calls a.f6 (rd vs2 a.f2) (rd vs2 a.f3) rr (w3.drewN n) HRR.out).mono fun e w' h => ⟨h.1, h.2.out⟩)
        go_wp2_with fail
        go_quiet (first | with_reducible exact A1 _ | with_reducible exact A2 _ | with_reducible exact A3 _)
        have q7 : (w3.drewN nq).cell? ⟨gb, 7, none⟩ = _ := hx7
        have q8 : (w3.drewN nq).cell? ⟨gb, 8, none⟩ = _ := hx8
        have q3 : (w3.drewN nq).cell? ⟨ph.tb i.toNat, 3, none⟩ = _ := (blk_cell HTB0.out 3).trans rfl
        have qf : (w3.drewN nq).frozen? ⟨ph.tb i.toNat, 3, none⟩ = false := blk_frozen HTB0.out 3
        have HTB : Aside0 ((w3.drewN nq).heap[ph.tb i.toNat]? = _) := ⟨HTB0.out⟩
        have Q3 := Aside0.mk (HM3.out.below (pw_below_drewN (Below.refl _ w3) nq))
        have QC : Aside0 (Chg lo hi w (w3.drewN nq)) := ⟨HC3.out.trans (.of_below (pw_below_drewN (Below.refl _ w3) nq))⟩
        clear A1 A2 A3 HM3 HC3 hx0 hx1 hx2 hx3 hx4 hx5 hx6 hx7 hx8 htc0 HTB0 HZ3 ho hvs2 HRR
        generalize w3.drewN nq = w4 at *
        cases rr with
        | false =>
          replace HD := Aside0.mk (HD.out.trans (by rw [if_pos rfl]))
          go_wp2
          go_ret
          refine ⟨rfl, ?_⟩
          rw [HD.out]
          have hg := set_grown w4 (ph.tb i.toNat) 3 (.int .i64 a.f8)
          exact ⟨Q3.out.putPc i.toNat a.f8 (by omega) (blk_put HTB.out 3 _ rfl) hg, QC.out.trans (Chg.of_grown hg (fun b hb => by injection hb with hb; subst hb; exact (Q3.out.th i.toNat (by omega)).2))⟩
        | true =>
          replace HD := Aside0.mk (HD.out.trans (by rw [if_neg (by decide)]))
          go_wp2
          go_ret
          refine ⟨rfl, ?_⟩
          rw [HD.out]
          have hg := set_grown w4 (ph.tb i.toNat) 3 (.int .i64 a.f7)
          exact ⟨Q3.out.putPc i.toNat a.f7 (by omega) (blk_put HTB.out 3 _ rfl) hg, QC.out.trans (Chg.of_grown hg (fun b hb => by injection hb with hb; subst hb; exact (Q3.out.th i.toNat (by omega)).2))⟩
      · have kk : (a.f0 == 11) = false := beq_eq_false_iff_ne.mpr k11
        have HD : Aside0 (doneP nA s i a inp = s2.setPc i.toNat a.f7) := ⟨by rw [HD0.out, if_neg (fun h => k11 h.1)]⟩
        have HTB0 := Aside0.mk hth
        clear HD0 k11 hth
        go_wp2_with fail
        go_quiet (fail)
        have q7 : (w3.drewN nq).cell? ⟨gb, 7, none⟩ = _ := hx7
        have q3 : (w3.drewN nq).cell? ⟨ph.tb i.toNat, 3, none⟩ = _ := (blk_cell HTB0.out 3).trans rfl
        have qf : (w3.drewN nq).frozen? ⟨ph.tb i.toNat, 3, none⟩ = false := blk_frozen HTB0.out 3
        have HTB : Aside0 ((w3.drewN nq).heap[ph.tb i.toNat]? = _) := ⟨HTB0.out⟩
        have Q3 := Aside0.mk (HM3.out.below (pw_below_drewN (Below.refl _ w3) nq))
        have QC : Aside0 (Chg lo hi w (w3.drewN nq)) := ⟨HC3.out.trans (.of_below (pw_below_drewN (Below.refl _ w3) nq))⟩
        clear HM3 HC3 hx0 hx1 hx2 hx3 hx4 hx5 hx6 hx7 hx8 htc0 HTB0 HZ3
        generalize w3.drewN nq = w4 at *
        go_wp2
        go_ret
        refine ⟨rfl, ?_⟩
        rw [HD.out]
        have hg := set_grown w4 (ph.tb i.toNat) 3 (.int .i64 a.f7)
        exact ⟨Q3.out.putPc i.toNat a.f7 (by omega) (blk_put HTB.out 3 _ rfl) hg, QC.out.trans (Chg.of_grown hg (fun b hb => by injection hb with hb; subst hb; exact (Q3.out.th i.toNat (by omega)).2))⟩
    · have kb2 : (e2 != 0) = true := bne_iff_ne.mpr he2
      have HD : Aside0 (doneP nA s i a inp = s2.setBad (i, s.pc i.toNat, e2)) := ⟨by rw [doneP, HAF.out, if_neg he2]⟩
      clear he2 HAF
      obtain ⟨fp2, hbm, _⟩ := HM3.out.hm
      have hth := (HM3.out.th i.toNat (by omega)).1
      have htc3 : w3.cell? ⟨ph.tb i.toNat, 3, none⟩ = some (.int .i64 (s.pc i.toNat)) := (blk_cell hth 3).trans (by rw [HPC.out]; rfl)
      have hq8 : w3.cell? ⟨ph.bm, 8, none⟩ = some fp2 := (blk_cell hbm 8).trans rfl
      have hqf := blk_frozen hbm 8
      have hbm2 := below_read (below_alloc (Below.refl _ w3) (.cells #[.int .i64 i, .int .i64 (s.pc i.toNat), .int .i64 e2] 52)) hbm
      have hr8 := (blk_cell hbm2 8).trans rfl
      have hrf := blk_frozen hbm2 8
      have HBM2 := Aside0.mk hbm2
      have hne : Aside0 (w3.heap.size ≠ ph.bm) := ⟨fun e => by have := blk_lt hbm; omega⟩
      clear hbm hth hbm2
      go_wp2
      go_ret
      refine ⟨rfl, ?_⟩
      rw [HD.out]
      have hg := set_grown (w3.alloc (.cells #[.int .i64 i, .int .i64 (s.pc i.toNat), .int .i64 e2] 52)) ph.bm 8 (.pointer (some ⟨w3.heap.size, 0, none⟩))
      exact ⟨(HM3.out.below (below_alloc (Below.refl _ w3) _)).putBad (i, s.pc i.toNat, e2) w3.heap.size HZ3.out (blk_far (heap_alloc_new w3 _) hne.out _) (blk_put HBM2.out 8 _ rfl) hg, (HC3.out.trans (.of_below (below_alloc (Below.refl _ w3) _))).trans (Chg.of_grown hg (fun b hb => by injection hb with hb; subst hb; exact HM3.out.bm))⟩
  · have kb : (r2 == 0) = false := beq_eq_false_iff_ne.mpr he
    have kb2 : (r2 != 0) = true := bne_iff_ne.mpr he
    have HD : Aside0 (doneP nA s i a inp = (s.setRow (4 + 2 * i.toNat) r1).setBad (i, s.pc i.toNat, r2)) := ⟨by rw [doneP, after1, HRE.out, if_neg he, if_neg he]⟩
    clear he HRE
    obtain ⟨fp2, hbm, _⟩ := HM2.out.hm
    have hth := (HM2.out.th i.toNat (by omega)).1
    have htc3 : w2.cell? ⟨ph.tb i.toNat, 3, none⟩ = some (.int .i64 (s.pc i.toNat)) := (blk_cell hth 3).trans (by rw [HPC.out]; rfl)
    have hq8 : w2.cell? ⟨ph.bm, 8, none⟩ = some fp2 := (blk_cell hbm 8).trans rfl
    have hqf := blk_frozen hbm 8
    have hbm2 := below_read (below_alloc (Below.refl _ w2) (.cells #[.int .i64 i, .int .i64 (s.pc i.toNat), .int .i64 r2] 52)) hbm
    have hr8 := (blk_cell hbm2 8).trans rfl
    have hrf := blk_frozen hbm2 8
    have HBM2 := Aside0.mk hbm2
    have hne : Aside0 (w2.heap.size ≠ ph.bm) := ⟨fun e => by have := blk_lt hbm; omega⟩
    clear hbm hth hbm2
    go_wp2
    go_ret
    refine ⟨rfl, ?_⟩
    rw [HD.out]
    have hg := set_grown (w2.alloc (.cells #[.int .i64 i, .int .i64 (s.pc i.toNat), .int .i64 r2] 52)) ph.bm 8 (.pointer (some ⟨w2.heap.size, 0, none⟩))
    exact ⟨(HM2.out.below (below_alloc (Below.refl _ w2) _)).putBad (i, s.pc i.toNat, r2) w2.heap.size HZ2.out (blk_far (heap_alloc_new w2 _) hne.out _) (blk_put HBM2.out 8 _ rfl) hg, (HC2.out.trans (.of_below (below_alloc (Below.refl _ w2) _))).trans (Chg.of_grown hg (fun b hb => by injection hb with hb; subst hb; exact HM2.out.bm))⟩
theorem step_calls (w : World) {lo hi fl : Nat} {ph : Ph} {cs : List S49} {nA : Nat} {s : St} (H : MachIn w lo hi fl ph cs nA s) (W : Wf cs nA s) (hz : fl ≤ w.heap.size) (i inp : Int) :
    Calls Try.prog 22 #[.pointer (some ⟨ph.bm, 0, none⟩), .int .i64 i, .int .i64 inp] w fun e w' => e = .returned (.bool (nxt cs s i).isSome) ∧ Left w lo hi fl ph cs nA (stepP cs nA s i inp) w' := by
  cases hn : nxt cs s i with
  | none =>
    refine (step_none w H W i inp hn).mono ?_
    rintro e w' ⟨rfl, hb⟩
    exact ⟨rfl, by rw [stepP, hn]; exact ⟨H.below hb, .of_below hb⟩⟩
  | some a =>
    refine (step_some w H W hz i inp a hn).mono ?_
    rintro e w' ⟨rfl, hl⟩
    exact ⟨rfl, by rw [stepP, hn]; exact hl⟩
end Go.Proofs.Ytikjamcemnbhbaa.Mr
