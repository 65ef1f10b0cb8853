/- meddlerlaw9: known, the laws of a nil machine and of inputs; a machine beside another one. -/
import Derived.Test.YtikjamcemnbhbaaMrPkC
namespace Go.Proofs.Ytikjamcemnbhbaa.Mr
open Go.RowKit Go.Proofs.YtikjamcemnbhbaaW.PrintWords Go.Proofs.YtikjamcemnbhbaaW.PrintLast
set_option linter.unusedVariables false
set_option linter.unusedSimpArgs false
section
theorem unit_one (A B : Value) (m : Int) (C : Value) (hA : A.oneCell' = true := by rfl) (hB : B.oneCell' = true := by rfl) (hC : C.oneCell' = true := by rfl) : ∀ q ∈ (#[A, B, .int .i64 m, C] : Array Value).toList, q.oneCell' = true := by
  intro q hq
  simp at hq
  rcases hq with rfl | rfl | rfl | rfl
  · exact hA
  · exact hB
  · rfl
  · exact hC
/-- The unit of known: skip, end. -/
def kCs : List S49 := [⟨0, [⟨12, 0, 0, 0, 0, 0, 0, 1, 0⟩, ⟨14, 0, 0, 0, 0, 0, 0, 1, 0⟩]⟩]
instance decS33 : DecidableEq S33 := fun a b => decidable_of_iff (a.f0 = b.f0 ∧ a.f1 = b.f1 ∧ a.f2 = b.f2 ∧ a.f3 = b.f3 ∧ a.f4 = b.f4 ∧ a.f5 = b.f5 ∧ a.f6 = b.f6 ∧ a.f7 = b.f7 ∧ a.f8 = b.f8) ⟨fun ⟨h0, h1, h2, h3, h4, h5, h6, h7, h8⟩ => by cases a; cases b; simp_all, fun h => by subst h; simp⟩
theorem ok_acts {ng na nm nv nl : Int} {a : S33} (h : (decide (1 ≤ a.f0 ∧ a.f0 ≤ 14) && (decide (namedP a = a)) && decide (0 ≤ a.f7 ∧ a.f7 ≤ nl - 1) && decide (0 ≤ a.f8 ∧ a.f8 ≤ nl - 1) && fitsB a.f5 && decide ((if opMax a.f0 = 0 then 0 else 1) ≤ a.f6 ∧ a.f6 ≤ opMax a.f0) && decide (0 ≤ a.f4 ∧ a.f4 ≤ sharedN ng na nm a.f0 - 1) && (varsP a).all (fun v => decide (0 ≤ v ∧ v ≤ nv - 1))) = true) : OkAct ng na nm nv nl a := by
  simp only [Bool.and_eq_true, decide_eq_true_eq, List.all_eq_true] at h
  obtain ⟨⟨⟨⟨⟨⟨⟨h1, h2⟩, h3⟩, h4⟩, h5⟩, h6⟩, h7⟩, h8⟩ := h
  exact ⟨h1, h2, h3, h4, h5, h6, h7, h8⟩
theorem ok_k : OkUnit [] [] 0 kCs := by
  refine ⟨by decide, by simp, by decide, by simp, by decide, by decide, fun c hc => ?_⟩
  have hc : c = _ := List.mem_singleton.1 hc
  subst hc
  refine ⟨by decide, by decide, by decide, fun a ha => ?_⟩
  simp only [List.mem_cons, List.not_mem_nil, or_false] at ha
  rcases ha with rfl | rfl <;> exact ok_acts (by decide)
def kS0 : St := newSt [] [] kCs 0 0 1
theorem kn1 : (nxt kCs kS0 0).isSome = true := by decide
theorem kn2 : (nxt kCs (stepP kCs 0 kS0 0 0) 0).isSome = false := by decide
theorem kn3 : atOf kCs (stepP kCs 0 (stepP kCs 0 kS0 0 0) 0 0) 0 = 1 := by decide
set_option maxHeartbeats 4000000 in
set_option maxRecDepth 100000 in
theorem known_calls (w : World) : Calls Try.prog 23 #[] w fun e w' => e = .returned (.bool true) ∧ Below w.heap.size w w' := by
  go_enter Try.func23, Try.ntmps23
  go_wp2_with (first | ((with_reducible refine gate_dst (N := 7) rfl ?_); refine lit_event (n := 2) ?hg (N := 7) ?hd (cs := #[.int .i64 12, .int .i64 0, .int .i64 0, .int .i64 0, .int .i64 0, .int .i64 0, .int .i64 0, .int .i64 1, .int .i64 0, .int .i64 14, .int .i64 0, .int .i64 0, .int .i64 0, .int .i64 0, .int .i64 0, .int .i64 0, .int .i64 1, .int .i64 0]) (t := 33) ?hr ?_; (case hd => rfl); (case hg => rfl); (case hr => first | (go_simp; done) | (go_simp; rfl)); intro ga w1 hlit hb; have HLw1 := Aside0.mk hlit; have HBw1 := Aside0.mk (hb); clear hlit hb) | ((with_reducible refine gate_dst (N := 9) rfl ?_); refine lit_event (n := 1) ?hg (N := 9) ?hd (cs := #[.int .i64 0, .slice (some ⟨ga, 0, none⟩) 2 2]) (t := 49) ?hr ?_; (case hd => rfl); (case hg => rfl); (case hr => first | (go_simp; done) | (go_simp; rfl)); intro gc w2 hlit hb; have HLw2 := Aside0.mk hlit; have HBw2 := Aside0.mk (below_on HBw1.out hb); have HLb := Aside0.mk (below_read hb HLw1.out); clear hlit hb) | ((with_reducible refine gate_dst (N := 1) rfl ?_); refine box_event ?hg (N := 1) ?hd (cs := #[.slice none 0 0, .slice none 0 0, .int .i64 0, .slice none 0 0]) (t := 25) ?hr ?_; (case hd => rfl); (case hg => rfl); (case hr => first | (go_simp; done) | (go_simp; rfl)); intro gv hgg w3 hbx hb; have HXw3 := Aside0.mk hbx; have HGw3 := Aside0.mk hgg; have HBw3 := Aside0.mk (below_on HBw2.out hb); have HLc := Aside0.mk (below_read hb HLb.out); have HLd := Aside0.mk (below_read hb HLw2.out); clear hbx hgg hb) | ((with_reducible refine gate_store (t := 25) (p := 1) rfl ?_); refine put_row ?hg ?hn 25 (.tmp 1) (.tmp 10) ?ho gv 25 _ (#[.slice none 0 0, .slice none 0 0, .int .i64 0, .slice (some ⟨gc, 0, none⟩) 1 1]) ?hp ?hx ?hu HXw3.out ?ht ?hs ?h1 ?_; (case hg => rfl); (case hn => rfl); (case ho => rfl); (case hp => rfl); (case hx => rfl); (case hu => rfl); (case ht => kernel_rfl); (case hs => rfl); (case h1 => exact unit_one _ _ _ _); intro w4 hbx hg; have HXw4 := Aside0.mk hbx; have HGRw4 := Aside0.mk hg; have hu0 := (blk_cell hbx 0).trans rfl; have hu1 := (blk_cell hbx 1).trans rfl; have hu2 := (blk_cell hbx 2).trans rfl; have hu3 := (blk_cell hbx 3).trans rfl; have HB4 := Aside0.mk (HBw3.out.grown hg HBw3.out.size (fun q hq => by injection hq with hq; rw [← hq, HGw3.out]; exact HBw2.out.size)); have HL4 := Aside0.mk (blk_keep HLc.out hg (fun e => by injection e with e; subst e; have h1 := HXw3.out; rw [HLc.out] at h1; injection h1 with h1; injection h1 with _ h1 _; exact absurd h1 (by decide))); have HM4 := Aside0.mk (blk_keep HLd.out hg (fun e => by injection e with e; subst e; have h1 := HXw3.out; rw [HLd.out] at h1; injection h1 with h1; injection h1 with _ h1 _; exact absurd h1 (by decide))); clear hbx hg))
  go_at_call 19
  refine (new_live w4 none 0 [] none 0 [] 0 (some ⟨gc, 0, none⟩) 1 kCs (C_none _ _) (Nat.le_refl _) (C_none _ _) (Nat.le_refl _) (C49_one w4 gc ⟨0, _⟩ (some ⟨ga, 0, none⟩) 2 (Nat.le_refl _) (C33_lit w4 ga [⟨12, 0, 0, 0, 0, 0, 0, 1, 0⟩, ⟨14, 0, 0, 0, 0, 0, 0, 1, 0⟩] HL4.out (by decide)) HM4.out) (Nat.le_refl _) ok_k).mono ?_
  rintro e w5 ⟨ph, rfl, hL, hb5⟩
  have H5 := Aside0.mk hL
  have HB5 := Aside0.mk (below_on HB4.out hb5)
  clear hu0 hu1 hu2 hu3 hL hb5
  go_wp2_with fail
  go_at_call 22
  refine (H5.out.step 0 0 kn1).mono ?_
  rintro e w6 ⟨rfl, h6⟩
  have H6 := Aside0.mk h6.1
  have HB6 := Aside0.mk (Chg.below HB5.out HB5.out.size HB4.out.size h6.2)
  clear h6
  go_wp2_with fail
  go_at_call 22
  refine (H6.out.step 0 0 kn2).mono ?_
  rintro e w7 ⟨rfl, h7⟩
  have H7 := Aside0.mk h7.1
  have HB7 := Aside0.mk (Chg.below HB6.out HB6.out.size HB4.out.size h7.2)
  clear h7
  go_wp2_with fail
  go_at_call 24
  refine (H7.out.at_ 0 kn3).mono ?_
  rintro e w8 ⟨rfl, h8⟩
  have HB8 := Aside0.mk (below_on HB7.out h8)
  clear h8
  go_wp2_with fail
  go_ret
  exact ⟨rfl, HB8.out⟩
def iCs : List S49 := [⟨1, [⟨3, 0, 0, 0, 0, 0, 0, 1, 0⟩, ⟨14, 0, 0, 0, 0, 0, 0, 1, 0⟩]⟩]
def iS0 : St := newSt [] [] iCs 0 0 1
end
section
theorem sm_new {G A : List Int} {m : Int} {cs : List S49} (ok : OkUnit G A m cs) (k : Nat) : ((newSt G A cs A.length m.toNat cs.length).row k).length ≤ 1000 := by
  show (newRow G A cs A.length m.toNat cs.length k).length ≤ 1000
  have hm := ok.ms
  have hg := ok.gl
  unfold newRow
  split
  · omega
  · split
    · rw [List.length_replicate]; omega
    · split
      · split
        · rename_i h
          rw [List.length_replicate]
          have := ok.az _ (rd_mem A _ h)
          omega
        · simp
      · split
        · rename_i h
          rw [List.length_replicate]
          have := (ok.ts _ (rd49_mem cs _ h.2)).vars
          omega
        · simp
theorem sm_step {cs : List S49} {nA : Nat} {s : St} (h : ∀ k, (s.row k).length ≤ 1000) (i inp : Int) (k : Nat) : ((stepP cs nA s i inp).row k).length ≤ 1000 := by
  unfold stepP
  split
  · exact h k
  · rw [doneP_len]; exact h k
theorem MachIn.raise {w : World} {lo hi fl fl' : Nat} {ph : Ph} {cs : List S49} {nA : Nat} {s : St} (H : MachIn w lo hi fl ph cs nA s) (hb : s.bad = none) (h2 : hi ≤ fl') : MachIn w lo hi fl' ph cs nA s := by
  refine ⟨?_, H.bm, h2, H.hT, H.hTl, H.hA, H.hAl, H.th, H.inj, H.code, H.rows, H.rlt, H.apart⟩
  obtain ⟨fp, h1, h2⟩ := H.hm
  refine ⟨fp, h1, ?_⟩
  rw [hb] at h2 ⊢
  exact h2
/-- A machine whose own blocks are from L to below R, its fault's beyond F. -/
structure Lv (L R F : Nat) (w : World) (ph : Ph) (cs : List S49) (nA : Nat) (s : St) : Prop where
  m : MachIn w L R F ph cs nA s
  wf : Wf cs nA s
  sz : F ≤ w.heap.size
  sm : ∀ k, (s.row k).length ≤ 1000
theorem Lv.of {L R F : Nat} {w : World} {ph : Ph} {cs : List S49} {nA : Nat} {s : St} (H : Live L R w ph cs nA s) (sm : ∀ k, (s.row k).length ≤ 1000) (hb : s.bad = none) (h1 : R ≤ F) (h2 : F ≤ w.heap.size) : Lv L R F w ph cs nA s :=
  ⟨H.m.raise hb h1, H.wf, h2, sm⟩
theorem Lv.below {L R F : Nat} {w w' : World} {ph : Ph} {cs : List S49} {nA : Nat} {s : St} (H : Lv L R F w ph cs nA s) (h : Below w.heap.size w w') : Lv L R F w' ph cs nA s := ⟨H.m.below h, H.wf, Nat.le_trans H.sz h.size, H.sm⟩
theorem Lv.raise {L R F F' : Nat} {w : World} {ph : Ph} {cs : List S49} {nA : Nat} {s : St} (H : Lv L R F w ph cs nA s) (hb : s.bad = none) (h1 : R ≤ F') (h2 : F' ≤ w.heap.size) : Lv L R F' w ph cs nA s := ⟨H.m.raise hb h1, H.wf, h2, H.sm⟩
/-- Another machine's step. -/
theorem Lv.other {L R F lo' hi' : Nat} {w w' : World} {ph : Ph} {cs : List S49} {nA : Nat} {s : St} (H : Lv L R F w ph cs nA s) (h : Chg lo' hi' w w') (h1 : hi' ≤ L ∨ R ≤ lo') (h2 : hi' ≤ F) : Lv L R F w' ph cs nA s :=
  ⟨H.m.other h h1 h2, H.wf, Nat.le_trans H.sz h.size, H.sm⟩
def LvOut (L R F : Nat) (w : World) (ph : Ph) (cs : List S49) (nA : Nat) (s : St) (i inp : Int) (w' : World) : Prop := Lv L R F w' ph cs nA (stepP cs nA s i inp) ∧ Chg L R w w'
theorem Lv.step {L R F : Nat} {w : World} {ph : Ph} {cs : List S49} {nA : Nat} {s : St} (H : Lv L R F w ph cs nA s) (i inp : Int) {b : Bool} (hb : (nxt cs s i).isSome = b) :
    Calls Try.prog 22 #[.pointer (some ⟨ph.bm, 0, none⟩), .int .i64 i, .int .i64 inp] w fun e w' => e = .returned (.bool b) ∧ LvOut L R F w ph cs nA s i inp w' := by
  subst hb
  exact (step_calls w H.m H.wf H.sz i inp).mono fun e w' ⟨he, hl⟩ => ⟨he, ⟨hl.1, H.wf.step i inp, Nat.le_trans H.sz hl.2.size, sm_step H.sm i inp⟩, hl.2⟩
theorem Lv.at_ {L R F : Nat} {w : World} {ph : Ph} {cs : List S49} {nA : Nat} {s : St} (H : Lv L R F w ph cs nA s) (i : Int) {n : Int} (hn : atOf cs s i = n) :
    Calls Try.prog 24 #[.pointer (some ⟨ph.bm, 0, none⟩), .int .i64 i] w fun e w' => e = .returned (.int .i64 n) ∧ Below w.heap.size w w' := by
  subst hn
  exact at_calls w H.m i
theorem Lv.owner {L R F : Nat} {w : World} {ph : Ph} {cs : List S49} {nA : Nat} {s : St} (H : Lv L R F w ph cs nA s) (i : Int) {n : Int} (hn : ownOf s i = n) :
    Calls Try.prog 21 #[.pointer (some ⟨ph.bm, 0, none⟩), .int .i64 i] w fun e w' => e = .returned (.int .i64 n) ∧ Below w.heap.size w w' := by
  subst hn
  exact owner_calls w H.m i
theorem Lv.next {L R F : Nat} {w : World} {ph : Ph} {cs : List S49} {nA : Nat} {s : St} (H : Lv L R F w ph cs nA s) (i : Int) {v : Value} (hv : nxtV (nxt cs s i) = v) :
    Calls Try.prog 20 #[.pointer (some ⟨ph.bm, 0, none⟩), .int .i64 i] w fun e w' => e = .returned v ∧ Below w.heap.size w w' := by
  subst hv
  exact next_calls w H.m H.wf i
theorem varsOf_sm {cs : List S49} {s : St} (h : ∀ k, (s.row k).length ≤ 1000) (i : Int) : (varsOf cs s i).length ≤ 1000 := by
  unfold varsOf
  split
  · exact h _
  · simp
theorem arrOf_sm {nA : Nat} {s : St} (h : ∀ k, (s.row k).length ≤ 1000) (i : Int) : (arrOf nA s i).length ≤ 1000 := by
  unfold arrOf
  split
  · exact h _
  · simp
theorem Lv.vars {L R F : Nat} {w : World} {ph : Ph} {cs : List S49} {nA : Nat} {s : St} (H : Lv L R F w ph cs nA s) (i : Int) {xs : List Int} (hx : varsOf cs s i = xs) :
    Calls Try.prog 25 #[.pointer (some ⟨ph.bm, 0, none⟩), .int .i64 i] w fun e w' => Handed2 xs w e w' := by
  subst hx
  exact (vars_calls w H.m i (varsOf_sm H.sm i)).mono fun e w' h => rowOut_handed h
theorem Lv.array {L R F : Nat} {w : World} {ph : Ph} {cs : List S49} {nA : Nat} {s : St} (H : Lv L R F w ph cs nA s) (i : Int) {xs : List Int} (hx : arrOf nA s i = xs) :
    Calls Try.prog 32 #[.pointer (some ⟨ph.bm, 0, none⟩), .int .i64 i] w fun e w' => Handed2 xs w e w' := by
  subst hx
  exact (array_calls w H.m i (arrOf_sm H.sm i)).mono fun e w' h => rowOut_handed h
theorem Lv.globals {L R F : Nat} {w : World} {ph : Ph} {cs : List S49} {nA : Nat} {s : St} (H : Lv L R F w ph cs nA s) {xs : List Int} (hx : s.row 0 = xs) :
    Calls Try.prog 28 #[.pointer (some ⟨ph.bm, 0, none⟩)] w fun e w' => Handed2 xs w e w' := by
  subst hx
  exact (globals_calls w H.m (H.sm 0)).mono fun e w' h => rowOut_handed h
theorem Lv.fault {L R F : Nat} {w : World} {ph : Ph} {cs : List S49} {nA : Nat} {s : St} (H : Lv L R F w ph cs nA s) {v : Value} (hv : badV s.bad = v) :
    Calls Try.prog 27 #[.pointer (some ⟨ph.bm, 0, none⟩)] w fun e w' => e = .returned v ∧ Below w.heap.size w w' := by
  subst hv
  exact fault_calls w H.m
/-! ### what a step leaves as it was -/
theorem setRow_row (s : St) (k j : Nat) (xs : List Int) (h : j ≠ k) : (s.setRow k xs).row j = s.row j := if_neg h
theorem shr_pc0 (nA : Nat) (s : St) (i : Int) (a : S33) : (shr nA s i a).1.pc = s.pc := by
  unfold shr
  repeat' split
  all_goals rfl
theorem after_pc (nA : Nat) (s : St) (i : Int) (a : S33) (inp : Int) : (after1 nA s i a inp).1.pc = s.pc := by
  unfold after1
  split
  · rw [shr_pc0]; rfl
  · rfl
theorem done_row (nA : Nat) (s : St) (i : Int) (a : S33) (inp : Int) : (doneP nA s i a inp).row = (after1 nA s i a inp).1.row := by
  unfold doneP
  split <;> rfl
/-- Row 1 behind an action. -/
theorem shr_own (nA : Nat) (s : St) (i : Int) (a : S33) : (shr nA s i a).1.row 1 = (if a.f0 = 9 then (if rd (s.row 1) a.f4 = i then s.row 1 else (s.row 1).set a.f4.toNat i) else if a.f0 = 10 then (if rd (s.row 1) a.f4 = i then (s.row 1).set a.f4.toNat (-1) else s.row 1) else s.row 1) := by
  unfold shr
  by_cases h9 : a.f0 = 9
  · have n5 : ¬ a.f0 = 5 := by omega
    have n6 : ¬ a.f0 = 6 := by omega
    have n7 : ¬ (a.f0 = 7 ∨ a.f0 = 8) := by omega
    rw [if_neg n5, if_neg n6, if_neg n7, if_pos h9, if_pos h9]
    split <;> rfl
  · by_cases h10 : a.f0 = 10
    · have n5 : ¬ a.f0 = 5 := by omega
      have n6 : ¬ a.f0 = 6 := by omega
      have n7 : ¬ (a.f0 = 7 ∨ a.f0 = 8) := by omega
      rw [if_neg n5, if_neg n6, if_neg n7, if_neg h9, if_pos h10, if_neg h9, if_pos h10]
      split <;> rfl
    · rw [if_neg h9, if_neg h10, if_neg h9, if_neg h10]
      repeat' split
      all_goals first
        | rfl
        | (refine setRow_row _ _ _ _ ?_; omega)
theorem reck_err (vs : List Int) (a : S33) (inp : Int) (h : a.f0 = 9 ∨ a.f0 = 10) : reck vs a inp = (vs, 0) := by
  unfold reck
  rw [if_neg (by omega), if_neg (by omega), if_neg (by omega), if_neg (by omega), if_neg (by omega)]
theorem after_own (nA : Nat) (s : St) (i : Int) (a : S33) (inp : Int) : (after1 nA s i a inp).1.row 1 = (if a.f0 = 9 then (if rd (s.row 1) a.f4 = i then s.row 1 else (s.row 1).set a.f4.toNat i) else if a.f0 = 10 then (if rd (s.row 1) a.f4 = i then (s.row 1).set a.f4.toNat (-1) else s.row 1) else s.row 1) := by
  have e1 : ∀ xs : List Int, (s.setRow (4 + 2 * i.toNat) xs).row 1 = s.row 1 := fun xs => setRow_row _ _ _ _ (by omega)
  unfold after1
  by_cases h : a.f0 = 9 ∨ a.f0 = 10
  · rw [reck_err _ _ _ h]
    rw [if_pos rfl, shr_own, e1]
  · split
    · rw [shr_own, e1]
    · show (s.setRow _ _).row 1 = _
      rw [e1, if_neg (by omega), if_neg (by omega)]
/-- A mutex's owner is changed by its own lock and unlock alone. -/
def OwnSame (cs : List S49) (s s2 : St) (t k : Int) : Prop :=
  ownOf s2 k = ownOf s k ∨ (∃ a, nxt cs s t = some a ∧ a.f0 = 9 ∧ a.f4 = k ∧ ownOf s k = -1 ∧ ownOf s2 k = t) ∨ (∃ a, nxt cs s t = some a ∧ a.f0 = 10 ∧ a.f4 = k ∧ ownOf s k = t ∧ ownOf s2 k = -1)
end
end Go.Proofs.Ytikjamcemnbhbaa.Mr
