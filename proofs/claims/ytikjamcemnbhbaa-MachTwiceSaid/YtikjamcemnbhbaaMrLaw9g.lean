/- meddlerlaw9: two machines of one unit that are picked alike are alike. -/
import Derived.Test.YtikjamcemnbhbaaMrInts
import Derived.Test.YtikjamcemnbhbaaMrPkF
import Derived.Test.YtikjamcemnbhbaaMrOp
namespace Go.Proofs.Ytikjamcemnbhbaa.Mr
open Go.RowKit Go.Proofs.YtikjamcemnbhbaaW.PrintWords Go.Proofs.YtikjamcemnbhbaaW.PrintLast Go.Proofs.YtikjamcemnbhbaaW.PrintMore
set_option linter.unusedVariables false
set_option linter.unusedSimpArgs false
set_option maxHeartbeats 8000000 in
set_option maxRecDepth 100000 in
theorem twice_main (w : World) (Ag : Option Addr) (cg : Nat) (G : List Int) (Aa : Option Addr) (ca : Nat) (A : List Int) (m : Int) (At : Option Addr) (ct : Nat) (cs : List S49) (hg : Kd.C (Kd.int .i64) w Ag G.length G) (hcg : G.length ≤ cg) (ha : Kd.C (Kd.int .i64) w Aa A.length A) (hca : A.length ≤ ca) (ht : Kd.C k49 w At cs.length cs) (hct : cs.length ≤ ct) (Al : Option Addr) (cl : Nat) (l : List S37) (hC : Kd.C k37 w Al l.length l) (hl : l.length ≤ 10000) (ok : OkUnit G A m cs) (hbig : ∀ (w : World) (Ag : Option Addr) (cg : Nat) (Aa : Option Addr) (ca : Nat) (At : Option Addr) (ct : Nat), Kd.C (Kd.int .i64) w Ag G.length G → G.length ≤ cg → Kd.C (Kd.int .i64) w Aa A.length A → A.length ≤ ca → Kd.C k49 w At cs.length cs → cs.length ≤ ct → Calls Try.prog 18 #[.agg #[.slice Ag G.length cg, .slice Aa A.length ca, .int .i64 m, .slice At cs.length ct]] w fun e w' => e = .returned (.bool false) ∧ Below w.heap.size w w') :
    Calls Try.prog 8 #[.agg #[.slice Ag G.length cg, .slice Aa A.length ca, .int .i64 m, .slice At cs.length ct], .slice Al l.length cl] w fun e w' => e = .returned (.bool true) ∧ Below w.heap.size w w' := by
  have hcs := ok.tl
  have hlz : ¬ (10000 : Int) < (l.length : Int) := by omega
  have HG := Aside0.mk hg
  have HA := Aside0.mk ha
  have HT := Aside0.mk ht
  have HCG := Aside0.mk hcg
  have HCA := Aside0.mk hca
  have HCT := Aside0.mk hct
  have HC := Aside0.mk hC
  have HBG := Aside0.mk hbig
  have OK := Aside0.mk ok
  clear hg ha ht hcg hca hct hC hbig ok
  go_enter Try.func8, Try.ntmps8
  go_wp2_with (first | ((with_reducible refine gate_dst (N := 2) rfl ?_); refine box_event ?hg (N := 2) ?hd (cs := #[.slice Ag G.length cg, .slice Aa A.length ca, .int .i64 m, .slice At cs.length ct]) (t := 25) ?hr ?_; (case hd => rfl); (case hg => rfl); (case hr => first | (go_simp; done) | (go_simp; rfl)); intro gu hgg w1 hlit hb; have HLw1 := Aside0.mk hlit; have HKw1 := Aside0.mk hb; have HGw1 := Aside0.mk hgg; have HB1 := Aside0.mk hb; have HU1 := Aside0.mk hlit; have hu0 : w1.cell? ⟨gu, 0, none⟩ = some (.slice Ag G.length cg) := (blk_cell HU1.out 0).trans rfl; have hu1 : w1.cell? ⟨gu, 1, none⟩ = some (.slice Aa A.length ca) := (blk_cell HU1.out 1).trans rfl; have hu2 : w1.cell? ⟨gu, 2, none⟩ = some (.int .i64 m) := (blk_cell HU1.out 2).trans rfl; have hu3 : w1.cell? ⟨gu, 3, none⟩ = some (.slice At cs.length ct) := (blk_cell HU1.out 3).trans rfl; clear hlit hb hgg))
  refine (HBG.out w1 Ag cg Aa ca At ct (Kd.C_below HG.out HB1.out) HCG.out (Kd.C_below HA.out HB1.out) HCA.out (Kd.C_below HT.out HB1.out) HCT.out).mono ?_
  rintro e w2 ⟨rfl, hb⟩
  have HB2 := Aside0.mk (below_on HB1.out hb)
  have HU2 := Aside0.mk (below_read hb HU1.out)
  clear hb
  clear hu0 hu1 hu2 hu3
  have hu0 : w2.cell? ⟨gu, 0, none⟩ = some (.slice Ag G.length cg) := (blk_cell HU2.out 0).trans rfl
  have hu1 : w2.cell? ⟨gu, 1, none⟩ = some (.slice Aa A.length ca) := (blk_cell HU2.out 1).trans rfl
  have hu2 : w2.cell? ⟨gu, 2, none⟩ = some (.int .i64 m) := (blk_cell HU2.out 2).trans rfl
  have hu3 : w2.cell? ⟨gu, 3, none⟩ = some (.slice At cs.length ct) := (blk_cell HU2.out 3).trans rfl
  go_wp2_with fail
  refine (new_live w2 Ag cg G Aa ca A m At ct cs (Kd.C_below HG.out HB2.out) HCG.out (Kd.C_below HA.out HB2.out) HCA.out (Kd.C_below HT.out HB2.out) HCT.out OK.out).mono ?_
  rintro e w3 ⟨ph, rfl, hL, hb⟩
  have H3 := Aside0.mk (Lv.of hL (sm_new OK.out) rfl (Nat.le_refl _) (Nat.le_refl _))
  have HB3 := Aside0.mk (below_on HB2.out hb)
  have HU3 := Aside0.mk (below_read hb HU2.out)
  have HGU := Aside0.mk (show gu < w2.heap.size from blk_lt HU2.out)
  have HW2 := Aside0.mk (show w.heap.size ≤ w2.heap.size from HB2.out.size)
  have HW3 := Aside0.mk (show w2.heap.size ≤ w3.heap.size from hb.size)
  clear hL hb
  clear hu0 hu1 hu2 hu3
  have hu0 : w3.cell? ⟨gu, 0, none⟩ = some (.slice Ag G.length cg) := (blk_cell HU3.out 0).trans rfl
  have hu1 : w3.cell? ⟨gu, 1, none⟩ = some (.slice Aa A.length ca) := (blk_cell HU3.out 1).trans rfl
  have hu2 : w3.cell? ⟨gu, 2, none⟩ = some (.int .i64 m) := (blk_cell HU3.out 2).trans rfl
  have hu3 : w3.cell? ⟨gu, 3, none⟩ = some (.slice At cs.length ct) := (blk_cell HU3.out 3).trans rfl
  go_wp2_with fail
  refine (new_live w3 Ag cg G Aa ca A m At ct cs (Kd.C_below HG.out HB3.out) HCG.out (Kd.C_below HA.out HB3.out) HCA.out (Kd.C_below HT.out HB3.out) HCT.out OK.out).mono ?_
  rintro e w4 ⟨p2, rfl, hL, hb⟩
  have HW4 := Aside0.mk (show w3.heap.size ≤ w4.heap.size from hb.size)
  have H4 := Aside0.mk (Lv.raise (H3.out.below hb) rfl HW4.out (Nat.le_refl _))
  have K4 := Aside0.mk (Lv.of hL (sm_new OK.out) rfl (Nat.le_refl _) (Nat.le_refl _))
  have HB4 := Aside0.mk (below_on HB3.out hb)
  have HU4 := Aside0.mk (below_read hb HU3.out)
  clear hL hb
  clear hu0 hu1 hu2 hu3
  go_wp2_with fail
  go_loopg [9] l.length (fun gg s9 wr => ∃ (i : Nat) (s : St), i ≤ l.length ∧ l.length - i ≤ gg ∧ s9 = .int .i64 i ∧ Aside0 (Lv w2.heap.size w3.heap.size w4.heap.size wr ph cs A.length s ∧ Lv w3.heap.size w4.heap.size w4.heap.size wr p2 cs A.length s ∧ wr.heap[gu]? = some (.cells #[.slice Ag G.length cg, .slice Aa A.length ca, .int .i64 m, .slice At cs.length ct] 25 (0, 0)) ∧ Below w.heap.size w wr))
  case atStart => exact ⟨0, _, Nat.zero_le _, by omega, rfl, ⟨H4.out, K4.out, HU4.out, HB4.out⟩⟩
  case round =>
    clear H3 H4 K4 HB3 HB4 HU3 HU4
    obtain ⟨i, s, hi, hgg, rfl, HL⟩ := hrel
    generalize wr = wo at *
    by_cases hlt : i < l.length ∧ i < 300
    · have hltz : (i : Int) < (l.length : Int) := by omega
      have h3z : (i : Int) < 300 := by omega
      obtain ⟨ad, rfl, hp0, hp1⟩ := at_T37 HC.out (i : Int) (by omega) hltz
      rw [Int.toNat_natCast] at hp0 hp1
      generalize rd_T37 l (i : Int) = p at hp0 hp1
      obtain ⟨t, inp⟩ := p
      simp only at hp0 hp1
      have HP0 := Aside0.mk hp0
      have HP1 := Aside0.mk hp1
      clear hp0 hp1
      have hp0 := pw_cell_below HL.out.2.2.2 HP0.out
      have hp1 := pw_cell_below HL.out.2.2.2 HP1.out
      obtain ⟨b, hb⟩ : ∃ b, (nxt cs s t).isSome = b := ⟨_, rfl⟩
      have HBB := Aside0.mk hb
      have hbb : (b != b) = false := bne_self_eq_false b
      clear hb hlt
      go_wp2_with fail
      refine start_ (n := 25) (S := fun w' => w'.cell? (ad.add (i * 2)) = some (.int .i64 t) ∧ w'.cell? ⟨(ad.add (i * 2)).block, (ad.add (i * 2)).off + 1, none⟩ = some (.int .i64 inp)) (ds := []) #[false, false, false, false, false, false, false, false, false, false, false, false, false, false, false, false, false, false, false, false, false, false, false, false, false] (by kernel_rfl) rfl rfl ⟨hp0, hp1⟩ (fun hHeld => ?_)
      refine pure_ (i := 0) (N := some 52) (v := ?_) (a' := ?_) #[true, false, false, false, false, false, false, false, false, false, false, false, false, false, false, false, false, false, false, false, false, false, false, false, false] rfl rfl (by kernel_rfl) (fun _ _ _ h => h) (Or.inl ⟨by rfl, ?_⟩) ?_ ?_
      rotate_left
      · intro w'
        go_simp
        with_reducible rfl
      rotate_left
      · simp only [Act.put, List.setIfInBounds_toArray, List.set_cons_zero, List.set_cons_succ, i64_w, i32_w]
        rfl
      refine pure_ (i := 1) (N := some 53) (v := ?_) (a' := ?_) #[true, true, false, false, false, false, false, false, false, false, false, false, false, false, false, false, false, false, false, false, false, false, false, false, false] rfl rfl (by kernel_rfl) (fun _ _ _ h => h) (Or.inl ⟨by rfl, ?_⟩) ?_ ?_
      rotate_left
      · intro w'
        go_simp
        with_reducible rfl
      rotate_left
      · simp only [Act.put, List.setIfInBounds_toArray, List.set_cons_zero, List.set_cons_succ, i64_w, i32_w]
        rfl
      refine pure_ (i := 2) (N := some 54) (v := ?_) (a' := ?_) #[true, true, true, false, false, false, false, false, false, false, false, false, false, false, false, false, false, false, false, false, false, false, false, false, false] rfl rfl (by kernel_rfl) (fun _ _ _ h => h) (Or.inl ⟨by rfl, ?_⟩) ?_ ?_
      rotate_left
      · intro w'
        go_simp
        with_reducible rfl
      rotate_left
      · simp only [Act.put, List.setIfInBounds_toArray, List.set_cons_zero, List.set_cons_succ, i64_w, i32_w]
        rfl
      refine pure_ (i := 3) (N := some 55) (v := ?_) (a' := ?_) #[true, true, true, true, false, false, false, false, false, false, false, false, false, false, false, false, false, false, false, false, false, false, false, false, false] rfl rfl (by kernel_rfl) (fun _ _ _ h => h) (Or.inl ⟨by rfl, ?_⟩) ?_ ?_
      rotate_left
      · intro w'
        go_simp
        with_reducible rfl
      rotate_left
      · simp only [Act.put, List.setIfInBounds_toArray, List.set_cons_zero, List.set_cons_succ, i64_w, i32_w]
        rfl
      refine pure_ (i := 4) (N := some 56) (v := ?_) (a' := ?_) #[true, true, true, true, true, false, false, false, false, false, false, false, false, false, false, false, false, false, false, false, false, false, false, false, false] rfl rfl (by kernel_rfl) (fun _ _ _ h => h) (Or.inl ⟨by rfl, ?_⟩) ?_ ?_
      rotate_left
      · intro w'
        go_simp
        with_reducible rfl
      rotate_left
      · simp only [Act.put, List.setIfInBounds_toArray, List.set_cons_zero, List.set_cons_succ, i64_w, i32_w]
        rfl
      refine pure_ (i := 6) (N := some 58) (v := ?_) (a' := ?_) #[true, true, true, true, true, false, true, false, false, false, false, false, false, false, false, false, false, false, false, false, false, false, false, false, false] rfl rfl (by kernel_rfl) (fun _ _ _ h => h) (Or.inl ⟨by rfl, ?_⟩) ?_ ?_
      rotate_left
      · intro w'
        go_simp
        with_reducible rfl
      rotate_left
      · simp only [Act.put, List.setIfInBounds_toArray, List.set_cons_zero, List.set_cons_succ, i64_w, i32_w]
        rfl
      refine pure_ (i := 7) (N := some 59) (v := ?_) (a' := ?_) #[true, true, true, true, true, false, true, true, false, false, false, false, false, false, false, false, false, false, false, false, false, false, false, false, false] rfl rfl (by kernel_rfl) (fun _ _ _ h => h) (Or.inl ⟨by rfl, ?_⟩) ?_ ?_
      rotate_left
      · intro w'
        go_simp
        with_reducible rfl
      rotate_left
      · simp only [Act.put, List.setIfInBounds_toArray, List.set_cons_zero, List.set_cons_succ, i64_w, i32_w]
        rfl
      refine pure_ (i := 8) (N := some 60) (v := ?_) (a' := ?_) #[true, true, true, true, true, false, true, true, true, false, false, false, false, false, false, false, false, false, false, false, false, false, false, false, false] rfl rfl (by kernel_rfl) (fun _ _ _ h => h) (Or.inl ⟨by rfl, ?_⟩) ?_ ?_
      rotate_left
      · intro w'
        go_simp
        with_reducible rfl
      rotate_left
      · simp only [Act.put, List.setIfInBounds_toArray, List.set_cons_zero, List.set_cons_succ, i64_w, i32_w]
        rfl
      refine pure_ (i := 9) (N := some 61) (v := ?_) (a' := ?_) #[true, true, true, true, true, false, true, true, true, true, false, false, false, false, false, false, false, false, false, false, false, false, false, false, false] rfl rfl (by kernel_rfl) (fun _ _ _ h => h) (Or.inl ⟨by rfl, ?_⟩) ?_ ?_
      rotate_left
      · intro w'
        go_simp
        with_reducible rfl
      rotate_left
      · simp only [Act.put, List.setIfInBounds_toArray, List.set_cons_zero, List.set_cons_succ, i64_w, i32_w]
        rfl
      refine pure_ (i := 12) (N := some 64) (v := ?_) (a' := ?_) #[true, true, true, true, true, false, true, true, true, true, false, false, true, false, false, false, false, false, false, false, false, false, false, false, false] rfl rfl (by kernel_rfl) (fun _ _ _ h => h) (Or.inl ⟨by rfl, ?_⟩) ?_ ?_
      rotate_left
      · intro w'
        go_simp
        with_reducible rfl
      rotate_left
      · simp only [Act.put, List.setIfInBounds_toArray, List.set_cons_zero, List.set_cons_succ, i64_w, i32_w]
        rfl
      refine pure_ (i := 13) (N := some 65) (v := ?_) (a' := ?_) #[true, true, true, true, true, false, true, true, true, true, false, false, true, true, false, false, false, false, false, false, false, false, false, false, false] rfl rfl (by kernel_rfl) (fun _ _ _ h => h) (Or.inl ⟨by rfl, ?_⟩) ?_ ?_
      rotate_left
      · intro w'
        go_simp
        with_reducible rfl
      rotate_left
      · simp only [Act.put, List.setIfInBounds_toArray, List.set_cons_zero, List.set_cons_succ, i64_w, i32_w]
        rfl
      refine pure_ (i := 14) (N := some 66) (v := ?_) (a' := ?_) #[true, true, true, true, true, false, true, true, true, true, false, false, true, true, true, false, false, false, false, false, false, false, false, false, false] rfl rfl (by kernel_rfl) (fun _ _ _ h => h) (Or.inl ⟨by rfl, ?_⟩) ?_ ?_
      rotate_left
      · intro w'
        go_simp
        with_reducible rfl
      rotate_left
      · simp only [Act.put, List.setIfInBounds_toArray, List.set_cons_zero, List.set_cons_succ, i64_w, i32_w]
        rfl
      refine pure_ (i := 15) (N := some 67) (v := ?_) (a' := ?_) #[true, true, true, true, true, false, true, true, true, true, false, false, true, true, true, true, false, false, false, false, false, false, false, false, false] rfl rfl (by kernel_rfl) (fun _ _ _ h => h) (Or.inl ⟨by rfl, ?_⟩) ?_ ?_
      rotate_left
      · intro w'
        go_simp
        with_reducible rfl
      rotate_left
      · simp only [Act.put, List.setIfInBounds_toArray, List.set_cons_zero, List.set_cons_succ, i64_w, i32_w]
        rfl
      refine pure_ (i := 16) (N := some 68) (v := ?_) (a' := ?_) #[true, true, true, true, true, false, true, true, true, true, false, false, true, true, true, true, true, false, false, false, false, false, false, false, false] rfl rfl (by kernel_rfl) (fun _ _ _ h => h) (Or.inl ⟨by rfl, ?_⟩) ?_ ?_
      rotate_left
      · intro w'
        go_simp
        with_reducible rfl
      rotate_left
      · simp only [Act.put, List.setIfInBounds_toArray, List.set_cons_zero, List.set_cons_succ, i64_w, i32_w]
        rfl
      refine pure_ (i := 18) (N := some 70) (v := ?_) (a' := ?_) #[true, true, true, true, true, false, true, true, true, true, false, false, true, true, true, true, true, false, true, false, false, false, false, false, false] rfl rfl (by kernel_rfl) (fun _ _ _ h => h) (Or.inl ⟨by rfl, ?_⟩) ?_ ?_
      rotate_left
      · intro w'
        go_simp
        with_reducible rfl
      rotate_left
      · simp only [Act.put, List.setIfInBounds_toArray, List.set_cons_zero, List.set_cons_succ, i64_w, i32_w]
        rfl
      refine pure_ (i := 19) (N := some 71) (v := ?_) (a' := ?_) #[true, true, true, true, true, false, true, true, true, true, false, false, true, true, true, true, true, false, true, true, false, false, false, false, false] rfl rfl (by kernel_rfl) (fun _ _ _ h => h) (Or.inl ⟨by rfl, ?_⟩) ?_ ?_
      rotate_left
      · intro w'
        go_simp
        with_reducible rfl
      rotate_left
      · simp only [Act.put, List.setIfInBounds_toArray, List.set_cons_zero, List.set_cons_succ, i64_w, i32_w]
        rfl
      refine pure_ (i := 20) (N := some 72) (v := ?_) (a' := ?_) #[true, true, true, true, true, false, true, true, true, true, false, false, true, true, true, true, true, false, true, true, true, false, false, false, false] rfl rfl (by kernel_rfl) (fun _ _ _ h => h) (Or.inl ⟨by rfl, ?_⟩) ?_ ?_
      rotate_left
      · intro w'
        go_simp
        with_reducible rfl
      rotate_left
      · simp only [Act.put, List.setIfInBounds_toArray, List.set_cons_zero, List.set_cons_succ, i64_w, i32_w]
        rfl
      refine pure_ (i := 21) (N := some 73) (v := ?_) (a' := ?_) #[true, true, true, true, true, false, true, true, true, true, false, false, true, true, true, true, true, false, true, true, true, true, false, false, false] rfl rfl (by kernel_rfl) (fun _ _ _ h => h) (Or.inl ⟨by rfl, ?_⟩) ?_ ?_
      rotate_left
      · intro w'
        go_simp
        with_reducible rfl
      rotate_left
      · simp only [Act.put, List.setIfInBounds_toArray, List.set_cons_zero, List.set_cons_succ, i64_w, i32_w]
        rfl
      refine take_ (i := 5) (N := some 57) (v := ?_) (a' := ?_) #[true, true, true, true, true, true, true, true, true, true, false, false, true, true, true, true, true, false, true, true, true, true, false, false, false] rfl rfl (by kernel_rfl) (fun _ _ _ h => h) (Or.inl ⟨by rfl, ?_⟩) hHeld ?_ ?_
      rotate_left
      · rintro w' ⟨s0, s1⟩
        go_simp
        with_reducible rfl
      rotate_left
      · simp only [Act.put, List.setIfInBounds_toArray, List.set_cons_zero, List.set_cons_succ, i64_w, i32_w]
        rfl
      refine take_ (i := 10) (N := some 62) (v := ?_) (a' := ?_) #[true, true, true, true, true, true, true, true, true, true, true, false, true, true, true, true, true, false, true, true, true, true, false, false, false] rfl rfl (by kernel_rfl) (fun _ _ _ h => h) (Or.inl ⟨by rfl, ?_⟩) hHeld ?_ ?_
      rotate_left
      · rintro w' ⟨s0, s1⟩
        go_simp
        with_reducible rfl
      rotate_left
      · simp only [Act.put, List.setIfInBounds_toArray, List.set_cons_zero, List.set_cons_succ, i64_w, i32_w]
        rfl
      refine take_ (i := 17) (N := some 69) (v := ?_) (a' := ?_) #[true, true, true, true, true, true, true, true, true, true, true, false, true, true, true, true, true, true, true, true, true, true, false, false, false] rfl rfl (by kernel_rfl) (fun _ _ _ h => h) (Or.inl ⟨by rfl, ?_⟩) hHeld ?_ ?_
      rotate_left
      · rintro w' ⟨s0, s1⟩
        go_simp
        with_reducible rfl
      rotate_left
      · simp only [Act.put, List.setIfInBounds_toArray, List.set_cons_zero, List.set_cons_succ, i64_w, i32_w]
        rfl
      refine take_ (i := 22) (N := some 74) (v := ?_) (a' := ?_) #[true, true, true, true, true, true, true, true, true, true, true, false, true, true, true, true, true, true, true, true, true, true, true, false, false] rfl rfl (by kernel_rfl) (fun _ _ _ h => h) (Or.inl ⟨by rfl, ?_⟩) hHeld ?_ ?_
      rotate_left
      · rintro w' ⟨s0, s1⟩
        go_simp
        with_reducible rfl
      rotate_left
      · simp only [Act.put, List.setIfInBounds_toArray, List.set_cons_zero, List.set_cons_succ, i64_w, i32_w]
        rfl
      refine one_ (i := 11) (N := some 63) #[true, true, true, true, true, true, true, true, true, true, true, true, true, true, true, true, true, true, true, true, true, true, true, false, false] rfl rfl (by kernel_rfl) (by decide) (fun K hK => ?_)
      refine goes_ Try.func22 (by kernel_rfl) rfl #[.pointer (some ⟨ph.bm, 0, none⟩), .int .i64 t, .int .i64 inp] (by rfl) rfl rfl (by simp only [List.map_toArray, List.map_cons, List.map_nil, Act.eval]; rfl) ?_
      refine ((HL.out.1.below (drew_below wo)).step t inp HBB.out).mono ?_
      rintro e w5 ⟨rfl, hs⟩
      have HA5 := Aside0.mk hs.1
      have HB5 := Aside0.mk ((HL.out.2.1.below (drew_below wo)).other hs.2 (.inl (Nat.le_refl _)) HW4.out)
      have HU5 := Aside0.mk (hs.2.keep (HL.out.2.2.1 : wo.drew.heap[gu]? = _) (.inl HGU.out))
      have HX5 := Aside0.mk (Chg.below (below_drew HL.out.2.2.2) (below_drew HL.out.2.2.2).size HW2.out hs.2)
      clear hs
      refine ⟨_, rfl, ?_⟩
      refine hK.out _ _ ⟨pw_cell_below HX5.out HP0.out, pw_cell_below HX5.out HP1.out⟩ (fun hHeld => ?_)
      clear hK K
      refine norm_ (a' := ?_) ?_ ?_
      rotate_left
      · show Act.put _ (some 63) _ = _
        simp only [Act.put, List.setIfInBounds_toArray, List.set_cons_zero, List.set_cons_succ, i64_w, i32_w]
        rfl
      refine one_ (i := 23) (N := some 75) #[true, true, true, true, true, true, true, true, true, true, true, true, true, true, true, true, true, true, true, true, true, true, true, true, false] rfl rfl (by kernel_rfl) (by decide) (fun K hK => ?_)
      refine goes_ Try.func22 (by kernel_rfl) rfl #[.pointer (some ⟨p2.bm, 0, none⟩), .int .i64 t, .int .i64 inp] (by rfl) rfl rfl (by simp only [List.map_toArray, List.map_cons, List.map_nil, Act.eval]; rfl) ?_
      refine (HB5.out.step t inp HBB.out).mono ?_
      rintro e w6 ⟨rfl, hs⟩
      have HB6 := Aside0.mk hs.1
      have HA6 := Aside0.mk (HA5.out.other hs.2 (.inr (Nat.le_refl _)) (Nat.le_refl _))
      have HU6 := Aside0.mk (hs.2.keep HU5.out (.inl (Nat.lt_of_lt_of_le HGU.out HW3.out)))
      have HX6 := Aside0.mk (Chg.below HX5.out HX5.out.size (Nat.le_trans HW2.out HW3.out) hs.2)
      clear hs
      refine ⟨_, rfl, ?_⟩
      refine hK.out _ _ ⟨pw_cell_below HX6.out HP0.out, pw_cell_below HX6.out HP1.out⟩ (fun hHeld => ?_)
      clear hK K
      refine norm_ (a' := ?_) ?_ ?_
      rotate_left
      · show Act.put _ (some 75) _ = _
        simp only [Act.put, List.setIfInBounds_toArray, List.set_cons_zero, List.set_cons_succ, i64_w, i32_w]
        rfl
      refine pure_ (i := 24) (N := some 76) (v := ?_) (a' := ?_) #[true, true, true, true, true, true, true, true, true, true, true, true, true, true, true, true, true, true, true, true, true, true, true, true, true] rfl rfl (by kernel_rfl) (fun _ _ _ h => h) (Or.inl ⟨by rfl, ?_⟩) ?_ ?_
      rotate_left
      · intro w'
        go_simp
        with_reducible rfl
      rotate_left
      · simp only [Act.put, List.setIfInBounds_toArray, List.set_cons_zero, List.set_cons_succ, i64_w, i32_w]
        rfl
      refine done_ (by kernel_rfl) ?_
      go_wp2_with fail
      go_roundg (l.length - (i + 1))
      case measure => omega
      case rel => exact ⟨i + 1, _, by omega, by omega, by go_num, ⟨HA6.out, HB6.out, HU6.out, HX6.out⟩⟩
    · have rest : True := trivial
      have HMX := Aside0.mk hlt
      rcases (by omega : ¬ i < l.length ∨ (i < l.length ∧ ¬ i < 300)) with h | ⟨h, h'⟩
      all_goals
        first
          | (have hltz : ¬ (i : Int) < (l.length : Int) := by omega
             have h3z : True := trivial)
          | (have hltz : (i : Int) < (l.length : Int) := by omega
             have h3z : ¬ (i : Int) < 300 := by omega)
        clear hlt
        go_wp2_with fail
        go_loopg [10] cs.length (fun gg s10 wr => ∃ k : Nat, k ≤ cs.length ∧ cs.length - k ≤ gg ∧ s10 = .int .i64 k ∧ Aside0 (Below wo.heap.size wo wr))
        case atStart => exact ⟨0, Nat.zero_le _, by omega, rfl, ⟨Below.refl _ _⟩⟩
        case round =>
          obtain ⟨k, hk, hgk, rfl, HK⟩ := hrel
          generalize wr = wq at *
          have hu3 : wq.cell? ⟨gu, 3, none⟩ = some (.slice At cs.length ct) := (blk_cell (below_read HK.out HL.out.2.2.1) 3).trans rfl
          by_cases hkm : k < cs.length
          · have hkz : (k : Int) < (cs.length : Int) := by omega
            obtain ⟨x, hx⟩ : ∃ x, atOf cs s (k : Int) = x := ⟨_, rfl⟩
            have HX := Aside0.mk hx
            have hxx : (x != x) = false := bne_self_eq_false x
            clear hx
            go_wp2_with fail
            refine ((HL.out.1.below HK.out).at_ (k : Int) HX.out).mono ?_
            rintro e w5 ⟨rfl, hb⟩
            have HB5 := Aside0.mk (below_on HK.out hb)
            clear hb hu3
            go_wp2_with fail
            refine ((HL.out.2.1.below HB5.out).at_ (k : Int) HX.out).mono ?_
            rintro e w6 ⟨rfl, hb⟩
            have HB6 := Aside0.mk (below_on HB5.out hb)
            clear hb
            go_wp2_with fail
            refine ((HL.out.1.below HB6.out).vars (k : Int) rfl).mono ?_
            rintro e w7 ⟨A1, c1, rfl, hc1, HC1, hb⟩
            have HB7 := Aside0.mk (below_on HB6.out hb)
            clear hb
            go_wp2_with fail
            refine ((HL.out.2.1.below HB7.out).vars (k : Int) rfl).mono ?_
            rintro e w8 ⟨A2, c2, rfl, hc2, HC2, hb⟩
            have HB8 := Aside0.mk (below_on HB7.out hb)
            have HD1 := Aside0.mk (Kd.C_below HC1.out hb)
            clear hb
            go_wp2_with fail
            refine (ints_same w8 (varsOf cs s (k : Int)) (varsOf cs s (k : Int)) rfl (Nat.le_trans (varsOf_sm HL.out.1.sm _) (by decide)) A1 c1 A2 c2 HD1.out hc1 HC2.out hc2).mono ?_
            rintro e w9 ⟨rfl, hb⟩
            have HB9 := Aside0.mk (below_on HB8.out hb)
            clear hb
            go_wp2_with fail
            go_roundg (cs.length - (k + 1))
            case measure => omega
            case rel => exact ⟨k + 1, by omega, by omega, by go_num, HB9⟩
          · have hkz : ¬ (k : Int) < (cs.length : Int) := by omega
            go_wp2_with fail
            refine ((HL.out.1.below HK.out).globals rfl).mono ?_
            rintro e w7 ⟨A1, c1, rfl, hc1, HC1, hb⟩
            have HB7 := Aside0.mk (below_on HK.out hb)
            clear hb
            go_wp2_with fail
            refine ((HL.out.2.1.below HB7.out).globals rfl).mono ?_
            rintro e w8 ⟨A2, c2, rfl, hc2, HC2, hb⟩
            have HB8 := Aside0.mk (below_on HB7.out hb)
            have HD1 := Aside0.mk (Kd.C_below HC1.out hb)
            clear hb
            go_wp2_with fail
            refine (ints_same w8 (s.row 0) (s.row 0) rfl (Nat.le_trans (HL.out.1.sm 0) (by decide)) A1 c1 A2 c2 HD1.out hc1 HC2.out hc2).mono ?_
            rintro e w9 ⟨rfl, hb⟩
            have HB9 := Aside0.mk (below_on HB8.out hb)
            clear hb
            go_wp2_with (go_at_call 23; refine (known_calls _).mono ?_; rintro e w10 ⟨rfl, hb⟩)
            go_ret
            exact ⟨rfl, below_on HL.out.2.2.2 (below_on HB9.out hb)⟩
set_option maxHeartbeats 8000000 in
set_option maxRecDepth 100000 in
theorem MachTwice_calls (w : World) (Ag : Option Addr) (cg : Nat) (G : List Int) (Aa : Option Addr) (ca : Nat) (A : List Int) (m : Int) (At : Option Addr) (ct : Nat) (cs : List S49) (hg : Kd.C (Kd.int .i64) w Ag G.length G) (hcg : G.length ≤ cg) (ha : Kd.C (Kd.int .i64) w Aa A.length A) (hca : A.length ≤ ca) (ht : Kd.C k49 w At cs.length cs) (hct : cs.length ≤ ct) (hw : W25 ⟨G, A, m, cs⟩) (Al : Option Addr) (cl : Nat) (l : List S37) (hC : Kd.C k37 w Al l.length l) (hcl : l.length ≤ cl) (hml : l.length ≤ maxLen) :
    Calls Try.prog 8 #[.agg #[.slice Ag G.length cg, .slice Aa A.length ca, .int .i64 m, .slice At cs.length ct], .slice Al l.length cl] w fun e w' => e = .returned (.bool true) ∧ Below w.heap.size w w' := by
  have hlens : ∀ c ∈ cs, c.f1.length ≤ 1000000000000000 := fun c hc => by
    have h := (hw.2.2.2.2.2 c hc).2.2.1
    rw [show Try.prog.bytesOf 33 = 72 by kernel_rfl] at h
    omega
  obtain ⟨b, hb, hbig⟩ := big9 G A m cs hlens
  cases b with
  | true =>
    have HG := Aside0.mk hg
    have HA := Aside0.mk ha
    have HT := Aside0.mk ht
    have HCG := Aside0.mk hcg
    have HCA := Aside0.mk hca
    have HCT := Aside0.mk hct
    have HBG := Aside0.mk hbig
    clear hg ha ht hcg hca hct hC hbig hb hw hcl hml
    go_enter Try.func8, Try.ntmps8
    go_wp2_with (first | ((with_reducible refine gate_dst (N := 2) rfl ?_); refine box_event ?hg (N := 2) ?hd (cs := #[.slice Ag G.length cg, .slice Aa A.length ca, .int .i64 m, .slice At cs.length ct]) (t := 25) ?hr ?_; (case hd => rfl); (case hg => rfl); (case hr => first | (go_simp; done) | (go_simp; rfl)); intro gu hgg w1 hlit hb; have HLw1 := Aside0.mk hlit; have HKw1 := Aside0.mk hb; have HGw1 := Aside0.mk hgg; have HB1 := Aside0.mk hb; have HU1 := Aside0.mk hlit; have hu0 : w1.cell? ⟨gu, 0, none⟩ = some (.slice Ag G.length cg) := (blk_cell HU1.out 0).trans rfl; have hu1 : w1.cell? ⟨gu, 1, none⟩ = some (.slice Aa A.length ca) := (blk_cell HU1.out 1).trans rfl; have hu2 : w1.cell? ⟨gu, 2, none⟩ = some (.int .i64 m) := (blk_cell HU1.out 2).trans rfl; have hu3 : w1.cell? ⟨gu, 3, none⟩ = some (.slice At cs.length ct) := (blk_cell HU1.out 3).trans rfl; clear hlit hb hgg) | (go_at_call 18; (with_reducible refine (HBG.out w1 Ag cg Aa ca At ct (Kd.C_below HG.out HB1.out) HCG.out (Kd.C_below HA.out HB1.out) HCA.out (Kd.C_below HT.out HB1.out) HCT.out).mono ?_); rintro e w2 ⟨rfl, hb⟩; have HB2 := Aside0.mk (below_on HB1.out hb); clear hb))
    go_ret
    exact ⟨rfl, HB2.out⟩
  | false =>
    have ok := (hb.1 rfl).2
    by_cases hl : l.length ≤ 10000
    · exact twice_main w Ag cg G Aa ca A m At ct cs hg hcg ha hca ht hct Al cl l hC hl ok hbig
    have hlz : (10000 : Int) < (l.length : Int) := by omega
    clear ok hl
    have HG := Aside0.mk hg
    have HA := Aside0.mk ha
    have HT := Aside0.mk ht
    have HCG := Aside0.mk hcg
    have HCA := Aside0.mk hca
    have HCT := Aside0.mk hct
    have HBG := Aside0.mk hbig
    clear hg ha ht hcg hca hct hC hbig hb hw hcl hml
    go_enter Try.func8, Try.ntmps8
    go_wp2_with (first | ((with_reducible refine gate_dst (N := 2) rfl ?_); refine box_event ?hg (N := 2) ?hd (cs := #[.slice Ag G.length cg, .slice Aa A.length ca, .int .i64 m, .slice At cs.length ct]) (t := 25) ?hr ?_; (case hd => rfl); (case hg => rfl); (case hr => first | (go_simp; done) | (go_simp; rfl)); intro gu hgg w1 hlit hb; have HLw1 := Aside0.mk hlit; have HKw1 := Aside0.mk hb; have HGw1 := Aside0.mk hgg; have HB1 := Aside0.mk hb; have HU1 := Aside0.mk hlit; have hu0 : w1.cell? ⟨gu, 0, none⟩ = some (.slice Ag G.length cg) := (blk_cell HU1.out 0).trans rfl; have hu1 : w1.cell? ⟨gu, 1, none⟩ = some (.slice Aa A.length ca) := (blk_cell HU1.out 1).trans rfl; have hu2 : w1.cell? ⟨gu, 2, none⟩ = some (.int .i64 m) := (blk_cell HU1.out 2).trans rfl; have hu3 : w1.cell? ⟨gu, 3, none⟩ = some (.slice At cs.length ct) := (blk_cell HU1.out 3).trans rfl; clear hlit hb hgg) | (go_at_call 18; (with_reducible refine (HBG.out w1 Ag cg Aa ca At ct (Kd.C_below HG.out HB1.out) HCG.out (Kd.C_below HA.out HB1.out) HCA.out (Kd.C_below HT.out HB1.out) HCT.out).mono ?_); rintro e w2 ⟨rfl, hb⟩; have HB2 := Aside0.mk (below_on HB1.out hb); clear hb))
    go_ret
    exact ⟨rfl, HB2.out⟩
end Go.Proofs.Ytikjamcemnbhbaa.Mr
