/- meddlerlaw10: race.Pairs tells what the reference tells. -/
import Derived.Test.YtikjamcemnbhbaaMrRef10b
import Derived.Test.YtikjamcemnbhbaaMrRef9n
import Derived.Test.YtikjamcemnbhbaaMrPkG
import Derived.Test.YtikjamcemnbhbaaMrLaw10a
import Derived.Test.YtikjamcemnbhbaaMrBig10
import Derived.Test.YtikjamcemnbhbaaMrOp
import Derived.ChangeKeysEq
namespace Go.Proofs.Ytikjamcemnbhbaa.Mr
open Go.RowKit Go.Proofs.YtikjamcemnbhbaaW.PrintWords Go.Proofs.YtikjamcemnbhbaaW.PrintLast
set_option linter.unusedVariables false
set_option linter.unusedSimpArgs false
theorem row2_nil (mt : Nat → Nat → Bool) (i k : Nat) (h : k ≤ i + 1) : row2 mt i k = [] := by
  unfold row2
  rw [List.map_eq_nil_iff, List.filter_eq_nil_iff]
  intro j hj
  have := List.mem_range.1 hj
  simp; omega
theorem flat2_get : ∀ (l : List (Nat × Nat)) (j : Nat) (h : j < l.length), (flat2 l)[2 * j]? = some (.int .i64 (l[j].1 : Int)) ∧ (flat2 l)[2 * j + 1]? = some (.int .i64 (l[j].2 : Int))
  | p :: l, 0, _ => ⟨rfl, rfl⟩
  | p :: l, j + 1, h => by
    have := flat2_get l j (by simpa using h)
    rw [show 2 * (j + 1) = 2 * j + 2 by omega]
    exact this
theorem own2_at {w : World} {base : Nat} {v : Value} {l : List (Nat × Nat)} (h : w.ownsRow base 69 2 v l.length (flat2 l)) (j : Nat) (hj : j < l.length) :
    ∃ g c, v = .slice (some ⟨g, 0, none⟩) l.length c ∧ l.length ≤ c ∧ w.cell? ⟨g, j * 2, none⟩ = some (.int .i64 (l[j].1 : Int)) ∧ w.cell? ⟨g, j * 2 + 1, none⟩ = some (.int .i64 (l[j].2 : Int)) := by
  rcases h.2 with ⟨_, h0⟩ | ⟨g, cap, cur, rfl, hb, hg, hc, _⟩
  · omega
  · have e := flat2_get l j hj
    refine ⟨g, cap, rfl, hc, ?_, ?_⟩
    · rw [h.cellAt _ (by omega), Nat.mul_comm]; exact e.1
    · rw [h.cellAt _ (by omega), Nat.mul_comm]; exact e.2
theorem Lv.live {L R F : Nat} {w : World} {ph : Ph} {cs : List S49} {nA : Nat} {s : St} (H : Lv L R F w ph cs nA s) : Live L F w ph cs nA s := by
  have M := H.m
  refine ⟨⟨M.hm, ⟨M.bm.1, Nat.lt_of_lt_of_le M.bm.2 M.fh⟩, Nat.le_refl _, M.hT, fun b h => Nat.lt_of_lt_of_le (M.hTl b h) M.fh, M.hA, fun b h => Nat.lt_of_lt_of_le (M.hAl b h) M.fh, fun i h => ⟨(M.th i h).1, (M.th i h).2.1, Nat.lt_of_lt_of_le (M.th i h).2.2 M.fh⟩, M.inj,
    fun i h => Kd.R_mono (M.code i h) (fun k hk => Nat.lt_of_lt_of_le hk M.fh), M.rows, fun k b h => Nat.lt_of_lt_of_le (M.rlt k b h) M.fh, M.apart⟩, H.wf, H.sz⟩
theorem own2_below {w w' : World} {base n : Nat} {v : Value} {xs : List Value} (h : w.ownsRow base 69 2 v n xs) (hb : Below w.heap.size w w') : w'.ownsRow base 69 2 v n xs :=
  own_move h (fun k hv => hb.block k (h.lt k hv).2)
theorem eqP69 (d : Nat) (w : World) (x0 x1 : Int) : (Op.equalIn (d + 2) 69 (.agg #[.int .i64 x0, .int .i64 x1]) (.agg #[.int .i64 x0, .int .i64 x1])).run Try.prog w = .ok true w := by
  have hi : ∃ i, Try.prog.info? 3 = some i := by
    cases h : Try.prog.info? 3 with
    | none => exact absurd h (by decide +kernel)
    | some i => exact ⟨i, rfl⟩
  obtain ⟨i, hi⟩ := hi
  rw [run_equalIn_array w (d + 1) _ _ Try.underlying69 hi]
  have hc : Try.prog.cellsOf 3 = 1 := by kernel_rfl
  rw [hc, show List.range 2 = [0, 1] from rfl]
  simp only [Op.eqItems, Sem.run_bind]
  go_simp
attribute [local go_sem high] eqP69
theorem OwnGe.step {s : St} (h : OwnGe s) (cs : List S49) (nA : Nat) (i inp : Int) : OwnGe (stepP cs nA s i inp) := by
  unfold stepP
  split
  · exact h
  · rename_i a hn
    have hi := (nxt_some hn).1
    intro x hx
    rw [done_row, after_own] at hx
    have put : ∀ (j : Nat) (y : Int), -1 ≤ y → x ∈ (s.row 1).set j y → -1 ≤ x := fun j y hy hm => by
      rcases List.mem_or_eq_of_mem_set hm with h1 | h1
      · exact h x h1
      · omega
    split at hx
    · split at hx
      · exact h x hx
      · exact put _ _ (by omega) hx
    · split at hx
      · split at hx
        · exact put _ _ (by omega) hx
        · exact h x hx
      · exact h x hx
theorem OwnGe.new (G A : List Int) (cs : List S49) (i o n : Nat) : OwnGe (newSt G A cs i o n) := by
  intro x hx
  rw [show (newSt G A cs i o n).row 1 = List.replicate o (-1) from newRow_own G A cs i o n] at hx
  rw [List.eq_of_mem_replicate hx]
  omega
theorem row2_cut (mt : Nat → Nat → Bool) (i c : Nat) (h : ∀ k, c ≤ k → mt i k = false) : ∀ d, row2 mt i (c + d) = row2 mt i c := by
  intro d
  induction d with
  | zero => rfl
  | succ d ih => rw [show c + (d + 1) = c + d + 1 by omega, row2_no (h _ (by omega)), ih]
theorem outL_cut (mt : Nat → Nat → Bool) (c d : Nat) (h : ∀ i k, c ≤ k → mt i k = false) : ∀ i, outL mt (c + d) i = outL mt c i := by
  intro i
  induction i with
  | zero => rfl
  | succ i ih => rw [outL_succ, outL_succ, ih, row2_cut mt i c (h i)]
theorem outL_over (mt : Nat → Nat → Bool) (k : Nat) : ∀ d, outL mt k (k + d) = outL mt k k := by
  intro d
  induction d with
  | zero => rfl
  | succ d ih => rw [show k + (d + 1) = k + d + 1 by omega, outL_succ, ih, row2_nil mt _ _ (by omega), List.append_nil]
theorem pairs_cut (cs : List S49) (s : St) (n : Nat) (hn : n ≤ 6) (hc : cs.length ≤ 4) : pairsL (mtP cs s) (bnd (n : Int)) = pairsL (mtP cs s) (min n cs.length) := by
  have hno : ∀ i k, cs.length ≤ k → mtP cs s i k = false := fun i k h => mtP_no (.inr (by unfold nxt; exact if_neg (by omega)))
  have key : ∀ d, pairsL (mtP cs s) (cs.length + d) = pairsL (mtP cs s) cs.length := fun d => by
    unfold pairsL
    rw [outL_cut _ _ _ hno, outL_over]
  have hb : bnd (n : Int) = min n 4 := by
    unfold bnd
    split
    · omega
    · split
      · omega
      · rw [Int.toNat_natCast]; omega
  rw [hb]
  by_cases h : cs.length ≤ n
  · rw [show min n cs.length = cs.length by omega, show min n 4 = cs.length + (min n 4 - cs.length) by omega, key]
  · rw [show min n cs.length = min n 4 by omega]
theorem rstep_any (w : World) {lo hi : Nat} {u : RefU} {pr : PhR} {cs : List S49} {nA : Nat} {s : St} (H : RefIn w lo hi u pr cs.length nA s) (W : Wf cs nA s) (OG : OwnGe s) (hT : Kd.C k49 w u.At cs.length cs) (hct : cs.length ≤ u.ct) (t inp : Int) {b : Bool} (hb : (nxt cs s t).isSome = b) :
    Calls Try.prog 30 #[.pointer (some ⟨pr.bm, 0, none⟩), .int .i64 t, .int .i64 inp] w fun e w' => e = .returned (.bool b) ∧ RefOut w lo hi u pr cs nA s t inp w' := by
  subst hb
  cases h : nxt cs s t with
  | none => exact rstep_none w H W OG hT hct t inp h
  | some a => exact rstep_some w H W OG hT hct t inp a h
set_option maxHeartbeats 8000000 in
set_option maxRecDepth 100000 in
theorem tells_main (w : World) (Ag : Option Addr) (cg : Nat) (G : List Int) (Aa : Option Addr) (ca : Nat) (A : List Int) (m : Int) (At : Option Addr) (ct : Nat) (cs : List S49) (hg : Kd.C (Kd.int .i64) w Ag G.length G) (hcg : G.length ≤ cg) (ha : Kd.C (Kd.int .i64) w Aa A.length A) (hca : A.length ≤ ca) (ht : Kd.C k49 w At cs.length cs) (hct : cs.length ≤ ct) (Al : Option Addr) (cl : Nat) (l : List S70) (hC : Kd.C k70 w Al l.length l) (hl : l.length ≤ 10000) (ok : OkUnit G A m cs) (K : Nat) (hK : K ≤ 6) (hbig : ∀ (w : World) (Ag : Option Addr) (cg : Nat) (Aa : Option Addr) (ca : Nat) (At : Option Addr) (ct : Nat), Kd.C (Kd.int .i64) w Ag G.length G → G.length ≤ cg → Kd.C (Kd.int .i64) w Aa A.length A → A.length ≤ ca → Kd.C k49 w At cs.length cs → cs.length ≤ ct → Calls Try.prog 37 #[.agg #[.slice Ag G.length cg, .slice Aa A.length ca, .int .i64 m, .slice At cs.length ct]] w fun e w' => e = .returned (.bool false) ∧ Below w.heap.size w w') :
    Calls Try.prog 14 #[.agg #[.slice Ag G.length cg, .slice Aa A.length ca, .int .i64 m, .slice At cs.length ct], .slice Al l.length cl, .int .i64 K] w fun e w' => e = .returned (.bool true) ∧ Below w.heap.size w w' := by
  have hcs := ok.tl
  have hlz : ¬ (10000 : Int) < (l.length : Int) := by omega
  have hK0 : ¬ (K : Int) < 0 := by omega
  have hK6 : ¬ (6 : Int) < (K : Int) := by omega
  have HKK := Aside0.mk hK
  clear hK
  have HG := Aside0.mk hg
  have HA := Aside0.mk ha
  have HT := Aside0.mk ht
  have HCG := Aside0.mk hcg
  have HCA := Aside0.mk hca
  have HCT := Aside0.mk hct
  have HC := Aside0.mk hC
  have HBG := Aside0.mk hbig
  have OK := Aside0.mk ok
  clear hg ha ht hcg hca hct hC hbig ok
  go_enter Try.func14, Try.ntmps14
  go_wp2_with (first | ((with_reducible refine gate_dst (N := 3) rfl ?_); refine box_event ?hg (N := 3) ?hd (cs := #[.slice Ag G.length cg, .slice Aa A.length ca, .int .i64 m, .slice At cs.length ct]) (t := 25) ?hr ?_; (case hd => rfl); (case hg => rfl); (case hr => first | (go_simp; done) | (go_simp; rfl)); intro gu hgg w1 hlit hb; have HLw1 := Aside0.mk hlit; have HKw1 := Aside0.mk hb; have HGw1 := Aside0.mk hgg; have HB1 := Aside0.mk hb; have HU1 := Aside0.mk hlit; have hu0 : w1.cell? ⟨gu, 0, none⟩ = some (.slice Ag G.length cg) := (blk_cell HU1.out 0).trans rfl; have hu1 : w1.cell? ⟨gu, 1, none⟩ = some (.slice Aa A.length ca) := (blk_cell HU1.out 1).trans rfl; have hu2 : w1.cell? ⟨gu, 2, none⟩ = some (.int .i64 m) := (blk_cell HU1.out 2).trans rfl; have hu3 : w1.cell? ⟨gu, 3, none⟩ = some (.slice At cs.length ct) := (blk_cell HU1.out 3).trans rfl; clear hlit hb hgg))
  refine (HBG.out w1 Ag cg Aa ca At ct (Kd.C_below HG.out HB1.out) HCG.out (Kd.C_below HA.out HB1.out) HCA.out (Kd.C_below HT.out HB1.out) HCT.out).mono ?_
  rintro e w2 ⟨rfl, hb⟩
  have HB2 := Aside0.mk (below_on HB1.out hb)
  have HU2 := Aside0.mk (below_read hb HU1.out)
  clear hb
  clear hu0 hu1 hu2 hu3
  have hu0 : w2.cell? ⟨gu, 0, none⟩ = some (.slice Ag G.length cg) := (blk_cell HU2.out 0).trans rfl
  have hu1 : w2.cell? ⟨gu, 1, none⟩ = some (.slice Aa A.length ca) := (blk_cell HU2.out 1).trans rfl
  have hu2 : w2.cell? ⟨gu, 2, none⟩ = some (.int .i64 m) := (blk_cell HU2.out 2).trans rfl
  have hu3 : w2.cell? ⟨gu, 3, none⟩ = some (.slice At cs.length ct) := (blk_cell HU2.out 3).trans rfl
  go_wp2_with fail
  refine (new_live w2 Ag cg G Aa ca A m At ct cs (Kd.C_below HG.out HB2.out) HCG.out (Kd.C_below HA.out HB2.out) HCA.out (Kd.C_below HT.out HB2.out) HCT.out OK.out).mono ?_
  rintro e w3 ⟨ph, rfl, hL, hb⟩
  have H3 := Aside0.mk (Lv.of hL (sm_new OK.out) rfl (Nat.le_refl _) (Nat.le_refl _))
  have HB3 := Aside0.mk (below_on HB2.out hb)
  have HU3 := Aside0.mk (below_read hb HU2.out)
  have HGU := Aside0.mk (show gu < w2.heap.size from blk_lt HU2.out)
  have HW2 := Aside0.mk (show w.heap.size ≤ w2.heap.size from HB2.out.size)
  have HW3 := Aside0.mk (show w2.heap.size ≤ w3.heap.size from hb.size)
  clear hL hb
  clear hu0 hu1 hu2 hu3
  have hu0 : w3.cell? ⟨gu, 0, none⟩ = some (.slice Ag G.length cg) := (blk_cell HU3.out 0).trans rfl
  have hu1 : w3.cell? ⟨gu, 1, none⟩ = some (.slice Aa A.length ca) := (blk_cell HU3.out 1).trans rfl
  have hu2 : w3.cell? ⟨gu, 2, none⟩ = some (.int .i64 m) := (blk_cell HU3.out 2).trans rfl
  have hu3 : w3.cell? ⟨gu, 3, none⟩ = some (.slice At cs.length ct) := (blk_cell HU3.out 3).trans rfl
  go_wp2_with fail
  refine (rnew_calls w3 Ag cg G Aa ca A m At ct cs (Kd.C_below HG.out HB3.out) HCG.out (Kd.C_below HA.out HB3.out) HCA.out (Kd.C_below HT.out HB3.out) HCT.out OK.out).mono ?_
  rintro e w4 ⟨pr, rfl, hX, hb⟩
  have HW4 := Aside0.mk (show w3.heap.size ≤ w4.heap.size from hb.size)
  have H4 := Aside0.mk (Lv.raise (H3.out.below hb) rfl HW4.out (Nat.le_refl _))
  have K4 := Aside0.mk hX
  have HB4 := Aside0.mk (below_on HB3.out hb)
  clear hX hb
  clear hu0 hu1 hu2 hu3
  go_wp2_with fail
  go_loopg [11] (l.length + 1) (fun gg s11 wr => ∃ (i : Nat) (s : St), i ≤ l.length + 1 ∧ l.length + 1 - i ≤ gg ∧ s11 = .int .i64 i ∧ Aside0 (Lv w2.heap.size w3.heap.size w4.heap.size wr ph cs A.length s ∧ RefIn wr w3.heap.size w4.heap.size ⟨Ag, G.length, cg, Aa, A.length, ca, m, At, ct⟩ pr cs.length A.length s ∧ OwnGe s ∧ Below w.heap.size w wr))
  case atStart => exact ⟨0, _, Nat.zero_le _, by omega, rfl, ⟨H4.out, K4.out, OwnGe.new _ _ _ _ _ _, HB4.out⟩⟩
  case round =>
    clear H3 H4 K4 HB3 HB4 HU3
    obtain ⟨i, s, hi, hgg, rfl, HL⟩ := hrel
    generalize wr = wo at *
    by_cases hlt : i ≤ l.length ∧ i ≤ 300
    · have hlez : (i : Int) ≤ (l.length : Int) := by omega
      have h3z : (i : Int) ≤ 300 := by omega
      clear hlt
      go_wp2_with fail
      refine (HL.out.1.live.pairs HL.out.1.sm (K : Int)).mono ?_
      rintro e w10 ⟨v1, rfl, ho1, hb⟩
      rw [pairs_cut cs s K HKK.out hcs.2] at ho1
      have HO1 := Aside0.mk ho1
      have HB10 := Aside0.mk hb
      clear ho1 hb
      go_wp2_with fail
      refine (rpairs_n w10 (HL.out.2.1.below HB10.out) HL.out.1.wf HL.out.2.2.1 (Kd.C_below HT.out (below_on HL.out.2.2.2 HB10.out)) HCT.out (K : Int) (min K cs.length) (by omega) (by omega) (by omega) (by omega)).mono ?_
      rintro e w11 ⟨v2, rfl, ho2, hb⟩
      have HO2 := Aside0.mk ho2
      have HO1' := Aside0.mk (own2_below HO1.out hb)
      have HB11 := Aside0.mk (below_on HB10.out hb)
      clear ho2 hb HO1
      have HN1 : Aside0 ((pairsL (mtP cs s) (min K cs.length)).length ≤ 16) := ⟨Nat.le_trans (outL_le (mtP cs s) _ _) (show min K cs.length * min K cs.length ≤ 4 * 4 from Nat.mul_le_mul (by omega) (by omega))⟩
      obtain ⟨b, hb⟩ : ∃ b, decide (0 < (pairsL (mtP cs s) (min K cs.length)).length) = b := ⟨_, rfl⟩
      have HRC := Aside0.mk (fun W (hw : Below wo.heap.size wo W) => (HL.out.1.below hw).live.racing HL.out.1.sm (K : Int) (b := b) (by rw [pairs_cut cs s K HKK.out hcs.2]; exact hb))
      generalize pairsL (mtP cs s) (min K cs.length) = all at *
      have hbz : decide ((0 : Int) < (all.length : Int)) = b := by rw [← hb]; exact decide_eq_decide.2 (by omega)
      have hbb : (b != b) = false := bne_self_eq_false b
      have hbx : (!(b == decide (0 < all.length))) = false := by rw [hb]; cases b <;> rfl
      have hby : (b == decide (0 < all.length)) = true := by rw [hb]; cases b <;> rfl
      have hall : ((all.length : Int) != (all.length : Int)) = false := bne_self_eq_false _
      have hall2 : ((all.length : Int) == (all.length : Int)) = true := beq_self_eq_true _
      clear hb
      obtain ⟨A1, c1, rfl⟩ := own2_slice HO1'.out
      obtain ⟨A2, c2, rfl⟩ := own2_slice HO2.out
      go_wp2_with (go_at_call 34; refine (HRC.out _ HB11.out).mono ?_; rintro e w12 ⟨rfl, hb⟩; have HD12 := Aside0.mk hb; have HB12 := Aside0.mk (below_on HB11.out hb); clear hb)
      go_loopg [14] all.length (fun gg s14 wr => ∃ j : Nat, j ≤ all.length ∧ all.length - j ≤ gg ∧ s14 = .int .i64 j ∧ Aside0 (Below w12.heap.size w12 wr))
      case atStart => exact ⟨0, Nat.zero_le _, by omega, rfl, ⟨Below.refl _ _⟩⟩
      case round =>
        obtain ⟨j, hj, hgj, rfl, HJ⟩ := hrel
        generalize wr = wq at *
        by_cases hjl : j < all.length
        · have hjz : (j : Int) < (all.length : Int) := by omega
          have ha16 : (all.length : Int) ≤ 16 := by have := HN1.out; omega
          obtain ⟨g1, c1', e1, hc1, ha0, ha1⟩ := own2_at (own2_below HO1'.out (below_on HD12.out HJ.out)) j hjl
          cases e1
          obtain ⟨g2, c2', e2, hc2, hs0, hs1⟩ := own2_at (own2_below HO2.out (below_on HD12.out HJ.out)) j hjl
          cases e2
          generalize (all[j].1 : Int) = q1 at *
          generalize (all[j].2 : Int) = q2 at *
          go_wp2_with fail
          go_quiet (fail)
          go_wp2_with fail
          go_roundg (all.length - (j + 1))
          case measure => omega
          case rel => exact ⟨j + 1, by omega, by omega, by go_num, ⟨pw_below_drewN HJ.out nq⟩⟩
        · have hjz : ¬ (j : Int) < (all.length : Int) := by omega
          have HBQ := Aside0.mk (below_on HB12.out HJ.out)
          clear HJ hjl hbz hbb hbx hby hall hall2
          by_cases hil : i < l.length
          · have hltz : (i : Int) < (l.length : Int) := by omega
            obtain ⟨ad, rfl, hp0, hp1⟩ := at_T70 HC.out (i : Int) (by omega) hltz
            rw [Int.toNat_natCast] at hp0 hp1
            generalize rd_T70 l (i : Int) = p at hp0 hp1
            obtain ⟨t, inp⟩ := p
            simp only at hp0 hp1
            have HP0 := Aside0.mk hp0
            have HP1 := Aside0.mk hp1
            clear hp0 hp1
            have hp0 := pw_cell_below (below_on HL.out.2.2.2 HBQ.out) HP0.out
            have hp1 := pw_cell_below (below_on HL.out.2.2.2 HBQ.out) HP1.out
            go_wp2_with fail
            go_still_tail 11, (by kernel_rfl)
            change wpList _ _ _ _ _ wq.drew
            go_wp2_with fail
            go_at_call 22
            refine ((HL.out.1.below (below_drew HBQ.out)).step t inp rfl).mono ?_
            rintro e w13 ⟨rfl, hs⟩
            have H13 := Aside0.mk hs.1
            have HR13 := Aside0.mk ((HL.out.2.1.below (below_drew HBQ.out)).other hs.2 (.inl (Nat.le_refl _)))
            have HB13 := Aside0.mk (Chg.below (below_on HL.out.2.2.2 (below_drew HBQ.out)) (below_on HL.out.2.2.2 (below_drew HBQ.out)).size HW2.out hs.2)
            clear hs hp0 hp1
            have hp0 := pw_cell_below HB13.out HP0.out
            have hp1 := pw_cell_below HB13.out HP1.out
            go_wp2_with fail
            go_still_tail 11, (by kernel_rfl)
            change wpList _ _ _ _ _ w13.drew
            go_wp2_with fail
            go_at_call 30
            refine (rstep_any w13.drew (HR13.out.below (drew_below w13)) HL.out.1.wf HL.out.2.2.1 (Kd.C_below HT.out (below_drew HB13.out)) HCT.out t inp rfl).mono ?_
            rintro e w14 ⟨rfl, hs⟩
            have HR14 := Aside0.mk hs.1
            have H14 := Aside0.mk ((H13.out.below (drew_below w13)).other hs.2 (.inr (Nat.le_refl _)) (Nat.le_refl _))
            have HB14 := Aside0.mk (Chg.below (below_drew HB13.out) (below_drew HB13.out).size (Nat.le_trans HW2.out HW3.out) hs.2)
            clear hs hp0 hp1
            go_wp2_with fail
            go_roundg (l.length + 1 - (i + 1))
            case measure => omega
            case rel => exact ⟨i + 1, _, by omega, by omega, by go_num, ⟨H14.out, HR14.out, HL.out.2.2.1.step cs A.length t inp, HB14.out⟩⟩
          · have hltz : ¬ (i : Int) < (l.length : Int) := by omega
            go_wp2_with fail
            go_roundg (l.length + 1 - (i + 1))
            case measure => omega
            case rel => exact ⟨i + 1, _, by omega, by omega, by go_num, ⟨HL.out.1.below HBQ.out, HL.out.2.1.below HBQ.out, HL.out.2.2.1, below_on HL.out.2.2.2 HBQ.out⟩⟩
    · rcases (by omega : ¬ i ≤ l.length ∨ (i ≤ l.length ∧ ¬ i ≤ 300)) with h | ⟨h, h'⟩
      all_goals
        first
          | (have hlez : ¬ (i : Int) ≤ (l.length : Int) := by omega
             have h3z : True := trivial)
          | (have hlez : (i : Int) ≤ (l.length : Int) := by omega
             have h3z : ¬ (i : Int) ≤ 300 := by omega)
        clear hlt
        go_wp2_with (go_at_call 36; refine (known10_calls _).mono ?_; rintro e w10 ⟨rfl, hb⟩)
        go_ret
        exact ⟨rfl, below_on HL.out.2.2.2 hb⟩
set_option maxHeartbeats 8000000 in
set_option maxRecDepth 100000 in
theorem RaceTells_calls (w : World) (Ag : Option Addr) (cg : Nat) (G : List Int) (Aa : Option Addr) (ca : Nat) (A : List Int) (m : Int) (At : Option Addr) (ct : Nat) (cs : List S49) (hg : Kd.C (Kd.int .i64) w Ag G.length G) (hcg : G.length ≤ cg) (ha : Kd.C (Kd.int .i64) w Aa A.length A) (hca : A.length ≤ ca) (ht : Kd.C k49 w At cs.length cs) (hct : cs.length ≤ ct) (hw : W25 ⟨G, A, m, cs⟩) (Al : Option Addr) (cl : Nat) (l : List S70) (hC : Kd.C k70 w Al l.length l) (hcl : l.length ≤ cl) (hml : l.length ≤ maxLen) (k : Int) :
    Calls Try.prog 14 #[.agg #[.slice Ag G.length cg, .slice Aa A.length ca, .int .i64 m, .slice At cs.length ct], .slice Al l.length cl, .int .i64 k] w fun e w' => e = .returned (.bool true) ∧ Below w.heap.size w w' := by
  have hlens : ∀ c ∈ cs, c.f1.length ≤ 1000000000000000 := fun c hc => by
    have h := (hw.2.2.2.2.2 c hc).2.2.1
    rw [show Try.prog.bytesOf 33 = 72 by kernel_rfl] at h
    omega
  obtain ⟨b, hb, hbig⟩ := big10 G A m cs hlens
  cases b with
  | true =>
    have HG := Aside0.mk hg
    have HA := Aside0.mk ha
    have HT := Aside0.mk ht
    have HCG := Aside0.mk hcg
    have HCA := Aside0.mk hca
    have HCT := Aside0.mk hct
    have HBG := Aside0.mk hbig
    clear hg ha ht hcg hca hct hC hbig hb hw hcl hml
    go_enter Try.func14, Try.ntmps14
    go_wp2_with (first | ((with_reducible refine gate_dst (N := 3) rfl ?_); refine box_event ?hg (N := 3) ?hd (cs := #[.slice Ag G.length cg, .slice Aa A.length ca, .int .i64 m, .slice At cs.length ct]) (t := 25) ?hr ?_; (case hd => rfl); (case hg => rfl); (case hr => first | (go_simp; done) | (go_simp; rfl)); intro gu hgg w1 hlit hb; have HLw1 := Aside0.mk hlit; have HKw1 := Aside0.mk hb; have HGw1 := Aside0.mk hgg; have HB1 := Aside0.mk hb; have HU1 := Aside0.mk hlit; have hu0 : w1.cell? ⟨gu, 0, none⟩ = some (.slice Ag G.length cg) := (blk_cell HU1.out 0).trans rfl; have hu1 : w1.cell? ⟨gu, 1, none⟩ = some (.slice Aa A.length ca) := (blk_cell HU1.out 1).trans rfl; have hu2 : w1.cell? ⟨gu, 2, none⟩ = some (.int .i64 m) := (blk_cell HU1.out 2).trans rfl; have hu3 : w1.cell? ⟨gu, 3, none⟩ = some (.slice At cs.length ct) := (blk_cell HU1.out 3).trans rfl; clear hlit hb hgg) | (go_at_call 37; (with_reducible refine (HBG.out w1 Ag cg Aa ca At ct (Kd.C_below HG.out HB1.out) HCG.out (Kd.C_below HA.out HB1.out) HCA.out (Kd.C_below HT.out HB1.out) HCT.out).mono ?_); rintro e w2 ⟨rfl, hb⟩; have HB2 := Aside0.mk (below_on HB1.out hb); clear hb))
    go_ret
    exact ⟨rfl, HB2.out⟩
  | false =>
    have ok := (hb.1 rfl).2
    by_cases hl : l.length ≤ 10000
    · by_cases hk : 0 ≤ k ∧ k ≤ 6
      · obtain ⟨K, rfl⟩ : ∃ K : Nat, k = K := ⟨k.toNat, by omega⟩
        exact tells_main w Ag cg G Aa ca A m At ct cs hg hcg ha hca ht hct Al cl l hC hl ok K (by omega) hbig
      rcases (by omega : k < 0 ∨ (¬ k < 0 ∧ 6 < k)) with h1 | ⟨h0, h1⟩
      · clear hk
        have hlz : ¬ (10000 : Int) < (l.length : Int) := by omega
        clear ok hl
        have HG := Aside0.mk hg
        have HA := Aside0.mk ha
        have HT := Aside0.mk ht
        have HCG := Aside0.mk hcg
        have HCA := Aside0.mk hca
        have HCT := Aside0.mk hct
        have HBG := Aside0.mk hbig
        clear hg ha ht hcg hca hct hC hbig hb hw hcl hml
        go_enter Try.func14, Try.ntmps14
        go_wp2_with (first | ((with_reducible refine gate_dst (N := 3) rfl ?_); refine box_event ?hg (N := 3) ?hd (cs := #[.slice Ag G.length cg, .slice Aa A.length ca, .int .i64 m, .slice At cs.length ct]) (t := 25) ?hr ?_; (case hd => rfl); (case hg => rfl); (case hr => first | (go_simp; done) | (go_simp; rfl)); intro gu hgg w1 hlit hb; have HLw1 := Aside0.mk hlit; have HKw1 := Aside0.mk hb; have HGw1 := Aside0.mk hgg; have HB1 := Aside0.mk hb; have HU1 := Aside0.mk hlit; have hu0 : w1.cell? ⟨gu, 0, none⟩ = some (.slice Ag G.length cg) := (blk_cell HU1.out 0).trans rfl; have hu1 : w1.cell? ⟨gu, 1, none⟩ = some (.slice Aa A.length ca) := (blk_cell HU1.out 1).trans rfl; have hu2 : w1.cell? ⟨gu, 2, none⟩ = some (.int .i64 m) := (blk_cell HU1.out 2).trans rfl; have hu3 : w1.cell? ⟨gu, 3, none⟩ = some (.slice At cs.length ct) := (blk_cell HU1.out 3).trans rfl; clear hlit hb hgg) | (go_at_call 37; (with_reducible refine (HBG.out w1 Ag cg Aa ca At ct (Kd.C_below HG.out HB1.out) HCG.out (Kd.C_below HA.out HB1.out) HCA.out (Kd.C_below HT.out HB1.out) HCT.out).mono ?_); rintro e w2 ⟨rfl, hb⟩; have HB2 := Aside0.mk (below_on HB1.out hb); clear hb))
        go_ret
        exact ⟨rfl, HB2.out⟩
      · clear hk
        have hlz : ¬ (10000 : Int) < (l.length : Int) := by omega
        clear ok hl
        have HG := Aside0.mk hg
        have HA := Aside0.mk ha
        have HT := Aside0.mk ht
        have HCG := Aside0.mk hcg
        have HCA := Aside0.mk hca
        have HCT := Aside0.mk hct
        have HBG := Aside0.mk hbig
        clear hg ha ht hcg hca hct hC hbig hb hw hcl hml
        go_enter Try.func14, Try.ntmps14
        go_wp2_with (first | ((with_reducible refine gate_dst (N := 3) rfl ?_); refine box_event ?hg (N := 3) ?hd (cs := #[.slice Ag G.length cg, .slice Aa A.length ca, .int .i64 m, .slice At cs.length ct]) (t := 25) ?hr ?_; (case hd => rfl); (case hg => rfl); (case hr => first | (go_simp; done) | (go_simp; rfl)); intro gu hgg w1 hlit hb; have HLw1 := Aside0.mk hlit; have HKw1 := Aside0.mk hb; have HGw1 := Aside0.mk hgg; have HB1 := Aside0.mk hb; have HU1 := Aside0.mk hlit; have hu0 : w1.cell? ⟨gu, 0, none⟩ = some (.slice Ag G.length cg) := (blk_cell HU1.out 0).trans rfl; have hu1 : w1.cell? ⟨gu, 1, none⟩ = some (.slice Aa A.length ca) := (blk_cell HU1.out 1).trans rfl; have hu2 : w1.cell? ⟨gu, 2, none⟩ = some (.int .i64 m) := (blk_cell HU1.out 2).trans rfl; have hu3 : w1.cell? ⟨gu, 3, none⟩ = some (.slice At cs.length ct) := (blk_cell HU1.out 3).trans rfl; clear hlit hb hgg) | (go_at_call 37; (with_reducible refine (HBG.out w1 Ag cg Aa ca At ct (Kd.C_below HG.out HB1.out) HCG.out (Kd.C_below HA.out HB1.out) HCA.out (Kd.C_below HT.out HB1.out) HCT.out).mono ?_); rintro e w2 ⟨rfl, hb⟩; have HB2 := Aside0.mk (below_on HB1.out hb); clear hb))
        go_ret
        exact ⟨rfl, HB2.out⟩
    have hlz : (10000 : Int) < (l.length : Int) := by omega
    clear ok hl
    have HG := Aside0.mk hg
    have HA := Aside0.mk ha
    have HT := Aside0.mk ht
    have HCG := Aside0.mk hcg
    have HCA := Aside0.mk hca
    have HCT := Aside0.mk hct
    have HBG := Aside0.mk hbig
    clear hg ha ht hcg hca hct hC hbig hb hw hcl hml
    go_enter Try.func14, Try.ntmps14
    go_wp2_with (first | ((with_reducible refine gate_dst (N := 3) rfl ?_); refine box_event ?hg (N := 3) ?hd (cs := #[.slice Ag G.length cg, .slice Aa A.length ca, .int .i64 m, .slice At cs.length ct]) (t := 25) ?hr ?_; (case hd => rfl); (case hg => rfl); (case hr => first | (go_simp; done) | (go_simp; rfl)); intro gu hgg w1 hlit hb; have HLw1 := Aside0.mk hlit; have HKw1 := Aside0.mk hb; have HGw1 := Aside0.mk hgg; have HB1 := Aside0.mk hb; have HU1 := Aside0.mk hlit; have hu0 : w1.cell? ⟨gu, 0, none⟩ = some (.slice Ag G.length cg) := (blk_cell HU1.out 0).trans rfl; have hu1 : w1.cell? ⟨gu, 1, none⟩ = some (.slice Aa A.length ca) := (blk_cell HU1.out 1).trans rfl; have hu2 : w1.cell? ⟨gu, 2, none⟩ = some (.int .i64 m) := (blk_cell HU1.out 2).trans rfl; have hu3 : w1.cell? ⟨gu, 3, none⟩ = some (.slice At cs.length ct) := (blk_cell HU1.out 3).trans rfl; clear hlit hb hgg) | (go_at_call 37; (with_reducible refine (HBG.out w1 Ag cg Aa ca At ct (Kd.C_below HG.out HB1.out) HCG.out (Kd.C_below HA.out HB1.out) HCA.out (Kd.C_below HT.out HB1.out) HCT.out).mono ?_); rintro e w2 ⟨rfl, hb⟩; have HB2 := Aside0.mk (below_on HB1.out hb); clear hb))
    go_ret
    exact ⟨rfl, HB2.out⟩
end Go.Proofs.Ytikjamcemnbhbaa.Mr
