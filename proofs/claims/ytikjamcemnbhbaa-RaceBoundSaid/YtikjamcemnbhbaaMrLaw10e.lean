/- meddlerlaw10: of fewer threads those pairs are told that are among these. -/
import Derived.Test.YtikjamcemnbhbaaMrPkG
import Derived.Test.YtikjamcemnbhbaaMrLaw10a
import Derived.Test.YtikjamcemnbhbaaMrBig10
import Derived.Test.YtikjamcemnbhbaaMrOp
import Derived.ChangeKeysEq
namespace Go.Proofs.Ytikjamcemnbhbaa.Mr
open Go.RowKit Go.Proofs.YtikjamcemnbhbaaW.PrintWords Go.Proofs.YtikjamcemnbhbaaW.PrintLast
set_option linter.unusedVariables false
set_option linter.unusedSimpArgs false
/-! ### pairs of fewer threads -/
def lessP (k : Nat) (l : List (Nat × Nat)) : List (Nat × Nat) := l.filter (fun p => decide (p.2 < k))
theorem lessP_append (k : Nat) (a b : List (Nat × Nat)) : lessP k (a ++ b) = lessP k a ++ lessP k b := List.filter_append ..
theorem row2_all (mt : Nat → Nat → Bool) (i k : Nat) : lessP k (row2 mt i k) = row2 mt i k := by
  unfold lessP
  rw [List.filter_eq_self]
  intro p hp
  unfold row2 at hp
  obtain ⟨j, hj, rfl⟩ := List.mem_map.1 hp
  have := List.mem_range.1 (List.mem_filter.1 hj).1
  simpa using this
theorem row2_less (mt : Nat → Nat → Bool) (i k : Nat) : ∀ d, lessP k (row2 mt i (k + d)) = row2 mt i k := by
  intro d
  induction d with
  | zero => exact row2_all mt i k
  | succ d ih =>
    have e : row2 mt i (k + d + 1) = row2 mt i (k + d) ++ ((([k + d] : List Nat).filter (fun j => decide (i < j) && mt i j)).map (fun j => (i, j))) := by
      unfold row2
      rw [List.range_succ, List.filter_append, List.map_append]
    rw [show k + (d + 1) = k + d + 1 by omega, e, lessP_append, ih]
    have : lessP k ((([k + d] : List Nat).filter (fun j => decide (i < j) && mt i j)).map (fun j => (i, j))) = [] := by
      unfold lessP
      rw [List.filter_eq_nil_iff]
      intro p hp
      obtain ⟨j, hj, rfl⟩ := List.mem_map.1 hp
      have := List.mem_singleton.1 (List.mem_filter.1 hj).1
      subst this
      simp
    rw [this, List.append_nil]
theorem row2_nil (mt : Nat → Nat → Bool) (i k : Nat) (h : k ≤ i + 1) : row2 mt i k = [] := by
  unfold row2
  rw [List.map_eq_nil_iff, List.filter_eq_nil_iff]
  intro j hj
  have := List.mem_range.1 hj
  simp; omega
theorem outL_less (mt : Nat → Nat → Bool) (k d : Nat) : ∀ i, lessP k (outL mt (k + d) i) = outL mt k i := by
  intro i
  induction i with
  | zero => rfl
  | succ i ih => rw [outL_succ, outL_succ, lessP_append, ih, row2_less]
theorem outL_more (mt : Nat → Nat → Bool) (k : Nat) : ∀ d, outL mt k (k + d) = outL mt k k := by
  intro d
  induction d with
  | zero => rfl
  | succ d ih => rw [show k + (d + 1) = k + d + 1 by omega, outL_succ, ih, row2_nil mt _ _ (by omega), List.append_nil]
theorem pairs_less (mt : Nat → Nat → Bool) (k : Nat) (hk : k ≤ 4) : lessP k (pairsL mt 4) = pairsL mt k := by
  obtain ⟨d, rfl⟩ : ∃ d, d = 4 - k := ⟨_, rfl⟩
  have e : 4 = k + (4 - k) := by omega
  unfold pairsL
  rw [e, outL_less, outL_more]
theorem take_less (k : Nat) (l : List (Nat × Nat)) (j : Nat) (hj : j < l.length) : lessP k (l.take (j + 1)) = lessP k (l.take j) ++ (if l[j].2 < k then [l[j]] else []) := by
  rw [List.take_succ_eq_append_getElem hj, lessP_append]
  congr 1
  by_cases h : l[j].2 < k <;> simp [lessP, h]
theorem less_at (k : Nat) (l : List (Nat × Nat)) (j : Nat) (hj : j < l.length) (h : l[j].2 < k) : (lessP k l)[(lessP k (l.take j)).length]? = some l[j] := by
  have e : lessP k l = lessP k (l.take (j + 1)) ++ lessP k (l.drop (j + 1)) := by rw [← lessP_append, List.take_append_drop]
  rw [e, take_less k l j hj, if_pos h, List.append_assoc, List.getElem?_append_right (Nat.le_refl _)]
  simp
theorem flat2_get : ∀ (l : List (Nat × Nat)) (j : Nat) (h : j < l.length), (flat2 l)[2 * j]? = some (.int .i64 (l[j].1 : Int)) ∧ (flat2 l)[2 * j + 1]? = some (.int .i64 (l[j].2 : Int))
  | p :: l, 0, _ => ⟨rfl, rfl⟩
  | p :: l, j + 1, h => by
    have := flat2_get l j (by simpa using h)
    rw [show 2 * (j + 1) = 2 * j + 2 by omega]
    exact this
theorem own2_at {w : World} {base : Nat} {v : Value} {l : List (Nat × Nat)} (h : w.ownsRow base 69 2 v l.length (flat2 l)) (j : Nat) (hj : j < l.length) :
    ∃ g c, v = .slice (some ⟨g, 0, none⟩) l.length c ∧ l.length ≤ c ∧ w.cell? ⟨g, j * 2, none⟩ = some (.int .i64 (l[j].1 : Int)) ∧ w.cell? ⟨g, j * 2 + 1, none⟩ = some (.int .i64 (l[j].2 : Int)) := by
  rcases h.2 with ⟨_, h0⟩ | ⟨g, cap, cur, rfl, hb, hg, hc, _⟩
  · omega
  · have e := flat2_get l j hj
    refine ⟨g, cap, rfl, hc, ?_, ?_⟩
    · rw [h.cellAt _ (by omega), Nat.mul_comm]; exact e.1
    · rw [h.cellAt _ (by omega), Nat.mul_comm]; exact e.2
theorem Lv.live {L R F : Nat} {w : World} {ph : Ph} {cs : List S49} {nA : Nat} {s : St} (H : Lv L R F w ph cs nA s) : Live L F w ph cs nA s := by
  have M := H.m
  refine ⟨⟨M.hm, ⟨M.bm.1, Nat.lt_of_lt_of_le M.bm.2 M.fh⟩, Nat.le_refl _, M.hT, fun b h => Nat.lt_of_lt_of_le (M.hTl b h) M.fh, M.hA, fun b h => Nat.lt_of_lt_of_le (M.hAl b h) M.fh, fun i h => ⟨(M.th i h).1, (M.th i h).2.1, Nat.lt_of_lt_of_le (M.th i h).2.2 M.fh⟩, M.inj,
    fun i h => Kd.R_mono (M.code i h) (fun k hk => Nat.lt_of_lt_of_le hk M.fh), M.rows, fun k b h => Nat.lt_of_lt_of_le (M.rlt k b h) M.fh, M.apart⟩, H.wf, H.sz⟩
theorem bnd_nat (K : Nat) (h : K ≤ 4) : bnd (K : Int) = K := by
  unfold bnd
  by_cases h0 : K = 0
  · subst h0; rfl
  · rw [if_neg (by omega), if_neg (by omega), Int.toNat_natCast]
theorem own2_below {w w' : World} {base n : Nat} {v : Value} {xs : List Value} (h : w.ownsRow base 69 2 v n xs) (hb : Below w.heap.size w w') : w'.ownsRow base 69 2 v n xs :=
  own_move h (fun k hv => hb.block k (h.lt k hv).2)
theorem eqP69 (d : Nat) (w : World) (x0 x1 : Int) : (Op.equalIn (d + 2) 69 (.agg #[.int .i64 x0, .int .i64 x1]) (.agg #[.int .i64 x0, .int .i64 x1])).run Try.prog w = .ok true w := by
  have hi : ∃ i, Try.prog.info? 3 = some i := by
    cases h : Try.prog.info? 3 with
    | none => exact absurd h (by decide +kernel)
    | some i => exact ⟨i, rfl⟩
  obtain ⟨i, hi⟩ := hi
  rw [run_equalIn_array w (d + 1) _ _ Try.underlying69 hi]
  have hc : Try.prog.cellsOf 3 = 1 := by kernel_rfl
  rw [hc, show List.range 2 = [0, 1] from rfl]
  simp only [Op.eqItems, Sem.run_bind]
  go_simp
attribute [local go_sem high] eqP69
set_option maxHeartbeats 8000000 in
set_option maxRecDepth 100000 in
theorem bound_main (w : World) (Ag : Option Addr) (cg : Nat) (G : List Int) (Aa : Option Addr) (ca : Nat) (A : List Int) (m : Int) (At : Option Addr) (ct : Nat) (cs : List S49) (hg : Kd.C (Kd.int .i64) w Ag G.length G) (hcg : G.length ≤ cg) (ha : Kd.C (Kd.int .i64) w Aa A.length A) (hca : A.length ≤ ca) (ht : Kd.C k49 w At cs.length cs) (hct : cs.length ≤ ct) (Al : Option Addr) (cl : Nat) (l : List S70) (hC : Kd.C k70 w Al l.length l) (hl : l.length ≤ 10000) (ok : OkUnit G A m cs) (K : Nat) (hK : K ≤ 4) (hbig : ∀ (w : World) (Ag : Option Addr) (cg : Nat) (Aa : Option Addr) (ca : Nat) (At : Option Addr) (ct : Nat), Kd.C (Kd.int .i64) w Ag G.length G → G.length ≤ cg → Kd.C (Kd.int .i64) w Aa A.length A → A.length ≤ ca → Kd.C k49 w At cs.length cs → cs.length ≤ ct → Calls Try.prog 37 #[.agg #[.slice Ag G.length cg, .slice Aa A.length ca, .int .i64 m, .slice At cs.length ct]] w fun e w' => e = .returned (.bool false) ∧ Below w.heap.size w w') :
    Calls Try.prog 16 #[.agg #[.slice Ag G.length cg, .slice Aa A.length ca, .int .i64 m, .slice At cs.length ct], .slice Al l.length cl, .int .i64 K] w fun e w' => e = .returned (.bool true) ∧ Below w.heap.size w w' := by
  have hlz : ¬ (10000 : Int) < (l.length : Int) := by omega
  have hK0 : ¬ (K : Int) < 0 := by omega
  have hK4 : ¬ (4 : Int) < (K : Int) := by omega
  have HKK := Aside0.mk hK
  clear hK
  have HG := Aside0.mk hg
  have HA := Aside0.mk ha
  have HT := Aside0.mk ht
  have HCG := Aside0.mk hcg
  have HCA := Aside0.mk hca
  have HCT := Aside0.mk hct
  have HC := Aside0.mk hC
  have HBG := Aside0.mk hbig
  have OK := Aside0.mk ok
  clear hg ha ht hcg hca hct hC hbig ok
  go_enter Try.func16, Try.ntmps16
  go_wp2_with (first | ((with_reducible refine gate_dst (N := 3) rfl ?_); refine box_event ?hg (N := 3) ?hd (cs := #[.slice Ag G.length cg, .slice Aa A.length ca, .int .i64 m, .slice At cs.length ct]) (t := 25) ?hr ?_; (case hd => rfl); (case hg => rfl); (case hr => first | (go_simp; done) | (go_simp; rfl)); intro gu hgg w1 hlit hb; have HLw1 := Aside0.mk hlit; have HKw1 := Aside0.mk hb; have HGw1 := Aside0.mk hgg; have HB1 := Aside0.mk hb; have HU1 := Aside0.mk hlit; have hu0 : w1.cell? ⟨gu, 0, none⟩ = some (.slice Ag G.length cg) := (blk_cell HU1.out 0).trans rfl; have hu1 : w1.cell? ⟨gu, 1, none⟩ = some (.slice Aa A.length ca) := (blk_cell HU1.out 1).trans rfl; have hu2 : w1.cell? ⟨gu, 2, none⟩ = some (.int .i64 m) := (blk_cell HU1.out 2).trans rfl; have hu3 : w1.cell? ⟨gu, 3, none⟩ = some (.slice At cs.length ct) := (blk_cell HU1.out 3).trans rfl; clear hlit hb hgg))
  refine (HBG.out w1 Ag cg Aa ca At ct (Kd.C_below HG.out HB1.out) HCG.out (Kd.C_below HA.out HB1.out) HCA.out (Kd.C_below HT.out HB1.out) HCT.out).mono ?_
  rintro e w2 ⟨rfl, hb⟩
  have HB2 := Aside0.mk (below_on HB1.out hb)
  have HU2 := Aside0.mk (below_read hb HU1.out)
  clear hb
  clear hu0 hu1 hu2 hu3
  have hu0 : w2.cell? ⟨gu, 0, none⟩ = some (.slice Ag G.length cg) := (blk_cell HU2.out 0).trans rfl
  have hu1 : w2.cell? ⟨gu, 1, none⟩ = some (.slice Aa A.length ca) := (blk_cell HU2.out 1).trans rfl
  have hu2 : w2.cell? ⟨gu, 2, none⟩ = some (.int .i64 m) := (blk_cell HU2.out 2).trans rfl
  have hu3 : w2.cell? ⟨gu, 3, none⟩ = some (.slice At cs.length ct) := (blk_cell HU2.out 3).trans rfl
  go_wp2_with fail
  refine (new_live w2 Ag cg G Aa ca A m At ct cs (Kd.C_below HG.out HB2.out) HCG.out (Kd.C_below HA.out HB2.out) HCA.out (Kd.C_below HT.out HB2.out) HCT.out OK.out).mono ?_
  rintro e w3 ⟨ph, rfl, hL, hb⟩
  have H3 := Aside0.mk (Lv.of hL (sm_new OK.out) rfl (Nat.le_refl _) (Nat.le_refl _))
  have HB3 := Aside0.mk (below_on HB2.out hb)
  have HU3 := Aside0.mk (below_read hb HU2.out)
  have HGU := Aside0.mk (show gu < w2.heap.size from blk_lt HU2.out)
  have HW2 := Aside0.mk (show w.heap.size ≤ w2.heap.size from HB2.out.size)
  have HW3 := Aside0.mk (show w2.heap.size ≤ w3.heap.size from hb.size)
  clear hL hb
  clear hu0 hu1 hu2 hu3
  have hu0 : w3.cell? ⟨gu, 0, none⟩ = some (.slice Ag G.length cg) := (blk_cell HU3.out 0).trans rfl
  have hu1 : w3.cell? ⟨gu, 1, none⟩ = some (.slice Aa A.length ca) := (blk_cell HU3.out 1).trans rfl
  have hu2 : w3.cell? ⟨gu, 2, none⟩ = some (.int .i64 m) := (blk_cell HU3.out 2).trans rfl
  have hu3 : w3.cell? ⟨gu, 3, none⟩ = some (.slice At cs.length ct) := (blk_cell HU3.out 3).trans rfl
  go_wp2_with fail
  go_loopg [9] l.length (fun gg s9 wr => ∃ (i : Nat) (s : St), i ≤ l.length ∧ l.length - i ≤ gg ∧ s9 = .int .i64 i ∧ Aside0 (Lv w2.heap.size w3.heap.size w3.heap.size wr ph cs A.length s ∧ Below w.heap.size w wr))
  case atStart => exact ⟨0, _, Nat.zero_le _, by omega, rfl, ⟨H3.out, HB3.out⟩⟩
  case round =>
    clear H3 HB3 HU3 hu0 hu1 hu2 hu3
    obtain ⟨i, s, hi, hgg, rfl, HL⟩ := hrel
    generalize wr = wo at *
    by_cases hlt : i < l.length
    · have hltz : (i : Int) < (l.length : Int) := by omega
      by_cases h300 : i < 300
      · have h3z : (i : Int) < 300 := by omega
        obtain ⟨ad, rfl, hp0, hp1⟩ := at_T70 HC.out (i : Int) (by omega) hltz
        rw [Int.toNat_natCast] at hp0 hp1
        generalize rd_T70 l (i : Int) = p at hp0 hp1
        obtain ⟨t, inp⟩ := p
        simp only at hp0 hp1
        have hp0 := pw_cell_below HL.out.2 hp0
        have hp1 := pw_cell_below HL.out.2 hp1
        go_wp2_with fail
        go_still_tail 11, (by kernel_rfl)
        change wpList _ _ _ _ _ wo.drew
        go_wp2_with fail
        go_at_call 22
        refine ((HL.out.1.below (below_drew (Below.refl _ _))).step t inp rfl).mono ?_
        rintro e w9 ⟨rfl, hs⟩
        have H9 := Aside0.mk hs.1
        have HB9 := Aside0.mk (Chg.below (below_drew HL.out.2) (below_drew HL.out.2).size HW2.out hs.2)
        clear hs hp0 hp1
        generalize hS : stepP cs A.length s t inp = s2 at *
        clear hS
        go_wp2_with fail
        refine (H9.out.live.pairs H9.out.sm 4).mono ?_
        rintro e w10 ⟨v1, rfl, ho1, hb⟩
        have HO1 := Aside0.mk (show w10.ownsRow w9.heap.size 69 2 v1 (pairsL (mtP cs s2) 4).length (flat2 (pairsL (mtP cs s2) 4)) from ho1)
        have HB10 := Aside0.mk hb
        clear ho1 hb
        go_wp2_with fail
        refine ((H9.out.below HB10.out).live.pairs H9.out.sm (K : Int)).mono ?_
        rintro e w11 ⟨v2, rfl, ho2, hb⟩
        rw [bnd_nat K HKK.out] at ho2
        have HP := Aside0.mk (pairs_less (mtP cs s2) K HKK.out)
        have HO2 := Aside0.mk ho2
        have HO1' := Aside0.mk (own2_below HO1.out hb)
        have HB11 := Aside0.mk (below_on HB10.out hb)
        clear ho2 hb
        have HN1 : Aside0 ((pairsL (mtP cs s2) 4).length ≤ 16) := ⟨outL_le (mtP cs s2) 4 4⟩
        have HN2 : Aside0 ((pairsL (mtP cs s2) K).length ≤ 16) := ⟨Nat.le_trans (outL_le (mtP cs s2) K K) (Nat.mul_le_mul HKK.out HKK.out)⟩
        generalize pairsL (mtP cs s2) 4 = all at *
        generalize pairsL (mtP cs s2) K = some_ at *
        obtain ⟨A1, c1, rfl⟩ := own2_slice HO1.out
        obtain ⟨A2, c2, rfl⟩ := own2_slice HO2.out
        clear HO1
        go_wp2_with fail
        go_loopg [12, 13] all.length (fun gg s12 s13 wr => ∃ j : Nat, j ≤ all.length ∧ all.length - j ≤ gg ∧ s13 = .int .i64 j ∧ s12 = .int .i64 ((lessP K (all.take j)).length : Nat) ∧ Aside0 (Below w11.heap.size w11 wr))
        case atStart => exact ⟨0, Nat.zero_le _, by omega, rfl, rfl, ⟨Below.refl _ _⟩⟩
        case round =>
          obtain ⟨j, hj, hgj, rfl, rfl, HJ⟩ := hrel
          generalize wr = wq at *
          by_cases hjl : j < all.length
          · have hjz : (j : Int) < (all.length : Int) := by omega
            have ha16 : (all.length : Int) ≤ 16 := by have := HN1.out; omega
            obtain ⟨g1, c1', e1, hc1, ha0, ha1⟩ := own2_at (own2_below HO1'.out HJ.out) j hjl
            cases e1
            have htk := Aside0.mk (take_less K all j hjl)
            by_cases hpk : all[j].2 < K
            · have hpz : (all[j].2 : Int) < (K : Int) := by omega
              have hpd : ¬ (K : Int) ≤ (all[j].2 : Int) := by omega
              have HLA := Aside0.mk (less_at K all j hjl hpk)
              rw [HP.out] at HLA
              obtain ⟨n, hn⟩ : ∃ n, (lessP K (all.take j)).length = n := ⟨_, rfl⟩
              rw [hn] at HLA
              obtain ⟨hnl, hne⟩ := List.getElem?_eq_some_iff.1 HLA.out
              obtain ⟨g2, c2', e2, hc2, hs0, hs1⟩ := own2_at (own2_below HO2.out HJ.out) n hnl
              cases e2
              rw [hne] at hs0 hs1
              have hnz : (n : Int) < (some_.length : Int) := by omega
              have hn4 : n ≤ 1000000 := Nat.le_trans (Nat.le_of_lt hnl) (Nat.le_trans HN2.out (by decide))
              have HN := Aside0.mk hn
              rw [hn]
              have HPK := Aside0.mk hpk
              clear hn hne hpk
              generalize (all[j].1 : Int) = q1 at *
              generalize (all[j].2 : Int) = q2 at *
              go_wp2_with fail
              go_quiet (fail)
              go_wp2_with fail
              go_roundg (all.length - (j + 1))
              case measure => omega
              case rel =>
                refine ⟨j + 1, by omega, by omega, by go_num, ?_, ⟨pw_below_drewN HJ.out nq⟩⟩
                rw [htk.out, if_pos HPK.out, List.length_append, HN.out]
                go_num
            · have hpz : (K : Int) ≤ (all[j].2 : Int) := by omega
              have HPK := Aside0.mk hpk
              clear hpk
              generalize (all[j].1 : Int) = q1 at *
              generalize hq2 : (all[j].2 : Int) = q2 at *
              clear hq2
              go_wp2_with fail
              go_roundg (all.length - (j + 1))
              case measure => omega
              case rel =>
                refine ⟨j + 1, by omega, by omega, by go_num, ?_, HJ⟩
                rw [htk.out, if_neg HPK.out, List.append_nil]
          · have hjz : ¬ (j : Int) < (all.length : Int) := by omega
            have e : lessP K (all.take j) = some_ := by rw [List.take_of_length_le (by omega)]; exact HP.out
            rw [e]
            clear e
            go_wp2_with fail
            go_roundg (l.length - (i + 1))
            case measure => omega
            case rel => exact ⟨i + 1, _, by omega, by omega, by go_num, ⟨H9.out.below (below_on HB11.out HJ.out), below_on HB9.out (below_on HB11.out HJ.out)⟩⟩
      · have h3z : ¬ (i : Int) < 300 := by omega
        go_wp2_with (go_at_call 36; refine (known10_calls _).mono ?_; rintro e w10 ⟨rfl, hb⟩)
        go_ret
        exact ⟨rfl, below_on HL.out.2 hb⟩
    · have hltz : ¬ (i : Int) < (l.length : Int) := by omega
      go_wp2_with (go_at_call 36; refine (known10_calls _).mono ?_; rintro e w10 ⟨rfl, hb⟩)
      go_ret
      exact ⟨rfl, below_on HL.out.2 hb⟩
set_option maxHeartbeats 8000000 in
set_option maxRecDepth 100000 in
theorem RaceBound_calls (w : World) (Ag : Option Addr) (cg : Nat) (G : List Int) (Aa : Option Addr) (ca : Nat) (A : List Int) (m : Int) (At : Option Addr) (ct : Nat) (cs : List S49) (hg : Kd.C (Kd.int .i64) w Ag G.length G) (hcg : G.length ≤ cg) (ha : Kd.C (Kd.int .i64) w Aa A.length A) (hca : A.length ≤ ca) (ht : Kd.C k49 w At cs.length cs) (hct : cs.length ≤ ct) (hw : W25 ⟨G, A, m, cs⟩) (Al : Option Addr) (cl : Nat) (l : List S70) (hC : Kd.C k70 w Al l.length l) (hcl : l.length ≤ cl) (hml : l.length ≤ maxLen) (k : Int) :
    Calls Try.prog 16 #[.agg #[.slice Ag G.length cg, .slice Aa A.length ca, .int .i64 m, .slice At cs.length ct], .slice Al l.length cl, .int .i64 k] w fun e w' => e = .returned (.bool true) ∧ Below w.heap.size w w' := by
  have hlens : ∀ c ∈ cs, c.f1.length ≤ 1000000000000000 := fun c hc => by
    have h := (hw.2.2.2.2.2 c hc).2.2.1
    rw [show Try.prog.bytesOf 33 = 72 by kernel_rfl] at h
    omega
  obtain ⟨b, hb, hbig⟩ := big10 G A m cs hlens
  cases b with
  | true =>
    have HG := Aside0.mk hg
    have HA := Aside0.mk ha
    have HT := Aside0.mk ht
    have HCG := Aside0.mk hcg
    have HCA := Aside0.mk hca
    have HCT := Aside0.mk hct
    have HBG := Aside0.mk hbig
    clear hg ha ht hcg hca hct hC hbig hb hw hcl hml
    go_enter Try.func16, Try.ntmps16
    go_wp2_with (first | ((with_reducible refine gate_dst (N := 3) rfl ?_); refine box_event ?hg (N := 3) ?hd (cs := #[.slice Ag G.length cg, .slice Aa A.length ca, .int .i64 m, .slice At cs.length ct]) (t := 25) ?hr ?_; (case hd => rfl); (case hg => rfl); (case hr => first | (go_simp; done) | (go_simp; rfl)); intro gu hgg w1 hlit hb; have HLw1 := Aside0.mk hlit; have HKw1 := Aside0.mk hb; have HGw1 := Aside0.mk hgg; have HB1 := Aside0.mk hb; have HU1 := Aside0.mk hlit; have hu0 : w1.cell? ⟨gu, 0, none⟩ = some (.slice Ag G.length cg) := (blk_cell HU1.out 0).trans rfl; have hu1 : w1.cell? ⟨gu, 1, none⟩ = some (.slice Aa A.length ca) := (blk_cell HU1.out 1).trans rfl; have hu2 : w1.cell? ⟨gu, 2, none⟩ = some (.int .i64 m) := (blk_cell HU1.out 2).trans rfl; have hu3 : w1.cell? ⟨gu, 3, none⟩ = some (.slice At cs.length ct) := (blk_cell HU1.out 3).trans rfl; clear hlit hb hgg) | (go_at_call 37; (with_reducible refine (HBG.out w1 Ag cg Aa ca At ct (Kd.C_below HG.out HB1.out) HCG.out (Kd.C_below HA.out HB1.out) HCA.out (Kd.C_below HT.out HB1.out) HCT.out).mono ?_); rintro e w2 ⟨rfl, hb⟩; have HB2 := Aside0.mk (below_on HB1.out hb); clear hb))
    go_ret
    exact ⟨rfl, HB2.out⟩
  | false =>
    have ok := (hb.1 rfl).2
    by_cases hl : l.length ≤ 10000
    · by_cases hk : 0 ≤ k ∧ k ≤ 4
      · obtain ⟨K, rfl⟩ : ∃ K : Nat, k = K := ⟨k.toNat, by omega⟩
        exact bound_main w Ag cg G Aa ca A m At ct cs hg hcg ha hca ht hct Al cl l hC hl ok K (by omega) hbig
      rcases (by omega : k < 0 ∨ (¬ k < 0 ∧ 4 < k)) with h1 | ⟨h0, h1⟩
      · clear hk
        have hlz : ¬ (10000 : Int) < (l.length : Int) := by omega
        clear ok hl
        have HG := Aside0.mk hg
        have HA := Aside0.mk ha
        have HT := Aside0.mk ht
        have HCG := Aside0.mk hcg
        have HCA := Aside0.mk hca
        have HCT := Aside0.mk hct
        have HBG := Aside0.mk hbig
        clear hg ha ht hcg hca hct hC hbig hb hw hcl hml
        go_enter Try.func16, Try.ntmps16
        go_wp2_with (first | ((with_reducible refine gate_dst (N := 3) rfl ?_); refine box_event ?hg (N := 3) ?hd (cs := #[.slice Ag G.length cg, .slice Aa A.length ca, .int .i64 m, .slice At cs.length ct]) (t := 25) ?hr ?_; (case hd => rfl); (case hg => rfl); (case hr => first | (go_simp; done) | (go_simp; rfl)); intro gu hgg w1 hlit hb; have HLw1 := Aside0.mk hlit; have HKw1 := Aside0.mk hb; have HGw1 := Aside0.mk hgg; have HB1 := Aside0.mk hb; have HU1 := Aside0.mk hlit; have hu0 : w1.cell? ⟨gu, 0, none⟩ = some (.slice Ag G.length cg) := (blk_cell HU1.out 0).trans rfl; have hu1 : w1.cell? ⟨gu, 1, none⟩ = some (.slice Aa A.length ca) := (blk_cell HU1.out 1).trans rfl; have hu2 : w1.cell? ⟨gu, 2, none⟩ = some (.int .i64 m) := (blk_cell HU1.out 2).trans rfl; have hu3 : w1.cell? ⟨gu, 3, none⟩ = some (.slice At cs.length ct) := (blk_cell HU1.out 3).trans rfl; clear hlit hb hgg) | (go_at_call 37; (with_reducible refine (HBG.out w1 Ag cg Aa ca At ct (Kd.C_below HG.out HB1.out) HCG.out (Kd.C_below HA.out HB1.out) HCA.out (Kd.C_below HT.out HB1.out) HCT.out).mono ?_); rintro e w2 ⟨rfl, hb⟩; have HB2 := Aside0.mk (below_on HB1.out hb); clear hb))
        go_ret
        exact ⟨rfl, HB2.out⟩
      · clear hk
        have hlz : ¬ (10000 : Int) < (l.length : Int) := by omega
        clear ok hl
        have HG := Aside0.mk hg
        have HA := Aside0.mk ha
        have HT := Aside0.mk ht
        have HCG := Aside0.mk hcg
        have HCA := Aside0.mk hca
        have HCT := Aside0.mk hct
        have HBG := Aside0.mk hbig
        clear hg ha ht hcg hca hct hC hbig hb hw hcl hml
        go_enter Try.func16, Try.ntmps16
        go_wp2_with (first | ((with_reducible refine gate_dst (N := 3) rfl ?_); refine box_event ?hg (N := 3) ?hd (cs := #[.slice Ag G.length cg, .slice Aa A.length ca, .int .i64 m, .slice At cs.length ct]) (t := 25) ?hr ?_; (case hd => rfl); (case hg => rfl); (case hr => first | (go_simp; done) | (go_simp; rfl)); intro gu hgg w1 hlit hb; have HLw1 := Aside0.mk hlit; have HKw1 := Aside0.mk hb; have HGw1 := Aside0.mk hgg; have HB1 := Aside0.mk hb; have HU1 := Aside0.mk hlit; have hu0 : w1.cell? ⟨gu, 0, none⟩ = some (.slice Ag G.length cg) := (blk_cell HU1.out 0).trans rfl; have hu1 : w1.cell? ⟨gu, 1, none⟩ = some (.slice Aa A.length ca) := (blk_cell HU1.out 1).trans rfl; have hu2 : w1.cell? ⟨gu, 2, none⟩ = some (.int .i64 m) := (blk_cell HU1.out 2).trans rfl; have hu3 : w1.cell? ⟨gu, 3, none⟩ = some (.slice At cs.length ct) := (blk_cell HU1.out 3).trans rfl; clear hlit hb hgg) | (go_at_call 37; (with_reducible refine (HBG.out w1 Ag cg Aa ca At ct (Kd.C_below HG.out HB1.out) HCG.out (Kd.C_below HA.out HB1.out) HCA.out (Kd.C_below HT.out HB1.out) HCT.out).mono ?_); rintro e w2 ⟨rfl, hb⟩; have HB2 := Aside0.mk (below_on HB1.out hb); clear hb))
        go_ret
        exact ⟨rfl, HB2.out⟩
    have hlz : (10000 : Int) < (l.length : Int) := by omega
    clear ok hl
    have HG := Aside0.mk hg
    have HA := Aside0.mk ha
    have HT := Aside0.mk ht
    have HCG := Aside0.mk hcg
    have HCA := Aside0.mk hca
    have HCT := Aside0.mk hct
    have HBG := Aside0.mk hbig
    clear hg ha ht hcg hca hct hC hbig hb hw hcl hml
    go_enter Try.func16, Try.ntmps16
    go_wp2_with (first | ((with_reducible refine gate_dst (N := 3) rfl ?_); refine box_event ?hg (N := 3) ?hd (cs := #[.slice Ag G.length cg, .slice Aa A.length ca, .int .i64 m, .slice At cs.length ct]) (t := 25) ?hr ?_; (case hd => rfl); (case hg => rfl); (case hr => first | (go_simp; done) | (go_simp; rfl)); intro gu hgg w1 hlit hb; have HLw1 := Aside0.mk hlit; have HKw1 := Aside0.mk hb; have HGw1 := Aside0.mk hgg; have HB1 := Aside0.mk hb; have HU1 := Aside0.mk hlit; have hu0 : w1.cell? ⟨gu, 0, none⟩ = some (.slice Ag G.length cg) := (blk_cell HU1.out 0).trans rfl; have hu1 : w1.cell? ⟨gu, 1, none⟩ = some (.slice Aa A.length ca) := (blk_cell HU1.out 1).trans rfl; have hu2 : w1.cell? ⟨gu, 2, none⟩ = some (.int .i64 m) := (blk_cell HU1.out 2).trans rfl; have hu3 : w1.cell? ⟨gu, 3, none⟩ = some (.slice At cs.length ct) := (blk_cell HU1.out 3).trans rfl; clear hlit hb hgg) | (go_at_call 37; (with_reducible refine (HBG.out w1 Ag cg Aa ca At ct (Kd.C_below HG.out HB1.out) HCG.out (Kd.C_below HA.out HB1.out) HCA.out (Kd.C_below HT.out HB1.out) HCT.out).mono ?_); rintro e w2 ⟨rfl, hb⟩; have HB2 := Aside0.mk (below_on HB1.out hb); clear hb))
    go_ret
    exact ⟨rfl, HB2.out⟩
end Go.Proofs.Ytikjamcemnbhbaa.Mr
