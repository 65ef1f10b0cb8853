/- meddlerlaw9: a mutex has one owner at most. -/
import Derived.Test.YtikjamcemnbhbaaMrPkG
import Derived.Test.YtikjamcemnbhbaaMrPkF
import Derived.Test.YtikjamcemnbhbaaMrOp
namespace Go.Proofs.Ytikjamcemnbhbaa.Mr
open Go.RowKit Go.Proofs.YtikjamcemnbhbaaW.PrintWords Go.Proofs.YtikjamcemnbhbaaW.PrintLast Go.Proofs.YtikjamcemnbhbaaW.PrintMore
set_option linter.unusedVariables false
set_option linter.unusedSimpArgs false
theorem nxt_shape (cs : List S49) (s : St) (t : Int) : ∃ (y : S33) (b : Bool), nxtV (nxt cs s t) = .tuple #[.agg #[.int .i64 y.f0, .int .i64 y.f1, .int .i64 y.f2, .int .i64 y.f3, .int .i64 y.f4, .int .i64 y.f5, .int .i64 y.f6, .int .i64 y.f7, .int .i64 y.f8], .bool b] ∧ (nxt cs s t).isSome = b ∧ ∀ a, nxt cs s t = some a → b = true ∧ a = y := by
  cases h : nxt cs s t with
  | none => exact ⟨z33, false, rfl, rfl, fun a h => by cases h⟩
  | some a => exact ⟨a, true, rfl, rfl, fun x h => ⟨rfl, (Option.some.inj h).symm⟩⟩
/-- What the law keeps of the owners, while it reads them. -/
def wasC (s : St) (k : Nat) : Array Value := ((List.range 6).map fun j => if j < k then .int .i64 (ownOf s j) else .int .i64 0).toArray
theorem wasC_size (s : St) (k : Nat) : (wasC s k).size = 6 := by simp [wasC]
theorem wasC_get (s : St) (k j : Nat) (h : j < k) (h6 : j < 6) : (wasC s k)[j]? = some (.int .i64 (ownOf s j)) := by simp [wasC, h, h6]
theorem wasC_put (s : St) (k : Nat) (h : k < 6) : (wasC s k).setIfInBounds k (.int .i64 (ownOf s k)) = wasC s (k + 1) := by
  apply Array.ext_getElem?
  intro j
  rw [Array.getElem?_setIfInBounds, wasC_size]
  unfold wasC
  by_cases e : k = j
  · subst e
    simp [h]
  · rw [if_neg e]
    by_cases hj : j < 6
    · by_cases hk : j < k
      · have : j < k + 1 := by omega
        simp [hj, hk, this]
      · have : ¬ j < k + 1 := by omega
        simp [hj, hk, this]
    · simp [hj]
theorem wasC_not (s : St) (k : Nat) (h : k < 6) : (wasC s k)[k]? = some (.int .i64 0) := by simp [wasC, h]
set_option maxHeartbeats 8000000 in
set_option maxRecDepth 100000 in
theorem owners_main (w : World) (Ag : Option Addr) (cg : Nat) (G : List Int) (Aa : Option Addr) (ca : Nat) (A : List Int) (m : Int) (At : Option Addr) (ct : Nat) (cs : List S49) (hg : Kd.C (Kd.int .i64) w Ag G.length G) (hcg : G.length ≤ cg) (ha : Kd.C (Kd.int .i64) w Aa A.length A) (hca : A.length ≤ ca) (ht : Kd.C k49 w At cs.length cs) (hct : cs.length ≤ ct) (Al : Option Addr) (cl : Nat) (l : List S37) (hC : Kd.C k37 w Al l.length l) (hl : l.length ≤ 10000) (ok : OkUnit G A m cs) (hbig : ∀ (w : World) (Ag : Option Addr) (cg : Nat) (Aa : Option Addr) (ca : Nat) (At : Option Addr) (ct : Nat), Kd.C (Kd.int .i64) w Ag G.length G → G.length ≤ cg → Kd.C (Kd.int .i64) w Aa A.length A → A.length ≤ ca → Kd.C k49 w At cs.length cs → cs.length ≤ ct → Calls Try.prog 18 #[.agg #[.slice Ag G.length cg, .slice Aa A.length ca, .int .i64 m, .slice At cs.length ct]] w fun e w' => e = .returned (.bool false) ∧ Below w.heap.size w w') :
    Calls Try.prog 3 #[.agg #[.slice Ag G.length cg, .slice Aa A.length ca, .int .i64 m, .slice At cs.length ct], .slice Al l.length cl] w fun e w' => e = .returned (.bool true) ∧ Below w.heap.size w w' := by
  have hm6 := ok.ms
  have hlz : ¬ (10000 : Int) < (l.length : Int) := by omega
  have HG := Aside0.mk hg
  have HA := Aside0.mk ha
  have HT := Aside0.mk ht
  have HCG := Aside0.mk hcg
  have HCA := Aside0.mk hca
  have HCT := Aside0.mk hct
  have HC := Aside0.mk hC
  have HBG := Aside0.mk hbig
  have OK := Aside0.mk ok
  clear hg ha ht hcg hca hct hC hbig ok
  go_enter Try.func3, Try.ntmps3
  go_wp2_with (first | ((with_reducible refine gate_dst (N := 2) rfl ?_); refine box_event ?hg (N := 2) ?hd (cs := #[.slice Ag G.length cg, .slice Aa A.length ca, .int .i64 m, .slice At cs.length ct]) (t := 25) ?hr ?_; (case hd => rfl); (case hg => rfl); (case hr => first | (go_simp; done) | (go_simp; rfl)); intro gu hgg w1 hlit hb; have HLw1 := Aside0.mk hlit; have HKw1 := Aside0.mk hb; have HGw1 := Aside0.mk hgg; have HB1 := Aside0.mk hb; have HU1 := Aside0.mk hlit; have hu0 : w1.cell? ⟨gu, 0, none⟩ = some (.slice Ag G.length cg) := (blk_cell HU1.out 0).trans rfl; have hu1 : w1.cell? ⟨gu, 1, none⟩ = some (.slice Aa A.length ca) := (blk_cell HU1.out 1).trans rfl; have hu2 : w1.cell? ⟨gu, 2, none⟩ = some (.int .i64 m) := (blk_cell HU1.out 2).trans rfl; have hu3 : w1.cell? ⟨gu, 3, none⟩ = some (.slice At cs.length ct) := (blk_cell HU1.out 3).trans rfl; clear hlit hb hgg))
  refine (HBG.out w1 Ag cg Aa ca At ct (Kd.C_below HG.out HB1.out) HCG.out (Kd.C_below HA.out HB1.out) HCA.out (Kd.C_below HT.out HB1.out) HCT.out).mono ?_
  rintro e w2 ⟨rfl, hb⟩
  have HB2 := Aside0.mk (below_on HB1.out hb)
  have HU2 := Aside0.mk (below_read hb HU1.out)
  clear hb
  clear hu0 hu1 hu2 hu3
  have hu0 : w2.cell? ⟨gu, 0, none⟩ = some (.slice Ag G.length cg) := (blk_cell HU2.out 0).trans rfl
  have hu1 : w2.cell? ⟨gu, 1, none⟩ = some (.slice Aa A.length ca) := (blk_cell HU2.out 1).trans rfl
  have hu2 : w2.cell? ⟨gu, 2, none⟩ = some (.int .i64 m) := (blk_cell HU2.out 2).trans rfl
  have hu3 : w2.cell? ⟨gu, 3, none⟩ = some (.slice At cs.length ct) := (blk_cell HU2.out 3).trans rfl
  go_wp2_with fail
  refine (new_live w2 Ag cg G Aa ca A m At ct cs (Kd.C_below HG.out HB2.out) HCG.out (Kd.C_below HA.out HB2.out) HCA.out (Kd.C_below HT.out HB2.out) HCT.out OK.out).mono ?_
  rintro e w3 ⟨ph, rfl, hL, hb⟩
  have H3 := Aside0.mk (Lv.of hL (sm_new OK.out) rfl (Nat.le_refl _) (Nat.le_refl _))
  have HB3 := Aside0.mk (below_on HB2.out hb)
  have HU3 := Aside0.mk (below_read hb HU2.out)
  have HGU := Aside0.mk (show gu < w2.heap.size from blk_lt HU2.out)
  have HW2 := Aside0.mk (show w.heap.size ≤ w2.heap.size from HB2.out.size)
  have HW3 := Aside0.mk (show w2.heap.size ≤ w3.heap.size from hb.size)
  clear hL hb
  clear hu0 hu1 hu2 hu3
  have hu0 : w3.cell? ⟨gu, 0, none⟩ = some (.slice Ag G.length cg) := (blk_cell HU3.out 0).trans rfl
  have hu1 : w3.cell? ⟨gu, 1, none⟩ = some (.slice Aa A.length ca) := (blk_cell HU3.out 1).trans rfl
  have hu2 : w3.cell? ⟨gu, 2, none⟩ = some (.int .i64 m) := (blk_cell HU3.out 2).trans rfl
  have hu3 : w3.cell? ⟨gu, 3, none⟩ = some (.slice At cs.length ct) := (blk_cell HU3.out 3).trans rfl
  go_wp2_with fail
  go_loopg [7] l.length (fun gg s7 wr => ∃ (i : Nat) (s : St), i ≤ l.length ∧ l.length - i ≤ gg ∧ s7 = .int .i64 i ∧ Aside0 (Lv w2.heap.size w3.heap.size w3.heap.size wr ph cs A.length s ∧ wr.heap[gu]? = some (.cells #[.slice Ag G.length cg, .slice Aa A.length ca, .int .i64 m, .slice At cs.length ct] 25 (0, 0)) ∧ Below w.heap.size w wr))
  case atStart => exact ⟨0, _, Nat.zero_le _, by omega, rfl, ⟨H3.out, HU3.out, HB3.out⟩⟩
  case round =>
    clear H3 HB3 HU3 hu0 hu1 hu2 hu3
    obtain ⟨i, s, hi, hgg, rfl, HL⟩ := hrel
    generalize wr = wo at *
    by_cases hlt : i < l.length
    · by_cases h300 : i < 300
      · have hltz : (i : Int) < (l.length : Int) := by omega
        have h3z : (i : Int) < 300 := by omega
        obtain ⟨ad, rfl, hp0, hp1⟩ := at_T37 HC.out (i : Int) (by omega) hltz
        rw [Int.toNat_natCast] at hp0 hp1
        generalize rd_T37 l (i : Int) = p at hp0 hp1
        obtain ⟨t, inp⟩ := p
        simp only at hp0 hp1
        have HP0 := Aside0.mk hp0
        have HP1 := Aside0.mk hp1
        clear hp0 hp1
        have hp0 := pw_cell_below HL.out.2.2 HP0.out
        obtain ⟨y, b, hv, hs, hy⟩ := nxt_shape cs s t
        have HV := Aside0.mk hv
        have HS := Aside0.mk hs
        have HY := Aside0.mk hy
        clear hv hs hy
        go_wp2_with (first | (go_at_call 20; (with_reducible refine (HL.out.1.next t HV.out).mono ?_); rintro e w4 ⟨rfl, hb⟩; have HK4 := Aside0.mk hb; clear hb) | ((with_reducible refine gate_dst (N := 8) rfl ?_); refine box_event ?hg (N := 8) ?hd (cs := #[.int .i64 0, .int .i64 0, .int .i64 0, .int .i64 0, .int .i64 0, .int .i64 0, .int .i64 0, .int .i64 0, .int .i64 0]) (t := 33) ?hr ?_; (case hd => rfl); (case hg => rfl); (case hr => first | (go_simp; done) | (go_simp; rfl)); intro g8 hgg w5 hlit hb; have HLw5 := Aside0.mk hlit; have HKw5 := Aside0.mk hb; have HGw5 := Aside0.mk hgg; have HK5 := Aside0.mk (below_on HK4.out hb); clear hlit hb hgg) | ((with_reducible refine gate_store (t := 33) (p := 8) rfl ?_); refine put_row ?hg ?hn 33 (.tmp 8) (.tmp 52) ?ho g8 33 _ (#[.int .i64 y.f0, .int .i64 y.f1, .int .i64 y.f2, .int .i64 y.f3, .int .i64 y.f4, .int .i64 y.f5, .int .i64 y.f6, .int .i64 y.f7, .int .i64 y.f8]) ?hp ?hx ?hu HLw5.out ?ht ?hs ?h1 ?_; (case hg => rfl); (case hn => rfl); (case ho => rfl); (case hp => rfl); (case hx => rfl); (case hu => rfl); (case ht => kernel_rfl); (case hs => rfl); (case h1 => exact actC_one y); intro w6 hlit hg; have HLw6 := Aside0.mk hlit; have HK6 := Aside0.mk (HK5.out.grown hg HK5.out.size (fun q hq => by injection hq with hq; rw [← hq, HGw5.out]; exact HK4.out.size)); clear hlit hg) | ((with_reducible refine gate_dst (N := 10) rfl ?_); refine box_event ?hg (N := 10) ?hd (cs := #[.int .i64 0, .int .i64 0, .int .i64 0, .int .i64 0, .int .i64 0, .int .i64 0]) (t := 38) ?hr ?_; (case hd => rfl); (case hg => rfl); (case hr => first | (go_simp; done) | (go_simp; rfl)); intro g10 hgg w7 hlit hb; have HLw7 := Aside0.mk hlit; have HKw7 := Aside0.mk hb; have HGw7 := Aside0.mk hgg; have HK7 := Aside0.mk (below_on HK6.out hb); have HL7 := Aside0.mk (below_read hb HLw6.out); clear hlit hb hgg))
        have HW7 := Aside0.mk (show wo.heap.size ≤ w4.heap.size ∧ wo.heap.size ≤ g8 ∧ wo.heap.size ≤ g10 ∧ g8 ≠ g10 from ⟨HK4.out.size, by rw [HGw5.out]; exact HK4.out.size, by rw [HGw7.out]; exact HK6.out.size, by rw [HGw7.out]; have := blk_lt HLw6.out; omega⟩)
        go_loopg [11] m.toNat (fun gg s11 wq => ∃ k : Nat, k ≤ m.toNat ∧ m.toNat - k ≤ gg ∧ s11 = .int .i64 k ∧ Aside0 (Below wo.heap.size wo wq ∧ wq.heap[g10]? = some (.cells (wasC s k) 38 (0, 0)) ∧ wq.heap[g8]? = some (.cells (actC y) 33 (0, 0))))
        case atStart => exact ⟨0, Nat.zero_le _, by omega, rfl, ⟨HK7.out, HLw7.out, HL7.out⟩⟩
        case round =>
          clear HK7 HLw7 HL7 hp0
          obtain ⟨k, hk, hgk, rfl, HK⟩ := hrel
          generalize wr = wq at *
          have HU := Aside0.mk (below_read HK.out.1 HL.out.2.1)
          have hu2 : wq.cell? ⟨gu, 2, none⟩ = some (.int .i64 m) := (blk_cell HU.out 2).trans rfl
          by_cases hkm : k < m.toNat
          · have hkz : (k : Int) < m := by omega
            have hk6 : (k : Int) < 6 := by omega
            have hk0 : (0 : Int) ≤ (k : Int) := by omega
            go_wp2_with (first | (go_at_call 21; (with_reducible refine ((HL.out.1.below HK.out.1).owner (k : Int) rfl).mono ?_); rintro e w8 ⟨rfl, hb⟩; have HB8 := Aside0.mk (below_on HK.out.1 hb); have HG8 := Aside0.mk (below_read hb HK.out.2.1); have HA8 := Aside0.mk (below_read hb HK.out.2.2); have hq : w8.cell? ⟨g10, k, none⟩ = some (.int .i64 0) := (blk_cell HG8.out k).trans (wasC_not s k (by omega)); have hf : w8.frozen? ⟨g10, k, none⟩ = false := blk_frozen HG8.out k; clear hb))
            go_roundg (m.toNat - (k + 1))
            case measure => omega
            case rel =>
              exact ⟨k + 1, by omega, by omega, by go_num, ⟨HB8.out.setCell (show wo.heap.size ≤ (⟨g10, k, none⟩ : Addr).block from HW7.out.2.2.1) _, blk_put HG8.out k _ (wasC_put s k (by omega)), blk_far HA8.out HW7.out.2.2.2 _⟩⟩
          · have hkz : ¬ (k : Int) < m := by omega
            obtain rfl : k = m.toNat := by omega
            have hp0 := pw_cell_below (below_on HL.out.2.2 HK.out.1) HP0.out
            have hp1 := pw_cell_below (below_on HL.out.2.2 HK.out.1) HP1.out
            go_wp2_with fail
            go_still_tail 11, (by kernel_rfl)
            change wpList _ _ _ _ _ wq.drew
            go_wp2_with fail
            go_at_call 22
            (refine ((HL.out.1.below (below_drew HK.out.1)).step t inp HS.out).mono ?_)
            rintro e w9 ⟨rfl, hs⟩
            have H9 := Aside0.mk hs.1
            have HB9 := Aside0.mk (Chg.below (below_on HL.out.2.2 (below_drew HK.out.1)) (below_on HL.out.2.2 (below_drew HK.out.1)).size HW2.out hs.2)
            have HG9 := Aside0.mk (hs.2.keep (HK.out.2.1 : wq.drew.heap[g10]? = _) (.inr (Nat.le_trans HL.out.1.sz HW7.out.2.2.1)))
            have HA9 := Aside0.mk (hs.2.keep (HK.out.2.2 : wq.drew.heap[g8]? = _) (.inr (Nat.le_trans HL.out.1.sz HW7.out.2.1)))
            have HU9 := Aside0.mk (hs.2.keep (HU.out : wq.drew.heap[gu]? = _) (.inl HGU.out))
            clear hs hp0 hp1 hu2 HU HK hkz hkm hk hgk
            go_wp2_with fail
            go_loopg [12] m.toNat (fun gg s12 wr => ∃ k : Nat, k ≤ m.toNat ∧ m.toNat - k ≤ gg ∧ s12 = .int .i64 k ∧ Aside0 (Below w9.heap.size w9 wr))
            case atStart => exact ⟨0, Nat.zero_le _, by omega, rfl, ⟨Below.refl _ _⟩⟩
            case round =>
              obtain ⟨k, hk, hgk, rfl, HK⟩ := hrel
              generalize wr = wz at *
              have hu2 : wz.cell? ⟨gu, 2, none⟩ = some (.int .i64 m) := (blk_cell (below_read HK.out HU9.out) 2).trans rfl
              by_cases hkm : k < m.toNat
              · have hkz : (k : Int) < m := by omega
                have hk6 : (k : Int) < 6 := by omega
                have hk0 : (0 : Int) ≤ (k : Int) := by omega
                have hos := owners_ok (nA := A.length) HL.out.1.wf t inp k hk0
                unfold OwnSame at hos
                obtain ⟨o2, ho2⟩ : ∃ x, ownOf (stepP cs A.length s t inp) k = x := ⟨_, rfl⟩
                obtain ⟨o1, ho1⟩ : ∃ x, ownOf s k = x := ⟨_, rfl⟩
                rw [ho1, ho2] at hos
                have HO1 := Aside0.mk ho1
                have HO2 := Aside0.mk ho2
                have HOS := Aside0.mk hos
                clear ho1 ho2 hos
                go_upto_region 20 with ((go_at_call 21; (with_reducible refine ((H9.out.below HK.out).owner (k : Int) HO2.out).mono ?_); rintro e w10 ⟨rfl, hb⟩; have HB10 := Aside0.mk (below_on HK.out hb); have hq : w10.cell? ⟨g10, k, none⟩ = some (.int .i64 o1) := (blk_cell (below_read HB10.out HG9.out) k).trans ((wasC_get s m.toNat k (by omega) (by omega)).trans (by rw [HO1.out])); clear hb hu2))
                by_cases heq : o2 = o1
                · have heb : (o2 == o1) = true := beq_iff_eq.mpr heq
                  clear heq
                  go_wp2_with fail
                  go_roundg (m.toNat - (k + 1))
                  case measure => omega
                  case rel => exact ⟨k + 1, by omega, by omega, by go_num, ⟨HB10.out⟩⟩
                · rcases HOS.out with h | h | h
                  · exact absurd h heq
                  · obtain ⟨a, hn, h9, h4, e1, e2⟩ := h
                    obtain ⟨rfl, rfl⟩ := HY.out a hn
                    have HK9 := Aside0.mk h9
                    have HF4 := Aside0.mk h4
                    clear hn h9 h4
                    rw [e1] at heq hq
                    rw [e2] at heq
                    have heb : (t == -1) = false := beq_eq_false_iff_ne.mpr heq
                    clear heq
                    have E1 := Aside0.mk e1
                    have E2 := Aside0.mk e2
                    subst e2
                    clear e1
                    have hy0 : w10.cell? ⟨g8, 0, none⟩ = some (.int .i64 9) := (blk_cell (below_read HB10.out HA9.out) 0).trans (by show some (Value.int .i64 a.f0) = _; rw [HK9.out])
                    have hy4 : w10.cell? ⟨g8, 4, none⟩ = some (.int .i64 (k : Int)) := (blk_cell (below_read HB10.out HA9.out) 4).trans (by show some (Value.int .i64 a.f4) = _; rw [HF4.out])
                    have hp0 := pw_cell_below (below_on HB9.out HB10.out) HP0.out
                    go_wp2_with fail
                    go_quiet (fail)
                    go_wp2_with fail
                    go_roundg (m.toNat - (k + 1))
                    case measure => omega
                    case rel => exact ⟨k + 1, by omega, by omega, by go_num, ⟨pw_below_drewN HB10.out nq⟩⟩
                  · obtain ⟨a, hn, h9, h4, e1, e2⟩ := h
                    obtain ⟨rfl, rfl⟩ := HY.out a hn
                    have HK9 := Aside0.mk h9
                    have HF4 := Aside0.mk h4
                    clear hn h9 h4
                    rw [e1] at heq hq
                    rw [e2] at heq
                    have heb : ((-1 : Int) == t) = false := beq_eq_false_iff_ne.mpr heq
                    clear heq
                    subst e2
                    clear e1
                    have hy0 : w10.cell? ⟨g8, 0, none⟩ = some (.int .i64 10) := (blk_cell (below_read HB10.out HA9.out) 0).trans (by show some (Value.int .i64 a.f0) = _; rw [HK9.out])
                    have hy4 : w10.cell? ⟨g8, 4, none⟩ = some (.int .i64 (k : Int)) := (blk_cell (below_read HB10.out HA9.out) 4).trans (by show some (Value.int .i64 a.f4) = _; rw [HF4.out])
                    have hp0 := pw_cell_below (below_on HB9.out HB10.out) HP0.out
                    go_wp2_with fail
                    go_quiet (fail)
                    go_wp2_with fail
                    go_roundg (m.toNat - (k + 1))
                    case measure => omega
                    case rel => exact ⟨k + 1, by omega, by omega, by go_num, ⟨pw_below_drewN HB10.out nq⟩⟩
              · have hkz : ¬ (k : Int) < m := by omega
                go_wp2_with fail
                go_roundg (l.length - (i + 1))
                case measure => omega
                case rel => exact ⟨i + 1, _, by omega, by omega, by go_num, ⟨H9.out.below HK.out, below_read HK.out HU9.out, below_on HB9.out HK.out⟩⟩
      · have h3z : ¬ (i : Int) < 300 := by omega
        have hltz : (i : Int) < (l.length : Int) := by omega
        go_wp2_with (go_at_call 23; refine (known_calls _).mono ?_; rintro e w10 ⟨rfl, hb⟩)
        go_ret
        exact ⟨rfl, below_on HL.out.2.2 hb⟩
    · have hltz : ¬ (i : Int) < (l.length : Int) := by omega
      go_wp2_with (go_at_call 23; refine (known_calls _).mono ?_; rintro e w10 ⟨rfl, hb⟩)
      go_ret
      exact ⟨rfl, below_on HL.out.2.2 hb⟩
set_option maxHeartbeats 8000000 in
set_option maxRecDepth 100000 in
theorem MachOwners_calls (w : World) (Ag : Option Addr) (cg : Nat) (G : List Int) (Aa : Option Addr) (ca : Nat) (A : List Int) (m : Int) (At : Option Addr) (ct : Nat) (cs : List S49) (hg : Kd.C (Kd.int .i64) w Ag G.length G) (hcg : G.length ≤ cg) (ha : Kd.C (Kd.int .i64) w Aa A.length A) (hca : A.length ≤ ca) (ht : Kd.C k49 w At cs.length cs) (hct : cs.length ≤ ct) (hw : W25 ⟨G, A, m, cs⟩) (Al : Option Addr) (cl : Nat) (l : List S37) (hC : Kd.C k37 w Al l.length l) (hcl : l.length ≤ cl) (hml : l.length ≤ maxLen) :
    Calls Try.prog 3 #[.agg #[.slice Ag G.length cg, .slice Aa A.length ca, .int .i64 m, .slice At cs.length ct], .slice Al l.length cl] w fun e w' => e = .returned (.bool true) ∧ Below w.heap.size w w' := by
  have hlens : ∀ c ∈ cs, c.f1.length ≤ 1000000000000000 := fun c hc => by
    have h := (hw.2.2.2.2.2 c hc).2.2.1
    rw [show Try.prog.bytesOf 33 = 72 by kernel_rfl] at h
    omega
  obtain ⟨b, hb, hbig⟩ := big9 G A m cs hlens
  cases b with
  | true =>
    have HG := Aside0.mk hg
    have HA := Aside0.mk ha
    have HT := Aside0.mk ht
    have HCG := Aside0.mk hcg
    have HCA := Aside0.mk hca
    have HCT := Aside0.mk hct
    have HBG := Aside0.mk hbig
    clear hg ha ht hcg hca hct hC hbig hb hw hcl hml
    go_enter Try.func3, Try.ntmps3
    go_wp2_with (first | ((with_reducible refine gate_dst (N := 2) rfl ?_); refine box_event ?hg (N := 2) ?hd (cs := #[.slice Ag G.length cg, .slice Aa A.length ca, .int .i64 m, .slice At cs.length ct]) (t := 25) ?hr ?_; (case hd => rfl); (case hg => rfl); (case hr => first | (go_simp; done) | (go_simp; rfl)); intro gu hgg w1 hlit hb; have HLw1 := Aside0.mk hlit; have HKw1 := Aside0.mk hb; have HGw1 := Aside0.mk hgg; have HB1 := Aside0.mk hb; have HU1 := Aside0.mk hlit; have hu0 : w1.cell? ⟨gu, 0, none⟩ = some (.slice Ag G.length cg) := (blk_cell HU1.out 0).trans rfl; have hu1 : w1.cell? ⟨gu, 1, none⟩ = some (.slice Aa A.length ca) := (blk_cell HU1.out 1).trans rfl; have hu2 : w1.cell? ⟨gu, 2, none⟩ = some (.int .i64 m) := (blk_cell HU1.out 2).trans rfl; have hu3 : w1.cell? ⟨gu, 3, none⟩ = some (.slice At cs.length ct) := (blk_cell HU1.out 3).trans rfl; clear hlit hb hgg) | (go_at_call 18; (with_reducible refine (HBG.out w1 Ag cg Aa ca At ct (Kd.C_below HG.out HB1.out) HCG.out (Kd.C_below HA.out HB1.out) HCA.out (Kd.C_below HT.out HB1.out) HCT.out).mono ?_); rintro e w2 ⟨rfl, hb⟩; have HB2 := Aside0.mk (below_on HB1.out hb); clear hb))
    go_ret
    exact ⟨rfl, HB2.out⟩
  | false =>
    have ok := (hb.1 rfl).2
    by_cases hl : l.length ≤ 10000
    · exact owners_main w Ag cg G Aa ca A m At ct cs hg hcg ha hca ht hct Al cl l hC hl ok hbig
    have hlz : (10000 : Int) < (l.length : Int) := by omega
    clear ok hl
    have HG := Aside0.mk hg
    have HA := Aside0.mk ha
    have HT := Aside0.mk ht
    have HCG := Aside0.mk hcg
    have HCA := Aside0.mk hca
    have HCT := Aside0.mk hct
    have HBG := Aside0.mk hbig
    clear hg ha ht hcg hca hct hC hbig hb hw hcl hml
    go_enter Try.func3, Try.ntmps3
    go_wp2_with (first | ((with_reducible refine gate_dst (N := 2) rfl ?_); refine box_event ?hg (N := 2) ?hd (cs := #[.slice Ag G.length cg, .slice Aa A.length ca, .int .i64 m, .slice At cs.length ct]) (t := 25) ?hr ?_; (case hd => rfl); (case hg => rfl); (case hr => first | (go_simp; done) | (go_simp; rfl)); intro gu hgg w1 hlit hb; have HLw1 := Aside0.mk hlit; have HKw1 := Aside0.mk hb; have HGw1 := Aside0.mk hgg; have HB1 := Aside0.mk hb; have HU1 := Aside0.mk hlit; have hu0 : w1.cell? ⟨gu, 0, none⟩ = some (.slice Ag G.length cg) := (blk_cell HU1.out 0).trans rfl; have hu1 : w1.cell? ⟨gu, 1, none⟩ = some (.slice Aa A.length ca) := (blk_cell HU1.out 1).trans rfl; have hu2 : w1.cell? ⟨gu, 2, none⟩ = some (.int .i64 m) := (blk_cell HU1.out 2).trans rfl; have hu3 : w1.cell? ⟨gu, 3, none⟩ = some (.slice At cs.length ct) := (blk_cell HU1.out 3).trans rfl; clear hlit hb hgg) | (go_at_call 18; (with_reducible refine (HBG.out w1 Ag cg Aa ca At ct (Kd.C_below HG.out HB1.out) HCG.out (Kd.C_below HA.out HB1.out) HCA.out (Kd.C_below HT.out HB1.out) HCT.out).mono ?_); rintro e w2 ⟨rfl, hb⟩; have HB2 := Aside0.mk (below_on HB1.out hb); clear hb))
    go_ret
    exact ⟨rfl, HB2.out⟩
end Go.Proofs.Ytikjamcemnbhbaa.Mr
