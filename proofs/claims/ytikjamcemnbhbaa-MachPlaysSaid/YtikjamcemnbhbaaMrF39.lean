/- meddlerref8.Is: which units it lets in. -/
import Derived.Test.YtikjamcemnbhbaaMrPkE
import Derived.Test.YtikjamcemnbhbaaMrF52
import Derived.StillTailTactics
namespace Go.Proofs.Ytikjamcemnbhbaa.Mr
open Go.RowKit Go.Proofs.YtikjamcemnbhbaaW.PrintWords Go.Proofs.YtikjamcemnbhbaaW.PrintLast
set_option linter.unusedVariables false
set_option linter.unusedSimpArgs false
def codeB (ng na m : Int) (c : S49) : Bool := in8 c.f0 41 && (decide (1 ≤ c.f1.length) && (decide (c.f1.length ≤ 60) && ((rd_T33 c.f1 ((c.f1.length : Int) - 1)).f0 == 14 && c.f1.all (actB ng na m c.f0 c.f1.length))))
def sizeB (x : Int) : Bool := decide (1 ≤ x) && decide (x ≤ 16)
def isB (G A : List Int) (m : Int) (cs : List S49) : Bool := decide (G.length ≤ 6) && (decide (A.length ≤ 3) && (in8 m 7 && (decide (1 ≤ cs.length) && (decide (cs.length ≤ 4) && (G.all fitsB && (A.all sizeB && cs.all (codeB G.length A.length m)))))))
theorem all_no {α : Type} (p : α → Bool) (l : List α) (i : Nat) (h : i < l.length) (hp : p l[i] = false) : l.all p = false := by
  rw [List.all_eq_false]
  exact ⟨l[i], List.getElem_mem h, by rw [hp]; exact Bool.false_ne_true⟩
theorem all_yes {α : Type} (p : α → Bool) (l : List α) (h : ∀ j, (hj : j < l.length) → p l[j] = true) : l.all p = true := by
  rw [List.all_eq_true]
  intro x hx
  obtain ⟨j, hj, rfl⟩ := List.getElem_of_mem hx
  exact h j hj
theorem all_next {α : Type} {p : α → Bool} {l : List α} {i : Nat} (h : ∀ j, (hj : j < l.length) → j < i → p l[j] = true) (hi : i < l.length) (hp : p l[i] = true) : ∀ j, (hj : j < l.length) → j < i + 1 → p l[j] = true := by
  intro j hj hji
  by_cases e : j = i
  · subst e; exact hp
  · exact h j hj (by omega)
theorem rd_g (l : List Int) (i : Nat) (h : i < l.length) : rd l (i : Int) = l[i] := by show l.getD (i : Int).toNat 0 = _; simp [h]
theorem rd49_g (l : List S49) (i : Nat) (h : i < l.length) : rd_T49 l (i : Int) = l[i] := by simp [rd_T49, h]
theorem rd33_g (l : List S33) (i : Nat) (h : i < l.length) : rd_T33 l (i : Int) = l[i] := by simp [rd_T33, h]
theorem c49_o (x : Int) (Ac : Option Addr) (n c : Nat) : ∀ q ∈ (#[.int .i64 x, .slice Ac n c] : Array Value).toList, q.oneCell' = true := by
  intro q hq
  simp at hq
  rcases hq with rfl | rfl <;> rfl
theorem ret_bb {b c : Bool} (h : b = c) : Ending.returned (.bool c) = Ending.returned (.bool b) := by rw [h]
set_option maxHeartbeats 8000000 in
set_option maxRecDepth 100000 in
theorem is8_calls (w : World) (Ag : Option Addr) (cg : Nat) (G : List Int) (Aa : Option Addr) (ca : Nat) (A : List Int) (m : Int) (At : Option Addr) (ct : Nat) (cs : List S49) (hg : Kd.C (Kd.int .i64) w Ag G.length G) (hcg : G.length ≤ cg) (ha : Kd.C (Kd.int .i64) w Aa A.length A) (hca : A.length ≤ ca) (ht : Kd.C k49 w At cs.length cs) (hct : cs.length ≤ ct) :
    Calls Try.prog 39 #[.agg #[.slice Ag G.length cg, .slice Aa A.length ca, .int .i64 m, .slice At cs.length ct]] w fun e w' => e = .returned (.bool (isB G A m cs)) ∧ Below w.heap.size w w' := by
  have HG := Aside0.mk hg
  have HA := Aside0.mk ha
  have HT := Aside0.mk ht
  have HCG := Aside0.mk hcg
  have HCA := Aside0.mk hca
  have HCT := Aside0.mk hct
  clear hg ha ht hcg hca hct
  by_cases h1 : G.length ≤ 6
  · have g1 : ¬ (6 : Int) < (G.length : Int) := by omega
    by_cases h2 : A.length ≤ 3
    · have g2 : ¬ (3 : Int) < (A.length : Int) := by omega
      cases h3 : in8 m 7 with
      | false =>
        have H3 := Aside0.mk h3
        have HNO : Aside0 (isB G A m cs = false) := ⟨by unfold isB; rw [H3.out]; simp⟩
        go_enter Try.func39, Try.ntmps39
        go_wp2_with (first | ((with_reducible refine gate_dst (N := 1) rfl ?_); refine box_event ?hg (N := 1) ?hd (cs := #[.slice Ag G.length cg, .slice Aa A.length ca, .int .i64 m, .slice At cs.length ct]) (t := 25) ?hr ?_; (case hd => rfl); (case hg => rfl); (case hr => first | (go_simp; done) | (go_simp; rfl)); intro gu hgg w1 hlit hb; have HLw1 := Aside0.mk hlit; have HKw1 := Aside0.mk hb; have HGw1 := Aside0.mk hgg; have HB1 := Aside0.mk hb; have HU1 := Aside0.mk hlit; have hu0 : w1.cell? ⟨gu, 0, none⟩ = some (.slice Ag G.length cg) := (blk_cell HU1.out 0).trans rfl; have hu1 : w1.cell? ⟨gu, 1, none⟩ = some (.slice Aa A.length ca) := (blk_cell HU1.out 1).trans rfl; have hu2 : w1.cell? ⟨gu, 2, none⟩ = some (.int .i64 m) := (blk_cell HU1.out 2).trans rfl; have hu3 : w1.cell? ⟨gu, 3, none⟩ = some (.slice At cs.length ct) := (blk_cell HU1.out 3).trans rfl; clear hlit hb hgg) | (go_at_call 52; (with_reducible refine (in8_calls _ _ _).mono ?_); rintro e w2 ⟨rfl, hd⟩; have HB2 := Aside0.mk (below_on HB1.out hd.below); have HU2 := Aside0.mk (below_read hd.below HU1.out); clear hd hu0 hu1 hu2 hu3; have hu0 : w2.cell? ⟨gu, 0, none⟩ = some (.slice Ag G.length cg) := (blk_cell HU2.out 0).trans rfl; have hu1 : w2.cell? ⟨gu, 1, none⟩ = some (.slice Aa A.length ca) := (blk_cell HU2.out 1).trans rfl; have hu2 : w2.cell? ⟨gu, 2, none⟩ = some (.int .i64 m) := (blk_cell HU2.out 2).trans rfl; have hu3 : w2.cell? ⟨gu, 3, none⟩ = some (.slice At cs.length ct) := (blk_cell HU2.out 3).trans rfl))
        go_ret
        exact ⟨ret_bb HNO.out, HB2.out⟩
      | true =>
        have H3 := Aside0.mk h3
        by_cases h4 : 1 ≤ cs.length
        · have g4 : ¬ (cs.length : Int) < 1 := by omega
          by_cases h5 : cs.length ≤ 4
          · have g5 : ¬ (4 : Int) < (cs.length : Int) := by omega
            have HIS : Aside0 (isB G A m cs = (G.all fitsB && (A.all sizeB && cs.all (codeB G.length A.length m)))) := ⟨by unfold isB; rw [decide_eq_true h1, decide_eq_true h2, H3.out, decide_eq_true h4, decide_eq_true h5]; simp⟩
            clear h4
            go_enter Try.func39, Try.ntmps39
            go_wp2_with (first | ((with_reducible refine gate_dst (N := 1) rfl ?_); refine box_event ?hg (N := 1) ?hd (cs := #[.slice Ag G.length cg, .slice Aa A.length ca, .int .i64 m, .slice At cs.length ct]) (t := 25) ?hr ?_; (case hd => rfl); (case hg => rfl); (case hr => first | (go_simp; done) | (go_simp; rfl)); intro gu hgg w1 hlit hb; have HLw1 := Aside0.mk hlit; have HKw1 := Aside0.mk hb; have HGw1 := Aside0.mk hgg; have HB1 := Aside0.mk hb; have HU1 := Aside0.mk hlit; have hu0 : w1.cell? ⟨gu, 0, none⟩ = some (.slice Ag G.length cg) := (blk_cell HU1.out 0).trans rfl; have hu1 : w1.cell? ⟨gu, 1, none⟩ = some (.slice Aa A.length ca) := (blk_cell HU1.out 1).trans rfl; have hu2 : w1.cell? ⟨gu, 2, none⟩ = some (.int .i64 m) := (blk_cell HU1.out 2).trans rfl; have hu3 : w1.cell? ⟨gu, 3, none⟩ = some (.slice At cs.length ct) := (blk_cell HU1.out 3).trans rfl; clear hlit hb hgg) | (go_at_call 52; (with_reducible refine (in8_calls _ _ _).mono ?_); rintro e w2 ⟨rfl, hd⟩; have HB2 := Aside0.mk (below_on HB1.out hd.below); have HU2 := Aside0.mk (below_read hd.below HU1.out); clear hd hu0 hu1 hu2 hu3; have hu0 : w2.cell? ⟨gu, 0, none⟩ = some (.slice Ag G.length cg) := (blk_cell HU2.out 0).trans rfl; have hu1 : w2.cell? ⟨gu, 1, none⟩ = some (.slice Aa A.length ca) := (blk_cell HU2.out 1).trans rfl; have hu2 : w2.cell? ⟨gu, 2, none⟩ = some (.int .i64 m) := (blk_cell HU2.out 2).trans rfl; have hu3 : w2.cell? ⟨gu, 3, none⟩ = some (.slice At cs.length ct) := (blk_cell HU2.out 3).trans rfl))
            go_loopg [3] G.length (fun gg s3 wr => ∃ i : Nat, i ≤ G.length ∧ G.length - i ≤ gg ∧ s3 = .int .i64 i ∧ Aside0 (Below w2.heap.size w2 wr ∧ ∀ j, (hj : j < G.length) → j < i → fitsB G[j] = true))
            case atStart => exact ⟨0, Nat.zero_le _, by omega, rfl, ⟨Below.refl _ _, fun j _ hj => absurd hj (Nat.not_lt_zero _)⟩⟩
            case round =>
              clear hu0 hu1 hu2 hu3
              obtain ⟨i, hi, hgi, rfl, HI⟩ := hrel
              generalize wr = wa at *
              have hu0 : wa.cell? ⟨gu, 0, none⟩ = some (.slice Ag G.length cg) := (blk_cell (below_read HI.out.1 HU2.out) 0).trans rfl
              by_cases hlt : i < G.length
              · have hltz : (i : Int) < (G.length : Int) := by omega
                obtain ⟨ad, rfl, hc⟩ := Kd.at_int (Kd.C_below HG.out (below_on HB2.out HI.out.1)) (i : Int) (by omega) hltz
                rw [Int.toNat_natCast, rd_g G i hlt] at hc
                cases hf : fitsB G[i] with
                | false =>
                  have HNO : Aside0 (isB G A m cs = false) := ⟨by rw [HIS.out, all_no _ G i hlt hf]; rfl⟩
                  generalize G[i] = x at *
                  go_wp2_with (go_at_call 53; (with_reducible refine (fit8_calls _ _).mono ?_); rintro e w3 ⟨rfl, hd⟩; have HB3 := Aside0.mk (below_on HI.out.1 hd.below); clear hd)
                  go_ret
                  exact ⟨ret_bb HNO.out, below_on HB2.out HB3.out⟩
                | true =>
                  have HNX := Aside0.mk (all_next HI.out.2 hlt hf)
                  generalize G[i] = x at hc hf
                  go_wp2_with (go_at_call 53; (with_reducible refine (fit8_calls _ _).mono ?_); rintro e w3 ⟨rfl, hd⟩; have HB3 := Aside0.mk (below_on HI.out.1 hd.below); clear hd)
                  go_roundg (G.length - (i + 1))
                  case measure => omega
                  case rel => exact ⟨i + 1, by omega, by omega, by go_num, ⟨HB3.out, HNX.out⟩⟩
              · have hltz : ¬ (i : Int) < (G.length : Int) := by omega
                have HFG := Aside0.mk (all_yes _ G (fun j hj => HI.out.2 j hj (by omega)))
                have HBa := Aside0.mk HI.out.1
                clear HI
                go_wp2_with fail
                go_loopg [4] A.length (fun gg s4 wr => ∃ i : Nat, i ≤ A.length ∧ A.length - i ≤ gg ∧ s4 = .int .i64 i ∧ Aside0 (Below w2.heap.size w2 wr ∧ ∀ j, (hj : j < A.length) → j < i → sizeB A[j] = true))
                case atStart => exact ⟨0, Nat.zero_le _, by omega, rfl, ⟨HBa.out, fun j _ hj => absurd hj (Nat.not_lt_zero _)⟩⟩
                case round =>
                  clear hu0 HBa hlt hltz hgi hi
                  obtain ⟨i, hi, hgi, rfl, HI⟩ := hrel
                  generalize wr = wb at *
                  have hu1 : wb.cell? ⟨gu, 1, none⟩ = some (.slice Aa A.length ca) := (blk_cell (below_read HI.out.1 HU2.out) 1).trans rfl
                  by_cases hlt : i < A.length
                  · have hltz : (i : Int) < (A.length : Int) := by omega
                    obtain ⟨ad, rfl, hc⟩ := Kd.at_int (Kd.C_below HA.out (below_on HB2.out HI.out.1)) (i : Int) (by omega) hltz
                    rw [Int.toNat_natCast, rd_g A i hlt] at hc
                    rcases (by omega : A[i] < 1 ∨ (¬ A[i] < 1 ∧ 16 < A[i]) ∨ (¬ A[i] < 1 ∧ ¬ 16 < A[i])) with q | ⟨p, q⟩ | ⟨p, q⟩
                    · have HNO : Aside0 (isB G A m cs = false) := ⟨by rw [HIS.out, HFG.out, all_no _ A i hlt (by unfold sizeB; rw [decide_eq_false (by omega)]; rfl)]; rfl⟩
                      generalize A[i] = x at *
                      go_wp2_with fail
                      go_ret
                      exact ⟨ret_bb HNO.out, below_on HB2.out HI.out.1⟩
                    · have HNO : Aside0 (isB G A m cs = false) := ⟨by rw [HIS.out, HFG.out, all_no _ A i hlt (by unfold sizeB; rw [decide_eq_false (show ¬ A[i] ≤ 16 by omega), Bool.and_false])]; rfl⟩
                      generalize A[i] = x at *
                      go_wp2_with fail
                      go_ret
                      exact ⟨ret_bb HNO.out, below_on HB2.out HI.out.1⟩
                    · have HNX := Aside0.mk (all_next HI.out.2 hlt (by unfold sizeB; rw [decide_eq_true (show 1 ≤ A[i] by omega), decide_eq_true (show A[i] ≤ 16 by omega)]; rfl))
                      generalize A[i] = x at hc p q
                      go_wp2_with fail
                      go_roundg (A.length - (i + 1))
                      case measure => omega
                      case rel => exact ⟨i + 1, by omega, by omega, by go_num, ⟨HI.out.1, HNX.out⟩⟩
                  · have hltz : ¬ (i : Int) < (A.length : Int) := by omega
                    have HFA := Aside0.mk (all_yes _ A (fun j hj => HI.out.2 j hj (by omega)))
                    have HBb := Aside0.mk HI.out.1
                    clear HI
                    go_wp2_with fail
                    go_loopg [5] cs.length (fun gg s5 wr => ∃ i : Nat, i ≤ cs.length ∧ cs.length - i ≤ gg ∧ s5 = .int .i64 i ∧ Aside0 (Below w2.heap.size w2 wr ∧ ∀ j, (hj : j < cs.length) → j < i → codeB G.length A.length m cs[j] = true))
                    case atStart => exact ⟨0, Nat.zero_le _, by omega, rfl, ⟨HBb.out, fun j _ hj => absurd hj (Nat.not_lt_zero _)⟩⟩
                    case round =>
                      clear hu1 HBb hlt hltz hgi hi
                      obtain ⟨i, hi, hgi, rfl, HI⟩ := hrel
                      generalize wr = wc at *
                      have hu3 : wc.cell? ⟨gu, 3, none⟩ = some (.slice At cs.length ct) := (blk_cell (below_read HI.out.1 HU2.out) 3).trans rfl
                      by_cases hlt : i < cs.length
                      · have hltz : (i : Int) < (cs.length : Int) := by omega
                        obtain ⟨adT, Ac, cc, rfl, hc0, hc1, hlc, hCk⟩ := at_T49 (Kd.C_below HT.out (below_on HB2.out HI.out.1)) (i : Int) (by omega) hltz
                        rw [Int.toNat_natCast, rd49_g cs i hlt] at hc0 hc1
                        rw [rd49_g cs i hlt] at hlc hCk
                        have HNOc : Aside0 (codeB G.length A.length m cs[i] = false → isB G A m cs = false) := ⟨fun h => by rw [HIS.out, HFG.out, HFA.out, all_no _ cs i hlt h]; rfl⟩
                        have HNXc : Aside0 (codeB G.length A.length m cs[i] = true → ∀ j, (hj : j < cs.length) → j < i + 1 → codeB G.length A.length m cs[j] = true) := ⟨fun h => all_next HI.out.2 hlt h⟩
                        generalize cs[i] = c at *
                        obtain ⟨nv, acts⟩ := c
                        simp only at hc0 hc1 hlc hCk
                        have HCK := Aside0.mk hCk
                        have HLC := Aside0.mk hlc
                        clear hCk hlc
                        go_wp2_with (first | ((with_reducible refine gate_dst (N := 6) rfl ?_); refine box_event ?hg (N := 6) ?hd (cs := #[.int .i64 0, .slice none 0 0]) (t := 49) ?hr ?_; (case hd => rfl); (case hg => rfl); (case hr => first | (go_simp; done) | (go_simp; rfl)); intro g6 hgg w3 hlit hb; have HLw3 := Aside0.mk hlit; have HKw3 := Aside0.mk hb; have HGw3 := Aside0.mk hgg; have HB3 := Aside0.mk (below_on HI.out.1 hb); clear hlit hb hgg) | ((with_reducible refine gate_store (t := 49) (p := 6) rfl ?_); refine put_row ?hg ?hn 49 (.tmp 6) (.tmp 83) ?ho g6 49 _ (#[.int .i64 nv, .slice Ac acts.length cc]) ?hp ?hx ?hu HLw3.out ?ht ?hs ?h1 ?_; (case hg => rfl); (case hn => rfl); (case ho => rfl); (case hp => rfl); (case hx => rfl); (case hu => rfl); (case ht => kernel_rfl); (case hs => rfl); (case h1 => exact c49_o _ _ _ _); intro w4 hlit hg; have HLw4 := Aside0.mk hlit; have HB4 := Aside0.mk (HB3.out.grown hg HB3.out.size (fun q hq => by injection hq with hq; rw [← hq, HGw3.out]; exact HI.out.1.size)); have HBc4 := Aside0.mk (show Below wc.heap.size wc w4 from HKw3.out.grown hg HKw3.out.size (fun q hq => by injection hq with hq; rw [← hq, HGw3.out]; exact Nat.le_refl _)); have hk0 := (blk_cell hlit 0).trans rfl; have hk1 := (blk_cell hlit 1).trans rfl; clear hlit hg))
                        cases k1 : in8 nv 41 with
                        | false =>
                          have K1 := Aside0.mk k1
                          have HNO := Aside0.mk (HNOc.out (by unfold codeB; rw [K1.out]; rfl))
                          go_wp2_with (go_at_call 52; (with_reducible refine (in8_calls _ _ _).mono ?_); rintro e w5 ⟨rfl, hd⟩; have HB5 := Aside0.mk (below_on HB4.out hd.below); have HL5 := Aside0.mk (below_read hd.below HLw4.out); clear hd hk0 hk1; have hk0 := (blk_cell HL5.out 0).trans rfl; have hk1 := (blk_cell HL5.out 1).trans rfl)
                          go_ret
                          exact ⟨ret_bb HNO.out, below_on HB2.out HB5.out⟩
                        | true =>
                          have K1 := Aside0.mk k1
                          by_cases k2 : 1 ≤ acts.length
                          · have q2 : ¬ (acts.length : Int) < 1 := by omega
                            by_cases k3 : acts.length ≤ 60
                            · have q3 : ¬ (60 : Int) < (acts.length : Int) := by omega
                              obtain ⟨al, e, ha0, -⟩ := at_T33 (Kd.C_below (Kd.C_below HCK.out (Below.refl _ _)) (show Below wc.heap.size wc w4 from HBc4.out)) ((acts.length : Int) - 1) (by omega) (by omega)
                              rw [show ((acts.length : Int) - 1).toNat = acts.length - 1 by omega] at ha0
                              subst e
                              have HP0 := Aside0.mk ha0
                              have ha5 : (1 : Int) ≤ (acts.length : Int) := by omega
                              have ha6 : (acts.length : Int) ≤ 60 := by omega
                              clear ha0
                              by_cases k4 : (rd_T33 acts ((acts.length : Int) - 1)).f0 = 14
                              · have q4 : ((rd_T33 acts ((acts.length : Int) - 1)).f0 != 14) = false := by rw [k4]; rfl
                                have HCB : Aside0 (codeB G.length A.length m ⟨nv, acts⟩ = acts.all (actB G.length A.length m nv acts.length)) := ⟨by unfold codeB; rw [K1.out, decide_eq_true k2, decide_eq_true k3, k4]; simp⟩
                                clear k4
                                generalize (rd_T33 acts ((acts.length : Int) - 1)).f0 = z at *
                                have hz0 := HP0.out
                                go_wp2_with (go_at_call 52; (with_reducible refine (in8_calls _ _ _).mono ?_); rintro e w5 ⟨rfl, hd⟩; have HB5 := Aside0.mk (below_on HB4.out hd.below); have HL5 := Aside0.mk (below_read hd.below HLw4.out); have hdb := hd.below; clear hd hk0 hk1; have hk0 := (blk_cell HL5.out 0).trans rfl; have hk1 := (blk_cell HL5.out 1).trans rfl; have HB45 := Aside0.mk hdb; replace hz0 := pw_cell_below hdb hz0; clear hdb)
                                clear hz0
                                go_loopg [8] acts.length (fun gg s8 wr => ∃ k : Nat, k ≤ acts.length ∧ acts.length - k ≤ gg ∧ s8 = .int .i64 k ∧ Aside0 (Below w5.heap.size w5 wr ∧ ∀ j, (hj : j < acts.length) → j < k → actB G.length A.length m nv acts.length acts[j] = true))
                                case atStart => exact ⟨0, Nat.zero_le _, by omega, rfl, ⟨Below.refl _ _, fun j _ hj => absurd hj (Nat.not_lt_zero _)⟩⟩
                                case round =>
                                  clear hk0 hk1
                                  obtain ⟨k, hk, hgk, rfl, HK⟩ := hrel
                                  generalize wr = wd at *
                                  by_cases hkl : k < acts.length
                                  · have hklz : (k : Int) < (acts.length : Int) := by omega
                                    obtain ⟨al', e, hy0, hy1, hy2, hy3, hy4, hy5, hy6, hy7, hy8⟩ := at_T33 (Kd.C_below HCK.out (show Below wc.heap.size wc wd from below_on HBc4.out (below_on HB45.out HK.out.1))) (k : Int) (by omega) hklz
                                    cases e
                                    rw [Int.toNat_natCast, rd33_g acts k hkl] at hy0 hy1 hy2 hy3 hy4 hy5 hy6 hy7 hy8
                                    have hk0 := (blk_cell (below_read HK.out.1 HL5.out) 0).trans rfl
                                    have hk1 := (blk_cell (below_read HK.out.1 HL5.out) 1).trans rfl
                                    have hu0 := (blk_cell (below_read (below_on HB5.out HK.out.1) HU2.out) 0).trans rfl
                                    have hu1 := (blk_cell (below_read (below_on HB5.out HK.out.1) HU2.out) 1).trans rfl
                                    have hu2 := (blk_cell (below_read (below_on HB5.out HK.out.1) HU2.out) 2).trans rfl
                                    have hu3 := (blk_cell (below_read (below_on HB5.out HK.out.1) HU2.out) 3).trans rfl
                                    obtain ⟨b, hb⟩ : ∃ b, actB G.length A.length m nv acts.length acts[k] = b := ⟨_, rfl⟩
                                    have HAC := Aside0.mk (fun (W : World) => act_calls W Ag G.length cg Aa A.length ca m (some adT) cs.length ct nv (some al) acts.length cc acts[k])
                                    rw [hb] at HAC
                                    have HBB := Aside0.mk hb
                                    have HNO2 : Aside0 (b = false → isB G A m cs = false) := ⟨fun h => HNOc.out (by rw [HCB.out]; exact all_no _ acts k hkl (by rw [HBB.out, h]))⟩
                                    have HNX2 : Aside0 (b = true → ∀ j, (hj : j < acts.length) → j < k + 1 → actB G.length A.length m nv acts.length acts[j] = true) := ⟨fun h => all_next HK.out.2 hkl (by rw [HBB.out, h])⟩
                                    clear hb HBB
                                    generalize acts[k] = y at *
                                    go_wp2_with fail
                                    go_still_tail 7, (by kernel_rfl)
                                    (change wpList _ _ _ _ _ wd.drew)
                                    cases b with
                                    | false =>
                                      have HNO := Aside0.mk (HNO2.out rfl)
                                      go_wp2_with (go_at_call 54; (refine (HAC.out _).mono ?_); rintro e w6 ⟨rfl, hb⟩; have HB6 := Aside0.mk (below_on (below_drew HK.out.1) hb); clear hb)
                                      go_ret
                                      exact ⟨ret_bb HNO.out, below_on HB2.out (below_on HB5.out HB6.out)⟩
                                    | true =>
                                      go_wp2_with (go_at_call 54; (refine (HAC.out _).mono ?_); rintro e w6 ⟨rfl, hb⟩; have HB6 := Aside0.mk (below_on (below_drew HK.out.1) hb); clear hb)
                                      go_roundg (acts.length - (k + 1))
                                      case measure => omega
                                      case rel => exact ⟨k + 1, by omega, by omega, by go_num, ⟨HB6.out, HNX2.out (by trivial)⟩⟩
                                  · have hklz : ¬ (k : Int) < (acts.length : Int) := by omega
                                    have HYC := Aside0.mk (HNXc.out (by rw [HCB.out]; exact all_yes _ acts (fun j hj => HK.out.2 j hj (by omega))))
                                    go_wp2_with fail
                                    go_roundg (cs.length - (i + 1))
                                    case measure => omega
                                    case rel => exact ⟨i + 1, by omega, by omega, by go_num, ⟨below_on HB5.out HK.out.1, HYC.out⟩⟩
                              · have q4 : ((rd_T33 acts ((acts.length : Int) - 1)).f0 != 14) = true := by simp [k4]
                                have K4 := Aside0.mk k4
                                clear k4
                                have HNO := Aside0.mk (HNOc.out (by unfold codeB; rw [beq_eq_false_iff_ne.mpr K4.out]; simp))
                                clear K4
                                generalize (rd_T33 acts ((acts.length : Int) - 1)).f0 = z at *
                                have hz0 := HP0.out
                                go_wp2_with (go_at_call 52; (with_reducible refine (in8_calls _ _ _).mono ?_); rintro e w5 ⟨rfl, hd⟩; have HB5 := Aside0.mk (below_on HB4.out hd.below); have HL5 := Aside0.mk (below_read hd.below HLw4.out); have hdb := hd.below; clear hd hk0 hk1; have hk0 := (blk_cell HL5.out 0).trans rfl; have hk1 := (blk_cell HL5.out 1).trans rfl; have HB45 := Aside0.mk hdb; replace hz0 := pw_cell_below hdb hz0; clear hdb)
                                go_ret
                                exact ⟨ret_bb HNO.out, below_on HB2.out HB5.out⟩
                            · have q3 : (60 : Int) < (acts.length : Int) := by omega
                              have HNO := Aside0.mk (HNOc.out (by unfold codeB; rw [decide_eq_false k3]; simp))
                              go_wp2_with (go_at_call 52; (with_reducible refine (in8_calls _ _ _).mono ?_); rintro e w5 ⟨rfl, hd⟩; have HB5 := Aside0.mk (below_on HB4.out hd.below); have HL5 := Aside0.mk (below_read hd.below HLw4.out); clear hd hk0 hk1; have hk0 := (blk_cell HL5.out 0).trans rfl; have hk1 := (blk_cell HL5.out 1).trans rfl)
                              go_ret
                              exact ⟨ret_bb HNO.out, below_on HB2.out HB5.out⟩
                          · have q2 : (acts.length : Int) < 1 := by omega
                            have HNO := Aside0.mk (HNOc.out (by unfold codeB; rw [decide_eq_false k2]; simp))
                            go_wp2_with (go_at_call 52; (with_reducible refine (in8_calls _ _ _).mono ?_); rintro e w5 ⟨rfl, hd⟩; have HB5 := Aside0.mk (below_on HB4.out hd.below); have HL5 := Aside0.mk (below_read hd.below HLw4.out); clear hd hk0 hk1; have hk0 := (blk_cell HL5.out 0).trans rfl; have hk1 := (blk_cell HL5.out 1).trans rfl)
                            go_ret
                            exact ⟨ret_bb HNO.out, below_on HB2.out HB5.out⟩
                      · have hltz : ¬ (i : Int) < (cs.length : Int) := by omega
                        have HYES : Aside0 (isB G A m cs = true) := ⟨by rw [HIS.out, HFG.out, HFA.out, all_yes _ cs (fun j hj => HI.out.2 j hj (by omega))]; rfl⟩
                        go_wp2_with fail
                        go_ret
                        exact ⟨ret_bb HYES.out, below_on HB2.out HI.out.1⟩
          · have g5 : (4 : Int) < (cs.length : Int) := by omega
            have HNO : Aside0 (isB G A m cs = false) := ⟨by unfold isB; rw [decide_eq_false h5]; simp⟩
            go_enter Try.func39, Try.ntmps39
            go_wp2_with (first | ((with_reducible refine gate_dst (N := 1) rfl ?_); refine box_event ?hg (N := 1) ?hd (cs := #[.slice Ag G.length cg, .slice Aa A.length ca, .int .i64 m, .slice At cs.length ct]) (t := 25) ?hr ?_; (case hd => rfl); (case hg => rfl); (case hr => first | (go_simp; done) | (go_simp; rfl)); intro gu hgg w1 hlit hb; have HLw1 := Aside0.mk hlit; have HKw1 := Aside0.mk hb; have HGw1 := Aside0.mk hgg; have HB1 := Aside0.mk hb; have HU1 := Aside0.mk hlit; have hu0 : w1.cell? ⟨gu, 0, none⟩ = some (.slice Ag G.length cg) := (blk_cell HU1.out 0).trans rfl; have hu1 : w1.cell? ⟨gu, 1, none⟩ = some (.slice Aa A.length ca) := (blk_cell HU1.out 1).trans rfl; have hu2 : w1.cell? ⟨gu, 2, none⟩ = some (.int .i64 m) := (blk_cell HU1.out 2).trans rfl; have hu3 : w1.cell? ⟨gu, 3, none⟩ = some (.slice At cs.length ct) := (blk_cell HU1.out 3).trans rfl; clear hlit hb hgg) | (go_at_call 52; (with_reducible refine (in8_calls _ _ _).mono ?_); rintro e w2 ⟨rfl, hd⟩; have HB2 := Aside0.mk (below_on HB1.out hd.below); have HU2 := Aside0.mk (below_read hd.below HU1.out); clear hd hu0 hu1 hu2 hu3; have hu0 : w2.cell? ⟨gu, 0, none⟩ = some (.slice Ag G.length cg) := (blk_cell HU2.out 0).trans rfl; have hu1 : w2.cell? ⟨gu, 1, none⟩ = some (.slice Aa A.length ca) := (blk_cell HU2.out 1).trans rfl; have hu2 : w2.cell? ⟨gu, 2, none⟩ = some (.int .i64 m) := (blk_cell HU2.out 2).trans rfl; have hu3 : w2.cell? ⟨gu, 3, none⟩ = some (.slice At cs.length ct) := (blk_cell HU2.out 3).trans rfl))
            go_ret
            exact ⟨ret_bb HNO.out, HB2.out⟩
        · have g4 : (cs.length : Int) < 1 := by omega
          have HNO : Aside0 (isB G A m cs = false) := ⟨by unfold isB; rw [decide_eq_false h4]; simp⟩
          go_enter Try.func39, Try.ntmps39
          go_wp2_with (first | ((with_reducible refine gate_dst (N := 1) rfl ?_); refine box_event ?hg (N := 1) ?hd (cs := #[.slice Ag G.length cg, .slice Aa A.length ca, .int .i64 m, .slice At cs.length ct]) (t := 25) ?hr ?_; (case hd => rfl); (case hg => rfl); (case hr => first | (go_simp; done) | (go_simp; rfl)); intro gu hgg w1 hlit hb; have HLw1 := Aside0.mk hlit; have HKw1 := Aside0.mk hb; have HGw1 := Aside0.mk hgg; have HB1 := Aside0.mk hb; have HU1 := Aside0.mk hlit; have hu0 : w1.cell? ⟨gu, 0, none⟩ = some (.slice Ag G.length cg) := (blk_cell HU1.out 0).trans rfl; have hu1 : w1.cell? ⟨gu, 1, none⟩ = some (.slice Aa A.length ca) := (blk_cell HU1.out 1).trans rfl; have hu2 : w1.cell? ⟨gu, 2, none⟩ = some (.int .i64 m) := (blk_cell HU1.out 2).trans rfl; have hu3 : w1.cell? ⟨gu, 3, none⟩ = some (.slice At cs.length ct) := (blk_cell HU1.out 3).trans rfl; clear hlit hb hgg) | (go_at_call 52; (with_reducible refine (in8_calls _ _ _).mono ?_); rintro e w2 ⟨rfl, hd⟩; have HB2 := Aside0.mk (below_on HB1.out hd.below); have HU2 := Aside0.mk (below_read hd.below HU1.out); clear hd hu0 hu1 hu2 hu3; have hu0 : w2.cell? ⟨gu, 0, none⟩ = some (.slice Ag G.length cg) := (blk_cell HU2.out 0).trans rfl; have hu1 : w2.cell? ⟨gu, 1, none⟩ = some (.slice Aa A.length ca) := (blk_cell HU2.out 1).trans rfl; have hu2 : w2.cell? ⟨gu, 2, none⟩ = some (.int .i64 m) := (blk_cell HU2.out 2).trans rfl; have hu3 : w2.cell? ⟨gu, 3, none⟩ = some (.slice At cs.length ct) := (blk_cell HU2.out 3).trans rfl))
          go_ret
          exact ⟨ret_bb HNO.out, HB2.out⟩
    · have g2 : (3 : Int) < (A.length : Int) := by omega
      have HNO : Aside0 (isB G A m cs = false) := ⟨by unfold isB; rw [decide_eq_false h2]; simp⟩
      go_enter Try.func39, Try.ntmps39
      go_wp2_with (first | ((with_reducible refine gate_dst (N := 1) rfl ?_); refine box_event ?hg (N := 1) ?hd (cs := #[.slice Ag G.length cg, .slice Aa A.length ca, .int .i64 m, .slice At cs.length ct]) (t := 25) ?hr ?_; (case hd => rfl); (case hg => rfl); (case hr => first | (go_simp; done) | (go_simp; rfl)); intro gu hgg w1 hlit hb; have HLw1 := Aside0.mk hlit; have HKw1 := Aside0.mk hb; have HGw1 := Aside0.mk hgg; have HB1 := Aside0.mk hb; have HU1 := Aside0.mk hlit; have hu0 : w1.cell? ⟨gu, 0, none⟩ = some (.slice Ag G.length cg) := (blk_cell HU1.out 0).trans rfl; have hu1 : w1.cell? ⟨gu, 1, none⟩ = some (.slice Aa A.length ca) := (blk_cell HU1.out 1).trans rfl; have hu2 : w1.cell? ⟨gu, 2, none⟩ = some (.int .i64 m) := (blk_cell HU1.out 2).trans rfl; have hu3 : w1.cell? ⟨gu, 3, none⟩ = some (.slice At cs.length ct) := (blk_cell HU1.out 3).trans rfl; clear hlit hb hgg) | (go_at_call 52; (with_reducible refine (in8_calls _ _ _).mono ?_); rintro e w2 ⟨rfl, hd⟩; have HB2 := Aside0.mk (below_on HB1.out hd.below); have HU2 := Aside0.mk (below_read hd.below HU1.out); clear hd hu0 hu1 hu2 hu3; have hu0 : w2.cell? ⟨gu, 0, none⟩ = some (.slice Ag G.length cg) := (blk_cell HU2.out 0).trans rfl; have hu1 : w2.cell? ⟨gu, 1, none⟩ = some (.slice Aa A.length ca) := (blk_cell HU2.out 1).trans rfl; have hu2 : w2.cell? ⟨gu, 2, none⟩ = some (.int .i64 m) := (blk_cell HU2.out 2).trans rfl; have hu3 : w2.cell? ⟨gu, 3, none⟩ = some (.slice At cs.length ct) := (blk_cell HU2.out 3).trans rfl))
      go_ret
      exact ⟨ret_bb HNO.out, HB1.out⟩
  · have g1 : (6 : Int) < (G.length : Int) := by omega
    have HNO : Aside0 (isB G A m cs = false) := ⟨by unfold isB; rw [decide_eq_false h1]; simp⟩
    go_enter Try.func39, Try.ntmps39
    go_wp2_with (first | ((with_reducible refine gate_dst (N := 1) rfl ?_); refine box_event ?hg (N := 1) ?hd (cs := #[.slice Ag G.length cg, .slice Aa A.length ca, .int .i64 m, .slice At cs.length ct]) (t := 25) ?hr ?_; (case hd => rfl); (case hg => rfl); (case hr => first | (go_simp; done) | (go_simp; rfl)); intro gu hgg w1 hlit hb; have HLw1 := Aside0.mk hlit; have HKw1 := Aside0.mk hb; have HGw1 := Aside0.mk hgg; have HB1 := Aside0.mk hb; have HU1 := Aside0.mk hlit; have hu0 : w1.cell? ⟨gu, 0, none⟩ = some (.slice Ag G.length cg) := (blk_cell HU1.out 0).trans rfl; have hu1 : w1.cell? ⟨gu, 1, none⟩ = some (.slice Aa A.length ca) := (blk_cell HU1.out 1).trans rfl; have hu2 : w1.cell? ⟨gu, 2, none⟩ = some (.int .i64 m) := (blk_cell HU1.out 2).trans rfl; have hu3 : w1.cell? ⟨gu, 3, none⟩ = some (.slice At cs.length ct) := (blk_cell HU1.out 3).trans rfl; clear hlit hb hgg) | (go_at_call 52; (with_reducible refine (in8_calls _ _ _).mono ?_); rintro e w2 ⟨rfl, hd⟩; have HB2 := Aside0.mk (below_on HB1.out hd.below); have HU2 := Aside0.mk (below_read hd.below HU1.out); clear hd hu0 hu1 hu2 hu3; have hu0 : w2.cell? ⟨gu, 0, none⟩ = some (.slice Ag G.length cg) := (blk_cell HU2.out 0).trans rfl; have hu1 : w2.cell? ⟨gu, 1, none⟩ = some (.slice Aa A.length ca) := (blk_cell HU2.out 1).trans rfl; have hu2 : w2.cell? ⟨gu, 2, none⟩ = some (.int .i64 m) := (blk_cell HU2.out 2).trans rfl; have hu3 : w2.cell? ⟨gu, 3, none⟩ = some (.slice At cs.length ct) := (blk_cell HU2.out 3).trans rfl))
    go_ret
    exact ⟨ret_bb HNO.out, HB1.out⟩
def meddlerref8_Is.f (_k : Nat) (G A : List Int) (m : Int) (cs : List S49) : Option Bool := some (isB G A m cs)
theorem meddlerref8_Is.mono : ∀ a0 a1 a2 a3 k, LeO (meddlerref8_Is.f k a0 a1 a2 a3) (meddlerref8_Is.f (k + 1) a0 a1 a2 a3) := fun _ _ _ _ _ => LeO.refl _
theorem meddlerref8_Is.calls (k : Nat) (A0_0 : Option Addr) (c0_0 : Nat) (l0_0 : List Int) (A0_1 : Option Addr) (c0_1 : Nat) (l0_1 : List Int) (a0_2 : Int) (A0_3 : Option Addr) (c0_3 : Nat) (l0_3 : List (S49)) (r : Bool) (w : World) (hr0_0 : Kd.C (Kd.int .i64) w A0_0 l0_0.length l0_0) (hc0_0 : l0_0.length ≤ c0_0) (hr0_1 : Kd.C (Kd.int .i64) w A0_1 l0_1.length l0_1) (hc0_1 : l0_1.length ≤ c0_1) (hr0_3 : Kd.C k49 w A0_3 l0_3.length l0_3) (hc0_3 : l0_3.length ≤ c0_3) (h : meddlerref8_Is.f k l0_0 l0_1 a0_2 l0_3 = some r) :
    Calls Try.prog 39 #[.agg #[.slice A0_0 l0_0.length c0_0, .slice A0_1 l0_1.length c0_1, .int .i64 a0_2, .slice A0_3 l0_3.length c0_3]] w fun e w' => e = .returned (.bool r) ∧ Below w.heap.size w w' := by
  obtain rfl : isB l0_0 l0_1 a0_2 l0_3 = r := Option.some.inj h
  exact is8_calls w A0_0 c0_0 l0_0 A0_1 c0_1 l0_1 a0_2 A0_3 c0_3 l0_3 hr0_0 hc0_0 hr0_1 hc0_1 hr0_3 hc0_3
end Go.Proofs.Ytikjamcemnbhbaa.Mr
