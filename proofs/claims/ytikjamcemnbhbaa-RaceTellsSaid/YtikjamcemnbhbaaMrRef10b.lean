/- meddlerref10.Pairs answers as race.Pairs. -/
import Derived.Test.YtikjamcemnbhbaaMrRef10a
import Derived.Test.YtikjamcemnbhbaaMrRef9s
import Derived.Test.YtikjamcemnbhbaaMrPkD
namespace Go.Proofs.Ytikjamcemnbhbaa.Mr
open Go.RowKit Go.Proofs.YtikjamcemnbhbaaW.PrintWords Go.Proofs.YtikjamcemnbhbaaW.PrintLast
set_option linter.unusedVariables false
set_option linter.unusedSimpArgs false
theorem next_shape3 (cs : List S49) (s : St) (t : Int) : ∃ (y0 y1 y2 y3 y4 y5 y6 y7 y8 : Int) (b : Bool), nxtV (nxt cs s t) = .tuple #[.agg #[.int .i64 y0, .int .i64 y1, .int .i64 y2, .int .i64 y3, .int .i64 y4, .int .i64 y5, .int .i64 y6, .int .i64 y7, .int .i64 y8], .bool b] ∧ (b = false → nxt cs s t = none) ∧ (b = true → nxt cs s t = some ⟨y0, y1, y2, y3, y4, y5, y6, y7, y8⟩) := by
  cases h : nxt cs s t with
  | none => exact ⟨0, 0, 0, 0, 0, 0, 0, 0, 0, false, rfl, fun _ => rfl, fun h => by cases h⟩
  | some a => exact ⟨a.f0, a.f1, a.f2, a.f3, a.f4, a.f5, a.f6, a.f7, a.f8, true, rfl, fun h => (by cases h), fun _ => rfl⟩
theorem mtP_no {cs : List S49} {s : St} {i k : Nat} (h : nxt cs s i = none ∨ nxt cs s k = none) : mtP cs s i k = false := by
  unfold mtP tchP
  rcases h with h | h
  · rw [h]; rfl
  · rw [h]
    cases nxt cs s i with
    | none => rfl
    | some a => show meetP (tchA s i a) none = false; cases tchA s i a <;> rfl
theorem fp_x {cs : List S49} {nA : Nat} {s : St} (W : Wf cs nA s) {i : Int} {a : S33} (h : nxt cs s i = some a) (hf : isFP a.f0 = true) : 0 ≤ a.f2 ∧ a.f2 < (s.row (4 + 2 * i.toNat)).length := by
  obtain ⟨⟨h0, h1⟩, -, ha⟩ := nxt_some h
  have hok := (W.act i h0 h1).1
  rw [← ha] at hok
  refine hok.x ?_
  unfold isFP at hf
  rw [Bool.or_eq_true, beq_iff_eq, beq_iff_eq] at hf
  omega
theorem rmet_mtP {cs : List S49} {s : St} {i k : Nat} {a b : S33} (hi : nxt cs s i = some a) (hk : nxt cs s k = some b) : rmet s i a.f0 a.f2 a.f4 k b.f0 b.f2 b.f4 = mtP cs s i k := by
  unfold mtP tchP
  rw [hi, hk]
  show _ = meetP (tchA s i a) (tchA s k b)
  unfold rmet isLS isFP tchA
  generalize rd (s.row (4 + 2 * (i : Int).toNat)) a.f2 = x
  generalize rd (s.row (4 + 2 * (k : Int).toNat)) b.f2 = y
  generalize a.f4 = p
  generalize b.f4 = q
  by_cases a5 : a.f0 = 5
  · by_cases b5 : b.f0 = 5
    · simp [a5, b5, meetP]
    · by_cases b6 : b.f0 = 6
      · simp [a5, b6, meetP]
      · by_cases b7 : b.f0 = 7
        · simp [a5, b7, meetP]
        · by_cases b8 : b.f0 = 8
          · simp [a5, b8, meetP]
          · simp [a5, b5, b6, b7, b8, meetP]
  · by_cases a6 : a.f0 = 6
    · by_cases b5 : b.f0 = 5
      · simp [a6, b5, meetP]
      · by_cases b6 : b.f0 = 6
        · simp [a6, b6, meetP]
        · by_cases b7 : b.f0 = 7
          · simp [a6, b7, meetP]
          · by_cases b8 : b.f0 = 8
            · simp [a6, b8, meetP]
            · simp [a6, b5, b6, b7, b8, meetP]
    · by_cases a7 : a.f0 = 7
      · by_cases b5 : b.f0 = 5
        · simp [a7, b5, meetP]
        · by_cases b6 : b.f0 = 6
          · simp [a7, b6, meetP]
          · by_cases b7 : b.f0 = 7
            · simp [a7, b7, meetP]
            · by_cases b8 : b.f0 = 8
              · simp [a7, b8, meetP]
              · simp [a7, b5, b6, b7, b8, meetP]
      · by_cases a8 : a.f0 = 8
        · by_cases b5 : b.f0 = 5
          · simp [a8, b5, meetP]
          · by_cases b6 : b.f0 = 6
            · simp [a8, b6, meetP]
            · by_cases b7 : b.f0 = 7
              · simp [a8, b7, meetP]
              · by_cases b8 : b.f0 = 8
                · simp [a8, b8, meetP]
                · simp [a8, b5, b6, b7, b8, meetP]
        · simp [a5, a6, a7, a8, meetP]
set_option maxHeartbeats 8000000 in
set_option maxRecDepth 100000 in
theorem rpairs_n (w : World) {lo hi : Nat} {u : RefU} {pr : PhR} {cs : List S49} {nA : Nat} {s : St} (H : RefIn w lo hi u pr cs.length nA s) (W : Wf cs nA s) (OG : OwnGe s) (hT : Kd.C k49 w u.At cs.length cs) (hct : cs.length ≤ u.ct) (n : Int) (n0 : Nat) (hn1 : (n0 : Int) ≤ n) (hn2 : n0 ≤ cs.length) (hn3 : n ≤ n0 ∨ cs.length ≤ n0) (hn4 : n0 ≤ 4) :
    Calls Try.prog 38 #[.pointer (some ⟨pr.bm, 0, none⟩), .int .i64 n] w fun e w' => PairsOut (pairsL (mtP cs s) n0) w e w' := by
  have HX := Aside0.mk H
  have HW := Aside0.mk W
  have HOG := Aside0.mk OG
  have HT := Aside0.mk hT
  have HCT := Aside0.mk hct
  obtain ⟨f, hm, -⟩ := H.hm
  obtain ⟨A2, c2, e2⟩ := H.slice 2
  have hl2 : (rowR cs.length s 2).length = cs.length := by rw [rowR_pc]; simp
  rw [hl2] at e2
  unfold refC at hm
  rw [e2] at hm
  have HM := Aside0.mk hm
  clear H W OG hT hct hm e2 hl2
  go_enter Try.func38, Try.ntmps38
  go_wp2_with fail
  go_loopg [5, 6] n0 (fun gg s5 s6 wr => ∃ i : Nat, i ≤ n0 ∧ n0 - i ≤ gg ∧ s6 = .int .i64 i ∧ Aside0 (wr.ownsRow w.heap.size 69 2 s5 (outL (mtP cs s) n0 i).length (flat2 (outL (mtP cs s) n0 i)) ∧ Below w.heap.size w wr))
  case atStart => exact ⟨0, Nat.zero_le _, by omega, rfl, ⟨⟨rfl, .inl ⟨rfl, rfl⟩⟩, Below.refl _ _⟩⟩
  case round =>
    obtain ⟨i, hi, hgg, rfl, OW⟩ := hrel
    have hm4 : wr.cell? ⟨pr.bm, 4, none⟩ = some (.slice A2 cs.length c2) := (blk_cell (below_read OW.out.2 HM.out) 4).trans rfl
    by_cases hlt : i < n0
    · have hltz : (i : Int) < n := by omega
      have hltc : (i : Int) < (cs.length : Int) := by omega
      obtain ⟨A5, c5, e5⟩ := own2_slice OW.out.1
      rw [e5] at OW ⊢
      have HGG := Aside0.mk hgg
      clear e5 hgg
      go_wp2_with fail
      go_loopg [5, 7] n0 (fun gg s5 s7 wr => ∃ k : Nat, i < k ∧ k ≤ n0 ∧ n0 - k ≤ gg ∧ s7 = .int .i64 k ∧ Aside0 (wr.ownsRow w.heap.size 69 2 s5 (outL (mtP cs s) n0 i ++ row2 (mtP cs s) i k).length (flat2 (outL (mtP cs s) n0 i ++ row2 (mtP cs s) i k)) ∧ Below w.heap.size w wr))
      case atStart => exact ⟨i + 1, by omega, by omega, by omega, by go_num, ⟨by rw [row2_start, List.append_nil]; exact OW.out.1, OW.out.2⟩⟩
      case round =>
        clear OW hm4 hltz hltc
        obtain ⟨k, hik, hk, hgg, rfl, OQ⟩ := hrel
        have hm4 : wr.cell? ⟨pr.bm, 4, none⟩ = some (.slice A2 cs.length c2) := (blk_cell (below_read OQ.out.2 HM.out) 4).trans rfl
        by_cases hlq : k < n0
        · have hlqz : (k : Int) < n := by omega
          have hlqc : (k : Int) < (cs.length : Int) := by omega
          obtain ⟨A6, c6, e6⟩ := own2_slice OQ.out.1
          rw [e6] at OQ ⊢
          have HN := Aside0.mk (show (outL (mtP cs s) n0 i ++ row2 (mtP cs s) i k).length ≤ 20 by rw [List.length_append]; have h1 := outL_le (mtP cs s) n0 i; have h2 := row2_le (mtP cs s) i k; have h3 : i * n0 ≤ 4 * 4 := Nat.mul_le_mul (by omega) (by omega); omega)
          clear e6
          generalize hL : outL (mtP cs s) n0 i ++ row2 (mtP cs s) i k = l2 at OQ HN ⊢
          have HL := Aside0.mk hL
          clear hL
          obtain ⟨y0, y1, y2, y3, y4, y5, y6, y7, y8, b, hvy, hyn, hyy⟩ := next_shape3 cs s (i : Int)
          obtain ⟨z0, z1, z2, z3, z4, z5, z6, z7, z8, d, hvz, hzn, hzy⟩ := next_shape3 cs s (k : Int)
          have HVY := Aside0.mk hvy
          have HVZ := Aside0.mk hvz
          replace hyn := Aside0.mk hyn
          replace hyy := Aside0.mk hyy
          replace hzn := Aside0.mk hzn
          replace hzy := Aside0.mk hzy
          clear hvy hvz
          go_upto_region 10 with (first | (go_at_call 48; (with_reducible refine (rnext_calls wr (HX.out.below OQ.out.2) HW.out HOG.out (Kd.C_below HT.out OQ.out.2) HCT.out (i : Int) HVY.out).mono ?_); rintro e w1 ⟨rfl, hb⟩; have HD1 := Aside0.mk hb; have HB1 := Aside0.mk (below_on OQ.out.2 hb); clear hb) | ((with_reducible refine gate_dst (N := 8) rfl ?_); refine box_event ?hg (N := 8) ?hd (cs := #[.int .i64 0, .int .i64 0, .int .i64 0, .int .i64 0, .int .i64 0, .int .i64 0, .int .i64 0, .int .i64 0, .int .i64 0]) (t := 33) ?hr ?_; (case hd => rfl); (case hg => rfl); (case hr => first | (go_simp; done) | (go_simp; rfl)); intro g8 hgg w2 hlit hb; have HLw2 := Aside0.mk hlit; have HKw2 := Aside0.mk hb; have HGw2 := Aside0.mk hgg; have HD2 := Aside0.mk (below_on HD1.out hb); have HB2 := Aside0.mk (below_on HB1.out hb); clear hlit hb hgg) | ((with_reducible refine gate_store (t := 33) (p := 8) rfl ?_); refine put_row ?hg ?hn 33 (.tmp 8) (.tmp 46) ?ho g8 33 _ (#[.int .i64 y0, .int .i64 y1, .int .i64 y2, .int .i64 y3, .int .i64 y4, .int .i64 y5, .int .i64 y6, .int .i64 y7, .int .i64 y8]) ?hp ?hx ?hu HLw2.out ?ht ?hs ?h1 ?_; (case hg => rfl); (case hn => rfl); (case ho => rfl); (case hp => rfl); (case hx => rfl); (case hu => rfl); (case ht => kernel_rfl); (case hs => rfl); (case h1 => exact actC_one (⟨y0, y1, y2, y3, y4, y5, y6, y7, y8⟩ : S33)); intro w3 hlit hg; have HLw3 := Aside0.mk hlit; have HD3 := Aside0.mk (HD2.out.grown hg HD2.out.size (fun q hq => by injection hq with hq; rw [← hq, HGw2.out]; exact HD1.out.size)); have HB3 := Aside0.mk (HB2.out.grown hg HB2.out.size (fun q hq => by injection hq with hq; rw [← hq, HGw2.out]; exact HB1.out.size)); clear hlit hg) | (go_at_call 48; (with_reducible refine (rnext_calls w3 (HX.out.below HB3.out) HW.out HOG.out (Kd.C_below HT.out HB3.out) HCT.out (k : Int) HVZ.out).mono ?_); rintro e w4 ⟨rfl, hb⟩; have HF4 := Aside0.mk hb; have HD4 := Aside0.mk (below_on HD3.out hb); have HB4 := Aside0.mk (below_on HB3.out hb); clear hb) | ((with_reducible refine gate_dst (N := 10) rfl ?_); refine box_event ?hg (N := 10) ?hd (cs := #[.int .i64 0, .int .i64 0, .int .i64 0, .int .i64 0, .int .i64 0, .int .i64 0, .int .i64 0, .int .i64 0, .int .i64 0]) (t := 33) ?hr ?_; (case hd => rfl); (case hg => rfl); (case hr => first | (go_simp; done) | (go_simp; rfl)); intro g10 hgg w5 hlit hb; have HLw5 := Aside0.mk hlit; have HKw5 := Aside0.mk hb; have HGw5 := Aside0.mk hgg; have HF5 := Aside0.mk (below_on HF4.out hb); have HD5 := Aside0.mk (below_on HD4.out hb); have HB5 := Aside0.mk (below_on HB4.out hb); clear hlit hb hgg) | ((with_reducible refine gate_store (t := 33) (p := 10) rfl ?_); refine put_row ?hg ?hn 33 (.tmp 10) (.tmp 52) ?ho g10 33 _ (#[.int .i64 z0, .int .i64 z1, .int .i64 z2, .int .i64 z3, .int .i64 z4, .int .i64 z5, .int .i64 z6, .int .i64 z7, .int .i64 z8]) ?hp ?hx ?hu HLw5.out ?ht ?hs ?h1 ?_; (case hg => rfl); (case hn => rfl); (case ho => rfl); (case hp => rfl); (case hx => rfl); (case hu => rfl); (case ht => kernel_rfl); (case hs => rfl); (case h1 => exact actC_one (⟨z0, z1, z2, z3, z4, z5, z6, z7, z8⟩ : S33)); intro w6 hlit hg; have HLw6 := Aside0.mk hlit; have HF6 := Aside0.mk (HF5.out.grown hg HF5.out.size (fun q hq => by injection hq with hq; rw [← hq, HGw5.out]; exact HF4.out.size)); have HD6 := Aside0.mk (HD5.out.grown hg HD5.out.size (fun q hq => by injection hq with hq; rw [← hq, HGw5.out]; exact HD4.out.size)); have HB6 := Aside0.mk (HB5.out.grown hg HB5.out.size (fun q hq => by injection hq with hq; rw [← hq, HGw5.out]; exact HB4.out.size)); clear hlit hg))
          cases b with
          | false =>
            have HE := Aside0.mk (row2_no (i := i) (k := k) (mtP_no (.inl (hyn.out rfl))))
            clear hyn hyy hzn hzy
            go_wp2_with fail
            go_roundg (n0 - (k + 1))
            case measure => omega
            case rel => exact ⟨k + 1, by omega, by omega, by omega, by go_num, ⟨by rw [HE.out, HL.out]; exact own_move OQ.out.1 (fun q hq => HD6.out.block q (OQ.out.1.lt q hq).2), HB6.out⟩⟩
          | true =>
            cases d with
            | false =>
              have HE := Aside0.mk (row2_no (i := i) (k := k) (mtP_no (.inr (hzn.out rfl))))
              clear hyn hyy hzn hzy
              go_wp2_with fail
              go_roundg (n0 - (k + 1))
              case measure => omega
              case rel => exact ⟨k + 1, by omega, by omega, by omega, by go_num, ⟨by rw [HE.out, HL.out]; exact own_move OQ.out.1 (fun q hq => HD6.out.block q (OQ.out.1.lt q hq).2), HB6.out⟩⟩
            | true =>
              have HY := Aside0.mk (hyy.out rfl)
              have HZ := Aside0.mk (hzy.out rfl)
              have HQ := Aside0.mk (rmeet_calls w6 (HX.out.below HB6.out) (i : Int) (k : Int) ⟨by omega, by omega⟩ ⟨by omega, hlqc⟩ y0 y1 y2 y3 y4 y5 y6 y7 y8 z0 z1 z2 z3 z4 z5 z6 z7 z8 (fp_x HW.out HY.out) (fp_x HW.out HZ.out))
              have e := rmet_mtP HY.out HZ.out
              simp only at e
              rw [e] at HQ
              clear e hyn hyy hzn hzy
              have p0 := pw_cell_below HF6.out ((blk_cell HLw3.out 0).trans rfl : w3.cell? ⟨g8, 0, none⟩ = some (.int .i64 y0))
              have q0 : w6.cell? ⟨g10, 0, none⟩ = some (.int .i64 z0) := (blk_cell HLw6.out 0).trans rfl
              have p1 := pw_cell_below HF6.out ((blk_cell HLw3.out 1).trans rfl : w3.cell? ⟨g8, 1, none⟩ = some (.int .i64 y1))
              have q1 : w6.cell? ⟨g10, 1, none⟩ = some (.int .i64 z1) := (blk_cell HLw6.out 1).trans rfl
              have p2 := pw_cell_below HF6.out ((blk_cell HLw3.out 2).trans rfl : w3.cell? ⟨g8, 2, none⟩ = some (.int .i64 y2))
              have q2 : w6.cell? ⟨g10, 2, none⟩ = some (.int .i64 z2) := (blk_cell HLw6.out 2).trans rfl
              have p3 := pw_cell_below HF6.out ((blk_cell HLw3.out 3).trans rfl : w3.cell? ⟨g8, 3, none⟩ = some (.int .i64 y3))
              have q3 : w6.cell? ⟨g10, 3, none⟩ = some (.int .i64 z3) := (blk_cell HLw6.out 3).trans rfl
              have p4 := pw_cell_below HF6.out ((blk_cell HLw3.out 4).trans rfl : w3.cell? ⟨g8, 4, none⟩ = some (.int .i64 y4))
              have q4 : w6.cell? ⟨g10, 4, none⟩ = some (.int .i64 z4) := (blk_cell HLw6.out 4).trans rfl
              have p5 := pw_cell_below HF6.out ((blk_cell HLw3.out 5).trans rfl : w3.cell? ⟨g8, 5, none⟩ = some (.int .i64 y5))
              have q5 : w6.cell? ⟨g10, 5, none⟩ = some (.int .i64 z5) := (blk_cell HLw6.out 5).trans rfl
              have p6 := pw_cell_below HF6.out ((blk_cell HLw3.out 6).trans rfl : w3.cell? ⟨g8, 6, none⟩ = some (.int .i64 y6))
              have q6 : w6.cell? ⟨g10, 6, none⟩ = some (.int .i64 z6) := (blk_cell HLw6.out 6).trans rfl
              have p7 := pw_cell_below HF6.out ((blk_cell HLw3.out 7).trans rfl : w3.cell? ⟨g8, 7, none⟩ = some (.int .i64 y7))
              have q7 : w6.cell? ⟨g10, 7, none⟩ = some (.int .i64 z7) := (blk_cell HLw6.out 7).trans rfl
              have p8 := pw_cell_below HF6.out ((blk_cell HLw3.out 8).trans rfl : w3.cell? ⟨g8, 8, none⟩ = some (.int .i64 y8))
              have q8 : w6.cell? ⟨g10, 8, none⟩ = some (.int .i64 z8) := (blk_cell HLw6.out 8).trans rfl
              cases hm : mtP cs s i k with
              | false =>
                have HE := Aside0.mk (row2_no (i := i) hm)
                rw [hm] at HQ
                clear hm
                go_wp2_with (go_at_call 51; refine HQ.out.mono ?_; rintro e w7 ⟨rfl, hb⟩; have HD7 := Aside0.mk (below_on HD6.out hb); have HB7 := Aside0.mk (below_on HB6.out hb); clear hb)
                go_roundg (n0 - (k + 1))
                case measure => omega
                case rel => exact ⟨k + 1, by omega, by omega, by omega, by go_num, ⟨by rw [HE.out, HL.out]; exact own_move OQ.out.1 (fun q hq => HD7.out.block q (OQ.out.1.lt q hq).2), HB7.out⟩⟩
              | true =>
                have HE := Aside0.mk (row2_yes hik hm)
                rw [hm] at HQ
                clear hm
                go_wp2_with (first | (go_at_call 51; refine HQ.out.mono ?_; rintro e w7 ⟨rfl, hb⟩; have HD7 := Aside0.mk (below_on HD6.out hb); have HB7 := Aside0.mk (below_on HB6.out hb); have HO7 : Aside0 (w7.ownsRow w.heap.size 69 2 (.slice A6 l2.length c6) l2.length (flat2 l2)) := ⟨own_move OQ.out.1 (fun q hq => HD7.out.block q (OQ.out.1.lt q hq).2)⟩; clear hb) | ((with_reducible refine gate_dst (N := 70) rfl ?_); refine lit_ev2 (n := 1) ?hg (N := 70) ?hd (cs := #[.int .i64 i, .int .i64 k]) (t := 69) ?hr ?_; (case hd => rfl); (case hg => rfl); (case hr => first | (go_simp; done) | (go_simp; rfl)); intro gq hgg w8 hlit hb; have HLw8 := Aside0.mk hlit; have HKw8 := Aside0.mk hb; have HGw8 := Aside0.mk hgg; have HK8 := Aside0.mk (below_on HB7.out hb); have HO8 := Aside0.mk (own_move HO7.out (fun q hq => hb.block q (HO7.out.lt q hq).2)); clear hlit hb hgg) | ((with_reducible refine gate_dst (N := 71) rfl ?_); refine app2_event ?hg (.tmp 66) (.tmp 70) 64 69 (.agg #[.int .i64 0, .int .i64 0]) 16 rfl Try.underlying64 info69 rfl w.heap.size (.slice A6 l2.length c6) l2.length (flat2 l2) rfl HO8.out gq 1 (.int .i64 i) (.int .i64 k) rfl ((blk_cell HLw8.out 0).trans rfl) ((blk_cell HLw8.out 1).trans rfl) rfl rfl (by have := HN.out; omega) (by have := HN.out; omega) HK8.out.size ?_; (case hg => rfl); intro g3 cap3 w9 ho3 hg3; have HO9 := Aside0.mk ho3; have HK9 := Aside0.mk (HK8.out.grown hg3 HK8.out.size (fun q hq => (HO8.out.lt q hq).1)); clear ho3 hg3))
                go_roundg (n0 - (k + 1))
                case measure => omega
                case rel => exact ⟨k + 1, by omega, by omega, by omega, by go_num, ⟨by rw [HE.out, ← List.append_assoc, HL.out, flat2_append, List.length_append]; exact HO9.out, HK9.out⟩⟩
        · obtain rfl : k = n0 := by omega
          rcases (by omega : n ≤ k ∨ (¬ n ≤ k ∧ cs.length ≤ k)) with h | ⟨h, h'⟩
          all_goals
            first
              | (have hlqz : ¬ (k : Int) < n := by omega
                 have hlqc : True := trivial)
              | (have hlqz : (k : Int) < n := by omega
                 have hlqc : ¬ (k : Int) < (cs.length : Int) := by omega)
            go_wp2_with fail
            go_roundg (k - (i + 1))
            case measure => have := HGG.out; omega
            case rel => exact ⟨i + 1, by omega, by omega, by go_num, ⟨by rw [outL_succ]; exact OQ.out.1, OQ.out.2⟩⟩
    · obtain rfl : i = n0 := by omega
      rcases (by omega : n ≤ i ∨ (¬ n ≤ i ∧ cs.length ≤ i)) with h | ⟨h, h'⟩
      all_goals
        first
          | (have hltz : ¬ (i : Int) < n := by omega
             have hltc : True := trivial)
          | (have hltz : (i : Int) < n := by omega
             have hltc : ¬ (i : Int) < (cs.length : Int) := by omega)
        go_wp2_with fail
        go_ret
        exact ⟨_, rfl, OW.out.1, OW.out.2⟩
end Go.Proofs.Ytikjamcemnbhbaa.Mr
