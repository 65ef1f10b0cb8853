/- meddlerlaw10: known, and the law of a nil machine. -/
import Derived.Test.YtikjamcemnbhbaaMrPkD
import Derived.Test.YtikjamcemnbhbaaMrF33
import Derived.Test.YtikjamcemnbhbaaMrPkG
import Derived.Test.YtikjamcemnbhbaaWApart
namespace Go.Proofs.Ytikjamcemnbhbaa.Mr
open Go.RowKit Go.Proofs.YtikjamcemnbhbaaW.PrintWords Go.Proofs.YtikjamcemnbhbaaW.PrintLast
set_option linter.unusedVariables false
set_option linter.unusedSimpArgs false
theorem small_new {G A : List Int} {m : Int} {cs : List S49} (ok : OkUnit G A m cs) (k : Nat) : ((newSt G A cs A.length m.toNat cs.length).row k).length ≤ 1000 := by
  show (newRow G A cs A.length m.toNat cs.length k).length ≤ 1000
  have hm := ok.ms
  have hg := ok.gl
  unfold newRow
  split
  · omega
  · split
    · rw [List.length_replicate]; omega
    · split
      · split
        · rename_i h
          rw [List.length_replicate]
          have := ok.az _ (rd_mem A _ h)
          omega
        · simp
      · split
        · rename_i h
          rw [List.length_replicate]
          have := (ok.ts _ (rd49_mem cs _ h.2)).vars
          omega
        · simp
def stC (x : Int) : S49 := ⟨1, [⟨6, 0, 0, 0, x, 0, 0, 1, 0⟩, ⟨14, 0, 0, 0, 0, 0, 0, 1, 0⟩]⟩
def StoresOut (w : World) (a b : Int) (e : Ending) (w' : World) : Prop :=
  ∃ A0 c0 A1 c1 A3 c3, e = .returned (.agg #[.slice A0 2 c0, .slice A1 0 c1, .int .i64 0, .slice A3 2 c3]) ∧ 2 ≤ c0 ∧ Aside0 (Kd.C (Kd.int .i64) w' A0 2 [0, 0]) ∧ Aside0 (Kd.C (Kd.int .i64) w' A1 0 []) ∧ 2 ≤ c3 ∧ Aside0 (Kd.C k49 w' A3 2 [stC a, stC b]) ∧ Below w.heap.size w w'
theorem stores_ok (a b : Int) : meddlerlaw10_stores.f 5 [a, b] = some ([0, 0], [], 0, [stC a, stC b]) := by
  have e0 : rd [a, b] 0 = a := rfl
  have e1 : rd [a, b] 1 = b := rfl
  have w1 : wrap64 1 = 1 := by unfold wrap64; omega
  have w2 : wrap64 2 = 2 := by unfold wrap64; omega
  unfold meddlerlaw10_stores.f
  simp [meddlerlaw10_stores.l0, e0, e1, w1, w2, stC]
theorem stores_calls (w : World) (A : Option Addr) (c : Nat) (a b : Int) (hC : Kd.C (Kd.int .i64) w A 2 [a, b]) (hc : 2 ≤ c) : Calls Try.prog 33 #[.slice A 2 c] w fun e w' => StoresOut w a b e w' :=
  (meddlerlaw10_stores.calls 5 A c [a, b] [0, 0] [] 0 [stC a, stC b] w hC hc (stores_ok a b)).mono fun e w' h => by
    obtain ⟨v0, v1, v3, rfl, h0, h1, h3, hb⟩ := h
    obtain ⟨A0, c0, rfl, l0, C0⟩ := Kd.R_reads h0
    obtain ⟨A1, c1, rfl, l1, C1⟩ := Kd.R_reads h1
    obtain ⟨A3, c3, rfl, l3, C3⟩ := Kd.S_reads h3
    exact ⟨A0, c0, A1, c1, A3, c3, rfl, l0, ⟨C0⟩, ⟨C1⟩, l3, ⟨C3⟩, hb⟩
theorem ok_st (a b : Int) (ha : 0 ≤ a ∧ a ≤ 1) (hb : 0 ≤ b ∧ b ≤ 1) : OkUnit [0, 0] [] 0 [stC a, stC b] := by
  have key : ∀ x : Int, 0 ≤ x ∧ x ≤ 1 → OkCode 2 0 0 (stC x) := fun x hx => by
    rcases (by omega : x = 0 ∨ x = 1) with rfl | rfl <;> exact ⟨by decide, by decide, by decide, fun a ha => by
      simp only [stC, List.mem_cons, List.not_mem_nil, or_false] at ha
      rcases ha with rfl | rfl <;> exact ok_acts (by decide)⟩
  refine ⟨by decide, by decide, by decide, by simp, by decide, by simp, fun c hc => ?_⟩
  simp only [List.mem_cons, List.not_mem_nil, or_false] at hc
  rcases hc with rfl | rfl
  · exact key a ha
  · exact key b hb
theorem new_st (w : World) (a b : Int) (ha : 0 ≤ a ∧ a ≤ 1) (hb : 0 ≤ b ∧ b ≤ 1) (A0 : Option Addr) (c0 : Nat) (A1 : Option Addr) (c1 : Nat) (A3 : Option Addr) (c3 : Nat) (h0 : 2 ≤ c0) (C0 : Kd.C (Kd.int .i64) w A0 2 [0, 0]) (C1 : Kd.C (Kd.int .i64) w A1 0 []) (h3 : 2 ≤ c3) (C3 : Kd.C k49 w A3 2 [stC a, stC b]) :
    Calls Try.prog 19 #[.agg #[.slice A0 2 c0, .slice A1 0 c1, .int .i64 0, .slice A3 2 c3]] w fun e w' => NewLive w [0, 0] [] 0 [stC a, stC b] e w' :=
  new_live w A0 c0 [0, 0] A1 c1 [] 0 A3 c3 [stC a, stC b] C0 h0 C1 (Nat.zero_le _) C3 h3 (ok_st a b ha hb)
def sS0 (a b : Int) : St := newSt [0, 0] [] [stC a, stC b] 0 0 2
theorem kr1 : decide (0 < (pairsL (mtP [stC 0, stC 0] (sS0 0 0)) (bnd 2)).length) = true := by decide
theorem kr2 : decide (0 < (pairsL (mtP [stC 0, stC 1] (sS0 0 1)) (bnd 2)).length) = false := by decide
set_option maxHeartbeats 4000000 in
set_option maxRecDepth 100000 in
theorem known10_calls (w : World) : Calls Try.prog 36 #[] w fun e w' => e = .returned (.bool true) ∧ Below w.heap.size w w' := by
  go_enter Try.func36, Try.ntmps36
  go_wp2_with (first | ((with_reducible refine gate_dst (N := 6) rfl ?_); refine lit_ev2 (n := 2) ?hg (N := 6) ?hd (cs := #[.int .i64 0, .int .i64 0]) (t := 3) ?hr ?_; (case hd => rfl); (case hg => rfl); (case hr => first | (go_simp; done) | (go_simp; rfl)); intro g1 hgg w1 hlit hb; have HLw1 := Aside0.mk hlit; have HKw1 := Aside0.mk hb; have HGw1 := Aside0.mk hgg; have HC1 := Aside0.mk (C_lit w1 g1 [0, 0] hlit); clear hlit hb hgg))
  go_at_call 33
  refine (stores_calls w1 (some ⟨g1, 0, none⟩) 2 0 0 HC1.out (Nat.le_refl _)).mono ?_
  rintro e w2 ⟨A0, c0, A1, c1, A3, c3, rfl, h0, C0, C1, h3, C3, hb⟩
  have HB2 := Aside0.mk (below_on HKw1.out hb)
  clear hb
  go_wp2_with fail
  go_at_call 19
  refine (new_st w2 0 0 (by decide) (by decide) A0 c0 A1 c1 A3 c3 h0 C0.out C1.out h3 C3.out).mono ?_
  rintro e w3 ⟨ph, rfl, hL, hb⟩
  have H3 := Aside0.mk hL
  have HB3 := Aside0.mk (below_on HB2.out hb)
  clear hb hL h0 C0 C1 h3 C3
  go_wp2_with (first | ((with_reducible refine gate_dst (N := 12) rfl ?_); refine lit_ev2 (n := 2) ?hg (N := 12) ?hd (cs := #[.int .i64 0, .int .i64 1]) (t := 3) ?hr ?_; (case hd => rfl); (case hg => rfl); (case hr => first | (go_simp; done) | (go_simp; rfl)); intro g4 hgg w4 hlit hb; have HLw4 := Aside0.mk hlit; have HKw4 := Aside0.mk hb; have HGw4 := Aside0.mk hgg; have HC4 := Aside0.mk (C_lit w4 g4 [0, 1] hlit); have HB4 := Aside0.mk (below_on HB3.out hb); have H4 := Aside0.mk (H3.out.below hb); clear hlit hb hgg))
  go_at_call 33
  refine (stores_calls w4 (some ⟨g4, 0, none⟩) 2 0 1 HC4.out (Nat.le_refl _)).mono ?_
  rintro e w5 ⟨B0, d0, B1, d1, B3, d3, rfl, h0, C0, C1, h3, C3, hb⟩
  have HB5 := Aside0.mk (below_on HB4.out hb)
  have H5 := Aside0.mk (H4.out.below hb)
  clear hb
  go_wp2_with fail
  go_at_call 19
  refine (new_st w5 0 1 (by decide) (by decide) B0 d0 B1 d1 B3 d3 h0 C0.out C1.out h3 C3.out).mono ?_
  rintro e w6 ⟨px, rfl, hL, hb⟩
  have HX6 := Aside0.mk hL
  have H6 := Aside0.mk (H5.out.below hb)
  have HB6 := Aside0.mk (below_on HB5.out hb)
  clear hb hL h0 C0 C1 h3 C3
  go_wp2_with fail
  go_at_call 34
  refine (H6.out.racing (small_new (ok_st 0 0 (by decide) (by decide))) 2 kr1).mono ?_
  rintro e w7 ⟨rfl, hb⟩
  have HB7 := Aside0.mk (below_on HB6.out hb)
  have HX7 := Aside0.mk (HX6.out.below hb)
  clear hb
  go_wp2_with fail
  go_at_call 34
  refine (HX7.out.racing (small_new (ok_st 0 1 (by decide) (by decide))) 2 kr2).mono ?_
  rintro e w8 ⟨rfl, hb⟩
  have HB8 := Aside0.mk (below_on HB7.out hb)
  clear hb
  go_wp2_with fail
  go_ret
  exact ⟨rfl, HB8.out⟩
end Go.Proofs.Ytikjamcemnbhbaa.Mr
