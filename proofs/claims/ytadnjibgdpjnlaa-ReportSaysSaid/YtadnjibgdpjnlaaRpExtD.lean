/- slices.Compact at alarms: runs of equal ones become one. -/
import Derived.Test.YtadnjibgdpjnlaaRpExtC
import Derived.Test.YtadnjibgdpjnlaaRpx1
import Derived.Lib.SlicesCompact
import Derived.Lib.SliceRun
import Derived.Shelf.RegionOpenPlain
namespace Go.Proofs.Ytadnjibgdpjnlaa.Rp
open Go.RowKit Go.Proofs.YtadnjibgdpjnlaaW.PrintWords Go.Proofs.YtadnjibgdpjnlaaW.PrintLast Go.Proofs.YtadnjibgdpjnlaaW.PrintMore Go.Sort Go.Lib
attribute [local go_sem high] eqA24
set_option linter.unusedVariables false
set_option linter.unusedSimpArgs false
instance : DecidableEq S24 := fun x y => decidable_of_iff (x.f0 = y.f0 ∧ x.f1 = y.f1 ∧ x.f2 = y.f2 ∧ x.f3 = y.f3 ∧ x.f4 = y.f4 ∧ x.f5 = y.f5) (by cases x; cases y; simp)
/-- '==' of two alarms, as the walk spells it. -/
theorem eqb_false {x y : S24} (h : ¬ x = y) : (x.f0 == y.f0 && (x.f1 == y.f1 && (x.f2 == y.f2 && (x.f3 == y.f3 && (x.f4 == y.f4 && x.f5 == y.f5))))) = false := by
  rw [Bool.eq_false_iff]
  intro e
  simp only [Bool.and_eq_true, beq_iff_eq] at e
  exact h (by cases x; cases y; simpa using e)
/-- Element i's cells. -/
theorem elem_cells {W : World} {g : Nat} {d : Array S24} (h : HoldsK enc24 6 W g 0 d) (i : Nat) (hi : i < d.size) :
    (W.cell? ⟨g, i * 6, none⟩ = some (.int .i64 d[i]!.f0) ∧ W.cell? ⟨g, i * 6 + 1, none⟩ = some (.int .i64 d[i]!.f1) ∧ W.cell? ⟨g, i * 6 + 2, none⟩ = some (.int .i64 d[i]!.f2) ∧ W.cell? ⟨g, i * 6 + 3, none⟩ = some (.int .i64 d[i]!.f3) ∧ W.cell? ⟨g, i * 6 + 4, none⟩ = some (.int .i64 d[i]!.f4) ∧ W.cell? ⟨g, i * 6 + 5, none⟩ = some (.int .i64 d[i]!.f5)) ∧
    (W.frozen? ⟨g, i * 6, none⟩ = false ∧ W.frozen? ⟨g, i * 6 + 1, none⟩ = false ∧ W.frozen? ⟨g, i * 6 + 2, none⟩ = false ∧ W.frozen? ⟨g, i * 6 + 3, none⟩ = false ∧ W.frozen? ⟨g, i * 6 + 4, none⟩ = false ∧ W.frozen? ⟨g, i * 6 + 5, none⟩ = false) := by
  have key : ∀ j, j < 6 → W.cell? ⟨g, i * 6 + j, none⟩ = some (enc24 d[i]!)[j]! ∧ W.frozen? ⟨g, i * 6 + j, none⟩ = false := by
    intro j hj
    have hlt : i * 6 + j < d.size * 6 := by omega
    have := h (i * 6 + j) (by rw [size_flatK]; exact hlt)
    rw [get_flatK _ _ _ _ hlt, show (i * 6 + j) / 6 = i by omega, show (i * 6 + j) % 6 = j by omega, Nat.zero_add] at this
    exact this
  exact ⟨⟨(key 0 (by omega)).1, (key 1 (by omega)).1, (key 2 (by omega)).1, (key 3 (by omega)).1, (key 4 (by omega)).1, (key 5 (by omega)).1⟩, ⟨(key 0 (by omega)).2, (key 1 (by omega)).2, (key 2 (by omega)).2, (key 3 (by omega)).2, (key 4 (by omega)).2, (key 5 (by omega)).2⟩⟩
theorem put_drewN (w : World) (q nq g : Nat) (dk : Array S24) : (putRowK enc24 6 (Sort.ahead w q) g 0 dk).drewN nq = putRowK enc24 6 (Sort.ahead w (q + nq)) g 0 dk := by
  simp [putRowK, putRow, mapBlock, Sort.ahead, World.drewN, Nat.add_assoc]
theorem setMany_one (d : Array S24) (i : Nat) (x : S24) (hi : i < d.size) : setMany (flatK enc24 6 d) (i * 6) (enc24 x) = flatK enc24 6 (d.setIfInBounds i x) := by
  refine ext_get! (by simp) fun t ht => ?_
  have ht' : t < d.size * 6 := by simpa using ht
  rw [get_setMany _ _ _ t (by simpa using ht'), get_flatK _ _ _ t ht', get_flatK _ _ _ t (by simpa using ht'), show (enc24 x).length = 6 from rfl]
  by_cases a : t / 6 = i
  · rw [if_pos (by omega), a, getElem!_set_same d i x hi, show t - i * 6 = t % 6 by omega]
  · rw [if_neg (by omega), getElem!_set_other d i (t / 6) x a]
theorem put_store (W : World) (g : Nat) (d : Array S24) (i : Nat) (x : S24) (hi : i < d.size) : (putRowK enc24 6 W g 0 d).setCells g (i * 6) (enc24 x) = putRowK enc24 6 W g 0 (d.setIfInBounds i x) := by
  have h := setCells_putRow W g 0 (enc24 x) (i * 6) (flatK enc24 6 d) (by simp [enc24]; omega)
  rw [Nat.zero_add] at h
  rw [putRowK, h, setMany_one d i x hi]
  rfl
/-- 'clear' of n > 0 alarms. -/
theorem run_clear24 (w : World) (ty : TypeId) (b o n c : Nat) (hn : 0 < n) (hc : ∀ j, j < n * 6 → (w.cell? ⟨b, o + j, none⟩).isSome = true) (hf : ∀ j, j < n * 6 → w.frozen? ⟨b, o + j, none⟩ = false) :
    (Builtin.clear_ #[33] ty #[.slice (some ⟨b, o, none⟩) n c]).run Try.prog w = .ok (.tuple #[]) (w.setCells b o ((List.replicate n z24).flatMap enc24)) := by
  have hzc : (Builtin.zeroCells (Value.agg #[.int .i64 0, .int .i64 0, .int .i64 0, .int .i64 0, .int .i64 0, .int .i64 0]).cells n).toList = (List.replicate n z24).flatMap enc24 := by
    apply List.ext_getElem?
    intro t
    rw [flat_get]
    simp only [Builtin.zeroCells, Value.cells]
    by_cases ht : t < n * 6
    · rw [Array.getElem?_toList, Array.getElem?_map, Array.getElem?_range, if_pos (by simpa using ht), List.getElem?_replicate, if_pos (by omega)]
      have h6 : ∀ j, j < 6 → (some (#[Value.int .i64 0, .int .i64 0, .int .i64 0, .int .i64 0, .int .i64 0, .int .i64 0])[j]!) = (enc24 z24)[j]? := by
        intro j hj
        match j, hj with
        | 0, _ => rfl
        | 1, _ => rfl
        | 2, _ => rfl
        | 3, _ => rfl
        | 4, _ => rfl
        | 5, _ => rfl
      exact h6 (t % 6) (by omega)
    · rw [Array.getElem?_toList, Array.getElem?_map, Array.getElem?_range, if_neg (by simpa using ht), List.getElem?_replicate, if_neg (by omega)]
      rfl
  have hl : ((List.replicate n z24).flatMap enc24).length = n * 6 := by rw [flat_len, List.length_replicate]
  have h1 : ∀ v ∈ (List.replicate n z24).flatMap enc24, v.oneCell' = true := by
    intro v hv
    obtain ⟨x, _, hx⟩ := List.mem_flatMap.1 hv
    simp [enc24] at hx
    rcases hx with rfl | rfl | rfl | rfl | rfl | rfl <;> rfl
  have hst := run_storeCells_cells (P := Try.prog) b o ((List.replicate n z24).flatMap enc24) 0 w (by rw [hl]; simpa using hc) (by rw [hl]; simpa using hf) h1
  simp only [Nat.add_zero] at hst
  obtain ⟨m, rfl⟩ : ∃ m, n = m + 1 := ⟨n - 1, by omega⟩
  simp only [Value.cells] at hzc
  simp [Builtin.clear_, run_underlying Try.underlying33, Try.zeroValue24, Value.cells, hzc, hst]
theorem clear_flat {d dk : Array S24} {kk : Nat} (h : CompInv d d.size kk dk) : setMany (flatK enc24 6 dk) (kk * 6) ((List.replicate (d.size - kk) z24).flatMap enc24) = flatK enc24 6 (compactUpTo d d.size ++ List.replicate (d.size - kk) z24).toArray := by
  have hk := h.lt
  have hs := h.size
  have hl := h.len
  refine ext_get! (by simp [hs, hl]; omega) fun t ht => ?_
  have ht' : t < dk.size * 6 := by simpa using ht
  have hfl : ((List.replicate (d.size - kk) z24).flatMap enc24).length = (d.size - kk) * 6 := by rw [flat_len, List.length_replicate]
  have hsz : (compactUpTo d d.size ++ List.replicate (d.size - kk) z24).toArray.size = d.size := by simp [hl]; omega
  rw [get_setMany _ _ _ t (by simpa using ht'), get_flatK _ _ _ t ht', get_flatK _ _ _ t (by rw [hsz, ← hs]; exact ht'), hfl]
  have hget : ∀ j, j < d.size → (compactUpTo d d.size ++ List.replicate (d.size - kk) z24).toArray[j]! = if j < kk then dk[j]! else z24 := by
    intro j hj
    rw [getElem!_pos _ j (by rw [hsz]; exact hj)]
    have e : (compactUpTo d d.size ++ List.replicate (d.size - kk) z24)[j]? = some (if j < kk then dk[j]! else z24) := by
      by_cases hjk : j < kk
      · rw [List.getElem?_append_left (by omega), h.low j hjk, if_pos hjk]
      · rw [List.getElem?_append_right (by omega), List.getElem?_replicate, if_pos (by omega), if_neg hjk]
    rw [List.getElem?_eq_some_iff] at e
    obtain ⟨_, e⟩ := e
    simpa using e
  rw [hget (t / 6) (by omega)]
  by_cases a : t / 6 < kk
  · rw [if_neg (by omega), if_pos a]
  · rw [if_pos (by omega), if_neg a]
    have e := flat_get (List.replicate (d.size - kk) z24) (t - kk * 6)
    rw [List.getElem?_replicate, if_pos (by omega), show (t - kk * 6) % 6 = t % 6 by omega] at e
    rw [List.getElem!_eq_getElem?_getD, List.getElem!_eq_getElem?_getD, e]
    rfl
set_option maxHeartbeats 4000000 in
set_option maxRecDepth 1000000 in
theorem compact_walk (g cap : Nat) (d : Array S24) (w : World) (hH : HoldsK enc24 6 w g 0 d) (hsz : d.size ≤ 9223372036854775807) (hcap : d.size ≤ cap) :
    Calls Try.prog 27 #[.slice (some ⟨g, 0, none⟩) d.size cap] w fun e w' => e = .returned (.slice (some ⟨g, 0, none⟩) (compactUpTo d d.size).length cap) ∧ ∃ q, w' = putRowK enc24 6 (Sort.ahead w q) g 0 (compactUpTo d d.size ++ List.replicate (d.size - (compactUpTo d d.size).length) z24).toArray := by
  have hu24 := Try.underlying24
  have HS : Aside0 (∀ q, (∀ j, j < d.size → keeps d j = true) → (compactUpTo d d.size).length = d.size ∧ w.drewN q = putRowK enc24 6 (Sort.ahead w q) g 0 (compactUpTo d d.size ++ List.replicate (d.size - (compactUpTo d d.size).length) z24).toArray) := ⟨by
    intro q hall
    have e : compactUpTo d d.size = d.toList := by rw [compactUpTo_all d _ hall, range_map_get]
    rw [e]
    refine ⟨by simp, ?_⟩
    simp only [Array.length_toList, Nat.sub_self, List.replicate_zero, List.append_nil, Array.toArray_toList]
    exact (putRow_self id (Sort.ahead w q) g 0 (flatK enc24 6 d) (holds_ahead id w q g 0 (flatK enc24 6 d) hH)).symm⟩
  by_cases h2 : d.size < 2
  · clear hH
    go_enter Try.func27, Try.ntmps27
    go_wp2
    go_ret
    obtain ⟨e1, e2⟩ := HS.out 0 (fun j hj => keeps_lt_one d j (by omega))
    exact ⟨by rw [e1]; rfl, 0, e2⟩
  · go_enter Try.func27, Try.ntmps27
    go_wp2
    go_loopg [3] d.size (fun gg s3 wr => ∃ k q : Nat, 1 ≤ k ∧ k ≤ d.size ∧ d.size - k ≤ gg ∧ s3 = .int .i64 k ∧ wr = w.drewN q ∧ Aside0 (∀ j, j < k → keeps d j = true))
    case atStart => exact ⟨1, 0, Nat.le_refl _, by omega, by omega, rfl, rfl, ⟨keeps_lt_one d⟩⟩
    case round =>
      obtain ⟨k, q, hk1, hk, hg, rfl, rfl, A⟩ := hrel
      by_cases hlt : k < d.size
      · obtain ⟨⟨a0, a1, a2, a3, a4, a5⟩, _⟩ := elem_cells hH k hlt
        obtain ⟨⟨b0, b1, b2, b3, b4, b5⟩, _⟩ := elem_cells hH (k - 1) (by omega)
        have HH := Aside0.mk hH
        clear hH
        generalize hx : d[k]! = x at a0 a1 a2 a3 a4 a5
        generalize hy : d[k - 1]! = y at b0 b1 b2 b3 b4 b5
        have B := Aside0.mk (And.intro hx hy)
        clear hx hy
        by_cases hdup : x = y
        · subst hdup
          go_wp2_with fail
          go_quiet (fail)
          clear a0 a1 a2 a3 a4 a5 b0 b1 b2 b3 b4 b5
          go_wp2
          go_loopg [3, 5] d.size (fun gg s3 s5 wr => ∃ (kk k2 q2 : Nat) (dk : Array S24), s3 = .int .i64 kk ∧ s5 = .int .i64 k2 ∧ 1 ≤ k2 ∧ k + k2 ≤ d.size ∧ d.size - (k + k2) ≤ gg ∧ Aside0 (wr = putRowK enc24 6 (Sort.ahead w q2) g 0 dk) ∧ Aside0 (CompInv d (k + k2) kk dk))
          case atStart => exact ⟨k, 1, q + nq, d, rfl, rfl, Nat.le_refl _, by omega, by omega, ⟨(putRow_self id (Sort.ahead w (q + nq)) g 0 (flatK enc24 6 d) (holds_ahead id w (q + nq) g 0 (flatK enc24 6 d) HH.out)).symm⟩, ⟨CompInv.start A.out (keeps_neg (by omega) (by rw [B.out.1, B.out.2]))⟩⟩
          case round =>
            obtain ⟨kk, k2, q2, dk, rfl, rfl, h1, hle, hg2, W2, I2⟩ := hrel
            have hkk := I2.out.lt
            have hds := I2.out.size
            have hHk : HoldsK enc24 6 wr g 0 dk := by rw [W2.out]; exact holds_putRow id _ g 0 (flatK enc24 6 d) (flatK enc24 6 dk) (holds_ahead id w q2 g 0 _ HH.out) (by simp [hds])
            by_cases hlt2 : k + k2 < d.size
            · obtain ⟨⟨m0, m1, m2, m3, m4, m5⟩, _⟩ := elem_cells hHk (k + k2) (by omega)
              obtain ⟨⟨n0, n1, n2, n3, n4, n5⟩, _⟩ := elem_cells hHk (k + k2 - 1) (by omega)
              obtain ⟨⟨c0, c1, c2, c3, c4, c5⟩, ⟨f0, f1, f2, f3, f4, f5⟩⟩ := elem_cells hHk kk (by omega)
              rw [I2.out.high (k + k2) (by omega), show (k + k2) * 6 = k * 6 + k2 * 6 by omega] at m0 m1 m2 m3 m4 m5
              rw [I2.out.high (k + k2 - 1) (by omega), show (k + k2 - 1) * 6 = k * 6 + (k2 - 1) * 6 by omega] at n0 n1 n2 n3 n4 n5
              clear hHk
              generalize hu : d[k + k2]! = u at m0 m1 m2 m3 m4 m5
              generalize hv : d[k + k2 - 1]! = v at n0 n1 n2 n3 n4 n5
              generalize dk[kk]! = old at c0 c1 c2 c3 c4 c5
              have C := Aside0.mk (And.intro hu hv)
              clear hu hv
              by_cases huv : u = v
              · subst huv
                go_wp2_with fail
                go_quiet (fail)
                go_wp2
                go_roundg (d.size - (k + (k2 + 1)))
                case measure => omega
                case rel => exact ⟨kk, k2 + 1, q2 + nq, dk, rfl, by go_num, by omega, by omega, Nat.le_refl _, ⟨by rw [W2.out, put_drewN]⟩, ⟨I2.out.skip (keeps_neg (by omega) (by rw [C.out.1, C.out.2]))⟩⟩
              · have hne := eqb_false huv
                go_wp2_with fail
                go_quiet (fail)
                go_wp2
                go_roundg (d.size - (k + (k2 + 1)))
                case measure => omega
                case rel => exact ⟨kk + 1, k2 + 1, q2 + nq, dk.setIfInBounds kk u, by go_num, by go_num, by omega, by omega, Nat.le_refl _, ⟨by rw [← put_store _ g dk kk u (by omega), ← put_drewN, ← W2.out]; rfl⟩, ⟨by have := I2.out.keep hlt2 (keeps_pos (by rw [C.out.1, C.out.2]; exact huv)); rwa [C.out.1] at this⟩⟩
            · have hend : k + k2 = d.size := by omega
              have hcl : ∀ ty, (Builtin.clear_ #[33] ty #[.slice (some ⟨g, kk * 6, none⟩) (d.size - kk) (cap - kk)]).run Try.prog wr = .ok (.tuple #[]) (wr.setCells g (kk * 6) ((List.replicate (d.size - kk) z24).flatMap enc24)) :=
                fun ty => run_clear24 wr ty g (kk * 6) _ _ (by omega) (fun j hj => by have := (hHk (kk * 6 + j) (by rw [size_flatK]; omega)).1; rw [Nat.zero_add] at this; rw [this]; rfl) (fun j hj => by have := (hHk (kk * 6 + j) (by rw [size_flatK]; omega)).2; rwa [Nat.zero_add] at this)
              clear hHk
              go_wp2
              go_ret
              have hI := I2.out
              rw [hend] at hI
              refine ⟨by rw [hI.len]; rfl, q2, ?_⟩
              have hs := setCells_putRow (Sort.ahead w q2) g 0 ((List.replicate (d.size - kk) z24).flatMap enc24) (kk * 6) (flatK enc24 6 dk) (by rw [flat_len, List.length_replicate, size_flatK]; omega)
              rw [Nat.zero_add, clear_flat hI] at hs
              rw [hI.len, W2.out]
              exact hs
        · have hne := eqb_false hdup
          go_wp2_with fail
          go_quiet (fail)
          go_wp2
          go_roundg (d.size - (k + 1))
          case measure => omega
          case rel =>
            refine ⟨k + 1, q + nq, by omega, by omega, Nat.le_refl _, by go_num, rfl, ⟨fun j hj => ?_⟩⟩
            by_cases e : j = k
            · subst e
              exact keeps_pos (by rw [B.out.1, B.out.2]; exact hdup)
            · exact A.out j (by omega)
      · have : k = d.size := by omega
        subst this
        have HH := Aside0.mk hH
        clear hH
        go_wp2
        go_ret
        obtain ⟨e1, e2⟩ := HS.out q A.out
        exact ⟨by rw [e1]; rfl, q, e2⟩
def api_Alarm_27.f (_k : Nat) (l0 : List S24) : Option (List S24) := if l0.length ≤ 9223372036854775807 then some (compactUpTo l0.toArray l0.length) else none
theorem api_Alarm_27.mono : ∀ a0 k, LeO (api_Alarm_27.f k a0) (api_Alarm_27.f (k + 1) a0) := fun _ _ => LeO.refl _
theorem api_Alarm_27.calls (k : Nat) (P0_ : Nat → Prop) (u9000_ : Value) (l0 : List S24) (r : List S24) (w0 w : World) (hB : Below w0.heap.size w0 w) (ho0 : Kd.R k24 24 w w0.heap.size P0_ u9000_ l0) (h : api_Alarm_27.f k l0 = some r) :
    Calls Try.prog 27 #[u9000_] w fun e w' => ∃ v0_ : Value, e = .returned (v0_) ∧ Kd.R k24 24 w' w0.heap.size (fun k_ => (P0_ k_ ∨ w.heap.size ≤ k_)) v0_ r ∧ Below w0.heap.size w0 w' ∧ Kept w w' (fun k_ => P0_ k_) := by
  unfold api_Alarm_27.f at h
  by_cases hl : l0.length ≤ 9223372036854775807
  · rw [if_pos hl] at h
    obtain rfl := Option.some.inj h
    rcases R_flat ho0 with ⟨rfl, rfl⟩ | ⟨g, cap, cur, rfl, hb, hg, hc, hm, hs, ht, hok⟩
    · clear h hl
      have hB1 := Aside0.mk hB
      clear hB ho0
      go_enter Try.func27, Try.ntmps27
      go_wp2
      go_ret
      exact ⟨_, rfl, Kd.R_nil _ _ _ _ _, hB1.out, Kept.refl _ _⟩
    · have hw := compact_walk g cap l0.toArray w (holds_flat hg hc hs ht) (by simpa using hl) (by simpa using hc)
      rw [List.size_toArray] at hw
      refine hw.mono fun e w' ⟨he, q, e2⟩ => ?_
      subst e2
      have hle : (compactUpTo l0.toArray l0.length).length ≤ l0.length := by
        unfold compactUpTo
        rw [List.length_map]
        exact Nat.le_trans (List.length_filter_le _ _) (by simp)
      obtain ⟨h1, h2, h3⟩ := sorted_heap hg q (compactUpTo l0.toArray l0.length ++ List.replicate (l0.length - (compactUpTo l0.toArray l0.length).length) z24).toArray #[]
      have hsw : sortWorldK enc24 6 w g 0 q (compactUpTo l0.toArray l0.length ++ List.replicate (l0.length - (compactUpTo l0.toArray l0.length).length) z24).toArray #[] = putRowK enc24 6 (Sort.ahead w q) g 0 (compactUpTo l0.toArray l0.length ++ List.replicate (l0.length - (compactUpTo l0.toArray l0.length).length) z24).toArray := by
        simp [sortWorldK]
      rw [hsw] at h1 h2 h3
      have hlen : (compactUpTo l0.toArray l0.length ++ List.replicate (l0.length - (compactUpTo l0.toArray l0.length).length) z24).length = l0.length := by simp; omega
      obtain ⟨p1, p2⟩ := put_flat cur (compactUpTo l0.toArray l0.length ++ List.replicate (l0.length - (compactUpTo l0.toArray l0.length).length) z24) (by rw [hlen, hs]; exact Nat.mul_le_mul_right _ hc)
      refine ⟨_, he, ?_, ?_, ?_⟩
      · refine R_of_flat hb h1 (by omega) hm (by rw [p1, hs]) ?_ (.inl hok)
        have e3 := congrArg (List.take ((compactUpTo l0.toArray l0.length).length * 6)) p2
        rw [List.take_take, hlen, Nat.min_eq_left (Nat.mul_le_mul_right _ hle), List.flatMap_append] at e3
        rw [e3, ← flat_len, List.take_left]
      · exact ⟨hB.os, hB.tape, hB.output, Nat.le_trans hB.size h3, fun k hk => (h2 k (Nat.lt_of_lt_of_le hk hB.size) (by omega)).trans (hB.block k hk)⟩
      · exact ⟨h3, fun k hk hn => h2 k hk (fun e => hn (e ▸ hok))⟩
  · rw [if_neg hl] at h; cases h
end Go.Proofs.Ytadnjibgdpjnlaa.Rp
