/- What of a machine is read: Array, Fault, elem. -/
import Derived.Test.YtikjamcemnbhbaaMrRead
namespace Go.Proofs.Ytikjamcemnbhbaa.Mr
open Go.RowKit Go.Proofs.YtikjamcemnbhbaaW.PrintWords Go.Proofs.YtikjamcemnbhbaaW.PrintLast Go.Proofs.YtikjamcemnbhbaaW.PrintMore
set_option linter.unusedVariables false
set_option linter.unusedSimpArgs false
theorem MachIn.acell {w : World} {lo hi fl : Nat} {ph : Ph} {cs : List S49} {nA : Nat} {s : St} (H : MachIn w lo hi fl ph cs nA s) (i : Int) (h0 : 0 ≤ i) (h1 : i < nA) :
    ∃ g c, ph.hA = .slice (some ⟨g, 0, none⟩) nA c ∧ nA ≤ c ∧ w.cell? ⟨g, i.toNat, none⟩ = some (ph.rv (3 + 2 * i.toNat)) := by
  obtain ⟨g, c, e, hc, hx, _⟩ := own_cell H.hA i.toNat (by omega)
  refine ⟨g, c, e, hc, ?_⟩
  have : i.toNat < nA := by omega
  rw [hx]; simp [this]
def arrOf (nA : Nat) (s : St) (i : Int) : List Int := if 0 ≤ i ∧ i < nA then s.row (3 + 2 * i.toNat) else []
set_option maxHeartbeats 2000000 in
theorem array_calls (w : World) {lo hi fl : Nat} {ph : Ph} {cs : List S49} {nA : Nat} {s : St} (H : MachIn w lo hi fl ph cs nA s) (i : Int) (hl : (arrOf nA s i).length ≤ 1000) :
    Calls Try.prog 32 #[.pointer (some ⟨ph.bm, 0, none⟩), .int .i64 i] w fun e w' => rowOut (arrOf nA s i) w e w' := by
  obtain ⟨fp, hm, _⟩ := H.hm
  have hc6 : w.cell? ⟨ph.bm, 6, none⟩ = some ph.hA := (blk_cell hm 6).trans rfl
  have HB := Aside0.mk (Below.refl w.heap.size w)
  unfold arrOf at hl ⊢
  by_cases c0 : 0 ≤ i ∧ i < nA
  · rw [if_pos c0] at hl ⊢
    obtain ⟨h0, h1⟩ := c0
    obtain ⟨g, c, e, hn, hcell⟩ := H.acell i h0 h1
    rw [e] at hc6
    obtain ⟨A, c', e', hR⟩ := own_reads (H.rows (3 + 2 * i.toNat))
    rw [e'] at hcell
    have HC := Aside0.mk (clone_calls w A c' _ hR hl)
    clear H hm hl hR e e'
    go_enter Try.func32, Try.ntmps32
    go_wp2_with (go_at_call 41; refine HC.out.mono ?_; rintro e w1 ⟨v, rfl, ho, hb⟩)
    go_ret
    exact ⟨_, rfl, ho, hb⟩
  · rw [if_neg c0] at hl ⊢
    obtain ⟨A, c, e⟩ := own_slice H.hA
    rw [e] at hc6
    clear H hm hl e
    by_cases h0 : 0 ≤ i
    · have h1 : ¬ i < nA := fun h => c0 ⟨h0, h⟩
      clear c0
      go_enter Try.func32, Try.ntmps32
      go_wp2
      go_ret
      exact ⟨_, rfl, own_nil _ _ _ _, HB.out⟩
    · clear c0
      go_enter Try.func32, Try.ntmps32
      go_wp2
      go_ret
      exact ⟨_, rfl, own_nil _ _ _ _, HB.out⟩
set_option maxHeartbeats 2000000 in
theorem array_nil (w : World) (i : Int) :
    Calls Try.prog 32 #[.pointer none, .int .i64 i] w fun e w' => rowOut [] w e w' := by
  have HB := Aside0.mk (Below.refl w.heap.size w)
  go_enter Try.func32, Try.ntmps32
  go_wp2
  go_ret
  exact ⟨_, rfl, own_nil _ _ _ _, HB.out⟩
/-! ### elem -/
set_option maxHeartbeats 2000000 in
theorem elem_in (w : World) {lo hi fl : Nat} {ph : Ph} {cs : List S49} {nA : Nat} {s : St} (H : MachIn w lo hi fl ph cs nA s) (g i : Int) (g0 : 0 ≤ g) (g1 : g < nA) (h0 : 0 ≤ i) (h1 : i < (s.row (3 + 2 * g.toNat)).length) :
    Calls Try.prog 64 #[.pointer (some ⟨ph.bm, 0, none⟩), .int .i64 g, .int .i64 i] w fun e w' => (∃ b c, ph.rv (3 + 2 * g.toNat) = .slice (some ⟨b, 0, none⟩) (s.row (3 + 2 * g.toNat)).length c ∧ e = .returned (.pointer (some ⟨b, i.toNat, none⟩))) ∧ Below w.heap.size w w' := by
  obtain ⟨fp, hm, _⟩ := H.hm
  have hc6 : w.cell? ⟨ph.bm, 6, none⟩ = some ph.hA := (blk_cell hm 6).trans rfl
  have HB := Aside0.mk (Below.refl w.heap.size w)
  obtain ⟨gh, c, e, hn, hcell⟩ := H.acell g g0 g1
  rw [e] at hc6
  obtain ⟨b, c', e', hl, _⟩ := own_int (H.rows (3 + 2 * g.toNat)) i h0 h1
  rw [e'] at hcell
  have HE := Aside0.mk e'
  clear H hm e e'
  go_enter Try.func64, Try.ntmps64
  go_wp2
  go_ret
  exact ⟨⟨b, c', HE.out, rfl⟩, HB.out⟩
set_option maxHeartbeats 2000000 in
theorem elem_out (w : World) {lo hi fl : Nat} {ph : Ph} {cs : List S49} {nA : Nat} {s : St} (H : MachIn w lo hi fl ph cs nA s) (g i : Int) (g0 : 0 ≤ g) (g1 : g < nA) (h : ¬ (0 ≤ i ∧ i < (s.row (3 + 2 * g.toNat)).length)) :
    Calls Try.prog 64 #[.pointer (some ⟨ph.bm, 0, none⟩), .int .i64 g, .int .i64 i] w fun e w' => e = .returned (.pointer none) ∧ Below w.heap.size w w' := by
  obtain ⟨fp, hm, _⟩ := H.hm
  have hc6 : w.cell? ⟨ph.bm, 6, none⟩ = some ph.hA := (blk_cell hm 6).trans rfl
  have HB := Aside0.mk (Below.refl w.heap.size w)
  obtain ⟨gh, c, e, hn, hcell⟩ := H.acell g g0 g1
  rw [e] at hc6
  obtain ⟨A, c', e'⟩ := own_slice (H.rows (3 + 2 * g.toNat))
  rw [e'] at hcell
  clear H hm e e'
  by_cases h0 : 0 ≤ i
  · have h1 : ¬ i < (s.row (3 + 2 * g.toNat)).length := fun h' => h ⟨h0, h'⟩
    clear h
    go_enter Try.func64, Try.ntmps64
    go_wp2
    go_ret
    exact ⟨rfl, HB.out⟩
  · clear h
    go_enter Try.func64, Try.ntmps64
    go_wp2
    go_ret
    exact ⟨rfl, HB.out⟩
/-! ### Fault -/
def badV : Option (Int × Int × Int) → Value
  | none => .tuple #[.agg #[.int .i64 0, .int .i64 0, .int .i64 0], .bool false]
  | some f => .tuple #[.agg #[.int .i64 f.1, .int .i64 f.2.1, .int .i64 f.2.2], .bool true]
def f52 (a b c : Int) : Array Value := #[.int .i64 a, .int .i64 b, .int .i64 c]
theorem f52_one (a b c : Int) : ∀ q ∈ (f52 a b c).toList, q.oneCell' = true := by
  intro q hq
  simp only [f52, List.mem_cons, List.not_mem_nil, or_false] at hq
  rcases hq with rfl | rfl | rfl <;> rfl
set_option maxHeartbeats 2000000 in
theorem fault_nil (w : World) :
    Calls Try.prog 27 #[.pointer none] w fun e w' => e = .returned (badV none) ∧ Below w.heap.size w w' := by
  have BW := Aside0.mk (Below.refl w.heap.size w)
  have hR := heap_alloc_new w (.cells (f52 0 0 0) 52)
  have HB2 := Aside0.mk (below_alloc (Below.refl w.heap.size w) (.cells (f52 0 0 0) 52))
  have hsz : w.heap.size ≤ (w.alloc (.cells (f52 0 0 0) 52)).heap.size := HB2.out.size
  simp only [f52] at hR HB2 hsz
  go_enter Try.func27, Try.ntmps27
  go_wp2_with (first | ((with_reducible refine gate_store (t := 52) (p := 2) rfl ?_); refine put_row ?hg ?hn 52 (.tmp 2) (.tmp 13) ?ho w.heap.size 52 _ (f52 0 0 0) ?hp ?hx ?hu hR ?ht ?hs ?h1 ?_; (case hg => rfl); (case hn => rfl); (case ho => rfl); (case hp => rfl); (case hx => rfl); (case hu => rfl); (case ht => kernel_rfl); (case hs => rfl); (case h1 => exact f52_one _ _ _); intro w2 hR2 hG))
  refine bodyPost_ret (results_ct rfl _ _ w.heap.size 52 _ (0, 0) _ rfl hR2 Try.underlying52 rfl (by kernel_rfl)) rfl ?_
  exact ⟨rfl, HB2.out.grown hG hsz (fun k hk => by injection hk with hk; omega)⟩
set_option maxHeartbeats 2000000 in
theorem fault_calls (w : World) {lo hi fl : Nat} {ph : Ph} {cs : List S49} {nA : Nat} {s : St} (H : MachIn w lo hi fl ph cs nA s) :
    Calls Try.prog 27 #[.pointer (some ⟨ph.bm, 0, none⟩)] w fun e w' => e = .returned (badV s.bad) ∧ Below w.heap.size w w' := by
  obtain ⟨fp, hm, hf⟩ := H.hm
  have BW := Aside0.mk (Below.refl w.heap.size w)
  have hR := heap_alloc_new w (.cells (f52 0 0 0) 52)
  have HB2 := Aside0.mk (below_alloc (Below.refl w.heap.size w) (.cells (f52 0 0 0) 52))
  have hsz : w.heap.size ≤ (w.alloc (.cells (f52 0 0 0) 52)).heap.size := HB2.out.size
  have hc8 : w.cell? ⟨ph.bm, 8, none⟩ = some fp := (blk_cell hm 8).trans rfl
  have hc8' := pw_cell_below HB2.out hc8
  have hm2 := below_read HB2.out hm
  simp only [f52] at hR HB2 hsz hc8'
  cases hs : s.bad with
  | none =>
    rw [hs] at hf
    obtain rfl : fp = _ := hf
    clear H hm hs hm2
    go_enter Try.func27, Try.ntmps27
    go_wp2_with (first | ((with_reducible refine gate_store (t := 52) (p := 2) rfl ?_); refine put_row ?hg ?hn 52 (.tmp 2) (.tmp 13) ?ho w.heap.size 52 _ (f52 0 0 0) ?hp ?hx ?hu hR ?ht ?hs ?h1 ?_; (case hg => rfl); (case hn => rfl); (case ho => rfl); (case hp => rfl); (case hx => rfl); (case hu => rfl); (case ht => kernel_rfl); (case hs => rfl); (case h1 => exact f52_one _ _ _); intro w2 hR2 hG))
    refine bodyPost_ret (results_ct rfl _ _ w.heap.size 52 _ (0, 0) _ rfl hR2 Try.underlying52 rfl (by kernel_rfl)) rfl ?_
    exact ⟨rfl, HB2.out.grown hG hsz (fun k hk => by injection hk with hk; omega)⟩
  | some f =>
    rw [hs] at hf
    obtain ⟨b, rfl, _, hb⟩ := hf
    have hb2 := below_read HB2.out hb
    have hf0 := (blk_cell hb2 0).trans rfl
    have hf1 := (blk_cell hb2 1).trans rfl
    have hf2 := (blk_cell hb2 2).trans rfl
    clear H hm hs hm2 hb hb2
    go_enter Try.func27, Try.ntmps27
    go_wp2_with (first | ((with_reducible refine gate_store (t := 52) (p := 2) rfl ?_); refine put_row ?hg ?hn 52 (.tmp 2) (.tmp 19) ?ho w.heap.size 52 _ (f52 f.1 f.2.1 f.2.2) ?hp ?hx ?hu hR ?ht ?hs ?h1 ?_; (case hg => rfl); (case hn => rfl); (case ho => rfl); (case hp => rfl); (case hx => rfl); (case hu => rfl); (case ht => kernel_rfl); (case hs => rfl); (case h1 => exact f52_one _ _ _); intro w2 hR2 hG))
    refine bodyPost_ret (results_ct rfl _ _ w.heap.size 52 _ (0, 0) _ rfl hR2 Try.underlying52 rfl (by kernel_rfl)) rfl ?_
    exact ⟨rfl, HB2.out.grown hG hsz (fun k hk => by injection hk with hk; omega)⟩
end Go.Proofs.Ytikjamcemnbhbaa.Mr
