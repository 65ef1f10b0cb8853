/- What of a machine is read: At, Owner, Vars, Globals, Array, Fault, elem; slices.Clone at whole numbers. -/
import Derived.Test.YtikjamcemnbhbaaMrNext
import Derived.Lib.LazyBuf
namespace Go.Proofs.Ytikjamcemnbhbaa.Mr
open Go.RowKit Go.Proofs.YtikjamcemnbhbaaW.PrintWords Go.Proofs.YtikjamcemnbhbaaW.PrintLast Go.Proofs.YtikjamcemnbhbaaW.PrintMore
set_option linter.unusedVariables false
set_option linter.unusedSimpArgs false
def atOf (cs : List S49) (s : St) (i : Int) : Int := if 0 ≤ i ∧ i < cs.length then s.pc i.toNat else -1
set_option maxHeartbeats 2000000 in
theorem at_calls (w : World) {lo hi fl : Nat} {ph : Ph} {cs : List S49} {nA : Nat} {s : St} (H : MachIn w lo hi fl ph cs nA s) (i : Int) :
    Calls Try.prog 24 #[.pointer (some ⟨ph.bm, 0, none⟩), .int .i64 i] w fun e w' => e = .returned (.int .i64 (atOf cs s i)) ∧ Below w.heap.size w w' := by
  have HT := Aside0.mk (thread_calls w H i)
  have HH := Aside0.mk H
  clear H
  unfold atOf
  by_cases c0 : 0 ≤ i ∧ i < cs.length
  · rw [if_pos c0]
    simp only [thr, if_pos c0] at HT
    go_enter Try.func24, Try.ntmps24
    go_wp2_with fail
    go_at_call 43
    refine HT.out.mono ?_
    rintro e w1 ⟨rfl, hb⟩
    have hth : w1.heap[ph.tb i.toNat]? = _ := below_read hb (HH.out.th i.toNat (by omega)).1
    have htc3 : w1.cell? ⟨ph.tb i.toNat, 3, none⟩ = some (.int .i64 (s.pc i.toNat)) := (blk_cell hth 3).trans rfl
    have HB := Aside0.mk hb
    clear hth HT HH hb
    go_wp2
    go_ret
    exact ⟨rfl, HB.out⟩
  · rw [if_neg c0]
    simp only [thr, if_neg c0] at HT
    clear HH
    go_enter Try.func24, Try.ntmps24
    go_wp2_with fail
    go_at_call 43
    refine HT.out.mono ?_
    rintro e w1 ⟨rfl, hb⟩
    have HB := Aside0.mk hb
    clear HT hb
    go_wp2
    go_ret
    exact ⟨rfl, HB.out⟩
set_option maxHeartbeats 2000000 in
theorem at_nil (w : World) (i : Int) :
    Calls Try.prog 24 #[.pointer none, .int .i64 i] w fun e w' => e = .returned (.int .i64 (-1)) ∧ Below w.heap.size w w' := by
  have HT := Aside0.mk (thread_nil w i)
  go_enter Try.func24, Try.ntmps24
  go_wp2_with fail
  go_at_call 43
  refine HT.out.mono ?_
  rintro e w1 ⟨rfl, hb⟩
  have HB := Aside0.mk hb
  clear HT hb
  go_wp2
  go_ret
  exact ⟨rfl, HB.out⟩
def ownOf (s : St) (i : Int) : Int := if 0 ≤ i ∧ i < (s.row 1).length then rd (s.row 1) i else -1
set_option maxHeartbeats 2000000 in
theorem owner_calls (w : World) {lo hi fl : Nat} {ph : Ph} {cs : List S49} {nA : Nat} {s : St} (H : MachIn w lo hi fl ph cs nA s) (i : Int) :
    Calls Try.prog 21 #[.pointer (some ⟨ph.bm, 0, none⟩), .int .i64 i] w fun e w' => e = .returned (.int .i64 (ownOf s i)) ∧ Below w.heap.size w w' := by
  obtain ⟨fp, hm, _⟩ := H.hm
  have hc7 : w.cell? ⟨ph.bm, 7, none⟩ = some (ph.rv 1) := (blk_cell hm 7).trans rfl
  have ho := H.rows 1
  have HB := Aside0.mk (Below.refl w.heap.size w)
  clear H hm
  unfold ownOf
  by_cases c0 : 0 ≤ i ∧ i < (s.row 1).length
  · rw [if_pos c0]
    obtain ⟨h0, h1⟩ := c0
    obtain ⟨g, c, e, hl, hcell, _⟩ := own_int ho i h0 h1
    rw [e] at hc7
    clear ho
    go_enter Try.func21, Try.ntmps21
    go_wp2
    go_ret
    exact ⟨rfl, HB.out⟩
  · rw [if_neg c0]
    obtain ⟨A, c, e⟩ := own_slice ho
    rw [e] at hc7
    clear ho
    by_cases h0 : 0 ≤ i
    · have h1 : ¬ i < (s.row 1).length := fun h => c0 ⟨h0, h⟩
      clear c0
      go_enter Try.func21, Try.ntmps21
      go_wp2
      go_ret
      exact ⟨rfl, HB.out⟩
    · clear c0
      go_enter Try.func21, Try.ntmps21
      go_wp2
      go_ret
      exact ⟨rfl, HB.out⟩
set_option maxHeartbeats 2000000 in
theorem owner_nil (w : World) (i : Int) :
    Calls Try.prog 21 #[.pointer none, .int .i64 i] w fun e w' => e = .returned (.int .i64 (-1)) ∧ Below w.heap.size w w' := by
  have HB := Aside0.mk (Below.refl w.heap.size w)
  go_enter Try.func21, Try.ntmps21
  go_wp2
  go_ret
  exact ⟨rfl, HB.out⟩
/-! ### slices.Clone -/
attribute [local go_sem] Go.run_eql_slice_nil
set_option maxHeartbeats 2000000 in
set_option maxRecDepth 100000 in
theorem clone_calls (w : World) (A : Option Addr) (c : Nat) (xs : List Int) (hr : ReadsInt w .i64 A xs.length xs) (hl : xs.length ≤ 1000) :
    Calls Try.prog 41 #[.slice A xs.length c] w fun e w' => ∃ v, e = .returned v ∧ w'.ownsRow w.heap.size 3 1 v xs.length (nums .i64 xs) ∧ Below w.heap.size w w' := by
  have HB := Aside0.mk (Below.refl w.heap.size w)
  have HR := Aside0.mk hr
  have HL := Aside0.mk hl
  clear hl
  cases A with
  | none =>
    have h0 : xs = [] := by
      rcases Nat.eq_zero_or_pos xs.length with h | h
      · exact List.eq_nil_of_length_eq_zero h
      · obtain ⟨ad, h, _⟩ := hr.2.2 h; cases h
    subst h0
    clear hr HR
    have hu22 := Try.underlying22
    go_enter Try.func41, Try.ntmps41
    go_wp2
    go_ret
    exact ⟨_, rfl, own_nil _ _ _ _, HB.out⟩
  | some ad =>
    clear hr
    have hu22 := Try.underlying22
    go_enter Try.func41, Try.ntmps41
    go_wp2_with (first | ((with_reducible refine gate_dst (N := 7) rfl ?_); refine print_append_row (w0 := w) w.heap.size ?hg (.tmp 5) (.tmp 6) 22 3 .i64 8 ?ho ?ht ?hi ?hb (.slice (some ⟨w.heap.size, 0, none⟩) 0 0) [] xs (some ad) xs.length c ?hs ?hx ?HO ?HR ?HB ?hbase ?hl ?_; (case hg => rfl); (case ho => rfl); (case ht => exact hu22); (case hi => exact info3); (case hb => decide); (case hs => rfl); (case hx => rfl); (case HO => exact World.ownsRow_made w #[] 0 (Nat.le_refl _) (Nat.zero_le _) (by simp)); (case HR => exact HR.out.below (below_alloc (Below.refl _ _) _)); (case HB => exact below_alloc HB.out _); (case hbase => simp); (case hl => have h := HL.out; simp only [List.length_nil]; omega); intro v1 w1 ho1 hb1 hg1 _))
    go_ret
    exact ⟨_, rfl, by simpa using ho1, hb1⟩
/-! ### Vars, Globals, Array -/
def rowOut (xs : List Int) (w : World) (e : Ending) (w' : World) : Prop := ∃ v, e = .returned v ∧ w'.ownsRow w.heap.size 3 1 v xs.length (nums .i64 xs) ∧ Below w.heap.size w w'
set_option maxHeartbeats 2000000 in
theorem globals_calls (w : World) {lo hi fl : Nat} {ph : Ph} {cs : List S49} {nA : Nat} {s : St} (H : MachIn w lo hi fl ph cs nA s) (hl : (s.row 0).length ≤ 1000) :
    Calls Try.prog 28 #[.pointer (some ⟨ph.bm, 0, none⟩)] w fun e w' => rowOut (s.row 0) w e w' := by
  obtain ⟨fp, hm, _⟩ := H.hm
  have hc5 : w.cell? ⟨ph.bm, 5, none⟩ = some (ph.rv 0) := (blk_cell hm 5).trans rfl
  obtain ⟨A, c, e, hR⟩ := own_reads (H.rows 0)
  rw [e] at hc5
  have HC := Aside0.mk (clone_calls w A c (s.row 0) hR hl)
  clear H hm hl hR
  go_enter Try.func28, Try.ntmps28
  go_wp2_with (go_at_call 41; refine HC.out.mono ?_; rintro e w1 ⟨v, rfl, ho, hb⟩)
  go_ret
  exact ⟨_, rfl, ho, hb⟩
set_option maxHeartbeats 2000000 in
theorem globals_nil (w : World) :
    Calls Try.prog 28 #[.pointer none] w fun e w' => rowOut [] w e w' := by
  have HB := Aside0.mk (Below.refl w.heap.size w)
  go_enter Try.func28, Try.ntmps28
  go_wp2
  go_ret
  exact ⟨_, rfl, own_nil _ _ _ _, HB.out⟩
def varsOf (cs : List S49) (s : St) (i : Int) : List Int := if 0 ≤ i ∧ i < cs.length then s.row (4 + 2 * i.toNat) else []
set_option maxHeartbeats 2000000 in
theorem vars_calls (w : World) {lo hi fl : Nat} {ph : Ph} {cs : List S49} {nA : Nat} {s : St} (H : MachIn w lo hi fl ph cs nA s) (i : Int) (hl : (varsOf cs s i).length ≤ 1000) :
    Calls Try.prog 25 #[.pointer (some ⟨ph.bm, 0, none⟩), .int .i64 i] w fun e w' => rowOut (varsOf cs s i) w e w' := by
  have HT := Aside0.mk (thread_calls w H i)
  have HH := Aside0.mk H
  clear H
  unfold varsOf at hl ⊢
  by_cases c0 : 0 ≤ i ∧ i < cs.length
  · rw [if_pos c0] at hl ⊢
    simp only [thr, if_pos c0] at HT
    have HL := Aside0.mk hl
    clear hl
    go_enter Try.func25, Try.ntmps25
    go_wp2_with fail
    go_at_call 43
    refine HT.out.mono ?_
    rintro e w1 ⟨rfl, hb⟩
    have hth : w1.heap[ph.tb i.toNat]? = _ := below_read hb (HH.out.th i.toNat (by omega)).1
    have htc0 : w1.cell? ⟨ph.tb i.toNat, 0, none⟩ = some (ph.rv (4 + 2 * i.toNat)) := (blk_cell hth 0).trans rfl
    obtain ⟨A, c, e, hR⟩ := own_reads ((HH.out.below hb).rows (4 + 2 * i.toNat))
    rw [e] at htc0
    have HC := Aside0.mk (clone_calls w1 A c _ hR HL.out)
    have HB := Aside0.mk hb
    clear hth HT HH hb hR e HL
    go_wp2_with (go_at_call 41; refine HC.out.mono ?_; rintro e w2 ⟨v, rfl, ho, hb2⟩)
    go_ret
    exact ⟨_, rfl, ⟨ho.1, ho.2.imp id (fun ⟨g, cap, cur, h1, h2, h3⟩ => ⟨g, cap, cur, h1, Nat.le_trans HB.out.size h2, h3⟩)⟩, below_on HB.out hb2⟩
  · rw [if_neg c0] at hl ⊢
    simp only [thr, if_neg c0] at HT
    clear HH hl
    go_enter Try.func25, Try.ntmps25
    go_wp2_with fail
    go_at_call 43
    refine HT.out.mono ?_
    rintro e w1 ⟨rfl, hb⟩
    have HB := Aside0.mk hb
    clear HT hb
    go_wp2
    go_ret
    exact ⟨_, rfl, own_nil _ _ _ _, HB.out⟩
set_option maxHeartbeats 2000000 in
theorem vars_nil (w : World) (i : Int) :
    Calls Try.prog 25 #[.pointer none, .int .i64 i] w fun e w' => rowOut [] w e w' := by
  have HT := Aside0.mk (thread_nil w i)
  go_enter Try.func25, Try.ntmps25
  go_wp2_with fail
  go_at_call 43
  refine HT.out.mono ?_
  rintro e w1 ⟨rfl, hb⟩
  have HB := Aside0.mk hb
  clear HT hb
  go_wp2
  go_ret
  exact ⟨_, rfl, own_nil _ _ _ _, HB.out⟩
end Go.Proofs.Ytikjamcemnbhbaa.Mr
