/- meddlerlaw6.weigh, weighCond, weighStmts: a positive answer bounds what was weighed. -/
import Derived.Test.YtfeaekdhpkdljaaDoorShStmt
import Derived.Deep.DeepCutAuto
import Derived.Deep.CutBlock
namespace Go.Proofs.YtfeaekdhpkdljaaDoor.Sh
open Go.RowKit Go.Proofs.YtfeaekdhpkdljaaDoorW.PrintWords Go.Proofs.YtfeaekdhpkdljaaDoorW.PrintLast
set_option linter.unusedVariables false
set_option linter.unusedSimpArgs false
def wE : Nat → S30 → Nat
  | 0, _ => 0
  | n + 1, e => 1 + e.f3.size + e.f4.length + (e.f4.map (wE n)).sum
def wfE : Nat → S30 → Prop
  | 0, _ => True
  | n + 1, e => e.f3.size ≤ 140737488355328 ∧ e.f4.length ≤ 140737488355328 ∧ ∀ x ∈ e.f4, wfE n x
noncomputable abbrev wES (e : S30) : Nat := wE (SizeOf.sizeOf e) e
abbrev wfES (e : S30) : Prop := wfE (SizeOf.sizeOf e) e
noncomputable def wC : Nat → S33 → Nat
  | 0, _ => 0
  | n + 1, e => 1 + e.f2.length + e.f3.length + (e.f2.map wES).sum + (e.f3.map (wC n)).sum
def wfC : Nat → S33 → Prop
  | 0, _ => True
  | n + 1, e => e.f2.length ≤ 140737488355328 ∧ e.f3.length ≤ 140737488355328 ∧ (∀ x ∈ e.f2, wfES x) ∧ ∀ x ∈ e.f3, wfC n x
noncomputable abbrev wCS (e : S33) : Nat := wC (SizeOf.sizeOf e) e
abbrev wfCS (e : S33) : Prop := wfC (SizeOf.sizeOf e) e
noncomputable def wS : Nat → S54 → Nat
  | 0, _ => 0
  | n + 1, s => s.f1.size + wES s.f3 + wES s.f2 + wCS s.f4 + (s.f5.length + (s.f5.map (wS n)).sum) + (s.f6.length + (s.f6.map (wS n)).sum)
def wfS : Nat → S54 → Prop
  | 0, _ => True
  | n + 1, s => s.f1.size ≤ 140737488355328 ∧ wfES s.f2 ∧ wfES s.f3 ∧ wfCS s.f4 ∧ (s.f5.length ≤ 140737488355328 ∧ ∀ x ∈ s.f5, wfS n x) ∧ s.f6.length ≤ 140737488355328 ∧ ∀ x ∈ s.f6, wfS n x
/-- What an answer r tells, behind 'left' ahead of it. -/
def WR (left : Int) (W : Nat) (r : Int) : Prop := r ≤ left ∧ (left ≤ 0 → left - 562949953421312 ≤ r) ∧ (0 < left → -562949953421312 ≤ r) ∧ (0 < r → (W : Int) ≤ left - r)
/-- Likewise of statements. -/
def WT (left : Int) (W : Nat) (r : Int) : Prop := r ≤ left ∧ (left ≤ 0 → left - 140737488355328 ≤ r) ∧ (0 < left → -2251799813685248 - left * 140737488355328 ≤ r) ∧ (0 < r → (W : Int) ≤ left - r)
theorem sum_take {α : Type} (f : α → Nat) (xs : List α) (i : Nat) (h : i < xs.length) : ((xs.take (i + 1)).map f).sum = ((xs.take i).map f).sum + f xs[i] := by
  rw [List.take_succ_eq_append_getElem h, List.map_append, List.sum_append]
  simp
theorem wrap_in {x : Int} (h : -1152921504606846976 ≤ x ∧ x ≤ 1152921504606846976) : wrap64 x = x := IntWalk.wrap64_in _ (by omega)
abbrev IH9 (n : Nat) : Prop := ∀ (e : S30) (A : Option Addr) (c : Nat) (left : Int) (w : World), k30.C w A e.f4.length e.f4 → e.f4.length ≤ c → SizeOf.sizeOf e ≤ n → wfE n e → -1152921504606846976 ≤ left - 1000000000000000 → left ≤ 1500 → Calls Tryd.prog 9 #[.agg #[.int .i64 e.f0, .int .i64 e.f1, .int .i64 e.f2, .string e.f3, .slice A e.f4.length c], .int .i64 left] w fun q w' => ∃ r, q = .returned (.int .i64 r) ∧ WR left (wE n e) r ∧ Below w.heap.size w w'
set_option maxHeartbeats 8000000 in
set_option maxRecDepth 100000 in
theorem weigh_step (n : Nat) (ih : IH9 n) : IH9 (n + 1) := by
  intro e A c left w hC hc hs hw h0 h1
  have HC := Aside0.mk hC
  have HIH := Aside0.mk ih
  have HS := Aside0.mk hs
  have HW := Aside0.mk hw
  have hsz : e.f3.size ≤ 140737488355328 := hw.1
  have hln : e.f4.length ≤ 140737488355328 := hw.2.1
  have hW : wE (n + 1) e = 1 + e.f3.size + e.f4.length + (e.f4.map (wE n)).sum := rfl
  rw [hW]
  clear hC ih hs hw hW hc
  go_enter Tryd.func9, Tryd.ntmps9
  go_upto_block 0 with (first | ((with_reducible refine gate_dst (N := 2) rfl ?_); refine box_event ?hg (N := 2) ?hd (cs := #[.int .i64 e.f0, .int .i64 e.f1, .int .i64 e.f2, .string e.f3, .slice A e.f4.length c]) (t := 30) ?hr ?_; (case hd => rfl); (case hg => rfl); (case hr => first | (go_simp; done) | (go_simp; rfl)); intro ge hgg w1 hlit hb; have HG := Aside0.mk hlit; have HB1 := Aside0.mk hb; have hy3 : w1.cell? ⟨ge, 3, none⟩ = some (.string e.f3) := (blk_cell hlit 3).trans rfl; have hy4 : w1.cell? ⟨ge, 4, none⟩ = some (.slice A e.f4.length c) := (blk_cell hlit 4).trans rfl; clear hlit hb hgg))
  have hw1 : wrap64 (left - 1) = left - 1 := wrap_in (by omega)
  have hw2 : wrap64 (left - 1 - (e.f3.size : Int)) = left - 1 - (e.f3.size : Int) := wrap_in (by omega)
  have hw3 : wrap64 (left - 1 - (e.f3.size : Int) - (e.f4.length : Int)) = left - 1 - (e.f3.size : Int) - (e.f4.length : Int) := wrap_in (by omega)
  try simp only [hw1, hw2, hw3]
  go_wp2_with fail
  go_loopg [1, 5] e.f4.length (fun gg s1 s5 wr => ∃ (i : Nat) (x : Int), i ≤ e.f4.length ∧ e.f4.length - i ≤ gg ∧ s5 = .int .i64 i ∧ s1 = .int .i64 x ∧ x ≤ left ∧ (left ≤ 0 → left - 562949953421312 ≤ x) ∧ (0 < left → -562949953421312 ≤ x) ∧ (0 < x → ((1 + e.f3.size + e.f4.length + ((e.f4.take i).map (wE n)).sum : Nat) : Int) ≤ left - x) ∧ Aside0 (Below w.heap.size w wr ∧ wr.heap[ge]? = some (.cells #[.int .i64 e.f0, .int .i64 e.f1, .int .i64 e.f2, .string e.f3, .slice A e.f4.length c] 30 (0, 0))))
  case atStart => exact ⟨0, _, Nat.zero_le _, by omega, rfl, rfl, by omega, by omega, by omega, by intro _; simp; omega, ⟨HB1.out, HG.out⟩⟩
  case round =>
    obtain ⟨i, x, hi, hgg, rfl, rfl, hx1, hx2, hx3, hx4, HL⟩ := hrel
    generalize wr = wo at *
    have hq4 : wo.cell? ⟨ge, 4, none⟩ = some (.slice A e.f4.length c) := (blk_cell HL.out.2 4).trans rfl
    have done : (i = e.f4.length ∨ x ≤ 0) → WR left (1 + e.f3.size + e.f4.length + (e.f4.map (wE n)).sum) x := by
      intro hd
      refine ⟨hx1, hx2, hx3, fun hp => ?_⟩
      have he : e.f4.take i = e.f4 := List.take_of_length_le (by omega)
      rw [he] at hx4
      exact hx4 hp
    have HD := Aside0.mk done
    clear done
    by_cases hlt : i < e.f4.length
    · have hltz : (i : Int) < (e.f4.length : Int) := by omega
      by_cases hpx : 0 < x
      · obtain ⟨ad, cc, rfl, _, hK, hc0⟩ := Kd.C_get HC.out z30 (i : Int) (by omega) hltz
        have hx : e.f4.getD (i : Int).toNat z30 = e.f4[i] := by simp [hlt]
        rw [hx] at hK
        have hc1 : ∀ j v, cc[j]? = some v → wo.cell? ((ad.add (i * 5)).add j) = some v := fun j v hj => by
          have h := hc0 j v hj
          rw [Int.toNat_natCast] at h
          rw [add_add_]
          exact pw_cell_below HL.out.1 h
        have hm := List.getElem_mem hlt
        have HKID := Aside0.mk (HIH.out e.f4[i])
        have hst := Nat.le_of_lt_succ (Nat.lt_of_lt_of_le (show SizeOf.sizeOf e.f4[i] < SizeOf.sizeOf e by
          have h1 := List.sizeOf_lt_of_mem hm
          obtain ⟨a1, a2, a3, a4, a5⟩ := e
          simp only [S30.mk.sizeOf_spec]
          simp only at h1 ⊢
          omega) HS.out)
        have hwk := HW.out.2.2 _ hm
        have hsm := sum_take (wE n) e.f4 i hlt
        obtain ⟨y, hy⟩ : ∃ y, e.f4[i] = y := ⟨_, rfl⟩
        rw [hy] at hK HKID hst hwk hsm
        obtain ⟨K, d, rfl, l4, g4⟩ := k30_open hK
        have HCC := Aside0.mk hc1
        have HG4 := Aside0.mk (Kd.C_below g4 HL.out.1)
        have HDE := Aside0.mk (⟨l4, hst, hwk⟩ : y.f4.length ≤ d ∧ SizeOf.sizeOf y ≤ n ∧ wfE n y)
        have HSM := Aside0.mk hsm
        clear hc0 hc1 hK hx hm l4 g4 hst hwk hsm hy hlt
        go_wp2_with (first | ((with_reducible refine gate_dst (N := 31) rfl ?_); (try (refine gate_guard (by rfl) ?_; dsimp only)); refine load_any ?hg 30 (.tmp 30) ?ho (ad.add (i * 5)) ?hx [.int .i64 y.f0, .int .i64 y.f1, .int .i64 y.f2, .string y.f3, .slice K y.f4.length d] _ Tryd.underlying30 ?hd ?hi HCC.out ?_; (case hg => rfl); (case ho => rfl); (case hx => rfl); (case hd => rfl); (case hi => kernel_rfl)))
        refine (HKID.out K d x wo HG4.out HDE.out.1 HDE.out.2.1 HDE.out.2.2 (by omega) (by omega)).mono ?_
        rintro q w3 ⟨r, rfl, ⟨q1, q2, q3, q4⟩, hb⟩
        have HB3 := Aside0.mk (⟨below_then HL.out.1 HL.out.1.size hb, (hb.block ge (blk_lt HL.out.2)).trans HL.out.2⟩ : Below w.heap.size w w3 ∧ w3.heap[ge]? = some (.cells #[.int .i64 e.f0, .int .i64 e.f1, .int .i64 e.f2, .string e.f3, .slice (some ad) e.f4.length c] 30 (0, 0)))
        clear hb
        go_wp2_with fail
        go_roundg (e.f4.length - (i + 1))
        case measure => omega
        case rel => exact ⟨i + 1, r, by omega, by omega, by go_num, rfl, by omega, by omega, by omega, by have h := HSM.out; rw [h]; omega, HB3⟩
      · have HWR := Aside0.mk (HD.out (.inr (by omega)))
        clear hlt
        go_wp2_with fail
        go_ret
        exact ⟨x, rfl, HWR.out, HL.out.1⟩
    · have hltz : ¬ (i : Int) < (e.f4.length : Int) := by omega
      have HWR := Aside0.mk (HD.out (.inl (by omega)))
      clear hlt
      go_wp2_with fail
      go_ret
      exact ⟨x, rfl, HWR.out, HL.out.1⟩
theorem weigh_calls : ∀ n, IH9 n
  | 0 => fun e A c left w hC hc hs => by
    obtain ⟨a, b, c, d, l⟩ := e
    simp only [S30.mk.sizeOf_spec] at hs
    omega
  | n + 1 => weigh_step n (weigh_calls n)
abbrev IH10 (n : Nat) : Prop := ∀ (e : S33) (A2 A3 : Option Addr) (c2 c3 : Nat) (left : Int) (w : World), k30.C w A2 e.f2.length e.f2 → e.f2.length ≤ c2 → k33.C w A3 e.f3.length e.f3 → e.f3.length ≤ c3 → SizeOf.sizeOf e ≤ n → wfC n e → -1152921504606846976 ≤ left - 1000000000000000 → left ≤ 1500 → Calls Tryd.prog 10 #[.agg #[.int .i64 e.f0, .int .i64 e.f1, .slice A2 e.f2.length c2, .slice A3 e.f3.length c3], .int .i64 left] w fun q w' => ∃ r, q = .returned (.int .i64 r) ∧ WR left (wC n e) r ∧ Below w.heap.size w w'
set_option maxHeartbeats 8000000 in
set_option maxRecDepth 100000 in
theorem weighCond_step (n : Nat) (ih : IH10 n) : IH10 (n + 1) := by
  intro e A2 A3 c2 c3 left w hC2 hc2 hC3 hc3 hs hw h0 h1
  have HC2 := Aside0.mk hC2
  have HC3 := Aside0.mk hC3
  have HIH := Aside0.mk ih
  have HS := Aside0.mk hs
  have HW := Aside0.mk hw
  have hl2 : e.f2.length ≤ 140737488355328 := hw.1
  have hl3 : e.f3.length ≤ 140737488355328 := hw.2.1
  have hW : wC (n + 1) e = 1 + e.f2.length + e.f3.length + (e.f2.map wES).sum + (e.f3.map (wC n)).sum := rfl
  rw [hW]
  clear hC2 hC3 ih hs hw hW hc2 hc3
  go_enter Tryd.func10, Tryd.ntmps10
  go_upto_block 0 with (first | ((with_reducible refine gate_dst (N := 2) rfl ?_); refine box_event ?hg (N := 2) ?hd (cs := #[.int .i64 e.f0, .int .i64 e.f1, .slice A2 e.f2.length c2, .slice A3 e.f3.length c3]) (t := 33) ?hr ?_; (case hd => rfl); (case hg => rfl); (case hr => first | (go_simp; done) | (go_simp; rfl)); intro ge hgg w1 hlit hb; have HG := Aside0.mk hlit; have HB1 := Aside0.mk hb; have hy2 : w1.cell? ⟨ge, 2, none⟩ = some (.slice A2 e.f2.length c2) := (blk_cell hlit 2).trans rfl; have hy3 : w1.cell? ⟨ge, 3, none⟩ = some (.slice A3 e.f3.length c3) := (blk_cell hlit 3).trans rfl; clear hlit hb hgg))
  have hw1 : wrap64 (left - 1) = left - 1 := wrap_in (by omega)
  have hw2 : wrap64 (left - 1 - (e.f2.length : Int)) = left - 1 - (e.f2.length : Int) := wrap_in (by omega)
  have hw3 : wrap64 (left - 1 - (e.f2.length : Int) - (e.f3.length : Int)) = left - 1 - (e.f2.length : Int) - (e.f3.length : Int) := wrap_in (by omega)
  try simp only [hw1, hw2, hw3]
  go_cut [1, 5] (fun s1 sx wx => ∃ x : Int, s1 = .int .i64 x ∧ x ≤ left ∧ (left ≤ 0 → left - 562949953421312 ≤ x) ∧ (0 < left → -562949953421312 ≤ x) ∧ (0 < x → ((1 + e.f2.length + e.f3.length + (e.f2.map wES).sum : Nat) : Int) ≤ left - x) ∧ Aside0 (Below w.heap.size w wx ∧ wx.heap[ge]? = some (.cells #[.int .i64 e.f0, .int .i64 e.f1, .slice A2 e.f2.length c2, .slice A3 e.f3.length c3] 33 (0, 0))))
  case first =>
    go_wp2_with fail
    go_loopg [1, 5] e.f2.length (fun gg s1 sx wr => ∃ (i : Nat) (x : Int), i ≤ e.f2.length ∧ e.f2.length - i ≤ gg ∧ sx = .int .i64 i ∧ s1 = .int .i64 x ∧ x ≤ left ∧ (left ≤ 0 → left - 562949953421312 ≤ x) ∧ (0 < left → -562949953421312 ≤ x) ∧ (0 < x → ((1 + e.f2.length + e.f3.length + ((e.f2.take i).map wES).sum : Nat) : Int) ≤ left - x) ∧ Aside0 (Below w.heap.size w wr ∧ wr.heap[ge]? = some (.cells #[.int .i64 e.f0, .int .i64 e.f1, .slice A2 e.f2.length c2, .slice A3 e.f3.length c3] 33 (0, 0))))
    case atStart => exact ⟨0, _, Nat.zero_le _, by omega, rfl, rfl, by omega, by omega, by omega, by intro _; simp; omega, ⟨HB1.out, HG.out⟩⟩
    case round =>
      obtain ⟨i, x, hi, hgg, rfl, rfl, hx1, hx2, hx3, hx4, HL⟩ := hrel
      generalize wr = wo at *
      have hq4 : wo.cell? ⟨ge, 2, none⟩ = some (.slice A2 e.f2.length c2) := (blk_cell HL.out.2 2).trans rfl
      have done : (i = e.f2.length ∨ x ≤ 0) → (0 < x → ((1 + e.f2.length + e.f3.length + (e.f2.map wES).sum : Nat) : Int) ≤ left - x) := by
        intro hd hp
        have he : e.f2.take i = e.f2 := List.take_of_length_le (by omega)
        rw [he] at hx4
        exact hx4 hp
      have HD := Aside0.mk done
      clear done
      by_cases hlt : i < e.f2.length
      · have hltz : (i : Int) < (e.f2.length : Int) := by omega
        by_cases hpx : 0 < x
        · obtain ⟨ad, cc, rfl, _, hK, hc0⟩ := Kd.C_get HC2.out z30 (i : Int) (by omega) hltz
          have hx : e.f2.getD (i : Int).toNat z30 = e.f2[i] := by simp [hlt]
          rw [hx] at hK
          have hc1 : ∀ j v, cc[j]? = some v → wo.cell? ((ad.add (i * 5)).add j) = some v := fun j v hj => by
            have h := hc0 j v hj
            rw [Int.toNat_natCast] at h
            rw [add_add_]
            exact pw_cell_below HL.out.1 h
          have hm := List.getElem_mem hlt
          have hsm := sum_take wES e.f2 i hlt
          have hwk := HW.out.2.2.1 _ hm
          obtain ⟨y, hy⟩ : ∃ y, e.f2[i] = y := ⟨_, rfl⟩
          rw [hy] at hK hwk hsm
          obtain ⟨K, d, rfl, l4, g4⟩ := k30_open hK
          have HCC := Aside0.mk hc1
          have HKID := Aside0.mk (weigh_calls _ y K d x wo (Kd.C_below g4 HL.out.1) l4 (Nat.le_refl _) hwk (by omega) (by omega))
          have HSM := Aside0.mk (show ((e.f2.take (i + 1)).map wES).sum = ((e.f2.take i).map wES).sum + wE (SizeOf.sizeOf y) y from hsm)
          clear hc0 hc1 hK hx hm l4 g4 hwk hsm hy hlt
          go_wp2_with (first | ((with_reducible refine gate_dst (N := 32) rfl ?_); (try (refine gate_guard (by rfl) ?_; dsimp only)); refine load_any ?hg 30 (.tmp 31) ?ho (ad.add (i * 5)) ?hx [.int .i64 y.f0, .int .i64 y.f1, .int .i64 y.f2, .string y.f3, .slice K y.f4.length d] _ Tryd.underlying30 ?hd ?hi HCC.out ?_; (case hg => rfl); (case ho => rfl); (case hx => rfl); (case hd => rfl); (case hi => kernel_rfl)))
          refine HKID.out.mono ?_
          rintro q w3 ⟨r, rfl, ⟨q1, q2, q3, q4⟩, hb⟩
          have HB3 := Aside0.mk (⟨below_then HL.out.1 HL.out.1.size hb, (hb.block ge (blk_lt HL.out.2)).trans HL.out.2⟩ : Below w.heap.size w w3 ∧ w3.heap[ge]? = some (.cells #[.int .i64 e.f0, .int .i64 e.f1, .slice (some ad) e.f2.length c2, .slice A3 e.f3.length c3] 33 (0, 0)))
          clear hb
          go_wp2_with fail
          go_roundg (e.f2.length - (i + 1))
          case measure => omega
          case rel => exact ⟨i + 1, r, by omega, by omega, by go_num, rfl, by omega, by omega, by omega, by have h := HSM.out; rw [h]; omega, HB3⟩
        · have hqw := HD.out (.inr (by omega))
          clear hlt
          go_wp2_with fail
          go_meet
          exact ⟨x, rfl, hx1, hx2, hx3, hqw, HL⟩
      · have hltz : ¬ (i : Int) < (e.f2.length : Int) := by omega
        have hqw := HD.out (.inl (by omega))
        clear hlt
        go_wp2_with fail
        go_meet
        exact ⟨x, rfl, hx1, hx2, hx3, hqw, HL⟩
  case rest =>
    have HCU := hcut
    clear hcut
    obtain ⟨x0, rfl, h2, h3, h4, h5, HP⟩ := HCU
    generalize wc = wk at *
    have hq3 : wk.cell? ⟨ge, 3, none⟩ = some (.slice A3 e.f3.length c3) := (blk_cell HP.out.2 3).trans rfl
    go_upto_block 2 with fail
    go_wp2_with fail
    go_loopg [1, 6] e.f3.length (fun gg s1 sx wr => ∃ (i : Nat) (x : Int), i ≤ e.f3.length ∧ e.f3.length - i ≤ gg ∧ sx = .int .i64 i ∧ s1 = .int .i64 x ∧ x ≤ left ∧ (left ≤ 0 → left - 562949953421312 ≤ x) ∧ (0 < left → -562949953421312 ≤ x) ∧ (0 < x → ((1 + e.f2.length + e.f3.length + (e.f2.map wES).sum + ((e.f3.take i).map (wC n)).sum : Nat) : Int) ≤ left - x) ∧ Aside0 (Below w.heap.size w wr ∧ wr.heap[ge]? = some (.cells #[.int .i64 e.f0, .int .i64 e.f1, .slice A2 e.f2.length c2, .slice A3 e.f3.length c3] 33 (0, 0))))
    case atStart => exact ⟨0, x0, Nat.zero_le _, by omega, rfl, rfl, h2, h3, h4, by simpa using h5, ⟨HP.out.1, HP.out.2⟩⟩
    case round =>
      obtain ⟨i, x, hi, hgg, rfl, rfl, hx1, hx2, hx3, hx4, HL⟩ := hrel
      generalize wr = wo at *
      have hq4 : wo.cell? ⟨ge, 3, none⟩ = some (.slice A3 e.f3.length c3) := (blk_cell HL.out.2 3).trans rfl
      have done : (i = e.f3.length ∨ x ≤ 0) → (0 < x → ((1 + e.f2.length + e.f3.length + (e.f2.map wES).sum + (e.f3.map (wC n)).sum : Nat) : Int) ≤ left - x) := by
        intro hd hp
        have he : e.f3.take i = e.f3 := List.take_of_length_le (by omega)
        rw [he] at hx4
        exact hx4 hp
      have HD := Aside0.mk done
      clear done
      by_cases hlt : i < e.f3.length
      · have hltz : (i : Int) < (e.f3.length : Int) := by omega
        by_cases hpx : 0 < x
        · obtain ⟨ad, cc, rfl, _, hK, hc0⟩ := Kd.C_get HC3.out z33 (i : Int) (by omega) hltz
          have hx : e.f3.getD (i : Int).toNat z33 = e.f3[i] := by simp [hlt]
          rw [hx] at hK
          have hc1 : ∀ j v, cc[j]? = some v → wo.cell? ((ad.add (i * 4)).add j) = some v := fun j v hj => by
            have h := hc0 j v hj
            rw [Int.toNat_natCast] at h
            rw [add_add_]
            exact pw_cell_below HL.out.1 h
          have hm := List.getElem_mem hlt
          have hsm := sum_take (wC n) e.f3 i hlt
          have hwk := HW.out.2.2.2 _ hm
          have hst := Nat.le_of_lt_succ (Nat.lt_of_lt_of_le (show SizeOf.sizeOf e.f3[i] < SizeOf.sizeOf e by
            have h1 := List.sizeOf_lt_of_mem hm
            obtain ⟨a1, a2, a3, a4⟩ := e
            simp only [S33.mk.sizeOf_spec]
            simp only at h1 ⊢
            omega) HS.out)
          obtain ⟨y, hy⟩ : ∃ y, e.f3[i] = y := ⟨_, rfl⟩
          rw [hy] at hK hwk hsm hst
          obtain ⟨K, d, K2, d2, rfl, l2, g2, l3, g3⟩ := k33_open hK
          have HCC := Aside0.mk hc1
          have HKID := Aside0.mk (HIH.out y K K2 d d2 x wo (Kd.C_below g2 HL.out.1) l2 (Kd.C_below g3 HL.out.1) l3 hst hwk (by omega) (by omega))
          have HSM := Aside0.mk hsm
          clear hc0 hc1 hK hx hm l2 g2 l3 g3 hwk hsm hst hy hlt
          go_wp2_with (first | ((with_reducible refine gate_dst (N := 50) rfl ?_); (try (refine gate_guard (by rfl) ?_; dsimp only)); refine load_any ?hg 33 (.tmp 49) ?ho (ad.add (i * 4)) ?hx [.int .i64 y.f0, .int .i64 y.f1, .slice K y.f2.length d, .slice K2 y.f3.length d2] _ Tryd.underlying33 ?hd ?hi HCC.out ?_; (case hg => rfl); (case ho => rfl); (case hx => rfl); (case hd => rfl); (case hi => kernel_rfl)))
          refine HKID.out.mono ?_
          rintro q w3 ⟨r, rfl, ⟨q1, q2, q3, q4⟩, hb⟩
          have HB3 := Aside0.mk (⟨below_then HL.out.1 HL.out.1.size hb, (hb.block ge (blk_lt HL.out.2)).trans HL.out.2⟩ : Below w.heap.size w w3 ∧ w3.heap[ge]? = some (.cells #[.int .i64 e.f0, .int .i64 e.f1, .slice A2 e.f2.length c2, .slice (some ad) e.f3.length c3] 33 (0, 0)))
          clear hb
          go_wp2_with fail
          go_roundg (e.f3.length - (i + 1))
          case measure => omega
          case rel => exact ⟨i + 1, r, by omega, by omega, by go_num, rfl, by omega, by omega, by omega, by have h := HSM.out; rw [h]; omega, HB3⟩
        · have hqw := HD.out (.inr (by omega))
          clear hlt
          go_wp2_with fail
          go_ret
          exact ⟨x, rfl, ⟨hx1, hx2, hx3, hqw⟩, HL.out.1⟩
      · have hltz : ¬ (i : Int) < (e.f3.length : Int) := by omega
        have hqw := HD.out (.inl (by omega))
        clear hlt
        go_wp2_with fail
        go_ret
        exact ⟨x, rfl, ⟨hx1, hx2, hx3, hqw⟩, HL.out.1⟩
theorem weighCond_calls : ∀ n, IH10 n
  | 0 => fun e A2 A3 c2 c3 left w h2 hc2 h3 hc3 hs => by
    obtain ⟨a, b, c, d⟩ := e
    simp only [S33.mk.sizeOf_spec] at hs
    omega
  | n + 1 => weighCond_step n (weighCond_calls n)
end Go.Proofs.YtfeaekdhpkdljaaDoor.Sh
