/- The reference's machine (meddlerref9.Mach) in memory, and its Next. -/
import Derived.Test.YtikjamcemnbhbaaMrPkG
namespace Go.Proofs.Ytikjamcemnbhbaa.Mr
open Go.RowKit Go.Proofs.YtikjamcemnbhbaaW.PrintWords Go.Proofs.YtikjamcemnbhbaaW.PrintLast
set_option linter.unusedVariables false
set_option linter.unusedSimpArgs false
structure RefU where
  Ag : Option Addr
  ng : Nat
  cg : Nat
  Aa : Option Addr
  na : Nat
  ca : Nat
  m : Int
  At : Option Addr
  ct : Nat
structure PhR where
  bm : Nat
  hV : Value
  hA : Value
  rv : Nat → Value
/-- Its rows: as the program's; row 2 is where the threads stand. -/
def rowR (n : Nat) (s : St) (k : Nat) : List Int := if k = 2 then (List.range n).map (fun i => s.pc i) else s.row k
def refC (u : RefU) (pr : PhR) (n : Nat) (f : Int × Int × Int) (d : Bool) : Array Value := #[.slice u.Ag u.ng u.cg, .slice u.Aa u.na u.ca, .int .i64 u.m, .slice u.At n u.ct, pr.rv 2, pr.hV, pr.rv 0, pr.hA, pr.rv 1, .int .i64 f.1, .int .i64 f.2.1, .int .i64 f.2.2, .bool d]
structure RefIn (w : World) (lo hi : Nat) (u : RefU) (pr : PhR) (n nA : Nat) (s : St) : Prop where
  hm : ∃ f, w.heap[pr.bm]? = some (.cells (refC u pr n f s.bad.isSome) 90 (0, 0)) ∧ ∀ g, s.bad = some g → f = g
  bm : lo ≤ pr.bm ∧ pr.bm < hi
  hV : w.ownsRow lo 22 1 pr.hV n ((List.range n).map fun i => pr.rv (4 + 2 * i))
  hVl : ∀ b, pr.hV.ownBlock = some b → b < hi
  hA : w.ownsRow lo 22 1 pr.hA nA ((List.range nA).map fun i => pr.rv (3 + 2 * i))
  hAl : ∀ b, pr.hA.ownBlock = some b → b < hi
  rows : ∀ k, w.ownsRow lo 3 1 (pr.rv k) (rowR n s k).length (nums .i64 (rowR n s k))
  rlt : ∀ k b, (pr.rv k).ownBlock = some b → b < hi
  apart : ∀ i j, i ≠ j → (pr.rv i).ownBlock = none ∨ (pr.rv i).ownBlock ≠ (pr.rv j).ownBlock
theorem RefIn.move {w w' : World} {lo hi : Nat} {u : RefU} {pr : PhR} {n nA : Nat} {s : St} (H : RefIn w lo hi u pr n nA s)
    (hk : ∀ k, k < w.heap.size → (lo ≤ k ∧ k < hi) → w'.heap[k]? = w.heap[k]?) : RefIn w' lo hi u pr n nA s := by
  have own : ∀ {e : TypeId} {n : Nat} {v : Value} {xs : List Value}, w.ownsRow lo e 1 v n xs → (∀ b, v.ownBlock = some b → b < hi) → w'.ownsRow lo e 1 v n xs :=
    fun h hb => own_move h (fun k hv => hk k (h.lt k hv).2 ⟨(h.lt k hv).1, hb k hv⟩)
  refine ⟨?_, H.bm, own H.hV H.hVl, H.hVl, own H.hA H.hAl, H.hAl, fun k => own (H.rows k) (H.rlt k), H.rlt, H.apart⟩
  obtain ⟨f, h1, h2⟩ := H.hm
  exact ⟨f, (hk _ (blk_lt h1) H.bm).trans h1, h2⟩
theorem RefIn.below {w w' : World} {lo hi : Nat} {u : RefU} {pr : PhR} {n nA : Nat} {s : St} (H : RefIn w lo hi u pr n nA s) (h : Below w.heap.size w w') : RefIn w' lo hi u pr n nA s := H.move fun k hk _ => h.block k hk
theorem RefIn.other {w w' : World} {lo hi lo' hi' : Nat} {u : RefU} {pr : PhR} {n nA : Nat} {s : St} (H : RefIn w lo hi u pr n nA s) (h : Chg lo' hi' w w') (h1 : hi' ≤ lo ∨ hi ≤ lo') : RefIn w' lo hi u pr n nA s :=
  H.move fun k hk hb => h.block k hk (by omega)
theorem rowR_ne (n : Nat) (s : St) {k : Nat} (h : k ≠ 2) : rowR n s k = s.row k := if_neg h
theorem rowR_pc (n : Nat) (s : St) : rowR n s 2 = (List.range n).map (fun i => s.pc i) := if_pos rfl
theorem rowR_set (n : Nat) (s : St) (k j : Nat) (xs : List Int) (hk : k ≠ 2) : rowR n (s.setRow k xs) j = if j = k then xs else rowR n s j := by
  unfold rowR
  by_cases h2 : j = 2
  · rw [if_pos h2, if_neg (by omega), if_pos h2]; rfl
  · rw [if_neg h2, if_neg h2]; rfl
theorem rowR_setPc (n : Nat) (s : St) (i : Nat) (x : Int) (j : Nat) : rowR n (s.setPc i x) j = if j = 2 then (rowR n s 2).set i x else rowR n s j := by
  unfold rowR
  by_cases h2 : j = 2
  · rw [if_pos h2, if_pos h2, if_pos rfl]
    apply List.ext_getElem
    · simp
    · intro q h1 h3
      rw [List.getElem_set]
      by_cases e : i = q
      · subst e; simp [St.setPc]
      · have e' : ¬ q = i := fun h => e h.symm
        simp [St.setPc, e, e']
  · rw [if_neg h2, if_neg h2, if_neg h2]; rfl
theorem rd_pc (n : Nat) (s : St) (i : Int) (h0 : 0 ≤ i) (h1 : i < n) : rd (rowR n s 2) i = s.pc i.toNat := by
  have : i.toNat < n := by omega
  rw [rowR_pc]
  simp [rd, this]
/-- A row is written. -/
theorem RefIn.rowed {w w' : World} {lo hi : Nat} {u : RefU} {pr : PhR} {n nA : Nat} {s s' : St} (H : RefIn w lo hi u pr n nA s) (k : Nat) (xs : List Int) (hb : s'.bad = s.bad) (hr : ∀ j, rowR n s' j = if j = k then xs else rowR n s j)
    (ho : w'.ownsRow lo 3 1 (pr.rv k) xs.length (nums .i64 xs)) (hg : w.grownBy w' (pr.rv k).ownBlock) : RefIn w' lo hi u pr n nA s' := by
  have ne : ∀ {g : Nat} {t : TypeId} {c : Array Value}, w.heap[g]? = some (.cells c t (0, 0)) → (3 : Nat) ≠ t → (pr.rv k).ownBlock ≠ some g := fun hg' ht => row_ne (H.rows k) hg' ht
  have nr : ∀ {e : TypeId} {n : Nat} {v : Value} {xs : List Value}, w.ownsRow lo e 1 v n xs → e ≠ 3 → w'.ownsRow lo e 1 v n xs := fun h he => row_keep h hg (fun b hb hk => by
    obtain ⟨c, hc⟩ := own_typed h b hb
    exact ne hc (fun e => he e.symm) hk)
  refine ⟨?_, H.bm, nr H.hV (by decide), H.hVl, nr H.hA (by decide), H.hAl, fun j => ?_, H.rlt, H.apart⟩
  · obtain ⟨f, h1, h2⟩ := H.hm
    exact ⟨f, by rw [hb]; exact blk_keep h1 hg (ne h1 (by decide)), by rw [hb]; exact h2⟩
  · rw [hr]
    by_cases e : j = k
    · subst e; rw [if_pos rfl]; exact ho
    · rw [if_neg e]
      refine row_keep (H.rows j) hg (fun b hb hk => ?_)
      rcases H.apart j k e with h | h
      · rw [h] at hb; cases hb
      · exact h (hb.trans hk.symm)
theorem RefIn.stored {w w' : World} {lo hi : Nat} {u : RefU} {pr : PhR} {n nA : Nat} {s : St} (H : RefIn w lo hi u pr n nA s) (k : Nat) (hk : k ≠ 2) (xs : List Int)
    (ho : w'.ownsRow lo 3 1 (pr.rv k) xs.length (nums .i64 xs)) (hg : w.grownBy w' (pr.rv k).ownBlock) : RefIn w' lo hi u pr n nA (s.setRow k xs) := H.rowed k xs rfl (fun j => rowR_set n s k j xs hk) ho hg
theorem RefIn.putPc {w w' : World} {lo hi : Nat} {u : RefU} {pr : PhR} {n nA : Nat} {s : St} (H : RefIn w lo hi u pr n nA s) (i : Nat) (x : Int)
    (ho : w'.ownsRow lo 3 1 (pr.rv 2) ((rowR n s 2).set i x).length (nums .i64 ((rowR n s 2).set i x))) (hg : w.grownBy w' (pr.rv 2).ownBlock) : RefIn w' lo hi u pr n nA (s.setPc i x) := H.rowed 2 _ rfl (fun j => rowR_setPc n s i x j) ho hg
theorem RefIn.putBad {w w' : World} {lo hi : Nat} {u : RefU} {pr : PhR} {n nA : Nat} {s : St} (H : RefIn w lo hi u pr n nA s) (f : Int × Int × Int)
    (hm : w'.heap[pr.bm]? = some (.cells (refC u pr n f true) 90 (0, 0))) (hg : w.grownBy w' (some pr.bm)) : RefIn w' lo hi u pr n nA (s.setBad f) := by
  obtain ⟨f0, h1, h2⟩ := H.hm
  have ne : ∀ {g : Nat} {t : TypeId} {c : Array Value}, w.heap[g]? = some (.cells c t (0, 0)) → (90 : Nat) ≠ t → some pr.bm ≠ some g := fun hg' hne e => by
    injection e with e; subst e
    rw [h1] at hg'
    injection hg' with hc; injection hc with _ hc _
    exact hne hc
  have nr : ∀ {e : TypeId} {n : Nat} {v : Value} {xs : List Value}, w.ownsRow lo e 1 v n xs → e ≠ 90 → w'.ownsRow lo e 1 v n xs := fun h he => row_keep h hg (fun b hb hk => by
    obtain ⟨c, hc⟩ := own_typed h b hb
    exact ne hc (fun e => he e.symm) hk)
  exact ⟨⟨f, hm, fun g hg => by injection hg⟩, H.bm, nr H.hV (by decide), H.hVl, nr H.hA (by decide), H.hAl, fun j => nr (H.rows j) (by decide), H.rlt, H.apart⟩
/-- The values of its rows. -/
theorem RefIn.slice {w : World} {lo hi : Nat} {u : RefU} {pr : PhR} {n nA : Nat} {s : St} (H : RefIn w lo hi u pr n nA s) (k : Nat) : ∃ A c, pr.rv k = .slice A (rowR n s k).length c := own_slice (H.rows k)
theorem RefIn.vcell {w : World} {lo hi : Nat} {u : RefU} {pr : PhR} {n nA : Nat} {s : St} (H : RefIn w lo hi u pr n nA s) (i : Int) (h0 : 0 ≤ i) (h1 : i < n) :
    ∃ g c, pr.hV = .slice (some ⟨g, 0, none⟩) n c ∧ n ≤ c ∧ w.cell? ⟨g, i.toNat, none⟩ = some (pr.rv (4 + 2 * i.toNat)) := by
  obtain ⟨g, c, e, hc, hx, _⟩ := own_cell H.hV i.toNat (by omega)
  refine ⟨g, c, e, hc, ?_⟩
  have : i.toNat < n := by omega
  rw [hx]; simp [this]
theorem RefIn.acell {w : World} {lo hi : Nat} {u : RefU} {pr : PhR} {n nA : Nat} {s : St} (H : RefIn w lo hi u pr n nA s) (i : Int) (h0 : 0 ≤ i) (h1 : i < nA) :
    ∃ g c, pr.hA = .slice (some ⟨g, 0, none⟩) nA c ∧ nA ≤ c ∧ w.cell? ⟨g, i.toNat, none⟩ = some (pr.rv (3 + 2 * i.toNat)) := by
  obtain ⟨g, c, e, hc, hx, _⟩ := own_cell H.hA i.toNat (by omega)
  refine ⟨g, c, e, hc, ?_⟩
  have : i.toNat < nA := by omega
  rw [hx]; simp [this]
/-- No mutex has an owner below -1. -/
def OwnGe (s : St) : Prop := ∀ x ∈ s.row 1, -1 ≤ x
theorem OwnGe.rd {s : St} (h : OwnGe s) (i : Int) (h0 : 0 ≤ i) (h1 : i < (s.row 1).length) : -1 ≤ rd (s.row 1) i := by
  have : i.toNat < (s.row 1).length := by omega
  have e : Go.Proofs.YtikjamcemnbhbaaW.PrintWords.rd (s.row 1) i = (s.row 1)[i.toNat] := by simp [Go.Proofs.YtikjamcemnbhbaaW.PrintWords.rd, this]
  rw [e]; exact h _ (List.getElem_mem this)
set_option maxHeartbeats 4000000 in
theorem rnext_dead (w : World) {lo hi : Nat} {u : RefU} {pr : PhR} {cs : List S49} {nA : Nat} {s : St} (H : RefIn w lo hi u pr cs.length nA s) (t : Int) (hb : s.bad ≠ none) :
    Calls Try.prog 48 #[.pointer (some ⟨pr.bm, 0, none⟩), .int .i64 t] w fun e w' => e = .returned (nxtV none) ∧ Below w.heap.size w w' := by
  obtain ⟨f, hm, -⟩ := H.hm
  have hd : s.bad.isSome = true := by cases h : s.bad with
    | none => exact absurd h hb
    | some _ => rfl
  rw [hd] at hm
  have HM := Aside0.mk hm
  clear hm hd hb
  obtain ⟨A2, c2, e2⟩ := H.slice 2
  have hl2 : (rowR cs.length s 2).length = cs.length := by rw [rowR_pc]; simp
  rw [hl2] at e2
  have E2 := Aside0.mk e2
  clear H hl2 e2
  go_enter Try.func48, Try.ntmps48
  go_wp2_with (first | ((with_reducible refine gate_dst (N := 4) rfl ?_); refine box_event ?hg (N := 4) ?hd (cs := #[.int .i64 0, .int .i64 0, .int .i64 0, .int .i64 0, .int .i64 0, .int .i64 0, .int .i64 0, .int .i64 0, .int .i64 0]) (t := 33) ?hr ?_; (case hd => rfl); (case hg => rfl); (case hr => first | (go_simp; done) | (go_simp; rfl)); intro g4 hgg w1 hlit hb; have HLw1 := Aside0.mk hlit; have HKw1 := Aside0.mk hb; have HGw1 := Aside0.mk hgg; have HM1 := Aside0.mk (below_read hb HM.out); have hm12 : w1.cell? ⟨pr.bm, 12, none⟩ = some (.bool true) := (blk_cell HM1.out 12).trans rfl; skip; clear hlit hb hgg) | ((with_reducible refine gate_store (t := 33) (p := 4) rfl ?_); refine put_row ?hg ?hn 33 (.tmp 4) (.tmp 24) ?ho g4 33 _ (#[.int .i64 0, .int .i64 0, .int .i64 0, .int .i64 0, .int .i64 0, .int .i64 0, .int .i64 0, .int .i64 0, .int .i64 0]) ?hp ?hx ?hu HLw1.out ?ht ?hs ?h1 ?_; (case hg => rfl); (case hn => rfl); (case ho => rfl); (case hp => rfl); (case hx => rfl); (case hu => rfl); (case ht => kernel_rfl); (case hs => rfl); (case h1 => exact actC_one z33); intro wz hlit hg; have HLwz := Aside0.mk hlit; have HZ := Aside0.mk (HKw1.out.grown hg HKw1.out.size (fun q hq => by injection hq with hq; rw [← hq, HGw1.out]; exact Nat.le_refl _)); clear hlit hg))
  refine bodyPost_ret (results_ct rfl _ _ g4 33 _ (0, 0) _ rfl HLwz.out Try.underlying33 rfl (by kernel_rfl)) rfl ?_
  exact ⟨rfl, HZ.out⟩
set_option maxHeartbeats 4000000 in
theorem rnext_neg (w : World) {lo hi : Nat} {u : RefU} {pr : PhR} {cs : List S49} {nA : Nat} {s : St} (H : RefIn w lo hi u pr cs.length nA s) (t : Int) (hb : s.bad = none) (c0 : t < 0) :
    Calls Try.prog 48 #[.pointer (some ⟨pr.bm, 0, none⟩), .int .i64 t] w fun e w' => e = .returned (nxtV none) ∧ Below w.heap.size w w' := by
  obtain ⟨f, hm, -⟩ := H.hm
  rw [hb] at hm
  have HM := Aside0.mk hm
  clear hm hb
  obtain ⟨A2, c2, e2⟩ := H.slice 2
  have hl2 : (rowR cs.length s 2).length = cs.length := by rw [rowR_pc]; simp
  rw [hl2] at e2
  have E2 := Aside0.mk e2
  clear H hl2 e2
  go_enter Try.func48, Try.ntmps48
  go_wp2_with (first | ((with_reducible refine gate_dst (N := 4) rfl ?_); refine box_event ?hg (N := 4) ?hd (cs := #[.int .i64 0, .int .i64 0, .int .i64 0, .int .i64 0, .int .i64 0, .int .i64 0, .int .i64 0, .int .i64 0, .int .i64 0]) (t := 33) ?hr ?_; (case hd => rfl); (case hg => rfl); (case hr => first | (go_simp; done) | (go_simp; rfl)); intro g4 hgg w1 hlit hb; have HLw1 := Aside0.mk hlit; have HKw1 := Aside0.mk hb; have HGw1 := Aside0.mk hgg; have HM1 := Aside0.mk (below_read hb HM.out); have hm12 : w1.cell? ⟨pr.bm, 12, none⟩ = some (.bool false) := (blk_cell HM1.out 12).trans rfl; skip; clear hlit hb hgg) | ((with_reducible refine gate_store (t := 33) (p := 4) rfl ?_); refine put_row ?hg ?hn 33 (.tmp 4) (.tmp 24) ?ho g4 33 _ (#[.int .i64 0, .int .i64 0, .int .i64 0, .int .i64 0, .int .i64 0, .int .i64 0, .int .i64 0, .int .i64 0, .int .i64 0]) ?hp ?hx ?hu HLw1.out ?ht ?hs ?h1 ?_; (case hg => rfl); (case hn => rfl); (case ho => rfl); (case hp => rfl); (case hx => rfl); (case hu => rfl); (case ht => kernel_rfl); (case hs => rfl); (case h1 => exact actC_one z33); intro wz hlit hg; have HLwz := Aside0.mk hlit; have HZ := Aside0.mk (HKw1.out.grown hg HKw1.out.size (fun q hq => by injection hq with hq; rw [← hq, HGw1.out]; exact Nat.le_refl _)); clear hlit hg))
  refine bodyPost_ret (results_ct rfl _ _ g4 33 _ (0, 0) _ rfl HLwz.out Try.underlying33 rfl (by kernel_rfl)) rfl ?_
  exact ⟨rfl, HZ.out⟩
set_option maxHeartbeats 4000000 in
theorem rnext_far (w : World) {lo hi : Nat} {u : RefU} {pr : PhR} {cs : List S49} {nA : Nat} {s : St} (H : RefIn w lo hi u pr cs.length nA s) (t : Int) (hb : s.bad = none) (c0 : ¬ t < 0) (c1 : (cs.length : Int) ≤ t) :
    Calls Try.prog 48 #[.pointer (some ⟨pr.bm, 0, none⟩), .int .i64 t] w fun e w' => e = .returned (nxtV none) ∧ Below w.heap.size w w' := by
  obtain ⟨f, hm, -⟩ := H.hm
  rw [hb] at hm
  have HM := Aside0.mk hm
  clear hm hb
  obtain ⟨A2, c2, e2⟩ := H.slice 2
  have hl2 : (rowR cs.length s 2).length = cs.length := by rw [rowR_pc]; simp
  rw [hl2] at e2
  have E2 := Aside0.mk e2
  clear H hl2 e2
  go_enter Try.func48, Try.ntmps48
  go_wp2_with (first | ((with_reducible refine gate_dst (N := 4) rfl ?_); refine box_event ?hg (N := 4) ?hd (cs := #[.int .i64 0, .int .i64 0, .int .i64 0, .int .i64 0, .int .i64 0, .int .i64 0, .int .i64 0, .int .i64 0, .int .i64 0]) (t := 33) ?hr ?_; (case hd => rfl); (case hg => rfl); (case hr => first | (go_simp; done) | (go_simp; rfl)); intro g4 hgg w1 hlit hb; have HLw1 := Aside0.mk hlit; have HKw1 := Aside0.mk hb; have HGw1 := Aside0.mk hgg; have HM1 := Aside0.mk (below_read hb HM.out); have hm4 : w1.cell? ⟨pr.bm, 4, none⟩ = some (.slice A2 cs.length c2) := (blk_cell HM1.out 4).trans (congrArg some E2.out); have hm12 : w1.cell? ⟨pr.bm, 12, none⟩ = some (.bool false) := (blk_cell HM1.out 12).trans rfl; skip; clear hlit hb hgg) | ((with_reducible refine gate_store (t := 33) (p := 4) rfl ?_); refine put_row ?hg ?hn 33 (.tmp 4) (.tmp 24) ?ho g4 33 _ (#[.int .i64 0, .int .i64 0, .int .i64 0, .int .i64 0, .int .i64 0, .int .i64 0, .int .i64 0, .int .i64 0, .int .i64 0]) ?hp ?hx ?hu HLw1.out ?ht ?hs ?h1 ?_; (case hg => rfl); (case hn => rfl); (case ho => rfl); (case hp => rfl); (case hx => rfl); (case hu => rfl); (case ht => kernel_rfl); (case hs => rfl); (case h1 => exact actC_one z33); intro wz hlit hg; have HLwz := Aside0.mk hlit; have HZ := Aside0.mk (HKw1.out.grown hg HKw1.out.size (fun q hq => by injection hq with hq; rw [← hq, HGw1.out]; exact Nat.le_refl _)); clear hlit hg))
  refine bodyPost_ret (results_ct rfl _ _ g4 33 _ (0, 0) _ rfl HLwz.out Try.underlying33 rfl (by kernel_rfl)) rfl ?_
  exact ⟨rfl, HZ.out⟩
set_option maxHeartbeats 8000000 in
set_option maxRecDepth 100000 in
theorem rnext_live (w : World) {lo hi : Nat} {u : RefU} {pr : PhR} {cs : List S49} {nA : Nat} {s : St} (H : RefIn w lo hi u pr cs.length nA s) (W : Wf cs nA s) (OG : OwnGe s) (hT : Kd.C k49 w u.At cs.length cs) (hct : cs.length ≤ u.ct) (t : Int) (c0 : 0 ≤ t ∧ t < cs.length) (hbad : s.bad = none) :
    Calls Try.prog 48 #[.pointer (some ⟨pr.bm, 0, none⟩), .int .i64 t] w fun e w' => e = .returned (nxtV (nxt cs s t)) ∧ Below w.heap.size w w' := by
  obtain ⟨f, hm, -⟩ := H.hm
  rw [hbad] at hm
  have HM := Aside0.mk hm
  have HH := Aside0.mk H
  have HOG := Aside0.mk OG
  have HACT := Aside0.mk (W.act t c0.1 c0.2)
  have HNX : Aside0 (nxt cs s t = _) := ⟨by rw [nxt, if_pos c0, if_pos hbad]⟩
  have h2 := H.rows 2
  have hl2 : (rowR cs.length s 2).length = cs.length := by rw [rowR_pc]; simp
  have hpc := rd_pc cs.length s t c0.1 c0.2
  obtain ⟨gp, cp, ep, hcp, hpcell, _, _, _⟩ := own_int h2 t c0.1 (by rw [hl2]; exact c0.2)
  rw [hpc] at hpcell
  rw [hl2] at ep hcp
  have EP := Aside0.mk ep
  obtain ⟨adT, Ac, cc, eT, hc0, hc1, hlc, hCk⟩ := at_T49 hT t c0.1 c0.2
  have ET := Aside0.mk eT
  have HT1 := Aside0.mk hc1
  have HPC := Aside0.mk hpcell
  obtain ⟨hact, hp0, hp1⟩ := HACT.out
  obtain ⟨ad, eA, ha0, ha1, ha2, ha3, ha4, ha5, ha6, ha7, ha8⟩ := at_T33 hCk _ hp0 hp1
  subst eA
  have hpz : (0 : Int) ≤ s.pc t.toNat := hp0
  have hpy : s.pc t.toNat < ((rd_T49 cs t).f1.length : Int) := hp1
  have c00 : (0 : Int) ≤ t := c0.1
  have c01 : t < (cs.length : Int) := c0.2
  have HA0 := Aside0.mk ha0
  have HA1 := Aside0.mk ha1
  have HA2 := Aside0.mk ha2
  have HA3 := Aside0.mk ha3
  have HA4 := Aside0.mk ha4
  have HA5 := Aside0.mk ha5
  have HA6 := Aside0.mk ha6
  have HA7 := Aside0.mk ha7
  have HA8 := Aside0.mk ha8
  clear H hbad hm W OG h2 hl2 hpc ep eT hc0 hc1 hCk hpcell hT HACT c0 ha0 ha1 ha2 ha3 ha4 ha5 ha6 ha7 ha8
  go_enter Try.func48, Try.ntmps48
  go_wp2_with (first | ((with_reducible refine gate_dst (N := 4) rfl ?_); refine box_event ?hg (N := 4) ?hd (cs := #[.int .i64 0, .int .i64 0, .int .i64 0, .int .i64 0, .int .i64 0, .int .i64 0, .int .i64 0, .int .i64 0, .int .i64 0]) (t := 33) ?hr ?_; (case hd => rfl); (case hg => rfl); (case hr => first | (go_simp; done) | (go_simp; rfl)); intro g4 hgg w1 hlit hb; have HLw1 := Aside0.mk hlit; have HKw1 := Aside0.mk hb; have HGw1 := Aside0.mk hgg; have HM1 := Aside0.mk (below_read hb HM.out); have hm12 : w1.cell? ⟨pr.bm, 12, none⟩ = some (.bool false) := (blk_cell HM1.out 12).trans rfl; have hm3 : w1.cell? ⟨pr.bm, 3, none⟩ = some (.slice (some adT) cs.length u.ct) := (blk_cell HM1.out 3).trans (by rw [← ET.out]; rfl); have hm4 : w1.cell? ⟨pr.bm, 4, none⟩ = some (.slice (some ⟨gp, 0, none⟩) cs.length cp) := (blk_cell HM1.out 4).trans (congrArg some EP.out); have ht1 := pw_cell_below hb HT1.out; have hpk := pw_cell_below hb HPC.out; have ha0 := pw_cell_below hb HA0.out; have ha1 := pw_cell_below hb HA1.out; have ha2 := pw_cell_below hb HA2.out; have ha3 := pw_cell_below hb HA3.out; have ha4 := pw_cell_below hb HA4.out; have ha5 := pw_cell_below hb HA5.out; have ha6 := pw_cell_below hb HA6.out; have ha7 := pw_cell_below hb HA7.out; have ha8 := pw_cell_below hb HA8.out; clear hlit hb hgg))
  have b_hm3 := cell_on (.cells (actC z33) 33) hm3
  have b_hm4 := cell_on (.cells (actC z33) 33) hm4
  have b_ht1 := cell_on (.cells (actC z33) 33) ht1
  have b_hpk := cell_on (.cells (actC z33) 33) hpk
  have b_ha0 := cell_on (.cells (actC z33) 33) ha0
  have b_ha1 := cell_on (.cells (actC z33) 33) ha1
  have b_ha2 := cell_on (.cells (actC z33) 33) ha2
  have b_ha3 := cell_on (.cells (actC z33) 33) ha3
  have b_ha4 := cell_on (.cells (actC z33) 33) ha4
  have b_ha5 := cell_on (.cells (actC z33) 33) ha5
  have b_ha6 := cell_on (.cells (actC z33) 33) ha6
  have b_ha7 := cell_on (.cells (actC z33) 33) ha7
  have b_ha8 := cell_on (.cells (actC z33) 33) ha8
  simp only [actC, z33] at b_hm3 b_hm4 b_ht1 b_hpk b_ha0 b_ha1 b_ha2 b_ha3 b_ha4 b_ha5 b_ha6 b_ha7 b_ha8
  go_region
  clear b_hm3 b_hm4 b_ht1 b_hpk b_ha0 b_ha1 b_ha2 b_ha3 b_ha4 b_ha5 b_ha6 b_ha7 b_ha8 hm3 hm4 ht1 hpk ha0 ha1 ha2 ha3 ha4 ha5 ha6 ha7 ha8
  have hy : actOf cs s t = rd_T33 (rd_T49 cs t).f1 (s.pc t.toNat) := rfl
  rw [hy] at hact HNX
  clear HA0 HA1 HA2 HA3 HA4 HA5 HA6 HA7 HA8 HT1 HPC
  generalize rd_T33 (rd_T49 cs t).f1 (s.pc t.toNat) = y at *
  have hbw2 := below_drew (below_alloc (Below.refl w1.heap.size w1) (.cells (actC y) 33))
  have hY : (w1.alloc (.cells (actC y) 33)).drew.heap[w1.heap.size]? = some (.cells (actC y) 33 (0, 0)) := heap_alloc_new w1 _
  have ho := (HH.out.below HKw1.out).rows 1
  rw [rowR_ne _ _ (by decide)] at ho
  have hmx := hact.mx
  clear hact hy hp0 hp1 hpz hpy hlc hcp
  simp only [actC] at hY hbw2
  generalize hw2 : World.drew _ = w2 at *
  clear hw2
  have HR := Aside0.mk (below_read hbw2 HLw1.out)
  have hm8 : w2.cell? ⟨pr.bm, 8, none⟩ = some (pr.rv 1) := (blk_cell (below_read hbw2 HM1.out) 8).trans rfl
  have ho2 := pw_own_below ho hbw2
  have BW2 := Aside0.mk (below_on HKw1.out hbw2)
  clear ho hbw2 hm12 HM HM1
  have hy0 : w2.cell? ⟨w1.heap.size, 0, none⟩ = some (.int .i64 y.f0) := (blk_cell hY 0).trans rfl
  have hy1 : w2.cell? ⟨w1.heap.size, 1, none⟩ = some (.int .i64 y.f1) := (blk_cell hY 1).trans rfl
  have hy2 : w2.cell? ⟨w1.heap.size, 2, none⟩ = some (.int .i64 y.f2) := (blk_cell hY 2).trans rfl
  have hy3 : w2.cell? ⟨w1.heap.size, 3, none⟩ = some (.int .i64 y.f3) := (blk_cell hY 3).trans rfl
  have hy4 : w2.cell? ⟨w1.heap.size, 4, none⟩ = some (.int .i64 y.f4) := (blk_cell hY 4).trans rfl
  have hy5 : w2.cell? ⟨w1.heap.size, 5, none⟩ = some (.int .i64 y.f5) := (blk_cell hY 5).trans rfl
  have hy6 : w2.cell? ⟨w1.heap.size, 6, none⟩ = some (.int .i64 y.f6) := (blk_cell hY 6).trans rfl
  have hy7 : w2.cell? ⟨w1.heap.size, 7, none⟩ = some (.int .i64 y.f7) := (blk_cell hY 7).trans rfl
  have hy8 : w2.cell? ⟨w1.heap.size, 8, none⟩ = some (.int .i64 y.f8) := (blk_cell hY 8).trans rfl
  by_cases k14 : y.f0 = 14
  · have kb : (y.f0 == 14) = true := beq_iff_eq.mpr k14
    have HN := Aside0.mk (HNX.out.trans (if_pos k14))
    clear HNX hmx hm8 ho2
    go_wp2_with fail
    go_quiet (fail)
    go_wp2_with (first | ((with_reducible refine gate_store (t := 33) (p := 4) rfl ?_); refine put_row ?hg ?hn 33 (.tmp 4) (.tmp 74) ?ho g4 33 _ (#[.int .i64 0, .int .i64 0, .int .i64 0, .int .i64 0, .int .i64 0, .int .i64 0, .int .i64 0, .int .i64 0, .int .i64 0]) ?hp ?hx ?hu HR.out ?ht ?hs ?h1 ?_; (case hg => rfl); (case hn => rfl); (case ho => rfl); (case hp => rfl); (case hx => rfl); (case hu => rfl); (case ht => kernel_rfl); (case hs => rfl); (case h1 => exact actC_one z33); intro wz hlit hg; have HLwz := Aside0.mk hlit; have HZ := Aside0.mk ((show Below w.heap.size w (w2.drewN nq) from pw_below_drewN BW2.out nq).grown hg BW2.out.size (fun q hq => by injection hq with hq; rw [← hq, HGw1.out]; exact Nat.le_refl _)); clear hlit hg))
    refine bodyPost_ret (results_ct rfl _ _ g4 33 _ (0, 0) _ rfl HLwz.out Try.underlying33 rfl (by kernel_rfl)) rfl ?_
    exact ⟨by rw [HN.out]; rfl, HZ.out⟩
  · have kb : (y.f0 == 14) = false := beq_eq_false_iff_ne.mpr k14
    replace HNX := Aside0.mk (HNX.out.trans (if_neg k14))
    by_cases k9 : y.f0 = 9
    · have kb9 : (y.f0 == 9) = true := beq_iff_eq.mpr k9
      replace HNX := Aside0.mk (HNX.out.trans (if_pos k9))
      obtain ⟨g0, g1⟩ := hmx (.inl k9)
      have hge := HOG.out.rd y.f4 g0 g1
      obtain ⟨gw, cw, eo, hlw, hown, _, _, _⟩ := own_int ho2 y.f4 g0 g1
      rw [eo] at hm8
      clear hmx ho2 eo k9
      generalize rd (s.row 1) y.f4 = ow at *
      by_cases kn : ow = -1
      · have kbn : decide (0 ≤ ow) = false := decide_eq_false (by omega)
        have HN := Aside0.mk (HNX.out.trans (if_pos kn))
        clear HNX kn hge
        go_wp2_with fail
        go_quiet (fail)
        go_wp2_with (first | ((with_reducible refine gate_store (t := 33) (p := 4) rfl ?_); refine put_row ?hg ?hn 33 (.tmp 4) (.tmp 75) ?ho g4 33 _ (actC y) ?hp ?hx ?hu HR.out ?ht ?hs ?h1 ?_; (case hg => rfl); (case hn => rfl); (case ho => rfl); (case hp => rfl); (case hx => rfl); (case hu => rfl); (case ht => kernel_rfl); (case hs => rfl); (case h1 => exact actC_one y); intro wz hlit hg; have HLwz := Aside0.mk hlit; have HZ := Aside0.mk ((show Below w.heap.size w (w2.drewN nq) from pw_below_drewN BW2.out nq).grown hg BW2.out.size (fun q hq => by injection hq with hq; rw [← hq, HGw1.out]; exact Nat.le_refl _)); clear hlit hg))
        refine bodyPost_ret (results_ct rfl _ _ g4 33 _ (0, 0) _ rfl HLwz.out Try.underlying33 rfl (by kernel_rfl)) rfl ?_
        exact ⟨by rw [HN.out]; rfl, HZ.out⟩
      · have kbn : decide (0 ≤ ow) = true := decide_eq_true (by omega)
        replace HNX := Aside0.mk (HNX.out.trans (if_neg kn))
        by_cases kt : ow = t
        · have kbt : (ow != t) = false := bne_eq_false_iff_eq.mpr kt
          have HN := Aside0.mk (HNX.out.trans (if_pos kt))
          clear HNX kt kn hge
          go_wp2_with fail
          go_quiet (fail)
          go_wp2_with (first | ((with_reducible refine gate_store (t := 33) (p := 4) rfl ?_); refine put_row ?hg ?hn 33 (.tmp 4) (.tmp 75) ?ho g4 33 _ (actC y) ?hp ?hx ?hu HR.out ?ht ?hs ?h1 ?_; (case hg => rfl); (case hn => rfl); (case ho => rfl); (case hp => rfl); (case hx => rfl); (case hu => rfl); (case ht => kernel_rfl); (case hs => rfl); (case h1 => exact actC_one y); intro wz hlit hg; have HLwz := Aside0.mk hlit; have HZ := Aside0.mk ((show Below w.heap.size w (w2.drewN nq) from pw_below_drewN BW2.out nq).grown hg BW2.out.size (fun q hq => by injection hq with hq; rw [← hq, HGw1.out]; exact Nat.le_refl _)); clear hlit hg))
          refine bodyPost_ret (results_ct rfl _ _ g4 33 _ (0, 0) _ rfl HLwz.out Try.underlying33 rfl (by kernel_rfl)) rfl ?_
          exact ⟨by rw [HN.out]; rfl, HZ.out⟩
        · have kbt : (ow != t) = true := bne_iff_ne.mpr kt
          have HN := Aside0.mk (HNX.out.trans (if_neg kt))
          clear HNX hge kt kn
          go_wp2_with fail
          go_quiet (fail)
          go_wp2_with (first | ((with_reducible refine gate_store (t := 33) (p := 4) rfl ?_); refine put_row ?hg ?hn 33 (.tmp 4) (.tmp 74) ?ho g4 33 _ (#[.int .i64 0, .int .i64 0, .int .i64 0, .int .i64 0, .int .i64 0, .int .i64 0, .int .i64 0, .int .i64 0, .int .i64 0]) ?hp ?hx ?hu HR.out ?ht ?hs ?h1 ?_; (case hg => rfl); (case hn => rfl); (case ho => rfl); (case hp => rfl); (case hx => rfl); (case hu => rfl); (case ht => kernel_rfl); (case hs => rfl); (case h1 => exact actC_one z33); intro wz hlit hg; have HLwz := Aside0.mk hlit; have HZ := Aside0.mk ((show Below w.heap.size w (w2.drewN nq) from pw_below_drewN BW2.out nq).grown hg BW2.out.size (fun q hq => by injection hq with hq; rw [← hq, HGw1.out]; exact Nat.le_refl _)); clear hlit hg))
          refine bodyPost_ret (results_ct rfl _ _ g4 33 _ (0, 0) _ rfl HLwz.out Try.underlying33 rfl (by kernel_rfl)) rfl ?_
          exact ⟨by rw [HN.out]; rfl, HZ.out⟩
    · have kb9 : (y.f0 == 9) = false := beq_eq_false_iff_ne.mpr k9
      have HN := Aside0.mk (HNX.out.trans (if_neg k9))
      clear HNX hmx hm8 ho2
      go_wp2_with fail
      go_quiet (fail)
      go_wp2_with (first | ((with_reducible refine gate_store (t := 33) (p := 4) rfl ?_); refine put_row ?hg ?hn 33 (.tmp 4) (.tmp 75) ?ho g4 33 _ (actC y) ?hp ?hx ?hu HR.out ?ht ?hs ?h1 ?_; (case hg => rfl); (case hn => rfl); (case ho => rfl); (case hp => rfl); (case hx => rfl); (case hu => rfl); (case ht => kernel_rfl); (case hs => rfl); (case h1 => exact actC_one y); intro wz hlit hg; have HLwz := Aside0.mk hlit; have HZ := Aside0.mk ((show Below w.heap.size w (w2.drewN nq) from pw_below_drewN BW2.out nq).grown hg BW2.out.size (fun q hq => by injection hq with hq; rw [← hq, HGw1.out]; exact Nat.le_refl _)); clear hlit hg))
      refine bodyPost_ret (results_ct rfl _ _ g4 33 _ (0, 0) _ rfl HLwz.out Try.underlying33 rfl (by kernel_rfl)) rfl ?_
      exact ⟨by rw [HN.out]; rfl, HZ.out⟩
theorem rnext_calls (w : World) {lo hi : Nat} {u : RefU} {pr : PhR} {cs : List S49} {nA : Nat} {s : St} (H : RefIn w lo hi u pr cs.length nA s) (W : Wf cs nA s) (OG : OwnGe s) (hT : Kd.C k49 w u.At cs.length cs) (hct : cs.length ≤ u.ct) (t : Int) {v : Value} (hv : nxtV (nxt cs s t) = v) :
    Calls Try.prog 48 #[.pointer (some ⟨pr.bm, 0, none⟩), .int .i64 t] w fun e w' => e = .returned v ∧ Below w.heap.size w w' := by
  subst hv
  by_cases hb : s.bad = none
  · by_cases c0 : t < 0
    · rw [show nxt cs s t = none by rw [nxt, if_neg (by omega)]]
      exact rnext_neg w H t hb c0
    · by_cases c1 : (cs.length : Int) ≤ t
      · rw [show nxt cs s t = none by rw [nxt, if_neg (by omega)]]
        exact rnext_far w H t hb c0 c1
      · exact rnext_live w H W OG hT hct t ⟨by omega, by omega⟩ hb
  · have e : nxt cs s t = none := by
      unfold nxt
      rw [if_neg hb]
      split <;> rfl
    rw [e]
    exact rnext_dead w H t hb
end Go.Proofs.Ytikjamcemnbhbaa.Mr
