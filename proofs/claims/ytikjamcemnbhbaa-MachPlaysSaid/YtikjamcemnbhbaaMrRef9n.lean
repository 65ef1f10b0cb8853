/- The reference's machine while it is made: meddlerref9.New. -/
import Derived.Test.YtikjamcemnbhbaaMrRef9s
import Derived.Test.YtikjamcemnbhbaaMrPkF
namespace Go.Proofs.Ytikjamcemnbhbaa.Mr
open Go.RowKit Go.Proofs.YtikjamcemnbhbaaW.PrintWords Go.Proofs.YtikjamcemnbhbaaW.PrintLast
set_option linter.unusedVariables false
set_option linter.unusedSimpArgs false
structure RefRaw (w : World) (lo : Nat) (u : RefU) (pr : PhR) (M nV nA : Nat) (R : Nat → List Int) : Prop where
  hm : w.heap[pr.bm]? = some (.cells (refC u pr M (0, 0, 0) false) 90 (0, 0))
  bm : lo ≤ pr.bm
  hV : w.ownsRow lo 22 1 pr.hV nV ((List.range nV).map fun i => pr.rv (4 + 2 * i))
  hA : w.ownsRow lo 22 1 pr.hA nA ((List.range nA).map fun i => pr.rv (3 + 2 * i))
  rows : ∀ k, w.ownsRow lo 3 1 (pr.rv k) (R k).length (nums .i64 (R k))
  apart : ∀ i j, i ≠ j → (pr.rv i).ownBlock = none ∨ (pr.rv i).ownBlock ≠ (pr.rv j).ownBlock
  apV : pr.hV.ownBlock = none ∨ pr.hV.ownBlock ≠ pr.hA.ownBlock
  apA : pr.hA.ownBlock = none ∨ pr.hA.ownBlock ≠ pr.hV.ownBlock
def PhR.set (pr : PhR) (k : Nat) (v : Value) : PhR := { pr with rv := fun j => if j = k then v else pr.rv j }
def setR (R : Nat → List Int) (k : Nat) (xs : List Int) : Nat → List Int := fun j => if j = k then xs else R j
theorem RefRaw.toIn {w : World} {lo : Nat} {u : RefU} {pr : PhR} {n nA : Nat} {R : Nat → List Int} {s : St} (H : RefRaw w lo u pr n n nA R) (hR : ∀ k, R k = rowR n s k) (hb : s.bad = none) : RefIn w lo w.heap.size u pr n nA s :=
  ⟨⟨(0, 0, 0), by rw [hb]; exact H.hm, fun g hg => by rw [hb] at hg; cases hg⟩, ⟨H.bm, blk_lt H.hm⟩, H.hV, fun b h => (H.hV.lt b h).2, H.hA, fun b h => (H.hA.lt b h).2, fun k => by rw [← hR]; exact H.rows k, fun k b h => ((H.rows k).lt b h).2, H.apart⟩
theorem RefRaw.below {w w' : World} {lo : Nat} {u : RefU} {pr : PhR} {M nV nA : Nat} {R : Nat → List Int} (H : RefRaw w lo u pr M nV nA R) (h : Below w.heap.size w w') : RefRaw w' lo u pr M nV nA R := by
  have own : ∀ {e : TypeId} {n : Nat} {v : Value} {xs : List Value}, w.ownsRow lo e 1 v n xs → w'.ownsRow lo e 1 v n xs := fun h' => own_move h' (fun k hv => h.block k (h'.lt k hv).2)
  exact ⟨below_read h H.hm, H.bm, own H.hV, own H.hA, fun k => own (H.rows k), H.apart, H.apV, H.apA⟩
theorem RefRaw.fresh {w w1 : World} {lo : Nat} {u : RefU} {pr : PhR} {M nV nA : Nat} {R : Nat → List Int} (H : RefRaw w lo u pr M nV nA R) (k : Nat) (hk2 : 3 ≤ k) (hkA : ∀ i, i < nA → k ≠ 3 + 2 * i) (hkV : ∀ i, i < nV → k ≠ 4 + 2 * i)
    {v : Value} {xs : List Int} (hB : Below w.heap.size w w1) (ho : w1.ownsRow w.heap.size 3 1 v xs.length (nums .i64 xs)) : RefRaw w1 lo u (pr.set k v) M nV nA (setR R k xs) := by
  have h1 := H.below hB
  have hlo : lo ≤ w.heap.size := Nat.le_trans H.bm (Nat.le_of_lt (blk_lt H.hm))
  have e : ∀ j, j ≠ k → (pr.set k v).rv j = pr.rv j := fun j hj => if_neg hj
  have es : ∀ j, j ≠ k → setR R k xs j = R j := fun j hj => if_neg hj
  have e1 : (pr.set k v).rv k = v := if_pos rfl
  refine ⟨?_, h1.bm, ?_, ?_, fun j => ?_, fun i j hij => ?_, H.apV, H.apA⟩
  · unfold refC
    rw [e 2 (by omega), e 0 (by omega), e 1 (by omega)]
    exact h1.hm
  · have : (List.range nV).map (fun i => (pr.set k v).rv (4 + 2 * i)) = (List.range nV).map fun i => pr.rv (4 + 2 * i) :=
      List.map_congr_left fun i hi => e _ (Ne.symm (hkV i (List.mem_range.1 hi)))
    rw [this]; exact h1.hV
  · have : (List.range nA).map (fun i => (pr.set k v).rv (3 + 2 * i)) = (List.range nA).map fun i => pr.rv (3 + 2 * i) :=
      List.map_congr_left fun i hi => e _ (Ne.symm (hkA i (List.mem_range.1 hi)))
    rw [this]; exact h1.hA
  · by_cases hj : j = k
    · subst hj
      rw [e1, show setR R j xs j = xs from if_pos rfl]
      exact own_lower ho hlo
    · rw [e j hj, es j hj]; exact h1.rows j
  · have far : ∀ j, j ≠ k → v.ownBlock = none ∨ v.ownBlock ≠ (pr.rv j).ownBlock := fun j hj => by
      cases hv : v.ownBlock with
      | none => exact .inl rfl
      | some b =>
        refine .inr fun he => ?_
        have h2 := (ho.lt b hv).1
        have h3 := ((H.rows j).lt b he.symm).2
        omega
    by_cases hi' : i = k
    · subst hi'
      rw [e1, e j (Ne.symm hij)]; exact far j (Ne.symm hij)
    · rw [e i hi']
      by_cases hj' : j = k
      · subst hj'
        rw [e1]
        rcases far i hi' with h2 | h2
        · rw [h2]
          cases hv : (pr.rv i).ownBlock with
          | none => exact .inl rfl
          | some b => exact .inr (by simp)
        · exact .inr (Ne.symm h2)
      · rw [e j hj']; exact h1.apart i j hij
theorem rpush_own {w w1 : World} {bm j : Nat} {v v1 : Value} {e : TypeId} {base n : Nat} {xs : List Value} (hv : w.ownsRow base e 1 v n xs) (hg : w.grownBy w1 v.ownBlock) {cb : Array Value} (hm : w.heap[bm]? = some (.cells cb 90 (0, 0)))
    {e' : TypeId} {base' n' : Nat} {u : Value} {ys : List Value} (h : w.ownsRow base' e' 1 u n' ys) (ht : e ≠ e') (ht' : e' ≠ 90) : (w1.setCell ⟨bm, j, none⟩ v1).ownsRow base' e' 1 u n' ys :=
  own_move h (fun k hk => by
    obtain ⟨c, hc⟩ := own_typed h k hk
    exact (push_keep hv hg hc ht (fun ek => by subst ek; rw [hm] at hc; injection hc with hc; injection hc with _ hc _; exact ht' hc.symm)).trans hc.symm)
theorem RefRaw.pushV {w w1 : World} {lo : Nat} {u : RefU} {pr : PhR} {M nV nA : Nat} {R : Nat → List Int} (H : RefRaw w lo u pr M nV nA R) {v1 : Value} (hg : w.grownBy w1 pr.hV.ownBlock)
    (ho : w1.ownsRow lo 22 1 v1 (nV + 1) ((List.range (nV + 1)).map fun i => pr.rv (4 + 2 * i))) (hat : v1.ownBlock = pr.hV.ownBlock ∨ ∃ b, v1.ownBlock = some b ∧ w.heap.size ≤ b) : RefRaw (w1.setCell ⟨pr.bm, 5, none⟩ v1) lo u { pr with hV := v1 } M (nV + 1) nA R := by
  have hm := H.hm
  have own1 : (w1.setCell ⟨pr.bm, 5, none⟩ v1).ownsRow lo 22 1 v1 (nV + 1) ((List.range (nV + 1)).map fun i => pr.rv (4 + 2 * i)) := by
    refine own_move ho (fun k hk => ?_)
    obtain ⟨c, hc⟩ := own_typed ho k hk
    refine Below.heap_setCell w1 _ v1 k (fun e => ?_)
    have e : k = pr.bm := e
    subst e
    rw [blk_keep hm hg (row_ne H.hV hm (by decide))] at hc
    injection hc with hc; injection hc with _ hc _; exact absurd hc (by decide)
  have own2 : (w1.setCell ⟨pr.bm, 5, none⟩ v1).ownsRow lo 22 1 pr.hA nA ((List.range nA).map fun i => pr.rv (3 + 2 * i)) :=
    own_move H.hA (fun k hk => by
      obtain ⟨c, hc⟩ := own_typed H.hA k hk
      have h1 : w1.heap[k]? = some (.cells c 22 (0, 0)) := blk_keep hc hg (fun h => by
        rcases H.apV with h2 | h2
        · rw [h2] at h; cases h
        · exact h2 (h.trans hk.symm))
      exact (blk_far h1 (fun ek => by subst ek; rw [hm] at hc; injection hc with hc; injection hc with _ hc _; exact absurd hc (by decide)) v1).trans hc.symm)
  have far : v1.ownBlock = none ∨ v1.ownBlock ≠ pr.hA.ownBlock := by
    rcases hat with h2 | ⟨b, h2, hb⟩
    · rw [h2]; exact H.apV
    · refine .inr fun he => ?_
      have h3 := (H.hA.lt b (he.symm.trans h2)).2
      omega
  have far2 : pr.hA.ownBlock = none ∨ pr.hA.ownBlock ≠ v1.ownBlock := by
    cases hv : pr.hA.ownBlock with
    | none => exact .inl rfl
    | some b =>
      refine .inr (fun he => ?_)
      rcases far with h | h
      · rw [h] at he; cases he
      · exact h (he.symm.trans hv.symm)
  exact ⟨blk_put (blk_keep hm hg (row_ne H.hV hm (by decide))) 5 v1 rfl, H.bm, own1, own2, fun j => rpush_own H.hV hg hm (H.rows j) (by decide) (by decide), H.apart, far, far2⟩
theorem RefRaw.pushA {w w1 : World} {lo : Nat} {u : RefU} {pr : PhR} {M nV nA : Nat} {R : Nat → List Int} (H : RefRaw w lo u pr M nV nA R) {v1 : Value} (hg : w.grownBy w1 pr.hA.ownBlock)
    (ho : w1.ownsRow lo 22 1 v1 (nA + 1) ((List.range (nA + 1)).map fun i => pr.rv (3 + 2 * i))) (hat : v1.ownBlock = pr.hA.ownBlock ∨ ∃ b, v1.ownBlock = some b ∧ w.heap.size ≤ b) : RefRaw (w1.setCell ⟨pr.bm, 7, none⟩ v1) lo u { pr with hA := v1 } M nV (nA + 1) R := by
  have hm := H.hm
  have own1 : (w1.setCell ⟨pr.bm, 7, none⟩ v1).ownsRow lo 22 1 v1 (nA + 1) ((List.range (nA + 1)).map fun i => pr.rv (3 + 2 * i)) := by
    refine own_move ho (fun k hk => ?_)
    obtain ⟨c, hc⟩ := own_typed ho k hk
    refine Below.heap_setCell w1 _ v1 k (fun e => ?_)
    have e : k = pr.bm := e
    subst e
    rw [blk_keep hm hg (row_ne H.hA hm (by decide))] at hc
    injection hc with hc; injection hc with _ hc _; exact absurd hc (by decide)
  have own2 : (w1.setCell ⟨pr.bm, 7, none⟩ v1).ownsRow lo 22 1 pr.hV nV ((List.range nV).map fun i => pr.rv (4 + 2 * i)) :=
    own_move H.hV (fun k hk => by
      obtain ⟨c, hc⟩ := own_typed H.hV k hk
      have h1 : w1.heap[k]? = some (.cells c 22 (0, 0)) := blk_keep hc hg (fun h => by
        rcases H.apA with h2 | h2
        · rw [h2] at h; cases h
        · exact h2 (h.trans hk.symm))
      exact (blk_far h1 (fun ek => by subst ek; rw [hm] at hc; injection hc with hc; injection hc with _ hc _; exact absurd hc (by decide)) v1).trans hc.symm)
  have far : v1.ownBlock = none ∨ v1.ownBlock ≠ pr.hV.ownBlock := by
    rcases hat with h2 | ⟨b, h2, hb⟩
    · rw [h2]; exact H.apA
    · refine .inr fun he => ?_
      have h3 := (H.hV.lt b (he.symm.trans h2)).2
      omega
  have far2 : pr.hV.ownBlock = none ∨ pr.hV.ownBlock ≠ v1.ownBlock := by
    cases hv : pr.hV.ownBlock with
    | none => exact .inl rfl
    | some b =>
      refine .inr (fun he => ?_)
      rcases far with h | h
      · rw [h] at he; cases he
      · exact h (he.symm.trans hv.symm)
  exact ⟨blk_put (blk_keep hm hg (row_ne H.hA hm (by decide))) 7 v1 rfl, H.bm, own2, own1, fun j => rpush_own H.hA hg hm (H.rows j) (by decide) (by decide), H.apart, far2, far⟩
theorem RefRaw.pushRow {w w1 : World} {lo : Nat} {u : RefU} {pr : PhR} {M nV nA : Nat} {R : Nat → List Int} (H : RefRaw w lo u pr M nV nA R) (k off : Nat) (hkA : ∀ i, 3 + 2 * i ≠ k) (hkV : ∀ i, 4 + 2 * i ≠ k) {v1 : Value} {xs : List Int} (hoff : (refC u pr M (0, 0, 0) false).setIfInBounds off v1 = refC u (pr.set k v1) M (0, 0, 0) false) (hg : w.grownBy w1 (pr.rv k).ownBlock)
    (ho : w1.ownsRow lo 3 1 v1 xs.length (nums .i64 xs)) (hat : v1.ownBlock = (pr.rv k).ownBlock ∨ ∃ b, v1.ownBlock = some b ∧ w.heap.size ≤ b) : RefRaw (w1.setCell ⟨pr.bm, off, none⟩ v1) lo u (pr.set k v1) M nV nA (setR R k xs) := by
  have hm := H.hm
  have e : ∀ j, j ≠ k → (pr.set k v1).rv j = pr.rv j := fun j hj => if_neg hj
  have es : ∀ j, j ≠ k → setR R k xs j = R j := fun j hj => if_neg hj
  have e1 : (pr.set k v1).rv k = v1 := if_pos rfl
  have hrow : ∀ j, j ≠ k → (w1.setCell ⟨pr.bm, off, none⟩ v1).ownsRow lo 3 1 (pr.rv j) (R j).length (nums .i64 (R j)) := fun j hj =>
    own_move (H.rows j) (fun q hq => by
      obtain ⟨c, hc⟩ := own_typed (H.rows j) q hq
      have h1 : w1.heap[q]? = some (.cells c 3 (0, 0)) := blk_keep hc hg (fun h => by
        rcases H.apart j k hj with h2 | h2
        · rw [h2] at hq; cases hq
        · exact h2 (hq.trans h.symm))
      exact (blk_far h1 (fun ek => by subst ek; rw [hm] at hc; injection hc with hc; injection hc with _ hc _; exact absurd hc (by decide)) v1).trans hc.symm)
  refine ⟨?_, H.bm, ?_, ?_, fun j => ?_, fun i j hij => ?_, H.apV, H.apA⟩
  · exact blk_put (blk_keep hm hg (row_ne (H.rows k) hm (by decide))) off v1 hoff
  · have : (List.range nV).map (fun i => (pr.set k v1).rv (4 + 2 * i)) = (List.range nV).map fun i => pr.rv (4 + 2 * i) := List.map_congr_left fun i _ => e _ (hkV i)
    rw [this]; exact rpush_own (H.rows k) hg hm H.hV (by decide) (by decide)
  · have : (List.range nA).map (fun i => (pr.set k v1).rv (3 + 2 * i)) = (List.range nA).map fun i => pr.rv (3 + 2 * i) := List.map_congr_left fun i _ => e _ (hkA i)
    rw [this]; exact rpush_own (H.rows k) hg hm H.hA (by decide) (by decide)
  · by_cases hj : j = k
    · subst hj
      rw [e1, show setR R j xs j = xs from if_pos rfl]
      refine own_move ho (fun q hq => ?_)
      obtain ⟨c, hc⟩ := own_typed ho q hq
      refine Below.heap_setCell w1 _ v1 q (fun e => ?_)
      have e : q = pr.bm := e
      subst e
      rw [blk_keep hm hg (row_ne (H.rows j) hm (by decide))] at hc
      injection hc with hc; injection hc with _ hc _; exact absurd hc (by decide)
    · rw [e j hj, es j hj]; exact hrow j hj
  · have far : ∀ j, j ≠ k → v1.ownBlock = none ∨ v1.ownBlock ≠ (pr.rv j).ownBlock := fun j hj => by
      rcases hat with h2 | ⟨b, h2, hb⟩
      · rw [h2]; exact H.apart k j (Ne.symm hj)
      · refine .inr fun he => ?_
        have h3 := ((H.rows j).lt b (he.symm.trans h2)).2
        omega
    by_cases hi' : i = k
    · subst hi'
      rw [e1, e j (Ne.symm hij)]; exact far j (Ne.symm hij)
    · rw [e i hi']
      by_cases hj' : j = k
      · subst hj'
        rw [e1]
        rcases far i hi' with h2 | h2
        · rw [h2]
          cases hv : (pr.rv i).ownBlock with
          | none => exact .inl rfl
          | some b => exact .inr (by simp)
        · exact .inr (Ne.symm h2)
      · rw [e j hj']; exact H.apart i j hij
theorem RefRaw.as {w : World} {lo : Nat} {u : RefU} {pr : PhR} {M nV nA : Nat} {R R' : Nat → List Int} (H : RefRaw w lo u pr M nV nA R) (h : ∀ j, R j = R' j) : RefRaw w lo u pr M nV nA R' := (funext h) ▸ H
def gR (G A : List Int) (cs : List S49) (i o n : Nat) (j : Nat) : List Int := if j = 2 then List.replicate n 0 else newRow G A cs i o n j
theorem gR_2 (G A : List Int) (cs : List S49) (i o n : Nat) : gR G A cs i o n 2 = List.replicate n 0 := if_pos rfl
theorem gR_ne (G A : List Int) (cs : List S49) (i o n : Nat) {j : Nat} (h : j ≠ 2) : gR G A cs i o n j = newRow G A cs i o n j := if_neg h
theorem gR_thr (G A : List Int) (cs : List S49) (i o k : Nat) (j : Nat) : setR (setR (gR G A cs i o k) 2 (List.replicate k 0 ++ [0])) (4 + 2 * k) (List.replicate (rd_T49 cs k).f0.toNat 0) j = gR G A cs i o (k + 1) j := by
  unfold setR gR
  have h := congrFun (congrArg St.row (newSt_thr G A cs i o k)) j
  by_cases h2 : j = 2
  · rw [if_neg (by omega), if_pos h2, if_pos h2, List.replicate_succ']
  · rw [if_neg h2, if_neg h2, if_neg h2]; exact h
theorem gR_arr (G A : List Int) (cs : List S49) (i o n : Nat) (j : Nat) : setR (gR G A cs i o n) (3 + 2 * i) (List.replicate (rd A i).toNat 0) j = gR G A cs (i + 1) o n j := by
  unfold setR gR
  have h := congrFun (congrArg St.row (newSt_arr G A cs i o n)) j
  by_cases h2 : j = 2
  · rw [if_neg (by omega), if_pos h2, if_pos h2]
  · rw [if_neg h2, if_neg h2]; exact h
theorem gR_own (G A : List Int) (cs : List S49) (i o n : Nat) (j : Nat) : setR (gR G A cs i o n) 1 (List.replicate o (-1) ++ [-1]) j = gR G A cs i (o + 1) n j := by
  unfold setR gR
  have h := congrFun (congrArg St.row (newSt_own G A cs i o n)) j
  by_cases h2 : j = 2
  · rw [if_neg (by omega), if_pos h2, if_pos h2]
  · rw [if_neg h2, if_neg h2]; exact h
theorem gR_end (G A : List Int) (cs : List S49) (i o n : Nat) (j : Nat) : gR G A cs i o n j = rowR n (newSt G A cs i o n) j := by
  unfold gR rowR
  by_cases h2 : j = 2
  · rw [if_pos h2, if_pos h2]
    show _ = (List.range n).map (fun _ => (0 : Int))
    rw [List.map_const', List.length_range]
  · rw [if_neg h2, if_neg h2]; rfl
def MidR (w : World) (uC : Array Value) (u : RefU) (bm gu M nV nA : Nat) (R : Nat → List Int) (W : World) : Prop := ∃ pr : PhR, pr.bm = bm ∧ RefRaw W w.heap.size u pr M nV nA R ∧ W.heap[gu]? = some (.cells uC 25 (0, 0)) ∧ Below w.heap.size w W
theorem slice_at {v : Value} {g n c H : Nat} (h : v.ownBlock = some g ∨ g = H) : (Value.slice (some ⟨g, 0, none⟩) n c).ownBlock = v.ownBlock ∨ ∃ b, (Value.slice (some ⟨g, 0, none⟩) n c).ownBlock = some b ∧ H ≤ b := by
  rcases h with h | h
  · exact .inl h.symm
  · exact .inr ⟨g, rfl, by omega⟩
theorem nums_snoc (xs : List Int) (x : Int) : nums .i64 xs ++ [.int .i64 x] = nums .i64 (xs ++ [x]) := by simp [nums]
theorem raw_below {w W W' : World} {lo : Nat} {v : Value} {e : TypeId} {n : Nat} {xs : List Value} (hb : Below lo w W) (h : W.ownsRow lo e 1 v n xs) (hlo : lo ≤ W.heap.size) (hg : W.grownBy W' v.ownBlock) : Below lo w W' := hb.grown hg hlo (own_base h)
/-- A number is appended to one of its rows. -/
theorem mid_row {w wr w5 w6 : World} {uC : Array Value} {u : RefU} {pr : PhR} {gu M nV nA : Nat} {R R' : Nat → List Int} (H : RefRaw wr w.heap.size u pr M nV nA R) (hu : wr.heap[gu]? = some (.cells uC 25 (0, 0))) (hb : Below w.heap.size w wr) (k off : Nat) (hkA : ∀ i, 3 + 2 * i ≠ k) (hkV : ∀ i, 4 + 2 * i ≠ k) (x : Int) {ys : List Int} (hys : R k = ys) {n : Nat} (hn : ys.length = n)
    (hb5 : Below wr.heap.size wr w5) {g cap : Nat} (hg6 : w5.grownBy w6 (pr.rv k).ownBlock) (ho6 : w6.ownsRow w.heap.size 3 1 (.slice (some ⟨g, 0, none⟩) (n + 1) cap) (n + 1) (nums .i64 ys ++ [.int .i64 x])) (hat : (pr.rv k).ownBlock = some g ∨ g = w5.heap.size)
    (hoff : (refC u pr M (0, 0, 0) false).setIfInBounds off (.slice (some ⟨g, 0, none⟩) (n + 1) cap) = refC u (pr.set k (.slice (some ⟨g, 0, none⟩) (n + 1) cap)) M (0, 0, 0) false) (hR : ∀ j, setR R k (ys ++ [x]) j = R' j) :
    MidR w uC u pr.bm gu M nV nA R' (w6.setCell ⟨pr.bm, off, none⟩ (.slice (some ⟨g, 0, none⟩) (n + 1) cap)) := by
  subst hys hn
  have H5 := H.below hb5
  have hlo := H5.bm
  rw [nums_snoc] at ho6
  have hs := Nat.le_trans hlo (Nat.le_of_lt (blk_lt H5.hm))
  refine ⟨pr.set k (.slice (some ⟨g, 0, none⟩) ((R k).length + 1) cap), rfl, (H5.pushRow k off hkA hkV (xs := R k ++ [x]) hoff hg6 (by rw [List.length_append, List.length_singleton]; exact ho6) (slice_at hat)).as hR, ?_, ?_⟩
  · have h5 := below_read hb5 hu
    refine blk_far (blk_keep h5 hg6 (row_ne (H5.rows k) h5 (by decide))) (fun e => ?_) _
    have e : gu = pr.bm := e
    subst e
    rw [H5.hm] at h5
    injection h5 with h5; injection h5 with _ h5 _; exact absurd h5 (by decide)
  · exact (raw_below (below_on hb hb5) (H5.rows k) hs hg6).setCell (show w.heap.size ≤ (⟨pr.bm, off, none⟩ : Addr).block from hlo) _
theorem map_snoc {pr : PhR} {v : Value} (o k n : Nat) (hk : k = o + 2 * n) : (List.range (n + 1)).map (fun i => (pr.set k v).rv (o + 2 * i)) = (List.range n).map (fun i => pr.rv (o + 2 * i)) ++ [v] := by
  rw [List.range_succ, List.map_append]
  congr 1
  · refine List.map_congr_left fun i hi => ?_
    have := List.mem_range.1 hi
    exact if_neg (by omega)
  · subst hk
    simp [PhR.set]
/-- A row of zeros is appended to the rows of variables. -/
theorem mid_V {w wr w8 w9 w10 : World} {uC : Array Value} {u : RefU} {pr : PhR} {gu M nV nA : Nat} {R R' : Nat → List Int} (H : RefRaw wr w.heap.size u pr M nV nA R) (hu : wr.heap[gu]? = some (.cells uC 25 (0, 0))) (hb : Below w.heap.size w wr) {vr : Value} {xs : List Int}
    (hb8 : Below wr.drew.heap.size wr.drew w8) (ho8 : w8.ownsRow wr.drew.heap.size 3 1 vr xs.length (nums .i64 xs)) (hb9 : Below w8.heap.size w8 w9) {g cap : Nat} (hg10 : w9.grownBy w10 pr.hV.ownBlock)
    (ho10 : w10.ownsRow w.heap.size 22 1 (.slice (some ⟨g, 0, none⟩) (nV + 1) cap) (nV + 1) ((List.range nV).map (fun j => pr.rv (4 + 2 * j)) ++ [vr])) (hat : pr.hV.ownBlock = some g ∨ g = w9.heap.size) (hR : ∀ j, setR R (4 + 2 * nV) xs j = R' j) :
    MidR w uC u pr.bm gu M (nV + 1) nA R' (w10.setCell ⟨pr.bm, 5, none⟩ (.slice (some ⟨g, 0, none⟩) (nV + 1) cap)) := by
  have H0 := H.below (drew_below wr)
  have H8 := H0.fresh (4 + 2 * nV) (v := vr) (xs := xs) (by omega) (fun i hi => by omega) (fun i hi => by omega) hb8 ho8
  have H9 := H8.below hb9
  have hs := Nat.le_trans H9.bm (Nat.le_of_lt (blk_lt H9.hm))
  have hb9' : Below w.heap.size w w9 := below_on (below_drew hb) (below_on hb8 hb9)
  refine ⟨{ pr.set (4 + 2 * nV) vr with hV := .slice (some ⟨g, 0, none⟩) (nV + 1) cap }, rfl, (H9.pushV hg10 (by rw [map_snoc 4 (4 + 2 * nV) nV rfl]; exact ho10) (slice_at hat)).as hR, ?_, ?_⟩
  · have h5 : w9.heap[gu]? = _ := below_read (below_on hb8 hb9) (hu : wr.drew.heap[gu]? = _)
    refine blk_far (blk_keep h5 hg10 (row_ne H9.hV h5 (by decide))) (fun e => ?_) _
    have e : gu = pr.bm := e
    subst e
    rw [show w9.heap[pr.bm]? = _ from H9.hm] at h5
    injection h5 with h5; injection h5 with _ h5 _; exact absurd h5 (by decide)
  · exact (raw_below hb9' H9.hV hs hg10).setCell (show w.heap.size ≤ (⟨pr.bm, 5, none⟩ : Addr).block from H9.bm) _
/-- .. to the arrays. -/
theorem mid_A {w wr w8 w9 w10 : World} {uC : Array Value} {u : RefU} {pr : PhR} {gu M nV nA : Nat} {R R' : Nat → List Int} (H : RefRaw wr w.heap.size u pr M nV nA R) (hu : wr.heap[gu]? = some (.cells uC 25 (0, 0))) (hb : Below w.heap.size w wr) {vr : Value} {xs : List Int}
    (hb8 : Below wr.drew.heap.size wr.drew w8) (ho8 : w8.ownsRow wr.drew.heap.size 3 1 vr xs.length (nums .i64 xs)) (hb9 : Below w8.heap.size w8 w9) {g cap : Nat} (hg10 : w9.grownBy w10 pr.hA.ownBlock)
    (ho10 : w10.ownsRow w.heap.size 22 1 (.slice (some ⟨g, 0, none⟩) (nA + 1) cap) (nA + 1) ((List.range nA).map (fun j => pr.rv (3 + 2 * j)) ++ [vr])) (hat : pr.hA.ownBlock = some g ∨ g = w9.heap.size) (hR : ∀ j, setR R (3 + 2 * nA) xs j = R' j) :
    MidR w uC u pr.bm gu M nV (nA + 1) R' (w10.setCell ⟨pr.bm, 7, none⟩ (.slice (some ⟨g, 0, none⟩) (nA + 1) cap)) := by
  have H0 := H.below (drew_below wr)
  have H8 := H0.fresh (3 + 2 * nA) (v := vr) (xs := xs) (by omega) (fun i hi => by omega) (fun i hi => by omega) hb8 ho8
  have H9 := H8.below hb9
  have hs := Nat.le_trans H9.bm (Nat.le_of_lt (blk_lt H9.hm))
  have hb9' : Below w.heap.size w w9 := below_on (below_drew hb) (below_on hb8 hb9)
  refine ⟨{ pr.set (3 + 2 * nA) vr with hA := .slice (some ⟨g, 0, none⟩) (nA + 1) cap }, rfl, (H9.pushA hg10 (by rw [map_snoc 3 (3 + 2 * nA) nA rfl]; exact ho10) (slice_at hat)).as hR, ?_, ?_⟩
  · have h5 : w9.heap[gu]? = _ := below_read (below_on hb8 hb9) (hu : wr.drew.heap[gu]? = _)
    refine blk_far (blk_keep h5 hg10 (row_ne H9.hA h5 (by decide))) (fun e => ?_) _
    have e : gu = pr.bm := e
    subst e
    rw [show w9.heap[pr.bm]? = _ from H9.hm] at h5
    injection h5 with h5; injection h5 with _ h5 _; exact absurd h5 (by decide)
  · exact (raw_below hb9' H9.hA hs hg10).setCell (show w.heap.size ≤ (⟨pr.bm, 7, none⟩ : Addr).block from H9.bm) _
theorem own_empty3 {w : World} {g base : Nat} (h : w.heap[g]? = some (.cells #[] 3 (0, 0))) (hb : base ≤ g) : w.ownsRow base 3 1 (.slice (some ⟨g, 0, none⟩) 0 0) 0 [] :=
  ⟨rfl, .inr ⟨g, 0, #[], rfl, hb, h, Nat.le_refl _, Nat.zero_le _, rfl, rfl⟩⟩
theorem midR_start {w w4 : World} {uC : Array Value} {u : RefU} {G A : List Int} {cs : List S49} {bm gu M : Nat} {Av : Option Addr} {cv base : Nat} (hu : w4.heap[gu]? = some (.cells uC 25 (0, 0))) (hb : Below w.heap.size w w4) (hbm : w.heap.size ≤ bm) (hbase : w.heap.size ≤ base)
    (hm : w4.heap[bm]? = some (.cells #[.slice u.Ag u.ng u.cg, .slice u.Aa u.na u.ca, .int .i64 u.m, .slice u.At M u.ct, .slice none 0 0, .slice none 0 0, .slice Av G.length cv, .slice none 0 0, .slice none 0 0, .int .i64 0, .int .i64 0, .int .i64 0, .bool false] 90 (0, 0)))
    (ho : w4.ownsRow base 3 1 (.slice Av G.length cv) G.length (nums .i64 G)) : MidR w uC u bm gu M 0 0 (gR G A cs 0 0 0) w4 := by
  refine ⟨⟨bm, .slice none 0 0, .slice none 0 0, fun k => if k = 0 then .slice Av G.length cv else .slice none 0 0⟩, rfl, ?_, hu, hb⟩
  have nn : (Value.slice none 0 0).ownBlock = none := rfl
  refine ⟨hm, hbm, own_nil _ _ _, own_nil _ _ _, fun k => ?_, fun i j hij => ?_, .inl rfl, .inl rfl⟩
  · by_cases hk : k = 0
    · subst hk
      exact own_lower ho hbase
    · have e : gR G A cs 0 0 0 k = [] := by
        unfold gR
        split
        · rfl
        · exact newRow_zero G A cs k hk
      rw [e]
      simp only [if_neg hk]
      exact own_nil _ _ _
  · by_cases hi : i = 0
    · have hj : j ≠ 0 := fun e => hij (hi.trans e.symm)
      simp only [if_neg hj, nn]
      cases hv : (if i = 0 then Value.slice Av G.length cv else Value.slice none 0 0).ownBlock with
      | none => exact .inl rfl
      | some b => exact .inr (by simp)
    · simp only [if_neg hi, nn]
      exact .inl trivial
section
variable {P : Program} {ops : Array Oper} {o : Oper} {a : Act} {Q : Exit → Act → World → Prop} {Kc : Act → World → Prop}
theorem lit_step_at {W : World} {n : Nat} (hw : Region.wanted o (yielded ops a.tmps) = true) {N : Tmp} (_hd : o.dst = some N) {cs : Array Value} {t : TypeId}
    (hrun : (execOp a.eval o).run P W = .ok (.value (.slice (some ⟨W.heap.size, 0, none⟩) n n)) (W.alloc (.cells cs t (0, 0))))
    (h : ∀ g w1, g = W.heap.size → w1.heap[g]? = some (.cells cs t (0, 0)) → Below W.heap.size W w1 → Kc (a.put o.dst (.slice (some ⟨g, 0, none⟩) n n)) w1) : if Region.wanted o (yielded ops a.tmps) = true then Oper.wp P o a W Kc Q else Kc (a.put o.dst undef) W :=
  event_step hw hrun (h _ _ rfl (blk_new W _) (below_alloc (Below.refl _ _) _))
theorem arow_step {W : World} (base : Nat) (hw : Region.wanted o (yielded ops a.tmps) = true) (s x : Operand) (t : TypeId) (ho : o.op = .call { callee := .builtin .append, args := #[s, x], argTypes := #[t, t] })
    (ht : P.underlying t = some (.slice 3)) (hinfo : (P.info? 3).map (fun i => (i.zero, i.size, i.bytes)) = some (some (.int .i64 0), 1, 8))
    (v : Value) (ys : List Int) (A : Option Addr) (m c : Nat) (hs : a.eval s = v) (hx : a.eval x = .slice A m c) (HO : W.ownsRow base 3 1 v 0 (nums .i64 [])) (HR : ReadsInt W .i64 A m ys) (hbase : base ≤ W.heap.size) (hl : m ≤ 1000)
    (h : ∀ A1 c1 w1, w1.ownsRow base 3 1 (.slice A1 ys.length c1) ys.length (nums .i64 ys) → W.grownBy w1 v.ownBlock → Kc (a.put o.dst (.slice A1 ys.length c1)) w1) : if Region.wanted o (yielded ops a.tmps) = true then Oper.wp P o a W Kc Q else Kc (a.put o.dst undef) W := by
  obtain ⟨i0, hi, hzz⟩ := Option.map_eq_some_iff.1 hinfo
  simp only [Prod.mk.injEq] at hzz
  obtain ⟨hz0, hz1, hz2⟩ := hzz
  have hm : ys.length = m := HR.1
  have hrun : ∃ v1 w1, (Builtin.append_ #[t, t] o.type #[v, .slice A m c]).run P W = .ok v1 w1 ∧ w1.ownsRow base 3 1 v1 ys.length (nums .i64 ys) ∧ W.grownBy w1 v.ownBlock := by
    rcases A with _ | ad
    · have h0 : m = 0 := by
        rcases Nat.eq_zero_or_pos m with h0 | h0
        · exact h0
        · obtain ⟨ad, h, _⟩ := HR.2.2 h0
          cases h
      subst h0
      obtain rfl : ys = [] := List.eq_nil_of_length_eq_zero hm
      refine ⟨v, W, ?_, by simpa using HO, World.grownBy.refl W _⟩
      rcases HO.2 with ⟨rfl, hn⟩ | ⟨g, cap, cur, rfl, _, _, hnc, _⟩
      · simp [Builtin.append_, run_underlying ht, sizeOf, typeInfo, hi, Builtin.lenOf, Builtin.firstCells]
      · simp [Builtin.append_, run_underlying ht, sizeOf, typeInfo, hi, Builtin.lenOf, Builtin.firstCells, hnc, storeCells]
    · have hcells : ∀ j u, (nums .i64 ys)[j]? = some u → W.cell? (ad.add j) = some u := by
        intro j u hu
        have hj : j < ys.length := by
          rcases Nat.lt_or_ge j ys.length with h | h
          · exact h
          · simp [nums, List.getElem?_eq_none h] at hu
        obtain ⟨ad', h', hc⟩ := HR.2.2 (by omega)
        injection h' with h'
        subst h'
        have := hc j (by omega)
        simp [nums, List.getElem?_eq_getElem hj] at hu
        subst hu
        rw [this]
        simp [List.getD_eq_getElem?_getD, List.getElem?_eq_getElem hj]
      obtain ⟨v1, w1, hr, h2, h3, _, h5⟩ := run_append_own_at (P := P) W base t o.type 3 i0 (.int .i64 0) 1 8 ht hi hz0 hz1 hz2 rfl (by omega) v 0 (nums .i64 []) HO ad m c (nums .i64 ys) (by simp [nums, hm]) hcells
        (by intro u hu; simp only [nums, List.mem_map] at hu; obtain ⟨q, _, rfl⟩ := hu; rfl) (by simp only [maxLen]; omega) (by omega) hbase
      exact ⟨v1, w1, hr, by simpa [nums, hm] using h2, h3⟩
  obtain ⟨v1, w1, hr, hown, hg⟩ := hrun
  rw [if_pos hw]
  unfold Oper.wp execOp
  simp only [ho, resolve, invoke, builtin, Sem.run_bind, Sem.run_pure, Result.andThen_ok, List.map_toArray, List.map_cons, List.map_nil, hs, hx, hr]
  obtain ⟨A1, c1, rfl⟩ := own_slice hown
  exact h A1 c1 w1 hown hg
end
def NewOutR (w : World) (u : RefU) (G A : List Int) (m : Int) (cs : List S49) (e : Ending) (w' : World) : Prop :=
  ∃ pr : PhR, e = .returned (.tuple #[.pointer (some ⟨pr.bm, 0, none⟩), .int .i64 0]) ∧ RefIn w' w.heap.size w'.heap.size u pr cs.length A.length (newSt G A cs A.length m.toNat cs.length) ∧ Below w.heap.size w w'
set_option maxHeartbeats 8000000 in
set_option maxRecDepth 100000 in
theorem rnew_calls (w : World) (Ag : Option Addr) (cg : Nat) (G : List Int) (Aa : Option Addr) (ca : Nat) (A : List Int) (m : Int) (At : Option Addr) (ct : Nat) (cs : List S49) (hg : Kd.C (Kd.int .i64) w Ag G.length G) (hcg : G.length ≤ cg) (ha : Kd.C (Kd.int .i64) w Aa A.length A) (hca : A.length ≤ ca) (ht : Kd.C k49 w At cs.length cs) (hct : cs.length ≤ ct) (ok : OkUnit G A m cs) :
    Calls Try.prog 29 #[.agg #[.slice Ag G.length cg, .slice Aa A.length ca, .int .i64 m, .slice At cs.length ct]] w fun e w' => NewOutR w ⟨Ag, G.length, cg, Aa, A.length, ca, m, At, ct⟩ G A m cs e w' := by
  have HI := Aside0.mk (fun (W : World) (hb : Below w.heap.size w W) => is8_calls W Ag cg G Aa ca A m At ct cs (Kd.C_below hg hb) hcg (Kd.C_below ha hb) hca (Kd.C_below ht hb) hct)
  rw [isB_iff.2 ok] at HI
  have OK := Aside0.mk ok
  have HGc := Aside0.mk hg
  have HA := Aside0.mk ha
  have HT := Aside0.mk ht
  clear ok hg ha ht
  go_enter Try.func29, Try.ntmps29
  go_wp2_with (first | ((with_reducible refine gate_dst (N := 1) rfl ?_); refine box_event ?hg (N := 1) ?hd (cs := #[.slice Ag G.length cg, .slice Aa A.length ca, .int .i64 m, .slice At cs.length ct]) (t := 25) ?hr ?_; (case hd => rfl); (case hg => rfl); (case hr => first | (go_simp; done) | (go_simp; rfl)); intro gu hgg w1 hlit hb; have HLw1 := Aside0.mk hlit; have HKw1 := Aside0.mk hb; have HGw1 := Aside0.mk hgg; have HB1 := Aside0.mk hb; have HU1 := Aside0.mk hlit; have hu0 : w1.cell? ⟨gu, 0, none⟩ = some (.slice Ag G.length cg) := (blk_cell HU1.out 0).trans rfl; have hu1 : w1.cell? ⟨gu, 1, none⟩ = some (.slice Aa A.length ca) := (blk_cell HU1.out 1).trans rfl; have hu2 : w1.cell? ⟨gu, 2, none⟩ = some (.int .i64 m) := (blk_cell HU1.out 2).trans rfl; have hu3 : w1.cell? ⟨gu, 3, none⟩ = some (.slice At cs.length ct) := (blk_cell HU1.out 3).trans rfl; clear hlit hb hgg) | (go_at_call 39; refine (HI.out _ HB1.out).mono ?_; rintro e w2 ⟨rfl, hb2⟩; have HB2 := Aside0.mk (below_on HB1.out hb2); have HU2 := Aside0.mk (below_read hb2 HU1.out); clear hu0 hu1 hu2 hu3; have hu0 : w2.cell? ⟨gu, 0, none⟩ = some (.slice Ag G.length cg) := (blk_cell HU2.out 0).trans rfl; have hu1 : w2.cell? ⟨gu, 1, none⟩ = some (.slice Aa A.length ca) := (blk_cell HU2.out 1).trans rfl; have hu2 : w2.cell? ⟨gu, 2, none⟩ = some (.int .i64 m) := (blk_cell HU2.out 2).trans rfl; have hu3 : w2.cell? ⟨gu, 3, none⟩ = some (.slice At cs.length ct) := (blk_cell HU2.out 3).trans rfl; clear hb2))
  have HC0 := Aside0.mk (hu0 : w2.drew.cell? _ = _)
  have HC1 := Aside0.mk (hu1 : w2.drew.cell? _ = _)
  have HC2 := Aside0.mk (hu2 : w2.drew.cell? _ = _)
  have HC3 := Aside0.mk (hu3 : w2.drew.cell? _ = _)
  refine start_ (n := 8) (S := fun w' => w'.cell? ⟨gu, 0, none⟩ = some (.slice Ag G.length cg) ∧ w'.cell? ⟨gu, 1, none⟩ = some (.slice Aa A.length ca) ∧ w'.cell? ⟨gu, 2, none⟩ = some (.int .i64 m) ∧ w'.cell? ⟨gu, 3, none⟩ = some (.slice At cs.length ct)) (ds := []) #[false, false, false, false, false, false, false, false] (by kernel_rfl) rfl rfl ⟨hu0, hu1, hu2, hu3⟩ (fun hHeld => ?_)
  refine pure_ (i := 2) (N := some 13) (v := ?_) (a' := ?_) #[false, false, true, false, false, false, false, false] rfl rfl (by kernel_rfl) (fun _ _ _ h => h) (Or.inl ⟨by rfl, ?_⟩) ?_ ?_
  rotate_left
  · intro w'
    go_simp
    with_reducible rfl
  rotate_left
  · simp only [Act.put, List.setIfInBounds_toArray, List.set_cons_zero, List.set_cons_succ, i64_w, i32_w]
    rfl
  refine take_ (i := 0) (N := some 11) (v := ?_) (a' := ?_) #[true, false, true, false, false, false, false, false] rfl rfl (by kernel_rfl) (fun _ _ _ h => h) (Or.inl ⟨by rfl, ?_⟩) hHeld ?_ ?_
  rotate_left
  · rintro w' ⟨s0, s1, s2, s3⟩
    go_simp
    with_reducible rfl
  rotate_left
  · simp only [Act.put, List.setIfInBounds_toArray, List.set_cons_zero, List.set_cons_succ, i64_w, i32_w]
    rfl
  refine take_ (i := 3) (N := some 14) (v := ?_) (a' := ?_) #[true, false, true, true, false, false, false, false] rfl rfl (by kernel_rfl) (fun _ _ _ h => h) (Or.inl ⟨by rfl, ?_⟩) hHeld ?_ ?_
  rotate_left
  · rintro w' ⟨s0, s1, s2, s3⟩
    go_simp
    with_reducible rfl
  rotate_left
  · simp only [Act.put, List.setIfInBounds_toArray, List.set_cons_zero, List.set_cons_succ, i64_w, i32_w]
    rfl
  refine one_ (i := 1) (N := some 12) #[true, true, true, true, false, false, false, false] rfl rfl (by kernel_rfl) (by decide) (fun K hK => ?_)
  refine lit_step_at (n := 0) (by rfl) (N := 12) rfl (cs := #[]) (t := 3) ?hr ?_
  case hr => first | (go_simp; done) | (go_simp; rfl)
  intro g3 w3 hg3 hlit hb
  have HB3 := Aside0.mk hb
  have HL3 := Aside0.mk hlit
  clear hlit
  have HG3 := Aside0.mk hg3
  clear hg3
  refine hK.out _ _ ⟨pw_cell_below hb hHeld.1, pw_cell_below hb hHeld.2.1, pw_cell_below hb hHeld.2.2.1, pw_cell_below hb hHeld.2.2.2⟩ (fun hHeld => ?_)
  clear hK K
  refine norm_ (a' := ?_) ?_ ?_
  rotate_left
  · show Act.put _ (some 12) _ = _
    simp only [Act.put, List.setIfInBounds_toArray, List.set_cons_zero, List.set_cons_succ, i64_w, i32_w]
    rfl
  refine one_ (i := 4) (N := some 15) #[true, true, true, true, true, false, false, false] rfl rfl (by kernel_rfl) (by decide) (fun K hK => ?_)
  refine arow_step (W := w3) w2.drew.heap.size (by rfl) (.tmp 12) (.tmp 14) 22 rfl Try.underlying22 info3 (.slice (some ⟨g3, 0, none⟩) 0 0) G Ag G.length cg rfl rfl (own_empty3 HL3.out (Nat.le_of_eq HG3.out.symm)) (C_ints (Kd.C_below HGc.out (below_on HB2.out (below_on (drew_below w2) HB3.out)))) HB3.out.size (by have := OK.out.gl; omega) ?_
  intro Av cv w4 ho4 hg4
  have hb := HB3.out.grown hg4 HB3.out.size (own_base (own_empty3 HL3.out (Nat.le_of_eq HG3.out.symm)))
  have HB4 := Aside0.mk hb
  have HO4 := Aside0.mk ho4
  clear ho4 hg4
  refine hK.out _ _ ⟨pw_cell_below HB4.out HC0.out, pw_cell_below HB4.out HC1.out, pw_cell_below HB4.out HC2.out, pw_cell_below HB4.out HC3.out⟩ (fun hHeld => ?_)
  clear hK K
  refine norm_ (a' := ?_) ?_ ?_
  rotate_left
  · show Act.put _ (some 15) _ = _
    simp only [Act.put, List.setIfInBounds_toArray, List.set_cons_zero, List.set_cons_succ, i64_w, i32_w]
    rfl
  refine pure_ (i := 5) (N := some 16) (v := ?_) (a' := ?_) #[true, true, true, true, true, true, false, false] rfl rfl (by kernel_rfl) (fun _ _ _ h => h) (Or.inl ⟨by rfl, ?_⟩) ?_ ?_
  rotate_left
  · intro w'
    go_simp
    with_reducible rfl
  rotate_left
  · simp only [Act.put, List.setIfInBounds_toArray, List.set_cons_zero, List.set_cons_succ, i64_w, i32_w]
    rfl
  refine one_ (i := 6) (N := some 17) #[true, true, true, true, true, true, true, false] rfl rfl (by kernel_rfl) (by decide) (fun K hK => ?_)
  refine box_step (by rfl) (N := 17) rfl (cs := #[.slice Ag G.length cg, .slice Aa A.length ca, .int .i64 m, .slice At cs.length ct, .slice none 0 0, .slice none 0 0, .slice Av G.length cv, .slice none 0 0, .slice none 0 0, .int .i64 0, .int .i64 0, .int .i64 0, .bool false]) (t := 90) ?hr ?_
  case hr => first | (go_simp; done) | (go_simp; rfl)
  intro bm hbm w5 hbx hb
  have HX5 := Aside0.mk hbx
  have HB5 := Aside0.mk hb
  have HBM := Aside0.mk hbm
  clear hbx hbm
  refine hK.out _ _ ⟨pw_cell_below hb hHeld.1, pw_cell_below hb hHeld.2.1, pw_cell_below hb hHeld.2.2.1, pw_cell_below hb hHeld.2.2.2⟩ (fun hHeld => ?_)
  clear hK K
  refine norm_ (a' := ?_) ?_ ?_
  rotate_left
  · show Act.put _ (some 17) _ = _
    simp only [Act.put, List.setIfInBounds_toArray, List.set_cons_zero, List.set_cons_succ, i64_w, i32_w]
    rfl
  refine pure_ (i := 7) (N := some 4) (v := ?_) (a' := ?_) #[true, true, true, true, true, true, true, true] rfl rfl (by kernel_rfl) (fun _ _ _ h => h) (Or.inl ⟨by rfl, ?_⟩) ?_ ?_
  rotate_left
  · intro w'
    go_simp
    with_reducible rfl
  rotate_left
  · simp only [Act.put, List.setIfInBounds_toArray, List.set_cons_zero, List.set_cons_succ, i64_w, i32_w]
    rfl
  refine done_ (by kernel_rfl) ?_
  have hw5 : w5.heap[gu]? = some (.cells #[.slice Ag G.length cg, .slice Aa A.length ca, .int .i64 m, .slice At cs.length ct] 25 (0, 0)) := below_read HB5.out (below_read HB4.out (HU2.out : w2.drew.heap[gu]? = _))
  have HU5 := Aside0.mk hw5
  have HT5 := Aside0.mk (below_on HB2.out (below_on (drew_below w2) (below_on HB4.out HB5.out)))
  obtain ⟨bm0, ebm⟩ : ∃ b, bm = b := ⟨_, rfl⟩
  subst ebm
  have hu3 : w5.cell? ⟨gu, 3, none⟩ = some (.slice At cs.length ct) := (blk_cell hw5 3).trans rfl
  clear hw5 hHeld hu0 hu1 hu2
  go_wp2_with fail
  go_loopg [5] cs.length (fun gg s5 wr => ∃ k : Nat, k ≤ cs.length ∧ cs.length - k ≤ gg ∧ s5 = .int .i64 k ∧ Aside0 (MidR w #[.slice Ag G.length cg, .slice Aa A.length ca, .int .i64 m, .slice At cs.length ct] ⟨Ag, G.length, cg, Aa, A.length, ca, m, At, ct⟩ bm gu cs.length k 0 (gR G A cs 0 0 k) wr))
  case atStart => exact ⟨0, Nat.zero_le _, by omega, rfl, ⟨midR_start HU5.out HT5.out (by rw [HBM.out]; exact Nat.le_trans HB2.out.size HB4.out.size) HB2.out.size HX5.out (pw_own_below HO4.out HB5.out)⟩⟩
  case round =>
    clear hu3 HB3 HL3 HG3 HB4 HO4 HX5 HB5 HC0 HC1 HC2 HC3 HLw1 HKw1 HGw1 HB1 HU1 HU2 HBM
    obtain ⟨k, hk, hgg, rfl, MID⟩ := hrel
    obtain ⟨pr, hbm, H, hu, hb⟩ := MID.out
    subst hbm
    have hu3 : wr.cell? ⟨gu, 3, none⟩ = some (.slice At cs.length ct) := (blk_cell hu 3).trans rfl
    by_cases hlt : k < cs.length
    · have hltz : (k : Int) < (cs.length : Int) := by omega
      have hk4 : k ≤ 4 := by have := OK.out.tl; omega
      have hO := H.rows 2
      rw [gR_2, List.length_replicate] at hO
      obtain ⟨Ao, co, eo⟩ := own_slice hO
      have HN := Aside0.mk (row_ne hO H.hm (by decide))
      have hm := H.hm
      unfold refC at hm
      rw [eo] at hm HN hO
      have hmr : wr.cell? ⟨pr.bm, 4, none⟩ = some (.slice Ao k co) := (blk_cell hm 4).trans rfl
      have HM := Aside0.mk hm
      have HH := Aside0.mk H
      have HU := Aside0.mk hu
      have HB := Aside0.mk hb
      have HO := Aside0.mk hO
      have EO := Aside0.mk eo
      clear hm hO eo
      clear H hu hb MID
      go_wp2_with (first | ((with_reducible refine gate_dst (N := 30) rfl ?_); refine lit_event (n := 1) ?hg (N := 30) ?hd (cs := #[.int .i64 0]) (t := 3) ?hr ?_; (case hd => rfl); (case hg => rfl); (case hr => first | (go_simp; done) | (go_simp; rfl)); intro gl w5 hlit hb5; have HB5 := Aside0.mk hb5; have HL5 := Aside0.mk hlit; clear hlit hb5) | ((with_reducible refine gate_dst (N := 31) rfl ?_); refine app_event ?hg (.tmp 29) (.tmp 30) 22 3 (.int .i64 0) 8 rfl Try.underlying22 info3 rfl w.heap.size (.slice Ao k co) k _ rfl (pw_own_below HO.out HB5.out) gl 1 (.int .i64 0) rfl ((blk_cell HL5.out 0).trans rfl) rfl (by omega) (by omega) (Nat.le_trans HB.out.size HB5.out.size) ?_; (case hg => rfl); intro gA capA w6 ho6 hg6 hat6; have HO6 := Aside0.mk ho6; have HG6 := Aside0.mk hg6; have HAT6 := Aside0.mk hat6; have hm8 := blk_keep (below_read HB5.out HM.out) hg6 HN.out; have hc8 : w6.cell? ⟨pr.bm, 4, none⟩ = some (.slice Ao k co) := (blk_cell hm8 4).trans rfl; have hf8 : w6.frozen? ⟨pr.bm, 4, none⟩ = false := blk_frozen hm8 4; clear ho6 hg6 hm8 hat6))
      have MID2 := mid_row (R' := setR (gR G A cs 0 0 k) 2 (List.replicate k 0 ++ [0])) HH.out HU.out HB.out 2 4 (fun i => by omega) (fun i => by omega) 0 (gR_2 G A cs 0 0 k) List.length_replicate HB5.out (by rw [EO.out]; exact HG6.out) HO6.out (by rw [EO.out]; exact HAT6.out) rfl (fun _ => rfl)
      generalize (w6.setCell ⟨pr.bm, 4, none⟩ _) = W1 at MID2 ⊢
      obtain ⟨p2, hbm2, H2, hu2, hb2⟩ := MID2
      have hm2 := H2.hm
      unfold refC at hm2
      have hV2 := H2.hV
      obtain ⟨Ah, ch, eV⟩ := own_slice hV2
      have HN2 := Aside0.mk (row_ne hV2 hm2 (by decide))
      rw [eV] at hm2 HN2 hV2
      rw [hbm2] at hm2 HN2
      obtain ⟨ad, Ac, cc, hAt, hcell0, hcell1, hcc, hC⟩ := at_T49 (Kd.C_below HT.out hb2) (k : Int) (by omega) hltz
      subst hAt
      rw [Int.toNat_natCast] at hcell0
      have HOC := OK.out.ts _ (rd49_mem cs k hlt)
      obtain ⟨y, hy⟩ : ∃ y, (rd_T49 cs (k : Int)).f0 = y := ⟨_, rfl⟩
      have HV := HOC.vars
      rw [hy] at hcell0 HV
      have hy0 : 0 ≤ y := HV.1
      have hy1 : y ≤ 1000 := by have := HV.2; omega
      have hm5 : W1.cell? ⟨pr.bm, 5, none⟩ = some (.slice Ah k ch) := (blk_cell hm2 5).trans rfl
      have hu3b : W1.cell? ⟨gu, 3, none⟩ = some (.slice (some ad) cs.length ct) := (blk_cell hu2 3).trans rfl
      have HM2 := Aside0.mk hm2
      have HOV := Aside0.mk hV2
      have HH2 := Aside0.mk H2
      have HU2 := Aside0.mk hu2
      have HBW := Aside0.mk hb2
      have EV := Aside0.mk eV
      have EB := Aside0.mk hbm2
      have EY := Aside0.mk hy
      clear hm2 hV2 H2 hu2 hb2 eV hbm2 hy hcell1 hcc hC HOC HV hu3 hmr hc8 hf8 HO6 HG6 HAT6 HB5 HL5 EO HO HH HU HM HN HB
      refine start_ (n := 17) (S := fun w' => w'.cell? ⟨pr.bm, 5, none⟩ = some (.slice Ah k ch) ∧ w'.cell? ⟨gu, 3, none⟩ = some (.slice (some ad) cs.length ct) ∧ w'.cell? (ad.add (k * 2)) = some (.int .i64 y)) (ds := [13, 16]) #[false, false, false, false, false, false, false, false, false, false, false, false, false, false, false, false, false] (by kernel_rfl) rfl rfl ⟨hm5, hu3b, hcell0⟩ (fun hHeld => ?_)
      refine pure_ (i := 0) (N := some 34) (v := ?_) (a' := ?_) #[true, false, false, false, false, false, false, false, false, false, false, false, false, false, false, false, false] rfl rfl (by kernel_rfl) (fun _ _ _ h => h) (Or.inl ⟨by rfl, ?_⟩) ?_ ?_
      rotate_left
      · intro w'
        go_simp
        with_reducible rfl
      rotate_left
      · simp only [Act.put, List.setIfInBounds_toArray, List.set_cons_zero, List.set_cons_succ, i64_w, i32_w]
        rfl
      refine pure_ (i := 1) (N := some 35) (v := ?_) (a' := ?_) #[true, true, false, false, false, false, false, false, false, false, false, false, false, false, false, false, false] rfl rfl (by kernel_rfl) (fun _ _ _ h => h) (Or.inl ⟨by rfl, ?_⟩) ?_ ?_
      rotate_left
      · intro w'
        go_simp
        with_reducible rfl
      rotate_left
      · simp only [Act.put, List.setIfInBounds_toArray, List.set_cons_zero, List.set_cons_succ, i64_w, i32_w]
        rfl
      refine pure_ (i := 2) (N := some 36) (v := ?_) (a' := ?_) #[true, true, true, false, false, false, false, false, false, false, false, false, false, false, false, false, false] rfl rfl (by kernel_rfl) (fun _ _ _ h => h) (Or.inl ⟨by rfl, ?_⟩) ?_ ?_
      rotate_left
      · intro w'
        go_simp
        with_reducible rfl
      rotate_left
      · simp only [Act.put, List.setIfInBounds_toArray, List.set_cons_zero, List.set_cons_succ, i64_w, i32_w]
        rfl
      refine pure_ (i := 3) (N := some 37) (v := ?_) (a' := ?_) #[true, true, true, true, false, false, false, false, false, false, false, false, false, false, false, false, false] rfl rfl (by kernel_rfl) (fun _ _ _ h => h) (Or.inl ⟨by rfl, ?_⟩) ?_ ?_
      rotate_left
      · intro w'
        go_simp
        with_reducible rfl
      rotate_left
      · simp only [Act.put, List.setIfInBounds_toArray, List.set_cons_zero, List.set_cons_succ, i64_w, i32_w]
        rfl
      refine pure_ (i := 5) (N := some 39) (v := ?_) (a' := ?_) #[true, true, true, true, false, true, false, false, false, false, false, false, false, false, false, false, false] rfl rfl (by kernel_rfl) (fun _ _ _ h => h) (Or.inl ⟨by rfl, ?_⟩) ?_ ?_
      rotate_left
      · intro w'
        go_simp
        with_reducible rfl
      rotate_left
      · simp only [Act.put, List.setIfInBounds_toArray, List.set_cons_zero, List.set_cons_succ, i64_w, i32_w]
        rfl
      refine pure_ (i := 7) (N := some 41) (v := ?_) (a' := ?_) #[true, true, true, true, false, true, false, true, false, false, false, false, false, false, false, false, false] rfl rfl (by kernel_rfl) (fun _ _ _ h => h) (Or.inl ⟨by rfl, ?_⟩) ?_ ?_
      rotate_left
      · intro w'
        go_simp
        with_reducible rfl
      rotate_left
      · simp only [Act.put, List.setIfInBounds_toArray, List.set_cons_zero, List.set_cons_succ, i64_w, i32_w]
        rfl
      refine take_ (i := 4) (N := some 38) (v := ?_) (a' := ?_) #[true, true, true, true, true, true, false, true, false, false, false, false, false, false, false, false, false] rfl rfl (by kernel_rfl) (fun _ _ _ h => h) (Or.inl ⟨by rfl, ?_⟩) hHeld ?_ ?_
      rotate_left
      · rintro w' ⟨s0, s1, s2⟩
        go_simp
        with_reducible rfl
      rotate_left
      · simp only [Act.put, List.setIfInBounds_toArray, List.set_cons_zero, List.set_cons_succ, i64_w, i32_w]
        rfl
      refine take_ (i := 6) (N := some 40) (v := ?_) (a' := ?_) #[true, true, true, true, true, true, true, true, false, false, false, false, false, false, false, false, false] rfl rfl (by kernel_rfl) (fun _ _ _ h => h) (Or.inl ⟨by rfl, ?_⟩) hHeld ?_ ?_
      rotate_left
      · rintro w' ⟨s0, s1, s2⟩
        go_simp
        with_reducible rfl
      rotate_left
      · simp only [Act.put, List.setIfInBounds_toArray, List.set_cons_zero, List.set_cons_succ, i64_w, i32_w]
        rfl
      refine pure_ (i := 8) (N := some 42) (v := ?_) (a' := ?_) #[true, true, true, true, true, true, true, true, true, false, false, false, false, false, false, false, false] rfl rfl (by kernel_rfl) (fun _ _ _ h => h) (Or.inl ⟨by rfl, ?_⟩) ?_ ?_
      rotate_left
      · intro w'
        go_simp
        with_reducible rfl
      rotate_left
      · simp only [Act.put, List.setIfInBounds_toArray, List.set_cons_zero, List.set_cons_succ, i64_w, i32_w]
        rfl
      refine pure_ (i := 9) (N := some 43) (v := ?_) (a' := ?_) #[true, true, true, true, true, true, true, true, true, true, false, false, false, false, false, false, false] rfl rfl (by kernel_rfl) (fun _ _ _ h => h) (Or.inl ⟨by rfl, ?_⟩) ?_ ?_
      rotate_left
      · intro w'
        go_simp
        with_reducible rfl
      rotate_left
      · simp only [Act.put, List.setIfInBounds_toArray, List.set_cons_zero, List.set_cons_succ, i64_w, i32_w]
        rfl
      refine take_ (i := 10) (N := some 44) (v := ?_) (a' := ?_) #[true, true, true, true, true, true, true, true, true, true, true, false, false, false, false, false, false] rfl rfl (by kernel_rfl) (fun _ _ _ h => h) (Or.inl ⟨by rfl, ?_⟩) hHeld ?_ ?_
      rotate_left
      · rintro w' ⟨s0, s1, s2⟩
        go_simp
        with_reducible rfl
      rotate_left
      · simp only [Act.put, List.setIfInBounds_toArray, List.set_cons_zero, List.set_cons_succ, i64_w, i32_w]
        rfl
      refine one_ (i := 11) (N := some 45) #[true, true, true, true, true, true, true, true, true, true, true, true, false, false, false, false, false] rfl rfl (by kernel_rfl) (by decide) (fun K hK => ?_)
      refine row_step (by rfl) (N := 45) rfl 22 (.tmp 44) (.tmp 44) rfl y rfl rfl Try.underlying22 info3 hy0 hy1 ?_
      intro Ar cr w8 ho8 hb
      have HB8 := Aside0.mk hb
      have HO8 := Aside0.mk ho8
      clear ho8
      refine hK.out _ _ ⟨pw_cell_below hb hHeld.1, pw_cell_below hb hHeld.2.1, pw_cell_below hb hHeld.2.2⟩ (fun hHeld => ?_)
      clear hK K
      refine norm_ (a' := ?_) ?_ ?_
      rotate_left
      · show Act.put _ (some 45) _ = _
        simp only [Act.put, List.setIfInBounds_toArray, List.set_cons_zero, List.set_cons_succ, i64_w, i32_w]
        rfl
      refine one_ (i := 12) (N := some 46) #[true, true, true, true, true, true, true, true, true, true, true, true, true, false, false, false, false] rfl rfl (by kernel_rfl) (by decide) (fun K hK => ?_)
      refine lit_step (n := 1) (by rfl) (N := 46) rfl (cs := #[.slice Ar y.toNat cr]) (t := 22) ?hr ?_
      case hr => first | (go_simp; done) | (go_simp; rfl)
      intro gl w9 hlit hb
      have HB9 := Aside0.mk hb
      refine hK.out _ _ ⟨pw_cell_below hb hHeld.1, pw_cell_below hb hHeld.2.1, pw_cell_below hb hHeld.2.2⟩ (fun hHeld => ?_)
      clear hK K
      refine norm_ (a' := ?_) ?_ ?_
      rotate_left
      · show Act.put _ (some 46) _ = _
        simp only [Act.put, List.setIfInBounds_toArray, List.set_cons_zero, List.set_cons_succ, i64_w, i32_w]
        rfl
      refine last_ (i := 13) (N := some 47) #[true, true, true, true, true, true, true, true, true, true, true, true, true, true, false, false, false] rfl rfl (by kernel_rfl) (by decide) (fun K hK => ?_)
      have HO9 := pw_own_below (pw_own_below (pw_own_below HOV.out (drew_below W1)) HB8.out) HB9.out
      refine app_step (by rfl) (.tmp 38) (.tmp 46) 76 22 (.slice none 0 0) 24 rfl Try.underlying76 info22 rfl w.heap.size (.slice Ah k ch) k _ rfl HO9 gl 1 (.slice Ar y.toNat cr) rfl ((blk_cell hlit 0).trans rfl) rfl (by omega) (by omega) (Nat.le_trans HBW.out.size (Nat.le_trans HB8.out.size HB9.out.size)) ?_
      clear HO9
      intro gA capA w10 ho10 hg10 hat10
      have HO10 := Aside0.mk ho10
      have HG10 := Aside0.mk hg10
      have HAT := Aside0.mk hat10
      have hm10 := blk_keep (below_read HB9.out (below_read HB8.out (HM2.out : W1.drew.heap[pr.bm]? = _))) hg10 HN2.out
      have hc10 : w10.cell? ⟨pr.bm, 5, none⟩ = some (.slice Ah k ch) := (blk_cell hm10 5).trans rfl
      have hf10 : w10.frozen? ⟨pr.bm, 5, none⟩ = false := blk_frozen hm10 5
      clear ho10 hg10 hm10 hat10
      refine hK.out _ _ ?_
      clear hK K
      refine norm_ (a' := ?_) ?_ ?_
      rotate_left
      · show Act.put _ (some 47) _ = _
        simp only [Act.put, List.setIfInBounds_toArray, List.set_cons_zero, List.set_cons_succ, i64_w, i32_w]
        rfl
      refine pure_ (i := 14) (N := some 48) (v := ?_) (a' := ?_) #[true, true, true, true, true, true, true, true, true, true, true, true, true, true, true, false, false] rfl rfl (by kernel_rfl) (fun _ _ _ h => h) (Or.inl ⟨by rfl, ?_⟩) ?_ ?_
      rotate_left
      · intro w'
        go_simp
        with_reducible rfl
      rotate_left
      · simp only [Act.put, List.setIfInBounds_toArray, List.set_cons_zero, List.set_cons_succ, i64_w, i32_w]
        rfl
      refine pure_ (i := 15) (N := some 49) (v := ?_) (a' := ?_) #[true, true, true, true, true, true, true, true, true, true, true, true, true, true, true, true, false] rfl rfl (by kernel_rfl) (fun _ _ _ h => h) (Or.inl ⟨by rfl, ?_⟩) ?_ ?_
      rotate_left
      · intro w'
        go_simp
        with_reducible rfl
      rotate_left
      · simp only [Act.put, List.setIfInBounds_toArray, List.set_cons_zero, List.set_cons_succ, i64_w, i32_w]
        rfl
      refine last_ (i := 16) (N := none) #[true, true, true, true, true, true, true, true, true, true, true, true, true, true, true, true, true] rfl rfl (by kernel_rfl) (by decide) (fun K hK => ?_)
      refine skip_ (w1 := ?_) (by rfl) rfl ?_ ?_
      rotate_left
      · go_simp
        rfl
      refine hK.out _ _ ?_
      clear hK K
      refine done_ (by kernel_rfl) ?_
      go_wp2_with fail
      go_roundg (cs.length - (k + 1))
      case measure => omega
      case rel => exact ⟨k + 1, by omega, by omega, by go_num, ⟨by rw [← EB.out]; exact mid_V HH2.out HU2.out HBW.out HB8.out HO8.out HB9.out (by rw [EV.out]; exact HG10.out) HO10.out (by rw [EV.out]; exact HAT.out) (fun j => by rw [← EY.out]; exact gR_thr G A cs 0 0 k j)⟩⟩
    · obtain rfl : k = cs.length := by omega
      have hltz : ¬ ((cs.length : Nat) : Int) < (cs.length : Int) := by omega
      have MID1 := Aside0.mk MID.out
      have hu1 : wr.cell? ⟨gu, 1, none⟩ = some (.slice Aa A.length ca) := (blk_cell hu 1).trans rfl
      clear hk hgg H hb MID
      go_wp2_with fail
      go_loopg [6] A.length (fun gg s6 wr => ∃ i : Nat, i ≤ A.length ∧ A.length - i ≤ gg ∧ s6 = .int .i64 i ∧ Aside0 (MidR w #[.slice Ag G.length cg, .slice Aa A.length ca, .int .i64 m, .slice At cs.length ct] ⟨Ag, G.length, cg, Aa, A.length, ca, m, At, ct⟩ pr.bm gu cs.length cs.length i (gR G A cs i 0 cs.length) wr))
      case atStart => exact ⟨0, Nat.zero_le _, by omega, rfl, MID1⟩
      case round =>
        clear hu1 hu3 hu MID1 hltz
        obtain ⟨i, hi, hgg, rfl, MID⟩ := hrel
        obtain ⟨q, hbq, H, hu, hb⟩ := MID.out
        have hu1 : wr.cell? ⟨gu, 1, none⟩ = some (.slice Aa A.length ca) := (blk_cell hu 1).trans rfl
        by_cases hlt : i < A.length
        · have hltz : (i : Int) < (A.length : Int) := by omega
          have hiA : i ≤ 3 := by have := OK.out.al; omega
          obtain ⟨ad, hAa, hcell⟩ := Kd.at_int (Kd.C_below HA.out hb) (i : Int) (by omega) hltz
          subst hAa
          rw [Int.toNat_natCast] at hcell
          obtain ⟨y, hy, hyb⟩ : ∃ y, rd A (i : Int) = y ∧ 1 ≤ y ∧ y ≤ 16 := ⟨_, rfl, OK.out.az _ (rd_mem A i hlt)⟩
          rw [hy] at hcell
          have hy0 : 0 ≤ y := by omega
          have hy1 : y ≤ 1000 := by omega
          have hm2 := H.hm
          unfold refC at hm2
          have hV2 := H.hA
          obtain ⟨Ah, ch, eV⟩ := own_slice hV2
          have HN2 := Aside0.mk (row_ne hV2 hm2 (by decide))
          rw [eV] at hm2 HN2 hV2
          rw [hbq] at hm2 HN2
          have hm7 : wr.cell? ⟨pr.bm, 7, none⟩ = some (.slice Ah i ch) := (blk_cell hm2 7).trans rfl
          have HM2 := Aside0.mk hm2
          have HOV := Aside0.mk hV2
          have HH2 := Aside0.mk H
          have HU2 := Aside0.mk hu
          have HBW := Aside0.mk hb
          have EV := Aside0.mk eV
          have EB := Aside0.mk hbq
          have EY := Aside0.mk hy
          clear hm2 hV2 H hu hb eV hbq hy hyb MID
          go_wp2_with fail
          refine start_ (n := 16) (S := fun w' => w'.cell? ⟨pr.bm, 7, none⟩ = some (.slice Ah i ch) ∧ w'.cell? ⟨gu, 1, none⟩ = some (.slice (some ad) A.length ca) ∧ w'.cell? (ad.add i) = some (.int .i64 y)) (ds := [12, 15]) #[false, false, false, false, false, false, false, false, false, false, false, false, false, false, false, false] (by kernel_rfl) rfl rfl ⟨hm7, hu1, hcell⟩ (fun hHeld => ?_)
          refine pure_ (i := 0) (N := some 57) (v := ?_) (a' := ?_) #[true, false, false, false, false, false, false, false, false, false, false, false, false, false, false, false] rfl rfl (by kernel_rfl) (fun _ _ _ h => h) (Or.inl ⟨by rfl, ?_⟩) ?_ ?_
          rotate_left
          · intro w'
            go_simp
            with_reducible rfl
          rotate_left
          · simp only [Act.put, List.setIfInBounds_toArray, List.set_cons_zero, List.set_cons_succ, i64_w, i32_w]
            rfl
          refine pure_ (i := 1) (N := some 58) (v := ?_) (a' := ?_) #[true, true, false, false, false, false, false, false, false, false, false, false, false, false, false, false] rfl rfl (by kernel_rfl) (fun _ _ _ h => h) (Or.inl ⟨by rfl, ?_⟩) ?_ ?_
          rotate_left
          · intro w'
            go_simp
            with_reducible rfl
          rotate_left
          · simp only [Act.put, List.setIfInBounds_toArray, List.set_cons_zero, List.set_cons_succ, i64_w, i32_w]
            rfl
          refine pure_ (i := 2) (N := some 59) (v := ?_) (a' := ?_) #[true, true, true, false, false, false, false, false, false, false, false, false, false, false, false, false] rfl rfl (by kernel_rfl) (fun _ _ _ h => h) (Or.inl ⟨by rfl, ?_⟩) ?_ ?_
          rotate_left
          · intro w'
            go_simp
            with_reducible rfl
          rotate_left
          · simp only [Act.put, List.setIfInBounds_toArray, List.set_cons_zero, List.set_cons_succ, i64_w, i32_w]
            rfl
          refine pure_ (i := 3) (N := some 60) (v := ?_) (a' := ?_) #[true, true, true, true, false, false, false, false, false, false, false, false, false, false, false, false] rfl rfl (by kernel_rfl) (fun _ _ _ h => h) (Or.inl ⟨by rfl, ?_⟩) ?_ ?_
          rotate_left
          · intro w'
            go_simp
            with_reducible rfl
          rotate_left
          · simp only [Act.put, List.setIfInBounds_toArray, List.set_cons_zero, List.set_cons_succ, i64_w, i32_w]
            rfl
          refine pure_ (i := 5) (N := some 62) (v := ?_) (a' := ?_) #[true, true, true, true, false, true, false, false, false, false, false, false, false, false, false, false] rfl rfl (by kernel_rfl) (fun _ _ _ h => h) (Or.inl ⟨by rfl, ?_⟩) ?_ ?_
          rotate_left
          · intro w'
            go_simp
            with_reducible rfl
          rotate_left
          · simp only [Act.put, List.setIfInBounds_toArray, List.set_cons_zero, List.set_cons_succ, i64_w, i32_w]
            rfl
          refine pure_ (i := 7) (N := some 64) (v := ?_) (a' := ?_) #[true, true, true, true, false, true, false, true, false, false, false, false, false, false, false, false] rfl rfl (by kernel_rfl) (fun _ _ _ h => h) (Or.inl ⟨by rfl, ?_⟩) ?_ ?_
          rotate_left
          · intro w'
            go_simp
            with_reducible rfl
          rotate_left
          · simp only [Act.put, List.setIfInBounds_toArray, List.set_cons_zero, List.set_cons_succ, i64_w, i32_w]
            rfl
          refine take_ (i := 4) (N := some 61) (v := ?_) (a' := ?_) #[true, true, true, true, true, true, false, true, false, false, false, false, false, false, false, false] rfl rfl (by kernel_rfl) (fun _ _ _ h => h) (Or.inl ⟨by rfl, ?_⟩) hHeld ?_ ?_
          rotate_left
          · rintro w' ⟨s0, s1, s2⟩
            go_simp
            with_reducible rfl
          rotate_left
          · simp only [Act.put, List.setIfInBounds_toArray, List.set_cons_zero, List.set_cons_succ, i64_w, i32_w]
            rfl
          refine take_ (i := 6) (N := some 63) (v := ?_) (a' := ?_) #[true, true, true, true, true, true, true, true, false, false, false, false, false, false, false, false] rfl rfl (by kernel_rfl) (fun _ _ _ h => h) (Or.inl ⟨by rfl, ?_⟩) hHeld ?_ ?_
          rotate_left
          · rintro w' ⟨s0, s1, s2⟩
            go_simp
            with_reducible rfl
          rotate_left
          · simp only [Act.put, List.setIfInBounds_toArray, List.set_cons_zero, List.set_cons_succ, i64_w, i32_w]
            rfl
          refine pure_ (i := 8) (N := some 65) (v := ?_) (a' := ?_) #[true, true, true, true, true, true, true, true, true, false, false, false, false, false, false, false] rfl rfl (by kernel_rfl) (fun _ _ _ h => h) (Or.inl ⟨by rfl, ?_⟩) ?_ ?_
          rotate_left
          · intro w'
            go_simp
            with_reducible rfl
          rotate_left
          · simp only [Act.put, List.setIfInBounds_toArray, List.set_cons_zero, List.set_cons_succ, i64_w, i32_w]
            rfl
          refine take_ (i := 9) (N := some 66) (v := ?_) (a' := ?_) #[true, true, true, true, true, true, true, true, true, true, false, false, false, false, false, false] rfl rfl (by kernel_rfl) (fun _ _ _ h => h) (Or.inl ⟨by rfl, ?_⟩) hHeld ?_ ?_
          rotate_left
          · rintro w' ⟨s0, s1, s2⟩
            go_simp
            with_reducible rfl
          rotate_left
          · simp only [Act.put, List.setIfInBounds_toArray, List.set_cons_zero, List.set_cons_succ, i64_w, i32_w]
            rfl
          refine one_ (i := 10) (N := some 67) #[true, true, true, true, true, true, true, true, true, true, true, false, false, false, false, false] rfl rfl (by kernel_rfl) (by decide) (fun K hK => ?_)
          refine row_step (by rfl) (N := 67) rfl 22 (.tmp 66) (.tmp 66) rfl y rfl rfl Try.underlying22 info3 hy0 hy1 ?_
          intro Ar cr w8 ho8 hb
          have HB8 := Aside0.mk hb
          have HO8 := Aside0.mk ho8
          clear ho8
          refine hK.out _ _ ⟨pw_cell_below hb hHeld.1, pw_cell_below hb hHeld.2.1, pw_cell_below hb hHeld.2.2⟩ (fun hHeld => ?_)
          clear hK K
          refine norm_ (a' := ?_) ?_ ?_
          rotate_left
          · show Act.put _ (some 67) _ = _
            simp only [Act.put, List.setIfInBounds_toArray, List.set_cons_zero, List.set_cons_succ, i64_w, i32_w]
            rfl
          refine one_ (i := 11) (N := some 68) #[true, true, true, true, true, true, true, true, true, true, true, true, false, false, false, false] rfl rfl (by kernel_rfl) (by decide) (fun K hK => ?_)
          refine lit_step (n := 1) (by rfl) (N := 68) rfl (cs := #[.slice Ar y.toNat cr]) (t := 22) ?hr ?_
          case hr => first | (go_simp; done) | (go_simp; rfl)
          intro gl w9 hlit hb
          have HB9 := Aside0.mk hb
          refine hK.out _ _ ⟨pw_cell_below hb hHeld.1, pw_cell_below hb hHeld.2.1, pw_cell_below hb hHeld.2.2⟩ (fun hHeld => ?_)
          clear hK K
          refine norm_ (a' := ?_) ?_ ?_
          rotate_left
          · show Act.put _ (some 68) _ = _
            simp only [Act.put, List.setIfInBounds_toArray, List.set_cons_zero, List.set_cons_succ, i64_w, i32_w]
            rfl
          refine last_ (i := 12) (N := some 69) #[true, true, true, true, true, true, true, true, true, true, true, true, true, false, false, false] rfl rfl (by kernel_rfl) (by decide) (fun K hK => ?_)
          have HO9 := pw_own_below (pw_own_below (pw_own_below HOV.out (drew_below wr)) HB8.out) HB9.out
          refine app_step (by rfl) (.tmp 61) (.tmp 68) 76 22 (.slice none 0 0) 24 rfl Try.underlying76 info22 rfl w.heap.size (.slice Ah i ch) i _ rfl HO9 gl 1 (.slice Ar y.toNat cr) rfl ((blk_cell hlit 0).trans rfl) rfl (by omega) (by omega) (Nat.le_trans HBW.out.size (Nat.le_trans HB8.out.size HB9.out.size)) ?_
          clear HO9
          intro gA capA w10 ho10 hg10 hat10
          have HO10 := Aside0.mk ho10
          have HG10 := Aside0.mk hg10
          have HAT := Aside0.mk hat10
          have hm10 := blk_keep (below_read HB9.out (below_read HB8.out (HM2.out : wr.drew.heap[pr.bm]? = _))) hg10 HN2.out
          have hc10 : w10.cell? ⟨pr.bm, 7, none⟩ = some (.slice Ah i ch) := (blk_cell hm10 7).trans rfl
          have hf10 : w10.frozen? ⟨pr.bm, 7, none⟩ = false := blk_frozen hm10 7
          clear ho10 hg10 hm10 hat10
          refine hK.out _ _ ?_
          clear hK K
          refine norm_ (a' := ?_) ?_ ?_
          rotate_left
          · show Act.put _ (some 69) _ = _
            simp only [Act.put, List.setIfInBounds_toArray, List.set_cons_zero, List.set_cons_succ, i64_w, i32_w]
            rfl
          refine pure_ (i := 13) (N := some 70) (v := ?_) (a' := ?_) #[true, true, true, true, true, true, true, true, true, true, true, true, true, true, false, false] rfl rfl (by kernel_rfl) (fun _ _ _ h => h) (Or.inl ⟨by rfl, ?_⟩) ?_ ?_
          rotate_left
          · intro w'
            go_simp
            with_reducible rfl
          rotate_left
          · simp only [Act.put, List.setIfInBounds_toArray, List.set_cons_zero, List.set_cons_succ, i64_w, i32_w]
            rfl
          refine pure_ (i := 14) (N := some 71) (v := ?_) (a' := ?_) #[true, true, true, true, true, true, true, true, true, true, true, true, true, true, true, false] rfl rfl (by kernel_rfl) (fun _ _ _ h => h) (Or.inl ⟨by rfl, ?_⟩) ?_ ?_
          rotate_left
          · intro w'
            go_simp
            with_reducible rfl
          rotate_left
          · simp only [Act.put, List.setIfInBounds_toArray, List.set_cons_zero, List.set_cons_succ, i64_w, i32_w]
            rfl
          refine last_ (i := 15) (N := none) #[true, true, true, true, true, true, true, true, true, true, true, true, true, true, true, true] rfl rfl (by kernel_rfl) (by decide) (fun K hK => ?_)
          refine skip_ (w1 := ?_) (by rfl) rfl ?_ ?_
          rotate_left
          · go_simp
            rfl
          refine hK.out _ _ ?_
          clear hK K
          refine done_ (by kernel_rfl) ?_
          go_wp2_with fail
          go_roundg (A.length - (i + 1))
          case measure => omega
          case rel => exact ⟨i + 1, by omega, by omega, by go_num, ⟨by rw [← EB.out]; exact mid_A HH2.out HU2.out HBW.out HB8.out HO8.out HB9.out (by rw [EV.out]; exact HG10.out) HO10.out (by rw [EV.out]; exact HAT.out) (fun j => by rw [← EY.out]; exact gR_arr G A cs i 0 cs.length j)⟩⟩
        · obtain rfl : i = A.length := by omega
          have hltz : ¬ ((A.length : Nat) : Int) < (A.length : Int) := by omega
          have MID1 := Aside0.mk MID.out
          have hu2 : wr.cell? ⟨gu, 2, none⟩ = some (.int .i64 m) := (blk_cell hu 2).trans rfl
          have hm0 : 0 ≤ m := OK.out.ms.1
          have hm6 : m ≤ 6 := OK.out.ms.2
          clear hi hgg H hb MID hbq
          go_wp2_with fail
          go_loopg [7] m.toNat (fun gg s7 wr => ∃ o : Nat, o ≤ m.toNat ∧ m.toNat - o ≤ gg ∧ s7 = .int .i64 o ∧ Aside0 (MidR w #[.slice Ag G.length cg, .slice Aa A.length ca, .int .i64 m, .slice At cs.length ct] ⟨Ag, G.length, cg, Aa, A.length, ca, m, At, ct⟩ pr.bm gu cs.length cs.length A.length (gR G A cs A.length o cs.length) wr))
          case atStart => exact ⟨0, Nat.zero_le _, by omega, rfl, MID1⟩
          case round =>
            clear hu1 hu2 hu MID1 hltz
            obtain ⟨o, hoo, hgg, rfl, MID⟩ := hrel
            obtain ⟨q, hbq, H, hu, hb⟩ := MID.out
            have hu2 : wr.cell? ⟨gu, 2, none⟩ = some (.int .i64 m) := (blk_cell hu 2).trans rfl
            by_cases hlt : o < m.toNat
            · have hltz : (o : Int) < m := by omega
              have eR1 : gR G A cs A.length o cs.length 1 = List.replicate o (-1) := (gR_ne G A cs A.length o cs.length (by decide)).trans (newRow_own G A cs A.length o cs.length)
              have hO := H.rows 1
              rw [eR1, List.length_replicate] at hO
              obtain ⟨Ao, co, eo⟩ := own_slice hO
              have HN := Aside0.mk (row_ne hO H.hm (by decide))
              have hm := H.hm
              skip
              unfold refC at hm
              rw [eo] at hm HN hO; rw [hbq] at hm HN
              have hmr : wr.cell? ⟨pr.bm, 8, none⟩ = some (.slice Ao o co) := (blk_cell hm 8).trans rfl
              have HM := Aside0.mk hm
              have HH := Aside0.mk H
              have HU := Aside0.mk hu
              have HB := Aside0.mk hb
              have HO := Aside0.mk hO
              have EO := Aside0.mk eo
              clear hm hO eo
              have EB := Aside0.mk hbq
              have ER := Aside0.mk eR1
              clear H hu hb MID hbq eR1
              go_wp2_with (first | ((with_reducible refine gate_dst (N := 83) rfl ?_); refine lit_event (n := 1) ?hg (N := 83) ?hd (cs := #[.int .i64 (-1)]) (t := 3) ?hr ?_; (case hd => rfl); (case hg => rfl); (case hr => first | (go_simp; done) | (go_simp; rfl)); intro gl w5 hlit hb5; have HB5 := Aside0.mk hb5; have HL5 := Aside0.mk hlit; clear hlit hb5) | ((with_reducible refine gate_dst (N := 84) rfl ?_); refine app_event ?hg (.tmp 82) (.tmp 83) 22 3 (.int .i64 0) 8 rfl Try.underlying22 info3 rfl w.heap.size (.slice Ao o co) o _ rfl (pw_own_below HO.out HB5.out) gl 1 (.int .i64 (-1)) rfl ((blk_cell HL5.out 0).trans rfl) rfl (by omega) (by omega) (Nat.le_trans HB.out.size HB5.out.size) ?_; (case hg => rfl); intro gA capA w6 ho6 hg6 hat6; have HO6 := Aside0.mk ho6; have HG6 := Aside0.mk hg6; have HAT6 := Aside0.mk hat6; have hm8 := blk_keep (below_read HB5.out HM.out) hg6 HN.out; have hc8 : w6.cell? ⟨pr.bm, 8, none⟩ = some (.slice Ao o co) := (blk_cell hm8 8).trans rfl; have hf8 : w6.frozen? ⟨pr.bm, 8, none⟩ = false := blk_frozen hm8 8; clear ho6 hg6 hm8 hat6))
              go_roundg (m.toNat - (o + 1))
              case measure => omega
              case rel => exact ⟨o + 1, by omega, by omega, by go_num, ⟨by rw [← EB.out]; exact mid_row HH.out HU.out HB.out 1 8 (fun i => by omega) (fun i => by omega) (-1) ER.out List.length_replicate HB5.out (by rw [EO.out]; exact HG6.out) HO6.out (by rw [EO.out]; exact HAT6.out) rfl (fun j => gR_own G A cs A.length o cs.length j)⟩⟩
            · obtain rfl : o = m.toNat := by omega
              have hltz : ¬ ((m.toNat : Nat) : Int) < m := by omega
              have HH := Aside0.mk H
              have HB := Aside0.mk hb
              have EB := Aside0.mk hbq
              clear hoo hgg H hu hb MID hbq
              go_wp2_with fail
              go_ret2
              exact ⟨q, (by rw [EB.out]; rfl), HH.out.toIn (fun k => gR_end G A cs A.length m.toNat cs.length k) rfl, HB.out⟩
end Go.Proofs.Ytikjamcemnbhbaa.Mr
