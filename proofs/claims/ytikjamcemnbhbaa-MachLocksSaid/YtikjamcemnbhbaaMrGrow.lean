/- The machine while it is made: one more row, array, owner, thread. -/
import Derived.Test.YtikjamcemnbhbaaMrStep
namespace Go.Proofs.Ytikjamcemnbhbaa.Mr
open Go.RowKit Go.Proofs.YtikjamcemnbhbaaW.PrintWords Go.Proofs.YtikjamcemnbhbaaW.PrintLast Go.Proofs.YtikjamcemnbhbaaW.PrintMore
set_option linter.unusedVariables false
set_option linter.unusedSimpArgs false
theorem MachIn.wide {w : World} {lo hi fl hi' fl' : Nat} {ph : Ph} {cs : List S49} {nA : Nat} {s : St} (H : MachIn w lo hi fl ph cs nA s) (hb : s.bad = none) (h1 : hi ≤ hi') (h2 : hi' ≤ fl') : MachIn w lo hi' fl' ph cs nA s := by
  refine ⟨?_, ⟨H.bm.1, Nat.lt_of_lt_of_le H.bm.2 h1⟩, h2, H.hT, fun b h => Nat.lt_of_lt_of_le (H.hTl b h) h1, H.hA, fun b h => Nat.lt_of_lt_of_le (H.hAl b h) h1, fun i h => ⟨(H.th i h).1, (H.th i h).2.1, Nat.lt_of_lt_of_le (H.th i h).2.2 h1⟩, H.inj,
    fun i h => Kd.R_mono (H.code i h) (fun k hk => Nat.lt_of_lt_of_le hk h1), H.rows, fun k b h => Nat.lt_of_lt_of_le (H.rlt k b h) h1, H.apart⟩
  obtain ⟨fp, h1, h2⟩ := H.hm
  refine ⟨fp, h1, ?_⟩
  rw [hb] at h2 ⊢
  exact h2
def Ph.setRv (ph : Ph) (k : Nat) (v : Value) : Ph := { ph with rv := fun j => if j = k then v else ph.rv j }
theorem own_lower {w : World} {base base' : Nat} {e : TypeId} {size n : Nat} {v : Value} {xs : List Value} (h : w.ownsRow base e size v n xs) (hb : base' ≤ base) : w.ownsRow base' e size v n xs := by
  obtain ⟨h1, h2⟩ := h
  refine ⟨h1, ?_⟩
  rcases h2 with h2 | ⟨g, cap, cur, rfl, hg, r⟩
  · exact .inl h2
  · exact .inr ⟨g, cap, cur, rfl, Nat.le_trans hb hg, r⟩
theorem MachIn.fresh {w w1 : World} {lo hi fl : Nat} {ph : Ph} {cs : List S49} {nA : Nat} {s : St} (H : MachIn w lo hi fl ph cs nA s) (hbad : s.bad = none) (k : Nat) (hk2 : 2 ≤ k) (hkA : ∀ i, i < nA → k ≠ 3 + 2 * i) (hkT : ∀ i, i < cs.length → k ≠ 4 + 2 * i)
    {v : Value} {xs : List Int} (hB : Below w.heap.size w w1) (ho : w1.ownsRow w.heap.size 3 1 v xs.length (nums .i64 xs)) (hhi : hi ≤ w.heap.size) (hlo : lo ≤ w.heap.size) : MachIn w1 lo w1.heap.size w1.heap.size (ph.setRv k v) cs nA (s.setRow k xs) := by
  have h1 := (H.below hB).wide hbad (Nat.le_trans hhi hB.size) (Nat.le_refl w1.heap.size)
  have e : ∀ j, j ≠ k → (ph.setRv k v).rv j = ph.rv j := fun j hj => if_neg hj
  have es : ∀ j, j ≠ k → (s.setRow k xs).row j = s.row j := fun j hj => if_neg hj
  refine ⟨?_, h1.bm, h1.fh, h1.hT, h1.hTl, ?_, h1.hAl, fun i h => ?_, h1.inj, h1.code, fun j => ?_, fun j b hj => ?_, fun i j hij => ?_⟩
  · obtain ⟨fp, h2, h3⟩ := h1.hm
    refine ⟨fp, ?_, h3⟩
    rw [e 0 (by omega), e 1 (by omega)]
    exact h2
  · have : (List.range nA).map (fun i => (ph.setRv k v).rv (3 + 2 * i)) = (List.range nA).map fun i => ph.rv (3 + 2 * i) :=
      List.map_congr_left fun i hi => e _ (Ne.symm (hkA i (List.mem_range.1 hi)))
    rw [this]
    exact h1.hA
  · rw [e _ (Ne.symm (hkT i h))]
    exact h1.th i h
  · by_cases hj : j = k
    · subst hj
      have e1 : (ph.setRv j v).rv j = v := if_pos rfl
      have e2 : (s.setRow j xs).row j = xs := if_pos rfl
      rw [e1, e2]
      exact own_lower ho hlo
    · rw [e j hj, es j hj]
      exact h1.rows j
  · by_cases hj' : j = k
    · subst hj'
      have e1 : (ph.setRv j v).rv j = v := if_pos rfl
      rw [e1] at hj
      exact (ho.lt b hj).2
    · rw [e j hj'] at hj
      exact h1.rlt j b hj
  · have far : ∀ j, j ≠ k → v.ownBlock = none ∨ v.ownBlock ≠ (ph.rv j).ownBlock := fun j hj => by
      cases hv : v.ownBlock with
      | none => exact .inl rfl
      | some b =>
        refine .inr fun he => ?_
        have h2 := (ho.lt b hv).1
        have h3 := H.rlt j b he.symm
        omega
    by_cases hi' : i = k
    · subst hi'
      have e1 : (ph.setRv i v).rv i = v := if_pos rfl
      rw [e1, e j (Ne.symm hij)]
      exact far j (Ne.symm hij)
    · rw [e i hi']
      by_cases hj' : j = k
      · subst hj'
        have e1 : (ph.setRv j v).rv j = v := if_pos rfl
        rw [e1]
        rcases far i hi' with h2 | h2
        · rw [h2]
          cases hv : (ph.rv i).ownBlock with
          | none => exact .inl rfl
          | some b => exact .inr (by simp)
        · exact .inr (Ne.symm h2)
      · rw [e j hj']
        exact h1.apart i j hij
/-- What a push leaves: blocks of another type, but for the machine's own. -/
theorem push_keep {w w1 : World} {bm j : Nat} {v v1 : Value} {e : TypeId} {base n : Nat} {xs : List Value} (hv : w.ownsRow base e 1 v n xs) (hg : w.grownBy w1 v.ownBlock) {g : Nat} {t : TypeId} {c : Array Value} (h : w.heap[g]? = some (.cells c t (0, 0))) (ht : e ≠ t) (hb : g ≠ bm) :
    (w1.setCell ⟨bm, j, none⟩ v1).heap[g]? = some (.cells c t (0, 0)) :=
  blk_far (blk_keep h hg (row_ne hv h ht)) hb v1
theorem push_own {w w1 : World} {bm j : Nat} {v v1 : Value} {e : TypeId} {base n : Nat} {xs : List Value} (hv : w.ownsRow base e 1 v n xs) (hg : w.grownBy w1 v.ownBlock) {cb : Array Value} (hm : w.heap[bm]? = some (.cells cb 79 (0, 0)))
    {e' : TypeId} {base' n' : Nat} {u : Value} {ys : List Value} (h : w.ownsRow base' e' 1 u n' ys) (ht : e ≠ e') (ht' : e' ≠ 79) : (w1.setCell ⟨bm, j, none⟩ v1).ownsRow base' e' 1 u n' ys :=
  own_move h (fun k hk => by
    obtain ⟨c, hc⟩ := own_typed h k hk
    exact (push_keep hv hg hc ht (fun ek => by subst ek; rw [hm] at hc; injection hc with hc; injection hc with _ hc _; exact ht' hc.symm)).trans hc.symm)
theorem push_code {w w1 : World} {bm j : Nat} {v v1 : Value} {e : TypeId} {base n : Nat} {xs : List Value} (hv : w.ownsRow base e 1 v n xs) (hg : w.grownBy w1 v.ownBlock) {cb : Array Value} (hm : w.heap[bm]? = some (.cells cb 79 (0, 0)))
    {lo hi : Nat} {u : Value} {ys : List S33} (h : k33.R 33 w lo (fun k => k < hi) u ys) (ht : e ≠ 33) : k33.R 33 (w1.setCell ⟨bm, j, none⟩ v1) lo (fun k => k < hi) u ys := by
  refine Kd.R_mono (Kd.R_step (Kd.R_bound h) (fun k ho hl => ?_)) (fun k ho => ho.1)
  obtain ⟨_, _, _, q, hq, cells, hc⟩ := ho
  have hq' : q = 33 := by
    simpa [k33, Kd.iso, Kd.pair, Kd.int, Kd.scalar] using hq
  subst hq'
  exact (push_keep hv hg hc ht (fun ek => by subst ek; rw [hm] at hc; injection hc with hc; injection hc with _ hc _; exact absurd hc (by decide))).trans hc.symm
theorem MachIn.pushA {w w1 : World} {lo hi fl : Nat} {ph : Ph} {cs : List S49} {nA : Nat} {s : St} (H : MachIn w lo hi fl ph cs nA s) (hbad : s.bad = none) (hhi : hi ≤ w.heap.size) {v1 : Value} (hg : w.grownBy w1 ph.hA.ownBlock)
    (ho : w1.ownsRow lo 22 1 v1 (nA + 1) ((List.range (nA + 1)).map fun i => ph.rv (3 + 2 * i))) : MachIn (w1.setCell ⟨ph.bm, 6, none⟩ v1) lo w1.heap.size w1.heap.size { ph with hA := v1 } cs (nA + 1) s := by
  obtain ⟨fp, hm, hf⟩ := H.hm
  have le1 : hi ≤ w1.heap.size := Nat.le_trans hhi hg.size
  have hbt : ∀ i, i < cs.length → ph.tb i ≠ ph.bm := fun i h e => by
    have h1 := (H.th i h).1
    rw [e, hm] at h1
    injection h1 with h1; injection h1 with _ h1 _; exact absurd h1 (by decide)
  refine ⟨⟨fp, ?_, ?_⟩, ⟨H.bm.1, Nat.lt_of_lt_of_le H.bm.2 le1⟩, Nat.le_refl _, push_own H.hA hg hm H.hT (by decide) (by decide), fun b h => Nat.lt_of_lt_of_le (H.hTl b h) le1, ?_, ?_, fun i h => ⟨?_, (H.th i h).2.1, Nat.lt_of_lt_of_le (H.th i h).2.2 le1⟩, H.inj,
    fun i h => Kd.R_mono (push_code H.hA hg hm (H.code i h) (by decide)) (fun k hk => Nat.lt_of_lt_of_le hk le1), fun j => push_own H.hA hg hm (H.rows j) (by decide) (by decide), fun k b h => Nat.lt_of_lt_of_le (H.rlt k b h) le1, H.apart⟩
  · exact blk_put (blk_keep hm hg (row_ne H.hA hm (by decide))) 6 v1 rfl
  · rw [hbad] at hf ⊢; exact hf
  · refine own_move ho (fun k hk => ?_)
    obtain ⟨c, hc⟩ := own_typed ho k hk
    refine Below.heap_setCell w1 _ v1 k (fun e => ?_)
    have e : k = ph.bm := e
    subst e
    rw [blk_keep hm hg (row_ne H.hA hm (by decide))] at hc
    injection hc with hc; injection hc with _ hc _; exact absurd hc (by decide)
  · intro b hb
    exact (ho.lt b hb).2
  · exact push_keep H.hA hg (H.th i h).1 (by decide) (hbt i h)
theorem MachIn.pushO {w w1 : World} {lo hi fl : Nat} {ph : Ph} {cs : List S49} {nA : Nat} {s : St} (H : MachIn w lo hi fl ph cs nA s) (hbad : s.bad = none) (hhi : hi ≤ w.heap.size) {v1 : Value} {xs : List Int} (hg : w.grownBy w1 (ph.rv 1).ownBlock)
    (ho : w1.ownsRow lo 3 1 v1 xs.length (nums .i64 xs)) (hat : v1.ownBlock = (ph.rv 1).ownBlock ∨ ∃ b, v1.ownBlock = some b ∧ w.heap.size ≤ b) : MachIn (w1.setCell ⟨ph.bm, 7, none⟩ v1) lo w1.heap.size w1.heap.size (ph.setRv 1 v1) cs nA (s.setRow 1 xs) := by
  obtain ⟨fp, hm, hf⟩ := H.hm
  have le1 : hi ≤ w1.heap.size := Nat.le_trans hhi hg.size
  have hbt : ∀ i, i < cs.length → ph.tb i ≠ ph.bm := fun i h e => by
    have h1 := (H.th i h).1
    rw [e, hm] at h1
    injection h1 with h1; injection h1 with _ h1 _; exact absurd h1 (by decide)
  have e : ∀ j, j ≠ 1 → (ph.setRv 1 v1).rv j = ph.rv j := fun j hj => if_neg hj
  have es : ∀ j, j ≠ 1 → (s.setRow 1 xs).row j = s.row j := fun j hj => if_neg hj
  have e1 : (ph.setRv 1 v1).rv 1 = v1 := by simp [Ph.setRv]
  have es1 : (s.setRow 1 xs).row 1 = xs := by simp [St.setRow]
  have hrow : ∀ j, j ≠ 1 → (w1.setCell ⟨ph.bm, 7, none⟩ v1).ownsRow lo 3 1 (ph.rv j) (s.row j).length (nums .i64 (s.row j)) := fun j hj =>
    own_move (H.rows j) (fun k hk => by
      obtain ⟨c, hc⟩ := own_typed (H.rows j) k hk
      have h1 : w1.heap[k]? = some (.cells c 3 (0, 0)) := blk_keep hc hg (fun h => by
        rcases H.apart j 1 hj with h2 | h2
        · rw [h2] at hk; cases hk
        · exact h2 (hk.trans h.symm))
      exact (blk_far h1 (fun ek => by subst ek; rw [hm] at hc; injection hc with hc; injection hc with _ hc _; exact absurd hc (by decide)) v1).trans hc.symm)
  refine ⟨⟨fp, ?_, ?_⟩, ⟨H.bm.1, Nat.lt_of_lt_of_le H.bm.2 le1⟩, Nat.le_refl _, push_own (H.rows 1) hg hm H.hT (by decide) (by decide), fun b h => Nat.lt_of_lt_of_le (H.hTl b h) le1, ?_, fun b h => Nat.lt_of_lt_of_le (H.hAl b h) le1, fun i h => ⟨?_, (H.th i h).2.1, Nat.lt_of_lt_of_le (H.th i h).2.2 le1⟩, H.inj,
    fun i h => Kd.R_mono (push_code (H.rows 1) hg hm (H.code i h) (by decide)) (fun k hk => Nat.lt_of_lt_of_le hk le1), fun j => ?_, fun k b h => ?_, fun i j hij => ?_⟩
  · rw [e 0 (by omega), e1]
    exact blk_put (blk_keep hm hg (row_ne (H.rows 1) hm (by decide))) 7 v1 rfl
  · show faulty _ _ _ s.bad
    rw [hbad] at hf ⊢; exact hf
  · have : (List.range nA).map (fun i => (ph.setRv 1 v1).rv (3 + 2 * i)) = (List.range nA).map fun i => ph.rv (3 + 2 * i) := List.map_congr_left fun i _ => e _ (by omega)
    rw [this]
    exact push_own (H.rows 1) hg hm H.hA (by decide) (by decide)
  · rw [e _ (by omega)]
    exact push_keep (H.rows 1) hg (H.th i h).1 (by decide) (hbt i h)
  · by_cases hj : j = 1
    · subst hj
      rw [e1, es1]
      refine own_move ho (fun k hk => ?_)
      obtain ⟨c, hc⟩ := own_typed ho k hk
      refine Below.heap_setCell w1 _ v1 k (fun e => ?_)
      have e : k = ph.bm := e
      subst e
      rw [blk_keep hm hg (row_ne (H.rows 1) hm (by decide))] at hc
      injection hc with hc; injection hc with _ hc _; exact absurd hc (by decide)
    · rw [e j hj, es j hj]
      exact hrow j hj
  · by_cases hj : k = 1
    · subst hj
      rw [e1] at h
      exact (ho.lt b h).2
    · rw [e k hj] at h
      exact Nat.lt_of_lt_of_le (H.rlt k b h) le1
  · have far : ∀ j, j ≠ 1 → v1.ownBlock = none ∨ v1.ownBlock ≠ (ph.rv j).ownBlock := fun j hj => by
      rcases hat with h2 | ⟨b, h2, hb⟩
      · rw [h2]
        exact H.apart 1 j (Ne.symm hj)
      · refine .inr fun he => ?_
        have h3 := H.rlt j b (he.symm.trans h2)
        omega
    by_cases hi' : i = 1
    · subst hi'
      rw [e1, e j (Ne.symm hij)]
      exact far j (Ne.symm hij)
    · rw [e i hi']
      by_cases hj' : j = 1
      · subst hj'
        rw [e1]
        rcases far i hi' with h2 | h2
        · rw [h2]
          cases hv : (ph.rv i).ownBlock with
          | none => exact .inl rfl
          | some b => exact .inr (by simp)
        · exact .inr (Ne.symm h2)
      · rw [e j hj']
        exact H.apart i j hij
theorem MachIn.pushT {w w1 : World} {lo hi fl : Nat} {ph : Ph} {cs : List S49} {nA : Nat} {s : St} (H : MachIn w lo hi fl ph cs nA s) (hbad : s.bad = none) (hhi : hi ≤ w.heap.size) (c : S49) (b : Nat) (u : Value) (hpc : s.pc cs.length = 0)
    (hb : w.heap[b]? = some (.cells #[ph.rv (4 + 2 * cs.length), .int .i64 c.f0, u, .int .i64 0] 85 (0, 0))) (hbl : hi ≤ b) (hlo : lo ≤ b) (hc : k33.R 33 w lo (fun _ => True) u c.f1) {v1 : Value} (hg : w.grownBy w1 ph.hT.ownBlock)
    (ho : w1.ownsRow lo 80 1 v1 (cs.length + 1) ((List.range (cs.length + 1)).map fun i => .pointer (some ⟨if i = cs.length then b else ph.tb i, 0, none⟩))) :
    MachIn (w1.setCell ⟨ph.bm, 4, none⟩ v1) lo w1.heap.size w1.heap.size { ph with hT := v1, tb := fun i => if i = cs.length then b else ph.tb i, cv := fun i => if i = cs.length then u else ph.cv i } (cs ++ [c]) nA s := by
  obtain ⟨fp, hm, hf⟩ := H.hm
  have le1 : hi ≤ w1.heap.size := Nat.le_trans hhi hg.size
  have hbw : b < w.heap.size := blk_lt hb
  have hbt : ∀ i, i < cs.length → ph.tb i ≠ ph.bm := fun i h e => by
    have h1 := (H.th i h).1
    rw [e, hm] at h1
    injection h1 with h1; injection h1 with _ h1 _; exact absurd h1 (by decide)
  have hl : (cs ++ [c]).length = cs.length + 1 := by simp
  have hcb : k33.R 33 w lo (fun k => k < w.heap.size) u c.f1 := Kd.R_mono (Kd.R_bound hc) (fun k hk => hk.2.2.1)
  refine ⟨⟨fp, ?_, ?_⟩, ⟨H.bm.1, Nat.lt_of_lt_of_le H.bm.2 le1⟩, Nat.le_refl _, ?_, ?_, push_own H.hT hg hm H.hA (by decide) (by decide), fun b h => Nat.lt_of_lt_of_le (H.hAl b h) le1, fun i h => ?_, fun i j hi' hj' hij => ?_,
    fun i h => ?_, fun j => push_own H.hT hg hm (H.rows j) (by decide) (by decide), fun k b h => Nat.lt_of_lt_of_le (H.rlt k b h) le1, H.apart⟩
  · exact blk_put (blk_keep hm hg (row_ne H.hT hm (by decide))) 4 v1 rfl
  · rw [hbad] at hf ⊢; exact hf
  · rw [hl]
    refine own_move ho (fun k hk => ?_)
    obtain ⟨c, hc⟩ := own_typed ho k hk
    refine Below.heap_setCell w1 _ v1 k (fun e => ?_)
    have e : k = ph.bm := e
    subst e
    rw [blk_keep hm hg (row_ne H.hT hm (by decide))] at hc
    injection hc with hc; injection hc with _ hc _; exact absurd hc (by decide)
  · intro b hb
    exact (ho.lt b hb).2
  · by_cases hi' : i = cs.length
    · subst hi'
      have e1 : (cs ++ [c])[cs.length]'h = c := by simp
      simp only [if_true, e1]
      refine ⟨?_, hlo, Nat.lt_of_lt_of_le hbw hg.size⟩
      rw [hpc]
      exact push_keep H.hT hg hb (by decide) (fun e => by
        subst e
        rw [hm] at hb
        injection hb with hb; injection hb with _ hb _; exact absurd hb (by decide))
    · have hlt : i < cs.length := by rw [hl] at h; omega
      have e1 : (cs ++ [c])[i]'h = cs[i] := by simp [List.getElem_append, hlt]
      simp only [if_neg hi', e1]
      exact ⟨push_keep H.hT hg (H.th i hlt).1 (by decide) (hbt i hlt), (H.th i hlt).2.1, Nat.lt_of_lt_of_le (H.th i hlt).2.2 le1⟩
  · rw [hl] at hi' hj'
    by_cases h1 : i = cs.length
    · have h2 : j ≠ cs.length := fun e => hij (h1.trans e.symm)
      simp only [if_pos h1, if_neg h2]
      intro e
      have := (H.th j (by omega)).2.2
      omega
    · by_cases h2 : j = cs.length
      · simp only [if_pos h2, if_neg h1]
        intro e
        have := (H.th i (by omega)).2.2
        omega
      · simp only [if_neg h1, if_neg h2]
        exact H.inj i j (by omega) (by omega) hij
  · by_cases hi' : i = cs.length
    · subst hi'
      have e1 : (cs ++ [c])[cs.length]'h = c := by simp
      simp only [if_true, e1]
      exact Kd.R_mono (push_code H.hT hg hm hcb (by decide)) (fun k hk => Nat.lt_of_lt_of_le hk hg.size)
    · have hlt : i < cs.length := by rw [hl] at h; omega
      have e1 : (cs ++ [c])[i]'h = cs[i] := by simp [List.getElem_append, hlt]
      simp only [if_neg hi', e1]
      exact Kd.R_mono (push_code H.hT hg hm (H.code i hlt) (by decide)) (fun k hk => Nat.lt_of_lt_of_le hk le1)
end Go.Proofs.Ytikjamcemnbhbaa.Mr
