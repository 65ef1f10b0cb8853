/- The machine in memory after one of its parts was written: a row, a thread's place, the fault. -/
import Derived.Test.YtikjamcemnbhbaaMrMach
namespace Go.Proofs.Ytikjamcemnbhbaa.Mr
open Go.RowKit Go.Proofs.YtikjamcemnbhbaaW.PrintWords Go.Proofs.YtikjamcemnbhbaaW.PrintLast Go.Proofs.YtikjamcemnbhbaaW.PrintMore
set_option linter.unusedVariables false
set_option linter.unusedSimpArgs false
def St.setRow (s : St) (k : Nat) (xs : List Int) : St := { s with row := fun j => if j = k then xs else s.row j }
def St.setPc (s : St) (k : Nat) (x : Int) : St := { s with pc := fun j => if j = k then x else s.pc j }
def St.setBad (s : St) (f : Int × Int × Int) : St := { s with bad := some f }
theorem row_ne {w : World} {base n g : Nat} {e t : TypeId} {v : Value} {xs : List Value} {cs : Array Value} (h : w.ownsRow base e 1 v n xs) (hg : w.heap[g]? = some (.cells cs t (0, 0))) (hne : e ≠ t) : v.ownBlock ≠ some g := by
  intro hv
  obtain ⟨cells, hc⟩ := own_typed h g hv
  rw [hg] at hc
  injection hc with hc
  injection hc with _ hc _
  exact hne hc.symm
theorem row_keep {w w' : World} {base n : Nat} {e : TypeId} {v : Value} {xs : List Value} {row : Option Nat} (h : w.ownsRow base e 1 v n xs) (hg : w.grownBy w' row) (hne : ∀ b, v.ownBlock = some b → row ≠ some b) : w'.ownsRow base e 1 v n xs :=
  own_move h (fun k hk => hg.block k (h.lt k hk).2 (fun e => hne k hk e.symm))
theorem blk_keep {w w' : World} {g : Nat} {o : Obj} {row : Option Nat} (h : w.heap[g]? = some o) (hg : w.grownBy w' row) (hne : row ≠ some g) : w'.heap[g]? = some o :=
  (hg.block g (blk_lt h) (fun e => hne e.symm)).trans h
theorem code_keep {w w' : World} {lo hi : Nat} {v : Value} {xs : List S33} {row : Option Nat} (h : k33.R 33 w lo (fun k => k < hi) v xs) (hg : w.grownBy w' row)
    (hne : ∀ b cells, w.heap[b]? = some (.cells cells 33 (0, 0)) → row ≠ some b) : k33.R 33 w' lo (fun k => k < hi) v xs := by
  refine Kd.R_mono (Kd.R_step (Kd.R_bound h) (fun k ho hl => hg.block k hl (fun e => ?_))) (fun k ho => ho.1)
  obtain ⟨_, _, _, q, hq, cells, hc⟩ := ho
  have hq' : q = 33 := by
    simpa [k33, Kd.iso, Kd.pair, Kd.int, Kd.scalar] using hq
  subst hq'
  exact hne k cells hc e.symm
theorem MachIn.stored {w w' : World} {lo hi fl : Nat} {ph : Ph} {cs : List S49} {nA : Nat} {s : St} (H : MachIn w lo hi fl ph cs nA s) (k : Nat) (xs : List Int)
    (ho : w'.ownsRow lo 3 1 (ph.rv k) xs.length (nums .i64 xs)) (hg : w.grownBy w' (ph.rv k).ownBlock) : MachIn w' lo hi fl ph cs nA (s.setRow k xs) := by
  have ne : ∀ {g : Nat} {t : TypeId} {c : Array Value}, w.heap[g]? = some (.cells c t (0, 0)) → (3 : Nat) ≠ t → (ph.rv k).ownBlock ≠ some g := fun hg' ht => row_ne (H.rows k) hg' ht
  have nr : ∀ {e : TypeId} {n : Nat} {v : Value} {xs : List Value}, w.ownsRow lo e 1 v n xs → e ≠ 3 → w'.ownsRow lo e 1 v n xs := fun h he => row_keep h hg (fun b hb hk => by
    obtain ⟨c, hc⟩ := own_typed h b hb
    exact ne hc (fun e => he e.symm) hk)
  refine ⟨?_, H.bm, H.fh, nr H.hT (by decide), H.hTl, nr H.hA (by decide), H.hAl, fun i h => ⟨blk_keep (H.th i h).1 hg (ne (H.th i h).1 (by decide)), (H.th i h).2⟩, H.inj,
    fun i h => code_keep (H.code i h) hg (fun b cells hc => ne hc (by decide)), fun j => ?_, H.rlt, H.apart⟩
  · obtain ⟨fp, h1, h2⟩ := H.hm
    refine ⟨fp, blk_keep h1 hg (ne h1 (by decide)), ?_⟩
    show faulty w' fl fp s.bad
    cases hs : s.bad with
    | none => rw [hs] at h2; exact h2
    | some f => rw [hs] at h2; obtain ⟨b, e, hb, hf⟩ := h2; exact ⟨b, e, hb, blk_keep hf hg (ne hf (by decide))⟩
  · by_cases e : j = k
    · subst e
      simpa [St.setRow] using ho
    · have : (s.setRow k xs).row j = s.row j := by simp [St.setRow, e]
      rw [this]
      refine row_keep (H.rows j) hg (fun b hb hk => ?_)
      rcases H.apart j k e with h | h
      · rw [h] at hb; cases hb
      · exact h (hb.trans hk.symm)
theorem MachIn.putPc {w w' : World} {lo hi fl : Nat} {ph : Ph} {cs : List S49} {nA : Nat} {s : St} (H : MachIn w lo hi fl ph cs nA s) (k : Nat) (x : Int) (hk : k < cs.length)
    (hb : w'.heap[ph.tb k]? = some (.cells #[ph.rv (4 + 2 * k), .int .i64 cs[k].f0, ph.cv k, .int .i64 x] 85 (0, 0))) (hg : w.grownBy w' (some (ph.tb k))) : MachIn w' lo hi fl ph cs nA (s.setPc k x) := by
  have ht := (H.th k hk).1
  have ne : ∀ {g : Nat} {t : TypeId} {c : Array Value}, w.heap[g]? = some (.cells c t (0, 0)) → (85 : Nat) ≠ t → some (ph.tb k) ≠ some g := fun hg' hne e => by
    injection e with e; subst e
    rw [ht] at hg'
    injection hg' with hc; injection hc with _ hc _
    exact hne hc
  have nr : ∀ {e : TypeId} {n : Nat} {v : Value} {xs : List Value}, w.ownsRow lo e 1 v n xs → e ≠ 85 → w'.ownsRow lo e 1 v n xs := fun h he => row_keep h hg (fun b hb hk => by
    obtain ⟨c, hc⟩ := own_typed h b hb
    exact ne hc (fun e => he e.symm) hk)
  refine ⟨?_, H.bm, H.fh, nr H.hT (by decide), H.hTl, nr H.hA (by decide), H.hAl, fun i h => ?_, H.inj,
    fun i h => code_keep (H.code i h) hg (fun b cells hc => ne hc (by decide)), fun j => nr (H.rows j) (by decide), H.rlt, H.apart⟩
  · obtain ⟨fp, h1, h2⟩ := H.hm
    refine ⟨fp, blk_keep h1 hg (ne h1 (by decide)), ?_⟩
    show faulty w' fl fp s.bad
    cases hs : s.bad with
    | none => rw [hs] at h2; exact h2
    | some f => rw [hs] at h2; obtain ⟨b, e, hb, hf⟩ := h2; exact ⟨b, e, hb, blk_keep hf hg (ne hf (by decide))⟩
  · by_cases e : i = k
    · subst e
      refine ⟨?_, (H.th i h).2⟩
      rw [hb]; simp [St.setPc]
    · refine ⟨?_, (H.th i h).2⟩
      have : (s.setPc k x).pc i = s.pc i := by simp [St.setPc, e]
      rw [this]
      exact blk_keep (H.th i h).1 hg (fun e' => by injection e' with e'; exact H.inj i k h hk e e'.symm)
theorem MachIn.putBad {w w' : World} {lo hi fl : Nat} {ph : Ph} {cs : List S49} {nA : Nat} {s : St} (H : MachIn w lo hi fl ph cs nA s) (f : Int × Int × Int) (b : Nat) (hfl : fl ≤ b)
    (hb : w'.heap[b]? = some (.cells #[.int .i64 f.1, .int .i64 f.2.1, .int .i64 f.2.2] 52 (0, 0)))
    (hm : w'.heap[ph.bm]? = some (.cells #[.slice none 0 0, .slice none 0 0, .int .i64 0, .slice none 0 0, ph.hT, ph.rv 0, ph.hA, ph.rv 1, .pointer (some ⟨b, 0, none⟩)] 79 (0, 0)))
    (hg : w.grownBy w' (some ph.bm)) : MachIn w' lo hi fl ph cs nA (s.setBad f) := by
  obtain ⟨fp, h1, h2⟩ := H.hm
  have ne : ∀ {g : Nat} {t : TypeId} {c : Array Value}, w.heap[g]? = some (.cells c t (0, 0)) → (79 : Nat) ≠ t → some ph.bm ≠ some g := fun hg' hne e => by
    injection e with e; subst e
    rw [h1] at hg'
    injection hg' with hc; injection hc with _ hc _
    exact hne hc
  have nr : ∀ {e : TypeId} {n : Nat} {v : Value} {xs : List Value}, w.ownsRow lo e 1 v n xs → e ≠ 79 → w'.ownsRow lo e 1 v n xs := fun h he => row_keep h hg (fun b hb hk => by
    obtain ⟨c, hc⟩ := own_typed h b hb
    exact ne hc (fun e => he e.symm) hk)
  exact ⟨⟨_, hm, b, rfl, hfl, hb⟩, H.bm, H.fh, nr H.hT (by decide), H.hTl, nr H.hA (by decide), H.hAl, fun i h => ⟨blk_keep (H.th i h).1 hg (ne (H.th i h).1 (by decide)), (H.th i h).2⟩, H.inj,
    fun i h => code_keep (H.code i h) hg (fun b cells hc => ne hc (by decide)), fun j => nr (H.rows j) (by decide), H.rlt, H.apart⟩
end Go.Proofs.Ytikjamcemnbhbaa.Mr
