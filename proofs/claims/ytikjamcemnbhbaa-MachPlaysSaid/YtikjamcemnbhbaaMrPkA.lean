/- The machine in memory, the small methods, the library functions that take a function. -/
import Derived.Outline
import Derived.BigRegion
import Derived.Lib.LazyBuf
import Derived.Test.YtikjamcemnbhbaaMrF56
import Derived.Test.YtikjamcemnbhbaaMrF63
import Derived.Test.YtikjamcemnbhbaaMrx0
namespace Go.Proofs.Ytikjamcemnbhbaa.Mr
open Go.RowKit Go.Proofs.YtikjamcemnbhbaaW.PrintWords Go.Proofs.YtikjamcemnbhbaaW.PrintLast
set_option linter.unusedVariables false
set_option linter.unusedSimpArgs false
section
theorem below_on {w W W2 : World} (h : Below w.heap.size w W) (k : Below W.heap.size W W2) : Below w.heap.size w W2 := below_then h h.size k
/-! ### what may change -/
/-- Of the blocks that were, only those from lo to below hi may have changed. -/
structure Chg (lo hi : Nat) (w w' : World) : Prop where
  os : w'.os = w.os
  tape : w'.tape = w.tape
  output : w'.output = w.output
  size : w.heap.size ≤ w'.heap.size
  block : ∀ k, k < w.heap.size → ¬ (lo ≤ k ∧ k < hi) → w'.heap[k]? = w.heap[k]?
theorem Chg.of_below {lo hi : Nat} {w w' : World} (h : Below w.heap.size w w') : Chg lo hi w w' := ⟨h.os, h.tape, h.output, h.size, fun k hk _ => h.block k hk⟩
theorem Chg.refl (lo hi : Nat) (w : World) : Chg lo hi w w := .of_below (Below.refl _ w)
theorem Chg.trans {lo hi : Nat} {w w1 w2 : World} (h : Chg lo hi w w1) (k : Chg lo hi w1 w2) : Chg lo hi w w2 :=
  ⟨k.os.trans h.os, k.tape.trans h.tape, k.output.trans h.output, Nat.le_trans h.size k.size, fun i hi' hn => (k.block i (Nat.lt_of_lt_of_le hi' h.size) hn).trans (h.block i hi' hn)⟩
theorem Chg.below {lo hi B : Nat} {w0 w w' : World} (h0 : Below B w0 w) (hB : B ≤ w.heap.size) (hlo : B ≤ lo) (h : Chg lo hi w w') : Below B w0 w' :=
  ⟨h.os.trans h0.os, h.tape.trans h0.tape, h.output.trans h0.output, Nat.le_trans h0.size h.size, fun k hk => (h.block k (Nat.lt_of_lt_of_le hk hB) (by omega)).trans (h0.block k hk)⟩
theorem Chg.of_grown {lo hi : Nat} {w w' : World} {row : Option Nat} (h : w.grownBy w' row) (hr : ∀ b, row = some b → lo ≤ b ∧ b < hi) : Chg lo hi w w' :=
  ⟨h.os, h.tape, h.output, h.size, fun k hk hn => h.block k hk (fun e => hn (hr k e.symm))⟩

/-! ### rows of anything -/
theorem own_cell {w : World} {base n : Nat} {e : TypeId} {v : Value} {xs : List Value} (h : w.ownsRow base e 1 v n xs) (i : Nat) (hi : i < n) :
    ∃ g c, v = .slice (some ⟨g, 0, none⟩) n c ∧ n ≤ c ∧ w.cell? ⟨g, i, none⟩ = xs[i]? ∧ w.frozen? ⟨g, i, none⟩ = false ∧ base ≤ g ∧ g < w.heap.size := by
  rcases h.2 with ⟨_, rfl⟩ | ⟨g, cap, cur, rfl, hb, hg, hc, _⟩
  · omega
  · exact ⟨g, cap, rfl, hc, h.cellAt i (by omega), h.frozenAt i, hb, (Array.getElem?_eq_some_iff.1 hg).1⟩
theorem own_int {w : World} {base : Nat} {v : Value} {xs : List Int} (h : w.ownsRow base 3 1 v xs.length (nums .i64 xs)) (i : Int) (h0 : 0 ≤ i) (h1 : i < xs.length) :
    ∃ g c, v = .slice (some ⟨g, 0, none⟩) xs.length c ∧ xs.length ≤ c ∧ w.cell? ⟨g, i.toNat, none⟩ = some (.int .i64 (rd xs i)) ∧ w.frozen? ⟨g, i.toNat, none⟩ = false ∧ base ≤ g ∧ g < w.heap.size := by
  obtain ⟨g, c, e, hc, hx, hf, hb, hl⟩ := own_cell h i.toNat (by omega)
  refine ⟨g, c, e, hc, ?_, hf, hb, hl⟩
  rw [hx]
  have : i.toNat < xs.length := by omega
  simp [nums, rd, this]

/-! ### a block of one's own is written whole -/
section
variable {P : Program} {ops : Array Oper} {rest : List Oper} {o : Oper} {a : Act} {Q : Exit → Act → World → Prop}
theorem put_row {W : World} (hgd : o.guard = none) (hN : o.dst = none) (t : TypeId) (p x : Operand) (ho : o.op = .store t p x) (g : Nat) (e : TypeId) (cur seg : Array Value)
    (hp : a.eval p = .pointer (some ⟨g, 0, none⟩)) (hx : a.eval x = .agg seg) (hu : (Value.agg seg).cells = seg) (hh : W.heap[g]? = some (.cells cur e (0, 0))) (ht : (P.info? t).map (·.size) = some seg.size)
    (hs : seg.size = cur.size) (h1 : ∀ q ∈ seg.toList, q.oneCell' = true)
    (h : ∀ w', w'.heap[g]? = some (.cells seg e (0, 0)) → W.grownBy w' (some g) → wpList P ops Q rest a w') : wpList P ops Q (o :: rest) a W := by
  refine wpList_plain hgd fun K hK => ?_
  have hrun : (Instr.storeAt t (.pointer (some ⟨g, 0, none⟩)) (.agg seg)).run P W = .ok () (W.setCells g 0 seg.toList) :=
    run_store_run t (.agg seg) seg.toList hh (by rw [hu]) (by rw [Array.length_toList]; exact ht) (by rw [Array.length_toList]; omega) h1
  unfold Oper.wp execOp
  simp only [ho, hp, hx, Sem.run_bind, Sem.run_pure, Result.andThen_ok, hrun]
  show K (a.put o.dst undef) _
  rw [hN]
  refine hK a _ (h _ ?_ ?_)
  · obtain ⟨cur', h3, h4, h5⟩ := setCells_row seg.toList 0 W cur hh (by rw [Array.length_toList]; omega)
    rw [h3]
    have : cur' = seg := by
      apply Array.toList_inj.1
      rw [h5]
      simp only [List.take_zero, List.nil_append, Nat.zero_add, Array.length_toList]
      rw [List.drop_eq_nil_of_le (by rw [Array.length_toList]; omega), List.append_nil]
    rw [this]
  · obtain ⟨s1, s2, s3, s4⟩ := setCells_same g seg.toList 0 W
    exact ⟨s1, s2, s3, by rw [s4]; exact Nat.le_refl _, fun k _ hk => setCells_far seg.toList 0 k (fun e => hk (by rw [e]))⟩
end

/-! ### the machine -/
structure St where
  row : Nat → List Int   -- 0 globals, 1 owners, 3 + 2 i arrays, 4 + 2 i variables
  pc : Nat → Int
  bad : Option (Int × Int × Int)
structure Ph where
  bm : Nat
  hT : Value
  hA : Value
  tb : Nat → Nat
  cv : Nat → Value
  rv : Nat → Value
def faulty (w : World) (fl : Nat) (fp : Value) : Option (Int × Int × Int) → Prop
  | none => fp = .pointer none
  | some f => ∃ b, fp = .pointer (some ⟨b, 0, none⟩) ∧ fl ≤ b ∧ w.heap[b]? = some (.cells #[.int .i64 f.1, .int .i64 f.2.1, .int .i64 f.2.2] 52 (0, 0))
structure MachIn (w : World) (lo hi fl : Nat) (ph : Ph) (cs : List S49) (nA : Nat) (s : St) : Prop where
  hm : ∃ fp, w.heap[ph.bm]? = some (.cells #[.slice none 0 0, .slice none 0 0, .int .i64 0, .slice none 0 0, ph.hT, ph.rv 0, ph.hA, ph.rv 1, fp] 79 (0, 0)) ∧ faulty w fl fp s.bad
  bm : lo ≤ ph.bm ∧ ph.bm < hi
  fh : hi ≤ fl
  hT : w.ownsRow lo 80 1 ph.hT cs.length ((List.range cs.length).map fun i => .pointer (some ⟨ph.tb i, 0, none⟩))
  hTl : ∀ b, ph.hT.ownBlock = some b → b < hi
  hA : w.ownsRow lo 22 1 ph.hA nA ((List.range nA).map fun i => ph.rv (3 + 2 * i))
  hAl : ∀ b, ph.hA.ownBlock = some b → b < hi
  th : ∀ i, (h : i < cs.length) → w.heap[ph.tb i]? = some (.cells #[ph.rv (4 + 2 * i), .int .i64 cs[i].f0, ph.cv i, .int .i64 (s.pc i)] 85 (0, 0)) ∧ lo ≤ ph.tb i ∧ ph.tb i < hi
  inj : ∀ i j, i < cs.length → j < cs.length → i ≠ j → ph.tb i ≠ ph.tb j
  code : ∀ i, (h : i < cs.length) → k33.R 33 w lo (fun k => k < hi) (ph.cv i) cs[i].f1
  rows : ∀ k, w.ownsRow lo 3 1 (ph.rv k) (s.row k).length (nums .i64 (s.row k))
  rlt : ∀ k b, (ph.rv k).ownBlock = some b → b < hi
  apart : ∀ i j, i ≠ j → (ph.rv i).ownBlock = none ∨ (ph.rv i).ownBlock ≠ (ph.rv j).ownBlock

theorem MachIn.move {w w' : World} {lo hi fl : Nat} {ph : Ph} {cs : List S49} {nA : Nat} {s : St} (H : MachIn w lo hi fl ph cs nA s)
    (hk : ∀ k, k < w.heap.size → (lo ≤ k ∧ k < hi) ∨ fl ≤ k → w'.heap[k]? = w.heap[k]?) : MachIn w' lo hi fl ph cs nA s := by
  have blk : ∀ {g : Nat} {o : Obj}, w.heap[g]? = some o → (lo ≤ g ∧ g < hi) ∨ fl ≤ g → w'.heap[g]? = some o := fun hg hb => (hk _ (blk_lt hg) hb).trans hg
  have own : ∀ {e : TypeId} {n : Nat} {v : Value} {xs : List Value}, w.ownsRow lo e 1 v n xs → (∀ b, v.ownBlock = some b → b < hi) → w'.ownsRow lo e 1 v n xs :=
    fun h hb => own_move h (fun k hv => hk k (h.lt k hv).2 (.inl ⟨(h.lt k hv).1, hb k hv⟩))
  refine ⟨?_, H.bm, H.fh, own H.hT H.hTl, H.hTl, own H.hA H.hAl, H.hAl, fun i h => ⟨blk (H.th i h).1 (.inl (H.th i h).2), (H.th i h).2⟩, H.inj, fun i h => ?_, fun k => own (H.rows k) (H.rlt k), H.rlt, H.apart⟩
  · obtain ⟨fp, h1, h2⟩ := H.hm
    refine ⟨fp, blk h1 (.inl H.bm), ?_⟩
    cases hs : s.bad with
    | none => rw [hs] at h2; exact h2
    | some f => rw [hs] at h2; obtain ⟨b, e, hb, hf⟩ := h2; exact ⟨b, e, hb, blk hf (.inr hb)⟩
  · exact Kd.R_mono (Kd.R_step (Kd.R_bound (H.code i h)) (fun k ho hl => hk k hl (.inl ⟨ho.2.1, ho.1⟩))) (fun k ho => ho.1)
theorem MachIn.below {w w' : World} {lo hi fl : Nat} {ph : Ph} {cs : List S49} {nA : Nat} {s : St} (H : MachIn w lo hi fl ph cs nA s) (h : Below w.heap.size w w') : MachIn w' lo hi fl ph cs nA s :=
  H.move fun k hk _ => h.block k hk
/-- Another one's changes. -/
theorem MachIn.other {w w' : World} {lo hi fl lo' hi' : Nat} {ph : Ph} {cs : List S49} {nA : Nat} {s : St} (H : MachIn w lo hi fl ph cs nA s) (h : Chg lo' hi' w w') (h1 : hi' ≤ lo ∨ hi ≤ lo') (h2 : hi' ≤ fl) : MachIn w' lo hi fl ph cs nA s :=
  H.move fun k hk hb => h.block k hk (by omega)

/-! ### get, set -/
set_option maxHeartbeats 2000000 in
theorem get_calls (g : Nat) (off : Nat) (v : Value) (xs : List Int) (i : Int) (base : Nat) (w : World) (hv : w.cell? ⟨g, off, none⟩ = some v) (ho : w.ownsRow base 3 1 v xs.length (nums .i64 xs)) (h0 : 0 ≤ i) (h1 : i < xs.length) :
    Calls Try.prog 47 #[.pointer (some ⟨g, off, none⟩), .int .i64 i] w fun e w' => e = .returned (.int .i64 (rd xs i)) ∧ w' = w := by
  obtain ⟨gv, c, rfl, hc, hcell, _, _, _⟩ := own_int ho i h0 h1
  clear ho
  go_enter Try.func47, Try.ntmps47
  go_wp2
  go_ret
  exact ⟨rfl, rfl⟩
set_option maxHeartbeats 2000000 in
theorem set_calls (g : Nat) (off : Nat) (v : Value) (xs : List Int) (i x : Int) (base : Nat) (w : World) (hv : w.cell? ⟨g, off, none⟩ = some v) (ho : w.ownsRow base 3 1 v xs.length (nums .i64 xs)) (h0 : 0 ≤ i) (h1 : i < xs.length) :
    Calls Try.prog 62 #[.pointer (some ⟨g, off, none⟩), .int .i64 i, .int .i64 x] w fun e w' => e = .returned (.tuple #[]) ∧ w'.ownsRow base 3 1 v xs.length (nums .i64 (xs.set i.toNat x)) ∧ w.grownBy w' v.ownBlock := by
  obtain ⟨gv, c, rfl, hc, hcell, hfz, _, _⟩ := own_int ho i h0 h1
  have HS := Aside0.mk (own_store ho i x)
  clear ho
  go_enter Try.func62, Try.ntmps62
  go_wp2
  go_end0
  exact ⟨rfl, HS.out⟩

/-! ### thread, Next -/
theorem MachIn.tcell {w : World} {lo hi fl : Nat} {ph : Ph} {cs : List S49} {nA : Nat} {s : St} (H : MachIn w lo hi fl ph cs nA s) (i : Int) (h0 : 0 ≤ i) (h1 : i < cs.length) :
    ∃ g c, ph.hT = .slice (some ⟨g, 0, none⟩) cs.length c ∧ cs.length ≤ c ∧ w.cell? ⟨g, i.toNat, none⟩ = some (.pointer (some ⟨ph.tb i.toNat, 0, none⟩)) := by
  obtain ⟨g, c, e, hc, hx, _⟩ := own_cell H.hT i.toNat (by omega)
  refine ⟨g, c, e, hc, ?_⟩
  have : i.toNat < cs.length := by omega
  rw [hx]; simp [this]
def thr (ph : Ph) (cs : List S49) (i : Int) : Value := if 0 ≤ i ∧ i < cs.length then .pointer (some ⟨ph.tb i.toNat, 0, none⟩) else .pointer none
set_option maxHeartbeats 2000000 in
theorem thread_calls (w : World) {lo hi fl : Nat} {ph : Ph} {cs : List S49} {nA : Nat} {s : St} (H : MachIn w lo hi fl ph cs nA s) (i : Int) :
    Calls Try.prog 43 #[.pointer (some ⟨ph.bm, 0, none⟩), .int .i64 i] w fun e w' => e = .returned (thr ph cs i) ∧ Below w.heap.size w w' := by
  obtain ⟨fp, hm, _⟩ := H.hm
  obtain ⟨A, c, hT⟩ := own_slice H.hT
  have hcell1 := (blk_cell hm 4).trans rfl
  have HB := Aside0.mk (Below.refl w.heap.size w)
  have HC := Aside0.mk (H.tcell i)
  clear H hm
  rw [hT] at hcell1 HC
  unfold thr
  by_cases c0 : 0 ≤ i
  · by_cases c1 : i < cs.length
    · obtain ⟨g, c', e, hc, hcell⟩ := HC.out c0 c1
      cases e
      clear HC
      rw [if_pos ⟨c0, c1⟩]
      go_enter Try.func43, Try.ntmps43
      go_wp2
      go_ret
      exact ⟨rfl, HB.out⟩
    · rw [if_neg (by omega)]
      clear HC
      go_enter Try.func43, Try.ntmps43
      go_wp2
      go_ret
      exact ⟨rfl, HB.out⟩
  · rw [if_neg (by omega)]
    clear HC
    go_enter Try.func43, Try.ntmps43
    go_wp2
    go_ret
    exact ⟨rfl, HB.out⟩
end
section
def St.setRow (s : St) (k : Nat) (xs : List Int) : St := { s with row := fun j => if j = k then xs else s.row j }
def St.setPc (s : St) (k : Nat) (x : Int) : St := { s with pc := fun j => if j = k then x else s.pc j }
def St.setBad (s : St) (f : Int × Int × Int) : St := { s with bad := some f }
theorem row_ne {w : World} {base n g : Nat} {e t : TypeId} {v : Value} {xs : List Value} {cs : Array Value} (h : w.ownsRow base e 1 v n xs) (hg : w.heap[g]? = some (.cells cs t (0, 0))) (hne : e ≠ t) : v.ownBlock ≠ some g := by
  intro hv
  obtain ⟨cells, hc⟩ := own_typed h g hv
  rw [hg] at hc
  injection hc with hc
  injection hc with _ hc _
  exact hne hc.symm
theorem row_keep {w w' : World} {base n : Nat} {e : TypeId} {v : Value} {xs : List Value} {row : Option Nat} (h : w.ownsRow base e 1 v n xs) (hg : w.grownBy w' row) (hne : ∀ b, v.ownBlock = some b → row ≠ some b) : w'.ownsRow base e 1 v n xs :=
  own_move h (fun k hk => hg.block k (h.lt k hk).2 (fun e => hne k hk e.symm))
theorem blk_keep {w w' : World} {g : Nat} {o : Obj} {row : Option Nat} (h : w.heap[g]? = some o) (hg : w.grownBy w' row) (hne : row ≠ some g) : w'.heap[g]? = some o :=
  (hg.block g (blk_lt h) (fun e => hne e.symm)).trans h
theorem code_keep {w w' : World} {lo hi : Nat} {v : Value} {xs : List S33} {row : Option Nat} (h : k33.R 33 w lo (fun k => k < hi) v xs) (hg : w.grownBy w' row)
    (hne : ∀ b cells, w.heap[b]? = some (.cells cells 33 (0, 0)) → row ≠ some b) : k33.R 33 w' lo (fun k => k < hi) v xs := by
  refine Kd.R_mono (Kd.R_step (Kd.R_bound h) (fun k ho hl => hg.block k hl (fun e => ?_))) (fun k ho => ho.1)
  obtain ⟨_, _, _, q, hq, cells, hc⟩ := ho
  have hq' : q = 33 := by
    simpa [k33, Kd.iso, Kd.pair, Kd.int, Kd.scalar] using hq
  subst hq'
  exact hne k cells hc e.symm
theorem MachIn.stored {w w' : World} {lo hi fl : Nat} {ph : Ph} {cs : List S49} {nA : Nat} {s : St} (H : MachIn w lo hi fl ph cs nA s) (k : Nat) (xs : List Int)
    (ho : w'.ownsRow lo 3 1 (ph.rv k) xs.length (nums .i64 xs)) (hg : w.grownBy w' (ph.rv k).ownBlock) : MachIn w' lo hi fl ph cs nA (s.setRow k xs) := by
  have ne : ∀ {g : Nat} {t : TypeId} {c : Array Value}, w.heap[g]? = some (.cells c t (0, 0)) → (3 : Nat) ≠ t → (ph.rv k).ownBlock ≠ some g := fun hg' ht => row_ne (H.rows k) hg' ht
  have nr : ∀ {e : TypeId} {n : Nat} {v : Value} {xs : List Value}, w.ownsRow lo e 1 v n xs → e ≠ 3 → w'.ownsRow lo e 1 v n xs := fun h he => row_keep h hg (fun b hb hk => by
    obtain ⟨c, hc⟩ := own_typed h b hb
    exact ne hc (fun e => he e.symm) hk)
  refine ⟨?_, H.bm, H.fh, nr H.hT (by decide), H.hTl, nr H.hA (by decide), H.hAl, fun i h => ⟨blk_keep (H.th i h).1 hg (ne (H.th i h).1 (by decide)), (H.th i h).2⟩, H.inj,
    fun i h => code_keep (H.code i h) hg (fun b cells hc => ne hc (by decide)), fun j => ?_, H.rlt, H.apart⟩
  · obtain ⟨fp, h1, h2⟩ := H.hm
    refine ⟨fp, blk_keep h1 hg (ne h1 (by decide)), ?_⟩
    show faulty w' fl fp s.bad
    cases hs : s.bad with
    | none => rw [hs] at h2; exact h2
    | some f => rw [hs] at h2; obtain ⟨b, e, hb, hf⟩ := h2; exact ⟨b, e, hb, blk_keep hf hg (ne hf (by decide))⟩
  · by_cases e : j = k
    · subst e
      simpa [St.setRow] using ho
    · have : (s.setRow k xs).row j = s.row j := by simp [St.setRow, e]
      rw [this]
      refine row_keep (H.rows j) hg (fun b hb hk => ?_)
      rcases H.apart j k e with h | h
      · rw [h] at hb; cases hb
      · exact h (hb.trans hk.symm)
theorem MachIn.putPc {w w' : World} {lo hi fl : Nat} {ph : Ph} {cs : List S49} {nA : Nat} {s : St} (H : MachIn w lo hi fl ph cs nA s) (k : Nat) (x : Int) (hk : k < cs.length)
    (hb : w'.heap[ph.tb k]? = some (.cells #[ph.rv (4 + 2 * k), .int .i64 cs[k].f0, ph.cv k, .int .i64 x] 85 (0, 0))) (hg : w.grownBy w' (some (ph.tb k))) : MachIn w' lo hi fl ph cs nA (s.setPc k x) := by
  have ht := (H.th k hk).1
  have ne : ∀ {g : Nat} {t : TypeId} {c : Array Value}, w.heap[g]? = some (.cells c t (0, 0)) → (85 : Nat) ≠ t → some (ph.tb k) ≠ some g := fun hg' hne e => by
    injection e with e; subst e
    rw [ht] at hg'
    injection hg' with hc; injection hc with _ hc _
    exact hne hc
  have nr : ∀ {e : TypeId} {n : Nat} {v : Value} {xs : List Value}, w.ownsRow lo e 1 v n xs → e ≠ 85 → w'.ownsRow lo e 1 v n xs := fun h he => row_keep h hg (fun b hb hk => by
    obtain ⟨c, hc⟩ := own_typed h b hb
    exact ne hc (fun e => he e.symm) hk)
  refine ⟨?_, H.bm, H.fh, nr H.hT (by decide), H.hTl, nr H.hA (by decide), H.hAl, fun i h => ?_, H.inj,
    fun i h => code_keep (H.code i h) hg (fun b cells hc => ne hc (by decide)), fun j => nr (H.rows j) (by decide), H.rlt, H.apart⟩
  · obtain ⟨fp, h1, h2⟩ := H.hm
    refine ⟨fp, blk_keep h1 hg (ne h1 (by decide)), ?_⟩
    show faulty w' fl fp s.bad
    cases hs : s.bad with
    | none => rw [hs] at h2; exact h2
    | some f => rw [hs] at h2; obtain ⟨b, e, hb, hf⟩ := h2; exact ⟨b, e, hb, blk_keep hf hg (ne hf (by decide))⟩
  · by_cases e : i = k
    · subst e
      refine ⟨?_, (H.th i h).2⟩
      rw [hb]; simp [St.setPc]
    · refine ⟨?_, (H.th i h).2⟩
      have : (s.setPc k x).pc i = s.pc i := by simp [St.setPc, e]
      rw [this]
      exact blk_keep (H.th i h).1 hg (fun e' => by injection e' with e'; exact H.inj i k h hk e e'.symm)
theorem MachIn.putBad {w w' : World} {lo hi fl : Nat} {ph : Ph} {cs : List S49} {nA : Nat} {s : St} (H : MachIn w lo hi fl ph cs nA s) (f : Int × Int × Int) (b : Nat) (hfl : fl ≤ b)
    (hb : w'.heap[b]? = some (.cells #[.int .i64 f.1, .int .i64 f.2.1, .int .i64 f.2.2] 52 (0, 0)))
    (hm : w'.heap[ph.bm]? = some (.cells #[.slice none 0 0, .slice none 0 0, .int .i64 0, .slice none 0 0, ph.hT, ph.rv 0, ph.hA, ph.rv 1, .pointer (some ⟨b, 0, none⟩)] 79 (0, 0)))
    (hg : w.grownBy w' (some ph.bm)) : MachIn w' lo hi fl ph cs nA (s.setBad f) := by
  obtain ⟨fp, h1, h2⟩ := H.hm
  have ne : ∀ {g : Nat} {t : TypeId} {c : Array Value}, w.heap[g]? = some (.cells c t (0, 0)) → (79 : Nat) ≠ t → some ph.bm ≠ some g := fun hg' hne e => by
    injection e with e; subst e
    rw [h1] at hg'
    injection hg' with hc; injection hc with _ hc _
    exact hne hc
  have nr : ∀ {e : TypeId} {n : Nat} {v : Value} {xs : List Value}, w.ownsRow lo e 1 v n xs → e ≠ 79 → w'.ownsRow lo e 1 v n xs := fun h he => row_keep h hg (fun b hb hk => by
    obtain ⟨c, hc⟩ := own_typed h b hb
    exact ne hc (fun e => he e.symm) hk)
  exact ⟨⟨_, hm, b, rfl, hfl, hb⟩, H.bm, H.fh, nr H.hT (by decide), H.hTl, nr H.hA (by decide), H.hAl, fun i h => ⟨blk_keep (H.th i h).1 hg (ne (H.th i h).1 (by decide)), (H.th i h).2⟩, H.inj,
    fun i h => code_keep (H.code i h) hg (fun b cells hc => ne hc (by decide)), fun j => nr (H.rows j) (by decide), H.rlt, H.apart⟩
end
section
def actV (a : S33) : Value := .agg #[.int .i64 a.f0, .int .i64 a.f1, .int .i64 a.f2, .int .i64 a.f3, .int .i64 a.f4, .int .i64 a.f5, .int .i64 a.f6, .int .i64 a.f7, .int .i64 a.f8]
def actC (a : S33) : Array Value := #[.int .i64 a.f0, .int .i64 a.f1, .int .i64 a.f2, .int .i64 a.f3, .int .i64 a.f4, .int .i64 a.f5, .int .i64 a.f6, .int .i64 a.f7, .int .i64 a.f8]
theorem actC_one (a : S33) : ∀ q ∈ (actC a).toList, q.oneCell' = true := by
  intro q hq
  simp only [actC, List.mem_cons, List.not_mem_nil, or_false] at hq
  rcases hq with rfl | rfl | rfl | rfl | rfl | rfl | rfl | rfl | rfl <;> rfl
def nxtV : Option S33 → Value
  | none => .tuple #[actV z33, .bool false]
  | some a => .tuple #[actV a, .bool true]
def actOf (cs : List S49) (s : St) (t : Int) : S33 := rd_T33 (rd_T49 cs t).f1 (s.pc t.toNat)
def nxt (cs : List S49) (s : St) (t : Int) : Option S33 :=
  if 0 ≤ t ∧ t < cs.length then
    (if s.bad = none then
      (if (actOf cs s t).f0 = 14 then none
       else if (actOf cs s t).f0 = 9 then (if rd (s.row 1) (actOf cs s t).f4 = -1 then some (actOf cs s t) else if rd (s.row 1) (actOf cs s t).f4 = t then some (actOf cs s t) else none)
       else some (actOf cs s t))
     else none)
  else none
structure okA (nv ng na nm nl : Int) (a : S33) : Prop where
  kind : 1 ≤ a.f0 ∧ a.f0 ≤ 14
  next : 0 ≤ a.f7 ∧ a.f7 < nl
  els : 0 ≤ a.f8 ∧ a.f8 < nl
  t : a.f0 = 1 ∨ a.f0 = 2 ∨ a.f0 = 3 ∨ a.f0 = 4 ∨ a.f0 = 5 ∨ a.f0 = 7 → 0 ≤ a.f1 ∧ a.f1 < nv
  x : a.f0 = 2 ∨ a.f0 = 4 ∨ a.f0 = 6 ∨ a.f0 = 7 ∨ a.f0 = 8 ∨ a.f0 = 11 → 0 ≤ a.f2 ∧ a.f2 < nv
  y : a.f0 = 4 ∨ a.f0 = 8 ∨ a.f0 = 11 → 0 ≤ a.f3 ∧ a.f3 < nv
  g : a.f0 = 5 ∨ a.f0 = 6 → 0 ≤ a.f4 ∧ a.f4 < ng
  arr : a.f0 = 7 ∨ a.f0 = 8 → 0 ≤ a.f4 ∧ a.f4 < na
  mx : a.f0 = 9 ∨ a.f0 = 10 → 0 ≤ a.f4 ∧ a.f4 < nm
  op : a.f0 = 4 → 1 ≤ a.f6 ∧ a.f6 ≤ 5
  rel : a.f0 = 11 → 1 ≤ a.f6 ∧ a.f6 ≤ 6
structure Wf (cs : List S49) (nA : Nat) (s : St) : Prop where
  pcs : ∀ i, (h : i < cs.length) → 0 ≤ s.pc i ∧ s.pc i < cs[i].f1.length
  acts : ∀ i, (h : i < cs.length) → ∀ a, a ∈ cs[i].f1 → okA (s.row (4 + 2 * i)).length (s.row 0).length nA (s.row 1).length cs[i].f1.length a
theorem rd49_at (cs : List S49) (t : Int) (h0 : 0 ≤ t) (h1 : t < cs.length) : rd_T49 cs t = cs[t.toNat]'(by omega) := by
  have : t.toNat < cs.length := by omega
  simp [rd_T49, this]
theorem rd33_mem (xs : List S33) (t : Int) (h0 : 0 ≤ t) (h1 : t < xs.length) : rd_T33 xs t ∈ xs := by
  have h : t.toNat < xs.length := by omega
  have : rd_T33 xs t = xs[t.toNat] := by simp [rd_T33, h]
  rw [this]; exact List.getElem_mem h
theorem Wf.act {cs : List S49} {nA : Nat} {s : St} (W : Wf cs nA s) (t : Int) (h0 : 0 ≤ t) (h1 : t < cs.length) :
    okA (s.row (4 + 2 * t.toNat)).length (s.row 0).length nA (s.row 1).length (rd_T49 cs t).f1.length (actOf cs s t) ∧ 0 ≤ s.pc t.toNat ∧ s.pc t.toNat < (rd_T49 cs t).f1.length := by
  have h := W.pcs t.toNat (by omega)
  have h2 := W.acts t.toNat (by omega)
  rw [rd49_at cs t h0 h1]
  refine ⟨h2 _ ?_, h⟩
  unfold actOf
  rw [rd49_at cs t h0 h1]
  exact rd33_mem _ _ h.1 h.2
/-- All that is read of a thread that is. -/
theorem MachIn.at_thread {w : World} {lo hi fl : Nat} {ph : Ph} {cs : List S49} {nA : Nat} {s : St} (H : MachIn w lo hi fl ph cs nA s) (t : Int) (h0 : 0 ≤ t) (h1 : t < cs.length) :
    ∃ A c, w.heap[ph.tb t.toNat]? = some (.cells #[ph.rv (4 + 2 * t.toNat), .int .i64 (rd_T49 cs t).f0, .slice A (rd_T49 cs t).f1.length c, .int .i64 (s.pc t.toNat)] 85 (0, 0)) ∧ (rd_T49 cs t).f1.length ≤ c ∧ k33.C w A (rd_T49 cs t).f1.length (rd_T49 cs t).f1 := by
  have h := (H.th t.toNat (by omega)).1
  obtain ⟨A, c, e, hl, hC⟩ := Kd.R_reads (H.code t.toNat (by omega))
  rw [rd49_at cs t h0 h1]
  rw [e] at h
  exact ⟨A, c, h, hl, hC⟩
theorem blk_after {w w' : World} {o : Obj} (h : Below (w.alloc o).heap.size (w.alloc o) w') : w'.heap[w.heap.size]? = some o :=
  (h.block _ (by simp)).trans (heap_alloc_new w o)
set_option maxHeartbeats 4000000 in
theorem next_none (w : World) {lo hi fl : Nat} {ph : Ph} {cs : List S49} {nA : Nat} {s : St} (H : MachIn w lo hi fl ph cs nA s) (i : Int) (c0 : ¬ (0 ≤ i ∧ i < cs.length)) :
    Calls Try.prog 20 #[.pointer (some ⟨ph.bm, 0, none⟩), .int .i64 i] w fun e w' => e = .returned (nxtV none) ∧ Below w.heap.size w w' := by
  have HT := Aside0.mk (fun W' (hb : Below w.heap.size w W') => thread_calls W' (H.below hb) i)
  have HB := Aside0.mk (Below.refl w.heap.size w)
  clear H
  simp only [thr, if_neg c0] at HT
  go_enter Try.func20, Try.ntmps20
  go_wp2_with fail
  go_at_call 43
  refine (HT.out _ (below_alloc HB.out _)).mono ?_
  rintro e w1 ⟨rfl, hb⟩
  have BW := Aside0.mk (below_on (below_alloc HB.out _) hb)
  have hR := blk_after hb
  clear HT HB hb
  go_wp2_with (first | ((with_reducible refine gate_store (t := 33) (p := 4) rfl ?_); refine put_row ?hg ?hn 33 (.tmp 4) (.tmp 20) ?ho w.heap.size 33 _ #[.int .i64 0, .int .i64 0, .int .i64 0, .int .i64 0, .int .i64 0, .int .i64 0, .int .i64 0, .int .i64 0, .int .i64 0] ?hp ?hx ?hu hR ?ht ?hs ?h1 ?_; (case hg => rfl); (case hn => rfl); (case ho => rfl); (case hp => rfl); (case hx => rfl); (case hu => rfl); (case ht => kernel_rfl); (case hs => rfl); (case h1 => exact actC_one z33); intro w2 hR2 hG))
  refine bodyPost_ret (results_ct rfl _ _ w.heap.size 33 _ (0, 0) _ rfl hR2 Try.underlying33 rfl (by kernel_rfl)) rfl ?_
  exact ⟨rfl, BW.out.grown hG BW.out.size (fun k hk => by injection hk with hk; omega)⟩
set_option maxHeartbeats 4000000 in
theorem next_bad (w : World) {lo hi fl : Nat} {ph : Ph} {cs : List S49} {nA : Nat} {s : St} (H : MachIn w lo hi fl ph cs nA s) (i : Int) (c0 : 0 ≤ i ∧ i < cs.length) (hbad : s.bad ≠ none) :
    Calls Try.prog 20 #[.pointer (some ⟨ph.bm, 0, none⟩), .int .i64 i] w fun e w' => e = .returned (nxtV none) ∧ Below w.heap.size w w' := by
  have HT := Aside0.mk (fun W' (hb : Below w.heap.size w W') => thread_calls W' (H.below hb) i)
  have HB := Aside0.mk (Below.refl w.heap.size w)
  simp only [thr, if_pos c0] at HT
  obtain ⟨fp, hm, hf⟩ := H.hm
  obtain ⟨f, hf1⟩ := Option.ne_none_iff_exists'.1 hbad
  rw [hf1] at hf
  obtain ⟨b, rfl, _, _⟩ := hf
  clear H hbad hf1
  go_enter Try.func20, Try.ntmps20
  go_wp2_with fail
  go_at_call 43
  refine (HT.out _ (below_alloc HB.out _)).mono ?_
  rintro e w1 ⟨rfl, hb⟩
  have BW := Aside0.mk (below_on (below_alloc HB.out _) hb)
  have hR := blk_after hb
  have hc := (blk_cell ((BW.out.block _ (blk_lt hm)).trans hm) 8).trans rfl
  clear HT HB hb hm
  go_wp2_with (first | ((with_reducible refine gate_store (t := 33) (p := 4) rfl ?_); refine put_row ?hg ?hn 33 (.tmp 4) (.tmp 20) ?ho w.heap.size 33 _ (actC z33) ?hp ?hx ?hu hR ?ht ?hs ?h1 ?_; (case hg => rfl); (case hn => rfl); (case ho => rfl); (case hp => rfl); (case hx => rfl); (case hu => rfl); (case ht => kernel_rfl); (case hs => rfl); (case h1 => exact actC_one z33); intro w2 hR2 hG))
  refine bodyPost_ret (results_ct rfl _ _ w.heap.size 33 _ (0, 0) _ rfl hR2 Try.underlying33 rfl (by kernel_rfl)) rfl ?_
  exact ⟨rfl, BW.out.grown hG BW.out.size (fun k hk => by injection hk with hk; omega)⟩
theorem cell_on {w : World} (o : Obj) {a : Addr} {v : Value} (h : w.cell? a = some v) : (w.alloc o).cell? a = some v := pw_cell_below (below_alloc (Below.refl _ _) o) h
theorem below_read {w w' : World} (h : Below w.heap.size w w') {g : Nat} {o : Obj} (hg : w.heap[g]? = some o) : w'.heap[g]? = some o := (h.block _ (blk_lt hg)).trans hg
set_option maxHeartbeats 4000000 in
theorem next_live (w : World) {lo hi fl : Nat} {ph : Ph} {cs : List S49} {nA : Nat} {s : St} (H : MachIn w lo hi fl ph cs nA s) (W : Wf cs nA s) (i : Int) (c0 : 0 ≤ i ∧ i < cs.length) (hbad : s.bad = none) :
    Calls Try.prog 20 #[.pointer (some ⟨ph.bm, 0, none⟩), .int .i64 i] w fun e w' => e = .returned (nxtV (nxt cs s i)) ∧ Below w.heap.size w w' := by
  have HT := Aside0.mk (fun W' (hb : Below w.heap.size w W') => thread_calls W' (H.below hb) i)
  have HB := Aside0.mk (Below.refl w.heap.size w)
  simp only [thr, if_pos c0] at HT
  obtain ⟨fp, hm, hf⟩ := H.hm
  rw [hbad] at hf
  obtain rfl : fp = _ := hf
  have HM := Aside0.mk hm
  have HH := Aside0.mk H
  have HA := Aside0.mk (W.act i c0.1 c0.2)
  have HNX : Aside0 (nxt cs s i = _) := ⟨by rw [nxt, if_pos c0, if_pos hbad]⟩
  clear H hbad hm W
  go_enter Try.func20, Try.ntmps20
  go_wp2_with fail
  go_at_call 43
  refine (HT.out _ (below_alloc HB.out _)).mono ?_
  rintro e w1 ⟨rfl, hb⟩
  have BW := Aside0.mk (below_on (below_alloc HB.out _) hb)
  have hR := blk_after hb
  clear HT HB hb
  have H1 := Aside0.mk (HH.out.below BW.out)
  have hm1 := below_read BW.out HM.out
  have hmc8 : w1.cell? ⟨ph.bm, 8, none⟩ = some (.pointer none) := (blk_cell hm1 8).trans rfl
  have hmc7 : w1.cell? ⟨ph.bm, 7, none⟩ = some (ph.rv 1) := (blk_cell hm1 7).trans rfl
  obtain ⟨A, c, hth, hlc, hC⟩ := H1.out.at_thread i c0.1 c0.2
  have htc2 : w1.cell? ⟨ph.tb i.toNat, 2, none⟩ = some (.slice A (rd_T49 cs i).f1.length c) := (blk_cell hth 2).trans rfl
  have htc3 : w1.cell? ⟨ph.tb i.toNat, 3, none⟩ = some (.int .i64 (s.pc i.toNat)) := (blk_cell hth 3).trans rfl
  obtain ⟨hact, hp0, hp1⟩ := HA.out
  obtain ⟨ad, rfl, ha0, ha1, ha2, ha3, ha4, ha5, ha6, ha7, ha8⟩ := at_T33 hC _ hp0 hp1
  clear HH HM HA hm1 hth hC
  have hbtc2 := cell_on (.cells (actC z33) 33) htc2
  have hbtc3 := cell_on (.cells (actC z33) 33) htc3
  have hba0 := cell_on (.cells (actC z33) 33) ha0
  have hba1 := cell_on (.cells (actC z33) 33) ha1
  have hba2 := cell_on (.cells (actC z33) 33) ha2
  have hba3 := cell_on (.cells (actC z33) 33) ha3
  have hba4 := cell_on (.cells (actC z33) 33) ha4
  have hba5 := cell_on (.cells (actC z33) 33) ha5
  have hba6 := cell_on (.cells (actC z33) 33) ha6
  have hba7 := cell_on (.cells (actC z33) 33) ha7
  have hba8 := cell_on (.cells (actC z33) 33) ha8
  simp only [actC, z33] at hbtc2 hbtc3 hba0 hba1 hba2 hba3 hba4 hba5 hba6 hba7 hba8
  go_wp2_with fail
  go_region
  clear hbtc2 hbtc3 hba0 hba1 hba2 hba3 hba4 hba5 hba6 hba7 hba8 htc2 htc3 ha0 ha1 ha2 ha3 ha4 ha5 ha6 ha7 ha8
  have hy : actOf cs s i = rd_T33 (rd_T49 cs i).f1 (s.pc i.toNat) := rfl
  rw [hy] at hact HNX
  generalize rd_T33 (rd_T49 cs i).f1 (s.pc i.toNat) = y at *
  have hbw2 := below_drew (below_alloc (Below.refl w1.heap.size w1) (.cells (actC y) 33))
  have hY : (w1.alloc (.cells (actC y) 33)).drew.heap[w1.heap.size]? = some (.cells (actC y) 33 (0, 0)) := heap_alloc_new w1 _
  have hlt : w.heap.size ≠ w1.heap.size := Nat.ne_of_lt (blk_lt hR)
  have ho := H1.out.rows 1
  have hmx := hact.mx
  clear hact hy H1 hp0 hp1 hlc
  simp only [actC] at hY hbw2
  generalize hw2 : World.drew _ = w2 at *
  clear hw2
  replace hR := below_read hbw2 hR
  replace hmc7 := pw_cell_below hbw2 hmc7
  have ho2 := pw_own_below ho hbw2
  have BW2 := Aside0.mk (below_on BW.out hbw2)
  clear BW hmc8 ho hbw2
  have hy0 : w2.cell? ⟨w1.heap.size, 0, none⟩ = some (.int .i64 y.f0) := (blk_cell hY 0).trans rfl
  have hy1 : w2.cell? ⟨w1.heap.size, 1, none⟩ = some (.int .i64 y.f1) := (blk_cell hY 1).trans rfl
  have hy2 : w2.cell? ⟨w1.heap.size, 2, none⟩ = some (.int .i64 y.f2) := (blk_cell hY 2).trans rfl
  have hy3 : w2.cell? ⟨w1.heap.size, 3, none⟩ = some (.int .i64 y.f3) := (blk_cell hY 3).trans rfl
  have hy4 : w2.cell? ⟨w1.heap.size, 4, none⟩ = some (.int .i64 y.f4) := (blk_cell hY 4).trans rfl
  have hy5 : w2.cell? ⟨w1.heap.size, 5, none⟩ = some (.int .i64 y.f5) := (blk_cell hY 5).trans rfl
  have hy6 : w2.cell? ⟨w1.heap.size, 6, none⟩ = some (.int .i64 y.f6) := (blk_cell hY 6).trans rfl
  have hy7 : w2.cell? ⟨w1.heap.size, 7, none⟩ = some (.int .i64 y.f7) := (blk_cell hY 7).trans rfl
  have hy8 : w2.cell? ⟨w1.heap.size, 8, none⟩ = some (.int .i64 y.f8) := (blk_cell hY 8).trans rfl
  by_cases k14 : y.f0 = 14
  · have kb : (y.f0 == 14) = true := beq_iff_eq.mpr k14
    have HN := Aside0.mk (HNX.out.trans (if_pos k14))
    clear HNX hmx hmc7 ho2
    go_wp2_with fail
    go_quiet (fail)
    go_wp2_with (first | ((with_reducible refine gate_store (t := 33) (p := 4) rfl ?_); refine put_row ?hg ?hn 33 (.tmp 4) (.tmp 63) ?ho w.heap.size 33 _ (actC z33) ?hp ?hx ?hu hR ?ht ?hs ?h1 ?_; (case hg => rfl); (case hn => rfl); (case ho => rfl); (case hp => rfl); (case hx => rfl); (case hu => rfl); (case ht => kernel_rfl); (case hs => rfl); (case h1 => exact actC_one z33); intro w3 hR2 hG))
    refine bodyPost_ret (results_ct rfl _ _ w.heap.size 33 _ (0, 0) _ rfl hR2 Try.underlying33 rfl (by kernel_rfl)) rfl ?_
    exact ⟨by rw [HN.out]; rfl, (show Below w.heap.size w (w2.drewN nq) from pw_below_drewN BW2.out nq).grown hG BW2.out.size (fun k hk => by injection hk with hk; omega)⟩
  · have kb : (y.f0 == 14) = false := beq_eq_false_iff_ne.mpr k14
    replace HNX := Aside0.mk (HNX.out.trans (if_neg k14))
    by_cases k9 : y.f0 = 9
    · have kb9 : (y.f0 == 9) = true := beq_iff_eq.mpr k9
      replace HNX := Aside0.mk (HNX.out.trans (if_pos k9))
      obtain ⟨g0, g1⟩ := hmx (.inl k9)
      obtain ⟨gw, cw, eo, hlw, hown, _, _, _⟩ := own_int ho2 y.f4 g0 g1
      rw [eo] at hmc7
      clear hmx ho2 eo k9
      generalize rd (s.row 1) y.f4 = ow at *
      by_cases kn : ow = -1
      · have kbn : (ow != -1) = false := bne_eq_false_iff_eq.mpr kn
        have HN := Aside0.mk (HNX.out.trans (if_pos kn))
        clear HNX kn
        go_wp2_with fail
        go_quiet (fail)
        go_wp2_with (first | ((with_reducible refine gate_store (t := 33) (p := 4) rfl ?_); refine put_row ?hg ?hn 33 (.tmp 4) (.tmp 64) ?ho w.heap.size 33 _ (actC y) ?hp ?hx ?hu hR ?ht ?hs ?h1 ?_; (case hg => rfl); (case hn => rfl); (case ho => rfl); (case hp => rfl); (case hx => rfl); (case hu => rfl); (case ht => kernel_rfl); (case hs => rfl); (case h1 => exact actC_one y); intro w3 hR2 hG))
        refine bodyPost_ret (results_ct rfl _ _ w.heap.size 33 _ (0, 0) _ rfl hR2 Try.underlying33 rfl (by kernel_rfl)) rfl ?_
        exact ⟨by rw [HN.out]; rfl, (show Below w.heap.size w (w2.drewN nq) from pw_below_drewN BW2.out nq).grown hG BW2.out.size (fun k hk => by injection hk with hk; omega)⟩
      · have kbn : (ow != -1) = true := bne_iff_ne.mpr kn
        replace HNX := Aside0.mk (HNX.out.trans (if_neg kn))
        by_cases kt : ow = i
        · have kbt : (ow != i) = false := bne_eq_false_iff_eq.mpr kt
          have HN := Aside0.mk (HNX.out.trans (if_pos kt))
          clear HNX kt kn
          go_wp2_with fail
          go_quiet (fail)
          go_wp2_with (first | ((with_reducible refine gate_store (t := 33) (p := 4) rfl ?_); refine put_row ?hg ?hn 33 (.tmp 4) (.tmp 64) ?ho w.heap.size 33 _ (actC y) ?hp ?hx ?hu hR ?ht ?hs ?h1 ?_; (case hg => rfl); (case hn => rfl); (case ho => rfl); (case hp => rfl); (case hx => rfl); (case hu => rfl); (case ht => kernel_rfl); (case hs => rfl); (case h1 => exact actC_one y); intro w3 hR2 hG))
          refine bodyPost_ret (results_ct rfl _ _ w.heap.size 33 _ (0, 0) _ rfl hR2 Try.underlying33 rfl (by kernel_rfl)) rfl ?_
          exact ⟨by rw [HN.out]; rfl, (show Below w.heap.size w (w2.drewN nq) from pw_below_drewN BW2.out nq).grown hG BW2.out.size (fun k hk => by injection hk with hk; omega)⟩
        · have kbt : (ow != i) = true := bne_iff_ne.mpr kt
          have HN := Aside0.mk (HNX.out.trans (if_neg kt))
          clear HNX
          go_wp2_with fail
          go_quiet (fail)
          go_wp2_with (first | ((with_reducible refine gate_store (t := 33) (p := 4) rfl ?_); refine put_row ?hg ?hn 33 (.tmp 4) (.tmp 63) ?ho w.heap.size 33 _ (actC z33) ?hp ?hx ?hu hR ?ht ?hs ?h1 ?_; (case hg => rfl); (case hn => rfl); (case ho => rfl); (case hp => rfl); (case hx => rfl); (case hu => rfl); (case ht => kernel_rfl); (case hs => rfl); (case h1 => exact actC_one z33); intro w3 hR2 hG))
          refine bodyPost_ret (results_ct rfl _ _ w.heap.size 33 _ (0, 0) _ rfl hR2 Try.underlying33 rfl (by kernel_rfl)) rfl ?_
          exact ⟨by rw [HN.out]; rfl, (show Below w.heap.size w (w2.drewN nq) from pw_below_drewN BW2.out nq).grown hG BW2.out.size (fun k hk => by injection hk with hk; omega)⟩
    · have kb9 : (y.f0 == 9) = false := beq_eq_false_iff_ne.mpr k9
      have HN := Aside0.mk (HNX.out.trans (if_neg k9))
      clear HNX hmx hmc7 ho2
      go_wp2_with fail
      go_quiet (fail)
      go_wp2_with (first | ((with_reducible refine gate_store (t := 33) (p := 4) rfl ?_); refine put_row ?hg ?hn 33 (.tmp 4) (.tmp 64) ?ho w.heap.size 33 _ (actC y) ?hp ?hx ?hu hR ?ht ?hs ?h1 ?_; (case hg => rfl); (case hn => rfl); (case ho => rfl); (case hp => rfl); (case hx => rfl); (case hu => rfl); (case ht => kernel_rfl); (case hs => rfl); (case h1 => exact actC_one y); intro w3 hR2 hG))
      refine bodyPost_ret (results_ct rfl _ _ w.heap.size 33 _ (0, 0) _ rfl hR2 Try.underlying33 rfl (by kernel_rfl)) rfl ?_
      exact ⟨by rw [HN.out]; rfl, (show Below w.heap.size w (w2.drewN nq) from pw_below_drewN BW2.out nq).grown hG BW2.out.size (fun k hk => by injection hk with hk; omega)⟩
theorem next_calls (w : World) {lo hi fl : Nat} {ph : Ph} {cs : List S49} {nA : Nat} {s : St} (H : MachIn w lo hi fl ph cs nA s) (W : Wf cs nA s) (i : Int) :
    Calls Try.prog 20 #[.pointer (some ⟨ph.bm, 0, none⟩), .int .i64 i] w fun e w' => e = .returned (nxtV (nxt cs s i)) ∧ Below w.heap.size w w' := by
  by_cases c0 : 0 ≤ i ∧ i < cs.length
  · by_cases hb : s.bad = none
    · exact next_live w H W i c0 hb
    · rw [show nxt cs s i = none by rw [nxt, if_pos c0, if_neg hb]]
      exact next_bad w H i c0 hb
  · rw [show nxt cs s i = none by rw [nxt, if_neg c0]]
    exact next_none w H i c0
end
section
def atOf (cs : List S49) (s : St) (i : Int) : Int := if 0 ≤ i ∧ i < cs.length then s.pc i.toNat else -1
set_option maxHeartbeats 2000000 in
theorem at_calls (w : World) {lo hi fl : Nat} {ph : Ph} {cs : List S49} {nA : Nat} {s : St} (H : MachIn w lo hi fl ph cs nA s) (i : Int) :
    Calls Try.prog 24 #[.pointer (some ⟨ph.bm, 0, none⟩), .int .i64 i] w fun e w' => e = .returned (.int .i64 (atOf cs s i)) ∧ Below w.heap.size w w' := by
  have HT := Aside0.mk (thread_calls w H i)
  have HH := Aside0.mk H
  clear H
  unfold atOf
  by_cases c0 : 0 ≤ i ∧ i < cs.length
  · rw [if_pos c0]
    simp only [thr, if_pos c0] at HT
    go_enter Try.func24, Try.ntmps24
    go_wp2_with fail
    go_at_call 43
    refine HT.out.mono ?_
    rintro e w1 ⟨rfl, hb⟩
    have hth : w1.heap[ph.tb i.toNat]? = _ := below_read hb (HH.out.th i.toNat (by omega)).1
    have htc3 : w1.cell? ⟨ph.tb i.toNat, 3, none⟩ = some (.int .i64 (s.pc i.toNat)) := (blk_cell hth 3).trans rfl
    have HB := Aside0.mk hb
    clear hth HT HH hb
    go_wp2
    go_ret
    exact ⟨rfl, HB.out⟩
  · rw [if_neg c0]
    simp only [thr, if_neg c0] at HT
    clear HH
    go_enter Try.func24, Try.ntmps24
    go_wp2_with fail
    go_at_call 43
    refine HT.out.mono ?_
    rintro e w1 ⟨rfl, hb⟩
    have HB := Aside0.mk hb
    clear HT hb
    go_wp2
    go_ret
    exact ⟨rfl, HB.out⟩
def ownOf (s : St) (i : Int) : Int := if 0 ≤ i ∧ i < (s.row 1).length then rd (s.row 1) i else -1
set_option maxHeartbeats 2000000 in
theorem owner_calls (w : World) {lo hi fl : Nat} {ph : Ph} {cs : List S49} {nA : Nat} {s : St} (H : MachIn w lo hi fl ph cs nA s) (i : Int) :
    Calls Try.prog 21 #[.pointer (some ⟨ph.bm, 0, none⟩), .int .i64 i] w fun e w' => e = .returned (.int .i64 (ownOf s i)) ∧ Below w.heap.size w w' := by
  obtain ⟨fp, hm, _⟩ := H.hm
  have hc7 : w.cell? ⟨ph.bm, 7, none⟩ = some (ph.rv 1) := (blk_cell hm 7).trans rfl
  have ho := H.rows 1
  have HB := Aside0.mk (Below.refl w.heap.size w)
  clear H hm
  unfold ownOf
  by_cases c0 : 0 ≤ i ∧ i < (s.row 1).length
  · rw [if_pos c0]
    obtain ⟨h0, h1⟩ := c0
    obtain ⟨g, c, e, hl, hcell, _⟩ := own_int ho i h0 h1
    rw [e] at hc7
    clear ho
    go_enter Try.func21, Try.ntmps21
    go_wp2
    go_ret
    exact ⟨rfl, HB.out⟩
  · rw [if_neg c0]
    obtain ⟨A, c, e⟩ := own_slice ho
    rw [e] at hc7
    clear ho
    by_cases h0 : 0 ≤ i
    · have h1 : ¬ i < (s.row 1).length := fun h => c0 ⟨h0, h⟩
      clear c0
      go_enter Try.func21, Try.ntmps21
      go_wp2
      go_ret
      exact ⟨rfl, HB.out⟩
    · clear c0
      go_enter Try.func21, Try.ntmps21
      go_wp2
      go_ret
      exact ⟨rfl, HB.out⟩
/-! ### slices.Clone -/
attribute [local go_sem] Go.run_eql_slice_nil
set_option maxHeartbeats 2000000 in
set_option maxRecDepth 100000 in
theorem clone_calls (w : World) (A : Option Addr) (c : Nat) (xs : List Int) (hr : ReadsInt w .i64 A xs.length xs) (hl : xs.length ≤ 1000) :
    Calls Try.prog 41 #[.slice A xs.length c] w fun e w' => ∃ v, e = .returned v ∧ w'.ownsRow w.heap.size 3 1 v xs.length (nums .i64 xs) ∧ Below w.heap.size w w' := by
  have HB := Aside0.mk (Below.refl w.heap.size w)
  have HR := Aside0.mk hr
  have HL := Aside0.mk hl
  clear hl
  cases A with
  | none =>
    have h0 : xs = [] := by
      rcases Nat.eq_zero_or_pos xs.length with h | h
      · exact List.eq_nil_of_length_eq_zero h
      · obtain ⟨ad, h, _⟩ := hr.2.2 h; cases h
    subst h0
    clear hr HR
    have hu22 := Try.underlying22
    go_enter Try.func41, Try.ntmps41
    go_wp2
    go_ret
    exact ⟨_, rfl, own_nil _ _ _ _, HB.out⟩
  | some ad =>
    clear hr
    have hu22 := Try.underlying22
    go_enter Try.func41, Try.ntmps41
    go_wp2_with (first | ((with_reducible refine gate_dst (N := 7) rfl ?_); refine print_append_row (w0 := w) w.heap.size ?hg (.tmp 5) (.tmp 6) 22 3 .i64 8 ?ho ?ht ?hi ?hb (.slice (some ⟨w.heap.size, 0, none⟩) 0 0) [] xs (some ad) xs.length c ?hs ?hx ?HO ?HR ?HB ?hbase ?hl ?_; (case hg => rfl); (case ho => rfl); (case ht => exact hu22); (case hi => exact info3); (case hb => decide); (case hs => rfl); (case hx => rfl); (case HO => exact World.ownsRow_made w #[] 0 (Nat.le_refl _) (Nat.zero_le _) (by simp)); (case HR => exact HR.out.below (below_alloc (Below.refl _ _) _)); (case HB => exact below_alloc HB.out _); (case hbase => simp); (case hl => have h := HL.out; simp only [List.length_nil]; omega); intro v1 w1 ho1 hb1 hg1 _))
    go_ret
    exact ⟨_, rfl, by simpa using ho1, hb1⟩
/-! ### Vars, Globals, Array -/
def rowOut (xs : List Int) (w : World) (e : Ending) (w' : World) : Prop := ∃ v, e = .returned v ∧ w'.ownsRow w.heap.size 3 1 v xs.length (nums .i64 xs) ∧ Below w.heap.size w w'
set_option maxHeartbeats 2000000 in
theorem globals_calls (w : World) {lo hi fl : Nat} {ph : Ph} {cs : List S49} {nA : Nat} {s : St} (H : MachIn w lo hi fl ph cs nA s) (hl : (s.row 0).length ≤ 1000) :
    Calls Try.prog 28 #[.pointer (some ⟨ph.bm, 0, none⟩)] w fun e w' => rowOut (s.row 0) w e w' := by
  obtain ⟨fp, hm, _⟩ := H.hm
  have hc5 : w.cell? ⟨ph.bm, 5, none⟩ = some (ph.rv 0) := (blk_cell hm 5).trans rfl
  obtain ⟨A, c, e, hR⟩ := own_reads (H.rows 0)
  rw [e] at hc5
  have HC := Aside0.mk (clone_calls w A c (s.row 0) hR hl)
  clear H hm hl hR
  go_enter Try.func28, Try.ntmps28
  go_wp2_with (go_at_call 41; refine HC.out.mono ?_; rintro e w1 ⟨v, rfl, ho, hb⟩)
  go_ret
  exact ⟨_, rfl, ho, hb⟩
def varsOf (cs : List S49) (s : St) (i : Int) : List Int := if 0 ≤ i ∧ i < cs.length then s.row (4 + 2 * i.toNat) else []
set_option maxHeartbeats 2000000 in
theorem vars_calls (w : World) {lo hi fl : Nat} {ph : Ph} {cs : List S49} {nA : Nat} {s : St} (H : MachIn w lo hi fl ph cs nA s) (i : Int) (hl : (varsOf cs s i).length ≤ 1000) :
    Calls Try.prog 25 #[.pointer (some ⟨ph.bm, 0, none⟩), .int .i64 i] w fun e w' => rowOut (varsOf cs s i) w e w' := by
  have HT := Aside0.mk (thread_calls w H i)
  have HH := Aside0.mk H
  clear H
  unfold varsOf at hl ⊢
  by_cases c0 : 0 ≤ i ∧ i < cs.length
  · rw [if_pos c0] at hl ⊢
    simp only [thr, if_pos c0] at HT
    have HL := Aside0.mk hl
    clear hl
    go_enter Try.func25, Try.ntmps25
    go_wp2_with fail
    go_at_call 43
    refine HT.out.mono ?_
    rintro e w1 ⟨rfl, hb⟩
    have hth : w1.heap[ph.tb i.toNat]? = _ := below_read hb (HH.out.th i.toNat (by omega)).1
    have htc0 : w1.cell? ⟨ph.tb i.toNat, 0, none⟩ = some (ph.rv (4 + 2 * i.toNat)) := (blk_cell hth 0).trans rfl
    obtain ⟨A, c, e, hR⟩ := own_reads ((HH.out.below hb).rows (4 + 2 * i.toNat))
    rw [e] at htc0
    have HC := Aside0.mk (clone_calls w1 A c _ hR HL.out)
    have HB := Aside0.mk hb
    clear hth HT HH hb hR e HL
    go_wp2_with (go_at_call 41; refine HC.out.mono ?_; rintro e w2 ⟨v, rfl, ho, hb2⟩)
    go_ret
    exact ⟨_, rfl, ⟨ho.1, ho.2.imp id (fun ⟨g, cap, cur, h1, h2, h3⟩ => ⟨g, cap, cur, h1, Nat.le_trans HB.out.size h2, h3⟩)⟩, below_on HB.out hb2⟩
  · rw [if_neg c0] at hl ⊢
    simp only [thr, if_neg c0] at HT
    clear HH hl
    go_enter Try.func25, Try.ntmps25
    go_wp2_with fail
    go_at_call 43
    refine HT.out.mono ?_
    rintro e w1 ⟨rfl, hb⟩
    have HB := Aside0.mk hb
    clear HT hb
    go_wp2
    go_ret
    exact ⟨_, rfl, own_nil _ _ _ _, HB.out⟩
end
section
theorem MachIn.acell {w : World} {lo hi fl : Nat} {ph : Ph} {cs : List S49} {nA : Nat} {s : St} (H : MachIn w lo hi fl ph cs nA s) (i : Int) (h0 : 0 ≤ i) (h1 : i < nA) :
    ∃ g c, ph.hA = .slice (some ⟨g, 0, none⟩) nA c ∧ nA ≤ c ∧ w.cell? ⟨g, i.toNat, none⟩ = some (ph.rv (3 + 2 * i.toNat)) := by
  obtain ⟨g, c, e, hc, hx, _⟩ := own_cell H.hA i.toNat (by omega)
  refine ⟨g, c, e, hc, ?_⟩
  have : i.toNat < nA := by omega
  rw [hx]; simp [this]
def arrOf (nA : Nat) (s : St) (i : Int) : List Int := if 0 ≤ i ∧ i < nA then s.row (3 + 2 * i.toNat) else []
set_option maxHeartbeats 2000000 in
theorem array_calls (w : World) {lo hi fl : Nat} {ph : Ph} {cs : List S49} {nA : Nat} {s : St} (H : MachIn w lo hi fl ph cs nA s) (i : Int) (hl : (arrOf nA s i).length ≤ 1000) :
    Calls Try.prog 32 #[.pointer (some ⟨ph.bm, 0, none⟩), .int .i64 i] w fun e w' => rowOut (arrOf nA s i) w e w' := by
  obtain ⟨fp, hm, _⟩ := H.hm
  have hc6 : w.cell? ⟨ph.bm, 6, none⟩ = some ph.hA := (blk_cell hm 6).trans rfl
  have HB := Aside0.mk (Below.refl w.heap.size w)
  unfold arrOf at hl ⊢
  by_cases c0 : 0 ≤ i ∧ i < nA
  · rw [if_pos c0] at hl ⊢
    obtain ⟨h0, h1⟩ := c0
    obtain ⟨g, c, e, hn, hcell⟩ := H.acell i h0 h1
    rw [e] at hc6
    obtain ⟨A, c', e', hR⟩ := own_reads (H.rows (3 + 2 * i.toNat))
    rw [e'] at hcell
    have HC := Aside0.mk (clone_calls w A c' _ hR hl)
    clear H hm hl hR e e'
    go_enter Try.func32, Try.ntmps32
    go_wp2_with (go_at_call 41; refine HC.out.mono ?_; rintro e w1 ⟨v, rfl, ho, hb⟩)
    go_ret
    exact ⟨_, rfl, ho, hb⟩
  · rw [if_neg c0] at hl ⊢
    obtain ⟨A, c, e⟩ := own_slice H.hA
    rw [e] at hc6
    clear H hm hl e
    by_cases h0 : 0 ≤ i
    · have h1 : ¬ i < nA := fun h => c0 ⟨h0, h⟩
      clear c0
      go_enter Try.func32, Try.ntmps32
      go_wp2
      go_ret
      exact ⟨_, rfl, own_nil _ _ _ _, HB.out⟩
    · clear c0
      go_enter Try.func32, Try.ntmps32
      go_wp2
      go_ret
      exact ⟨_, rfl, own_nil _ _ _ _, HB.out⟩
/-! ### elem -/
set_option maxHeartbeats 2000000 in
theorem elem_in (w : World) {lo hi fl : Nat} {ph : Ph} {cs : List S49} {nA : Nat} {s : St} (H : MachIn w lo hi fl ph cs nA s) (g i : Int) (g0 : 0 ≤ g) (g1 : g < nA) (h0 : 0 ≤ i) (h1 : i < (s.row (3 + 2 * g.toNat)).length) :
    Calls Try.prog 64 #[.pointer (some ⟨ph.bm, 0, none⟩), .int .i64 g, .int .i64 i] w fun e w' => (∃ b c, ph.rv (3 + 2 * g.toNat) = .slice (some ⟨b, 0, none⟩) (s.row (3 + 2 * g.toNat)).length c ∧ e = .returned (.pointer (some ⟨b, i.toNat, none⟩))) ∧ Below w.heap.size w w' := by
  obtain ⟨fp, hm, _⟩ := H.hm
  have hc6 : w.cell? ⟨ph.bm, 6, none⟩ = some ph.hA := (blk_cell hm 6).trans rfl
  have HB := Aside0.mk (Below.refl w.heap.size w)
  obtain ⟨gh, c, e, hn, hcell⟩ := H.acell g g0 g1
  rw [e] at hc6
  obtain ⟨b, c', e', hl, _⟩ := own_int (H.rows (3 + 2 * g.toNat)) i h0 h1
  rw [e'] at hcell
  have HE := Aside0.mk e'
  clear H hm e e'
  go_enter Try.func64, Try.ntmps64
  go_wp2
  go_ret
  exact ⟨⟨b, c', HE.out, rfl⟩, HB.out⟩
set_option maxHeartbeats 2000000 in
theorem elem_out (w : World) {lo hi fl : Nat} {ph : Ph} {cs : List S49} {nA : Nat} {s : St} (H : MachIn w lo hi fl ph cs nA s) (g i : Int) (g0 : 0 ≤ g) (g1 : g < nA) (h : ¬ (0 ≤ i ∧ i < (s.row (3 + 2 * g.toNat)).length)) :
    Calls Try.prog 64 #[.pointer (some ⟨ph.bm, 0, none⟩), .int .i64 g, .int .i64 i] w fun e w' => e = .returned (.pointer none) ∧ Below w.heap.size w w' := by
  obtain ⟨fp, hm, _⟩ := H.hm
  have hc6 : w.cell? ⟨ph.bm, 6, none⟩ = some ph.hA := (blk_cell hm 6).trans rfl
  have HB := Aside0.mk (Below.refl w.heap.size w)
  obtain ⟨gh, c, e, hn, hcell⟩ := H.acell g g0 g1
  rw [e] at hc6
  obtain ⟨A, c', e'⟩ := own_slice (H.rows (3 + 2 * g.toNat))
  rw [e'] at hcell
  clear H hm e e'
  by_cases h0 : 0 ≤ i
  · have h1 : ¬ i < (s.row (3 + 2 * g.toNat)).length := fun h' => h ⟨h0, h'⟩
    clear h
    go_enter Try.func64, Try.ntmps64
    go_wp2
    go_ret
    exact ⟨rfl, HB.out⟩
  · clear h
    go_enter Try.func64, Try.ntmps64
    go_wp2
    go_ret
    exact ⟨rfl, HB.out⟩
/-! ### Fault -/
def badV : Option (Int × Int × Int) → Value
  | none => .tuple #[.agg #[.int .i64 0, .int .i64 0, .int .i64 0], .bool false]
  | some f => .tuple #[.agg #[.int .i64 f.1, .int .i64 f.2.1, .int .i64 f.2.2], .bool true]
def f52 (a b c : Int) : Array Value := #[.int .i64 a, .int .i64 b, .int .i64 c]
theorem f52_one (a b c : Int) : ∀ q ∈ (f52 a b c).toList, q.oneCell' = true := by
  intro q hq
  simp only [f52, List.mem_cons, List.not_mem_nil, or_false] at hq
  rcases hq with rfl | rfl | rfl <;> rfl
set_option maxHeartbeats 2000000 in
theorem fault_calls (w : World) {lo hi fl : Nat} {ph : Ph} {cs : List S49} {nA : Nat} {s : St} (H : MachIn w lo hi fl ph cs nA s) :
    Calls Try.prog 27 #[.pointer (some ⟨ph.bm, 0, none⟩)] w fun e w' => e = .returned (badV s.bad) ∧ Below w.heap.size w w' := by
  obtain ⟨fp, hm, hf⟩ := H.hm
  have BW := Aside0.mk (Below.refl w.heap.size w)
  have hR := heap_alloc_new w (.cells (f52 0 0 0) 52)
  have HB2 := Aside0.mk (below_alloc (Below.refl w.heap.size w) (.cells (f52 0 0 0) 52))
  have hsz : w.heap.size ≤ (w.alloc (.cells (f52 0 0 0) 52)).heap.size := HB2.out.size
  have hc8 : w.cell? ⟨ph.bm, 8, none⟩ = some fp := (blk_cell hm 8).trans rfl
  have hc8' := pw_cell_below HB2.out hc8
  have hm2 := below_read HB2.out hm
  simp only [f52] at hR HB2 hsz hc8'
  cases hs : s.bad with
  | none =>
    rw [hs] at hf
    obtain rfl : fp = _ := hf
    clear H hm hs hm2
    go_enter Try.func27, Try.ntmps27
    go_wp2_with (first | ((with_reducible refine gate_store (t := 52) (p := 2) rfl ?_); refine put_row ?hg ?hn 52 (.tmp 2) (.tmp 13) ?ho w.heap.size 52 _ (f52 0 0 0) ?hp ?hx ?hu hR ?ht ?hs ?h1 ?_; (case hg => rfl); (case hn => rfl); (case ho => rfl); (case hp => rfl); (case hx => rfl); (case hu => rfl); (case ht => kernel_rfl); (case hs => rfl); (case h1 => exact f52_one _ _ _); intro w2 hR2 hG))
    refine bodyPost_ret (results_ct rfl _ _ w.heap.size 52 _ (0, 0) _ rfl hR2 Try.underlying52 rfl (by kernel_rfl)) rfl ?_
    exact ⟨rfl, HB2.out.grown hG hsz (fun k hk => by injection hk with hk; omega)⟩
  | some f =>
    rw [hs] at hf
    obtain ⟨b, rfl, _, hb⟩ := hf
    have hb2 := below_read HB2.out hb
    have hf0 := (blk_cell hb2 0).trans rfl
    have hf1 := (blk_cell hb2 1).trans rfl
    have hf2 := (blk_cell hb2 2).trans rfl
    clear H hm hs hm2 hb hb2
    go_enter Try.func27, Try.ntmps27
    go_wp2_with (first | ((with_reducible refine gate_store (t := 52) (p := 2) rfl ?_); refine put_row ?hg ?hn 52 (.tmp 2) (.tmp 19) ?ho w.heap.size 52 _ (f52 f.1 f.2.1 f.2.2) ?hp ?hx ?hu hR ?ht ?hs ?h1 ?_; (case hg => rfl); (case hn => rfl); (case ho => rfl); (case hp => rfl); (case hx => rfl); (case hu => rfl); (case ht => kernel_rfl); (case hs => rfl); (case h1 => exact f52_one _ _ _); intro w2 hR2 hG))
    refine bodyPost_ret (results_ct rfl _ _ w.heap.size 52 _ (0, 0) _ rfl hR2 Try.underlying52 rfl (by kernel_rfl)) rfl ?_
    exact ⟨rfl, HB2.out.grown hG hsz (fun k hk => by injection hk with hk; omega)⟩
end
section
/-- The first index at which p holds; -1. -/
def IdxOf {α : Type} (p : α → Bool) (xs : List α) (e : Ending) : Prop := ∃ n : Int, e = .returned (.int .i64 n) ∧ decide (n ≥ 0) = xs.any p
theorem any_pos {α : Type} (p : α → Bool) (xs : List α) (i : Nat) (h : i < xs.length) (hp : p xs[i] = true) : xs.any p = true := List.any_eq_true.2 ⟨xs[i], List.getElem_mem h, hp⟩
theorem any_neg {α : Type} (p : α → Bool) (xs : List α) (hp : ∀ j, (h : j < xs.length) → p xs[j] = false) : xs.any p = false := by
  rw [List.any_eq_false]
  intro x hx
  obtain ⟨j, hj, rfl⟩ := List.mem_iff_getElem.1 hx
  rw [hp j hj]; simp
def AskI (p : Int → Bool) (g : Nat) (lb : Array Value) (xs : List Int) (w : World) : Prop := ∀ W x, x ∈ xs → Below w.heap.size w W → Calls Try.prog g (#[.int .i64 x] ++ lb) W fun e w' => e = .returned (.bool (p x)) ∧ Below W.heap.size W w'
def AskC (p : S49 → Bool) (g : Nat) (lb : Array Value) (xs : List S49) (w : World) : Prop := ∀ W x A c, x ∈ xs → Below w.heap.size w W → x.f1.length ≤ c → k33.C W A x.f1.length x.f1 → Calls Try.prog g (#[.agg #[.int .i64 x.f0, .slice A x.f1.length c]] ++ lb) W fun e w' => e = .returned (.bool (p x)) ∧ Below W.heap.size W w'
def AskA (p : S33 → Bool) (g : Nat) (lb : Array Value) (xs : List S33) (w : World) : Prop := ∀ W x, x ∈ xs → Below w.heap.size w W → Calls Try.prog g (#[.agg #[.int .i64 x.f0, .int .i64 x.f1, .int .i64 x.f2, .int .i64 x.f3, .int .i64 x.f4, .int .i64 x.f5, .int .i64 x.f6, .int .i64 x.f7, .int .i64 x.f8]] ++ lb) W fun e w' => e = .returned (.bool (p x)) ∧ Below W.heap.size W w'
set_option maxHeartbeats 2000000 in
set_option maxRecDepth 100000 in
theorem idx69 (p : Int → Bool) (g : Nat) (lb : Array Value) (eg : ∀ args w, (callFunc g args).run Try.prog w = .ok (.enter g args) w) (xs : List Int) (A : Option Addr) (c : Nat) (w : World) (hC : Kd.C (Kd.int .i64) w A xs.length xs) (hp : AskI p g lb xs w) :
    Calls Try.prog 69 #[.slice A xs.length c, .func (.func g) #[] lb] w fun e w' => IdxOf p xs e ∧ Below w.heap.size w w' := by
  have HC := Aside0.mk hC
  have HP := Aside0.mk hp
  have hm : xs.length ≤ 9223372036854775807 := hC.2.1
  clear hC hp
  go_enter Try.func69, Try.ntmps69
  go_wp2
  go_loopg [5, 8] xs.length (fun gg _ s8 wr => ∃ kk : Nat, kk ≤ xs.length ∧ xs.length - kk ≤ gg ∧ s8 = .int .i64 kk ∧ Aside0 (Below w.heap.size w wr) ∧ Aside0 (∀ j, (h : j < xs.length) → j < kk → p xs[j] = false))
  case atStart => exact ⟨0, Nat.zero_le _, by omega, rfl, ⟨Below.refl _ w⟩, ⟨fun j _ hj => absurd hj (Nat.not_lt_zero _)⟩⟩
  case round =>
    obtain ⟨kk, hkk, hg, rfl, BW, NN⟩ := hrel
    by_cases hlt : kk < xs.length
    · have hltz : (kk : Int) < (xs.length : Int) := by omega
      obtain ⟨ad, rfl, hcell⟩ := Kd.at_int (Kd.C_below HC.out BW.out) (kk : Int) (by omega) hltz
      have hr : rd xs (kk : Int) = xs[kk] := by simp [rd, hlt]
      rw [hr, Int.toNat_natCast] at hcell
      have hcall := HP.out wr xs[kk] (List.getElem_mem hlt) BW.out
      have HL := Aside0.mk hlt
      have HY := Aside0.mk (any_pos p xs kk hlt)
      have HE : Aside0 (∀ v, p xs[kk] = v → ∀ j, (h : j < xs.length) → j < kk + 1 → v = false → p xs[j] = false) := ⟨fun v hv j h hj hf => by
        by_cases e : j = kk
        · subst e; rw [hv]; exact hf
        · exact NN.out j h (by omega)⟩
      clear hr NN
      generalize xs[kk] = y at hcell hcall HY HE
      cases hq : p y with
      | true =>
        have HQ := Aside0.mk (HY.out hq)
        rw [hq] at hcall
        clear hq HE HY
        go_wp2_with fail
        refine hcall.mono ?_
        rintro e w' ⟨rfl, hb'⟩
        clear hcall eg hcell hltz hlt
        go_wp2
        go_ret
        exact ⟨⟨kk, rfl, by rw [HQ.out]; simp⟩, below_on BW.out hb'⟩
      | false =>
        have HQ := Aside0.mk (fun j h hj => HE.out false hq j h hj rfl)
        rw [hq] at hcall
        clear hq HE HY
        go_wp2_with fail
        refine hcall.mono ?_
        rintro e w' ⟨rfl, hb'⟩
        clear hcall eg hcell hltz
        go_wp2
        go_roundg (xs.length - (kk + 1))
        case measure => omega
        case rel => exact ⟨kk + 1, by omega, by omega, by go_num, ⟨below_on BW.out hb'⟩, HQ⟩
    · have hltz : ¬ (kk : Int) < (xs.length : Int) := by omega
      have hke : kk = xs.length := by omega
      have HQ := Aside0.mk (any_neg p xs (fun j h => NN.out j h (by omega)))
      clear hke
      go_wp2
      go_ret
      exact ⟨⟨-1, rfl, by rw [HQ.out]; simp⟩, BW.out⟩
theorem has57 (p : Int → Bool) (g : Nat) (lb : Array Value) (eg : ∀ args w, (callFunc g args).run Try.prog w = .ok (.enter g args) w) (xs : List Int) (A : Option Addr) (c : Nat) (w : World) (hC : Kd.C (Kd.int .i64) w A xs.length xs) (hp : AskI p g lb xs w) :
    Calls Try.prog 57 #[.slice A xs.length c, .func (.func g) #[] lb] w fun e w' => e = .returned (.bool (xs.any p)) ∧ Below w.heap.size w w' := by
  have HC := Aside0.mk hC
  have HP := Aside0.mk hp
  clear hC hp
  go_enter Try.func57, Try.ntmps57
  go_wp2_with (go_at_call 69; refine (idx69 p g lb eg xs A c _ HC.out HP.out).mono ?_; rintro e w' ⟨⟨n, rfl, hn⟩, hb'⟩; have HN := Aside0.mk hn; clear hn)
  go_ret
  exact ⟨by rw [← HN.out]; rfl, hb'⟩
set_option maxHeartbeats 2000000 in
set_option maxRecDepth 100000 in
theorem idx76 (p : S33 → Bool) (g : Nat) (lb : Array Value) (eg : ∀ args w, (callFunc g args).run Try.prog w = .ok (.enter g args) w) (xs : List S33) (A : Option Addr) (c : Nat) (w : World) (hC : Kd.C k33 w A xs.length xs) (hp : AskA p g lb xs w) :
    Calls Try.prog 76 #[.slice A xs.length c, .func (.func g) #[] lb] w fun e w' => IdxOf p xs e ∧ Below w.heap.size w w' := by
  have HC := Aside0.mk hC
  have HP := Aside0.mk hp
  have hm : xs.length ≤ 9223372036854775807 := hC.2.1
  clear hC hp
  go_enter Try.func76, Try.ntmps76
  go_wp2
  go_loopg [5, 8] xs.length (fun gg _ s8 wr => ∃ kk : Nat, kk ≤ xs.length ∧ xs.length - kk ≤ gg ∧ s8 = .int .i64 kk ∧ Aside0 (Below w.heap.size w wr) ∧ Aside0 (∀ j, (h : j < xs.length) → j < kk → p xs[j] = false))
  case atStart => exact ⟨0, Nat.zero_le _, by omega, rfl, ⟨Below.refl _ w⟩, ⟨fun j _ hj => absurd hj (Nat.not_lt_zero _)⟩⟩
  case round =>
    obtain ⟨kk, hkk, hg, rfl, BW, NN⟩ := hrel
    by_cases hlt : kk < xs.length
    · have hltz : (kk : Int) < (xs.length : Int) := by omega
      obtain ⟨ad, rfl, hcell, hc1, hc2, hc3, hc4, hc5, hc6, hc7, hc8⟩ := at_T33 (Kd.C_below HC.out BW.out) (kk : Int) (by omega) hltz
      have hr : rd_T33 xs (kk : Int) = xs[kk] := by simp [rd_T33, hlt]
      rw [hr, Int.toNat_natCast] at hcell hc1 hc2 hc3 hc4 hc5 hc6 hc7 hc8
      have hcall := HP.out wr xs[kk] (List.getElem_mem hlt) BW.out
      have HL := Aside0.mk hlt
      have HY := Aside0.mk (any_pos p xs kk hlt)
      have HE : Aside0 (∀ v, p xs[kk] = v → ∀ j, (h : j < xs.length) → j < kk + 1 → v = false → p xs[j] = false) := ⟨fun v hv j h hj hf => by
        by_cases e : j = kk
        · subst e; rw [hv]; exact hf
        · exact NN.out j h (by omega)⟩
      clear hr NN
      generalize xs[kk] = y at hcell hc1 hc2 hc3 hc4 hc5 hc6 hc7 hc8 hcall HY HE
      cases hq : p y with
      | true =>
        have HQ := Aside0.mk (HY.out hq)
        rw [hq] at hcall
        clear hq HE HY
        go_wp2_with fail
        refine hcall.mono ?_
        rintro e w' ⟨rfl, hb'⟩
        clear hcall eg hcell hc1 hc2 hc3 hc4 hc5 hc6 hc7 hc8 hltz hlt
        go_wp2
        go_ret
        exact ⟨⟨kk, rfl, by rw [HQ.out]; simp⟩, below_on BW.out hb'⟩
      | false =>
        have HQ := Aside0.mk (fun j h hj => HE.out false hq j h hj rfl)
        rw [hq] at hcall
        clear hq HE HY
        go_wp2_with fail
        refine hcall.mono ?_
        rintro e w' ⟨rfl, hb'⟩
        clear hcall eg hcell hc1 hc2 hc3 hc4 hc5 hc6 hc7 hc8 hltz
        go_wp2
        go_roundg (xs.length - (kk + 1))
        case measure => omega
        case rel => exact ⟨kk + 1, by omega, by omega, by go_num, ⟨below_on BW.out hb'⟩, HQ⟩
    · have hltz : ¬ (kk : Int) < (xs.length : Int) := by omega
      have hke : kk = xs.length := by omega
      have HQ := Aside0.mk (any_neg p xs (fun j h => NN.out j h (by omega)))
      clear hke
      go_wp2
      go_ret
      exact ⟨⟨-1, rfl, by rw [HQ.out]; simp⟩, BW.out⟩
theorem has71 (p : S33 → Bool) (g : Nat) (lb : Array Value) (eg : ∀ args w, (callFunc g args).run Try.prog w = .ok (.enter g args) w) (xs : List S33) (A : Option Addr) (c : Nat) (w : World) (hC : Kd.C k33 w A xs.length xs) (hp : AskA p g lb xs w) :
    Calls Try.prog 71 #[.slice A xs.length c, .func (.func g) #[] lb] w fun e w' => e = .returned (.bool (xs.any p)) ∧ Below w.heap.size w w' := by
  have HC := Aside0.mk hC
  have HP := Aside0.mk hp
  clear hC hp
  go_enter Try.func71, Try.ntmps71
  go_wp2_with (go_at_call 76; refine (idx76 p g lb eg xs A c _ HC.out HP.out).mono ?_; rintro e w' ⟨⟨n, rfl, hn⟩, hb'⟩; have HN := Aside0.mk hn; clear hn)
  go_ret
  exact ⟨by rw [← HN.out]; rfl, hb'⟩
set_option maxHeartbeats 2000000 in
set_option maxRecDepth 100000 in
theorem idx70 (p : S49 → Bool) (g : Nat) (lb : Array Value) (eg : ∀ args w, (callFunc g args).run Try.prog w = .ok (.enter g args) w) (xs : List S49) (A : Option Addr) (c : Nat) (w : World) (hC : Kd.C k49 w A xs.length xs) (hp : AskC p g lb xs w) :
    Calls Try.prog 70 #[.slice A xs.length c, .func (.func g) #[] lb] w fun e w' => IdxOf p xs e ∧ Below w.heap.size w w' := by
  have HC := Aside0.mk hC
  have HP := Aside0.mk hp
  have hm : xs.length ≤ 9223372036854775807 := hC.2.1
  clear hC hp
  go_enter Try.func70, Try.ntmps70
  go_wp2
  go_loopg [5, 8] xs.length (fun gg _ s8 wr => ∃ kk : Nat, kk ≤ xs.length ∧ xs.length - kk ≤ gg ∧ s8 = .int .i64 kk ∧ Aside0 (Below w.heap.size w wr) ∧ Aside0 (∀ j, (h : j < xs.length) → j < kk → p xs[j] = false))
  case atStart => exact ⟨0, Nat.zero_le _, by omega, rfl, ⟨Below.refl _ w⟩, ⟨fun j _ hj => absurd hj (Nat.not_lt_zero _)⟩⟩
  case round =>
    obtain ⟨kk, hkk, hg, rfl, BW, NN⟩ := hrel
    by_cases hlt : kk < xs.length
    · have hltz : (kk : Int) < (xs.length : Int) := by omega
      obtain ⟨ad, A1, c1, rfl, hcell, hc1, hl1, hk1⟩ := at_T49 (Kd.C_below HC.out BW.out) (kk : Int) (by omega) hltz
      have hr : rd_T49 xs (kk : Int) = xs[kk] := by simp [rd_T49, hlt]
      rw [hr, Int.toNat_natCast] at hcell hc1; rw [hr] at hl1 hk1
      have hcall := HP.out wr xs[kk] A1 c1 (List.getElem_mem hlt) BW.out hl1 hk1
      clear hl1 hk1
      have HL := Aside0.mk hlt
      have HY := Aside0.mk (any_pos p xs kk hlt)
      have HE : Aside0 (∀ v, p xs[kk] = v → ∀ j, (h : j < xs.length) → j < kk + 1 → v = false → p xs[j] = false) := ⟨fun v hv j h hj hf => by
        by_cases e : j = kk
        · subst e; rw [hv]; exact hf
        · exact NN.out j h (by omega)⟩
      clear hr NN
      generalize xs[kk] = y at hcell hc1 hcall HY HE
      cases hq : p y with
      | true =>
        have HQ := Aside0.mk (HY.out hq)
        rw [hq] at hcall
        clear hq HE HY
        go_wp2_with fail
        refine hcall.mono ?_
        rintro e w' ⟨rfl, hb'⟩
        clear hcall eg hcell hc1 hltz hlt
        go_wp2
        go_ret
        exact ⟨⟨kk, rfl, by rw [HQ.out]; simp⟩, below_on BW.out hb'⟩
      | false =>
        have HQ := Aside0.mk (fun j h hj => HE.out false hq j h hj rfl)
        rw [hq] at hcall
        clear hq HE HY
        go_wp2_with fail
        refine hcall.mono ?_
        rintro e w' ⟨rfl, hb'⟩
        clear hcall eg hcell hc1 hltz
        go_wp2
        go_roundg (xs.length - (kk + 1))
        case measure => omega
        case rel => exact ⟨kk + 1, by omega, by omega, by go_num, ⟨below_on BW.out hb'⟩, HQ⟩
    · have hltz : ¬ (kk : Int) < (xs.length : Int) := by omega
      have hke : kk = xs.length := by omega
      have HQ := Aside0.mk (any_neg p xs (fun j h => NN.out j h (by omega)))
      clear hke
      go_wp2
      go_ret
      exact ⟨⟨-1, rfl, by rw [HQ.out]; simp⟩, BW.out⟩
theorem has59 (p : S49 → Bool) (g : Nat) (lb : Array Value) (eg : ∀ args w, (callFunc g args).run Try.prog w = .ok (.enter g args) w) (xs : List S49) (A : Option Addr) (c : Nat) (w : World) (hC : Kd.C k49 w A xs.length xs) (hp : AskC p g lb xs w) :
    Calls Try.prog 59 #[.slice A xs.length c, .func (.func g) #[] lb] w fun e w' => e = .returned (.bool (xs.any p)) ∧ Below w.heap.size w w' := by
  have HC := Aside0.mk hC
  have HP := Aside0.mk hp
  clear hC hp
  go_enter Try.func59, Try.ntmps59
  go_wp2_with (go_at_call 70; refine (idx70 p g lb eg xs A c _ HC.out HP.out).mono ?_; rintro e w' ⟨⟨n, rfl, hn⟩, hb'⟩; have HN := Aside0.mk hn; clear hn)
  go_ret
  exact ⟨by rw [← HN.out]; rfl, hb'⟩
end
section
def fitsB (a : Int) : Bool := decide (-2147483648 ≤ a ∧ a ≤ 2147483647)
theorem fits1 (k : Nat) (a : Int) : num_Fits.f (k + 2) [a] = some (fitsB a) := by
  simp only [num_Fits.f, num_Fits.l0, List.length_cons, List.length_nil]
  by_cases h1 : a < -2147483648
  · simp [rd, h1, fitsB] <;> omega
  · by_cases h2 : a > 2147483647
    · simp [rd, h1, h2, fitsB] <;> omega
    · simp [rd, h1, h2, fitsB, wrap64] <;> omega
theorem fits2 (k : Nat) (a b : Int) : num_Fits.f (k + 3) [a, b] = some (fitsB a && fitsB b) := by
  simp only [num_Fits.f, num_Fits.l0, List.length_cons, List.length_nil]
  by_cases h1 : a < -2147483648
  · simp [rd, h1, fitsB] <;> omega
  · by_cases h2 : a > 2147483647
    · simp [rd, h1, h2, fitsB] <;> omega
    · by_cases h3 : b < -2147483648
      · simp [rd, h1, h2, h3, fitsB, wrap64] <;> omega
      · by_cases h4 : b > 2147483647
        · simp [rd, h1, h2, h3, h4, fitsB, wrap64] <;> omega
        · simp [rd, h1, h2, h3, h4, fitsB, wrap64] <;> omega
def opN (op x y : Int) : Int := if op = 1 then wrap64 (x + y) else if op = 2 then wrap64 (x - y) else if op = 3 then wrap64 (x * y) else if op = 4 then wrap64 (x.tdiv y) else x.tmod y
/-- num.Do: the number, the error. -/
def doP (op x y : Int) : Int × Int :=
  if (fitsB x && fitsB y) = true then
    (if op < 1 then (0, 1) else if op > 5 then (0, 1) else if op ≥ 4 ∧ y = 0 then (0, 8) else if fitsB (opN op x y) = true then (opN op x y, 0) else (0, 7))
  else (0, 1)
theorem do_ok (op x y : Int) : num_Do.f 9 op x y = some (doP op x y) := by
  rw [num_Do.f, show (9 : Nat) = 6 + 3 from rfl, fits2 6]
  simp only [Option.bind_some, num_Do.j0, num_Do.j1, fits1]
  unfold doP
  by_cases hf : (fitsB x && fitsB y) = true
  · rw [if_pos hf, if_pos hf]
    by_cases h1 : op < 1
    · simp [h1]
    · by_cases h5 : op > 5
      · simp [h1, h5]
      · by_cases hy : y = 0
        · obtain h | h | h | h | h : op = 1 ∨ op = 2 ∨ op = 3 ∨ op = 4 ∨ op = 5 := by omega
          all_goals (subst h; subst hy; simp [opN]; try (split <;> rfl))
        · obtain h | h | h | h | h : op = 1 ∨ op = 2 ∨ op = 3 ∨ op = 4 ∨ op = 5 := by omega
          all_goals (subst h; simp [opN, hy]; try (split <;> rfl))
  · rw [if_neg hf, if_neg hf]
    simp
end
section
def inB (n lo hi : Int) : Bool := decide (lo ≤ n ∧ n ≤ hi)
theorem in_ok (n lo hi : Int) : cfg_isIn.f n lo hi = some (inB n lo hi) := by
  unfold cfg_isIn.f inB
  by_cases h : n ≥ lo
  · have h' : lo ≤ n := h
    simp [h, h']
  · have h' : ¬ lo ≤ n := h
    simp [h, h']
theorem in_calls (n lo hi : Int) (w : World) : Calls Try.prog 56 #[.int .i64 n, .int .i64 lo, .int .i64 hi] w fun e w' => e = .returned (.bool (inB n lo hi)) ∧ Below w.heap.size w w' :=
  (cfg_isIn.calls n lo hi _ w (in_ok n lo hi)).mono fun e w' h => ⟨h.1, h.2.below⟩
set_option maxHeartbeats 2000000 in
theorem lit58 (n : Int) (w : World) : Calls Try.prog 58 #[.int .i64 n] w fun e w' => e = .returned (.bool (!inB n 1 16)) ∧ Below w.heap.size w w' := by
  have HC := Aside0.mk (in_calls n 1 16 w)
  go_enter Try.func58, Try.ntmps58
  go_wp2_with (go_at_call 56; refine HC.out.mono ?_; rintro e w1 ⟨rfl, hb⟩)
  go_ret
  exact ⟨rfl, hb⟩
set_option maxHeartbeats 2000000 in
theorem lit80 (n nv : Int) (v : Value) (g : Nat) (w : World) (hg : w.heap[g]? = some (.cells #[.int .i64 nv, v] 49 (0, 0))) (hw : wrap64 (nv - 1) = nv - 1) :
    Calls Try.prog 80 #[.int .i64 n, .pointer (some ⟨g, 0, none⟩)] w fun e w' => e = .returned (.bool (!inB n 0 (nv - 1))) ∧ Below w.heap.size w w' := by
  have HC := Aside0.mk (in_calls n 0 (wrap64 (nv - 1)) w)
  have HW := Aside0.mk hw
  have hc := (blk_cell hg 0).trans rfl
  clear hg hw
  go_enter Try.func80, Try.ntmps80
  go_wp2_with (go_at_call 56; refine HC.out.mono ?_; rintro e w1 ⟨rfl, hb⟩)
  go_ret
  exact ⟨by rw [HW.out]; rfl, hb⟩
end
section
attribute [local go_sem] Go.run_eql_slice_nil
set_option maxHeartbeats 4000000 in
set_option maxRecDepth 100000 in
theorem clone42 (w : World) (A : Option Addr) (c : Nat) (xs : List S33) (hr : k33.C w A xs.length xs) (hl : xs.length ≤ 1000) :
    Calls Try.prog 42 #[.slice A xs.length c] w fun e w' => ∃ v, e = .returned v ∧ k33.R 33 w' w.heap.size (fun _ => True) v xs ∧ Below w.heap.size w w' := by
  have HB := Aside0.mk (Below.refl w.heap.size w)
  have HR := Aside0.mk hr
  have HL := Aside0.mk hl
  clear hl
  cases A with
  | none =>
    have h0 : xs = [] := by
      rcases Nat.eq_zero_or_pos xs.length with h | h
      · exact List.eq_nil_of_length_eq_zero h
      · obtain ⟨ad, h, _⟩ := hr.2.2 h; cases h
    subst h0
    clear hr HR
    have hu47 := Try.underlying47
    go_enter Try.func42, Try.ntmps42
    go_wp2
    go_ret
    exact ⟨_, rfl, Kd.R_nil _ _ _ _ _, HB.out⟩
  | some ad =>
    clear hr
    have hu47 := Try.underlying47
    go_enter Try.func42, Try.ntmps42
    go_wp2_with (first | ((with_reducible refine gate_dst (N := 7) rfl ?_); refine Kd.R_append_rows k33 (Rr := k33.K (w.alloc (.cells #[] 33))) (w0 := w) w.heap.size ?hg (.tmp 5) (.tmp 6) 47 33 _ 72 ?ho ?ht info33 ?hz ?hs0 ?hb (.slice (some ⟨w.heap.size, 0, none⟩) 0 0) [] xs (some ad) xs.length c (fun _ => True) (fun k => k < w.heap.size) ?hs ?hx ?HO ?HR ?HKM ?hokp ?hfresh ?HB ?hbase ?hl ?_; (case hg => rfl); (case ho => rfl); (case ht => exact hu47); (case hz => rfl); (case hs0 => decide); (case hb => decide); (case hs => rfl); (case hx => rfl); (case HO => exact ⟨fun _ _ => trivial, [], World.ownsRow_made w #[] 0 (Nat.le_refl _) (Nat.zero_le _) (by simp), Reps.none _ _⟩); (case HR => exact Kd.C_below HR.out (below_alloc (Below.refl _ _) _)); (case HKM => intro x cs hk; rw [k33_open hk]; exact k33_mkM _ _ _ x); (case hokp => intro k hk; exact ⟨trivial, by simp only [Value.ownBlock, ne_eq, Option.some.injEq]; omega⟩); (case hfresh => exact fun _ _ => trivial); (case HB => exact below_alloc HB.out _); (case hbase => simp); (case hl => have h := HL.out; simp only [List.length_nil]; omega); intro v1 w1 ho1 hb1 hg1 _))
    go_ret
    exact ⟨_, rfl, by simpa using ho1, hb1⟩
end
end Go.Proofs.Ytikjamcemnbhbaa.Mr
