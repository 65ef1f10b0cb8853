/- The machine of the program in memory (MachIn), what may change (Chg), and the small methods of it: what they answer. -/
import Derived.Test.YtikjamcemnbhbaaMrx0
import Derived.Outline
namespace Go.Proofs.Ytikjamcemnbhbaa.Mr
open Go.RowKit Go.Proofs.YtikjamcemnbhbaaW.PrintWords Go.Proofs.YtikjamcemnbhbaaW.PrintLast Go.Proofs.YtikjamcemnbhbaaW.PrintMore
set_option linter.unusedVariables false
set_option linter.unusedSimpArgs false

theorem below_on {w W W2 : World} (h : Below w.heap.size w W) (k : Below W.heap.size W W2) : Below w.heap.size w W2 := below_then h h.size k
/-! ### what may change -/
/-- Of the blocks that were, only those from lo to below hi may have changed. -/
structure Chg (lo hi : Nat) (w w' : World) : Prop where
  os : w'.os = w.os
  tape : w'.tape = w.tape
  output : w'.output = w.output
  size : w.heap.size ≤ w'.heap.size
  block : ∀ k, k < w.heap.size → ¬ (lo ≤ k ∧ k < hi) → w'.heap[k]? = w.heap[k]?
theorem Chg.of_below {lo hi : Nat} {w w' : World} (h : Below w.heap.size w w') : Chg lo hi w w' := ⟨h.os, h.tape, h.output, h.size, fun k hk _ => h.block k hk⟩
theorem Chg.refl (lo hi : Nat) (w : World) : Chg lo hi w w := .of_below (Below.refl _ w)
theorem Chg.trans {lo hi : Nat} {w w1 w2 : World} (h : Chg lo hi w w1) (k : Chg lo hi w1 w2) : Chg lo hi w w2 :=
  ⟨k.os.trans h.os, k.tape.trans h.tape, k.output.trans h.output, Nat.le_trans h.size k.size, fun i hi' hn => (k.block i (Nat.lt_of_lt_of_le hi' h.size) hn).trans (h.block i hi' hn)⟩
theorem Chg.below {lo hi B : Nat} {w0 w w' : World} (h0 : Below B w0 w) (hB : B ≤ w.heap.size) (hlo : B ≤ lo) (h : Chg lo hi w w') : Below B w0 w' :=
  ⟨h.os.trans h0.os, h.tape.trans h0.tape, h.output.trans h0.output, Nat.le_trans h0.size h.size, fun k hk => (h.block k (Nat.lt_of_lt_of_le hk hB) (by omega)).trans (h0.block k hk)⟩
theorem Chg.of_grown {lo hi : Nat} {w w' : World} {row : Option Nat} (h : w.grownBy w' row) (hr : ∀ b, row = some b → lo ≤ b ∧ b < hi) : Chg lo hi w w' :=
  ⟨h.os, h.tape, h.output, h.size, fun k hk hn => h.block k hk (fun e => hn (hr k e.symm))⟩

/-! ### rows of anything -/
theorem own_cell {w : World} {base n : Nat} {e : TypeId} {v : Value} {xs : List Value} (h : w.ownsRow base e 1 v n xs) (i : Nat) (hi : i < n) :
    ∃ g c, v = .slice (some ⟨g, 0, none⟩) n c ∧ n ≤ c ∧ w.cell? ⟨g, i, none⟩ = xs[i]? ∧ w.frozen? ⟨g, i, none⟩ = false ∧ base ≤ g ∧ g < w.heap.size := by
  rcases h.2 with ⟨_, rfl⟩ | ⟨g, cap, cur, rfl, hb, hg, hc, _⟩
  · omega
  · exact ⟨g, cap, rfl, hc, h.cellAt i (by omega), h.frozenAt i, hb, (Array.getElem?_eq_some_iff.1 hg).1⟩
theorem own_int {w : World} {base : Nat} {v : Value} {xs : List Int} (h : w.ownsRow base 3 1 v xs.length (nums .i64 xs)) (i : Int) (h0 : 0 ≤ i) (h1 : i < xs.length) :
    ∃ g c, v = .slice (some ⟨g, 0, none⟩) xs.length c ∧ xs.length ≤ c ∧ w.cell? ⟨g, i.toNat, none⟩ = some (.int .i64 (rd xs i)) ∧ w.frozen? ⟨g, i.toNat, none⟩ = false ∧ base ≤ g ∧ g < w.heap.size := by
  obtain ⟨g, c, e, hc, hx, hf, hb, hl⟩ := own_cell h i.toNat (by omega)
  refine ⟨g, c, e, hc, ?_, hf, hb, hl⟩
  rw [hx]
  have : i.toNat < xs.length := by omega
  simp [nums, rd, this]

/-! ### a block of one's own is written whole -/
section
variable {P : Program} {ops : Array Oper} {rest : List Oper} {o : Oper} {a : Act} {Q : Exit → Act → World → Prop}
theorem put_row {W : World} (hgd : o.guard = none) (hN : o.dst = none) (t : TypeId) (p x : Operand) (ho : o.op = .store t p x) (g : Nat) (e : TypeId) (cur seg : Array Value)
    (hp : a.eval p = .pointer (some ⟨g, 0, none⟩)) (hx : a.eval x = .agg seg) (hu : (Value.agg seg).cells = seg) (hh : W.heap[g]? = some (.cells cur e (0, 0))) (ht : (P.info? t).map (·.size) = some seg.size)
    (hs : seg.size = cur.size) (h1 : ∀ q ∈ seg.toList, q.oneCell' = true)
    (h : ∀ w', w'.heap[g]? = some (.cells seg e (0, 0)) → W.grownBy w' (some g) → wpList P ops Q rest a w') : wpList P ops Q (o :: rest) a W := by
  refine wpList_plain hgd fun K hK => ?_
  have hrun : (Instr.storeAt t (.pointer (some ⟨g, 0, none⟩)) (.agg seg)).run P W = .ok () (W.setCells g 0 seg.toList) :=
    run_store_run t (.agg seg) seg.toList hh (by rw [hu]) (by rw [Array.length_toList]; exact ht) (by rw [Array.length_toList]; omega) h1
  unfold Oper.wp execOp
  simp only [ho, hp, hx, Sem.run_bind, Sem.run_pure, Result.andThen_ok, hrun]
  show K (a.put o.dst undef) _
  rw [hN]
  refine hK a _ (h _ ?_ ?_)
  · obtain ⟨cur', h3, h4, h5⟩ := setCells_row seg.toList 0 W cur hh (by rw [Array.length_toList]; omega)
    rw [h3]
    have : cur' = seg := by
      apply Array.toList_inj.1
      rw [h5]
      simp only [List.take_zero, List.nil_append, Nat.zero_add, Array.length_toList]
      rw [List.drop_eq_nil_of_le (by rw [Array.length_toList]; omega), List.append_nil]
    rw [this]
  · obtain ⟨s1, s2, s3, s4⟩ := setCells_same g seg.toList 0 W
    exact ⟨s1, s2, s3, by rw [s4]; exact Nat.le_refl _, fun k _ hk => setCells_far seg.toList 0 k (fun e => hk (by rw [e]))⟩
end

/-! ### the machine -/
structure St where
  row : Nat → List Int   -- 0 globals, 1 owners, 3 + 2 i arrays, 4 + 2 i variables
  pc : Nat → Int
  bad : Option (Int × Int × Int)
structure Ph where
  bm : Nat
  hT : Value
  hA : Value
  tb : Nat → Nat
  cv : Nat → Value
  rv : Nat → Value
def faulty (w : World) (fl : Nat) (fp : Value) : Option (Int × Int × Int) → Prop
  | none => fp = .pointer none
  | some f => ∃ b, fp = .pointer (some ⟨b, 0, none⟩) ∧ fl ≤ b ∧ w.heap[b]? = some (.cells #[.int .i64 f.1, .int .i64 f.2.1, .int .i64 f.2.2] 52 (0, 0))
structure MachIn (w : World) (lo hi fl : Nat) (ph : Ph) (cs : List S49) (nA : Nat) (s : St) : Prop where
  hm : ∃ fp, w.heap[ph.bm]? = some (.cells #[.slice none 0 0, .slice none 0 0, .int .i64 0, .slice none 0 0, ph.hT, ph.rv 0, ph.hA, ph.rv 1, fp] 79 (0, 0)) ∧ faulty w fl fp s.bad
  bm : lo ≤ ph.bm ∧ ph.bm < hi
  fh : hi ≤ fl
  hT : w.ownsRow lo 80 1 ph.hT cs.length ((List.range cs.length).map fun i => .pointer (some ⟨ph.tb i, 0, none⟩))
  hTl : ∀ b, ph.hT.ownBlock = some b → b < hi
  hA : w.ownsRow lo 22 1 ph.hA nA ((List.range nA).map fun i => ph.rv (3 + 2 * i))
  hAl : ∀ b, ph.hA.ownBlock = some b → b < hi
  th : ∀ i, (h : i < cs.length) → w.heap[ph.tb i]? = some (.cells #[ph.rv (4 + 2 * i), .int .i64 cs[i].f0, ph.cv i, .int .i64 (s.pc i)] 85 (0, 0)) ∧ lo ≤ ph.tb i ∧ ph.tb i < hi
  inj : ∀ i j, i < cs.length → j < cs.length → i ≠ j → ph.tb i ≠ ph.tb j
  code : ∀ i, (h : i < cs.length) → k33.R 33 w lo (fun k => k < hi) (ph.cv i) cs[i].f1
  rows : ∀ k, w.ownsRow lo 3 1 (ph.rv k) (s.row k).length (nums .i64 (s.row k))
  rlt : ∀ k b, (ph.rv k).ownBlock = some b → b < hi
  apart : ∀ i j, i ≠ j → (ph.rv i).ownBlock = none ∨ (ph.rv i).ownBlock ≠ (ph.rv j).ownBlock

theorem MachIn.move {w w' : World} {lo hi fl : Nat} {ph : Ph} {cs : List S49} {nA : Nat} {s : St} (H : MachIn w lo hi fl ph cs nA s)
    (hk : ∀ k, k < w.heap.size → (lo ≤ k ∧ k < hi) ∨ fl ≤ k → w'.heap[k]? = w.heap[k]?) : MachIn w' lo hi fl ph cs nA s := by
  have blk : ∀ {g : Nat} {o : Obj}, w.heap[g]? = some o → (lo ≤ g ∧ g < hi) ∨ fl ≤ g → w'.heap[g]? = some o := fun hg hb => (hk _ (blk_lt hg) hb).trans hg
  have own : ∀ {e : TypeId} {n : Nat} {v : Value} {xs : List Value}, w.ownsRow lo e 1 v n xs → (∀ b, v.ownBlock = some b → b < hi) → w'.ownsRow lo e 1 v n xs :=
    fun h hb => own_move h (fun k hv => hk k (h.lt k hv).2 (.inl ⟨(h.lt k hv).1, hb k hv⟩))
  refine ⟨?_, H.bm, H.fh, own H.hT H.hTl, H.hTl, own H.hA H.hAl, H.hAl, fun i h => ⟨blk (H.th i h).1 (.inl (H.th i h).2), (H.th i h).2⟩, H.inj, fun i h => ?_, fun k => own (H.rows k) (H.rlt k), H.rlt, H.apart⟩
  · obtain ⟨fp, h1, h2⟩ := H.hm
    refine ⟨fp, blk h1 (.inl H.bm), ?_⟩
    cases hs : s.bad with
    | none => rw [hs] at h2; exact h2
    | some f => rw [hs] at h2; obtain ⟨b, e, hb, hf⟩ := h2; exact ⟨b, e, hb, blk hf (.inr hb)⟩
  · exact Kd.R_mono (Kd.R_step (Kd.R_bound (H.code i h)) (fun k ho hl => hk k hl (.inl ⟨ho.2.1, ho.1⟩))) (fun k ho => ho.1)
theorem MachIn.below {w w' : World} {lo hi fl : Nat} {ph : Ph} {cs : List S49} {nA : Nat} {s : St} (H : MachIn w lo hi fl ph cs nA s) (h : Below w.heap.size w w') : MachIn w' lo hi fl ph cs nA s :=
  H.move fun k hk _ => h.block k hk
/-- Another one's changes. -/
theorem MachIn.other {w w' : World} {lo hi fl lo' hi' : Nat} {ph : Ph} {cs : List S49} {nA : Nat} {s : St} (H : MachIn w lo hi fl ph cs nA s) (h : Chg lo' hi' w w') (h1 : hi' ≤ lo ∨ hi ≤ lo') (h2 : hi' ≤ fl) : MachIn w' lo hi fl ph cs nA s :=
  H.move fun k hk hb => h.block k hk (by omega)

/-! ### get, set -/
set_option maxHeartbeats 2000000 in
theorem get_calls (g : Nat) (off : Nat) (v : Value) (xs : List Int) (i : Int) (base : Nat) (w : World) (hv : w.cell? ⟨g, off, none⟩ = some v) (ho : w.ownsRow base 3 1 v xs.length (nums .i64 xs)) (h0 : 0 ≤ i) (h1 : i < xs.length) :
    Calls Try.prog 47 #[.pointer (some ⟨g, off, none⟩), .int .i64 i] w fun e w' => e = .returned (.int .i64 (rd xs i)) ∧ w' = w := by
  obtain ⟨gv, c, rfl, hc, hcell, _, _, _⟩ := own_int ho i h0 h1
  clear ho
  go_enter Try.func47, Try.ntmps47
  go_wp2
  go_ret
  exact ⟨rfl, rfl⟩
set_option maxHeartbeats 2000000 in
theorem set_calls (g : Nat) (off : Nat) (v : Value) (xs : List Int) (i x : Int) (base : Nat) (w : World) (hv : w.cell? ⟨g, off, none⟩ = some v) (ho : w.ownsRow base 3 1 v xs.length (nums .i64 xs)) (h0 : 0 ≤ i) (h1 : i < xs.length) :
    Calls Try.prog 62 #[.pointer (some ⟨g, off, none⟩), .int .i64 i, .int .i64 x] w fun e w' => e = .returned (.tuple #[]) ∧ w'.ownsRow base 3 1 v xs.length (nums .i64 (xs.set i.toNat x)) ∧ w.grownBy w' v.ownBlock := by
  obtain ⟨gv, c, rfl, hc, hcell, hfz, _, _⟩ := own_int ho i h0 h1
  have HS := Aside0.mk (own_store ho i x)
  clear ho
  go_enter Try.func62, Try.ntmps62
  go_wp2
  go_end0
  exact ⟨rfl, HS.out⟩

/-! ### thread, Next -/
theorem MachIn.tcell {w : World} {lo hi fl : Nat} {ph : Ph} {cs : List S49} {nA : Nat} {s : St} (H : MachIn w lo hi fl ph cs nA s) (i : Int) (h0 : 0 ≤ i) (h1 : i < cs.length) :
    ∃ g c, ph.hT = .slice (some ⟨g, 0, none⟩) cs.length c ∧ cs.length ≤ c ∧ w.cell? ⟨g, i.toNat, none⟩ = some (.pointer (some ⟨ph.tb i.toNat, 0, none⟩)) := by
  obtain ⟨g, c, e, hc, hx, _⟩ := own_cell H.hT i.toNat (by omega)
  refine ⟨g, c, e, hc, ?_⟩
  have : i.toNat < cs.length := by omega
  rw [hx]; simp [this]
def thr (ph : Ph) (cs : List S49) (i : Int) : Value := if 0 ≤ i ∧ i < cs.length then .pointer (some ⟨ph.tb i.toNat, 0, none⟩) else .pointer none
set_option maxHeartbeats 2000000 in
theorem thread_calls (w : World) {lo hi fl : Nat} {ph : Ph} {cs : List S49} {nA : Nat} {s : St} (H : MachIn w lo hi fl ph cs nA s) (i : Int) :
    Calls Try.prog 43 #[.pointer (some ⟨ph.bm, 0, none⟩), .int .i64 i] w fun e w' => e = .returned (thr ph cs i) ∧ Below w.heap.size w w' := by
  obtain ⟨fp, hm, _⟩ := H.hm
  obtain ⟨A, c, hT⟩ := own_slice H.hT
  have hcell1 := (blk_cell hm 4).trans rfl
  have HB := Aside0.mk (Below.refl w.heap.size w)
  have HC := Aside0.mk (H.tcell i)
  clear H hm
  rw [hT] at hcell1 HC
  unfold thr
  by_cases c0 : 0 ≤ i
  · by_cases c1 : i < cs.length
    · obtain ⟨g, c', e, hc, hcell⟩ := HC.out c0 c1
      cases e
      clear HC
      rw [if_pos ⟨c0, c1⟩]
      go_enter Try.func43, Try.ntmps43
      go_wp2
      go_ret
      exact ⟨rfl, HB.out⟩
    · rw [if_neg (by omega)]
      clear HC
      go_enter Try.func43, Try.ntmps43
      go_wp2
      go_ret
      exact ⟨rfl, HB.out⟩
  · rw [if_neg (by omega)]
    clear HC
    go_enter Try.func43, Try.ntmps43
    go_wp2
    go_ret
    exact ⟨rfl, HB.out⟩
set_option maxHeartbeats 2000000 in
theorem thread_nil (w : World) (i : Int) :
    Calls Try.prog 43 #[.pointer none, .int .i64 i] w fun e w' => e = .returned (.pointer none) ∧ Below w.heap.size w w' := by
  have HB := Aside0.mk (Below.refl w.heap.size w)
  go_enter Try.func43, Try.ntmps43
  go_wp2
  go_ret
  exact ⟨rfl, HB.out⟩
end Go.Proofs.Ytikjamcemnbhbaa.Mr
