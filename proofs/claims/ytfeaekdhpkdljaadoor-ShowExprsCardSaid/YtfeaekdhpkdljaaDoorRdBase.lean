/- What the reader texts share: stores, loads, rows of one and two, footprints. -/
import Derived.Test.YtfeaekdhpkdljaaDoorShx0
namespace Go.Proofs.YtfeaekdhpkdljaaDoor.Rd
open Go.RowKit Go.Proofs.YtfeaekdhpkdljaaDoorW.PrintWords Go.Proofs.YtfeaekdhpkdljaaDoorW.PrintLast Go.Proofs.YtfeaekdhpkdljaaDoor.Sh
set_option linter.unusedVariables false
set_option linter.unusedSimpArgs false
theorem add_add_ (a : Addr) (m n : Nat) : (a.add m).add n = a.add (m + n) := by
  unfold Addr.add
  by_cases hm : m = 0 <;> by_cases hn : n = 0 <;> simp [hm, hn, Nat.add_assoc]
section
variable {P : Program} {ops : Array Oper} {rest : List Oper} {o : Oper} {a : Act} {Q : Exit → Act → World → Prop} {Kc : Act → World → Prop}
theorem lit_ev2 {W : World} {n : Nat} (hgd : o.guard = none) {N : Tmp} (_hd : o.dst = some N) {cs : Array Value} {t : TypeId}
    (hrun : (execOp a.eval o).run P W = .ok (.value (.slice (some ⟨W.heap.size, 0, none⟩) n n)) (W.alloc (.cells cs t (0, 0))))
    (h : ∀ g, g = W.heap.size → ∀ w1, w1.heap[g]? = some (.cells cs t (0, 0)) → Below W.heap.size W w1 → wpList P ops Q rest (a.put o.dst (.slice (some ⟨g, 0, none⟩) n n)) w1) : wpList P ops Q (o :: rest) a W :=
  Kd.event_run hgd hrun (h _ rfl _ (blk_new W _) (below_alloc (Below.refl _ _) _))
theorem lit_step {W : World} {n : Nat} (hw : Region.wanted o (yielded ops a.tmps) = true) {N : Tmp} (_hd : o.dst = some N) {cs : Array Value} {t : TypeId}
    (hrun : (execOp a.eval o).run P W = .ok (.value (.slice (some ⟨W.heap.size, 0, none⟩) n n)) (W.alloc (.cells cs t (0, 0))))
    (h : ∀ g, g = W.heap.size → ∀ w1, w1.heap[g]? = some (.cells cs t (0, 0)) → Below W.heap.size W w1 → Kc (a.put o.dst (.slice (some ⟨g, 0, none⟩) n n)) w1) : if Region.wanted o (yielded ops a.tmps) = true then Oper.wp P o a W Kc Q else Kc (a.put o.dst undef) W :=
  event_step hw hrun (h _ rfl _ (blk_new W _) (below_alloc (Below.refl _ _) _))
theorem load_any {W : World} (hgd : o.guard = none) (ty : TypeId) (x : Operand) (ho : o.op = .load ty x) (a0 : Addr) (hx : a.eval x = .pointer (some a0)) (cs : List Value) (d : TypeDesc)
    (hu : P.underlying ty = some d) (hd : (match d with | .struct _ | .array _ _ => true | _ => false) = true) (hi : (P.info? ty).map (·.size) = some cs.length)
    (hc : ∀ j v, cs[j]? = some v → W.cell? (a0.add j) = some v) (h : wpList P ops Q rest (a.put o.dst (.agg cs.toArray)) W) : wpList P ops Q (o :: rest) a W := by
  refine wpList_plain hgd fun K hK => ?_
  have hl : (loadCells a0 cs.length).run P W = .ok cs.toArray W := run_loadCells_list (P := P) W a0 cs hc
  have hv : (loadVar ty a0).run P W = .ok (.agg cs.toArray) W := by
    cases hq : P.info? ty with
    | none => simp [hq] at hi
    | some i =>
      have hs : i.size = cs.length := by simpa [hq] using hi
      have hagg : (isAgg ty).run P W = .ok true W := by
        unfold isAgg
        rw [Sem.run_bind, run_underlying hu W]
        cases d <;> simp_all
      simp [loadVar, Sem.run_bind, hagg, sizeOf, typeInfo, hq, hs, hl]
  unfold Oper.wp execOp
  simp only [ho, hx, Instr.loadAt, Instr.sureAddr, Sem.run_bind, Sem.run_pure, Result.andThen_ok, hv]
  exact hK _ _ h
theorem put_val {W : World} (hgd : o.guard = none) (hN : o.dst = none) (t : TypeId) (p x : Operand) (ho : o.op = .store t p x) (g : Nat) (e : TypeId) (cur seg : Array Value) (v : Value)
    (hp : a.eval p = .pointer (some ⟨g, 0, none⟩)) (hx : a.eval x = v) (hu : v.cells = seg) (hh : W.heap[g]? = some (.cells cur e (0, 0))) (ht : (P.info? t).map (·.size) = some seg.size)
    (hs : seg.size = cur.size) (h1 : ∀ q ∈ seg.toList, q.oneCell' = true)
    (h : ∀ w', w'.heap[g]? = some (.cells seg e (0, 0)) → W.grownBy w' (some g) → wpList P ops Q rest a w') : wpList P ops Q (o :: rest) a W := by
  refine wpList_plain hgd fun K hK => ?_
  have hrun : (Instr.storeAt t (.pointer (some ⟨g, 0, none⟩)) v).run P W = .ok () (W.setCells g 0 seg.toList) :=
    run_store_run t v seg.toList hh (by rw [hu]) (by rw [Array.length_toList]; exact ht) (by rw [Array.length_toList]; omega) h1
  unfold Oper.wp execOp
  simp only [ho, hp, hx, Sem.run_bind, Sem.run_pure, Result.andThen_ok, hrun]
  show K (a.put o.dst undef) _
  rw [hN]
  refine hK a _ (h _ ?_ ?_)
  · obtain ⟨cur', h3, h4, h5⟩ := setCells_row seg.toList 0 W cur hh (by rw [Array.length_toList]; omega)
    rw [h3]
    have : cur' = seg := by
      apply Array.toList_inj.1
      rw [h5]
      simp only [List.take_zero, List.nil_append, Nat.zero_add, Array.length_toList]
      rw [List.drop_eq_nil_of_le (by rw [Array.length_toList]; omega), List.append_nil]
    rw [this]
  · obtain ⟨s1, s2, s3, s4⟩ := setCells_same g seg.toList 0 W
    exact ⟨s1, s2, s3, by rw [s4]; exact Nat.le_refl _, fun k _ hk => setCells_far seg.toList 0 k (fun e => hk (by rw [e]))⟩
end
theorem below_read {w w' : World} {g : Nat} {o : Obj} (h : Below w.heap.size w w') (hg : w.heap[g]? = some o) : w'.heap[g]? = some o := (h.block g (blk_lt hg)).trans hg
theorem C_one {α : Type} (d : Kd α) (w : World) (g : Nat) (x : α) (cs : List Value) (t : TypeId) (hk : d.K w x cs) (hl : cs.length = d.sz) (h : w.heap[g]? = some (.cells cs.toArray t (0, 0))) : Kd.C d w (some ⟨g, 0, none⟩) 1 [x] := by
  refine ⟨rfl, by decide, fun _ => ⟨_, rfl, fun j p hp => ⟨cs, hl, ?_, fun i u hu => ?_⟩⟩⟩
  · have hj : j = 0 := by
      have := (List.getElem?_eq_some_iff.1 hp).1
      simp at this; omega
    subst hj
    have : x = p := by simpa using hp
    subst this
    exact hk
  · have hj : j = 0 := by
      have := (List.getElem?_eq_some_iff.1 hp).1
      simp at this; omega
    subst hj
    rw [add_plain]
    refine (blk_cell h _).trans ?_
    simpa using hu
theorem C_two {α : Type} (d : Kd α) (w : World) (g : Nat) (x y : α) (cs ds : List Value) (t : TypeId) (hk : d.K w x cs) (hl : cs.length = d.sz) (hk2 : d.K w y ds) (hl2 : ds.length = d.sz) (h : w.heap[g]? = some (.cells (cs ++ ds).toArray t (0, 0))) : Kd.C d w (some ⟨g, 0, none⟩) 2 [x, y] := by
  refine ⟨rfl, by decide, fun _ => ⟨_, rfl, fun j p hp => ?_⟩⟩
  have hj : j < 2 := (List.getElem?_eq_some_iff.1 hp).1
  rcases (by omega : j = 0 ∨ j = 1) with hj | hj <;> subst hj
  · have : x = p := by simpa using hp
    subst this
    refine ⟨cs, hl, hk, fun i u hu => ?_⟩
    rw [add_plain]
    refine (blk_cell h _).trans ?_
    have hi := (List.getElem?_eq_some_iff.1 hu).1
    simp only [Nat.zero_mul, Nat.zero_add, List.getElem?_toArray]
    rw [List.getElem?_append_left hi]
    exact hu
  · have : y = p := by simpa using hp
    subst this
    refine ⟨ds, hl2, hk2, fun i u hu => ?_⟩
    rw [add_plain]
    refine (blk_cell h _).trans ?_
    simp only [Nat.one_mul, List.getElem?_toArray]
    rw [← hl, List.getElem?_append_right (by omega)]
    simpa using hu
theorem F_one {α : Type} (d : Kd α) {W : World} {ok : Nat → Prop} {g : Nat} {x : α} {cs : List Value} {t : TypeId} (hk : Kd.FK d W ok x cs) (hl : cs.length = d.sz) (hb : W.heap[g]? = some (.cells cs.toArray t (0, 0))) : Kd.F d W (fun k => ok k ∨ k = g) (some ⟨g, 0, none⟩) 1 [x] :=
  fun W' hW => C_one d W' g x cs t (hk W' (fun k hk hlt => hW k (.inl hk) hlt)) hl ((hW g (.inr rfl) (blk_lt hb)).trans hb)
theorem typed_ne {w : World} {k b e t : Nat} {c1 c2 : Array Value} (h1 : w.heap[k]? = some (.cells c1 e (0, 0))) (h2 : w.heap[b]? = some (.cells c2 t (0, 0))) (he : e ≠ t) : k ≠ b := by
  intro hkb
  rw [hkb, h2] at h1
  injection h1 with h1
  injection h1 with _ h1 _
  exact he h1.symm
theorem FK_on {α : Type} {d : Kd α} {w w' : World} {ok : Nat → Prop} {x : α} {cs : List Value} (h : Kd.FK d w ok x cs) (hw : ∀ k, ok k → k < w.heap.size → w'.heap[k]? = w.heap[k]?) (hs : w.heap.size ≤ w'.heap.size) : Kd.FK d w' ok x cs :=
  fun W' hW => h W' (fun k hk hlt => (hW k hk (Nat.lt_of_lt_of_le hlt hs)).trans (hw k hk hlt))
theorem FK_bound {α : Type} {d : Kd α} {w : World} {ok : Nat → Prop} {x : α} {cs : List Value} (h : Kd.FK d w ok x cs) : Kd.FK d w (fun k => ok k ∧ k < w.heap.size) x cs := fun W' hW => h W' (fun k hk hlt => hW k ⟨hk, hlt⟩ hlt)
theorem FK_mono {α : Type} {d : Kd α} {w : World} {ok ok' : Nat → Prop} {x : α} {cs : List Value} (h : Kd.FK d w ok x cs) (hm : ∀ k, ok k → ok' k) : Kd.FK d w ok' x cs := fun W' hW => h W' (fun k hk hlt => hW k (hm k hk) hlt)
theorem F_nil {α : Type} (d : Kd α) (W : World) (ok : Nat → Prop) : Kd.F d W ok none 0 [] := fun W' _ => Kd.C_nil d W'
theorem F_two {α : Type} (d : Kd α) {W : World} {ok : Nat → Prop} {g : Nat} {x y : α} {cs ds : List Value} {t : TypeId} (hk : Kd.FK d W ok x cs) (hl : cs.length = d.sz) (hk2 : Kd.FK d W ok y ds) (hl2 : ds.length = d.sz) (hb : W.heap[g]? = some (.cells (cs ++ ds).toArray t (0, 0))) : Kd.F d W (fun k => ok k ∨ k = g) (some ⟨g, 0, none⟩) 2 [x, y] :=
  fun W' hW => C_two d W' g x y cs ds t (hk W' (fun k hk hlt => hW k (.inl hk) hlt)) hl (hk2 W' (fun k hk hlt => hW k (.inl hk) hlt)) hl2 ((hW g (.inr rfl) (blk_lt hb)).trans hb)
theorem grow_set (w : World) (b i : Nat) (u : Value) : w.grownBy (w.setCell ⟨b, i, none⟩ u) (some b) := by
  refine ⟨rfl, rfl, rfl, ?_, fun k hk hne => Below.heap_setCell _ _ _ _ (fun e => hne (by rw [e]))⟩
  show w.heap.size ≤ (w.setCell ⟨b, i, none⟩ u).heap.size
  simp [World.setCell]
theorem grow_trans {w1 w2 w3 : World} {r : Option Nat} (h : w1.grownBy w2 r) (k : w2.grownBy w3 r) : w1.grownBy w3 r :=
  ⟨k.os.trans h.os, k.tape.trans h.tape, k.output.trans h.output, Nat.le_trans h.size k.size, fun i hi hr => (k.block i (Nat.lt_of_lt_of_le hi h.size) hr).trans (h.block i hi hr)⟩
end Go.Proofs.YtfeaekdhpkdljaaDoor.Rd
