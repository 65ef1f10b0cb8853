/- ShowLines: a program (type 27) under construction in a block of the call's own. -/
import Derived.Test.YtfeaekdhpkdljaaDoorShCount
import Derived.Test.YtfeaekdhpkdljaaDoorShKnown
namespace Go.Proofs.YtfeaekdhpkdljaaDoor.Sh
open Go.RowKit Go.Proofs.YtfeaekdhpkdljaaDoorW.PrintWords Go.Proofs.YtfeaekdhpkdljaaDoorW.PrintLast
set_option linter.unusedVariables false
theorem F_one {α : Type} (d : Kd α) {W : World} {ok : Nat → Prop} {g : Nat} {x : α} {cs : List Value} {t : TypeId} (hk : Kd.FK d W ok x cs) (hl : cs.length = d.sz) (hb : W.heap[g]? = some (.cells cs.toArray t (0, 0))) : Kd.F d W (fun k => ok k ∨ k = g) (some ⟨g, 0, none⟩) 1 [x] :=
  fun W' hW => C_one d W' g x cs t (hk W' (fun k hk hlt => hW k (.inl hk) hlt)) hl ((hW g (.inr rfl) (blk_lt hb)).trans hb)
theorem typed_ne {w : World} {k b e t : Nat} {c1 c2 : Array Value} (h1 : w.heap[k]? = some (.cells c1 e (0, 0))) (h2 : w.heap[b]? = some (.cells c2 t (0, 0))) (he : e ≠ t) : k ≠ b := by
  intro hkb
  rw [hkb, h2] at h1
  injection h1 with h1
  injection h1 with _ h1 _
  exact he h1.symm
/-- A row whose elements lead nowhere keeps its own block alone in sight. -/
theorem N_flat {α : Type} {d : Kd α} (flat : ∀ w w' x c, d.K w x c → d.K w' x c) {e base : Nat} {w : World} {ok : Nat → Prop} {v : Value} {xs : List α} (h : Kd.N d e w base ok v xs) : Kd.N d e w base (fun k => some k = v.ownBlock) v xs := by
  obtain ⟨h0, rows, hl, hR, hf⟩ := h
  exact ⟨fun k hk => hk.symm, rows, hl, hR, fun j x c hx hc => fun W' _ => flat _ _ x c (Kd.FK_now (hf j x c hx hc))⟩
theorem N_other {β : Type} {d : Kd β} {e e' base b : Nat} {W W1 : World} {v v' : Value} {ys : List β} {c : Array Value} (h : Kd.N d e' W base (fun k => some k = v'.ownBlock) v' ys) (hv : ∀ k, v.ownBlock = some k → ∃ cells, W.heap[k]? = some (.cells cells e (0, 0))) (he : e ≠ e') (hg : W.grownBy W1 v.ownBlock) (hb : W.heap[b]? = some (.cells c 27 (0, 0))) (h27 : e' ≠ 27) (off : Nat) (u : Value) :
    Kd.N d e' (W1.setCell ⟨b, off, none⟩ u) base (fun k => some k = v'.ownBlock) v' ys := by
  refine Kd.N_step h (fun k hk hlt => ?_)
  obtain ⟨c1, h1⟩ := Kd.N_typed h k hk.symm
  rw [Below.heap_setCell _ _ _ _ (typed_ne h1 hb h27)]
  refine hg.block k hlt (fun e1 => ?_)
  obtain ⟨c2, h2⟩ := hv k e1.symm
  exact typed_ne h1 h2 (Ne.symm he) rfl
/-- Its first three rows; the fourth is told apart. -/
structure Pl (w0 : World) (b : Nat) (G : List S59) (A : List S61) (M : List ByteArray) (vG vA vM vT : Value) (w : World) : Prop where
  cells : w.heap[b]? = some (.cells #[vG, vA, vM, vT] 27 (0, 0))
  below : Below w0.heap.size w0 w
  hb : w0.heap.size ≤ b
  nG : Kd.N k59 59 w w0.heap.size (fun k => some k = vG.ownBlock) vG G
  nA : Kd.N k61 61 w w0.heap.size (fun k => some k = vA.ownBlock) vA A
  nM : Kd.N Kd.string 9 w w0.heap.size (fun k => some k = vM.ownBlock) vM M
theorem flat59 (w w' : World) (x : S59) (c : List Value) (h : k59.K w x c) : k59.K w' x c := by rw [k59_open h]; exact k59_mk w' x
theorem flat61 (w w' : World) (x : S61) (c : List Value) (h : k61.K w x c) : k61.K w' x c := by rw [k61_open h]; exact k61_mk w' x
theorem flat9 (w w' : World) (x : ByteArray) (c : List Value) (h : Kd.string.K w x c) : Kd.string.K w' x c := h
section
variable {w0 w w1 w2 : World} {b : Nat} {G G' : List S59} {A A' : List S61} {M M' : List ByteArray} {vG vA vM vT v1 : Value}
theorem Pl.to (H : Pl w0 b G A M vG vA vM vT w) (hb : Below w.heap.size w w1) : Pl w0 b G A M vG vA vM vT w1 :=
  ⟨below_read hb H.cells, below_then H.below H.below.size hb, H.hb, Kd.N_below H.nG hb, Kd.N_below H.nA hb, Kd.N_below H.nM hb⟩
theorem keep27 {e : Nat} {v : Value} {c : Array Value} (hc : w1.heap[b]? = some (.cells c 27 (0, 0))) (hv : ∀ k, v.ownBlock = some k → ∃ cells, w1.heap[k]? = some (.cells cells e (0, 0))) (he : e ≠ 27) (hg : w1.grownBy w2 v.ownBlock) : w2.heap[b]? = some (.cells c 27 (0, 0)) := by
  rw [hg.block b (blk_lt hc) (fun e1 => ?_)]
  · exact hc
  · obtain ⟨c2, h2⟩ := hv b e1.symm
    exact typed_ne h2 hc he rfl
theorem own_of {α : Type} {d : Kd α} {e base : Nat} {ok : Nat → Prop} {v : Value} {xs : List α} (h : Kd.N d e w base ok v xs) : ∀ q, v.ownBlock = some q → base ≤ q := Kd.N_base h
theorem Pl.pushG (H : Pl w0 b G A M vG vA vM vT w1) (HN : Kd.N k59 59 w2 w0.heap.size (fun _ => True) v1 G') (hg : w1.grownBy w2 vG.ownBlock) : Pl w0 b G' A M v1 vA vM vT (w2.setCell ⟨b, 0, none⟩ v1) := by
  have hv := fun k hk => Kd.N_typed H.nG k hk
  have hc := keep27 H.cells hv (by decide) hg
  have HF := N_flat flat59 HN
  refine ⟨blk_put hc 0 v1 rfl, (H.below.grown hg H.below.size (Kd.N_base H.nG)).setCell H.hb _, H.hb, Kd.N_far HF (fun k hk => ?_) _, N_other H.nA hv (by decide) hg H.cells (by decide) _ _, N_other H.nM hv (by decide) hg H.cells (by decide) _ _⟩
  obtain ⟨c2, h2⟩ := Kd.N_typed HF k hk.symm
  exact typed_ne h2 hc (by decide)
theorem Pl.pushA (H : Pl w0 b G A M vG vA vM vT w1) (HN : Kd.N k61 61 w2 w0.heap.size (fun _ => True) v1 A') (hg : w1.grownBy w2 vA.ownBlock) : Pl w0 b G A' M vG v1 vM vT (w2.setCell ⟨b, 1, none⟩ v1) := by
  have hv := fun k hk => Kd.N_typed H.nA k hk
  have hc := keep27 H.cells hv (by decide) hg
  have HF := N_flat flat61 HN
  refine ⟨blk_put hc 1 v1 rfl, (H.below.grown hg H.below.size (Kd.N_base H.nA)).setCell H.hb _, H.hb, N_other H.nG hv (by decide) hg H.cells (by decide) _ _, Kd.N_far HF (fun k hk => ?_) _, N_other H.nM hv (by decide) hg H.cells (by decide) _ _⟩
  obtain ⟨c2, h2⟩ := Kd.N_typed HF k hk.symm
  exact typed_ne h2 hc (by decide)
theorem Pl.pushM (H : Pl w0 b G A M vG vA vM vT w1) (HN : Kd.N Kd.string 9 w2 w0.heap.size (fun _ => True) v1 M') (hg : w1.grownBy w2 vM.ownBlock) : Pl w0 b G A M' vG vA v1 vT (w2.setCell ⟨b, 2, none⟩ v1) := by
  have hv := fun k hk => Kd.N_typed H.nM k hk
  have hc := keep27 H.cells hv (by decide) hg
  have HF := N_flat flat9 HN
  refine ⟨blk_put hc 2 v1 rfl, (H.below.grown hg H.below.size (Kd.N_base H.nM)).setCell H.hb _, H.hb, N_other H.nG hv (by decide) hg H.cells (by decide) _ _, N_other H.nA hv (by decide) hg H.cells (by decide) _ _, Kd.N_far HF (fun k hk => ?_) _⟩
  obtain ⟨c2, h2⟩ := Kd.N_typed HF k hk.symm
  exact typed_ne h2 hc (by decide)
/-- With its threads. -/
def PlT (w0 : World) (b : Nat) (G : List S59) (A : List S61) (M : List ByteArray) (T : List S52) (vG vA vM vT : Value) (w : World) : Prop := Pl w0 b G A M vG vA vM vT w ∧ Kd.N k52 52 w w0.heap.size (fun k => w0.heap.size ≤ k ∧ k ≠ b) vT T
theorem PlT.to {T : List S52} (H : PlT w0 b G A M T vG vA vM vT w) (hb : Below w.heap.size w w1) : PlT w0 b G A M T vG vA vM vT w1 := ⟨H.1.to hb, Kd.N_below H.2 hb⟩
theorem PlT.push {T T' : List S52} (H : PlT w0 b G A M T vG vA vM vT w1) (HN : Kd.N k52 52 w2 w0.heap.size (fun k => w0.heap.size ≤ k ∧ k ≠ b) v1 T') (hg : w1.grownBy w2 vT.ownBlock) : PlT w0 b G A M T' vG vA vM v1 (w2.setCell ⟨b, 3, none⟩ v1) := by
  have hv := fun k hk => Kd.N_typed H.2 k hk
  have hc := keep27 H.1.cells hv (by decide) hg
  exact ⟨⟨blk_put hc 3 v1 rfl, (H.1.below.grown hg H.1.below.size (Kd.N_base H.2)).setCell H.1.hb _, H.1.hb, N_other H.1.nG hv (by decide) hg H.1.cells (by decide) _ _, N_other H.1.nA hv (by decide) hg H.1.cells (by decide) _ _, N_other H.1.nM hv (by decide) hg H.1.cells (by decide) _ _⟩, Kd.N_far HN (fun k hk => hk.2) _⟩
/-- As it is made. -/
theorem Pl.start {w0 w : World} {b : Nat} (h : w.heap[b]? = some (.cells #[.slice none 0 0, .slice none 0 0, .slice none 0 0, .slice none 0 0] 27 (0, 0))) (hb : Below w0.heap.size w0 w) (h0 : w0.heap.size ≤ b) : PlT w0 b [] [] [] [] (.slice none 0 0) (.slice none 0 0) (.slice none 0 0) (.slice none 0 0) w :=
  ⟨⟨h, hb, h0, Kd.N_nil .., Kd.N_nil .., Kd.N_nil ..⟩, Kd.N_nil ..⟩
end
end Go.Proofs.YtfeaekdhpkdljaaDoor.Sh
