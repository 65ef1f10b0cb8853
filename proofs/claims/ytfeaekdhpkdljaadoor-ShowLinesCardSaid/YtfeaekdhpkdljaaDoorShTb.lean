/- ShowLines: a thread (type 52) under construction in a block of the call's own. -/
import Derived.Test.YtfeaekdhpkdljaaDoorShAnd
namespace Go.Proofs.YtfeaekdhpkdljaaDoor.Sh
open Go.RowKit Go.Proofs.YtfeaekdhpkdljaaDoorW.PrintWords Go.Proofs.YtfeaekdhpkdljaaDoorW.PrintLast
set_option linter.unusedVariables false
theorem info54 : (Tryd.prog.info? 54).map (fun i => (i.zero, i.size, i.bytes)) = some (some (.agg #[.int .i64 0, .string ⟨#[]⟩, .int .i64 0, .int .i64 0, .int .i64 0, .string ⟨#[]⟩, .slice none 0 0, .int .i64 0, .int .i64 0, .int .i64 0, .string ⟨#[]⟩, .slice none 0 0, .int .i64 0, .int .i64 0, .slice none 0 0, .slice none 0 0, .slice none 0 0, .slice none 0 0]), 18, 264) := by kernel_rfl
theorem info52 : (Tryd.prog.info? 52).map (fun i => (i.zero, i.size, i.bytes)) = some (some (.agg #[.string ⟨#[]⟩, .slice none 0 0, .slice none 0 0]), 3, 64) := by kernel_rfl
def skC : List Value := [.int .i64 8, .string ⟨#[]⟩, .int .i64 0, .int .i64 0, .int .i64 0, .string ⟨#[]⟩, .slice none 0 0, .int .i64 0, .int .i64 0, .int .i64 0, .string ⟨#[]⟩, .slice none 0 0, .int .i64 0, .int .i64 0, .slice none 0 0, .slice none 0 0, .slice none 0 0, .slice none 0 0]
theorem skF (W : World) (ok : Nat → Prop) : Kd.FK k54 W ok skL skC := fun W2 _ => k54_mk W2 skL (Nat.le_refl _) (Kd.C_nil k30 W2) (Nat.le_refl _) (Kd.C_nil k30 W2) (Nat.le_refl _) (Kd.C_nil k30 W2) (Nat.le_refl _) (Kd.C_nil k33 W2) (Nat.le_refl _) (Kd.C_nil k54 W2) (Nat.le_refl _) (Kd.C_nil k54 W2)
theorem keepT {w1 w2 : World} {b e t : Nat} {v : Value} {c : Array Value} (hc : w1.heap[b]? = some (.cells c t (0, 0))) (hv : ∀ k, v.ownBlock = some k → ∃ cells, w1.heap[k]? = some (.cells cells e (0, 0))) (he : e ≠ t) (hg : w1.grownBy w2 v.ownBlock) : w2.heap[b]? = some (.cells c t (0, 0)) := by
  rw [hg.block b (blk_lt hc) (fun e1 => ?_)]
  · exact hc
  · obtain ⟨c2, h2⟩ := hv b e1.symm
    exact typed_ne h2 hc he rfl
structure Tb (wo : World) (gt gv : Nat) (k : Nat) (v : Value) (w : World) : Prop where
  cells : w.heap[gt]? = some (.cells #[.string ⟨#[116]⟩, .slice (some ⟨gv, 0, none⟩) 1 1, v] 52 (0, 0))
  row : w.heap[gv]? = some (.cells #[.string ⟨#[118]⟩] 9 (0, 0))
  below : Below wo.heap.size wo w
  ht : wo.heap.size ≤ gt
  hv : wo.heap.size ≤ gv
  n : Kd.N k54 54 w wo.heap.size (fun q => wo.heap.size ≤ q ∧ q ≠ gt) v (List.replicate k skL)
section
variable {wo w w1 w2 w3 : World} {gt gv k : Nat} {v v1 : Value}
theorem Tb.to (H : Tb wo gt gv k v w) (hb : Below w.heap.size w w1) : Tb wo gt gv k v w1 :=
  ⟨below_read hb H.cells, below_read hb H.row, below_then H.below H.below.size hb, H.ht, H.hv, Kd.N_below H.n hb⟩
theorem Tb.start (hgv : gv = wo.heap.size) (h1 : w1.heap[gv]? = some (.cells #[.string ⟨#[118]⟩] 9 (0, 0))) (hb1 : Below wo.heap.size wo w1) (hgt : gt = w1.heap.size) (hb2 : Below w1.heap.size w1 w2)
    (h3 : w3.heap[gt]? = some (.cells #[.string ⟨#[116]⟩, .slice (some ⟨gv, 0, none⟩) 1 1, .slice none 0 0] 52 (0, 0))) (hg : w2.grownBy w3 (some gt)) : Tb wo gt gv 0 (.slice none 0 0) w3 := by
  have hv1 := blk_lt h1
  refine ⟨h3, ?_, ?_, ?_, ?_, Kd.N_nil ..⟩
  · exact blk_grown (below_read hb2 h1) hg (fun e => by injection e with e; omega)
  · refine (below_then hb1 hb1.size hb2).grown hg (below_then hb1 hb1.size hb2).size (fun q hq => ?_)
    injection hq with hq
    rw [← hq, hgt]
    exact hb1.size
  · rw [hgt]; exact hb1.size
  · omega
theorem Tb.push (H : Tb wo gt gv k v w1) (HN : Kd.N k54 54 w2 wo.heap.size (fun q => wo.heap.size ≤ q ∧ q ≠ gt) v1 (List.replicate (k + 1) skL)) (hg : w1.grownBy w2 v.ownBlock) : Tb wo gt gv (k + 1) v1 (w2.setCell ⟨gt, 2, none⟩ v1) := by
  have hv := fun k hk => Kd.N_typed H.n k hk
  have hc := keepT H.cells hv (by decide) hg
  have hr := keepT H.row hv (by decide) hg
  have hne : gv ≠ gt := typed_ne hr hc (by decide)
  exact ⟨blk_put hc 2 v1 rfl, blk_far hr hne v1, (H.below.grown hg H.below.size (Kd.N_base H.n)).setCell H.ht _, H.ht, H.hv, Kd.N_far HN (fun k hk => hk.2) _⟩
/-- Read as a row of one thread. -/
theorem Tb.F (H : Tb wo gt gv k v w) (hb : Below w.heap.size w w1) {g : Nat} (h : w1.heap[g]? = some (.cells #[.string ⟨#[116]⟩, .slice (some ⟨gv, 0, none⟩) 1 1, v] 52 (0, 0))) (hg : wo.heap.size ≤ g) : Kd.F k52 w1 (fun q => wo.heap.size ≤ q) (some ⟨g, 0, none⟩) 1 [tL k] := by
  have H1 := H.to hb
  obtain ⟨A, c, rfl⟩ := Kd.N_slice H1.n
  have hF : Kd.F k54 w1 (fun q => wo.heap.size ≤ q) A (List.replicate k skL).length (List.replicate k skL) := fun W' hW => Kd.N_F H1.n W' (fun q hq hlt => hW q hq.1 hlt)
  have hl := (Kd.N_reads' H1.n).2.1
  have hS : Kd.F Kd.string w1 (fun q => wo.heap.size ≤ q) (some ⟨gv, 0, none⟩) 1 [⟨#[118]⟩] := fun W' hW => F_one Kd.string (W := w1) (ok := fun _ => False) (fun _ _ => rfl) rfl H1.row W' (fun q hq hlt => by
    rcases hq with hq | hq
    · exact hq.elim
    · subst hq; exact hW _ H1.hv hlt)
  have hK := k52_mkF w1 (fun q => wo.heap.size ≤ q) (tL k) (Nat.le_refl _) hS hl hF
  exact fun W' hW => F_one k52 hK rfl h W' (fun q hq hlt => by
    rcases hq with hq | hq
    · exact hW q hq hlt
    · subst hq; exact hW _ hg hlt)
end
end Go.Proofs.YtfeaekdhpkdljaaDoor.Sh
