/- cfg.named: an action without what its kind does not name. -/
import Derived.Test.YtikjamcemnbhbaaMrNext
namespace Go.Proofs.Ytikjamcemnbhbaa.Mr
open Go.RowKit Go.Proofs.YtikjamcemnbhbaaW.PrintWords Go.Proofs.YtikjamcemnbhbaaW.PrintLast Go.Proofs.YtikjamcemnbhbaaW.PrintMore
set_option linter.unusedVariables false
set_option linter.unusedSimpArgs false
theorem size_alloc2 (w : World) (o : Obj) : (w.alloc o).heap.size = w.heap.size + 1 := by simp
set_option maxHeartbeats 4000000 in
set_option maxRecDepth 100000 in
theorem named_1 (w : World) (a : S33) (k1 : a.f0 = 1) :
    Calls Try.prog 77 #[actV a] w fun e w' => e = .returned (actV ⟨a.f0, a.f1, 0, 0, 0, a.f5, 0, a.f7, 0⟩) ∧ Below w.heap.size w w' := by
  have kb1 : (a.f0 == 1) = true := beq_iff_eq.mpr k1
  clear k1
  have hW : Below w.heap.size w ((((w.alloc (.cells #[.int .i64 a.f0, .int .i64 a.f1, .int .i64 a.f2, .int .i64 a.f3, .int .i64 a.f4, .int .i64 a.f5, .int .i64 a.f6, .int .i64 a.f7, .int .i64 a.f8] 33)).alloc (.cells #[.int .i64 0, .int .i64 0, .int .i64 0, .int .i64 0, .int .i64 0, .int .i64 0, .int .i64 0, .int .i64 0, .int .i64 0] 33)).alloc (.cells #[.int .i64 a.f0, .int .i64 a.f1, .int .i64 0, .int .i64 0, .int .i64 0, .int .i64 a.f5, .int .i64 0, .int .i64 a.f7, .int .i64 0] 33)).drew) := below_drew (below_alloc (below_alloc (below_alloc (Below.refl _ w) _) _) _)
  have hX : ((((w.alloc (.cells #[.int .i64 a.f0, .int .i64 a.f1, .int .i64 a.f2, .int .i64 a.f3, .int .i64 a.f4, .int .i64 a.f5, .int .i64 a.f6, .int .i64 a.f7, .int .i64 a.f8] 33)).alloc (.cells #[.int .i64 0, .int .i64 0, .int .i64 0, .int .i64 0, .int .i64 0, .int .i64 0, .int .i64 0, .int .i64 0, .int .i64 0] 33)).alloc (.cells #[.int .i64 a.f0, .int .i64 a.f1, .int .i64 0, .int .i64 0, .int .i64 0, .int .i64 a.f5, .int .i64 0, .int .i64 a.f7, .int .i64 0] 33)).drew).heap[w.heap.size + 1 + 1]? = some (.cells #[.int .i64 a.f0, .int .i64 a.f1, .int .i64 0, .int .i64 0, .int .i64 0, .int .i64 a.f5, .int .i64 0, .int .i64 a.f7, .int .i64 0] 33 (0, 0)) := by
    have h := heap_alloc_new ((w.alloc (.cells #[.int .i64 a.f0, .int .i64 a.f1, .int .i64 a.f2, .int .i64 a.f3, .int .i64 a.f4, .int .i64 a.f5, .int .i64 a.f6, .int .i64 a.f7, .int .i64 a.f8] 33)).alloc (.cells #[.int .i64 0, .int .i64 0, .int .i64 0, .int .i64 0, .int .i64 0, .int .i64 0, .int .i64 0, .int .i64 0, .int .i64 0] 33)) (.cells #[.int .i64 a.f0, .int .i64 a.f1, .int .i64 0, .int .i64 0, .int .i64 0, .int .i64 a.f5, .int .i64 0, .int .i64 a.f7, .int .i64 0] 33)
    simp only [size_alloc2] at h
    exact h
  have hR : ((((w.alloc (.cells #[.int .i64 a.f0, .int .i64 a.f1, .int .i64 a.f2, .int .i64 a.f3, .int .i64 a.f4, .int .i64 a.f5, .int .i64 a.f6, .int .i64 a.f7, .int .i64 a.f8] 33)).alloc (.cells #[.int .i64 0, .int .i64 0, .int .i64 0, .int .i64 0, .int .i64 0, .int .i64 0, .int .i64 0, .int .i64 0, .int .i64 0] 33)).alloc (.cells #[.int .i64 a.f0, .int .i64 a.f1, .int .i64 0, .int .i64 0, .int .i64 0, .int .i64 a.f5, .int .i64 0, .int .i64 a.f7, .int .i64 0] 33)).drew).heap[w.heap.size + 1]? = some (.cells #[.int .i64 0, .int .i64 0, .int .i64 0, .int .i64 0, .int .i64 0, .int .i64 0, .int .i64 0, .int .i64 0, .int .i64 0] 33 (0, 0)) := by
    have h := below_read (below_alloc (Below.refl _ ((w.alloc (.cells #[.int .i64 a.f0, .int .i64 a.f1, .int .i64 a.f2, .int .i64 a.f3, .int .i64 a.f4, .int .i64 a.f5, .int .i64 a.f6, .int .i64 a.f7, .int .i64 a.f8] 33)).alloc (.cells #[.int .i64 0, .int .i64 0, .int .i64 0, .int .i64 0, .int .i64 0, .int .i64 0, .int .i64 0, .int .i64 0, .int .i64 0] 33))) (.cells #[.int .i64 a.f0, .int .i64 a.f1, .int .i64 0, .int .i64 0, .int .i64 0, .int .i64 a.f5, .int .i64 0, .int .i64 a.f7, .int .i64 0] 33)) (heap_alloc_new (w.alloc (.cells #[.int .i64 a.f0, .int .i64 a.f1, .int .i64 a.f2, .int .i64 a.f3, .int .i64 a.f4, .int .i64 a.f5, .int .i64 a.f6, .int .i64 a.f7, .int .i64 a.f8] 33)) (.cells #[.int .i64 0, .int .i64 0, .int .i64 0, .int .i64 0, .int .i64 0, .int .i64 0, .int .i64 0, .int .i64 0, .int .i64 0] 33))
    simp only [size_alloc2] at h
    exact h
  unfold actV
  go_enter Try.func77, Try.ntmps77
  go_wp2_with fail
  go_region
  generalize World.drew _ = w2 at *
  have hx0 := (blk_cell hX 0).trans rfl
  have hx1 := (blk_cell hX 1).trans rfl
  have hx2 := (blk_cell hX 2).trans rfl
  have hx3 := (blk_cell hX 3).trans rfl
  have hx4 := (blk_cell hX 4).trans rfl
  have hx5 := (blk_cell hX 5).trans rfl
  have hx6 := (blk_cell hX 6).trans rfl
  have hx7 := (blk_cell hX 7).trans rfl
  have hx8 := (blk_cell hX 8).trans rfl
  clear hX
  go_wp2_with (first | ((with_reducible refine gate_store (t := 33) (p := 2) rfl ?_); refine put_row ?hg ?hn 33 (.tmp 2) (.tmp 104) ?ho (w.heap.size + 1) 33 _ (actC (⟨a.f0, a.f1, 0, 0, 0, a.f5, 0, a.f7, 0⟩ : S33)) ?hp ?hx ?hu hR ?ht ?hs ?h1 ?_; (case hg => rfl); (case hn => rfl); (case ho => rfl); (case hp => rfl); (case hx => rfl); (case hu => rfl); (case ht => kernel_rfl); (case hs => rfl); (case h1 => exact actC_one (⟨a.f0, a.f1, 0, 0, 0, a.f5, 0, a.f7, 0⟩ : S33)); intro w3 hR2 hG))
  refine bodyPost_ret (results_cell_row rfl _ _ (w.heap.size + 1) 33 _ (0, 0) _ rfl hR2 Try.underlying33 rfl (by kernel_rfl)) rfl ?_
  exact ⟨rfl, hW.grown hG hW.size (fun k hk => by injection hk with hk; omega)⟩
set_option maxHeartbeats 4000000 in
set_option maxRecDepth 100000 in
theorem named_2 (w : World) (a : S33) (k1 : a.f0 = 2) :
    Calls Try.prog 77 #[actV a] w fun e w' => e = .returned (actV ⟨a.f0, a.f1, a.f2, 0, 0, 0, 0, a.f7, 0⟩) ∧ Below w.heap.size w w' := by
  have kb1 : (a.f0 == 1) = false := beq_eq_false_iff_ne.mpr (by omega)
  have kb2 : (a.f0 == 2) = true := beq_iff_eq.mpr k1
  clear k1
  have hW : Below w.heap.size w ((((w.alloc (.cells #[.int .i64 a.f0, .int .i64 a.f1, .int .i64 a.f2, .int .i64 a.f3, .int .i64 a.f4, .int .i64 a.f5, .int .i64 a.f6, .int .i64 a.f7, .int .i64 a.f8] 33)).alloc (.cells #[.int .i64 0, .int .i64 0, .int .i64 0, .int .i64 0, .int .i64 0, .int .i64 0, .int .i64 0, .int .i64 0, .int .i64 0] 33)).alloc (.cells #[.int .i64 a.f0, .int .i64 a.f1, .int .i64 a.f2, .int .i64 0, .int .i64 0, .int .i64 0, .int .i64 0, .int .i64 a.f7, .int .i64 0] 33)).drew) := below_drew (below_alloc (below_alloc (below_alloc (Below.refl _ w) _) _) _)
  have hX : ((((w.alloc (.cells #[.int .i64 a.f0, .int .i64 a.f1, .int .i64 a.f2, .int .i64 a.f3, .int .i64 a.f4, .int .i64 a.f5, .int .i64 a.f6, .int .i64 a.f7, .int .i64 a.f8] 33)).alloc (.cells #[.int .i64 0, .int .i64 0, .int .i64 0, .int .i64 0, .int .i64 0, .int .i64 0, .int .i64 0, .int .i64 0, .int .i64 0] 33)).alloc (.cells #[.int .i64 a.f0, .int .i64 a.f1, .int .i64 a.f2, .int .i64 0, .int .i64 0, .int .i64 0, .int .i64 0, .int .i64 a.f7, .int .i64 0] 33)).drew).heap[w.heap.size + 1 + 1]? = some (.cells #[.int .i64 a.f0, .int .i64 a.f1, .int .i64 a.f2, .int .i64 0, .int .i64 0, .int .i64 0, .int .i64 0, .int .i64 a.f7, .int .i64 0] 33 (0, 0)) := by
    have h := heap_alloc_new ((w.alloc (.cells #[.int .i64 a.f0, .int .i64 a.f1, .int .i64 a.f2, .int .i64 a.f3, .int .i64 a.f4, .int .i64 a.f5, .int .i64 a.f6, .int .i64 a.f7, .int .i64 a.f8] 33)).alloc (.cells #[.int .i64 0, .int .i64 0, .int .i64 0, .int .i64 0, .int .i64 0, .int .i64 0, .int .i64 0, .int .i64 0, .int .i64 0] 33)) (.cells #[.int .i64 a.f0, .int .i64 a.f1, .int .i64 a.f2, .int .i64 0, .int .i64 0, .int .i64 0, .int .i64 0, .int .i64 a.f7, .int .i64 0] 33)
    simp only [size_alloc2] at h
    exact h
  have hR : ((((w.alloc (.cells #[.int .i64 a.f0, .int .i64 a.f1, .int .i64 a.f2, .int .i64 a.f3, .int .i64 a.f4, .int .i64 a.f5, .int .i64 a.f6, .int .i64 a.f7, .int .i64 a.f8] 33)).alloc (.cells #[.int .i64 0, .int .i64 0, .int .i64 0, .int .i64 0, .int .i64 0, .int .i64 0, .int .i64 0, .int .i64 0, .int .i64 0] 33)).alloc (.cells #[.int .i64 a.f0, .int .i64 a.f1, .int .i64 a.f2, .int .i64 0, .int .i64 0, .int .i64 0, .int .i64 0, .int .i64 a.f7, .int .i64 0] 33)).drew).heap[w.heap.size + 1]? = some (.cells #[.int .i64 0, .int .i64 0, .int .i64 0, .int .i64 0, .int .i64 0, .int .i64 0, .int .i64 0, .int .i64 0, .int .i64 0] 33 (0, 0)) := by
    have h := below_read (below_alloc (Below.refl _ ((w.alloc (.cells #[.int .i64 a.f0, .int .i64 a.f1, .int .i64 a.f2, .int .i64 a.f3, .int .i64 a.f4, .int .i64 a.f5, .int .i64 a.f6, .int .i64 a.f7, .int .i64 a.f8] 33)).alloc (.cells #[.int .i64 0, .int .i64 0, .int .i64 0, .int .i64 0, .int .i64 0, .int .i64 0, .int .i64 0, .int .i64 0, .int .i64 0] 33))) (.cells #[.int .i64 a.f0, .int .i64 a.f1, .int .i64 a.f2, .int .i64 0, .int .i64 0, .int .i64 0, .int .i64 0, .int .i64 a.f7, .int .i64 0] 33)) (heap_alloc_new (w.alloc (.cells #[.int .i64 a.f0, .int .i64 a.f1, .int .i64 a.f2, .int .i64 a.f3, .int .i64 a.f4, .int .i64 a.f5, .int .i64 a.f6, .int .i64 a.f7, .int .i64 a.f8] 33)) (.cells #[.int .i64 0, .int .i64 0, .int .i64 0, .int .i64 0, .int .i64 0, .int .i64 0, .int .i64 0, .int .i64 0, .int .i64 0] 33))
    simp only [size_alloc2] at h
    exact h
  unfold actV
  go_enter Try.func77, Try.ntmps77
  go_wp2_with fail
  go_region
  generalize World.drew _ = w2 at *
  have hx0 := (blk_cell hX 0).trans rfl
  have hx1 := (blk_cell hX 1).trans rfl
  have hx2 := (blk_cell hX 2).trans rfl
  have hx3 := (blk_cell hX 3).trans rfl
  have hx4 := (blk_cell hX 4).trans rfl
  have hx5 := (blk_cell hX 5).trans rfl
  have hx6 := (blk_cell hX 6).trans rfl
  have hx7 := (blk_cell hX 7).trans rfl
  have hx8 := (blk_cell hX 8).trans rfl
  clear hX
  go_wp2_with (first | ((with_reducible refine gate_store (t := 33) (p := 2) rfl ?_); refine put_row ?hg ?hn 33 (.tmp 2) (.tmp 104) ?ho (w.heap.size + 1) 33 _ (actC (⟨a.f0, a.f1, a.f2, 0, 0, 0, 0, a.f7, 0⟩ : S33)) ?hp ?hx ?hu hR ?ht ?hs ?h1 ?_; (case hg => rfl); (case hn => rfl); (case ho => rfl); (case hp => rfl); (case hx => rfl); (case hu => rfl); (case ht => kernel_rfl); (case hs => rfl); (case h1 => exact actC_one (⟨a.f0, a.f1, a.f2, 0, 0, 0, 0, a.f7, 0⟩ : S33)); intro w3 hR2 hG))
  refine bodyPost_ret (results_cell_row rfl _ _ (w.heap.size + 1) 33 _ (0, 0) _ rfl hR2 Try.underlying33 rfl (by kernel_rfl)) rfl ?_
  exact ⟨rfl, hW.grown hG hW.size (fun k hk => by injection hk with hk; omega)⟩
set_option maxHeartbeats 4000000 in
set_option maxRecDepth 100000 in
theorem named_3 (w : World) (a : S33) (k1 : a.f0 = 3) :
    Calls Try.prog 77 #[actV a] w fun e w' => e = .returned (actV ⟨a.f0, a.f1, 0, 0, 0, 0, 0, a.f7, 0⟩) ∧ Below w.heap.size w w' := by
  have kb1 : (a.f0 == 1) = false := beq_eq_false_iff_ne.mpr (by omega)
  have kb2 : (a.f0 == 2) = false := beq_eq_false_iff_ne.mpr (by omega)
  have kb3 : (a.f0 == 3) = true := beq_iff_eq.mpr k1
  clear k1
  have hW : Below w.heap.size w ((((w.alloc (.cells #[.int .i64 a.f0, .int .i64 a.f1, .int .i64 a.f2, .int .i64 a.f3, .int .i64 a.f4, .int .i64 a.f5, .int .i64 a.f6, .int .i64 a.f7, .int .i64 a.f8] 33)).alloc (.cells #[.int .i64 0, .int .i64 0, .int .i64 0, .int .i64 0, .int .i64 0, .int .i64 0, .int .i64 0, .int .i64 0, .int .i64 0] 33)).alloc (.cells #[.int .i64 a.f0, .int .i64 a.f1, .int .i64 0, .int .i64 0, .int .i64 0, .int .i64 0, .int .i64 0, .int .i64 a.f7, .int .i64 0] 33))) := (below_alloc (below_alloc (below_alloc (Below.refl _ w) _) _) _)
  have hX : ((((w.alloc (.cells #[.int .i64 a.f0, .int .i64 a.f1, .int .i64 a.f2, .int .i64 a.f3, .int .i64 a.f4, .int .i64 a.f5, .int .i64 a.f6, .int .i64 a.f7, .int .i64 a.f8] 33)).alloc (.cells #[.int .i64 0, .int .i64 0, .int .i64 0, .int .i64 0, .int .i64 0, .int .i64 0, .int .i64 0, .int .i64 0, .int .i64 0] 33)).alloc (.cells #[.int .i64 a.f0, .int .i64 a.f1, .int .i64 0, .int .i64 0, .int .i64 0, .int .i64 0, .int .i64 0, .int .i64 a.f7, .int .i64 0] 33))).heap[w.heap.size + 1 + 1]? = some (.cells #[.int .i64 a.f0, .int .i64 a.f1, .int .i64 0, .int .i64 0, .int .i64 0, .int .i64 0, .int .i64 0, .int .i64 a.f7, .int .i64 0] 33 (0, 0)) := by
    have h := heap_alloc_new ((w.alloc (.cells #[.int .i64 a.f0, .int .i64 a.f1, .int .i64 a.f2, .int .i64 a.f3, .int .i64 a.f4, .int .i64 a.f5, .int .i64 a.f6, .int .i64 a.f7, .int .i64 a.f8] 33)).alloc (.cells #[.int .i64 0, .int .i64 0, .int .i64 0, .int .i64 0, .int .i64 0, .int .i64 0, .int .i64 0, .int .i64 0, .int .i64 0] 33)) (.cells #[.int .i64 a.f0, .int .i64 a.f1, .int .i64 0, .int .i64 0, .int .i64 0, .int .i64 0, .int .i64 0, .int .i64 a.f7, .int .i64 0] 33)
    simp only [size_alloc2] at h
    exact h
  have hR : ((((w.alloc (.cells #[.int .i64 a.f0, .int .i64 a.f1, .int .i64 a.f2, .int .i64 a.f3, .int .i64 a.f4, .int .i64 a.f5, .int .i64 a.f6, .int .i64 a.f7, .int .i64 a.f8] 33)).alloc (.cells #[.int .i64 0, .int .i64 0, .int .i64 0, .int .i64 0, .int .i64 0, .int .i64 0, .int .i64 0, .int .i64 0, .int .i64 0] 33)).alloc (.cells #[.int .i64 a.f0, .int .i64 a.f1, .int .i64 0, .int .i64 0, .int .i64 0, .int .i64 0, .int .i64 0, .int .i64 a.f7, .int .i64 0] 33))).heap[w.heap.size + 1]? = some (.cells #[.int .i64 0, .int .i64 0, .int .i64 0, .int .i64 0, .int .i64 0, .int .i64 0, .int .i64 0, .int .i64 0, .int .i64 0] 33 (0, 0)) := by
    have h := below_read (below_alloc (Below.refl _ ((w.alloc (.cells #[.int .i64 a.f0, .int .i64 a.f1, .int .i64 a.f2, .int .i64 a.f3, .int .i64 a.f4, .int .i64 a.f5, .int .i64 a.f6, .int .i64 a.f7, .int .i64 a.f8] 33)).alloc (.cells #[.int .i64 0, .int .i64 0, .int .i64 0, .int .i64 0, .int .i64 0, .int .i64 0, .int .i64 0, .int .i64 0, .int .i64 0] 33))) (.cells #[.int .i64 a.f0, .int .i64 a.f1, .int .i64 0, .int .i64 0, .int .i64 0, .int .i64 0, .int .i64 0, .int .i64 a.f7, .int .i64 0] 33)) (heap_alloc_new (w.alloc (.cells #[.int .i64 a.f0, .int .i64 a.f1, .int .i64 a.f2, .int .i64 a.f3, .int .i64 a.f4, .int .i64 a.f5, .int .i64 a.f6, .int .i64 a.f7, .int .i64 a.f8] 33)) (.cells #[.int .i64 0, .int .i64 0, .int .i64 0, .int .i64 0, .int .i64 0, .int .i64 0, .int .i64 0, .int .i64 0, .int .i64 0] 33))
    simp only [size_alloc2] at h
    exact h
  unfold actV
  go_enter Try.func77, Try.ntmps77
  clear hX
  go_wp2_with (first | ((with_reducible refine gate_store (t := 33) (p := 2) rfl ?_); refine put_row ?hg ?hn 33 (.tmp 2) (.tmp 104) ?ho (w.heap.size + 1) 33 _ (actC (⟨a.f0, a.f1, 0, 0, 0, 0, 0, a.f7, 0⟩ : S33)) ?hp ?hx ?hu hR ?ht ?hs ?h1 ?_; (case hg => rfl); (case hn => rfl); (case ho => rfl); (case hp => rfl); (case hx => rfl); (case hu => rfl); (case ht => kernel_rfl); (case hs => rfl); (case h1 => exact actC_one (⟨a.f0, a.f1, 0, 0, 0, 0, 0, a.f7, 0⟩ : S33)); intro w3 hR2 hG))
  refine bodyPost_ret (results_cell_row rfl _ _ (w.heap.size + 1) 33 _ (0, 0) _ rfl hR2 Try.underlying33 rfl (by kernel_rfl)) rfl ?_
  exact ⟨rfl, hW.grown hG hW.size (fun k hk => by injection hk with hk; omega)⟩
set_option maxHeartbeats 4000000 in
set_option maxRecDepth 100000 in
theorem named_4 (w : World) (a : S33) (k1 : a.f0 = 4) :
    Calls Try.prog 77 #[actV a] w fun e w' => e = .returned (actV ⟨a.f0, a.f1, a.f2, a.f3, 0, 0, a.f6, a.f7, 0⟩) ∧ Below w.heap.size w w' := by
  have kb1 : (a.f0 == 1) = false := beq_eq_false_iff_ne.mpr (by omega)
  have kb2 : (a.f0 == 2) = false := beq_eq_false_iff_ne.mpr (by omega)
  have kb3 : (a.f0 == 3) = false := beq_eq_false_iff_ne.mpr (by omega)
  have kb4 : (a.f0 == 4) = true := beq_iff_eq.mpr k1
  clear k1
  have hW : Below w.heap.size w ((((w.alloc (.cells #[.int .i64 a.f0, .int .i64 a.f1, .int .i64 a.f2, .int .i64 a.f3, .int .i64 a.f4, .int .i64 a.f5, .int .i64 a.f6, .int .i64 a.f7, .int .i64 a.f8] 33)).alloc (.cells #[.int .i64 0, .int .i64 0, .int .i64 0, .int .i64 0, .int .i64 0, .int .i64 0, .int .i64 0, .int .i64 0, .int .i64 0] 33)).alloc (.cells #[.int .i64 a.f0, .int .i64 a.f1, .int .i64 a.f2, .int .i64 a.f3, .int .i64 0, .int .i64 0, .int .i64 a.f6, .int .i64 a.f7, .int .i64 0] 33)).drew) := below_drew (below_alloc (below_alloc (below_alloc (Below.refl _ w) _) _) _)
  have hX : ((((w.alloc (.cells #[.int .i64 a.f0, .int .i64 a.f1, .int .i64 a.f2, .int .i64 a.f3, .int .i64 a.f4, .int .i64 a.f5, .int .i64 a.f6, .int .i64 a.f7, .int .i64 a.f8] 33)).alloc (.cells #[.int .i64 0, .int .i64 0, .int .i64 0, .int .i64 0, .int .i64 0, .int .i64 0, .int .i64 0, .int .i64 0, .int .i64 0] 33)).alloc (.cells #[.int .i64 a.f0, .int .i64 a.f1, .int .i64 a.f2, .int .i64 a.f3, .int .i64 0, .int .i64 0, .int .i64 a.f6, .int .i64 a.f7, .int .i64 0] 33)).drew).heap[w.heap.size + 1 + 1]? = some (.cells #[.int .i64 a.f0, .int .i64 a.f1, .int .i64 a.f2, .int .i64 a.f3, .int .i64 0, .int .i64 0, .int .i64 a.f6, .int .i64 a.f7, .int .i64 0] 33 (0, 0)) := by
    have h := heap_alloc_new ((w.alloc (.cells #[.int .i64 a.f0, .int .i64 a.f1, .int .i64 a.f2, .int .i64 a.f3, .int .i64 a.f4, .int .i64 a.f5, .int .i64 a.f6, .int .i64 a.f7, .int .i64 a.f8] 33)).alloc (.cells #[.int .i64 0, .int .i64 0, .int .i64 0, .int .i64 0, .int .i64 0, .int .i64 0, .int .i64 0, .int .i64 0, .int .i64 0] 33)) (.cells #[.int .i64 a.f0, .int .i64 a.f1, .int .i64 a.f2, .int .i64 a.f3, .int .i64 0, .int .i64 0, .int .i64 a.f6, .int .i64 a.f7, .int .i64 0] 33)
    simp only [size_alloc2] at h
    exact h
  have hR : ((((w.alloc (.cells #[.int .i64 a.f0, .int .i64 a.f1, .int .i64 a.f2, .int .i64 a.f3, .int .i64 a.f4, .int .i64 a.f5, .int .i64 a.f6, .int .i64 a.f7, .int .i64 a.f8] 33)).alloc (.cells #[.int .i64 0, .int .i64 0, .int .i64 0, .int .i64 0, .int .i64 0, .int .i64 0, .int .i64 0, .int .i64 0, .int .i64 0] 33)).alloc (.cells #[.int .i64 a.f0, .int .i64 a.f1, .int .i64 a.f2, .int .i64 a.f3, .int .i64 0, .int .i64 0, .int .i64 a.f6, .int .i64 a.f7, .int .i64 0] 33)).drew).heap[w.heap.size + 1]? = some (.cells #[.int .i64 0, .int .i64 0, .int .i64 0, .int .i64 0, .int .i64 0, .int .i64 0, .int .i64 0, .int .i64 0, .int .i64 0] 33 (0, 0)) := by
    have h := below_read (below_alloc (Below.refl _ ((w.alloc (.cells #[.int .i64 a.f0, .int .i64 a.f1, .int .i64 a.f2, .int .i64 a.f3, .int .i64 a.f4, .int .i64 a.f5, .int .i64 a.f6, .int .i64 a.f7, .int .i64 a.f8] 33)).alloc (.cells #[.int .i64 0, .int .i64 0, .int .i64 0, .int .i64 0, .int .i64 0, .int .i64 0, .int .i64 0, .int .i64 0, .int .i64 0] 33))) (.cells #[.int .i64 a.f0, .int .i64 a.f1, .int .i64 a.f2, .int .i64 a.f3, .int .i64 0, .int .i64 0, .int .i64 a.f6, .int .i64 a.f7, .int .i64 0] 33)) (heap_alloc_new (w.alloc (.cells #[.int .i64 a.f0, .int .i64 a.f1, .int .i64 a.f2, .int .i64 a.f3, .int .i64 a.f4, .int .i64 a.f5, .int .i64 a.f6, .int .i64 a.f7, .int .i64 a.f8] 33)) (.cells #[.int .i64 0, .int .i64 0, .int .i64 0, .int .i64 0, .int .i64 0, .int .i64 0, .int .i64 0, .int .i64 0, .int .i64 0] 33))
    simp only [size_alloc2] at h
    exact h
  unfold actV
  go_enter Try.func77, Try.ntmps77
  go_wp2_with fail
  go_region
  generalize World.drew _ = w2 at *
  have hx0 := (blk_cell hX 0).trans rfl
  have hx1 := (blk_cell hX 1).trans rfl
  have hx2 := (blk_cell hX 2).trans rfl
  have hx3 := (blk_cell hX 3).trans rfl
  have hx4 := (blk_cell hX 4).trans rfl
  have hx5 := (blk_cell hX 5).trans rfl
  have hx6 := (blk_cell hX 6).trans rfl
  have hx7 := (blk_cell hX 7).trans rfl
  have hx8 := (blk_cell hX 8).trans rfl
  clear hX
  go_wp2_with (first | ((with_reducible refine gate_store (t := 33) (p := 2) rfl ?_); refine put_row ?hg ?hn 33 (.tmp 2) (.tmp 104) ?ho (w.heap.size + 1) 33 _ (actC (⟨a.f0, a.f1, a.f2, a.f3, 0, 0, a.f6, a.f7, 0⟩ : S33)) ?hp ?hx ?hu hR ?ht ?hs ?h1 ?_; (case hg => rfl); (case hn => rfl); (case ho => rfl); (case hp => rfl); (case hx => rfl); (case hu => rfl); (case ht => kernel_rfl); (case hs => rfl); (case h1 => exact actC_one (⟨a.f0, a.f1, a.f2, a.f3, 0, 0, a.f6, a.f7, 0⟩ : S33)); intro w3 hR2 hG))
  refine bodyPost_ret (results_cell_row rfl _ _ (w.heap.size + 1) 33 _ (0, 0) _ rfl hR2 Try.underlying33 rfl (by kernel_rfl)) rfl ?_
  exact ⟨rfl, hW.grown hG hW.size (fun k hk => by injection hk with hk; omega)⟩
set_option maxHeartbeats 4000000 in
set_option maxRecDepth 100000 in
theorem named_5 (w : World) (a : S33) (k1 : a.f0 = 5) :
    Calls Try.prog 77 #[actV a] w fun e w' => e = .returned (actV ⟨a.f0, a.f1, 0, 0, a.f4, 0, 0, a.f7, 0⟩) ∧ Below w.heap.size w w' := by
  have kb1 : (a.f0 == 1) = false := beq_eq_false_iff_ne.mpr (by omega)
  have kb2 : (a.f0 == 2) = false := beq_eq_false_iff_ne.mpr (by omega)
  have kb3 : (a.f0 == 3) = false := beq_eq_false_iff_ne.mpr (by omega)
  have kb4 : (a.f0 == 4) = false := beq_eq_false_iff_ne.mpr (by omega)
  have kb5 : (a.f0 == 5) = true := beq_iff_eq.mpr k1
  clear k1
  have hW : Below w.heap.size w ((((w.alloc (.cells #[.int .i64 a.f0, .int .i64 a.f1, .int .i64 a.f2, .int .i64 a.f3, .int .i64 a.f4, .int .i64 a.f5, .int .i64 a.f6, .int .i64 a.f7, .int .i64 a.f8] 33)).alloc (.cells #[.int .i64 0, .int .i64 0, .int .i64 0, .int .i64 0, .int .i64 0, .int .i64 0, .int .i64 0, .int .i64 0, .int .i64 0] 33)).alloc (.cells #[.int .i64 a.f0, .int .i64 a.f1, .int .i64 0, .int .i64 0, .int .i64 a.f4, .int .i64 0, .int .i64 0, .int .i64 a.f7, .int .i64 0] 33)).drew) := below_drew (below_alloc (below_alloc (below_alloc (Below.refl _ w) _) _) _)
  have hX : ((((w.alloc (.cells #[.int .i64 a.f0, .int .i64 a.f1, .int .i64 a.f2, .int .i64 a.f3, .int .i64 a.f4, .int .i64 a.f5, .int .i64 a.f6, .int .i64 a.f7, .int .i64 a.f8] 33)).alloc (.cells #[.int .i64 0, .int .i64 0, .int .i64 0, .int .i64 0, .int .i64 0, .int .i64 0, .int .i64 0, .int .i64 0, .int .i64 0] 33)).alloc (.cells #[.int .i64 a.f0, .int .i64 a.f1, .int .i64 0, .int .i64 0, .int .i64 a.f4, .int .i64 0, .int .i64 0, .int .i64 a.f7, .int .i64 0] 33)).drew).heap[w.heap.size + 1 + 1]? = some (.cells #[.int .i64 a.f0, .int .i64 a.f1, .int .i64 0, .int .i64 0, .int .i64 a.f4, .int .i64 0, .int .i64 0, .int .i64 a.f7, .int .i64 0] 33 (0, 0)) := by
    have h := heap_alloc_new ((w.alloc (.cells #[.int .i64 a.f0, .int .i64 a.f1, .int .i64 a.f2, .int .i64 a.f3, .int .i64 a.f4, .int .i64 a.f5, .int .i64 a.f6, .int .i64 a.f7, .int .i64 a.f8] 33)).alloc (.cells #[.int .i64 0, .int .i64 0, .int .i64 0, .int .i64 0, .int .i64 0, .int .i64 0, .int .i64 0, .int .i64 0, .int .i64 0] 33)) (.cells #[.int .i64 a.f0, .int .i64 a.f1, .int .i64 0, .int .i64 0, .int .i64 a.f4, .int .i64 0, .int .i64 0, .int .i64 a.f7, .int .i64 0] 33)
    simp only [size_alloc2] at h
    exact h
  have hR : ((((w.alloc (.cells #[.int .i64 a.f0, .int .i64 a.f1, .int .i64 a.f2, .int .i64 a.f3, .int .i64 a.f4, .int .i64 a.f5, .int .i64 a.f6, .int .i64 a.f7, .int .i64 a.f8] 33)).alloc (.cells #[.int .i64 0, .int .i64 0, .int .i64 0, .int .i64 0, .int .i64 0, .int .i64 0, .int .i64 0, .int .i64 0, .int .i64 0] 33)).alloc (.cells #[.int .i64 a.f0, .int .i64 a.f1, .int .i64 0, .int .i64 0, .int .i64 a.f4, .int .i64 0, .int .i64 0, .int .i64 a.f7, .int .i64 0] 33)).drew).heap[w.heap.size + 1]? = some (.cells #[.int .i64 0, .int .i64 0, .int .i64 0, .int .i64 0, .int .i64 0, .int .i64 0, .int .i64 0, .int .i64 0, .int .i64 0] 33 (0, 0)) := by
    have h := below_read (below_alloc (Below.refl _ ((w.alloc (.cells #[.int .i64 a.f0, .int .i64 a.f1, .int .i64 a.f2, .int .i64 a.f3, .int .i64 a.f4, .int .i64 a.f5, .int .i64 a.f6, .int .i64 a.f7, .int .i64 a.f8] 33)).alloc (.cells #[.int .i64 0, .int .i64 0, .int .i64 0, .int .i64 0, .int .i64 0, .int .i64 0, .int .i64 0, .int .i64 0, .int .i64 0] 33))) (.cells #[.int .i64 a.f0, .int .i64 a.f1, .int .i64 0, .int .i64 0, .int .i64 a.f4, .int .i64 0, .int .i64 0, .int .i64 a.f7, .int .i64 0] 33)) (heap_alloc_new (w.alloc (.cells #[.int .i64 a.f0, .int .i64 a.f1, .int .i64 a.f2, .int .i64 a.f3, .int .i64 a.f4, .int .i64 a.f5, .int .i64 a.f6, .int .i64 a.f7, .int .i64 a.f8] 33)) (.cells #[.int .i64 0, .int .i64 0, .int .i64 0, .int .i64 0, .int .i64 0, .int .i64 0, .int .i64 0, .int .i64 0, .int .i64 0] 33))
    simp only [size_alloc2] at h
    exact h
  unfold actV
  go_enter Try.func77, Try.ntmps77
  go_wp2_with fail
  go_region
  generalize World.drew _ = w2 at *
  have hx0 := (blk_cell hX 0).trans rfl
  have hx1 := (blk_cell hX 1).trans rfl
  have hx2 := (blk_cell hX 2).trans rfl
  have hx3 := (blk_cell hX 3).trans rfl
  have hx4 := (blk_cell hX 4).trans rfl
  have hx5 := (blk_cell hX 5).trans rfl
  have hx6 := (blk_cell hX 6).trans rfl
  have hx7 := (blk_cell hX 7).trans rfl
  have hx8 := (blk_cell hX 8).trans rfl
  clear hX
  go_wp2_with (first | ((with_reducible refine gate_store (t := 33) (p := 2) rfl ?_); refine put_row ?hg ?hn 33 (.tmp 2) (.tmp 104) ?ho (w.heap.size + 1) 33 _ (actC (⟨a.f0, a.f1, 0, 0, a.f4, 0, 0, a.f7, 0⟩ : S33)) ?hp ?hx ?hu hR ?ht ?hs ?h1 ?_; (case hg => rfl); (case hn => rfl); (case ho => rfl); (case hp => rfl); (case hx => rfl); (case hu => rfl); (case ht => kernel_rfl); (case hs => rfl); (case h1 => exact actC_one (⟨a.f0, a.f1, 0, 0, a.f4, 0, 0, a.f7, 0⟩ : S33)); intro w3 hR2 hG))
  refine bodyPost_ret (results_cell_row rfl _ _ (w.heap.size + 1) 33 _ (0, 0) _ rfl hR2 Try.underlying33 rfl (by kernel_rfl)) rfl ?_
  exact ⟨rfl, hW.grown hG hW.size (fun k hk => by injection hk with hk; omega)⟩
set_option maxHeartbeats 4000000 in
set_option maxRecDepth 100000 in
theorem named_6 (w : World) (a : S33) (k1 : a.f0 = 6) :
    Calls Try.prog 77 #[actV a] w fun e w' => e = .returned (actV ⟨a.f0, 0, a.f2, 0, a.f4, 0, 0, a.f7, 0⟩) ∧ Below w.heap.size w w' := by
  have kb1 : (a.f0 == 1) = false := beq_eq_false_iff_ne.mpr (by omega)
  have kb2 : (a.f0 == 2) = false := beq_eq_false_iff_ne.mpr (by omega)
  have kb3 : (a.f0 == 3) = false := beq_eq_false_iff_ne.mpr (by omega)
  have kb4 : (a.f0 == 4) = false := beq_eq_false_iff_ne.mpr (by omega)
  have kb5 : (a.f0 == 5) = false := beq_eq_false_iff_ne.mpr (by omega)
  have kb6 : (a.f0 == 6) = true := beq_iff_eq.mpr k1
  clear k1
  have hW : Below w.heap.size w ((((w.alloc (.cells #[.int .i64 a.f0, .int .i64 a.f1, .int .i64 a.f2, .int .i64 a.f3, .int .i64 a.f4, .int .i64 a.f5, .int .i64 a.f6, .int .i64 a.f7, .int .i64 a.f8] 33)).alloc (.cells #[.int .i64 0, .int .i64 0, .int .i64 0, .int .i64 0, .int .i64 0, .int .i64 0, .int .i64 0, .int .i64 0, .int .i64 0] 33)).alloc (.cells #[.int .i64 a.f0, .int .i64 0, .int .i64 a.f2, .int .i64 0, .int .i64 a.f4, .int .i64 0, .int .i64 0, .int .i64 a.f7, .int .i64 0] 33)).drew) := below_drew (below_alloc (below_alloc (below_alloc (Below.refl _ w) _) _) _)
  have hX : ((((w.alloc (.cells #[.int .i64 a.f0, .int .i64 a.f1, .int .i64 a.f2, .int .i64 a.f3, .int .i64 a.f4, .int .i64 a.f5, .int .i64 a.f6, .int .i64 a.f7, .int .i64 a.f8] 33)).alloc (.cells #[.int .i64 0, .int .i64 0, .int .i64 0, .int .i64 0, .int .i64 0, .int .i64 0, .int .i64 0, .int .i64 0, .int .i64 0] 33)).alloc (.cells #[.int .i64 a.f0, .int .i64 0, .int .i64 a.f2, .int .i64 0, .int .i64 a.f4, .int .i64 0, .int .i64 0, .int .i64 a.f7, .int .i64 0] 33)).drew).heap[w.heap.size + 1 + 1]? = some (.cells #[.int .i64 a.f0, .int .i64 0, .int .i64 a.f2, .int .i64 0, .int .i64 a.f4, .int .i64 0, .int .i64 0, .int .i64 a.f7, .int .i64 0] 33 (0, 0)) := by
    have h := heap_alloc_new ((w.alloc (.cells #[.int .i64 a.f0, .int .i64 a.f1, .int .i64 a.f2, .int .i64 a.f3, .int .i64 a.f4, .int .i64 a.f5, .int .i64 a.f6, .int .i64 a.f7, .int .i64 a.f8] 33)).alloc (.cells #[.int .i64 0, .int .i64 0, .int .i64 0, .int .i64 0, .int .i64 0, .int .i64 0, .int .i64 0, .int .i64 0, .int .i64 0] 33)) (.cells #[.int .i64 a.f0, .int .i64 0, .int .i64 a.f2, .int .i64 0, .int .i64 a.f4, .int .i64 0, .int .i64 0, .int .i64 a.f7, .int .i64 0] 33)
    simp only [size_alloc2] at h
    exact h
  have hR : ((((w.alloc (.cells #[.int .i64 a.f0, .int .i64 a.f1, .int .i64 a.f2, .int .i64 a.f3, .int .i64 a.f4, .int .i64 a.f5, .int .i64 a.f6, .int .i64 a.f7, .int .i64 a.f8] 33)).alloc (.cells #[.int .i64 0, .int .i64 0, .int .i64 0, .int .i64 0, .int .i64 0, .int .i64 0, .int .i64 0, .int .i64 0, .int .i64 0] 33)).alloc (.cells #[.int .i64 a.f0, .int .i64 0, .int .i64 a.f2, .int .i64 0, .int .i64 a.f4, .int .i64 0, .int .i64 0, .int .i64 a.f7, .int .i64 0] 33)).drew).heap[w.heap.size + 1]? = some (.cells #[.int .i64 0, .int .i64 0, .int .i64 0, .int .i64 0, .int .i64 0, .int .i64 0, .int .i64 0, .int .i64 0, .int .i64 0] 33 (0, 0)) := by
    have h := below_read (below_alloc (Below.refl _ ((w.alloc (.cells #[.int .i64 a.f0, .int .i64 a.f1, .int .i64 a.f2, .int .i64 a.f3, .int .i64 a.f4, .int .i64 a.f5, .int .i64 a.f6, .int .i64 a.f7, .int .i64 a.f8] 33)).alloc (.cells #[.int .i64 0, .int .i64 0, .int .i64 0, .int .i64 0, .int .i64 0, .int .i64 0, .int .i64 0, .int .i64 0, .int .i64 0] 33))) (.cells #[.int .i64 a.f0, .int .i64 0, .int .i64 a.f2, .int .i64 0, .int .i64 a.f4, .int .i64 0, .int .i64 0, .int .i64 a.f7, .int .i64 0] 33)) (heap_alloc_new (w.alloc (.cells #[.int .i64 a.f0, .int .i64 a.f1, .int .i64 a.f2, .int .i64 a.f3, .int .i64 a.f4, .int .i64 a.f5, .int .i64 a.f6, .int .i64 a.f7, .int .i64 a.f8] 33)) (.cells #[.int .i64 0, .int .i64 0, .int .i64 0, .int .i64 0, .int .i64 0, .int .i64 0, .int .i64 0, .int .i64 0, .int .i64 0] 33))
    simp only [size_alloc2] at h
    exact h
  unfold actV
  go_enter Try.func77, Try.ntmps77
  go_wp2_with fail
  go_region
  generalize World.drew _ = w2 at *
  have hx0 := (blk_cell hX 0).trans rfl
  have hx1 := (blk_cell hX 1).trans rfl
  have hx2 := (blk_cell hX 2).trans rfl
  have hx3 := (blk_cell hX 3).trans rfl
  have hx4 := (blk_cell hX 4).trans rfl
  have hx5 := (blk_cell hX 5).trans rfl
  have hx6 := (blk_cell hX 6).trans rfl
  have hx7 := (blk_cell hX 7).trans rfl
  have hx8 := (blk_cell hX 8).trans rfl
  clear hX
  go_wp2_with (first | ((with_reducible refine gate_store (t := 33) (p := 2) rfl ?_); refine put_row ?hg ?hn 33 (.tmp 2) (.tmp 104) ?ho (w.heap.size + 1) 33 _ (actC (⟨a.f0, 0, a.f2, 0, a.f4, 0, 0, a.f7, 0⟩ : S33)) ?hp ?hx ?hu hR ?ht ?hs ?h1 ?_; (case hg => rfl); (case hn => rfl); (case ho => rfl); (case hp => rfl); (case hx => rfl); (case hu => rfl); (case ht => kernel_rfl); (case hs => rfl); (case h1 => exact actC_one (⟨a.f0, 0, a.f2, 0, a.f4, 0, 0, a.f7, 0⟩ : S33)); intro w3 hR2 hG))
  refine bodyPost_ret (results_cell_row rfl _ _ (w.heap.size + 1) 33 _ (0, 0) _ rfl hR2 Try.underlying33 rfl (by kernel_rfl)) rfl ?_
  exact ⟨rfl, hW.grown hG hW.size (fun k hk => by injection hk with hk; omega)⟩
set_option maxHeartbeats 4000000 in
set_option maxRecDepth 100000 in
theorem named_7 (w : World) (a : S33) (k1 : a.f0 = 7) :
    Calls Try.prog 77 #[actV a] w fun e w' => e = .returned (actV ⟨a.f0, a.f1, a.f2, 0, a.f4, 0, 0, a.f7, 0⟩) ∧ Below w.heap.size w w' := by
  have kb1 : (a.f0 == 1) = false := beq_eq_false_iff_ne.mpr (by omega)
  have kb2 : (a.f0 == 2) = false := beq_eq_false_iff_ne.mpr (by omega)
  have kb3 : (a.f0 == 3) = false := beq_eq_false_iff_ne.mpr (by omega)
  have kb4 : (a.f0 == 4) = false := beq_eq_false_iff_ne.mpr (by omega)
  have kb5 : (a.f0 == 5) = false := beq_eq_false_iff_ne.mpr (by omega)
  have kb6 : (a.f0 == 6) = false := beq_eq_false_iff_ne.mpr (by omega)
  have kb7 : (a.f0 == 7) = true := beq_iff_eq.mpr k1
  clear k1
  have hW : Below w.heap.size w ((((w.alloc (.cells #[.int .i64 a.f0, .int .i64 a.f1, .int .i64 a.f2, .int .i64 a.f3, .int .i64 a.f4, .int .i64 a.f5, .int .i64 a.f6, .int .i64 a.f7, .int .i64 a.f8] 33)).alloc (.cells #[.int .i64 0, .int .i64 0, .int .i64 0, .int .i64 0, .int .i64 0, .int .i64 0, .int .i64 0, .int .i64 0, .int .i64 0] 33)).alloc (.cells #[.int .i64 a.f0, .int .i64 a.f1, .int .i64 a.f2, .int .i64 0, .int .i64 a.f4, .int .i64 0, .int .i64 0, .int .i64 a.f7, .int .i64 0] 33)).drew) := below_drew (below_alloc (below_alloc (below_alloc (Below.refl _ w) _) _) _)
  have hX : ((((w.alloc (.cells #[.int .i64 a.f0, .int .i64 a.f1, .int .i64 a.f2, .int .i64 a.f3, .int .i64 a.f4, .int .i64 a.f5, .int .i64 a.f6, .int .i64 a.f7, .int .i64 a.f8] 33)).alloc (.cells #[.int .i64 0, .int .i64 0, .int .i64 0, .int .i64 0, .int .i64 0, .int .i64 0, .int .i64 0, .int .i64 0, .int .i64 0] 33)).alloc (.cells #[.int .i64 a.f0, .int .i64 a.f1, .int .i64 a.f2, .int .i64 0, .int .i64 a.f4, .int .i64 0, .int .i64 0, .int .i64 a.f7, .int .i64 0] 33)).drew).heap[w.heap.size + 1 + 1]? = some (.cells #[.int .i64 a.f0, .int .i64 a.f1, .int .i64 a.f2, .int .i64 0, .int .i64 a.f4, .int .i64 0, .int .i64 0, .int .i64 a.f7, .int .i64 0] 33 (0, 0)) := by
    have h := heap_alloc_new ((w.alloc (.cells #[.int .i64 a.f0, .int .i64 a.f1, .int .i64 a.f2, .int .i64 a.f3, .int .i64 a.f4, .int .i64 a.f5, .int .i64 a.f6, .int .i64 a.f7, .int .i64 a.f8] 33)).alloc (.cells #[.int .i64 0, .int .i64 0, .int .i64 0, .int .i64 0, .int .i64 0, .int .i64 0, .int .i64 0, .int .i64 0, .int .i64 0] 33)) (.cells #[.int .i64 a.f0, .int .i64 a.f1, .int .i64 a.f2, .int .i64 0, .int .i64 a.f4, .int .i64 0, .int .i64 0, .int .i64 a.f7, .int .i64 0] 33)
    simp only [size_alloc2] at h
    exact h
  have hR : ((((w.alloc (.cells #[.int .i64 a.f0, .int .i64 a.f1, .int .i64 a.f2, .int .i64 a.f3, .int .i64 a.f4, .int .i64 a.f5, .int .i64 a.f6, .int .i64 a.f7, .int .i64 a.f8] 33)).alloc (.cells #[.int .i64 0, .int .i64 0, .int .i64 0, .int .i64 0, .int .i64 0, .int .i64 0, .int .i64 0, .int .i64 0, .int .i64 0] 33)).alloc (.cells #[.int .i64 a.f0, .int .i64 a.f1, .int .i64 a.f2, .int .i64 0, .int .i64 a.f4, .int .i64 0, .int .i64 0, .int .i64 a.f7, .int .i64 0] 33)).drew).heap[w.heap.size + 1]? = some (.cells #[.int .i64 0, .int .i64 0, .int .i64 0, .int .i64 0, .int .i64 0, .int .i64 0, .int .i64 0, .int .i64 0, .int .i64 0] 33 (0, 0)) := by
    have h := below_read (below_alloc (Below.refl _ ((w.alloc (.cells #[.int .i64 a.f0, .int .i64 a.f1, .int .i64 a.f2, .int .i64 a.f3, .int .i64 a.f4, .int .i64 a.f5, .int .i64 a.f6, .int .i64 a.f7, .int .i64 a.f8] 33)).alloc (.cells #[.int .i64 0, .int .i64 0, .int .i64 0, .int .i64 0, .int .i64 0, .int .i64 0, .int .i64 0, .int .i64 0, .int .i64 0] 33))) (.cells #[.int .i64 a.f0, .int .i64 a.f1, .int .i64 a.f2, .int .i64 0, .int .i64 a.f4, .int .i64 0, .int .i64 0, .int .i64 a.f7, .int .i64 0] 33)) (heap_alloc_new (w.alloc (.cells #[.int .i64 a.f0, .int .i64 a.f1, .int .i64 a.f2, .int .i64 a.f3, .int .i64 a.f4, .int .i64 a.f5, .int .i64 a.f6, .int .i64 a.f7, .int .i64 a.f8] 33)) (.cells #[.int .i64 0, .int .i64 0, .int .i64 0, .int .i64 0, .int .i64 0, .int .i64 0, .int .i64 0, .int .i64 0, .int .i64 0] 33))
    simp only [size_alloc2] at h
    exact h
  unfold actV
  go_enter Try.func77, Try.ntmps77
  go_wp2_with fail
  go_region
  generalize World.drew _ = w2 at *
  have hx0 := (blk_cell hX 0).trans rfl
  have hx1 := (blk_cell hX 1).trans rfl
  have hx2 := (blk_cell hX 2).trans rfl
  have hx3 := (blk_cell hX 3).trans rfl
  have hx4 := (blk_cell hX 4).trans rfl
  have hx5 := (blk_cell hX 5).trans rfl
  have hx6 := (blk_cell hX 6).trans rfl
  have hx7 := (blk_cell hX 7).trans rfl
  have hx8 := (blk_cell hX 8).trans rfl
  clear hX
  go_wp2_with (first | ((with_reducible refine gate_store (t := 33) (p := 2) rfl ?_); refine put_row ?hg ?hn 33 (.tmp 2) (.tmp 104) ?ho (w.heap.size + 1) 33 _ (actC (⟨a.f0, a.f1, a.f2, 0, a.f4, 0, 0, a.f7, 0⟩ : S33)) ?hp ?hx ?hu hR ?ht ?hs ?h1 ?_; (case hg => rfl); (case hn => rfl); (case ho => rfl); (case hp => rfl); (case hx => rfl); (case hu => rfl); (case ht => kernel_rfl); (case hs => rfl); (case h1 => exact actC_one (⟨a.f0, a.f1, a.f2, 0, a.f4, 0, 0, a.f7, 0⟩ : S33)); intro w3 hR2 hG))
  refine bodyPost_ret (results_cell_row rfl _ _ (w.heap.size + 1) 33 _ (0, 0) _ rfl hR2 Try.underlying33 rfl (by kernel_rfl)) rfl ?_
  exact ⟨rfl, hW.grown hG hW.size (fun k hk => by injection hk with hk; omega)⟩
set_option maxHeartbeats 4000000 in
set_option maxRecDepth 100000 in
theorem named_8 (w : World) (a : S33) (k1 : a.f0 = 8) :
    Calls Try.prog 77 #[actV a] w fun e w' => e = .returned (actV ⟨a.f0, 0, a.f2, a.f3, a.f4, 0, 0, a.f7, 0⟩) ∧ Below w.heap.size w w' := by
  have kb1 : (a.f0 == 1) = false := beq_eq_false_iff_ne.mpr (by omega)
  have kb2 : (a.f0 == 2) = false := beq_eq_false_iff_ne.mpr (by omega)
  have kb3 : (a.f0 == 3) = false := beq_eq_false_iff_ne.mpr (by omega)
  have kb4 : (a.f0 == 4) = false := beq_eq_false_iff_ne.mpr (by omega)
  have kb5 : (a.f0 == 5) = false := beq_eq_false_iff_ne.mpr (by omega)
  have kb6 : (a.f0 == 6) = false := beq_eq_false_iff_ne.mpr (by omega)
  have kb7 : (a.f0 == 7) = false := beq_eq_false_iff_ne.mpr (by omega)
  have kb8 : (a.f0 == 8) = true := beq_iff_eq.mpr k1
  clear k1
  have hW : Below w.heap.size w ((((w.alloc (.cells #[.int .i64 a.f0, .int .i64 a.f1, .int .i64 a.f2, .int .i64 a.f3, .int .i64 a.f4, .int .i64 a.f5, .int .i64 a.f6, .int .i64 a.f7, .int .i64 a.f8] 33)).alloc (.cells #[.int .i64 0, .int .i64 0, .int .i64 0, .int .i64 0, .int .i64 0, .int .i64 0, .int .i64 0, .int .i64 0, .int .i64 0] 33)).alloc (.cells #[.int .i64 a.f0, .int .i64 0, .int .i64 a.f2, .int .i64 a.f3, .int .i64 a.f4, .int .i64 0, .int .i64 0, .int .i64 a.f7, .int .i64 0] 33)).drew) := below_drew (below_alloc (below_alloc (below_alloc (Below.refl _ w) _) _) _)
  have hX : ((((w.alloc (.cells #[.int .i64 a.f0, .int .i64 a.f1, .int .i64 a.f2, .int .i64 a.f3, .int .i64 a.f4, .int .i64 a.f5, .int .i64 a.f6, .int .i64 a.f7, .int .i64 a.f8] 33)).alloc (.cells #[.int .i64 0, .int .i64 0, .int .i64 0, .int .i64 0, .int .i64 0, .int .i64 0, .int .i64 0, .int .i64 0, .int .i64 0] 33)).alloc (.cells #[.int .i64 a.f0, .int .i64 0, .int .i64 a.f2, .int .i64 a.f3, .int .i64 a.f4, .int .i64 0, .int .i64 0, .int .i64 a.f7, .int .i64 0] 33)).drew).heap[w.heap.size + 1 + 1]? = some (.cells #[.int .i64 a.f0, .int .i64 0, .int .i64 a.f2, .int .i64 a.f3, .int .i64 a.f4, .int .i64 0, .int .i64 0, .int .i64 a.f7, .int .i64 0] 33 (0, 0)) := by
    have h := heap_alloc_new ((w.alloc (.cells #[.int .i64 a.f0, .int .i64 a.f1, .int .i64 a.f2, .int .i64 a.f3, .int .i64 a.f4, .int .i64 a.f5, .int .i64 a.f6, .int .i64 a.f7, .int .i64 a.f8] 33)).alloc (.cells #[.int .i64 0, .int .i64 0, .int .i64 0, .int .i64 0, .int .i64 0, .int .i64 0, .int .i64 0, .int .i64 0, .int .i64 0] 33)) (.cells #[.int .i64 a.f0, .int .i64 0, .int .i64 a.f2, .int .i64 a.f3, .int .i64 a.f4, .int .i64 0, .int .i64 0, .int .i64 a.f7, .int .i64 0] 33)
    simp only [size_alloc2] at h
    exact h
  have hR : ((((w.alloc (.cells #[.int .i64 a.f0, .int .i64 a.f1, .int .i64 a.f2, .int .i64 a.f3, .int .i64 a.f4, .int .i64 a.f5, .int .i64 a.f6, .int .i64 a.f7, .int .i64 a.f8] 33)).alloc (.cells #[.int .i64 0, .int .i64 0, .int .i64 0, .int .i64 0, .int .i64 0, .int .i64 0, .int .i64 0, .int .i64 0, .int .i64 0] 33)).alloc (.cells #[.int .i64 a.f0, .int .i64 0, .int .i64 a.f2, .int .i64 a.f3, .int .i64 a.f4, .int .i64 0, .int .i64 0, .int .i64 a.f7, .int .i64 0] 33)).drew).heap[w.heap.size + 1]? = some (.cells #[.int .i64 0, .int .i64 0, .int .i64 0, .int .i64 0, .int .i64 0, .int .i64 0, .int .i64 0, .int .i64 0, .int .i64 0] 33 (0, 0)) := by
    have h := below_read (below_alloc (Below.refl _ ((w.alloc (.cells #[.int .i64 a.f0, .int .i64 a.f1, .int .i64 a.f2, .int .i64 a.f3, .int .i64 a.f4, .int .i64 a.f5, .int .i64 a.f6, .int .i64 a.f7, .int .i64 a.f8] 33)).alloc (.cells #[.int .i64 0, .int .i64 0, .int .i64 0, .int .i64 0, .int .i64 0, .int .i64 0, .int .i64 0, .int .i64 0, .int .i64 0] 33))) (.cells #[.int .i64 a.f0, .int .i64 0, .int .i64 a.f2, .int .i64 a.f3, .int .i64 a.f4, .int .i64 0, .int .i64 0, .int .i64 a.f7, .int .i64 0] 33)) (heap_alloc_new (w.alloc (.cells #[.int .i64 a.f0, .int .i64 a.f1, .int .i64 a.f2, .int .i64 a.f3, .int .i64 a.f4, .int .i64 a.f5, .int .i64 a.f6, .int .i64 a.f7, .int .i64 a.f8] 33)) (.cells #[.int .i64 0, .int .i64 0, .int .i64 0, .int .i64 0, .int .i64 0, .int .i64 0, .int .i64 0, .int .i64 0, .int .i64 0] 33))
    simp only [size_alloc2] at h
    exact h
  unfold actV
  go_enter Try.func77, Try.ntmps77
  go_wp2_with fail
  go_region
  generalize World.drew _ = w2 at *
  have hx0 := (blk_cell hX 0).trans rfl
  have hx1 := (blk_cell hX 1).trans rfl
  have hx2 := (blk_cell hX 2).trans rfl
  have hx3 := (blk_cell hX 3).trans rfl
  have hx4 := (blk_cell hX 4).trans rfl
  have hx5 := (blk_cell hX 5).trans rfl
  have hx6 := (blk_cell hX 6).trans rfl
  have hx7 := (blk_cell hX 7).trans rfl
  have hx8 := (blk_cell hX 8).trans rfl
  clear hX
  go_wp2_with (first | ((with_reducible refine gate_store (t := 33) (p := 2) rfl ?_); refine put_row ?hg ?hn 33 (.tmp 2) (.tmp 104) ?ho (w.heap.size + 1) 33 _ (actC (⟨a.f0, 0, a.f2, a.f3, a.f4, 0, 0, a.f7, 0⟩ : S33)) ?hp ?hx ?hu hR ?ht ?hs ?h1 ?_; (case hg => rfl); (case hn => rfl); (case ho => rfl); (case hp => rfl); (case hx => rfl); (case hu => rfl); (case ht => kernel_rfl); (case hs => rfl); (case h1 => exact actC_one (⟨a.f0, 0, a.f2, a.f3, a.f4, 0, 0, a.f7, 0⟩ : S33)); intro w3 hR2 hG))
  refine bodyPost_ret (results_cell_row rfl _ _ (w.heap.size + 1) 33 _ (0, 0) _ rfl hR2 Try.underlying33 rfl (by kernel_rfl)) rfl ?_
  exact ⟨rfl, hW.grown hG hW.size (fun k hk => by injection hk with hk; omega)⟩
set_option maxHeartbeats 4000000 in
set_option maxRecDepth 100000 in
theorem named_9 (w : World) (a : S33) (k1 : a.f0 = 9) :
    Calls Try.prog 77 #[actV a] w fun e w' => e = .returned (actV ⟨a.f0, 0, 0, 0, a.f4, 0, 0, a.f7, 0⟩) ∧ Below w.heap.size w w' := by
  have kb1 : (a.f0 == 1) = false := beq_eq_false_iff_ne.mpr (by omega)
  have kb2 : (a.f0 == 2) = false := beq_eq_false_iff_ne.mpr (by omega)
  have kb3 : (a.f0 == 3) = false := beq_eq_false_iff_ne.mpr (by omega)
  have kb4 : (a.f0 == 4) = false := beq_eq_false_iff_ne.mpr (by omega)
  have kb5 : (a.f0 == 5) = false := beq_eq_false_iff_ne.mpr (by omega)
  have kb6 : (a.f0 == 6) = false := beq_eq_false_iff_ne.mpr (by omega)
  have kb7 : (a.f0 == 7) = false := beq_eq_false_iff_ne.mpr (by omega)
  have kb8 : (a.f0 == 8) = false := beq_eq_false_iff_ne.mpr (by omega)
  have kb9 : (a.f0 == 9) = true := beq_iff_eq.mpr k1
  clear k1
  have hW : Below w.heap.size w ((((w.alloc (.cells #[.int .i64 a.f0, .int .i64 a.f1, .int .i64 a.f2, .int .i64 a.f3, .int .i64 a.f4, .int .i64 a.f5, .int .i64 a.f6, .int .i64 a.f7, .int .i64 a.f8] 33)).alloc (.cells #[.int .i64 0, .int .i64 0, .int .i64 0, .int .i64 0, .int .i64 0, .int .i64 0, .int .i64 0, .int .i64 0, .int .i64 0] 33)).alloc (.cells #[.int .i64 a.f0, .int .i64 0, .int .i64 0, .int .i64 0, .int .i64 a.f4, .int .i64 0, .int .i64 0, .int .i64 a.f7, .int .i64 0] 33))) := (below_alloc (below_alloc (below_alloc (Below.refl _ w) _) _) _)
  have hX : ((((w.alloc (.cells #[.int .i64 a.f0, .int .i64 a.f1, .int .i64 a.f2, .int .i64 a.f3, .int .i64 a.f4, .int .i64 a.f5, .int .i64 a.f6, .int .i64 a.f7, .int .i64 a.f8] 33)).alloc (.cells #[.int .i64 0, .int .i64 0, .int .i64 0, .int .i64 0, .int .i64 0, .int .i64 0, .int .i64 0, .int .i64 0, .int .i64 0] 33)).alloc (.cells #[.int .i64 a.f0, .int .i64 0, .int .i64 0, .int .i64 0, .int .i64 a.f4, .int .i64 0, .int .i64 0, .int .i64 a.f7, .int .i64 0] 33))).heap[w.heap.size + 1 + 1]? = some (.cells #[.int .i64 a.f0, .int .i64 0, .int .i64 0, .int .i64 0, .int .i64 a.f4, .int .i64 0, .int .i64 0, .int .i64 a.f7, .int .i64 0] 33 (0, 0)) := by
    have h := heap_alloc_new ((w.alloc (.cells #[.int .i64 a.f0, .int .i64 a.f1, .int .i64 a.f2, .int .i64 a.f3, .int .i64 a.f4, .int .i64 a.f5, .int .i64 a.f6, .int .i64 a.f7, .int .i64 a.f8] 33)).alloc (.cells #[.int .i64 0, .int .i64 0, .int .i64 0, .int .i64 0, .int .i64 0, .int .i64 0, .int .i64 0, .int .i64 0, .int .i64 0] 33)) (.cells #[.int .i64 a.f0, .int .i64 0, .int .i64 0, .int .i64 0, .int .i64 a.f4, .int .i64 0, .int .i64 0, .int .i64 a.f7, .int .i64 0] 33)
    simp only [size_alloc2] at h
    exact h
  have hR : ((((w.alloc (.cells #[.int .i64 a.f0, .int .i64 a.f1, .int .i64 a.f2, .int .i64 a.f3, .int .i64 a.f4, .int .i64 a.f5, .int .i64 a.f6, .int .i64 a.f7, .int .i64 a.f8] 33)).alloc (.cells #[.int .i64 0, .int .i64 0, .int .i64 0, .int .i64 0, .int .i64 0, .int .i64 0, .int .i64 0, .int .i64 0, .int .i64 0] 33)).alloc (.cells #[.int .i64 a.f0, .int .i64 0, .int .i64 0, .int .i64 0, .int .i64 a.f4, .int .i64 0, .int .i64 0, .int .i64 a.f7, .int .i64 0] 33))).heap[w.heap.size + 1]? = some (.cells #[.int .i64 0, .int .i64 0, .int .i64 0, .int .i64 0, .int .i64 0, .int .i64 0, .int .i64 0, .int .i64 0, .int .i64 0] 33 (0, 0)) := by
    have h := below_read (below_alloc (Below.refl _ ((w.alloc (.cells #[.int .i64 a.f0, .int .i64 a.f1, .int .i64 a.f2, .int .i64 a.f3, .int .i64 a.f4, .int .i64 a.f5, .int .i64 a.f6, .int .i64 a.f7, .int .i64 a.f8] 33)).alloc (.cells #[.int .i64 0, .int .i64 0, .int .i64 0, .int .i64 0, .int .i64 0, .int .i64 0, .int .i64 0, .int .i64 0, .int .i64 0] 33))) (.cells #[.int .i64 a.f0, .int .i64 0, .int .i64 0, .int .i64 0, .int .i64 a.f4, .int .i64 0, .int .i64 0, .int .i64 a.f7, .int .i64 0] 33)) (heap_alloc_new (w.alloc (.cells #[.int .i64 a.f0, .int .i64 a.f1, .int .i64 a.f2, .int .i64 a.f3, .int .i64 a.f4, .int .i64 a.f5, .int .i64 a.f6, .int .i64 a.f7, .int .i64 a.f8] 33)) (.cells #[.int .i64 0, .int .i64 0, .int .i64 0, .int .i64 0, .int .i64 0, .int .i64 0, .int .i64 0, .int .i64 0, .int .i64 0] 33))
    simp only [size_alloc2] at h
    exact h
  unfold actV
  go_enter Try.func77, Try.ntmps77
  clear hX
  go_wp2_with (first | ((with_reducible refine gate_store (t := 33) (p := 2) rfl ?_); refine put_row ?hg ?hn 33 (.tmp 2) (.tmp 104) ?ho (w.heap.size + 1) 33 _ (actC (⟨a.f0, 0, 0, 0, a.f4, 0, 0, a.f7, 0⟩ : S33)) ?hp ?hx ?hu hR ?ht ?hs ?h1 ?_; (case hg => rfl); (case hn => rfl); (case ho => rfl); (case hp => rfl); (case hx => rfl); (case hu => rfl); (case ht => kernel_rfl); (case hs => rfl); (case h1 => exact actC_one (⟨a.f0, 0, 0, 0, a.f4, 0, 0, a.f7, 0⟩ : S33)); intro w3 hR2 hG))
  refine bodyPost_ret (results_cell_row rfl _ _ (w.heap.size + 1) 33 _ (0, 0) _ rfl hR2 Try.underlying33 rfl (by kernel_rfl)) rfl ?_
  exact ⟨rfl, hW.grown hG hW.size (fun k hk => by injection hk with hk; omega)⟩
set_option maxHeartbeats 4000000 in
set_option maxRecDepth 100000 in
theorem named_10 (w : World) (a : S33) (k1 : a.f0 = 10) :
    Calls Try.prog 77 #[actV a] w fun e w' => e = .returned (actV ⟨a.f0, 0, 0, 0, a.f4, 0, 0, a.f7, 0⟩) ∧ Below w.heap.size w w' := by
  have kb1 : (a.f0 == 1) = false := beq_eq_false_iff_ne.mpr (by omega)
  have kb2 : (a.f0 == 2) = false := beq_eq_false_iff_ne.mpr (by omega)
  have kb3 : (a.f0 == 3) = false := beq_eq_false_iff_ne.mpr (by omega)
  have kb4 : (a.f0 == 4) = false := beq_eq_false_iff_ne.mpr (by omega)
  have kb5 : (a.f0 == 5) = false := beq_eq_false_iff_ne.mpr (by omega)
  have kb6 : (a.f0 == 6) = false := beq_eq_false_iff_ne.mpr (by omega)
  have kb7 : (a.f0 == 7) = false := beq_eq_false_iff_ne.mpr (by omega)
  have kb8 : (a.f0 == 8) = false := beq_eq_false_iff_ne.mpr (by omega)
  have kb9 : (a.f0 == 9) = false := beq_eq_false_iff_ne.mpr (by omega)
  have kb10 : (a.f0 == 10) = true := beq_iff_eq.mpr k1
  clear k1
  have hW : Below w.heap.size w ((((w.alloc (.cells #[.int .i64 a.f0, .int .i64 a.f1, .int .i64 a.f2, .int .i64 a.f3, .int .i64 a.f4, .int .i64 a.f5, .int .i64 a.f6, .int .i64 a.f7, .int .i64 a.f8] 33)).alloc (.cells #[.int .i64 0, .int .i64 0, .int .i64 0, .int .i64 0, .int .i64 0, .int .i64 0, .int .i64 0, .int .i64 0, .int .i64 0] 33)).alloc (.cells #[.int .i64 a.f0, .int .i64 0, .int .i64 0, .int .i64 0, .int .i64 a.f4, .int .i64 0, .int .i64 0, .int .i64 a.f7, .int .i64 0] 33))) := (below_alloc (below_alloc (below_alloc (Below.refl _ w) _) _) _)
  have hX : ((((w.alloc (.cells #[.int .i64 a.f0, .int .i64 a.f1, .int .i64 a.f2, .int .i64 a.f3, .int .i64 a.f4, .int .i64 a.f5, .int .i64 a.f6, .int .i64 a.f7, .int .i64 a.f8] 33)).alloc (.cells #[.int .i64 0, .int .i64 0, .int .i64 0, .int .i64 0, .int .i64 0, .int .i64 0, .int .i64 0, .int .i64 0, .int .i64 0] 33)).alloc (.cells #[.int .i64 a.f0, .int .i64 0, .int .i64 0, .int .i64 0, .int .i64 a.f4, .int .i64 0, .int .i64 0, .int .i64 a.f7, .int .i64 0] 33))).heap[w.heap.size + 1 + 1]? = some (.cells #[.int .i64 a.f0, .int .i64 0, .int .i64 0, .int .i64 0, .int .i64 a.f4, .int .i64 0, .int .i64 0, .int .i64 a.f7, .int .i64 0] 33 (0, 0)) := by
    have h := heap_alloc_new ((w.alloc (.cells #[.int .i64 a.f0, .int .i64 a.f1, .int .i64 a.f2, .int .i64 a.f3, .int .i64 a.f4, .int .i64 a.f5, .int .i64 a.f6, .int .i64 a.f7, .int .i64 a.f8] 33)).alloc (.cells #[.int .i64 0, .int .i64 0, .int .i64 0, .int .i64 0, .int .i64 0, .int .i64 0, .int .i64 0, .int .i64 0, .int .i64 0] 33)) (.cells #[.int .i64 a.f0, .int .i64 0, .int .i64 0, .int .i64 0, .int .i64 a.f4, .int .i64 0, .int .i64 0, .int .i64 a.f7, .int .i64 0] 33)
    simp only [size_alloc2] at h
    exact h
  have hR : ((((w.alloc (.cells #[.int .i64 a.f0, .int .i64 a.f1, .int .i64 a.f2, .int .i64 a.f3, .int .i64 a.f4, .int .i64 a.f5, .int .i64 a.f6, .int .i64 a.f7, .int .i64 a.f8] 33)).alloc (.cells #[.int .i64 0, .int .i64 0, .int .i64 0, .int .i64 0, .int .i64 0, .int .i64 0, .int .i64 0, .int .i64 0, .int .i64 0] 33)).alloc (.cells #[.int .i64 a.f0, .int .i64 0, .int .i64 0, .int .i64 0, .int .i64 a.f4, .int .i64 0, .int .i64 0, .int .i64 a.f7, .int .i64 0] 33))).heap[w.heap.size + 1]? = some (.cells #[.int .i64 0, .int .i64 0, .int .i64 0, .int .i64 0, .int .i64 0, .int .i64 0, .int .i64 0, .int .i64 0, .int .i64 0] 33 (0, 0)) := by
    have h := below_read (below_alloc (Below.refl _ ((w.alloc (.cells #[.int .i64 a.f0, .int .i64 a.f1, .int .i64 a.f2, .int .i64 a.f3, .int .i64 a.f4, .int .i64 a.f5, .int .i64 a.f6, .int .i64 a.f7, .int .i64 a.f8] 33)).alloc (.cells #[.int .i64 0, .int .i64 0, .int .i64 0, .int .i64 0, .int .i64 0, .int .i64 0, .int .i64 0, .int .i64 0, .int .i64 0] 33))) (.cells #[.int .i64 a.f0, .int .i64 0, .int .i64 0, .int .i64 0, .int .i64 a.f4, .int .i64 0, .int .i64 0, .int .i64 a.f7, .int .i64 0] 33)) (heap_alloc_new (w.alloc (.cells #[.int .i64 a.f0, .int .i64 a.f1, .int .i64 a.f2, .int .i64 a.f3, .int .i64 a.f4, .int .i64 a.f5, .int .i64 a.f6, .int .i64 a.f7, .int .i64 a.f8] 33)) (.cells #[.int .i64 0, .int .i64 0, .int .i64 0, .int .i64 0, .int .i64 0, .int .i64 0, .int .i64 0, .int .i64 0, .int .i64 0] 33))
    simp only [size_alloc2] at h
    exact h
  unfold actV
  go_enter Try.func77, Try.ntmps77
  clear hX
  go_wp2_with (first | ((with_reducible refine gate_store (t := 33) (p := 2) rfl ?_); refine put_row ?hg ?hn 33 (.tmp 2) (.tmp 104) ?ho (w.heap.size + 1) 33 _ (actC (⟨a.f0, 0, 0, 0, a.f4, 0, 0, a.f7, 0⟩ : S33)) ?hp ?hx ?hu hR ?ht ?hs ?h1 ?_; (case hg => rfl); (case hn => rfl); (case ho => rfl); (case hp => rfl); (case hx => rfl); (case hu => rfl); (case ht => kernel_rfl); (case hs => rfl); (case h1 => exact actC_one (⟨a.f0, 0, 0, 0, a.f4, 0, 0, a.f7, 0⟩ : S33)); intro w3 hR2 hG))
  refine bodyPost_ret (results_cell_row rfl _ _ (w.heap.size + 1) 33 _ (0, 0) _ rfl hR2 Try.underlying33 rfl (by kernel_rfl)) rfl ?_
  exact ⟨rfl, hW.grown hG hW.size (fun k hk => by injection hk with hk; omega)⟩
set_option maxHeartbeats 4000000 in
set_option maxRecDepth 100000 in
theorem named_11 (w : World) (a : S33) (k1 : a.f0 = 11) :
    Calls Try.prog 77 #[actV a] w fun e w' => e = .returned (actV ⟨a.f0, 0, a.f2, a.f3, 0, 0, a.f6, a.f7, a.f8⟩) ∧ Below w.heap.size w w' := by
  have kb1 : (a.f0 == 1) = false := beq_eq_false_iff_ne.mpr (by omega)
  have kb2 : (a.f0 == 2) = false := beq_eq_false_iff_ne.mpr (by omega)
  have kb3 : (a.f0 == 3) = false := beq_eq_false_iff_ne.mpr (by omega)
  have kb4 : (a.f0 == 4) = false := beq_eq_false_iff_ne.mpr (by omega)
  have kb5 : (a.f0 == 5) = false := beq_eq_false_iff_ne.mpr (by omega)
  have kb6 : (a.f0 == 6) = false := beq_eq_false_iff_ne.mpr (by omega)
  have kb7 : (a.f0 == 7) = false := beq_eq_false_iff_ne.mpr (by omega)
  have kb8 : (a.f0 == 8) = false := beq_eq_false_iff_ne.mpr (by omega)
  have kb9 : (a.f0 == 9) = false := beq_eq_false_iff_ne.mpr (by omega)
  have kb10 : (a.f0 == 10) = false := beq_eq_false_iff_ne.mpr (by omega)
  have kb11 : (a.f0 == 11) = true := beq_iff_eq.mpr k1
  clear k1
  have hW : Below w.heap.size w ((((w.alloc (.cells #[.int .i64 a.f0, .int .i64 a.f1, .int .i64 a.f2, .int .i64 a.f3, .int .i64 a.f4, .int .i64 a.f5, .int .i64 a.f6, .int .i64 a.f7, .int .i64 a.f8] 33)).alloc (.cells #[.int .i64 0, .int .i64 0, .int .i64 0, .int .i64 0, .int .i64 0, .int .i64 0, .int .i64 0, .int .i64 0, .int .i64 0] 33)).alloc (.cells #[.int .i64 a.f0, .int .i64 0, .int .i64 a.f2, .int .i64 a.f3, .int .i64 0, .int .i64 0, .int .i64 a.f6, .int .i64 a.f7, .int .i64 a.f8] 33)).drew) := below_drew (below_alloc (below_alloc (below_alloc (Below.refl _ w) _) _) _)
  have hX : ((((w.alloc (.cells #[.int .i64 a.f0, .int .i64 a.f1, .int .i64 a.f2, .int .i64 a.f3, .int .i64 a.f4, .int .i64 a.f5, .int .i64 a.f6, .int .i64 a.f7, .int .i64 a.f8] 33)).alloc (.cells #[.int .i64 0, .int .i64 0, .int .i64 0, .int .i64 0, .int .i64 0, .int .i64 0, .int .i64 0, .int .i64 0, .int .i64 0] 33)).alloc (.cells #[.int .i64 a.f0, .int .i64 0, .int .i64 a.f2, .int .i64 a.f3, .int .i64 0, .int .i64 0, .int .i64 a.f6, .int .i64 a.f7, .int .i64 a.f8] 33)).drew).heap[w.heap.size + 1 + 1]? = some (.cells #[.int .i64 a.f0, .int .i64 0, .int .i64 a.f2, .int .i64 a.f3, .int .i64 0, .int .i64 0, .int .i64 a.f6, .int .i64 a.f7, .int .i64 a.f8] 33 (0, 0)) := by
    have h := heap_alloc_new ((w.alloc (.cells #[.int .i64 a.f0, .int .i64 a.f1, .int .i64 a.f2, .int .i64 a.f3, .int .i64 a.f4, .int .i64 a.f5, .int .i64 a.f6, .int .i64 a.f7, .int .i64 a.f8] 33)).alloc (.cells #[.int .i64 0, .int .i64 0, .int .i64 0, .int .i64 0, .int .i64 0, .int .i64 0, .int .i64 0, .int .i64 0, .int .i64 0] 33)) (.cells #[.int .i64 a.f0, .int .i64 0, .int .i64 a.f2, .int .i64 a.f3, .int .i64 0, .int .i64 0, .int .i64 a.f6, .int .i64 a.f7, .int .i64 a.f8] 33)
    simp only [size_alloc2] at h
    exact h
  have hR : ((((w.alloc (.cells #[.int .i64 a.f0, .int .i64 a.f1, .int .i64 a.f2, .int .i64 a.f3, .int .i64 a.f4, .int .i64 a.f5, .int .i64 a.f6, .int .i64 a.f7, .int .i64 a.f8] 33)).alloc (.cells #[.int .i64 0, .int .i64 0, .int .i64 0, .int .i64 0, .int .i64 0, .int .i64 0, .int .i64 0, .int .i64 0, .int .i64 0] 33)).alloc (.cells #[.int .i64 a.f0, .int .i64 0, .int .i64 a.f2, .int .i64 a.f3, .int .i64 0, .int .i64 0, .int .i64 a.f6, .int .i64 a.f7, .int .i64 a.f8] 33)).drew).heap[w.heap.size + 1]? = some (.cells #[.int .i64 0, .int .i64 0, .int .i64 0, .int .i64 0, .int .i64 0, .int .i64 0, .int .i64 0, .int .i64 0, .int .i64 0] 33 (0, 0)) := by
    have h := below_read (below_alloc (Below.refl _ ((w.alloc (.cells #[.int .i64 a.f0, .int .i64 a.f1, .int .i64 a.f2, .int .i64 a.f3, .int .i64 a.f4, .int .i64 a.f5, .int .i64 a.f6, .int .i64 a.f7, .int .i64 a.f8] 33)).alloc (.cells #[.int .i64 0, .int .i64 0, .int .i64 0, .int .i64 0, .int .i64 0, .int .i64 0, .int .i64 0, .int .i64 0, .int .i64 0] 33))) (.cells #[.int .i64 a.f0, .int .i64 0, .int .i64 a.f2, .int .i64 a.f3, .int .i64 0, .int .i64 0, .int .i64 a.f6, .int .i64 a.f7, .int .i64 a.f8] 33)) (heap_alloc_new (w.alloc (.cells #[.int .i64 a.f0, .int .i64 a.f1, .int .i64 a.f2, .int .i64 a.f3, .int .i64 a.f4, .int .i64 a.f5, .int .i64 a.f6, .int .i64 a.f7, .int .i64 a.f8] 33)) (.cells #[.int .i64 0, .int .i64 0, .int .i64 0, .int .i64 0, .int .i64 0, .int .i64 0, .int .i64 0, .int .i64 0, .int .i64 0] 33))
    simp only [size_alloc2] at h
    exact h
  unfold actV
  go_enter Try.func77, Try.ntmps77
  go_wp2_with fail
  go_region
  generalize World.drew _ = w2 at *
  have hx0 := (blk_cell hX 0).trans rfl
  have hx1 := (blk_cell hX 1).trans rfl
  have hx2 := (blk_cell hX 2).trans rfl
  have hx3 := (blk_cell hX 3).trans rfl
  have hx4 := (blk_cell hX 4).trans rfl
  have hx5 := (blk_cell hX 5).trans rfl
  have hx6 := (blk_cell hX 6).trans rfl
  have hx7 := (blk_cell hX 7).trans rfl
  have hx8 := (blk_cell hX 8).trans rfl
  clear hX
  go_wp2_with (first | ((with_reducible refine gate_store (t := 33) (p := 2) rfl ?_); refine put_row ?hg ?hn 33 (.tmp 2) (.tmp 104) ?ho (w.heap.size + 1) 33 _ (actC (⟨a.f0, 0, a.f2, a.f3, 0, 0, a.f6, a.f7, a.f8⟩ : S33)) ?hp ?hx ?hu hR ?ht ?hs ?h1 ?_; (case hg => rfl); (case hn => rfl); (case ho => rfl); (case hp => rfl); (case hx => rfl); (case hu => rfl); (case ht => kernel_rfl); (case hs => rfl); (case h1 => exact actC_one (⟨a.f0, 0, a.f2, a.f3, 0, 0, a.f6, a.f7, a.f8⟩ : S33)); intro w3 hR2 hG))
  refine bodyPost_ret (results_cell_row rfl _ _ (w.heap.size + 1) 33 _ (0, 0) _ rfl hR2 Try.underlying33 rfl (by kernel_rfl)) rfl ?_
  exact ⟨rfl, hW.grown hG hW.size (fun k hk => by injection hk with hk; omega)⟩
set_option maxHeartbeats 4000000 in
set_option maxRecDepth 100000 in
theorem named_0 (w : World) (a : S33) (k1 : a.f0 ≠ 1 ∧ a.f0 ≠ 2 ∧ a.f0 ≠ 3 ∧ a.f0 ≠ 4 ∧ a.f0 ≠ 5 ∧ a.f0 ≠ 6 ∧ a.f0 ≠ 7 ∧ a.f0 ≠ 8 ∧ a.f0 ≠ 9 ∧ a.f0 ≠ 10 ∧ a.f0 ≠ 11) :
    Calls Try.prog 77 #[actV a] w fun e w' => e = .returned (actV ⟨a.f0, 0, 0, 0, 0, 0, 0, a.f7, 0⟩) ∧ Below w.heap.size w w' := by
  have kb1 : (a.f0 == 1) = false := beq_eq_false_iff_ne.mpr (by omega)
  have kb2 : (a.f0 == 2) = false := beq_eq_false_iff_ne.mpr (by omega)
  have kb3 : (a.f0 == 3) = false := beq_eq_false_iff_ne.mpr (by omega)
  have kb4 : (a.f0 == 4) = false := beq_eq_false_iff_ne.mpr (by omega)
  have kb5 : (a.f0 == 5) = false := beq_eq_false_iff_ne.mpr (by omega)
  have kb6 : (a.f0 == 6) = false := beq_eq_false_iff_ne.mpr (by omega)
  have kb7 : (a.f0 == 7) = false := beq_eq_false_iff_ne.mpr (by omega)
  have kb8 : (a.f0 == 8) = false := beq_eq_false_iff_ne.mpr (by omega)
  have kb9 : (a.f0 == 9) = false := beq_eq_false_iff_ne.mpr (by omega)
  have kb10 : (a.f0 == 10) = false := beq_eq_false_iff_ne.mpr (by omega)
  have kb11 : (a.f0 == 11) = false := beq_eq_false_iff_ne.mpr (by omega)
  clear k1
  have hW : Below w.heap.size w ((((w.alloc (.cells #[.int .i64 a.f0, .int .i64 a.f1, .int .i64 a.f2, .int .i64 a.f3, .int .i64 a.f4, .int .i64 a.f5, .int .i64 a.f6, .int .i64 a.f7, .int .i64 a.f8] 33)).alloc (.cells #[.int .i64 0, .int .i64 0, .int .i64 0, .int .i64 0, .int .i64 0, .int .i64 0, .int .i64 0, .int .i64 0, .int .i64 0] 33)).alloc (.cells #[.int .i64 a.f0, .int .i64 0, .int .i64 0, .int .i64 0, .int .i64 0, .int .i64 0, .int .i64 0, .int .i64 a.f7, .int .i64 0] 33))) := (below_alloc (below_alloc (below_alloc (Below.refl _ w) _) _) _)
  have hX : ((((w.alloc (.cells #[.int .i64 a.f0, .int .i64 a.f1, .int .i64 a.f2, .int .i64 a.f3, .int .i64 a.f4, .int .i64 a.f5, .int .i64 a.f6, .int .i64 a.f7, .int .i64 a.f8] 33)).alloc (.cells #[.int .i64 0, .int .i64 0, .int .i64 0, .int .i64 0, .int .i64 0, .int .i64 0, .int .i64 0, .int .i64 0, .int .i64 0] 33)).alloc (.cells #[.int .i64 a.f0, .int .i64 0, .int .i64 0, .int .i64 0, .int .i64 0, .int .i64 0, .int .i64 0, .int .i64 a.f7, .int .i64 0] 33))).heap[w.heap.size + 1 + 1]? = some (.cells #[.int .i64 a.f0, .int .i64 0, .int .i64 0, .int .i64 0, .int .i64 0, .int .i64 0, .int .i64 0, .int .i64 a.f7, .int .i64 0] 33 (0, 0)) := by
    have h := heap_alloc_new ((w.alloc (.cells #[.int .i64 a.f0, .int .i64 a.f1, .int .i64 a.f2, .int .i64 a.f3, .int .i64 a.f4, .int .i64 a.f5, .int .i64 a.f6, .int .i64 a.f7, .int .i64 a.f8] 33)).alloc (.cells #[.int .i64 0, .int .i64 0, .int .i64 0, .int .i64 0, .int .i64 0, .int .i64 0, .int .i64 0, .int .i64 0, .int .i64 0] 33)) (.cells #[.int .i64 a.f0, .int .i64 0, .int .i64 0, .int .i64 0, .int .i64 0, .int .i64 0, .int .i64 0, .int .i64 a.f7, .int .i64 0] 33)
    simp only [size_alloc2] at h
    exact h
  have hR : ((((w.alloc (.cells #[.int .i64 a.f0, .int .i64 a.f1, .int .i64 a.f2, .int .i64 a.f3, .int .i64 a.f4, .int .i64 a.f5, .int .i64 a.f6, .int .i64 a.f7, .int .i64 a.f8] 33)).alloc (.cells #[.int .i64 0, .int .i64 0, .int .i64 0, .int .i64 0, .int .i64 0, .int .i64 0, .int .i64 0, .int .i64 0, .int .i64 0] 33)).alloc (.cells #[.int .i64 a.f0, .int .i64 0, .int .i64 0, .int .i64 0, .int .i64 0, .int .i64 0, .int .i64 0, .int .i64 a.f7, .int .i64 0] 33))).heap[w.heap.size + 1]? = some (.cells #[.int .i64 0, .int .i64 0, .int .i64 0, .int .i64 0, .int .i64 0, .int .i64 0, .int .i64 0, .int .i64 0, .int .i64 0] 33 (0, 0)) := by
    have h := below_read (below_alloc (Below.refl _ ((w.alloc (.cells #[.int .i64 a.f0, .int .i64 a.f1, .int .i64 a.f2, .int .i64 a.f3, .int .i64 a.f4, .int .i64 a.f5, .int .i64 a.f6, .int .i64 a.f7, .int .i64 a.f8] 33)).alloc (.cells #[.int .i64 0, .int .i64 0, .int .i64 0, .int .i64 0, .int .i64 0, .int .i64 0, .int .i64 0, .int .i64 0, .int .i64 0] 33))) (.cells #[.int .i64 a.f0, .int .i64 0, .int .i64 0, .int .i64 0, .int .i64 0, .int .i64 0, .int .i64 0, .int .i64 a.f7, .int .i64 0] 33)) (heap_alloc_new (w.alloc (.cells #[.int .i64 a.f0, .int .i64 a.f1, .int .i64 a.f2, .int .i64 a.f3, .int .i64 a.f4, .int .i64 a.f5, .int .i64 a.f6, .int .i64 a.f7, .int .i64 a.f8] 33)) (.cells #[.int .i64 0, .int .i64 0, .int .i64 0, .int .i64 0, .int .i64 0, .int .i64 0, .int .i64 0, .int .i64 0, .int .i64 0] 33))
    simp only [size_alloc2] at h
    exact h
  unfold actV
  go_enter Try.func77, Try.ntmps77
  clear hX
  go_wp2_with (first | ((with_reducible refine gate_store (t := 33) (p := 2) rfl ?_); refine put_row ?hg ?hn 33 (.tmp 2) (.tmp 104) ?ho (w.heap.size + 1) 33 _ (actC (⟨a.f0, 0, 0, 0, 0, 0, 0, a.f7, 0⟩ : S33)) ?hp ?hx ?hu hR ?ht ?hs ?h1 ?_; (case hg => rfl); (case hn => rfl); (case ho => rfl); (case hp => rfl); (case hx => rfl); (case hu => rfl); (case ht => kernel_rfl); (case hs => rfl); (case h1 => exact actC_one (⟨a.f0, 0, 0, 0, 0, 0, 0, a.f7, 0⟩ : S33)); intro w3 hR2 hG))
  refine bodyPost_ret (results_cell_row rfl _ _ (w.heap.size + 1) 33 _ (0, 0) _ rfl hR2 Try.underlying33 rfl (by kernel_rfl)) rfl ?_
  exact ⟨rfl, hW.grown hG hW.size (fun k hk => by injection hk with hk; omega)⟩
end Go.Proofs.Ytikjamcemnbhbaa.Mr
