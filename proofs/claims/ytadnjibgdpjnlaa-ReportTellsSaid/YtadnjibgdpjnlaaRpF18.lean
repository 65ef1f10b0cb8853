/- An own text of this seat: Lean functions with the answers of Go functions, and that the Go code comes to them. Written by a program of this session out of the translation. -/
import Derived.Test.YtadnjibgdpjnlaaRpx0
import Derived.Test.YtadnjibgdpjnlaaRpx1
import Derived.Test.YtadnjibgdpjnlaaRpF15
import Derived.Test.YtadnjibgdpjnlaaRpF21
namespace Go.Proofs.Ytadnjibgdpjnlaa.Rp
open Go.RowKit Go.Proofs.YtadnjibgdpjnlaaW.PrintWords Go.Proofs.YtadnjibgdpjnlaaW.PrintLast Go.Proofs.YtadnjibgdpjnlaaW.PrintMore
open Go.Proofs.YtadnjibgdpjnlaaW.PrintWords renaming below_alloc → hR, pw_below_drewN → hS, below_drew1 → hT, below_step → hU, below_size → hV, blk_below → hW, blk_drewN → hX, blk_alloc → hY, blk_drew → hZ, blk_cell → h0, blk_frozen → h1, below_set → h2, box_event → h3
open Go.Proofs.YtadnjibgdpjnlaaW.PrintWords.Kd renaming R_alloc → h4, R_drewN → h5, R_drew → h6
open Go.World renaming block_lt_of_cell? → h7
theorem q18 {p : Prop} (h : p) : Aside0 p := ⟨h⟩
attribute [local go_sem] max2_int min2_int max_two min_two max_three min_three max_four min_four   -- for this text's walks alone
set_option linter.unusedVariables false
set_option linter.unusedSimpArgs false

attribute [local go_sem high] eqA24
/-! ### meddlerref17_Same: function 17 -/
mutual
def meddlerref17_Same.j0 : Nat → Bool → Int → Int → Int → List (S24) → Int → Int → Int → List (S24) → Option (Bool)
 | 0, _, _, _, _, _, _, _, _, _ => none
 | k + 1, d7, bL, bM, bN, x327003, bO, bP, bQ, x328003 => if d7 = true then (some false) else (meddlerref17_Same.l0 k 0 bL bM bN x327003 bO bP bQ x328003)
def meddlerref17_Same.l0 : Nat → Int → Int → Int → Int → List (S24) → Int → Int → Int → List (S24) → Option (Bool)
 | 0, _, _, _, _, _, _, _, _, _ => none
 | k + 1, x5, bL, bM, bN, x327003, bO, bP, bQ, x328003 => if x5 < (x327003.length : Int) then (if 0 ≤ x5 then (if x5 < (x328003.length : Int) then (if (!(((rd_T24 x327003 x5).f0) == ((rd_T24 x328003 x5).f0)) || (!(((rd_T24 x327003 x5).f1) == ((rd_T24 x328003 x5).f1)) || (!(((rd_T24 x327003 x5).f2) == ((rd_T24 x328003 x5).f2)) || (!(((rd_T24 x327003 x5).f3) == ((rd_T24 x328003 x5).f3)) || (!(((rd_T24 x327003 x5).f4) == ((rd_T24 x328003 x5).f4)) || (!(((rd_T24 x327003 x5).f5) == ((rd_T24 x328003 x5).f5)))))))) = true then (some false) else (meddlerref17_Same.l0 k (wrap64 (x5 + 1)) bL bM bN x327003 bO bP bQ x328003)) else (none)) else (none)) else (some true)
end
def meddlerref17_Same.f (k : Nat) (am : Int) (an : Int) (ac : Int) (l0_3 : List (S24)) (ar : Int) (au : Int) (av : Int) (l1_3 : List (S24)) : Option (Bool) := if am = ar then (if an = au then (if ac = av then (meddlerref17_Same.j0 k ((l0_3.length : Int) != (l1_3.length : Int)) am an ac l0_3 ar au av l1_3) else (meddlerref17_Same.j0 k true am an ac l0_3 ar au av l1_3)) else (meddlerref17_Same.j0 k true am an ac l0_3 ar au av l1_3)) else (meddlerref17_Same.j0 k true am an ac l0_3 ar au av l1_3)
theorem meddlerref17_Same.mono_l : ∀ k, (∀ y0 y1 y2 y3 y4 y5 y6 y7 y8, LeO (meddlerref17_Same.j0 k y0 y1 y2 y3 y4 y5 y6 y7 y8) (meddlerref17_Same.j0 (k + 1) y0 y1 y2 y3 y4 y5 y6 y7 y8)) ∧ (∀ y0 y1 y2 y3 y4 y5 y6 y7 y8, LeO (meddlerref17_Same.l0 k y0 y1 y2 y3 y4 y5 y6 y7 y8) (meddlerref17_Same.l0 (k + 1) y0 y1 y2 y3 y4 y5 y6 y7 y8))
 | 0 => ⟨fun _ _ _ _ _ _ _ _ _ r h => by simp [meddlerref17_Same.j0] at h, fun _ _ _ _ _ _ _ _ _ r h => by simp [meddlerref17_Same.l0] at h⟩
 | k + 1 => by
  obtain ⟨aT, a9⟩ := meddlerref17_Same.mono_l k
  refine ⟨?_, ?_⟩
  ·intro y0 y1 y2 y3 y4 y5 y6 y7 y8
   unfold meddlerref17_Same.j0
   repeat' first
   | (with_reducible exact aT _ _ _ _ _ _ _ _ _)
   | (with_reducible exact a9 _ _ _ _ _ _ _ _ _)
   | (with_reducible exact LeO.refl _)
   | (with_reducible exact LeO.none _)
   | (with_reducible refine LeO.ite ?_ ?_)
   | (with_reducible refine LeO.bind ?_ (fun _ => ?_))
   | exact aT _ _ _ _ _ _ _ _ _
   | exact a9 _ _ _ _ _ _ _ _ _
   | exact LeO.none _
   | refine LeO.ite ?_ ?_
   | refine LeO.bind ?_ (fun _ => ?_)
  ·intro y0 y1 y2 y3 y4 y5 y6 y7 y8
   unfold meddlerref17_Same.l0
   repeat' first
   | (with_reducible exact aT _ _ _ _ _ _ _ _ _)
   | (with_reducible exact a9 _ _ _ _ _ _ _ _ _)
   | (with_reducible exact LeO.refl _)
   | (with_reducible exact LeO.none _)
   | (with_reducible refine LeO.ite ?_ ?_)
   | (with_reducible refine LeO.bind ?_ (fun _ => ?_))
   | exact aT _ _ _ _ _ _ _ _ _
   | exact a9 _ _ _ _ _ _ _ _ _
   | exact LeO.none _
   | refine LeO.ite ?_ ?_
   | refine LeO.bind ?_ (fun _ => ?_)
theorem meddlerref17_Same.mono : ∀ a0 a1 a2 a3 a4 a5 a6 a7 k, LeO (meddlerref17_Same.f k a0 a1 a2 a3 a4 a5 a6 a7) (meddlerref17_Same.f (k + 1) a0 a1 a2 a3 a4 a5 a6 a7) := by
 intro a0 a1 a2 a3 a4 a5 a6 a7 k
 obtain ⟨aT, a9⟩ := meddlerref17_Same.mono_l k
 unfold meddlerref17_Same.f
 repeat' first
   | (with_reducible exact aT _ _ _ _ _ _ _ _ _)
   | (with_reducible exact a9 _ _ _ _ _ _ _ _ _)
   | (with_reducible exact LeO.refl _)
   | (with_reducible exact LeO.none _)
   | (with_reducible refine LeO.ite ?_ ?_)
   | (with_reducible refine LeO.bind ?_ (fun _ => ?_))
   | exact aT _ _ _ _ _ _ _ _ _
   | exact a9 _ _ _ _ _ _ _ _ _
   | exact LeO.none _
   | refine LeO.ite ?_ ?_
   | refine LeO.bind ?_ (fun _ => ?_)
set_option maxHeartbeats 8000000 in
set_option maxRecDepth 100000 in
theorem meddlerref17_Same.calls (k : Nat) (am : Int) (an : Int) (ac : Int) (aE : Option Addr) (aG : Nat) (l0_3 : List (S24)) (ar : Int) (au : Int) (av : Int) (aU : Option Addr) (aV : Nat) (l1_3 : List (S24)) (r : Bool) (w : World) (co : Kd.C k24 w aE l0_3.length l0_3) (cp : l0_3.length ≤ aG) (cq : Kd.C k24 w aU l1_3.length l1_3) (cr : l1_3.length ≤ aV) (h : meddlerref17_Same.f k am an ac l0_3 ar au av l1_3 = some r) :
  Calls Try.prog 17 #[.agg #[.int .i64 am, .int .i64 an, .int .i64 ac, .slice aE l0_3.length aG], .agg #[.int .i64 ar, .int .i64 au, .int .i64 av, .slice aU l1_3.length aV]] w fun e w' => e = .returned (.bool r) ∧ Below w.heap.size w w' := by
 have hu37 := Try.underlying37
 have hu24 := Try.underlying24
 have ct := q18 co
 have fa := q18 cp
 clear co cp
 have cu := q18 cq
 have fb := q18 cr
 clear cq cr
 have HB := q18 (Below.refl w.heap.size w)
 have H : (if am = ar then (if an = au then (if ac = av then (meddlerref17_Same.j0 k ((l0_3.length : Int) != (l1_3.length : Int)) am an ac l0_3 ar au av l1_3) else (meddlerref17_Same.j0 k true am an ac l0_3 ar au av l1_3)) else (meddlerref17_Same.j0 k true am an ac l0_3 ar au av l1_3)) else (meddlerref17_Same.j0 k true am an ac l0_3 ar au av l1_3)) = some r := h
 clear h
 have bR := q18 H
 clear H
 go_enter Try.func17, Try.ntmps17
 go_upto_region 1 with (first | ((with_reducible refine gate_dst (N := 2) rfl ?_); (try (refine gate_guard (by rfl) ?_; dsimp only)); refine h3 ?hg (N := 2) ?hd (cs := #[.int .i64 am, .int .i64 an, .int .i64 ac, .slice aE l0_3.length aG]) (t := 37) ?hr ?_; (case hd => rfl); (case hg => rfl); (case hr => first | (go_simp; done) | (go_simp; rfl)); intro ag hg w4 hbox hb; have ah := q18 (hU (by repeat (first | (with_reducible first | exact HB.out | apply hR | apply hS | apply hT) | exact HB.out)) hb); have ai := q18 (hbox); have aj := q18 ((by rw [hg]; exact (hV (by repeat (first | (with_reducible first | exact HB.out | apply hR | apply hS | apply hT) | exact HB.out))) : w.heap.size ≤ ag)); have ak := q18 ((by rw [hg]; exact (hV (by repeat (first | (with_reducible first | exact HB.out | apply hR | apply hS | apply hT) | exact HB.out))) : w.heap.size ≤ ag)); clear HB; have HB := ah; have ab := ai; have cv := aj; have aM := ak; clear ah ai aj ak; clear hb hbox hg) | ((with_reducible refine gate_dst (N := 3) rfl ?_); (try (refine gate_guard (by rfl) ?_; dsimp only)); refine h3 ?hg (N := 3) ?hd (cs := #[.int .i64 ar, .int .i64 au, .int .i64 av, .slice aU l1_3.length aV]) (t := 37) ?hr ?_; (case hd => rfl); (case hg => rfl); (case hr => first | (go_simp; done) | (go_simp; rfl)); intro ao hg w5 hbox hb; have ah := q18 (hW (g := ag) (o := .cells #[.int .i64 am, .int .i64 an, .int .i64 ac, .slice aE l0_3.length aG] 37 (0, 0)) (by (with_reducible repeat (first | refine hX ?_ _ | refine hZ ?_ | refine hY ?_ _)); exact ab.out) hb); have ai := q18 (hU (by repeat (first | (with_reducible first | exact HB.out | apply hR | apply hS | apply hT | refine h2 ?_ aM.out) | exact HB.out)) hb); have aj := q18 (hbox); have ak := q18 ((by rw [hg]; exact (hV (by repeat (first | (with_reducible first | exact HB.out | apply hR | apply hS | apply hT | refine h2 ?_ aM.out) | exact HB.out))) : w.heap.size ≤ ao)); have ap := q18 ((by rw [hg]; exact (hV (by repeat (first | (with_reducible first | exact HB.out | apply hR | apply hS | apply hT | refine h2 ?_ aM.out) | exact HB.out))) : w.heap.size ≤ ao)); have aw := q18 ((by rw [hg]; exact Nat.ne_of_lt (blk_lt (g := ag) (o := .cells #[.int .i64 am, .int .i64 an, .int .i64 ac, .slice aE l0_3.length aG] 37 (0, 0)) (by (with_reducible repeat (first | refine hX ?_ _ | refine hZ ?_ | refine hY ?_ _)); exact ab.out)) : ag ≠ ao)); have aN := q18 ((by rw [hg]; exact Nat.ne_of_gt (blk_lt (g := ag) (o := .cells #[.int .i64 am, .int .i64 an, .int .i64 ac, .slice aE l0_3.length aG] 37 (0, 0)) (by (with_reducible repeat (first | refine hX ?_ _ | refine hZ ?_ | refine hY ?_ _)); exact ab.out)) : ao ≠ ag)); clear ab; clear HB; have ab := ah; have HB := ai; have af := aj; have cw := ak; have aW := ap; have aY := aw; have aZ := aN; clear ah ai aj ak ap aw aN; clear hb hbox hg))
 repeat (go_quiet (first | ((with_reducible refine gate_dst (N := 2) rfl ?_); (try (refine gate_guard (by rfl) ?_; dsimp only)); refine h3 ?hg (N := 2) ?hd (cs := #[.int .i64 am, .int .i64 an, .int .i64 ac, .slice aE l0_3.length aG]) (t := 37) ?hr ?_; (case hd => rfl); (case hg => rfl); (case hr => first | (go_simp; done) | (go_simp; rfl)); intro ag hg w4 hbox hb; have ah := q18 (hU (by repeat (first | (with_reducible first | exact HB.out | apply hR | apply hS | apply hT) | exact HB.out)) hb); have ai := q18 (hbox); have aj := q18 ((by rw [hg]; exact (hV (by repeat (first | (with_reducible first | exact HB.out | apply hR | apply hS | apply hT) | exact HB.out))) : w.heap.size ≤ ag)); have ak := q18 ((by rw [hg]; exact (hV (by repeat (first | (with_reducible first | exact HB.out | apply hR | apply hS | apply hT) | exact HB.out))) : w.heap.size ≤ ag)); clear HB; have HB := ah; have ab := ai; have cv := aj; have aM := ak; clear ah ai aj ak; clear hb hbox hg) | ((with_reducible refine gate_dst (N := 3) rfl ?_); (try (refine gate_guard (by rfl) ?_; dsimp only)); refine h3 ?hg (N := 3) ?hd (cs := #[.int .i64 ar, .int .i64 au, .int .i64 av, .slice aU l1_3.length aV]) (t := 37) ?hr ?_; (case hd => rfl); (case hg => rfl); (case hr => first | (go_simp; done) | (go_simp; rfl)); intro ao hg w5 hbox hb; have ah := q18 (hW (g := ag) (o := .cells #[.int .i64 am, .int .i64 an, .int .i64 ac, .slice aE l0_3.length aG] 37 (0, 0)) (by (with_reducible repeat (first | refine hX ?_ _ | refine hZ ?_ | refine hY ?_ _)); exact ab.out) hb); have ai := q18 (hU (by repeat (first | (with_reducible first | exact HB.out | apply hR | apply hS | apply hT | refine h2 ?_ aM.out) | exact HB.out)) hb); have aj := q18 (hbox); have ak := q18 ((by rw [hg]; exact (hV (by repeat (first | (with_reducible first | exact HB.out | apply hR | apply hS | apply hT | refine h2 ?_ aM.out) | exact HB.out))) : w.heap.size ≤ ao)); have ap := q18 ((by rw [hg]; exact (hV (by repeat (first | (with_reducible first | exact HB.out | apply hR | apply hS | apply hT | refine h2 ?_ aM.out) | exact HB.out))) : w.heap.size ≤ ao)); have aw := q18 ((by rw [hg]; exact Nat.ne_of_lt (blk_lt (g := ag) (o := .cells #[.int .i64 am, .int .i64 an, .int .i64 ac, .slice aE l0_3.length aG] 37 (0, 0)) (by (with_reducible repeat (first | refine hX ?_ _ | refine hZ ?_ | refine hY ?_ _)); exact ab.out)) : ag ≠ ao)); have aN := q18 ((by rw [hg]; exact Nat.ne_of_gt (blk_lt (g := ag) (o := .cells #[.int .i64 am, .int .i64 an, .int .i64 ac, .slice aE l0_3.length aG] 37 (0, 0)) (by (with_reducible repeat (first | refine hX ?_ _ | refine hZ ?_ | refine hY ?_ _)); exact ab.out)) : ao ≠ ag)); clear ab; clear HB; have ab := ah; have HB := ai; have af := aj; have cw := ak; have aW := ap; have aY := aw; have aZ := aN; clear ah ai aj ak ap aw aN; clear hb hbox hg)); go_upto_region 1 with (first | ((with_reducible refine gate_dst (N := 2) rfl ?_); (try (refine gate_guard (by rfl) ?_; dsimp only)); refine h3 ?hg (N := 2) ?hd (cs := #[.int .i64 am, .int .i64 an, .int .i64 ac, .slice aE l0_3.length aG]) (t := 37) ?hr ?_; (case hd => rfl); (case hg => rfl); (case hr => first | (go_simp; done) | (go_simp; rfl)); intro ag hg w4 hbox hb; have ah := q18 (hU (by repeat (first | (with_reducible first | exact HB.out | apply hR | apply hS | apply hT) | exact HB.out)) hb); have ai := q18 (hbox); have aj := q18 ((by rw [hg]; exact (hV (by repeat (first | (with_reducible first | exact HB.out | apply hR | apply hS | apply hT) | exact HB.out))) : w.heap.size ≤ ag)); have ak := q18 ((by rw [hg]; exact (hV (by repeat (first | (with_reducible first | exact HB.out | apply hR | apply hS | apply hT) | exact HB.out))) : w.heap.size ≤ ag)); clear HB; have HB := ah; have ab := ai; have cv := aj; have aM := ak; clear ah ai aj ak; clear hb hbox hg) | ((with_reducible refine gate_dst (N := 3) rfl ?_); (try (refine gate_guard (by rfl) ?_; dsimp only)); refine h3 ?hg (N := 3) ?hd (cs := #[.int .i64 ar, .int .i64 au, .int .i64 av, .slice aU l1_3.length aV]) (t := 37) ?hr ?_; (case hd => rfl); (case hg => rfl); (case hr => first | (go_simp; done) | (go_simp; rfl)); intro ao hg w5 hbox hb; have ah := q18 (hW (g := ag) (o := .cells #[.int .i64 am, .int .i64 an, .int .i64 ac, .slice aE l0_3.length aG] 37 (0, 0)) (by (with_reducible repeat (first | refine hX ?_ _ | refine hZ ?_ | refine hY ?_ _)); exact ab.out) hb); have ai := q18 (hU (by repeat (first | (with_reducible first | exact HB.out | apply hR | apply hS | apply hT | refine h2 ?_ aM.out) | exact HB.out)) hb); have aj := q18 (hbox); have ak := q18 ((by rw [hg]; exact (hV (by repeat (first | (with_reducible first | exact HB.out | apply hR | apply hS | apply hT | refine h2 ?_ aM.out) | exact HB.out))) : w.heap.size ≤ ao)); have ap := q18 ((by rw [hg]; exact (hV (by repeat (first | (with_reducible first | exact HB.out | apply hR | apply hS | apply hT | refine h2 ?_ aM.out) | exact HB.out))) : w.heap.size ≤ ao)); have aw := q18 ((by rw [hg]; exact Nat.ne_of_lt (blk_lt (g := ag) (o := .cells #[.int .i64 am, .int .i64 an, .int .i64 ac, .slice aE l0_3.length aG] 37 (0, 0)) (by (with_reducible repeat (first | refine hX ?_ _ | refine hZ ?_ | refine hY ?_ _)); exact ab.out)) : ag ≠ ao)); have aN := q18 ((by rw [hg]; exact Nat.ne_of_gt (blk_lt (g := ag) (o := .cells #[.int .i64 am, .int .i64 an, .int .i64 ac, .slice aE l0_3.length aG] 37 (0, 0)) (by (with_reducible repeat (first | refine hX ?_ _ | refine hZ ?_ | refine hY ?_ _)); exact ab.out)) : ao ≠ ag)); clear ab; clear HB; have ab := ah; have HB := ai; have af := aj; have cw := ak; have aW := ap; have aY := aw; have aZ := aN; clear ah ai aj ak ap aw aN; clear hb hbox hg)))
 (try simp only [Act.put, List.setIfInBounds_toArray, List.set_cons_zero, List.set_cons_succ])
 go_cut [33] (fun d8 wc => ∃ (kq : Nat) (bD : Bool), d8 = .bool bD ∧ Aside0 (meddlerref17_Same.j0 kq bD am an ac l0_3 ar au av l1_3 = some r) ∧ Aside0 (kq ≤ k) ∧ Aside0 (wc.heap[ag]? = some (.cells #[.int .i64 am, .int .i64 an, .int .i64 ac, (.slice aE l0_3.length aG)] 37 (0, 0))) ∧ Aside0 (wc.heap[ao]? = some (.cells #[.int .i64 ar, .int .i64 au, .int .i64 av, (.slice aU l1_3.length aV)] 37 (0, 0))) ∧ Aside0 (Below w.heap.size w wc))
 case first =>
  have H := bR.out
  clear bR
  by_cases c6 : am = ar
  ·rw [if_pos c6] at H
   have ba : (am == ar) = true := beq_iff_eq.mpr c6
   have bS : (am != ar) = false := bne_eq_false_iff_eq.mpr c6
   clear c6
   (first | rw [ba] | (simp only [i64_w, i32_w]; rw [ba]) | skip)
   by_cases c7 : an = au
   ·rw [if_pos c7] at H
    have bx : (an == au) = true := beq_iff_eq.mpr c7
    have bT : (an != au) = false := bne_eq_false_iff_eq.mpr c7
    clear c7
    by_cases c8 : ac = av
    ·rw [if_pos c8] at H
     have bE : (ac == av) = true := beq_iff_eq.mpr c8
     have bU : (ac != av) = false := bne_eq_false_iff_eq.mpr c8
     clear c8
     have H' := q18 H
     clear H
     have fc := aY.out
     have fd := aZ.out
     have cx : w5.cell? ⟨ag, 0, none⟩ = some (.int .i64 am) := (h0 ab.out 0).trans rfl
     have cy : w5.cell? ⟨ag, 1, none⟩ = some (.int .i64 an) := (h0 ab.out 1).trans rfl
     have cz : w5.cell? ⟨ag, 2, none⟩ = some (.int .i64 ac) := (h0 ab.out 2).trans rfl
     have cA : w5.cell? ⟨ag, 3, none⟩ = some (.slice aE l0_3.length aG) := (h0 ab.out 3).trans rfl
     have cB := h1 ab.out 0
     have cC := h1 ab.out 1
     have cD := h1 ab.out 2
     have cE := h1 ab.out 3
     have cF : w5.cell? ⟨ao, 0, none⟩ = some (.int .i64 ar) := (h0 af.out 0).trans rfl
     have cG : w5.cell? ⟨ao, 1, none⟩ = some (.int .i64 au) := (h0 af.out 1).trans rfl
     have cH : w5.cell? ⟨ao, 2, none⟩ = some (.int .i64 av) := (h0 af.out 2).trans rfl
     have cI : w5.cell? ⟨ao, 3, none⟩ = some (.slice aU l1_3.length aV) := (h0 af.out 3).trans rfl
     have cJ := h1 af.out 0
     have cK := h1 af.out 1
     have cL := h1 af.out 2
     have cM := h1 af.out 3
     go_wp2
     repeat (go_quiet (fail); try go_wp2)
     go_meet
     case rel => exact ⟨_, (((l0_3.length : Int) != (l1_3.length : Int))), (by first | rfl | (simp; done) | (simp [*]; done)), H', ⟨by first | omega | exact Nat.le_refl _⟩, ⟨by (with_reducible repeat (first | refine hX ?_ _ | refine hZ ?_ | refine hY ?_ _)); exact ab.out⟩, ⟨by (with_reducible repeat (first | refine hX ?_ _ | refine hZ ?_ | refine hY ?_ _)); exact af.out⟩, ⟨by repeat (first | (with_reducible first | exact HB.out | apply hR | apply hS | apply hT | refine h2 ?_ aM.out | refine h2 ?_ aW.out) | exact HB.out)⟩⟩
    ·rw [if_neg c8] at H
     have bE : (ac == av) = false := beq_eq_false_iff_ne.mpr c8
     have bU : (ac != av) = true := bne_iff_ne.mpr c8
     have H' := q18 H
     clear H
     have fe := aY.out
     have ff := aZ.out
     have cN : w5.cell? ⟨ag, 0, none⟩ = some (.int .i64 am) := (h0 ab.out 0).trans rfl
     have cO : w5.cell? ⟨ag, 1, none⟩ = some (.int .i64 an) := (h0 ab.out 1).trans rfl
     have cP : w5.cell? ⟨ag, 2, none⟩ = some (.int .i64 ac) := (h0 ab.out 2).trans rfl
     have cQ : w5.cell? ⟨ag, 3, none⟩ = some (.slice aE l0_3.length aG) := (h0 ab.out 3).trans rfl
     have cR := h1 ab.out 0
     have cS := h1 ab.out 1
     have cT := h1 ab.out 2
     have cU := h1 ab.out 3
     have bV : w5.cell? ⟨ao, 0, none⟩ = some (.int .i64 ar) := (h0 af.out 0).trans rfl
     have bW : w5.cell? ⟨ao, 1, none⟩ = some (.int .i64 au) := (h0 af.out 1).trans rfl
     have bX : w5.cell? ⟨ao, 2, none⟩ = some (.int .i64 av) := (h0 af.out 2).trans rfl
     have bY : w5.cell? ⟨ao, 3, none⟩ = some (.slice aU l1_3.length aV) := (h0 af.out 3).trans rfl
     have bZ := h1 af.out 0
     have b0 := h1 af.out 1
     have b1 := h1 af.out 2
     have b2 := h1 af.out 3
     go_wp2
     repeat (go_quiet (fail); try go_wp2)
     go_meet
     case rel => exact ⟨_, (true), (by first | rfl | (simp; done) | (simp [*]; done)), H', ⟨by first | omega | exact Nat.le_refl _⟩, ⟨by (with_reducible repeat (first | refine hX ?_ _ | refine hZ ?_ | refine hY ?_ _)); exact ab.out⟩, ⟨by (with_reducible repeat (first | refine hX ?_ _ | refine hZ ?_ | refine hY ?_ _)); exact af.out⟩, ⟨by repeat (first | (with_reducible first | exact HB.out | apply hR | apply hS | apply hT | refine h2 ?_ aM.out | refine h2 ?_ aW.out) | exact HB.out)⟩⟩
   ·rw [if_neg c7] at H
    have bx : (an == au) = false := beq_eq_false_iff_ne.mpr c7
    have bT : (an != au) = true := bne_iff_ne.mpr c7
    have H' := q18 H
    clear H
    have fg := aY.out
    have fh := aZ.out
    have cV : w5.cell? ⟨ag, 0, none⟩ = some (.int .i64 am) := (h0 ab.out 0).trans rfl
    have cW : w5.cell? ⟨ag, 1, none⟩ = some (.int .i64 an) := (h0 ab.out 1).trans rfl
    have cX : w5.cell? ⟨ag, 2, none⟩ = some (.int .i64 ac) := (h0 ab.out 2).trans rfl
    have cY : w5.cell? ⟨ag, 3, none⟩ = some (.slice aE l0_3.length aG) := (h0 ab.out 3).trans rfl
    have cZ := h1 ab.out 0
    have c0 := h1 ab.out 1
    have c3 := h1 ab.out 2
    have c4 := h1 ab.out 3
    have da : w5.cell? ⟨ao, 0, none⟩ = some (.int .i64 ar) := (h0 af.out 0).trans rfl
    have db : w5.cell? ⟨ao, 1, none⟩ = some (.int .i64 au) := (h0 af.out 1).trans rfl
    have dc : w5.cell? ⟨ao, 2, none⟩ = some (.int .i64 av) := (h0 af.out 2).trans rfl
    have dd : w5.cell? ⟨ao, 3, none⟩ = some (.slice aU l1_3.length aV) := (h0 af.out 3).trans rfl
    have de := h1 af.out 0
    have df := h1 af.out 1
    have dg := h1 af.out 2
    have dh := h1 af.out 3
    go_wp2
    repeat (go_quiet (fail); try go_wp2)
    go_meet
    case rel => exact ⟨_, (true), (by first | rfl | (simp; done) | (simp [*]; done)), H', ⟨by first | omega | exact Nat.le_refl _⟩, ⟨by (with_reducible repeat (first | refine hX ?_ _ | refine hZ ?_ | refine hY ?_ _)); exact ab.out⟩, ⟨by (with_reducible repeat (first | refine hX ?_ _ | refine hZ ?_ | refine hY ?_ _)); exact af.out⟩, ⟨by repeat (first | (with_reducible first | exact HB.out | apply hR | apply hS | apply hT | refine h2 ?_ aM.out | refine h2 ?_ aW.out) | exact HB.out)⟩⟩
  ·rw [if_neg c6] at H
   have ba : (am == ar) = false := beq_eq_false_iff_ne.mpr c6
   have bS : (am != ar) = true := bne_iff_ne.mpr c6
   (first | rw [ba] | (simp only [i64_w, i32_w]; rw [ba]) | skip)
   have H' := q18 H
   clear H
   have fi := aY.out
   have fj := aZ.out
   have di : w5.cell? ⟨ag, 0, none⟩ = some (.int .i64 am) := (h0 ab.out 0).trans rfl
   have dj : w5.cell? ⟨ag, 1, none⟩ = some (.int .i64 an) := (h0 ab.out 1).trans rfl
   have dk : w5.cell? ⟨ag, 2, none⟩ = some (.int .i64 ac) := (h0 ab.out 2).trans rfl
   have dl : w5.cell? ⟨ag, 3, none⟩ = some (.slice aE l0_3.length aG) := (h0 ab.out 3).trans rfl
   have dm := h1 ab.out 0
   have dn := h1 ab.out 1
   have dp := h1 ab.out 2
   have dq := h1 ab.out 3
   have dr : w5.cell? ⟨ao, 0, none⟩ = some (.int .i64 ar) := (h0 af.out 0).trans rfl
   have ds : w5.cell? ⟨ao, 1, none⟩ = some (.int .i64 au) := (h0 af.out 1).trans rfl
   have dt : w5.cell? ⟨ao, 2, none⟩ = some (.int .i64 av) := (h0 af.out 2).trans rfl
   have du : w5.cell? ⟨ao, 3, none⟩ = some (.slice aU l1_3.length aV) := (h0 af.out 3).trans rfl
   have dv := h1 af.out 0
   have dw := h1 af.out 1
   have dx := h1 af.out 2
   have dy := h1 af.out 3
   go_wp2
   repeat (go_quiet (fail); try go_wp2)
   go_meet
   case rel => exact ⟨_, (true), (by first | rfl | (simp; done) | (simp [*]; done)), H', ⟨by first | omega | exact Nat.le_refl _⟩, ⟨by (with_reducible repeat (first | refine hX ?_ _ | refine hZ ?_ | refine hY ?_ _)); exact ab.out⟩, ⟨by (with_reducible repeat (first | refine hX ?_ _ | refine hZ ?_ | refine hY ?_ _)); exact af.out⟩, ⟨by repeat (first | (with_reducible first | exact HB.out | apply hR | apply hS | apply hT | refine h2 ?_ aM.out | refine h2 ?_ aW.out) | exact HB.out)⟩⟩
 case rest =>
  clear bR
  try clear c1
  try clear p2
  try clear c6
  try clear ba
  try clear bS
  try clear c7
  try clear bx
  try clear bT
  try clear c8
  try clear bE
  try clear bU
  try clear c9
  try clear d9
  try clear ea
  try clear br
  try clear eb
  try clear cx
  try clear cy
  try clear cz
  try clear cA
  try clear cF
  try clear cG
  try clear cH
  try clear cI
  try clear cN
  try clear cO
  try clear cP
  try clear cQ
  try clear bV
  try clear bW
  try clear bX
  try clear bY
  try clear cV
  try clear cW
  try clear cX
  try clear cY
  try clear da
  try clear db
  try clear dc
  try clear dd
  try clear di
  try clear dj
  try clear dk
  try clear dl
  try clear dr
  try clear ds
  try clear dt
  try clear du
  try clear cB
  try clear cC
  try clear cD
  try clear cE
  try clear cJ
  try clear cK
  try clear cL
  try clear cM
  try clear cR
  try clear cS
  try clear cT
  try clear cU
  try clear bZ
  try clear b0
  try clear b1
  try clear b2
  try clear cZ
  try clear c0
  try clear c3
  try clear c4
  try clear de
  try clear df
  try clear dg
  try clear dh
  try clear dm
  try clear dn
  try clear dp
  try clear dq
  try clear dv
  try clear dw
  try clear dx
  try clear dy
  obtain ⟨kq, bD, rfl, HA, dz, ab, af, HB⟩ := hcut
  cases kq with
  | zero => exact absurd HA.out (by simp [meddlerref17_Same.j0])
  | succ b3 =>
   have H := HA.out
   clear HA
   simp only [meddlerref17_Same.j0] at H
   by_cases bz : bD = true
   ·subst bz
    have H1 : (some false) = some r := by rw [if_pos rfl] at H; exact H
    clear H
    have H := H1
    clear H1
    obtain rfl := Option.some.inj H
    go_wp2
    repeat (go_quiet (fail); try go_wp2)
    go_ret
    exact ⟨by first | rfl | (simp [errW_none, errW_some] <;> rfl) | (simp [*, errW_none, errW_some] <;> rfl), by repeat (first | (with_reducible first | exact HB.out | apply hR | apply hS | apply hT | refine h2 ?_ aM.out | refine h2 ?_ aW.out) | exact HB.out)⟩
   ·replace bz := Bool.eq_false_iff.mpr bz
    subst bz
    have H1 : (meddlerref17_Same.l0 b3 0 am an ac l0_3 ar au av l1_3) = some r := by rw [if_neg (show ¬ (false = true) by decide)] at H; exact H
    clear H
    have H := H1
    clear H1
    have H' := q18 H
    clear H
    go_wp2
    repeat (go_quiet (fail); try go_wp2)
    go_loopg [5] b3 (fun kq v5 w' => ∃ (ae : Int), v5 = .int .i64 ae ∧ Aside0 (meddlerref17_Same.l0 kq ae am an ac l0_3 ar au av l1_3 = some r) ∧ Aside0 (kq ≤ b3) ∧ Aside0 (w'.heap[ag]? = some (.cells #[.int .i64 am, .int .i64 an, .int .i64 ac, (.slice aE l0_3.length aG)] 37 (0, 0))) ∧ Aside0 (w'.heap[ao]? = some (.cells #[.int .i64 ar, .int .i64 au, .int .i64 av, (.slice aU l1_3.length aV)] 37 (0, 0))) ∧ Aside0 (Below w.heap.size w w'))
    case atStart => exact ⟨(0), (by first | rfl | (simp; done) | (simp [*]; done)), H', ⟨Nat.le_refl _⟩, ⟨by (with_reducible repeat (first | refine hX ?_ _ | refine hZ ?_ | refine hY ?_ _)); exact ab.out⟩, ⟨by (with_reducible repeat (first | refine hX ?_ _ | refine hZ ?_ | refine hY ?_ _)); exact af.out⟩, ⟨by repeat (first | (with_reducible first | exact HB.out | apply hR | apply hS | apply hT | refine h2 ?_ aM.out | refine h2 ?_ aW.out) | exact HB.out)⟩⟩
    case round =>
     clear H'
     try clear c1
     try clear c2
     try clear p2
     try clear c6
     try clear ba
     try clear bS
     try clear c7
     try clear bx
     try clear bT
     try clear c8
     try clear bE
     try clear bU
     try clear c9
     try clear d9
     try clear ea
     try clear br
     try clear eb
     try clear bz
     try clear cx
     try clear cy
     try clear cz
     try clear cA
     try clear cF
     try clear cG
     try clear cH
     try clear cI
     try clear cN
     try clear cO
     try clear cP
     try clear cQ
     try clear bV
     try clear bW
     try clear bX
     try clear bY
     try clear cV
     try clear cW
     try clear cX
     try clear cY
     try clear da
     try clear db
     try clear dc
     try clear dd
     try clear di
     try clear dj
     try clear dk
     try clear dl
     try clear dr
     try clear ds
     try clear dt
     try clear du
     try clear cB
     try clear cC
     try clear cD
     try clear cE
     try clear cJ
     try clear cK
     try clear cL
     try clear cM
     try clear cR
     try clear cS
     try clear cT
     try clear cU
     try clear bZ
     try clear b0
     try clear b1
     try clear b2
     try clear cZ
     try clear c0
     try clear c3
     try clear c4
     try clear de
     try clear df
     try clear dg
     try clear dh
     try clear dm
     try clear dn
     try clear dp
     try clear dq
     try clear dv
     try clear dw
     try clear dx
     try clear dy
     try clear p2
     obtain ⟨ae, rfl, HA, dA, ab, af, HB⟩ := hrel
     cases gk with
     | zero => exact absurd HA.out (by simp [meddlerref17_Same.l0])
     | succ k2 =>
      have H := HA.out
      clear HA
      simp only [meddlerref17_Same.l0] at H
      by_cases bs : ae < (l0_3.length : Int)
      ·rw [if_pos bs] at H
       have ec : decide (ae < (l0_3.length : Int)) = true := decide_eq_true bs
       clear bs
       by_cases bF : 0 ≤ ae
       ·rw [if_pos bF] at H
        have fk : decide (0 ≤ ae) = true := decide_eq_true bF
        clear bF
        by_cases bG : ae < (l1_3.length : Int)
        ·rw [if_pos bG] at H
         have fl : decide (ae < (l1_3.length : Int)) = true := decide_eq_true bG
         clear bG
         by_cases bt : (!(((rd_T24 l0_3 ae).f0) == ((rd_T24 l1_3 ae).f0)) || (!(((rd_T24 l0_3 ae).f1) == ((rd_T24 l1_3 ae).f1)) || (!(((rd_T24 l0_3 ae).f2) == ((rd_T24 l1_3 ae).f2)) || (!(((rd_T24 l0_3 ae).f3) == ((rd_T24 l1_3 ae).f3)) || (!(((rd_T24 l0_3 ae).f4) == ((rd_T24 l1_3 ae).f4)) || (!(((rd_T24 l0_3 ae).f5) == ((rd_T24 l1_3 ae).f5)))))))) = true
         ·rw [if_pos bt] at H
          have ed : (!(((rd_T24 l0_3 ae).f0) == ((rd_T24 l1_3 ae).f0)) || (!(((rd_T24 l0_3 ae).f1) == ((rd_T24 l1_3 ae).f1)) || (!(((rd_T24 l0_3 ae).f2) == ((rd_T24 l1_3 ae).f2)) || (!(((rd_T24 l0_3 ae).f3) == ((rd_T24 l1_3 ae).f3)) || (!(((rd_T24 l0_3 ae).f4) == ((rd_T24 l1_3 ae).f4)) || (!(((rd_T24 l0_3 ae).f5) == ((rd_T24 l1_3 ae).f5)))))))) = true := bt
          clear bt
          obtain rfl := Option.some.inj H
          have fm := aY.out
          have fn := aZ.out
          have fo : wr.cell? ⟨ag, 0, none⟩ = some (.int .i64 am) := (h0 ab.out 0).trans rfl
          have fp : wr.cell? ⟨ag, 1, none⟩ = some (.int .i64 an) := (h0 ab.out 1).trans rfl
          have fq : wr.cell? ⟨ag, 2, none⟩ = some (.int .i64 ac) := (h0 ab.out 2).trans rfl
          have fr : wr.cell? ⟨ag, 3, none⟩ = some (.slice aE l0_3.length aG) := (h0 ab.out 3).trans rfl
          have fs := h1 ab.out 0
          have ft := h1 ab.out 1
          have fu := h1 ab.out 2
          have fv := h1 ab.out 3
          have bb : 0 ≤ (ae : Int) := of_decide_eq_true (by first | (with_reducible assumption) | assumption)
          have bc : ae < (l0_3.length : Int) := of_decide_eq_true (by first | (with_reducible assumption) | assumption)
          obtain ⟨ee, b4, bd, be, bf, bg, bh, bi⟩ := at_T24 ct.out ae bb bc
          cases b4
          replace bd := (HB.out.cell (h7 w _ bd)).trans bd
          replace be := (HB.out.cell (h7 w _ be)).trans be
          replace bf := (HB.out.cell (h7 w _ bf)).trans bf
          replace bg := (HB.out.cell (h7 w _ bg)).trans bg
          replace bh := (HB.out.cell (h7 w _ bh)).trans bh
          replace bi := (HB.out.cell (h7 w _ bi)).trans bi
          replace bb := eq_true bb
          replace bc := eq_true bc
          have fw : wr.cell? ⟨ao, 0, none⟩ = some (.int .i64 ar) := (h0 af.out 0).trans rfl
          have fx : wr.cell? ⟨ao, 1, none⟩ = some (.int .i64 au) := (h0 af.out 1).trans rfl
          have fy : wr.cell? ⟨ao, 2, none⟩ = some (.int .i64 av) := (h0 af.out 2).trans rfl
          have fz : wr.cell? ⟨ao, 3, none⟩ = some (.slice aU l1_3.length aV) := (h0 af.out 3).trans rfl
          have fA := h1 af.out 0
          have fB := h1 af.out 1
          have fC := h1 af.out 2
          have fD := h1 af.out 3
          have bj : 0 ≤ (ae : Int) := of_decide_eq_true (by first | (with_reducible assumption) | assumption)
          have bk : ae < (l1_3.length : Int) := of_decide_eq_true (by first | (with_reducible assumption) | assumption)
          obtain ⟨ef, b5, bl, bm, bn, bo, bp, bq⟩ := at_T24 cu.out ae bj bk
          cases b5
          replace bl := (HB.out.cell (h7 w _ bl)).trans bl
          replace bm := (HB.out.cell (h7 w _ bm)).trans bm
          replace bn := (HB.out.cell (h7 w _ bn)).trans bn
          replace bo := (HB.out.cell (h7 w _ bo)).trans bo
          replace bp := (HB.out.cell (h7 w _ bp)).trans bp
          replace bq := (HB.out.cell (h7 w _ bq)).trans bq
          replace bj := eq_true bj
          replace bk := eq_true bk
          go_wp2
          repeat (go_quiet (fail); try go_wp2)
          go_ret
          exact ⟨by first | rfl | (simp [errW_none, errW_some] <;> rfl) | (simp [*, errW_none, errW_some] <;> rfl), by repeat (first | (with_reducible first | exact HB.out | apply hR | apply hS | apply hT | refine h2 ?_ aM.out | refine h2 ?_ aW.out) | exact HB.out)⟩
         ·rw [if_neg bt] at H
          have ed : (!(((rd_T24 l0_3 ae).f0) == ((rd_T24 l1_3 ae).f0)) || (!(((rd_T24 l0_3 ae).f1) == ((rd_T24 l1_3 ae).f1)) || (!(((rd_T24 l0_3 ae).f2) == ((rd_T24 l1_3 ae).f2)) || (!(((rd_T24 l0_3 ae).f3) == ((rd_T24 l1_3 ae).f3)) || (!(((rd_T24 l0_3 ae).f4) == ((rd_T24 l1_3 ae).f4)) || (!(((rd_T24 l0_3 ae).f5) == ((rd_T24 l1_3 ae).f5)))))))) = false := by simpa using bt
          clear bt
          have H' := q18 H
          clear H
          have fE := aY.out
          have fF := aZ.out
          have fG : wr.cell? ⟨ag, 0, none⟩ = some (.int .i64 am) := (h0 ab.out 0).trans rfl
          have fH : wr.cell? ⟨ag, 1, none⟩ = some (.int .i64 an) := (h0 ab.out 1).trans rfl
          have fI : wr.cell? ⟨ag, 2, none⟩ = some (.int .i64 ac) := (h0 ab.out 2).trans rfl
          have fJ : wr.cell? ⟨ag, 3, none⟩ = some (.slice aE l0_3.length aG) := (h0 ab.out 3).trans rfl
          have fK := h1 ab.out 0
          have fL := h1 ab.out 1
          have fM := h1 ab.out 2
          have fN := h1 ab.out 3
          have bb : 0 ≤ (ae : Int) := of_decide_eq_true (by first | (with_reducible assumption) | assumption)
          have bc : ae < (l0_3.length : Int) := of_decide_eq_true (by first | (with_reducible assumption) | assumption)
          obtain ⟨ee, b4, bd, be, bf, bg, bh, bi⟩ := at_T24 ct.out ae bb bc
          cases b4
          replace bd := (HB.out.cell (h7 w _ bd)).trans bd
          replace be := (HB.out.cell (h7 w _ be)).trans be
          replace bf := (HB.out.cell (h7 w _ bf)).trans bf
          replace bg := (HB.out.cell (h7 w _ bg)).trans bg
          replace bh := (HB.out.cell (h7 w _ bh)).trans bh
          replace bi := (HB.out.cell (h7 w _ bi)).trans bi
          replace bb := eq_true bb
          replace bc := eq_true bc
          have eg : wr.cell? ⟨ao, 0, none⟩ = some (.int .i64 ar) := (h0 af.out 0).trans rfl
          have eh : wr.cell? ⟨ao, 1, none⟩ = some (.int .i64 au) := (h0 af.out 1).trans rfl
          have ei : wr.cell? ⟨ao, 2, none⟩ = some (.int .i64 av) := (h0 af.out 2).trans rfl
          have ej : wr.cell? ⟨ao, 3, none⟩ = some (.slice aU l1_3.length aV) := (h0 af.out 3).trans rfl
          have ek := h1 af.out 0
          have el := h1 af.out 1
          have em := h1 af.out 2
          have en := h1 af.out 3
          have bj : 0 ≤ (ae : Int) := of_decide_eq_true (by first | (with_reducible assumption) | assumption)
          have bk : ae < (l1_3.length : Int) := of_decide_eq_true (by first | (with_reducible assumption) | assumption)
          obtain ⟨ef, b5, bl, bm, bn, bo, bp, bq⟩ := at_T24 cu.out ae bj bk
          cases b5
          replace bl := (HB.out.cell (h7 w _ bl)).trans bl
          replace bm := (HB.out.cell (h7 w _ bm)).trans bm
          replace bn := (HB.out.cell (h7 w _ bn)).trans bn
          replace bo := (HB.out.cell (h7 w _ bo)).trans bo
          replace bp := (HB.out.cell (h7 w _ bp)).trans bp
          replace bq := (HB.out.cell (h7 w _ bq)).trans bq
          replace bj := eq_true bj
          replace bk := eq_true bk
          go_wp2
          repeat (go_quiet (fail); try go_wp2)
          go_roundg k2
          case measure => have := dz.out; have := dA.out; omega
          case rel => exact ⟨(wrap64 (ae + 1)), (by first | rfl | (simp; done) | (simp [*]; done)), H', ⟨by have := dz.out; have := dA.out; omega⟩, ⟨by (with_reducible repeat (first | refine hX ?_ _ | refine hZ ?_ | refine hY ?_ _)); exact ab.out⟩, ⟨by (with_reducible repeat (first | refine hX ?_ _ | refine hZ ?_ | refine hY ?_ _)); exact af.out⟩, ⟨by repeat (first | (with_reducible first | exact HB.out | apply hR | apply hS | apply hT | refine h2 ?_ aM.out | refine h2 ?_ aW.out) | exact HB.out)⟩⟩
        ·rw [if_neg bG] at H
         exact absurd H (by simp)
       ·rw [if_neg bF] at H
        exact absurd H (by simp)
      ·rw [if_neg bs] at H
       have ec : decide (ae < (l0_3.length : Int)) = false := decide_eq_false bs
       clear bs
       obtain rfl := Option.some.inj H
       have fO := aY.out
       have fP := aZ.out
       have fQ : wr.cell? ⟨ag, 0, none⟩ = some (.int .i64 am) := (h0 ab.out 0).trans rfl
       have fR : wr.cell? ⟨ag, 1, none⟩ = some (.int .i64 an) := (h0 ab.out 1).trans rfl
       have fS : wr.cell? ⟨ag, 2, none⟩ = some (.int .i64 ac) := (h0 ab.out 2).trans rfl
       have fT : wr.cell? ⟨ag, 3, none⟩ = some (.slice aE l0_3.length aG) := (h0 ab.out 3).trans rfl
       have fU := h1 ab.out 0
       have fV := h1 ab.out 1
       have fW := h1 ab.out 2
       have fX := h1 ab.out 3
       go_wp2
       repeat (go_quiet (fail); try go_wp2)
       go_ret
       exact ⟨by first | rfl | (simp [errW_none, errW_some] <;> rfl) | (simp [*, errW_none, errW_some] <;> rfl), by repeat (first | (with_reducible first | exact HB.out | apply hR | apply hS | apply hT | refine h2 ?_ aM.out | refine h2 ?_ aW.out) | exact HB.out)⟩
/-! ### meddlerref17_Of: function 18 -/
def meddlerref17_Of.l0 : Nat → List (S24) → List (S31) → Int → List (S51) → List (S115) → Int → Bool → Option (Int × Int × Int × (List (S24)))
 | 0, _, _, _, _, _, _, _ => none
 | k + 1, x3, x4, x5, x347000, eo, ep, eq => if x5 < (x347000.length : Int) then (if 0 ≤ x5 then (if x3.length + ((rd_T51 x347000 x5).f3).length < 2932031007402 then (if x4.length + ((rd_T51 x347000 x5).f2).length < 2932031007402 then (meddlerref17_Of.l0 k (x3 ++ ((rd_T51 x347000 x5).f3)) (x4 ++ ((rd_T51 x347000 x5).f2)) (wrap64 (x5 + 1)) x347000 eo ep eq) else (none)) else (none)) else (none)) else ((meddlerref15_All.f k x4).bind fun t356 => (if x3.length + t356.length < 2932031007402 then ((meddlerref17_Sort.f k (x3 ++ t356)).bind fun t362 => (if (t362.length : Int) > 0 then (some (2, 0, 0, t362)) else (some (3, 0, 0, ([] : List (S24)))))) else (none)))
def meddlerref17_Of.f (k : Nat) (l0_0 : List (S51)) (l0_1 : List (S115)) (ac : Int) (a8 : Bool) : Option (Int × Int × Int × (List (S24))) := if a8 = true then (meddlerref17_Of.l0 k ([] : List (S24)) ([] : List (S31)) 0 l0_0 l0_1 ac a8) else (some (4, 0, 0, ([] : List (S24))))
theorem meddlerref17_Of.mono_l : ∀ k, (∀ y0 y1 y2 y3 y4 y5 y6, LeO (meddlerref17_Of.l0 k y0 y1 y2 y3 y4 y5 y6) (meddlerref17_Of.l0 (k + 1) y0 y1 y2 y3 y4 y5 y6))
 | 0 => fun _ _ _ _ _ _ _ r h => by simp [meddlerref17_Of.l0] at h
 | k + 1 => by
  have aT := meddlerref17_Of.mono_l k
  ·intro y0 y1 y2 y3 y4 y5 y6
   unfold meddlerref17_Of.l0
   repeat' first
   | (with_reducible exact aT _ _ _ _ _ _ _)
   | (with_reducible exact meddlerref15_All.mono _ _)
   | (with_reducible exact meddlerref17_Sort.mono _ _)
   | (with_reducible exact LeO.refl _)
   | (with_reducible exact LeO.none _)
   | (with_reducible refine LeO.ite ?_ ?_)
   | (with_reducible refine LeO.bind ?_ (fun _ => ?_))
   | exact aT _ _ _ _ _ _ _
   | exact meddlerref15_All.mono _ _
   | exact meddlerref17_Sort.mono _ _
   | exact LeO.none _
   | refine LeO.ite ?_ ?_
   | refine LeO.bind ?_ (fun _ => ?_)
theorem meddlerref17_Of.mono : ∀ a0 a1 a2 a3 k, LeO (meddlerref17_Of.f k a0 a1 a2 a3) (meddlerref17_Of.f (k + 1) a0 a1 a2 a3) := by
 intro a0 a1 a2 a3 k
 have aT := meddlerref17_Of.mono_l k
 unfold meddlerref17_Of.f
 repeat' first
   | (with_reducible exact aT _ _ _ _ _ _ _)
   | (with_reducible exact meddlerref15_All.mono _ _)
   | (with_reducible exact meddlerref17_Sort.mono _ _)
   | (with_reducible exact LeO.refl _)
   | (with_reducible exact LeO.none _)
   | (with_reducible refine LeO.ite ?_ ?_)
   | (with_reducible refine LeO.bind ?_ (fun _ => ?_))
   | exact aT _ _ _ _ _ _ _
   | exact meddlerref15_All.mono _ _
   | exact meddlerref17_Sort.mono _ _
   | exact LeO.none _
   | refine LeO.ite ?_ ?_
   | refine LeO.bind ?_ (fun _ => ?_)
set_option maxHeartbeats 8000000 in
set_option maxRecDepth 100000 in
theorem meddlerref17_Of.calls (k : Nat) (aI : Option Addr) (az : Nat) (l0_0 : List (S51)) (aA : Option Addr) (aC : Nat) (l0_1 : List (S115)) (ac : Int) (a8 : Bool) (r1 : Int) (r2 : Int) (r3 : Int) (r4 : List (S24)) (w : World) (dB : Kd.C k51 w aI l0_0.length l0_0) (dC : l0_0.length ≤ az) (dD : Kd.C k115 w aA l0_1.length l0_1) (dE : l0_1.length ≤ aC) (h : meddlerref17_Of.f k l0_0 l0_1 ac a8 = some (r1, r2, r3, r4)) :
  Calls Try.prog 18 #[.agg #[.slice aI l0_0.length az, .slice aA l0_1.length aC, .int .i64 ac, .bool a8]] w fun e w' => ∃ dF : Value, e = .returned (.agg #[.int .i64 r1, .int .i64 r2, .int .i64 r3, dF]) ∧ Kd.R k24 24 w' w.heap.size (fun _ => True) dF r4 ∧ Below w.heap.size w w' := by
 have hu50 := Try.underlying50
 have hu37 := Try.underlying37
 have dG := q18 dB
 have fY := q18 dC
 clear dB dC
 have fZ := q18 dD
 have f6 := q18 dE
 clear dD dE
 have HB := q18 (Below.refl w.heap.size w)
 have H : (if a8 = true then (meddlerref17_Of.l0 k ([] : List (S24)) ([] : List (S31)) 0 l0_0 l0_1 ac a8) else (some (4, 0, 0, ([] : List (S24))))) = some (r1, r2, r3, r4) := h
 clear h
 by_cases c2 : a8 = true
 ·subst c2
  have H1 : (meddlerref17_Of.l0 k ([] : List (S24)) ([] : List (S31)) 0 l0_0 l0_1 ac true) = some (r1, r2, r3, r4) := by rw [if_pos rfl] at H; exact H
  clear H
  have H := H1
  clear H1
  have H' := q18 H
  clear H
  go_enter Try.func18, Try.ntmps18
  go_wp2_with (first | ((with_reducible refine gate_dst (N := 1) rfl ?_); refine h3 ?hg (N := 1) ?hd (cs := #[.slice aI l0_0.length az, .slice aA l0_1.length aC, .int .i64 ac, .bool true]) (t := 50) ?hr ?_; (case hd => rfl); (case hg => rfl); (case hr => first | (go_simp; done) | (go_simp; rfl)); intro al hg w3 hbox hb; have ah := q18 (hU (by repeat (first | (with_reducible first | exact HB.out | apply hR | apply hS | apply hT) | exact HB.out)) hb); have ai := q18 (hbox); have aj := q18 ((by rw [hg]; exact (hV (by repeat (first | (with_reducible first | exact HB.out | apply hR | apply hS | apply hT) | exact HB.out))) : w.heap.size ≤ al)); have ak := q18 ((by rw [hg]; exact (hV (by repeat (first | (with_reducible first | exact HB.out | apply hR | apply hS | apply hT) | exact HB.out))) : w.heap.size ≤ al)); clear HB; have HB := ah; have aa := ai; have er := aj; have ay := ak; clear ah ai aj ak; clear hb hbox hg) | ((with_reducible refine gate_dst (N := 2) rfl ?_); refine h3 ?hg (N := 2) ?hd (cs := #[.int .i64 0, .int .i64 0, .int .i64 0, .slice none 0 0]) (t := 37) ?hr ?_; (case hd => rfl); (case hg => rfl); (case hr => first | (go_simp; done) | (go_simp; rfl)); intro aq hg w4 hbox hb; have ah := q18 (hW (g := al) (o := .cells #[.slice aI l0_0.length az, .slice aA l0_1.length aC, .int .i64 ac, .bool true] 50 (0, 0)) (by (with_reducible repeat (first | refine hX ?_ _ | refine hZ ?_ | refine hY ?_ _)); exact aa.out) hb); have ai := q18 (hU (by repeat (first | (with_reducible first | exact HB.out | apply hR | apply hS | apply hT | refine h2 ?_ ay.out) | exact HB.out)) hb); have aj := q18 (hbox); have ak := q18 ((by rw [hg]; exact (hV (by repeat (first | (with_reducible first | exact HB.out | apply hR | apply hS | apply hT | refine h2 ?_ ay.out) | exact HB.out))) : w.heap.size ≤ aq)); have ap := q18 ((by rw [hg]; exact (hV (by repeat (first | (with_reducible first | exact HB.out | apply hR | apply hS | apply hT | refine h2 ?_ ay.out) | exact HB.out))) : w.heap.size ≤ aq)); have aw := q18 ((by rw [hg]; exact Nat.ne_of_lt (blk_lt (g := al) (o := .cells #[.slice aI l0_0.length az, .slice aA l0_1.length aC, .int .i64 ac, .bool true] 50 (0, 0)) (by (with_reducible repeat (first | refine hX ?_ _ | refine hZ ?_ | refine hY ?_ _)); exact aa.out)) : al ≠ aq)); have aN := q18 ((by rw [hg]; exact Nat.ne_of_gt (blk_lt (g := al) (o := .cells #[.slice aI l0_0.length az, .slice aA l0_1.length aC, .int .i64 ac, .bool true] 50 (0, 0)) (by (with_reducible repeat (first | refine hX ?_ _ | refine hZ ?_ | refine hY ?_ _)); exact aa.out)) : aq ≠ al)); clear aa; clear HB; have aa := ah; have HB := ai; have ad := aj; have es := ak; have aJ := ap; have bu := aw; have bv := aN; clear ah ai aj ak ap aw aN; clear hb hbox hg; have f7 := bu.out; have f8 := bv.out; have et : w4.cell? ⟨al, 0, none⟩ = some (.slice aI l0_0.length az) := (h0 aa.out 0).trans rfl; have eu : w4.cell? ⟨al, 1, none⟩ = some (.slice aA l0_1.length aC) := (h0 aa.out 1).trans rfl; have ev : w4.cell? ⟨al, 2, none⟩ = some (.int .i64 ac) := (h0 aa.out 2).trans rfl; have ew : w4.cell? ⟨al, 3, none⟩ = some (.bool true) := (h0 aa.out 3).trans rfl; have ex := h1 aa.out 0; have ey := h1 aa.out 1; have ez := h1 aa.out 2; have eA := h1 aa.out 3))
  go_loopg [3, 4, 5] k (fun kq v3 v4 v5 w' => ∃ (x3_1 : List (S24)) (x4_1 : List (S31)) (aD : Int), v5 = .int .i64 aD ∧ Aside0 (meddlerref17_Of.l0 kq x3_1 x4_1 aD l0_0 l0_1 ac true = some (r1, r2, r3, r4)) ∧ Aside0 (kq ≤ k) ∧ Aside0 (Kd.R k24 24 w' w.heap.size (fun _ => True) v3 x3_1) ∧ Aside0 (Kd.R k31 31 w' w.heap.size (fun _ => True) v4 x4_1) ∧ Aside0 (w'.heap[al]? = some (.cells #[(.slice aI l0_0.length az), (.slice aA l0_1.length aC), .int .i64 ac, .bool true] 50 (0, 0))) ∧ Aside0 (w'.heap[aq]? = some (.cells #[.int .i64 0, .int .i64 0, .int .i64 0, (.slice none 0 0)] 37 (0, 0))) ∧ Aside0 (Below w.heap.size w w'))
  case atStart => exact ⟨(([] : List (S24))), (([] : List (S31))), (0), (by first | rfl | (simp; done) | (simp [*]; done)), H', ⟨Nat.le_refl _⟩, ⟨by first | exact Kd.R_nil _ _ _ _ _ | exact Kd.N_nil _ _ _ _ _ | exact Kd.V_nil _ _ _ _ _ | exact Kd.Q_nil _ _ _ _ _ | exact Kd.S_nil _ _ _ _ _⟩, ⟨by first | exact Kd.R_nil _ _ _ _ _ | exact Kd.N_nil _ _ _ _ _ | exact Kd.V_nil _ _ _ _ _ | exact Kd.Q_nil _ _ _ _ _ | exact Kd.S_nil _ _ _ _ _⟩, ⟨by (with_reducible repeat (first | refine hX ?_ _ | refine hZ ?_ | refine hY ?_ _)); exact aa.out⟩, ⟨by (with_reducible repeat (first | refine hX ?_ _ | refine hZ ?_ | refine hY ?_ _)); exact ad.out⟩, ⟨by repeat (first | (with_reducible first | exact HB.out | apply hR | apply hS | apply hT | refine h2 ?_ ay.out | refine h2 ?_ aJ.out) | exact HB.out)⟩⟩
  case round =>
   clear H'
   try clear c1
   try clear c2
   try clear p2
   try clear c5
   try clear et
   try clear eu
   try clear ev
   try clear ew
   try clear ex
   try clear ey
   try clear ez
   try clear eA
   obtain ⟨x3_1, x4_1, aD, rfl, HA, dH, aH, ax, aa, ad, HB⟩ := hrel
   cases gk with
   | zero => exact absurd HA.out (by simp [meddlerref17_Of.l0])
   | succ k1 =>
    have H := HA.out
    clear HA
    simp only [meddlerref17_Of.l0] at H
    by_cases c7 : aD < (l0_0.length : Int)
    ·rw [if_pos c7] at H
     have bx : decide (aD < (l0_0.length : Int)) = true := decide_eq_true c7
     clear c7
     by_cases c8 : 0 ≤ aD
     ·rw [if_pos c8] at H
      have bE : decide (0 ≤ aD) = true := decide_eq_true c8
      clear c8
      by_cases c9 : x3_1.length + ((rd_T51 l0_0 aD).f3).length < 2932031007402
      ·rw [if_pos c9] at H
       have eB := q18 c9
       clear c9
       obtain ⟨b6, bA⟩ : ∃ y_ : List (S24), y_ = (x3_1 ++ ((rd_T51 l0_0 aD).f3)) := ⟨_, rfl⟩
       replace H : (if x4_1.length + ((rd_T51 l0_0 aD).f2).length < 2932031007402 then (meddlerref17_Of.l0 k1 b6 (x4_1 ++ ((rd_T51 l0_0 aD).f2)) (wrap64 (aD + 1)) l0_0 l0_1 ac true) else (none)) = some (r1, r2, r3, r4) := by first | (rw [bA]; with_reducible exact H) | (have aX := (Option.bind_some _ _).symm.trans H; rw [bA]; with_reducible exact aX) | (have aX := (Option.bind_some _ _).symm.trans H; with_reducible exact aX) | with_reducible exact H | (rw [bA]; exact H) | exact H
       have eC := q18 bA
       clear bA
       by_cases bH : x4_1.length + ((rd_T51 l0_0 aD).f2).length < 2932031007402
       ·rw [if_pos bH] at H
        have eD := q18 bH
        clear bH
        obtain ⟨dI, bB⟩ : ∃ y_ : List (S31), y_ = (x4_1 ++ ((rd_T51 l0_0 aD).f2)) := ⟨_, rfl⟩
        replace H : (meddlerref17_Of.l0 k1 b6 dI (wrap64 (aD + 1)) l0_0 l0_1 ac true) = some (r1, r2, r3, r4) := by first | (rw [bB]; with_reducible exact H) | (have aX := (Option.bind_some _ _).symm.trans H; rw [bB]; with_reducible exact aX) | (have aX := (Option.bind_some _ _).symm.trans H; with_reducible exact aX) | with_reducible exact H | (rw [bB]; exact H) | exact H
        have eE := q18 bB
        clear bB
        have H' := q18 H
        clear H
        have f9 := bu.out
        have ga := bv.out
        have gb : wr.cell? ⟨al, 0, none⟩ = some (.slice aI l0_0.length az) := (h0 aa.out 0).trans rfl
        have gc : wr.cell? ⟨al, 1, none⟩ = some (.slice aA l0_1.length aC) := (h0 aa.out 1).trans rfl
        have gd : wr.cell? ⟨al, 2, none⟩ = some (.int .i64 ac) := (h0 aa.out 2).trans rfl
        have ge : wr.cell? ⟨al, 3, none⟩ = some (.bool true) := (h0 aa.out 3).trans rfl
        have gf := h1 aa.out 0
        have gg := h1 aa.out 1
        have gh := h1 aa.out 2
        have gi := h1 aa.out 3
        have b7 : 0 ≤ (aD : Int) := of_decide_eq_true (by first | (with_reducible assumption) | assumption)
        have b8 : aD < (l0_0.length : Int) := of_decide_eq_true (by first | (with_reducible assumption) | assumption)
        obtain ⟨bI, gj, gl, gm, gn, gp, gq, gr, gs, eF, b9, ca, cb, cc, cd, ce, dJ, dK, dL, dM, dN, dO, dP, dQ⟩ := at_T51 dG.out aD b7 b8
        cases eF
        replace b9 := (HB.out.cell (h7 w _ b9)).trans b9
        replace ca := (HB.out.cell (h7 w _ ca)).trans ca
        replace cb := (HB.out.cell (h7 w _ cb)).trans cb
        replace cc := (HB.out.cell (h7 w _ cc)).trans cc
        replace cd := (HB.out.cell (h7 w _ cd)).trans cd
        replace ce := (HB.out.cell (h7 w _ ce)).trans ce
        have gt := q18 dK
        have gu := q18 dJ
        clear dK dJ
        have gv := q18 dM
        have gw := q18 dL
        clear dM dL
        have gx := q18 dO
        have gy := q18 dN
        clear dO dN
        have eG := q18 dQ
        have gz := q18 dP
        clear dQ dP
        replace b7 := eq_true b7
        replace b8 := eq_true b8
        go_wp2_with (first | ((with_reducible refine gate_builtin (b := .append) (xs := #[.tmp 17, .tmp 23]) rfl ?_); at_builtin; refine Kd.R_append_rows k24 (w0 := w) w.heap.size rfl (.tmp 17) (.tmp 23) 33 24 (.agg #[(.int .i64 0), (.int .i64 0), (.int .i64 0), (.int .i64 0), (.int .i64 0), (.int .i64 0)]) 48 rfl Try.underlying33 info24 rfl (by decide) (by omega) u3 x3_1 ((rd_T51 l0_0 aD).f3) _ _ _ (fun _ => True) (fun _ => False) rfl rfl ?aO ?aR (fun _ _ h => h) (fun _ h => h.elim) ?aF ?aB ?aS ?aL ?_; (case aR => repeat (first | exact (Kd.C_below eG.out HB.out) | (with_reducible refine Kd.C_alloc ?_ _) | (with_reducible refine Kd.C_drewN ?_ _) | (with_reducible refine Kd.C_drew ?_))); (case aB => exact (by repeat (first | (with_reducible first | exact HB.out | apply hR | apply hS | apply hT | refine h2 ?_ ay.out | refine h2 ?_ aJ.out) | exact HB.out))); (case aF => exact (fun _ _ => trivial)); (case aO => exact (by (with_reducible repeat (first | apply h4 | apply h5 | apply h6)); exact aH.out)); (case aS => exact (hV (by repeat (first | (with_reducible first | exact HB.out | apply hR | apply hS | apply hT | refine h2 ?_ ay.out | refine h2 ?_ aJ.out) | exact HB.out)))); (case aL => have := eB.out; omega); intro gA w13 ho hb hg hat; rw [← eC.out] at ho; have ah := q18 (Kd.R_over' (by (with_reducible repeat (first | apply h4 | apply h5 | apply h6)); exact ax.out) (Kd.R_typed (by (with_reducible repeat (first | apply h4 | apply h5 | apply h6)); exact aH.out)) (by decide) hg); have ai := q18 (blk_grown (g := al) (o := .cells #[.slice (some bI) l0_0.length az, .slice aA l0_1.length aC, .int .i64 ac, .bool true] 50 (0, 0)) (by (with_reducible repeat (first | refine hX ?_ _ | refine hZ ?_ | refine hY ?_ _)); exact aa.out) hg (Kd.R_ne aH.out aa.out (by decide))); have aj := q18 (blk_grown (g := aq) (o := .cells #[.int .i64 0, .int .i64 0, .int .i64 0, .slice none 0 0] 37 (0, 0)) (by (with_reducible repeat (first | refine hX ?_ _ | refine hZ ?_ | refine hY ?_ _)); exact ad.out) hg (Kd.R_ne aH.out ad.out (by decide))); have ak := q18 (hb); have ap := q18 (ho); clear ax; clear aa; clear ad; clear HB; clear aH; have ax := ah; have aa := ai; have ad := aj; have HB := ak; have bJ := ap; clear ah ai aj ak ap; clear ho hb hg hat; have bV : w13.cell? ⟨al, 0, none⟩ = some (.slice (some bI) l0_0.length az) := (h0 aa.out 0).trans rfl; have bW : w13.cell? ⟨al, 1, none⟩ = some (.slice aA l0_1.length aC) := (h0 aa.out 1).trans rfl; have bX : w13.cell? ⟨al, 2, none⟩ = some (.int .i64 ac) := (h0 aa.out 2).trans rfl; have bY : w13.cell? ⟨al, 3, none⟩ = some (.bool true) := (h0 aa.out 3).trans rfl; have bZ := h1 aa.out 0; have b0 := h1 aa.out 1; have b1 := h1 aa.out 2; have b2 := h1 aa.out 3; have cf : 0 ≤ (aD : Int) := of_decide_eq_true (by first | (with_reducible assumption) | assumption); have cg : aD < (l0_0.length : Int) := of_decide_eq_true (by first | (with_reducible assumption) | assumption); obtain ⟨eH, gB, gC, gD, gE, gF, gG, gH, gI, eI, ch, ci, cj, ck, cl, cm, dR, dS, dT, dU, dV, dW, dX, dY⟩ := at_T51 dG.out aD cf cg; obtain rfl : bI = eH := (by injection eI); replace ch := (HB.out.cell (h7 w _ ch)).trans ch; replace ci := (HB.out.cell (h7 w _ ci)).trans ci; replace cj := (HB.out.cell (h7 w _ cj)).trans cj; replace ck := (HB.out.cell (h7 w _ ck)).trans ck; replace cl := (HB.out.cell (h7 w _ cl)).trans cl; replace cm := (HB.out.cell (h7 w _ cm)).trans cm; have gJ := q18 dS; have gK := q18 dR; clear dS dR; have gL := q18 dU; have gM := q18 dT; clear dU dT; have eJ := q18 dW; have gN := q18 dV; clear dW dV; have gO := q18 dY; have gP := q18 dX; clear dY dX; replace cf := eq_true cf; replace cg := eq_true cg) | ((with_reducible refine gate_builtin (b := .append) (xs := #[.tmp 25, .tmp 31]) rfl ?_); at_builtin; refine Kd.R_append_rows k31 (w0 := w) w.heap.size rfl (.tmp 25) (.tmp 31) 25 31 (.agg #[(.int .i64 0), (.int .i64 0), (.bool false), (.int .i64 0), (.bool false), (.int .i64 0)]) 48 rfl Try.underlying25 info31 rfl (by decide) (by omega) u4 x4_1 ((rd_T51 l0_0 aD).f2) _ _ _ (fun _ => True) (fun _ => False) rfl rfl ?aO ?aR (fun _ _ h => h) (fun _ h => h.elim) ?aF ?aB ?aS ?aL ?_; (case aR => repeat (first | exact (Kd.C_below eJ.out HB.out) | (with_reducible refine Kd.C_alloc ?_ _) | (with_reducible refine Kd.C_drewN ?_ _) | (with_reducible refine Kd.C_drew ?_))); (case aB => exact (by repeat (first | (with_reducible first | exact HB.out | apply hR | apply hS | apply hT | refine h2 ?_ ay.out | refine h2 ?_ aJ.out) | exact HB.out))); (case aF => exact (fun _ _ => trivial)); (case aO => exact (by (with_reducible repeat (first | apply h4 | apply h5 | apply h6)); exact ax.out)); (case aS => exact (hV (by repeat (first | (with_reducible first | exact HB.out | apply hR | apply hS | apply hT | refine h2 ?_ ay.out | refine h2 ?_ aJ.out) | exact HB.out)))); (case aL => have := eD.out; omega); intro gQ gR ho hb hg hat; rw [← eE.out] at ho; have ah := q18 (blk_grown (g := al) (o := .cells #[.slice (some bI) l0_0.length az, .slice aA l0_1.length aC, .int .i64 ac, .bool true] 50 (0, 0)) (by (with_reducible repeat (first | refine hX ?_ _ | refine hZ ?_ | refine hY ?_ _)); exact aa.out) hg (Kd.R_ne ax.out aa.out (by decide))); have ai := q18 (blk_grown (g := aq) (o := .cells #[.int .i64 0, .int .i64 0, .int .i64 0, .slice none 0 0] 37 (0, 0)) (by (with_reducible repeat (first | refine hX ?_ _ | refine hZ ?_ | refine hY ?_ _)); exact ad.out) hg (Kd.R_ne ax.out ad.out (by decide))); have aj := q18 (Kd.R_over' (by (with_reducible repeat (first | apply h4 | apply h5 | apply h6)); exact bJ.out) (Kd.R_typed (by (with_reducible repeat (first | apply h4 | apply h5 | apply h6)); exact ax.out)) (by decide) hg); have ak := q18 (hb); have ap := q18 (ho); clear aa; clear ad; clear bJ; clear HB; clear ax; have aa := ah; have ad := ai; have bJ := aj; have HB := ak; have eK := ap; clear ah ai aj ak ap; clear ho hb hg hat))
        go_roundg k1
        case measure => have := dH.out; omega
        case rel => exact ⟨(b6), (dI), (wrap64 (aD + 1)), (by first | rfl | (simp; done) | (simp [*]; done)), H', ⟨by have := dH.out; omega⟩, ⟨by (with_reducible repeat (first | apply h4 | apply h5 | apply h6)); exact bJ.out⟩, ⟨by (with_reducible repeat (first | apply h4 | apply h5 | apply h6)); exact eK.out⟩, ⟨by (with_reducible repeat (first | refine hX ?_ _ | refine hZ ?_ | refine hY ?_ _)); exact aa.out⟩, ⟨by (with_reducible repeat (first | refine hX ?_ _ | refine hZ ?_ | refine hY ?_ _)); exact ad.out⟩, ⟨by repeat (first | (with_reducible first | exact HB.out | apply hR | apply hS | apply hT | refine h2 ?_ ay.out | refine h2 ?_ aJ.out) | exact HB.out)⟩⟩
       ·rw [if_neg bH] at H
        exact absurd H (by simp)
      ·rw [if_neg c9] at H
       exact absurd H (by simp)
     ·rw [if_neg c8] at H
      exact absurd H (by simp)
    ·rw [if_neg c7] at H
     have bx : decide (aD < (l0_0.length : Int)) = false := decide_eq_false c7
     clear c7
     replace H := Option.bind_eq_some_iff.mp H
     obtain ⟨t356, dZ, H⟩ := H
     replace H : (if x3_1.length + t356.length < 2932031007402 then ((meddlerref17_Sort.f k1 (x3_1 ++ t356)).bind fun t362 => (if (t362.length : Int) > 0 then (some (2, 0, 0, t362)) else (some (3, 0, 0, ([] : List (S24)))))) else (none)) = some (r1, r2, r3, r4) := H
     have d0 := q18 dZ
     clear dZ
     by_cases br : x3_1.length + t356.length < 2932031007402
     ·rw [if_pos br] at H
      have d1 := q18 br
      clear br
      obtain ⟨y359, bC⟩ : ∃ y_ : List (S24), y_ = (x3_1 ++ t356) := ⟨_, rfl⟩
      replace H : ((meddlerref17_Sort.f k1 y359).bind fun t362 => (if (t362.length : Int) > 0 then (some (2, 0, 0, t362)) else (some (3, 0, 0, ([] : List (S24)))))) = some (r1, r2, r3, r4) := by first | (rw [bC]; with_reducible exact H) | (have aX := (Option.bind_some _ _).symm.trans H; rw [bC]; with_reducible exact aX) | (have aX := (Option.bind_some _ _).symm.trans H; with_reducible exact aX) | with_reducible exact H | (rw [bC]; exact H) | exact H
      have d2 := q18 bC
      clear bC
      replace H := Option.bind_eq_some_iff.mp H
      obtain ⟨t362, d3, H⟩ := H
      replace H : (if (t362.length : Int) > 0 then (some (2, 0, 0, t362)) else (some (3, 0, 0, ([] : List (S24))))) = some (r1, r2, r3, r4) := H
      have d4 := q18 d3
      clear d3
      by_cases bw : (t362.length : Int) > 0
      ·rw [if_pos bw] at H
       have eL : decide (0 < (t362.length : Int)) = true := decide_eq_true bw
       have eM : decide (0 < t362.length) = true := decide_eq_true (by omega)
       clear bw
       simp only [Option.some.injEq, Prod.mk.injEq] at H
       obtain ⟨rfl, rfl, rfl, rfl⟩ := H
       have gS := bu.out
       have gT := bv.out
       have gU : wr.cell? ⟨al, 0, none⟩ = some (.slice aI l0_0.length az) := (h0 aa.out 0).trans rfl
       have gV : wr.cell? ⟨al, 1, none⟩ = some (.slice aA l0_1.length aC) := (h0 aa.out 1).trans rfl
       have gW : wr.cell? ⟨al, 2, none⟩ = some (.int .i64 ac) := (h0 aa.out 2).trans rfl
       have gX : wr.cell? ⟨al, 3, none⟩ = some (.bool true) := (h0 aa.out 3).trans rfl
       have gY := h1 aa.out 0
       have gZ := h1 aa.out 1
       have g0 := h1 aa.out 2
       have g1 := h1 aa.out 3
       obtain ⟨eN, eO, eP⟩ := Kd.R_slice ax.out
       subst eP
       go_wp2_with (first | ((with_reducible refine gate_callee (f := 21) rfl ?_); refine goesL_ (some 35) rfl rfl Try.func21 (by kernel_rfl) rfl #[.slice eN x4_1.length eO] rfl (by (try simp only [List.map_toArray, List.map_cons, List.map_nil]); first | done | rfl | (simp only [List.length_drop, List.length_take]; rfl)) ?_; (with_reducible refine (meddlerref15_All.calls k1 _ _ x4_1 t356 _ ?side1 ?side2 d0.out).mono ?_); (case side1 => repeat (first | exact (Kd.R_reads' ax.out).2.2 | (with_reducible refine Kd.C_alloc ?_ _) | (with_reducible refine Kd.C_drewN ?_ _) | (with_reducible refine Kd.C_drew ?_))); (case side2 => exact (Kd.R_reads' ax.out).2.1); rintro e g2 ⟨eQ, rfl, aP, hb⟩; refine ⟨_, rfl, ?_⟩; have ah := q18 (Kd.R_elder' (by (with_reducible repeat (first | apply h4 | apply h5 | apply h6)); exact aH.out) (Kd.R_base aP) hb); have ai := q18 (Kd.R_below (by (with_reducible repeat (first | apply h4 | apply h5 | apply h6)); exact ax.out) hb); have aj := q18 (Kd.R_lower (Kd.R_new' aP (Kd.R_lt (by (with_reducible repeat (first | apply h4 | apply h5 | apply h6)); exact aH.out))) (hV (by repeat (first | (with_reducible first | exact HB.out | apply hR | apply hS | apply hT | refine h2 ?_ ay.out | refine h2 ?_ aJ.out) | exact HB.out)))); have ak := q18 (hW (g := al) (o := .cells #[.slice aI l0_0.length az, .slice aA l0_1.length aC, .int .i64 ac, .bool true] 50 (0, 0)) (by (with_reducible repeat (first | refine hX ?_ _ | refine hZ ?_ | refine hY ?_ _)); exact aa.out) hb); have ap := q18 (hW (g := aq) (o := .cells #[.int .i64 0, .int .i64 0, .int .i64 0, .slice none 0 0] 37 (0, 0)) (by (with_reducible repeat (first | refine hX ?_ _ | refine hZ ?_ | refine hY ?_ _)); exact ad.out) hb); have aw := q18 (hU (by repeat (first | (with_reducible first | exact HB.out | apply hR | apply hS | apply hT | refine h2 ?_ ay.out | refine h2 ?_ aJ.out) | exact HB.out)) hb); clear aH; clear ax; clear aa; clear ad; clear HB; have aH := ah; have ax := ai; have aK := aj; have aa := ak; have ad := ap; have HB := aw; clear ah ai aj ak ap aw; (try clear hb); (try clear cn); (try clear hk); (try clear hi); (try clear aP); obtain ⟨eR, eS, eT⟩ := Kd.R_slice aK.out; subst eT) | ((with_reducible refine gate_builtin (b := .append) (xs := #[.tmp 33, .tmp 35]) rfl ?_); at_builtin; refine Kd.R_append_rows k24 (w0 := w) w.heap.size rfl (.tmp 33) (.tmp 35) 33 24 (.agg #[(.int .i64 0), (.int .i64 0), (.int .i64 0), (.int .i64 0), (.int .i64 0), (.int .i64 0)]) 48 rfl Try.underlying33 info24 rfl (by decide) (by omega) u3 x3_1 t356 _ _ _ (fun k_ => some k_ ≠ (.slice eR t356.length eS : Value).ownBlock) (fun _ => False) rfl rfl ?aO ?aR (fun _ _ h => h) (fun _ h => h.elim) ?aF ?aB ?aS ?aL ?_; (case aR => repeat (first | exact (Kd.R_reads' aK.out).2.2 | (with_reducible refine Kd.C_alloc ?_ _) | (with_reducible refine Kd.C_drewN ?_ _) | (with_reducible refine Kd.C_drew ?_))); (case aB => exact (by repeat (first | (with_reducible first | exact HB.out | apply hR | apply hS | apply hT | refine h2 ?_ ay.out | refine h2 ?_ aJ.out) | exact HB.out))); (case aF => exact (fun k_ hk => Kd.fresh' (Kd.R_lt (by (with_reducible repeat (first | apply h4 | apply h5 | apply h6)); exact aK.out)) k_ hk)); (case aO => exact (by (with_reducible repeat (first | apply h4 | apply h5 | apply h6)); exact Kd.R_mono aH.out (fun _ hk => hk.2))); (case aS => exact (hV (by repeat (first | (with_reducible first | exact HB.out | apply hR | apply hS | apply hT | refine h2 ?_ ay.out | refine h2 ?_ aJ.out) | exact HB.out)))); (case aL => have := d1.out; omega); intro eU g3 ho hb hg hat; rw [← d2.out] at ho; have ah := q18 (Kd.R_over' (by (with_reducible repeat (first | apply h4 | apply h5 | apply h6)); exact ax.out) (Kd.R_typed (by (with_reducible repeat (first | apply h4 | apply h5 | apply h6)); exact aH.out)) (by decide) hg); have ai := q18 (blk_grown (g := al) (o := .cells #[.slice aI l0_0.length az, .slice aA l0_1.length aC, .int .i64 ac, .bool true] 50 (0, 0)) (by (with_reducible repeat (first | refine hX ?_ _ | refine hZ ?_ | refine hY ?_ _)); exact aa.out) hg (Kd.R_ne aH.out aa.out (by decide))); have aj := q18 (blk_grown (g := aq) (o := .cells #[.int .i64 0, .int .i64 0, .int .i64 0, .slice none 0 0] 37 (0, 0)) (by (with_reducible repeat (first | refine hX ?_ _ | refine hZ ?_ | refine hY ?_ _)); exact ad.out) hg (Kd.R_ne aH.out ad.out (by decide))); have ak := q18 (Kd.R_after (ok := (fun _ => True)) (by (with_reducible repeat (first | apply h4 | apply h5 | apply h6)); exact aK.out) hg hat); have ap := q18 (hb); have aw := q18 (ho); clear ax; clear aa; clear ad; clear aK; clear HB; clear aH; have ax := ah; have aa := ai; have ad := aj; have aK := ak; have HB := ap; have aQ := aw; clear ah ai aj ak ap aw; clear ho hb hg hat; obtain ⟨eV, eW, eX⟩ := Kd.R_slice aQ.out; subst eX) | ((with_reducible refine gate_callee (f := 15) rfl ?_); refine goesL_ (some 37) rfl rfl Try.func15 (by kernel_rfl) rfl #[.slice eV y359.length eW] rfl (by (try simp only [List.map_toArray, List.map_cons, List.map_nil]); first | done | rfl | (simp only [List.length_drop, List.length_take]; rfl)) ?_; (with_reducible refine (meddlerref17_Sort.calls k1 _ _ y359 t362 _ ?side1 ?side2 d4.out).mono ?_); (case side1 => repeat (first | exact (Kd.R_reads' aQ.out).2.2 | (with_reducible refine Kd.C_alloc ?_ _) | (with_reducible refine Kd.C_drewN ?_ _) | (with_reducible refine Kd.C_drew ?_))); (case side2 => exact (Kd.R_reads' aQ.out).2.1); rintro e w27 ⟨eY, rfl, aP, hb⟩; refine ⟨_, rfl, ?_⟩; have ah := q18 (Kd.R_below (by (with_reducible repeat (first | apply h4 | apply h5 | apply h6)); exact ax.out) hb); have ai := q18 (Kd.R_elder' (by (with_reducible repeat (first | apply h4 | apply h5 | apply h6)); exact aK.out) (Kd.R_base aP) hb); have aj := q18 (Kd.R_elder' (by (with_reducible repeat (first | apply h4 | apply h5 | apply h6)); exact aQ.out) (Kd.R_base aP) hb); have ak := q18 (Kd.R_lower (Kd.R_new' (Kd.R_new' aP (Kd.R_lt (by (with_reducible repeat (first | apply h4 | apply h5 | apply h6)); exact aK.out))) (Kd.R_lt (by (with_reducible repeat (first | apply h4 | apply h5 | apply h6)); exact aQ.out))) (hV (by repeat (first | (with_reducible first | exact HB.out | apply hR | apply hS | apply hT | refine h2 ?_ ay.out | refine h2 ?_ aJ.out) | exact HB.out)))); have ap := q18 (hW (g := al) (o := .cells #[.slice aI l0_0.length az, .slice aA l0_1.length aC, .int .i64 ac, .bool true] 50 (0, 0)) (by (with_reducible repeat (first | refine hX ?_ _ | refine hZ ?_ | refine hY ?_ _)); exact aa.out) hb); have aw := q18 (hW (g := aq) (o := .cells #[.int .i64 0, .int .i64 0, .int .i64 0, .slice none 0 0] 37 (0, 0)) (by (with_reducible repeat (first | refine hX ?_ _ | refine hZ ?_ | refine hY ?_ _)); exact ad.out) hb); have aN := q18 (hU (by repeat (first | (with_reducible first | exact HB.out | apply hR | apply hS | apply hT | refine h2 ?_ ay.out | refine h2 ?_ aJ.out) | exact HB.out)) hb); clear ax; clear aK; clear aQ; clear aa; clear ad; clear HB; have ax := ah; have aK := ai; have aQ := aj; have bK := ak; have aa := ap; have ad := aw; have HB := aN; clear ah ai aj ak ap aw aN; (try clear hb); (try clear cn); (try clear hk); (try clear hi); (try clear aP); obtain ⟨d5, d6, eZ⟩ := Kd.R_slice bK.out; subst eZ; have g4 : w27.cell? ⟨aq, 0, none⟩ = some (.int .i64 0) := (h0 ad.out 0).trans rfl; have g5 : w27.cell? ⟨aq, 1, none⟩ = some (.int .i64 0) := (h0 ad.out 1).trans rfl; have g6 : w27.cell? ⟨aq, 2, none⟩ = some (.int .i64 0) := (h0 ad.out 2).trans rfl; have g7 : w27.cell? ⟨aq, 3, none⟩ = some (.slice none 0 0) := (h0 ad.out 3).trans rfl; have g8 := h1 ad.out 0; have g9 := h1 ad.out 1; have ha := h1 ad.out 2; have hc := h1 ad.out 3))
       refine bodyPost_ret (results_cell_row rfl _ _ aq 37 #[.int .i64 2, .int .i64 0, .int .i64 0, .slice d5 t362.length d6] (0, 0) _ rfl (by (with_reducible repeat (first | refine hX ?_ _ | refine hZ ?_ | refine hY ?_ _)); refine blk_put (cs := #[.int .i64 2, .int .i64 0, .int .i64 0, .slice none 0 0]) ?_ 3 _ rfl; (with_reducible repeat (first | refine hX ?_ _ | refine hZ ?_ | refine hY ?_ _)); refine blk_put (cs := #[.int .i64 2, .int .i64 0, .int .i64 0, .slice none 0 0]) ?_ 2 _ rfl; (with_reducible repeat (first | refine hX ?_ _ | refine hZ ?_ | refine hY ?_ _)); refine blk_put (cs := #[.int .i64 2, .int .i64 0, .int .i64 0, .slice none 0 0]) ?_ 1 _ rfl; (with_reducible repeat (first | refine hX ?_ _ | refine hZ ?_ | refine hY ?_ _)); refine blk_put (cs := #[.int .i64 0, .int .i64 0, .int .i64 0, .slice none 0 0]) ?_ 0 _ rfl; (with_reducible repeat (first | refine hX ?_ _ | refine hZ ?_ | refine hY ?_ _)); exact ad.out) Try.underlying37 rfl (by kernel_rfl)) rfl ?_
       exact ⟨_, by first | rfl | (simp [errW_none, errW_some] <;> rfl) | (simp [*, errW_none, errW_some] <;> rfl), by (with_reducible repeat (first | apply h4 | apply h5 | apply h6)); exact Kd.R_mono (Kd.R_far (p := ⟨aq, 3, none⟩) (Kd.R_far (p := ⟨aq, 2, none⟩) (Kd.R_far (p := ⟨aq, 1, none⟩) (Kd.R_far (p := ⟨aq, 0, none⟩) (Kd.R_types bK.out ad.out (by decide)) (fun _ hk => hk.2) (.int .i64 2)) (fun _ hk => hk.2) (.int .i64 0)) (fun _ hk => hk.2) (.int .i64 0)) (fun _ hk => hk.2) (.slice d5 t362.length d6)) (fun _ hk => trivial), by repeat (first | (with_reducible first | exact HB.out | apply hR | apply hS | apply hT | refine h2 ?_ ay.out | refine h2 ?_ aJ.out) | exact HB.out)⟩
      ·rw [if_neg bw] at H
       have eL : decide (0 < (t362.length : Int)) = false := decide_eq_false bw
       have eM : decide (0 < t362.length) = false := decide_eq_false (by omega)
       clear bw
       simp only [Option.some.injEq, Prod.mk.injEq] at H
       obtain ⟨rfl, rfl, rfl, rfl⟩ := H
       have he := bu.out
       have hf := bv.out
       have eg : wr.cell? ⟨al, 0, none⟩ = some (.slice aI l0_0.length az) := (h0 aa.out 0).trans rfl
       have eh : wr.cell? ⟨al, 1, none⟩ = some (.slice aA l0_1.length aC) := (h0 aa.out 1).trans rfl
       have ei : wr.cell? ⟨al, 2, none⟩ = some (.int .i64 ac) := (h0 aa.out 2).trans rfl
       have ej : wr.cell? ⟨al, 3, none⟩ = some (.bool true) := (h0 aa.out 3).trans rfl
       have ek := h1 aa.out 0
       have el := h1 aa.out 1
       have em := h1 aa.out 2
       have en := h1 aa.out 3
       obtain ⟨e0, e1, e2⟩ := Kd.R_slice ax.out
       subst e2
       go_wp2_with (first | ((with_reducible refine gate_callee (f := 21) rfl ?_); refine goesL_ (some 35) rfl rfl Try.func21 (by kernel_rfl) rfl #[.slice e0 x4_1.length e1] rfl (by (try simp only [List.map_toArray, List.map_cons, List.map_nil]); first | done | rfl | (simp only [List.length_drop, List.length_take]; rfl)) ?_; (with_reducible refine (meddlerref15_All.calls k1 _ _ x4_1 t356 _ ?side1 ?side2 d0.out).mono ?_); (case side1 => repeat (first | exact (Kd.R_reads' ax.out).2.2 | (with_reducible refine Kd.C_alloc ?_ _) | (with_reducible refine Kd.C_drewN ?_ _) | (with_reducible refine Kd.C_drew ?_))); (case side2 => exact (Kd.R_reads' ax.out).2.1); rintro e hh ⟨eQ, rfl, aP, hb⟩; refine ⟨_, rfl, ?_⟩; have ah := q18 (Kd.R_elder' (by (with_reducible repeat (first | apply h4 | apply h5 | apply h6)); exact aH.out) (Kd.R_base aP) hb); have ai := q18 (Kd.R_below (by (with_reducible repeat (first | apply h4 | apply h5 | apply h6)); exact ax.out) hb); have aj := q18 (Kd.R_lower (Kd.R_new' aP (Kd.R_lt (by (with_reducible repeat (first | apply h4 | apply h5 | apply h6)); exact aH.out))) (hV (by repeat (first | (with_reducible first | exact HB.out | apply hR | apply hS | apply hT | refine h2 ?_ ay.out | refine h2 ?_ aJ.out) | exact HB.out)))); have ak := q18 (hW (g := al) (o := .cells #[.slice aI l0_0.length az, .slice aA l0_1.length aC, .int .i64 ac, .bool true] 50 (0, 0)) (by (with_reducible repeat (first | refine hX ?_ _ | refine hZ ?_ | refine hY ?_ _)); exact aa.out) hb); have ap := q18 (hW (g := aq) (o := .cells #[.int .i64 0, .int .i64 0, .int .i64 0, .slice none 0 0] 37 (0, 0)) (by (with_reducible repeat (first | refine hX ?_ _ | refine hZ ?_ | refine hY ?_ _)); exact ad.out) hb); have aw := q18 (hU (by repeat (first | (with_reducible first | exact HB.out | apply hR | apply hS | apply hT | refine h2 ?_ ay.out | refine h2 ?_ aJ.out) | exact HB.out)) hb); clear aH; clear ax; clear aa; clear ad; clear HB; have aH := ah; have ax := ai; have aK := aj; have aa := ak; have ad := ap; have HB := aw; clear ah ai aj ak ap aw; (try clear hb); (try clear cn); (try clear hk); (try clear hi); (try clear aP); obtain ⟨e3, e4, e5⟩ := Kd.R_slice aK.out; subst e5) | ((with_reducible refine gate_builtin (b := .append) (xs := #[.tmp 33, .tmp 35]) rfl ?_); at_builtin; refine Kd.R_append_rows k24 (w0 := w) w.heap.size rfl (.tmp 33) (.tmp 35) 33 24 (.agg #[(.int .i64 0), (.int .i64 0), (.int .i64 0), (.int .i64 0), (.int .i64 0), (.int .i64 0)]) 48 rfl Try.underlying33 info24 rfl (by decide) (by omega) u3 x3_1 t356 _ _ _ (fun k_ => some k_ ≠ (.slice e3 t356.length e4 : Value).ownBlock) (fun _ => False) rfl rfl ?aO ?aR (fun _ _ h => h) (fun _ h => h.elim) ?aF ?aB ?aS ?aL ?_; (case aR => repeat (first | exact (Kd.R_reads' aK.out).2.2 | (with_reducible refine Kd.C_alloc ?_ _) | (with_reducible refine Kd.C_drewN ?_ _) | (with_reducible refine Kd.C_drew ?_))); (case aB => exact (by repeat (first | (with_reducible first | exact HB.out | apply hR | apply hS | apply hT | refine h2 ?_ ay.out | refine h2 ?_ aJ.out) | exact HB.out))); (case aF => exact (fun k_ hk => Kd.fresh' (Kd.R_lt (by (with_reducible repeat (first | apply h4 | apply h5 | apply h6)); exact aK.out)) k_ hk)); (case aO => exact (by (with_reducible repeat (first | apply h4 | apply h5 | apply h6)); exact Kd.R_mono aH.out (fun _ hk => hk.2))); (case aS => exact (hV (by repeat (first | (with_reducible first | exact HB.out | apply hR | apply hS | apply hT | refine h2 ?_ ay.out | refine h2 ?_ aJ.out) | exact HB.out)))); (case aL => have := d1.out; omega); intro eU hj ho hb hg hat; rw [← d2.out] at ho; have ah := q18 (Kd.R_over' (by (with_reducible repeat (first | apply h4 | apply h5 | apply h6)); exact ax.out) (Kd.R_typed (by (with_reducible repeat (first | apply h4 | apply h5 | apply h6)); exact aH.out)) (by decide) hg); have ai := q18 (blk_grown (g := al) (o := .cells #[.slice aI l0_0.length az, .slice aA l0_1.length aC, .int .i64 ac, .bool true] 50 (0, 0)) (by (with_reducible repeat (first | refine hX ?_ _ | refine hZ ?_ | refine hY ?_ _)); exact aa.out) hg (Kd.R_ne aH.out aa.out (by decide))); have aj := q18 (blk_grown (g := aq) (o := .cells #[.int .i64 0, .int .i64 0, .int .i64 0, .slice none 0 0] 37 (0, 0)) (by (with_reducible repeat (first | refine hX ?_ _ | refine hZ ?_ | refine hY ?_ _)); exact ad.out) hg (Kd.R_ne aH.out ad.out (by decide))); have ak := q18 (Kd.R_after (ok := (fun _ => True)) (by (with_reducible repeat (first | apply h4 | apply h5 | apply h6)); exact aK.out) hg hat); have ap := q18 (hb); have aw := q18 (ho); clear ax; clear aa; clear ad; clear aK; clear HB; clear aH; have ax := ah; have aa := ai; have ad := aj; have aK := ak; have HB := ap; have aQ := aw; clear ah ai aj ak ap aw; clear ho hb hg hat; obtain ⟨e6, e7, e8⟩ := Kd.R_slice aQ.out; subst e8) | ((with_reducible refine gate_callee (f := 15) rfl ?_); refine goesL_ (some 37) rfl rfl Try.func15 (by kernel_rfl) rfl #[.slice e6 y359.length e7] rfl (by (try simp only [List.map_toArray, List.map_cons, List.map_nil]); first | done | rfl | (simp only [List.length_drop, List.length_take]; rfl)) ?_; (with_reducible refine (meddlerref17_Sort.calls k1 _ _ y359 t362 _ ?side1 ?side2 d4.out).mono ?_); (case side1 => repeat (first | exact (Kd.R_reads' aQ.out).2.2 | (with_reducible refine Kd.C_alloc ?_ _) | (with_reducible refine Kd.C_drewN ?_ _) | (with_reducible refine Kd.C_drew ?_))); (case side2 => exact (Kd.R_reads' aQ.out).2.1); rintro e w37 ⟨eY, rfl, aP, hb⟩; refine ⟨_, rfl, ?_⟩; have ah := q18 (Kd.R_below (by (with_reducible repeat (first | apply h4 | apply h5 | apply h6)); exact ax.out) hb); have ai := q18 (Kd.R_elder' (by (with_reducible repeat (first | apply h4 | apply h5 | apply h6)); exact aK.out) (Kd.R_base aP) hb); have aj := q18 (Kd.R_elder' (by (with_reducible repeat (first | apply h4 | apply h5 | apply h6)); exact aQ.out) (Kd.R_base aP) hb); have ak := q18 (Kd.R_lower (Kd.R_new' (Kd.R_new' aP (Kd.R_lt (by (with_reducible repeat (first | apply h4 | apply h5 | apply h6)); exact aK.out))) (Kd.R_lt (by (with_reducible repeat (first | apply h4 | apply h5 | apply h6)); exact aQ.out))) (hV (by repeat (first | (with_reducible first | exact HB.out | apply hR | apply hS | apply hT | refine h2 ?_ ay.out | refine h2 ?_ aJ.out) | exact HB.out)))); have ap := q18 (hW (g := al) (o := .cells #[.slice aI l0_0.length az, .slice aA l0_1.length aC, .int .i64 ac, .bool true] 50 (0, 0)) (by (with_reducible repeat (first | refine hX ?_ _ | refine hZ ?_ | refine hY ?_ _)); exact aa.out) hb); have aw := q18 (hW (g := aq) (o := .cells #[.int .i64 0, .int .i64 0, .int .i64 0, .slice none 0 0] 37 (0, 0)) (by (with_reducible repeat (first | refine hX ?_ _ | refine hZ ?_ | refine hY ?_ _)); exact ad.out) hb); have aN := q18 (hU (by repeat (first | (with_reducible first | exact HB.out | apply hR | apply hS | apply hT | refine h2 ?_ ay.out | refine h2 ?_ aJ.out) | exact HB.out)) hb); clear ax; clear aK; clear aQ; clear aa; clear ad; clear HB; have ax := ah; have aK := ai; have aQ := aj; have bK := ak; have aa := ap; have ad := aw; have HB := aN; clear ah ai aj ak ap aw aN; (try clear hb); (try clear cn); (try clear hk); (try clear hi); (try clear aP); obtain ⟨hl, hm, e9⟩ := Kd.R_slice bK.out; subst e9; have hn : w37.cell? ⟨aq, 0, none⟩ = some (.int .i64 0) := (h0 ad.out 0).trans rfl; have hp : w37.cell? ⟨aq, 1, none⟩ = some (.int .i64 0) := (h0 ad.out 1).trans rfl; have hq : w37.cell? ⟨aq, 2, none⟩ = some (.int .i64 0) := (h0 ad.out 2).trans rfl; have hs : w37.cell? ⟨aq, 3, none⟩ = some (.slice none 0 0) := (h0 ad.out 3).trans rfl; have ht := h1 ad.out 0; have hv := h1 ad.out 1; have hw := h1 ad.out 2; have hx := h1 ad.out 3))
       refine bodyPost_ret (results_cell_row rfl _ _ aq 37 #[.int .i64 3, .int .i64 0, .int .i64 0, .slice none 0 0] (0, 0) _ rfl (by (with_reducible repeat (first | refine hX ?_ _ | refine hZ ?_ | refine hY ?_ _)); refine blk_put (cs := #[.int .i64 3, .int .i64 0, .int .i64 0, .slice none 0 0]) ?_ 3 _ rfl; (with_reducible repeat (first | refine hX ?_ _ | refine hZ ?_ | refine hY ?_ _)); refine blk_put (cs := #[.int .i64 3, .int .i64 0, .int .i64 0, .slice none 0 0]) ?_ 2 _ rfl; (with_reducible repeat (first | refine hX ?_ _ | refine hZ ?_ | refine hY ?_ _)); refine blk_put (cs := #[.int .i64 3, .int .i64 0, .int .i64 0, .slice none 0 0]) ?_ 1 _ rfl; (with_reducible repeat (first | refine hX ?_ _ | refine hZ ?_ | refine hY ?_ _)); refine blk_put (cs := #[.int .i64 0, .int .i64 0, .int .i64 0, .slice none 0 0]) ?_ 0 _ rfl; (with_reducible repeat (first | refine hX ?_ _ | refine hZ ?_ | refine hY ?_ _)); exact ad.out) Try.underlying37 rfl (by kernel_rfl)) rfl ?_
       exact ⟨_, by first | rfl | (simp [errW_none, errW_some] <;> rfl) | (simp [*, errW_none, errW_some] <;> rfl), by first | exact Kd.R_nil _ _ _ _ _ | exact Kd.N_nil _ _ _ _ _ | exact Kd.V_nil _ _ _ _ _ | exact Kd.Q_nil _ _ _ _ _ | exact Kd.S_nil _ _ _ _ _, by repeat (first | (with_reducible first | exact HB.out | apply hR | apply hS | apply hT | refine h2 ?_ ay.out | refine h2 ?_ aJ.out) | exact HB.out)⟩
     ·rw [if_neg br] at H
      exact absurd H (by simp)
 ·replace c2 := Bool.eq_false_iff.mpr c2
  subst c2
  have H1 : (some (4, 0, 0, ([] : List (S24)))) = some (r1, r2, r3, r4) := by rw [if_neg (show ¬ (false = true) by decide)] at H; exact H
  clear H
  have H := H1
  clear H1
  simp only [Option.some.injEq, Prod.mk.injEq] at H
  obtain ⟨rfl, rfl, rfl, rfl⟩ := H
  go_enter Try.func18, Try.ntmps18
  go_wp2_with (first | ((with_reducible refine gate_dst (N := 1) rfl ?_); refine h3 ?hg (N := 1) ?hd (cs := #[.slice aI l0_0.length az, .slice aA l0_1.length aC, .int .i64 ac, .bool false]) (t := 50) ?hr ?_; (case hd => rfl); (case hg => rfl); (case hr => first | (go_simp; done) | (go_simp; rfl)); intro al hg hy hbox hb; have ah := q18 (hU (by repeat (first | (with_reducible first | exact HB.out | apply hR | apply hS | apply hT) | exact HB.out)) hb); have ai := q18 (hbox); have aj := q18 ((by rw [hg]; exact (hV (by repeat (first | (with_reducible first | exact HB.out | apply hR | apply hS | apply hT) | exact HB.out))) : w.heap.size ≤ al)); have ak := q18 ((by rw [hg]; exact (hV (by repeat (first | (with_reducible first | exact HB.out | apply hR | apply hS | apply hT) | exact HB.out))) : w.heap.size ≤ al)); clear HB; have HB := ah; have aa := ai; have er := aj; have ay := ak; clear ah ai aj ak; clear hb hbox hg) | ((with_reducible refine gate_dst (N := 2) rfl ?_); refine h3 ?hg (N := 2) ?hd (cs := #[.int .i64 0, .int .i64 0, .int .i64 0, .slice none 0 0]) (t := 37) ?hr ?_; (case hd => rfl); (case hg => rfl); (case hr => first | (go_simp; done) | (go_simp; rfl)); intro aq hg w41 hbox hb; have ah := q18 (hW (g := al) (o := .cells #[.slice aI l0_0.length az, .slice aA l0_1.length aC, .int .i64 ac, .bool false] 50 (0, 0)) (by (with_reducible repeat (first | refine hX ?_ _ | refine hZ ?_ | refine hY ?_ _)); exact aa.out) hb); have ai := q18 (hU (by repeat (first | (with_reducible first | exact HB.out | apply hR | apply hS | apply hT | refine h2 ?_ ay.out) | exact HB.out)) hb); have aj := q18 (hbox); have ak := q18 ((by rw [hg]; exact (hV (by repeat (first | (with_reducible first | exact HB.out | apply hR | apply hS | apply hT | refine h2 ?_ ay.out) | exact HB.out))) : w.heap.size ≤ aq)); have ap := q18 ((by rw [hg]; exact (hV (by repeat (first | (with_reducible first | exact HB.out | apply hR | apply hS | apply hT | refine h2 ?_ ay.out) | exact HB.out))) : w.heap.size ≤ aq)); have aw := q18 ((by rw [hg]; exact Nat.ne_of_lt (blk_lt (g := al) (o := .cells #[.slice aI l0_0.length az, .slice aA l0_1.length aC, .int .i64 ac, .bool false] 50 (0, 0)) (by (with_reducible repeat (first | refine hX ?_ _ | refine hZ ?_ | refine hY ?_ _)); exact aa.out)) : al ≠ aq)); have aN := q18 ((by rw [hg]; exact Nat.ne_of_gt (blk_lt (g := al) (o := .cells #[.slice aI l0_0.length az, .slice aA l0_1.length aC, .int .i64 ac, .bool false] 50 (0, 0)) (by (with_reducible repeat (first | refine hX ?_ _ | refine hZ ?_ | refine hY ?_ _)); exact aa.out)) : aq ≠ al)); clear aa; clear HB; have aa := ah; have HB := ai; have ad := aj; have es := ak; have aJ := ap; have bu := aw; have bv := aN; clear ah ai aj ak ap aw aN; clear hb hbox hg; have hz := bu.out; have hA := bv.out; have hB : w41.cell? ⟨al, 0, none⟩ = some (.slice aI l0_0.length az) := (h0 aa.out 0).trans rfl; have hC : w41.cell? ⟨al, 1, none⟩ = some (.slice aA l0_1.length aC) := (h0 aa.out 1).trans rfl; have hD : w41.cell? ⟨al, 2, none⟩ = some (.int .i64 ac) := (h0 aa.out 2).trans rfl; have hE : w41.cell? ⟨al, 3, none⟩ = some (.bool false) := (h0 aa.out 3).trans rfl; have hF := h1 aa.out 0; have hG := h1 aa.out 1; have hH := h1 aa.out 2; have hI := h1 aa.out 3; have hJ : w41.cell? ⟨aq, 0, none⟩ = some (.int .i64 0) := (h0 ad.out 0).trans rfl; have hK : w41.cell? ⟨aq, 1, none⟩ = some (.int .i64 0) := (h0 ad.out 1).trans rfl; have hL : w41.cell? ⟨aq, 2, none⟩ = some (.int .i64 0) := (h0 ad.out 2).trans rfl; have hM : w41.cell? ⟨aq, 3, none⟩ = some (.slice none 0 0) := (h0 ad.out 3).trans rfl; have hN := h1 ad.out 0; have hO := h1 ad.out 1; have hP := h1 ad.out 2; have hQ := h1 ad.out 3))
  refine bodyPost_ret (results_cell_row rfl _ _ aq 37 #[.int .i64 4, .int .i64 0, .int .i64 0, .slice none 0 0] (0, 0) _ rfl (by (with_reducible repeat (first | refine hX ?_ _ | refine hZ ?_ | refine hY ?_ _)); refine blk_put (cs := #[.int .i64 4, .int .i64 0, .int .i64 0, .slice none 0 0]) ?_ 3 _ rfl; (with_reducible repeat (first | refine hX ?_ _ | refine hZ ?_ | refine hY ?_ _)); refine blk_put (cs := #[.int .i64 4, .int .i64 0, .int .i64 0, .slice none 0 0]) ?_ 2 _ rfl; (with_reducible repeat (first | refine hX ?_ _ | refine hZ ?_ | refine hY ?_ _)); refine blk_put (cs := #[.int .i64 4, .int .i64 0, .int .i64 0, .slice none 0 0]) ?_ 1 _ rfl; (with_reducible repeat (first | refine hX ?_ _ | refine hZ ?_ | refine hY ?_ _)); refine blk_put (cs := #[.int .i64 0, .int .i64 0, .int .i64 0, .slice none 0 0]) ?_ 0 _ rfl; (with_reducible repeat (first | refine hX ?_ _ | refine hZ ?_ | refine hY ?_ _)); exact ad.out) Try.underlying37 rfl (by kernel_rfl)) rfl ?_
  exact ⟨_, by first | rfl | (simp [errW_none, errW_some] <;> rfl) | (simp [*, errW_none, errW_some] <;> rfl), by first | exact Kd.R_nil _ _ _ _ _ | exact Kd.N_nil _ _ _ _ _ | exact Kd.V_nil _ _ _ _ _ | exact Kd.Q_nil _ _ _ _ _ | exact Kd.S_nil _ _ _ _ _, by repeat (first | (with_reducible first | exact HB.out | apply hR | apply hS | apply hT | refine h2 ?_ ay.out | refine h2 ?_ aJ.out) | exact HB.out)⟩
end Go.Proofs.Ytadnjibgdpjnlaa.Rp
