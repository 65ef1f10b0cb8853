/- An own text of this seat: Lean functions with the answers of Go functions, and that the Go code comes to them. Written by a program of this session out of the translation. -/
import Derived.Test.YtadnjibgdpjnlaaRpx0
namespace Go.Proofs.Ytadnjibgdpjnlaa.Rp
open Go.RowKit Go.Proofs.YtadnjibgdpjnlaaW.PrintWords Go.Proofs.YtadnjibgdpjnlaaW.PrintLast Go.Proofs.YtadnjibgdpjnlaaW.PrintMore
open Go.Proofs.YtadnjibgdpjnlaaW.PrintWords renaming below_alloc → cn, pw_below_drewN → co, below_drew1 → cp, below_step → cq, below_size → cr, blk_below → ct, blk_drewN → cu, blk_alloc → cv, blk_drew → cw, blk_cell → cx, blk_frozen → cy, below_set → cz, gate_dst → cA
theorem q16 {p : Prop} (h : p) : Aside0 p := ⟨h⟩
attribute [local go_sem] max2_int min2_int max_two min_two max_three min_three max_four min_four   -- for this text's walks alone
set_option linter.unusedVariables false
set_option linter.unusedSimpArgs false

/-! ### meddlerref15_Order: function 16 -/
def meddlerref15_Order.l0 : Nat → List Int → List Int → Int → Option (Int)
 | 0, _, _, _ => none
 | k + 1, x5, x6, x7 => if x7 < 6 then (if 0 ≤ x7 then (if x7 < (x5.length : Int) then (if x7 < (x6.length : Int) then (if (rd x5 x7) < (rd x6 x7) then (some (-1)) else (if (rd x5 x7) > (rd x6 x7) then (some 1) else (meddlerref15_Order.l0 k x5 x6 (wrap64 (x7 + 1))))) else (none)) else (none)) else (none)) else (some 0)
def meddlerref15_Order.f (k : Nat) (ae : Int) (af : Int) (ag : Int) (ah : Int) (ai : Int) (aj : Int) (ap : Int) (aq : Int) (ar : Int) (au : Int) (av : Int) (aw : Int) : Option (Int) := meddlerref15_Order.l0 k (([ae, af, ag, ah, ai, aj] : List Int)) (([ap, aq, ar, au, av, aw] : List Int)) 0
theorem meddlerref15_Order.mono_l : ∀ k, (∀ y0 y1 y2, LeO (meddlerref15_Order.l0 k y0 y1 y2) (meddlerref15_Order.l0 (k + 1) y0 y1 y2))
 | 0 => fun _ _ _ r h => by simp [meddlerref15_Order.l0] at h
 | k + 1 => by
  have aV := meddlerref15_Order.mono_l k
  ·intro y0 y1 y2
   unfold meddlerref15_Order.l0
   repeat' first
   | (with_reducible exact aV _ _ _)
   | (with_reducible exact LeO.refl _)
   | (with_reducible exact LeO.none _)
   | (with_reducible refine LeO.ite ?_ ?_)
   | (with_reducible refine LeO.bind ?_ (fun _ => ?_))
   | exact aV _ _ _
   | exact LeO.none _
   | refine LeO.ite ?_ ?_
   | refine LeO.bind ?_ (fun _ => ?_)
theorem meddlerref15_Order.mono : ∀ a0 a1 a2 a3 a4 a5 a6 a7 a8 a9 bj bk k, LeO (meddlerref15_Order.f k a0 a1 a2 a3 a4 a5 a6 a7 a8 a9 bj bk) (meddlerref15_Order.f (k + 1) a0 a1 a2 a3 a4 a5 a6 a7 a8 a9 bj bk) := by
 intro a0 a1 a2 a3 a4 a5 a6 a7 a8 a9 bj bk k
 have aV := meddlerref15_Order.mono_l k
 unfold meddlerref15_Order.f
 repeat' first
   | (with_reducible exact aV _ _ _)
   | (with_reducible exact LeO.refl _)
   | (with_reducible exact LeO.none _)
   | (with_reducible refine LeO.ite ?_ ?_)
   | (with_reducible refine LeO.bind ?_ (fun _ => ?_))
   | exact aV _ _ _
   | exact LeO.none _
   | refine LeO.ite ?_ ?_
   | refine LeO.bind ?_ (fun _ => ?_)
set_option maxHeartbeats 8000000 in
set_option maxRecDepth 100000 in
theorem meddlerref15_Order.calls (k : Nat) (ae : Int) (af : Int) (ag : Int) (ah : Int) (ai : Int) (aj : Int) (ap : Int) (aq : Int) (ar : Int) (au : Int) (av : Int) (aw : Int) (r : Int) (w : World) (h : meddlerref15_Order.f k ae af ag ah ai aj ap aq ar au av aw = some r) :
  Calls Try.prog 16 #[.agg #[.int .i64 ae, .int .i64 af, .int .i64 ag, .int .i64 ah, .int .i64 ai, .int .i64 aj], .agg #[.int .i64 ap, .int .i64 aq, .int .i64 ar, .int .i64 au, .int .i64 av, .int .i64 aw]] w fun e w' => e = .returned (.int .i64 r) ∧ Below w.heap.size w w' := by
 have hu24 := Try.underlying24
 have HB := q16 (Below.refl w.heap.size w)
 have H : (meddlerref15_Order.l0 k (([ae, af, ag, ah, ai, aj] : List Int)) (([ap, aq, ar, au, av, aw] : List Int)) 0) = some r := h
 clear h
 obtain ⟨y249, aW⟩ : ∃ y_ : List Int, y_ = (([ae, af, ag, ah, ai, aj] : List Int)) := ⟨_, rfl⟩
 replace H : (meddlerref15_Order.l0 k y249 (([ap, aq, ar, au, av, aw] : List Int)) 0) = some r := by first | (rw [aW]; with_reducible exact H) | (have aL := (Option.bind_some _ _).symm.trans H; rw [aW]; with_reducible exact aL) | (have aL := (Option.bind_some _ _).symm.trans H; with_reducible exact aL) | with_reducible exact H | (rw [aW]; exact H) | exact H
 have aQ := q16 aW
 clear aW
 obtain ⟨y252, aX⟩ : ∃ y_ : List Int, y_ = (([ap, aq, ar, au, av, aw] : List Int)) := ⟨_, rfl⟩
 replace H : (meddlerref15_Order.l0 k y249 y252 0) = some r := by first | (rw [aX]; with_reducible exact H) | (have aL := (Option.bind_some _ _).symm.trans H; rw [aX]; with_reducible exact aL) | (have aL := (Option.bind_some _ _).symm.trans H; with_reducible exact aL) | with_reducible exact H | (rw [aX]; exact H) | exact H
 have aR := q16 aX
 clear aX
 have H' := q16 H
 clear H
 go_enter Try.func16, Try.ntmps16
 go_wp2_with (first | ((with_reducible refine cA (N := 2) rfl ?_); refine box_event ?hg (N := 2) ?hd (cs := #[.int .i64 ae, .int .i64 af, .int .i64 ag, .int .i64 ah, .int .i64 ai, .int .i64 aj]) (t := 24) ?hr ?_; (case hd => rfl); (case hg => rfl); (case hr => first | (go_simp; done) | (go_simp; rfl)); intro ad hg w3 hbox hb; have al := q16 (cq (by repeat (first | (with_reducible first | exact HB.out | apply cn | apply co | apply cp) | exact HB.out)) hb); have am := q16 (hbox); have an := q16 ((by rw [hg]; exact (cr (by repeat (first | (with_reducible first | exact HB.out | apply cn | apply co | apply cp) | exact HB.out))) : w.heap.size ≤ ad)); have ao := q16 ((by rw [hg]; exact (cr (by repeat (first | (with_reducible first | exact HB.out | apply cn | apply co | apply cp) | exact HB.out))) : w.heap.size ≤ ad)); clear HB; have HB := al; have aa := am; have bP := an; have ax := ao; clear al am an ao; clear hb hbox hg) | ((with_reducible refine cA (N := 3) rfl ?_); refine box_event ?hg (N := 3) ?hd (cs := #[.int .i64 ap, .int .i64 aq, .int .i64 ar, .int .i64 au, .int .i64 av, .int .i64 aw]) (t := 24) ?hr ?_; (case hd => rfl); (case hg => rfl); (case hr => first | (go_simp; done) | (go_simp; rfl)); intro ak hg w4 hbox hb; have al := q16 (ct (g := ad) (o := .cells #[.int .i64 ae, .int .i64 af, .int .i64 ag, .int .i64 ah, .int .i64 ai, .int .i64 aj] 24 (0, 0)) (by (with_reducible repeat (first | refine cu ?_ _ | refine cw ?_ | refine cv ?_ _)); exact aa.out) hb); have am := q16 (cq (by repeat (first | (with_reducible first | exact HB.out | apply cn | apply co | apply cp | refine cz ?_ ax.out) | exact HB.out)) hb); have an := q16 (hbox); have ao := q16 ((by rw [hg]; exact (cr (by repeat (first | (with_reducible first | exact HB.out | apply cn | apply co | apply cp | refine cz ?_ ax.out) | exact HB.out))) : w.heap.size ≤ ak)); have aA := q16 ((by rw [hg]; exact (cr (by repeat (first | (with_reducible first | exact HB.out | apply cn | apply co | apply cp | refine cz ?_ ax.out) | exact HB.out))) : w.heap.size ≤ ak)); have aJ := q16 ((by rw [hg]; exact Nat.ne_of_lt (blk_lt (g := ad) (o := .cells #[.int .i64 ae, .int .i64 af, .int .i64 ag, .int .i64 ah, .int .i64 ai, .int .i64 aj] 24 (0, 0)) (by (with_reducible repeat (first | refine cu ?_ _ | refine cw ?_ | refine cv ?_ _)); exact aa.out)) : ad ≠ ak)); have aK := q16 ((by rw [hg]; exact Nat.ne_of_gt (blk_lt (g := ad) (o := .cells #[.int .i64 ae, .int .i64 af, .int .i64 ag, .int .i64 ah, .int .i64 ai, .int .i64 aj] 24 (0, 0)) (by (with_reducible repeat (first | refine cu ?_ _ | refine cw ?_ | refine cv ?_ _)); exact aa.out)) : ak ≠ ad)); clear aa; clear HB; have aa := al; have HB := am; have ab := an; have bQ := ao; have az := aA; have aY := aJ; have aZ := aK; clear al am an ao aA aJ aK; clear hb hbox hg; have bR := aY.out; have bS := aZ.out; have bl : w4.cell? ⟨ad, 0, none⟩ = some (.int .i64 ae) := (cx aa.out 0).trans rfl; have bm : w4.cell? ⟨ad, 1, none⟩ = some (.int .i64 af) := (cx aa.out 1).trans rfl; have bn : w4.cell? ⟨ad, 2, none⟩ = some (.int .i64 ag) := (cx aa.out 2).trans rfl; have bo : w4.cell? ⟨ad, 3, none⟩ = some (.int .i64 ah) := (cx aa.out 3).trans rfl; have bp : w4.cell? ⟨ad, 4, none⟩ = some (.int .i64 ai) := (cx aa.out 4).trans rfl; have bq : w4.cell? ⟨ad, 5, none⟩ = some (.int .i64 aj) := (cx aa.out 5).trans rfl; have br := cy aa.out 0; have bs := cy aa.out 1; have bt := cy aa.out 2; have bu := cy aa.out 3; have bv := cy aa.out 4; have bw := cy aa.out 5) | ((with_reducible refine cA (N := 20) rfl ?_); refine Kd.R_lit (Kd.int .i64) _ 3 ?hg (N := 20) ?hd (xs := ([ae, af, ag, ah, ai, aj] : List Int)) (inner := [.int .i64 ae, .int .i64 af, .int .i64 ag, .int .i64 ah, .int .i64 ai, .int .i64 aj]) (ok := fun _ => True) (okp := fun _ => True) ?hr ?hp (fun _ hk => hk) trivial (Below.refl _ _) (Nat.le_refl _) (by simp) ?_; (case hd => rfl); (case hg => rfl); (case hr => first | (go_simp; done) | (go_simp; rfl)); (case hp => exact (Reps.one (show Kd.M (Kd.int .i64) _ _ _ ae [.int .i64 ae] from rfl) (Reps.one (show Kd.M (Kd.int .i64) _ _ _ af [.int .i64 af] from rfl) (Reps.one (show Kd.M (Kd.int .i64) _ _ _ ag [.int .i64 ag] from rfl) (Reps.one (show Kd.M (Kd.int .i64) _ _ _ ah [.int .i64 ah] from rfl) (Reps.one (show Kd.M (Kd.int .i64) _ _ _ ai [.int .i64 ai] from rfl) (Reps.one (show Kd.M (Kd.int .i64) _ _ _ aj [.int .i64 aj] from rfl) (Reps.none _ _)))))))); intro bc w7 aB hb hg_ hnew_; clear hg_ hnew_; (first | rw [← aQ.out] at aB | (simp only [Int.reduceToNat] at aB; rw [← aQ.out] at aB)); have al := q16 (Kd.R_lower aB (cr (by repeat (first | (with_reducible first | exact HB.out | apply cn | apply co | apply cp | refine cz ?_ ax.out | refine cz ?_ az.out) | exact HB.out)))); have am := q16 (ct (g := ad) (o := .cells #[.int .i64 ae, .int .i64 af, .int .i64 ag, .int .i64 ah, .int .i64 ai, .int .i64 aj] 24 (0, 0)) (by (with_reducible repeat (first | refine cu ?_ _ | refine cw ?_ | refine cv ?_ _)); exact aa.out) hb); have an := q16 (ct (g := ak) (o := .cells #[.int .i64 ap, .int .i64 aq, .int .i64 ar, .int .i64 au, .int .i64 av, .int .i64 aw] 24 (0, 0)) (by (with_reducible repeat (first | refine cu ?_ _ | refine cw ?_ | refine cv ?_ _)); exact ab.out) hb); have ao := q16 (cq (by repeat (first | (with_reducible first | exact HB.out | apply cn | apply co | apply cp | refine cz ?_ ax.out | refine cz ?_ az.out) | exact HB.out)) hb); clear aa; clear ab; clear HB; have aC := al; have aa := am; have ab := an; have HB := ao; clear al am an ao; clear hb aB; have bx : w7.cell? ⟨ak, 0, none⟩ = some (.int .i64 ap) := (cx ab.out 0).trans rfl; have bz : w7.cell? ⟨ak, 1, none⟩ = some (.int .i64 aq) := (cx ab.out 1).trans rfl; have bA : w7.cell? ⟨ak, 2, none⟩ = some (.int .i64 ar) := (cx ab.out 2).trans rfl; have bB : w7.cell? ⟨ak, 3, none⟩ = some (.int .i64 au) := (cx ab.out 3).trans rfl; have bC : w7.cell? ⟨ak, 4, none⟩ = some (.int .i64 av) := (cx ab.out 4).trans rfl; have bD : w7.cell? ⟨ak, 5, none⟩ = some (.int .i64 aw) := (cx ab.out 5).trans rfl; have bE := cy ab.out 0; have bF := cy ab.out 1; have bG := cy ab.out 2; have bH := cy ab.out 3; have bI := cy ab.out 4; have bJ := cy ab.out 5) | ((with_reducible refine cA (N := 33) rfl ?_); refine Kd.R_lit (Kd.int .i64) _ 3 ?hg (N := 33) ?hd (xs := ([ap, aq, ar, au, av, aw] : List Int)) (inner := [.int .i64 ap, .int .i64 aq, .int .i64 ar, .int .i64 au, .int .i64 av, .int .i64 aw]) (ok := fun _ => True) (okp := fun _ => True) ?hr ?hp (fun _ hk => hk) trivial (Below.refl _ _) (Nat.le_refl _) (by simp) ?_; (case hd => rfl); (case hg => rfl); (case hr => first | (go_simp; done) | (go_simp; rfl)); (case hp => exact (Reps.one (show Kd.M (Kd.int .i64) _ _ _ ap [.int .i64 ap] from rfl) (Reps.one (show Kd.M (Kd.int .i64) _ _ _ aq [.int .i64 aq] from rfl) (Reps.one (show Kd.M (Kd.int .i64) _ _ _ ar [.int .i64 ar] from rfl) (Reps.one (show Kd.M (Kd.int .i64) _ _ _ au [.int .i64 au] from rfl) (Reps.one (show Kd.M (Kd.int .i64) _ _ _ av [.int .i64 av] from rfl) (Reps.one (show Kd.M (Kd.int .i64) _ _ _ aw [.int .i64 aw] from rfl) (Reps.none _ _)))))))); intro bd bT ay hb hg_ hnew_; clear hg_ hnew_; (first | rw [← aR.out] at ay | (simp only [Int.reduceToNat] at ay; rw [← aR.out] at ay)); have al := q16 (Kd.R_elder' (by (with_reducible repeat (first | apply Kd.R_alloc | apply Kd.R_drewN | apply Kd.R_drew)); exact aC.out) (Kd.R_base ay) hb); have am := q16 (Kd.R_lower (Kd.R_new' ay (Kd.R_lt (by (with_reducible repeat (first | apply Kd.R_alloc | apply Kd.R_drewN | apply Kd.R_drew)); exact aC.out))) (cr (by repeat (first | (with_reducible first | exact HB.out | apply cn | apply co | apply cp | refine cz ?_ ax.out | refine cz ?_ az.out) | exact HB.out)))); have an := q16 (ct (g := ad) (o := .cells #[.int .i64 ae, .int .i64 af, .int .i64 ag, .int .i64 ah, .int .i64 ai, .int .i64 aj] 24 (0, 0)) (by (with_reducible repeat (first | refine cu ?_ _ | refine cw ?_ | refine cv ?_ _)); exact aa.out) hb); have ao := q16 (ct (g := ak) (o := .cells #[.int .i64 ap, .int .i64 aq, .int .i64 ar, .int .i64 au, .int .i64 av, .int .i64 aw] 24 (0, 0)) (by (with_reducible repeat (first | refine cu ?_ _ | refine cw ?_ | refine cv ?_ _)); exact ab.out) hb); have aA := q16 (cq (by repeat (first | (with_reducible first | exact HB.out | apply cn | apply co | apply cp | refine cz ?_ ax.out | refine cz ?_ az.out) | exact HB.out)) hb); clear aC; clear aa; clear ab; clear HB; have aC := al; have bK := am; have aa := an; have ab := ao; have HB := aA; clear al am an ao aA; clear hb ay))
 repeat (go_quiet (first | ((with_reducible refine cA (N := 2) rfl ?_); refine box_event ?hg (N := 2) ?hd (cs := #[.int .i64 ae, .int .i64 af, .int .i64 ag, .int .i64 ah, .int .i64 ai, .int .i64 aj]) (t := 24) ?hr ?_; (case hd => rfl); (case hg => rfl); (case hr => first | (go_simp; done) | (go_simp; rfl)); intro ad hg w3 hbox hb; have al := q16 (cq (by repeat (first | (with_reducible first | exact HB.out | apply cn | apply co | apply cp) | exact HB.out)) hb); have am := q16 (hbox); have an := q16 ((by rw [hg]; exact (cr (by repeat (first | (with_reducible first | exact HB.out | apply cn | apply co | apply cp) | exact HB.out))) : w.heap.size ≤ ad)); have ao := q16 ((by rw [hg]; exact (cr (by repeat (first | (with_reducible first | exact HB.out | apply cn | apply co | apply cp) | exact HB.out))) : w.heap.size ≤ ad)); clear HB; have HB := al; have aa := am; have bP := an; have ax := ao; clear al am an ao; clear hb hbox hg) | ((with_reducible refine cA (N := 3) rfl ?_); refine box_event ?hg (N := 3) ?hd (cs := #[.int .i64 ap, .int .i64 aq, .int .i64 ar, .int .i64 au, .int .i64 av, .int .i64 aw]) (t := 24) ?hr ?_; (case hd => rfl); (case hg => rfl); (case hr => first | (go_simp; done) | (go_simp; rfl)); intro ak hg w4 hbox hb; have al := q16 (ct (g := ad) (o := .cells #[.int .i64 ae, .int .i64 af, .int .i64 ag, .int .i64 ah, .int .i64 ai, .int .i64 aj] 24 (0, 0)) (by (with_reducible repeat (first | refine cu ?_ _ | refine cw ?_ | refine cv ?_ _)); exact aa.out) hb); have am := q16 (cq (by repeat (first | (with_reducible first | exact HB.out | apply cn | apply co | apply cp | refine cz ?_ ax.out) | exact HB.out)) hb); have an := q16 (hbox); have ao := q16 ((by rw [hg]; exact (cr (by repeat (first | (with_reducible first | exact HB.out | apply cn | apply co | apply cp | refine cz ?_ ax.out) | exact HB.out))) : w.heap.size ≤ ak)); have aA := q16 ((by rw [hg]; exact (cr (by repeat (first | (with_reducible first | exact HB.out | apply cn | apply co | apply cp | refine cz ?_ ax.out) | exact HB.out))) : w.heap.size ≤ ak)); have aJ := q16 ((by rw [hg]; exact Nat.ne_of_lt (blk_lt (g := ad) (o := .cells #[.int .i64 ae, .int .i64 af, .int .i64 ag, .int .i64 ah, .int .i64 ai, .int .i64 aj] 24 (0, 0)) (by (with_reducible repeat (first | refine cu ?_ _ | refine cw ?_ | refine cv ?_ _)); exact aa.out)) : ad ≠ ak)); have aK := q16 ((by rw [hg]; exact Nat.ne_of_gt (blk_lt (g := ad) (o := .cells #[.int .i64 ae, .int .i64 af, .int .i64 ag, .int .i64 ah, .int .i64 ai, .int .i64 aj] 24 (0, 0)) (by (with_reducible repeat (first | refine cu ?_ _ | refine cw ?_ | refine cv ?_ _)); exact aa.out)) : ak ≠ ad)); clear aa; clear HB; have aa := al; have HB := am; have ab := an; have bQ := ao; have az := aA; have aY := aJ; have aZ := aK; clear al am an ao aA aJ aK; clear hb hbox hg; have bR := aY.out; have bS := aZ.out; have bl : w4.cell? ⟨ad, 0, none⟩ = some (.int .i64 ae) := (cx aa.out 0).trans rfl; have bm : w4.cell? ⟨ad, 1, none⟩ = some (.int .i64 af) := (cx aa.out 1).trans rfl; have bn : w4.cell? ⟨ad, 2, none⟩ = some (.int .i64 ag) := (cx aa.out 2).trans rfl; have bo : w4.cell? ⟨ad, 3, none⟩ = some (.int .i64 ah) := (cx aa.out 3).trans rfl; have bp : w4.cell? ⟨ad, 4, none⟩ = some (.int .i64 ai) := (cx aa.out 4).trans rfl; have bq : w4.cell? ⟨ad, 5, none⟩ = some (.int .i64 aj) := (cx aa.out 5).trans rfl; have br := cy aa.out 0; have bs := cy aa.out 1; have bt := cy aa.out 2; have bu := cy aa.out 3; have bv := cy aa.out 4; have bw := cy aa.out 5) | ((with_reducible refine cA (N := 20) rfl ?_); refine Kd.R_lit (Kd.int .i64) _ 3 ?hg (N := 20) ?hd (xs := ([ae, af, ag, ah, ai, aj] : List Int)) (inner := [.int .i64 ae, .int .i64 af, .int .i64 ag, .int .i64 ah, .int .i64 ai, .int .i64 aj]) (ok := fun _ => True) (okp := fun _ => True) ?hr ?hp (fun _ hk => hk) trivial (Below.refl _ _) (Nat.le_refl _) (by simp) ?_; (case hd => rfl); (case hg => rfl); (case hr => first | (go_simp; done) | (go_simp; rfl)); (case hp => exact (Reps.one (show Kd.M (Kd.int .i64) _ _ _ ae [.int .i64 ae] from rfl) (Reps.one (show Kd.M (Kd.int .i64) _ _ _ af [.int .i64 af] from rfl) (Reps.one (show Kd.M (Kd.int .i64) _ _ _ ag [.int .i64 ag] from rfl) (Reps.one (show Kd.M (Kd.int .i64) _ _ _ ah [.int .i64 ah] from rfl) (Reps.one (show Kd.M (Kd.int .i64) _ _ _ ai [.int .i64 ai] from rfl) (Reps.one (show Kd.M (Kd.int .i64) _ _ _ aj [.int .i64 aj] from rfl) (Reps.none _ _)))))))); intro bc w7 aB hb hg_ hnew_; clear hg_ hnew_; (first | rw [← aQ.out] at aB | (simp only [Int.reduceToNat] at aB; rw [← aQ.out] at aB)); have al := q16 (Kd.R_lower aB (cr (by repeat (first | (with_reducible first | exact HB.out | apply cn | apply co | apply cp | refine cz ?_ ax.out | refine cz ?_ az.out) | exact HB.out)))); have am := q16 (ct (g := ad) (o := .cells #[.int .i64 ae, .int .i64 af, .int .i64 ag, .int .i64 ah, .int .i64 ai, .int .i64 aj] 24 (0, 0)) (by (with_reducible repeat (first | refine cu ?_ _ | refine cw ?_ | refine cv ?_ _)); exact aa.out) hb); have an := q16 (ct (g := ak) (o := .cells #[.int .i64 ap, .int .i64 aq, .int .i64 ar, .int .i64 au, .int .i64 av, .int .i64 aw] 24 (0, 0)) (by (with_reducible repeat (first | refine cu ?_ _ | refine cw ?_ | refine cv ?_ _)); exact ab.out) hb); have ao := q16 (cq (by repeat (first | (with_reducible first | exact HB.out | apply cn | apply co | apply cp | refine cz ?_ ax.out | refine cz ?_ az.out) | exact HB.out)) hb); clear aa; clear ab; clear HB; have aC := al; have aa := am; have ab := an; have HB := ao; clear al am an ao; clear hb aB; have bx : w7.cell? ⟨ak, 0, none⟩ = some (.int .i64 ap) := (cx ab.out 0).trans rfl; have bz : w7.cell? ⟨ak, 1, none⟩ = some (.int .i64 aq) := (cx ab.out 1).trans rfl; have bA : w7.cell? ⟨ak, 2, none⟩ = some (.int .i64 ar) := (cx ab.out 2).trans rfl; have bB : w7.cell? ⟨ak, 3, none⟩ = some (.int .i64 au) := (cx ab.out 3).trans rfl; have bC : w7.cell? ⟨ak, 4, none⟩ = some (.int .i64 av) := (cx ab.out 4).trans rfl; have bD : w7.cell? ⟨ak, 5, none⟩ = some (.int .i64 aw) := (cx ab.out 5).trans rfl; have bE := cy ab.out 0; have bF := cy ab.out 1; have bG := cy ab.out 2; have bH := cy ab.out 3; have bI := cy ab.out 4; have bJ := cy ab.out 5) | ((with_reducible refine cA (N := 33) rfl ?_); refine Kd.R_lit (Kd.int .i64) _ 3 ?hg (N := 33) ?hd (xs := ([ap, aq, ar, au, av, aw] : List Int)) (inner := [.int .i64 ap, .int .i64 aq, .int .i64 ar, .int .i64 au, .int .i64 av, .int .i64 aw]) (ok := fun _ => True) (okp := fun _ => True) ?hr ?hp (fun _ hk => hk) trivial (Below.refl _ _) (Nat.le_refl _) (by simp) ?_; (case hd => rfl); (case hg => rfl); (case hr => first | (go_simp; done) | (go_simp; rfl)); (case hp => exact (Reps.one (show Kd.M (Kd.int .i64) _ _ _ ap [.int .i64 ap] from rfl) (Reps.one (show Kd.M (Kd.int .i64) _ _ _ aq [.int .i64 aq] from rfl) (Reps.one (show Kd.M (Kd.int .i64) _ _ _ ar [.int .i64 ar] from rfl) (Reps.one (show Kd.M (Kd.int .i64) _ _ _ au [.int .i64 au] from rfl) (Reps.one (show Kd.M (Kd.int .i64) _ _ _ av [.int .i64 av] from rfl) (Reps.one (show Kd.M (Kd.int .i64) _ _ _ aw [.int .i64 aw] from rfl) (Reps.none _ _)))))))); intro bd bT ay hb hg_ hnew_; clear hg_ hnew_; (first | rw [← aR.out] at ay | (simp only [Int.reduceToNat] at ay; rw [← aR.out] at ay)); have al := q16 (Kd.R_elder' (by (with_reducible repeat (first | apply Kd.R_alloc | apply Kd.R_drewN | apply Kd.R_drew)); exact aC.out) (Kd.R_base ay) hb); have am := q16 (Kd.R_lower (Kd.R_new' ay (Kd.R_lt (by (with_reducible repeat (first | apply Kd.R_alloc | apply Kd.R_drewN | apply Kd.R_drew)); exact aC.out))) (cr (by repeat (first | (with_reducible first | exact HB.out | apply cn | apply co | apply cp | refine cz ?_ ax.out | refine cz ?_ az.out) | exact HB.out)))); have an := q16 (ct (g := ad) (o := .cells #[.int .i64 ae, .int .i64 af, .int .i64 ag, .int .i64 ah, .int .i64 ai, .int .i64 aj] 24 (0, 0)) (by (with_reducible repeat (first | refine cu ?_ _ | refine cw ?_ | refine cv ?_ _)); exact aa.out) hb); have ao := q16 (ct (g := ak) (o := .cells #[.int .i64 ap, .int .i64 aq, .int .i64 ar, .int .i64 au, .int .i64 av, .int .i64 aw] 24 (0, 0)) (by (with_reducible repeat (first | refine cu ?_ _ | refine cw ?_ | refine cv ?_ _)); exact ab.out) hb); have aA := q16 (cq (by repeat (first | (with_reducible first | exact HB.out | apply cn | apply co | apply cp | refine cz ?_ ax.out | refine cz ?_ az.out) | exact HB.out)) hb); clear aC; clear aa; clear ab; clear HB; have aC := al; have bK := am; have aa := an; have ab := ao; have HB := aA; clear al am an ao aA; clear hb ay)); try go_wp2_with (first | ((with_reducible refine cA (N := 2) rfl ?_); refine box_event ?hg (N := 2) ?hd (cs := #[.int .i64 ae, .int .i64 af, .int .i64 ag, .int .i64 ah, .int .i64 ai, .int .i64 aj]) (t := 24) ?hr ?_; (case hd => rfl); (case hg => rfl); (case hr => first | (go_simp; done) | (go_simp; rfl)); intro ad hg w3 hbox hb; have al := q16 (cq (by repeat (first | (with_reducible first | exact HB.out | apply cn | apply co | apply cp) | exact HB.out)) hb); have am := q16 (hbox); have an := q16 ((by rw [hg]; exact (cr (by repeat (first | (with_reducible first | exact HB.out | apply cn | apply co | apply cp) | exact HB.out))) : w.heap.size ≤ ad)); have ao := q16 ((by rw [hg]; exact (cr (by repeat (first | (with_reducible first | exact HB.out | apply cn | apply co | apply cp) | exact HB.out))) : w.heap.size ≤ ad)); clear HB; have HB := al; have aa := am; have bP := an; have ax := ao; clear al am an ao; clear hb hbox hg) | ((with_reducible refine cA (N := 3) rfl ?_); refine box_event ?hg (N := 3) ?hd (cs := #[.int .i64 ap, .int .i64 aq, .int .i64 ar, .int .i64 au, .int .i64 av, .int .i64 aw]) (t := 24) ?hr ?_; (case hd => rfl); (case hg => rfl); (case hr => first | (go_simp; done) | (go_simp; rfl)); intro ak hg w4 hbox hb; have al := q16 (ct (g := ad) (o := .cells #[.int .i64 ae, .int .i64 af, .int .i64 ag, .int .i64 ah, .int .i64 ai, .int .i64 aj] 24 (0, 0)) (by (with_reducible repeat (first | refine cu ?_ _ | refine cw ?_ | refine cv ?_ _)); exact aa.out) hb); have am := q16 (cq (by repeat (first | (with_reducible first | exact HB.out | apply cn | apply co | apply cp | refine cz ?_ ax.out) | exact HB.out)) hb); have an := q16 (hbox); have ao := q16 ((by rw [hg]; exact (cr (by repeat (first | (with_reducible first | exact HB.out | apply cn | apply co | apply cp | refine cz ?_ ax.out) | exact HB.out))) : w.heap.size ≤ ak)); have aA := q16 ((by rw [hg]; exact (cr (by repeat (first | (with_reducible first | exact HB.out | apply cn | apply co | apply cp | refine cz ?_ ax.out) | exact HB.out))) : w.heap.size ≤ ak)); have aJ := q16 ((by rw [hg]; exact Nat.ne_of_lt (blk_lt (g := ad) (o := .cells #[.int .i64 ae, .int .i64 af, .int .i64 ag, .int .i64 ah, .int .i64 ai, .int .i64 aj] 24 (0, 0)) (by (with_reducible repeat (first | refine cu ?_ _ | refine cw ?_ | refine cv ?_ _)); exact aa.out)) : ad ≠ ak)); have aK := q16 ((by rw [hg]; exact Nat.ne_of_gt (blk_lt (g := ad) (o := .cells #[.int .i64 ae, .int .i64 af, .int .i64 ag, .int .i64 ah, .int .i64 ai, .int .i64 aj] 24 (0, 0)) (by (with_reducible repeat (first | refine cu ?_ _ | refine cw ?_ | refine cv ?_ _)); exact aa.out)) : ak ≠ ad)); clear aa; clear HB; have aa := al; have HB := am; have ab := an; have bQ := ao; have az := aA; have aY := aJ; have aZ := aK; clear al am an ao aA aJ aK; clear hb hbox hg; have bR := aY.out; have bS := aZ.out; have bl : w4.cell? ⟨ad, 0, none⟩ = some (.int .i64 ae) := (cx aa.out 0).trans rfl; have bm : w4.cell? ⟨ad, 1, none⟩ = some (.int .i64 af) := (cx aa.out 1).trans rfl; have bn : w4.cell? ⟨ad, 2, none⟩ = some (.int .i64 ag) := (cx aa.out 2).trans rfl; have bo : w4.cell? ⟨ad, 3, none⟩ = some (.int .i64 ah) := (cx aa.out 3).trans rfl; have bp : w4.cell? ⟨ad, 4, none⟩ = some (.int .i64 ai) := (cx aa.out 4).trans rfl; have bq : w4.cell? ⟨ad, 5, none⟩ = some (.int .i64 aj) := (cx aa.out 5).trans rfl; have br := cy aa.out 0; have bs := cy aa.out 1; have bt := cy aa.out 2; have bu := cy aa.out 3; have bv := cy aa.out 4; have bw := cy aa.out 5) | ((with_reducible refine cA (N := 20) rfl ?_); refine Kd.R_lit (Kd.int .i64) _ 3 ?hg (N := 20) ?hd (xs := ([ae, af, ag, ah, ai, aj] : List Int)) (inner := [.int .i64 ae, .int .i64 af, .int .i64 ag, .int .i64 ah, .int .i64 ai, .int .i64 aj]) (ok := fun _ => True) (okp := fun _ => True) ?hr ?hp (fun _ hk => hk) trivial (Below.refl _ _) (Nat.le_refl _) (by simp) ?_; (case hd => rfl); (case hg => rfl); (case hr => first | (go_simp; done) | (go_simp; rfl)); (case hp => exact (Reps.one (show Kd.M (Kd.int .i64) _ _ _ ae [.int .i64 ae] from rfl) (Reps.one (show Kd.M (Kd.int .i64) _ _ _ af [.int .i64 af] from rfl) (Reps.one (show Kd.M (Kd.int .i64) _ _ _ ag [.int .i64 ag] from rfl) (Reps.one (show Kd.M (Kd.int .i64) _ _ _ ah [.int .i64 ah] from rfl) (Reps.one (show Kd.M (Kd.int .i64) _ _ _ ai [.int .i64 ai] from rfl) (Reps.one (show Kd.M (Kd.int .i64) _ _ _ aj [.int .i64 aj] from rfl) (Reps.none _ _)))))))); intro bc w7 aB hb hg_ hnew_; clear hg_ hnew_; (first | rw [← aQ.out] at aB | (simp only [Int.reduceToNat] at aB; rw [← aQ.out] at aB)); have al := q16 (Kd.R_lower aB (cr (by repeat (first | (with_reducible first | exact HB.out | apply cn | apply co | apply cp | refine cz ?_ ax.out | refine cz ?_ az.out) | exact HB.out)))); have am := q16 (ct (g := ad) (o := .cells #[.int .i64 ae, .int .i64 af, .int .i64 ag, .int .i64 ah, .int .i64 ai, .int .i64 aj] 24 (0, 0)) (by (with_reducible repeat (first | refine cu ?_ _ | refine cw ?_ | refine cv ?_ _)); exact aa.out) hb); have an := q16 (ct (g := ak) (o := .cells #[.int .i64 ap, .int .i64 aq, .int .i64 ar, .int .i64 au, .int .i64 av, .int .i64 aw] 24 (0, 0)) (by (with_reducible repeat (first | refine cu ?_ _ | refine cw ?_ | refine cv ?_ _)); exact ab.out) hb); have ao := q16 (cq (by repeat (first | (with_reducible first | exact HB.out | apply cn | apply co | apply cp | refine cz ?_ ax.out | refine cz ?_ az.out) | exact HB.out)) hb); clear aa; clear ab; clear HB; have aC := al; have aa := am; have ab := an; have HB := ao; clear al am an ao; clear hb aB; have bx : w7.cell? ⟨ak, 0, none⟩ = some (.int .i64 ap) := (cx ab.out 0).trans rfl; have bz : w7.cell? ⟨ak, 1, none⟩ = some (.int .i64 aq) := (cx ab.out 1).trans rfl; have bA : w7.cell? ⟨ak, 2, none⟩ = some (.int .i64 ar) := (cx ab.out 2).trans rfl; have bB : w7.cell? ⟨ak, 3, none⟩ = some (.int .i64 au) := (cx ab.out 3).trans rfl; have bC : w7.cell? ⟨ak, 4, none⟩ = some (.int .i64 av) := (cx ab.out 4).trans rfl; have bD : w7.cell? ⟨ak, 5, none⟩ = some (.int .i64 aw) := (cx ab.out 5).trans rfl; have bE := cy ab.out 0; have bF := cy ab.out 1; have bG := cy ab.out 2; have bH := cy ab.out 3; have bI := cy ab.out 4; have bJ := cy ab.out 5) | ((with_reducible refine cA (N := 33) rfl ?_); refine Kd.R_lit (Kd.int .i64) _ 3 ?hg (N := 33) ?hd (xs := ([ap, aq, ar, au, av, aw] : List Int)) (inner := [.int .i64 ap, .int .i64 aq, .int .i64 ar, .int .i64 au, .int .i64 av, .int .i64 aw]) (ok := fun _ => True) (okp := fun _ => True) ?hr ?hp (fun _ hk => hk) trivial (Below.refl _ _) (Nat.le_refl _) (by simp) ?_; (case hd => rfl); (case hg => rfl); (case hr => first | (go_simp; done) | (go_simp; rfl)); (case hp => exact (Reps.one (show Kd.M (Kd.int .i64) _ _ _ ap [.int .i64 ap] from rfl) (Reps.one (show Kd.M (Kd.int .i64) _ _ _ aq [.int .i64 aq] from rfl) (Reps.one (show Kd.M (Kd.int .i64) _ _ _ ar [.int .i64 ar] from rfl) (Reps.one (show Kd.M (Kd.int .i64) _ _ _ au [.int .i64 au] from rfl) (Reps.one (show Kd.M (Kd.int .i64) _ _ _ av [.int .i64 av] from rfl) (Reps.one (show Kd.M (Kd.int .i64) _ _ _ aw [.int .i64 aw] from rfl) (Reps.none _ _)))))))); intro bd bT ay hb hg_ hnew_; clear hg_ hnew_; (first | rw [← aR.out] at ay | (simp only [Int.reduceToNat] at ay; rw [← aR.out] at ay)); have al := q16 (Kd.R_elder' (by (with_reducible repeat (first | apply Kd.R_alloc | apply Kd.R_drewN | apply Kd.R_drew)); exact aC.out) (Kd.R_base ay) hb); have am := q16 (Kd.R_lower (Kd.R_new' ay (Kd.R_lt (by (with_reducible repeat (first | apply Kd.R_alloc | apply Kd.R_drewN | apply Kd.R_drew)); exact aC.out))) (cr (by repeat (first | (with_reducible first | exact HB.out | apply cn | apply co | apply cp | refine cz ?_ ax.out | refine cz ?_ az.out) | exact HB.out)))); have an := q16 (ct (g := ad) (o := .cells #[.int .i64 ae, .int .i64 af, .int .i64 ag, .int .i64 ah, .int .i64 ai, .int .i64 aj] 24 (0, 0)) (by (with_reducible repeat (first | refine cu ?_ _ | refine cw ?_ | refine cv ?_ _)); exact aa.out) hb); have ao := q16 (ct (g := ak) (o := .cells #[.int .i64 ap, .int .i64 aq, .int .i64 ar, .int .i64 au, .int .i64 av, .int .i64 aw] 24 (0, 0)) (by (with_reducible repeat (first | refine cu ?_ _ | refine cw ?_ | refine cv ?_ _)); exact ab.out) hb); have aA := q16 (cq (by repeat (first | (with_reducible first | exact HB.out | apply cn | apply co | apply cp | refine cz ?_ ax.out | refine cz ?_ az.out) | exact HB.out)) hb); clear aC; clear aa; clear ab; clear HB; have aC := al; have bK := am; have aa := an; have ab := ao; have HB := aA; clear al am an ao aA; clear hb ay)))
 go_loopg [7] k (fun kq v7 w' => ∃ (ac : Int), v7 = .int .i64 ac ∧ Aside0 (meddlerref15_Order.l0 kq y249 y252 ac = some r) ∧ Aside0 (kq ≤ k) ∧ Aside0 (Kd.R (Kd.int .i64) 3 w' w.heap.size (fun k_ => some k_ ≠ (bd : Value).ownBlock) bc y249) ∧ Aside0 (Kd.R (Kd.int .i64) 3 w' w.heap.size (fun k_ => some k_ ≠ (bc : Value).ownBlock) bd y252) ∧ Aside0 (w'.heap[ad]? = some (.cells #[.int .i64 ae, .int .i64 af, .int .i64 ag, .int .i64 ah, .int .i64 ai, .int .i64 aj] 24 (0, 0))) ∧ Aside0 (w'.heap[ak]? = some (.cells #[.int .i64 ap, .int .i64 aq, .int .i64 ar, .int .i64 au, .int .i64 av, .int .i64 aw] 24 (0, 0))) ∧ Aside0 (Below w.heap.size w w'))
 case atStart => exact ⟨(0), (by first | rfl | (simp; done) | (simp [*]; done)), H', ⟨Nat.le_refl _⟩, ⟨by (with_reducible repeat (first | apply Kd.R_alloc | apply Kd.R_drewN | apply Kd.R_drew)); exact Kd.R_mono aC.out (fun _ hk => hk.2)⟩, ⟨by (with_reducible repeat (first | apply Kd.R_alloc | apply Kd.R_drewN | apply Kd.R_drew)); exact Kd.R_mono bK.out (fun _ hk => hk.2)⟩, ⟨by (with_reducible repeat (first | refine cu ?_ _ | refine cw ?_ | refine cv ?_ _)); exact aa.out⟩, ⟨by (with_reducible repeat (first | refine cu ?_ _ | refine cw ?_ | refine cv ?_ _)); exact ab.out⟩, ⟨by repeat (first | (with_reducible first | exact HB.out | apply cn | apply co | apply cp | refine cz ?_ ax.out | refine cz ?_ az.out) | exact HB.out)⟩⟩
 case round =>
  clear H'
  try clear c1
  try clear p2
  try clear c5
  try clear bl
  try clear bm
  try clear bn
  try clear bo
  try clear bp
  try clear bq
  try clear bx
  try clear bz
  try clear bA
  try clear bB
  try clear bC
  try clear bD
  try clear br
  try clear bs
  try clear bt
  try clear bu
  try clear bv
  try clear bw
  try clear bE
  try clear bF
  try clear bG
  try clear bH
  try clear bI
  try clear bJ
  obtain ⟨ac, rfl, HA, bU, aH, aI, aa, ab, HB⟩ := hrel
  cases gk with
  | zero => exact absurd HA.out (by simp [meddlerref15_Order.l0])
  | succ k1 =>
   have H := HA.out
   clear HA
   simp only [meddlerref15_Order.l0] at H
   by_cases aS : ac < 6
   ·rw [if_pos aS] at H
    have bX : decide (ac < 6) = true := decide_eq_true aS
    clear aS
    by_cases be : 0 ≤ ac
    ·rw [if_pos be] at H
     have b8 : decide (0 ≤ ac) = true := decide_eq_true be
     clear be
     by_cases bf : ac < (y249.length : Int)
     ·rw [if_pos bf] at H
      have b9 : decide (ac < (y249.length : Int)) = true := decide_eq_true bf
      clear bf
      by_cases bg : ac < (y252.length : Int)
      ·rw [if_pos bg] at H
       have ca : decide (ac < (y252.length : Int)) = true := decide_eq_true bg
       clear bg
       by_cases aT : (rd y249 ac) < (rd y252 ac)
       ·rw [if_pos aT] at H
        have bY : decide ((rd y249 ac) < (rd y252 ac)) = true := decide_eq_true aT
        clear aT
        obtain rfl := Option.some.inj H
        obtain ⟨cb, cc, bZ⟩ := Kd.R_slice aH.out
        subst bZ
        have aD : 0 ≤ (ac : Int) := of_decide_eq_true (by first | (with_reducible assumption) | assumption)
        have aE : ac < (y249.length : Int) := of_decide_eq_true (by first | (with_reducible assumption) | assumption)
        obtain ⟨bh, ba, bV⟩ := Kd.at_int (Kd.R_reads' aH.out).2.2 ac aD aE
        cases ba
        replace aD := eq_true aD
        replace aE := eq_true aE
        obtain ⟨cd, ce, b0⟩ := Kd.R_slice aI.out
        subst b0
        have aF : 0 ≤ (ac : Int) := of_decide_eq_true (by first | (with_reducible assumption) | assumption)
        have aG : ac < (y252.length : Int) := of_decide_eq_true (by first | (with_reducible assumption) | assumption)
        obtain ⟨bi, bb, bW⟩ := Kd.at_int (Kd.R_reads' aI.out).2.2 ac aF aG
        cases bb
        replace aF := eq_true aF
        replace aG := eq_true aG
        go_wp2
        repeat (go_quiet (fail); try go_wp2)
        go_ret
        exact ⟨by first | rfl | (simp [errW_none, errW_some] <;> rfl) | (simp [*, errW_none, errW_some] <;> rfl), by repeat (first | (with_reducible first | exact HB.out | apply cn | apply co | apply cp | refine cz ?_ ax.out | refine cz ?_ az.out) | exact HB.out)⟩
       ·rw [if_neg aT] at H
        have bY : decide ((rd y249 ac) < (rd y252 ac)) = false := decide_eq_false aT
        clear aT
        by_cases aU : (rd y249 ac) > (rd y252 ac)
        ·rw [if_pos aU] at H
         have b1 : decide ((rd y252 ac) < (rd y249 ac)) = true := decide_eq_true aU
         clear aU
         obtain rfl := Option.some.inj H
         obtain ⟨cf, cg, b2⟩ := Kd.R_slice aH.out
         subst b2
         have aD : 0 ≤ (ac : Int) := of_decide_eq_true (by first | (with_reducible assumption) | assumption)
         have aE : ac < (y249.length : Int) := of_decide_eq_true (by first | (with_reducible assumption) | assumption)
         obtain ⟨bh, ba, bV⟩ := Kd.at_int (Kd.R_reads' aH.out).2.2 ac aD aE
         cases ba
         replace aD := eq_true aD
         replace aE := eq_true aE
         obtain ⟨ch, ci, b3⟩ := Kd.R_slice aI.out
         subst b3
         have aF : 0 ≤ (ac : Int) := of_decide_eq_true (by first | (with_reducible assumption) | assumption)
         have aG : ac < (y252.length : Int) := of_decide_eq_true (by first | (with_reducible assumption) | assumption)
         obtain ⟨bi, bb, bW⟩ := Kd.at_int (Kd.R_reads' aI.out).2.2 ac aF aG
         cases bb
         replace aF := eq_true aF
         replace aG := eq_true aG
         have aM : 0 ≤ (ac : Int) := of_decide_eq_true (by first | (with_reducible assumption) | assumption)
         have aN : ac < (y249.length : Int) := of_decide_eq_true (by first | (with_reducible assumption) | assumption)
         obtain ⟨bL, bM, b4⟩ := Kd.at_int (Kd.R_reads' aH.out).2.2 ac aM aN
         obtain rfl : bh = bL := (by injection bM)
         replace aM := eq_true aM
         replace aN := eq_true aN
         have aO : 0 ≤ (ac : Int) := of_decide_eq_true (by first | (with_reducible assumption) | assumption)
         have aP : ac < (y252.length : Int) := of_decide_eq_true (by first | (with_reducible assumption) | assumption)
         obtain ⟨bN, bO, b5⟩ := Kd.at_int (Kd.R_reads' aI.out).2.2 ac aO aP
         obtain rfl : bi = bN := (by injection bO)
         replace aO := eq_true aO
         replace aP := eq_true aP
         go_wp2
         repeat (go_quiet (fail); try go_wp2)
         go_ret
         exact ⟨by first | rfl | (simp [errW_none, errW_some] <;> rfl) | (simp [*, errW_none, errW_some] <;> rfl), by repeat (first | (with_reducible first | exact HB.out | apply cn | apply co | apply cp | refine cz ?_ ax.out | refine cz ?_ az.out) | exact HB.out)⟩
        ·rw [if_neg aU] at H
         have b1 : decide ((rd y252 ac) < (rd y249 ac)) = false := decide_eq_false aU
         clear aU
         have H' := q16 H
         clear H
         obtain ⟨cj, ck, b6⟩ := Kd.R_slice aH.out
         subst b6
         have aD : 0 ≤ (ac : Int) := of_decide_eq_true (by first | (with_reducible assumption) | assumption)
         have aE : ac < (y249.length : Int) := of_decide_eq_true (by first | (with_reducible assumption) | assumption)
         obtain ⟨bh, ba, bV⟩ := Kd.at_int (Kd.R_reads' aH.out).2.2 ac aD aE
         cases ba
         replace aD := eq_true aD
         replace aE := eq_true aE
         obtain ⟨cl, cm, b7⟩ := Kd.R_slice aI.out
         subst b7
         have aF : 0 ≤ (ac : Int) := of_decide_eq_true (by first | (with_reducible assumption) | assumption)
         have aG : ac < (y252.length : Int) := of_decide_eq_true (by first | (with_reducible assumption) | assumption)
         obtain ⟨bi, bb, bW⟩ := Kd.at_int (Kd.R_reads' aI.out).2.2 ac aF aG
         cases bb
         replace aF := eq_true aF
         replace aG := eq_true aG
         have aM : 0 ≤ (ac : Int) := of_decide_eq_true (by first | (with_reducible assumption) | assumption)
         have aN : ac < (y249.length : Int) := of_decide_eq_true (by first | (with_reducible assumption) | assumption)
         obtain ⟨bL, bM, b4⟩ := Kd.at_int (Kd.R_reads' aH.out).2.2 ac aM aN
         obtain rfl : bh = bL := (by injection bM)
         replace aM := eq_true aM
         replace aN := eq_true aN
         have aO : 0 ≤ (ac : Int) := of_decide_eq_true (by first | (with_reducible assumption) | assumption)
         have aP : ac < (y252.length : Int) := of_decide_eq_true (by first | (with_reducible assumption) | assumption)
         obtain ⟨bN, bO, b5⟩ := Kd.at_int (Kd.R_reads' aI.out).2.2 ac aO aP
         obtain rfl : bi = bN := (by injection bO)
         replace aO := eq_true aO
         replace aP := eq_true aP
         go_wp2
         repeat (go_quiet (fail); try go_wp2)
         go_roundg k1
         case measure => have := bU.out; omega
         case rel => exact ⟨(wrap64 (ac + 1)), (by first | rfl | (simp; done) | (simp [*]; done)), H', ⟨by have := bU.out; omega⟩, ⟨by (with_reducible repeat (first | apply Kd.R_alloc | apply Kd.R_drewN | apply Kd.R_drew)); exact aH.out⟩, ⟨by (with_reducible repeat (first | apply Kd.R_alloc | apply Kd.R_drewN | apply Kd.R_drew)); exact aI.out⟩, ⟨by (with_reducible repeat (first | refine cu ?_ _ | refine cw ?_ | refine cv ?_ _)); exact aa.out⟩, ⟨by (with_reducible repeat (first | refine cu ?_ _ | refine cw ?_ | refine cv ?_ _)); exact ab.out⟩, ⟨by repeat (first | (with_reducible first | exact HB.out | apply cn | apply co | apply cp | refine cz ?_ ax.out | refine cz ?_ az.out) | exact HB.out)⟩⟩
      ·rw [if_neg bg] at H
       exact absurd H (by simp)
     ·rw [if_neg bf] at H
      exact absurd H (by simp)
    ·rw [if_neg be] at H
     exact absurd H (by simp)
   ·rw [if_neg aS] at H
    have bX : decide (ac < 6) = false := decide_eq_false aS
    clear aS
    obtain rfl := Option.some.inj H
    go_wp2
    repeat (go_quiet (fail); try go_wp2)
    go_ret
    exact ⟨by first | rfl | (simp [errW_none, errW_some] <;> rfl) | (simp [*, errW_none, errW_some] <;> rfl), by repeat (first | (with_reducible first | exact HB.out | apply cn | apply co | apply cp | refine cz ?_ ax.out | refine cz ?_ az.out) | exact HB.out)⟩
end Go.Proofs.Ytadnjibgdpjnlaa.Rp
