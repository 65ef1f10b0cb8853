/- What a step does; the machine while it is made; actions without what their kind does not name. -/
import Derived.StillTailTactics
import Derived.Deep.RegionHeld3
import Derived.Test.YtikjamcemnbhbaaMrF46
import Derived.Test.YtikjamcemnbhbaaMrPkA
namespace Go.Proofs.Ytikjamcemnbhbaa.Mr
open Go.RowKit Go.Proofs.YtikjamcemnbhbaaW.PrintWords Go.Proofs.YtikjamcemnbhbaaW.PrintLast
set_option linter.unusedVariables false
set_option linter.unusedSimpArgs false
section
/-- What reckon leaves of the variables, and the error. -/
def reck (vs : List Int) (a : S33) (inp : Int) : List Int × Int :=
  if a.f0 = 1 then (vs.set a.f1.toNat a.f5, 0)
  else if a.f0 = 2 then (vs.set a.f1.toNat (rd vs a.f2), 0)
  else if a.f0 = 3 then (vs.set a.f1.toNat (mn (mx inp (-2147483648)) 2147483647), 0)
  else if a.f0 = 4 then (if (doP a.f6 (rd vs a.f2) (rd vs a.f3)).2 = 0 then (vs.set a.f1.toNat (doP a.f6 (rd vs a.f2) (rd vs a.f3)).1, 0) else (vs, (doP a.f6 (rd vs a.f2) (rd vs a.f3)).2))
  else if a.f0 = 13 then (vs, 10) else (vs, 0)
theorem St.setRow_same (s : St) (k : Nat) : s.setRow k (s.row k) = s := by
  have : (fun j => if j = k then s.row k else s.row j) = s.row := by
    funext j; by_cases h : j = k
    · rw [if_pos h, h]
    · rw [if_neg h]
  cases s; simp only [St.setRow] at this ⊢; rw [this]
theorem setlen {w : World} {lo : Nat} {v : Value} {xs : List Int} {j : Nat} {x : Int} (h : w.ownsRow lo 3 1 v xs.length (nums .i64 (xs.set j x))) : w.ownsRow lo 3 1 v (xs.set j x).length (nums .i64 (xs.set j x)) := by rwa [List.length_set]
/-- What a thread's own step leaves. -/
def Left (w : World) (lo hi fl : Nat) (ph : Ph) (cs : List S49) (nA : Nat) (s : St) (w' : World) : Prop := MachIn w' lo hi fl ph cs nA s ∧ Chg lo hi w w'
theorem MachIn.rowChg {w w' w0 : World} {lo hi fl : Nat} {ph : Ph} {cs : List S49} {nA : Nat} {s : St} (H : MachIn w lo hi fl ph cs nA s) (k : Nat) (xs : List Int) (hc : Chg lo hi w0 w)
    (ho : w'.ownsRow lo 3 1 (ph.rv k) xs.length (nums .i64 xs)) (hg : w.grownBy w' (ph.rv k).ownBlock) : Left w0 lo hi fl ph cs nA (s.setRow k xs) w' :=
  ⟨H.stored k xs ho hg, hc.trans (Chg.of_grown hg (fun b hb => ⟨((H.rows k).lt b hb).1, H.rlt k b hb⟩))⟩
set_option maxHeartbeats 8000000 in
set_option maxRecDepth 100000 in
theorem reckon_1 (w : World) {lo hi fl : Nat} {ph : Ph} {cs : List S49} {nA : Nat} {s : St} (H : MachIn w lo hi fl ph cs nA s) (i : Int) (h0 : 0 ≤ i) (h1 : i < cs.length) (a : S33) (inp : Int)
    {ng na nm nl : Int} (ha : okA (s.row (4 + 2 * i.toNat)).length ng na nm nl a) (k1 : a.f0 = 1) :
    Calls Try.prog 44 #[.pointer (some ⟨ph.tb i.toNat, 0, none⟩), actV a, .int .i64 inp] w fun e w' => e = .returned (.int .i64 (reck (s.row (4 + 2 * i.toNat)) a inp).2) ∧ Left w lo hi fl ph cs nA (s.setRow (4 + 2 * i.toNat) (reck (s.row (4 + 2 * i.toNat)) a inp).1) w' := by
  have HH := Aside0.mk H
  have HR : Aside0 (reck (s.row (4 + 2 * i.toNat)) a inp = ((s.row (4 + 2 * i.toNat)).set a.f1.toNat a.f5, 0)) := ⟨by rw [reck, if_pos k1]⟩
  have HT := Aside0.mk (ha.t (.inl k1))
  have kb1 : (a.f0 == 1) = true := beq_iff_eq.mpr k1
  clear k1 ha H
  generalize hvs : s.row (4 + 2 * i.toNat) = vs at *
  go_enter Try.func44, Try.ntmps44
  go_wp2_with (first | ((with_reducible refine gate_dst (N := 4) rfl ?_); refine box_event ?hg (N := 4) ?hd (cs := actC a) (t := 33) ?hr ?_; (case hd => rfl); (case hg => rfl); (case hr => first | (go_simp; done) | (go_simp; rfl)); intro gb hg w1 hbox hb; have HB := Aside0.mk hb; have H1 := Aside0.mk (HH.out.below hb); have hy0 : w1.cell? ⟨gb, 0, none⟩ = some (.int .i64 a.f0) := (blk_cell hbox 0).trans rfl; have hy1 : w1.cell? ⟨gb, 1, none⟩ = some (.int .i64 a.f1) := (blk_cell hbox 1).trans rfl; have hy2 : w1.cell? ⟨gb, 2, none⟩ = some (.int .i64 a.f2) := (blk_cell hbox 2).trans rfl; have hy3 : w1.cell? ⟨gb, 3, none⟩ = some (.int .i64 a.f3) := (blk_cell hbox 3).trans rfl; have hy4 : w1.cell? ⟨gb, 4, none⟩ = some (.int .i64 a.f4) := (blk_cell hbox 4).trans rfl; have hy5 : w1.cell? ⟨gb, 5, none⟩ = some (.int .i64 a.f5) := (blk_cell hbox 5).trans rfl; have hy6 : w1.cell? ⟨gb, 6, none⟩ = some (.int .i64 a.f6) := (blk_cell hbox 6).trans rfl; have hy7 : w1.cell? ⟨gb, 7, none⟩ = some (.int .i64 a.f7) := (blk_cell hbox 7).trans rfl; have hy8 : w1.cell? ⟨gb, 8, none⟩ = some (.int .i64 a.f8) := (blk_cell hbox 8).trans rfl; have htc0 : w1.cell? ⟨ph.tb i.toNat, 0, none⟩ = some (ph.rv (4 + 2 * i.toNat)) := (blk_cell (H1.out.th i.toNat (by omega)).1 0).trans rfl; have ho := Aside0.mk (H1.out.rows (4 + 2 * i.toNat)); simp only [hvs] at ho; clear hb hbox hg HH))
  go_still_tail 7, (by kernel_rfl)
  change wpList _ _ _ _ _ w1.drew
  go_wp2_with (go_loud (go_at_call 62; refine (set_calls (ph.tb i.toNat) 0 (ph.rv (4 + 2 * i.toNat)) vs a.f1 a.f5 lo w1.drew htc0 ho.out HT.out.1 HT.out.2).mono ?_; rintro e w2 ⟨rfl, ho2, hg2⟩))
  go_ret
  exact ⟨by rw [HR.out]; rfl, by rw [HR.out]; exact (H1.out.below (below_drew (Below.refl _ w1))).rowChg _ _ (.of_below (below_drew HB.out)) (setlen ho2) hg2⟩
set_option maxHeartbeats 8000000 in
set_option maxRecDepth 100000 in
theorem reckon_2 (w : World) {lo hi fl : Nat} {ph : Ph} {cs : List S49} {nA : Nat} {s : St} (H : MachIn w lo hi fl ph cs nA s) (i : Int) (h0 : 0 ≤ i) (h1 : i < cs.length) (a : S33) (inp : Int)
    {ng na nm nl : Int} (ha : okA (s.row (4 + 2 * i.toNat)).length ng na nm nl a) (k2 : a.f0 = 2) :
    Calls Try.prog 44 #[.pointer (some ⟨ph.tb i.toNat, 0, none⟩), actV a, .int .i64 inp] w fun e w' => e = .returned (.int .i64 (reck (s.row (4 + 2 * i.toNat)) a inp).2) ∧ Left w lo hi fl ph cs nA (s.setRow (4 + 2 * i.toNat) (reck (s.row (4 + 2 * i.toNat)) a inp).1) w' := by
  have HH := Aside0.mk H
  have HR : Aside0 (reck (s.row (4 + 2 * i.toNat)) a inp = ((s.row (4 + 2 * i.toNat)).set a.f1.toNat (rd (s.row (4 + 2 * i.toNat)) a.f2), 0)) := ⟨by rw [reck, if_neg (by omega), if_pos k2]⟩
  have HT := Aside0.mk (ha.t (.inr (.inl k2)))
  have HX := Aside0.mk (ha.x (.inl k2))
  have kb1 : (a.f0 == 1) = false := beq_eq_false_iff_ne.mpr (by omega)
  have kb2 : (a.f0 == 2) = true := beq_iff_eq.mpr k2
  clear k2 ha H
  generalize hvs : s.row (4 + 2 * i.toNat) = vs at *
  go_enter Try.func44, Try.ntmps44
  go_wp2_with (first | ((with_reducible refine gate_dst (N := 4) rfl ?_); refine box_event ?hg (N := 4) ?hd (cs := actC a) (t := 33) ?hr ?_; (case hd => rfl); (case hg => rfl); (case hr => first | (go_simp; done) | (go_simp; rfl)); intro gb hg w1 hbox hb; have HB := Aside0.mk hb; have H1 := Aside0.mk (HH.out.below hb); have hy0 : w1.cell? ⟨gb, 0, none⟩ = some (.int .i64 a.f0) := (blk_cell hbox 0).trans rfl; have hy1 : w1.cell? ⟨gb, 1, none⟩ = some (.int .i64 a.f1) := (blk_cell hbox 1).trans rfl; have hy2 : w1.cell? ⟨gb, 2, none⟩ = some (.int .i64 a.f2) := (blk_cell hbox 2).trans rfl; have hy3 : w1.cell? ⟨gb, 3, none⟩ = some (.int .i64 a.f3) := (blk_cell hbox 3).trans rfl; have hy4 : w1.cell? ⟨gb, 4, none⟩ = some (.int .i64 a.f4) := (blk_cell hbox 4).trans rfl; have hy5 : w1.cell? ⟨gb, 5, none⟩ = some (.int .i64 a.f5) := (blk_cell hbox 5).trans rfl; have hy6 : w1.cell? ⟨gb, 6, none⟩ = some (.int .i64 a.f6) := (blk_cell hbox 6).trans rfl; have hy7 : w1.cell? ⟨gb, 7, none⟩ = some (.int .i64 a.f7) := (blk_cell hbox 7).trans rfl; have hy8 : w1.cell? ⟨gb, 8, none⟩ = some (.int .i64 a.f8) := (blk_cell hbox 8).trans rfl; have htc0 : w1.cell? ⟨ph.tb i.toNat, 0, none⟩ = some (ph.rv (4 + 2 * i.toNat)) := (blk_cell (H1.out.th i.toNat (by omega)).1 0).trans rfl; have ho := Aside0.mk (H1.out.rows (4 + 2 * i.toNat)); simp only [hvs] at ho; clear hb hbox hg HH))
  refine wp_region_still_tail 11 (by kernel_rfl) (by kernel_rfl) ?_
  simp only [List.take_succ_cons, List.take_zero, List.drop_succ_cons, List.drop_zero]
  iterate 10 still_step
  still_call (get_calls (ph.tb i.toNat) 0 (ph.rv (4 + 2 * i.toNat)) vs a.f2 lo _ htc0 ho.out HX.out.1 HX.out.2)
  refine wpStill_nil ?_
  change wpList _ _ _ _ _ w1.drew
  go_wp2_with (go_loud (go_at_call 62; refine (set_calls (ph.tb i.toNat) 0 (ph.rv (4 + 2 * i.toNat)) vs a.f1 (rd vs a.f2) lo w1.drew htc0 ho.out HT.out.1 HT.out.2).mono ?_; rintro e w2 ⟨rfl, ho2, hg2⟩))
  go_ret
  exact ⟨by rw [HR.out]; rfl, by rw [HR.out]; exact (H1.out.below (below_drew (Below.refl _ w1))).rowChg _ _ (.of_below (below_drew HB.out)) (setlen ho2) hg2⟩
set_option maxHeartbeats 8000000 in
set_option maxRecDepth 100000 in
theorem reckon_3 (w : World) {lo hi fl : Nat} {ph : Ph} {cs : List S49} {nA : Nat} {s : St} (H : MachIn w lo hi fl ph cs nA s) (i : Int) (h0 : 0 ≤ i) (h1 : i < cs.length) (a : S33) (inp : Int)
    {ng na nm nl : Int} (ha : okA (s.row (4 + 2 * i.toNat)).length ng na nm nl a) (k3 : a.f0 = 3) :
    Calls Try.prog 44 #[.pointer (some ⟨ph.tb i.toNat, 0, none⟩), actV a, .int .i64 inp] w fun e w' => e = .returned (.int .i64 (reck (s.row (4 + 2 * i.toNat)) a inp).2) ∧ Left w lo hi fl ph cs nA (s.setRow (4 + 2 * i.toNat) (reck (s.row (4 + 2 * i.toNat)) a inp).1) w' := by
  have HH := Aside0.mk H
  have HR : Aside0 (reck (s.row (4 + 2 * i.toNat)) a inp = ((s.row (4 + 2 * i.toNat)).set a.f1.toNat (mn (mx inp (-2147483648)) 2147483647), 0)) := ⟨by rw [reck, if_neg (by omega), if_neg (by omega), if_pos k3]⟩
  have HT := Aside0.mk (ha.t (.inr (.inr (.inl k3))))
  have kb1 : (a.f0 == 1) = false := beq_eq_false_iff_ne.mpr (by omega)
  have kb2 : (a.f0 == 2) = false := beq_eq_false_iff_ne.mpr (by omega)
  have kb3 : (a.f0 == 3) = true := beq_iff_eq.mpr k3
  clear k3 ha H
  generalize hvs : s.row (4 + 2 * i.toNat) = vs at *
  go_enter Try.func44, Try.ntmps44
  go_wp2_with (first | ((with_reducible refine gate_dst (N := 4) rfl ?_); refine box_event ?hg (N := 4) ?hd (cs := actC a) (t := 33) ?hr ?_; (case hd => rfl); (case hg => rfl); (case hr => first | (go_simp; done) | (go_simp; rfl)); intro gb hg w1 hbox hb; have HB := Aside0.mk hb; have H1 := Aside0.mk (HH.out.below hb); have hy0 : w1.cell? ⟨gb, 0, none⟩ = some (.int .i64 a.f0) := (blk_cell hbox 0).trans rfl; have hy1 : w1.cell? ⟨gb, 1, none⟩ = some (.int .i64 a.f1) := (blk_cell hbox 1).trans rfl; have hy2 : w1.cell? ⟨gb, 2, none⟩ = some (.int .i64 a.f2) := (blk_cell hbox 2).trans rfl; have hy3 : w1.cell? ⟨gb, 3, none⟩ = some (.int .i64 a.f3) := (blk_cell hbox 3).trans rfl; have hy4 : w1.cell? ⟨gb, 4, none⟩ = some (.int .i64 a.f4) := (blk_cell hbox 4).trans rfl; have hy5 : w1.cell? ⟨gb, 5, none⟩ = some (.int .i64 a.f5) := (blk_cell hbox 5).trans rfl; have hy6 : w1.cell? ⟨gb, 6, none⟩ = some (.int .i64 a.f6) := (blk_cell hbox 6).trans rfl; have hy7 : w1.cell? ⟨gb, 7, none⟩ = some (.int .i64 a.f7) := (blk_cell hbox 7).trans rfl; have hy8 : w1.cell? ⟨gb, 8, none⟩ = some (.int .i64 a.f8) := (blk_cell hbox 8).trans rfl; have htc0 : w1.cell? ⟨ph.tb i.toNat, 0, none⟩ = some (ph.rv (4 + 2 * i.toNat)) := (blk_cell (H1.out.th i.toNat (by omega)).1 0).trans rfl; have ho := Aside0.mk (H1.out.rows (4 + 2 * i.toNat)); simp only [hvs] at ho; clear hb hbox hg HH))
  go_still_tail 8, (by kernel_rfl)
  change wpList _ _ _ _ _ w1.drew
  go_wp2_with (go_loud (go_at_call 62; refine (set_calls (ph.tb i.toNat) 0 (ph.rv (4 + 2 * i.toNat)) vs a.f1 _ lo w1.drew htc0 ho.out HT.out.1 HT.out.2).mono ?_; rintro e w2 ⟨rfl, ho2, hg2⟩))
  all_goals
    go_ret
    exact ⟨by rw [HR.out]; rfl, by rw [HR.out]; exact (H1.out.below (below_drew (Below.refl _ w1))).rowChg _ _ (.of_below (below_drew HB.out)) (setlen ho2) hg2⟩
set_option maxHeartbeats 8000000 in
set_option maxRecDepth 100000 in
theorem reckon_4 (w : World) {lo hi fl : Nat} {ph : Ph} {cs : List S49} {nA : Nat} {s : St} (H : MachIn w lo hi fl ph cs nA s) (i : Int) (h0 : 0 ≤ i) (h1 : i < cs.length) (a : S33) (inp : Int)
    {ng na nm nl : Int} (ha : okA (s.row (4 + 2 * i.toNat)).length ng na nm nl a) (k4 : a.f0 = 4) :
    Calls Try.prog 44 #[.pointer (some ⟨ph.tb i.toNat, 0, none⟩), actV a, .int .i64 inp] w fun e w' => e = .returned (.int .i64 (reck (s.row (4 + 2 * i.toNat)) a inp).2) ∧ Left w lo hi fl ph cs nA (s.setRow (4 + 2 * i.toNat) (reck (s.row (4 + 2 * i.toNat)) a inp).1) w' := by
  have HH := Aside0.mk H
  have HR : Aside0 (reck (s.row (4 + 2 * i.toNat)) a inp = (if (doP a.f6 (rd (s.row (4 + 2 * i.toNat)) a.f2) (rd (s.row (4 + 2 * i.toNat)) a.f3)).2 = 0 then ((s.row (4 + 2 * i.toNat)).set a.f1.toNat (doP a.f6 (rd (s.row (4 + 2 * i.toNat)) a.f2) (rd (s.row (4 + 2 * i.toNat)) a.f3)).1, 0) else ((s.row (4 + 2 * i.toNat)), (doP a.f6 (rd (s.row (4 + 2 * i.toNat)) a.f2) (rd (s.row (4 + 2 * i.toNat)) a.f3)).2))) := ⟨by rw [reck, if_neg (by omega), if_neg (by omega), if_neg (by omega), if_pos k4]⟩
  have HT := Aside0.mk (ha.t (.inr (.inr (.inr (.inl k4)))))
  have HX := Aside0.mk (ha.x (.inr (.inl k4)))
  have HY := Aside0.mk (ha.y (.inl k4))
  obtain ⟨d1, d2, hd⟩ : ∃ d1 d2, (doP a.f6 (rd (s.row (4 + 2 * i.toNat)) a.f2) (rd (s.row (4 + 2 * i.toNat)) a.f3)) = (d1, d2) := ⟨_, _, rfl⟩
  have HD := Aside0.mk ((do_ok a.f6 (rd (s.row (4 + 2 * i.toNat)) a.f2) (rd (s.row (4 + 2 * i.toNat)) a.f3)).trans (congrArg some hd))
  rw [hd] at HR
  clear hd
  have kb1 : (a.f0 == 1) = false := beq_eq_false_iff_ne.mpr (by omega)
  have kb2 : (a.f0 == 2) = false := beq_eq_false_iff_ne.mpr (by omega)
  have kb3 : (a.f0 == 3) = false := beq_eq_false_iff_ne.mpr (by omega)
  have kb4 : (a.f0 == 4) = true := beq_iff_eq.mpr k4
  clear k4 ha H
  generalize hvs : s.row (4 + 2 * i.toNat) = vs at *
  go_enter Try.func44, Try.ntmps44
  go_wp2_with (first | ((with_reducible refine gate_dst (N := 4) rfl ?_); refine box_event ?hg (N := 4) ?hd (cs := actC a) (t := 33) ?hr ?_; (case hd => rfl); (case hg => rfl); (case hr => first | (go_simp; done) | (go_simp; rfl)); intro gb hg w1 hbox hb; have HB := Aside0.mk hb; have HBX := Aside0.mk hbox; have H1 := Aside0.mk (HH.out.below hb); have hy0 : w1.cell? ⟨gb, 0, none⟩ = some (.int .i64 a.f0) := (blk_cell hbox 0).trans rfl; have hy1 : w1.cell? ⟨gb, 1, none⟩ = some (.int .i64 a.f1) := (blk_cell hbox 1).trans rfl; have hy2 : w1.cell? ⟨gb, 2, none⟩ = some (.int .i64 a.f2) := (blk_cell hbox 2).trans rfl; have hy3 : w1.cell? ⟨gb, 3, none⟩ = some (.int .i64 a.f3) := (blk_cell hbox 3).trans rfl; have hy4 : w1.cell? ⟨gb, 4, none⟩ = some (.int .i64 a.f4) := (blk_cell hbox 4).trans rfl; have hy5 : w1.cell? ⟨gb, 5, none⟩ = some (.int .i64 a.f5) := (blk_cell hbox 5).trans rfl; have hy6 : w1.cell? ⟨gb, 6, none⟩ = some (.int .i64 a.f6) := (blk_cell hbox 6).trans rfl; have hy7 : w1.cell? ⟨gb, 7, none⟩ = some (.int .i64 a.f7) := (blk_cell hbox 7).trans rfl; have hy8 : w1.cell? ⟨gb, 8, none⟩ = some (.int .i64 a.f8) := (blk_cell hbox 8).trans rfl; have htc0 : w1.cell? ⟨ph.tb i.toNat, 0, none⟩ = some (ph.rv (4 + 2 * i.toNat)) := (blk_cell (H1.out.th i.toNat (by omega)).1 0).trans rfl; have ho := Aside0.mk (H1.out.rows (4 + 2 * i.toNat)); simp only [hvs] at ho; clear hb hbox hg HH))
  refine start_ (n := 20) (S := fun w' => w'.cell? ⟨gb, 6, none⟩ = some (.int .i64 a.f6) ∧ w'.cell? ⟨gb, 2, none⟩ = some (.int .i64 a.f2) ∧ w'.cell? ⟨gb, 3, none⟩ = some (.int .i64 a.f3)) (ds := []) #[false, false, false, false, false, false, false, false, false, false, false, false, false, false, false, false, false, false, false, false] (by kernel_rfl) rfl rfl ⟨hy6, hy2, hy3⟩ (fun hHeld => ?_)
  refine pure_ (i := 0) (N := some 49) (v := ?_) (a' := ?_) #[true, false, false, false, false, false, false, false, false, false, false, false, false, false, false, false, false, false, false, false] rfl rfl (by kernel_rfl) (fun _ _ _ h => h) (Or.inl ⟨by rfl, ?_⟩) ?_ ?_
  rotate_left
  · intro w'
    go_simp
    with_reducible rfl
  rotate_left
  · simp only [Act.put, List.setIfInBounds_toArray, List.set_cons_zero, List.set_cons_succ]
    rfl
  refine pure_ (i := 2) (N := some 51) (v := ?_) (a' := ?_) #[true, false, true, false, false, false, false, false, false, false, false, false, false, false, false, false, false, false, false, false] rfl rfl (by kernel_rfl) (fun _ _ _ h => h) (Or.inl ⟨by rfl, ?_⟩) ?_ ?_
  rotate_left
  · intro w'
    go_simp
    with_reducible rfl
  rotate_left
  · simp only [Act.put, List.setIfInBounds_toArray, List.set_cons_zero, List.set_cons_succ]
    rfl
  refine pure_ (i := 3) (N := some 52) (v := ?_) (a' := ?_) #[true, false, true, true, false, false, false, false, false, false, false, false, false, false, false, false, false, false, false, false] rfl rfl (by kernel_rfl) (fun _ _ _ h => h) (Or.inl ⟨by rfl, ?_⟩) ?_ ?_
  rotate_left
  · intro w'
    go_simp
    with_reducible rfl
  rotate_left
  · simp only [Act.put, List.setIfInBounds_toArray, List.set_cons_zero, List.set_cons_succ]
    rfl
  refine pure_ (i := 4) (N := some 53) (v := ?_) (a' := ?_) #[true, false, true, true, true, false, false, false, false, false, false, false, false, false, false, false, false, false, false, false] rfl rfl (by kernel_rfl) (fun _ _ _ h => h) (Or.inl ⟨by rfl, ?_⟩) ?_ ?_
  rotate_left
  · intro w'
    go_simp
    with_reducible rfl
  rotate_left
  · simp only [Act.put, List.setIfInBounds_toArray, List.set_cons_zero, List.set_cons_succ]
    rfl
  refine pure_ (i := 5) (N := some 54) (v := ?_) (a' := ?_) #[true, false, true, true, true, true, false, false, false, false, false, false, false, false, false, false, false, false, false, false] rfl rfl (by kernel_rfl) (fun _ _ _ h => h) (Or.inl ⟨by rfl, ?_⟩) ?_ ?_
  rotate_left
  · intro w'
    go_simp
    with_reducible rfl
  rotate_left
  · simp only [Act.put, List.setIfInBounds_toArray, List.set_cons_zero, List.set_cons_succ]
    rfl
  refine pure_ (i := 8) (N := some 57) (v := ?_) (a' := ?_) #[true, false, true, true, true, true, false, false, true, false, false, false, false, false, false, false, false, false, false, false] rfl rfl (by kernel_rfl) (fun _ _ _ h => h) (Or.inl ⟨by rfl, ?_⟩) ?_ ?_
  rotate_left
  · intro w'
    go_simp
    with_reducible rfl
  rotate_left
  · simp only [Act.put, List.setIfInBounds_toArray, List.set_cons_zero, List.set_cons_succ]
    rfl
  refine pure_ (i := 9) (N := some 58) (v := ?_) (a' := ?_) #[true, false, true, true, true, true, false, false, true, true, false, false, false, false, false, false, false, false, false, false] rfl rfl (by kernel_rfl) (fun _ _ _ h => h) (Or.inl ⟨by rfl, ?_⟩) ?_ ?_
  rotate_left
  · intro w'
    go_simp
    with_reducible rfl
  rotate_left
  · simp only [Act.put, List.setIfInBounds_toArray, List.set_cons_zero, List.set_cons_succ]
    rfl
  refine pure_ (i := 10) (N := some 59) (v := ?_) (a' := ?_) #[true, false, true, true, true, true, false, false, true, true, true, false, false, false, false, false, false, false, false, false] rfl rfl (by kernel_rfl) (fun _ _ _ h => h) (Or.inl ⟨by rfl, ?_⟩) ?_ ?_
  rotate_left
  · intro w'
    go_simp
    with_reducible rfl
  rotate_left
  · simp only [Act.put, List.setIfInBounds_toArray, List.set_cons_zero, List.set_cons_succ]
    rfl
  refine pure_ (i := 11) (N := some 60) (v := ?_) (a' := ?_) #[true, false, true, true, true, true, false, false, true, true, true, true, false, false, false, false, false, false, false, false] rfl rfl (by kernel_rfl) (fun _ _ _ h => h) (Or.inl ⟨by rfl, ?_⟩) ?_ ?_
  rotate_left
  · intro w'
    go_simp
    with_reducible rfl
  rotate_left
  · simp only [Act.put, List.setIfInBounds_toArray, List.set_cons_zero, List.set_cons_succ]
    rfl
  refine take_ (i := 1) (N := some 50) (v := ?_) (a' := ?_) #[true, true, true, true, true, true, false, false, true, true, true, true, false, false, false, false, false, false, false, false] rfl rfl (by kernel_rfl) (fun _ _ _ h => h) (Or.inl ⟨by rfl, ?_⟩) hHeld ?_ ?_
  rotate_left
  · rintro w' ⟨s0, s1, s2⟩
    go_simp
    with_reducible rfl
  rotate_left
  · simp only [Act.put, List.setIfInBounds_toArray, List.set_cons_zero, List.set_cons_succ]
    rfl
  refine take_ (i := 6) (N := some 55) (v := ?_) (a' := ?_) #[true, true, true, true, true, true, true, false, true, true, true, true, false, false, false, false, false, false, false, false] rfl rfl (by kernel_rfl) (fun _ _ _ h => h) (Or.inl ⟨by rfl, ?_⟩) hHeld ?_ ?_
  rotate_left
  · rintro w' ⟨s0, s1, s2⟩
    go_simp
    with_reducible rfl
  rotate_left
  · simp only [Act.put, List.setIfInBounds_toArray, List.set_cons_zero, List.set_cons_succ]
    rfl
  refine take_ (i := 12) (N := some 61) (v := ?_) (a' := ?_) #[true, true, true, true, true, true, true, false, true, true, true, true, true, false, false, false, false, false, false, false] rfl rfl (by kernel_rfl) (fun _ _ _ h => h) (Or.inl ⟨by rfl, ?_⟩) hHeld ?_ ?_
  rotate_left
  · rintro w' ⟨s0, s1, s2⟩
    go_simp
    with_reducible rfl
  rotate_left
  · simp only [Act.put, List.setIfInBounds_toArray, List.set_cons_zero, List.set_cons_succ]
    rfl
  refine one_ (i := 7) (N := some 56) #[true, true, true, true, true, true, true, true, true, true, true, true, true, false, false, false, false, false, false, false] rfl rfl (by kernel_rfl) (by decide) (fun K hK => ?_)
  refine goes_ Try.func47 (by kernel_rfl) rfl #[.pointer (some ⟨ph.tb i.toNat, 0, none⟩), .int .i64 a.f2] (by rfl) rfl rfl (by simp only [List.map_toArray, List.map_cons, List.map_nil, Act.eval]; rfl) ?_
  refine (get_calls (ph.tb i.toNat) 0 (ph.rv (4 + 2 * i.toNat)) vs a.f2 lo w1.drew htc0 ho.out HX.out.1 HX.out.2).mono ?_
  rintro e w' ⟨rfl, rfl⟩
  refine ⟨_, rfl, ?_⟩
  refine hK.out _ _ hHeld (fun hHeld => ?_)
  clear hK K
  refine norm_ (a' := ?_) ?_ ?_
  rotate_left
  · show Act.put _ (some 56) _ = _
    simp only [Act.put, List.setIfInBounds_toArray, List.set_cons_zero, List.set_cons_succ]
    rfl
  refine one_ (i := 13) (N := some 62) #[true, true, true, true, true, true, true, true, true, true, true, true, true, true, false, false, false, false, false, false] rfl rfl (by kernel_rfl) (by decide) (fun K hK => ?_)
  refine goes_ Try.func47 (by kernel_rfl) rfl #[.pointer (some ⟨ph.tb i.toNat, 0, none⟩), .int .i64 a.f3] (by rfl) rfl rfl (by simp only [List.map_toArray, List.map_cons, List.map_nil, Act.eval]; rfl) ?_
  refine (get_calls (ph.tb i.toNat) 0 (ph.rv (4 + 2 * i.toNat)) vs a.f3 lo w1.drew htc0 ho.out HY.out.1 HY.out.2).mono ?_
  rintro e w' ⟨rfl, rfl⟩
  refine ⟨_, rfl, ?_⟩
  refine hK.out _ _ hHeld (fun hHeld => ?_)
  clear hK K
  refine norm_ (a' := ?_) ?_ ?_
  rotate_left
  · show Act.put _ (some 62) _ = _
    simp only [Act.put, List.setIfInBounds_toArray, List.set_cons_zero, List.set_cons_succ]
    rfl
  refine one_ (i := 14) (N := some 63) #[true, true, true, true, true, true, true, true, true, true, true, true, true, true, true, false, false, false, false, false] rfl rfl (by kernel_rfl) (by decide) (fun K hK => ?_)
  refine goes_ Try.func63 (by kernel_rfl) rfl #[.int .i64 a.f6, .int .i64 (rd vs a.f2), .int .i64 (rd vs a.f3)] (by rfl) rfl rfl (by simp only [List.map_toArray, List.map_cons, List.map_nil, Act.eval]; rfl) ?_
  refine (num_Do.calls 9 a.f6 (rd vs a.f2) (rd vs a.f3) d1 d2 w1.drew HD.out).mono ?_
  rintro e w2 ⟨rfl, hb2⟩
  refine ⟨_, rfl, ?_⟩
  refine hK.out _ _ ⟨pw_cell_below hb2 hHeld.1, pw_cell_below hb2 hHeld.2.1, pw_cell_below hb2 hHeld.2.2⟩ (fun hHeld => ?_)
  clear hK K
  refine norm_ (a' := ?_) ?_ ?_
  rotate_left
  · show Act.put _ (some 63) _ = _
    simp only [Act.put, List.setIfInBounds_toArray, List.set_cons_zero, List.set_cons_succ]
    rfl
  refine pure_ (i := 15) (N := some 48) (v := ?_) (a' := ?_) #[true, true, true, true, true, true, true, true, true, true, true, true, true, true, true, true, false, false, false, false] rfl rfl (by kernel_rfl) (fun _ _ _ h => h) (Or.inl ⟨by rfl, ?_⟩) ?_ ?_
  rotate_left
  · intro w'
    go_simp
    with_reducible rfl
  rotate_left
  · simp only [Act.put, List.setIfInBounds_toArray, List.set_cons_zero, List.set_cons_succ]
    rfl
  refine pure_ (i := 16) (N := some 64) (v := ?_) (a' := ?_) #[true, true, true, true, true, true, true, true, true, true, true, true, true, true, true, true, true, false, false, false] rfl rfl (by kernel_rfl) (fun _ _ _ h => h) (Or.inl ⟨by rfl, ?_⟩) ?_ ?_
  rotate_left
  · intro w'
    go_simp
    with_reducible rfl
  rotate_left
  · simp only [Act.put, List.setIfInBounds_toArray, List.set_cons_zero, List.set_cons_succ]
    rfl
  refine pure_ (i := 17) (N := some 65) (v := ?_) (a' := ?_) #[true, true, true, true, true, true, true, true, true, true, true, true, true, true, true, true, true, true, false, false] rfl rfl (by kernel_rfl) (fun _ _ _ h => h) (Or.inl ⟨by rfl, ?_⟩) ?_ ?_
  rotate_left
  · intro w'
    go_simp
    with_reducible rfl
  rotate_left
  · simp only [Act.put, List.setIfInBounds_toArray, List.set_cons_zero, List.set_cons_succ]
    rfl
  refine pure_ (i := 18) (N := some 7) (v := ?_) (a' := ?_) #[true, true, true, true, true, true, true, true, true, true, true, true, true, true, true, true, true, true, true, false] rfl rfl (by kernel_rfl) (fun _ _ _ h => h) (Or.inl ⟨by rfl, ?_⟩) ?_ ?_
  rotate_left
  · intro w'
    go_simp
    with_reducible rfl
  rotate_left
  · simp only [Act.put, List.setIfInBounds_toArray, List.set_cons_zero, List.set_cons_succ]
    rfl
  refine pure_ (i := 19) (N := some 8) (v := ?_) (a' := ?_) #[true, true, true, true, true, true, true, true, true, true, true, true, true, true, true, true, true, true, true, true] rfl rfl (by kernel_rfl) (fun _ _ _ h => h) (Or.inl ⟨by rfl, ?_⟩) ?_ ?_
  rotate_left
  · intro w'
    go_simp
    with_reducible rfl
  rotate_left
  · simp only [Act.put, List.setIfInBounds_toArray, List.set_cons_zero, List.set_cons_succ]
    rfl
  refine done_ (by kernel_rfl) ?_
  have HB2 := Aside0.mk (below_on (below_drew HB.out) hb2)
  have H2 := Aside0.mk ((H1.out.below (below_drew (Below.refl _ w1))).below hb2)
  have hbox2 : w2.heap[gb]? = _ := below_read (w := w1.drew) hb2 HBX.out
  have hz1 : w2.cell? ⟨gb, 1, none⟩ = some (.int .i64 a.f1) := (blk_cell hbox2 1).trans rfl
  have htc0' : w2.cell? ⟨ph.tb i.toNat, 0, none⟩ = some (ph.rv (4 + 2 * i.toNat)) := (blk_cell (H2.out.th i.toNat (by omega)).1 0).trans rfl
  have ho' := Aside0.mk (H2.out.rows (4 + 2 * i.toNat))
  simp only [hvs] at ho'
  clear hHeld hb2 hbox2 ho htc0 hy0 hy1 hy2 hy3 hy4 hy5 hy6 hy7 hy8 H1 HB HBX HX HY
  clear HD
  by_cases hd : d2 = 0
  · have kd : (d2 != 0) = false := bne_eq_false_iff_eq.mpr hd
    replace HR := Aside0.mk (HR.out.trans (if_pos hd))
    clear hd
    go_wp2_with fail
    go_still_tail 6, (by kernel_rfl)
    change wpList _ _ _ _ _ w2.drew
    go_wp2_with (go_at_call 62; refine (set_calls (ph.tb i.toNat) 0 (ph.rv (4 + 2 * i.toNat)) vs a.f1 d1 lo w2.drew htc0' ho'.out HT.out.1 HT.out.2).mono ?_; rintro e w3 ⟨rfl, ho2, hg2⟩)
    go_ret
    exact ⟨by rw [HR.out]; rfl, by rw [HR.out]; exact (H2.out.below (below_drew (Below.refl _ w2))).rowChg _ _ (.of_below (below_drew HB2.out)) (setlen ho2) hg2⟩
  · have kd : (d2 != 0) = true := bne_iff_ne.mpr hd
    replace HR := Aside0.mk (HR.out.trans (if_neg hd))
    go_wp2
    go_ret
    exact ⟨by rw [HR.out]; rfl, by rw [HR.out, ← hvs, St.setRow_same]; exact ⟨H2.out, .of_below HB2.out⟩⟩
set_option maxHeartbeats 8000000 in
set_option maxRecDepth 100000 in
theorem reckon_13 (w : World) {lo hi fl : Nat} {ph : Ph} {cs : List S49} {nA : Nat} {s : St} (H : MachIn w lo hi fl ph cs nA s) (i : Int) (h0 : 0 ≤ i) (h1 : i < cs.length) (a : S33) (inp : Int)
    {ng na nm nl : Int} (ha : okA (s.row (4 + 2 * i.toNat)).length ng na nm nl a) (k13 : a.f0 = 13) :
    Calls Try.prog 44 #[.pointer (some ⟨ph.tb i.toNat, 0, none⟩), actV a, .int .i64 inp] w fun e w' => e = .returned (.int .i64 (reck (s.row (4 + 2 * i.toNat)) a inp).2) ∧ Left w lo hi fl ph cs nA (s.setRow (4 + 2 * i.toNat) (reck (s.row (4 + 2 * i.toNat)) a inp).1) w' := by
  have HH := Aside0.mk H
  have HR : Aside0 (reck (s.row (4 + 2 * i.toNat)) a inp = ((s.row (4 + 2 * i.toNat)), 10)) := ⟨by rw [reck, if_neg (by omega), if_neg (by omega), if_neg (by omega), if_neg (by omega), if_pos k13]⟩
  have kb1 : (a.f0 == 1) = false := beq_eq_false_iff_ne.mpr (by omega)
  have kb2 : (a.f0 == 2) = false := beq_eq_false_iff_ne.mpr (by omega)
  have kb3 : (a.f0 == 3) = false := beq_eq_false_iff_ne.mpr (by omega)
  have kb4 : (a.f0 == 4) = false := beq_eq_false_iff_ne.mpr (by omega)
  have kb13 : (a.f0 == 13) = true := beq_iff_eq.mpr k13
  clear k13 ha H
  generalize hvs : s.row (4 + 2 * i.toNat) = vs at *
  go_enter Try.func44, Try.ntmps44
  go_wp2_with (first | ((with_reducible refine gate_dst (N := 4) rfl ?_); refine box_event ?hg (N := 4) ?hd (cs := actC a) (t := 33) ?hr ?_; (case hd => rfl); (case hg => rfl); (case hr => first | (go_simp; done) | (go_simp; rfl)); intro gb hg w1 hbox hb; have HB := Aside0.mk hb; have H1 := Aside0.mk (HH.out.below hb); have hy0 : w1.cell? ⟨gb, 0, none⟩ = some (.int .i64 a.f0) := (blk_cell hbox 0).trans rfl; have hy1 : w1.cell? ⟨gb, 1, none⟩ = some (.int .i64 a.f1) := (blk_cell hbox 1).trans rfl; have hy2 : w1.cell? ⟨gb, 2, none⟩ = some (.int .i64 a.f2) := (blk_cell hbox 2).trans rfl; have hy3 : w1.cell? ⟨gb, 3, none⟩ = some (.int .i64 a.f3) := (blk_cell hbox 3).trans rfl; have hy4 : w1.cell? ⟨gb, 4, none⟩ = some (.int .i64 a.f4) := (blk_cell hbox 4).trans rfl; have hy5 : w1.cell? ⟨gb, 5, none⟩ = some (.int .i64 a.f5) := (blk_cell hbox 5).trans rfl; have hy6 : w1.cell? ⟨gb, 6, none⟩ = some (.int .i64 a.f6) := (blk_cell hbox 6).trans rfl; have hy7 : w1.cell? ⟨gb, 7, none⟩ = some (.int .i64 a.f7) := (blk_cell hbox 7).trans rfl; have hy8 : w1.cell? ⟨gb, 8, none⟩ = some (.int .i64 a.f8) := (blk_cell hbox 8).trans rfl; have htc0 : w1.cell? ⟨ph.tb i.toNat, 0, none⟩ = some (ph.rv (4 + 2 * i.toNat)) := (blk_cell (H1.out.th i.toNat (by omega)).1 0).trans rfl; have ho := Aside0.mk (H1.out.rows (4 + 2 * i.toNat)); simp only [hvs] at ho; clear hb hbox hg HH))
  go_ret
  exact ⟨by rw [HR.out]; rfl, by rw [HR.out, ← hvs, St.setRow_same]; exact ⟨H1.out, .of_below HB.out⟩⟩
set_option maxHeartbeats 8000000 in
set_option maxRecDepth 100000 in
theorem reckon_no (w : World) {lo hi fl : Nat} {ph : Ph} {cs : List S49} {nA : Nat} {s : St} (H : MachIn w lo hi fl ph cs nA s) (i : Int) (h0 : 0 ≤ i) (h1 : i < cs.length) (a : S33) (inp : Int)
    {ng na nm nl : Int} (ha : okA (s.row (4 + 2 * i.toNat)).length ng na nm nl a) (kn : a.f0 ≠ 1 ∧ a.f0 ≠ 2 ∧ a.f0 ≠ 3 ∧ a.f0 ≠ 4 ∧ a.f0 ≠ 13) :
    Calls Try.prog 44 #[.pointer (some ⟨ph.tb i.toNat, 0, none⟩), actV a, .int .i64 inp] w fun e w' => e = .returned (.int .i64 (reck (s.row (4 + 2 * i.toNat)) a inp).2) ∧ Left w lo hi fl ph cs nA (s.setRow (4 + 2 * i.toNat) (reck (s.row (4 + 2 * i.toNat)) a inp).1) w' := by
  have HH := Aside0.mk H
  have HR : Aside0 (reck (s.row (4 + 2 * i.toNat)) a inp = ((s.row (4 + 2 * i.toNat)), 0)) := ⟨by rw [reck, if_neg kn.1, if_neg kn.2.1, if_neg kn.2.2.1, if_neg kn.2.2.2.1, if_neg kn.2.2.2.2]⟩
  have kb1 : (a.f0 == 1) = false := beq_eq_false_iff_ne.mpr (by omega)
  have kb2 : (a.f0 == 2) = false := beq_eq_false_iff_ne.mpr (by omega)
  have kb3 : (a.f0 == 3) = false := beq_eq_false_iff_ne.mpr (by omega)
  have kb4 : (a.f0 == 4) = false := beq_eq_false_iff_ne.mpr (by omega)
  have kb13 : (a.f0 == 13) = false := beq_eq_false_iff_ne.mpr (by omega)
  clear kn ha H
  generalize hvs : s.row (4 + 2 * i.toNat) = vs at *
  go_enter Try.func44, Try.ntmps44
  go_wp2_with (first | ((with_reducible refine gate_dst (N := 4) rfl ?_); refine box_event ?hg (N := 4) ?hd (cs := actC a) (t := 33) ?hr ?_; (case hd => rfl); (case hg => rfl); (case hr => first | (go_simp; done) | (go_simp; rfl)); intro gb hg w1 hbox hb; have HB := Aside0.mk hb; have H1 := Aside0.mk (HH.out.below hb); have hy0 : w1.cell? ⟨gb, 0, none⟩ = some (.int .i64 a.f0) := (blk_cell hbox 0).trans rfl; have hy1 : w1.cell? ⟨gb, 1, none⟩ = some (.int .i64 a.f1) := (blk_cell hbox 1).trans rfl; have hy2 : w1.cell? ⟨gb, 2, none⟩ = some (.int .i64 a.f2) := (blk_cell hbox 2).trans rfl; have hy3 : w1.cell? ⟨gb, 3, none⟩ = some (.int .i64 a.f3) := (blk_cell hbox 3).trans rfl; have hy4 : w1.cell? ⟨gb, 4, none⟩ = some (.int .i64 a.f4) := (blk_cell hbox 4).trans rfl; have hy5 : w1.cell? ⟨gb, 5, none⟩ = some (.int .i64 a.f5) := (blk_cell hbox 5).trans rfl; have hy6 : w1.cell? ⟨gb, 6, none⟩ = some (.int .i64 a.f6) := (blk_cell hbox 6).trans rfl; have hy7 : w1.cell? ⟨gb, 7, none⟩ = some (.int .i64 a.f7) := (blk_cell hbox 7).trans rfl; have hy8 : w1.cell? ⟨gb, 8, none⟩ = some (.int .i64 a.f8) := (blk_cell hbox 8).trans rfl; have htc0 : w1.cell? ⟨ph.tb i.toNat, 0, none⟩ = some (ph.rv (4 + 2 * i.toNat)) := (blk_cell (H1.out.th i.toNat (by omega)).1 0).trans rfl; have ho := Aside0.mk (H1.out.rows (4 + 2 * i.toNat)); simp only [hvs] at ho; clear hb hbox hg HH))
  go_ret
  exact ⟨by rw [HR.out]; rfl, by rw [HR.out, ← hvs, St.setRow_same]; exact ⟨H1.out, .of_below HB.out⟩⟩
theorem reckon_calls (w : World) {lo hi fl : Nat} {ph : Ph} {cs : List S49} {nA : Nat} {s : St} (H : MachIn w lo hi fl ph cs nA s) (i : Int) (h0 : 0 ≤ i) (h1 : i < cs.length) (a : S33) (inp : Int)
    {ng na nm nl : Int} (ha : okA (s.row (4 + 2 * i.toNat)).length ng na nm nl a) :
    Calls Try.prog 44 #[.pointer (some ⟨ph.tb i.toNat, 0, none⟩), actV a, .int .i64 inp] w fun e w' => e = .returned (.int .i64 (reck (s.row (4 + 2 * i.toNat)) a inp).2) ∧ Left w lo hi fl ph cs nA (s.setRow (4 + 2 * i.toNat) (reck (s.row (4 + 2 * i.toNat)) a inp).1) w' := by
  by_cases k1 : a.f0 = 1
  · exact reckon_1 w H i h0 h1 a inp ha k1
  by_cases k2 : a.f0 = 2
  · exact reckon_2 w H i h0 h1 a inp ha k2
  by_cases k3 : a.f0 = 3
  · exact reckon_3 w H i h0 h1 a inp ha k3
  by_cases k4 : a.f0 = 4
  · exact reckon_4 w H i h0 h1 a inp ha k4
  by_cases k13 : a.f0 = 13
  · exact reckon_13 w H i h0 h1 a inp ha k13
  exact reckon_no w H i h0 h1 a inp ha ⟨k1, k2, k3, k4, k13⟩
end
section
/-- What share leaves, and the error. -/
def shr (nA : Nat) (s : St) (i : Int) (a : S33) : St × Int :=
  if a.f0 = 5 then (s.setRow (4 + 2 * i.toNat) ((s.row (4 + 2 * i.toNat)).set a.f1.toNat (rd (s.row 0) a.f4)), 0)
  else if a.f0 = 6 then (s.setRow 0 ((s.row 0).set a.f4.toNat (rd (s.row (4 + 2 * i.toNat)) a.f2)), 0)
  else if a.f0 = 7 ∨ a.f0 = 8 then
    (if 0 ≤ rd (s.row (4 + 2 * i.toNat)) a.f2 ∧ rd (s.row (4 + 2 * i.toNat)) a.f2 < (s.row (3 + 2 * a.f4.toNat)).length then
      (if a.f0 = 7 then (s.setRow (4 + 2 * i.toNat) ((s.row (4 + 2 * i.toNat)).set a.f1.toNat (rd (s.row (3 + 2 * a.f4.toNat)) (rd (s.row (4 + 2 * i.toNat)) a.f2))), 0)
       else (s.setRow (3 + 2 * a.f4.toNat) ((s.row (3 + 2 * a.f4.toNat)).set (rd (s.row (4 + 2 * i.toNat)) a.f2).toNat (rd (s.row (4 + 2 * i.toNat)) a.f3)), 0))
     else (s, 9))
  else if a.f0 = 9 then (if rd (s.row 1) a.f4 = i then (s, 11) else (s.setRow 1 ((s.row 1).set a.f4.toNat i), 0))
  else if a.f0 = 10 then (if rd (s.row 1) a.f4 = i then (s.setRow 1 ((s.row 1).set a.f4.toNat (-1)), 0) else (s, 12))
  else (s, 0)
set_option maxHeartbeats 8000000 in
set_option maxRecDepth 100000 in
theorem share_5 (w : World) {nl : Int} {lo hi fl : Nat} {ph : Ph} {cs : List S49} {nA : Nat} {s : St} (H : MachIn w lo hi fl ph cs nA s) (i : Int) (h0 : 0 ≤ i) (h1 : i < cs.length) (a : S33)
    (ha : okA (s.row (4 + 2 * i.toNat)).length (s.row 0).length nA (s.row 1).length nl a) (k : a.f0 = 5) :
    Calls Try.prog 45 #[.pointer (some ⟨ph.bm, 0, none⟩), .int .i64 i, actV a] w fun e w' => e = .returned (.int .i64 (shr nA s i a).2) ∧ Left w lo hi fl ph cs nA (shr nA s i a).1 w' := by
  have HH := Aside0.mk H
  have HR : Aside0 (shr nA s i a = (s.setRow (4 + 2 * i.toNat) ((s.row (4 + 2 * i.toNat)).set a.f1.toNat (rd (s.row 0) a.f4)), 0)) := ⟨by rw [shr, if_pos k]⟩
  have HT := Aside0.mk (ha.t (by omega))
  obtain ⟨hg0, hg1⟩ := ha.g (by omega)
  have kb5 : (a.f0 == 5) = true := beq_iff_eq.mpr (by omega)
  clear H ha
  go_enter Try.func45, Try.ntmps45
  go_wp2_with (first | ((with_reducible refine gate_dst (N := 5) rfl ?_); refine box_event ?hg (N := 5) ?hd (cs := actC a) (t := 33) ?hr ?_; (case hd => rfl); (case hg => rfl); (case hr => first | (go_simp; done) | (go_simp; rfl)); intro gb hg w1 hbox hb; have HBX := Aside0.mk hbox; have HB := Aside0.mk hb; have H1 := Aside0.mk (HH.out.below hb); have hy0 : w1.cell? ⟨gb, 0, none⟩ = some (.int .i64 a.f0) := (blk_cell hbox 0).trans rfl; have hy1 : w1.cell? ⟨gb, 1, none⟩ = some (.int .i64 a.f1) := (blk_cell hbox 1).trans rfl; have hy2 : w1.cell? ⟨gb, 2, none⟩ = some (.int .i64 a.f2) := (blk_cell hbox 2).trans rfl; have hy3 : w1.cell? ⟨gb, 3, none⟩ = some (.int .i64 a.f3) := (blk_cell hbox 3).trans rfl; have hy4 : w1.cell? ⟨gb, 4, none⟩ = some (.int .i64 a.f4) := (blk_cell hbox 4).trans rfl; have hy5 : w1.cell? ⟨gb, 5, none⟩ = some (.int .i64 a.f5) := (blk_cell hbox 5).trans rfl; have hy6 : w1.cell? ⟨gb, 6, none⟩ = some (.int .i64 a.f6) := (blk_cell hbox 6).trans rfl; have hy7 : w1.cell? ⟨gb, 7, none⟩ = some (.int .i64 a.f7) := (blk_cell hbox 7).trans rfl; have hy8 : w1.cell? ⟨gb, 8, none⟩ = some (.int .i64 a.f8) := (blk_cell hbox 8).trans rfl; have htc0 : w1.cell? ⟨ph.tb i.toNat, 0, none⟩ = some (ph.rv (4 + 2 * i.toNat)) := (blk_cell (H1.out.th i.toNat (by omega)).1 0).trans rfl; obtain ⟨fp, hm1, _⟩ := H1.out.hm; have hm4 : w1.cell? ⟨ph.bm, 4, none⟩ = some ph.hT := (blk_cell hm1 4).trans rfl; have hm5 : w1.cell? ⟨ph.bm, 5, none⟩ = some (ph.rv 0) := (blk_cell hm1 5).trans rfl; have hm7 : w1.cell? ⟨ph.bm, 7, none⟩ = some (ph.rv 1) := (blk_cell hm1 7).trans rfl; obtain ⟨gT, cT, eT, _, hTc⟩ := H1.out.tcell i h0 h1; rw [eT] at hm4; have ho := Aside0.mk (H1.out.rows (4 + 2 * i.toNat)); obtain ⟨g0, c0, e0, hl0, hc0, _⟩ := own_int (H1.out.rows 0) a.f4 hg0 hg1; rw [e0] at hm5; clear e0; clear hb hbox hg HH hm1 eT))
  go_still_tail 13, (by kernel_rfl)
  change wpList _ _ _ _ _ w1.drew
  go_wp2_with (go_at_call 62; refine (set_calls (ph.tb i.toNat) 0 (ph.rv (4 + 2 * i.toNat)) (s.row (4 + 2 * i.toNat)) a.f1 (rd (s.row 0) a.f4) lo w1.drew htc0 ho.out HT.out.1 HT.out.2).mono ?_; rintro e w2 ⟨rfl, ho2, hg2⟩)
  go_ret
  exact ⟨by rw [HR.out]; rfl, by rw [HR.out]; exact (H1.out.below (below_drew (Below.refl _ w1))).rowChg _ _ (.of_below (below_drew HB.out)) (setlen ho2) hg2⟩
set_option maxHeartbeats 8000000 in
set_option maxRecDepth 100000 in
theorem share_6 (w : World) {nl : Int} {lo hi fl : Nat} {ph : Ph} {cs : List S49} {nA : Nat} {s : St} (H : MachIn w lo hi fl ph cs nA s) (i : Int) (h0 : 0 ≤ i) (h1 : i < cs.length) (a : S33)
    (ha : okA (s.row (4 + 2 * i.toNat)).length (s.row 0).length nA (s.row 1).length nl a) (k : a.f0 = 6) :
    Calls Try.prog 45 #[.pointer (some ⟨ph.bm, 0, none⟩), .int .i64 i, actV a] w fun e w' => e = .returned (.int .i64 (shr nA s i a).2) ∧ Left w lo hi fl ph cs nA (shr nA s i a).1 w' := by
  have HH := Aside0.mk H
  have HR : Aside0 (shr nA s i a = (s.setRow 0 ((s.row 0).set a.f4.toNat (rd (s.row (4 + 2 * i.toNat)) a.f2)), 0)) := ⟨by rw [shr, if_neg (by omega), if_pos k]⟩
  have HX := Aside0.mk (ha.x (by omega))
  obtain ⟨hg0, hg1⟩ := ha.g (by omega)
  have kb5 : (a.f0 == 5) = false := beq_eq_false_iff_ne.mpr (by omega)
  have kb6 : (a.f0 == 6) = true := beq_iff_eq.mpr (by omega)
  clear H ha
  go_enter Try.func45, Try.ntmps45
  go_wp2_with (first | ((with_reducible refine gate_dst (N := 5) rfl ?_); refine box_event ?hg (N := 5) ?hd (cs := actC a) (t := 33) ?hr ?_; (case hd => rfl); (case hg => rfl); (case hr => first | (go_simp; done) | (go_simp; rfl)); intro gb hg w1 hbox hb; have HBX := Aside0.mk hbox; have HB := Aside0.mk hb; have H1 := Aside0.mk (HH.out.below hb); have hy0 : w1.cell? ⟨gb, 0, none⟩ = some (.int .i64 a.f0) := (blk_cell hbox 0).trans rfl; have hy1 : w1.cell? ⟨gb, 1, none⟩ = some (.int .i64 a.f1) := (blk_cell hbox 1).trans rfl; have hy2 : w1.cell? ⟨gb, 2, none⟩ = some (.int .i64 a.f2) := (blk_cell hbox 2).trans rfl; have hy3 : w1.cell? ⟨gb, 3, none⟩ = some (.int .i64 a.f3) := (blk_cell hbox 3).trans rfl; have hy4 : w1.cell? ⟨gb, 4, none⟩ = some (.int .i64 a.f4) := (blk_cell hbox 4).trans rfl; have hy5 : w1.cell? ⟨gb, 5, none⟩ = some (.int .i64 a.f5) := (blk_cell hbox 5).trans rfl; have hy6 : w1.cell? ⟨gb, 6, none⟩ = some (.int .i64 a.f6) := (blk_cell hbox 6).trans rfl; have hy7 : w1.cell? ⟨gb, 7, none⟩ = some (.int .i64 a.f7) := (blk_cell hbox 7).trans rfl; have hy8 : w1.cell? ⟨gb, 8, none⟩ = some (.int .i64 a.f8) := (blk_cell hbox 8).trans rfl; have htc0 : w1.cell? ⟨ph.tb i.toNat, 0, none⟩ = some (ph.rv (4 + 2 * i.toNat)) := (blk_cell (H1.out.th i.toNat (by omega)).1 0).trans rfl; obtain ⟨fp, hm1, _⟩ := H1.out.hm; have hm4 : w1.cell? ⟨ph.bm, 4, none⟩ = some ph.hT := (blk_cell hm1 4).trans rfl; have hm5 : w1.cell? ⟨ph.bm, 5, none⟩ = some (ph.rv 0) := (blk_cell hm1 5).trans rfl; have hm7 : w1.cell? ⟨ph.bm, 7, none⟩ = some (ph.rv 1) := (blk_cell hm1 7).trans rfl; obtain ⟨gT, cT, eT, _, hTc⟩ := H1.out.tcell i h0 h1; rw [eT] at hm4; have ho := Aside0.mk (H1.out.rows (4 + 2 * i.toNat)); obtain ⟨g0, c0, e0, hl0, hc0, hf0, _⟩ := own_int (H1.out.rows 0) a.f4 hg0 hg1; rw [e0] at hm5; have E0 := Aside0.mk e0; have HS := Aside0.mk (own_store (W := w1.drew) (x := rd (s.row (4 + 2 * i.toNat)) a.f2) (i := a.f4) (e0 ▸ H1.out.rows 0)); clear e0; clear hb hbox hg HH hm1 eT))
  refine wp_region_still_tail 13 (by kernel_rfl) (by kernel_rfl) ?_
  simp only [List.take_succ_cons, List.take_zero, List.drop_succ_cons, List.drop_zero]
  iterate 11 still_step
  still_call (get_calls (ph.tb i.toNat) 0 (ph.rv (4 + 2 * i.toNat)) (s.row (4 + 2 * i.toNat)) a.f2 lo _ htc0 ho.out HX.out.1 HX.out.2)
  still_step
  refine wpStill_nil ?_
  change wpList _ _ _ _ _ w1.drew
  go_wp2
  go_ret
  exact ⟨by rw [HR.out]; rfl, by rw [HR.out]; exact (H1.out.below (below_drew (Below.refl _ w1))).rowChg _ _ (.of_below (below_drew HB.out)) (by rw [E0.out]; exact setlen HS.out.1) (by rw [E0.out]; exact HS.out.2)⟩
set_option maxHeartbeats 8000000 in
set_option maxRecDepth 100000 in
theorem share_7 (w : World) {nl : Int} {lo hi fl : Nat} {ph : Ph} {cs : List S49} {nA : Nat} {s : St} (H : MachIn w lo hi fl ph cs nA s) (i : Int) (h0 : 0 ≤ i) (h1 : i < cs.length) (a : S33)
    (ha : okA (s.row (4 + 2 * i.toNat)).length (s.row 0).length nA (s.row 1).length nl a) (k : a.f0 = 7) (hin : 0 ≤ (rd (s.row (4 + 2 * i.toNat)) a.f2) ∧ (rd (s.row (4 + 2 * i.toNat)) a.f2) < (s.row (3 + 2 * a.f4.toNat)).length) :
    Calls Try.prog 45 #[.pointer (some ⟨ph.bm, 0, none⟩), .int .i64 i, actV a] w fun e w' => e = .returned (.int .i64 (shr nA s i a).2) ∧ Left w lo hi fl ph cs nA (shr nA s i a).1 w' := by
  have HH := Aside0.mk H
  have HR : Aside0 (shr nA s i a = (s.setRow (4 + 2 * i.toNat) ((s.row (4 + 2 * i.toNat)).set a.f1.toNat (rd (s.row (3 + 2 * a.f4.toNat)) (rd (s.row (4 + 2 * i.toNat)) a.f2))), 0)) := ⟨by rw [shr, if_neg (by omega), if_neg (by omega), if_pos (by omega), if_pos hin, if_pos k]⟩
  have HX := Aside0.mk (ha.x (by omega))
  have HG := Aside0.mk (ha.arr (by omega))
  have HI := Aside0.mk hin
  have HT := Aside0.mk (ha.t (by omega))
  have kb5 : (a.f0 == 5) = false := beq_eq_false_iff_ne.mpr (by omega)
  have kb6 : (a.f0 == 6) = false := beq_eq_false_iff_ne.mpr (by omega)
  have kb7 : (a.f0 == 7) = true := beq_iff_eq.mpr (by omega)
  clear H ha
  go_enter Try.func45, Try.ntmps45
  go_wp2_with (first | ((with_reducible refine gate_dst (N := 5) rfl ?_); refine box_event ?hg (N := 5) ?hd (cs := actC a) (t := 33) ?hr ?_; (case hd => rfl); (case hg => rfl); (case hr => first | (go_simp; done) | (go_simp; rfl)); intro gb hg w1 hbox hb; have HBX := Aside0.mk hbox; have HB := Aside0.mk hb; have H1 := Aside0.mk (HH.out.below hb); have hy0 : w1.cell? ⟨gb, 0, none⟩ = some (.int .i64 a.f0) := (blk_cell hbox 0).trans rfl; have hy1 : w1.cell? ⟨gb, 1, none⟩ = some (.int .i64 a.f1) := (blk_cell hbox 1).trans rfl; have hy2 : w1.cell? ⟨gb, 2, none⟩ = some (.int .i64 a.f2) := (blk_cell hbox 2).trans rfl; have hy3 : w1.cell? ⟨gb, 3, none⟩ = some (.int .i64 a.f3) := (blk_cell hbox 3).trans rfl; have hy4 : w1.cell? ⟨gb, 4, none⟩ = some (.int .i64 a.f4) := (blk_cell hbox 4).trans rfl; have hy5 : w1.cell? ⟨gb, 5, none⟩ = some (.int .i64 a.f5) := (blk_cell hbox 5).trans rfl; have hy6 : w1.cell? ⟨gb, 6, none⟩ = some (.int .i64 a.f6) := (blk_cell hbox 6).trans rfl; have hy7 : w1.cell? ⟨gb, 7, none⟩ = some (.int .i64 a.f7) := (blk_cell hbox 7).trans rfl; have hy8 : w1.cell? ⟨gb, 8, none⟩ = some (.int .i64 a.f8) := (blk_cell hbox 8).trans rfl; have htc0 : w1.cell? ⟨ph.tb i.toNat, 0, none⟩ = some (ph.rv (4 + 2 * i.toNat)) := (blk_cell (H1.out.th i.toNat (by omega)).1 0).trans rfl; obtain ⟨fp, hm1, _⟩ := H1.out.hm; have hm4 : w1.cell? ⟨ph.bm, 4, none⟩ = some ph.hT := (blk_cell hm1 4).trans rfl; have hm5 : w1.cell? ⟨ph.bm, 5, none⟩ = some (ph.rv 0) := (blk_cell hm1 5).trans rfl; have hm7 : w1.cell? ⟨ph.bm, 7, none⟩ = some (ph.rv 1) := (blk_cell hm1 7).trans rfl; obtain ⟨gT, cT, eT, _, hTc⟩ := H1.out.tcell i h0 h1; rw [eT] at hm4; have ho := Aside0.mk (H1.out.rows (4 + 2 * i.toNat)); clear hb hbox hg HH hm1 eT))
  refine wp_region_still_tail 9 (by kernel_rfl) (by kernel_rfl) ?_
  simp only [List.take_succ_cons, List.take_zero, List.drop_succ_cons, List.drop_zero]
  iterate 8 still_step
  still_call (get_calls (ph.tb i.toNat) 0 (ph.rv (4 + 2 * i.toNat)) (s.row (4 + 2 * i.toNat)) a.f2 lo _ htc0 ho.out HX.out.1 HX.out.2)
  refine wpStill_nil ?_
  change wpList _ _ _ _ _ w1.drew
  go_wp2_with fail
  go_at_call 64
  refine (elem_in w1.drew (H1.out.below (below_drew (Below.refl _ w1))) a.f4 (rd (s.row (4 + 2 * i.toNat)) a.f2) HG.out.1 HG.out.2 HI.out.1 HI.out.2).mono ?_
  rintro e w2 ⟨⟨b, cb, eb, rfl⟩, hb2⟩
  have HB2 := Aside0.mk (below_on (below_drew HB.out) hb2)
  have H2 := Aside0.mk ((H1.out.below (below_drew (Below.refl _ w1))).below hb2)
  have hbox2 : w2.heap[gb]? = _ := below_read (w := w1.drew) hb2 HBX.out
  have hz0 : w2.cell? ⟨gb, 0, none⟩ = some (.int .i64 a.f0) := (blk_cell hbox2 0).trans rfl
  have hz1 : w2.cell? ⟨gb, 1, none⟩ = some (.int .i64 a.f1) := (blk_cell hbox2 1).trans rfl
  have hz2 : w2.cell? ⟨gb, 2, none⟩ = some (.int .i64 a.f2) := (blk_cell hbox2 2).trans rfl
  have hz3 : w2.cell? ⟨gb, 3, none⟩ = some (.int .i64 a.f3) := (blk_cell hbox2 3).trans rfl
  have hz4 : w2.cell? ⟨gb, 4, none⟩ = some (.int .i64 a.f4) := (blk_cell hbox2 4).trans rfl
  have hz5 : w2.cell? ⟨gb, 5, none⟩ = some (.int .i64 a.f5) := (blk_cell hbox2 5).trans rfl
  have hz6 : w2.cell? ⟨gb, 6, none⟩ = some (.int .i64 a.f6) := (blk_cell hbox2 6).trans rfl
  have hz7 : w2.cell? ⟨gb, 7, none⟩ = some (.int .i64 a.f7) := (blk_cell hbox2 7).trans rfl
  have hz8 : w2.cell? ⟨gb, 8, none⟩ = some (.int .i64 a.f8) := (blk_cell hbox2 8).trans rfl
  have htc0' : w2.cell? ⟨ph.tb i.toNat, 0, none⟩ = some (ph.rv (4 + 2 * i.toNat)) := (blk_cell (H2.out.th i.toNat (by omega)).1 0).trans rfl
  have ho' := Aside0.mk (H2.out.rows (4 + 2 * i.toNat))
  clear hb2 hbox2 ho htc0 hy0 hy1 hy2 hy3 hy4 hy5 hy6 hy7 hy8 H1 HB HBX hm4 hm5 hm7 hTc
  obtain ⟨g2, c2, e2, hl2, hc2, hf2, _⟩ := own_int (H2.out.rows (3 + 2 * a.f4.toNat)) (rd (s.row (4 + 2 * i.toNat)) a.f2) HI.out.1 HI.out.2
  rw [eb] at e2
  cases e2
  clear eb
  go_wp2_with fail
  go_still_tail 8, (by kernel_rfl)
  change wpList _ _ _ _ _ w2.drew
  go_wp2_with (go_at_call 62; refine (set_calls (ph.tb i.toNat) 0 (ph.rv (4 + 2 * i.toNat)) (s.row (4 + 2 * i.toNat)) a.f1 (rd (s.row (3 + 2 * a.f4.toNat)) (rd (s.row (4 + 2 * i.toNat)) a.f2)) lo w2.drew htc0' ho'.out HT.out.1 HT.out.2).mono ?_; rintro e w3 ⟨rfl, ho2, hg2⟩)
  go_ret
  exact ⟨by rw [HR.out]; rfl, by rw [HR.out]; exact (H2.out.below (below_drew (Below.refl _ w2))).rowChg _ _ (.of_below (below_drew HB2.out)) (setlen ho2) hg2⟩
set_option maxHeartbeats 8000000 in
set_option maxRecDepth 100000 in
theorem share_8 (w : World) {nl : Int} {lo hi fl : Nat} {ph : Ph} {cs : List S49} {nA : Nat} {s : St} (H : MachIn w lo hi fl ph cs nA s) (i : Int) (h0 : 0 ≤ i) (h1 : i < cs.length) (a : S33)
    (ha : okA (s.row (4 + 2 * i.toNat)).length (s.row 0).length nA (s.row 1).length nl a) (k : a.f0 = 8) (hin : 0 ≤ (rd (s.row (4 + 2 * i.toNat)) a.f2) ∧ (rd (s.row (4 + 2 * i.toNat)) a.f2) < (s.row (3 + 2 * a.f4.toNat)).length) :
    Calls Try.prog 45 #[.pointer (some ⟨ph.bm, 0, none⟩), .int .i64 i, actV a] w fun e w' => e = .returned (.int .i64 (shr nA s i a).2) ∧ Left w lo hi fl ph cs nA (shr nA s i a).1 w' := by
  have HH := Aside0.mk H
  have HR : Aside0 (shr nA s i a = (s.setRow (3 + 2 * a.f4.toNat) ((s.row (3 + 2 * a.f4.toNat)).set (rd (s.row (4 + 2 * i.toNat)) a.f2).toNat (rd (s.row (4 + 2 * i.toNat)) a.f3)), 0)) := ⟨by rw [shr, if_neg (by omega), if_neg (by omega), if_pos (by omega), if_pos hin, if_neg (by omega)]⟩
  have HX := Aside0.mk (ha.x (by omega))
  have HG := Aside0.mk (ha.arr (by omega))
  have HI := Aside0.mk hin
  have HY := Aside0.mk (ha.y (by omega))
  have kb5 : (a.f0 == 5) = false := beq_eq_false_iff_ne.mpr (by omega)
  have kb6 : (a.f0 == 6) = false := beq_eq_false_iff_ne.mpr (by omega)
  have kb7 : (a.f0 == 7) = false := beq_eq_false_iff_ne.mpr (by omega)
  have kb8 : (a.f0 == 8) = true := beq_iff_eq.mpr (by omega)
  clear H ha
  go_enter Try.func45, Try.ntmps45
  go_wp2_with (first | ((with_reducible refine gate_dst (N := 5) rfl ?_); refine box_event ?hg (N := 5) ?hd (cs := actC a) (t := 33) ?hr ?_; (case hd => rfl); (case hg => rfl); (case hr => first | (go_simp; done) | (go_simp; rfl)); intro gb hg w1 hbox hb; have HBX := Aside0.mk hbox; have HB := Aside0.mk hb; have H1 := Aside0.mk (HH.out.below hb); have hy0 : w1.cell? ⟨gb, 0, none⟩ = some (.int .i64 a.f0) := (blk_cell hbox 0).trans rfl; have hy1 : w1.cell? ⟨gb, 1, none⟩ = some (.int .i64 a.f1) := (blk_cell hbox 1).trans rfl; have hy2 : w1.cell? ⟨gb, 2, none⟩ = some (.int .i64 a.f2) := (blk_cell hbox 2).trans rfl; have hy3 : w1.cell? ⟨gb, 3, none⟩ = some (.int .i64 a.f3) := (blk_cell hbox 3).trans rfl; have hy4 : w1.cell? ⟨gb, 4, none⟩ = some (.int .i64 a.f4) := (blk_cell hbox 4).trans rfl; have hy5 : w1.cell? ⟨gb, 5, none⟩ = some (.int .i64 a.f5) := (blk_cell hbox 5).trans rfl; have hy6 : w1.cell? ⟨gb, 6, none⟩ = some (.int .i64 a.f6) := (blk_cell hbox 6).trans rfl; have hy7 : w1.cell? ⟨gb, 7, none⟩ = some (.int .i64 a.f7) := (blk_cell hbox 7).trans rfl; have hy8 : w1.cell? ⟨gb, 8, none⟩ = some (.int .i64 a.f8) := (blk_cell hbox 8).trans rfl; have htc0 : w1.cell? ⟨ph.tb i.toNat, 0, none⟩ = some (ph.rv (4 + 2 * i.toNat)) := (blk_cell (H1.out.th i.toNat (by omega)).1 0).trans rfl; obtain ⟨fp, hm1, _⟩ := H1.out.hm; have hm4 : w1.cell? ⟨ph.bm, 4, none⟩ = some ph.hT := (blk_cell hm1 4).trans rfl; have hm5 : w1.cell? ⟨ph.bm, 5, none⟩ = some (ph.rv 0) := (blk_cell hm1 5).trans rfl; have hm7 : w1.cell? ⟨ph.bm, 7, none⟩ = some (ph.rv 1) := (blk_cell hm1 7).trans rfl; obtain ⟨gT, cT, eT, _, hTc⟩ := H1.out.tcell i h0 h1; rw [eT] at hm4; have ho := Aside0.mk (H1.out.rows (4 + 2 * i.toNat)); clear hb hbox hg HH hm1 eT))
  refine wp_region_still_tail 9 (by kernel_rfl) (by kernel_rfl) ?_
  simp only [List.take_succ_cons, List.take_zero, List.drop_succ_cons, List.drop_zero]
  iterate 8 still_step
  still_call (get_calls (ph.tb i.toNat) 0 (ph.rv (4 + 2 * i.toNat)) (s.row (4 + 2 * i.toNat)) a.f2 lo _ htc0 ho.out HX.out.1 HX.out.2)
  refine wpStill_nil ?_
  change wpList _ _ _ _ _ w1.drew
  go_wp2_with fail
  go_at_call 64
  refine (elem_in w1.drew (H1.out.below (below_drew (Below.refl _ w1))) a.f4 (rd (s.row (4 + 2 * i.toNat)) a.f2) HG.out.1 HG.out.2 HI.out.1 HI.out.2).mono ?_
  rintro e w2 ⟨⟨b, cb, eb, rfl⟩, hb2⟩
  have HB2 := Aside0.mk (below_on (below_drew HB.out) hb2)
  have H2 := Aside0.mk ((H1.out.below (below_drew (Below.refl _ w1))).below hb2)
  have hbox2 : w2.heap[gb]? = _ := below_read (w := w1.drew) hb2 HBX.out
  have hz0 : w2.cell? ⟨gb, 0, none⟩ = some (.int .i64 a.f0) := (blk_cell hbox2 0).trans rfl
  have hz1 : w2.cell? ⟨gb, 1, none⟩ = some (.int .i64 a.f1) := (blk_cell hbox2 1).trans rfl
  have hz2 : w2.cell? ⟨gb, 2, none⟩ = some (.int .i64 a.f2) := (blk_cell hbox2 2).trans rfl
  have hz3 : w2.cell? ⟨gb, 3, none⟩ = some (.int .i64 a.f3) := (blk_cell hbox2 3).trans rfl
  have hz4 : w2.cell? ⟨gb, 4, none⟩ = some (.int .i64 a.f4) := (blk_cell hbox2 4).trans rfl
  have hz5 : w2.cell? ⟨gb, 5, none⟩ = some (.int .i64 a.f5) := (blk_cell hbox2 5).trans rfl
  have hz6 : w2.cell? ⟨gb, 6, none⟩ = some (.int .i64 a.f6) := (blk_cell hbox2 6).trans rfl
  have hz7 : w2.cell? ⟨gb, 7, none⟩ = some (.int .i64 a.f7) := (blk_cell hbox2 7).trans rfl
  have hz8 : w2.cell? ⟨gb, 8, none⟩ = some (.int .i64 a.f8) := (blk_cell hbox2 8).trans rfl
  have htc0' : w2.cell? ⟨ph.tb i.toNat, 0, none⟩ = some (ph.rv (4 + 2 * i.toNat)) := (blk_cell (H2.out.th i.toNat (by omega)).1 0).trans rfl
  have ho' := Aside0.mk (H2.out.rows (4 + 2 * i.toNat))
  clear hb2 hbox2 ho htc0 hy0 hy1 hy2 hy3 hy4 hy5 hy6 hy7 hy8 H1 HB HBX hm4 hm5 hm7 hTc
  obtain ⟨g2, c2, e2, hl2, hc2, hf2, _⟩ := own_int (H2.out.rows (3 + 2 * a.f4.toNat)) (rd (s.row (4 + 2 * i.toNat)) a.f2) HI.out.1 HI.out.2
  rw [eb] at e2
  cases e2
  have E0 := Aside0.mk eb
  have HS := Aside0.mk (own_store (W := w2.drew) (x := rd (s.row (4 + 2 * i.toNat)) a.f3) (i := (rd (s.row (4 + 2 * i.toNat)) a.f2)) (eb ▸ H2.out.rows (3 + 2 * a.f4.toNat)))
  clear eb
  go_wp2_with fail
  refine wp_region_still_tail 8 (by kernel_rfl) (by kernel_rfl) ?_
  simp only [List.take_succ_cons, List.take_zero, List.drop_succ_cons, List.drop_zero]
  iterate 6 still_step
  still_call (get_calls (ph.tb i.toNat) 0 (ph.rv (4 + 2 * i.toNat)) (s.row (4 + 2 * i.toNat)) a.f3 lo _ htc0' ho'.out HY.out.1 HY.out.2)
  still_step
  refine wpStill_nil ?_
  change wpList _ _ _ _ _ w2.drew
  go_wp2
  go_ret
  exact ⟨by rw [HR.out]; rfl, by rw [HR.out]; exact (H2.out.below (below_drew (Below.refl _ w2))).rowChg _ _ (.of_below (below_drew HB2.out)) (by rw [E0.out]; exact setlen HS.out.1) (by rw [E0.out]; exact HS.out.2)⟩
set_option maxHeartbeats 8000000 in
set_option maxRecDepth 100000 in
theorem share_7out (w : World) {nl : Int} {lo hi fl : Nat} {ph : Ph} {cs : List S49} {nA : Nat} {s : St} (H : MachIn w lo hi fl ph cs nA s) (i : Int) (h0 : 0 ≤ i) (h1 : i < cs.length) (a : S33)
    (ha : okA (s.row (4 + 2 * i.toNat)).length (s.row 0).length nA (s.row 1).length nl a) (k : a.f0 = 7) (hin : ¬ (0 ≤ (rd (s.row (4 + 2 * i.toNat)) a.f2) ∧ (rd (s.row (4 + 2 * i.toNat)) a.f2) < (s.row (3 + 2 * a.f4.toNat)).length)) :
    Calls Try.prog 45 #[.pointer (some ⟨ph.bm, 0, none⟩), .int .i64 i, actV a] w fun e w' => e = .returned (.int .i64 (shr nA s i a).2) ∧ Left w lo hi fl ph cs nA (shr nA s i a).1 w' := by
  have HH := Aside0.mk H
  have HR : Aside0 (shr nA s i a = (s, 9)) := ⟨by rw [shr, if_neg (by omega), if_neg (by omega), if_pos (by omega), if_neg hin]⟩
  have HX := Aside0.mk (ha.x (by omega))
  have HG := Aside0.mk (ha.arr (by omega))
  have HI := Aside0.mk hin
  have kb5 : (a.f0 == 5) = false := beq_eq_false_iff_ne.mpr (by omega)
  have kb6 : (a.f0 == 6) = false := beq_eq_false_iff_ne.mpr (by omega)
  have kb7 : (a.f0 == 7) = true := beq_iff_eq.mpr (by omega)
  clear H ha
  go_enter Try.func45, Try.ntmps45
  go_wp2_with (first | ((with_reducible refine gate_dst (N := 5) rfl ?_); refine box_event ?hg (N := 5) ?hd (cs := actC a) (t := 33) ?hr ?_; (case hd => rfl); (case hg => rfl); (case hr => first | (go_simp; done) | (go_simp; rfl)); intro gb hg w1 hbox hb; have HBX := Aside0.mk hbox; have HB := Aside0.mk hb; have H1 := Aside0.mk (HH.out.below hb); have hy0 : w1.cell? ⟨gb, 0, none⟩ = some (.int .i64 a.f0) := (blk_cell hbox 0).trans rfl; have hy1 : w1.cell? ⟨gb, 1, none⟩ = some (.int .i64 a.f1) := (blk_cell hbox 1).trans rfl; have hy2 : w1.cell? ⟨gb, 2, none⟩ = some (.int .i64 a.f2) := (blk_cell hbox 2).trans rfl; have hy3 : w1.cell? ⟨gb, 3, none⟩ = some (.int .i64 a.f3) := (blk_cell hbox 3).trans rfl; have hy4 : w1.cell? ⟨gb, 4, none⟩ = some (.int .i64 a.f4) := (blk_cell hbox 4).trans rfl; have hy5 : w1.cell? ⟨gb, 5, none⟩ = some (.int .i64 a.f5) := (blk_cell hbox 5).trans rfl; have hy6 : w1.cell? ⟨gb, 6, none⟩ = some (.int .i64 a.f6) := (blk_cell hbox 6).trans rfl; have hy7 : w1.cell? ⟨gb, 7, none⟩ = some (.int .i64 a.f7) := (blk_cell hbox 7).trans rfl; have hy8 : w1.cell? ⟨gb, 8, none⟩ = some (.int .i64 a.f8) := (blk_cell hbox 8).trans rfl; have htc0 : w1.cell? ⟨ph.tb i.toNat, 0, none⟩ = some (ph.rv (4 + 2 * i.toNat)) := (blk_cell (H1.out.th i.toNat (by omega)).1 0).trans rfl; obtain ⟨fp, hm1, _⟩ := H1.out.hm; have hm4 : w1.cell? ⟨ph.bm, 4, none⟩ = some ph.hT := (blk_cell hm1 4).trans rfl; have hm5 : w1.cell? ⟨ph.bm, 5, none⟩ = some (ph.rv 0) := (blk_cell hm1 5).trans rfl; have hm7 : w1.cell? ⟨ph.bm, 7, none⟩ = some (ph.rv 1) := (blk_cell hm1 7).trans rfl; obtain ⟨gT, cT, eT, _, hTc⟩ := H1.out.tcell i h0 h1; rw [eT] at hm4; have ho := Aside0.mk (H1.out.rows (4 + 2 * i.toNat)); clear hb hbox hg HH hm1 eT))
  refine wp_region_still_tail 9 (by kernel_rfl) (by kernel_rfl) ?_
  simp only [List.take_succ_cons, List.take_zero, List.drop_succ_cons, List.drop_zero]
  iterate 8 still_step
  still_call (get_calls (ph.tb i.toNat) 0 (ph.rv (4 + 2 * i.toNat)) (s.row (4 + 2 * i.toNat)) a.f2 lo _ htc0 ho.out HX.out.1 HX.out.2)
  refine wpStill_nil ?_
  change wpList _ _ _ _ _ w1.drew
  go_wp2_with fail
  go_at_call 64
  refine (elem_out w1.drew (H1.out.below (below_drew (Below.refl _ w1))) a.f4 (rd (s.row (4 + 2 * i.toNat)) a.f2) HG.out.1 HG.out.2 HI.out).mono ?_
  rintro e w2 ⟨rfl, hb2⟩
  have HB2 := Aside0.mk (below_on (below_drew HB.out) hb2)
  have H2 := Aside0.mk ((H1.out.below (below_drew (Below.refl _ w1))).below hb2)
  have hbox2 : w2.heap[gb]? = _ := below_read (w := w1.drew) hb2 HBX.out
  have hz0 : w2.cell? ⟨gb, 0, none⟩ = some (.int .i64 a.f0) := (blk_cell hbox2 0).trans rfl
  have hz1 : w2.cell? ⟨gb, 1, none⟩ = some (.int .i64 a.f1) := (blk_cell hbox2 1).trans rfl
  have hz2 : w2.cell? ⟨gb, 2, none⟩ = some (.int .i64 a.f2) := (blk_cell hbox2 2).trans rfl
  have hz3 : w2.cell? ⟨gb, 3, none⟩ = some (.int .i64 a.f3) := (blk_cell hbox2 3).trans rfl
  have hz4 : w2.cell? ⟨gb, 4, none⟩ = some (.int .i64 a.f4) := (blk_cell hbox2 4).trans rfl
  have hz5 : w2.cell? ⟨gb, 5, none⟩ = some (.int .i64 a.f5) := (blk_cell hbox2 5).trans rfl
  have hz6 : w2.cell? ⟨gb, 6, none⟩ = some (.int .i64 a.f6) := (blk_cell hbox2 6).trans rfl
  have hz7 : w2.cell? ⟨gb, 7, none⟩ = some (.int .i64 a.f7) := (blk_cell hbox2 7).trans rfl
  have hz8 : w2.cell? ⟨gb, 8, none⟩ = some (.int .i64 a.f8) := (blk_cell hbox2 8).trans rfl
  have htc0' : w2.cell? ⟨ph.tb i.toNat, 0, none⟩ = some (ph.rv (4 + 2 * i.toNat)) := (blk_cell (H2.out.th i.toNat (by omega)).1 0).trans rfl
  have ho' := Aside0.mk (H2.out.rows (4 + 2 * i.toNat))
  clear hb2 hbox2 ho htc0 hy0 hy1 hy2 hy3 hy4 hy5 hy6 hy7 hy8 H1 HB HBX hm4 hm5 hm7 hTc
  clear HI
  go_wp2
  go_ret
  exact ⟨by rw [HR.out]; rfl, by rw [HR.out]; exact ⟨H2.out, .of_below HB2.out⟩⟩
set_option maxHeartbeats 8000000 in
set_option maxRecDepth 100000 in
theorem share_8out (w : World) {nl : Int} {lo hi fl : Nat} {ph : Ph} {cs : List S49} {nA : Nat} {s : St} (H : MachIn w lo hi fl ph cs nA s) (i : Int) (h0 : 0 ≤ i) (h1 : i < cs.length) (a : S33)
    (ha : okA (s.row (4 + 2 * i.toNat)).length (s.row 0).length nA (s.row 1).length nl a) (k : a.f0 = 8) (hin : ¬ (0 ≤ (rd (s.row (4 + 2 * i.toNat)) a.f2) ∧ (rd (s.row (4 + 2 * i.toNat)) a.f2) < (s.row (3 + 2 * a.f4.toNat)).length)) :
    Calls Try.prog 45 #[.pointer (some ⟨ph.bm, 0, none⟩), .int .i64 i, actV a] w fun e w' => e = .returned (.int .i64 (shr nA s i a).2) ∧ Left w lo hi fl ph cs nA (shr nA s i a).1 w' := by
  have HH := Aside0.mk H
  have HR : Aside0 (shr nA s i a = (s, 9)) := ⟨by rw [shr, if_neg (by omega), if_neg (by omega), if_pos (by omega), if_neg hin]⟩
  have HX := Aside0.mk (ha.x (by omega))
  have HG := Aside0.mk (ha.arr (by omega))
  have HI := Aside0.mk hin
  have kb5 : (a.f0 == 5) = false := beq_eq_false_iff_ne.mpr (by omega)
  have kb6 : (a.f0 == 6) = false := beq_eq_false_iff_ne.mpr (by omega)
  have kb7 : (a.f0 == 7) = false := beq_eq_false_iff_ne.mpr (by omega)
  have kb8 : (a.f0 == 8) = true := beq_iff_eq.mpr (by omega)
  clear H ha
  go_enter Try.func45, Try.ntmps45
  go_wp2_with (first | ((with_reducible refine gate_dst (N := 5) rfl ?_); refine box_event ?hg (N := 5) ?hd (cs := actC a) (t := 33) ?hr ?_; (case hd => rfl); (case hg => rfl); (case hr => first | (go_simp; done) | (go_simp; rfl)); intro gb hg w1 hbox hb; have HBX := Aside0.mk hbox; have HB := Aside0.mk hb; have H1 := Aside0.mk (HH.out.below hb); have hy0 : w1.cell? ⟨gb, 0, none⟩ = some (.int .i64 a.f0) := (blk_cell hbox 0).trans rfl; have hy1 : w1.cell? ⟨gb, 1, none⟩ = some (.int .i64 a.f1) := (blk_cell hbox 1).trans rfl; have hy2 : w1.cell? ⟨gb, 2, none⟩ = some (.int .i64 a.f2) := (blk_cell hbox 2).trans rfl; have hy3 : w1.cell? ⟨gb, 3, none⟩ = some (.int .i64 a.f3) := (blk_cell hbox 3).trans rfl; have hy4 : w1.cell? ⟨gb, 4, none⟩ = some (.int .i64 a.f4) := (blk_cell hbox 4).trans rfl; have hy5 : w1.cell? ⟨gb, 5, none⟩ = some (.int .i64 a.f5) := (blk_cell hbox 5).trans rfl; have hy6 : w1.cell? ⟨gb, 6, none⟩ = some (.int .i64 a.f6) := (blk_cell hbox 6).trans rfl; have hy7 : w1.cell? ⟨gb, 7, none⟩ = some (.int .i64 a.f7) := (blk_cell hbox 7).trans rfl; have hy8 : w1.cell? ⟨gb, 8, none⟩ = some (.int .i64 a.f8) := (blk_cell hbox 8).trans rfl; have htc0 : w1.cell? ⟨ph.tb i.toNat, 0, none⟩ = some (ph.rv (4 + 2 * i.toNat)) := (blk_cell (H1.out.th i.toNat (by omega)).1 0).trans rfl; obtain ⟨fp, hm1, _⟩ := H1.out.hm; have hm4 : w1.cell? ⟨ph.bm, 4, none⟩ = some ph.hT := (blk_cell hm1 4).trans rfl; have hm5 : w1.cell? ⟨ph.bm, 5, none⟩ = some (ph.rv 0) := (blk_cell hm1 5).trans rfl; have hm7 : w1.cell? ⟨ph.bm, 7, none⟩ = some (ph.rv 1) := (blk_cell hm1 7).trans rfl; obtain ⟨gT, cT, eT, _, hTc⟩ := H1.out.tcell i h0 h1; rw [eT] at hm4; have ho := Aside0.mk (H1.out.rows (4 + 2 * i.toNat)); clear hb hbox hg HH hm1 eT))
  refine wp_region_still_tail 9 (by kernel_rfl) (by kernel_rfl) ?_
  simp only [List.take_succ_cons, List.take_zero, List.drop_succ_cons, List.drop_zero]
  iterate 8 still_step
  still_call (get_calls (ph.tb i.toNat) 0 (ph.rv (4 + 2 * i.toNat)) (s.row (4 + 2 * i.toNat)) a.f2 lo _ htc0 ho.out HX.out.1 HX.out.2)
  refine wpStill_nil ?_
  change wpList _ _ _ _ _ w1.drew
  go_wp2_with fail
  go_at_call 64
  refine (elem_out w1.drew (H1.out.below (below_drew (Below.refl _ w1))) a.f4 (rd (s.row (4 + 2 * i.toNat)) a.f2) HG.out.1 HG.out.2 HI.out).mono ?_
  rintro e w2 ⟨rfl, hb2⟩
  have HB2 := Aside0.mk (below_on (below_drew HB.out) hb2)
  have H2 := Aside0.mk ((H1.out.below (below_drew (Below.refl _ w1))).below hb2)
  have hbox2 : w2.heap[gb]? = _ := below_read (w := w1.drew) hb2 HBX.out
  have hz0 : w2.cell? ⟨gb, 0, none⟩ = some (.int .i64 a.f0) := (blk_cell hbox2 0).trans rfl
  have hz1 : w2.cell? ⟨gb, 1, none⟩ = some (.int .i64 a.f1) := (blk_cell hbox2 1).trans rfl
  have hz2 : w2.cell? ⟨gb, 2, none⟩ = some (.int .i64 a.f2) := (blk_cell hbox2 2).trans rfl
  have hz3 : w2.cell? ⟨gb, 3, none⟩ = some (.int .i64 a.f3) := (blk_cell hbox2 3).trans rfl
  have hz4 : w2.cell? ⟨gb, 4, none⟩ = some (.int .i64 a.f4) := (blk_cell hbox2 4).trans rfl
  have hz5 : w2.cell? ⟨gb, 5, none⟩ = some (.int .i64 a.f5) := (blk_cell hbox2 5).trans rfl
  have hz6 : w2.cell? ⟨gb, 6, none⟩ = some (.int .i64 a.f6) := (blk_cell hbox2 6).trans rfl
  have hz7 : w2.cell? ⟨gb, 7, none⟩ = some (.int .i64 a.f7) := (blk_cell hbox2 7).trans rfl
  have hz8 : w2.cell? ⟨gb, 8, none⟩ = some (.int .i64 a.f8) := (blk_cell hbox2 8).trans rfl
  have htc0' : w2.cell? ⟨ph.tb i.toNat, 0, none⟩ = some (ph.rv (4 + 2 * i.toNat)) := (blk_cell (H2.out.th i.toNat (by omega)).1 0).trans rfl
  have ho' := Aside0.mk (H2.out.rows (4 + 2 * i.toNat))
  clear hb2 hbox2 ho htc0 hy0 hy1 hy2 hy3 hy4 hy5 hy6 hy7 hy8 H1 HB HBX hm4 hm5 hm7 hTc
  clear HI
  go_wp2
  go_ret
  exact ⟨by rw [HR.out]; rfl, by rw [HR.out]; exact ⟨H2.out, .of_below HB2.out⟩⟩
set_option maxHeartbeats 8000000 in
set_option maxRecDepth 100000 in
theorem share_9own (w : World) {nl : Int} {lo hi fl : Nat} {ph : Ph} {cs : List S49} {nA : Nat} {s : St} (H : MachIn w lo hi fl ph cs nA s) (i : Int) (h0 : 0 ≤ i) (h1 : i < cs.length) (a : S33)
    (ha : okA (s.row (4 + 2 * i.toNat)).length (s.row 0).length nA (s.row 1).length nl a) (k : a.f0 = 9) (hown : rd (s.row 1) a.f4 = i) :
    Calls Try.prog 45 #[.pointer (some ⟨ph.bm, 0, none⟩), .int .i64 i, actV a] w fun e w' => e = .returned (.int .i64 (shr nA s i a).2) ∧ Left w lo hi fl ph cs nA (shr nA s i a).1 w' := by
  have HH := Aside0.mk H
  have HR : Aside0 (shr nA s i a = (s, 11)) := ⟨by rw [shr, if_neg (by omega), if_neg (by omega), if_neg (by omega), if_pos k, if_pos hown]⟩
  obtain ⟨hg0, hg1⟩ := ha.mx (by omega)
  have kow : (rd (s.row 1) a.f4 == i) = true := beq_iff_eq.mpr hown
  have kno : (rd (s.row 1) a.f4 != i) = false := bne_eq_false_iff_eq.mpr hown
  clear hown
  have kb5 : (a.f0 == 5) = false := beq_eq_false_iff_ne.mpr (by omega)
  have kb6 : (a.f0 == 6) = false := beq_eq_false_iff_ne.mpr (by omega)
  have kb7 : (a.f0 == 7) = false := beq_eq_false_iff_ne.mpr (by omega)
  have kb8 : (a.f0 == 8) = false := beq_eq_false_iff_ne.mpr (by omega)
  have kb9 : (a.f0 == 9) = true := beq_iff_eq.mpr (by omega)
  clear H ha
  go_enter Try.func45, Try.ntmps45
  go_wp2_with (first | ((with_reducible refine gate_dst (N := 5) rfl ?_); refine box_event ?hg (N := 5) ?hd (cs := actC a) (t := 33) ?hr ?_; (case hd => rfl); (case hg => rfl); (case hr => first | (go_simp; done) | (go_simp; rfl)); intro gb hg w1 hbox hb; have HBX := Aside0.mk hbox; have HB := Aside0.mk hb; have H1 := Aside0.mk (HH.out.below hb); have hy0 : w1.cell? ⟨gb, 0, none⟩ = some (.int .i64 a.f0) := (blk_cell hbox 0).trans rfl; have hy1 : w1.cell? ⟨gb, 1, none⟩ = some (.int .i64 a.f1) := (blk_cell hbox 1).trans rfl; have hy2 : w1.cell? ⟨gb, 2, none⟩ = some (.int .i64 a.f2) := (blk_cell hbox 2).trans rfl; have hy3 : w1.cell? ⟨gb, 3, none⟩ = some (.int .i64 a.f3) := (blk_cell hbox 3).trans rfl; have hy4 : w1.cell? ⟨gb, 4, none⟩ = some (.int .i64 a.f4) := (blk_cell hbox 4).trans rfl; have hy5 : w1.cell? ⟨gb, 5, none⟩ = some (.int .i64 a.f5) := (blk_cell hbox 5).trans rfl; have hy6 : w1.cell? ⟨gb, 6, none⟩ = some (.int .i64 a.f6) := (blk_cell hbox 6).trans rfl; have hy7 : w1.cell? ⟨gb, 7, none⟩ = some (.int .i64 a.f7) := (blk_cell hbox 7).trans rfl; have hy8 : w1.cell? ⟨gb, 8, none⟩ = some (.int .i64 a.f8) := (blk_cell hbox 8).trans rfl; have htc0 : w1.cell? ⟨ph.tb i.toNat, 0, none⟩ = some (ph.rv (4 + 2 * i.toNat)) := (blk_cell (H1.out.th i.toNat (by omega)).1 0).trans rfl; obtain ⟨fp, hm1, _⟩ := H1.out.hm; have hm4 : w1.cell? ⟨ph.bm, 4, none⟩ = some ph.hT := (blk_cell hm1 4).trans rfl; have hm5 : w1.cell? ⟨ph.bm, 5, none⟩ = some (ph.rv 0) := (blk_cell hm1 5).trans rfl; have hm7 : w1.cell? ⟨ph.bm, 7, none⟩ = some (ph.rv 1) := (blk_cell hm1 7).trans rfl; obtain ⟨gT, cT, eT, _, hTc⟩ := H1.out.tcell i h0 h1; rw [eT] at hm4; have ho := Aside0.mk (H1.out.rows (4 + 2 * i.toNat)); obtain ⟨g1, c1, e1, hl1, hc1, hf1, _⟩ := own_int (H1.out.rows 1) a.f4 hg0 hg1; rw [e1] at hm7; have E0 := Aside0.mk e1; clear e1; clear hb hbox hg HH hm1 eT))
  go_quiet (fail)
  go_wp2
  go_ret
  exact ⟨by rw [HR.out]; rfl, by rw [HR.out]; exact ⟨H1.out.below (pw_below_drewN (Below.refl _ w1) _), .of_below (pw_below_drewN HB.out _)⟩⟩
set_option maxHeartbeats 8000000 in
set_option maxRecDepth 100000 in
theorem share_9free (w : World) {nl : Int} {lo hi fl : Nat} {ph : Ph} {cs : List S49} {nA : Nat} {s : St} (H : MachIn w lo hi fl ph cs nA s) (i : Int) (h0 : 0 ≤ i) (h1 : i < cs.length) (a : S33)
    (ha : okA (s.row (4 + 2 * i.toNat)).length (s.row 0).length nA (s.row 1).length nl a) (k : a.f0 = 9) (hown : ¬ rd (s.row 1) a.f4 = i) :
    Calls Try.prog 45 #[.pointer (some ⟨ph.bm, 0, none⟩), .int .i64 i, actV a] w fun e w' => e = .returned (.int .i64 (shr nA s i a).2) ∧ Left w lo hi fl ph cs nA (shr nA s i a).1 w' := by
  have HH := Aside0.mk H
  have HR : Aside0 (shr nA s i a = (s.setRow 1 ((s.row 1).set a.f4.toNat i), 0)) := ⟨by rw [shr, if_neg (by omega), if_neg (by omega), if_neg (by omega), if_pos k, if_neg hown]⟩
  obtain ⟨hg0, hg1⟩ := ha.mx (by omega)
  have kow : (rd (s.row 1) a.f4 == i) = false := beq_eq_false_iff_ne.mpr hown
  have kno : (rd (s.row 1) a.f4 != i) = true := bne_iff_ne.mpr hown
  clear hown
  have kb5 : (a.f0 == 5) = false := beq_eq_false_iff_ne.mpr (by omega)
  have kb6 : (a.f0 == 6) = false := beq_eq_false_iff_ne.mpr (by omega)
  have kb7 : (a.f0 == 7) = false := beq_eq_false_iff_ne.mpr (by omega)
  have kb8 : (a.f0 == 8) = false := beq_eq_false_iff_ne.mpr (by omega)
  have kb9 : (a.f0 == 9) = true := beq_iff_eq.mpr (by omega)
  clear H ha
  go_enter Try.func45, Try.ntmps45
  go_wp2_with (first | ((with_reducible refine gate_dst (N := 5) rfl ?_); refine box_event ?hg (N := 5) ?hd (cs := actC a) (t := 33) ?hr ?_; (case hd => rfl); (case hg => rfl); (case hr => first | (go_simp; done) | (go_simp; rfl)); intro gb hg w1 hbox hb; have HBX := Aside0.mk hbox; have HB := Aside0.mk hb; have H1 := Aside0.mk (HH.out.below hb); have hy0 : w1.cell? ⟨gb, 0, none⟩ = some (.int .i64 a.f0) := (blk_cell hbox 0).trans rfl; have hy1 : w1.cell? ⟨gb, 1, none⟩ = some (.int .i64 a.f1) := (blk_cell hbox 1).trans rfl; have hy2 : w1.cell? ⟨gb, 2, none⟩ = some (.int .i64 a.f2) := (blk_cell hbox 2).trans rfl; have hy3 : w1.cell? ⟨gb, 3, none⟩ = some (.int .i64 a.f3) := (blk_cell hbox 3).trans rfl; have hy4 : w1.cell? ⟨gb, 4, none⟩ = some (.int .i64 a.f4) := (blk_cell hbox 4).trans rfl; have hy5 : w1.cell? ⟨gb, 5, none⟩ = some (.int .i64 a.f5) := (blk_cell hbox 5).trans rfl; have hy6 : w1.cell? ⟨gb, 6, none⟩ = some (.int .i64 a.f6) := (blk_cell hbox 6).trans rfl; have hy7 : w1.cell? ⟨gb, 7, none⟩ = some (.int .i64 a.f7) := (blk_cell hbox 7).trans rfl; have hy8 : w1.cell? ⟨gb, 8, none⟩ = some (.int .i64 a.f8) := (blk_cell hbox 8).trans rfl; have htc0 : w1.cell? ⟨ph.tb i.toNat, 0, none⟩ = some (ph.rv (4 + 2 * i.toNat)) := (blk_cell (H1.out.th i.toNat (by omega)).1 0).trans rfl; obtain ⟨fp, hm1, _⟩ := H1.out.hm; have hm4 : w1.cell? ⟨ph.bm, 4, none⟩ = some ph.hT := (blk_cell hm1 4).trans rfl; have hm5 : w1.cell? ⟨ph.bm, 5, none⟩ = some (ph.rv 0) := (blk_cell hm1 5).trans rfl; have hm7 : w1.cell? ⟨ph.bm, 7, none⟩ = some (ph.rv 1) := (blk_cell hm1 7).trans rfl; obtain ⟨gT, cT, eT, _, hTc⟩ := H1.out.tcell i h0 h1; rw [eT] at hm4; have ho := Aside0.mk (H1.out.rows (4 + 2 * i.toNat)); obtain ⟨g1, c1, e1, hl1, hc1, hf1, _⟩ := own_int (H1.out.rows 1) a.f4 hg0 hg1; rw [e1] at hm7; have E0 := Aside0.mk e1; clear e1; clear hb hbox hg HH hm1 eT))
  go_quiet (fail)
  have q7 : (w1.drewN nq).cell? ⟨ph.bm, 7, none⟩ = _ := hm7
  have q4 : (w1.drewN nq).cell? ⟨gb, 4, none⟩ = _ := hy4
  have qc : (w1.drewN nq).cell? ⟨g1, a.f4.toNat, none⟩ = _ := hc1
  have qf : (w1.drewN nq).frozen? ⟨g1, a.f4.toNat, none⟩ = _ := hf1
  have Q1 := Aside0.mk (H1.out.below (pw_below_drewN (Below.refl _ w1) nq))
  have QB := Aside0.mk (pw_below_drewN HB.out nq)
  clear H1 HB HBX hy0 hy1 hy2 hy3 hy4 hy5 hy6 hy7 hy8 htc0 ho hm4 hm5 hm7 hTc hc1 hf1
  generalize w1.drewN nq = w2 at *
  go_wp2_with fail
  go_still_tail 8, (by kernel_rfl)
  change wpList _ _ _ _ _ w2.drew
  have HS := Aside0.mk (own_store (W := w2.drew) (x := i) (i := a.f4) (E0.out ▸ Q1.out.rows 1))
  go_wp2
  go_ret
  exact ⟨by rw [HR.out]; rfl, by rw [HR.out]; exact (Q1.out.below (below_drew (Below.refl _ w2))).rowChg _ _ (.of_below (below_drew QB.out)) (by rw [E0.out]; exact setlen HS.out.1) (by rw [E0.out]; exact HS.out.2)⟩
set_option maxHeartbeats 8000000 in
set_option maxRecDepth 100000 in
theorem share_10own (w : World) {nl : Int} {lo hi fl : Nat} {ph : Ph} {cs : List S49} {nA : Nat} {s : St} (H : MachIn w lo hi fl ph cs nA s) (i : Int) (h0 : 0 ≤ i) (h1 : i < cs.length) (a : S33)
    (ha : okA (s.row (4 + 2 * i.toNat)).length (s.row 0).length nA (s.row 1).length nl a) (k : a.f0 = 10) (hown : rd (s.row 1) a.f4 = i) :
    Calls Try.prog 45 #[.pointer (some ⟨ph.bm, 0, none⟩), .int .i64 i, actV a] w fun e w' => e = .returned (.int .i64 (shr nA s i a).2) ∧ Left w lo hi fl ph cs nA (shr nA s i a).1 w' := by
  have HH := Aside0.mk H
  have HR : Aside0 (shr nA s i a = (s.setRow 1 ((s.row 1).set a.f4.toNat (-1)), 0)) := ⟨by rw [shr, if_neg (by omega), if_neg (by omega), if_neg (by omega), if_neg (by omega), if_pos k, if_pos hown]⟩
  obtain ⟨hg0, hg1⟩ := ha.mx (by omega)
  have kow : (rd (s.row 1) a.f4 == i) = true := beq_iff_eq.mpr hown
  have kno : (rd (s.row 1) a.f4 != i) = false := bne_eq_false_iff_eq.mpr hown
  clear hown
  have kb5 : (a.f0 == 5) = false := beq_eq_false_iff_ne.mpr (by omega)
  have kb6 : (a.f0 == 6) = false := beq_eq_false_iff_ne.mpr (by omega)
  have kb7 : (a.f0 == 7) = false := beq_eq_false_iff_ne.mpr (by omega)
  have kb8 : (a.f0 == 8) = false := beq_eq_false_iff_ne.mpr (by omega)
  have kb9 : (a.f0 == 9) = false := beq_eq_false_iff_ne.mpr (by omega)
  have kb10 : (a.f0 == 10) = true := beq_iff_eq.mpr (by omega)
  clear H ha
  go_enter Try.func45, Try.ntmps45
  go_wp2_with (first | ((with_reducible refine gate_dst (N := 5) rfl ?_); refine box_event ?hg (N := 5) ?hd (cs := actC a) (t := 33) ?hr ?_; (case hd => rfl); (case hg => rfl); (case hr => first | (go_simp; done) | (go_simp; rfl)); intro gb hg w1 hbox hb; have HBX := Aside0.mk hbox; have HB := Aside0.mk hb; have H1 := Aside0.mk (HH.out.below hb); have hy0 : w1.cell? ⟨gb, 0, none⟩ = some (.int .i64 a.f0) := (blk_cell hbox 0).trans rfl; have hy1 : w1.cell? ⟨gb, 1, none⟩ = some (.int .i64 a.f1) := (blk_cell hbox 1).trans rfl; have hy2 : w1.cell? ⟨gb, 2, none⟩ = some (.int .i64 a.f2) := (blk_cell hbox 2).trans rfl; have hy3 : w1.cell? ⟨gb, 3, none⟩ = some (.int .i64 a.f3) := (blk_cell hbox 3).trans rfl; have hy4 : w1.cell? ⟨gb, 4, none⟩ = some (.int .i64 a.f4) := (blk_cell hbox 4).trans rfl; have hy5 : w1.cell? ⟨gb, 5, none⟩ = some (.int .i64 a.f5) := (blk_cell hbox 5).trans rfl; have hy6 : w1.cell? ⟨gb, 6, none⟩ = some (.int .i64 a.f6) := (blk_cell hbox 6).trans rfl; have hy7 : w1.cell? ⟨gb, 7, none⟩ = some (.int .i64 a.f7) := (blk_cell hbox 7).trans rfl; have hy8 : w1.cell? ⟨gb, 8, none⟩ = some (.int .i64 a.f8) := (blk_cell hbox 8).trans rfl; have htc0 : w1.cell? ⟨ph.tb i.toNat, 0, none⟩ = some (ph.rv (4 + 2 * i.toNat)) := (blk_cell (H1.out.th i.toNat (by omega)).1 0).trans rfl; obtain ⟨fp, hm1, _⟩ := H1.out.hm; have hm4 : w1.cell? ⟨ph.bm, 4, none⟩ = some ph.hT := (blk_cell hm1 4).trans rfl; have hm5 : w1.cell? ⟨ph.bm, 5, none⟩ = some (ph.rv 0) := (blk_cell hm1 5).trans rfl; have hm7 : w1.cell? ⟨ph.bm, 7, none⟩ = some (ph.rv 1) := (blk_cell hm1 7).trans rfl; obtain ⟨gT, cT, eT, _, hTc⟩ := H1.out.tcell i h0 h1; rw [eT] at hm4; have ho := Aside0.mk (H1.out.rows (4 + 2 * i.toNat)); obtain ⟨g1, c1, e1, hl1, hc1, hf1, _⟩ := own_int (H1.out.rows 1) a.f4 hg0 hg1; rw [e1] at hm7; have E0 := Aside0.mk e1; clear e1; clear hb hbox hg HH hm1 eT))
  go_quiet (fail)
  have q7 : (w1.drewN nq).cell? ⟨ph.bm, 7, none⟩ = _ := hm7
  have q4 : (w1.drewN nq).cell? ⟨gb, 4, none⟩ = _ := hy4
  have qc : (w1.drewN nq).cell? ⟨g1, a.f4.toNat, none⟩ = _ := hc1
  have qf : (w1.drewN nq).frozen? ⟨g1, a.f4.toNat, none⟩ = _ := hf1
  have Q1 := Aside0.mk (H1.out.below (pw_below_drewN (Below.refl _ w1) nq))
  have QB := Aside0.mk (pw_below_drewN HB.out nq)
  clear H1 HB HBX hy0 hy1 hy2 hy3 hy4 hy5 hy6 hy7 hy8 htc0 ho hm4 hm5 hm7 hTc hc1 hf1
  generalize w1.drewN nq = w2 at *
  go_wp2_with fail
  go_still_tail 7, (by kernel_rfl)
  change wpList _ _ _ _ _ w2.drew
  have HS := Aside0.mk (own_store (W := w2.drew) (x := -1) (i := a.f4) (E0.out ▸ Q1.out.rows 1))
  go_wp2
  go_ret
  exact ⟨by rw [HR.out]; rfl, by rw [HR.out]; exact (Q1.out.below (below_drew (Below.refl _ w2))).rowChg _ _ (.of_below (below_drew QB.out)) (by rw [E0.out]; exact setlen HS.out.1) (by rw [E0.out]; exact HS.out.2)⟩
set_option maxHeartbeats 8000000 in
set_option maxRecDepth 100000 in
theorem share_10not (w : World) {nl : Int} {lo hi fl : Nat} {ph : Ph} {cs : List S49} {nA : Nat} {s : St} (H : MachIn w lo hi fl ph cs nA s) (i : Int) (h0 : 0 ≤ i) (h1 : i < cs.length) (a : S33)
    (ha : okA (s.row (4 + 2 * i.toNat)).length (s.row 0).length nA (s.row 1).length nl a) (k : a.f0 = 10) (hown : ¬ rd (s.row 1) a.f4 = i) :
    Calls Try.prog 45 #[.pointer (some ⟨ph.bm, 0, none⟩), .int .i64 i, actV a] w fun e w' => e = .returned (.int .i64 (shr nA s i a).2) ∧ Left w lo hi fl ph cs nA (shr nA s i a).1 w' := by
  have HH := Aside0.mk H
  have HR : Aside0 (shr nA s i a = (s, 12)) := ⟨by rw [shr, if_neg (by omega), if_neg (by omega), if_neg (by omega), if_neg (by omega), if_pos k, if_neg hown]⟩
  obtain ⟨hg0, hg1⟩ := ha.mx (by omega)
  have kow : (rd (s.row 1) a.f4 == i) = false := beq_eq_false_iff_ne.mpr hown
  have kno : (rd (s.row 1) a.f4 != i) = true := bne_iff_ne.mpr hown
  clear hown
  have kb5 : (a.f0 == 5) = false := beq_eq_false_iff_ne.mpr (by omega)
  have kb6 : (a.f0 == 6) = false := beq_eq_false_iff_ne.mpr (by omega)
  have kb7 : (a.f0 == 7) = false := beq_eq_false_iff_ne.mpr (by omega)
  have kb8 : (a.f0 == 8) = false := beq_eq_false_iff_ne.mpr (by omega)
  have kb9 : (a.f0 == 9) = false := beq_eq_false_iff_ne.mpr (by omega)
  have kb10 : (a.f0 == 10) = true := beq_iff_eq.mpr (by omega)
  clear H ha
  go_enter Try.func45, Try.ntmps45
  go_wp2_with (first | ((with_reducible refine gate_dst (N := 5) rfl ?_); refine box_event ?hg (N := 5) ?hd (cs := actC a) (t := 33) ?hr ?_; (case hd => rfl); (case hg => rfl); (case hr => first | (go_simp; done) | (go_simp; rfl)); intro gb hg w1 hbox hb; have HBX := Aside0.mk hbox; have HB := Aside0.mk hb; have H1 := Aside0.mk (HH.out.below hb); have hy0 : w1.cell? ⟨gb, 0, none⟩ = some (.int .i64 a.f0) := (blk_cell hbox 0).trans rfl; have hy1 : w1.cell? ⟨gb, 1, none⟩ = some (.int .i64 a.f1) := (blk_cell hbox 1).trans rfl; have hy2 : w1.cell? ⟨gb, 2, none⟩ = some (.int .i64 a.f2) := (blk_cell hbox 2).trans rfl; have hy3 : w1.cell? ⟨gb, 3, none⟩ = some (.int .i64 a.f3) := (blk_cell hbox 3).trans rfl; have hy4 : w1.cell? ⟨gb, 4, none⟩ = some (.int .i64 a.f4) := (blk_cell hbox 4).trans rfl; have hy5 : w1.cell? ⟨gb, 5, none⟩ = some (.int .i64 a.f5) := (blk_cell hbox 5).trans rfl; have hy6 : w1.cell? ⟨gb, 6, none⟩ = some (.int .i64 a.f6) := (blk_cell hbox 6).trans rfl; have hy7 : w1.cell? ⟨gb, 7, none⟩ = some (.int .i64 a.f7) := (blk_cell hbox 7).trans rfl; have hy8 : w1.cell? ⟨gb, 8, none⟩ = some (.int .i64 a.f8) := (blk_cell hbox 8).trans rfl; have htc0 : w1.cell? ⟨ph.tb i.toNat, 0, none⟩ = some (ph.rv (4 + 2 * i.toNat)) := (blk_cell (H1.out.th i.toNat (by omega)).1 0).trans rfl; obtain ⟨fp, hm1, _⟩ := H1.out.hm; have hm4 : w1.cell? ⟨ph.bm, 4, none⟩ = some ph.hT := (blk_cell hm1 4).trans rfl; have hm5 : w1.cell? ⟨ph.bm, 5, none⟩ = some (ph.rv 0) := (blk_cell hm1 5).trans rfl; have hm7 : w1.cell? ⟨ph.bm, 7, none⟩ = some (ph.rv 1) := (blk_cell hm1 7).trans rfl; obtain ⟨gT, cT, eT, _, hTc⟩ := H1.out.tcell i h0 h1; rw [eT] at hm4; have ho := Aside0.mk (H1.out.rows (4 + 2 * i.toNat)); obtain ⟨g1, c1, e1, hl1, hc1, hf1, _⟩ := own_int (H1.out.rows 1) a.f4 hg0 hg1; rw [e1] at hm7; have E0 := Aside0.mk e1; clear e1; clear hb hbox hg HH hm1 eT))
  go_quiet (fail)
  go_wp2
  go_ret
  exact ⟨by rw [HR.out]; rfl, by rw [HR.out]; exact ⟨H1.out.below (pw_below_drewN (Below.refl _ w1) _), .of_below (pw_below_drewN HB.out _)⟩⟩
set_option maxHeartbeats 8000000 in
set_option maxRecDepth 100000 in
theorem share_no (w : World) {nl : Int} {lo hi fl : Nat} {ph : Ph} {cs : List S49} {nA : Nat} {s : St} (H : MachIn w lo hi fl ph cs nA s) (i : Int) (h0 : 0 ≤ i) (h1 : i < cs.length) (a : S33)
    (ha : okA (s.row (4 + 2 * i.toNat)).length (s.row 0).length nA (s.row 1).length nl a) (k : a.f0 ≠ 5 ∧ a.f0 ≠ 6 ∧ a.f0 ≠ 7 ∧ a.f0 ≠ 8 ∧ a.f0 ≠ 9 ∧ a.f0 ≠ 10) :
    Calls Try.prog 45 #[.pointer (some ⟨ph.bm, 0, none⟩), .int .i64 i, actV a] w fun e w' => e = .returned (.int .i64 (shr nA s i a).2) ∧ Left w lo hi fl ph cs nA (shr nA s i a).1 w' := by
  have HH := Aside0.mk H
  have HR : Aside0 (shr nA s i a = (s, 0)) := ⟨by rw [shr, if_neg k.1, if_neg k.2.1, if_neg (by omega), if_neg k.2.2.2.2.1, if_neg k.2.2.2.2.2]⟩
  have kb5 : (a.f0 == 5) = false := beq_eq_false_iff_ne.mpr (by omega)
  have kb6 : (a.f0 == 6) = false := beq_eq_false_iff_ne.mpr (by omega)
  have kb7 : (a.f0 == 7) = false := beq_eq_false_iff_ne.mpr (by omega)
  have kb8 : (a.f0 == 8) = false := beq_eq_false_iff_ne.mpr (by omega)
  have kb9 : (a.f0 == 9) = false := beq_eq_false_iff_ne.mpr (by omega)
  have kb10 : (a.f0 == 10) = false := beq_eq_false_iff_ne.mpr (by omega)
  clear H ha
  go_enter Try.func45, Try.ntmps45
  go_wp2_with (first | ((with_reducible refine gate_dst (N := 5) rfl ?_); refine box_event ?hg (N := 5) ?hd (cs := actC a) (t := 33) ?hr ?_; (case hd => rfl); (case hg => rfl); (case hr => first | (go_simp; done) | (go_simp; rfl)); intro gb hg w1 hbox hb; have HBX := Aside0.mk hbox; have HB := Aside0.mk hb; have H1 := Aside0.mk (HH.out.below hb); have hy0 : w1.cell? ⟨gb, 0, none⟩ = some (.int .i64 a.f0) := (blk_cell hbox 0).trans rfl; have hy1 : w1.cell? ⟨gb, 1, none⟩ = some (.int .i64 a.f1) := (blk_cell hbox 1).trans rfl; have hy2 : w1.cell? ⟨gb, 2, none⟩ = some (.int .i64 a.f2) := (blk_cell hbox 2).trans rfl; have hy3 : w1.cell? ⟨gb, 3, none⟩ = some (.int .i64 a.f3) := (blk_cell hbox 3).trans rfl; have hy4 : w1.cell? ⟨gb, 4, none⟩ = some (.int .i64 a.f4) := (blk_cell hbox 4).trans rfl; have hy5 : w1.cell? ⟨gb, 5, none⟩ = some (.int .i64 a.f5) := (blk_cell hbox 5).trans rfl; have hy6 : w1.cell? ⟨gb, 6, none⟩ = some (.int .i64 a.f6) := (blk_cell hbox 6).trans rfl; have hy7 : w1.cell? ⟨gb, 7, none⟩ = some (.int .i64 a.f7) := (blk_cell hbox 7).trans rfl; have hy8 : w1.cell? ⟨gb, 8, none⟩ = some (.int .i64 a.f8) := (blk_cell hbox 8).trans rfl; have htc0 : w1.cell? ⟨ph.tb i.toNat, 0, none⟩ = some (ph.rv (4 + 2 * i.toNat)) := (blk_cell (H1.out.th i.toNat (by omega)).1 0).trans rfl; obtain ⟨fp, hm1, _⟩ := H1.out.hm; have hm4 : w1.cell? ⟨ph.bm, 4, none⟩ = some ph.hT := (blk_cell hm1 4).trans rfl; have hm5 : w1.cell? ⟨ph.bm, 5, none⟩ = some (ph.rv 0) := (blk_cell hm1 5).trans rfl; have hm7 : w1.cell? ⟨ph.bm, 7, none⟩ = some (ph.rv 1) := (blk_cell hm1 7).trans rfl; obtain ⟨gT, cT, eT, _, hTc⟩ := H1.out.tcell i h0 h1; rw [eT] at hm4; have ho := Aside0.mk (H1.out.rows (4 + 2 * i.toNat)); clear hb hbox hg HH hm1 eT))
  go_ret
  exact ⟨by rw [HR.out]; rfl, by rw [HR.out]; exact ⟨H1.out, .of_below HB.out⟩⟩
theorem share_calls (w : World) {nl : Int} {lo hi fl : Nat} {ph : Ph} {cs : List S49} {nA : Nat} {s : St} (H : MachIn w lo hi fl ph cs nA s) (i : Int) (h0 : 0 ≤ i) (h1 : i < cs.length) (a : S33)
    (ha : okA (s.row (4 + 2 * i.toNat)).length (s.row 0).length nA (s.row 1).length nl a) :
    Calls Try.prog 45 #[.pointer (some ⟨ph.bm, 0, none⟩), .int .i64 i, actV a] w fun e w' => e = .returned (.int .i64 (shr nA s i a).2) ∧ Left w lo hi fl ph cs nA (shr nA s i a).1 w' := by
  by_cases k5 : a.f0 = 5
  · exact share_5 w H i h0 h1 a ha k5
  by_cases k6 : a.f0 = 6
  · exact share_6 w H i h0 h1 a ha k6
  by_cases k7 : a.f0 = 7
  · by_cases hin : 0 ≤ (rd (s.row (4 + 2 * i.toNat)) a.f2) ∧ (rd (s.row (4 + 2 * i.toNat)) a.f2) < (s.row (3 + 2 * a.f4.toNat)).length
    · exact share_7 w H i h0 h1 a ha k7 hin
    · exact share_7out w H i h0 h1 a ha k7 hin
  by_cases k8 : a.f0 = 8
  · by_cases hin : 0 ≤ (rd (s.row (4 + 2 * i.toNat)) a.f2) ∧ (rd (s.row (4 + 2 * i.toNat)) a.f2) < (s.row (3 + 2 * a.f4.toNat)).length
    · exact share_8 w H i h0 h1 a ha k8 hin
    · exact share_8out w H i h0 h1 a ha k8 hin
  by_cases k9 : a.f0 = 9
  · by_cases hown : rd (s.row 1) a.f4 = i
    · exact share_9own w H i h0 h1 a ha k9 hown
    · exact share_9free w H i h0 h1 a ha k9 hown
  by_cases k10 : a.f0 = 10
  · by_cases hown : rd (s.row 1) a.f4 = i
    · exact share_10own w H i h0 h1 a ha k10 hown
    · exact share_10not w H i h0 h1 a ha k10 hown
  exact share_no w H i h0 h1 a ha ⟨k5, k6, k7, k8, k9, k10⟩
end
section
/-- num.Rel at once. -/
def relP (op x y : Int) : Bool := (num_Rel.f op x y).getD false
theorem rel_ok (op x y : Int) : num_Rel.f op x y = some (relP op x y) := by
  unfold relP num_Rel.f
  repeat' split
  all_goals rfl
/-- An action of a thread that may be done: the state behind it. -/
def after1 (nA : Nat) (s : St) (i : Int) (a : S33) (inp : Int) : St × Int :=
  if (reck (s.row (4 + 2 * i.toNat)) a inp).2 = 0 then shr nA (s.setRow (4 + 2 * i.toNat) (reck (s.row (4 + 2 * i.toNat)) a inp).1) i a
  else (s.setRow (4 + 2 * i.toNat) (reck (s.row (4 + 2 * i.toNat)) a inp).1, (reck (s.row (4 + 2 * i.toNat)) a inp).2)
def doneP (nA : Nat) (s : St) (i : Int) (a : S33) (inp : Int) : St :=
  if (after1 nA s i a inp).2 = 0 then
    (after1 nA s i a inp).1.setPc i.toNat (if a.f0 = 11 ∧ relP a.f6 (rd ((after1 nA s i a inp).1.row (4 + 2 * i.toNat)) a.f2) (rd ((after1 nA s i a inp).1.row (4 + 2 * i.toNat)) a.f3) = false then a.f8 else a.f7)
  else (after1 nA s i a inp).1.setBad (i, s.pc i.toNat, (after1 nA s i a inp).2)
def stepP (cs : List S49) (nA : Nat) (s : St) (i : Int) (inp : Int) : St :=
  match nxt cs s i with
  | none => s
  | some a => doneP nA s i a inp
theorem nxt_some {cs : List S49} {s : St} {i : Int} {a : S33} (h : nxt cs s i = some a) : (0 ≤ i ∧ i < cs.length) ∧ s.bad = none ∧ a = actOf cs s i := by
  unfold nxt at h
  split at h
  · rename_i h0
    split at h
    · rename_i hb
      refine ⟨h0, hb, ?_⟩
      split at h
      · cases h
      · split at h
        · split at h
          · exact (Option.some.inj h).symm
          · split at h
            · exact (Option.some.inj h).symm
            · cases h
        · exact (Option.some.inj h).symm
    · cases h
  · cases h
set_option maxHeartbeats 4000000 in
set_option maxRecDepth 100000 in
theorem step_none (w : World) {lo hi fl : Nat} {ph : Ph} {cs : List S49} {nA : Nat} {s : St} (H : MachIn w lo hi fl ph cs nA s) (W : Wf cs nA s) (i inp : Int) (hn : nxt cs s i = none) :
    Calls Try.prog 22 #[.pointer (some ⟨ph.bm, 0, none⟩), .int .i64 i, .int .i64 inp] w fun e w' => e = .returned (.bool false) ∧ Below w.heap.size w w' := by
  have HN := Aside0.mk (next_calls w H W i)
  rw [hn] at HN
  clear H W hn
  go_enter Try.func22, Try.ntmps22
  go_wp2_with fail
  go_at_call 20
  refine HN.out.mono ?_
  rintro e w1 ⟨rfl, hb⟩
  have HB := Aside0.mk hb
  clear hb HN
  simp only [nxtV, actV]
  go_wp2
  go_ret
  exact ⟨rfl, below_alloc HB.out _⟩
theorem set_len (xs : List Int) (j : Nat) (x : Int) : (xs.set j x).length = xs.length := List.length_set
theorem reck_len (vs : List Int) (a : S33) (inp : Int) : (reck vs a inp).1.length = vs.length := by
  unfold reck
  repeat' split
  all_goals first | rfl | exact List.length_set
theorem setRow_len {s : St} {k : Nat} {xs : List Int} (h : xs.length = (s.row k).length) (j : Nat) : ((s.setRow k xs).row j).length = (s.row j).length := by
  by_cases e : j = k
  · subst e; simp [St.setRow, h]
  · simp [St.setRow, e]
theorem shr_len (nA : Nat) (s : St) (i : Int) (a : S33) (j : Nat) : ((shr nA s i a).1.row j).length = (s.row j).length := by
  unfold shr
  repeat' split
  all_goals first | rfl | exact setRow_len List.length_set j
theorem after1_len (nA : Nat) (s : St) (i : Int) (a : S33) (inp : Int) (j : Nat) : ((after1 nA s i a inp).1.row j).length = (s.row j).length := by
  unfold after1
  split
  · rw [shr_len]; exact setRow_len (reck_len _ _ _) j
  · exact setRow_len (reck_len _ _ _) j
theorem set_grown (w : World) (g j : Nat) (u : Value) : w.grownBy (w.setCell ⟨g, j, none⟩ u) (some g) :=
  ⟨rfl, rfl, rfl, by simp [World.setCell], fun k _ hk => Below.heap_setCell w ⟨g, j, none⟩ u k (fun e => hk (by rw [e]))⟩
theorem shr_pc (nA : Nat) (s : St) (i : Int) (a : S33) : (shr nA s i a).1.pc = s.pc := by
  unfold shr
  repeat' split
  all_goals rfl
set_option maxHeartbeats 8000000 in
set_option maxRecDepth 100000 in
theorem step_some (w : World) {lo hi fl : Nat} {ph : Ph} {cs : List S49} {nA : Nat} {s : St} (H : MachIn w lo hi fl ph cs nA s) (W : Wf cs nA s) (hz : fl ≤ w.heap.size) (i inp : Int) (a : S33) (hn : nxt cs s i = some a) :
    Calls Try.prog 22 #[.pointer (some ⟨ph.bm, 0, none⟩), .int .i64 i, .int .i64 inp] w fun e w' => e = .returned (.bool true) ∧ Left w lo hi fl ph cs nA (doneP nA s i a inp) w' := by
  have HN := Aside0.mk (next_calls w H W i)
  rw [hn] at HN
  obtain ⟨⟨h0, h1⟩, _, ea⟩ := nxt_some hn
  have ha := (W.act i h0 h1).1
  rw [← ea] at ha
  have HA := Aside0.mk ha
  have HH := Aside0.mk H
  have HZ := Aside0.mk hz
  obtain ⟨r1, r2, hre⟩ : ∃ r1 r2, reck (s.row (4 + 2 * i.toNat)) a inp = (r1, r2) := ⟨_, _, rfl⟩
  have HRE := Aside0.mk hre
  have HR1 : Aside0 (r1.length = (s.row (4 + 2 * i.toNat)).length) := ⟨by have h := reck_len (s.row (4 + 2 * i.toNat)) a inp; rw [hre] at h; exact h⟩
  clear H W hn ea ha hz hre
  go_enter Try.func22, Try.ntmps22
  go_wp2_with fail
  go_at_call 20
  refine HN.out.mono ?_
  rintro e w1 ⟨rfl, hb⟩
  have HB := Aside0.mk hb
  obtain ⟨W1, hW1⟩ : ∃ W1, W1 = w1.alloc (.cells (actC a) 33) := ⟨_, rfl⟩
  have HB1 : Aside0 (Below w.heap.size w W1) := ⟨by rw [hW1]; exact below_alloc hb _⟩
  have H1 := Aside0.mk (HH.out.below HB1.out)
  have hboxW : W1.heap[w1.heap.size]? = some (.cells (actC a) 33 (0, 0)) := by rw [hW1]; exact heap_alloc_new w1 _
  have hy0 : W1.cell? ⟨w1.heap.size, 0, none⟩ = some (.int .i64 a.f0) := (blk_cell hboxW 0).trans rfl
  have hy1 : W1.cell? ⟨w1.heap.size, 1, none⟩ = some (.int .i64 a.f1) := (blk_cell hboxW 1).trans rfl
  have hy2 : W1.cell? ⟨w1.heap.size, 2, none⟩ = some (.int .i64 a.f2) := (blk_cell hboxW 2).trans rfl
  have hy3 : W1.cell? ⟨w1.heap.size, 3, none⟩ = some (.int .i64 a.f3) := (blk_cell hboxW 3).trans rfl
  have hy4 : W1.cell? ⟨w1.heap.size, 4, none⟩ = some (.int .i64 a.f4) := (blk_cell hboxW 4).trans rfl
  have hy5 : W1.cell? ⟨w1.heap.size, 5, none⟩ = some (.int .i64 a.f5) := (blk_cell hboxW 5).trans rfl
  have hy6 : W1.cell? ⟨w1.heap.size, 6, none⟩ = some (.int .i64 a.f6) := (blk_cell hboxW 6).trans rfl
  have hy7 : W1.cell? ⟨w1.heap.size, 7, none⟩ = some (.int .i64 a.f7) := (blk_cell hboxW 7).trans rfl
  have hy8 : W1.cell? ⟨w1.heap.size, 8, none⟩ = some (.int .i64 a.f8) := (blk_cell hboxW 8).trans rfl
  have HZ1 : Aside0 (fl ≤ w1.heap.size) := ⟨Nat.le_trans HZ.out hb.size⟩
  have hm4 : W1.cell? ⟨ph.bm, 4, none⟩ = some ph.hT := by obtain ⟨fp, hm1, _⟩ := H1.out.hm; exact (blk_cell hm1 4).trans rfl
  obtain ⟨gT, cT, eT, _, hTc⟩ := H1.out.tcell i h0 h1
  rw [eT] at hm4
  have HBX := Aside0.mk hboxW
  have HK := Aside0.mk (reckon_calls _ H1.out i h0 h1 a inp HA.out)
  rw [HRE.out] at HK
  clear hb HN HB eT hboxW HZ HH
  simp only [nxtV, actV]
  simp only [actC, actV] at hW1 HK
  subst hW1
  go_wp2_with fail
  refine HK.out.mono ?_
  rintro e w2 ⟨rfl, HL0⟩
  have HFH := HL0.1.fh
  have hbox2 : w2.heap[w1.heap.size]? = some (.cells (actC a) 33 (0, 0)) := (HL0.2.block _ (blk_lt HBX.out) (by have := HZ1.out; omega)).trans HBX.out
  have HZ2 : Aside0 (fl ≤ w2.heap.size) := ⟨Nat.le_trans HZ1.out (Nat.le_of_lt (blk_lt hbox2))⟩
  have HC2 : Aside0 (Chg lo hi w w2) := ⟨(Chg.of_below HB1.out).trans HL0.2⟩
  have HM2 : Aside0 (MachIn w2 lo hi fl ph cs nA (s.setRow (4 + 2 * i.toNat) r1)) := ⟨HL0.1⟩
  have HPC : Aside0 ((s.setRow (4 + 2 * i.toNat) r1).pc = s.pc) := ⟨rfl⟩
  clear HK HL0 HBX HB1 H1 hTc hm4 hy0 hy1 hy2 hy3 hy4 hy5 hy6 hy7 hy8 HFH
  generalize w1.heap.size = gb at *
  have hz0 : w2.cell? ⟨gb, 0, none⟩ = some (.int .i64 a.f0) := (blk_cell hbox2 0).trans rfl
  have hz1 : w2.cell? ⟨gb, 1, none⟩ = some (.int .i64 a.f1) := (blk_cell hbox2 1).trans rfl
  have hz2 : w2.cell? ⟨gb, 2, none⟩ = some (.int .i64 a.f2) := (blk_cell hbox2 2).trans rfl
  have hz3 : w2.cell? ⟨gb, 3, none⟩ = some (.int .i64 a.f3) := (blk_cell hbox2 3).trans rfl
  have hz4 : w2.cell? ⟨gb, 4, none⟩ = some (.int .i64 a.f4) := (blk_cell hbox2 4).trans rfl
  have hz5 : w2.cell? ⟨gb, 5, none⟩ = some (.int .i64 a.f5) := (blk_cell hbox2 5).trans rfl
  have hz6 : w2.cell? ⟨gb, 6, none⟩ = some (.int .i64 a.f6) := (blk_cell hbox2 6).trans rfl
  have hz7 : w2.cell? ⟨gb, 7, none⟩ = some (.int .i64 a.f7) := (blk_cell hbox2 7).trans rfl
  have hz8 : w2.cell? ⟨gb, 8, none⟩ = some (.int .i64 a.f8) := (blk_cell hbox2 8).trans rfl
  have HBX2 := Aside0.mk hbox2
  clear hbox2
  by_cases he : r2 = 0
  · have kb : (r2 == 0) = true := beq_iff_eq.mpr he
    obtain ⟨s2, e2, hsh⟩ : ∃ s2 e2, shr nA (s.setRow (4 + 2 * i.toNat) r1) i a = (s2, e2) := ⟨_, _, rfl⟩
    have HSE := Aside0.mk hsh
    have haS : okA ((s.setRow (4 + 2 * i.toNat) r1).row (4 + 2 * i.toNat)).length ((s.setRow (4 + 2 * i.toNat) r1).row 0).length nA ((s.setRow (4 + 2 * i.toNat) r1).row 1).length (rd_T49 cs i).f1.length a := by
      rw [setRow_len HR1.out, setRow_len HR1.out, setRow_len HR1.out]; exact HA.out
    have HSH := Aside0.mk (share_calls w2 HM2.out i h0 h1 a haS)
    rw [hsh] at HSH
    have HP3 : Aside0 (s2.pc = s.pc) := ⟨by have h := shr_pc nA (s.setRow (4 + 2 * i.toNat) r1) i a; rw [hsh] at h; exact h⟩
    have HLN : Aside0 ((s2.row (4 + 2 * i.toNat)).length = (s.row (4 + 2 * i.toNat)).length) := ⟨by have h := shr_len nA (s.setRow (4 + 2 * i.toNat) r1) i a (4 + 2 * i.toNat); rw [hsh] at h; exact h.trans (setRow_len HR1.out _)⟩
    have HAF : Aside0 (after1 nA s i a inp = (s2, e2)) := ⟨by rw [after1, HRE.out, if_pos he, hsh]⟩
    clear hsh haS he HRE HPC HSE
    simp only [actV] at HSH
    go_wp2_with fail
    refine HSH.out.mono ?_
    rintro e w3 ⟨rfl, HL1⟩
    have HFH := HL1.1.fh
    have hbox3 : w3.heap[gb]? = some (.cells (actC a) 33 (0, 0)) := (HL1.2.block _ (blk_lt HBX2.out) (by have := HZ1.out; omega)).trans HBX2.out
    have HZ3 : Aside0 (fl ≤ w3.heap.size) := ⟨Nat.le_trans HZ2.out HL1.2.size⟩
    have HC3 : Aside0 (Chg lo hi w w3) := ⟨HC2.out.trans HL1.2⟩
    have HM3 : Aside0 (MachIn w3 lo hi fl ph cs nA s2) := ⟨HL1.1⟩
    have HPC := HP3
    clear HSH HL1 HBX2 HZ2 HC2 HM2 HFH hz0 hz1 hz2 hz3 hz4 hz5 hz6 hz7 hz8
    have hx0 : w3.cell? ⟨gb, 0, none⟩ = some (.int .i64 a.f0) := (blk_cell hbox3 0).trans rfl
    have hx1 : w3.cell? ⟨gb, 1, none⟩ = some (.int .i64 a.f1) := (blk_cell hbox3 1).trans rfl
    have hx2 : w3.cell? ⟨gb, 2, none⟩ = some (.int .i64 a.f2) := (blk_cell hbox3 2).trans rfl
    have hx3 : w3.cell? ⟨gb, 3, none⟩ = some (.int .i64 a.f3) := (blk_cell hbox3 3).trans rfl
    have hx4 : w3.cell? ⟨gb, 4, none⟩ = some (.int .i64 a.f4) := (blk_cell hbox3 4).trans rfl
    have hx5 : w3.cell? ⟨gb, 5, none⟩ = some (.int .i64 a.f5) := (blk_cell hbox3 5).trans rfl
    have hx6 : w3.cell? ⟨gb, 6, none⟩ = some (.int .i64 a.f6) := (blk_cell hbox3 6).trans rfl
    have hx7 : w3.cell? ⟨gb, 7, none⟩ = some (.int .i64 a.f7) := (blk_cell hbox3 7).trans rfl
    have hx8 : w3.cell? ⟨gb, 8, none⟩ = some (.int .i64 a.f8) := (blk_cell hbox3 8).trans rfl
    clear hbox3
    by_cases he2 : e2 = 0
    · have kb2 : (e2 != 0) = false := bne_eq_false_iff_eq.mpr he2
      have HD0 : Aside0 (doneP nA s i a inp = s2.setPc i.toNat (if a.f0 = 11 ∧ relP a.f6 (rd (s2.row (4 + 2 * i.toNat)) a.f2) (rd (s2.row (4 + 2 * i.toNat)) a.f3) = false then a.f8 else a.f7)) := ⟨by rw [doneP, HAF.out, if_pos he2]⟩
      have hth := (HM3.out.th i.toNat (by omega)).1
      rw [HPC.out] at hth
      have htc0 : w3.cell? ⟨ph.tb i.toNat, 0, none⟩ = some (ph.rv (4 + 2 * i.toNat)) := (blk_cell hth 0).trans rfl
      clear he2 HAF HPC
      by_cases k11 : a.f0 = 11
      · have kk : (a.f0 == 11) = true := beq_iff_eq.mpr k11
        have HX : Aside0 (0 ≤ a.f2 ∧ a.f2 < (s2.row (4 + 2 * i.toNat)).length) := ⟨by rw [HLN.out]; exact HA.out.x (by omega)⟩
        have HY : Aside0 (0 ≤ a.f3 ∧ a.f3 < (s2.row (4 + 2 * i.toNat)).length) := ⟨by rw [HLN.out]; exact HA.out.y (by omega)⟩
        have ho := Aside0.mk (HM3.out.rows (4 + 2 * i.toNat))
        have HTB0 := Aside0.mk hth
        clear hth
        obtain ⟨rr, hrr⟩ : ∃ rr, relP a.f6 (rd (s2.row (4 + 2 * i.toNat)) a.f2) (rd (s2.row (4 + 2 * i.toNat)) a.f3) = rr := ⟨_, rfl⟩
        have HRR : Aside0 (num_Rel.f a.f6 (rd (s2.row (4 + 2 * i.toNat)) a.f2) (rd (s2.row (4 + 2 * i.toNat)) a.f3) = some rr) := ⟨by rw [rel_ok, hrr]⟩
        rw [hrr] at HD0
        have HD : Aside0 (doneP nA s i a inp = s2.setPc i.toNat (if rr = false then a.f8 else a.f7)) := ⟨by rw [HD0.out]; simp [k11]⟩
        clear HD0 hrr k11
        generalize hvs2 : s2.row (4 + 2 * i.toNat) = vs2 at *
        have A1 := fun n => Calls.quiet_of_same (n := n) (get_calls (ph.tb i.toNat) 0 (ph.rv (4 + 2 * i.toNat)) vs2 a.f2 lo (w3.drewN n) htc0 ho.out HX.out.1 HX.out.2)
        have A2 := fun n => Calls.quiet_of_same (n := n) (get_calls (ph.tb i.toNat) 0 (ph.rv (4 + 2 * i.toNat)) vs2 a.f3 lo (w3.drewN n) htc0 ho.out HY.out.1 HY.out.2)
        have A3 := fun n => Calls.quiet_of (n := n) ((num_Rel.calls a.f6 (rd vs2 a.f2) (rd vs2 a.f3) rr (w3.drewN n) HRR.out).mono fun e w' h => ⟨h.1, h.2.out⟩)
        go_wp2_with fail
        go_quiet (first | with_reducible exact A1 _ | with_reducible exact A2 _ | with_reducible exact A3 _)
        have q7 : (w3.drewN nq).cell? ⟨gb, 7, none⟩ = _ := hx7
        have q8 : (w3.drewN nq).cell? ⟨gb, 8, none⟩ = _ := hx8
        have q3 : (w3.drewN nq).cell? ⟨ph.tb i.toNat, 3, none⟩ = _ := (blk_cell HTB0.out 3).trans rfl
        have qf : (w3.drewN nq).frozen? ⟨ph.tb i.toNat, 3, none⟩ = false := blk_frozen HTB0.out 3
        have HTB : Aside0 ((w3.drewN nq).heap[ph.tb i.toNat]? = _) := ⟨HTB0.out⟩
        have Q3 := Aside0.mk (HM3.out.below (pw_below_drewN (Below.refl _ w3) nq))
        have QC : Aside0 (Chg lo hi w (w3.drewN nq)) := ⟨HC3.out.trans (.of_below (pw_below_drewN (Below.refl _ w3) nq))⟩
        clear A1 A2 A3 HM3 HC3 hx0 hx1 hx2 hx3 hx4 hx5 hx6 hx7 hx8 htc0 HTB0 HZ3 ho hvs2 HRR
        generalize w3.drewN nq = w4 at *
        cases rr with
        | false =>
          replace HD := Aside0.mk (HD.out.trans (by rw [if_pos rfl]))
          go_wp2
          go_ret
          refine ⟨rfl, ?_⟩
          rw [HD.out]
          have hg := set_grown w4 (ph.tb i.toNat) 3 (.int .i64 a.f8)
          exact ⟨Q3.out.putPc i.toNat a.f8 (by omega) (blk_put HTB.out 3 _ rfl) hg, QC.out.trans (Chg.of_grown hg (fun b hb => by injection hb with hb; subst hb; exact (Q3.out.th i.toNat (by omega)).2))⟩
        | true =>
          replace HD := Aside0.mk (HD.out.trans (by rw [if_neg (by decide)]))
          go_wp2
          go_ret
          refine ⟨rfl, ?_⟩
          rw [HD.out]
          have hg := set_grown w4 (ph.tb i.toNat) 3 (.int .i64 a.f7)
          exact ⟨Q3.out.putPc i.toNat a.f7 (by omega) (blk_put HTB.out 3 _ rfl) hg, QC.out.trans (Chg.of_grown hg (fun b hb => by injection hb with hb; subst hb; exact (Q3.out.th i.toNat (by omega)).2))⟩
      · have kk : (a.f0 == 11) = false := beq_eq_false_iff_ne.mpr k11
        have HD : Aside0 (doneP nA s i a inp = s2.setPc i.toNat a.f7) := ⟨by rw [HD0.out, if_neg (fun h => k11 h.1)]⟩
        have HTB0 := Aside0.mk hth
        clear HD0 k11 hth
        go_wp2_with fail
        go_quiet (fail)
        have q7 : (w3.drewN nq).cell? ⟨gb, 7, none⟩ = _ := hx7
        have q3 : (w3.drewN nq).cell? ⟨ph.tb i.toNat, 3, none⟩ = _ := (blk_cell HTB0.out 3).trans rfl
        have qf : (w3.drewN nq).frozen? ⟨ph.tb i.toNat, 3, none⟩ = false := blk_frozen HTB0.out 3
        have HTB : Aside0 ((w3.drewN nq).heap[ph.tb i.toNat]? = _) := ⟨HTB0.out⟩
        have Q3 := Aside0.mk (HM3.out.below (pw_below_drewN (Below.refl _ w3) nq))
        have QC : Aside0 (Chg lo hi w (w3.drewN nq)) := ⟨HC3.out.trans (.of_below (pw_below_drewN (Below.refl _ w3) nq))⟩
        clear HM3 HC3 hx0 hx1 hx2 hx3 hx4 hx5 hx6 hx7 hx8 htc0 HTB0 HZ3
        generalize w3.drewN nq = w4 at *
        go_wp2
        go_ret
        refine ⟨rfl, ?_⟩
        rw [HD.out]
        have hg := set_grown w4 (ph.tb i.toNat) 3 (.int .i64 a.f7)
        exact ⟨Q3.out.putPc i.toNat a.f7 (by omega) (blk_put HTB.out 3 _ rfl) hg, QC.out.trans (Chg.of_grown hg (fun b hb => by injection hb with hb; subst hb; exact (Q3.out.th i.toNat (by omega)).2))⟩
    · have kb2 : (e2 != 0) = true := bne_iff_ne.mpr he2
      have HD : Aside0 (doneP nA s i a inp = s2.setBad (i, s.pc i.toNat, e2)) := ⟨by rw [doneP, HAF.out, if_neg he2]⟩
      clear he2 HAF
      obtain ⟨fp2, hbm, _⟩ := HM3.out.hm
      have hth := (HM3.out.th i.toNat (by omega)).1
      have htc3 : w3.cell? ⟨ph.tb i.toNat, 3, none⟩ = some (.int .i64 (s.pc i.toNat)) := (blk_cell hth 3).trans (by rw [HPC.out]; rfl)
      have hq8 : w3.cell? ⟨ph.bm, 8, none⟩ = some fp2 := (blk_cell hbm 8).trans rfl
      have hqf := blk_frozen hbm 8
      have hbm2 := below_read (below_alloc (Below.refl _ w3) (.cells #[.int .i64 i, .int .i64 (s.pc i.toNat), .int .i64 e2] 52)) hbm
      have hr8 := (blk_cell hbm2 8).trans rfl
      have hrf := blk_frozen hbm2 8
      have HBM2 := Aside0.mk hbm2
      have hne : Aside0 (w3.heap.size ≠ ph.bm) := ⟨fun e => by have := blk_lt hbm; omega⟩
      clear hbm hth hbm2
      go_wp2
      go_ret
      refine ⟨rfl, ?_⟩
      rw [HD.out]
      have hg := set_grown (w3.alloc (.cells #[.int .i64 i, .int .i64 (s.pc i.toNat), .int .i64 e2] 52)) ph.bm 8 (.pointer (some ⟨w3.heap.size, 0, none⟩))
      exact ⟨(HM3.out.below (below_alloc (Below.refl _ w3) _)).putBad (i, s.pc i.toNat, e2) w3.heap.size HZ3.out (blk_far (heap_alloc_new w3 _) hne.out _) (blk_put HBM2.out 8 _ rfl) hg, (HC3.out.trans (.of_below (below_alloc (Below.refl _ w3) _))).trans (Chg.of_grown hg (fun b hb => by injection hb with hb; subst hb; exact HM3.out.bm))⟩
  · have kb : (r2 == 0) = false := beq_eq_false_iff_ne.mpr he
    have kb2 : (r2 != 0) = true := bne_iff_ne.mpr he
    have HD : Aside0 (doneP nA s i a inp = (s.setRow (4 + 2 * i.toNat) r1).setBad (i, s.pc i.toNat, r2)) := ⟨by rw [doneP, after1, HRE.out, if_neg he, if_neg he]⟩
    clear he HRE
    obtain ⟨fp2, hbm, _⟩ := HM2.out.hm
    have hth := (HM2.out.th i.toNat (by omega)).1
    have htc3 : w2.cell? ⟨ph.tb i.toNat, 3, none⟩ = some (.int .i64 (s.pc i.toNat)) := (blk_cell hth 3).trans (by rw [HPC.out]; rfl)
    have hq8 : w2.cell? ⟨ph.bm, 8, none⟩ = some fp2 := (blk_cell hbm 8).trans rfl
    have hqf := blk_frozen hbm 8
    have hbm2 := below_read (below_alloc (Below.refl _ w2) (.cells #[.int .i64 i, .int .i64 (s.pc i.toNat), .int .i64 r2] 52)) hbm
    have hr8 := (blk_cell hbm2 8).trans rfl
    have hrf := blk_frozen hbm2 8
    have HBM2 := Aside0.mk hbm2
    have hne : Aside0 (w2.heap.size ≠ ph.bm) := ⟨fun e => by have := blk_lt hbm; omega⟩
    clear hbm hth hbm2
    go_wp2
    go_ret
    refine ⟨rfl, ?_⟩
    rw [HD.out]
    have hg := set_grown (w2.alloc (.cells #[.int .i64 i, .int .i64 (s.pc i.toNat), .int .i64 r2] 52)) ph.bm 8 (.pointer (some ⟨w2.heap.size, 0, none⟩))
    exact ⟨(HM2.out.below (below_alloc (Below.refl _ w2) _)).putBad (i, s.pc i.toNat, r2) w2.heap.size HZ2.out (blk_far (heap_alloc_new w2 _) hne.out _) (blk_put HBM2.out 8 _ rfl) hg, (HC2.out.trans (.of_below (below_alloc (Below.refl _ w2) _))).trans (Chg.of_grown hg (fun b hb => by injection hb with hb; subst hb; exact HM2.out.bm))⟩
theorem step_calls (w : World) {lo hi fl : Nat} {ph : Ph} {cs : List S49} {nA : Nat} {s : St} (H : MachIn w lo hi fl ph cs nA s) (W : Wf cs nA s) (hz : fl ≤ w.heap.size) (i inp : Int) :
    Calls Try.prog 22 #[.pointer (some ⟨ph.bm, 0, none⟩), .int .i64 i, .int .i64 inp] w fun e w' => e = .returned (.bool (nxt cs s i).isSome) ∧ Left w lo hi fl ph cs nA (stepP cs nA s i inp) w' := by
  cases hn : nxt cs s i with
  | none =>
    refine (step_none w H W i inp hn).mono ?_
    rintro e w' ⟨rfl, hb⟩
    exact ⟨rfl, by rw [stepP, hn]; exact ⟨H.below hb, .of_below hb⟩⟩
  | some a =>
    refine (step_some w H W hz i inp a hn).mono ?_
    rintro e w' ⟨rfl, hl⟩
    exact ⟨rfl, by rw [stepP, hn]; exact hl⟩
end
section
theorem after1_pc (nA : Nat) (s : St) (i : Int) (a : S33) (inp : Int) : (after1 nA s i a inp).1.pc = s.pc := by
  unfold after1
  split
  · rw [shr_pc]; rfl
  · rfl
theorem doneP_len (nA : Nat) (s : St) (i : Int) (a : S33) (inp : Int) (j : Nat) : ((doneP nA s i a inp).row j).length = (s.row j).length := by
  unfold doneP
  split
  · exact after1_len nA s i a inp j
  · exact after1_len nA s i a inp j
theorem Wf.done {cs : List S49} {nA : Nat} {s : St} (W : Wf cs nA s) (i inp : Int) (a : S33) (h : nxt cs s i = some a) : Wf cs nA (doneP nA s i a inp) := by
  obtain ⟨⟨h0, h1⟩, _, rfl⟩ := nxt_some h
  have ha := (W.act i h0 h1).1
  rw [rd49_at cs i h0 h1] at ha
  refine ⟨fun k hk => ?_, fun k hk b hb => ?_⟩
  · by_cases e : k = i.toNat
    · subst e
      unfold doneP
      split
      · simp only [St.setPc, if_true]
        split
        · exact ha.els
        · exact ha.next
      · show 0 ≤ (after1 nA s i _ inp).1.pc _ ∧ _
        rw [St.setBad, after1_pc]
        exact W.pcs _ hk
    · unfold doneP
      split
      · simp only [St.setPc, if_neg e, after1_pc]
        exact W.pcs k hk
      · simp only [St.setBad, after1_pc]
        exact W.pcs k hk
  · rw [doneP_len, doneP_len, doneP_len]
    exact W.acts k hk b hb
theorem Wf.step {cs : List S49} {nA : Nat} {s : St} (W : Wf cs nA s) (i inp : Int) : Wf cs nA (stepP cs nA s i inp) := by
  unfold stepP
  cases h : nxt cs s i with
  | none => exact W
  | some a => exact W.done i inp a h
end
section
theorem MachIn.wide {w : World} {lo hi fl hi' fl' : Nat} {ph : Ph} {cs : List S49} {nA : Nat} {s : St} (H : MachIn w lo hi fl ph cs nA s) (hb : s.bad = none) (h1 : hi ≤ hi') (h2 : hi' ≤ fl') : MachIn w lo hi' fl' ph cs nA s := by
  refine ⟨?_, ⟨H.bm.1, Nat.lt_of_lt_of_le H.bm.2 h1⟩, h2, H.hT, fun b h => Nat.lt_of_lt_of_le (H.hTl b h) h1, H.hA, fun b h => Nat.lt_of_lt_of_le (H.hAl b h) h1, fun i h => ⟨(H.th i h).1, (H.th i h).2.1, Nat.lt_of_lt_of_le (H.th i h).2.2 h1⟩, H.inj,
    fun i h => Kd.R_mono (H.code i h) (fun k hk => Nat.lt_of_lt_of_le hk h1), H.rows, fun k b h => Nat.lt_of_lt_of_le (H.rlt k b h) h1, H.apart⟩
  obtain ⟨fp, h1, h2⟩ := H.hm
  refine ⟨fp, h1, ?_⟩
  rw [hb] at h2 ⊢
  exact h2
def Ph.setRv (ph : Ph) (k : Nat) (v : Value) : Ph := { ph with rv := fun j => if j = k then v else ph.rv j }
theorem own_lower {w : World} {base base' : Nat} {e : TypeId} {size n : Nat} {v : Value} {xs : List Value} (h : w.ownsRow base e size v n xs) (hb : base' ≤ base) : w.ownsRow base' e size v n xs := by
  obtain ⟨h1, h2⟩ := h
  refine ⟨h1, ?_⟩
  rcases h2 with h2 | ⟨g, cap, cur, rfl, hg, r⟩
  · exact .inl h2
  · exact .inr ⟨g, cap, cur, rfl, Nat.le_trans hb hg, r⟩
theorem MachIn.fresh {w w1 : World} {lo hi fl : Nat} {ph : Ph} {cs : List S49} {nA : Nat} {s : St} (H : MachIn w lo hi fl ph cs nA s) (hbad : s.bad = none) (k : Nat) (hk2 : 2 ≤ k) (hkA : ∀ i, i < nA → k ≠ 3 + 2 * i) (hkT : ∀ i, i < cs.length → k ≠ 4 + 2 * i)
    {v : Value} {xs : List Int} (hB : Below w.heap.size w w1) (ho : w1.ownsRow w.heap.size 3 1 v xs.length (nums .i64 xs)) (hhi : hi ≤ w.heap.size) (hlo : lo ≤ w.heap.size) : MachIn w1 lo w1.heap.size w1.heap.size (ph.setRv k v) cs nA (s.setRow k xs) := by
  have h1 := (H.below hB).wide hbad (Nat.le_trans hhi hB.size) (Nat.le_refl w1.heap.size)
  have e : ∀ j, j ≠ k → (ph.setRv k v).rv j = ph.rv j := fun j hj => if_neg hj
  have es : ∀ j, j ≠ k → (s.setRow k xs).row j = s.row j := fun j hj => if_neg hj
  refine ⟨?_, h1.bm, h1.fh, h1.hT, h1.hTl, ?_, h1.hAl, fun i h => ?_, h1.inj, h1.code, fun j => ?_, fun j b hj => ?_, fun i j hij => ?_⟩
  · obtain ⟨fp, h2, h3⟩ := h1.hm
    refine ⟨fp, ?_, h3⟩
    rw [e 0 (by omega), e 1 (by omega)]
    exact h2
  · have : (List.range nA).map (fun i => (ph.setRv k v).rv (3 + 2 * i)) = (List.range nA).map fun i => ph.rv (3 + 2 * i) :=
      List.map_congr_left fun i hi => e _ (Ne.symm (hkA i (List.mem_range.1 hi)))
    rw [this]
    exact h1.hA
  · rw [e _ (Ne.symm (hkT i h))]
    exact h1.th i h
  · by_cases hj : j = k
    · subst hj
      have e1 : (ph.setRv j v).rv j = v := if_pos rfl
      have e2 : (s.setRow j xs).row j = xs := if_pos rfl
      rw [e1, e2]
      exact own_lower ho hlo
    · rw [e j hj, es j hj]
      exact h1.rows j
  · by_cases hj' : j = k
    · subst hj'
      have e1 : (ph.setRv j v).rv j = v := if_pos rfl
      rw [e1] at hj
      exact (ho.lt b hj).2
    · rw [e j hj'] at hj
      exact h1.rlt j b hj
  · have far : ∀ j, j ≠ k → v.ownBlock = none ∨ v.ownBlock ≠ (ph.rv j).ownBlock := fun j hj => by
      cases hv : v.ownBlock with
      | none => exact .inl rfl
      | some b =>
        refine .inr fun he => ?_
        have h2 := (ho.lt b hv).1
        have h3 := H.rlt j b he.symm
        omega
    by_cases hi' : i = k
    · subst hi'
      have e1 : (ph.setRv i v).rv i = v := if_pos rfl
      rw [e1, e j (Ne.symm hij)]
      exact far j (Ne.symm hij)
    · rw [e i hi']
      by_cases hj' : j = k
      · subst hj'
        have e1 : (ph.setRv j v).rv j = v := if_pos rfl
        rw [e1]
        rcases far i hi' with h2 | h2
        · rw [h2]
          cases hv : (ph.rv i).ownBlock with
          | none => exact .inl rfl
          | some b => exact .inr (by simp)
        · exact .inr (Ne.symm h2)
      · rw [e j hj']
        exact h1.apart i j hij
/-- What a push leaves: blocks of another type, but for the machine's own. -/
theorem push_keep {w w1 : World} {bm j : Nat} {v v1 : Value} {e : TypeId} {base n : Nat} {xs : List Value} (hv : w.ownsRow base e 1 v n xs) (hg : w.grownBy w1 v.ownBlock) {g : Nat} {t : TypeId} {c : Array Value} (h : w.heap[g]? = some (.cells c t (0, 0))) (ht : e ≠ t) (hb : g ≠ bm) :
    (w1.setCell ⟨bm, j, none⟩ v1).heap[g]? = some (.cells c t (0, 0)) :=
  blk_far (blk_keep h hg (row_ne hv h ht)) hb v1
theorem push_own {w w1 : World} {bm j : Nat} {v v1 : Value} {e : TypeId} {base n : Nat} {xs : List Value} (hv : w.ownsRow base e 1 v n xs) (hg : w.grownBy w1 v.ownBlock) {cb : Array Value} (hm : w.heap[bm]? = some (.cells cb 79 (0, 0)))
    {e' : TypeId} {base' n' : Nat} {u : Value} {ys : List Value} (h : w.ownsRow base' e' 1 u n' ys) (ht : e ≠ e') (ht' : e' ≠ 79) : (w1.setCell ⟨bm, j, none⟩ v1).ownsRow base' e' 1 u n' ys :=
  own_move h (fun k hk => by
    obtain ⟨c, hc⟩ := own_typed h k hk
    exact (push_keep hv hg hc ht (fun ek => by subst ek; rw [hm] at hc; injection hc with hc; injection hc with _ hc _; exact ht' hc.symm)).trans hc.symm)
theorem push_code {w w1 : World} {bm j : Nat} {v v1 : Value} {e : TypeId} {base n : Nat} {xs : List Value} (hv : w.ownsRow base e 1 v n xs) (hg : w.grownBy w1 v.ownBlock) {cb : Array Value} (hm : w.heap[bm]? = some (.cells cb 79 (0, 0)))
    {lo hi : Nat} {u : Value} {ys : List S33} (h : k33.R 33 w lo (fun k => k < hi) u ys) (ht : e ≠ 33) : k33.R 33 (w1.setCell ⟨bm, j, none⟩ v1) lo (fun k => k < hi) u ys := by
  refine Kd.R_mono (Kd.R_step (Kd.R_bound h) (fun k ho hl => ?_)) (fun k ho => ho.1)
  obtain ⟨_, _, _, q, hq, cells, hc⟩ := ho
  have hq' : q = 33 := by
    simpa [k33, Kd.iso, Kd.pair, Kd.int, Kd.scalar] using hq
  subst hq'
  exact (push_keep hv hg hc ht (fun ek => by subst ek; rw [hm] at hc; injection hc with hc; injection hc with _ hc _; exact absurd hc (by decide))).trans hc.symm
theorem MachIn.pushA {w w1 : World} {lo hi fl : Nat} {ph : Ph} {cs : List S49} {nA : Nat} {s : St} (H : MachIn w lo hi fl ph cs nA s) (hbad : s.bad = none) (hhi : hi ≤ w.heap.size) {v1 : Value} (hg : w.grownBy w1 ph.hA.ownBlock)
    (ho : w1.ownsRow lo 22 1 v1 (nA + 1) ((List.range (nA + 1)).map fun i => ph.rv (3 + 2 * i))) : MachIn (w1.setCell ⟨ph.bm, 6, none⟩ v1) lo w1.heap.size w1.heap.size { ph with hA := v1 } cs (nA + 1) s := by
  obtain ⟨fp, hm, hf⟩ := H.hm
  have le1 : hi ≤ w1.heap.size := Nat.le_trans hhi hg.size
  have hbt : ∀ i, i < cs.length → ph.tb i ≠ ph.bm := fun i h e => by
    have h1 := (H.th i h).1
    rw [e, hm] at h1
    injection h1 with h1; injection h1 with _ h1 _; exact absurd h1 (by decide)
  refine ⟨⟨fp, ?_, ?_⟩, ⟨H.bm.1, Nat.lt_of_lt_of_le H.bm.2 le1⟩, Nat.le_refl _, push_own H.hA hg hm H.hT (by decide) (by decide), fun b h => Nat.lt_of_lt_of_le (H.hTl b h) le1, ?_, ?_, fun i h => ⟨?_, (H.th i h).2.1, Nat.lt_of_lt_of_le (H.th i h).2.2 le1⟩, H.inj,
    fun i h => Kd.R_mono (push_code H.hA hg hm (H.code i h) (by decide)) (fun k hk => Nat.lt_of_lt_of_le hk le1), fun j => push_own H.hA hg hm (H.rows j) (by decide) (by decide), fun k b h => Nat.lt_of_lt_of_le (H.rlt k b h) le1, H.apart⟩
  · exact blk_put (blk_keep hm hg (row_ne H.hA hm (by decide))) 6 v1 rfl
  · rw [hbad] at hf ⊢; exact hf
  · refine own_move ho (fun k hk => ?_)
    obtain ⟨c, hc⟩ := own_typed ho k hk
    refine Below.heap_setCell w1 _ v1 k (fun e => ?_)
    have e : k = ph.bm := e
    subst e
    rw [blk_keep hm hg (row_ne H.hA hm (by decide))] at hc
    injection hc with hc; injection hc with _ hc _; exact absurd hc (by decide)
  · intro b hb
    exact (ho.lt b hb).2
  · exact push_keep H.hA hg (H.th i h).1 (by decide) (hbt i h)
theorem MachIn.pushO {w w1 : World} {lo hi fl : Nat} {ph : Ph} {cs : List S49} {nA : Nat} {s : St} (H : MachIn w lo hi fl ph cs nA s) (hbad : s.bad = none) (hhi : hi ≤ w.heap.size) {v1 : Value} {xs : List Int} (hg : w.grownBy w1 (ph.rv 1).ownBlock)
    (ho : w1.ownsRow lo 3 1 v1 xs.length (nums .i64 xs)) (hat : v1.ownBlock = (ph.rv 1).ownBlock ∨ ∃ b, v1.ownBlock = some b ∧ w.heap.size ≤ b) : MachIn (w1.setCell ⟨ph.bm, 7, none⟩ v1) lo w1.heap.size w1.heap.size (ph.setRv 1 v1) cs nA (s.setRow 1 xs) := by
  obtain ⟨fp, hm, hf⟩ := H.hm
  have le1 : hi ≤ w1.heap.size := Nat.le_trans hhi hg.size
  have hbt : ∀ i, i < cs.length → ph.tb i ≠ ph.bm := fun i h e => by
    have h1 := (H.th i h).1
    rw [e, hm] at h1
    injection h1 with h1; injection h1 with _ h1 _; exact absurd h1 (by decide)
  have e : ∀ j, j ≠ 1 → (ph.setRv 1 v1).rv j = ph.rv j := fun j hj => if_neg hj
  have es : ∀ j, j ≠ 1 → (s.setRow 1 xs).row j = s.row j := fun j hj => if_neg hj
  have e1 : (ph.setRv 1 v1).rv 1 = v1 := by simp [Ph.setRv]
  have es1 : (s.setRow 1 xs).row 1 = xs := by simp [St.setRow]
  have hrow : ∀ j, j ≠ 1 → (w1.setCell ⟨ph.bm, 7, none⟩ v1).ownsRow lo 3 1 (ph.rv j) (s.row j).length (nums .i64 (s.row j)) := fun j hj =>
    own_move (H.rows j) (fun k hk => by
      obtain ⟨c, hc⟩ := own_typed (H.rows j) k hk
      have h1 : w1.heap[k]? = some (.cells c 3 (0, 0)) := blk_keep hc hg (fun h => by
        rcases H.apart j 1 hj with h2 | h2
        · rw [h2] at hk; cases hk
        · exact h2 (hk.trans h.symm))
      exact (blk_far h1 (fun ek => by subst ek; rw [hm] at hc; injection hc with hc; injection hc with _ hc _; exact absurd hc (by decide)) v1).trans hc.symm)
  refine ⟨⟨fp, ?_, ?_⟩, ⟨H.bm.1, Nat.lt_of_lt_of_le H.bm.2 le1⟩, Nat.le_refl _, push_own (H.rows 1) hg hm H.hT (by decide) (by decide), fun b h => Nat.lt_of_lt_of_le (H.hTl b h) le1, ?_, fun b h => Nat.lt_of_lt_of_le (H.hAl b h) le1, fun i h => ⟨?_, (H.th i h).2.1, Nat.lt_of_lt_of_le (H.th i h).2.2 le1⟩, H.inj,
    fun i h => Kd.R_mono (push_code (H.rows 1) hg hm (H.code i h) (by decide)) (fun k hk => Nat.lt_of_lt_of_le hk le1), fun j => ?_, fun k b h => ?_, fun i j hij => ?_⟩
  · rw [e 0 (by omega), e1]
    exact blk_put (blk_keep hm hg (row_ne (H.rows 1) hm (by decide))) 7 v1 rfl
  · show faulty _ _ _ s.bad
    rw [hbad] at hf ⊢; exact hf
  · have : (List.range nA).map (fun i => (ph.setRv 1 v1).rv (3 + 2 * i)) = (List.range nA).map fun i => ph.rv (3 + 2 * i) := List.map_congr_left fun i _ => e _ (by omega)
    rw [this]
    exact push_own (H.rows 1) hg hm H.hA (by decide) (by decide)
  · rw [e _ (by omega)]
    exact push_keep (H.rows 1) hg (H.th i h).1 (by decide) (hbt i h)
  · by_cases hj : j = 1
    · subst hj
      rw [e1, es1]
      refine own_move ho (fun k hk => ?_)
      obtain ⟨c, hc⟩ := own_typed ho k hk
      refine Below.heap_setCell w1 _ v1 k (fun e => ?_)
      have e : k = ph.bm := e
      subst e
      rw [blk_keep hm hg (row_ne (H.rows 1) hm (by decide))] at hc
      injection hc with hc; injection hc with _ hc _; exact absurd hc (by decide)
    · rw [e j hj, es j hj]
      exact hrow j hj
  · by_cases hj : k = 1
    · subst hj
      rw [e1] at h
      exact (ho.lt b h).2
    · rw [e k hj] at h
      exact Nat.lt_of_lt_of_le (H.rlt k b h) le1
  · have far : ∀ j, j ≠ 1 → v1.ownBlock = none ∨ v1.ownBlock ≠ (ph.rv j).ownBlock := fun j hj => by
      rcases hat with h2 | ⟨b, h2, hb⟩
      · rw [h2]
        exact H.apart 1 j (Ne.symm hj)
      · refine .inr fun he => ?_
        have h3 := H.rlt j b (he.symm.trans h2)
        omega
    by_cases hi' : i = 1
    · subst hi'
      rw [e1, e j (Ne.symm hij)]
      exact far j (Ne.symm hij)
    · rw [e i hi']
      by_cases hj' : j = 1
      · subst hj'
        rw [e1]
        rcases far i hi' with h2 | h2
        · rw [h2]
          cases hv : (ph.rv i).ownBlock with
          | none => exact .inl rfl
          | some b => exact .inr (by simp)
        · exact .inr (Ne.symm h2)
      · rw [e j hj']
        exact H.apart i j hij
theorem MachIn.pushT {w w1 : World} {lo hi fl : Nat} {ph : Ph} {cs : List S49} {nA : Nat} {s : St} (H : MachIn w lo hi fl ph cs nA s) (hbad : s.bad = none) (hhi : hi ≤ w.heap.size) (c : S49) (b : Nat) (u : Value) (hpc : s.pc cs.length = 0)
    (hb : w.heap[b]? = some (.cells #[ph.rv (4 + 2 * cs.length), .int .i64 c.f0, u, .int .i64 0] 85 (0, 0))) (hbl : hi ≤ b) (hlo : lo ≤ b) (hc : k33.R 33 w lo (fun _ => True) u c.f1) {v1 : Value} (hg : w.grownBy w1 ph.hT.ownBlock)
    (ho : w1.ownsRow lo 80 1 v1 (cs.length + 1) ((List.range (cs.length + 1)).map fun i => .pointer (some ⟨if i = cs.length then b else ph.tb i, 0, none⟩))) :
    MachIn (w1.setCell ⟨ph.bm, 4, none⟩ v1) lo w1.heap.size w1.heap.size { ph with hT := v1, tb := fun i => if i = cs.length then b else ph.tb i, cv := fun i => if i = cs.length then u else ph.cv i } (cs ++ [c]) nA s := by
  obtain ⟨fp, hm, hf⟩ := H.hm
  have le1 : hi ≤ w1.heap.size := Nat.le_trans hhi hg.size
  have hbw : b < w.heap.size := blk_lt hb
  have hbt : ∀ i, i < cs.length → ph.tb i ≠ ph.bm := fun i h e => by
    have h1 := (H.th i h).1
    rw [e, hm] at h1
    injection h1 with h1; injection h1 with _ h1 _; exact absurd h1 (by decide)
  have hl : (cs ++ [c]).length = cs.length + 1 := by simp
  have hcb : k33.R 33 w lo (fun k => k < w.heap.size) u c.f1 := Kd.R_mono (Kd.R_bound hc) (fun k hk => hk.2.2.1)
  refine ⟨⟨fp, ?_, ?_⟩, ⟨H.bm.1, Nat.lt_of_lt_of_le H.bm.2 le1⟩, Nat.le_refl _, ?_, ?_, push_own H.hT hg hm H.hA (by decide) (by decide), fun b h => Nat.lt_of_lt_of_le (H.hAl b h) le1, fun i h => ?_, fun i j hi' hj' hij => ?_,
    fun i h => ?_, fun j => push_own H.hT hg hm (H.rows j) (by decide) (by decide), fun k b h => Nat.lt_of_lt_of_le (H.rlt k b h) le1, H.apart⟩
  · exact blk_put (blk_keep hm hg (row_ne H.hT hm (by decide))) 4 v1 rfl
  · rw [hbad] at hf ⊢; exact hf
  · rw [hl]
    refine own_move ho (fun k hk => ?_)
    obtain ⟨c, hc⟩ := own_typed ho k hk
    refine Below.heap_setCell w1 _ v1 k (fun e => ?_)
    have e : k = ph.bm := e
    subst e
    rw [blk_keep hm hg (row_ne H.hT hm (by decide))] at hc
    injection hc with hc; injection hc with _ hc _; exact absurd hc (by decide)
  · intro b hb
    exact (ho.lt b hb).2
  · by_cases hi' : i = cs.length
    · subst hi'
      have e1 : (cs ++ [c])[cs.length]'h = c := by simp
      simp only [if_true, e1]
      refine ⟨?_, hlo, Nat.lt_of_lt_of_le hbw hg.size⟩
      rw [hpc]
      exact push_keep H.hT hg hb (by decide) (fun e => by
        subst e
        rw [hm] at hb
        injection hb with hb; injection hb with _ hb _; exact absurd hb (by decide))
    · have hlt : i < cs.length := by rw [hl] at h; omega
      have e1 : (cs ++ [c])[i]'h = cs[i] := by simp [List.getElem_append, hlt]
      simp only [if_neg hi', e1]
      exact ⟨push_keep H.hT hg (H.th i hlt).1 (by decide) (hbt i hlt), (H.th i hlt).2.1, Nat.lt_of_lt_of_le (H.th i hlt).2.2 le1⟩
  · rw [hl] at hi' hj'
    by_cases h1 : i = cs.length
    · have h2 : j ≠ cs.length := fun e => hij (h1.trans e.symm)
      simp only [if_pos h1, if_neg h2]
      intro e
      have := (H.th j (by omega)).2.2
      omega
    · by_cases h2 : j = cs.length
      · simp only [if_pos h2, if_neg h1]
        intro e
        have := (H.th i (by omega)).2.2
        omega
      · simp only [if_neg h1, if_neg h2]
        exact H.inj i j (by omega) (by omega) hij
  · by_cases hi' : i = cs.length
    · subst hi'
      have e1 : (cs ++ [c])[cs.length]'h = c := by simp
      simp only [if_true, e1]
      exact Kd.R_mono (push_code H.hT hg hm hcb (by decide)) (fun k hk => Nat.lt_of_lt_of_le hk hg.size)
    · have hlt : i < cs.length := by rw [hl] at h; omega
      have e1 : (cs ++ [c])[i]'h = cs[i] := by simp [List.getElem_append, hlt]
      simp only [if_neg hi', e1]
      exact Kd.R_mono (push_code H.hT hg hm (H.code i hlt) (by decide)) (fun k hk => Nat.lt_of_lt_of_le hk le1)
end
section
theorem size_alloc2 (w : World) (o : Obj) : (w.alloc o).heap.size = w.heap.size + 1 := by simp
set_option maxHeartbeats 4000000 in
set_option maxRecDepth 100000 in
theorem named_1 (w : World) (a : S33) (k1 : a.f0 = 1) :
    Calls Try.prog 77 #[actV a] w fun e w' => e = .returned (actV ⟨a.f0, a.f1, 0, 0, 0, a.f5, 0, a.f7, 0⟩) ∧ Below w.heap.size w w' := by
  have kb1 : (a.f0 == 1) = true := beq_iff_eq.mpr k1
  clear k1
  have hW : Below w.heap.size w ((((w.alloc (.cells #[.int .i64 a.f0, .int .i64 a.f1, .int .i64 a.f2, .int .i64 a.f3, .int .i64 a.f4, .int .i64 a.f5, .int .i64 a.f6, .int .i64 a.f7, .int .i64 a.f8] 33)).alloc (.cells #[.int .i64 0, .int .i64 0, .int .i64 0, .int .i64 0, .int .i64 0, .int .i64 0, .int .i64 0, .int .i64 0, .int .i64 0] 33)).alloc (.cells #[.int .i64 a.f0, .int .i64 a.f1, .int .i64 0, .int .i64 0, .int .i64 0, .int .i64 a.f5, .int .i64 0, .int .i64 a.f7, .int .i64 0] 33)).drew) := below_drew (below_alloc (below_alloc (below_alloc (Below.refl _ w) _) _) _)
  have hX : ((((w.alloc (.cells #[.int .i64 a.f0, .int .i64 a.f1, .int .i64 a.f2, .int .i64 a.f3, .int .i64 a.f4, .int .i64 a.f5, .int .i64 a.f6, .int .i64 a.f7, .int .i64 a.f8] 33)).alloc (.cells #[.int .i64 0, .int .i64 0, .int .i64 0, .int .i64 0, .int .i64 0, .int .i64 0, .int .i64 0, .int .i64 0, .int .i64 0] 33)).alloc (.cells #[.int .i64 a.f0, .int .i64 a.f1, .int .i64 0, .int .i64 0, .int .i64 0, .int .i64 a.f5, .int .i64 0, .int .i64 a.f7, .int .i64 0] 33)).drew).heap[w.heap.size + 1 + 1]? = some (.cells #[.int .i64 a.f0, .int .i64 a.f1, .int .i64 0, .int .i64 0, .int .i64 0, .int .i64 a.f5, .int .i64 0, .int .i64 a.f7, .int .i64 0] 33 (0, 0)) := by
    have h := heap_alloc_new ((w.alloc (.cells #[.int .i64 a.f0, .int .i64 a.f1, .int .i64 a.f2, .int .i64 a.f3, .int .i64 a.f4, .int .i64 a.f5, .int .i64 a.f6, .int .i64 a.f7, .int .i64 a.f8] 33)).alloc (.cells #[.int .i64 0, .int .i64 0, .int .i64 0, .int .i64 0, .int .i64 0, .int .i64 0, .int .i64 0, .int .i64 0, .int .i64 0] 33)) (.cells #[.int .i64 a.f0, .int .i64 a.f1, .int .i64 0, .int .i64 0, .int .i64 0, .int .i64 a.f5, .int .i64 0, .int .i64 a.f7, .int .i64 0] 33)
    simp only [size_alloc2] at h
    exact h
  have hR : ((((w.alloc (.cells #[.int .i64 a.f0, .int .i64 a.f1, .int .i64 a.f2, .int .i64 a.f3, .int .i64 a.f4, .int .i64 a.f5, .int .i64 a.f6, .int .i64 a.f7, .int .i64 a.f8] 33)).alloc (.cells #[.int .i64 0, .int .i64 0, .int .i64 0, .int .i64 0, .int .i64 0, .int .i64 0, .int .i64 0, .int .i64 0, .int .i64 0] 33)).alloc (.cells #[.int .i64 a.f0, .int .i64 a.f1, .int .i64 0, .int .i64 0, .int .i64 0, .int .i64 a.f5, .int .i64 0, .int .i64 a.f7, .int .i64 0] 33)).drew).heap[w.heap.size + 1]? = some (.cells #[.int .i64 0, .int .i64 0, .int .i64 0, .int .i64 0, .int .i64 0, .int .i64 0, .int .i64 0, .int .i64 0, .int .i64 0] 33 (0, 0)) := by
    have h := below_read (below_alloc (Below.refl _ ((w.alloc (.cells #[.int .i64 a.f0, .int .i64 a.f1, .int .i64 a.f2, .int .i64 a.f3, .int .i64 a.f4, .int .i64 a.f5, .int .i64 a.f6, .int .i64 a.f7, .int .i64 a.f8] 33)).alloc (.cells #[.int .i64 0, .int .i64 0, .int .i64 0, .int .i64 0, .int .i64 0, .int .i64 0, .int .i64 0, .int .i64 0, .int .i64 0] 33))) (.cells #[.int .i64 a.f0, .int .i64 a.f1, .int .i64 0, .int .i64 0, .int .i64 0, .int .i64 a.f5, .int .i64 0, .int .i64 a.f7, .int .i64 0] 33)) (heap_alloc_new (w.alloc (.cells #[.int .i64 a.f0, .int .i64 a.f1, .int .i64 a.f2, .int .i64 a.f3, .int .i64 a.f4, .int .i64 a.f5, .int .i64 a.f6, .int .i64 a.f7, .int .i64 a.f8] 33)) (.cells #[.int .i64 0, .int .i64 0, .int .i64 0, .int .i64 0, .int .i64 0, .int .i64 0, .int .i64 0, .int .i64 0, .int .i64 0] 33))
    simp only [size_alloc2] at h
    exact h
  unfold actV
  go_enter Try.func77, Try.ntmps77
  go_wp2_with fail
  go_region
  generalize World.drew _ = w2 at *
  have hx0 := (blk_cell hX 0).trans rfl
  have hx1 := (blk_cell hX 1).trans rfl
  have hx2 := (blk_cell hX 2).trans rfl
  have hx3 := (blk_cell hX 3).trans rfl
  have hx4 := (blk_cell hX 4).trans rfl
  have hx5 := (blk_cell hX 5).trans rfl
  have hx6 := (blk_cell hX 6).trans rfl
  have hx7 := (blk_cell hX 7).trans rfl
  have hx8 := (blk_cell hX 8).trans rfl
  clear hX
  go_wp2_with (first | ((with_reducible refine gate_store (t := 33) (p := 2) rfl ?_); refine put_row ?hg ?hn 33 (.tmp 2) (.tmp 104) ?ho (w.heap.size + 1) 33 _ (actC (⟨a.f0, a.f1, 0, 0, 0, a.f5, 0, a.f7, 0⟩ : S33)) ?hp ?hx ?hu hR ?ht ?hs ?h1 ?_; (case hg => rfl); (case hn => rfl); (case ho => rfl); (case hp => rfl); (case hx => rfl); (case hu => rfl); (case ht => kernel_rfl); (case hs => rfl); (case h1 => exact actC_one (⟨a.f0, a.f1, 0, 0, 0, a.f5, 0, a.f7, 0⟩ : S33)); intro w3 hR2 hG))
  refine bodyPost_ret (results_cell_row rfl _ _ (w.heap.size + 1) 33 _ (0, 0) _ rfl hR2 Try.underlying33 rfl (by kernel_rfl)) rfl ?_
  exact ⟨rfl, hW.grown hG hW.size (fun k hk => by injection hk with hk; omega)⟩
set_option maxHeartbeats 4000000 in
set_option maxRecDepth 100000 in
theorem named_2 (w : World) (a : S33) (k1 : a.f0 = 2) :
    Calls Try.prog 77 #[actV a] w fun e w' => e = .returned (actV ⟨a.f0, a.f1, a.f2, 0, 0, 0, 0, a.f7, 0⟩) ∧ Below w.heap.size w w' := by
  have kb1 : (a.f0 == 1) = false := beq_eq_false_iff_ne.mpr (by omega)
  have kb2 : (a.f0 == 2) = true := beq_iff_eq.mpr k1
  clear k1
  have hW : Below w.heap.size w ((((w.alloc (.cells #[.int .i64 a.f0, .int .i64 a.f1, .int .i64 a.f2, .int .i64 a.f3, .int .i64 a.f4, .int .i64 a.f5, .int .i64 a.f6, .int .i64 a.f7, .int .i64 a.f8] 33)).alloc (.cells #[.int .i64 0, .int .i64 0, .int .i64 0, .int .i64 0, .int .i64 0, .int .i64 0, .int .i64 0, .int .i64 0, .int .i64 0] 33)).alloc (.cells #[.int .i64 a.f0, .int .i64 a.f1, .int .i64 a.f2, .int .i64 0, .int .i64 0, .int .i64 0, .int .i64 0, .int .i64 a.f7, .int .i64 0] 33)).drew) := below_drew (below_alloc (below_alloc (below_alloc (Below.refl _ w) _) _) _)
  have hX : ((((w.alloc (.cells #[.int .i64 a.f0, .int .i64 a.f1, .int .i64 a.f2, .int .i64 a.f3, .int .i64 a.f4, .int .i64 a.f5, .int .i64 a.f6, .int .i64 a.f7, .int .i64 a.f8] 33)).alloc (.cells #[.int .i64 0, .int .i64 0, .int .i64 0, .int .i64 0, .int .i64 0, .int .i64 0, .int .i64 0, .int .i64 0, .int .i64 0] 33)).alloc (.cells #[.int .i64 a.f0, .int .i64 a.f1, .int .i64 a.f2, .int .i64 0, .int .i64 0, .int .i64 0, .int .i64 0, .int .i64 a.f7, .int .i64 0] 33)).drew).heap[w.heap.size + 1 + 1]? = some (.cells #[.int .i64 a.f0, .int .i64 a.f1, .int .i64 a.f2, .int .i64 0, .int .i64 0, .int .i64 0, .int .i64 0, .int .i64 a.f7, .int .i64 0] 33 (0, 0)) := by
    have h := heap_alloc_new ((w.alloc (.cells #[.int .i64 a.f0, .int .i64 a.f1, .int .i64 a.f2, .int .i64 a.f3, .int .i64 a.f4, .int .i64 a.f5, .int .i64 a.f6, .int .i64 a.f7, .int .i64 a.f8] 33)).alloc (.cells #[.int .i64 0, .int .i64 0, .int .i64 0, .int .i64 0, .int .i64 0, .int .i64 0, .int .i64 0, .int .i64 0, .int .i64 0] 33)) (.cells #[.int .i64 a.f0, .int .i64 a.f1, .int .i64 a.f2, .int .i64 0, .int .i64 0, .int .i64 0, .int .i64 0, .int .i64 a.f7, .int .i64 0] 33)
    simp only [size_alloc2] at h
    exact h
  have hR : ((((w.alloc (.cells #[.int .i64 a.f0, .int .i64 a.f1, .int .i64 a.f2, .int .i64 a.f3, .int .i64 a.f4, .int .i64 a.f5, .int .i64 a.f6, .int .i64 a.f7, .int .i64 a.f8] 33)).alloc (.cells #[.int .i64 0, .int .i64 0, .int .i64 0, .int .i64 0, .int .i64 0, .int .i64 0, .int .i64 0, .int .i64 0, .int .i64 0] 33)).alloc (.cells #[.int .i64 a.f0, .int .i64 a.f1, .int .i64 a.f2, .int .i64 0, .int .i64 0, .int .i64 0, .int .i64 0, .int .i64 a.f7, .int .i64 0] 33)).drew).heap[w.heap.size + 1]? = some (.cells #[.int .i64 0, .int .i64 0, .int .i64 0, .int .i64 0, .int .i64 0, .int .i64 0, .int .i64 0, .int .i64 0, .int .i64 0] 33 (0, 0)) := by
    have h := below_read (below_alloc (Below.refl _ ((w.alloc (.cells #[.int .i64 a.f0, .int .i64 a.f1, .int .i64 a.f2, .int .i64 a.f3, .int .i64 a.f4, .int .i64 a.f5, .int .i64 a.f6, .int .i64 a.f7, .int .i64 a.f8] 33)).alloc (.cells #[.int .i64 0, .int .i64 0, .int .i64 0, .int .i64 0, .int .i64 0, .int .i64 0, .int .i64 0, .int .i64 0, .int .i64 0] 33))) (.cells #[.int .i64 a.f0, .int .i64 a.f1, .int .i64 a.f2, .int .i64 0, .int .i64 0, .int .i64 0, .int .i64 0, .int .i64 a.f7, .int .i64 0] 33)) (heap_alloc_new (w.alloc (.cells #[.int .i64 a.f0, .int .i64 a.f1, .int .i64 a.f2, .int .i64 a.f3, .int .i64 a.f4, .int .i64 a.f5, .int .i64 a.f6, .int .i64 a.f7, .int .i64 a.f8] 33)) (.cells #[.int .i64 0, .int .i64 0, .int .i64 0, .int .i64 0, .int .i64 0, .int .i64 0, .int .i64 0, .int .i64 0, .int .i64 0] 33))
    simp only [size_alloc2] at h
    exact h
  unfold actV
  go_enter Try.func77, Try.ntmps77
  go_wp2_with fail
  go_region
  generalize World.drew _ = w2 at *
  have hx0 := (blk_cell hX 0).trans rfl
  have hx1 := (blk_cell hX 1).trans rfl
  have hx2 := (blk_cell hX 2).trans rfl
  have hx3 := (blk_cell hX 3).trans rfl
  have hx4 := (blk_cell hX 4).trans rfl
  have hx5 := (blk_cell hX 5).trans rfl
  have hx6 := (blk_cell hX 6).trans rfl
  have hx7 := (blk_cell hX 7).trans rfl
  have hx8 := (blk_cell hX 8).trans rfl
  clear hX
  go_wp2_with (first | ((with_reducible refine gate_store (t := 33) (p := 2) rfl ?_); refine put_row ?hg ?hn 33 (.tmp 2) (.tmp 104) ?ho (w.heap.size + 1) 33 _ (actC (⟨a.f0, a.f1, a.f2, 0, 0, 0, 0, a.f7, 0⟩ : S33)) ?hp ?hx ?hu hR ?ht ?hs ?h1 ?_; (case hg => rfl); (case hn => rfl); (case ho => rfl); (case hp => rfl); (case hx => rfl); (case hu => rfl); (case ht => kernel_rfl); (case hs => rfl); (case h1 => exact actC_one (⟨a.f0, a.f1, a.f2, 0, 0, 0, 0, a.f7, 0⟩ : S33)); intro w3 hR2 hG))
  refine bodyPost_ret (results_cell_row rfl _ _ (w.heap.size + 1) 33 _ (0, 0) _ rfl hR2 Try.underlying33 rfl (by kernel_rfl)) rfl ?_
  exact ⟨rfl, hW.grown hG hW.size (fun k hk => by injection hk with hk; omega)⟩
set_option maxHeartbeats 4000000 in
set_option maxRecDepth 100000 in
theorem named_3 (w : World) (a : S33) (k1 : a.f0 = 3) :
    Calls Try.prog 77 #[actV a] w fun e w' => e = .returned (actV ⟨a.f0, a.f1, 0, 0, 0, 0, 0, a.f7, 0⟩) ∧ Below w.heap.size w w' := by
  have kb1 : (a.f0 == 1) = false := beq_eq_false_iff_ne.mpr (by omega)
  have kb2 : (a.f0 == 2) = false := beq_eq_false_iff_ne.mpr (by omega)
  have kb3 : (a.f0 == 3) = true := beq_iff_eq.mpr k1
  clear k1
  have hW : Below w.heap.size w ((((w.alloc (.cells #[.int .i64 a.f0, .int .i64 a.f1, .int .i64 a.f2, .int .i64 a.f3, .int .i64 a.f4, .int .i64 a.f5, .int .i64 a.f6, .int .i64 a.f7, .int .i64 a.f8] 33)).alloc (.cells #[.int .i64 0, .int .i64 0, .int .i64 0, .int .i64 0, .int .i64 0, .int .i64 0, .int .i64 0, .int .i64 0, .int .i64 0] 33)).alloc (.cells #[.int .i64 a.f0, .int .i64 a.f1, .int .i64 0, .int .i64 0, .int .i64 0, .int .i64 0, .int .i64 0, .int .i64 a.f7, .int .i64 0] 33))) := (below_alloc (below_alloc (below_alloc (Below.refl _ w) _) _) _)
  have hX : ((((w.alloc (.cells #[.int .i64 a.f0, .int .i64 a.f1, .int .i64 a.f2, .int .i64 a.f3, .int .i64 a.f4, .int .i64 a.f5, .int .i64 a.f6, .int .i64 a.f7, .int .i64 a.f8] 33)).alloc (.cells #[.int .i64 0, .int .i64 0, .int .i64 0, .int .i64 0, .int .i64 0, .int .i64 0, .int .i64 0, .int .i64 0, .int .i64 0] 33)).alloc (.cells #[.int .i64 a.f0, .int .i64 a.f1, .int .i64 0, .int .i64 0, .int .i64 0, .int .i64 0, .int .i64 0, .int .i64 a.f7, .int .i64 0] 33))).heap[w.heap.size + 1 + 1]? = some (.cells #[.int .i64 a.f0, .int .i64 a.f1, .int .i64 0, .int .i64 0, .int .i64 0, .int .i64 0, .int .i64 0, .int .i64 a.f7, .int .i64 0] 33 (0, 0)) := by
    have h := heap_alloc_new ((w.alloc (.cells #[.int .i64 a.f0, .int .i64 a.f1, .int .i64 a.f2, .int .i64 a.f3, .int .i64 a.f4, .int .i64 a.f5, .int .i64 a.f6, .int .i64 a.f7, .int .i64 a.f8] 33)).alloc (.cells #[.int .i64 0, .int .i64 0, .int .i64 0, .int .i64 0, .int .i64 0, .int .i64 0, .int .i64 0, .int .i64 0, .int .i64 0] 33)) (.cells #[.int .i64 a.f0, .int .i64 a.f1, .int .i64 0, .int .i64 0, .int .i64 0, .int .i64 0, .int .i64 0, .int .i64 a.f7, .int .i64 0] 33)
    simp only [size_alloc2] at h
    exact h
  have hR : ((((w.alloc (.cells #[.int .i64 a.f0, .int .i64 a.f1, .int .i64 a.f2, .int .i64 a.f3, .int .i64 a.f4, .int .i64 a.f5, .int .i64 a.f6, .int .i64 a.f7, .int .i64 a.f8] 33)).alloc (.cells #[.int .i64 0, .int .i64 0, .int .i64 0, .int .i64 0, .int .i64 0, .int .i64 0, .int .i64 0, .int .i64 0, .int .i64 0] 33)).alloc (.cells #[.int .i64 a.f0, .int .i64 a.f1, .int .i64 0, .int .i64 0, .int .i64 0, .int .i64 0, .int .i64 0, .int .i64 a.f7, .int .i64 0] 33))).heap[w.heap.size + 1]? = some (.cells #[.int .i64 0, .int .i64 0, .int .i64 0, .int .i64 0, .int .i64 0, .int .i64 0, .int .i64 0, .int .i64 0, .int .i64 0] 33 (0, 0)) := by
    have h := below_read (below_alloc (Below.refl _ ((w.alloc (.cells #[.int .i64 a.f0, .int .i64 a.f1, .int .i64 a.f2, .int .i64 a.f3, .int .i64 a.f4, .int .i64 a.f5, .int .i64 a.f6, .int .i64 a.f7, .int .i64 a.f8] 33)).alloc (.cells #[.int .i64 0, .int .i64 0, .int .i64 0, .int .i64 0, .int .i64 0, .int .i64 0, .int .i64 0, .int .i64 0, .int .i64 0] 33))) (.cells #[.int .i64 a.f0, .int .i64 a.f1, .int .i64 0, .int .i64 0, .int .i64 0, .int .i64 0, .int .i64 0, .int .i64 a.f7, .int .i64 0] 33)) (heap_alloc_new (w.alloc (.cells #[.int .i64 a.f0, .int .i64 a.f1, .int .i64 a.f2, .int .i64 a.f3, .int .i64 a.f4, .int .i64 a.f5, .int .i64 a.f6, .int .i64 a.f7, .int .i64 a.f8] 33)) (.cells #[.int .i64 0, .int .i64 0, .int .i64 0, .int .i64 0, .int .i64 0, .int .i64 0, .int .i64 0, .int .i64 0, .int .i64 0] 33))
    simp only [size_alloc2] at h
    exact h
  unfold actV
  go_enter Try.func77, Try.ntmps77
  clear hX
  go_wp2_with (first | ((with_reducible refine gate_store (t := 33) (p := 2) rfl ?_); refine put_row ?hg ?hn 33 (.tmp 2) (.tmp 104) ?ho (w.heap.size + 1) 33 _ (actC (⟨a.f0, a.f1, 0, 0, 0, 0, 0, a.f7, 0⟩ : S33)) ?hp ?hx ?hu hR ?ht ?hs ?h1 ?_; (case hg => rfl); (case hn => rfl); (case ho => rfl); (case hp => rfl); (case hx => rfl); (case hu => rfl); (case ht => kernel_rfl); (case hs => rfl); (case h1 => exact actC_one (⟨a.f0, a.f1, 0, 0, 0, 0, 0, a.f7, 0⟩ : S33)); intro w3 hR2 hG))
  refine bodyPost_ret (results_cell_row rfl _ _ (w.heap.size + 1) 33 _ (0, 0) _ rfl hR2 Try.underlying33 rfl (by kernel_rfl)) rfl ?_
  exact ⟨rfl, hW.grown hG hW.size (fun k hk => by injection hk with hk; omega)⟩
set_option maxHeartbeats 4000000 in
set_option maxRecDepth 100000 in
theorem named_4 (w : World) (a : S33) (k1 : a.f0 = 4) :
    Calls Try.prog 77 #[actV a] w fun e w' => e = .returned (actV ⟨a.f0, a.f1, a.f2, a.f3, 0, 0, a.f6, a.f7, 0⟩) ∧ Below w.heap.size w w' := by
  have kb1 : (a.f0 == 1) = false := beq_eq_false_iff_ne.mpr (by omega)
  have kb2 : (a.f0 == 2) = false := beq_eq_false_iff_ne.mpr (by omega)
  have kb3 : (a.f0 == 3) = false := beq_eq_false_iff_ne.mpr (by omega)
  have kb4 : (a.f0 == 4) = true := beq_iff_eq.mpr k1
  clear k1
  have hW : Below w.heap.size w ((((w.alloc (.cells #[.int .i64 a.f0, .int .i64 a.f1, .int .i64 a.f2, .int .i64 a.f3, .int .i64 a.f4, .int .i64 a.f5, .int .i64 a.f6, .int .i64 a.f7, .int .i64 a.f8] 33)).alloc (.cells #[.int .i64 0, .int .i64 0, .int .i64 0, .int .i64 0, .int .i64 0, .int .i64 0, .int .i64 0, .int .i64 0, .int .i64 0] 33)).alloc (.cells #[.int .i64 a.f0, .int .i64 a.f1, .int .i64 a.f2, .int .i64 a.f3, .int .i64 0, .int .i64 0, .int .i64 a.f6, .int .i64 a.f7, .int .i64 0] 33)).drew) := below_drew (below_alloc (below_alloc (below_alloc (Below.refl _ w) _) _) _)
  have hX : ((((w.alloc (.cells #[.int .i64 a.f0, .int .i64 a.f1, .int .i64 a.f2, .int .i64 a.f3, .int .i64 a.f4, .int .i64 a.f5, .int .i64 a.f6, .int .i64 a.f7, .int .i64 a.f8] 33)).alloc (.cells #[.int .i64 0, .int .i64 0, .int .i64 0, .int .i64 0, .int .i64 0, .int .i64 0, .int .i64 0, .int .i64 0, .int .i64 0] 33)).alloc (.cells #[.int .i64 a.f0, .int .i64 a.f1, .int .i64 a.f2, .int .i64 a.f3, .int .i64 0, .int .i64 0, .int .i64 a.f6, .int .i64 a.f7, .int .i64 0] 33)).drew).heap[w.heap.size + 1 + 1]? = some (.cells #[.int .i64 a.f0, .int .i64 a.f1, .int .i64 a.f2, .int .i64 a.f3, .int .i64 0, .int .i64 0, .int .i64 a.f6, .int .i64 a.f7, .int .i64 0] 33 (0, 0)) := by
    have h := heap_alloc_new ((w.alloc (.cells #[.int .i64 a.f0, .int .i64 a.f1, .int .i64 a.f2, .int .i64 a.f3, .int .i64 a.f4, .int .i64 a.f5, .int .i64 a.f6, .int .i64 a.f7, .int .i64 a.f8] 33)).alloc (.cells #[.int .i64 0, .int .i64 0, .int .i64 0, .int .i64 0, .int .i64 0, .int .i64 0, .int .i64 0, .int .i64 0, .int .i64 0] 33)) (.cells #[.int .i64 a.f0, .int .i64 a.f1, .int .i64 a.f2, .int .i64 a.f3, .int .i64 0, .int .i64 0, .int .i64 a.f6, .int .i64 a.f7, .int .i64 0] 33)
    simp only [size_alloc2] at h
    exact h
  have hR : ((((w.alloc (.cells #[.int .i64 a.f0, .int .i64 a.f1, .int .i64 a.f2, .int .i64 a.f3, .int .i64 a.f4, .int .i64 a.f5, .int .i64 a.f6, .int .i64 a.f7, .int .i64 a.f8] 33)).alloc (.cells #[.int .i64 0, .int .i64 0, .int .i64 0, .int .i64 0, .int .i64 0, .int .i64 0, .int .i64 0, .int .i64 0, .int .i64 0] 33)).alloc (.cells #[.int .i64 a.f0, .int .i64 a.f1, .int .i64 a.f2, .int .i64 a.f3, .int .i64 0, .int .i64 0, .int .i64 a.f6, .int .i64 a.f7, .int .i64 0] 33)).drew).heap[w.heap.size + 1]? = some (.cells #[.int .i64 0, .int .i64 0, .int .i64 0, .int .i64 0, .int .i64 0, .int .i64 0, .int .i64 0, .int .i64 0, .int .i64 0] 33 (0, 0)) := by
    have h := below_read (below_alloc (Below.refl _ ((w.alloc (.cells #[.int .i64 a.f0, .int .i64 a.f1, .int .i64 a.f2, .int .i64 a.f3, .int .i64 a.f4, .int .i64 a.f5, .int .i64 a.f6, .int .i64 a.f7, .int .i64 a.f8] 33)).alloc (.cells #[.int .i64 0, .int .i64 0, .int .i64 0, .int .i64 0, .int .i64 0, .int .i64 0, .int .i64 0, .int .i64 0, .int .i64 0] 33))) (.cells #[.int .i64 a.f0, .int .i64 a.f1, .int .i64 a.f2, .int .i64 a.f3, .int .i64 0, .int .i64 0, .int .i64 a.f6, .int .i64 a.f7, .int .i64 0] 33)) (heap_alloc_new (w.alloc (.cells #[.int .i64 a.f0, .int .i64 a.f1, .int .i64 a.f2, .int .i64 a.f3, .int .i64 a.f4, .int .i64 a.f5, .int .i64 a.f6, .int .i64 a.f7, .int .i64 a.f8] 33)) (.cells #[.int .i64 0, .int .i64 0, .int .i64 0, .int .i64 0, .int .i64 0, .int .i64 0, .int .i64 0, .int .i64 0, .int .i64 0] 33))
    simp only [size_alloc2] at h
    exact h
  unfold actV
  go_enter Try.func77, Try.ntmps77
  go_wp2_with fail
  go_region
  generalize World.drew _ = w2 at *
  have hx0 := (blk_cell hX 0).trans rfl
  have hx1 := (blk_cell hX 1).trans rfl
  have hx2 := (blk_cell hX 2).trans rfl
  have hx3 := (blk_cell hX 3).trans rfl
  have hx4 := (blk_cell hX 4).trans rfl
  have hx5 := (blk_cell hX 5).trans rfl
  have hx6 := (blk_cell hX 6).trans rfl
  have hx7 := (blk_cell hX 7).trans rfl
  have hx8 := (blk_cell hX 8).trans rfl
  clear hX
  go_wp2_with (first | ((with_reducible refine gate_store (t := 33) (p := 2) rfl ?_); refine put_row ?hg ?hn 33 (.tmp 2) (.tmp 104) ?ho (w.heap.size + 1) 33 _ (actC (⟨a.f0, a.f1, a.f2, a.f3, 0, 0, a.f6, a.f7, 0⟩ : S33)) ?hp ?hx ?hu hR ?ht ?hs ?h1 ?_; (case hg => rfl); (case hn => rfl); (case ho => rfl); (case hp => rfl); (case hx => rfl); (case hu => rfl); (case ht => kernel_rfl); (case hs => rfl); (case h1 => exact actC_one (⟨a.f0, a.f1, a.f2, a.f3, 0, 0, a.f6, a.f7, 0⟩ : S33)); intro w3 hR2 hG))
  refine bodyPost_ret (results_cell_row rfl _ _ (w.heap.size + 1) 33 _ (0, 0) _ rfl hR2 Try.underlying33 rfl (by kernel_rfl)) rfl ?_
  exact ⟨rfl, hW.grown hG hW.size (fun k hk => by injection hk with hk; omega)⟩
set_option maxHeartbeats 4000000 in
set_option maxRecDepth 100000 in
theorem named_5 (w : World) (a : S33) (k1 : a.f0 = 5) :
    Calls Try.prog 77 #[actV a] w fun e w' => e = .returned (actV ⟨a.f0, a.f1, 0, 0, a.f4, 0, 0, a.f7, 0⟩) ∧ Below w.heap.size w w' := by
  have kb1 : (a.f0 == 1) = false := beq_eq_false_iff_ne.mpr (by omega)
  have kb2 : (a.f0 == 2) = false := beq_eq_false_iff_ne.mpr (by omega)
  have kb3 : (a.f0 == 3) = false := beq_eq_false_iff_ne.mpr (by omega)
  have kb4 : (a.f0 == 4) = false := beq_eq_false_iff_ne.mpr (by omega)
  have kb5 : (a.f0 == 5) = true := beq_iff_eq.mpr k1
  clear k1
  have hW : Below w.heap.size w ((((w.alloc (.cells #[.int .i64 a.f0, .int .i64 a.f1, .int .i64 a.f2, .int .i64 a.f3, .int .i64 a.f4, .int .i64 a.f5, .int .i64 a.f6, .int .i64 a.f7, .int .i64 a.f8] 33)).alloc (.cells #[.int .i64 0, .int .i64 0, .int .i64 0, .int .i64 0, .int .i64 0, .int .i64 0, .int .i64 0, .int .i64 0, .int .i64 0] 33)).alloc (.cells #[.int .i64 a.f0, .int .i64 a.f1, .int .i64 0, .int .i64 0, .int .i64 a.f4, .int .i64 0, .int .i64 0, .int .i64 a.f7, .int .i64 0] 33)).drew) := below_drew (below_alloc (below_alloc (below_alloc (Below.refl _ w) _) _) _)
  have hX : ((((w.alloc (.cells #[.int .i64 a.f0, .int .i64 a.f1, .int .i64 a.f2, .int .i64 a.f3, .int .i64 a.f4, .int .i64 a.f5, .int .i64 a.f6, .int .i64 a.f7, .int .i64 a.f8] 33)).alloc (.cells #[.int .i64 0, .int .i64 0, .int .i64 0, .int .i64 0, .int .i64 0, .int .i64 0, .int .i64 0, .int .i64 0, .int .i64 0] 33)).alloc (.cells #[.int .i64 a.f0, .int .i64 a.f1, .int .i64 0, .int .i64 0, .int .i64 a.f4, .int .i64 0, .int .i64 0, .int .i64 a.f7, .int .i64 0] 33)).drew).heap[w.heap.size + 1 + 1]? = some (.cells #[.int .i64 a.f0, .int .i64 a.f1, .int .i64 0, .int .i64 0, .int .i64 a.f4, .int .i64 0, .int .i64 0, .int .i64 a.f7, .int .i64 0] 33 (0, 0)) := by
    have h := heap_alloc_new ((w.alloc (.cells #[.int .i64 a.f0, .int .i64 a.f1, .int .i64 a.f2, .int .i64 a.f3, .int .i64 a.f4, .int .i64 a.f5, .int .i64 a.f6, .int .i64 a.f7, .int .i64 a.f8] 33)).alloc (.cells #[.int .i64 0, .int .i64 0, .int .i64 0, .int .i64 0, .int .i64 0, .int .i64 0, .int .i64 0, .int .i64 0, .int .i64 0] 33)) (.cells #[.int .i64 a.f0, .int .i64 a.f1, .int .i64 0, .int .i64 0, .int .i64 a.f4, .int .i64 0, .int .i64 0, .int .i64 a.f7, .int .i64 0] 33)
    simp only [size_alloc2] at h
    exact h
  have hR : ((((w.alloc (.cells #[.int .i64 a.f0, .int .i64 a.f1, .int .i64 a.f2, .int .i64 a.f3, .int .i64 a.f4, .int .i64 a.f5, .int .i64 a.f6, .int .i64 a.f7, .int .i64 a.f8] 33)).alloc (.cells #[.int .i64 0, .int .i64 0, .int .i64 0, .int .i64 0, .int .i64 0, .int .i64 0, .int .i64 0, .int .i64 0, .int .i64 0] 33)).alloc (.cells #[.int .i64 a.f0, .int .i64 a.f1, .int .i64 0, .int .i64 0, .int .i64 a.f4, .int .i64 0, .int .i64 0, .int .i64 a.f7, .int .i64 0] 33)).drew).heap[w.heap.size + 1]? = some (.cells #[.int .i64 0, .int .i64 0, .int .i64 0, .int .i64 0, .int .i64 0, .int .i64 0, .int .i64 0, .int .i64 0, .int .i64 0] 33 (0, 0)) := by
    have h := below_read (below_alloc (Below.refl _ ((w.alloc (.cells #[.int .i64 a.f0, .int .i64 a.f1, .int .i64 a.f2, .int .i64 a.f3, .int .i64 a.f4, .int .i64 a.f5, .int .i64 a.f6, .int .i64 a.f7, .int .i64 a.f8] 33)).alloc (.cells #[.int .i64 0, .int .i64 0, .int .i64 0, .int .i64 0, .int .i64 0, .int .i64 0, .int .i64 0, .int .i64 0, .int .i64 0] 33))) (.cells #[.int .i64 a.f0, .int .i64 a.f1, .int .i64 0, .int .i64 0, .int .i64 a.f4, .int .i64 0, .int .i64 0, .int .i64 a.f7, .int .i64 0] 33)) (heap_alloc_new (w.alloc (.cells #[.int .i64 a.f0, .int .i64 a.f1, .int .i64 a.f2, .int .i64 a.f3, .int .i64 a.f4, .int .i64 a.f5, .int .i64 a.f6, .int .i64 a.f7, .int .i64 a.f8] 33)) (.cells #[.int .i64 0, .int .i64 0, .int .i64 0, .int .i64 0, .int .i64 0, .int .i64 0, .int .i64 0, .int .i64 0, .int .i64 0] 33))
    simp only [size_alloc2] at h
    exact h
  unfold actV
  go_enter Try.func77, Try.ntmps77
  go_wp2_with fail
  go_region
  generalize World.drew _ = w2 at *
  have hx0 := (blk_cell hX 0).trans rfl
  have hx1 := (blk_cell hX 1).trans rfl
  have hx2 := (blk_cell hX 2).trans rfl
  have hx3 := (blk_cell hX 3).trans rfl
  have hx4 := (blk_cell hX 4).trans rfl
  have hx5 := (blk_cell hX 5).trans rfl
  have hx6 := (blk_cell hX 6).trans rfl
  have hx7 := (blk_cell hX 7).trans rfl
  have hx8 := (blk_cell hX 8).trans rfl
  clear hX
  go_wp2_with (first | ((with_reducible refine gate_store (t := 33) (p := 2) rfl ?_); refine put_row ?hg ?hn 33 (.tmp 2) (.tmp 104) ?ho (w.heap.size + 1) 33 _ (actC (⟨a.f0, a.f1, 0, 0, a.f4, 0, 0, a.f7, 0⟩ : S33)) ?hp ?hx ?hu hR ?ht ?hs ?h1 ?_; (case hg => rfl); (case hn => rfl); (case ho => rfl); (case hp => rfl); (case hx => rfl); (case hu => rfl); (case ht => kernel_rfl); (case hs => rfl); (case h1 => exact actC_one (⟨a.f0, a.f1, 0, 0, a.f4, 0, 0, a.f7, 0⟩ : S33)); intro w3 hR2 hG))
  refine bodyPost_ret (results_cell_row rfl _ _ (w.heap.size + 1) 33 _ (0, 0) _ rfl hR2 Try.underlying33 rfl (by kernel_rfl)) rfl ?_
  exact ⟨rfl, hW.grown hG hW.size (fun k hk => by injection hk with hk; omega)⟩
set_option maxHeartbeats 4000000 in
set_option maxRecDepth 100000 in
theorem named_6 (w : World) (a : S33) (k1 : a.f0 = 6) :
    Calls Try.prog 77 #[actV a] w fun e w' => e = .returned (actV ⟨a.f0, 0, a.f2, 0, a.f4, 0, 0, a.f7, 0⟩) ∧ Below w.heap.size w w' := by
  have kb1 : (a.f0 == 1) = false := beq_eq_false_iff_ne.mpr (by omega)
  have kb2 : (a.f0 == 2) = false := beq_eq_false_iff_ne.mpr (by omega)
  have kb3 : (a.f0 == 3) = false := beq_eq_false_iff_ne.mpr (by omega)
  have kb4 : (a.f0 == 4) = false := beq_eq_false_iff_ne.mpr (by omega)
  have kb5 : (a.f0 == 5) = false := beq_eq_false_iff_ne.mpr (by omega)
  have kb6 : (a.f0 == 6) = true := beq_iff_eq.mpr k1
  clear k1
  have hW : Below w.heap.size w ((((w.alloc (.cells #[.int .i64 a.f0, .int .i64 a.f1, .int .i64 a.f2, .int .i64 a.f3, .int .i64 a.f4, .int .i64 a.f5, .int .i64 a.f6, .int .i64 a.f7, .int .i64 a.f8] 33)).alloc (.cells #[.int .i64 0, .int .i64 0, .int .i64 0, .int .i64 0, .int .i64 0, .int .i64 0, .int .i64 0, .int .i64 0, .int .i64 0] 33)).alloc (.cells #[.int .i64 a.f0, .int .i64 0, .int .i64 a.f2, .int .i64 0, .int .i64 a.f4, .int .i64 0, .int .i64 0, .int .i64 a.f7, .int .i64 0] 33)).drew) := below_drew (below_alloc (below_alloc (below_alloc (Below.refl _ w) _) _) _)
  have hX : ((((w.alloc (.cells #[.int .i64 a.f0, .int .i64 a.f1, .int .i64 a.f2, .int .i64 a.f3, .int .i64 a.f4, .int .i64 a.f5, .int .i64 a.f6, .int .i64 a.f7, .int .i64 a.f8] 33)).alloc (.cells #[.int .i64 0, .int .i64 0, .int .i64 0, .int .i64 0, .int .i64 0, .int .i64 0, .int .i64 0, .int .i64 0, .int .i64 0] 33)).alloc (.cells #[.int .i64 a.f0, .int .i64 0, .int .i64 a.f2, .int .i64 0, .int .i64 a.f4, .int .i64 0, .int .i64 0, .int .i64 a.f7, .int .i64 0] 33)).drew).heap[w.heap.size + 1 + 1]? = some (.cells #[.int .i64 a.f0, .int .i64 0, .int .i64 a.f2, .int .i64 0, .int .i64 a.f4, .int .i64 0, .int .i64 0, .int .i64 a.f7, .int .i64 0] 33 (0, 0)) := by
    have h := heap_alloc_new ((w.alloc (.cells #[.int .i64 a.f0, .int .i64 a.f1, .int .i64 a.f2, .int .i64 a.f3, .int .i64 a.f4, .int .i64 a.f5, .int .i64 a.f6, .int .i64 a.f7, .int .i64 a.f8] 33)).alloc (.cells #[.int .i64 0, .int .i64 0, .int .i64 0, .int .i64 0, .int .i64 0, .int .i64 0, .int .i64 0, .int .i64 0, .int .i64 0] 33)) (.cells #[.int .i64 a.f0, .int .i64 0, .int .i64 a.f2, .int .i64 0, .int .i64 a.f4, .int .i64 0, .int .i64 0, .int .i64 a.f7, .int .i64 0] 33)
    simp only [size_alloc2] at h
    exact h
  have hR : ((((w.alloc (.cells #[.int .i64 a.f0, .int .i64 a.f1, .int .i64 a.f2, .int .i64 a.f3, .int .i64 a.f4, .int .i64 a.f5, .int .i64 a.f6, .int .i64 a.f7, .int .i64 a.f8] 33)).alloc (.cells #[.int .i64 0, .int .i64 0, .int .i64 0, .int .i64 0, .int .i64 0, .int .i64 0, .int .i64 0, .int .i64 0, .int .i64 0] 33)).alloc (.cells #[.int .i64 a.f0, .int .i64 0, .int .i64 a.f2, .int .i64 0, .int .i64 a.f4, .int .i64 0, .int .i64 0, .int .i64 a.f7, .int .i64 0] 33)).drew).heap[w.heap.size + 1]? = some (.cells #[.int .i64 0, .int .i64 0, .int .i64 0, .int .i64 0, .int .i64 0, .int .i64 0, .int .i64 0, .int .i64 0, .int .i64 0] 33 (0, 0)) := by
    have h := below_read (below_alloc (Below.refl _ ((w.alloc (.cells #[.int .i64 a.f0, .int .i64 a.f1, .int .i64 a.f2, .int .i64 a.f3, .int .i64 a.f4, .int .i64 a.f5, .int .i64 a.f6, .int .i64 a.f7, .int .i64 a.f8] 33)).alloc (.cells #[.int .i64 0, .int .i64 0, .int .i64 0, .int .i64 0, .int .i64 0, .int .i64 0, .int .i64 0, .int .i64 0, .int .i64 0] 33))) (.cells #[.int .i64 a.f0, .int .i64 0, .int .i64 a.f2, .int .i64 0, .int .i64 a.f4, .int .i64 0, .int .i64 0, .int .i64 a.f7, .int .i64 0] 33)) (heap_alloc_new (w.alloc (.cells #[.int .i64 a.f0, .int .i64 a.f1, .int .i64 a.f2, .int .i64 a.f3, .int .i64 a.f4, .int .i64 a.f5, .int .i64 a.f6, .int .i64 a.f7, .int .i64 a.f8] 33)) (.cells #[.int .i64 0, .int .i64 0, .int .i64 0, .int .i64 0, .int .i64 0, .int .i64 0, .int .i64 0, .int .i64 0, .int .i64 0] 33))
    simp only [size_alloc2] at h
    exact h
  unfold actV
  go_enter Try.func77, Try.ntmps77
  go_wp2_with fail
  go_region
  generalize World.drew _ = w2 at *
  have hx0 := (blk_cell hX 0).trans rfl
  have hx1 := (blk_cell hX 1).trans rfl
  have hx2 := (blk_cell hX 2).trans rfl
  have hx3 := (blk_cell hX 3).trans rfl
  have hx4 := (blk_cell hX 4).trans rfl
  have hx5 := (blk_cell hX 5).trans rfl
  have hx6 := (blk_cell hX 6).trans rfl
  have hx7 := (blk_cell hX 7).trans rfl
  have hx8 := (blk_cell hX 8).trans rfl
  clear hX
  go_wp2_with (first | ((with_reducible refine gate_store (t := 33) (p := 2) rfl ?_); refine put_row ?hg ?hn 33 (.tmp 2) (.tmp 104) ?ho (w.heap.size + 1) 33 _ (actC (⟨a.f0, 0, a.f2, 0, a.f4, 0, 0, a.f7, 0⟩ : S33)) ?hp ?hx ?hu hR ?ht ?hs ?h1 ?_; (case hg => rfl); (case hn => rfl); (case ho => rfl); (case hp => rfl); (case hx => rfl); (case hu => rfl); (case ht => kernel_rfl); (case hs => rfl); (case h1 => exact actC_one (⟨a.f0, 0, a.f2, 0, a.f4, 0, 0, a.f7, 0⟩ : S33)); intro w3 hR2 hG))
  refine bodyPost_ret (results_cell_row rfl _ _ (w.heap.size + 1) 33 _ (0, 0) _ rfl hR2 Try.underlying33 rfl (by kernel_rfl)) rfl ?_
  exact ⟨rfl, hW.grown hG hW.size (fun k hk => by injection hk with hk; omega)⟩
set_option maxHeartbeats 4000000 in
set_option maxRecDepth 100000 in
theorem named_7 (w : World) (a : S33) (k1 : a.f0 = 7) :
    Calls Try.prog 77 #[actV a] w fun e w' => e = .returned (actV ⟨a.f0, a.f1, a.f2, 0, a.f4, 0, 0, a.f7, 0⟩) ∧ Below w.heap.size w w' := by
  have kb1 : (a.f0 == 1) = false := beq_eq_false_iff_ne.mpr (by omega)
  have kb2 : (a.f0 == 2) = false := beq_eq_false_iff_ne.mpr (by omega)
  have kb3 : (a.f0 == 3) = false := beq_eq_false_iff_ne.mpr (by omega)
  have kb4 : (a.f0 == 4) = false := beq_eq_false_iff_ne.mpr (by omega)
  have kb5 : (a.f0 == 5) = false := beq_eq_false_iff_ne.mpr (by omega)
  have kb6 : (a.f0 == 6) = false := beq_eq_false_iff_ne.mpr (by omega)
  have kb7 : (a.f0 == 7) = true := beq_iff_eq.mpr k1
  clear k1
  have hW : Below w.heap.size w ((((w.alloc (.cells #[.int .i64 a.f0, .int .i64 a.f1, .int .i64 a.f2, .int .i64 a.f3, .int .i64 a.f4, .int .i64 a.f5, .int .i64 a.f6, .int .i64 a.f7, .int .i64 a.f8] 33)).alloc (.cells #[.int .i64 0, .int .i64 0, .int .i64 0, .int .i64 0, .int .i64 0, .int .i64 0, .int .i64 0, .int .i64 0, .int .i64 0] 33)).alloc (.cells #[.int .i64 a.f0, .int .i64 a.f1, .int .i64 a.f2, .int .i64 0, .int .i64 a.f4, .int .i64 0, .int .i64 0, .int .i64 a.f7, .int .i64 0] 33)).drew) := below_drew (below_alloc (below_alloc (below_alloc (Below.refl _ w) _) _) _)
  have hX : ((((w.alloc (.cells #[.int .i64 a.f0, .int .i64 a.f1, .int .i64 a.f2, .int .i64 a.f3, .int .i64 a.f4, .int .i64 a.f5, .int .i64 a.f6, .int .i64 a.f7, .int .i64 a.f8] 33)).alloc (.cells #[.int .i64 0, .int .i64 0, .int .i64 0, .int .i64 0, .int .i64 0, .int .i64 0, .int .i64 0, .int .i64 0, .int .i64 0] 33)).alloc (.cells #[.int .i64 a.f0, .int .i64 a.f1, .int .i64 a.f2, .int .i64 0, .int .i64 a.f4, .int .i64 0, .int .i64 0, .int .i64 a.f7, .int .i64 0] 33)).drew).heap[w.heap.size + 1 + 1]? = some (.cells #[.int .i64 a.f0, .int .i64 a.f1, .int .i64 a.f2, .int .i64 0, .int .i64 a.f4, .int .i64 0, .int .i64 0, .int .i64 a.f7, .int .i64 0] 33 (0, 0)) := by
    have h := heap_alloc_new ((w.alloc (.cells #[.int .i64 a.f0, .int .i64 a.f1, .int .i64 a.f2, .int .i64 a.f3, .int .i64 a.f4, .int .i64 a.f5, .int .i64 a.f6, .int .i64 a.f7, .int .i64 a.f8] 33)).alloc (.cells #[.int .i64 0, .int .i64 0, .int .i64 0, .int .i64 0, .int .i64 0, .int .i64 0, .int .i64 0, .int .i64 0, .int .i64 0] 33)) (.cells #[.int .i64 a.f0, .int .i64 a.f1, .int .i64 a.f2, .int .i64 0, .int .i64 a.f4, .int .i64 0, .int .i64 0, .int .i64 a.f7, .int .i64 0] 33)
    simp only [size_alloc2] at h
    exact h
  have hR : ((((w.alloc (.cells #[.int .i64 a.f0, .int .i64 a.f1, .int .i64 a.f2, .int .i64 a.f3, .int .i64 a.f4, .int .i64 a.f5, .int .i64 a.f6, .int .i64 a.f7, .int .i64 a.f8] 33)).alloc (.cells #[.int .i64 0, .int .i64 0, .int .i64 0, .int .i64 0, .int .i64 0, .int .i64 0, .int .i64 0, .int .i64 0, .int .i64 0] 33)).alloc (.cells #[.int .i64 a.f0, .int .i64 a.f1, .int .i64 a.f2, .int .i64 0, .int .i64 a.f4, .int .i64 0, .int .i64 0, .int .i64 a.f7, .int .i64 0] 33)).drew).heap[w.heap.size + 1]? = some (.cells #[.int .i64 0, .int .i64 0, .int .i64 0, .int .i64 0, .int .i64 0, .int .i64 0, .int .i64 0, .int .i64 0, .int .i64 0] 33 (0, 0)) := by
    have h := below_read (below_alloc (Below.refl _ ((w.alloc (.cells #[.int .i64 a.f0, .int .i64 a.f1, .int .i64 a.f2, .int .i64 a.f3, .int .i64 a.f4, .int .i64 a.f5, .int .i64 a.f6, .int .i64 a.f7, .int .i64 a.f8] 33)).alloc (.cells #[.int .i64 0, .int .i64 0, .int .i64 0, .int .i64 0, .int .i64 0, .int .i64 0, .int .i64 0, .int .i64 0, .int .i64 0] 33))) (.cells #[.int .i64 a.f0, .int .i64 a.f1, .int .i64 a.f2, .int .i64 0, .int .i64 a.f4, .int .i64 0, .int .i64 0, .int .i64 a.f7, .int .i64 0] 33)) (heap_alloc_new (w.alloc (.cells #[.int .i64 a.f0, .int .i64 a.f1, .int .i64 a.f2, .int .i64 a.f3, .int .i64 a.f4, .int .i64 a.f5, .int .i64 a.f6, .int .i64 a.f7, .int .i64 a.f8] 33)) (.cells #[.int .i64 0, .int .i64 0, .int .i64 0, .int .i64 0, .int .i64 0, .int .i64 0, .int .i64 0, .int .i64 0, .int .i64 0] 33))
    simp only [size_alloc2] at h
    exact h
  unfold actV
  go_enter Try.func77, Try.ntmps77
  go_wp2_with fail
  go_region
  generalize World.drew _ = w2 at *
  have hx0 := (blk_cell hX 0).trans rfl
  have hx1 := (blk_cell hX 1).trans rfl
  have hx2 := (blk_cell hX 2).trans rfl
  have hx3 := (blk_cell hX 3).trans rfl
  have hx4 := (blk_cell hX 4).trans rfl
  have hx5 := (blk_cell hX 5).trans rfl
  have hx6 := (blk_cell hX 6).trans rfl
  have hx7 := (blk_cell hX 7).trans rfl
  have hx8 := (blk_cell hX 8).trans rfl
  clear hX
  go_wp2_with (first | ((with_reducible refine gate_store (t := 33) (p := 2) rfl ?_); refine put_row ?hg ?hn 33 (.tmp 2) (.tmp 104) ?ho (w.heap.size + 1) 33 _ (actC (⟨a.f0, a.f1, a.f2, 0, a.f4, 0, 0, a.f7, 0⟩ : S33)) ?hp ?hx ?hu hR ?ht ?hs ?h1 ?_; (case hg => rfl); (case hn => rfl); (case ho => rfl); (case hp => rfl); (case hx => rfl); (case hu => rfl); (case ht => kernel_rfl); (case hs => rfl); (case h1 => exact actC_one (⟨a.f0, a.f1, a.f2, 0, a.f4, 0, 0, a.f7, 0⟩ : S33)); intro w3 hR2 hG))
  refine bodyPost_ret (results_cell_row rfl _ _ (w.heap.size + 1) 33 _ (0, 0) _ rfl hR2 Try.underlying33 rfl (by kernel_rfl)) rfl ?_
  exact ⟨rfl, hW.grown hG hW.size (fun k hk => by injection hk with hk; omega)⟩
set_option maxHeartbeats 4000000 in
set_option maxRecDepth 100000 in
theorem named_8 (w : World) (a : S33) (k1 : a.f0 = 8) :
    Calls Try.prog 77 #[actV a] w fun e w' => e = .returned (actV ⟨a.f0, 0, a.f2, a.f3, a.f4, 0, 0, a.f7, 0⟩) ∧ Below w.heap.size w w' := by
  have kb1 : (a.f0 == 1) = false := beq_eq_false_iff_ne.mpr (by omega)
  have kb2 : (a.f0 == 2) = false := beq_eq_false_iff_ne.mpr (by omega)
  have kb3 : (a.f0 == 3) = false := beq_eq_false_iff_ne.mpr (by omega)
  have kb4 : (a.f0 == 4) = false := beq_eq_false_iff_ne.mpr (by omega)
  have kb5 : (a.f0 == 5) = false := beq_eq_false_iff_ne.mpr (by omega)
  have kb6 : (a.f0 == 6) = false := beq_eq_false_iff_ne.mpr (by omega)
  have kb7 : (a.f0 == 7) = false := beq_eq_false_iff_ne.mpr (by omega)
  have kb8 : (a.f0 == 8) = true := beq_iff_eq.mpr k1
  clear k1
  have hW : Below w.heap.size w ((((w.alloc (.cells #[.int .i64 a.f0, .int .i64 a.f1, .int .i64 a.f2, .int .i64 a.f3, .int .i64 a.f4, .int .i64 a.f5, .int .i64 a.f6, .int .i64 a.f7, .int .i64 a.f8] 33)).alloc (.cells #[.int .i64 0, .int .i64 0, .int .i64 0, .int .i64 0, .int .i64 0, .int .i64 0, .int .i64 0, .int .i64 0, .int .i64 0] 33)).alloc (.cells #[.int .i64 a.f0, .int .i64 0, .int .i64 a.f2, .int .i64 a.f3, .int .i64 a.f4, .int .i64 0, .int .i64 0, .int .i64 a.f7, .int .i64 0] 33)).drew) := below_drew (below_alloc (below_alloc (below_alloc (Below.refl _ w) _) _) _)
  have hX : ((((w.alloc (.cells #[.int .i64 a.f0, .int .i64 a.f1, .int .i64 a.f2, .int .i64 a.f3, .int .i64 a.f4, .int .i64 a.f5, .int .i64 a.f6, .int .i64 a.f7, .int .i64 a.f8] 33)).alloc (.cells #[.int .i64 0, .int .i64 0, .int .i64 0, .int .i64 0, .int .i64 0, .int .i64 0, .int .i64 0, .int .i64 0, .int .i64 0] 33)).alloc (.cells #[.int .i64 a.f0, .int .i64 0, .int .i64 a.f2, .int .i64 a.f3, .int .i64 a.f4, .int .i64 0, .int .i64 0, .int .i64 a.f7, .int .i64 0] 33)).drew).heap[w.heap.size + 1 + 1]? = some (.cells #[.int .i64 a.f0, .int .i64 0, .int .i64 a.f2, .int .i64 a.f3, .int .i64 a.f4, .int .i64 0, .int .i64 0, .int .i64 a.f7, .int .i64 0] 33 (0, 0)) := by
    have h := heap_alloc_new ((w.alloc (.cells #[.int .i64 a.f0, .int .i64 a.f1, .int .i64 a.f2, .int .i64 a.f3, .int .i64 a.f4, .int .i64 a.f5, .int .i64 a.f6, .int .i64 a.f7, .int .i64 a.f8] 33)).alloc (.cells #[.int .i64 0, .int .i64 0, .int .i64 0, .int .i64 0, .int .i64 0, .int .i64 0, .int .i64 0, .int .i64 0, .int .i64 0] 33)) (.cells #[.int .i64 a.f0, .int .i64 0, .int .i64 a.f2, .int .i64 a.f3, .int .i64 a.f4, .int .i64 0, .int .i64 0, .int .i64 a.f7, .int .i64 0] 33)
    simp only [size_alloc2] at h
    exact h
  have hR : ((((w.alloc (.cells #[.int .i64 a.f0, .int .i64 a.f1, .int .i64 a.f2, .int .i64 a.f3, .int .i64 a.f4, .int .i64 a.f5, .int .i64 a.f6, .int .i64 a.f7, .int .i64 a.f8] 33)).alloc (.cells #[.int .i64 0, .int .i64 0, .int .i64 0, .int .i64 0, .int .i64 0, .int .i64 0, .int .i64 0, .int .i64 0, .int .i64 0] 33)).alloc (.cells #[.int .i64 a.f0, .int .i64 0, .int .i64 a.f2, .int .i64 a.f3, .int .i64 a.f4, .int .i64 0, .int .i64 0, .int .i64 a.f7, .int .i64 0] 33)).drew).heap[w.heap.size + 1]? = some (.cells #[.int .i64 0, .int .i64 0, .int .i64 0, .int .i64 0, .int .i64 0, .int .i64 0, .int .i64 0, .int .i64 0, .int .i64 0] 33 (0, 0)) := by
    have h := below_read (below_alloc (Below.refl _ ((w.alloc (.cells #[.int .i64 a.f0, .int .i64 a.f1, .int .i64 a.f2, .int .i64 a.f3, .int .i64 a.f4, .int .i64 a.f5, .int .i64 a.f6, .int .i64 a.f7, .int .i64 a.f8] 33)).alloc (.cells #[.int .i64 0, .int .i64 0, .int .i64 0, .int .i64 0, .int .i64 0, .int .i64 0, .int .i64 0, .int .i64 0, .int .i64 0] 33))) (.cells #[.int .i64 a.f0, .int .i64 0, .int .i64 a.f2, .int .i64 a.f3, .int .i64 a.f4, .int .i64 0, .int .i64 0, .int .i64 a.f7, .int .i64 0] 33)) (heap_alloc_new (w.alloc (.cells #[.int .i64 a.f0, .int .i64 a.f1, .int .i64 a.f2, .int .i64 a.f3, .int .i64 a.f4, .int .i64 a.f5, .int .i64 a.f6, .int .i64 a.f7, .int .i64 a.f8] 33)) (.cells #[.int .i64 0, .int .i64 0, .int .i64 0, .int .i64 0, .int .i64 0, .int .i64 0, .int .i64 0, .int .i64 0, .int .i64 0] 33))
    simp only [size_alloc2] at h
    exact h
  unfold actV
  go_enter Try.func77, Try.ntmps77
  go_wp2_with fail
  go_region
  generalize World.drew _ = w2 at *
  have hx0 := (blk_cell hX 0).trans rfl
  have hx1 := (blk_cell hX 1).trans rfl
  have hx2 := (blk_cell hX 2).trans rfl
  have hx3 := (blk_cell hX 3).trans rfl
  have hx4 := (blk_cell hX 4).trans rfl
  have hx5 := (blk_cell hX 5).trans rfl
  have hx6 := (blk_cell hX 6).trans rfl
  have hx7 := (blk_cell hX 7).trans rfl
  have hx8 := (blk_cell hX 8).trans rfl
  clear hX
  go_wp2_with (first | ((with_reducible refine gate_store (t := 33) (p := 2) rfl ?_); refine put_row ?hg ?hn 33 (.tmp 2) (.tmp 104) ?ho (w.heap.size + 1) 33 _ (actC (⟨a.f0, 0, a.f2, a.f3, a.f4, 0, 0, a.f7, 0⟩ : S33)) ?hp ?hx ?hu hR ?ht ?hs ?h1 ?_; (case hg => rfl); (case hn => rfl); (case ho => rfl); (case hp => rfl); (case hx => rfl); (case hu => rfl); (case ht => kernel_rfl); (case hs => rfl); (case h1 => exact actC_one (⟨a.f0, 0, a.f2, a.f3, a.f4, 0, 0, a.f7, 0⟩ : S33)); intro w3 hR2 hG))
  refine bodyPost_ret (results_cell_row rfl _ _ (w.heap.size + 1) 33 _ (0, 0) _ rfl hR2 Try.underlying33 rfl (by kernel_rfl)) rfl ?_
  exact ⟨rfl, hW.grown hG hW.size (fun k hk => by injection hk with hk; omega)⟩
set_option maxHeartbeats 4000000 in
set_option maxRecDepth 100000 in
theorem named_9 (w : World) (a : S33) (k1 : a.f0 = 9) :
    Calls Try.prog 77 #[actV a] w fun e w' => e = .returned (actV ⟨a.f0, 0, 0, 0, a.f4, 0, 0, a.f7, 0⟩) ∧ Below w.heap.size w w' := by
  have kb1 : (a.f0 == 1) = false := beq_eq_false_iff_ne.mpr (by omega)
  have kb2 : (a.f0 == 2) = false := beq_eq_false_iff_ne.mpr (by omega)
  have kb3 : (a.f0 == 3) = false := beq_eq_false_iff_ne.mpr (by omega)
  have kb4 : (a.f0 == 4) = false := beq_eq_false_iff_ne.mpr (by omega)
  have kb5 : (a.f0 == 5) = false := beq_eq_false_iff_ne.mpr (by omega)
  have kb6 : (a.f0 == 6) = false := beq_eq_false_iff_ne.mpr (by omega)
  have kb7 : (a.f0 == 7) = false := beq_eq_false_iff_ne.mpr (by omega)
  have kb8 : (a.f0 == 8) = false := beq_eq_false_iff_ne.mpr (by omega)
  have kb9 : (a.f0 == 9) = true := beq_iff_eq.mpr k1
  clear k1
  have hW : Below w.heap.size w ((((w.alloc (.cells #[.int .i64 a.f0, .int .i64 a.f1, .int .i64 a.f2, .int .i64 a.f3, .int .i64 a.f4, .int .i64 a.f5, .int .i64 a.f6, .int .i64 a.f7, .int .i64 a.f8] 33)).alloc (.cells #[.int .i64 0, .int .i64 0, .int .i64 0, .int .i64 0, .int .i64 0, .int .i64 0, .int .i64 0, .int .i64 0, .int .i64 0] 33)).alloc (.cells #[.int .i64 a.f0, .int .i64 0, .int .i64 0, .int .i64 0, .int .i64 a.f4, .int .i64 0, .int .i64 0, .int .i64 a.f7, .int .i64 0] 33))) := (below_alloc (below_alloc (below_alloc (Below.refl _ w) _) _) _)
  have hX : ((((w.alloc (.cells #[.int .i64 a.f0, .int .i64 a.f1, .int .i64 a.f2, .int .i64 a.f3, .int .i64 a.f4, .int .i64 a.f5, .int .i64 a.f6, .int .i64 a.f7, .int .i64 a.f8] 33)).alloc (.cells #[.int .i64 0, .int .i64 0, .int .i64 0, .int .i64 0, .int .i64 0, .int .i64 0, .int .i64 0, .int .i64 0, .int .i64 0] 33)).alloc (.cells #[.int .i64 a.f0, .int .i64 0, .int .i64 0, .int .i64 0, .int .i64 a.f4, .int .i64 0, .int .i64 0, .int .i64 a.f7, .int .i64 0] 33))).heap[w.heap.size + 1 + 1]? = some (.cells #[.int .i64 a.f0, .int .i64 0, .int .i64 0, .int .i64 0, .int .i64 a.f4, .int .i64 0, .int .i64 0, .int .i64 a.f7, .int .i64 0] 33 (0, 0)) := by
    have h := heap_alloc_new ((w.alloc (.cells #[.int .i64 a.f0, .int .i64 a.f1, .int .i64 a.f2, .int .i64 a.f3, .int .i64 a.f4, .int .i64 a.f5, .int .i64 a.f6, .int .i64 a.f7, .int .i64 a.f8] 33)).alloc (.cells #[.int .i64 0, .int .i64 0, .int .i64 0, .int .i64 0, .int .i64 0, .int .i64 0, .int .i64 0, .int .i64 0, .int .i64 0] 33)) (.cells #[.int .i64 a.f0, .int .i64 0, .int .i64 0, .int .i64 0, .int .i64 a.f4, .int .i64 0, .int .i64 0, .int .i64 a.f7, .int .i64 0] 33)
    simp only [size_alloc2] at h
    exact h
  have hR : ((((w.alloc (.cells #[.int .i64 a.f0, .int .i64 a.f1, .int .i64 a.f2, .int .i64 a.f3, .int .i64 a.f4, .int .i64 a.f5, .int .i64 a.f6, .int .i64 a.f7, .int .i64 a.f8] 33)).alloc (.cells #[.int .i64 0, .int .i64 0, .int .i64 0, .int .i64 0, .int .i64 0, .int .i64 0, .int .i64 0, .int .i64 0, .int .i64 0] 33)).alloc (.cells #[.int .i64 a.f0, .int .i64 0, .int .i64 0, .int .i64 0, .int .i64 a.f4, .int .i64 0, .int .i64 0, .int .i64 a.f7, .int .i64 0] 33))).heap[w.heap.size + 1]? = some (.cells #[.int .i64 0, .int .i64 0, .int .i64 0, .int .i64 0, .int .i64 0, .int .i64 0, .int .i64 0, .int .i64 0, .int .i64 0] 33 (0, 0)) := by
    have h := below_read (below_alloc (Below.refl _ ((w.alloc (.cells #[.int .i64 a.f0, .int .i64 a.f1, .int .i64 a.f2, .int .i64 a.f3, .int .i64 a.f4, .int .i64 a.f5, .int .i64 a.f6, .int .i64 a.f7, .int .i64 a.f8] 33)).alloc (.cells #[.int .i64 0, .int .i64 0, .int .i64 0, .int .i64 0, .int .i64 0, .int .i64 0, .int .i64 0, .int .i64 0, .int .i64 0] 33))) (.cells #[.int .i64 a.f0, .int .i64 0, .int .i64 0, .int .i64 0, .int .i64 a.f4, .int .i64 0, .int .i64 0, .int .i64 a.f7, .int .i64 0] 33)) (heap_alloc_new (w.alloc (.cells #[.int .i64 a.f0, .int .i64 a.f1, .int .i64 a.f2, .int .i64 a.f3, .int .i64 a.f4, .int .i64 a.f5, .int .i64 a.f6, .int .i64 a.f7, .int .i64 a.f8] 33)) (.cells #[.int .i64 0, .int .i64 0, .int .i64 0, .int .i64 0, .int .i64 0, .int .i64 0, .int .i64 0, .int .i64 0, .int .i64 0] 33))
    simp only [size_alloc2] at h
    exact h
  unfold actV
  go_enter Try.func77, Try.ntmps77
  clear hX
  go_wp2_with (first | ((with_reducible refine gate_store (t := 33) (p := 2) rfl ?_); refine put_row ?hg ?hn 33 (.tmp 2) (.tmp 104) ?ho (w.heap.size + 1) 33 _ (actC (⟨a.f0, 0, 0, 0, a.f4, 0, 0, a.f7, 0⟩ : S33)) ?hp ?hx ?hu hR ?ht ?hs ?h1 ?_; (case hg => rfl); (case hn => rfl); (case ho => rfl); (case hp => rfl); (case hx => rfl); (case hu => rfl); (case ht => kernel_rfl); (case hs => rfl); (case h1 => exact actC_one (⟨a.f0, 0, 0, 0, a.f4, 0, 0, a.f7, 0⟩ : S33)); intro w3 hR2 hG))
  refine bodyPost_ret (results_cell_row rfl _ _ (w.heap.size + 1) 33 _ (0, 0) _ rfl hR2 Try.underlying33 rfl (by kernel_rfl)) rfl ?_
  exact ⟨rfl, hW.grown hG hW.size (fun k hk => by injection hk with hk; omega)⟩
set_option maxHeartbeats 4000000 in
set_option maxRecDepth 100000 in
theorem named_10 (w : World) (a : S33) (k1 : a.f0 = 10) :
    Calls Try.prog 77 #[actV a] w fun e w' => e = .returned (actV ⟨a.f0, 0, 0, 0, a.f4, 0, 0, a.f7, 0⟩) ∧ Below w.heap.size w w' := by
  have kb1 : (a.f0 == 1) = false := beq_eq_false_iff_ne.mpr (by omega)
  have kb2 : (a.f0 == 2) = false := beq_eq_false_iff_ne.mpr (by omega)
  have kb3 : (a.f0 == 3) = false := beq_eq_false_iff_ne.mpr (by omega)
  have kb4 : (a.f0 == 4) = false := beq_eq_false_iff_ne.mpr (by omega)
  have kb5 : (a.f0 == 5) = false := beq_eq_false_iff_ne.mpr (by omega)
  have kb6 : (a.f0 == 6) = false := beq_eq_false_iff_ne.mpr (by omega)
  have kb7 : (a.f0 == 7) = false := beq_eq_false_iff_ne.mpr (by omega)
  have kb8 : (a.f0 == 8) = false := beq_eq_false_iff_ne.mpr (by omega)
  have kb9 : (a.f0 == 9) = false := beq_eq_false_iff_ne.mpr (by omega)
  have kb10 : (a.f0 == 10) = true := beq_iff_eq.mpr k1
  clear k1
  have hW : Below w.heap.size w ((((w.alloc (.cells #[.int .i64 a.f0, .int .i64 a.f1, .int .i64 a.f2, .int .i64 a.f3, .int .i64 a.f4, .int .i64 a.f5, .int .i64 a.f6, .int .i64 a.f7, .int .i64 a.f8] 33)).alloc (.cells #[.int .i64 0, .int .i64 0, .int .i64 0, .int .i64 0, .int .i64 0, .int .i64 0, .int .i64 0, .int .i64 0, .int .i64 0] 33)).alloc (.cells #[.int .i64 a.f0, .int .i64 0, .int .i64 0, .int .i64 0, .int .i64 a.f4, .int .i64 0, .int .i64 0, .int .i64 a.f7, .int .i64 0] 33))) := (below_alloc (below_alloc (below_alloc (Below.refl _ w) _) _) _)
  have hX : ((((w.alloc (.cells #[.int .i64 a.f0, .int .i64 a.f1, .int .i64 a.f2, .int .i64 a.f3, .int .i64 a.f4, .int .i64 a.f5, .int .i64 a.f6, .int .i64 a.f7, .int .i64 a.f8] 33)).alloc (.cells #[.int .i64 0, .int .i64 0, .int .i64 0, .int .i64 0, .int .i64 0, .int .i64 0, .int .i64 0, .int .i64 0, .int .i64 0] 33)).alloc (.cells #[.int .i64 a.f0, .int .i64 0, .int .i64 0, .int .i64 0, .int .i64 a.f4, .int .i64 0, .int .i64 0, .int .i64 a.f7, .int .i64 0] 33))).heap[w.heap.size + 1 + 1]? = some (.cells #[.int .i64 a.f0, .int .i64 0, .int .i64 0, .int .i64 0, .int .i64 a.f4, .int .i64 0, .int .i64 0, .int .i64 a.f7, .int .i64 0] 33 (0, 0)) := by
    have h := heap_alloc_new ((w.alloc (.cells #[.int .i64 a.f0, .int .i64 a.f1, .int .i64 a.f2, .int .i64 a.f3, .int .i64 a.f4, .int .i64 a.f5, .int .i64 a.f6, .int .i64 a.f7, .int .i64 a.f8] 33)).alloc (.cells #[.int .i64 0, .int .i64 0, .int .i64 0, .int .i64 0, .int .i64 0, .int .i64 0, .int .i64 0, .int .i64 0, .int .i64 0] 33)) (.cells #[.int .i64 a.f0, .int .i64 0, .int .i64 0, .int .i64 0, .int .i64 a.f4, .int .i64 0, .int .i64 0, .int .i64 a.f7, .int .i64 0] 33)
    simp only [size_alloc2] at h
    exact h
  have hR : ((((w.alloc (.cells #[.int .i64 a.f0, .int .i64 a.f1, .int .i64 a.f2, .int .i64 a.f3, .int .i64 a.f4, .int .i64 a.f5, .int .i64 a.f6, .int .i64 a.f7, .int .i64 a.f8] 33)).alloc (.cells #[.int .i64 0, .int .i64 0, .int .i64 0, .int .i64 0, .int .i64 0, .int .i64 0, .int .i64 0, .int .i64 0, .int .i64 0] 33)).alloc (.cells #[.int .i64 a.f0, .int .i64 0, .int .i64 0, .int .i64 0, .int .i64 a.f4, .int .i64 0, .int .i64 0, .int .i64 a.f7, .int .i64 0] 33))).heap[w.heap.size + 1]? = some (.cells #[.int .i64 0, .int .i64 0, .int .i64 0, .int .i64 0, .int .i64 0, .int .i64 0, .int .i64 0, .int .i64 0, .int .i64 0] 33 (0, 0)) := by
    have h := below_read (below_alloc (Below.refl _ ((w.alloc (.cells #[.int .i64 a.f0, .int .i64 a.f1, .int .i64 a.f2, .int .i64 a.f3, .int .i64 a.f4, .int .i64 a.f5, .int .i64 a.f6, .int .i64 a.f7, .int .i64 a.f8] 33)).alloc (.cells #[.int .i64 0, .int .i64 0, .int .i64 0, .int .i64 0, .int .i64 0, .int .i64 0, .int .i64 0, .int .i64 0, .int .i64 0] 33))) (.cells #[.int .i64 a.f0, .int .i64 0, .int .i64 0, .int .i64 0, .int .i64 a.f4, .int .i64 0, .int .i64 0, .int .i64 a.f7, .int .i64 0] 33)) (heap_alloc_new (w.alloc (.cells #[.int .i64 a.f0, .int .i64 a.f1, .int .i64 a.f2, .int .i64 a.f3, .int .i64 a.f4, .int .i64 a.f5, .int .i64 a.f6, .int .i64 a.f7, .int .i64 a.f8] 33)) (.cells #[.int .i64 0, .int .i64 0, .int .i64 0, .int .i64 0, .int .i64 0, .int .i64 0, .int .i64 0, .int .i64 0, .int .i64 0] 33))
    simp only [size_alloc2] at h
    exact h
  unfold actV
  go_enter Try.func77, Try.ntmps77
  clear hX
  go_wp2_with (first | ((with_reducible refine gate_store (t := 33) (p := 2) rfl ?_); refine put_row ?hg ?hn 33 (.tmp 2) (.tmp 104) ?ho (w.heap.size + 1) 33 _ (actC (⟨a.f0, 0, 0, 0, a.f4, 0, 0, a.f7, 0⟩ : S33)) ?hp ?hx ?hu hR ?ht ?hs ?h1 ?_; (case hg => rfl); (case hn => rfl); (case ho => rfl); (case hp => rfl); (case hx => rfl); (case hu => rfl); (case ht => kernel_rfl); (case hs => rfl); (case h1 => exact actC_one (⟨a.f0, 0, 0, 0, a.f4, 0, 0, a.f7, 0⟩ : S33)); intro w3 hR2 hG))
  refine bodyPost_ret (results_cell_row rfl _ _ (w.heap.size + 1) 33 _ (0, 0) _ rfl hR2 Try.underlying33 rfl (by kernel_rfl)) rfl ?_
  exact ⟨rfl, hW.grown hG hW.size (fun k hk => by injection hk with hk; omega)⟩
set_option maxHeartbeats 4000000 in
set_option maxRecDepth 100000 in
theorem named_11 (w : World) (a : S33) (k1 : a.f0 = 11) :
    Calls Try.prog 77 #[actV a] w fun e w' => e = .returned (actV ⟨a.f0, 0, a.f2, a.f3, 0, 0, a.f6, a.f7, a.f8⟩) ∧ Below w.heap.size w w' := by
  have kb1 : (a.f0 == 1) = false := beq_eq_false_iff_ne.mpr (by omega)
  have kb2 : (a.f0 == 2) = false := beq_eq_false_iff_ne.mpr (by omega)
  have kb3 : (a.f0 == 3) = false := beq_eq_false_iff_ne.mpr (by omega)
  have kb4 : (a.f0 == 4) = false := beq_eq_false_iff_ne.mpr (by omega)
  have kb5 : (a.f0 == 5) = false := beq_eq_false_iff_ne.mpr (by omega)
  have kb6 : (a.f0 == 6) = false := beq_eq_false_iff_ne.mpr (by omega)
  have kb7 : (a.f0 == 7) = false := beq_eq_false_iff_ne.mpr (by omega)
  have kb8 : (a.f0 == 8) = false := beq_eq_false_iff_ne.mpr (by omega)
  have kb9 : (a.f0 == 9) = false := beq_eq_false_iff_ne.mpr (by omega)
  have kb10 : (a.f0 == 10) = false := beq_eq_false_iff_ne.mpr (by omega)
  have kb11 : (a.f0 == 11) = true := beq_iff_eq.mpr k1
  clear k1
  have hW : Below w.heap.size w ((((w.alloc (.cells #[.int .i64 a.f0, .int .i64 a.f1, .int .i64 a.f2, .int .i64 a.f3, .int .i64 a.f4, .int .i64 a.f5, .int .i64 a.f6, .int .i64 a.f7, .int .i64 a.f8] 33)).alloc (.cells #[.int .i64 0, .int .i64 0, .int .i64 0, .int .i64 0, .int .i64 0, .int .i64 0, .int .i64 0, .int .i64 0, .int .i64 0] 33)).alloc (.cells #[.int .i64 a.f0, .int .i64 0, .int .i64 a.f2, .int .i64 a.f3, .int .i64 0, .int .i64 0, .int .i64 a.f6, .int .i64 a.f7, .int .i64 a.f8] 33)).drew) := below_drew (below_alloc (below_alloc (below_alloc (Below.refl _ w) _) _) _)
  have hX : ((((w.alloc (.cells #[.int .i64 a.f0, .int .i64 a.f1, .int .i64 a.f2, .int .i64 a.f3, .int .i64 a.f4, .int .i64 a.f5, .int .i64 a.f6, .int .i64 a.f7, .int .i64 a.f8] 33)).alloc (.cells #[.int .i64 0, .int .i64 0, .int .i64 0, .int .i64 0, .int .i64 0, .int .i64 0, .int .i64 0, .int .i64 0, .int .i64 0] 33)).alloc (.cells #[.int .i64 a.f0, .int .i64 0, .int .i64 a.f2, .int .i64 a.f3, .int .i64 0, .int .i64 0, .int .i64 a.f6, .int .i64 a.f7, .int .i64 a.f8] 33)).drew).heap[w.heap.size + 1 + 1]? = some (.cells #[.int .i64 a.f0, .int .i64 0, .int .i64 a.f2, .int .i64 a.f3, .int .i64 0, .int .i64 0, .int .i64 a.f6, .int .i64 a.f7, .int .i64 a.f8] 33 (0, 0)) := by
    have h := heap_alloc_new ((w.alloc (.cells #[.int .i64 a.f0, .int .i64 a.f1, .int .i64 a.f2, .int .i64 a.f3, .int .i64 a.f4, .int .i64 a.f5, .int .i64 a.f6, .int .i64 a.f7, .int .i64 a.f8] 33)).alloc (.cells #[.int .i64 0, .int .i64 0, .int .i64 0, .int .i64 0, .int .i64 0, .int .i64 0, .int .i64 0, .int .i64 0, .int .i64 0] 33)) (.cells #[.int .i64 a.f0, .int .i64 0, .int .i64 a.f2, .int .i64 a.f3, .int .i64 0, .int .i64 0, .int .i64 a.f6, .int .i64 a.f7, .int .i64 a.f8] 33)
    simp only [size_alloc2] at h
    exact h
  have hR : ((((w.alloc (.cells #[.int .i64 a.f0, .int .i64 a.f1, .int .i64 a.f2, .int .i64 a.f3, .int .i64 a.f4, .int .i64 a.f5, .int .i64 a.f6, .int .i64 a.f7, .int .i64 a.f8] 33)).alloc (.cells #[.int .i64 0, .int .i64 0, .int .i64 0, .int .i64 0, .int .i64 0, .int .i64 0, .int .i64 0, .int .i64 0, .int .i64 0] 33)).alloc (.cells #[.int .i64 a.f0, .int .i64 0, .int .i64 a.f2, .int .i64 a.f3, .int .i64 0, .int .i64 0, .int .i64 a.f6, .int .i64 a.f7, .int .i64 a.f8] 33)).drew).heap[w.heap.size + 1]? = some (.cells #[.int .i64 0, .int .i64 0, .int .i64 0, .int .i64 0, .int .i64 0, .int .i64 0, .int .i64 0, .int .i64 0, .int .i64 0] 33 (0, 0)) := by
    have h := below_read (below_alloc (Below.refl _ ((w.alloc (.cells #[.int .i64 a.f0, .int .i64 a.f1, .int .i64 a.f2, .int .i64 a.f3, .int .i64 a.f4, .int .i64 a.f5, .int .i64 a.f6, .int .i64 a.f7, .int .i64 a.f8] 33)).alloc (.cells #[.int .i64 0, .int .i64 0, .int .i64 0, .int .i64 0, .int .i64 0, .int .i64 0, .int .i64 0, .int .i64 0, .int .i64 0] 33))) (.cells #[.int .i64 a.f0, .int .i64 0, .int .i64 a.f2, .int .i64 a.f3, .int .i64 0, .int .i64 0, .int .i64 a.f6, .int .i64 a.f7, .int .i64 a.f8] 33)) (heap_alloc_new (w.alloc (.cells #[.int .i64 a.f0, .int .i64 a.f1, .int .i64 a.f2, .int .i64 a.f3, .int .i64 a.f4, .int .i64 a.f5, .int .i64 a.f6, .int .i64 a.f7, .int .i64 a.f8] 33)) (.cells #[.int .i64 0, .int .i64 0, .int .i64 0, .int .i64 0, .int .i64 0, .int .i64 0, .int .i64 0, .int .i64 0, .int .i64 0] 33))
    simp only [size_alloc2] at h
    exact h
  unfold actV
  go_enter Try.func77, Try.ntmps77
  go_wp2_with fail
  go_region
  generalize World.drew _ = w2 at *
  have hx0 := (blk_cell hX 0).trans rfl
  have hx1 := (blk_cell hX 1).trans rfl
  have hx2 := (blk_cell hX 2).trans rfl
  have hx3 := (blk_cell hX 3).trans rfl
  have hx4 := (blk_cell hX 4).trans rfl
  have hx5 := (blk_cell hX 5).trans rfl
  have hx6 := (blk_cell hX 6).trans rfl
  have hx7 := (blk_cell hX 7).trans rfl
  have hx8 := (blk_cell hX 8).trans rfl
  clear hX
  go_wp2_with (first | ((with_reducible refine gate_store (t := 33) (p := 2) rfl ?_); refine put_row ?hg ?hn 33 (.tmp 2) (.tmp 104) ?ho (w.heap.size + 1) 33 _ (actC (⟨a.f0, 0, a.f2, a.f3, 0, 0, a.f6, a.f7, a.f8⟩ : S33)) ?hp ?hx ?hu hR ?ht ?hs ?h1 ?_; (case hg => rfl); (case hn => rfl); (case ho => rfl); (case hp => rfl); (case hx => rfl); (case hu => rfl); (case ht => kernel_rfl); (case hs => rfl); (case h1 => exact actC_one (⟨a.f0, 0, a.f2, a.f3, 0, 0, a.f6, a.f7, a.f8⟩ : S33)); intro w3 hR2 hG))
  refine bodyPost_ret (results_cell_row rfl _ _ (w.heap.size + 1) 33 _ (0, 0) _ rfl hR2 Try.underlying33 rfl (by kernel_rfl)) rfl ?_
  exact ⟨rfl, hW.grown hG hW.size (fun k hk => by injection hk with hk; omega)⟩
set_option maxHeartbeats 4000000 in
set_option maxRecDepth 100000 in
theorem named_0 (w : World) (a : S33) (k1 : a.f0 ≠ 1 ∧ a.f0 ≠ 2 ∧ a.f0 ≠ 3 ∧ a.f0 ≠ 4 ∧ a.f0 ≠ 5 ∧ a.f0 ≠ 6 ∧ a.f0 ≠ 7 ∧ a.f0 ≠ 8 ∧ a.f0 ≠ 9 ∧ a.f0 ≠ 10 ∧ a.f0 ≠ 11) :
    Calls Try.prog 77 #[actV a] w fun e w' => e = .returned (actV ⟨a.f0, 0, 0, 0, 0, 0, 0, a.f7, 0⟩) ∧ Below w.heap.size w w' := by
  have kb1 : (a.f0 == 1) = false := beq_eq_false_iff_ne.mpr (by omega)
  have kb2 : (a.f0 == 2) = false := beq_eq_false_iff_ne.mpr (by omega)
  have kb3 : (a.f0 == 3) = false := beq_eq_false_iff_ne.mpr (by omega)
  have kb4 : (a.f0 == 4) = false := beq_eq_false_iff_ne.mpr (by omega)
  have kb5 : (a.f0 == 5) = false := beq_eq_false_iff_ne.mpr (by omega)
  have kb6 : (a.f0 == 6) = false := beq_eq_false_iff_ne.mpr (by omega)
  have kb7 : (a.f0 == 7) = false := beq_eq_false_iff_ne.mpr (by omega)
  have kb8 : (a.f0 == 8) = false := beq_eq_false_iff_ne.mpr (by omega)
  have kb9 : (a.f0 == 9) = false := beq_eq_false_iff_ne.mpr (by omega)
  have kb10 : (a.f0 == 10) = false := beq_eq_false_iff_ne.mpr (by omega)
  have kb11 : (a.f0 == 11) = false := beq_eq_false_iff_ne.mpr (by omega)
  clear k1
  have hW : Below w.heap.size w ((((w.alloc (.cells #[.int .i64 a.f0, .int .i64 a.f1, .int .i64 a.f2, .int .i64 a.f3, .int .i64 a.f4, .int .i64 a.f5, .int .i64 a.f6, .int .i64 a.f7, .int .i64 a.f8] 33)).alloc (.cells #[.int .i64 0, .int .i64 0, .int .i64 0, .int .i64 0, .int .i64 0, .int .i64 0, .int .i64 0, .int .i64 0, .int .i64 0] 33)).alloc (.cells #[.int .i64 a.f0, .int .i64 0, .int .i64 0, .int .i64 0, .int .i64 0, .int .i64 0, .int .i64 0, .int .i64 a.f7, .int .i64 0] 33))) := (below_alloc (below_alloc (below_alloc (Below.refl _ w) _) _) _)
  have hX : ((((w.alloc (.cells #[.int .i64 a.f0, .int .i64 a.f1, .int .i64 a.f2, .int .i64 a.f3, .int .i64 a.f4, .int .i64 a.f5, .int .i64 a.f6, .int .i64 a.f7, .int .i64 a.f8] 33)).alloc (.cells #[.int .i64 0, .int .i64 0, .int .i64 0, .int .i64 0, .int .i64 0, .int .i64 0, .int .i64 0, .int .i64 0, .int .i64 0] 33)).alloc (.cells #[.int .i64 a.f0, .int .i64 0, .int .i64 0, .int .i64 0, .int .i64 0, .int .i64 0, .int .i64 0, .int .i64 a.f7, .int .i64 0] 33))).heap[w.heap.size + 1 + 1]? = some (.cells #[.int .i64 a.f0, .int .i64 0, .int .i64 0, .int .i64 0, .int .i64 0, .int .i64 0, .int .i64 0, .int .i64 a.f7, .int .i64 0] 33 (0, 0)) := by
    have h := heap_alloc_new ((w.alloc (.cells #[.int .i64 a.f0, .int .i64 a.f1, .int .i64 a.f2, .int .i64 a.f3, .int .i64 a.f4, .int .i64 a.f5, .int .i64 a.f6, .int .i64 a.f7, .int .i64 a.f8] 33)).alloc (.cells #[.int .i64 0, .int .i64 0, .int .i64 0, .int .i64 0, .int .i64 0, .int .i64 0, .int .i64 0, .int .i64 0, .int .i64 0] 33)) (.cells #[.int .i64 a.f0, .int .i64 0, .int .i64 0, .int .i64 0, .int .i64 0, .int .i64 0, .int .i64 0, .int .i64 a.f7, .int .i64 0] 33)
    simp only [size_alloc2] at h
    exact h
  have hR : ((((w.alloc (.cells #[.int .i64 a.f0, .int .i64 a.f1, .int .i64 a.f2, .int .i64 a.f3, .int .i64 a.f4, .int .i64 a.f5, .int .i64 a.f6, .int .i64 a.f7, .int .i64 a.f8] 33)).alloc (.cells #[.int .i64 0, .int .i64 0, .int .i64 0, .int .i64 0, .int .i64 0, .int .i64 0, .int .i64 0, .int .i64 0, .int .i64 0] 33)).alloc (.cells #[.int .i64 a.f0, .int .i64 0, .int .i64 0, .int .i64 0, .int .i64 0, .int .i64 0, .int .i64 0, .int .i64 a.f7, .int .i64 0] 33))).heap[w.heap.size + 1]? = some (.cells #[.int .i64 0, .int .i64 0, .int .i64 0, .int .i64 0, .int .i64 0, .int .i64 0, .int .i64 0, .int .i64 0, .int .i64 0] 33 (0, 0)) := by
    have h := below_read (below_alloc (Below.refl _ ((w.alloc (.cells #[.int .i64 a.f0, .int .i64 a.f1, .int .i64 a.f2, .int .i64 a.f3, .int .i64 a.f4, .int .i64 a.f5, .int .i64 a.f6, .int .i64 a.f7, .int .i64 a.f8] 33)).alloc (.cells #[.int .i64 0, .int .i64 0, .int .i64 0, .int .i64 0, .int .i64 0, .int .i64 0, .int .i64 0, .int .i64 0, .int .i64 0] 33))) (.cells #[.int .i64 a.f0, .int .i64 0, .int .i64 0, .int .i64 0, .int .i64 0, .int .i64 0, .int .i64 0, .int .i64 a.f7, .int .i64 0] 33)) (heap_alloc_new (w.alloc (.cells #[.int .i64 a.f0, .int .i64 a.f1, .int .i64 a.f2, .int .i64 a.f3, .int .i64 a.f4, .int .i64 a.f5, .int .i64 a.f6, .int .i64 a.f7, .int .i64 a.f8] 33)) (.cells #[.int .i64 0, .int .i64 0, .int .i64 0, .int .i64 0, .int .i64 0, .int .i64 0, .int .i64 0, .int .i64 0, .int .i64 0] 33))
    simp only [size_alloc2] at h
    exact h
  unfold actV
  go_enter Try.func77, Try.ntmps77
  clear hX
  go_wp2_with (first | ((with_reducible refine gate_store (t := 33) (p := 2) rfl ?_); refine put_row ?hg ?hn 33 (.tmp 2) (.tmp 104) ?ho (w.heap.size + 1) 33 _ (actC (⟨a.f0, 0, 0, 0, 0, 0, 0, a.f7, 0⟩ : S33)) ?hp ?hx ?hu hR ?ht ?hs ?h1 ?_; (case hg => rfl); (case hn => rfl); (case ho => rfl); (case hp => rfl); (case hx => rfl); (case hu => rfl); (case ht => kernel_rfl); (case hs => rfl); (case h1 => exact actC_one (⟨a.f0, 0, 0, 0, 0, 0, 0, a.f7, 0⟩ : S33)); intro w3 hR2 hG))
  refine bodyPost_ret (results_cell_row rfl _ _ (w.heap.size + 1) 33 _ (0, 0) _ rfl hR2 Try.underlying33 rfl (by kernel_rfl)) rfl ?_
  exact ⟨rfl, hW.grown hG hW.size (fun k hk => by injection hk with hk; omega)⟩
end
end Go.Proofs.Ytikjamcemnbhbaa.Mr
