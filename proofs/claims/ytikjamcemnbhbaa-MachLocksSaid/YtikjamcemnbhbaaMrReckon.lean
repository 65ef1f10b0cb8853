/- thread.reckon: the variables and the error behind it. -/
import Derived.Test.YtikjamcemnbhbaaMrPut
import Derived.Test.YtikjamcemnbhbaaMrNext
import Derived.Test.YtikjamcemnbhbaaMrDo
import Derived.StillTailTactics
import Derived.Deep.RegionHeld3
namespace Go.Proofs.Ytikjamcemnbhbaa.Mr
open Go.RowKit Go.Proofs.YtikjamcemnbhbaaW.PrintWords Go.Proofs.YtikjamcemnbhbaaW.PrintLast Go.Proofs.YtikjamcemnbhbaaW.PrintMore
set_option linter.unusedVariables false
set_option linter.unusedSimpArgs false
/-- What reckon leaves of the variables, and the error. -/
def reck (vs : List Int) (a : S33) (inp : Int) : List Int × Int :=
  if a.f0 = 1 then (vs.set a.f1.toNat a.f5, 0)
  else if a.f0 = 2 then (vs.set a.f1.toNat (rd vs a.f2), 0)
  else if a.f0 = 3 then (vs.set a.f1.toNat (mn (mx inp (-2147483648)) 2147483647), 0)
  else if a.f0 = 4 then (if (doP a.f6 (rd vs a.f2) (rd vs a.f3)).2 = 0 then (vs.set a.f1.toNat (doP a.f6 (rd vs a.f2) (rd vs a.f3)).1, 0) else (vs, (doP a.f6 (rd vs a.f2) (rd vs a.f3)).2))
  else if a.f0 = 13 then (vs, 10) else (vs, 0)
theorem St.setRow_same (s : St) (k : Nat) : s.setRow k (s.row k) = s := by
  have : (fun j => if j = k then s.row k else s.row j) = s.row := by
    funext j; by_cases h : j = k
    · rw [if_pos h, h]
    · rw [if_neg h]
  cases s; simp only [St.setRow] at this ⊢; rw [this]
theorem setlen {w : World} {lo : Nat} {v : Value} {xs : List Int} {j : Nat} {x : Int} (h : w.ownsRow lo 3 1 v xs.length (nums .i64 (xs.set j x))) : w.ownsRow lo 3 1 v (xs.set j x).length (nums .i64 (xs.set j x)) := by rwa [List.length_set]
/-- What a thread's own step leaves. -/
def Left (w : World) (lo hi fl : Nat) (ph : Ph) (cs : List S49) (nA : Nat) (s : St) (w' : World) : Prop := MachIn w' lo hi fl ph cs nA s ∧ Chg lo hi w w'
theorem MachIn.rowChg {w w' w0 : World} {lo hi fl : Nat} {ph : Ph} {cs : List S49} {nA : Nat} {s : St} (H : MachIn w lo hi fl ph cs nA s) (k : Nat) (xs : List Int) (hc : Chg lo hi w0 w)
    (ho : w'.ownsRow lo 3 1 (ph.rv k) xs.length (nums .i64 xs)) (hg : w.grownBy w' (ph.rv k).ownBlock) : Left w0 lo hi fl ph cs nA (s.setRow k xs) w' :=
  ⟨H.stored k xs ho hg, hc.trans (Chg.of_grown hg (fun b hb => ⟨((H.rows k).lt b hb).1, H.rlt k b hb⟩))⟩
set_option maxHeartbeats 8000000 in
set_option maxRecDepth 100000 in
theorem reckon_1 (w : World) {lo hi fl : Nat} {ph : Ph} {cs : List S49} {nA : Nat} {s : St} (H : MachIn w lo hi fl ph cs nA s) (i : Int) (h0 : 0 ≤ i) (h1 : i < cs.length) (a : S33) (inp : Int)
    {ng na nm nl : Int} (ha : okA (s.row (4 + 2 * i.toNat)).length ng na nm nl a) (k1 : a.f0 = 1) :
    Calls Try.prog 44 #[.pointer (some ⟨ph.tb i.toNat, 0, none⟩), actV a, .int .i64 inp] w fun e w' => e = .returned (.int .i64 (reck (s.row (4 + 2 * i.toNat)) a inp).2) ∧ Left w lo hi fl ph cs nA (s.setRow (4 + 2 * i.toNat) (reck (s.row (4 + 2 * i.toNat)) a inp).1) w' := by
  have HH := Aside0.mk H
  have HR : Aside0 (reck (s.row (4 + 2 * i.toNat)) a inp = ((s.row (4 + 2 * i.toNat)).set a.f1.toNat a.f5, 0)) := ⟨by rw [reck, if_pos k1]⟩
  have HT := Aside0.mk (ha.t (.inl k1))
  have kb1 : (a.f0 == 1) = true := beq_iff_eq.mpr k1
  clear k1 ha H
  generalize hvs : s.row (4 + 2 * i.toNat) = vs at *
  go_enter Try.func44, Try.ntmps44
  go_wp2_with (first | ((with_reducible refine gate_dst (N := 4) rfl ?_); refine box_event ?hg (N := 4) ?hd (cs := actC a) (t := 33) ?hr ?_; (case hd => rfl); (case hg => rfl); (case hr => first | (go_simp; done) | (go_simp; rfl)); intro gb hg w1 hbox hb; have HB := Aside0.mk hb; have H1 := Aside0.mk (HH.out.below hb); have hy0 : w1.cell? ⟨gb, 0, none⟩ = some (.int .i64 a.f0) := (blk_cell hbox 0).trans rfl; have hy1 : w1.cell? ⟨gb, 1, none⟩ = some (.int .i64 a.f1) := (blk_cell hbox 1).trans rfl; have hy2 : w1.cell? ⟨gb, 2, none⟩ = some (.int .i64 a.f2) := (blk_cell hbox 2).trans rfl; have hy3 : w1.cell? ⟨gb, 3, none⟩ = some (.int .i64 a.f3) := (blk_cell hbox 3).trans rfl; have hy4 : w1.cell? ⟨gb, 4, none⟩ = some (.int .i64 a.f4) := (blk_cell hbox 4).trans rfl; have hy5 : w1.cell? ⟨gb, 5, none⟩ = some (.int .i64 a.f5) := (blk_cell hbox 5).trans rfl; have hy6 : w1.cell? ⟨gb, 6, none⟩ = some (.int .i64 a.f6) := (blk_cell hbox 6).trans rfl; have hy7 : w1.cell? ⟨gb, 7, none⟩ = some (.int .i64 a.f7) := (blk_cell hbox 7).trans rfl; have hy8 : w1.cell? ⟨gb, 8, none⟩ = some (.int .i64 a.f8) := (blk_cell hbox 8).trans rfl; have htc0 : w1.cell? ⟨ph.tb i.toNat, 0, none⟩ = some (ph.rv (4 + 2 * i.toNat)) := (blk_cell (H1.out.th i.toNat (by omega)).1 0).trans rfl; have ho := Aside0.mk (H1.out.rows (4 + 2 * i.toNat)); simp only [hvs] at ho; clear hb hbox hg HH))
  go_still_tail 7, (by kernel_rfl)
  change wpList _ _ _ _ _ w1.drew
  go_wp2_with (go_loud (go_at_call 62; refine (set_calls (ph.tb i.toNat) 0 (ph.rv (4 + 2 * i.toNat)) vs a.f1 a.f5 lo w1.drew htc0 ho.out HT.out.1 HT.out.2).mono ?_; rintro e w2 ⟨rfl, ho2, hg2⟩))
  go_ret
  exact ⟨by rw [HR.out]; rfl, by rw [HR.out]; exact (H1.out.below (below_drew (Below.refl _ w1))).rowChg _ _ (.of_below (below_drew HB.out)) (setlen ho2) hg2⟩
set_option maxHeartbeats 8000000 in
set_option maxRecDepth 100000 in
theorem reckon_2 (w : World) {lo hi fl : Nat} {ph : Ph} {cs : List S49} {nA : Nat} {s : St} (H : MachIn w lo hi fl ph cs nA s) (i : Int) (h0 : 0 ≤ i) (h1 : i < cs.length) (a : S33) (inp : Int)
    {ng na nm nl : Int} (ha : okA (s.row (4 + 2 * i.toNat)).length ng na nm nl a) (k2 : a.f0 = 2) :
    Calls Try.prog 44 #[.pointer (some ⟨ph.tb i.toNat, 0, none⟩), actV a, .int .i64 inp] w fun e w' => e = .returned (.int .i64 (reck (s.row (4 + 2 * i.toNat)) a inp).2) ∧ Left w lo hi fl ph cs nA (s.setRow (4 + 2 * i.toNat) (reck (s.row (4 + 2 * i.toNat)) a inp).1) w' := by
  have HH := Aside0.mk H
  have HR : Aside0 (reck (s.row (4 + 2 * i.toNat)) a inp = ((s.row (4 + 2 * i.toNat)).set a.f1.toNat (rd (s.row (4 + 2 * i.toNat)) a.f2), 0)) := ⟨by rw [reck, if_neg (by omega), if_pos k2]⟩
  have HT := Aside0.mk (ha.t (.inr (.inl k2)))
  have HX := Aside0.mk (ha.x (.inl k2))
  have kb1 : (a.f0 == 1) = false := beq_eq_false_iff_ne.mpr (by omega)
  have kb2 : (a.f0 == 2) = true := beq_iff_eq.mpr k2
  clear k2 ha H
  generalize hvs : s.row (4 + 2 * i.toNat) = vs at *
  go_enter Try.func44, Try.ntmps44
  go_wp2_with (first | ((with_reducible refine gate_dst (N := 4) rfl ?_); refine box_event ?hg (N := 4) ?hd (cs := actC a) (t := 33) ?hr ?_; (case hd => rfl); (case hg => rfl); (case hr => first | (go_simp; done) | (go_simp; rfl)); intro gb hg w1 hbox hb; have HB := Aside0.mk hb; have H1 := Aside0.mk (HH.out.below hb); have hy0 : w1.cell? ⟨gb, 0, none⟩ = some (.int .i64 a.f0) := (blk_cell hbox 0).trans rfl; have hy1 : w1.cell? ⟨gb, 1, none⟩ = some (.int .i64 a.f1) := (blk_cell hbox 1).trans rfl; have hy2 : w1.cell? ⟨gb, 2, none⟩ = some (.int .i64 a.f2) := (blk_cell hbox 2).trans rfl; have hy3 : w1.cell? ⟨gb, 3, none⟩ = some (.int .i64 a.f3) := (blk_cell hbox 3).trans rfl; have hy4 : w1.cell? ⟨gb, 4, none⟩ = some (.int .i64 a.f4) := (blk_cell hbox 4).trans rfl; have hy5 : w1.cell? ⟨gb, 5, none⟩ = some (.int .i64 a.f5) := (blk_cell hbox 5).trans rfl; have hy6 : w1.cell? ⟨gb, 6, none⟩ = some (.int .i64 a.f6) := (blk_cell hbox 6).trans rfl; have hy7 : w1.cell? ⟨gb, 7, none⟩ = some (.int .i64 a.f7) := (blk_cell hbox 7).trans rfl; have hy8 : w1.cell? ⟨gb, 8, none⟩ = some (.int .i64 a.f8) := (blk_cell hbox 8).trans rfl; have htc0 : w1.cell? ⟨ph.tb i.toNat, 0, none⟩ = some (ph.rv (4 + 2 * i.toNat)) := (blk_cell (H1.out.th i.toNat (by omega)).1 0).trans rfl; have ho := Aside0.mk (H1.out.rows (4 + 2 * i.toNat)); simp only [hvs] at ho; clear hb hbox hg HH))
  refine wp_region_still_tail 11 (by kernel_rfl) (by kernel_rfl) ?_
  simp only [List.take_succ_cons, List.take_zero, List.drop_succ_cons, List.drop_zero]
  iterate 10 still_step
  still_call (get_calls (ph.tb i.toNat) 0 (ph.rv (4 + 2 * i.toNat)) vs a.f2 lo _ htc0 ho.out HX.out.1 HX.out.2)
  refine wpStill_nil ?_
  change wpList _ _ _ _ _ w1.drew
  go_wp2_with (go_loud (go_at_call 62; refine (set_calls (ph.tb i.toNat) 0 (ph.rv (4 + 2 * i.toNat)) vs a.f1 (rd vs a.f2) lo w1.drew htc0 ho.out HT.out.1 HT.out.2).mono ?_; rintro e w2 ⟨rfl, ho2, hg2⟩))
  go_ret
  exact ⟨by rw [HR.out]; rfl, by rw [HR.out]; exact (H1.out.below (below_drew (Below.refl _ w1))).rowChg _ _ (.of_below (below_drew HB.out)) (setlen ho2) hg2⟩
set_option maxHeartbeats 8000000 in
set_option maxRecDepth 100000 in
theorem reckon_3 (w : World) {lo hi fl : Nat} {ph : Ph} {cs : List S49} {nA : Nat} {s : St} (H : MachIn w lo hi fl ph cs nA s) (i : Int) (h0 : 0 ≤ i) (h1 : i < cs.length) (a : S33) (inp : Int)
    {ng na nm nl : Int} (ha : okA (s.row (4 + 2 * i.toNat)).length ng na nm nl a) (k3 : a.f0 = 3) :
    Calls Try.prog 44 #[.pointer (some ⟨ph.tb i.toNat, 0, none⟩), actV a, .int .i64 inp] w fun e w' => e = .returned (.int .i64 (reck (s.row (4 + 2 * i.toNat)) a inp).2) ∧ Left w lo hi fl ph cs nA (s.setRow (4 + 2 * i.toNat) (reck (s.row (4 + 2 * i.toNat)) a inp).1) w' := by
  have HH := Aside0.mk H
  have HR : Aside0 (reck (s.row (4 + 2 * i.toNat)) a inp = ((s.row (4 + 2 * i.toNat)).set a.f1.toNat (mn (mx inp (-2147483648)) 2147483647), 0)) := ⟨by rw [reck, if_neg (by omega), if_neg (by omega), if_pos k3]⟩
  have HT := Aside0.mk (ha.t (.inr (.inr (.inl k3))))
  have kb1 : (a.f0 == 1) = false := beq_eq_false_iff_ne.mpr (by omega)
  have kb2 : (a.f0 == 2) = false := beq_eq_false_iff_ne.mpr (by omega)
  have kb3 : (a.f0 == 3) = true := beq_iff_eq.mpr k3
  clear k3 ha H
  generalize hvs : s.row (4 + 2 * i.toNat) = vs at *
  go_enter Try.func44, Try.ntmps44
  go_wp2_with (first | ((with_reducible refine gate_dst (N := 4) rfl ?_); refine box_event ?hg (N := 4) ?hd (cs := actC a) (t := 33) ?hr ?_; (case hd => rfl); (case hg => rfl); (case hr => first | (go_simp; done) | (go_simp; rfl)); intro gb hg w1 hbox hb; have HB := Aside0.mk hb; have H1 := Aside0.mk (HH.out.below hb); have hy0 : w1.cell? ⟨gb, 0, none⟩ = some (.int .i64 a.f0) := (blk_cell hbox 0).trans rfl; have hy1 : w1.cell? ⟨gb, 1, none⟩ = some (.int .i64 a.f1) := (blk_cell hbox 1).trans rfl; have hy2 : w1.cell? ⟨gb, 2, none⟩ = some (.int .i64 a.f2) := (blk_cell hbox 2).trans rfl; have hy3 : w1.cell? ⟨gb, 3, none⟩ = some (.int .i64 a.f3) := (blk_cell hbox 3).trans rfl; have hy4 : w1.cell? ⟨gb, 4, none⟩ = some (.int .i64 a.f4) := (blk_cell hbox 4).trans rfl; have hy5 : w1.cell? ⟨gb, 5, none⟩ = some (.int .i64 a.f5) := (blk_cell hbox 5).trans rfl; have hy6 : w1.cell? ⟨gb, 6, none⟩ = some (.int .i64 a.f6) := (blk_cell hbox 6).trans rfl; have hy7 : w1.cell? ⟨gb, 7, none⟩ = some (.int .i64 a.f7) := (blk_cell hbox 7).trans rfl; have hy8 : w1.cell? ⟨gb, 8, none⟩ = some (.int .i64 a.f8) := (blk_cell hbox 8).trans rfl; have htc0 : w1.cell? ⟨ph.tb i.toNat, 0, none⟩ = some (ph.rv (4 + 2 * i.toNat)) := (blk_cell (H1.out.th i.toNat (by omega)).1 0).trans rfl; have ho := Aside0.mk (H1.out.rows (4 + 2 * i.toNat)); simp only [hvs] at ho; clear hb hbox hg HH))
  go_still_tail 8, (by kernel_rfl)
  change wpList _ _ _ _ _ w1.drew
  go_wp2_with (go_loud (go_at_call 62; refine (set_calls (ph.tb i.toNat) 0 (ph.rv (4 + 2 * i.toNat)) vs a.f1 _ lo w1.drew htc0 ho.out HT.out.1 HT.out.2).mono ?_; rintro e w2 ⟨rfl, ho2, hg2⟩))
  all_goals
    go_ret
    exact ⟨by rw [HR.out]; rfl, by rw [HR.out]; exact (H1.out.below (below_drew (Below.refl _ w1))).rowChg _ _ (.of_below (below_drew HB.out)) (setlen ho2) hg2⟩
set_option maxHeartbeats 8000000 in
set_option maxRecDepth 100000 in
theorem reckon_4 (w : World) {lo hi fl : Nat} {ph : Ph} {cs : List S49} {nA : Nat} {s : St} (H : MachIn w lo hi fl ph cs nA s) (i : Int) (h0 : 0 ≤ i) (h1 : i < cs.length) (a : S33) (inp : Int)
    {ng na nm nl : Int} (ha : okA (s.row (4 + 2 * i.toNat)).length ng na nm nl a) (k4 : a.f0 = 4) :
    Calls Try.prog 44 #[.pointer (some ⟨ph.tb i.toNat, 0, none⟩), actV a, .int .i64 inp] w fun e w' => e = .returned (.int .i64 (reck (s.row (4 + 2 * i.toNat)) a inp).2) ∧ Left w lo hi fl ph cs nA (s.setRow (4 + 2 * i.toNat) (reck (s.row (4 + 2 * i.toNat)) a inp).1) w' := by
  have HH := Aside0.mk H
  have HR : Aside0 (reck (s.row (4 + 2 * i.toNat)) a inp = (if (doP a.f6 (rd (s.row (4 + 2 * i.toNat)) a.f2) (rd (s.row (4 + 2 * i.toNat)) a.f3)).2 = 0 then ((s.row (4 + 2 * i.toNat)).set a.f1.toNat (doP a.f6 (rd (s.row (4 + 2 * i.toNat)) a.f2) (rd (s.row (4 + 2 * i.toNat)) a.f3)).1, 0) else ((s.row (4 + 2 * i.toNat)), (doP a.f6 (rd (s.row (4 + 2 * i.toNat)) a.f2) (rd (s.row (4 + 2 * i.toNat)) a.f3)).2))) := ⟨by rw [reck, if_neg (by omega), if_neg (by omega), if_neg (by omega), if_pos k4]⟩
  have HT := Aside0.mk (ha.t (.inr (.inr (.inr (.inl k4)))))
  have HX := Aside0.mk (ha.x (.inr (.inl k4)))
  have HY := Aside0.mk (ha.y (.inl k4))
  obtain ⟨d1, d2, hd⟩ : ∃ d1 d2, (doP a.f6 (rd (s.row (4 + 2 * i.toNat)) a.f2) (rd (s.row (4 + 2 * i.toNat)) a.f3)) = (d1, d2) := ⟨_, _, rfl⟩
  have HD := Aside0.mk ((do_ok a.f6 (rd (s.row (4 + 2 * i.toNat)) a.f2) (rd (s.row (4 + 2 * i.toNat)) a.f3)).trans (congrArg some hd))
  rw [hd] at HR
  clear hd
  have kb1 : (a.f0 == 1) = false := beq_eq_false_iff_ne.mpr (by omega)
  have kb2 : (a.f0 == 2) = false := beq_eq_false_iff_ne.mpr (by omega)
  have kb3 : (a.f0 == 3) = false := beq_eq_false_iff_ne.mpr (by omega)
  have kb4 : (a.f0 == 4) = true := beq_iff_eq.mpr k4
  clear k4 ha H
  generalize hvs : s.row (4 + 2 * i.toNat) = vs at *
  go_enter Try.func44, Try.ntmps44
  go_wp2_with (first | ((with_reducible refine gate_dst (N := 4) rfl ?_); refine box_event ?hg (N := 4) ?hd (cs := actC a) (t := 33) ?hr ?_; (case hd => rfl); (case hg => rfl); (case hr => first | (go_simp; done) | (go_simp; rfl)); intro gb hg w1 hbox hb; have HB := Aside0.mk hb; have HBX := Aside0.mk hbox; have H1 := Aside0.mk (HH.out.below hb); have hy0 : w1.cell? ⟨gb, 0, none⟩ = some (.int .i64 a.f0) := (blk_cell hbox 0).trans rfl; have hy1 : w1.cell? ⟨gb, 1, none⟩ = some (.int .i64 a.f1) := (blk_cell hbox 1).trans rfl; have hy2 : w1.cell? ⟨gb, 2, none⟩ = some (.int .i64 a.f2) := (blk_cell hbox 2).trans rfl; have hy3 : w1.cell? ⟨gb, 3, none⟩ = some (.int .i64 a.f3) := (blk_cell hbox 3).trans rfl; have hy4 : w1.cell? ⟨gb, 4, none⟩ = some (.int .i64 a.f4) := (blk_cell hbox 4).trans rfl; have hy5 : w1.cell? ⟨gb, 5, none⟩ = some (.int .i64 a.f5) := (blk_cell hbox 5).trans rfl; have hy6 : w1.cell? ⟨gb, 6, none⟩ = some (.int .i64 a.f6) := (blk_cell hbox 6).trans rfl; have hy7 : w1.cell? ⟨gb, 7, none⟩ = some (.int .i64 a.f7) := (blk_cell hbox 7).trans rfl; have hy8 : w1.cell? ⟨gb, 8, none⟩ = some (.int .i64 a.f8) := (blk_cell hbox 8).trans rfl; have htc0 : w1.cell? ⟨ph.tb i.toNat, 0, none⟩ = some (ph.rv (4 + 2 * i.toNat)) := (blk_cell (H1.out.th i.toNat (by omega)).1 0).trans rfl; have ho := Aside0.mk (H1.out.rows (4 + 2 * i.toNat)); simp only [hvs] at ho; clear hb hbox hg HH))
  refine start_ (n := 20) (S := fun w' => w'.cell? ⟨gb, 6, none⟩ = some (.int .i64 a.f6) ∧ w'.cell? ⟨gb, 2, none⟩ = some (.int .i64 a.f2) ∧ w'.cell? ⟨gb, 3, none⟩ = some (.int .i64 a.f3)) (ds := []) #[false, false, false, false, false, false, false, false, false, false, false, false, false, false, false, false, false, false, false, false] (by kernel_rfl) rfl rfl ⟨hy6, hy2, hy3⟩ (fun hHeld => ?_)
  refine pure_ (i := 0) (N := some 49) (v := ?_) (a' := ?_) #[true, false, false, false, false, false, false, false, false, false, false, false, false, false, false, false, false, false, false, false] rfl rfl (by kernel_rfl) (fun _ _ _ h => h) (Or.inl ⟨by rfl, ?_⟩) ?_ ?_
  rotate_left
  · intro w'
    go_simp
    with_reducible rfl
  rotate_left
  · simp only [Act.put, List.setIfInBounds_toArray, List.set_cons_zero, List.set_cons_succ]
    rfl
  refine pure_ (i := 2) (N := some 51) (v := ?_) (a' := ?_) #[true, false, true, false, false, false, false, false, false, false, false, false, false, false, false, false, false, false, false, false] rfl rfl (by kernel_rfl) (fun _ _ _ h => h) (Or.inl ⟨by rfl, ?_⟩) ?_ ?_
  rotate_left
  · intro w'
    go_simp
    with_reducible rfl
  rotate_left
  · simp only [Act.put, List.setIfInBounds_toArray, List.set_cons_zero, List.set_cons_succ]
    rfl
  refine pure_ (i := 3) (N := some 52) (v := ?_) (a' := ?_) #[true, false, true, true, false, false, false, false, false, false, false, false, false, false, false, false, false, false, false, false] rfl rfl (by kernel_rfl) (fun _ _ _ h => h) (Or.inl ⟨by rfl, ?_⟩) ?_ ?_
  rotate_left
  · intro w'
    go_simp
    with_reducible rfl
  rotate_left
  · simp only [Act.put, List.setIfInBounds_toArray, List.set_cons_zero, List.set_cons_succ]
    rfl
  refine pure_ (i := 4) (N := some 53) (v := ?_) (a' := ?_) #[true, false, true, true, true, false, false, false, false, false, false, false, false, false, false, false, false, false, false, false] rfl rfl (by kernel_rfl) (fun _ _ _ h => h) (Or.inl ⟨by rfl, ?_⟩) ?_ ?_
  rotate_left
  · intro w'
    go_simp
    with_reducible rfl
  rotate_left
  · simp only [Act.put, List.setIfInBounds_toArray, List.set_cons_zero, List.set_cons_succ]
    rfl
  refine pure_ (i := 5) (N := some 54) (v := ?_) (a' := ?_) #[true, false, true, true, true, true, false, false, false, false, false, false, false, false, false, false, false, false, false, false] rfl rfl (by kernel_rfl) (fun _ _ _ h => h) (Or.inl ⟨by rfl, ?_⟩) ?_ ?_
  rotate_left
  · intro w'
    go_simp
    with_reducible rfl
  rotate_left
  · simp only [Act.put, List.setIfInBounds_toArray, List.set_cons_zero, List.set_cons_succ]
    rfl
  refine pure_ (i := 8) (N := some 57) (v := ?_) (a' := ?_) #[true, false, true, true, true, true, false, false, true, false, false, false, false, false, false, false, false, false, false, false] rfl rfl (by kernel_rfl) (fun _ _ _ h => h) (Or.inl ⟨by rfl, ?_⟩) ?_ ?_
  rotate_left
  · intro w'
    go_simp
    with_reducible rfl
  rotate_left
  · simp only [Act.put, List.setIfInBounds_toArray, List.set_cons_zero, List.set_cons_succ]
    rfl
  refine pure_ (i := 9) (N := some 58) (v := ?_) (a' := ?_) #[true, false, true, true, true, true, false, false, true, true, false, false, false, false, false, false, false, false, false, false] rfl rfl (by kernel_rfl) (fun _ _ _ h => h) (Or.inl ⟨by rfl, ?_⟩) ?_ ?_
  rotate_left
  · intro w'
    go_simp
    with_reducible rfl
  rotate_left
  · simp only [Act.put, List.setIfInBounds_toArray, List.set_cons_zero, List.set_cons_succ]
    rfl
  refine pure_ (i := 10) (N := some 59) (v := ?_) (a' := ?_) #[true, false, true, true, true, true, false, false, true, true, true, false, false, false, false, false, false, false, false, false] rfl rfl (by kernel_rfl) (fun _ _ _ h => h) (Or.inl ⟨by rfl, ?_⟩) ?_ ?_
  rotate_left
  · intro w'
    go_simp
    with_reducible rfl
  rotate_left
  · simp only [Act.put, List.setIfInBounds_toArray, List.set_cons_zero, List.set_cons_succ]
    rfl
  refine pure_ (i := 11) (N := some 60) (v := ?_) (a' := ?_) #[true, false, true, true, true, true, false, false, true, true, true, true, false, false, false, false, false, false, false, false] rfl rfl (by kernel_rfl) (fun _ _ _ h => h) (Or.inl ⟨by rfl, ?_⟩) ?_ ?_
  rotate_left
  · intro w'
    go_simp
    with_reducible rfl
  rotate_left
  · simp only [Act.put, List.setIfInBounds_toArray, List.set_cons_zero, List.set_cons_succ]
    rfl
  refine take_ (i := 1) (N := some 50) (v := ?_) (a' := ?_) #[true, true, true, true, true, true, false, false, true, true, true, true, false, false, false, false, false, false, false, false] rfl rfl (by kernel_rfl) (fun _ _ _ h => h) (Or.inl ⟨by rfl, ?_⟩) hHeld ?_ ?_
  rotate_left
  · rintro w' ⟨s0, s1, s2⟩
    go_simp
    with_reducible rfl
  rotate_left
  · simp only [Act.put, List.setIfInBounds_toArray, List.set_cons_zero, List.set_cons_succ]
    rfl
  refine take_ (i := 6) (N := some 55) (v := ?_) (a' := ?_) #[true, true, true, true, true, true, true, false, true, true, true, true, false, false, false, false, false, false, false, false] rfl rfl (by kernel_rfl) (fun _ _ _ h => h) (Or.inl ⟨by rfl, ?_⟩) hHeld ?_ ?_
  rotate_left
  · rintro w' ⟨s0, s1, s2⟩
    go_simp
    with_reducible rfl
  rotate_left
  · simp only [Act.put, List.setIfInBounds_toArray, List.set_cons_zero, List.set_cons_succ]
    rfl
  refine take_ (i := 12) (N := some 61) (v := ?_) (a' := ?_) #[true, true, true, true, true, true, true, false, true, true, true, true, true, false, false, false, false, false, false, false] rfl rfl (by kernel_rfl) (fun _ _ _ h => h) (Or.inl ⟨by rfl, ?_⟩) hHeld ?_ ?_
  rotate_left
  · rintro w' ⟨s0, s1, s2⟩
    go_simp
    with_reducible rfl
  rotate_left
  · simp only [Act.put, List.setIfInBounds_toArray, List.set_cons_zero, List.set_cons_succ]
    rfl
  refine one_ (i := 7) (N := some 56) #[true, true, true, true, true, true, true, true, true, true, true, true, true, false, false, false, false, false, false, false] rfl rfl (by kernel_rfl) (by decide) (fun K hK => ?_)
  refine goes_ Try.func47 (by kernel_rfl) rfl #[.pointer (some ⟨ph.tb i.toNat, 0, none⟩), .int .i64 a.f2] (by rfl) rfl rfl (by simp only [List.map_toArray, List.map_cons, List.map_nil, Act.eval]; rfl) ?_
  refine (get_calls (ph.tb i.toNat) 0 (ph.rv (4 + 2 * i.toNat)) vs a.f2 lo w1.drew htc0 ho.out HX.out.1 HX.out.2).mono ?_
  rintro e w' ⟨rfl, rfl⟩
  refine ⟨_, rfl, ?_⟩
  refine hK.out _ _ hHeld (fun hHeld => ?_)
  clear hK K
  refine norm_ (a' := ?_) ?_ ?_
  rotate_left
  · show Act.put _ (some 56) _ = _
    simp only [Act.put, List.setIfInBounds_toArray, List.set_cons_zero, List.set_cons_succ]
    rfl
  refine one_ (i := 13) (N := some 62) #[true, true, true, true, true, true, true, true, true, true, true, true, true, true, false, false, false, false, false, false] rfl rfl (by kernel_rfl) (by decide) (fun K hK => ?_)
  refine goes_ Try.func47 (by kernel_rfl) rfl #[.pointer (some ⟨ph.tb i.toNat, 0, none⟩), .int .i64 a.f3] (by rfl) rfl rfl (by simp only [List.map_toArray, List.map_cons, List.map_nil, Act.eval]; rfl) ?_
  refine (get_calls (ph.tb i.toNat) 0 (ph.rv (4 + 2 * i.toNat)) vs a.f3 lo w1.drew htc0 ho.out HY.out.1 HY.out.2).mono ?_
  rintro e w' ⟨rfl, rfl⟩
  refine ⟨_, rfl, ?_⟩
  refine hK.out _ _ hHeld (fun hHeld => ?_)
  clear hK K
  refine norm_ (a' := ?_) ?_ ?_
  rotate_left
  · show Act.put _ (some 62) _ = _
    simp only [Act.put, List.setIfInBounds_toArray, List.set_cons_zero, List.set_cons_succ]
    rfl
  refine one_ (i := 14) (N := some 63) #[true, true, true, true, true, true, true, true, true, true, true, true, true, true, true, false, false, false, false, false] rfl rfl (by kernel_rfl) (by decide) (fun K hK => ?_)
  refine goes_ Try.func63 (by kernel_rfl) rfl #[.int .i64 a.f6, .int .i64 (rd vs a.f2), .int .i64 (rd vs a.f3)] (by rfl) rfl rfl (by simp only [List.map_toArray, List.map_cons, List.map_nil, Act.eval]; rfl) ?_
  refine (num_Do.calls 9 a.f6 (rd vs a.f2) (rd vs a.f3) d1 d2 w1.drew HD.out).mono ?_
  rintro e w2 ⟨rfl, hb2⟩
  refine ⟨_, rfl, ?_⟩
  refine hK.out _ _ ⟨pw_cell_below hb2 hHeld.1, pw_cell_below hb2 hHeld.2.1, pw_cell_below hb2 hHeld.2.2⟩ (fun hHeld => ?_)
  clear hK K
  refine norm_ (a' := ?_) ?_ ?_
  rotate_left
  · show Act.put _ (some 63) _ = _
    simp only [Act.put, List.setIfInBounds_toArray, List.set_cons_zero, List.set_cons_succ]
    rfl
  refine pure_ (i := 15) (N := some 48) (v := ?_) (a' := ?_) #[true, true, true, true, true, true, true, true, true, true, true, true, true, true, true, true, false, false, false, false] rfl rfl (by kernel_rfl) (fun _ _ _ h => h) (Or.inl ⟨by rfl, ?_⟩) ?_ ?_
  rotate_left
  · intro w'
    go_simp
    with_reducible rfl
  rotate_left
  · simp only [Act.put, List.setIfInBounds_toArray, List.set_cons_zero, List.set_cons_succ]
    rfl
  refine pure_ (i := 16) (N := some 64) (v := ?_) (a' := ?_) #[true, true, true, true, true, true, true, true, true, true, true, true, true, true, true, true, true, false, false, false] rfl rfl (by kernel_rfl) (fun _ _ _ h => h) (Or.inl ⟨by rfl, ?_⟩) ?_ ?_
  rotate_left
  · intro w'
    go_simp
    with_reducible rfl
  rotate_left
  · simp only [Act.put, List.setIfInBounds_toArray, List.set_cons_zero, List.set_cons_succ]
    rfl
  refine pure_ (i := 17) (N := some 65) (v := ?_) (a' := ?_) #[true, true, true, true, true, true, true, true, true, true, true, true, true, true, true, true, true, true, false, false] rfl rfl (by kernel_rfl) (fun _ _ _ h => h) (Or.inl ⟨by rfl, ?_⟩) ?_ ?_
  rotate_left
  · intro w'
    go_simp
    with_reducible rfl
  rotate_left
  · simp only [Act.put, List.setIfInBounds_toArray, List.set_cons_zero, List.set_cons_succ]
    rfl
  refine pure_ (i := 18) (N := some 7) (v := ?_) (a' := ?_) #[true, true, true, true, true, true, true, true, true, true, true, true, true, true, true, true, true, true, true, false] rfl rfl (by kernel_rfl) (fun _ _ _ h => h) (Or.inl ⟨by rfl, ?_⟩) ?_ ?_
  rotate_left
  · intro w'
    go_simp
    with_reducible rfl
  rotate_left
  · simp only [Act.put, List.setIfInBounds_toArray, List.set_cons_zero, List.set_cons_succ]
    rfl
  refine pure_ (i := 19) (N := some 8) (v := ?_) (a' := ?_) #[true, true, true, true, true, true, true, true, true, true, true, true, true, true, true, true, true, true, true, true] rfl rfl (by kernel_rfl) (fun _ _ _ h => h) (Or.inl ⟨by rfl, ?_⟩) ?_ ?_
  rotate_left
  · intro w'
    go_simp
    with_reducible rfl
  rotate_left
  · simp only [Act.put, List.setIfInBounds_toArray, List.set_cons_zero, List.set_cons_succ]
    rfl
  refine done_ (by kernel_rfl) ?_
  have HB2 := Aside0.mk (below_on (below_drew HB.out) hb2)
  have H2 := Aside0.mk ((H1.out.below (below_drew (Below.refl _ w1))).below hb2)
  have hbox2 : w2.heap[gb]? = _ := below_read (w := w1.drew) hb2 HBX.out
  have hz1 : w2.cell? ⟨gb, 1, none⟩ = some (.int .i64 a.f1) := (blk_cell hbox2 1).trans rfl
  have htc0' : w2.cell? ⟨ph.tb i.toNat, 0, none⟩ = some (ph.rv (4 + 2 * i.toNat)) := (blk_cell (H2.out.th i.toNat (by omega)).1 0).trans rfl
  have ho' := Aside0.mk (H2.out.rows (4 + 2 * i.toNat))
  simp only [hvs] at ho'
  clear hHeld hb2 hbox2 ho htc0 hy0 hy1 hy2 hy3 hy4 hy5 hy6 hy7 hy8 H1 HB HBX HX HY
  clear HD
  by_cases hd : d2 = 0
  · have kd : (d2 != 0) = false := bne_eq_false_iff_eq.mpr hd
    replace HR := Aside0.mk (HR.out.trans (if_pos hd))
    clear hd
    go_wp2_with fail
    go_still_tail 6, (by kernel_rfl)
    change wpList _ _ _ _ _ w2.drew
    go_wp2_with (go_at_call 62; refine (set_calls (ph.tb i.toNat) 0 (ph.rv (4 + 2 * i.toNat)) vs a.f1 d1 lo w2.drew htc0' ho'.out HT.out.1 HT.out.2).mono ?_; rintro e w3 ⟨rfl, ho2, hg2⟩)
    go_ret
    exact ⟨by rw [HR.out]; rfl, by rw [HR.out]; exact (H2.out.below (below_drew (Below.refl _ w2))).rowChg _ _ (.of_below (below_drew HB2.out)) (setlen ho2) hg2⟩
  · have kd : (d2 != 0) = true := bne_iff_ne.mpr hd
    replace HR := Aside0.mk (HR.out.trans (if_neg hd))
    go_wp2
    go_ret
    exact ⟨by rw [HR.out]; rfl, by rw [HR.out, ← hvs, St.setRow_same]; exact ⟨H2.out, .of_below HB2.out⟩⟩
set_option maxHeartbeats 8000000 in
set_option maxRecDepth 100000 in
theorem reckon_13 (w : World) {lo hi fl : Nat} {ph : Ph} {cs : List S49} {nA : Nat} {s : St} (H : MachIn w lo hi fl ph cs nA s) (i : Int) (h0 : 0 ≤ i) (h1 : i < cs.length) (a : S33) (inp : Int)
    {ng na nm nl : Int} (ha : okA (s.row (4 + 2 * i.toNat)).length ng na nm nl a) (k13 : a.f0 = 13) :
    Calls Try.prog 44 #[.pointer (some ⟨ph.tb i.toNat, 0, none⟩), actV a, .int .i64 inp] w fun e w' => e = .returned (.int .i64 (reck (s.row (4 + 2 * i.toNat)) a inp).2) ∧ Left w lo hi fl ph cs nA (s.setRow (4 + 2 * i.toNat) (reck (s.row (4 + 2 * i.toNat)) a inp).1) w' := by
  have HH := Aside0.mk H
  have HR : Aside0 (reck (s.row (4 + 2 * i.toNat)) a inp = ((s.row (4 + 2 * i.toNat)), 10)) := ⟨by rw [reck, if_neg (by omega), if_neg (by omega), if_neg (by omega), if_neg (by omega), if_pos k13]⟩
  have kb1 : (a.f0 == 1) = false := beq_eq_false_iff_ne.mpr (by omega)
  have kb2 : (a.f0 == 2) = false := beq_eq_false_iff_ne.mpr (by omega)
  have kb3 : (a.f0 == 3) = false := beq_eq_false_iff_ne.mpr (by omega)
  have kb4 : (a.f0 == 4) = false := beq_eq_false_iff_ne.mpr (by omega)
  have kb13 : (a.f0 == 13) = true := beq_iff_eq.mpr k13
  clear k13 ha H
  generalize hvs : s.row (4 + 2 * i.toNat) = vs at *
  go_enter Try.func44, Try.ntmps44
  go_wp2_with (first | ((with_reducible refine gate_dst (N := 4) rfl ?_); refine box_event ?hg (N := 4) ?hd (cs := actC a) (t := 33) ?hr ?_; (case hd => rfl); (case hg => rfl); (case hr => first | (go_simp; done) | (go_simp; rfl)); intro gb hg w1 hbox hb; have HB := Aside0.mk hb; have H1 := Aside0.mk (HH.out.below hb); have hy0 : w1.cell? ⟨gb, 0, none⟩ = some (.int .i64 a.f0) := (blk_cell hbox 0).trans rfl; have hy1 : w1.cell? ⟨gb, 1, none⟩ = some (.int .i64 a.f1) := (blk_cell hbox 1).trans rfl; have hy2 : w1.cell? ⟨gb, 2, none⟩ = some (.int .i64 a.f2) := (blk_cell hbox 2).trans rfl; have hy3 : w1.cell? ⟨gb, 3, none⟩ = some (.int .i64 a.f3) := (blk_cell hbox 3).trans rfl; have hy4 : w1.cell? ⟨gb, 4, none⟩ = some (.int .i64 a.f4) := (blk_cell hbox 4).trans rfl; have hy5 : w1.cell? ⟨gb, 5, none⟩ = some (.int .i64 a.f5) := (blk_cell hbox 5).trans rfl; have hy6 : w1.cell? ⟨gb, 6, none⟩ = some (.int .i64 a.f6) := (blk_cell hbox 6).trans rfl; have hy7 : w1.cell? ⟨gb, 7, none⟩ = some (.int .i64 a.f7) := (blk_cell hbox 7).trans rfl; have hy8 : w1.cell? ⟨gb, 8, none⟩ = some (.int .i64 a.f8) := (blk_cell hbox 8).trans rfl; have htc0 : w1.cell? ⟨ph.tb i.toNat, 0, none⟩ = some (ph.rv (4 + 2 * i.toNat)) := (blk_cell (H1.out.th i.toNat (by omega)).1 0).trans rfl; have ho := Aside0.mk (H1.out.rows (4 + 2 * i.toNat)); simp only [hvs] at ho; clear hb hbox hg HH))
  go_ret
  exact ⟨by rw [HR.out]; rfl, by rw [HR.out, ← hvs, St.setRow_same]; exact ⟨H1.out, .of_below HB.out⟩⟩
set_option maxHeartbeats 8000000 in
set_option maxRecDepth 100000 in
theorem reckon_no (w : World) {lo hi fl : Nat} {ph : Ph} {cs : List S49} {nA : Nat} {s : St} (H : MachIn w lo hi fl ph cs nA s) (i : Int) (h0 : 0 ≤ i) (h1 : i < cs.length) (a : S33) (inp : Int)
    {ng na nm nl : Int} (ha : okA (s.row (4 + 2 * i.toNat)).length ng na nm nl a) (kn : a.f0 ≠ 1 ∧ a.f0 ≠ 2 ∧ a.f0 ≠ 3 ∧ a.f0 ≠ 4 ∧ a.f0 ≠ 13) :
    Calls Try.prog 44 #[.pointer (some ⟨ph.tb i.toNat, 0, none⟩), actV a, .int .i64 inp] w fun e w' => e = .returned (.int .i64 (reck (s.row (4 + 2 * i.toNat)) a inp).2) ∧ Left w lo hi fl ph cs nA (s.setRow (4 + 2 * i.toNat) (reck (s.row (4 + 2 * i.toNat)) a inp).1) w' := by
  have HH := Aside0.mk H
  have HR : Aside0 (reck (s.row (4 + 2 * i.toNat)) a inp = ((s.row (4 + 2 * i.toNat)), 0)) := ⟨by rw [reck, if_neg kn.1, if_neg kn.2.1, if_neg kn.2.2.1, if_neg kn.2.2.2.1, if_neg kn.2.2.2.2]⟩
  have kb1 : (a.f0 == 1) = false := beq_eq_false_iff_ne.mpr (by omega)
  have kb2 : (a.f0 == 2) = false := beq_eq_false_iff_ne.mpr (by omega)
  have kb3 : (a.f0 == 3) = false := beq_eq_false_iff_ne.mpr (by omega)
  have kb4 : (a.f0 == 4) = false := beq_eq_false_iff_ne.mpr (by omega)
  have kb13 : (a.f0 == 13) = false := beq_eq_false_iff_ne.mpr (by omega)
  clear kn ha H
  generalize hvs : s.row (4 + 2 * i.toNat) = vs at *
  go_enter Try.func44, Try.ntmps44
  go_wp2_with (first | ((with_reducible refine gate_dst (N := 4) rfl ?_); refine box_event ?hg (N := 4) ?hd (cs := actC a) (t := 33) ?hr ?_; (case hd => rfl); (case hg => rfl); (case hr => first | (go_simp; done) | (go_simp; rfl)); intro gb hg w1 hbox hb; have HB := Aside0.mk hb; have H1 := Aside0.mk (HH.out.below hb); have hy0 : w1.cell? ⟨gb, 0, none⟩ = some (.int .i64 a.f0) := (blk_cell hbox 0).trans rfl; have hy1 : w1.cell? ⟨gb, 1, none⟩ = some (.int .i64 a.f1) := (blk_cell hbox 1).trans rfl; have hy2 : w1.cell? ⟨gb, 2, none⟩ = some (.int .i64 a.f2) := (blk_cell hbox 2).trans rfl; have hy3 : w1.cell? ⟨gb, 3, none⟩ = some (.int .i64 a.f3) := (blk_cell hbox 3).trans rfl; have hy4 : w1.cell? ⟨gb, 4, none⟩ = some (.int .i64 a.f4) := (blk_cell hbox 4).trans rfl; have hy5 : w1.cell? ⟨gb, 5, none⟩ = some (.int .i64 a.f5) := (blk_cell hbox 5).trans rfl; have hy6 : w1.cell? ⟨gb, 6, none⟩ = some (.int .i64 a.f6) := (blk_cell hbox 6).trans rfl; have hy7 : w1.cell? ⟨gb, 7, none⟩ = some (.int .i64 a.f7) := (blk_cell hbox 7).trans rfl; have hy8 : w1.cell? ⟨gb, 8, none⟩ = some (.int .i64 a.f8) := (blk_cell hbox 8).trans rfl; have htc0 : w1.cell? ⟨ph.tb i.toNat, 0, none⟩ = some (ph.rv (4 + 2 * i.toNat)) := (blk_cell (H1.out.th i.toNat (by omega)).1 0).trans rfl; have ho := Aside0.mk (H1.out.rows (4 + 2 * i.toNat)); simp only [hvs] at ho; clear hb hbox hg HH))
  go_ret
  exact ⟨by rw [HR.out]; rfl, by rw [HR.out, ← hvs, St.setRow_same]; exact ⟨H1.out, .of_below HB.out⟩⟩
theorem reckon_calls (w : World) {lo hi fl : Nat} {ph : Ph} {cs : List S49} {nA : Nat} {s : St} (H : MachIn w lo hi fl ph cs nA s) (i : Int) (h0 : 0 ≤ i) (h1 : i < cs.length) (a : S33) (inp : Int)
    {ng na nm nl : Int} (ha : okA (s.row (4 + 2 * i.toNat)).length ng na nm nl a) :
    Calls Try.prog 44 #[.pointer (some ⟨ph.tb i.toNat, 0, none⟩), actV a, .int .i64 inp] w fun e w' => e = .returned (.int .i64 (reck (s.row (4 + 2 * i.toNat)) a inp).2) ∧ Left w lo hi fl ph cs nA (s.setRow (4 + 2 * i.toNat) (reck (s.row (4 + 2 * i.toNat)) a inp).1) w' := by
  by_cases k1 : a.f0 = 1
  · exact reckon_1 w H i h0 h1 a inp ha k1
  by_cases k2 : a.f0 = 2
  · exact reckon_2 w H i h0 h1 a inp ha k2
  by_cases k3 : a.f0 = 3
  · exact reckon_3 w H i h0 h1 a inp ha k3
  by_cases k4 : a.f0 = 4
  · exact reckon_4 w H i h0 h1 a inp ha k4
  by_cases k13 : a.f0 = 13
  · exact reckon_13 w H i h0 h1 a inp ha k13
  exact reckon_no w H i h0 h1 a inp ha ⟨k1, k2, k3, k4, k13⟩
end Go.Proofs.Ytikjamcemnbhbaa.Mr
