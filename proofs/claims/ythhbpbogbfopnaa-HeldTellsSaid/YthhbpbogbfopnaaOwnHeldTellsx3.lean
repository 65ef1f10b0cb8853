/- An own text for the statement HeldTells: its functions, and that the Go code comes to their answers; begun from what print.sh wrote. -/
import Derived.Test.YthhbpbogbfopnaaPHeldTellsx0
import Derived.Test.YthhbpbogbfopnaaOwnHeldTellsx1
import Derived.Test.YthhbpbogbfopnaaOwnHeldTellsx2
namespace Go.Proofs.Ythhbpbogbfopnaa.PHeldTells
open Go.RowKit Go.Proofs.YthhbpbogbfopnaaW.PrintWords Go.Proofs.YthhbpbogbfopnaaW.PrintLast Go.Proofs.YthhbpbogbfopnaaW.PrintMore
attribute [local go_sem] max2_int min2_int max_two min_two max_three min_three max_four min_four   -- for this text's walks alone
set_option linter.unusedVariables false
set_option linter.unusedSimpArgs false

theorem held_Meet_nil_ (k : Nat) (r : Int) (w : World) (h : held_Meet.f k [] = some r) : Calls Try.prog 17 #[.slice none 0 0] w fun e w' => e = .returned (.int .i64 r) ∧ Drawn0 w w' :=
  held_Meet.calls k none 0 [] r w (Kd.C_nil _ _) (Nat.le_refl _) h
theorem held_Join_nil_ (k : Nat) (r : Int) (w : World) (h : held_Join.f k [] = some r) : Calls Try.prog 18 #[.slice none 0 0] w fun e w' => e = .returned (.int .i64 r) ∧ Drawn0 w w' :=
  held_Join.calls k none 0 [] r w (Kd.C_nil _ _) (Nat.le_refl _) h
theorem lit2_reads_ (W : World) (a b : Int) (N : Nat) (hN : W.heap.size = N) : Kd.C (Kd.int .i64) (W.alloc (.cells #[.int .i64 a, .int .i64 b] 3)) (some ⟨N, 0, none⟩) 2 [a, b] := by
  subst hN
  obtain ⟨A, c, e, hr⟩ := own_reads (own_lit W W.heap.size 3 .i64 [a, b] (Nat.le_refl _) (by simp))
  injection e with e1 _ _
  subst e1
  exact Kd.C_of_reads (d := (0 : Int)) (h1 := fun _ => rfl) hr
theorem held_Meet_two_ (k : Nat) (a b r : Int) (A : Option Addr) (w : World) (hc : Kd.C (Kd.int .i64) w A 2 [a, b]) (h : held_Meet.f k [a, b] = some r) : Calls Try.prog 17 #[.slice A 2 2] w fun e w' => e = .returned (.int .i64 r) ∧ Drawn0 w w' :=
  held_Meet.calls k A 2 [a, b] r w hc (Nat.le_refl _) h
theorem held_Join_two_ (k : Nat) (a b r : Int) (A : Option Addr) (w : World) (hc : Kd.C (Kd.int .i64) w A 2 [a, b]) (h : held_Join.f k [a, b] = some r) : Calls Try.prog 18 #[.slice A 2 2] w fun e w' => e = .returned (.int .i64 r) ∧ Drawn0 w w' :=
  held_Join.calls k A 2 [a, b] r w hc (Nat.le_refl _) h
/-! ### meddlerlaw3_HeldTells: function 9 -/
mutual
def meddlerlaw3_HeldTells.j0 : Nat → Int → Int → Int → List Int → Bool → Option (Bool)
  | 0, _, _, _, _, _ => none
  | k + 1, x0, x1, x2, x3, x21 => if x21 = true then (some true) else ((held_List.f k x0).bind fun t141 => ((meddlerref3_List.f k x0).bind fun t144 => (if (t141.length : Int) = (t144.length : Int) then (meddlerlaw3_HeldTells.l0 k x0 x1 x2 x3 t141 t144 0) else (some false))))
def meddlerlaw3_HeldTells.l0 : Nat → Int → Int → Int → List Int → List Int → List Int → Int → Option (Bool)
  | 0, _, _, _, _, _, _, _ => none
  | k + 1, x0, x1, x2, x3, x9, x10, x11 => if x11 < (x9.length : Int) then (if 0 ≤ x11 then (if x11 < (x10.length : Int) then (if (rd x9 x11) = (rd x10 x11) then (meddlerlaw3_HeldTells.l0 k x0 x1 x2 x3 x9 x10 (wrap64 (x11 + 1))) else (some false)) else (none)) else (none)) else ((held_Has.f k x0 x2).bind fun t149 => ((meddlerref3_Has.f x0 x2).bind fun t150 => (if (t149 == t150) = true then ((held_With.f k x0 x3).bind fun t151 => ((meddlerref3_With.f k x0 x3).bind fun t152 => (if t151 = t152 then ((held_Without.f k x0 x3).bind fun t153 => ((meddlerref3_Without.f k x0 x3).bind fun t154 => (if t153 = t154 then ((held_Meet.f k (([x0, x1] : List Int))).bind fun t158 => (if t158 = (Go.bits .and .i64 x0 x1) then ((held_Join.f k (([x0, x1] : List Int))).bind fun t162 => (if t162 = (Go.bits .or .i64 x0 x1) then ((held_Apart.f k x0 x1).bind fun t163 => ((meddlerref3_Apart.f x0 x1).bind fun t164 => (if (t163 == t164) = true then ((held_Meet.f k ([] : List Int)).bind fun t165 => (if t165 = 0 then ((held_Join.f k ([] : List Int)).bind fun t166 => (if t166 = 0 then ((meddlerlaw3_known.f k).bind fun t167 => (some t167)) else (some false))) else (some false))) else (some false)))) else (some false))) else (some false))) else (some false)))) else (some false)))) else (some false))))
end
def meddlerlaw3_HeldTells.f (k : Nat) (a0 : Int) (a1 : Int) (a2 : Int) (l3 : List Int) : Option (Bool) := (meddlerlaw3_sets.f k (([a0, a1] : List Int))).bind fun t140 => (if t140 = true then (meddlerlaw3_HeldTells.j0 k a0 a1 a2 l3 (decide ((l3.length : Int) > 100))) else (meddlerlaw3_HeldTells.j0 k a0 a1 a2 l3 true))
theorem meddlerlaw3_HeldTells.mono_l : ∀ k, (∀ y0 y1 y2 y3 y4, LeO (meddlerlaw3_HeldTells.j0 k y0 y1 y2 y3 y4) (meddlerlaw3_HeldTells.j0 (k + 1) y0 y1 y2 y3 y4)) ∧ (∀ y0 y1 y2 y3 y4 y5 y6, LeO (meddlerlaw3_HeldTells.l0 k y0 y1 y2 y3 y4 y5 y6) (meddlerlaw3_HeldTells.l0 (k + 1) y0 y1 y2 y3 y4 y5 y6))
  | 0 => ⟨fun _ _ _ _ _ r h => by simp [meddlerlaw3_HeldTells.j0] at h, fun _ _ _ _ _ _ _ r h => by simp [meddlerlaw3_HeldTells.l0] at h⟩
  | k + 1 => by
    obtain ⟨ih0, ih1⟩ := meddlerlaw3_HeldTells.mono_l k
    refine ⟨?_, ?_⟩
    · intro y0 y1 y2 y3 y4
      unfold meddlerlaw3_HeldTells.j0
      repeat' first
      | (with_reducible exact ih0 _ _ _ _ _)
      | (with_reducible exact ih1 _ _ _ _ _ _ _)
      | (with_reducible exact held_Apart.mono _ _ _)
      | (with_reducible exact held_Has.mono _ _ _)
      | (with_reducible exact held_Join.mono _ _)
      | (with_reducible exact held_List.mono _ _)
      | (with_reducible exact held_Meet.mono _ _)
      | (with_reducible exact held_With.mono _ _ _)
      | (with_reducible exact held_Without.mono _ _ _)
      | (with_reducible exact meddlerlaw3_known.mono _)
      | (with_reducible exact meddlerlaw3_sets.mono _ _)
      | (with_reducible exact meddlerref3_List.mono _ _)
      | (with_reducible exact meddlerref3_With.mono _ _ _)
      | (with_reducible exact meddlerref3_Without.mono _ _ _)
      | (with_reducible exact LeO.refl _)
      | (with_reducible exact LeO.none _)
      | (with_reducible refine LeO.ite ?_ ?_)
      | (with_reducible refine LeO.bind ?_ (fun _ => ?_))
      | exact ih0 _ _ _ _ _
      | exact ih1 _ _ _ _ _ _ _
      | exact held_Apart.mono _ _ _
      | exact held_Has.mono _ _ _
      | exact held_Join.mono _ _
      | exact held_List.mono _ _
      | exact held_Meet.mono _ _
      | exact held_With.mono _ _ _
      | exact held_Without.mono _ _ _
      | exact meddlerlaw3_known.mono _
      | exact meddlerlaw3_sets.mono _ _
      | exact meddlerref3_List.mono _ _
      | exact meddlerref3_With.mono _ _ _
      | exact meddlerref3_Without.mono _ _ _
      | exact LeO.none _
      | refine LeO.ite ?_ ?_
      | refine LeO.bind ?_ (fun _ => ?_)
    · intro y0 y1 y2 y3 y4 y5 y6
      unfold meddlerlaw3_HeldTells.l0
      repeat' first
      | (with_reducible exact ih0 _ _ _ _ _)
      | (with_reducible exact ih1 _ _ _ _ _ _ _)
      | (with_reducible exact held_Apart.mono _ _ _)
      | (with_reducible exact held_Has.mono _ _ _)
      | (with_reducible exact held_Join.mono _ _)
      | (with_reducible exact held_List.mono _ _)
      | (with_reducible exact held_Meet.mono _ _)
      | (with_reducible exact held_With.mono _ _ _)
      | (with_reducible exact held_Without.mono _ _ _)
      | (with_reducible exact meddlerlaw3_known.mono _)
      | (with_reducible exact meddlerlaw3_sets.mono _ _)
      | (with_reducible exact meddlerref3_List.mono _ _)
      | (with_reducible exact meddlerref3_With.mono _ _ _)
      | (with_reducible exact meddlerref3_Without.mono _ _ _)
      | (with_reducible exact LeO.refl _)
      | (with_reducible exact LeO.none _)
      | (with_reducible refine LeO.ite ?_ ?_)
      | (with_reducible refine LeO.bind ?_ (fun _ => ?_))
      | exact ih0 _ _ _ _ _
      | exact ih1 _ _ _ _ _ _ _
      | exact held_Apart.mono _ _ _
      | exact held_Has.mono _ _ _
      | exact held_Join.mono _ _
      | exact held_List.mono _ _
      | exact held_Meet.mono _ _
      | exact held_With.mono _ _ _
      | exact held_Without.mono _ _ _
      | exact meddlerlaw3_known.mono _
      | exact meddlerlaw3_sets.mono _ _
      | exact meddlerref3_List.mono _ _
      | exact meddlerref3_With.mono _ _ _
      | exact meddlerref3_Without.mono _ _ _
      | exact LeO.none _
      | refine LeO.ite ?_ ?_
      | refine LeO.bind ?_ (fun _ => ?_)
theorem meddlerlaw3_HeldTells.mono : ∀ a0 a1 a2 a3 k, LeO (meddlerlaw3_HeldTells.f k a0 a1 a2 a3) (meddlerlaw3_HeldTells.f (k + 1) a0 a1 a2 a3) := by
  intro a0 a1 a2 a3 k
  obtain ⟨ih0, ih1⟩ := meddlerlaw3_HeldTells.mono_l k
  unfold meddlerlaw3_HeldTells.f
  repeat' first
      | (with_reducible exact ih0 _ _ _ _ _)
      | (with_reducible exact ih1 _ _ _ _ _ _ _)
      | (with_reducible exact held_Apart.mono _ _ _)
      | (with_reducible exact held_Has.mono _ _ _)
      | (with_reducible exact held_Join.mono _ _)
      | (with_reducible exact held_List.mono _ _)
      | (with_reducible exact held_Meet.mono _ _)
      | (with_reducible exact held_With.mono _ _ _)
      | (with_reducible exact held_Without.mono _ _ _)
      | (with_reducible exact meddlerlaw3_known.mono _)
      | (with_reducible exact meddlerlaw3_sets.mono _ _)
      | (with_reducible exact meddlerref3_List.mono _ _)
      | (with_reducible exact meddlerref3_With.mono _ _ _)
      | (with_reducible exact meddlerref3_Without.mono _ _ _)
      | (with_reducible exact LeO.refl _)
      | (with_reducible exact LeO.none _)
      | (with_reducible refine LeO.ite ?_ ?_)
      | (with_reducible refine LeO.bind ?_ (fun _ => ?_))
      | exact ih0 _ _ _ _ _
      | exact ih1 _ _ _ _ _ _ _
      | exact held_Apart.mono _ _ _
      | exact held_Has.mono _ _ _
      | exact held_Join.mono _ _
      | exact held_List.mono _ _
      | exact held_Meet.mono _ _
      | exact held_With.mono _ _ _
      | exact held_Without.mono _ _ _
      | exact meddlerlaw3_known.mono _
      | exact meddlerlaw3_sets.mono _ _
      | exact meddlerref3_List.mono _ _
      | exact meddlerref3_With.mono _ _ _
      | exact meddlerref3_Without.mono _ _ _
      | exact LeO.none _
      | refine LeO.ite ?_ ?_
      | refine LeO.bind ?_ (fun _ => ?_)
set_option maxHeartbeats 8000000 in
set_option maxRecDepth 100000 in
theorem meddlerlaw3_HeldTells.calls (k : Nat) (a0 : Int) (a1 : Int) (a2 : Int) (A3 : Option Addr) (c3 : Nat) (l3 : List Int) (w : World) (hr3 : Kd.C (Kd.int .i64) w A3 l3.length l3) (hc3 : l3.length ≤ c3) (h : meddlerlaw3_HeldTells.f k a0 a1 a2 l3 = some true) :
    Calls Try.prog 9 #[.int .i64 a0, .int .i64 a1, .int .i64 a2, .slice A3 l3.length c3] w fun e w' => e = .returned (.bool true) ∧ Below w.heap.size w w' := by
  have HR3 := Aside0.mk hr3
  have HC3 := Aside0.mk hc3
  clear hr3 hc3
  have HB := Aside0.mk (Below.refl w.heap.size w)
  have H : ((meddlerlaw3_sets.f k (([a0, a1] : List Int))).bind fun t140 => (if t140 = true then (meddlerlaw3_HeldTells.j0 k a0 a1 a2 l3 (decide ((l3.length : Int) > 100))) else (meddlerlaw3_HeldTells.j0 k a0 a1 a2 l3 true))) = some true := h
  clear h
  have HC5 := Aside0.mk H
  clear H
  go_enter Try.func9, Try.ntmps9
  go_upto_region 1 with (fail)
  repeat (go_quiet (fail); go_upto_region 1 with (fail))
  go_cut [21] (fun v21 wc => ∃ (kq : Nat) (x21_4 : Bool), v21 = .bool x21_4 ∧ Aside0 (meddlerlaw3_HeldTells.j0 kq a0 a1 a2 l3 x21_4 = some true) ∧ Aside0 (kq ≤ k) ∧ Aside0 (Below w.heap.size w wc))
  case first =>
    have H := HC5.out
    clear HC5
    obtain ⟨y137, hy137⟩ : ∃ y_ : List Int, y_ = (([a0, a1] : List Int)) := ⟨_, rfl⟩
    replace H : ((meddlerlaw3_sets.f k y137).bind fun t140 => (if t140 = true then (meddlerlaw3_HeldTells.j0 k a0 a1 a2 l3 (decide ((l3.length : Int) > 100))) else (meddlerlaw3_HeldTells.j0 k a0 a1 a2 l3 true))) = some true := by first | (rw [hy137]; with_reducible exact H) | (have H2_ := (Option.bind_some _ _).symm.trans H; rw [hy137]; with_reducible exact H2_) | (have H2_ := (Option.bind_some _ _).symm.trans H; with_reducible exact H2_) | with_reducible exact H | (rw [hy137]; exact H) | exact H
    have Ny137 := Aside0.mk hy137
    clear hy137
    replace H := Option.bind_eq_some_iff.mp H
    obtain ⟨t140, A60, H⟩ := H
    replace H : (if t140 = true then (meddlerlaw3_HeldTells.j0 k a0 a1 a2 l3 (decide ((l3.length : Int) > 100))) else (meddlerlaw3_HeldTells.j0 k a0 a1 a2 l3 true)) = some true := H
    have A6 := Aside0.mk A60
    clear A60
    by_cases c7 : t140 = true
    · subst c7
      have H1 : (meddlerlaw3_HeldTells.j0 k a0 a1 a2 l3 (decide ((l3.length : Int) > 100))) = some true := by rw [if_pos rfl] at H; exact H
      clear H
      have H := H1
      clear H1
      have H' := Aside0.mk H
      clear H
      go_wp2_with (first | ((with_reducible refine gate_dst (N := 14) rfl ?_); (try (refine gate_guard (by rfl) ?_; dsimp only)); refine Kd.R_lit (Kd.int .i64) _ 3 ?hg (N := 14) ?hd (xs := ([a0, a1] : List Int)) (inner := [.int .i64 a0, .int .i64 a1]) (ok := fun _ => True) (okp := fun _ => True) ?hr ?hp (fun _ hk => hk) trivial (Below.refl _ _) (Nat.le_refl _) (by simp) ?_; (case hd => rfl); (case hg => rfl); (case hr => first | (go_simp; done) | (go_simp; rfl)); (case hp => exact (Reps.one (show Kd.M (Kd.int .i64) _ _ _ a0 [.int .i64 a0] from rfl) (Reps.one (show Kd.M (Kd.int .i64) _ _ _ a1 [.int .i64 a1] from rfl) (Reps.none _ _)))); intro v138 w8 ho9 hb hg_ hnew_; clear hg_ hnew_; (first | rw [← Ny137.out] at ho9 | (simp only [Int.reduceToNat] at ho9; rw [← Ny137.out] at ho9)); have n0_ := Aside0.mk (Kd.R_lower ho9 (below_size (by repeat (first | (with_reducible first | exact HB.out | apply below_alloc | apply pw_below_drewN | apply below_drew1) | exact HB.out)))); have n1_ := Aside0.mk (below_step (by repeat (first | (with_reducible first | exact HB.out | apply below_alloc | apply pw_below_drewN | apply below_drew1) | exact HB.out)) hb); clear HB; have HO139 := n0_; have HB := n1_; clear n0_ n1_; clear hb ho9; obtain ⟨Ao10, co10, eo10⟩ := Kd.R_slice HO139.out; subst eo10) | (go_at_call 10; (with_reducible refine (meddlerlaw3_sets.calls k _ _ y137 true _ ?side1 ?side2 A6.out).mono ?_); (case side1 => repeat (first | exact (Kd.R_reads' HO139.out).2.2 | (with_reducible refine Kd.C_alloc ?_ _) | (with_reducible refine Kd.C_drewN ?_ _) | (with_reducible refine Kd.C_drew ?_))); (case side2 => exact (Kd.R_reads' HO139.out).2.1); rintro e w' ⟨rfl, ⟨nd, rfl⟩⟩; (try first | exact ⟨rfl, _, World.drewN_drewN _ _ _⟩ | exact ⟨rfl, _, Eq.trans (World.drewN_drewN _ _ _) (congrArg (World.drewN _) (Nat.add_assoc _ _ _))⟩)))
      repeat (go_quiet (first | ((with_reducible refine gate_dst (N := 14) rfl ?_); (try (refine gate_guard (by rfl) ?_; dsimp only)); refine Kd.R_lit (Kd.int .i64) _ 3 ?hg (N := 14) ?hd (xs := ([a0, a1] : List Int)) (inner := [.int .i64 a0, .int .i64 a1]) (ok := fun _ => True) (okp := fun _ => True) ?hr ?hp (fun _ hk => hk) trivial (Below.refl _ _) (Nat.le_refl _) (by simp) ?_; (case hd => rfl); (case hg => rfl); (case hr => first | (go_simp; done) | (go_simp; rfl)); (case hp => exact (Reps.one (show Kd.M (Kd.int .i64) _ _ _ a0 [.int .i64 a0] from rfl) (Reps.one (show Kd.M (Kd.int .i64) _ _ _ a1 [.int .i64 a1] from rfl) (Reps.none _ _)))); intro v138 w8 ho9 hb hg_ hnew_; clear hg_ hnew_; (first | rw [← Ny137.out] at ho9 | (simp only [Int.reduceToNat] at ho9; rw [← Ny137.out] at ho9)); have n0_ := Aside0.mk (Kd.R_lower ho9 (below_size (by repeat (first | (with_reducible first | exact HB.out | apply below_alloc | apply pw_below_drewN | apply below_drew1) | exact HB.out)))); have n1_ := Aside0.mk (below_step (by repeat (first | (with_reducible first | exact HB.out | apply below_alloc | apply pw_below_drewN | apply below_drew1) | exact HB.out)) hb); clear HB; have HO139 := n0_; have HB := n1_; clear n0_ n1_; clear hb ho9; obtain ⟨Ao10, co10, eo10⟩ := Kd.R_slice HO139.out; subst eo10) | (go_at_call 10; (with_reducible refine (meddlerlaw3_sets.calls k _ _ y137 true _ ?side1 ?side2 A6.out).mono ?_); (case side1 => repeat (first | exact (Kd.R_reads' HO139.out).2.2 | (with_reducible refine Kd.C_alloc ?_ _) | (with_reducible refine Kd.C_drewN ?_ _) | (with_reducible refine Kd.C_drew ?_))); (case side2 => exact (Kd.R_reads' HO139.out).2.1); rintro e w' ⟨rfl, ⟨nd, rfl⟩⟩; (try first | exact ⟨rfl, _, World.drewN_drewN _ _ _⟩ | exact ⟨rfl, _, Eq.trans (World.drewN_drewN _ _ _) (congrArg (World.drewN _) (Nat.add_assoc _ _ _))⟩))); try go_wp2_with (first | ((with_reducible refine gate_dst (N := 14) rfl ?_); (try (refine gate_guard (by rfl) ?_; dsimp only)); refine Kd.R_lit (Kd.int .i64) _ 3 ?hg (N := 14) ?hd (xs := ([a0, a1] : List Int)) (inner := [.int .i64 a0, .int .i64 a1]) (ok := fun _ => True) (okp := fun _ => True) ?hr ?hp (fun _ hk => hk) trivial (Below.refl _ _) (Nat.le_refl _) (by simp) ?_; (case hd => rfl); (case hg => rfl); (case hr => first | (go_simp; done) | (go_simp; rfl)); (case hp => exact (Reps.one (show Kd.M (Kd.int .i64) _ _ _ a0 [.int .i64 a0] from rfl) (Reps.one (show Kd.M (Kd.int .i64) _ _ _ a1 [.int .i64 a1] from rfl) (Reps.none _ _)))); intro v138 w8 ho9 hb hg_ hnew_; clear hg_ hnew_; (first | rw [← Ny137.out] at ho9 | (simp only [Int.reduceToNat] at ho9; rw [← Ny137.out] at ho9)); have n0_ := Aside0.mk (Kd.R_lower ho9 (below_size (by repeat (first | (with_reducible first | exact HB.out | apply below_alloc | apply pw_below_drewN | apply below_drew1) | exact HB.out)))); have n1_ := Aside0.mk (below_step (by repeat (first | (with_reducible first | exact HB.out | apply below_alloc | apply pw_below_drewN | apply below_drew1) | exact HB.out)) hb); clear HB; have HO139 := n0_; have HB := n1_; clear n0_ n1_; clear hb ho9; obtain ⟨Ao10, co10, eo10⟩ := Kd.R_slice HO139.out; subst eo10) | (go_at_call 10; (with_reducible refine (meddlerlaw3_sets.calls k _ _ y137 true _ ?side1 ?side2 A6.out).mono ?_); (case side1 => repeat (first | exact (Kd.R_reads' HO139.out).2.2 | (with_reducible refine Kd.C_alloc ?_ _) | (with_reducible refine Kd.C_drewN ?_ _) | (with_reducible refine Kd.C_drew ?_))); (case side2 => exact (Kd.R_reads' HO139.out).2.1); rintro e w' ⟨rfl, ⟨nd, rfl⟩⟩; (try first | exact ⟨rfl, _, World.drewN_drewN _ _ _⟩ | exact ⟨rfl, _, Eq.trans (World.drewN_drewN _ _ _) (congrArg (World.drewN _) (Nat.add_assoc _ _ _))⟩))))
      go_meet
      case rel => exact ⟨_, (decide ((l3.length : Int) > 100)), (by first | rfl | (simp; done) | (simp [*]; done)), H', ⟨by first | omega | exact Nat.le_refl _⟩, ⟨by repeat (first | (with_reducible first | exact HB.out | apply below_alloc | apply pw_below_drewN | apply below_drew1) | exact HB.out)⟩⟩
    · replace c7 := Bool.eq_false_iff.mpr c7
      subst c7
      have H1 : (meddlerlaw3_HeldTells.j0 k a0 a1 a2 l3 true) = some true := by rw [if_neg (show ¬ (false = true) by decide)] at H; exact H
      clear H
      have H := H1
      clear H1
      have H' := Aside0.mk H
      clear H
      go_wp2_with (first | ((with_reducible refine gate_dst (N := 14) rfl ?_); (try (refine gate_guard (by rfl) ?_; dsimp only)); refine Kd.R_lit (Kd.int .i64) _ 3 ?hg (N := 14) ?hd (xs := ([a0, a1] : List Int)) (inner := [.int .i64 a0, .int .i64 a1]) (ok := fun _ => True) (okp := fun _ => True) ?hr ?hp (fun _ hk => hk) trivial (Below.refl _ _) (Nat.le_refl _) (by simp) ?_; (case hd => rfl); (case hg => rfl); (case hr => first | (go_simp; done) | (go_simp; rfl)); (case hp => exact (Reps.one (show Kd.M (Kd.int .i64) _ _ _ a0 [.int .i64 a0] from rfl) (Reps.one (show Kd.M (Kd.int .i64) _ _ _ a1 [.int .i64 a1] from rfl) (Reps.none _ _)))); intro v138 w11 ho12 hb hg_ hnew_; clear hg_ hnew_; (first | rw [← Ny137.out] at ho12 | (simp only [Int.reduceToNat] at ho12; rw [← Ny137.out] at ho12)); have n0_ := Aside0.mk (Kd.R_lower ho12 (below_size (by repeat (first | (with_reducible first | exact HB.out | apply below_alloc | apply pw_below_drewN | apply below_drew1) | exact HB.out)))); have n1_ := Aside0.mk (below_step (by repeat (first | (with_reducible first | exact HB.out | apply below_alloc | apply pw_below_drewN | apply below_drew1) | exact HB.out)) hb); clear HB; have HO139 := n0_; have HB := n1_; clear n0_ n1_; clear hb ho12; obtain ⟨Ao13, co13, eo13⟩ := Kd.R_slice HO139.out; subst eo13) | (go_at_call 10; (with_reducible refine (meddlerlaw3_sets.calls k _ _ y137 false _ ?side1 ?side2 A6.out).mono ?_); (case side1 => repeat (first | exact (Kd.R_reads' HO139.out).2.2 | (with_reducible refine Kd.C_alloc ?_ _) | (with_reducible refine Kd.C_drewN ?_ _) | (with_reducible refine Kd.C_drew ?_))); (case side2 => exact (Kd.R_reads' HO139.out).2.1); rintro e w' ⟨rfl, ⟨nd, rfl⟩⟩; (try first | exact ⟨rfl, _, World.drewN_drewN _ _ _⟩ | exact ⟨rfl, _, Eq.trans (World.drewN_drewN _ _ _) (congrArg (World.drewN _) (Nat.add_assoc _ _ _))⟩)))
      repeat (go_quiet (first | ((with_reducible refine gate_dst (N := 14) rfl ?_); (try (refine gate_guard (by rfl) ?_; dsimp only)); refine Kd.R_lit (Kd.int .i64) _ 3 ?hg (N := 14) ?hd (xs := ([a0, a1] : List Int)) (inner := [.int .i64 a0, .int .i64 a1]) (ok := fun _ => True) (okp := fun _ => True) ?hr ?hp (fun _ hk => hk) trivial (Below.refl _ _) (Nat.le_refl _) (by simp) ?_; (case hd => rfl); (case hg => rfl); (case hr => first | (go_simp; done) | (go_simp; rfl)); (case hp => exact (Reps.one (show Kd.M (Kd.int .i64) _ _ _ a0 [.int .i64 a0] from rfl) (Reps.one (show Kd.M (Kd.int .i64) _ _ _ a1 [.int .i64 a1] from rfl) (Reps.none _ _)))); intro v138 w11 ho12 hb hg_ hnew_; clear hg_ hnew_; (first | rw [← Ny137.out] at ho12 | (simp only [Int.reduceToNat] at ho12; rw [← Ny137.out] at ho12)); have n0_ := Aside0.mk (Kd.R_lower ho12 (below_size (by repeat (first | (with_reducible first | exact HB.out | apply below_alloc | apply pw_below_drewN | apply below_drew1) | exact HB.out)))); have n1_ := Aside0.mk (below_step (by repeat (first | (with_reducible first | exact HB.out | apply below_alloc | apply pw_below_drewN | apply below_drew1) | exact HB.out)) hb); clear HB; have HO139 := n0_; have HB := n1_; clear n0_ n1_; clear hb ho12; obtain ⟨Ao13, co13, eo13⟩ := Kd.R_slice HO139.out; subst eo13) | (go_at_call 10; (with_reducible refine (meddlerlaw3_sets.calls k _ _ y137 false _ ?side1 ?side2 A6.out).mono ?_); (case side1 => repeat (first | exact (Kd.R_reads' HO139.out).2.2 | (with_reducible refine Kd.C_alloc ?_ _) | (with_reducible refine Kd.C_drewN ?_ _) | (with_reducible refine Kd.C_drew ?_))); (case side2 => exact (Kd.R_reads' HO139.out).2.1); rintro e w' ⟨rfl, ⟨nd, rfl⟩⟩; (try first | exact ⟨rfl, _, World.drewN_drewN _ _ _⟩ | exact ⟨rfl, _, Eq.trans (World.drewN_drewN _ _ _) (congrArg (World.drewN _) (Nat.add_assoc _ _ _))⟩))); try go_wp2_with (first | ((with_reducible refine gate_dst (N := 14) rfl ?_); (try (refine gate_guard (by rfl) ?_; dsimp only)); refine Kd.R_lit (Kd.int .i64) _ 3 ?hg (N := 14) ?hd (xs := ([a0, a1] : List Int)) (inner := [.int .i64 a0, .int .i64 a1]) (ok := fun _ => True) (okp := fun _ => True) ?hr ?hp (fun _ hk => hk) trivial (Below.refl _ _) (Nat.le_refl _) (by simp) ?_; (case hd => rfl); (case hg => rfl); (case hr => first | (go_simp; done) | (go_simp; rfl)); (case hp => exact (Reps.one (show Kd.M (Kd.int .i64) _ _ _ a0 [.int .i64 a0] from rfl) (Reps.one (show Kd.M (Kd.int .i64) _ _ _ a1 [.int .i64 a1] from rfl) (Reps.none _ _)))); intro v138 w11 ho12 hb hg_ hnew_; clear hg_ hnew_; (first | rw [← Ny137.out] at ho12 | (simp only [Int.reduceToNat] at ho12; rw [← Ny137.out] at ho12)); have n0_ := Aside0.mk (Kd.R_lower ho12 (below_size (by repeat (first | (with_reducible first | exact HB.out | apply below_alloc | apply pw_below_drewN | apply below_drew1) | exact HB.out)))); have n1_ := Aside0.mk (below_step (by repeat (first | (with_reducible first | exact HB.out | apply below_alloc | apply pw_below_drewN | apply below_drew1) | exact HB.out)) hb); clear HB; have HO139 := n0_; have HB := n1_; clear n0_ n1_; clear hb ho12; obtain ⟨Ao13, co13, eo13⟩ := Kd.R_slice HO139.out; subst eo13) | (go_at_call 10; (with_reducible refine (meddlerlaw3_sets.calls k _ _ y137 false _ ?side1 ?side2 A6.out).mono ?_); (case side1 => repeat (first | exact (Kd.R_reads' HO139.out).2.2 | (with_reducible refine Kd.C_alloc ?_ _) | (with_reducible refine Kd.C_drewN ?_ _) | (with_reducible refine Kd.C_drew ?_))); (case side2 => exact (Kd.R_reads' HO139.out).2.1); rintro e w' ⟨rfl, ⟨nd, rfl⟩⟩; (try first | exact ⟨rfl, _, World.drewN_drewN _ _ _⟩ | exact ⟨rfl, _, Eq.trans (World.drewN_drewN _ _ _) (congrArg (World.drewN _) (Nat.add_assoc _ _ _))⟩))))
      go_meet
      case rel => exact ⟨_, (true), (by first | rfl | (simp; done) | (simp [*]; done)), H', ⟨by first | omega | exact Nat.le_refl _⟩, ⟨by repeat (first | (with_reducible first | exact HB.out | apply below_alloc | apply pw_below_drewN | apply below_drew1) | exact HB.out)⟩⟩
  case rest =>
    clear HC5
    try clear p2
    try clear c3
    try clear c7
    try clear c9
    obtain ⟨kq, x21_4, rfl, HA, HJ4, HB⟩ := hcut
    cases kq with
    | zero => exact absurd HA.out (by simp [meddlerlaw3_HeldTells.j0])
    | succ kj4 =>
      have H := HA.out
      clear HA
      simp only [meddlerlaw3_HeldTells.j0] at H
      by_cases c14 : x21_4 = true
      · subst c14
        have H1 : (some true) = some true := rfl
        clear H
        have H := H1
        clear H1
        have HT := Aside0.mk (Option.some.inj H)
        clear H
        go_wp2
        repeat (go_quiet (fail); try go_wp2)
        go_ret
        exact ⟨by first | rfl | (simp [HT.out]; done) | (simp [errW_none, errW_some] <;> rfl) | (simp [*, errW_none, errW_some] <;> rfl), by repeat (first | (with_reducible first | exact HB.out | apply below_alloc | apply pw_below_drewN | apply below_drew1) | exact HB.out)⟩
      · replace c14 := Bool.eq_false_iff.mpr c14
        subst c14
        have H1 : ((held_List.f kj4 a0).bind fun t141 => ((meddlerref3_List.f kj4 a0).bind fun t144 => (if (t141.length : Int) = (t144.length : Int) then (meddlerlaw3_HeldTells.l0 kj4 a0 a1 a2 l3 t141 t144 0) else (some false)))) = some true := by rw [if_neg (show ¬ (false = true) by decide)] at H; exact H
        clear H
        have H := H1
        clear H1
        replace H := Option.bind_eq_some_iff.mp H
        obtain ⟨t141, A150, H⟩ := H
        replace H : ((meddlerref3_List.f kj4 a0).bind fun t144 => (if (t141.length : Int) = (t144.length : Int) then (meddlerlaw3_HeldTells.l0 kj4 a0 a1 a2 l3 t141 t144 0) else (some false))) = some true := H
        have A15 := Aside0.mk A150
        clear A150
        replace H := Option.bind_eq_some_iff.mp H
        obtain ⟨t144, A160, H⟩ := H
        replace H : (if (t141.length : Int) = (t144.length : Int) then (meddlerlaw3_HeldTells.l0 kj4 a0 a1 a2 l3 t141 t144 0) else (some false)) = some true := H
        have A16 := Aside0.mk A160
        clear A160
        by_cases c17 : (t141.length : Int) = (t144.length : Int)
        · rw [if_pos c17] at H
          have c17b0 : ((t141.length : Int) == (t144.length : Int)) = true := beq_iff_eq.mpr c17
          have c17b1 : ((t141.length : Int) != (t144.length : Int)) = false := bne_eq_false_iff_eq.mpr c17
          have c17b2 : (t141.length == t144.length) = true := by first | simpa using c17 | (simp at c17 ⊢; omega)
          clear c17
          have H' := Aside0.mk H
          clear H
          go_wp2_with (first | (go_at_call 15; (with_reducible refine (held_List.calls kj4 a0 t141 _ A15.out).mono ?_); rintro e w18 ⟨v142, rfl, ho0, hb⟩; have n0_ := Aside0.mk (Kd.R_lower ho0 (below_size (by repeat (first | (with_reducible first | exact HB.out | apply below_alloc | apply pw_below_drewN | apply below_drew1) | exact HB.out)))); have n1_ := Aside0.mk (below_step (by repeat (first | (with_reducible first | exact HB.out | apply below_alloc | apply pw_below_drewN | apply below_drew1) | exact HB.out)) hb); clear HB; have HO143 := n0_; have HB := n1_; clear n0_ n1_; (try clear hb); (try clear hb2); (try clear hk); (try clear hi); (try clear ho0)) | (go_at_call 19; (with_reducible refine (meddlerref3_List.calls kj4 a0 t144 _ A16.out).mono ?_); rintro e w19 ⟨v145, rfl, ho0, hb⟩; have n0_ := Aside0.mk (Kd.R_elder' (by (with_reducible repeat (first | apply Kd.R_alloc | apply Kd.R_drewN | apply Kd.R_drew)); exact HO143.out) (Kd.R_base ho0) hb); have n1_ := Aside0.mk (Kd.R_lower (Kd.R_new' ho0 (Kd.R_lt (by (with_reducible repeat (first | apply Kd.R_alloc | apply Kd.R_drewN | apply Kd.R_drew)); exact HO143.out))) (below_size (by repeat (first | (with_reducible first | exact HB.out | apply below_alloc | apply pw_below_drewN | apply below_drew1) | exact HB.out)))); have n2_ := Aside0.mk (below_step (by repeat (first | (with_reducible first | exact HB.out | apply below_alloc | apply pw_below_drewN | apply below_drew1) | exact HB.out)) hb); clear HO143; clear HB; have HO143 := n0_; have HO146 := n1_; have HB := n2_; clear n0_ n1_ n2_; (try clear hb); (try clear hb2); (try clear hk); (try clear hi); (try clear ho0); obtain ⟨Ao20, co20, eo20⟩ := Kd.R_slice HO143.out; subst eo20; obtain ⟨Ao21, co21, eo21⟩ := Kd.R_slice HO146.out; subst eo21))
          repeat (go_quiet (first | (go_at_call 15; (with_reducible refine (held_List.calls kj4 a0 t141 _ A15.out).mono ?_); rintro e w18 ⟨v142, rfl, ho0, hb⟩; have n0_ := Aside0.mk (Kd.R_lower ho0 (below_size (by repeat (first | (with_reducible first | exact HB.out | apply below_alloc | apply pw_below_drewN | apply below_drew1) | exact HB.out)))); have n1_ := Aside0.mk (below_step (by repeat (first | (with_reducible first | exact HB.out | apply below_alloc | apply pw_below_drewN | apply below_drew1) | exact HB.out)) hb); clear HB; have HO143 := n0_; have HB := n1_; clear n0_ n1_; (try clear hb); (try clear hb2); (try clear hk); (try clear hi); (try clear ho0)) | (go_at_call 19; (with_reducible refine (meddlerref3_List.calls kj4 a0 t144 _ A16.out).mono ?_); rintro e w19 ⟨v145, rfl, ho0, hb⟩; have n0_ := Aside0.mk (Kd.R_elder' (by (with_reducible repeat (first | apply Kd.R_alloc | apply Kd.R_drewN | apply Kd.R_drew)); exact HO143.out) (Kd.R_base ho0) hb); have n1_ := Aside0.mk (Kd.R_lower (Kd.R_new' ho0 (Kd.R_lt (by (with_reducible repeat (first | apply Kd.R_alloc | apply Kd.R_drewN | apply Kd.R_drew)); exact HO143.out))) (below_size (by repeat (first | (with_reducible first | exact HB.out | apply below_alloc | apply pw_below_drewN | apply below_drew1) | exact HB.out)))); have n2_ := Aside0.mk (below_step (by repeat (first | (with_reducible first | exact HB.out | apply below_alloc | apply pw_below_drewN | apply below_drew1) | exact HB.out)) hb); clear HO143; clear HB; have HO143 := n0_; have HO146 := n1_; have HB := n2_; clear n0_ n1_ n2_; (try clear hb); (try clear hb2); (try clear hk); (try clear hi); (try clear ho0); obtain ⟨Ao20, co20, eo20⟩ := Kd.R_slice HO143.out; subst eo20; obtain ⟨Ao21, co21, eo21⟩ := Kd.R_slice HO146.out; subst eo21)); try go_wp2_with (first | (go_at_call 15; (with_reducible refine (held_List.calls kj4 a0 t141 _ A15.out).mono ?_); rintro e w18 ⟨v142, rfl, ho0, hb⟩; have n0_ := Aside0.mk (Kd.R_lower ho0 (below_size (by repeat (first | (with_reducible first | exact HB.out | apply below_alloc | apply pw_below_drewN | apply below_drew1) | exact HB.out)))); have n1_ := Aside0.mk (below_step (by repeat (first | (with_reducible first | exact HB.out | apply below_alloc | apply pw_below_drewN | apply below_drew1) | exact HB.out)) hb); clear HB; have HO143 := n0_; have HB := n1_; clear n0_ n1_; (try clear hb); (try clear hb2); (try clear hk); (try clear hi); (try clear ho0)) | (go_at_call 19; (with_reducible refine (meddlerref3_List.calls kj4 a0 t144 _ A16.out).mono ?_); rintro e w19 ⟨v145, rfl, ho0, hb⟩; have n0_ := Aside0.mk (Kd.R_elder' (by (with_reducible repeat (first | apply Kd.R_alloc | apply Kd.R_drewN | apply Kd.R_drew)); exact HO143.out) (Kd.R_base ho0) hb); have n1_ := Aside0.mk (Kd.R_lower (Kd.R_new' ho0 (Kd.R_lt (by (with_reducible repeat (first | apply Kd.R_alloc | apply Kd.R_drewN | apply Kd.R_drew)); exact HO143.out))) (below_size (by repeat (first | (with_reducible first | exact HB.out | apply below_alloc | apply pw_below_drewN | apply below_drew1) | exact HB.out)))); have n2_ := Aside0.mk (below_step (by repeat (first | (with_reducible first | exact HB.out | apply below_alloc | apply pw_below_drewN | apply below_drew1) | exact HB.out)) hb); clear HO143; clear HB; have HO143 := n0_; have HO146 := n1_; have HB := n2_; clear n0_ n1_ n2_; (try clear hb); (try clear hb2); (try clear hk); (try clear hi); (try clear ho0); obtain ⟨Ao20, co20, eo20⟩ := Kd.R_slice HO143.out; subst eo20; obtain ⟨Ao21, co21, eo21⟩ := Kd.R_slice HO146.out; subst eo21)))
          go_loopg [11] kj4 (fun kq v11 w' => ∃ (x11_2 : Int), v11 = .int .i64 x11_2 ∧ Aside0 (meddlerlaw3_HeldTells.l0 kq a0 a1 a2 l3 t141 t144 x11_2 = some true) ∧ Aside0 (kq ≤ kj4) ∧ Aside0 (Kd.R (Kd.int .i64) 3 w' w.heap.size (fun k_ => some k_ ≠ ((.slice Ao21 t144.length co21) : Value).ownBlock) (.slice Ao20 t141.length co20) t141) ∧ Aside0 (Kd.R (Kd.int .i64) 3 w' w.heap.size (fun k_ => some k_ ≠ ((.slice Ao20 t141.length co20) : Value).ownBlock) (.slice Ao21 t144.length co21) t144) ∧ Aside0 (Below w.heap.size w w'))
          case atStart => exact ⟨(0), (by first | rfl | (simp; done) | (simp [*]; done)), H', ⟨Nat.le_refl _⟩, ⟨by (with_reducible repeat (first | apply Kd.R_alloc | apply Kd.R_drewN | apply Kd.R_drew)); exact Kd.R_mono HO143.out (fun _ hk => hk.2)⟩, ⟨by (with_reducible repeat (first | apply Kd.R_alloc | apply Kd.R_drewN | apply Kd.R_drew)); exact Kd.R_mono HO146.out (fun _ hk => hk.2)⟩, ⟨by repeat (first | (with_reducible first | exact HB.out | apply below_alloc | apply pw_below_drewN | apply below_drew1) | exact HB.out)⟩⟩
          case round =>
            clear H'
            try clear c1
            try clear p2
            try clear c3
            try clear c7
            try clear c9
            try clear c14
            try clear c17
            try clear c17b0
            try clear c17b1
            try clear c17b2
            try clear p2
            obtain ⟨x11_2, rfl, HA, HK2, HO_9, HO_10, HB⟩ := hrel
            cases gk with
            | zero => exact absurd HA.out (by simp [meddlerlaw3_HeldTells.l0])
            | succ k2 =>
              have H := HA.out
              clear HA
              simp only [meddlerlaw3_HeldTells.l0] at H
              by_cases c22 : x11_2 < (t141.length : Int)
              · rw [if_pos c22] at H
                have c22b0 : decide (x11_2 < (t141.length : Int)) = true := decide_eq_true c22
                clear c22
                by_cases c23 : 0 ≤ x11_2
                · rw [if_pos c23] at H
                  have c23b0 : decide (0 ≤ x11_2) = true := decide_eq_true c23
                  clear c23
                  by_cases c24 : x11_2 < (t144.length : Int)
                  · rw [if_pos c24] at H
                    have c24b0 : decide (x11_2 < (t144.length : Int)) = true := decide_eq_true c24
                    clear c24
                    by_cases c25 : (rd t141 x11_2) = (rd t144 x11_2)
                    · rw [if_pos c25] at H
                      have c25b0 : ((rd t141 x11_2) == (rd t144 x11_2)) = true := beq_iff_eq.mpr c25
                      have c25b1 : ((rd t141 x11_2) != (rd t144 x11_2)) = false := bne_eq_false_iff_eq.mpr c25
                      clear c25
                      have H' := Aside0.mk H
                      clear H
                      have p147 : 0 ≤ (x11_2 : Int) := of_decide_eq_true (by first | (with_reducible assumption) | assumption)
                      have q147 : x11_2 < (t141.length : Int) := of_decide_eq_true (by first | (with_reducible assumption) | assumption)
                      obtain ⟨ad147, e147, hx147_0⟩ := Kd.at_int (Kd.R_reads' HO_9.out).2.2 x11_2 p147 q147
                      cases e147
                      replace p147 := eq_true p147
                      replace q147 := eq_true q147
                      have p148 : 0 ≤ (x11_2 : Int) := of_decide_eq_true (by first | (with_reducible assumption) | assumption)
                      have q148 : x11_2 < (t144.length : Int) := of_decide_eq_true (by first | (with_reducible assumption) | assumption)
                      obtain ⟨ad148, e148, hx148_0⟩ := Kd.at_int (Kd.R_reads' HO_10.out).2.2 x11_2 p148 q148
                      cases e148
                      replace p148 := eq_true p148
                      replace q148 := eq_true q148
                      go_wp2
                      repeat (go_quiet (fail); try go_wp2)
                      go_roundg k2
                      case measure => have := HJ4.out; have := HK2.out; omega
                      case rel => exact ⟨(wrap64 (x11_2 + 1)), (by first | rfl | (simp; done) | (simp [*]; done)), H', ⟨by have := HJ4.out; have := HK2.out; omega⟩, ⟨by (with_reducible repeat (first | apply Kd.R_alloc | apply Kd.R_drewN | apply Kd.R_drew)); exact HO_9.out⟩, ⟨by (with_reducible repeat (first | apply Kd.R_alloc | apply Kd.R_drewN | apply Kd.R_drew)); exact HO_10.out⟩, ⟨by repeat (first | (with_reducible first | exact HB.out | apply below_alloc | apply pw_below_drewN | apply below_drew1) | exact HB.out)⟩⟩
                    · rw [if_neg c25] at H
                      have c25b0 : ((rd t141 x11_2) == (rd t144 x11_2)) = false := beq_eq_false_iff_ne.mpr c25
                      have c25b1 : ((rd t141 x11_2) != (rd t144 x11_2)) = true := bne_iff_ne.mpr c25
                      have HT := Aside0.mk (Option.some.inj H)
                      clear H
                      have p147 : 0 ≤ (x11_2 : Int) := of_decide_eq_true (by first | (with_reducible assumption) | assumption)
                      have q147 : x11_2 < (t141.length : Int) := of_decide_eq_true (by first | (with_reducible assumption) | assumption)
                      obtain ⟨ad147, e147, hx147_0⟩ := Kd.at_int (Kd.R_reads' HO_9.out).2.2 x11_2 p147 q147
                      cases e147
                      replace p147 := eq_true p147
                      replace q147 := eq_true q147
                      have p148 : 0 ≤ (x11_2 : Int) := of_decide_eq_true (by first | (with_reducible assumption) | assumption)
                      have q148 : x11_2 < (t144.length : Int) := of_decide_eq_true (by first | (with_reducible assumption) | assumption)
                      obtain ⟨ad148, e148, hx148_0⟩ := Kd.at_int (Kd.R_reads' HO_10.out).2.2 x11_2 p148 q148
                      cases e148
                      replace p148 := eq_true p148
                      replace q148 := eq_true q148
                      go_wp2
                      repeat (go_quiet (fail); try go_wp2)
                      go_ret
                      exact ⟨by first | rfl | (simp [HT.out]; done) | (simp [errW_none, errW_some] <;> rfl) | (simp [*, errW_none, errW_some] <;> rfl), by repeat (first | (with_reducible first | exact HB.out | apply below_alloc | apply pw_below_drewN | apply below_drew1) | exact HB.out)⟩
                  · rw [if_neg c24] at H
                    exact absurd H (by simp)
                · rw [if_neg c23] at H
                  exact absurd H (by simp)
              · rw [if_neg c22] at H
                have c22b0 : decide (x11_2 < (t141.length : Int)) = false := decide_eq_false c22
                clear c22
                replace H := Option.bind_eq_some_iff.mp H
                obtain ⟨t149, A260, H⟩ := H
                replace H : ((meddlerref3_Has.f a0 a2).bind fun t150 => (if (t149 == t150) = true then ((held_With.f k2 a0 l3).bind fun t151 => ((meddlerref3_With.f k2 a0 l3).bind fun t152 => (if t151 = t152 then ((held_Without.f k2 a0 l3).bind fun t153 => ((meddlerref3_Without.f k2 a0 l3).bind fun t154 => (if t153 = t154 then ((held_Meet.f k2 (([a0, a1] : List Int))).bind fun t158 => (if t158 = (Go.bits .and .i64 a0 a1) then ((held_Join.f k2 (([a0, a1] : List Int))).bind fun t162 => (if t162 = (Go.bits .or .i64 a0 a1) then ((held_Apart.f k2 a0 a1).bind fun t163 => ((meddlerref3_Apart.f a0 a1).bind fun t164 => (if (t163 == t164) = true then ((held_Meet.f k2 ([] : List Int)).bind fun t165 => (if t165 = 0 then ((held_Join.f k2 ([] : List Int)).bind fun t166 => (if t166 = 0 then ((meddlerlaw3_known.f k2).bind fun t167 => (some t167)) else (some false))) else (some false))) else (some false)))) else (some false))) else (some false))) else (some false)))) else (some false)))) else (some false))) = some true := H
                have A26 := Aside0.mk A260
                clear A260
                replace H := Option.bind_eq_some_iff.mp H
                obtain ⟨t150, A270, H⟩ := H
                replace H : (if (t149 == t150) = true then ((held_With.f k2 a0 l3).bind fun t151 => ((meddlerref3_With.f k2 a0 l3).bind fun t152 => (if t151 = t152 then ((held_Without.f k2 a0 l3).bind fun t153 => ((meddlerref3_Without.f k2 a0 l3).bind fun t154 => (if t153 = t154 then ((held_Meet.f k2 (([a0, a1] : List Int))).bind fun t158 => (if t158 = (Go.bits .and .i64 a0 a1) then ((held_Join.f k2 (([a0, a1] : List Int))).bind fun t162 => (if t162 = (Go.bits .or .i64 a0 a1) then ((held_Apart.f k2 a0 a1).bind fun t163 => ((meddlerref3_Apart.f a0 a1).bind fun t164 => (if (t163 == t164) = true then ((held_Meet.f k2 ([] : List Int)).bind fun t165 => (if t165 = 0 then ((held_Join.f k2 ([] : List Int)).bind fun t166 => (if t166 = 0 then ((meddlerlaw3_known.f k2).bind fun t167 => (some t167)) else (some false))) else (some false))) else (some false)))) else (some false))) else (some false))) else (some false)))) else (some false)))) else (some false)) = some true := H
                have A27 := Aside0.mk A270
                clear A270
                by_cases c28 : (t149 == t150) = true
                · rw [if_pos c28] at H
                  have c28b0 : (t149 == t150) = true := c28
                  (try (have c28b1 : decide (t149 = t150) = true := by simpa using c28))
                  (try (have c28b2 : (t149 == t150) = true := by simpa using c28))
                  clear c28
                  replace H := Option.bind_eq_some_iff.mp H
                  obtain ⟨t151, A290, H⟩ := H
                  replace H : ((meddlerref3_With.f k2 a0 l3).bind fun t152 => (if t151 = t152 then ((held_Without.f k2 a0 l3).bind fun t153 => ((meddlerref3_Without.f k2 a0 l3).bind fun t154 => (if t153 = t154 then ((held_Meet.f k2 (([a0, a1] : List Int))).bind fun t158 => (if t158 = (Go.bits .and .i64 a0 a1) then ((held_Join.f k2 (([a0, a1] : List Int))).bind fun t162 => (if t162 = (Go.bits .or .i64 a0 a1) then ((held_Apart.f k2 a0 a1).bind fun t163 => ((meddlerref3_Apart.f a0 a1).bind fun t164 => (if (t163 == t164) = true then ((held_Meet.f k2 ([] : List Int)).bind fun t165 => (if t165 = 0 then ((held_Join.f k2 ([] : List Int)).bind fun t166 => (if t166 = 0 then ((meddlerlaw3_known.f k2).bind fun t167 => (some t167)) else (some false))) else (some false))) else (some false)))) else (some false))) else (some false))) else (some false)))) else (some false))) = some true := H
                  have A29 := Aside0.mk A290
                  clear A290
                  replace H := Option.bind_eq_some_iff.mp H
                  obtain ⟨t152, A300, H⟩ := H
                  replace H : (if t151 = t152 then ((held_Without.f k2 a0 l3).bind fun t153 => ((meddlerref3_Without.f k2 a0 l3).bind fun t154 => (if t153 = t154 then ((held_Meet.f k2 (([a0, a1] : List Int))).bind fun t158 => (if t158 = (Go.bits .and .i64 a0 a1) then ((held_Join.f k2 (([a0, a1] : List Int))).bind fun t162 => (if t162 = (Go.bits .or .i64 a0 a1) then ((held_Apart.f k2 a0 a1).bind fun t163 => ((meddlerref3_Apart.f a0 a1).bind fun t164 => (if (t163 == t164) = true then ((held_Meet.f k2 ([] : List Int)).bind fun t165 => (if t165 = 0 then ((held_Join.f k2 ([] : List Int)).bind fun t166 => (if t166 = 0 then ((meddlerlaw3_known.f k2).bind fun t167 => (some t167)) else (some false))) else (some false))) else (some false)))) else (some false))) else (some false))) else (some false)))) else (some false)) = some true := H
                  have A30 := Aside0.mk A300
                  clear A300
                  by_cases c31 : t151 = t152
                  · rw [if_pos c31] at H
                    have c31b0 : (t151 == t152) = true := beq_iff_eq.mpr c31
                    have c31b1 : (t151 != t152) = false := bne_eq_false_iff_eq.mpr c31
                    clear c31
                    replace H := Option.bind_eq_some_iff.mp H
                    obtain ⟨t153, A320, H⟩ := H
                    replace H : ((meddlerref3_Without.f k2 a0 l3).bind fun t154 => (if t153 = t154 then ((held_Meet.f k2 (([a0, a1] : List Int))).bind fun t158 => (if t158 = (Go.bits .and .i64 a0 a1) then ((held_Join.f k2 (([a0, a1] : List Int))).bind fun t162 => (if t162 = (Go.bits .or .i64 a0 a1) then ((held_Apart.f k2 a0 a1).bind fun t163 => ((meddlerref3_Apart.f a0 a1).bind fun t164 => (if (t163 == t164) = true then ((held_Meet.f k2 ([] : List Int)).bind fun t165 => (if t165 = 0 then ((held_Join.f k2 ([] : List Int)).bind fun t166 => (if t166 = 0 then ((meddlerlaw3_known.f k2).bind fun t167 => (some t167)) else (some false))) else (some false))) else (some false)))) else (some false))) else (some false))) else (some false))) = some true := H
                    have A32 := Aside0.mk A320
                    clear A320
                    replace H := Option.bind_eq_some_iff.mp H
                    obtain ⟨t154, A330, H⟩ := H
                    replace H : (if t153 = t154 then ((held_Meet.f k2 (([a0, a1] : List Int))).bind fun t158 => (if t158 = (Go.bits .and .i64 a0 a1) then ((held_Join.f k2 (([a0, a1] : List Int))).bind fun t162 => (if t162 = (Go.bits .or .i64 a0 a1) then ((held_Apart.f k2 a0 a1).bind fun t163 => ((meddlerref3_Apart.f a0 a1).bind fun t164 => (if (t163 == t164) = true then ((held_Meet.f k2 ([] : List Int)).bind fun t165 => (if t165 = 0 then ((held_Join.f k2 ([] : List Int)).bind fun t166 => (if t166 = 0 then ((meddlerlaw3_known.f k2).bind fun t167 => (some t167)) else (some false))) else (some false))) else (some false)))) else (some false))) else (some false))) else (some false)) = some true := H
                    have A33 := Aside0.mk A330
                    clear A330
                    by_cases c34 : t153 = t154
                    · rw [if_pos c34] at H
                      have c34b0 : (t153 == t154) = true := beq_iff_eq.mpr c34
                      have c34b1 : (t153 != t154) = false := bne_eq_false_iff_eq.mpr c34
                      clear c34
                      obtain ⟨y155, hy155⟩ : ∃ y_ : List Int, y_ = (([a0, a1] : List Int)) := ⟨_, rfl⟩
                      replace H : ((held_Meet.f k2 y155).bind fun t158 => (if t158 = (Go.bits .and .i64 a0 a1) then ((held_Join.f k2 (([a0, a1] : List Int))).bind fun t162 => (if t162 = (Go.bits .or .i64 a0 a1) then ((held_Apart.f k2 a0 a1).bind fun t163 => ((meddlerref3_Apart.f a0 a1).bind fun t164 => (if (t163 == t164) = true then ((held_Meet.f k2 ([] : List Int)).bind fun t165 => (if t165 = 0 then ((held_Join.f k2 ([] : List Int)).bind fun t166 => (if t166 = 0 then ((meddlerlaw3_known.f k2).bind fun t167 => (some t167)) else (some false))) else (some false))) else (some false)))) else (some false))) else (some false))) = some true := by first | (rw [hy155]; with_reducible exact H) | (have H2_ := (Option.bind_some _ _).symm.trans H; rw [hy155]; with_reducible exact H2_) | (have H2_ := (Option.bind_some _ _).symm.trans H; with_reducible exact H2_) | with_reducible exact H | (rw [hy155]; exact H) | exact H
                      have Ny155 := Aside0.mk hy155
                      clear hy155
                      replace H := Option.bind_eq_some_iff.mp H
                      obtain ⟨t158, A350, H⟩ := H
                      replace H : (if t158 = (Go.bits .and .i64 a0 a1) then ((held_Join.f k2 (([a0, a1] : List Int))).bind fun t162 => (if t162 = (Go.bits .or .i64 a0 a1) then ((held_Apart.f k2 a0 a1).bind fun t163 => ((meddlerref3_Apart.f a0 a1).bind fun t164 => (if (t163 == t164) = true then ((held_Meet.f k2 ([] : List Int)).bind fun t165 => (if t165 = 0 then ((held_Join.f k2 ([] : List Int)).bind fun t166 => (if t166 = 0 then ((meddlerlaw3_known.f k2).bind fun t167 => (some t167)) else (some false))) else (some false))) else (some false)))) else (some false))) else (some false)) = some true := H
                      have A35 := Aside0.mk A350
                      clear A350
                      by_cases c36 : t158 = (Go.bits .and .i64 a0 a1)
                      · rw [if_pos c36] at H
                        have c36b0 : (t158 == (Go.bits .and .i64 a0 a1)) = true := beq_iff_eq.mpr c36
                        have c36b1 : (t158 != (Go.bits .and .i64 a0 a1)) = false := bne_eq_false_iff_eq.mpr c36
                        clear c36
                        obtain ⟨y159, hy159⟩ : ∃ y_ : List Int, y_ = (([a0, a1] : List Int)) := ⟨_, rfl⟩
                        replace H : ((held_Join.f k2 y159).bind fun t162 => (if t162 = (Go.bits .or .i64 a0 a1) then ((held_Apart.f k2 a0 a1).bind fun t163 => ((meddlerref3_Apart.f a0 a1).bind fun t164 => (if (t163 == t164) = true then ((held_Meet.f k2 ([] : List Int)).bind fun t165 => (if t165 = 0 then ((held_Join.f k2 ([] : List Int)).bind fun t166 => (if t166 = 0 then ((meddlerlaw3_known.f k2).bind fun t167 => (some t167)) else (some false))) else (some false))) else (some false)))) else (some false))) = some true := by first | (rw [hy159]; with_reducible exact H) | (have H2_ := (Option.bind_some _ _).symm.trans H; rw [hy159]; with_reducible exact H2_) | (have H2_ := (Option.bind_some _ _).symm.trans H; with_reducible exact H2_) | with_reducible exact H | (rw [hy159]; exact H) | exact H
                        have Ny159 := Aside0.mk hy159
                        clear hy159
                        replace H := Option.bind_eq_some_iff.mp H
                        obtain ⟨t162, A370, H⟩ := H
                        replace H : (if t162 = (Go.bits .or .i64 a0 a1) then ((held_Apart.f k2 a0 a1).bind fun t163 => ((meddlerref3_Apart.f a0 a1).bind fun t164 => (if (t163 == t164) = true then ((held_Meet.f k2 ([] : List Int)).bind fun t165 => (if t165 = 0 then ((held_Join.f k2 ([] : List Int)).bind fun t166 => (if t166 = 0 then ((meddlerlaw3_known.f k2).bind fun t167 => (some t167)) else (some false))) else (some false))) else (some false)))) else (some false)) = some true := H
                        have A37 := Aside0.mk A370
                        clear A370
                        by_cases c38 : t162 = (Go.bits .or .i64 a0 a1)
                        · rw [if_pos c38] at H
                          have c38b0 : (t162 == (Go.bits .or .i64 a0 a1)) = true := beq_iff_eq.mpr c38
                          have c38b1 : (t162 != (Go.bits .or .i64 a0 a1)) = false := bne_eq_false_iff_eq.mpr c38
                          clear c38
                          replace H := Option.bind_eq_some_iff.mp H
                          obtain ⟨t163, A390, H⟩ := H
                          replace H : ((meddlerref3_Apart.f a0 a1).bind fun t164 => (if (t163 == t164) = true then ((held_Meet.f k2 ([] : List Int)).bind fun t165 => (if t165 = 0 then ((held_Join.f k2 ([] : List Int)).bind fun t166 => (if t166 = 0 then ((meddlerlaw3_known.f k2).bind fun t167 => (some t167)) else (some false))) else (some false))) else (some false))) = some true := H
                          have A39 := Aside0.mk A390
                          clear A390
                          replace H := Option.bind_eq_some_iff.mp H
                          obtain ⟨t164, A400, H⟩ := H
                          replace H : (if (t163 == t164) = true then ((held_Meet.f k2 ([] : List Int)).bind fun t165 => (if t165 = 0 then ((held_Join.f k2 ([] : List Int)).bind fun t166 => (if t166 = 0 then ((meddlerlaw3_known.f k2).bind fun t167 => (some t167)) else (some false))) else (some false))) else (some false)) = some true := H
                          have A40 := Aside0.mk A400
                          clear A400
                          by_cases c41 : (t163 == t164) = true
                          · rw [if_pos c41] at H
                            have c41b0 : (t163 == t164) = true := c41
                            (try (have c41b1 : decide (t163 = t164) = true := by simpa using c41))
                            (try (have c41b2 : (t163 == t164) = true := by simpa using c41))
                            clear c41
                            replace H := Option.bind_eq_some_iff.mp H
                            obtain ⟨t165, A420, H⟩ := H
                            replace H : (if t165 = 0 then ((held_Join.f k2 ([] : List Int)).bind fun t166 => (if t166 = 0 then ((meddlerlaw3_known.f k2).bind fun t167 => (some t167)) else (some false))) else (some false)) = some true := H
                            have A42 := Aside0.mk A420
                            clear A420
                            by_cases c43 : t165 = 0
                            · rw [if_pos c43] at H
                              have c43b0 : (t165 == 0) = true := beq_iff_eq.mpr c43
                              have c43b1 : (t165 != 0) = false := bne_eq_false_iff_eq.mpr c43
                              clear c43
                              replace H := Option.bind_eq_some_iff.mp H
                              obtain ⟨t166, A440, H⟩ := H
                              replace H : (if t166 = 0 then ((meddlerlaw3_known.f k2).bind fun t167 => (some t167)) else (some false)) = some true := H
                              have A44 := Aside0.mk A440
                              clear A440
                              by_cases c45 : t166 = 0
                              · rw [if_pos c45] at H
                                have c45b0 : (t166 == 0) = true := beq_iff_eq.mpr c45
                                have c45b1 : (t166 != 0) = false := bne_eq_false_iff_eq.mpr c45
                                clear c45
                                replace H := Option.bind_eq_some_iff.mp H
                                obtain ⟨t167, A460, H⟩ := H
                                replace H : (some t167) = some true := H
                                have A46 := Aside0.mk A460
                                clear A460
                                have HT := Aside0.mk (Option.some.inj H)
                                clear H
                                go_wp2_with (first | (go_at_call 11; (with_reducible refine (held_Has.calls k2 a0 a2 t149 _ A26.out).mono ?_); rintro e w47 ⟨rfl, hb⟩; have n0_ := Aside0.mk (Kd.R_below (by (with_reducible repeat (first | apply Kd.R_alloc | apply Kd.R_drewN | apply Kd.R_drew)); exact HO_9.out) hb); have n1_ := Aside0.mk (Kd.R_below (by (with_reducible repeat (first | apply Kd.R_alloc | apply Kd.R_drewN | apply Kd.R_drew)); exact HO_10.out) hb); have n2_ := Aside0.mk (below_step (by repeat (first | (with_reducible first | exact HB.out | apply below_alloc | apply pw_below_drewN | apply below_drew1) | exact HB.out)) hb); clear HO_9; clear HO_10; clear HB; have HO_9 := n0_; have HO_10 := n1_; have HB := n2_; (try clear n0_); (try clear n1_); (try clear n2_); (try clear hb); (try clear hb2); (try clear hk); (try clear hi)) | (go_at_call 20; (with_reducible refine (meddlerref3_Has.calls a0 a2 t150 _ A27.out).mono ?_); rintro e w' ⟨rfl, ⟨nd, rfl⟩⟩; (try first | exact ⟨rfl, _, World.drewN_drewN _ _ _⟩ | exact ⟨rfl, _, Eq.trans (World.drewN_drewN _ _ _) (congrArg (World.drewN _) (Nat.add_assoc _ _ _))⟩)) | (go_at_call 12; (with_reducible refine (held_With.calls k2 a0 _ _ l3 t151 _ ?side1 ?side2 A29.out).mono ?_); (case side1 => repeat (first | exact (Kd.C_below HR3.out (by repeat (first | (with_reducible first | exact HB.out | apply below_alloc | apply pw_below_drewN | apply below_drew1) | exact HB.out))) | (with_reducible refine Kd.C_alloc ?_ _) | (with_reducible refine Kd.C_drewN ?_ _) | (with_reducible refine Kd.C_drew ?_))); (case side2 => exact HC3.out); rintro e w' ⟨rfl, ⟨nd, rfl⟩⟩; (try first | exact ⟨rfl, _, World.drewN_drewN _ _ _⟩ | exact ⟨rfl, _, Eq.trans (World.drewN_drewN _ _ _) (congrArg (World.drewN _) (Nat.add_assoc _ _ _))⟩)) | (go_at_call 21; (with_reducible refine (meddlerref3_With.calls k2 a0 _ _ l3 t152 _ ?side1 ?side2 A30.out).mono ?_); (case side1 => repeat (first | exact (Kd.C_below HR3.out (by repeat (first | (with_reducible first | exact HB.out | apply below_alloc | apply pw_below_drewN | apply below_drew1) | exact HB.out))) | (with_reducible refine Kd.C_alloc ?_ _) | (with_reducible refine Kd.C_drewN ?_ _) | (with_reducible refine Kd.C_drew ?_))); (case side2 => exact HC3.out); rintro e w' ⟨rfl, ⟨nd, rfl⟩⟩; (try first | exact ⟨rfl, _, World.drewN_drewN _ _ _⟩ | exact ⟨rfl, _, Eq.trans (World.drewN_drewN _ _ _) (congrArg (World.drewN _) (Nat.add_assoc _ _ _))⟩)) | (go_at_call 13; (with_reducible refine (held_Without.calls k2 a0 _ _ l3 t153 _ ?side1 ?side2 A32.out).mono ?_); (case side1 => repeat (first | exact (Kd.C_below HR3.out (by repeat (first | (with_reducible first | exact HB.out | apply below_alloc | apply pw_below_drewN | apply below_drew1) | exact HB.out))) | (with_reducible refine Kd.C_alloc ?_ _) | (with_reducible refine Kd.C_drewN ?_ _) | (with_reducible refine Kd.C_drew ?_))); (case side2 => exact HC3.out); rintro e w' ⟨rfl, ⟨nd, rfl⟩⟩; (try first | exact ⟨rfl, _, World.drewN_drewN _ _ _⟩ | exact ⟨rfl, _, Eq.trans (World.drewN_drewN _ _ _) (congrArg (World.drewN _) (Nat.add_assoc _ _ _))⟩)) | (go_at_call 22; (with_reducible refine (meddlerref3_Without.calls k2 a0 _ _ l3 t154 _ ?side1 ?side2 A33.out).mono ?_); (case side1 => repeat (first | exact (Kd.C_below HR3.out (by repeat (first | (with_reducible first | exact HB.out | apply below_alloc | apply pw_below_drewN | apply below_drew1) | exact HB.out))) | (with_reducible refine Kd.C_alloc ?_ _) | (with_reducible refine Kd.C_drewN ?_ _) | (with_reducible refine Kd.C_drew ?_))); (case side2 => exact HC3.out); rintro e w' ⟨rfl, ⟨nd, rfl⟩⟩; (try first | exact ⟨rfl, _, World.drewN_drewN _ _ _⟩ | exact ⟨rfl, _, Eq.trans (World.drewN_drewN _ _ _) (congrArg (World.drewN _) (Nat.add_assoc _ _ _))⟩)) | (go_at_call 17; (with_reducible refine (held_Meet_two_ k2 a0 a1 t158 _ _ ?side1 (by have h_ := A35.out; rw [Ny155.out] at h_; exact h_)).mono ?_); (case side1 => exact lit2_reads_ _ a0 a1 _ (by first | rfl | simp)); rintro e w' ⟨rfl, ⟨nd, rfl⟩⟩; (try first | exact ⟨rfl, _, World.drewN_drewN _ _ _⟩ | exact ⟨rfl, _, Eq.trans (World.drewN_drewN _ _ _) (congrArg (World.drewN _) (Nat.add_assoc _ _ _))⟩)) | (go_at_call 18; (with_reducible refine (held_Join_two_ k2 a0 a1 t162 _ _ ?side1 (by have h_ := A37.out; rw [Ny159.out] at h_; exact h_)).mono ?_); (case side1 => exact lit2_reads_ _ a0 a1 _ (by first | rfl | simp)); rintro e w' ⟨rfl, ⟨nd, rfl⟩⟩; (try first | exact ⟨rfl, _, World.drewN_drewN _ _ _⟩ | exact ⟨rfl, _, Eq.trans (World.drewN_drewN _ _ _) (congrArg (World.drewN _) (Nat.add_assoc _ _ _))⟩)) | (go_at_call 16; (with_reducible refine (held_Apart.calls k2 a0 a1 t163 _ A39.out).mono ?_); rintro e w54 ⟨rfl, hb⟩; have n0_ := Aside0.mk (Kd.R_below (by (with_reducible repeat (first | apply Kd.R_alloc | apply Kd.R_drewN | apply Kd.R_drew)); exact HO_9.out) hb); have n1_ := Aside0.mk (Kd.R_below (by (with_reducible repeat (first | apply Kd.R_alloc | apply Kd.R_drewN | apply Kd.R_drew)); exact HO_10.out) hb); have n4_ := Aside0.mk (below_step (by repeat (first | (with_reducible first | exact HB.out | apply below_alloc | apply pw_below_drewN | apply below_drew1) | exact HB.out)) hb); clear HO_9; clear HO_10; clear HB; have HO_9 := n0_; have HO_10 := n1_; have HB := n4_; (try clear n0_); (try clear n1_); (try clear n2_); (try clear n3_); (try clear n4_); (try clear hb); (try clear hb2); (try clear hk); (try clear hi)) | (go_at_call 23; (with_reducible refine (meddlerref3_Apart.calls a0 a1 t164 _ A40.out).mono ?_); rintro e w' ⟨rfl, ⟨nd, rfl⟩⟩; (try first | exact ⟨rfl, _, World.drewN_drewN _ _ _⟩ | exact ⟨rfl, _, Eq.trans (World.drewN_drewN _ _ _) (congrArg (World.drewN _) (Nat.add_assoc _ _ _))⟩)) | (go_at_call 17; (with_reducible refine (held_Meet_nil_ k2 t165 _ A42.out).mono ?_); rintro e w' ⟨rfl, ⟨nd, rfl⟩⟩; (try first | exact ⟨rfl, _, World.drewN_drewN _ _ _⟩ | exact ⟨rfl, _, Eq.trans (World.drewN_drewN _ _ _) (congrArg (World.drewN _) (Nat.add_assoc _ _ _))⟩)) | (go_at_call 18; (with_reducible refine (held_Join_nil_ k2 t166 _ A44.out).mono ?_); rintro e w' ⟨rfl, ⟨nd, rfl⟩⟩; (try first | exact ⟨rfl, _, World.drewN_drewN _ _ _⟩ | exact ⟨rfl, _, Eq.trans (World.drewN_drewN _ _ _) (congrArg (World.drewN _) (Nat.add_assoc _ _ _))⟩)) | (go_at_call 14; (with_reducible refine (meddlerlaw3_known.calls k2  t167 _ A46.out).mono ?_); rintro e w55 ⟨rfl, hb⟩; have n0_ := Aside0.mk (Kd.R_below (by (with_reducible repeat (first | apply Kd.R_alloc | apply Kd.R_drewN | apply Kd.R_drew)); exact HO_9.out) hb); have n1_ := Aside0.mk (Kd.R_below (by (with_reducible repeat (first | apply Kd.R_alloc | apply Kd.R_drewN | apply Kd.R_drew)); exact HO_10.out) hb); have n4_ := Aside0.mk (below_step (by repeat (first | (with_reducible first | exact HB.out | apply below_alloc | apply pw_below_drewN | apply below_drew1) | exact HB.out)) hb); clear HO_9; clear HO_10; clear HB; have HO_9 := n0_; have HO_10 := n1_; have HB := n4_; (try clear n0_); (try clear n1_); (try clear n2_); (try clear n3_); (try clear n4_); (try clear hb); (try clear hb2); (try clear hk); (try clear hi)))
                                repeat (go_quiet (first | (go_at_call 11; (with_reducible refine (held_Has.calls k2 a0 a2 t149 _ A26.out).mono ?_); rintro e w47 ⟨rfl, hb⟩; have n0_ := Aside0.mk (Kd.R_below (by (with_reducible repeat (first | apply Kd.R_alloc | apply Kd.R_drewN | apply Kd.R_drew)); exact HO_9.out) hb); have n1_ := Aside0.mk (Kd.R_below (by (with_reducible repeat (first | apply Kd.R_alloc | apply Kd.R_drewN | apply Kd.R_drew)); exact HO_10.out) hb); have n2_ := Aside0.mk (below_step (by repeat (first | (with_reducible first | exact HB.out | apply below_alloc | apply pw_below_drewN | apply below_drew1) | exact HB.out)) hb); clear HO_9; clear HO_10; clear HB; have HO_9 := n0_; have HO_10 := n1_; have HB := n2_; (try clear n0_); (try clear n1_); (try clear n2_); (try clear hb); (try clear hb2); (try clear hk); (try clear hi)) | (go_at_call 20; (with_reducible refine (meddlerref3_Has.calls a0 a2 t150 _ A27.out).mono ?_); rintro e w' ⟨rfl, ⟨nd, rfl⟩⟩; (try first | exact ⟨rfl, _, World.drewN_drewN _ _ _⟩ | exact ⟨rfl, _, Eq.trans (World.drewN_drewN _ _ _) (congrArg (World.drewN _) (Nat.add_assoc _ _ _))⟩)) | (go_at_call 12; (with_reducible refine (held_With.calls k2 a0 _ _ l3 t151 _ ?side1 ?side2 A29.out).mono ?_); (case side1 => repeat (first | exact (Kd.C_below HR3.out (by repeat (first | (with_reducible first | exact HB.out | apply below_alloc | apply pw_below_drewN | apply below_drew1) | exact HB.out))) | (with_reducible refine Kd.C_alloc ?_ _) | (with_reducible refine Kd.C_drewN ?_ _) | (with_reducible refine Kd.C_drew ?_))); (case side2 => exact HC3.out); rintro e w' ⟨rfl, ⟨nd, rfl⟩⟩; (try first | exact ⟨rfl, _, World.drewN_drewN _ _ _⟩ | exact ⟨rfl, _, Eq.trans (World.drewN_drewN _ _ _) (congrArg (World.drewN _) (Nat.add_assoc _ _ _))⟩)) | (go_at_call 21; (with_reducible refine (meddlerref3_With.calls k2 a0 _ _ l3 t152 _ ?side1 ?side2 A30.out).mono ?_); (case side1 => repeat (first | exact (Kd.C_below HR3.out (by repeat (first | (with_reducible first | exact HB.out | apply below_alloc | apply pw_below_drewN | apply below_drew1) | exact HB.out))) | (with_reducible refine Kd.C_alloc ?_ _) | (with_reducible refine Kd.C_drewN ?_ _) | (with_reducible refine Kd.C_drew ?_))); (case side2 => exact HC3.out); rintro e w' ⟨rfl, ⟨nd, rfl⟩⟩; (try first | exact ⟨rfl, _, World.drewN_drewN _ _ _⟩ | exact ⟨rfl, _, Eq.trans (World.drewN_drewN _ _ _) (congrArg (World.drewN _) (Nat.add_assoc _ _ _))⟩)) | (go_at_call 13; (with_reducible refine (held_Without.calls k2 a0 _ _ l3 t153 _ ?side1 ?side2 A32.out).mono ?_); (case side1 => repeat (first | exact (Kd.C_below HR3.out (by repeat (first | (with_reducible first | exact HB.out | apply below_alloc | apply pw_below_drewN | apply below_drew1) | exact HB.out))) | (with_reducible refine Kd.C_alloc ?_ _) | (with_reducible refine Kd.C_drewN ?_ _) | (with_reducible refine Kd.C_drew ?_))); (case side2 => exact HC3.out); rintro e w' ⟨rfl, ⟨nd, rfl⟩⟩; (try first | exact ⟨rfl, _, World.drewN_drewN _ _ _⟩ | exact ⟨rfl, _, Eq.trans (World.drewN_drewN _ _ _) (congrArg (World.drewN _) (Nat.add_assoc _ _ _))⟩)) | (go_at_call 22; (with_reducible refine (meddlerref3_Without.calls k2 a0 _ _ l3 t154 _ ?side1 ?side2 A33.out).mono ?_); (case side1 => repeat (first | exact (Kd.C_below HR3.out (by repeat (first | (with_reducible first | exact HB.out | apply below_alloc | apply pw_below_drewN | apply below_drew1) | exact HB.out))) | (with_reducible refine Kd.C_alloc ?_ _) | (with_reducible refine Kd.C_drewN ?_ _) | (with_reducible refine Kd.C_drew ?_))); (case side2 => exact HC3.out); rintro e w' ⟨rfl, ⟨nd, rfl⟩⟩; (try first | exact ⟨rfl, _, World.drewN_drewN _ _ _⟩ | exact ⟨rfl, _, Eq.trans (World.drewN_drewN _ _ _) (congrArg (World.drewN _) (Nat.add_assoc _ _ _))⟩)) | (go_at_call 17; (with_reducible refine (held_Meet_two_ k2 a0 a1 t158 _ _ ?side1 (by have h_ := A35.out; rw [Ny155.out] at h_; exact h_)).mono ?_); (case side1 => exact lit2_reads_ _ a0 a1 _ (by first | rfl | simp)); rintro e w' ⟨rfl, ⟨nd, rfl⟩⟩; (try first | exact ⟨rfl, _, World.drewN_drewN _ _ _⟩ | exact ⟨rfl, _, Eq.trans (World.drewN_drewN _ _ _) (congrArg (World.drewN _) (Nat.add_assoc _ _ _))⟩)) | (go_at_call 18; (with_reducible refine (held_Join_two_ k2 a0 a1 t162 _ _ ?side1 (by have h_ := A37.out; rw [Ny159.out] at h_; exact h_)).mono ?_); (case side1 => exact lit2_reads_ _ a0 a1 _ (by first | rfl | simp)); rintro e w' ⟨rfl, ⟨nd, rfl⟩⟩; (try first | exact ⟨rfl, _, World.drewN_drewN _ _ _⟩ | exact ⟨rfl, _, Eq.trans (World.drewN_drewN _ _ _) (congrArg (World.drewN _) (Nat.add_assoc _ _ _))⟩)) | (go_at_call 16; (with_reducible refine (held_Apart.calls k2 a0 a1 t163 _ A39.out).mono ?_); rintro e w54 ⟨rfl, hb⟩; have n0_ := Aside0.mk (Kd.R_below (by (with_reducible repeat (first | apply Kd.R_alloc | apply Kd.R_drewN | apply Kd.R_drew)); exact HO_9.out) hb); have n1_ := Aside0.mk (Kd.R_below (by (with_reducible repeat (first | apply Kd.R_alloc | apply Kd.R_drewN | apply Kd.R_drew)); exact HO_10.out) hb); have n4_ := Aside0.mk (below_step (by repeat (first | (with_reducible first | exact HB.out | apply below_alloc | apply pw_below_drewN | apply below_drew1) | exact HB.out)) hb); clear HO_9; clear HO_10; clear HB; have HO_9 := n0_; have HO_10 := n1_; have HB := n4_; (try clear n0_); (try clear n1_); (try clear n2_); (try clear n3_); (try clear n4_); (try clear hb); (try clear hb2); (try clear hk); (try clear hi)) | (go_at_call 23; (with_reducible refine (meddlerref3_Apart.calls a0 a1 t164 _ A40.out).mono ?_); rintro e w' ⟨rfl, ⟨nd, rfl⟩⟩; (try first | exact ⟨rfl, _, World.drewN_drewN _ _ _⟩ | exact ⟨rfl, _, Eq.trans (World.drewN_drewN _ _ _) (congrArg (World.drewN _) (Nat.add_assoc _ _ _))⟩)) | (go_at_call 17; (with_reducible refine (held_Meet_nil_ k2 t165 _ A42.out).mono ?_); rintro e w' ⟨rfl, ⟨nd, rfl⟩⟩; (try first | exact ⟨rfl, _, World.drewN_drewN _ _ _⟩ | exact ⟨rfl, _, Eq.trans (World.drewN_drewN _ _ _) (congrArg (World.drewN _) (Nat.add_assoc _ _ _))⟩)) | (go_at_call 18; (with_reducible refine (held_Join_nil_ k2 t166 _ A44.out).mono ?_); rintro e w' ⟨rfl, ⟨nd, rfl⟩⟩; (try first | exact ⟨rfl, _, World.drewN_drewN _ _ _⟩ | exact ⟨rfl, _, Eq.trans (World.drewN_drewN _ _ _) (congrArg (World.drewN _) (Nat.add_assoc _ _ _))⟩)) | (go_at_call 14; (with_reducible refine (meddlerlaw3_known.calls k2  t167 _ A46.out).mono ?_); rintro e w55 ⟨rfl, hb⟩; have n0_ := Aside0.mk (Kd.R_below (by (with_reducible repeat (first | apply Kd.R_alloc | apply Kd.R_drewN | apply Kd.R_drew)); exact HO_9.out) hb); have n1_ := Aside0.mk (Kd.R_below (by (with_reducible repeat (first | apply Kd.R_alloc | apply Kd.R_drewN | apply Kd.R_drew)); exact HO_10.out) hb); have n4_ := Aside0.mk (below_step (by repeat (first | (with_reducible first | exact HB.out | apply below_alloc | apply pw_below_drewN | apply below_drew1) | exact HB.out)) hb); clear HO_9; clear HO_10; clear HB; have HO_9 := n0_; have HO_10 := n1_; have HB := n4_; (try clear n0_); (try clear n1_); (try clear n2_); (try clear n3_); (try clear n4_); (try clear hb); (try clear hb2); (try clear hk); (try clear hi))); try go_wp2_with (first | (go_at_call 11; (with_reducible refine (held_Has.calls k2 a0 a2 t149 _ A26.out).mono ?_); rintro e w47 ⟨rfl, hb⟩; have n0_ := Aside0.mk (Kd.R_below (by (with_reducible repeat (first | apply Kd.R_alloc | apply Kd.R_drewN | apply Kd.R_drew)); exact HO_9.out) hb); have n1_ := Aside0.mk (Kd.R_below (by (with_reducible repeat (first | apply Kd.R_alloc | apply Kd.R_drewN | apply Kd.R_drew)); exact HO_10.out) hb); have n2_ := Aside0.mk (below_step (by repeat (first | (with_reducible first | exact HB.out | apply below_alloc | apply pw_below_drewN | apply below_drew1) | exact HB.out)) hb); clear HO_9; clear HO_10; clear HB; have HO_9 := n0_; have HO_10 := n1_; have HB := n2_; (try clear n0_); (try clear n1_); (try clear n2_); (try clear hb); (try clear hb2); (try clear hk); (try clear hi)) | (go_at_call 20; (with_reducible refine (meddlerref3_Has.calls a0 a2 t150 _ A27.out).mono ?_); rintro e w' ⟨rfl, ⟨nd, rfl⟩⟩; (try first | exact ⟨rfl, _, World.drewN_drewN _ _ _⟩ | exact ⟨rfl, _, Eq.trans (World.drewN_drewN _ _ _) (congrArg (World.drewN _) (Nat.add_assoc _ _ _))⟩)) | (go_at_call 12; (with_reducible refine (held_With.calls k2 a0 _ _ l3 t151 _ ?side1 ?side2 A29.out).mono ?_); (case side1 => repeat (first | exact (Kd.C_below HR3.out (by repeat (first | (with_reducible first | exact HB.out | apply below_alloc | apply pw_below_drewN | apply below_drew1) | exact HB.out))) | (with_reducible refine Kd.C_alloc ?_ _) | (with_reducible refine Kd.C_drewN ?_ _) | (with_reducible refine Kd.C_drew ?_))); (case side2 => exact HC3.out); rintro e w' ⟨rfl, ⟨nd, rfl⟩⟩; (try first | exact ⟨rfl, _, World.drewN_drewN _ _ _⟩ | exact ⟨rfl, _, Eq.trans (World.drewN_drewN _ _ _) (congrArg (World.drewN _) (Nat.add_assoc _ _ _))⟩)) | (go_at_call 21; (with_reducible refine (meddlerref3_With.calls k2 a0 _ _ l3 t152 _ ?side1 ?side2 A30.out).mono ?_); (case side1 => repeat (first | exact (Kd.C_below HR3.out (by repeat (first | (with_reducible first | exact HB.out | apply below_alloc | apply pw_below_drewN | apply below_drew1) | exact HB.out))) | (with_reducible refine Kd.C_alloc ?_ _) | (with_reducible refine Kd.C_drewN ?_ _) | (with_reducible refine Kd.C_drew ?_))); (case side2 => exact HC3.out); rintro e w' ⟨rfl, ⟨nd, rfl⟩⟩; (try first | exact ⟨rfl, _, World.drewN_drewN _ _ _⟩ | exact ⟨rfl, _, Eq.trans (World.drewN_drewN _ _ _) (congrArg (World.drewN _) (Nat.add_assoc _ _ _))⟩)) | (go_at_call 13; (with_reducible refine (held_Without.calls k2 a0 _ _ l3 t153 _ ?side1 ?side2 A32.out).mono ?_); (case side1 => repeat (first | exact (Kd.C_below HR3.out (by repeat (first | (with_reducible first | exact HB.out | apply below_alloc | apply pw_below_drewN | apply below_drew1) | exact HB.out))) | (with_reducible refine Kd.C_alloc ?_ _) | (with_reducible refine Kd.C_drewN ?_ _) | (with_reducible refine Kd.C_drew ?_))); (case side2 => exact HC3.out); rintro e w' ⟨rfl, ⟨nd, rfl⟩⟩; (try first | exact ⟨rfl, _, World.drewN_drewN _ _ _⟩ | exact ⟨rfl, _, Eq.trans (World.drewN_drewN _ _ _) (congrArg (World.drewN _) (Nat.add_assoc _ _ _))⟩)) | (go_at_call 22; (with_reducible refine (meddlerref3_Without.calls k2 a0 _ _ l3 t154 _ ?side1 ?side2 A33.out).mono ?_); (case side1 => repeat (first | exact (Kd.C_below HR3.out (by repeat (first | (with_reducible first | exact HB.out | apply below_alloc | apply pw_below_drewN | apply below_drew1) | exact HB.out))) | (with_reducible refine Kd.C_alloc ?_ _) | (with_reducible refine Kd.C_drewN ?_ _) | (with_reducible refine Kd.C_drew ?_))); (case side2 => exact HC3.out); rintro e w' ⟨rfl, ⟨nd, rfl⟩⟩; (try first | exact ⟨rfl, _, World.drewN_drewN _ _ _⟩ | exact ⟨rfl, _, Eq.trans (World.drewN_drewN _ _ _) (congrArg (World.drewN _) (Nat.add_assoc _ _ _))⟩)) | (go_at_call 17; (with_reducible refine (held_Meet_two_ k2 a0 a1 t158 _ _ ?side1 (by have h_ := A35.out; rw [Ny155.out] at h_; exact h_)).mono ?_); (case side1 => exact lit2_reads_ _ a0 a1 _ (by first | rfl | simp)); rintro e w' ⟨rfl, ⟨nd, rfl⟩⟩; (try first | exact ⟨rfl, _, World.drewN_drewN _ _ _⟩ | exact ⟨rfl, _, Eq.trans (World.drewN_drewN _ _ _) (congrArg (World.drewN _) (Nat.add_assoc _ _ _))⟩)) | (go_at_call 18; (with_reducible refine (held_Join_two_ k2 a0 a1 t162 _ _ ?side1 (by have h_ := A37.out; rw [Ny159.out] at h_; exact h_)).mono ?_); (case side1 => exact lit2_reads_ _ a0 a1 _ (by first | rfl | simp)); rintro e w' ⟨rfl, ⟨nd, rfl⟩⟩; (try first | exact ⟨rfl, _, World.drewN_drewN _ _ _⟩ | exact ⟨rfl, _, Eq.trans (World.drewN_drewN _ _ _) (congrArg (World.drewN _) (Nat.add_assoc _ _ _))⟩)) | (go_at_call 16; (with_reducible refine (held_Apart.calls k2 a0 a1 t163 _ A39.out).mono ?_); rintro e w54 ⟨rfl, hb⟩; have n0_ := Aside0.mk (Kd.R_below (by (with_reducible repeat (first | apply Kd.R_alloc | apply Kd.R_drewN | apply Kd.R_drew)); exact HO_9.out) hb); have n1_ := Aside0.mk (Kd.R_below (by (with_reducible repeat (first | apply Kd.R_alloc | apply Kd.R_drewN | apply Kd.R_drew)); exact HO_10.out) hb); have n4_ := Aside0.mk (below_step (by repeat (first | (with_reducible first | exact HB.out | apply below_alloc | apply pw_below_drewN | apply below_drew1) | exact HB.out)) hb); clear HO_9; clear HO_10; clear HB; have HO_9 := n0_; have HO_10 := n1_; have HB := n4_; (try clear n0_); (try clear n1_); (try clear n2_); (try clear n3_); (try clear n4_); (try clear hb); (try clear hb2); (try clear hk); (try clear hi)) | (go_at_call 23; (with_reducible refine (meddlerref3_Apart.calls a0 a1 t164 _ A40.out).mono ?_); rintro e w' ⟨rfl, ⟨nd, rfl⟩⟩; (try first | exact ⟨rfl, _, World.drewN_drewN _ _ _⟩ | exact ⟨rfl, _, Eq.trans (World.drewN_drewN _ _ _) (congrArg (World.drewN _) (Nat.add_assoc _ _ _))⟩)) | (go_at_call 17; (with_reducible refine (held_Meet_nil_ k2 t165 _ A42.out).mono ?_); rintro e w' ⟨rfl, ⟨nd, rfl⟩⟩; (try first | exact ⟨rfl, _, World.drewN_drewN _ _ _⟩ | exact ⟨rfl, _, Eq.trans (World.drewN_drewN _ _ _) (congrArg (World.drewN _) (Nat.add_assoc _ _ _))⟩)) | (go_at_call 18; (with_reducible refine (held_Join_nil_ k2 t166 _ A44.out).mono ?_); rintro e w' ⟨rfl, ⟨nd, rfl⟩⟩; (try first | exact ⟨rfl, _, World.drewN_drewN _ _ _⟩ | exact ⟨rfl, _, Eq.trans (World.drewN_drewN _ _ _) (congrArg (World.drewN _) (Nat.add_assoc _ _ _))⟩)) | (go_at_call 14; (with_reducible refine (meddlerlaw3_known.calls k2  t167 _ A46.out).mono ?_); rintro e w55 ⟨rfl, hb⟩; have n0_ := Aside0.mk (Kd.R_below (by (with_reducible repeat (first | apply Kd.R_alloc | apply Kd.R_drewN | apply Kd.R_drew)); exact HO_9.out) hb); have n1_ := Aside0.mk (Kd.R_below (by (with_reducible repeat (first | apply Kd.R_alloc | apply Kd.R_drewN | apply Kd.R_drew)); exact HO_10.out) hb); have n4_ := Aside0.mk (below_step (by repeat (first | (with_reducible first | exact HB.out | apply below_alloc | apply pw_below_drewN | apply below_drew1) | exact HB.out)) hb); clear HO_9; clear HO_10; clear HB; have HO_9 := n0_; have HO_10 := n1_; have HB := n4_; (try clear n0_); (try clear n1_); (try clear n2_); (try clear n3_); (try clear n4_); (try clear hb); (try clear hb2); (try clear hk); (try clear hi))))
                                go_ret
                                exact ⟨by first | rfl | (simp [HT.out]; done) | (simp [errW_none, errW_some] <;> rfl) | (simp [*, errW_none, errW_some] <;> rfl), by repeat (first | (with_reducible first | exact HB.out | apply below_alloc | apply pw_below_drewN | apply below_drew1) | exact HB.out)⟩
                              · rw [if_neg c45] at H
                                exact absurd H (by simp)
                            · rw [if_neg c43] at H
                              exact absurd H (by simp)
                          · rw [if_neg c41] at H
                            exact absurd H (by simp)
                        · rw [if_neg c38] at H
                          exact absurd H (by simp)
                      · rw [if_neg c36] at H
                        exact absurd H (by simp)
                    · rw [if_neg c34] at H
                      exact absurd H (by simp)
                  · rw [if_neg c31] at H
                    exact absurd H (by simp)
                · rw [if_neg c28] at H
                  exact absurd H (by simp)
        · rw [if_neg c17] at H
          exact absurd H (by simp)
/-- THE ONE PURE STATEMENT of meddlerlaw3_HeldTells: yours. -/
def meddlerlaw3_HeldTells.Pure : Prop := ∀ (a0 : Int) (a1 : Int) (a2 : Int) (l3 : List Int), (Lit.int .i64 a0).wf = true → (Lit.int .i64 a1).wf = true → (Lit.int .i64 a2).wf = true → l3.length ≤ maxLen → l3.length * 8 ≤ 140737488351232 → (∀ x ∈ l3, (Lit.int .i64 x).wf = true) → ∃ k, meddlerlaw3_HeldTells.f k a0 a1 a2 l3 = some true
theorem meddlerlaw3_HeldTells.walk (P : meddlerlaw3_HeldTells.Pure) (a0 : Int) (a1 : Int) (a2 : Int) (a3 : Option Addr) (len3 cap3 : Nat) (z3 : List Int) (w : World) (w0 : (Lit.int .i64 a0).wf = true) (w1 : (Lit.int .i64 a1).wf = true) (w2 : (Lit.int .i64 a2).wf = true) (w3 : (a3 = none ∧ len3 = 0 ∧ cap3 = 0 ∧ z3 = []) ∨ ∃ x, a3 = some x ∧ len3 ≤ cap3 ∧ cap3 ≤ maxLen ∧ z3.length = cap3 ∧ (∀ i, i < z3.length → w.cell? (x.add i) = some (.int .i64 (z3.getD i 0))) ∧ ∀ n ∈ z3, (Lit.int .i64 n).wf = true) (y3 : len3 * 8 ≤ 140737488351232) :
    Calls Try.prog 9 #[.int .i64 a0, .int .i64 a1, .int .i64 a2, .slice a3 len3 cap3] w fun e w' => e = .returned (.bool true) ∧ Below w.heap.size w w' := by
  obtain ⟨l3, rfl, hr3, hm3, hw3, hc3⟩ := ReadsInt.ofRowC w3
  obtain ⟨k, h⟩ := P a0 a1 a2 l3 w0 w1 w2 hm3 y3 hw3
  refine (meddlerlaw3_HeldTells.calls k a0 a1 a2 _ _ l3 w (Kd.C_of_reads (d := (0 : Int)) (h1 := fun _ => rfl) hr3) hc3 h).mono ?_
  rintro e w' ⟨rfl, hd⟩
  exact ⟨rfl, hd⟩

end Go.Proofs.Ythhbpbogbfopnaa.PHeldTells
