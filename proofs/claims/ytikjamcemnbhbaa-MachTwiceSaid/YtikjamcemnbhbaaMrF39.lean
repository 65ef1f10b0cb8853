/- An own text of this seat: Lean functions with the answers of Go functions, and that the Go code comes to them. Written by a program of this session out of the translation. -/
import Derived.Test.YtikjamcemnbhbaaMrx0
import Derived.Test.YtikjamcemnbhbaaMrF52
import Derived.Test.YtikjamcemnbhbaaMrF53
import Derived.Test.YtikjamcemnbhbaaMrPkE
namespace Go.Proofs.Ytikjamcemnbhbaa.Mr
open Go.RowKit Go.Proofs.YtikjamcemnbhbaaW.PrintWords Go.Proofs.YtikjamcemnbhbaaW.PrintLast Go.Proofs.YtikjamcemnbhbaaW.PrintMore
open Go.Proofs.YtikjamcemnbhbaaW.PrintWords renaming below_alloc → f9, pw_below_drewN → ga, below_drew1 → gb, blk_drewN → gc, blk_alloc → gd, blk_drew → ge, blk_cell → gf, blk_frozen → gg, below_set → gh
open List renaming setIfInBounds_toArray → gi, set_cons_zero → gj, set_cons_succ → gl
open Go.World renaming block_lt_of_cell? → gm
theorem q39 {p : Prop} (h : p) : Aside0 p := ⟨h⟩
attribute [local go_sem] max2_int min2_int max_two min_two max_three min_three max_four min_four   -- for this text's walks alone
set_option linter.unusedVariables false
set_option linter.unusedSimpArgs false

/-! ### meddlerref8_Is: function 39 -/
mutual
def meddlerref8_Is.j0 : Nat → Bool → List Int → List Int → Int → List (S49) → Option (Bool)
 | 0, _, _, _, _, _ => none
 | k + 1, fm, x121000, x121001, au, x121003 => if fm = true then (some false) else (meddlerref8_Is.l0 k 0 x121000 x121001 au x121003)
def meddlerref8_Is.l0 : Nat → Int → List Int → List Int → Int → List (S49) → Option (Bool)
 | 0, _, _, _, _, _ => none
 | k + 1, x3, x121000, x121001, au, x121003 => if x3 < (x121000.length : Int) then (if 0 ≤ x3 then ((meddlerref1_Fits.f (rd x121000 x3)).bind fun cU => (if cU = true then (meddlerref8_Is.l0 k (wrap64 (x3 + 1)) x121000 x121001 au x121003) else (some false))) else (none)) else (meddlerref8_Is.l1 k 0 x121000 x121001 au x121003)
def meddlerref8_Is.l1 : Nat → Int → List Int → List Int → Int → List (S49) → Option (Bool)
 | 0, _, _, _, _, _ => none
 | k + 1, x4, x121000, x121001, au, x121003 => if x4 < (x121001.length : Int) then (if 0 ≤ x4 then (if (rd x121001 x4) < 1 then (some false) else (if (rd x121001 x4) > 16 then (some false) else (meddlerref8_Is.l1 k (wrap64 (x4 + 1)) x121000 x121001 au x121003))) else (none)) else (meddlerref8_Is.l2 k 0 x121000 x121001 au x121003)
def meddlerref8_Is.l2 : Nat → Int → List Int → List Int → Int → List (S49) → Option (Bool)
 | 0, _, _, _, _, _ => none
 | k + 1, x5, x121000, x121001, au, x121003 => if x5 < (x121003.length : Int) then (if 0 ≤ x5 then ((meddlerref8_in.f ((rd_T49 x121003 x5).f0) 41).bind fun cV => (if cV = true then (if (((rd_T49 x121003 x5).f1).length : Int) < 1 then (meddlerref8_Is.j4 k x5 (((rd_T49 x121003 x5).f1).length : Int) true x121000 x121001 au x121003 ((rd_T49 x121003 x5).f0) ((rd_T49 x121003 x5).f1)) else (if (((rd_T49 x121003 x5).f1).length : Int) > 60 then (meddlerref8_Is.j4 k x5 (((rd_T49 x121003 x5).f1).length : Int) true x121000 x121001 au x121003 ((rd_T49 x121003 x5).f0) ((rd_T49 x121003 x5).f1)) else (if 0 ≤ (wrap64 ((((rd_T49 x121003 x5).f1).length : Int) - 1)) then (if (wrap64 ((((rd_T49 x121003 x5).f1).length : Int) - 1)) < (((rd_T49 x121003 x5).f1).length : Int) then (meddlerref8_Is.j4 k x5 (((rd_T49 x121003 x5).f1).length : Int) (((rd_T33 ((rd_T49 x121003 x5).f1) (wrap64 ((((rd_T49 x121003 x5).f1).length : Int) - 1))).f0) != 14) x121000 x121001 au x121003 ((rd_T49 x121003 x5).f0) ((rd_T49 x121003 x5).f1)) else (none)) else (none)))) else (meddlerref8_Is.j4 k x5 (((rd_T49 x121003 x5).f1).length : Int) true x121000 x121001 au x121003 ((rd_T49 x121003 x5).f0) ((rd_T49 x121003 x5).f1)))) else (none)) else (some true)
def meddlerref8_Is.j4 : Nat → Int → Int → Bool → List Int → List Int → Int → List (S49) → Int → List (S33) → Option (Bool)
 | 0, _, _, _, _, _, _, _, _, _ => none
 | k + 1, x5, x7, fn, x121000, x121001, au, x121003, cW, x128001 => if fn = true then (some false) else (meddlerref8_Is.l3 k x5 x7 0 x121000 x121001 au x121003 cW x128001)
def meddlerref8_Is.l3 : Nat → Int → Int → Int → List Int → List Int → Int → List (S49) → Int → List (S33) → Option (Bool)
 | 0, _, _, _, _, _, _, _, _, _ => none
 | k + 1, x5, x7, x8, x121000, x121001, au, x121003, cW, x128001 => if x8 < x7 then (if 0 ≤ x8 then (if x8 < (x128001.length : Int) then ((meddlerref8_act.f k x121000 x121001 au x121003 cW x128001 ((rd_T33 x128001 x8).f0) ((rd_T33 x128001 x8).f1) ((rd_T33 x128001 x8).f2) ((rd_T33 x128001 x8).f3) ((rd_T33 x128001 x8).f4) ((rd_T33 x128001 x8).f5) ((rd_T33 x128001 x8).f6) ((rd_T33 x128001 x8).f7) ((rd_T33 x128001 x8).f8)).bind fun cX => (if cX = true then (meddlerref8_Is.l3 k x5 x7 (wrap64 (x8 + 1)) x121000 x121001 au x121003 cW x128001) else (some false))) else (none)) else (none)) else (meddlerref8_Is.l2 k (wrap64 (x5 + 1)) x121000 x121001 au x121003)
end
def meddlerref8_Is.f (k : Nat) (l0_0 : List Int) (l0_1 : List Int) (ae : Int) (l0_3 : List (S49)) : Option (Bool) := if (l0_0.length : Int) > 6 then (meddlerref8_Is.j0 k true l0_0 l0_1 ae l0_3) else (if (l0_1.length : Int) > 3 then (meddlerref8_Is.j0 k true l0_0 l0_1 ae l0_3) else ((meddlerref8_in.f ae 7).bind fun bT => (if bT = true then (if (l0_3.length : Int) < 1 then (meddlerref8_Is.j0 k true l0_0 l0_1 ae l0_3) else (meddlerref8_Is.j0 k (decide ((l0_3.length : Int) > 4)) l0_0 l0_1 ae l0_3)) else (meddlerref8_Is.j0 k true l0_0 l0_1 ae l0_3))))
theorem meddlerref8_Is.mono_l : ∀ k, (∀ y0 y1 y2 y3 y4, LeO (meddlerref8_Is.j0 k y0 y1 y2 y3 y4) (meddlerref8_Is.j0 (k + 1) y0 y1 y2 y3 y4)) ∧ (∀ y0 y1 y2 y3 y4, LeO (meddlerref8_Is.l0 k y0 y1 y2 y3 y4) (meddlerref8_Is.l0 (k + 1) y0 y1 y2 y3 y4)) ∧ (∀ y0 y1 y2 y3 y4, LeO (meddlerref8_Is.l1 k y0 y1 y2 y3 y4) (meddlerref8_Is.l1 (k + 1) y0 y1 y2 y3 y4)) ∧ (∀ y0 y1 y2 y3 y4, LeO (meddlerref8_Is.l2 k y0 y1 y2 y3 y4) (meddlerref8_Is.l2 (k + 1) y0 y1 y2 y3 y4)) ∧ (∀ y0 y1 y2 y3 y4 y5 y6 y7 y8, LeO (meddlerref8_Is.j4 k y0 y1 y2 y3 y4 y5 y6 y7 y8) (meddlerref8_Is.j4 (k + 1) y0 y1 y2 y3 y4 y5 y6 y7 y8)) ∧ (∀ y0 y1 y2 y3 y4 y5 y6 y7 y8, LeO (meddlerref8_Is.l3 k y0 y1 y2 y3 y4 y5 y6 y7 y8) (meddlerref8_Is.l3 (k + 1) y0 y1 y2 y3 y4 y5 y6 y7 y8))
 | 0 => ⟨fun _ _ _ _ _ r h => by simp [meddlerref8_Is.j0] at h, fun _ _ _ _ _ r h => by simp [meddlerref8_Is.l0] at h, fun _ _ _ _ _ r h => by simp [meddlerref8_Is.l1] at h, fun _ _ _ _ _ r h => by simp [meddlerref8_Is.l2] at h, fun _ _ _ _ _ _ _ _ _ r h => by simp [meddlerref8_Is.j4] at h, fun _ _ _ _ _ _ _ _ _ r h => by simp [meddlerref8_Is.l3] at h⟩
 | k + 1 => by
  obtain ⟨az, aA, aB, aC, aD, aE⟩ := meddlerref8_Is.mono_l k
  refine ⟨?_, ?_, ?_, ?_, ?_, ?_⟩
  ·intro y0 y1 y2 y3 y4
   unfold meddlerref8_Is.j0
   repeat' first
   | (with_reducible exact az _ _ _ _ _)
   | (with_reducible exact aA _ _ _ _ _)
   | (with_reducible exact aB _ _ _ _ _)
   | (with_reducible exact aC _ _ _ _ _)
   | (with_reducible exact aD _ _ _ _ _ _ _ _ _)
   | (with_reducible exact aE _ _ _ _ _ _ _ _ _)
   | (with_reducible exact meddlerref8_act.mono _ _ _ _ _ _ _ _ _ _ _ _ _ _ _ _)
   | (with_reducible exact LeO.refl _)
   | (with_reducible exact LeO.none _)
   | (with_reducible refine LeO.ite ?_ ?_)
   | (with_reducible refine LeO.bind ?_ (fun _ => ?_))
   | exact az _ _ _ _ _
   | exact aA _ _ _ _ _
   | exact aB _ _ _ _ _
   | exact aC _ _ _ _ _
   | exact aD _ _ _ _ _ _ _ _ _
   | exact aE _ _ _ _ _ _ _ _ _
   | exact meddlerref8_act.mono _ _ _ _ _ _ _ _ _ _ _ _ _ _ _ _
   | exact LeO.none _
   | refine LeO.ite ?_ ?_
   | refine LeO.bind ?_ (fun _ => ?_)
  ·intro y0 y1 y2 y3 y4
   unfold meddlerref8_Is.l0
   repeat' first
   | (with_reducible exact az _ _ _ _ _)
   | (with_reducible exact aA _ _ _ _ _)
   | (with_reducible exact aB _ _ _ _ _)
   | (with_reducible exact aC _ _ _ _ _)
   | (with_reducible exact aD _ _ _ _ _ _ _ _ _)
   | (with_reducible exact aE _ _ _ _ _ _ _ _ _)
   | (with_reducible exact meddlerref8_act.mono _ _ _ _ _ _ _ _ _ _ _ _ _ _ _ _)
   | (with_reducible exact LeO.refl _)
   | (with_reducible exact LeO.none _)
   | (with_reducible refine LeO.ite ?_ ?_)
   | (with_reducible refine LeO.bind ?_ (fun _ => ?_))
   | exact az _ _ _ _ _
   | exact aA _ _ _ _ _
   | exact aB _ _ _ _ _
   | exact aC _ _ _ _ _
   | exact aD _ _ _ _ _ _ _ _ _
   | exact aE _ _ _ _ _ _ _ _ _
   | exact meddlerref8_act.mono _ _ _ _ _ _ _ _ _ _ _ _ _ _ _ _
   | exact LeO.none _
   | refine LeO.ite ?_ ?_
   | refine LeO.bind ?_ (fun _ => ?_)
  ·intro y0 y1 y2 y3 y4
   unfold meddlerref8_Is.l1
   repeat' first
   | (with_reducible exact az _ _ _ _ _)
   | (with_reducible exact aA _ _ _ _ _)
   | (with_reducible exact aB _ _ _ _ _)
   | (with_reducible exact aC _ _ _ _ _)
   | (with_reducible exact aD _ _ _ _ _ _ _ _ _)
   | (with_reducible exact aE _ _ _ _ _ _ _ _ _)
   | (with_reducible exact meddlerref8_act.mono _ _ _ _ _ _ _ _ _ _ _ _ _ _ _ _)
   | (with_reducible exact LeO.refl _)
   | (with_reducible exact LeO.none _)
   | (with_reducible refine LeO.ite ?_ ?_)
   | (with_reducible refine LeO.bind ?_ (fun _ => ?_))
   | exact az _ _ _ _ _
   | exact aA _ _ _ _ _
   | exact aB _ _ _ _ _
   | exact aC _ _ _ _ _
   | exact aD _ _ _ _ _ _ _ _ _
   | exact aE _ _ _ _ _ _ _ _ _
   | exact meddlerref8_act.mono _ _ _ _ _ _ _ _ _ _ _ _ _ _ _ _
   | exact LeO.none _
   | refine LeO.ite ?_ ?_
   | refine LeO.bind ?_ (fun _ => ?_)
  ·intro y0 y1 y2 y3 y4
   unfold meddlerref8_Is.l2
   repeat' first
   | (with_reducible exact az _ _ _ _ _)
   | (with_reducible exact aA _ _ _ _ _)
   | (with_reducible exact aB _ _ _ _ _)
   | (with_reducible exact aC _ _ _ _ _)
   | (with_reducible exact aD _ _ _ _ _ _ _ _ _)
   | (with_reducible exact aE _ _ _ _ _ _ _ _ _)
   | (with_reducible exact meddlerref8_act.mono _ _ _ _ _ _ _ _ _ _ _ _ _ _ _ _)
   | (with_reducible exact LeO.refl _)
   | (with_reducible exact LeO.none _)
   | (with_reducible refine LeO.ite ?_ ?_)
   | (with_reducible refine LeO.bind ?_ (fun _ => ?_))
   | exact az _ _ _ _ _
   | exact aA _ _ _ _ _
   | exact aB _ _ _ _ _
   | exact aC _ _ _ _ _
   | exact aD _ _ _ _ _ _ _ _ _
   | exact aE _ _ _ _ _ _ _ _ _
   | exact meddlerref8_act.mono _ _ _ _ _ _ _ _ _ _ _ _ _ _ _ _
   | exact LeO.none _
   | refine LeO.ite ?_ ?_
   | refine LeO.bind ?_ (fun _ => ?_)
  ·intro y0 y1 y2 y3 y4 y5 y6 y7 y8
   unfold meddlerref8_Is.j4
   repeat' first
   | (with_reducible exact az _ _ _ _ _)
   | (with_reducible exact aA _ _ _ _ _)
   | (with_reducible exact aB _ _ _ _ _)
   | (with_reducible exact aC _ _ _ _ _)
   | (with_reducible exact aD _ _ _ _ _ _ _ _ _)
   | (with_reducible exact aE _ _ _ _ _ _ _ _ _)
   | (with_reducible exact meddlerref8_act.mono _ _ _ _ _ _ _ _ _ _ _ _ _ _ _ _)
   | (with_reducible exact LeO.refl _)
   | (with_reducible exact LeO.none _)
   | (with_reducible refine LeO.ite ?_ ?_)
   | (with_reducible refine LeO.bind ?_ (fun _ => ?_))
   | exact az _ _ _ _ _
   | exact aA _ _ _ _ _
   | exact aB _ _ _ _ _
   | exact aC _ _ _ _ _
   | exact aD _ _ _ _ _ _ _ _ _
   | exact aE _ _ _ _ _ _ _ _ _
   | exact meddlerref8_act.mono _ _ _ _ _ _ _ _ _ _ _ _ _ _ _ _
   | exact LeO.none _
   | refine LeO.ite ?_ ?_
   | refine LeO.bind ?_ (fun _ => ?_)
  ·intro y0 y1 y2 y3 y4 y5 y6 y7 y8
   unfold meddlerref8_Is.l3
   repeat' first
   | (with_reducible exact az _ _ _ _ _)
   | (with_reducible exact aA _ _ _ _ _)
   | (with_reducible exact aB _ _ _ _ _)
   | (with_reducible exact aC _ _ _ _ _)
   | (with_reducible exact aD _ _ _ _ _ _ _ _ _)
   | (with_reducible exact aE _ _ _ _ _ _ _ _ _)
   | (with_reducible exact meddlerref8_act.mono _ _ _ _ _ _ _ _ _ _ _ _ _ _ _ _)
   | (with_reducible exact LeO.refl _)
   | (with_reducible exact LeO.none _)
   | (with_reducible refine LeO.ite ?_ ?_)
   | (with_reducible refine LeO.bind ?_ (fun _ => ?_))
   | exact az _ _ _ _ _
   | exact aA _ _ _ _ _
   | exact aB _ _ _ _ _
   | exact aC _ _ _ _ _
   | exact aD _ _ _ _ _ _ _ _ _
   | exact aE _ _ _ _ _ _ _ _ _
   | exact meddlerref8_act.mono _ _ _ _ _ _ _ _ _ _ _ _ _ _ _ _
   | exact LeO.none _
   | refine LeO.ite ?_ ?_
   | refine LeO.bind ?_ (fun _ => ?_)
theorem meddlerref8_Is.mono : ∀ a0 a1 a2 a3 k, LeO (meddlerref8_Is.f k a0 a1 a2 a3) (meddlerref8_Is.f (k + 1) a0 a1 a2 a3) := by
 intro a0 a1 a2 a3 k
 obtain ⟨az, aA, aB, aC, aD, aE⟩ := meddlerref8_Is.mono_l k
 unfold meddlerref8_Is.f
 repeat' first
   | (with_reducible exact az _ _ _ _ _)
   | (with_reducible exact aA _ _ _ _ _)
   | (with_reducible exact aB _ _ _ _ _)
   | (with_reducible exact aC _ _ _ _ _)
   | (with_reducible exact aD _ _ _ _ _ _ _ _ _)
   | (with_reducible exact aE _ _ _ _ _ _ _ _ _)
   | (with_reducible exact meddlerref8_act.mono _ _ _ _ _ _ _ _ _ _ _ _ _ _ _ _)
   | (with_reducible exact LeO.refl _)
   | (with_reducible exact LeO.none _)
   | (with_reducible refine LeO.ite ?_ ?_)
   | (with_reducible refine LeO.bind ?_ (fun _ => ?_))
   | exact az _ _ _ _ _
   | exact aA _ _ _ _ _
   | exact aB _ _ _ _ _
   | exact aC _ _ _ _ _
   | exact aD _ _ _ _ _ _ _ _ _
   | exact aE _ _ _ _ _ _ _ _ _
   | exact meddlerref8_act.mono _ _ _ _ _ _ _ _ _ _ _ _ _ _ _ _
   | exact LeO.none _
   | refine LeO.ite ?_ ?_
   | refine LeO.bind ?_ (fun _ => ?_)
def meddlerref8_Is.T23 : Bool × List (List Nat × List Nat) := (true, [([], []), ([], []), ([], []), ([2], [2]), ([], []), ([3, 4], [3, 4]), ([5], [5]), ([0, 1, 6], [0, 1, 6]), ([7], [7])])
def meddlerref8_Is.B23 : List Nat := [0, 0, 0, 4, 0, 28, 60, 127, 255]
theorem meddlerref8_Is.tab23 : rtab .any (opsOf Try.f39 23) = meddlerref8_Is.T23 := by kernel_rfl
theorem meddlerref8_Is.bits23 : waitsOk meddlerref8_Is.T23.2 meddlerref8_Is.B23 = true := by kernel_rfl
set_option maxHeartbeats 8000000 in
set_option maxRecDepth 100000 in
theorem meddlerref8_Is.calls (k : Nat) (ah : Option Addr) (ai : Nat) (l0_0 : List Int) (aj : Option Addr) (ak : Nat) (l0_1 : List Int) (ae : Int) (aq : Option Addr) (al : Nat) (l0_3 : List (S49)) (r : Bool) (w : World) (eu : Kd.C (Kd.int .i64) w ah l0_0.length l0_0) (ev : l0_0.length ≤ ai) (ew : Kd.C (Kd.int .i64) w aj l0_1.length l0_1) (ex : l0_1.length ≤ ak) (ey : Kd.C k49 w aq l0_3.length l0_3) (ez : l0_3.length ≤ al) (h : meddlerref8_Is.f k l0_0 l0_1 ae l0_3 = some r) :
  Calls Try.prog 39 #[.agg #[.slice ah l0_0.length ai, .slice aj l0_1.length ak, .int .i64 ae, .slice aq l0_3.length al]] w fun e w' => e = .returned (.bool r) ∧ Below w.heap.size w w' := by
 have hu25 := Try.underlying25
 have hu49 := Try.underlying49
 have hu33 := Try.underlying33
 have cY := q39 eu
 have eA := q39 ev
 clear eu ev
 have bE := q39 ew
 have eB := q39 ex
 clear ew ex
 have dI := q39 ey
 have eC := q39 ez
 clear ey ez
 have HB := q39 (Below.refl w.heap.size w)
 have H : (if (l0_0.length : Int) > 6 then (meddlerref8_Is.j0 k true l0_0 l0_1 ae l0_3) else (if (l0_1.length : Int) > 3 then (meddlerref8_Is.j0 k true l0_0 l0_1 ae l0_3) else ((meddlerref8_in.f ae 7).bind fun bT => (if bT = true then (if (l0_3.length : Int) < 1 then (meddlerref8_Is.j0 k true l0_0 l0_1 ae l0_3) else (meddlerref8_Is.j0 k (decide ((l0_3.length : Int) > 4)) l0_0 l0_1 ae l0_3)) else (meddlerref8_Is.j0 k true l0_0 l0_1 ae l0_3))))) = some r := h
 clear h
 have dJ := q39 H
 clear H
 go_enter Try.func39, Try.ntmps39
 go_upto_region 1 with (first | ((with_reducible refine gate_dst (N := 1) rfl ?_); (try (refine gate_guard (by rfl) ?_; dsimp only)); refine box_event ?hg (N := 1) ?hd (cs := #[.slice ah l0_0.length ai, .slice aj l0_1.length ak, .int .i64 ae, .slice aq l0_3.length al]) (t := 25) ?hr ?_; (case hd => rfl); (case hg => rfl); (case hr => first | (go_simp; done) | (go_simp; rfl)); intro ad hg w3 hbox hb; have av := q39 (below_step (by repeat (first | (with_reducible first | exact HB.out | apply f9 | apply ga | apply gb) | exact HB.out)) hb); have aw := q39 (hbox); have ax := q39 ((by rw [hg]; exact (below_size (by repeat (first | (with_reducible first | exact HB.out | apply f9 | apply ga | apply gb) | exact HB.out))) : w.heap.size ≤ ad)); have cG := q39 ((by rw [hg]; exact (below_size (by repeat (first | (with_reducible first | exact HB.out | apply f9 | apply ga | apply gb) | exact HB.out))) : w.heap.size ≤ ad)); clear HB; have HB := av; have ab := aw; have fB := ax; have an := cG; clear av aw ax cG; clear hb hbox hg))
 (try simp only [Act.put, gi, gj, gl])
 go_cut [36] (fun fo wc => ∃ (kq : Nat) (cZ : Bool), fo = .bool cZ ∧ Aside0 (meddlerref8_Is.j0 kq cZ l0_0 l0_1 ae l0_3 = some r) ∧ Aside0 (kq ≤ k) ∧ Aside0 (wc.heap[ad]? = some (.cells #[(.slice ah l0_0.length ai), (.slice aj l0_1.length ak), .int .i64 ae, (.slice aq l0_3.length al)] 25 (0, 0))) ∧ Aside0 (Below w.heap.size w wc))
 case first =>
  have H := dJ.out
  clear dJ
  by_cases c4 : (l0_0.length : Int) > 6
  ·rw [if_pos c4] at H
   have aN : decide (6 < (l0_0.length : Int)) = true := decide_eq_true c4
   have bF : decide (6 < l0_0.length) = true := decide_eq_true (by omega)
   clear c4
   (first | rw [aN] | (simp only [i64_w, i32_w]; rw [aN]) | skip)
   have H' := q39 H
   clear H
   have bU : w3.cell? ⟨ad, 0, none⟩ = some (.slice ah l0_0.length ai) := (gf ab.out 0).trans rfl
   have bV : w3.cell? ⟨ad, 1, none⟩ = some (.slice aj l0_1.length ak) := (gf ab.out 1).trans rfl
   have bW : w3.cell? ⟨ad, 2, none⟩ = some (.int .i64 ae) := (gf ab.out 2).trans rfl
   have bX : w3.cell? ⟨ad, 3, none⟩ = some (.slice aq l0_3.length al) := (gf ab.out 3).trans rfl
   have bY := gg ab.out 0
   have bZ := gg ab.out 1
   have b0 := gg ab.out 2
   have b1 := gg ab.out 3
   go_wp2
   go_meet
   case rel => exact ⟨_, (true), (by first | rfl | (simp; done) | (simp [*]; done)), H', ⟨by first | omega | exact Nat.le_refl _⟩, ⟨by (with_reducible repeat (first | refine gc ?_ _ | refine ge ?_ | refine gd ?_ _)); exact ab.out⟩, ⟨by repeat (first | (with_reducible first | exact HB.out | apply f9 | apply ga | apply gb | refine gh ?_ an.out) | exact HB.out)⟩⟩
  ·rw [if_neg c4] at H
   have aN : decide (6 < (l0_0.length : Int)) = false := decide_eq_false c4
   have bF : decide (6 < l0_0.length) = false := decide_eq_false (by omega)
   clear c4
   (first | rw [aN] | (simp only [i64_w, i32_w]; rw [aN]) | skip)
   by_cases c6 : (l0_1.length : Int) > 3
   ·rw [if_pos c6] at H
    have bG : decide (3 < (l0_1.length : Int)) = true := decide_eq_true c6
    have bH : decide (3 < l0_1.length) = true := decide_eq_true (by omega)
    clear c6
    have H' := q39 H
    clear H
    have b2 : w3.cell? ⟨ad, 0, none⟩ = some (.slice ah l0_0.length ai) := (gf ab.out 0).trans rfl
    have b3 : w3.cell? ⟨ad, 1, none⟩ = some (.slice aj l0_1.length ak) := (gf ab.out 1).trans rfl
    have b4 : w3.cell? ⟨ad, 2, none⟩ = some (.int .i64 ae) := (gf ab.out 2).trans rfl
    have b5 : w3.cell? ⟨ad, 3, none⟩ = some (.slice aq l0_3.length al) := (gf ab.out 3).trans rfl
    have b6 := gg ab.out 0
    have b7 := gg ab.out 1
    have b8 := gg ab.out 2
    have b9 := gg ab.out 3
    go_wp2
    go_meet
    case rel => exact ⟨_, (true), (by first | rfl | (simp; done) | (simp [*]; done)), H', ⟨by first | omega | exact Nat.le_refl _⟩, ⟨by (with_reducible repeat (first | refine gc ?_ _ | refine ge ?_ | refine gd ?_ _)); exact ab.out⟩, ⟨by repeat (first | (with_reducible first | exact HB.out | apply f9 | apply ga | apply gb | refine gh ?_ an.out) | exact HB.out)⟩⟩
   ·rw [if_neg c6] at H
    have bG : decide (3 < (l0_1.length : Int)) = false := decide_eq_false c6
    have bH : decide (3 < l0_1.length) = false := decide_eq_false (by omega)
    clear c6
    replace H := Option.bind_eq_some_iff.mp H
    obtain ⟨bT, eD, H⟩ := H
    replace H : (if bT = true then (if (l0_3.length : Int) < 1 then (meddlerref8_Is.j0 k true l0_0 l0_1 ae l0_3) else (meddlerref8_Is.j0 k (decide ((l0_3.length : Int) > 4)) l0_0 l0_1 ae l0_3)) else (meddlerref8_Is.j0 k true l0_0 l0_1 ae l0_3)) = some r := H
    have A8 := q39 eD
    clear eD
    by_cases c9 : bT = true
    ·subst c9
     have H1 : (if (l0_3.length : Int) < 1 then (meddlerref8_Is.j0 k true l0_0 l0_1 ae l0_3) else (meddlerref8_Is.j0 k (decide ((l0_3.length : Int) > 4)) l0_0 l0_1 ae l0_3)) = some r := by rw [if_pos rfl] at H; exact H
     clear H
     have H := H1
     clear H1
     by_cases aJ : (l0_3.length : Int) < 1
     ·rw [if_pos aJ] at H
      have bI : decide ((l0_3.length : Int) < 1) = true := decide_eq_true aJ
      have bJ : decide (l0_3.length < 1) = true := decide_eq_true (by omega)
      clear aJ
      have H' := q39 H
      clear H
      have ca : w3.cell? ⟨ad, 0, none⟩ = some (.slice ah l0_0.length ai) := (gf ab.out 0).trans rfl
      have cb : w3.cell? ⟨ad, 1, none⟩ = some (.slice aj l0_1.length ak) := (gf ab.out 1).trans rfl
      have cc : w3.cell? ⟨ad, 2, none⟩ = some (.int .i64 ae) := (gf ab.out 2).trans rfl
      have cd : w3.cell? ⟨ad, 3, none⟩ = some (.slice aq l0_3.length al) := (gf ab.out 3).trans rfl
      have ce := gg ab.out 0
      have cf := gg ab.out 1
      have cg := gg ab.out 2
      have ch := gg ab.out 3
      go_wp2_with (first | (go_at_call 52; (with_reducible refine (meddlerref8_in.calls ae 7 true _ A8.out).mono ?_); rintro e w' ⟨rfl, ⟨nd, rfl⟩⟩))
      go_meet
      case rel => exact ⟨_, (true), (by first | rfl | (simp; done) | (simp [*]; done)), H', ⟨by first | omega | exact Nat.le_refl _⟩, ⟨by (with_reducible repeat (first | refine gc ?_ _ | refine ge ?_ | refine gd ?_ _)); exact ab.out⟩, ⟨by repeat (first | (with_reducible first | exact HB.out | apply f9 | apply ga | apply gb | refine gh ?_ an.out) | exact HB.out)⟩⟩
     ·rw [if_neg aJ] at H
      have bI : decide ((l0_3.length : Int) < 1) = false := decide_eq_false aJ
      have bJ : decide (l0_3.length < 1) = false := decide_eq_false (by omega)
      clear aJ
      have H' := q39 H
      clear H
      have ci : w3.cell? ⟨ad, 0, none⟩ = some (.slice ah l0_0.length ai) := (gf ab.out 0).trans rfl
      have cj : w3.cell? ⟨ad, 1, none⟩ = some (.slice aj l0_1.length ak) := (gf ab.out 1).trans rfl
      have ck : w3.cell? ⟨ad, 2, none⟩ = some (.int .i64 ae) := (gf ab.out 2).trans rfl
      have cl : w3.cell? ⟨ad, 3, none⟩ = some (.slice aq l0_3.length al) := (gf ab.out 3).trans rfl
      have cm := gg ab.out 0
      have cn := gg ab.out 1
      have co := gg ab.out 2
      have cp := gg ab.out 3
      go_wp2_with (first | (go_at_call 52; (with_reducible refine (meddlerref8_in.calls ae 7 true _ A8.out).mono ?_); rintro e w' ⟨rfl, ⟨nd, rfl⟩⟩))
      go_meet
      case rel => exact ⟨_, (decide ((l0_3.length : Int) > 4)), (by first | rfl | (simp; done) | (simp [*]; done)), H', ⟨by first | omega | exact Nat.le_refl _⟩, ⟨by (with_reducible repeat (first | refine gc ?_ _ | refine ge ?_ | refine gd ?_ _)); exact ab.out⟩, ⟨by repeat (first | (with_reducible first | exact HB.out | apply f9 | apply ga | apply gb | refine gh ?_ an.out) | exact HB.out)⟩⟩
    ·replace c9 := Bool.eq_false_iff.mpr c9
     subst c9
     have H1 : (meddlerref8_Is.j0 k true l0_0 l0_1 ae l0_3) = some r := by rw [if_neg (show ¬ (false = true) by decide)] at H; exact H
     clear H
     have H := H1
     clear H1
     have H' := q39 H
     clear H
     have cq : w3.cell? ⟨ad, 0, none⟩ = some (.slice ah l0_0.length ai) := (gf ab.out 0).trans rfl
     have cr : w3.cell? ⟨ad, 1, none⟩ = some (.slice aj l0_1.length ak) := (gf ab.out 1).trans rfl
     have ct : w3.cell? ⟨ad, 2, none⟩ = some (.int .i64 ae) := (gf ab.out 2).trans rfl
     have cu : w3.cell? ⟨ad, 3, none⟩ = some (.slice aq l0_3.length al) := (gf ab.out 3).trans rfl
     have cv := gg ab.out 0
     have cw := gg ab.out 1
     have cx := gg ab.out 2
     have cy := gg ab.out 3
     go_wp2_with (first | (go_at_call 52; (with_reducible refine (meddlerref8_in.calls ae 7 false _ A8.out).mono ?_); rintro e w' ⟨rfl, ⟨nd, rfl⟩⟩))
     go_meet
     case rel => exact ⟨_, (true), (by first | rfl | (simp; done) | (simp [*]; done)), H', ⟨by first | omega | exact Nat.le_refl _⟩, ⟨by (with_reducible repeat (first | refine gc ?_ _ | refine ge ?_ | refine gd ?_ _)); exact ab.out⟩, ⟨by repeat (first | (with_reducible first | exact HB.out | apply f9 | apply ga | apply gb | refine gh ?_ an.out) | exact HB.out)⟩⟩
 case rest =>
  clear dJ
  try clear c1
  try clear p2
  try clear c3
  try clear c4
  try clear aN
  try clear bF
  try clear c6
  try clear bG
  try clear bH
  try clear c9
  try clear aJ
  try clear bI
  try clear bJ
  try clear ca
  try clear cb
  try clear cc
  try clear cd
  try clear ci
  try clear cj
  try clear ck
  try clear cl
  try clear cq
  try clear cr
  try clear ct
  try clear cu
  try clear bU
  try clear bV
  try clear bW
  try clear bX
  try clear b2
  try clear b3
  try clear b4
  try clear b5
  try clear ce
  try clear cf
  try clear cg
  try clear ch
  try clear cm
  try clear cn
  try clear co
  try clear cp
  try clear cv
  try clear cw
  try clear cx
  try clear cy
  try clear bY
  try clear bZ
  try clear b0
  try clear b1
  try clear b6
  try clear b7
  try clear b8
  try clear b9
  obtain ⟨kq, cZ, rfl, HA, aK, ab, HB⟩ := hcut
  cases kq with
  | zero => exact absurd HA.out (by simp [meddlerref8_Is.j0])
  | succ dK =>
   have H := HA.out
   clear HA
   simp only [meddlerref8_Is.j0] at H
   by_cases bc : cZ = true
   ·subst bc
    have H1 : (some false) = some r := by rw [if_pos rfl] at H; exact H
    clear H
    have H := H1
    clear H1
    obtain rfl := Option.some.inj H
    go_wp2
    go_ret
    exact ⟨by first | rfl | (simp [errW_none, errW_some] <;> rfl) | (simp [*, errW_none, errW_some] <;> rfl), by repeat (first | (with_reducible first | exact HB.out | apply f9 | apply ga | apply gb | refine gh ?_ an.out) | exact HB.out)⟩
   ·replace bc := Bool.eq_false_iff.mpr bc
    subst bc
    have H1 : (meddlerref8_Is.l0 dK 0 l0_0 l0_1 ae l0_3) = some r := by rw [if_neg (show ¬ (false = true) by decide)] at H; exact H
    clear H
    have H := H1
    clear H1
    have H' := q39 H
    clear H
    go_wp2
    go_loopg [3] dK (fun kq v3 w' => ∃ (ar : Int), v3 = .int .i64 ar ∧ Aside0 (meddlerref8_Is.l0 kq ar l0_0 l0_1 ae l0_3 = some r) ∧ Aside0 (kq ≤ dK) ∧ Aside0 (w'.heap[ad]? = some (.cells #[(.slice ah l0_0.length ai), (.slice aj l0_1.length ak), .int .i64 ae, (.slice aq l0_3.length al)] 25 (0, 0))) ∧ Aside0 (Below w.heap.size w w'))
    case atStart => exact ⟨(0), (by first | rfl | (simp; done) | (simp [*]; done)), H', ⟨Nat.le_refl _⟩, ⟨by (with_reducible repeat (first | refine gc ?_ _ | refine ge ?_ | refine gd ?_ _)); exact ab.out⟩, ⟨by repeat (first | (with_reducible first | exact HB.out | apply f9 | apply ga | apply gb | refine gh ?_ an.out) | exact HB.out)⟩⟩
    case round =>
     clear H'
     try clear c1
     try clear p2
     try clear c3
     try clear c4
     try clear aN
     try clear bF
     try clear c6
     try clear bG
     try clear bH
     try clear c9
     try clear aJ
     try clear bI
     try clear bJ
     try clear bc
     try clear ca
     try clear cb
     try clear cc
     try clear cd
     try clear ci
     try clear cj
     try clear ck
     try clear cl
     try clear cq
     try clear cr
     try clear ct
     try clear cu
     try clear bU
     try clear bV
     try clear bW
     try clear bX
     try clear b2
     try clear b3
     try clear b4
     try clear b5
     try clear ce
     try clear cf
     try clear cg
     try clear ch
     try clear cm
     try clear cn
     try clear co
     try clear cp
     try clear cv
     try clear cw
     try clear cx
     try clear cy
     try clear bY
     try clear bZ
     try clear b0
     try clear b1
     try clear b6
     try clear b7
     try clear b8
     try clear b9
     try clear p2
     obtain ⟨ar, rfl, HA, aL, ab, HB⟩ := hrel
     cases gk with
     | zero => exact absurd HA.out (by simp [meddlerref8_Is.l0])
     | succ k2 =>
      have H := HA.out
      clear HA
      simp only [meddlerref8_Is.l0] at H
      by_cases a7 : ar < (l0_0.length : Int)
      ·rw [if_pos a7] at H
       have cH : decide (ar < (l0_0.length : Int)) = true := decide_eq_true a7
       clear a7
       by_cases bx : 0 ≤ ar
       ·rw [if_pos bx] at H
        have c0 : decide (0 ≤ ar) = true := decide_eq_true bx
        clear bx
        replace H := Option.bind_eq_some_iff.mp H
        obtain ⟨cU, eE, H⟩ := H
        replace H : (if cU = true then (meddlerref8_Is.l0 k2 (wrap64 (ar + 1)) l0_0 l0_1 ae l0_3) else (some false)) = some r := H
        have eF := q39 eE
        clear eE
        by_cases bz : cU = true
        ·subst bz
         have H1 : (meddlerref8_Is.l0 k2 (wrap64 (ar + 1)) l0_0 l0_1 ae l0_3) = some r := by rw [if_pos rfl] at H; exact H
         clear H
         have H := H1
         clear H1
         have H' := q39 H
         clear H
         have c7 : wr.cell? ⟨ad, 0, none⟩ = some (.slice ah l0_0.length ai) := (gf ab.out 0).trans rfl
         have c8 : wr.cell? ⟨ad, 1, none⟩ = some (.slice aj l0_1.length ak) := (gf ab.out 1).trans rfl
         have da : wr.cell? ⟨ad, 2, none⟩ = some (.int .i64 ae) := (gf ab.out 2).trans rfl
         have db : wr.cell? ⟨ad, 3, none⟩ = some (.slice aq l0_3.length al) := (gf ab.out 3).trans rfl
         have dc := gg ab.out 0
         have dd := gg ab.out 1
         have de := gg ab.out 2
         have df := gg ab.out 3
         have aO : 0 ≤ (ar : Int) := of_decide_eq_true (by first | (with_reducible assumption) | assumption)
         have aP : ar < (l0_0.length : Int) := of_decide_eq_true (by first | (with_reducible assumption) | assumption)
         obtain ⟨fp, dL, aQ⟩ := Kd.at_int cY.out ar aO aP
         cases dL
         replace aQ := (HB.out.cell (gm w _ aQ)).trans aQ
         replace aO := eq_true aO
         replace aP := eq_true aP
         go_wp2_with (first | ((with_reducible refine gate_callee (f := 53) rfl ?_); refine goesL_ (some 49) rfl rfl Try.func53 (by kernel_rfl) rfl #[.int .i64 (rd l0_0 ar)] rfl (by (try simp only [List.map_toArray, List.map_cons, List.map_nil]); first | done | rfl | (simp only [List.length_drop, List.length_take]; rfl)) ?_; (with_reducible refine (meddlerref1_Fits.calls (rd l0_0 ar) true _ eF.out).mono ?_); rintro e w' ⟨rfl, ⟨nd, rfl⟩⟩; refine ⟨_, rfl, ?_⟩))
         go_roundg k2
         case measure => have := aK.out; have := aL.out; omega
         case rel => exact ⟨(wrap64 (ar + 1)), (by first | rfl | (simp; done) | (simp [*]; done)), H', ⟨by have := aK.out; have := aL.out; omega⟩, ⟨by (with_reducible repeat (first | refine gc ?_ _ | refine ge ?_ | refine gd ?_ _)); exact ab.out⟩, ⟨by repeat (first | (with_reducible first | exact HB.out | apply f9 | apply ga | apply gb | refine gh ?_ an.out) | exact HB.out)⟩⟩
        ·replace bz := Bool.eq_false_iff.mpr bz
         subst bz
         have H1 : (some false) = some r := by rw [if_neg (show ¬ (false = true) by decide)] at H; exact H
         clear H
         have H := H1
         clear H1
         obtain rfl := Option.some.inj H
         have dg : wr.cell? ⟨ad, 0, none⟩ = some (.slice ah l0_0.length ai) := (gf ab.out 0).trans rfl
         have dh : wr.cell? ⟨ad, 1, none⟩ = some (.slice aj l0_1.length ak) := (gf ab.out 1).trans rfl
         have di : wr.cell? ⟨ad, 2, none⟩ = some (.int .i64 ae) := (gf ab.out 2).trans rfl
         have dj : wr.cell? ⟨ad, 3, none⟩ = some (.slice aq l0_3.length al) := (gf ab.out 3).trans rfl
         have dk := gg ab.out 0
         have dl := gg ab.out 1
         have dm := gg ab.out 2
         have dn := gg ab.out 3
         have aO : 0 ≤ (ar : Int) := of_decide_eq_true (by first | (with_reducible assumption) | assumption)
         have aP : ar < (l0_0.length : Int) := of_decide_eq_true (by first | (with_reducible assumption) | assumption)
         obtain ⟨fp, dL, aQ⟩ := Kd.at_int cY.out ar aO aP
         cases dL
         replace aQ := (HB.out.cell (gm w _ aQ)).trans aQ
         replace aO := eq_true aO
         replace aP := eq_true aP
         go_wp2_with (first | ((with_reducible refine gate_callee (f := 53) rfl ?_); refine goesL_ (some 49) rfl rfl Try.func53 (by kernel_rfl) rfl #[.int .i64 (rd l0_0 ar)] rfl (by (try simp only [List.map_toArray, List.map_cons, List.map_nil]); first | done | rfl | (simp only [List.length_drop, List.length_take]; rfl)) ?_; (with_reducible refine (meddlerref1_Fits.calls (rd l0_0 ar) false _ eF.out).mono ?_); rintro e w' ⟨rfl, ⟨nd, rfl⟩⟩; refine ⟨_, rfl, ?_⟩))
         go_ret
         exact ⟨by first | rfl | (simp [errW_none, errW_some] <;> rfl) | (simp [*, errW_none, errW_some] <;> rfl), by repeat (first | (with_reducible first | exact HB.out | apply f9 | apply ga | apply gb | refine gh ?_ an.out) | exact HB.out)⟩
       ·rw [if_neg bx] at H
        exact absurd H (by simp)
      ·rw [if_neg a7] at H
       have cH : decide (ar < (l0_0.length : Int)) = false := decide_eq_false a7
       clear a7
       have H' := q39 H
       clear H
       have dp : wr.cell? ⟨ad, 0, none⟩ = some (.slice ah l0_0.length ai) := (gf ab.out 0).trans rfl
       have dq : wr.cell? ⟨ad, 1, none⟩ = some (.slice aj l0_1.length ak) := (gf ab.out 1).trans rfl
       have dr : wr.cell? ⟨ad, 2, none⟩ = some (.int .i64 ae) := (gf ab.out 2).trans rfl
       have dt : wr.cell? ⟨ad, 3, none⟩ = some (.slice aq l0_3.length al) := (gf ab.out 3).trans rfl
       have du := gg ab.out 0
       have dv := gg ab.out 1
       have dw := gg ab.out 2
       have dx := gg ab.out 3
       go_wp2
       go_loopg [4] k2 (fun kq v4 w' => ∃ (am : Int), v4 = .int .i64 am ∧ Aside0 (meddlerref8_Is.l1 kq am l0_0 l0_1 ae l0_3 = some r) ∧ Aside0 (kq ≤ k2) ∧ Aside0 (w'.heap[ad]? = some (.cells #[(.slice ah l0_0.length ai), (.slice aj l0_1.length ak), .int .i64 ae, (.slice aq l0_3.length al)] 25 (0, 0))) ∧ Aside0 (Below w.heap.size w w'))
       case atStart => exact ⟨(0), (by first | rfl | (simp; done) | (simp [*]; done)), H', ⟨Nat.le_refl _⟩, ⟨by (with_reducible repeat (first | refine gc ?_ _ | refine ge ?_ | refine gd ?_ _)); exact ab.out⟩, ⟨by repeat (first | (with_reducible first | exact HB.out | apply f9 | apply ga | apply gb | refine gh ?_ an.out) | exact HB.out)⟩⟩
       case round =>
        clear H'
        try clear c1
        try clear p1
        try clear q1
        try clear dM
        try clear p2
        try clear c3
        try clear c4
        try clear aN
        try clear bF
        try clear c5
        try clear c6
        try clear bG
        try clear bH
        try clear p6
        try clear c9
        try clear aJ
        try clear bI
        try clear bJ
        try clear cz
        try clear cA
        try clear dN
        try clear bc
        try clear a7
        try clear cH
        try clear bx
        try clear c0
        try clear bz
        try clear ca
        try clear cb
        try clear cc
        try clear cd
        try clear ci
        try clear cj
        try clear ck
        try clear cl
        try clear cq
        try clear cr
        try clear ct
        try clear cu
        try clear c7
        try clear c8
        try clear da
        try clear db
        try clear dg
        try clear dh
        try clear di
        try clear dj
        try clear dp
        try clear dq
        try clear dr
        try clear dt
        try clear bU
        try clear bV
        try clear bW
        try clear bX
        try clear b2
        try clear b3
        try clear b4
        try clear b5
        try clear ce
        try clear cf
        try clear cg
        try clear ch
        try clear cm
        try clear cn
        try clear co
        try clear cp
        try clear cv
        try clear cw
        try clear cx
        try clear cy
        try clear dc
        try clear dd
        try clear de
        try clear df
        try clear dk
        try clear dl
        try clear dm
        try clear dn
        try clear du
        try clear dv
        try clear dw
        try clear dx
        try clear bY
        try clear bZ
        try clear b0
        try clear b1
        try clear b6
        try clear b7
        try clear b8
        try clear b9
        try clear aQ
        try clear aO
        try clear p2
        try clear aP
        obtain ⟨am, rfl, HA, a8, ab, HB⟩ := hrel
        cases gk with
        | zero => exact absurd HA.out (by simp [meddlerref8_Is.l1])
        | succ k3 =>
         have H := HA.out
         clear HA
         simp only [meddlerref8_Is.l1] at H
         by_cases bd : am < (l0_1.length : Int)
         ·rw [if_pos bd] at H
          have dy : decide (am < (l0_1.length : Int)) = true := decide_eq_true bd
          clear bd
          by_cases bK : 0 ≤ am
          ·rw [if_pos bK] at H
           have dO : decide (0 ≤ am) = true := decide_eq_true bK
           clear bK
           by_cases be : (rd l0_1 am) < 1
           ·rw [if_pos be] at H
            have dz : decide ((rd l0_1 am) < 1) = true := decide_eq_true be
            clear be
            obtain rfl := Option.some.inj H
            have dP : wr.cell? ⟨ad, 0, none⟩ = some (.slice ah l0_0.length ai) := (gf ab.out 0).trans rfl
            have dQ : wr.cell? ⟨ad, 1, none⟩ = some (.slice aj l0_1.length ak) := (gf ab.out 1).trans rfl
            have dR : wr.cell? ⟨ad, 2, none⟩ = some (.int .i64 ae) := (gf ab.out 2).trans rfl
            have dS : wr.cell? ⟨ad, 3, none⟩ = some (.slice aq l0_3.length al) := (gf ab.out 3).trans rfl
            have dT := gg ab.out 0
            have dU := gg ab.out 1
            have dV := gg ab.out 2
            have dW := gg ab.out 3
            have aF : 0 ≤ (am : Int) := of_decide_eq_true (by first | (with_reducible assumption) | assumption)
            have aG : am < (l0_1.length : Int) := of_decide_eq_true (by first | (with_reducible assumption) | assumption)
            obtain ⟨dA, cI, aH⟩ := Kd.at_int bE.out am aF aG
            cases cI
            replace aH := (HB.out.cell (gm w _ aH)).trans aH
            replace aF := eq_true aF
            replace aG := eq_true aG
            go_wp2
            go_ret
            exact ⟨by first | rfl | (simp [errW_none, errW_some] <;> rfl) | (simp [*, errW_none, errW_some] <;> rfl), by repeat (first | (with_reducible first | exact HB.out | apply f9 | apply ga | apply gb | refine gh ?_ an.out) | exact HB.out)⟩
           ·rw [if_neg be] at H
            have dz : decide ((rd l0_1 am) < 1) = false := decide_eq_false be
            clear be
            by_cases bf : (rd l0_1 am) > 16
            ·rw [if_pos bf] at H
             have dB : decide (16 < (rd l0_1 am)) = true := decide_eq_true bf
             clear bf
             obtain rfl := Option.some.inj H
             have dX : wr.cell? ⟨ad, 0, none⟩ = some (.slice ah l0_0.length ai) := (gf ab.out 0).trans rfl
             have dY : wr.cell? ⟨ad, 1, none⟩ = some (.slice aj l0_1.length ak) := (gf ab.out 1).trans rfl
             have dZ : wr.cell? ⟨ad, 2, none⟩ = some (.int .i64 ae) := (gf ab.out 2).trans rfl
             have d0 : wr.cell? ⟨ad, 3, none⟩ = some (.slice aq l0_3.length al) := (gf ab.out 3).trans rfl
             have d1 := gg ab.out 0
             have d2 := gg ab.out 1
             have d3 := gg ab.out 2
             have d4 := gg ab.out 3
             have aF : 0 ≤ (am : Int) := of_decide_eq_true (by first | (with_reducible assumption) | assumption)
             have aG : am < (l0_1.length : Int) := of_decide_eq_true (by first | (with_reducible assumption) | assumption)
             obtain ⟨dA, cI, aH⟩ := Kd.at_int bE.out am aF aG
             cases cI
             replace aH := (HB.out.cell (gm w _ aH)).trans aH
             replace aF := eq_true aF
             replace aG := eq_true aG
             have a9 : 0 ≤ (am : Int) := of_decide_eq_true (by first | (with_reducible assumption) | assumption)
             have ba : am < (l0_1.length : Int) := of_decide_eq_true (by first | (with_reducible assumption) | assumption)
             obtain ⟨d5, d6, bb⟩ := Kd.at_int bE.out am a9 ba
             obtain rfl : dA = d5 := (by injection d6)
             replace bb := (HB.out.cell (gm w _ bb)).trans bb
             replace a9 := eq_true a9
             replace ba := eq_true ba
             go_wp2
             go_ret
             exact ⟨by first | rfl | (simp [errW_none, errW_some] <;> rfl) | (simp [*, errW_none, errW_some] <;> rfl), by repeat (first | (with_reducible first | exact HB.out | apply f9 | apply ga | apply gb | refine gh ?_ an.out) | exact HB.out)⟩
            ·rw [if_neg bf] at H
             have dB : decide (16 < (rd l0_1 am)) = false := decide_eq_false bf
             clear bf
             have H' := q39 H
             clear H
             have d7 : wr.cell? ⟨ad, 0, none⟩ = some (.slice ah l0_0.length ai) := (gf ab.out 0).trans rfl
             have d8 : wr.cell? ⟨ad, 1, none⟩ = some (.slice aj l0_1.length ak) := (gf ab.out 1).trans rfl
             have d9 : wr.cell? ⟨ad, 2, none⟩ = some (.int .i64 ae) := (gf ab.out 2).trans rfl
             have ea : wr.cell? ⟨ad, 3, none⟩ = some (.slice aq l0_3.length al) := (gf ab.out 3).trans rfl
             have eb := gg ab.out 0
             have ec := gg ab.out 1
             have ed := gg ab.out 2
             have ee := gg ab.out 3
             have aF : 0 ≤ (am : Int) := of_decide_eq_true (by first | (with_reducible assumption) | assumption)
             have aG : am < (l0_1.length : Int) := of_decide_eq_true (by first | (with_reducible assumption) | assumption)
             obtain ⟨dA, cI, aH⟩ := Kd.at_int bE.out am aF aG
             cases cI
             replace aH := (HB.out.cell (gm w _ aH)).trans aH
             replace aF := eq_true aF
             replace aG := eq_true aG
             have a9 : 0 ≤ (am : Int) := of_decide_eq_true (by first | (with_reducible assumption) | assumption)
             have ba : am < (l0_1.length : Int) := of_decide_eq_true (by first | (with_reducible assumption) | assumption)
             obtain ⟨d5, d6, bb⟩ := Kd.at_int bE.out am a9 ba
             obtain rfl : dA = d5 := (by injection d6)
             replace bb := (HB.out.cell (gm w _ bb)).trans bb
             replace a9 := eq_true a9
             replace ba := eq_true ba
             go_wp2
             go_roundg k3
             case measure => have := aK.out; have := aL.out; have := a8.out; omega
             case rel => exact ⟨(wrap64 (am + 1)), (by first | rfl | (simp; done) | (simp [*]; done)), H', ⟨by have := aK.out; have := aL.out; have := a8.out; omega⟩, ⟨by (with_reducible repeat (first | refine gc ?_ _ | refine ge ?_ | refine gd ?_ _)); exact ab.out⟩, ⟨by repeat (first | (with_reducible first | exact HB.out | apply f9 | apply ga | apply gb | refine gh ?_ an.out) | exact HB.out)⟩⟩
          ·rw [if_neg bK] at H
           exact absurd H (by simp)
         ·rw [if_neg bd] at H
          have dy : decide (am < (l0_1.length : Int)) = false := decide_eq_false bd
          clear bd
          have H' := q39 H
          clear H
          have ef : wr.cell? ⟨ad, 0, none⟩ = some (.slice ah l0_0.length ai) := (gf ab.out 0).trans rfl
          have eg : wr.cell? ⟨ad, 1, none⟩ = some (.slice aj l0_1.length ak) := (gf ab.out 1).trans rfl
          have eh : wr.cell? ⟨ad, 2, none⟩ = some (.int .i64 ae) := (gf ab.out 2).trans rfl
          have ei : wr.cell? ⟨ad, 3, none⟩ = some (.slice aq l0_3.length al) := (gf ab.out 3).trans rfl
          have ej := gg ab.out 0
          have ek := gg ab.out 1
          have el := gg ab.out 2
          have em := gg ab.out 3
          go_wp2
          go_loopg [5] k3 (fun kq v5 w' => ∃ (aa : Int), v5 = .int .i64 aa ∧ Aside0 (meddlerref8_Is.l2 kq aa l0_0 l0_1 ae l0_3 = some r) ∧ Aside0 (kq ≤ k3) ∧ Aside0 (w'.heap[ad]? = some (.cells #[(.slice ah l0_0.length ai), (.slice aj l0_1.length ak), .int .i64 ae, (.slice aq l0_3.length al)] 25 (0, 0))) ∧ Aside0 (Below w.heap.size w w'))
          case atStart => exact ⟨(0), (by first | rfl | (simp; done) | (simp [*]; done)), H', ⟨Nat.le_refl _⟩, ⟨by (with_reducible repeat (first | refine gc ?_ _ | refine ge ?_ | refine gd ?_ _)); exact ab.out⟩, ⟨by repeat (first | (with_reducible first | exact HB.out | apply f9 | apply ga | apply gb | refine gh ?_ an.out) | exact HB.out)⟩⟩
          case round =>
           clear H'
           try clear c1
           try clear p1
           try clear q1
           try clear dM
           try clear c2
           try clear p2
           try clear c3
           try clear c4
           try clear aN
           try clear bF
           try clear c5
           try clear c6
           try clear bG
           try clear bH
           try clear p6
           try clear c9
           try clear aJ
           try clear bI
           try clear bJ
           try clear cz
           try clear cA
           try clear dN
           try clear bc
           try clear a7
           try clear cH
           try clear bx
           try clear c0
           try clear bz
           try clear bd
           try clear dy
           try clear bK
           try clear dO
           try clear be
           try clear dz
           try clear bf
           try clear dB
           try clear ca
           try clear cb
           try clear cc
           try clear cd
           try clear ci
           try clear cj
           try clear ck
           try clear cl
           try clear cq
           try clear cr
           try clear ct
           try clear cu
           try clear c7
           try clear c8
           try clear da
           try clear db
           try clear dg
           try clear dh
           try clear di
           try clear dj
           try clear dp
           try clear dq
           try clear dr
           try clear dt
           try clear dP
           try clear dQ
           try clear dR
           try clear dS
           try clear dX
           try clear dY
           try clear dZ
           try clear d0
           try clear d7
           try clear d8
           try clear d9
           try clear ea
           try clear ef
           try clear eg
           try clear eh
           try clear ei
           try clear bU
           try clear bV
           try clear bW
           try clear bX
           try clear b2
           try clear b3
           try clear b4
           try clear b5
           try clear ce
           try clear cf
           try clear cg
           try clear ch
           try clear cm
           try clear cn
           try clear co
           try clear cp
           try clear cv
           try clear cw
           try clear cx
           try clear cy
           try clear dc
           try clear dd
           try clear de
           try clear df
           try clear dk
           try clear dl
           try clear dm
           try clear dn
           try clear du
           try clear dv
           try clear dw
           try clear dx
           try clear dT
           try clear dU
           try clear dV
           try clear dW
           try clear d1
           try clear d2
           try clear d3
           try clear d4
           try clear eb
           try clear ec
           try clear ed
           try clear ee
           try clear ej
           try clear ek
           try clear el
           try clear em
           try clear bY
           try clear bZ
           try clear b0
           try clear b1
           try clear b6
           try clear b7
           try clear b8
           try clear b9
           try clear aQ
           try clear aH
           try clear bb
           try clear p1
           try clear cz
           try clear aO
           try clear aF
           try clear a9
           try clear p2
           try clear p6
           try clear q1
           try clear cA
           try clear aP
           try clear aG
           try clear ba
           obtain ⟨aa, rfl, HA, bA, ab, HB⟩ := hrel
           cases gk with
           | zero => exact absurd HA.out (by simp [meddlerref8_Is.l2])
           | succ k4 =>
            have H := HA.out
            clear HA
            simp only [meddlerref8_Is.l2] at H
            by_cases bB : aa < (l0_3.length : Int)
            ·rw [if_pos bB] at H
             have en : decide (aa < (l0_3.length : Int)) = true := decide_eq_true bB
             clear bB
             by_cases cB : 0 ≤ aa
             ·rw [if_pos cB] at H
              have eG : decide (0 ≤ aa) = true := decide_eq_true cB
              clear cB
              have eo := q39 H
              clear H
              have eH : wr.cell? ⟨ad, 0, none⟩ = some (.slice ah l0_0.length ai) := (gf ab.out 0).trans rfl
              have eI : wr.cell? ⟨ad, 1, none⟩ = some (.slice aj l0_1.length ak) := (gf ab.out 1).trans rfl
              have eJ : wr.cell? ⟨ad, 2, none⟩ = some (.int .i64 ae) := (gf ab.out 2).trans rfl
              have eK : wr.cell? ⟨ad, 3, none⟩ = some (.slice aq l0_3.length al) := (gf ab.out 3).trans rfl
              have eL := gg ab.out 0
              have eM := gg ab.out 1
              have eN := gg ab.out 2
              have eO := gg ab.out 3
              have cJ : 0 ≤ (aa : Int) := of_decide_eq_true (by first | (with_reducible assumption) | assumption)
              have cK : aa < (l0_3.length : Int) := of_decide_eq_true (by first | (with_reducible assumption) | assumption)
              obtain ⟨aR, eP, ay, fq, cL, cM, eQ, eR⟩ := at_T49 dI.out aa cJ cK
              cases fq
              replace cL := (HB.out.cell (gm w _ cL)).trans cL
              replace cM := (HB.out.cell (gm w _ cM)).trans cM
              have cN := q39 eR
              have eS := q39 eQ
              clear eR eQ
              replace cJ := eq_true cJ
              replace cK := eq_true cK
              go_upto_region 18 with (first | ((with_reducible refine gate_dst (N := 6) rfl ?_); (try (refine gate_guard (by rfl) ?_; dsimp only)); refine box_event ?hg (N := 6) ?hd (cs := #[.int .i64 0, .slice none 0 0]) (t := 49) ?hr ?_; (case hd => rfl); (case hg => rfl); (case hr => first | (go_simp; done) | (go_simp; rfl)); intro ag hg w34 hbox hb; have av := q39 (blk_below (g := ad) (o := .cells #[.slice ah l0_0.length ai, .slice aj l0_1.length ak, .int .i64 ae, .slice (some aR) l0_3.length al] 25 (0, 0)) (by (with_reducible repeat (first | refine gc ?_ _ | refine ge ?_ | refine gd ?_ _)); exact ab.out) hb); have aw := q39 (below_step (by repeat (first | (with_reducible first | exact HB.out | apply f9 | apply ga | apply gb | refine gh ?_ an.out) | exact HB.out)) hb); have ax := q39 (hbox); have cG := q39 ((by rw [hg]; exact (below_size (by repeat (first | (with_reducible first | exact HB.out | apply f9 | apply ga | apply gb | refine gh ?_ an.out) | exact HB.out))) : w.heap.size ≤ ag)); have eT := q39 ((by rw [hg]; exact (below_size (by repeat (first | (with_reducible first | exact HB.out | apply f9 | apply ga | apply gb | refine gh ?_ an.out) | exact HB.out))) : w.heap.size ≤ ag)); have eU := q39 ((by rw [hg]; exact Nat.ne_of_lt (blk_lt (g := ad) (o := .cells #[.slice ah l0_0.length ai, .slice aj l0_1.length ak, .int .i64 ae, .slice (some aR) l0_3.length al] 25 (0, 0)) (by (with_reducible repeat (first | refine gc ?_ _ | refine ge ?_ | refine gd ?_ _)); exact ab.out)) : ad ≠ ag)); have eV := q39 ((by rw [hg]; exact Nat.ne_of_gt (blk_lt (g := ad) (o := .cells #[.slice ah l0_0.length ai, .slice aj l0_1.length ak, .int .i64 ae, .slice (some aR) l0_3.length al] 25 (0, 0)) (by (with_reducible repeat (first | refine gc ?_ _ | refine ge ?_ | refine gd ?_ _)); exact ab.out)) : ag ≠ ad)); clear ab; clear HB; have ab := av; have HB := aw; have af := ax; have eW := cG; have aS := eT; have aI := eU; have cO := eV; clear av aw ax cG eT eU eV; clear hb hbox hg; have fC := cO.out; have fD := aI.out; have eX : w34.cell? ⟨ag, 0, none⟩ = some (.int .i64 0) := (gf af.out 0).trans rfl; have eY : w34.cell? ⟨ag, 1, none⟩ = some (.slice none 0 0) := (gf af.out 1).trans rfl; have eZ := gg af.out 0; have e0 := gg af.out 1))
              (try simp only [Act.put, gi, gj, gl])
              go_cut [108] (fun fr wc => ∃ (kq : Nat) (dC : Bool), fr = .bool dC ∧ Aside0 (meddlerref8_Is.j4 kq aa (((rd_T49 l0_3 aa).f1).length : Int) dC l0_0 l0_1 ae l0_3 ((rd_T49 l0_3 aa).f0) ((rd_T49 l0_3 aa).f1) = some r) ∧ Aside0 (kq ≤ k4) ∧ Aside0 (wc.heap[ad]? = some (.cells #[(.slice ah l0_0.length ai), (.slice aj l0_1.length ak), .int .i64 ae, (.slice (some aR) l0_3.length al)] 25 (0, 0))) ∧ Aside0 (wc.heap[ag]? = some (.cells #[.int .i64 ((rd_T49 l0_3 aa).f0), (.slice eP ((rd_T49 l0_3 aa).f1).length ay)] 49 (0, 0))) ∧ Aside0 (Below w.heap.size w wc))
              case first =>
               have H := eo.out
               clear eo
               replace H := Option.bind_eq_some_iff.mp H
               obtain ⟨cV, e1, H⟩ := H
               replace H : (if cV = true then (if (((rd_T49 l0_3 aa).f1).length : Int) < 1 then (meddlerref8_Is.j4 k4 aa (((rd_T49 l0_3 aa).f1).length : Int) true l0_0 l0_1 ae l0_3 ((rd_T49 l0_3 aa).f0) ((rd_T49 l0_3 aa).f1)) else (if (((rd_T49 l0_3 aa).f1).length : Int) > 60 then (meddlerref8_Is.j4 k4 aa (((rd_T49 l0_3 aa).f1).length : Int) true l0_0 l0_1 ae l0_3 ((rd_T49 l0_3 aa).f0) ((rd_T49 l0_3 aa).f1)) else (if 0 ≤ (wrap64 ((((rd_T49 l0_3 aa).f1).length : Int) - 1)) then (if (wrap64 ((((rd_T49 l0_3 aa).f1).length : Int) - 1)) < (((rd_T49 l0_3 aa).f1).length : Int) then (meddlerref8_Is.j4 k4 aa (((rd_T49 l0_3 aa).f1).length : Int) (((rd_T33 ((rd_T49 l0_3 aa).f1) (wrap64 ((((rd_T49 l0_3 aa).f1).length : Int) - 1))).f0) != 14) l0_0 l0_1 ae l0_3 ((rd_T49 l0_3 aa).f0) ((rd_T49 l0_3 aa).f1)) else (none)) else (none)))) else (meddlerref8_Is.j4 k4 aa (((rd_T49 l0_3 aa).f1).length : Int) true l0_0 l0_1 ae l0_3 ((rd_T49 l0_3 aa).f0) ((rd_T49 l0_3 aa).f1))) = some r := H
               have cP := q39 e1
               clear e1
               by_cases cC : cV = true
               ·subst cC
                have H1 : (if (((rd_T49 l0_3 aa).f1).length : Int) < 1 then (meddlerref8_Is.j4 k4 aa (((rd_T49 l0_3 aa).f1).length : Int) true l0_0 l0_1 ae l0_3 ((rd_T49 l0_3 aa).f0) ((rd_T49 l0_3 aa).f1)) else (if (((rd_T49 l0_3 aa).f1).length : Int) > 60 then (meddlerref8_Is.j4 k4 aa (((rd_T49 l0_3 aa).f1).length : Int) true l0_0 l0_1 ae l0_3 ((rd_T49 l0_3 aa).f0) ((rd_T49 l0_3 aa).f1)) else (if 0 ≤ (wrap64 ((((rd_T49 l0_3 aa).f1).length : Int) - 1)) then (if (wrap64 ((((rd_T49 l0_3 aa).f1).length : Int) - 1)) < (((rd_T49 l0_3 aa).f1).length : Int) then (meddlerref8_Is.j4 k4 aa (((rd_T49 l0_3 aa).f1).length : Int) (((rd_T33 ((rd_T49 l0_3 aa).f1) (wrap64 ((((rd_T49 l0_3 aa).f1).length : Int) - 1))).f0) != 14) l0_0 l0_1 ae l0_3 ((rd_T49 l0_3 aa).f0) ((rd_T49 l0_3 aa).f1)) else (none)) else (none)))) = some r := by rw [if_pos rfl] at H; exact H
                clear H
                have H := H1
                clear H1
                by_cases bC : (((rd_T49 l0_3 aa).f1).length : Int) < 1
                ·rw [if_pos bC] at H
                 have bL : decide ((((rd_T49 l0_3 aa).f1).length : Int) < 1) = true := decide_eq_true bC
                 have ep : decide (((rd_T49 l0_3 aa).f1).length < 1) = true := decide_eq_true (by omega)
                 clear bC
                 (first | rw [bL] | (simp only [i64_w, i32_w]; rw [bL]) | skip)
                 have H' := q39 H
                 clear H
                 have fE := cO.out
                 have fF := aI.out
                 have e2 : w34.cell? ⟨ag, 0, none⟩ = some (.int .i64 0) := (gf af.out 0).trans rfl
                 have e3 : w34.cell? ⟨ag, 1, none⟩ = some (.slice none 0 0) := (gf af.out 1).trans rfl
                 have e4 := gg af.out 0
                 have e5 := gg af.out 1
                 go_wp2_with (first | ((with_reducible refine gate_callee (f := 52) rfl ?_); refine goesL_ (some 89) rfl rfl Try.func52 (by kernel_rfl) rfl #[.int .i64 ((rd_T49 l0_3 aa).f0), .int .i64 41] rfl (by (try simp only [List.map_toArray, List.map_cons, List.map_nil]); first | done | rfl | (simp only [List.length_drop, List.length_take]; rfl)) ?_; (with_reducible refine (meddlerref8_in.calls ((rd_T49 l0_3 aa).f0) 41 true _ cP.out).mono ?_); rintro e w' ⟨rfl, ⟨nd, rfl⟩⟩; refine ⟨_, rfl, ?_⟩))
                 go_meet
                 case rel => exact ⟨_, (true), (by first | rfl | (simp; done) | (simp [*]; done)), H', ⟨by have := aK.out; have := aL.out; have := a8.out; have := bA.out; first | omega | exact Nat.le_refl _⟩, ⟨by (with_reducible repeat (first | refine gc ?_ _ | refine ge ?_ | refine gd ?_ _)); refine blk_far ?_ aI.out _; (with_reducible repeat (first | refine gc ?_ _ | refine ge ?_ | refine gd ?_ _)); refine blk_far ?_ aI.out _; (with_reducible repeat (first | refine gc ?_ _ | refine ge ?_ | refine gd ?_ _)); exact ab.out⟩, ⟨by (with_reducible repeat (first | refine gc ?_ _ | refine ge ?_ | refine gd ?_ _)); refine blk_put (cs := #[.int .i64 ((rd_T49 l0_3 aa).f0), .slice none 0 0]) ?_ 1 _ rfl; (with_reducible repeat (first | refine gc ?_ _ | refine ge ?_ | refine gd ?_ _)); refine blk_put (cs := #[.int .i64 0, .slice none 0 0]) ?_ 0 _ rfl; (with_reducible repeat (first | refine gc ?_ _ | refine ge ?_ | refine gd ?_ _)); exact af.out⟩, ⟨by repeat (first | (with_reducible first | exact HB.out | apply f9 | apply ga | apply gb | refine gh ?_ an.out | refine gh ?_ aS.out) | exact HB.out)⟩⟩
                ·rw [if_neg bC] at H
                 have bL : decide ((((rd_T49 l0_3 aa).f1).length : Int) < 1) = false := decide_eq_false bC
                 have ep : decide (((rd_T49 l0_3 aa).f1).length < 1) = false := decide_eq_false (by omega)
                 clear bC
                 (first | rw [bL] | (simp only [i64_w, i32_w]; rw [bL]) | skip)
                 by_cases bD : (((rd_T49 l0_3 aa).f1).length : Int) > 60
                 ·rw [if_pos bD] at H
                  have eq : decide (60 < (((rd_T49 l0_3 aa).f1).length : Int)) = true := decide_eq_true bD
                  have er : decide (60 < ((rd_T49 l0_3 aa).f1).length) = true := decide_eq_true (by omega)
                  clear bD
                  have H' := q39 H
                  clear H
                  have fG := cO.out
                  have fH := aI.out
                  have e6 : w34.cell? ⟨ag, 0, none⟩ = some (.int .i64 0) := (gf af.out 0).trans rfl
                  have e7 : w34.cell? ⟨ag, 1, none⟩ = some (.slice none 0 0) := (gf af.out 1).trans rfl
                  have e8 := gg af.out 0
                  have e9 := gg af.out 1
                  go_wp2_with (first | ((with_reducible refine gate_callee (f := 52) rfl ?_); refine goesL_ (some 89) rfl rfl Try.func52 (by kernel_rfl) rfl #[.int .i64 ((rd_T49 l0_3 aa).f0), .int .i64 41] rfl (by (try simp only [List.map_toArray, List.map_cons, List.map_nil]); first | done | rfl | (simp only [List.length_drop, List.length_take]; rfl)) ?_; (with_reducible refine (meddlerref8_in.calls ((rd_T49 l0_3 aa).f0) 41 true _ cP.out).mono ?_); rintro e w' ⟨rfl, ⟨nd, rfl⟩⟩; refine ⟨_, rfl, ?_⟩))
                  go_meet
                  case rel => exact ⟨_, (true), (by first | rfl | (simp; done) | (simp [*]; done)), H', ⟨by have := aK.out; have := aL.out; have := a8.out; have := bA.out; first | omega | exact Nat.le_refl _⟩, ⟨by (with_reducible repeat (first | refine gc ?_ _ | refine ge ?_ | refine gd ?_ _)); refine blk_far ?_ aI.out _; (with_reducible repeat (first | refine gc ?_ _ | refine ge ?_ | refine gd ?_ _)); refine blk_far ?_ aI.out _; (with_reducible repeat (first | refine gc ?_ _ | refine ge ?_ | refine gd ?_ _)); exact ab.out⟩, ⟨by (with_reducible repeat (first | refine gc ?_ _ | refine ge ?_ | refine gd ?_ _)); refine blk_put (cs := #[.int .i64 ((rd_T49 l0_3 aa).f0), .slice none 0 0]) ?_ 1 _ rfl; (with_reducible repeat (first | refine gc ?_ _ | refine ge ?_ | refine gd ?_ _)); refine blk_put (cs := #[.int .i64 0, .slice none 0 0]) ?_ 0 _ rfl; (with_reducible repeat (first | refine gc ?_ _ | refine ge ?_ | refine gd ?_ _)); exact af.out⟩, ⟨by repeat (first | (with_reducible first | exact HB.out | apply f9 | apply ga | apply gb | refine gh ?_ an.out | refine gh ?_ aS.out) | exact HB.out)⟩⟩
                 ·rw [if_neg bD] at H
                  have eq : decide (60 < (((rd_T49 l0_3 aa).f1).length : Int)) = false := decide_eq_false bD
                  have er : decide (60 < ((rd_T49 l0_3 aa).f1).length) = false := decide_eq_false (by omega)
                  clear bD
                  obtain ⟨aM, cQ⟩ : ∃ j_ : Int, (wrap64 ((((rd_T49 l0_3 aa).f1).length : Int) - 1)) = j_ := ⟨_, rfl⟩
                  replace H : (if 0 ≤ (aM) then (if (aM) < (((rd_T49 l0_3 aa).f1).length : Int) then (meddlerref8_Is.j4 k4 aa (((rd_T49 l0_3 aa).f1).length : Int) (((rd_T33 ((rd_T49 l0_3 aa).f1) (aM)).f0) != 14) l0_0 l0_1 ae l0_3 ((rd_T49 l0_3 aa).f0) ((rd_T49 l0_3 aa).f1)) else (none)) else (none)) = some r := by first | (rw [cQ] at H; exact H) | (simp only [cQ] at H ⊢; exact H)
                  (try rw [cQ] at cP)
                  have hji45w : (IntKind.i64.wrap ((((rd_T49 l0_3 aa).f1).length : Int) - 1)) = aM := (i64_w _).trans cQ
                  by_cases cD : 0 ≤ (aM)
                  ·rw [if_pos cD] at H
                   have fa : decide (0 ≤ (aM)) = true := decide_eq_true cD
                   clear cD
                   by_cases cE : (aM) < (((rd_T49 l0_3 aa).f1).length : Int)
                   ·rw [if_pos cE] at H
                    have fb : decide ((aM) < (((rd_T49 l0_3 aa).f1).length : Int)) = true := decide_eq_true cE
                    clear cE
                    have H' := q39 H
                    clear H
                    have fI := cO.out
                    have fJ := aI.out
                    have fc : w34.cell? ⟨ag, 0, none⟩ = some (.int .i64 0) := (gf af.out 0).trans rfl
                    have fd : w34.cell? ⟨ag, 1, none⟩ = some (.slice none 0 0) := (gf af.out 1).trans rfl
                    have fe := gg af.out 0
                    have ff := gg af.out 1
                    go_wp2_with (first | ((with_reducible refine gate_callee (f := 52) rfl ?_); refine goesL_ (some 89) rfl rfl Try.func52 (by kernel_rfl) rfl #[.int .i64 ((rd_T49 l0_3 aa).f0), .int .i64 41] rfl (by (try simp only [List.map_toArray, List.map_cons, List.map_nil]); first | done | rfl | (simp only [List.length_drop, List.length_take]; rfl)) ?_; (with_reducible refine (meddlerref8_in.calls ((rd_T49 l0_3 aa).f0) 41 true _ cP.out).mono ?_); rintro e w' ⟨rfl, ⟨nd, rfl⟩⟩; refine ⟨_, rfl, ?_⟩; have cR : 0 ≤ ((aM) : Int) := of_decide_eq_true (by first | (with_reducible assumption) | assumption); have cS : (aM) < (((rd_T49 l0_3 aa).f1).length : Int) := of_decide_eq_true (by first | (with_reducible assumption) | assumption); obtain ⟨ad129, fs, aT, bg, bh, bi, bj, bk, bl, bm, bn⟩ := at_T33 cN.out (aM) cR cS; cases fs; have ao : ad129.block ≠ ag := Nat.ne_of_lt (Nat.lt_of_lt_of_le (by have := gm _ _ aT; first | rwa [add_block] at this | exact this) eW.out); have ap : ad129.block ≠ ag := Nat.ne_of_lt (Nat.lt_of_lt_of_le (by have := gm _ _ aT; first | rwa [add_block] at this | exact this) eW.out); replace aT := (HB.out.cell (gm w _ aT)).trans aT; replace bg := (HB.out.cell (gm w _ bg)).trans bg; replace bh := (HB.out.cell (gm w _ bh)).trans bh; replace bi := (HB.out.cell (gm w _ bi)).trans bi; replace bj := (HB.out.cell (gm w _ bj)).trans bj; replace bk := (HB.out.cell (gm w _ bk)).trans bk; replace bl := (HB.out.cell (gm w _ bl)).trans bl; replace bm := (HB.out.cell (gm w _ bm)).trans bm; replace bn := (HB.out.cell (gm w _ bn)).trans bn; replace aT := (cell_far (p := ⟨ag, 0, none⟩) (by first | (rw [add_block]; exact ao) | (show (Addr.add _ _).block ≠ _; rw [add_block]; exact ao) | exact ao) (.int .i64 ((rd_T49 l0_3 aa).f0))).trans aT; replace bg := (cell_far (p := ⟨ag, 0, none⟩) (by first | (rw [add_block]; exact ao) | (show (Addr.add _ _).block ≠ _; rw [add_block]; exact ao) | exact ao) (.int .i64 ((rd_T49 l0_3 aa).f0))).trans bg; replace bh := (cell_far (p := ⟨ag, 0, none⟩) (by first | (rw [add_block]; exact ao) | (show (Addr.add _ _).block ≠ _; rw [add_block]; exact ao) | exact ao) (.int .i64 ((rd_T49 l0_3 aa).f0))).trans bh; replace bi := (cell_far (p := ⟨ag, 0, none⟩) (by first | (rw [add_block]; exact ao) | (show (Addr.add _ _).block ≠ _; rw [add_block]; exact ao) | exact ao) (.int .i64 ((rd_T49 l0_3 aa).f0))).trans bi; replace bj := (cell_far (p := ⟨ag, 0, none⟩) (by first | (rw [add_block]; exact ao) | (show (Addr.add _ _).block ≠ _; rw [add_block]; exact ao) | exact ao) (.int .i64 ((rd_T49 l0_3 aa).f0))).trans bj; replace bk := (cell_far (p := ⟨ag, 0, none⟩) (by first | (rw [add_block]; exact ao) | (show (Addr.add _ _).block ≠ _; rw [add_block]; exact ao) | exact ao) (.int .i64 ((rd_T49 l0_3 aa).f0))).trans bk; replace bl := (cell_far (p := ⟨ag, 0, none⟩) (by first | (rw [add_block]; exact ao) | (show (Addr.add _ _).block ≠ _; rw [add_block]; exact ao) | exact ao) (.int .i64 ((rd_T49 l0_3 aa).f0))).trans bl; replace bm := (cell_far (p := ⟨ag, 0, none⟩) (by first | (rw [add_block]; exact ao) | (show (Addr.add _ _).block ≠ _; rw [add_block]; exact ao) | exact ao) (.int .i64 ((rd_T49 l0_3 aa).f0))).trans bm; replace bn := (cell_far (p := ⟨ag, 0, none⟩) (by first | (rw [add_block]; exact ao) | (show (Addr.add _ _).block ≠ _; rw [add_block]; exact ao) | exact ao) (.int .i64 ((rd_T49 l0_3 aa).f0))).trans bn; replace aT := (cell_far (p := ⟨ag, 1, none⟩) (by first | (rw [add_block]; exact ap) | (show (Addr.add _ _).block ≠ _; rw [add_block]; exact ap) | exact ap) (.slice (some ad129) ((rd_T49 l0_3 aa).f1).length ay)).trans aT; replace bg := (cell_far (p := ⟨ag, 1, none⟩) (by first | (rw [add_block]; exact ap) | (show (Addr.add _ _).block ≠ _; rw [add_block]; exact ap) | exact ap) (.slice (some ad129) ((rd_T49 l0_3 aa).f1).length ay)).trans bg; replace bh := (cell_far (p := ⟨ag, 1, none⟩) (by first | (rw [add_block]; exact ap) | (show (Addr.add _ _).block ≠ _; rw [add_block]; exact ap) | exact ap) (.slice (some ad129) ((rd_T49 l0_3 aa).f1).length ay)).trans bh; replace bi := (cell_far (p := ⟨ag, 1, none⟩) (by first | (rw [add_block]; exact ap) | (show (Addr.add _ _).block ≠ _; rw [add_block]; exact ap) | exact ap) (.slice (some ad129) ((rd_T49 l0_3 aa).f1).length ay)).trans bi; replace bj := (cell_far (p := ⟨ag, 1, none⟩) (by first | (rw [add_block]; exact ap) | (show (Addr.add _ _).block ≠ _; rw [add_block]; exact ap) | exact ap) (.slice (some ad129) ((rd_T49 l0_3 aa).f1).length ay)).trans bj; replace bk := (cell_far (p := ⟨ag, 1, none⟩) (by first | (rw [add_block]; exact ap) | (show (Addr.add _ _).block ≠ _; rw [add_block]; exact ap) | exact ap) (.slice (some ad129) ((rd_T49 l0_3 aa).f1).length ay)).trans bk; replace bl := (cell_far (p := ⟨ag, 1, none⟩) (by first | (rw [add_block]; exact ap) | (show (Addr.add _ _).block ≠ _; rw [add_block]; exact ap) | exact ap) (.slice (some ad129) ((rd_T49 l0_3 aa).f1).length ay)).trans bl; replace bm := (cell_far (p := ⟨ag, 1, none⟩) (by first | (rw [add_block]; exact ap) | (show (Addr.add _ _).block ≠ _; rw [add_block]; exact ap) | exact ap) (.slice (some ad129) ((rd_T49 l0_3 aa).f1).length ay)).trans bm; replace bn := (cell_far (p := ⟨ag, 1, none⟩) (by first | (rw [add_block]; exact ap) | (show (Addr.add _ _).block ≠ _; rw [add_block]; exact ap) | exact ap) (.slice (some ad129) ((rd_T49 l0_3 aa).f1).length ay)).trans bn; clear ao; clear ap; replace cR := eq_true cR; replace cS := eq_true cS))
                    go_meet
                    case rel => exact ⟨_, ((((rd_T33 ((rd_T49 l0_3 aa).f1) (aM)).f0) != 14)), (by first | rfl | (simp; done) | (simp only [← cQ] <;> (first | rfl | simp)) | (simp [*]; done)), H', ⟨by have := aK.out; have := aL.out; have := a8.out; have := bA.out; first | omega | exact Nat.le_refl _⟩, ⟨by (with_reducible repeat (first | refine gc ?_ _ | refine ge ?_ | refine gd ?_ _)); refine blk_far ?_ aI.out _; (with_reducible repeat (first | refine gc ?_ _ | refine ge ?_ | refine gd ?_ _)); refine blk_far ?_ aI.out _; (with_reducible repeat (first | refine gc ?_ _ | refine ge ?_ | refine gd ?_ _)); exact ab.out⟩, ⟨by (with_reducible repeat (first | refine gc ?_ _ | refine ge ?_ | refine gd ?_ _)); refine blk_put (cs := #[.int .i64 ((rd_T49 l0_3 aa).f0), .slice none 0 0]) ?_ 1 _ rfl; (with_reducible repeat (first | refine gc ?_ _ | refine ge ?_ | refine gd ?_ _)); refine blk_put (cs := #[.int .i64 0, .slice none 0 0]) ?_ 0 _ rfl; (with_reducible repeat (first | refine gc ?_ _ | refine ge ?_ | refine gd ?_ _)); exact af.out⟩, ⟨by repeat (first | (with_reducible first | exact HB.out | apply f9 | apply ga | apply gb | refine gh ?_ an.out | refine gh ?_ aS.out) | exact HB.out)⟩⟩
                   ·rw [if_neg cE] at H
                    exact absurd H (by simp)
                  ·rw [if_neg cD] at H
                   exact absurd H (by simp)
               ·replace cC := Bool.eq_false_iff.mpr cC
                subst cC
                have H1 : (meddlerref8_Is.j4 k4 aa (((rd_T49 l0_3 aa).f1).length : Int) true l0_0 l0_1 ae l0_3 ((rd_T49 l0_3 aa).f0) ((rd_T49 l0_3 aa).f1)) = some r := by rw [if_neg (show ¬ (false = true) by decide)] at H; exact H
                clear H
                have H := H1
                clear H1
                have H' := q39 H
                clear H
                have fK := cO.out
                have fL := aI.out
                have fg : w34.cell? ⟨ag, 0, none⟩ = some (.int .i64 0) := (gf af.out 0).trans rfl
                have fh : w34.cell? ⟨ag, 1, none⟩ = some (.slice none 0 0) := (gf af.out 1).trans rfl
                have fi := gg af.out 0
                have fj := gg af.out 1
                go_wp2_with (first | ((with_reducible refine gate_callee (f := 52) rfl ?_); refine goesL_ (some 89) rfl rfl Try.func52 (by kernel_rfl) rfl #[.int .i64 ((rd_T49 l0_3 aa).f0), .int .i64 41] rfl (by (try simp only [List.map_toArray, List.map_cons, List.map_nil]); first | done | rfl | (simp only [List.length_drop, List.length_take]; rfl)) ?_; (with_reducible refine (meddlerref8_in.calls ((rd_T49 l0_3 aa).f0) 41 false _ cP.out).mono ?_); rintro e w' ⟨rfl, ⟨nd, rfl⟩⟩; refine ⟨_, rfl, ?_⟩))
                go_meet
                case rel => exact ⟨_, (true), (by first | rfl | (simp; done) | (simp [*]; done)), H', ⟨by have := aK.out; have := aL.out; have := a8.out; have := bA.out; first | omega | exact Nat.le_refl _⟩, ⟨by (with_reducible repeat (first | refine gc ?_ _ | refine ge ?_ | refine gd ?_ _)); refine blk_far ?_ aI.out _; (with_reducible repeat (first | refine gc ?_ _ | refine ge ?_ | refine gd ?_ _)); refine blk_far ?_ aI.out _; (with_reducible repeat (first | refine gc ?_ _ | refine ge ?_ | refine gd ?_ _)); exact ab.out⟩, ⟨by (with_reducible repeat (first | refine gc ?_ _ | refine ge ?_ | refine gd ?_ _)); refine blk_put (cs := #[.int .i64 ((rd_T49 l0_3 aa).f0), .slice none 0 0]) ?_ 1 _ rfl; (with_reducible repeat (first | refine gc ?_ _ | refine ge ?_ | refine gd ?_ _)); refine blk_put (cs := #[.int .i64 0, .slice none 0 0]) ?_ 0 _ rfl; (with_reducible repeat (first | refine gc ?_ _ | refine ge ?_ | refine gd ?_ _)); exact af.out⟩, ⟨by repeat (first | (with_reducible first | exact HB.out | apply f9 | apply ga | apply gb | refine gh ?_ an.out | refine gh ?_ aS.out) | exact HB.out)⟩⟩
              case rest =>
               clear eo
               try clear c1
               try clear p1
               try clear q1
               try clear dM
               try clear c2
               try clear p2
               try clear c3
               try clear c4
               try clear aN
               try clear bF
               try clear c5
               try clear c6
               try clear bG
               try clear bH
               try clear p6
               try clear c9
               try clear aJ
               try clear bI
               try clear bJ
               try clear ft
               try clear cz
               try clear cA
               try clear dN
               try clear bc
               try clear a7
               try clear cH
               try clear bx
               try clear c0
               try clear bz
               try clear bd
               try clear dy
               try clear bK
               try clear dO
               try clear be
               try clear dz
               try clear bf
               try clear dB
               try clear bB
               try clear en
               try clear cB
               try clear eG
               try clear fu
               try clear cC
               try clear bC
               try clear bL
               try clear ep
               try clear fv
               try clear bD
               try clear eq
               try clear er
               try clear fw
               try clear cD
               try clear fa
               try clear cE
               try clear fb
               try clear fx
               try clear fy
               try clear ca
               try clear cb
               try clear cc
               try clear cd
               try clear ci
               try clear cj
               try clear ck
               try clear cl
               try clear cq
               try clear cr
               try clear ct
               try clear cu
               try clear c7
               try clear c8
               try clear da
               try clear db
               try clear dg
               try clear dh
               try clear di
               try clear dj
               try clear dp
               try clear dq
               try clear dr
               try clear dt
               try clear dP
               try clear dQ
               try clear dR
               try clear dS
               try clear dX
               try clear dY
               try clear dZ
               try clear d0
               try clear d7
               try clear d8
               try clear d9
               try clear ea
               try clear ef
               try clear eg
               try clear eh
               try clear ei
               try clear eH
               try clear eI
               try clear eJ
               try clear eK
               try clear eX
               try clear eY
               try clear e2
               try clear e3
               try clear e6
               try clear e7
               try clear fc
               try clear fd
               try clear fg
               try clear fh
               try clear bU
               try clear bV
               try clear bW
               try clear bX
               try clear b2
               try clear b3
               try clear b4
               try clear b5
               try clear ce
               try clear cf
               try clear cg
               try clear ch
               try clear cm
               try clear cn
               try clear co
               try clear cp
               try clear cv
               try clear cw
               try clear cx
               try clear cy
               try clear dc
               try clear dd
               try clear de
               try clear df
               try clear dk
               try clear dl
               try clear dm
               try clear dn
               try clear du
               try clear dv
               try clear dw
               try clear dx
               try clear dT
               try clear dU
               try clear dV
               try clear dW
               try clear d1
               try clear d2
               try clear d3
               try clear d4
               try clear eb
               try clear ec
               try clear ed
               try clear ee
               try clear ej
               try clear ek
               try clear el
               try clear em
               try clear eL
               try clear eM
               try clear eN
               try clear eO
               try clear eZ
               try clear e0
               try clear e4
               try clear e5
               try clear e8
               try clear e9
               try clear fe
               try clear ff
               try clear fi
               try clear fj
               try clear bY
               try clear bZ
               try clear b0
               try clear b1
               try clear b6
               try clear b7
               try clear b8
               try clear b9
               try clear aQ
               try clear aH
               try clear bb
               try clear cL
               try clear cM
               try clear aT
               try clear bg
               try clear bh
               try clear bi
               try clear bj
               try clear bk
               try clear bl
               try clear bm
               try clear bn
               try clear p1
               try clear cz
               try clear aO
               try clear aF
               try clear a9
               try clear cJ
               try clear cR
               try clear p2
               try clear p6
               try clear q1
               try clear cA
               try clear aP
               try clear aG
               try clear ba
               try clear cK
               try clear cS
               obtain ⟨kq, dC, rfl, HA, dD, ab, af, HB⟩ := hcut
               cases kq with
               | zero => exact absurd HA.out (by simp [meddlerref8_Is.j4])
               | succ es =>
                have H := HA.out
                clear HA
                simp only [meddlerref8_Is.j4] at H
                by_cases cT : dC = true
                ·subst cT
                 have H1 : (some false) = some r := by rw [if_pos rfl] at H; exact H
                 clear H
                 have H := H1
                 clear H1
                 obtain rfl := Option.some.inj H
                 go_wp2
                 go_ret
                 exact ⟨by first | rfl | (simp [errW_none, errW_some] <;> rfl) | (simp [*, errW_none, errW_some] <;> rfl), by repeat (first | (with_reducible first | exact HB.out | apply f9 | apply ga | apply gb | refine gh ?_ an.out | refine gh ?_ aS.out) | exact HB.out)⟩
                ·replace cT := Bool.eq_false_iff.mpr cT
                 subst cT
                 have H1 : (meddlerref8_Is.l3 es aa (((rd_T49 l0_3 aa).f1).length : Int) 0 l0_0 l0_1 ae l0_3 ((rd_T49 l0_3 aa).f0) ((rd_T49 l0_3 aa).f1)) = some r := by rw [if_neg (show ¬ (false = true) by decide)] at H; exact H
                 clear H
                 have H := H1
                 clear H1
                 have H' := q39 H
                 clear H
                 go_wp2
                 go_loopg [8] es (fun kq v8 w' => ∃ (ac : Int), v8 = .int .i64 ac ∧ Aside0 (meddlerref8_Is.l3 kq aa (((rd_T49 l0_3 aa).f1).length : Int) ac l0_0 l0_1 ae l0_3 ((rd_T49 l0_3 aa).f0) ((rd_T49 l0_3 aa).f1) = some r) ∧ Aside0 (kq ≤ es) ∧ Aside0 (w'.heap[ad]? = some (.cells #[(.slice ah l0_0.length ai), (.slice aj l0_1.length ak), .int .i64 ae, (.slice (some aR) l0_3.length al)] 25 (0, 0))) ∧ Aside0 (w'.heap[ag]? = some (.cells #[.int .i64 ((rd_T49 l0_3 aa).f0), (.slice eP ((rd_T49 l0_3 aa).f1).length ay)] 49 (0, 0))) ∧ Aside0 (Below w.heap.size w w'))
                 case atStart => exact ⟨(0), (by first | rfl | (simp; done) | (simp [*]; done)), H', ⟨Nat.le_refl _⟩, ⟨by (with_reducible repeat (first | refine gc ?_ _ | refine ge ?_ | refine gd ?_ _)); exact ab.out⟩, ⟨by (with_reducible repeat (first | refine gc ?_ _ | refine ge ?_ | refine gd ?_ _)); exact af.out⟩, ⟨by repeat (first | (with_reducible first | exact HB.out | apply f9 | apply ga | apply gb | refine gh ?_ an.out | refine gh ?_ aS.out) | exact HB.out)⟩⟩
                 case round =>
                  clear H'
                  try clear c1
                  try clear p1
                  try clear q1
                  try clear dM
                  try clear c2
                  try clear p2
                  try clear c3
                  try clear c4
                  try clear aN
                  try clear bF
                  try clear c5
                  try clear c6
                  try clear bG
                  try clear bH
                  try clear p6
                  try clear c9
                  try clear aJ
                  try clear bI
                  try clear bJ
                  try clear ft
                  try clear cz
                  try clear cA
                  try clear dN
                  try clear bc
                  try clear a7
                  try clear cH
                  try clear bx
                  try clear c0
                  try clear bz
                  try clear bd
                  try clear dy
                  try clear bK
                  try clear dO
                  try clear be
                  try clear dz
                  try clear bf
                  try clear dB
                  try clear bB
                  try clear en
                  try clear cB
                  try clear eG
                  try clear fu
                  try clear cC
                  try clear bC
                  try clear bL
                  try clear ep
                  try clear fv
                  try clear bD
                  try clear eq
                  try clear er
                  try clear fw
                  try clear cD
                  try clear fa
                  try clear cE
                  try clear fb
                  try clear fx
                  try clear fy
                  try clear cT
                  try clear ca
                  try clear cb
                  try clear cc
                  try clear cd
                  try clear ci
                  try clear cj
                  try clear ck
                  try clear cl
                  try clear cq
                  try clear cr
                  try clear ct
                  try clear cu
                  try clear c7
                  try clear c8
                  try clear da
                  try clear db
                  try clear dg
                  try clear dh
                  try clear di
                  try clear dj
                  try clear dp
                  try clear dq
                  try clear dr
                  try clear dt
                  try clear dP
                  try clear dQ
                  try clear dR
                  try clear dS
                  try clear dX
                  try clear dY
                  try clear dZ
                  try clear d0
                  try clear d7
                  try clear d8
                  try clear d9
                  try clear ea
                  try clear ef
                  try clear eg
                  try clear eh
                  try clear ei
                  try clear eH
                  try clear eI
                  try clear eJ
                  try clear eK
                  try clear eX
                  try clear eY
                  try clear e2
                  try clear e3
                  try clear e6
                  try clear e7
                  try clear fc
                  try clear fd
                  try clear fg
                  try clear fh
                  try clear bU
                  try clear bV
                  try clear bW
                  try clear bX
                  try clear b2
                  try clear b3
                  try clear b4
                  try clear b5
                  try clear ce
                  try clear cf
                  try clear cg
                  try clear ch
                  try clear cm
                  try clear cn
                  try clear co
                  try clear cp
                  try clear cv
                  try clear cw
                  try clear cx
                  try clear cy
                  try clear dc
                  try clear dd
                  try clear de
                  try clear df
                  try clear dk
                  try clear dl
                  try clear dm
                  try clear dn
                  try clear du
                  try clear dv
                  try clear dw
                  try clear dx
                  try clear dT
                  try clear dU
                  try clear dV
                  try clear dW
                  try clear d1
                  try clear d2
                  try clear d3
                  try clear d4
                  try clear eb
                  try clear ec
                  try clear ed
                  try clear ee
                  try clear ej
                  try clear ek
                  try clear el
                  try clear em
                  try clear eL
                  try clear eM
                  try clear eN
                  try clear eO
                  try clear eZ
                  try clear e0
                  try clear e4
                  try clear e5
                  try clear e8
                  try clear e9
                  try clear fe
                  try clear ff
                  try clear fi
                  try clear fj
                  try clear bY
                  try clear bZ
                  try clear b0
                  try clear b1
                  try clear b6
                  try clear b7
                  try clear b8
                  try clear b9
                  try clear aQ
                  try clear aH
                  try clear bb
                  try clear cL
                  try clear cM
                  try clear aT
                  try clear bg
                  try clear bh
                  try clear bi
                  try clear bj
                  try clear bk
                  try clear bl
                  try clear bm
                  try clear bn
                  try clear p1
                  try clear cz
                  try clear aO
                  try clear aF
                  try clear a9
                  try clear cJ
                  try clear cR
                  try clear p2
                  try clear p6
                  try clear q1
                  try clear cA
                  try clear aP
                  try clear aG
                  try clear ba
                  try clear cK
                  try clear cS
                  obtain ⟨ac, rfl, HA, dE, ab, af, HB⟩ := hrel
                  cases gk with
                  | zero => exact absurd HA.out (by simp [meddlerref8_Is.l3])
                  | succ k6 =>
                   have H := HA.out
                   clear HA
                   simp only [meddlerref8_Is.l3] at H
                   by_cases cF : ac < (((rd_T49 l0_3 aa).f1).length : Int)
                   ·rw [if_pos cF] at H
                    have fz : decide (ac < (((rd_T49 l0_3 aa).f1).length : Int)) = true := decide_eq_true cF
                    clear cF
                    by_cases dF : 0 ≤ ac
                    ·rw [if_pos dF] at H
                     have fM : decide (0 ≤ ac) = true := decide_eq_true dF
                     clear dF
                     by_cases dG : ac < (((rd_T49 l0_3 aa).f1).length : Int)
                     ·rw [if_pos dG] at H
                      have fN : decide (ac < (((rd_T49 l0_3 aa).f1).length : Int)) = true := decide_eq_true dG
                      clear dG
                      replace H := Option.bind_eq_some_iff.mp H
                      obtain ⟨cX, fk, H⟩ := H
                      replace H : (if cX = true then (meddlerref8_Is.l3 k6 aa (((rd_T49 l0_3 aa).f1).length : Int) (wrap64 (ac + 1)) l0_0 l0_1 ae l0_3 ((rd_T49 l0_3 aa).f0) ((rd_T49 l0_3 aa).f1)) else (some false)) = some r := H
                      have fl := q39 fk
                      clear fk
                      by_cases dH : cX = true
                      ·subst dH
                       have H1 : (meddlerref8_Is.l3 k6 aa (((rd_T49 l0_3 aa).f1).length : Int) (wrap64 (ac + 1)) l0_0 l0_1 ae l0_3 ((rd_T49 l0_3 aa).f0) ((rd_T49 l0_3 aa).f1)) = some r := by rw [if_pos rfl] at H; exact H
                       clear H
                       have H := H1
                       clear H1
                       have H' := q39 H
                       clear H
                       try go_wp2
                       have av := q39 (ge ab.out)
                       have aw := q39 (ge af.out)
                       have ax := q39 (gb HB.out)
                       clear ab
                       clear af
                       clear HB
                       have ab := av
                       have af := aw
                       have HB := ax
                       clear av aw ax
                       have bM : 0 ≤ (ac : Int) := of_decide_eq_true (by first | (with_reducible assumption) | assumption)
                       have bN : ac < (((rd_T49 l0_3 aa).f1).length : Int) := of_decide_eq_true (by first | (with_reducible assumption) | assumption)
                       obtain ⟨ad130, et, aU, aV, aW, aX, aY, aZ, a4, a5, a6⟩ := at_T33 cN.out ac bM bN
                       have bo := a6
                       have bp := a5
                       have bq := a4
                       have br := aZ
                       have bs := aY
                       have bt := aX
                       have bu := aW
                       have bv := aV
                       have bw := aU
                       cases et
                       replace aU := (HB.out.cell (gm w _ aU)).trans aU
                       replace aV := (HB.out.cell (gm w _ aV)).trans aV
                       replace aW := (HB.out.cell (gm w _ aW)).trans aW
                       replace aX := (HB.out.cell (gm w _ aX)).trans aX
                       replace aY := (HB.out.cell (gm w _ aY)).trans aY
                       replace aZ := (HB.out.cell (gm w _ aZ)).trans aZ
                       replace a4 := (HB.out.cell (gm w _ a4)).trans a4
                       replace a5 := (HB.out.cell (gm w _ a5)).trans a5
                       replace a6 := (HB.out.cell (gm w _ a6)).trans a6
                       replace bM := eq_true bM
                       replace bN := eq_true bN
                       refine start_ (n := 9) (S := fun w' => w'.cell? ⟨ad, 0, none⟩ = some (.slice ah l0_0.length ai) ∧ w'.cell? ⟨ad, 1, none⟩ = some (.slice aj l0_1.length ak) ∧ w'.cell? ⟨ad, 2, none⟩ = some (.int .i64 ae) ∧ w'.cell? ⟨ad, 3, none⟩ = some (.slice (some aR) l0_3.length al) ∧ w'.cell? ⟨ag, 0, none⟩ = some (.int .i64 ((rd_T49 l0_3 aa).f0)) ∧ w'.cell? ⟨ag, 1, none⟩ = some (.slice (some ad130) ((rd_T49 l0_3 aa).f1).length ay) ∧ w'.cell? (ad130.add ((ac).toNat * 9)) = some (.int .i64 ((rd_T33 ((rd_T49 l0_3 aa).f1) ac).f0)) ∧ w'.cell? ⟨(ad130.add ((ac).toNat * 9)).block, (ad130.add ((ac).toNat * 9)).off + 1, none⟩ = some (.int .i64 ((rd_T33 ((rd_T49 l0_3 aa).f1) ac).f1)) ∧ w'.cell? ⟨(ad130.add ((ac).toNat * 9)).block, (ad130.add ((ac).toNat * 9)).off + 2, none⟩ = some (.int .i64 ((rd_T33 ((rd_T49 l0_3 aa).f1) ac).f2)) ∧ w'.cell? ⟨(ad130.add ((ac).toNat * 9)).block, (ad130.add ((ac).toNat * 9)).off + 3, none⟩ = some (.int .i64 ((rd_T33 ((rd_T49 l0_3 aa).f1) ac).f3)) ∧ w'.cell? ⟨(ad130.add ((ac).toNat * 9)).block, (ad130.add ((ac).toNat * 9)).off + 4, none⟩ = some (.int .i64 ((rd_T33 ((rd_T49 l0_3 aa).f1) ac).f4)) ∧ w'.cell? ⟨(ad130.add ((ac).toNat * 9)).block, (ad130.add ((ac).toNat * 9)).off + 5, none⟩ = some (.int .i64 ((rd_T33 ((rd_T49 l0_3 aa).f1) ac).f5)) ∧ w'.cell? ⟨(ad130.add ((ac).toNat * 9)).block, (ad130.add ((ac).toNat * 9)).off + 6, none⟩ = some (.int .i64 ((rd_T33 ((rd_T49 l0_3 aa).f1) ac).f6)) ∧ w'.cell? ⟨(ad130.add ((ac).toNat * 9)).block, (ad130.add ((ac).toNat * 9)).off + 7, none⟩ = some (.int .i64 ((rd_T33 ((rd_T49 l0_3 aa).f1) ac).f7)) ∧ w'.cell? ⟨(ad130.add ((ac).toNat * 9)).block, (ad130.add ((ac).toNat * 9)).off + 8, none⟩ = some (.int .i64 ((rd_T33 ((rd_T49 l0_3 aa).f1) ac).f8))) (ds := []) #[false, false, false, false, false, false, false, false, false] (by kernel_rfl) rfl rfl ⟨(gf ab.out 0).trans rfl, (gf ab.out 1).trans rfl, (gf ab.out 2).trans rfl, (gf ab.out 3).trans rfl, (gf af.out 0).trans rfl, (gf af.out 1).trans rfl, ((HB.out.cell (gm w _ bw)).trans bw), ((HB.out.cell (gm w _ bv)).trans bv), ((HB.out.cell (gm w _ bu)).trans bu), ((HB.out.cell (gm w _ bt)).trans bt), ((HB.out.cell (gm w _ bs)).trans bs), ((HB.out.cell (gm w _ br)).trans br), ((HB.out.cell (gm w _ bq)).trans bq), ((HB.out.cell (gm w _ bp)).trans bp), ((HB.out.cell (gm w _ bo)).trans bo)⟩ (fun hHeld => ?_); refine with_tabW meddlerref8_Is.tab23 meddlerref8_Is.bits23 (fun HT_ HW_ => ?_)
                       generalize wr.drew = fO at ab af HB aU aV aW aX aY aZ a4 a5 a6 hHeld ⊢
                       refine pure_ (i := 2) (N := some 116) (v := ?_) (a' := ?_) #[false, false, true, false, false, false, false, false, false] rfl rfl (any_of HT_.out (by kernel_rfl)) (fun _ _ _ h => h) (Or.inl ⟨by rfl, ?_⟩) ?_ ?_
                       rotate_left
                       ·intro w'
                        go_simp
                        with_reducible rfl
                       rotate_left
                       ·simp only [Act.put, gi, gj, gl, i64_w, i32_w]
                        rfl
                       refine pure_ (i := 4) (N := some 118) (v := ?_) (a' := ?_) #[false, false, true, false, true, false, false, false, false] rfl rfl (any_of HT_.out (by kernel_rfl)) (fun _ _ _ h => h) (Or.inl ⟨by rfl, ?_⟩) ?_ ?_
                       rotate_left
                       ·intro w'
                        go_simp
                        with_reducible rfl
                       rotate_left
                       ·simp only [Act.put, gi, gj, gl, i64_w, i32_w]
                        rfl
                       refine take_ (i := 0) (N := some 114) (v := ?_) (a' := ?_) #[true, false, true, false, true, false, false, false, false] rfl rfl (take_ofW HT_.out HW_.out (by kernel_rfl)) (fun _ _ _ h => h) (Or.inl ⟨by rfl, ?_⟩) hHeld ?_ ?_
                       rotate_left
                       ·rintro w' ⟨s0, s1, s2, s3, s4, s5, s6, s7, s8, s9, bO, bP, bQ, bR, bS⟩
                        go_simp
                        with_reducible rfl
                       rotate_left
                       ·simp only [Act.put, gi, gj, gl, i64_w, i32_w]
                        rfl
                       refine take_ (i := 1) (N := some 115) (v := ?_) (a' := ?_) #[true, true, true, false, true, false, false, false, false] rfl rfl (take_ofW HT_.out HW_.out (by kernel_rfl)) (fun _ _ _ h => h) (Or.inl ⟨by rfl, ?_⟩) hHeld ?_ ?_
                       rotate_left
                       ·rintro w' ⟨s0, s1, s2, s3, s4, s5, s6, s7, s8, s9, bO, bP, bQ, bR, bS⟩
                        go_simp
                        with_reducible rfl
                       rotate_left
                       ·simp only [Act.put, gi, gj, gl, i64_w, i32_w]
                        rfl
                       refine take_ (i := 3) (N := some 117) (v := ?_) (a' := ?_) #[true, true, true, true, true, false, false, false, false] rfl rfl (take_ofW HT_.out HW_.out (by kernel_rfl)) (fun _ _ _ h => h) (Or.inl ⟨by rfl, ?_⟩) hHeld ?_ ?_
                       rotate_left
                       ·rintro w' ⟨s0, s1, s2, s3, s4, s5, s6, s7, s8, s9, bO, bP, bQ, bR, bS⟩
                        go_simp
                        with_reducible rfl
                       rotate_left
                       ·simp only [Act.put, gi, gj, gl, i64_w, i32_w]
                        rfl
                       refine pure_ (i := 5) (N := some 119) (v := ?_) (a' := ?_) #[true, true, true, true, true, true, false, false, false] rfl rfl (any_of HT_.out (by kernel_rfl)) (fun _ _ _ h => h) (Or.inl ⟨by rfl, ?_⟩) ?_ ?_
                       rotate_left
                       ·intro w'
                        go_simp
                        with_reducible rfl
                       rotate_left
                       ·simp only [Act.put, gi, gj, gl, i64_w, i32_w]
                        rfl
                       refine take_ (i := 6) (N := some 120) (v := ?_) (a' := ?_) #[true, true, true, true, true, true, true, false, false] rfl rfl (take_ofW HT_.out HW_.out (by kernel_rfl)) (fun _ _ _ h => h) (Or.inl ⟨by rfl, ?_⟩) hHeld ?_ ?_
                       rotate_left
                       ·rintro w' ⟨s0, s1, s2, s3, s4, s5, s6, s7, s8, s9, bO, bP, bQ, bR, bS⟩
                        go_simp
                        with_reducible rfl
                       rotate_left
                       ·simp only [Act.put, gi, gj, gl, i64_w, i32_w]
                        rfl
                       refine one_ (i := 7) (N := some 121) #[true, true, true, true, true, true, true, true, false] rfl rfl (one_of HT_.out (by kernel_rfl)) (by decide) (fun K hK => ?_)
                       refine goes_ Try.func54 (by kernel_rfl) rfl #[.agg #[.slice ah l0_0.length ai, .slice aj l0_1.length ak, .int .i64 ae, .slice (some aR) l0_3.length al], .agg #[.int .i64 ((rd_T49 l0_3 aa).f0), .slice (some ad130) ((rd_T49 l0_3 aa).f1).length ay], .agg #[.int .i64 ((rd_T33 ((rd_T49 l0_3 aa).f1) ac).f0), .int .i64 ((rd_T33 ((rd_T49 l0_3 aa).f1) ac).f1), .int .i64 ((rd_T33 ((rd_T49 l0_3 aa).f1) ac).f2), .int .i64 ((rd_T33 ((rd_T49 l0_3 aa).f1) ac).f3), .int .i64 ((rd_T33 ((rd_T49 l0_3 aa).f1) ac).f4), .int .i64 ((rd_T33 ((rd_T49 l0_3 aa).f1) ac).f5), .int .i64 ((rd_T33 ((rd_T49 l0_3 aa).f1) ac).f6), .int .i64 ((rd_T33 ((rd_T49 l0_3 aa).f1) ac).f7), .int .i64 ((rd_T33 ((rd_T49 l0_3 aa).f1) ac).f8)]] (by rfl) rfl rfl (by (try simp only [List.map_toArray, List.map_cons, List.map_nil]); first | done | rfl | (simp only [List.length_drop, List.length_take]; rfl)) ?_
                       with_reducible refine (meddlerref8_act.calls k6 _ _ l0_0 _ _ l0_1 ae _ _ l0_3 ((rd_T49 l0_3 aa).f0) _ _ ((rd_T49 l0_3 aa).f1) ((rd_T33 ((rd_T49 l0_3 aa).f1) ac).f0) ((rd_T33 ((rd_T49 l0_3 aa).f1) ac).f1) ((rd_T33 ((rd_T49 l0_3 aa).f1) ac).f2) ((rd_T33 ((rd_T49 l0_3 aa).f1) ac).f3) ((rd_T33 ((rd_T49 l0_3 aa).f1) ac).f4) ((rd_T33 ((rd_T49 l0_3 aa).f1) ac).f5) ((rd_T33 ((rd_T49 l0_3 aa).f1) ac).f6) ((rd_T33 ((rd_T49 l0_3 aa).f1) ac).f7) ((rd_T33 ((rd_T49 l0_3 aa).f1) ac).f8) true _ ?side1 ?side2 ?side3 ?side4 ?side5 ?side6 ?side7 ?side8 fl.out).mono ?_
                       (case side1 => repeat (first | exact (Kd.C_below cY.out HB.out) | (with_reducible refine Kd.C_alloc ?_ _) | (with_reducible refine Kd.C_drewN ?_ _) | (with_reducible refine Kd.C_drew ?_)))
                       (case side2 => exact eA.out)
                       (case side3 => repeat (first | exact (Kd.C_below bE.out HB.out) | (with_reducible refine Kd.C_alloc ?_ _) | (with_reducible refine Kd.C_drewN ?_ _) | (with_reducible refine Kd.C_drew ?_)))
                       (case side4 => exact eB.out)
                       (case side5 => repeat (first | exact (Kd.C_below dI.out HB.out) | (with_reducible refine Kd.C_alloc ?_ _) | (with_reducible refine Kd.C_drewN ?_ _) | (with_reducible refine Kd.C_drew ?_)))
                       (case side6 => exact eC.out)
                       (case side7 => repeat (first | exact (Kd.C_below cN.out HB.out) | (with_reducible refine Kd.C_alloc ?_ _) | (with_reducible refine Kd.C_drewN ?_ _) | (with_reducible refine Kd.C_drew ?_)))
                       (case side8 => exact eS.out)
                       rintro e fP ⟨rfl, hb⟩
                       refine ⟨_, rfl, ?_⟩
                       have av := q39 (blk_below (g := ad) (o := .cells #[.slice ah l0_0.length ai, .slice aj l0_1.length ak, .int .i64 ae, .slice (some aR) l0_3.length al] 25 (0, 0)) (by (with_reducible repeat (first | refine gc ?_ _ | refine ge ?_ | refine gd ?_ _)); exact ab.out) hb)
                       have aw := q39 (blk_below (g := ag) (o := .cells #[.int .i64 ((rd_T49 l0_3 aa).f0), .slice (some ad130) ((rd_T49 l0_3 aa).f1).length ay] 49 (0, 0)) (by (with_reducible repeat (first | refine gc ?_ _ | refine ge ?_ | refine gd ?_ _)); exact af.out) hb)
                       have ax := q39 (below_step (by repeat (first | (with_reducible first | exact HB.out | apply f9 | apply ga | apply gb | refine gh ?_ an.out | refine gh ?_ aS.out) | exact HB.out)) hb)
                       clear ab
                       clear af
                       clear HB
                       have ab := av
                       have af := aw
                       have HB := ax
                       clear av aw ax
                       (try clear hb)
                       (try clear fA)
                       (try clear hk)
                       (try clear hi)
                       refine hK.out _ _ ⟨(gf ab.out 0).trans rfl, (gf ab.out 1).trans rfl, (gf ab.out 2).trans rfl, (gf ab.out 3).trans rfl, (gf af.out 0).trans rfl, (gf af.out 1).trans rfl, ((HB.out.cell (gm w _ bw)).trans bw), ((HB.out.cell (gm w _ bv)).trans bv), ((HB.out.cell (gm w _ bu)).trans bu), ((HB.out.cell (gm w _ bt)).trans bt), ((HB.out.cell (gm w _ bs)).trans bs), ((HB.out.cell (gm w _ br)).trans br), ((HB.out.cell (gm w _ bq)).trans bq), ((HB.out.cell (gm w _ bp)).trans bp), ((HB.out.cell (gm w _ bo)).trans bo)⟩ (fun hHeld => ?_)
                       clear hK K
                       refine norm_ (a' := ?_) ?_ ?_
                       rotate_left
                       ·show Act.put _ (some 121) _ = _
                        simp only [Act.put, gi, gj, gl, i64_w, i32_w]
                        rfl
                       refine pure_ (i := 8) (N := some 122) (v := ?_) (a' := ?_) #[true, true, true, true, true, true, true, true, true] rfl rfl (any_of HT_.out (by kernel_rfl)) (fun _ _ _ h => h) (Or.inl ⟨by rfl, ?_⟩) ?_ ?_
                       rotate_left
                       ·intro w'
                        go_simp
                        with_reducible rfl
                       rotate_left
                       ·simp only [Act.put, gi, gj, gl, i64_w, i32_w]
                        rfl
                       refine done_ (done_of HT_.out (by kernel_rfl)) ?_
                       try go_wp2
                       go_roundg k6
                       case measure => have := aK.out; have := aL.out; have := a8.out; have := bA.out; have := dD.out; have := dE.out; omega
                       case rel => exact ⟨(wrap64 (ac + 1)), (by first | rfl | (simp; done) | (simp [*]; done)), H', ⟨by have := aK.out; have := aL.out; have := a8.out; have := bA.out; have := dD.out; have := dE.out; omega⟩, ⟨by (with_reducible repeat (first | refine gc ?_ _ | refine ge ?_ | refine gd ?_ _)); exact ab.out⟩, ⟨by (with_reducible repeat (first | refine gc ?_ _ | refine ge ?_ | refine gd ?_ _)); exact af.out⟩, ⟨by repeat (first | (with_reducible first | exact HB.out | apply f9 | apply ga | apply gb | refine gh ?_ an.out | refine gh ?_ aS.out) | exact HB.out)⟩⟩
                      ·replace dH := Bool.eq_false_iff.mpr dH
                       subst dH
                       have H1 : (some false) = some r := by rw [if_neg (show ¬ (false = true) by decide)] at H; exact H
                       clear H
                       have H := H1
                       clear H1
                       obtain rfl := Option.some.inj H
                       try go_wp2
                       have av := q39 (ge ab.out)
                       have aw := q39 (ge af.out)
                       have ax := q39 (gb HB.out)
                       clear ab
                       clear af
                       clear HB
                       have ab := av
                       have af := aw
                       have HB := ax
                       clear av aw ax
                       have bM : 0 ≤ (ac : Int) := of_decide_eq_true (by first | (with_reducible assumption) | assumption)
                       have bN : ac < (((rd_T49 l0_3 aa).f1).length : Int) := of_decide_eq_true (by first | (with_reducible assumption) | assumption)
                       obtain ⟨ad130, et, aU, aV, aW, aX, aY, aZ, a4, a5, a6⟩ := at_T33 cN.out ac bM bN
                       have bo := a6
                       have bp := a5
                       have bq := a4
                       have br := aZ
                       have bs := aY
                       have bt := aX
                       have bu := aW
                       have bv := aV
                       have bw := aU
                       cases et
                       replace aU := (HB.out.cell (gm w _ aU)).trans aU
                       replace aV := (HB.out.cell (gm w _ aV)).trans aV
                       replace aW := (HB.out.cell (gm w _ aW)).trans aW
                       replace aX := (HB.out.cell (gm w _ aX)).trans aX
                       replace aY := (HB.out.cell (gm w _ aY)).trans aY
                       replace aZ := (HB.out.cell (gm w _ aZ)).trans aZ
                       replace a4 := (HB.out.cell (gm w _ a4)).trans a4
                       replace a5 := (HB.out.cell (gm w _ a5)).trans a5
                       replace a6 := (HB.out.cell (gm w _ a6)).trans a6
                       replace bM := eq_true bM
                       replace bN := eq_true bN
                       refine start_ (n := 9) (S := fun w' => w'.cell? ⟨ad, 0, none⟩ = some (.slice ah l0_0.length ai) ∧ w'.cell? ⟨ad, 1, none⟩ = some (.slice aj l0_1.length ak) ∧ w'.cell? ⟨ad, 2, none⟩ = some (.int .i64 ae) ∧ w'.cell? ⟨ad, 3, none⟩ = some (.slice (some aR) l0_3.length al) ∧ w'.cell? ⟨ag, 0, none⟩ = some (.int .i64 ((rd_T49 l0_3 aa).f0)) ∧ w'.cell? ⟨ag, 1, none⟩ = some (.slice (some ad130) ((rd_T49 l0_3 aa).f1).length ay) ∧ w'.cell? (ad130.add ((ac).toNat * 9)) = some (.int .i64 ((rd_T33 ((rd_T49 l0_3 aa).f1) ac).f0)) ∧ w'.cell? ⟨(ad130.add ((ac).toNat * 9)).block, (ad130.add ((ac).toNat * 9)).off + 1, none⟩ = some (.int .i64 ((rd_T33 ((rd_T49 l0_3 aa).f1) ac).f1)) ∧ w'.cell? ⟨(ad130.add ((ac).toNat * 9)).block, (ad130.add ((ac).toNat * 9)).off + 2, none⟩ = some (.int .i64 ((rd_T33 ((rd_T49 l0_3 aa).f1) ac).f2)) ∧ w'.cell? ⟨(ad130.add ((ac).toNat * 9)).block, (ad130.add ((ac).toNat * 9)).off + 3, none⟩ = some (.int .i64 ((rd_T33 ((rd_T49 l0_3 aa).f1) ac).f3)) ∧ w'.cell? ⟨(ad130.add ((ac).toNat * 9)).block, (ad130.add ((ac).toNat * 9)).off + 4, none⟩ = some (.int .i64 ((rd_T33 ((rd_T49 l0_3 aa).f1) ac).f4)) ∧ w'.cell? ⟨(ad130.add ((ac).toNat * 9)).block, (ad130.add ((ac).toNat * 9)).off + 5, none⟩ = some (.int .i64 ((rd_T33 ((rd_T49 l0_3 aa).f1) ac).f5)) ∧ w'.cell? ⟨(ad130.add ((ac).toNat * 9)).block, (ad130.add ((ac).toNat * 9)).off + 6, none⟩ = some (.int .i64 ((rd_T33 ((rd_T49 l0_3 aa).f1) ac).f6)) ∧ w'.cell? ⟨(ad130.add ((ac).toNat * 9)).block, (ad130.add ((ac).toNat * 9)).off + 7, none⟩ = some (.int .i64 ((rd_T33 ((rd_T49 l0_3 aa).f1) ac).f7)) ∧ w'.cell? ⟨(ad130.add ((ac).toNat * 9)).block, (ad130.add ((ac).toNat * 9)).off + 8, none⟩ = some (.int .i64 ((rd_T33 ((rd_T49 l0_3 aa).f1) ac).f8))) (ds := []) #[false, false, false, false, false, false, false, false, false] (by kernel_rfl) rfl rfl ⟨(gf ab.out 0).trans rfl, (gf ab.out 1).trans rfl, (gf ab.out 2).trans rfl, (gf ab.out 3).trans rfl, (gf af.out 0).trans rfl, (gf af.out 1).trans rfl, ((HB.out.cell (gm w _ bw)).trans bw), ((HB.out.cell (gm w _ bv)).trans bv), ((HB.out.cell (gm w _ bu)).trans bu), ((HB.out.cell (gm w _ bt)).trans bt), ((HB.out.cell (gm w _ bs)).trans bs), ((HB.out.cell (gm w _ br)).trans br), ((HB.out.cell (gm w _ bq)).trans bq), ((HB.out.cell (gm w _ bp)).trans bp), ((HB.out.cell (gm w _ bo)).trans bo)⟩ (fun hHeld => ?_); refine with_tabW meddlerref8_Is.tab23 meddlerref8_Is.bits23 (fun HT_ HW_ => ?_)
                       generalize wr.drew = fQ at ab af HB aU aV aW aX aY aZ a4 a5 a6 hHeld ⊢
                       refine pure_ (i := 2) (N := some 116) (v := ?_) (a' := ?_) #[false, false, true, false, false, false, false, false, false] rfl rfl (any_of HT_.out (by kernel_rfl)) (fun _ _ _ h => h) (Or.inl ⟨by rfl, ?_⟩) ?_ ?_
                       rotate_left
                       ·intro w'
                        go_simp
                        with_reducible rfl
                       rotate_left
                       ·simp only [Act.put, gi, gj, gl, i64_w, i32_w]
                        rfl
                       refine pure_ (i := 4) (N := some 118) (v := ?_) (a' := ?_) #[false, false, true, false, true, false, false, false, false] rfl rfl (any_of HT_.out (by kernel_rfl)) (fun _ _ _ h => h) (Or.inl ⟨by rfl, ?_⟩) ?_ ?_
                       rotate_left
                       ·intro w'
                        go_simp
                        with_reducible rfl
                       rotate_left
                       ·simp only [Act.put, gi, gj, gl, i64_w, i32_w]
                        rfl
                       refine take_ (i := 0) (N := some 114) (v := ?_) (a' := ?_) #[true, false, true, false, true, false, false, false, false] rfl rfl (take_ofW HT_.out HW_.out (by kernel_rfl)) (fun _ _ _ h => h) (Or.inl ⟨by rfl, ?_⟩) hHeld ?_ ?_
                       rotate_left
                       ·rintro w' ⟨s0, s1, s2, s3, s4, s5, s6, s7, s8, s9, bO, bP, bQ, bR, bS⟩
                        go_simp
                        with_reducible rfl
                       rotate_left
                       ·simp only [Act.put, gi, gj, gl, i64_w, i32_w]
                        rfl
                       refine take_ (i := 1) (N := some 115) (v := ?_) (a' := ?_) #[true, true, true, false, true, false, false, false, false] rfl rfl (take_ofW HT_.out HW_.out (by kernel_rfl)) (fun _ _ _ h => h) (Or.inl ⟨by rfl, ?_⟩) hHeld ?_ ?_
                       rotate_left
                       ·rintro w' ⟨s0, s1, s2, s3, s4, s5, s6, s7, s8, s9, bO, bP, bQ, bR, bS⟩
                        go_simp
                        with_reducible rfl
                       rotate_left
                       ·simp only [Act.put, gi, gj, gl, i64_w, i32_w]
                        rfl
                       refine take_ (i := 3) (N := some 117) (v := ?_) (a' := ?_) #[true, true, true, true, true, false, false, false, false] rfl rfl (take_ofW HT_.out HW_.out (by kernel_rfl)) (fun _ _ _ h => h) (Or.inl ⟨by rfl, ?_⟩) hHeld ?_ ?_
                       rotate_left
                       ·rintro w' ⟨s0, s1, s2, s3, s4, s5, s6, s7, s8, s9, bO, bP, bQ, bR, bS⟩
                        go_simp
                        with_reducible rfl
                       rotate_left
                       ·simp only [Act.put, gi, gj, gl, i64_w, i32_w]
                        rfl
                       refine pure_ (i := 5) (N := some 119) (v := ?_) (a' := ?_) #[true, true, true, true, true, true, false, false, false] rfl rfl (any_of HT_.out (by kernel_rfl)) (fun _ _ _ h => h) (Or.inl ⟨by rfl, ?_⟩) ?_ ?_
                       rotate_left
                       ·intro w'
                        go_simp
                        with_reducible rfl
                       rotate_left
                       ·simp only [Act.put, gi, gj, gl, i64_w, i32_w]
                        rfl
                       refine take_ (i := 6) (N := some 120) (v := ?_) (a' := ?_) #[true, true, true, true, true, true, true, false, false] rfl rfl (take_ofW HT_.out HW_.out (by kernel_rfl)) (fun _ _ _ h => h) (Or.inl ⟨by rfl, ?_⟩) hHeld ?_ ?_
                       rotate_left
                       ·rintro w' ⟨s0, s1, s2, s3, s4, s5, s6, s7, s8, s9, bO, bP, bQ, bR, bS⟩
                        go_simp
                        with_reducible rfl
                       rotate_left
                       ·simp only [Act.put, gi, gj, gl, i64_w, i32_w]
                        rfl
                       refine one_ (i := 7) (N := some 121) #[true, true, true, true, true, true, true, true, false] rfl rfl (one_of HT_.out (by kernel_rfl)) (by decide) (fun K hK => ?_)
                       refine goes_ Try.func54 (by kernel_rfl) rfl #[.agg #[.slice ah l0_0.length ai, .slice aj l0_1.length ak, .int .i64 ae, .slice (some aR) l0_3.length al], .agg #[.int .i64 ((rd_T49 l0_3 aa).f0), .slice (some ad130) ((rd_T49 l0_3 aa).f1).length ay], .agg #[.int .i64 ((rd_T33 ((rd_T49 l0_3 aa).f1) ac).f0), .int .i64 ((rd_T33 ((rd_T49 l0_3 aa).f1) ac).f1), .int .i64 ((rd_T33 ((rd_T49 l0_3 aa).f1) ac).f2), .int .i64 ((rd_T33 ((rd_T49 l0_3 aa).f1) ac).f3), .int .i64 ((rd_T33 ((rd_T49 l0_3 aa).f1) ac).f4), .int .i64 ((rd_T33 ((rd_T49 l0_3 aa).f1) ac).f5), .int .i64 ((rd_T33 ((rd_T49 l0_3 aa).f1) ac).f6), .int .i64 ((rd_T33 ((rd_T49 l0_3 aa).f1) ac).f7), .int .i64 ((rd_T33 ((rd_T49 l0_3 aa).f1) ac).f8)]] (by rfl) rfl rfl (by (try simp only [List.map_toArray, List.map_cons, List.map_nil]); first | done | rfl | (simp only [List.length_drop, List.length_take]; rfl)) ?_
                       with_reducible refine (meddlerref8_act.calls k6 _ _ l0_0 _ _ l0_1 ae _ _ l0_3 ((rd_T49 l0_3 aa).f0) _ _ ((rd_T49 l0_3 aa).f1) ((rd_T33 ((rd_T49 l0_3 aa).f1) ac).f0) ((rd_T33 ((rd_T49 l0_3 aa).f1) ac).f1) ((rd_T33 ((rd_T49 l0_3 aa).f1) ac).f2) ((rd_T33 ((rd_T49 l0_3 aa).f1) ac).f3) ((rd_T33 ((rd_T49 l0_3 aa).f1) ac).f4) ((rd_T33 ((rd_T49 l0_3 aa).f1) ac).f5) ((rd_T33 ((rd_T49 l0_3 aa).f1) ac).f6) ((rd_T33 ((rd_T49 l0_3 aa).f1) ac).f7) ((rd_T33 ((rd_T49 l0_3 aa).f1) ac).f8) false _ ?side1 ?side2 ?side3 ?side4 ?side5 ?side6 ?side7 ?side8 fl.out).mono ?_
                       (case side1 => repeat (first | exact (Kd.C_below cY.out HB.out) | (with_reducible refine Kd.C_alloc ?_ _) | (with_reducible refine Kd.C_drewN ?_ _) | (with_reducible refine Kd.C_drew ?_)))
                       (case side2 => exact eA.out)
                       (case side3 => repeat (first | exact (Kd.C_below bE.out HB.out) | (with_reducible refine Kd.C_alloc ?_ _) | (with_reducible refine Kd.C_drewN ?_ _) | (with_reducible refine Kd.C_drew ?_)))
                       (case side4 => exact eB.out)
                       (case side5 => repeat (first | exact (Kd.C_below dI.out HB.out) | (with_reducible refine Kd.C_alloc ?_ _) | (with_reducible refine Kd.C_drewN ?_ _) | (with_reducible refine Kd.C_drew ?_)))
                       (case side6 => exact eC.out)
                       (case side7 => repeat (first | exact (Kd.C_below cN.out HB.out) | (with_reducible refine Kd.C_alloc ?_ _) | (with_reducible refine Kd.C_drewN ?_ _) | (with_reducible refine Kd.C_drew ?_)))
                       (case side8 => exact eS.out)
                       rintro e fR ⟨rfl, hb⟩
                       refine ⟨_, rfl, ?_⟩
                       have av := q39 (blk_below (g := ad) (o := .cells #[.slice ah l0_0.length ai, .slice aj l0_1.length ak, .int .i64 ae, .slice (some aR) l0_3.length al] 25 (0, 0)) (by (with_reducible repeat (first | refine gc ?_ _ | refine ge ?_ | refine gd ?_ _)); exact ab.out) hb)
                       have aw := q39 (blk_below (g := ag) (o := .cells #[.int .i64 ((rd_T49 l0_3 aa).f0), .slice (some ad130) ((rd_T49 l0_3 aa).f1).length ay] 49 (0, 0)) (by (with_reducible repeat (first | refine gc ?_ _ | refine ge ?_ | refine gd ?_ _)); exact af.out) hb)
                       have ax := q39 (below_step (by repeat (first | (with_reducible first | exact HB.out | apply f9 | apply ga | apply gb | refine gh ?_ an.out | refine gh ?_ aS.out) | exact HB.out)) hb)
                       clear ab
                       clear af
                       clear HB
                       have ab := av
                       have af := aw
                       have HB := ax
                       clear av aw ax
                       (try clear hb)
                       (try clear fA)
                       (try clear hk)
                       (try clear hi)
                       refine hK.out _ _ ⟨(gf ab.out 0).trans rfl, (gf ab.out 1).trans rfl, (gf ab.out 2).trans rfl, (gf ab.out 3).trans rfl, (gf af.out 0).trans rfl, (gf af.out 1).trans rfl, ((HB.out.cell (gm w _ bw)).trans bw), ((HB.out.cell (gm w _ bv)).trans bv), ((HB.out.cell (gm w _ bu)).trans bu), ((HB.out.cell (gm w _ bt)).trans bt), ((HB.out.cell (gm w _ bs)).trans bs), ((HB.out.cell (gm w _ br)).trans br), ((HB.out.cell (gm w _ bq)).trans bq), ((HB.out.cell (gm w _ bp)).trans bp), ((HB.out.cell (gm w _ bo)).trans bo)⟩ (fun hHeld => ?_)
                       clear hK K
                       refine norm_ (a' := ?_) ?_ ?_
                       rotate_left
                       ·show Act.put _ (some 121) _ = _
                        simp only [Act.put, gi, gj, gl, i64_w, i32_w]
                        rfl
                       refine pure_ (i := 8) (N := some 122) (v := ?_) (a' := ?_) #[true, true, true, true, true, true, true, true, true] rfl rfl (any_of HT_.out (by kernel_rfl)) (fun _ _ _ h => h) (Or.inl ⟨by rfl, ?_⟩) ?_ ?_
                       rotate_left
                       ·intro w'
                        go_simp
                        with_reducible rfl
                       rotate_left
                       ·simp only [Act.put, gi, gj, gl, i64_w, i32_w]
                        rfl
                       refine done_ (done_of HT_.out (by kernel_rfl)) ?_
                       try go_wp2
                       go_ret
                       exact ⟨by first | rfl | (simp [errW_none, errW_some] <;> rfl) | (simp [*, errW_none, errW_some] <;> rfl), by repeat (first | (with_reducible first | exact HB.out | apply f9 | apply ga | apply gb | refine gh ?_ an.out | refine gh ?_ aS.out) | exact HB.out)⟩
                     ·rw [if_neg dG] at H
                      exact absurd H (by simp)
                    ·rw [if_neg dF] at H
                     exact absurd H (by simp)
                   ·rw [if_neg cF] at H
                    have fz : decide (ac < (((rd_T49 l0_3 aa).f1).length : Int)) = false := decide_eq_false cF
                    clear cF
                    have H' := q39 H
                    clear H
                    go_wp2
                    go_roundg k6
                    case measure => have := aK.out; have := aL.out; have := a8.out; have := bA.out; have := dD.out; have := dE.out; omega
                    case rel => exact ⟨(wrap64 (aa + 1)), (by first | rfl | (simp; done) | (simp [*]; done)), H', ⟨by have := aK.out; have := aL.out; have := a8.out; have := bA.out; have := dD.out; have := dE.out; omega⟩, ⟨by (with_reducible repeat (first | refine gc ?_ _ | refine ge ?_ | refine gd ?_ _)); exact ab.out⟩, ⟨by repeat (first | (with_reducible first | exact HB.out | apply f9 | apply ga | apply gb | refine gh ?_ an.out | refine gh ?_ aS.out) | exact HB.out)⟩⟩
             ·rw [if_neg cB] at H
              exact absurd H (by simp)
            ·rw [if_neg bB] at H
             have en : decide (aa < (l0_3.length : Int)) = false := decide_eq_false bB
             clear bB
             obtain rfl := Option.some.inj H
             have fS : wr.cell? ⟨ad, 0, none⟩ = some (.slice ah l0_0.length ai) := (gf ab.out 0).trans rfl
             have fT : wr.cell? ⟨ad, 1, none⟩ = some (.slice aj l0_1.length ak) := (gf ab.out 1).trans rfl
             have fU : wr.cell? ⟨ad, 2, none⟩ = some (.int .i64 ae) := (gf ab.out 2).trans rfl
             have fV : wr.cell? ⟨ad, 3, none⟩ = some (.slice aq l0_3.length al) := (gf ab.out 3).trans rfl
             have fW := gg ab.out 0
             have fX := gg ab.out 1
             have fY := gg ab.out 2
             have fZ := gg ab.out 3
             go_wp2
             go_ret
             exact ⟨by first | rfl | (simp [errW_none, errW_some] <;> rfl) | (simp [*, errW_none, errW_some] <;> rfl), by repeat (first | (with_reducible first | exact HB.out | apply f9 | apply ga | apply gb | refine gh ?_ an.out) | exact HB.out)⟩
end Go.Proofs.Ytikjamcemnbhbaa.Mr
