/- An own text of this seat: Lean functions with the answers of Go functions, and that the Go code comes to them. Written by a program of this session out of the translation. -/
import Derived.Test.YtfeaekdhpkdljaaDoorShx0
import Derived.Test.YtfeaekdhpkdljaaDoorShF27
namespace Go.Proofs.YtfeaekdhpkdljaaDoor.Sh
open Go.RowKit Go.Proofs.YtfeaekdhpkdljaaDoorW.PrintWords Go.Proofs.YtfeaekdhpkdljaaDoorW.PrintLast Go.Proofs.YtfeaekdhpkdljaaDoorW.PrintMore
attribute [local go_sem] max2_int min2_int max_two min_two max_three min_three max_four min_four   -- for this text's walks alone
set_option linter.unusedVariables false
set_option linter.unusedSimpArgs false

theorem szl14 (a : Array UInt8) : (⟨a⟩ : ByteArray).size = a.size := rfl
/-! ### meddlerref6_Expr: function 14 -/
mutual
def meddlerref6_Expr.j0 : Nat → Bool → Int → Int → Int → ByteArray → List (S30) → Option (ByteArray)
  | 0, _, _, _, _, _, _ => none
  | k + 1, x16, x183000, x183001, x183002, x183003, x183004 => if x16 = true then (if x183003.size + 1 ≤ 9223372036854775807 then (if 0 < (x183004.length : Int) then ((meddlerref6_Expr.f k ((rd_T30 x183004 0).f0) ((rd_T30 x183004 0).f1) ((rd_T30 x183004 0).f2) ((rd_T30 x183004 0).f3) ((rd_T30 x183004 0).f4)).bind fun t185 => (if (x183003 ++ (⟨#[91]⟩ : ByteArray)).size + t185.size ≤ 9223372036854775807 then (if ((x183003 ++ (⟨#[91]⟩ : ByteArray)) ++ t185).size + 1 ≤ 9223372036854775807 then (some (((x183003 ++ (⟨#[91]⟩ : ByteArray)) ++ t185) ++ (⟨#[93]⟩ : ByteArray))) else (none)) else (none))) else (none)) else (none)) else (if x183000 = 4 then (some (⟨#[105, 110, 112, 117, 116]⟩ : ByteArray)) else (if x183000 = 5 then (if (x183004.length : Int) > 1 then (if x183002 ≥ 1 then (meddlerref6_Expr.j1 k (decide (x183002 ≤ 5)) x183000 x183001 x183002 x183003 x183004) else (meddlerref6_Expr.j1 k false x183000 x183001 x183002 x183003 x183004)) else (meddlerref6_Expr.j1 k false x183000 x183001 x183002 x183003 x183004)) else (meddlerref6_Expr.j1 k false x183000 x183001 x183002 x183003 x183004)))
def meddlerref6_Expr.j1 : Nat → Bool → Int → Int → Int → ByteArray → List (S30) → Option (ByteArray)
  | 0, _, _, _, _, _, _ => none
  | k + 1, x40, x183000, x183001, x183002, x183003, x183004 => if x40 = true then (if 0 < (x183004.length : Int) then ((meddlerref6_Expr.f k ((rd_T30 x183004 0).f0) ((rd_T30 x183004 0).f1) ((rd_T30 x183004 0).f2) ((rd_T30 x183004 0).f3) ((rd_T30 x183004 0).f4)).bind fun t187 => (if 1 + t187.size ≤ 9223372036854775807 then (if ((⟨#[40]⟩ : ByteArray) ++ t187).size + 1 ≤ 9223372036854775807 then (if 0 ≤ (wrap64 (x183002 - 1)) then (if (wrap64 (x183002 - 1)) ≤ x183002 then (if x183002 ≤ 5 then (if (((⟨#[40]⟩ : ByteArray) ++ t187) ++ (⟨#[32]⟩ : ByteArray)).size + ((⟨#[43, 45, 42, 47, 37]⟩ : ByteArray).extract ((wrap64 (x183002 - 1)) : Int).toNat (x183002 : Int).toNat).size ≤ 9223372036854775807 then (if ((((⟨#[40]⟩ : ByteArray) ++ t187) ++ (⟨#[32]⟩ : ByteArray)) ++ ((⟨#[43, 45, 42, 47, 37]⟩ : ByteArray).extract ((wrap64 (x183002 - 1)) : Int).toNat (x183002 : Int).toNat)).size + 1 ≤ 9223372036854775807 then (if 1 < (x183004.length : Int) then ((meddlerref6_Expr.f k ((rd_T30 x183004 1).f0) ((rd_T30 x183004 1).f1) ((rd_T30 x183004 1).f2) ((rd_T30 x183004 1).f3) ((rd_T30 x183004 1).f4)).bind fun t189 => (if (((((⟨#[40]⟩ : ByteArray) ++ t187) ++ (⟨#[32]⟩ : ByteArray)) ++ ((⟨#[43, 45, 42, 47, 37]⟩ : ByteArray).extract ((wrap64 (x183002 - 1)) : Int).toNat (x183002 : Int).toNat)) ++ (⟨#[32]⟩ : ByteArray)).size + t189.size ≤ 9223372036854775807 then (if ((((((⟨#[40]⟩ : ByteArray) ++ t187) ++ (⟨#[32]⟩ : ByteArray)) ++ ((⟨#[43, 45, 42, 47, 37]⟩ : ByteArray).extract ((wrap64 (x183002 - 1)) : Int).toNat (x183002 : Int).toNat)) ++ (⟨#[32]⟩ : ByteArray)) ++ t189).size + 1 ≤ 9223372036854775807 then (some (((((((⟨#[40]⟩ : ByteArray) ++ t187) ++ (⟨#[32]⟩ : ByteArray)) ++ ((⟨#[43, 45, 42, 47, 37]⟩ : ByteArray).extract ((wrap64 (x183002 - 1)) : Int).toNat (x183002 : Int).toNat)) ++ (⟨#[32]⟩ : ByteArray)) ++ t189) ++ (⟨#[41]⟩ : ByteArray))) else (none)) else (none))) else (none)) else (none)) else (none)) else (none)) else (none)) else (none)) else (none)) else (none))) else (none)) else (if x183000 = 6 then (if (x183004.length : Int) > 0 then (if 0 < (x183004.length : Int) then ((meddlerref6_Expr.f k ((rd_T30 x183004 0).f0) ((rd_T30 x183004 0).f1) ((rd_T30 x183004 0).f2) ((rd_T30 x183004 0).f3) ((rd_T30 x183004 0).f4)).bind fun t191 => (if 1 + t191.size ≤ 9223372036854775807 then (some ((⟨#[45]⟩ : ByteArray) ++ t191)) else (none))) else (none)) else (some (⟨#[63]⟩ : ByteArray))) else (some (⟨#[63]⟩ : ByteArray)))
def meddlerref6_Expr.f : Nat → Int → Int → Int → ByteArray → List (S30) → Option (ByteArray)
  | 0, _, _, _, _, _ => none
  | k + 1, a0_0, a0_1, a0_2, a0_3, l0_4 => if a0_0 = 1 then ((meddlerref6_Dec.f k a0_1).bind fun t183 => (some t183)) else (if a0_0 = 2 then (some a0_3) else (if a0_0 = 3 then (meddlerref6_Expr.j0 k (decide ((l0_4.length : Int) > 0)) a0_0 a0_1 a0_2 a0_3 l0_4) else (meddlerref6_Expr.j0 k false a0_0 a0_1 a0_2 a0_3 l0_4)))
end
theorem meddlerref6_Expr.mono_l : ∀ k, (∀ y0 y1 y2 y3 y4, LeO (meddlerref6_Expr.f k y0 y1 y2 y3 y4) (meddlerref6_Expr.f (k + 1) y0 y1 y2 y3 y4)) ∧ (∀ y0 y1 y2 y3 y4 y5, LeO (meddlerref6_Expr.j0 k y0 y1 y2 y3 y4 y5) (meddlerref6_Expr.j0 (k + 1) y0 y1 y2 y3 y4 y5)) ∧ (∀ y0 y1 y2 y3 y4 y5, LeO (meddlerref6_Expr.j1 k y0 y1 y2 y3 y4 y5) (meddlerref6_Expr.j1 (k + 1) y0 y1 y2 y3 y4 y5))
  | 0 => ⟨fun _ _ _ _ _ r h => by simp [meddlerref6_Expr.f] at h, fun _ _ _ _ _ _ r h => by simp [meddlerref6_Expr.j0] at h, fun _ _ _ _ _ _ r h => by simp [meddlerref6_Expr.j1] at h⟩
  | k + 1 => by
    obtain ⟨ih0, ih1, ih2⟩ := meddlerref6_Expr.mono_l k
    refine ⟨?_, ?_, ?_⟩
    · intro y0 y1 y2 y3 y4
      unfold meddlerref6_Expr.f
      repeat' first
      | (with_reducible exact ih0 _ _ _ _ _)
      | (with_reducible exact ih1 _ _ _ _ _ _)
      | (with_reducible exact ih2 _ _ _ _ _ _)
      | (with_reducible exact meddlerref6_Dec.mono _ _)
      | (with_reducible exact LeO.refl _)
      | (with_reducible exact LeO.none _)
      | (with_reducible refine LeO.ite ?_ ?_)
      | (with_reducible refine LeO.bind ?_ (fun _ => ?_))
      | exact ih0 _ _ _ _ _
      | exact ih1 _ _ _ _ _ _
      | exact ih2 _ _ _ _ _ _
      | exact meddlerref6_Dec.mono _ _
      | exact LeO.none _
      | refine LeO.ite ?_ ?_
      | refine LeO.bind ?_ (fun _ => ?_)
    · intro y0 y1 y2 y3 y4 y5
      unfold meddlerref6_Expr.j0
      repeat' first
      | (with_reducible exact ih0 _ _ _ _ _)
      | (with_reducible exact ih1 _ _ _ _ _ _)
      | (with_reducible exact ih2 _ _ _ _ _ _)
      | (with_reducible exact meddlerref6_Dec.mono _ _)
      | (with_reducible exact LeO.refl _)
      | (with_reducible exact LeO.none _)
      | (with_reducible refine LeO.ite ?_ ?_)
      | (with_reducible refine LeO.bind ?_ (fun _ => ?_))
      | exact ih0 _ _ _ _ _
      | exact ih1 _ _ _ _ _ _
      | exact ih2 _ _ _ _ _ _
      | exact meddlerref6_Dec.mono _ _
      | exact LeO.none _
      | refine LeO.ite ?_ ?_
      | refine LeO.bind ?_ (fun _ => ?_)
    · intro y0 y1 y2 y3 y4 y5
      unfold meddlerref6_Expr.j1
      repeat' first
      | (with_reducible exact ih0 _ _ _ _ _)
      | (with_reducible exact ih1 _ _ _ _ _ _)
      | (with_reducible exact ih2 _ _ _ _ _ _)
      | (with_reducible exact meddlerref6_Dec.mono _ _)
      | (with_reducible exact LeO.refl _)
      | (with_reducible exact LeO.none _)
      | (with_reducible refine LeO.ite ?_ ?_)
      | (with_reducible refine LeO.bind ?_ (fun _ => ?_))
      | exact ih0 _ _ _ _ _
      | exact ih1 _ _ _ _ _ _
      | exact ih2 _ _ _ _ _ _
      | exact meddlerref6_Dec.mono _ _
      | exact LeO.none _
      | refine LeO.ite ?_ ?_
      | refine LeO.bind ?_ (fun _ => ?_)
theorem meddlerref6_Expr.mono : ∀ a0 a1 a2 a3 a4 k, LeO (meddlerref6_Expr.f k a0 a1 a2 a3 a4) (meddlerref6_Expr.f (k + 1) a0 a1 a2 a3 a4) := by
  intro a0 a1 a2 a3 a4 k
  obtain ⟨ih0, ih1, ih2⟩ := meddlerref6_Expr.mono_l k
  exact ih0 a0 a1 a2 a3 a4
def meddlerref6_Expr.T6 : Bool × List (List Nat × List Nat) := (true, [([], []), ([0], [0]), ([1], [1]), ([], []), ([3], [3]), ([4], [4]), ([5], [5]), ([6], [6]), ([2, 7], [2, 7]), ([8], [8]), ([9, 7, 0, 1, 2, 3, 4, 5, 6, 7, 8, 9], [9])])
def meddlerref6_Expr.B6 : List Nat := [0, 1, 3, 0, 8, 24, 56, 120, 255, 511, 1023]
theorem meddlerref6_Expr.tab6 : rtab .any (opsOf Tryd.f14 6) = meddlerref6_Expr.T6 := by kernel_rfl
theorem meddlerref6_Expr.bits6 : waitsOk meddlerref6_Expr.T6.2 meddlerref6_Expr.B6 = true := by kernel_rfl
def meddlerref6_Expr.T10 : Bool × List (List Nat × List Nat) := (true, [([], []), ([0], [0]), ([1], [1]), ([2], [2]), ([3], [3]), ([4], [4]), ([5], [5]), ([], []), ([7], [7]), ([8], [8]), ([], []), ([10], [10]), ([9, 11], [9, 11]), ([6, 12], [6, 12]), ([13], [13]), ([], []), ([15], [15]), ([16], [16]), ([17], [17]), ([18, 4], [18]), ([14, 19], [14, 19]), ([20], [20]), ([21, 19, 0, 1, 2, 3, 4, 5, 6, 7, 8, 9, 10, 11, 12, 13, 14, 15, 16, 17, 18, 19, 20, 21], [21])])
def meddlerref6_Expr.B10 : List Nat := [0, 1, 3, 7, 15, 31, 63, 0, 128, 384, 0, 1024, 3968, 8191, 16383, 0, 32768, 98304, 229376, 491551, 1048575, 2097151, 4194303]
theorem meddlerref6_Expr.tab10 : rtab .any (opsOf Tryd.f14 10) = meddlerref6_Expr.T10 := by kernel_rfl
theorem meddlerref6_Expr.bits10 : waitsOk meddlerref6_Expr.T10.2 meddlerref6_Expr.B10 = true := by kernel_rfl
set_option maxHeartbeats 8000000 in
set_option maxRecDepth 100000 in
theorem meddlerref6_Expr.calls (k : Nat) : ∀ (a0_0 : Int) (a0_1 : Int) (a0_2 : Int) (a0_3 : ByteArray) (A0_4 : Option Addr) (c0_4 : Nat) (l0_4 : List (S30)) (r : ByteArray) (w : World) (hr0_4 : Kd.C k30 w A0_4 l0_4.length l0_4) (hc0_4 : l0_4.length ≤ c0_4) (h : meddlerref6_Expr.f k a0_0 a0_1 a0_2 a0_3 l0_4 = some r),
    Calls Tryd.prog 14 #[.agg #[.int .i64 a0_0, .int .i64 a0_1, .int .i64 a0_2, .string a0_3, .slice A0_4 l0_4.length c0_4]] w fun e w' => e = .returned (.string r) ∧ Below w.heap.size w w' := by
  induction k using Nat.strongRecOn with
  | _ k ih =>
  intro a0_0 a0_1 a0_2 a0_3 A0_4 c0_4 l0_4 r w hr0_4 hc0_4 h
  cases k with
  | zero => exact absurd h (by simp [meddlerref6_Expr.f])
  | succ k =>
  simp only [meddlerref6_Expr.f] at h
  have hu30 := Tryd.underlying30
  have HR0_4 := Aside0.mk hr0_4
  have HC0_4 := Aside0.mk hc0_4
  clear hr0_4 hc0_4
  have HB := Aside0.mk (Below.refl w.heap.size w)
  have H : (if a0_0 = 1 then ((meddlerref6_Dec.f k a0_1).bind fun t183 => (some t183)) else (if a0_0 = 2 then (some a0_3) else (if a0_0 = 3 then (meddlerref6_Expr.j0 k (decide ((l0_4.length : Int) > 0)) a0_0 a0_1 a0_2 a0_3 l0_4) else (meddlerref6_Expr.j0 k false a0_0 a0_1 a0_2 a0_3 l0_4)))) = some r := h
  clear h
  by_cases c2 : a0_0 = 1
  · rw [if_pos c2] at H
    have c2b0 : (a0_0 == 1) = true := beq_iff_eq.mpr c2
    have c2b1 : (a0_0 != 1) = false := bne_eq_false_iff_eq.mpr c2
    clear c2
    replace H := Option.bind_eq_some_iff.mp H
    obtain ⟨t183, A30, H⟩ := H
    replace H : (some t183) = some r := H
    have A3 := Aside0.mk A30
    clear A30
    obtain rfl := Option.some.inj H
    go_enter Tryd.func14, Tryd.ntmps14
    go_wp2_with (first | ((with_reducible refine gate_dst (N := 1) rfl ?_); (try (refine gate_guard (by rfl) ?_; dsimp only)); refine box_event ?hg (N := 1) ?hd (cs := #[.int .i64 a0_0, .int .i64 a0_1, .int .i64 a0_2, .string a0_3, .slice A0_4 l0_4.length c0_4]) (t := 30) ?hr ?_; (case hd => rfl); (case hg => rfl); (case hr => first | (go_simp; done) | (go_simp; rfl)); intro gb182 hg w4 hbox hb; have n0_ := Aside0.mk (below_step (by repeat (first | (with_reducible first | exact HB.out | apply below_alloc | apply pw_below_drewN | apply below_drew1) | exact HB.out)) hb); have n1_ := Aside0.mk (hbox); have n2_ := Aside0.mk ((by rw [hg]; exact (below_size (by repeat (first | (with_reducible first | exact HB.out | apply below_alloc | apply pw_below_drewN | apply below_drew1) | exact HB.out))) : w.heap.size ≤ gb182)); have n3_ := Aside0.mk ((by rw [hg]; exact (below_size (by repeat (first | (with_reducible first | exact HB.out | apply below_alloc | apply pw_below_drewN | apply below_drew1) | exact HB.out))) : w.heap.size ≤ gb182)); clear HB; have HB := n0_; have BK182 := n1_; have GW182 := n2_; have GE182 := n3_; clear n0_ n1_ n2_ n3_; clear hb hbox hg; have hcz5_0 : w4.cell? ⟨gb182, 0, none⟩ = some (.int .i64 a0_0) := (blk_cell BK182.out 0).trans rfl; have hcz5_1 : w4.cell? ⟨gb182, 1, none⟩ = some (.int .i64 a0_1) := (blk_cell BK182.out 1).trans rfl; have hcz5_2 : w4.cell? ⟨gb182, 2, none⟩ = some (.int .i64 a0_2) := (blk_cell BK182.out 2).trans rfl; have hcz5_3 : w4.cell? ⟨gb182, 3, none⟩ = some (.string a0_3) := (blk_cell BK182.out 3).trans rfl; have hcz5_4 : w4.cell? ⟨gb182, 4, none⟩ = some (.slice A0_4 l0_4.length c0_4) := (blk_cell BK182.out 4).trans rfl; have hfz5_0 := blk_frozen BK182.out 0; have hfz5_1 := blk_frozen BK182.out 1; have hfz5_2 := blk_frozen BK182.out 2; have hfz5_3 := blk_frozen BK182.out 3; have hfz5_4 := blk_frozen BK182.out 4) | ((with_reducible refine gate_callee (f := 27) rfl ?_); refine goesL_ (some 9) rfl rfl Tryd.func27 (by kernel_rfl) rfl #[.int .i64 a0_1] rfl (by (try simp only [List.map_toArray, List.map_cons, List.map_nil]); first | done | rfl | (simp only [List.length_drop, List.length_take]; rfl)) ?_; (with_reducible refine (meddlerref6_Dec.calls k a0_1 t183 _ A3.out).mono ?_); rintro e w6 ⟨rfl, hb⟩; refine ⟨_, rfl, ?_⟩; have n0_ := Aside0.mk (blk_below (g := gb182) (o := .cells #[.int .i64 a0_0, .int .i64 a0_1, .int .i64 a0_2, .string a0_3, .slice A0_4 l0_4.length c0_4] 30 (0, 0)) (by (with_reducible repeat (first | refine blk_drewN ?_ _ | refine blk_drew ?_ | refine blk_alloc ?_ _)); exact BK182.out) hb); have n1_ := Aside0.mk (below_step (by repeat (first | (with_reducible first | exact HB.out | apply below_alloc | apply pw_below_drewN | apply below_drew1 | refine below_set ?_ GE182.out) | exact HB.out)) hb); clear BK182; clear HB; have BK182 := n0_; have HB := n1_; clear n0_ n1_; (try clear hb); (try clear hb2); (try clear hk); (try clear hi)))
    go_ret
    exact ⟨by first | rfl | (simp [errW_none, errW_some] <;> rfl) | (simp [*, errW_none, errW_some] <;> rfl), by repeat (first | (with_reducible first | exact HB.out | apply below_alloc | apply pw_below_drewN | apply below_drew1 | refine below_set ?_ GE182.out) | exact HB.out)⟩
  · rw [if_neg c2] at H
    have c2b0 : (a0_0 == 1) = false := beq_eq_false_iff_ne.mpr c2
    have c2b1 : (a0_0 != 1) = true := bne_iff_ne.mpr c2
    by_cases c7 : a0_0 = 2
    · rw [if_pos c7] at H
      have c7b0 : (a0_0 == 2) = true := beq_iff_eq.mpr c7
      have c7b1 : (a0_0 != 2) = false := bne_eq_false_iff_eq.mpr c7
      clear c7
      obtain rfl := Option.some.inj H
      go_enter Tryd.func14, Tryd.ntmps14
      go_wp2_with (first | ((with_reducible refine gate_dst (N := 1) rfl ?_); (try (refine gate_guard (by rfl) ?_; dsimp only)); refine box_event ?hg (N := 1) ?hd (cs := #[.int .i64 a0_0, .int .i64 a0_1, .int .i64 a0_2, .string a0_3, .slice A0_4 l0_4.length c0_4]) (t := 30) ?hr ?_; (case hd => rfl); (case hg => rfl); (case hr => first | (go_simp; done) | (go_simp; rfl)); intro gb182 hg w8 hbox hb; have n0_ := Aside0.mk (below_step (by repeat (first | (with_reducible first | exact HB.out | apply below_alloc | apply pw_below_drewN | apply below_drew1) | exact HB.out)) hb); have n1_ := Aside0.mk (hbox); have n2_ := Aside0.mk ((by rw [hg]; exact (below_size (by repeat (first | (with_reducible first | exact HB.out | apply below_alloc | apply pw_below_drewN | apply below_drew1) | exact HB.out))) : w.heap.size ≤ gb182)); have n3_ := Aside0.mk ((by rw [hg]; exact (below_size (by repeat (first | (with_reducible first | exact HB.out | apply below_alloc | apply pw_below_drewN | apply below_drew1) | exact HB.out))) : w.heap.size ≤ gb182)); clear HB; have HB := n0_; have BK182 := n1_; have GW182 := n2_; have GE182 := n3_; clear n0_ n1_ n2_ n3_; clear hb hbox hg; have hcz9_0 : w8.cell? ⟨gb182, 0, none⟩ = some (.int .i64 a0_0) := (blk_cell BK182.out 0).trans rfl; have hcz9_1 : w8.cell? ⟨gb182, 1, none⟩ = some (.int .i64 a0_1) := (blk_cell BK182.out 1).trans rfl; have hcz9_2 : w8.cell? ⟨gb182, 2, none⟩ = some (.int .i64 a0_2) := (blk_cell BK182.out 2).trans rfl; have hcz9_3 : w8.cell? ⟨gb182, 3, none⟩ = some (.string a0_3) := (blk_cell BK182.out 3).trans rfl; have hcz9_4 : w8.cell? ⟨gb182, 4, none⟩ = some (.slice A0_4 l0_4.length c0_4) := (blk_cell BK182.out 4).trans rfl; have hfz9_0 := blk_frozen BK182.out 0; have hfz9_1 := blk_frozen BK182.out 1; have hfz9_2 := blk_frozen BK182.out 2; have hfz9_3 := blk_frozen BK182.out 3; have hfz9_4 := blk_frozen BK182.out 4))
      go_ret
      exact ⟨by first | rfl | (simp [errW_none, errW_some] <;> rfl) | (simp [*, errW_none, errW_some] <;> rfl), by repeat (first | (with_reducible first | exact HB.out | apply below_alloc | apply pw_below_drewN | apply below_drew1 | refine below_set ?_ GE182.out) | exact HB.out)⟩
    · rw [if_neg c7] at H
      have c7b0 : (a0_0 == 2) = false := beq_eq_false_iff_ne.mpr c7
      have c7b1 : (a0_0 != 2) = true := bne_iff_ne.mpr c7
      have HC10 := Aside0.mk H
      clear H
      go_enter Tryd.func14, Tryd.ntmps14
      go_upto_region 5 with (first | ((with_reducible refine gate_dst (N := 1) rfl ?_); (try (refine gate_guard (by rfl) ?_; dsimp only)); refine box_event ?hg (N := 1) ?hd (cs := #[.int .i64 a0_0, .int .i64 a0_1, .int .i64 a0_2, .string a0_3, .slice A0_4 l0_4.length c0_4]) (t := 30) ?hr ?_; (case hd => rfl); (case hg => rfl); (case hr => first | (go_simp; done) | (go_simp; rfl)); intro gb182 hg w11 hbox hb; have n0_ := Aside0.mk (below_step (by repeat (first | (with_reducible first | exact HB.out | apply below_alloc | apply pw_below_drewN | apply below_drew1) | exact HB.out)) hb); have n1_ := Aside0.mk (hbox); have n2_ := Aside0.mk ((by rw [hg]; exact (below_size (by repeat (first | (with_reducible first | exact HB.out | apply below_alloc | apply pw_below_drewN | apply below_drew1) | exact HB.out))) : w.heap.size ≤ gb182)); have n3_ := Aside0.mk ((by rw [hg]; exact (below_size (by repeat (first | (with_reducible first | exact HB.out | apply below_alloc | apply pw_below_drewN | apply below_drew1) | exact HB.out))) : w.heap.size ≤ gb182)); clear HB; have HB := n0_; have BK182 := n1_; have GW182 := n2_; have GE182 := n3_; clear n0_ n1_ n2_ n3_; clear hb hbox hg; have hcz12_0 : w11.cell? ⟨gb182, 0, none⟩ = some (.int .i64 a0_0) := (blk_cell BK182.out 0).trans rfl; have hcz12_1 : w11.cell? ⟨gb182, 1, none⟩ = some (.int .i64 a0_1) := (blk_cell BK182.out 1).trans rfl; have hcz12_2 : w11.cell? ⟨gb182, 2, none⟩ = some (.int .i64 a0_2) := (blk_cell BK182.out 2).trans rfl; have hcz12_3 : w11.cell? ⟨gb182, 3, none⟩ = some (.string a0_3) := (blk_cell BK182.out 3).trans rfl; have hcz12_4 : w11.cell? ⟨gb182, 4, none⟩ = some (.slice A0_4 l0_4.length c0_4) := (blk_cell BK182.out 4).trans rfl; have hfz12_0 := blk_frozen BK182.out 0; have hfz12_1 := blk_frozen BK182.out 1; have hfz12_2 := blk_frozen BK182.out 2; have hfz12_3 := blk_frozen BK182.out 3; have hfz12_4 := blk_frozen BK182.out 4))
      (try simp only [Act.put, List.setIfInBounds_toArray, List.set_cons_zero, List.set_cons_succ])
      go_cut [16] (fun v16 wc => ∃ (kq : Nat) (x16_9 : Bool), v16 = .bool x16_9 ∧ Aside0 (meddlerref6_Expr.j0 kq x16_9 a0_0 a0_1 a0_2 a0_3 l0_4 = some r) ∧ Aside0 (kq ≤ k) ∧ Aside0 (wc.heap[gb182]? = some (.cells #[.int .i64 a0_0, .int .i64 a0_1, .int .i64 a0_2, .string a0_3, (.slice A0_4 l0_4.length c0_4)] 30 (0, 0))) ∧ Aside0 (Below w.heap.size w wc))
      case first =>
        have H := HC10.out
        clear HC10
        by_cases c13 : a0_0 = 3
        · rw [if_pos c13] at H
          have c13b0 : (a0_0 == 3) = true := beq_iff_eq.mpr c13
          have c13b1 : (a0_0 != 3) = false := bne_eq_false_iff_eq.mpr c13
          clear c13
          (first | rw [c13b0] | (simp only [i64_w, i32_w]; rw [c13b0]) | skip)
          have H' := Aside0.mk H
          clear H
          have hcz14_0 : w11.cell? ⟨gb182, 0, none⟩ = some (.int .i64 a0_0) := (blk_cell BK182.out 0).trans rfl
          have hcz14_1 : w11.cell? ⟨gb182, 1, none⟩ = some (.int .i64 a0_1) := (blk_cell BK182.out 1).trans rfl
          have hcz14_2 : w11.cell? ⟨gb182, 2, none⟩ = some (.int .i64 a0_2) := (blk_cell BK182.out 2).trans rfl
          have hcz14_3 : w11.cell? ⟨gb182, 3, none⟩ = some (.string a0_3) := (blk_cell BK182.out 3).trans rfl
          have hcz14_4 : w11.cell? ⟨gb182, 4, none⟩ = some (.slice A0_4 l0_4.length c0_4) := (blk_cell BK182.out 4).trans rfl
          have hfz14_0 := blk_frozen BK182.out 0
          have hfz14_1 := blk_frozen BK182.out 1
          have hfz14_2 := blk_frozen BK182.out 2
          have hfz14_3 := blk_frozen BK182.out 3
          have hfz14_4 := blk_frozen BK182.out 4
          go_wp2
          go_meet
          case rel => exact ⟨_, (decide ((l0_4.length : Int) > 0)), (by first | rfl | (simp; done) | (simp [*]; done)), H', ⟨by first | omega | exact Nat.le_refl _⟩, ⟨by (with_reducible repeat (first | refine blk_drewN ?_ _ | refine blk_drew ?_ | refine blk_alloc ?_ _)); exact BK182.out⟩, ⟨by repeat (first | (with_reducible first | exact HB.out | apply below_alloc | apply pw_below_drewN | apply below_drew1 | refine below_set ?_ GE182.out) | exact HB.out)⟩⟩
        · rw [if_neg c13] at H
          have c13b0 : (a0_0 == 3) = false := beq_eq_false_iff_ne.mpr c13
          have c13b1 : (a0_0 != 3) = true := bne_iff_ne.mpr c13
          (first | rw [c13b0] | (simp only [i64_w, i32_w]; rw [c13b0]) | skip)
          have H' := Aside0.mk H
          clear H
          have hcz15_0 : w11.cell? ⟨gb182, 0, none⟩ = some (.int .i64 a0_0) := (blk_cell BK182.out 0).trans rfl
          have hcz15_1 : w11.cell? ⟨gb182, 1, none⟩ = some (.int .i64 a0_1) := (blk_cell BK182.out 1).trans rfl
          have hcz15_2 : w11.cell? ⟨gb182, 2, none⟩ = some (.int .i64 a0_2) := (blk_cell BK182.out 2).trans rfl
          have hcz15_3 : w11.cell? ⟨gb182, 3, none⟩ = some (.string a0_3) := (blk_cell BK182.out 3).trans rfl
          have hcz15_4 : w11.cell? ⟨gb182, 4, none⟩ = some (.slice A0_4 l0_4.length c0_4) := (blk_cell BK182.out 4).trans rfl
          have hfz15_0 := blk_frozen BK182.out 0
          have hfz15_1 := blk_frozen BK182.out 1
          have hfz15_2 := blk_frozen BK182.out 2
          have hfz15_3 := blk_frozen BK182.out 3
          have hfz15_4 := blk_frozen BK182.out 4
          go_wp2
          go_meet
          case rel => exact ⟨_, (false), (by first | rfl | (simp; done) | (simp [*]; done)), H', ⟨by first | omega | exact Nat.le_refl _⟩, ⟨by (with_reducible repeat (first | refine blk_drewN ?_ _ | refine blk_drew ?_ | refine blk_alloc ?_ _)); exact BK182.out⟩, ⟨by repeat (first | (with_reducible first | exact HB.out | apply below_alloc | apply pw_below_drewN | apply below_drew1 | refine below_set ?_ GE182.out) | exact HB.out)⟩⟩
      case rest =>
        clear HC10
        try clear c1
        try clear c2
        try clear c2b0
        try clear c2b1
        try clear p2
        try clear c7
        try clear c7b0
        try clear c7b1
        try clear c13
        try clear c13b0
        try clear c13b1
        try clear c14
        try clear hcz12_0
        try clear hcz12_1
        try clear hcz12_2
        try clear hcz12_3
        try clear hcz12_4
        try clear hcz14_0
        try clear hcz14_1
        try clear hcz14_2
        try clear hcz14_3
        try clear hcz14_4
        try clear hcz15_0
        try clear hcz15_1
        try clear hcz15_2
        try clear hcz15_3
        try clear hcz15_4
        try clear hcz5_0
        try clear hcz5_1
        try clear hcz5_2
        try clear hcz5_3
        try clear hcz5_4
        try clear hcz9_0
        try clear hcz9_1
        try clear hcz9_2
        try clear hcz9_3
        try clear hcz9_4
        try clear hfz12_0
        try clear hfz12_1
        try clear hfz12_2
        try clear hfz12_3
        try clear hfz12_4
        try clear hfz14_0
        try clear hfz14_1
        try clear hfz14_2
        try clear hfz14_3
        try clear hfz14_4
        try clear hfz15_0
        try clear hfz15_1
        try clear hfz15_2
        try clear hfz15_3
        try clear hfz15_4
        try clear hfz5_0
        try clear hfz5_1
        try clear hfz5_2
        try clear hfz5_3
        try clear hfz5_4
        try clear hfz9_0
        try clear hfz9_1
        try clear hfz9_2
        try clear hfz9_3
        try clear hfz9_4
        obtain ⟨kq, x16_9, rfl, HA, HJ9, BK182, HB⟩ := hcut
        cases kq with
        | zero => exact absurd HA.out (by simp [meddlerref6_Expr.j0])
        | succ kj9 =>
          have H := HA.out
          clear HA
          simp only [meddlerref6_Expr.j0] at H
          by_cases c16 : x16_9 = true
          · subst c16
            have H1 : (if a0_3.size + 1 ≤ 9223372036854775807 then (if 0 < (l0_4.length : Int) then ((meddlerref6_Expr.f kj9 ((rd_T30 l0_4 0).f0) ((rd_T30 l0_4 0).f1) ((rd_T30 l0_4 0).f2) ((rd_T30 l0_4 0).f3) ((rd_T30 l0_4 0).f4)).bind fun t185 => (if (a0_3 ++ (⟨#[91]⟩ : ByteArray)).size + t185.size ≤ 9223372036854775807 then (if ((a0_3 ++ (⟨#[91]⟩ : ByteArray)) ++ t185).size + 1 ≤ 9223372036854775807 then (some (((a0_3 ++ (⟨#[91]⟩ : ByteArray)) ++ t185) ++ (⟨#[93]⟩ : ByteArray))) else (none)) else (none))) else (none)) else (none)) = some r := by rw [if_pos rfl] at H; exact H
            clear H
            have H := H1
            clear H1
            by_cases c17 : a0_3.size + 1 ≤ 9223372036854775807
            · rw [if_pos c17] at H
              have c17b0 := eq_true c17
              have c17b1 : decide (a0_3.size + 1 ≤ 9223372036854775807) = true := decide_eq_true c17
              try have c17b2 : (9223372036854775807 < a0_3.size + 1) = False := eq_false (Nat.not_lt.2 c17)
              try have c17b3 := c17b2
              try simp only [ByteArray.size_append, szl14, List.size_toArray, List.length_cons, List.length_nil, Nat.zero_add, Nat.reduceAdd] at c17b3
              by_cases c18 : 0 < (l0_4.length : Int)
              · rw [if_pos c18] at H
                have c18b0 : decide (0 < (l0_4.length : Int)) = true := decide_eq_true c18
                have c18b1 : decide (0 < l0_4.length) = true := decide_eq_true (by omega)
                clear c18
                replace H := Option.bind_eq_some_iff.mp H
                obtain ⟨t185, A190, H⟩ := H
                replace H : (if (a0_3 ++ (⟨#[91]⟩ : ByteArray)).size + t185.size ≤ 9223372036854775807 then (if ((a0_3 ++ (⟨#[91]⟩ : ByteArray)) ++ t185).size + 1 ≤ 9223372036854775807 then (some (((a0_3 ++ (⟨#[91]⟩ : ByteArray)) ++ t185) ++ (⟨#[93]⟩ : ByteArray))) else (none)) else (none)) = some r := H
                have A19 := Aside0.mk A190
                clear A190
                by_cases c20 : (a0_3 ++ (⟨#[91]⟩ : ByteArray)).size + t185.size ≤ 9223372036854775807
                · rw [if_pos c20] at H
                  have c20b0 := eq_true c20
                  have c20b1 : decide ((a0_3 ++ (⟨#[91]⟩ : ByteArray)).size + t185.size ≤ 9223372036854775807) = true := decide_eq_true c20
                  try have c20b2 : (9223372036854775807 < (a0_3 ++ (⟨#[91]⟩ : ByteArray)).size + t185.size) = False := eq_false (Nat.not_lt.2 c20)
                  try have c20b3 := c20b2
                  try simp only [ByteArray.size_append, szl14, List.size_toArray, List.length_cons, List.length_nil, Nat.zero_add, Nat.reduceAdd] at c20b3
                  by_cases c21 : ((a0_3 ++ (⟨#[91]⟩ : ByteArray)) ++ t185).size + 1 ≤ 9223372036854775807
                  · rw [if_pos c21] at H
                    have c21b0 := eq_true c21
                    have c21b1 : decide (((a0_3 ++ (⟨#[91]⟩ : ByteArray)) ++ t185).size + 1 ≤ 9223372036854775807) = true := decide_eq_true c21
                    try have c21b2 : (9223372036854775807 < ((a0_3 ++ (⟨#[91]⟩ : ByteArray)) ++ t185).size + 1) = False := eq_false (Nat.not_lt.2 c21)
                    try have c21b3 := c21b2
                    try simp only [ByteArray.size_append, szl14, List.size_toArray, List.length_cons, List.length_nil, Nat.zero_add, Nat.reduceAdd] at c21b3
                    obtain rfl := Option.some.inj H
                    try go_wp2
                    have n0_ := Aside0.mk (blk_drew BK182.out)
                    have n1_ := Aside0.mk (below_drew1 HB.out)
                    clear BK182
                    clear HB
                    have BK182 := n0_
                    have HB := n1_
                    clear n0_ n1_
                    have p184 : 0 ≤ (0 : Int) := (by omega)
                    have q184 : 0 < (l0_4.length : Int) := of_decide_eq_true (by first | (with_reducible assumption) | assumption)
                    obtain ⟨ad184, A184_4, c184_4, e184, hx184_0, hx184_1, hx184_2, hx184_3, hx184_4, hl184_4, hi184_4⟩ := at_T30 HR0_4.out 0 p184 q184
                    have hw184_4 := hx184_4
                    (try rw [show ((0 : Int)).toNat = 0 from rfl] at hw184_4)
                    (try rw [show 0 * 5 = 0 from rfl] at hw184_4)
                    (try rw [Addr.add_zero'] at hw184_4)
                    have hw184_3 := hx184_3
                    (try rw [show ((0 : Int)).toNat = 0 from rfl] at hw184_3)
                    (try rw [show 0 * 5 = 0 from rfl] at hw184_3)
                    (try rw [Addr.add_zero'] at hw184_3)
                    have hw184_2 := hx184_2
                    (try rw [show ((0 : Int)).toNat = 0 from rfl] at hw184_2)
                    (try rw [show 0 * 5 = 0 from rfl] at hw184_2)
                    (try rw [Addr.add_zero'] at hw184_2)
                    have hw184_1 := hx184_1
                    (try rw [show ((0 : Int)).toNat = 0 from rfl] at hw184_1)
                    (try rw [show 0 * 5 = 0 from rfl] at hw184_1)
                    (try rw [Addr.add_zero'] at hw184_1)
                    have hw184_0 := hx184_0
                    (try rw [show ((0 : Int)).toNat = 0 from rfl] at hw184_0)
                    (try rw [show 0 * 5 = 0 from rfl] at hw184_0)
                    (try rw [Addr.add_zero'] at hw184_0)
                    cases e184
                    have qi184 : (0 < l0_4.length) = True := eq_true (by omega)
                    (try rw [show ((0 : Int)).toNat = 0 from rfl] at hx184_0)
                    (try rw [show 0 * 5 = 0 from rfl] at hx184_0)
                    (try rw [Addr.add_zero'] at hx184_0)
                    (try rw [show ((0 : Int)).toNat = 0 from rfl] at hx184_1)
                    (try rw [show 0 * 5 = 0 from rfl] at hx184_1)
                    (try rw [Addr.add_zero'] at hx184_1)
                    (try rw [show ((0 : Int)).toNat = 0 from rfl] at hx184_2)
                    (try rw [show 0 * 5 = 0 from rfl] at hx184_2)
                    (try rw [Addr.add_zero'] at hx184_2)
                    (try rw [show ((0 : Int)).toNat = 0 from rfl] at hx184_3)
                    (try rw [show 0 * 5 = 0 from rfl] at hx184_3)
                    (try rw [Addr.add_zero'] at hx184_3)
                    (try rw [show ((0 : Int)).toNat = 0 from rfl] at hx184_4)
                    (try rw [show 0 * 5 = 0 from rfl] at hx184_4)
                    (try rw [Addr.add_zero'] at hx184_4)
                    replace hx184_0 := (HB.out.cell (World.block_lt_of_cell? w _ hx184_0)).trans hx184_0
                    replace hx184_1 := (HB.out.cell (World.block_lt_of_cell? w _ hx184_1)).trans hx184_1
                    replace hx184_2 := (HB.out.cell (World.block_lt_of_cell? w _ hx184_2)).trans hx184_2
                    replace hx184_3 := (HB.out.cell (World.block_lt_of_cell? w _ hx184_3)).trans hx184_3
                    replace hx184_4 := (HB.out.cell (World.block_lt_of_cell? w _ hx184_4)).trans hx184_4
                    have HR184_4 := Aside0.mk hi184_4
                    have HC184_4 := Aside0.mk hl184_4
                    clear hi184_4 hl184_4
                    replace p184 := eq_true p184
                    replace q184 := eq_true q184
                    refine start_ (n := 11) (S := fun w' => w'.cell? ⟨gb182, 0, none⟩ = some (.int .i64 a0_0) ∧ w'.cell? ⟨gb182, 1, none⟩ = some (.int .i64 a0_1) ∧ w'.cell? ⟨gb182, 2, none⟩ = some (.int .i64 a0_2) ∧ w'.cell? ⟨gb182, 3, none⟩ = some (.string a0_3) ∧ w'.cell? ⟨gb182, 4, none⟩ = some (.slice (some ad184) l0_4.length c0_4) ∧ w'.cell? ad184 = some (.int .i64 ((rd_T30 l0_4 0).f0)) ∧ w'.cell? ⟨ad184.block, ad184.off + 1, none⟩ = some (.int .i64 ((rd_T30 l0_4 0).f1)) ∧ w'.cell? ⟨ad184.block, ad184.off + 2, none⟩ = some (.int .i64 ((rd_T30 l0_4 0).f2)) ∧ w'.cell? ⟨ad184.block, ad184.off + 3, none⟩ = some (.string ((rd_T30 l0_4 0).f3)) ∧ w'.cell? ⟨ad184.block, ad184.off + 4, none⟩ = some (.slice A184_4 ((rd_T30 l0_4 0).f4).length c184_4)) (ds := []) #[false, false, false, false, false, false, false, false, false, false, false] (by kernel_rfl) rfl rfl ⟨(blk_cell BK182.out 0).trans rfl, (blk_cell BK182.out 1).trans rfl, (blk_cell BK182.out 2).trans rfl, (blk_cell BK182.out 3).trans rfl, (blk_cell BK182.out 4).trans rfl, ((HB.out.cell (World.block_lt_of_cell? w _ hw184_0)).trans hw184_0), ((HB.out.cell (World.block_lt_of_cell? w _ hw184_1)).trans hw184_1), ((HB.out.cell (World.block_lt_of_cell? w _ hw184_2)).trans hw184_2), ((HB.out.cell (World.block_lt_of_cell? w _ hw184_3)).trans hw184_3), ((HB.out.cell (World.block_lt_of_cell? w _ hw184_4)).trans hw184_4)⟩ (fun hHeld => ?_); refine with_tabW meddlerref6_Expr.tab6 meddlerref6_Expr.bits6 (fun HT_ HW_ => ?_)
                    generalize wc.drew = w22 at BK182 HB HR184_4 hx184_0 hx184_1 hx184_2 hx184_3 hx184_4 hHeld ⊢
                    refine pure_ (i := 0) (N := some 26) (v := ?_) (a' := ?_) #[true, false, false, false, false, false, false, false, false, false, false] rfl rfl (any_of HT_.out (by kernel_rfl)) (fun _ _ _ h => h) (Or.inl ⟨by rfl, ?_⟩) ?_ ?_
                    rotate_left
                    · intro w'
                      go_simp
                      with_reducible rfl
                    rotate_left
                    · simp only [Act.put, List.setIfInBounds_toArray, List.set_cons_zero, List.set_cons_succ, i64_w, i32_w]
                      rfl
                    refine pure_ (i := 3) (N := some 29) (v := ?_) (a' := ?_) #[true, false, false, true, false, false, false, false, false, false, false] rfl rfl (any_of HT_.out (by kernel_rfl)) (fun _ _ _ h => h) (Or.inl ⟨by rfl, ?_⟩) ?_ ?_
                    rotate_left
                    · intro w'
                      go_simp
                      with_reducible rfl
                    rotate_left
                    · simp only [Act.put, List.setIfInBounds_toArray, List.set_cons_zero, List.set_cons_succ, i64_w, i32_w]
                      rfl
                    refine take_ (i := 1) (N := some 27) (v := ?_) (a' := ?_) #[true, true, false, true, false, false, false, false, false, false, false] rfl rfl (take_ofW HT_.out HW_.out (by kernel_rfl)) (fun _ _ _ h => h) (Or.inl ⟨by rfl, ?_⟩) hHeld ?_ ?_
                    rotate_left
                    · rintro w' ⟨s0, s1, s2, s3, s4, s5, s6, s7, s8, s9⟩
                      go_simp
                      with_reducible rfl
                    rotate_left
                    · simp only [Act.put, List.setIfInBounds_toArray, List.set_cons_zero, List.set_cons_succ, i64_w, i32_w]
                      rfl
                    refine pure_ (i := 2) (N := some 28) (v := ?_) (a' := ?_) #[true, true, true, true, false, false, false, false, false, false, false] rfl rfl (any_of HT_.out (by kernel_rfl)) (fun _ _ _ h => h) (Or.inl ⟨by rfl, ?_⟩) ?_ ?_
                    rotate_left
                    · intro w'
                      go_simp
                      with_reducible rfl
                    rotate_left
                    · simp only [Act.put, List.setIfInBounds_toArray, List.set_cons_zero, List.set_cons_succ, i64_w, i32_w]
                      rfl
                    refine take_ (i := 4) (N := some 30) (v := ?_) (a' := ?_) #[true, true, true, true, true, false, false, false, false, false, false] rfl rfl (take_ofW HT_.out HW_.out (by kernel_rfl)) (fun _ _ _ h => h) (Or.inl ⟨by rfl, ?_⟩) hHeld ?_ ?_
                    rotate_left
                    · rintro w' ⟨s0, s1, s2, s3, s4, s5, s6, s7, s8, s9⟩
                      go_simp
                      with_reducible rfl
                    rotate_left
                    · simp only [Act.put, List.setIfInBounds_toArray, List.set_cons_zero, List.set_cons_succ, i64_w, i32_w]
                      rfl
                    refine pure_ (i := 5) (N := some 31) (v := ?_) (a' := ?_) #[true, true, true, true, true, true, false, false, false, false, false] rfl rfl (any_of HT_.out (by kernel_rfl)) (fun _ _ _ h => h) (Or.inl ⟨by rfl, ?_⟩) ?_ ?_
                    rotate_left
                    · intro w'
                      go_simp
                      with_reducible rfl
                    rotate_left
                    · simp only [Act.put, List.setIfInBounds_toArray, List.set_cons_zero, List.set_cons_succ, i64_w, i32_w]
                      rfl
                    refine take_ (i := 6) (N := some 32) (v := ?_) (a' := ?_) #[true, true, true, true, true, true, true, false, false, false, false] rfl rfl (take_ofW HT_.out HW_.out (by kernel_rfl)) (fun _ _ _ h => h) (Or.inl ⟨by rfl, ?_⟩) hHeld ?_ ?_
                    rotate_left
                    · rintro w' ⟨s0, s1, s2, s3, s4, s5, s6, s7, s8, s9⟩
                      go_simp
                      with_reducible rfl
                    rotate_left
                    · simp only [Act.put, List.setIfInBounds_toArray, List.set_cons_zero, List.set_cons_succ, i64_w, i32_w]
                      rfl
                    refine one_ (i := 7) (N := some 33) #[true, true, true, true, true, true, true, true, false, false, false] rfl rfl (one_of HT_.out (by kernel_rfl)) (by decide) (fun K hK => ?_)
                    refine goes_ Tryd.func14 (by kernel_rfl) rfl #[.agg #[.int .i64 ((rd_T30 l0_4 0).f0), .int .i64 ((rd_T30 l0_4 0).f1), .int .i64 ((rd_T30 l0_4 0).f2), .string ((rd_T30 l0_4 0).f3), .slice A184_4 ((rd_T30 l0_4 0).f4).length c184_4]] (by rfl) rfl rfl (by (try simp only [List.map_toArray, List.map_cons, List.map_nil]); first | done | rfl | (simp only [List.length_drop, List.length_take]; rfl)) ?_
                    with_reducible refine (ih kj9 (by have := HJ9.out; omega) ((rd_T30 l0_4 0).f0) ((rd_T30 l0_4 0).f1) ((rd_T30 l0_4 0).f2) ((rd_T30 l0_4 0).f3) _ _ ((rd_T30 l0_4 0).f4) t185 _ ?side1 ?side2 A19.out).mono ?_
                    (case side1 => repeat (first | exact (Kd.C_below HR184_4.out HB.out) | (with_reducible refine Kd.C_alloc ?_ _) | (with_reducible refine Kd.C_drewN ?_ _) | (with_reducible refine Kd.C_drew ?_)))
                    (case side2 => exact HC184_4.out)
                    rintro e w23 ⟨rfl, hb⟩
                    refine ⟨_, rfl, ?_⟩
                    have n0_ := Aside0.mk (blk_below (g := gb182) (o := .cells #[.int .i64 a0_0, .int .i64 a0_1, .int .i64 a0_2, .string a0_3, .slice (some ad184) l0_4.length c0_4] 30 (0, 0)) (by (with_reducible repeat (first | refine blk_drewN ?_ _ | refine blk_drew ?_ | refine blk_alloc ?_ _)); exact BK182.out) hb)
                    have n1_ := Aside0.mk (below_step (by repeat (first | (with_reducible first | exact HB.out | apply below_alloc | apply pw_below_drewN | apply below_drew1 | refine below_set ?_ GE182.out) | exact HB.out)) hb)
                    clear BK182
                    clear HB
                    have BK182 := n0_
                    have HB := n1_
                    clear n0_ n1_
                    (try clear hb)
                    (try clear hb2)
                    (try clear hk)
                    (try clear hi)
                    refine hK.out _ _ ⟨(blk_cell BK182.out 0).trans rfl, (blk_cell BK182.out 1).trans rfl, (blk_cell BK182.out 2).trans rfl, (blk_cell BK182.out 3).trans rfl, (blk_cell BK182.out 4).trans rfl, ((HB.out.cell (World.block_lt_of_cell? w _ hw184_0)).trans hw184_0), ((HB.out.cell (World.block_lt_of_cell? w _ hw184_1)).trans hw184_1), ((HB.out.cell (World.block_lt_of_cell? w _ hw184_2)).trans hw184_2), ((HB.out.cell (World.block_lt_of_cell? w _ hw184_3)).trans hw184_3), ((HB.out.cell (World.block_lt_of_cell? w _ hw184_4)).trans hw184_4)⟩ (fun hHeld => ?_)
                    clear hK K
                    refine norm_ (a' := ?_) ?_ ?_
                    rotate_left
                    · show Act.put _ (some 33) _ = _
                      simp only [Act.put, List.setIfInBounds_toArray, List.set_cons_zero, List.set_cons_succ, i64_w, i32_w]
                      rfl
                    refine pure_ (i := 8) (N := some 34) (v := ?_) (a' := ?_) #[true, true, true, true, true, true, true, true, true, false, false] rfl rfl (any_of HT_.out (by kernel_rfl)) (fun _ _ _ h => h) (Or.inl ⟨by rfl, ?_⟩) ?_ ?_
                    rotate_left
                    · intro w'
                      go_simp
                      with_reducible rfl
                    rotate_left
                    · simp only [Act.put, List.setIfInBounds_toArray, List.set_cons_zero, List.set_cons_succ, i64_w, i32_w]
                      rfl
                    refine pure_ (i := 9) (N := some 35) (v := ?_) (a' := ?_) #[true, true, true, true, true, true, true, true, true, true, false] rfl rfl (any_of HT_.out (by kernel_rfl)) (fun _ _ _ h => h) (Or.inl ⟨by rfl, ?_⟩) ?_ ?_
                    rotate_left
                    · intro w'
                      go_simp
                      with_reducible rfl
                    rotate_left
                    · simp only [Act.put, List.setIfInBounds_toArray, List.set_cons_zero, List.set_cons_succ, i64_w, i32_w]
                      rfl
                    refine pure_ (i := 10) (N := some 2) (v := ?_) (a' := ?_) #[true, true, true, true, true, true, true, true, true, true, true] rfl rfl (any_of HT_.out (by kernel_rfl)) (fun _ _ _ h => h) (Or.inl ⟨by rfl, ?_⟩) ?_ ?_
                    rotate_left
                    · intro w'
                      go_simp
                      with_reducible rfl
                    rotate_left
                    · simp only [Act.put, List.setIfInBounds_toArray, List.set_cons_zero, List.set_cons_succ, i64_w, i32_w]
                      rfl
                    refine done_ (done_of HT_.out (by kernel_rfl)) ?_
                    try go_wp2
                    go_ret
                    exact ⟨by first | rfl | (simp [errW_none, errW_some] <;> rfl) | (simp [*, errW_none, errW_some] <;> rfl), by repeat (first | (with_reducible first | exact HB.out | apply below_alloc | apply pw_below_drewN | apply below_drew1 | refine below_set ?_ GE182.out) | exact HB.out)⟩
                  · rw [if_neg c21] at H
                    exact absurd H (by simp)
                · rw [if_neg c20] at H
                  exact absurd H (by simp)
              · rw [if_neg c18] at H
                exact absurd H (by simp)
            · rw [if_neg c17] at H
              exact absurd H (by simp)
          · replace c16 := Bool.eq_false_iff.mpr c16
            subst c16
            have H1 : (if a0_0 = 4 then (some (⟨#[105, 110, 112, 117, 116]⟩ : ByteArray)) else (if a0_0 = 5 then (if (l0_4.length : Int) > 1 then (if a0_2 ≥ 1 then (meddlerref6_Expr.j1 kj9 (decide (a0_2 ≤ 5)) a0_0 a0_1 a0_2 a0_3 l0_4) else (meddlerref6_Expr.j1 kj9 false a0_0 a0_1 a0_2 a0_3 l0_4)) else (meddlerref6_Expr.j1 kj9 false a0_0 a0_1 a0_2 a0_3 l0_4)) else (meddlerref6_Expr.j1 kj9 false a0_0 a0_1 a0_2 a0_3 l0_4))) = some r := by rw [if_neg (show ¬ (false = true) by decide)] at H; exact H
            clear H
            have H := H1
            clear H1
            by_cases c24 : a0_0 = 4
            · rw [if_pos c24] at H
              have c24b0 : (a0_0 == 4) = true := beq_iff_eq.mpr c24
              have c24b1 : (a0_0 != 4) = false := bne_eq_false_iff_eq.mpr c24
              clear c24
              obtain rfl := Option.some.inj H
              have hcz25_0 : wc.cell? ⟨gb182, 0, none⟩ = some (.int .i64 a0_0) := (blk_cell BK182.out 0).trans rfl
              have hcz25_1 : wc.cell? ⟨gb182, 1, none⟩ = some (.int .i64 a0_1) := (blk_cell BK182.out 1).trans rfl
              have hcz25_2 : wc.cell? ⟨gb182, 2, none⟩ = some (.int .i64 a0_2) := (blk_cell BK182.out 2).trans rfl
              have hcz25_3 : wc.cell? ⟨gb182, 3, none⟩ = some (.string a0_3) := (blk_cell BK182.out 3).trans rfl
              have hcz25_4 : wc.cell? ⟨gb182, 4, none⟩ = some (.slice A0_4 l0_4.length c0_4) := (blk_cell BK182.out 4).trans rfl
              have hfz25_0 := blk_frozen BK182.out 0
              have hfz25_1 := blk_frozen BK182.out 1
              have hfz25_2 := blk_frozen BK182.out 2
              have hfz25_3 := blk_frozen BK182.out 3
              have hfz25_4 := blk_frozen BK182.out 4
              go_wp2
              go_ret
              exact ⟨by first | rfl | (simp [errW_none, errW_some] <;> rfl) | (simp [*, errW_none, errW_some] <;> rfl), by repeat (first | (with_reducible first | exact HB.out | apply below_alloc | apply pw_below_drewN | apply below_drew1 | refine below_set ?_ GE182.out) | exact HB.out)⟩
            · rw [if_neg c24] at H
              have c24b0 : (a0_0 == 4) = false := beq_eq_false_iff_ne.mpr c24
              have c24b1 : (a0_0 != 4) = true := bne_iff_ne.mpr c24
              have HC26 := Aside0.mk H
              clear H
              have hcz27_0 : wc.cell? ⟨gb182, 0, none⟩ = some (.int .i64 a0_0) := (blk_cell BK182.out 0).trans rfl
              have hcz27_1 : wc.cell? ⟨gb182, 1, none⟩ = some (.int .i64 a0_1) := (blk_cell BK182.out 1).trans rfl
              have hcz27_2 : wc.cell? ⟨gb182, 2, none⟩ = some (.int .i64 a0_2) := (blk_cell BK182.out 2).trans rfl
              have hcz27_3 : wc.cell? ⟨gb182, 3, none⟩ = some (.string a0_3) := (blk_cell BK182.out 3).trans rfl
              have hcz27_4 : wc.cell? ⟨gb182, 4, none⟩ = some (.slice A0_4 l0_4.length c0_4) := (blk_cell BK182.out 4).trans rfl
              have hfz27_0 := blk_frozen BK182.out 0
              have hfz27_1 := blk_frozen BK182.out 1
              have hfz27_2 := blk_frozen BK182.out 2
              have hfz27_3 := blk_frozen BK182.out 3
              have hfz27_4 := blk_frozen BK182.out 4
              go_upto_region 9 with (fail)
              go_cut [40] (fun v40 wc => ∃ (kq : Nat) (x40_25 : Bool), v40 = .bool x40_25 ∧ Aside0 (meddlerref6_Expr.j1 kq x40_25 a0_0 a0_1 a0_2 a0_3 l0_4 = some r) ∧ Aside0 (kq ≤ kj9) ∧ Aside0 (wc.heap[gb182]? = some (.cells #[.int .i64 a0_0, .int .i64 a0_1, .int .i64 a0_2, .string a0_3, (.slice A0_4 l0_4.length c0_4)] 30 (0, 0))) ∧ Aside0 (Below w.heap.size w wc))
              case first =>
                have H := HC26.out
                clear HC26
                by_cases c28 : a0_0 = 5
                · rw [if_pos c28] at H
                  have c28b0 : (a0_0 == 5) = true := beq_iff_eq.mpr c28
                  have c28b1 : (a0_0 != 5) = false := bne_eq_false_iff_eq.mpr c28
                  clear c28
                  (first | rw [c28b0] | (simp only [i64_w, i32_w]; rw [c28b0]) | skip)
                  by_cases c29 : (l0_4.length : Int) > 1
                  · rw [if_pos c29] at H
                    have c29b0 : decide (1 < (l0_4.length : Int)) = true := decide_eq_true c29
                    have c29b1 : decide (1 < l0_4.length) = true := decide_eq_true (by omega)
                    clear c29
                    by_cases c30 : a0_2 ≥ 1
                    · rw [if_pos c30] at H
                      have c30b0 : decide (1 ≤ a0_2) = true := decide_eq_true c30
                      clear c30
                      have H' := Aside0.mk H
                      clear H
                      have hcz31_0 : wc.cell? ⟨gb182, 0, none⟩ = some (.int .i64 a0_0) := (blk_cell BK182.out 0).trans rfl
                      have hcz31_1 : wc.cell? ⟨gb182, 1, none⟩ = some (.int .i64 a0_1) := (blk_cell BK182.out 1).trans rfl
                      have hcz31_2 : wc.cell? ⟨gb182, 2, none⟩ = some (.int .i64 a0_2) := (blk_cell BK182.out 2).trans rfl
                      have hcz31_3 : wc.cell? ⟨gb182, 3, none⟩ = some (.string a0_3) := (blk_cell BK182.out 3).trans rfl
                      have hcz31_4 : wc.cell? ⟨gb182, 4, none⟩ = some (.slice A0_4 l0_4.length c0_4) := (blk_cell BK182.out 4).trans rfl
                      have hfz31_0 := blk_frozen BK182.out 0
                      have hfz31_1 := blk_frozen BK182.out 1
                      have hfz31_2 := blk_frozen BK182.out 2
                      have hfz31_3 := blk_frozen BK182.out 3
                      have hfz31_4 := blk_frozen BK182.out 4
                      go_wp2
                      go_meet
                      case rel => exact ⟨_, (decide (a0_2 ≤ 5)), (by first | rfl | (simp; done) | (simp [*]; done)), H', ⟨by have := HJ9.out; first | omega | exact Nat.le_refl _⟩, ⟨by (with_reducible repeat (first | refine blk_drewN ?_ _ | refine blk_drew ?_ | refine blk_alloc ?_ _)); exact BK182.out⟩, ⟨by repeat (first | (with_reducible first | exact HB.out | apply below_alloc | apply pw_below_drewN | apply below_drew1 | refine below_set ?_ GE182.out) | exact HB.out)⟩⟩
                    · rw [if_neg c30] at H
                      have c30b0 : decide (1 ≤ a0_2) = false := decide_eq_false c30
                      clear c30
                      have H' := Aside0.mk H
                      clear H
                      have hcz32_0 : wc.cell? ⟨gb182, 0, none⟩ = some (.int .i64 a0_0) := (blk_cell BK182.out 0).trans rfl
                      have hcz32_1 : wc.cell? ⟨gb182, 1, none⟩ = some (.int .i64 a0_1) := (blk_cell BK182.out 1).trans rfl
                      have hcz32_2 : wc.cell? ⟨gb182, 2, none⟩ = some (.int .i64 a0_2) := (blk_cell BK182.out 2).trans rfl
                      have hcz32_3 : wc.cell? ⟨gb182, 3, none⟩ = some (.string a0_3) := (blk_cell BK182.out 3).trans rfl
                      have hcz32_4 : wc.cell? ⟨gb182, 4, none⟩ = some (.slice A0_4 l0_4.length c0_4) := (blk_cell BK182.out 4).trans rfl
                      have hfz32_0 := blk_frozen BK182.out 0
                      have hfz32_1 := blk_frozen BK182.out 1
                      have hfz32_2 := blk_frozen BK182.out 2
                      have hfz32_3 := blk_frozen BK182.out 3
                      have hfz32_4 := blk_frozen BK182.out 4
                      go_wp2
                      go_meet
                      case rel => exact ⟨_, (false), (by first | rfl | (simp; done) | (simp [*]; done)), H', ⟨by have := HJ9.out; first | omega | exact Nat.le_refl _⟩, ⟨by (with_reducible repeat (first | refine blk_drewN ?_ _ | refine blk_drew ?_ | refine blk_alloc ?_ _)); exact BK182.out⟩, ⟨by repeat (first | (with_reducible first | exact HB.out | apply below_alloc | apply pw_below_drewN | apply below_drew1 | refine below_set ?_ GE182.out) | exact HB.out)⟩⟩
                  · rw [if_neg c29] at H
                    have c29b0 : decide (1 < (l0_4.length : Int)) = false := decide_eq_false c29
                    have c29b1 : decide (1 < l0_4.length) = false := decide_eq_false (by omega)
                    clear c29
                    have H' := Aside0.mk H
                    clear H
                    have hcz33_0 : wc.cell? ⟨gb182, 0, none⟩ = some (.int .i64 a0_0) := (blk_cell BK182.out 0).trans rfl
                    have hcz33_1 : wc.cell? ⟨gb182, 1, none⟩ = some (.int .i64 a0_1) := (blk_cell BK182.out 1).trans rfl
                    have hcz33_2 : wc.cell? ⟨gb182, 2, none⟩ = some (.int .i64 a0_2) := (blk_cell BK182.out 2).trans rfl
                    have hcz33_3 : wc.cell? ⟨gb182, 3, none⟩ = some (.string a0_3) := (blk_cell BK182.out 3).trans rfl
                    have hcz33_4 : wc.cell? ⟨gb182, 4, none⟩ = some (.slice A0_4 l0_4.length c0_4) := (blk_cell BK182.out 4).trans rfl
                    have hfz33_0 := blk_frozen BK182.out 0
                    have hfz33_1 := blk_frozen BK182.out 1
                    have hfz33_2 := blk_frozen BK182.out 2
                    have hfz33_3 := blk_frozen BK182.out 3
                    have hfz33_4 := blk_frozen BK182.out 4
                    go_wp2
                    go_meet
                    case rel => exact ⟨_, (false), (by first | rfl | (simp; done) | (simp [*]; done)), H', ⟨by have := HJ9.out; first | omega | exact Nat.le_refl _⟩, ⟨by (with_reducible repeat (first | refine blk_drewN ?_ _ | refine blk_drew ?_ | refine blk_alloc ?_ _)); exact BK182.out⟩, ⟨by repeat (first | (with_reducible first | exact HB.out | apply below_alloc | apply pw_below_drewN | apply below_drew1 | refine below_set ?_ GE182.out) | exact HB.out)⟩⟩
                · rw [if_neg c28] at H
                  have c28b0 : (a0_0 == 5) = false := beq_eq_false_iff_ne.mpr c28
                  have c28b1 : (a0_0 != 5) = true := bne_iff_ne.mpr c28
                  (first | rw [c28b0] | (simp only [i64_w, i32_w]; rw [c28b0]) | skip)
                  have H' := Aside0.mk H
                  clear H
                  have hcz34_0 : wc.cell? ⟨gb182, 0, none⟩ = some (.int .i64 a0_0) := (blk_cell BK182.out 0).trans rfl
                  have hcz34_1 : wc.cell? ⟨gb182, 1, none⟩ = some (.int .i64 a0_1) := (blk_cell BK182.out 1).trans rfl
                  have hcz34_2 : wc.cell? ⟨gb182, 2, none⟩ = some (.int .i64 a0_2) := (blk_cell BK182.out 2).trans rfl
                  have hcz34_3 : wc.cell? ⟨gb182, 3, none⟩ = some (.string a0_3) := (blk_cell BK182.out 3).trans rfl
                  have hcz34_4 : wc.cell? ⟨gb182, 4, none⟩ = some (.slice A0_4 l0_4.length c0_4) := (blk_cell BK182.out 4).trans rfl
                  have hfz34_0 := blk_frozen BK182.out 0
                  have hfz34_1 := blk_frozen BK182.out 1
                  have hfz34_2 := blk_frozen BK182.out 2
                  have hfz34_3 := blk_frozen BK182.out 3
                  have hfz34_4 := blk_frozen BK182.out 4
                  go_wp2
                  go_meet
                  case rel => exact ⟨_, (false), (by first | rfl | (simp; done) | (simp [*]; done)), H', ⟨by have := HJ9.out; first | omega | exact Nat.le_refl _⟩, ⟨by (with_reducible repeat (first | refine blk_drewN ?_ _ | refine blk_drew ?_ | refine blk_alloc ?_ _)); exact BK182.out⟩, ⟨by repeat (first | (with_reducible first | exact HB.out | apply below_alloc | apply pw_below_drewN | apply below_drew1 | refine below_set ?_ GE182.out) | exact HB.out)⟩⟩
              case rest =>
                clear HC26
                try clear c1
                try clear p1
                try clear q1
                try clear hx1
                try clear qi1
                try clear c2
                try clear c2b0
                try clear c2b1
                try clear p2
                try clear c3
                try clear c7
                try clear c7b0
                try clear c7b1
                try clear c13
                try clear c13b0
                try clear c13b1
                try clear c14
                try clear c16
                try clear c17
                try clear c17b0
                try clear c17b1
                try clear c17b2
                try clear c18
                try clear c18b0
                try clear c18b1
                try clear p18
                try clear q18
                try clear hx18
                try clear qi18
                try clear c20
                try clear c20b0
                try clear c20b1
                try clear c20b2
                try clear c21
                try clear c21b0
                try clear c21b1
                try clear c21b2
                try clear c24
                try clear c24b0
                try clear c24b1
                try clear c27
                try clear c28
                try clear c28b0
                try clear c28b1
                try clear c29
                try clear c29b0
                try clear c29b1
                try clear c30
                try clear c30b0
                try clear hcz12_0
                try clear hcz12_1
                try clear hcz12_2
                try clear hcz12_3
                try clear hcz12_4
                try clear hcz14_0
                try clear hcz14_1
                try clear hcz14_2
                try clear hcz14_3
                try clear hcz14_4
                try clear hcz15_0
                try clear hcz15_1
                try clear hcz15_2
                try clear hcz15_3
                try clear hcz15_4
                try clear hcz25_0
                try clear hcz25_1
                try clear hcz25_2
                try clear hcz25_3
                try clear hcz25_4
                try clear hcz27_0
                try clear hcz27_1
                try clear hcz27_2
                try clear hcz27_3
                try clear hcz27_4
                try clear hcz31_0
                try clear hcz31_1
                try clear hcz31_2
                try clear hcz31_3
                try clear hcz31_4
                try clear hcz32_0
                try clear hcz32_1
                try clear hcz32_2
                try clear hcz32_3
                try clear hcz32_4
                try clear hcz33_0
                try clear hcz33_1
                try clear hcz33_2
                try clear hcz33_3
                try clear hcz33_4
                try clear hcz34_0
                try clear hcz34_1
                try clear hcz34_2
                try clear hcz34_3
                try clear hcz34_4
                try clear hcz5_0
                try clear hcz5_1
                try clear hcz5_2
                try clear hcz5_3
                try clear hcz5_4
                try clear hcz9_0
                try clear hcz9_1
                try clear hcz9_2
                try clear hcz9_3
                try clear hcz9_4
                try clear hfz12_0
                try clear hfz12_1
                try clear hfz12_2
                try clear hfz12_3
                try clear hfz12_4
                try clear hfz14_0
                try clear hfz14_1
                try clear hfz14_2
                try clear hfz14_3
                try clear hfz14_4
                try clear hfz15_0
                try clear hfz15_1
                try clear hfz15_2
                try clear hfz15_3
                try clear hfz15_4
                try clear hfz25_0
                try clear hfz25_1
                try clear hfz25_2
                try clear hfz25_3
                try clear hfz25_4
                try clear hfz27_0
                try clear hfz27_1
                try clear hfz27_2
                try clear hfz27_3
                try clear hfz27_4
                try clear hfz31_0
                try clear hfz31_1
                try clear hfz31_2
                try clear hfz31_3
                try clear hfz31_4
                try clear hfz32_0
                try clear hfz32_1
                try clear hfz32_2
                try clear hfz32_3
                try clear hfz32_4
                try clear hfz33_0
                try clear hfz33_1
                try clear hfz33_2
                try clear hfz33_3
                try clear hfz33_4
                try clear hfz34_0
                try clear hfz34_1
                try clear hfz34_2
                try clear hfz34_3
                try clear hfz34_4
                try clear hfz5_0
                try clear hfz5_1
                try clear hfz5_2
                try clear hfz5_3
                try clear hfz5_4
                try clear hfz9_0
                try clear hfz9_1
                try clear hfz9_2
                try clear hfz9_3
                try clear hfz9_4
                try clear hx184_0
                try clear hx184_1
                try clear hx184_2
                try clear hx184_3
                try clear hx184_4
                try clear p184
                try clear p2
                try clear q184
                obtain ⟨kq, x40_25, rfl, HA, HJ25, BK182, HB⟩ := hcut
                cases kq with
                | zero => exact absurd HA.out (by simp [meddlerref6_Expr.j1])
                | succ kj25 =>
                  have H := HA.out
                  clear HA
                  simp only [meddlerref6_Expr.j1] at H
                  by_cases c35 : x40_25 = true
                  · subst c35
                    have H1 : (if 0 < (l0_4.length : Int) then ((meddlerref6_Expr.f kj25 ((rd_T30 l0_4 0).f0) ((rd_T30 l0_4 0).f1) ((rd_T30 l0_4 0).f2) ((rd_T30 l0_4 0).f3) ((rd_T30 l0_4 0).f4)).bind fun t187 => (if 1 + t187.size ≤ 9223372036854775807 then (if ((⟨#[40]⟩ : ByteArray) ++ t187).size + 1 ≤ 9223372036854775807 then (if 0 ≤ (wrap64 (a0_2 - 1)) then (if (wrap64 (a0_2 - 1)) ≤ a0_2 then (if a0_2 ≤ 5 then (if (((⟨#[40]⟩ : ByteArray) ++ t187) ++ (⟨#[32]⟩ : ByteArray)).size + ((⟨#[43, 45, 42, 47, 37]⟩ : ByteArray).extract ((wrap64 (a0_2 - 1)) : Int).toNat (a0_2 : Int).toNat).size ≤ 9223372036854775807 then (if ((((⟨#[40]⟩ : ByteArray) ++ t187) ++ (⟨#[32]⟩ : ByteArray)) ++ ((⟨#[43, 45, 42, 47, 37]⟩ : ByteArray).extract ((wrap64 (a0_2 - 1)) : Int).toNat (a0_2 : Int).toNat)).size + 1 ≤ 9223372036854775807 then (if 1 < (l0_4.length : Int) then ((meddlerref6_Expr.f kj25 ((rd_T30 l0_4 1).f0) ((rd_T30 l0_4 1).f1) ((rd_T30 l0_4 1).f2) ((rd_T30 l0_4 1).f3) ((rd_T30 l0_4 1).f4)).bind fun t189 => (if (((((⟨#[40]⟩ : ByteArray) ++ t187) ++ (⟨#[32]⟩ : ByteArray)) ++ ((⟨#[43, 45, 42, 47, 37]⟩ : ByteArray).extract ((wrap64 (a0_2 - 1)) : Int).toNat (a0_2 : Int).toNat)) ++ (⟨#[32]⟩ : ByteArray)).size + t189.size ≤ 9223372036854775807 then (if ((((((⟨#[40]⟩ : ByteArray) ++ t187) ++ (⟨#[32]⟩ : ByteArray)) ++ ((⟨#[43, 45, 42, 47, 37]⟩ : ByteArray).extract ((wrap64 (a0_2 - 1)) : Int).toNat (a0_2 : Int).toNat)) ++ (⟨#[32]⟩ : ByteArray)) ++ t189).size + 1 ≤ 9223372036854775807 then (some (((((((⟨#[40]⟩ : ByteArray) ++ t187) ++ (⟨#[32]⟩ : ByteArray)) ++ ((⟨#[43, 45, 42, 47, 37]⟩ : ByteArray).extract ((wrap64 (a0_2 - 1)) : Int).toNat (a0_2 : Int).toNat)) ++ (⟨#[32]⟩ : ByteArray)) ++ t189) ++ (⟨#[41]⟩ : ByteArray))) else (none)) else (none))) else (none)) else (none)) else (none)) else (none)) else (none)) else (none)) else (none)) else (none))) else (none)) = some r := by rw [if_pos rfl] at H; exact H
                    clear H
                    have H := H1
                    clear H1
                    by_cases c36 : 0 < (l0_4.length : Int)
                    · rw [if_pos c36] at H
                      have c36b0 : decide (0 < (l0_4.length : Int)) = true := decide_eq_true c36
                      have c36b1 : decide (0 < l0_4.length) = true := decide_eq_true (by omega)
                      clear c36
                      replace H := Option.bind_eq_some_iff.mp H
                      obtain ⟨t187, A370, H⟩ := H
                      replace H : (if 1 + t187.size ≤ 9223372036854775807 then (if ((⟨#[40]⟩ : ByteArray) ++ t187).size + 1 ≤ 9223372036854775807 then (if 0 ≤ (wrap64 (a0_2 - 1)) then (if (wrap64 (a0_2 - 1)) ≤ a0_2 then (if a0_2 ≤ 5 then (if (((⟨#[40]⟩ : ByteArray) ++ t187) ++ (⟨#[32]⟩ : ByteArray)).size + ((⟨#[43, 45, 42, 47, 37]⟩ : ByteArray).extract ((wrap64 (a0_2 - 1)) : Int).toNat (a0_2 : Int).toNat).size ≤ 9223372036854775807 then (if ((((⟨#[40]⟩ : ByteArray) ++ t187) ++ (⟨#[32]⟩ : ByteArray)) ++ ((⟨#[43, 45, 42, 47, 37]⟩ : ByteArray).extract ((wrap64 (a0_2 - 1)) : Int).toNat (a0_2 : Int).toNat)).size + 1 ≤ 9223372036854775807 then (if 1 < (l0_4.length : Int) then ((meddlerref6_Expr.f kj25 ((rd_T30 l0_4 1).f0) ((rd_T30 l0_4 1).f1) ((rd_T30 l0_4 1).f2) ((rd_T30 l0_4 1).f3) ((rd_T30 l0_4 1).f4)).bind fun t189 => (if (((((⟨#[40]⟩ : ByteArray) ++ t187) ++ (⟨#[32]⟩ : ByteArray)) ++ ((⟨#[43, 45, 42, 47, 37]⟩ : ByteArray).extract ((wrap64 (a0_2 - 1)) : Int).toNat (a0_2 : Int).toNat)) ++ (⟨#[32]⟩ : ByteArray)).size + t189.size ≤ 9223372036854775807 then (if ((((((⟨#[40]⟩ : ByteArray) ++ t187) ++ (⟨#[32]⟩ : ByteArray)) ++ ((⟨#[43, 45, 42, 47, 37]⟩ : ByteArray).extract ((wrap64 (a0_2 - 1)) : Int).toNat (a0_2 : Int).toNat)) ++ (⟨#[32]⟩ : ByteArray)) ++ t189).size + 1 ≤ 9223372036854775807 then (some (((((((⟨#[40]⟩ : ByteArray) ++ t187) ++ (⟨#[32]⟩ : ByteArray)) ++ ((⟨#[43, 45, 42, 47, 37]⟩ : ByteArray).extract ((wrap64 (a0_2 - 1)) : Int).toNat (a0_2 : Int).toNat)) ++ (⟨#[32]⟩ : ByteArray)) ++ t189) ++ (⟨#[41]⟩ : ByteArray))) else (none)) else (none))) else (none)) else (none)) else (none)) else (none)) else (none)) else (none)) else (none)) else (none)) = some r := H
                      have A37 := Aside0.mk A370
                      clear A370
                      by_cases c38 : 1 + t187.size ≤ 9223372036854775807
                      · rw [if_pos c38] at H
                        have c38b0 := eq_true c38
                        have c38b1 : decide (1 + t187.size ≤ 9223372036854775807) = true := decide_eq_true c38
                        try have c38b2 : (9223372036854775807 < 1 + t187.size) = False := eq_false (Nat.not_lt.2 c38)
                        try have c38b3 := c38b2
                        try simp only [ByteArray.size_append, szl14, List.size_toArray, List.length_cons, List.length_nil, Nat.zero_add, Nat.reduceAdd] at c38b3
                        by_cases c39 : ((⟨#[40]⟩ : ByteArray) ++ t187).size + 1 ≤ 9223372036854775807
                        · rw [if_pos c39] at H
                          have c39b0 := eq_true c39
                          have c39b1 : decide (((⟨#[40]⟩ : ByteArray) ++ t187).size + 1 ≤ 9223372036854775807) = true := decide_eq_true c39
                          try have c39b2 : (9223372036854775807 < ((⟨#[40]⟩ : ByteArray) ++ t187).size + 1) = False := eq_false (Nat.not_lt.2 c39)
                          try have c39b3 := c39b2
                          try simp only [ByteArray.size_append, szl14, List.size_toArray, List.length_cons, List.length_nil, Nat.zero_add, Nat.reduceAdd] at c39b3
                          obtain ⟨ji40, hji40⟩ : ∃ j_ : Int, (wrap64 (a0_2 - 1)) = j_ := ⟨_, rfl⟩
                          replace H : (if 0 ≤ (ji40) then (if (ji40) ≤ a0_2 then (if a0_2 ≤ 5 then (if (((⟨#[40]⟩ : ByteArray) ++ t187) ++ (⟨#[32]⟩ : ByteArray)).size + ((⟨#[43, 45, 42, 47, 37]⟩ : ByteArray).extract ((ji40) : Int).toNat (a0_2 : Int).toNat).size ≤ 9223372036854775807 then (if ((((⟨#[40]⟩ : ByteArray) ++ t187) ++ (⟨#[32]⟩ : ByteArray)) ++ ((⟨#[43, 45, 42, 47, 37]⟩ : ByteArray).extract ((ji40) : Int).toNat (a0_2 : Int).toNat)).size + 1 ≤ 9223372036854775807 then (if 1 < (l0_4.length : Int) then ((meddlerref6_Expr.f kj25 ((rd_T30 l0_4 1).f0) ((rd_T30 l0_4 1).f1) ((rd_T30 l0_4 1).f2) ((rd_T30 l0_4 1).f3) ((rd_T30 l0_4 1).f4)).bind fun t189 => (if (((((⟨#[40]⟩ : ByteArray) ++ t187) ++ (⟨#[32]⟩ : ByteArray)) ++ ((⟨#[43, 45, 42, 47, 37]⟩ : ByteArray).extract ((ji40) : Int).toNat (a0_2 : Int).toNat)) ++ (⟨#[32]⟩ : ByteArray)).size + t189.size ≤ 9223372036854775807 then (if ((((((⟨#[40]⟩ : ByteArray) ++ t187) ++ (⟨#[32]⟩ : ByteArray)) ++ ((⟨#[43, 45, 42, 47, 37]⟩ : ByteArray).extract ((ji40) : Int).toNat (a0_2 : Int).toNat)) ++ (⟨#[32]⟩ : ByteArray)) ++ t189).size + 1 ≤ 9223372036854775807 then (some (((((((⟨#[40]⟩ : ByteArray) ++ t187) ++ (⟨#[32]⟩ : ByteArray)) ++ ((⟨#[43, 45, 42, 47, 37]⟩ : ByteArray).extract ((ji40) : Int).toNat (a0_2 : Int).toNat)) ++ (⟨#[32]⟩ : ByteArray)) ++ t189) ++ (⟨#[41]⟩ : ByteArray))) else (none)) else (none))) else (none)) else (none)) else (none)) else (none)) else (none)) else (none)) = some r := by first | (rw [hji40] at H; exact H) | (simp only [hji40] at H ⊢; exact H)
                          (try rw [hji40] at A37)
                          have hji40w : (IntKind.i64.wrap (a0_2 - 1)) = ji40 := (i64_w _).trans hji40
                          by_cases c41 : 0 ≤ (ji40)
                          · rw [if_pos c41] at H
                            have c41b0 := eq_true c41
                            have c41b1 : decide (0 ≤ (ji40)) = true := decide_eq_true c41
                            clear c41
                            by_cases c42 : (ji40) ≤ a0_2
                            · rw [if_pos c42] at H
                              have c42b0 := eq_true c42
                              have c42b1 : decide ((ji40) ≤ a0_2) = true := decide_eq_true c42
                              clear c42
                              by_cases c43 : a0_2 ≤ 5
                              · rw [if_pos c43] at H
                                have c43b0 := eq_true c43
                                have c43b1 : decide (a0_2 ≤ 5) = true := decide_eq_true c43
                                clear c43
                                by_cases c44 : (((⟨#[40]⟩ : ByteArray) ++ t187) ++ (⟨#[32]⟩ : ByteArray)).size + ((⟨#[43, 45, 42, 47, 37]⟩ : ByteArray).extract ((ji40) : Int).toNat (a0_2 : Int).toNat).size ≤ 9223372036854775807
                                · rw [if_pos c44] at H
                                  have c44b0 := eq_true c44
                                  have c44b1 : decide ((((⟨#[40]⟩ : ByteArray) ++ t187) ++ (⟨#[32]⟩ : ByteArray)).size + ((⟨#[43, 45, 42, 47, 37]⟩ : ByteArray).extract ((ji40) : Int).toNat (a0_2 : Int).toNat).size ≤ 9223372036854775807) = true := decide_eq_true c44
                                  try have hE : ((⟨#[43, 45, 42, 47, 37]⟩ : ByteArray).extract ((ji40) : Int).toNat (a0_2 : Int).toNat).size = a0_2.toNat - ji40.toNat := by { rw [ByteArray.size_extract]; have h8 : a0_2 ≤ 5 := (by first | assumption | (apply of_decide_eq_true; assumption)); show min _ 5 - _ = _; omega }
                                  try have c44b2 : (9223372036854775807 < (((⟨#[40]⟩ : ByteArray) ++ t187) ++ (⟨#[32]⟩ : ByteArray)).size + ((⟨#[43, 45, 42, 47, 37]⟩ : ByteArray).extract ((ji40) : Int).toNat (a0_2 : Int).toNat).size) = False := eq_false (Nat.not_lt.2 c44)
                                  try have c44b3 := c44b2
                                  try simp only [ByteArray.size_append, szl14, List.size_toArray, List.length_cons, List.length_nil, Nat.zero_add, Nat.reduceAdd, hE] at c44b3
                                  by_cases c45 : ((((⟨#[40]⟩ : ByteArray) ++ t187) ++ (⟨#[32]⟩ : ByteArray)) ++ ((⟨#[43, 45, 42, 47, 37]⟩ : ByteArray).extract ((ji40) : Int).toNat (a0_2 : Int).toNat)).size + 1 ≤ 9223372036854775807
                                  · rw [if_pos c45] at H
                                    have c45b0 := eq_true c45
                                    have c45b1 : decide (((((⟨#[40]⟩ : ByteArray) ++ t187) ++ (⟨#[32]⟩ : ByteArray)) ++ ((⟨#[43, 45, 42, 47, 37]⟩ : ByteArray).extract ((ji40) : Int).toNat (a0_2 : Int).toNat)).size + 1 ≤ 9223372036854775807) = true := decide_eq_true c45
                                    try have hE : ((⟨#[43, 45, 42, 47, 37]⟩ : ByteArray).extract ((ji40) : Int).toNat (a0_2 : Int).toNat).size = a0_2.toNat - ji40.toNat := by { rw [ByteArray.size_extract]; have h8 : a0_2 ≤ 5 := (by first | assumption | (apply of_decide_eq_true; assumption)); show min _ 5 - _ = _; omega }
                                    try have c45b2 : (9223372036854775807 < ((((⟨#[40]⟩ : ByteArray) ++ t187) ++ (⟨#[32]⟩ : ByteArray)) ++ ((⟨#[43, 45, 42, 47, 37]⟩ : ByteArray).extract ((ji40) : Int).toNat (a0_2 : Int).toNat)).size + 1) = False := eq_false (Nat.not_lt.2 c45)
                                    try have c45b3 := c45b2
                                    try simp only [ByteArray.size_append, szl14, List.size_toArray, List.length_cons, List.length_nil, Nat.zero_add, Nat.reduceAdd, hE] at c45b3
                                    by_cases c46 : 1 < (l0_4.length : Int)
                                    · rw [if_pos c46] at H
                                      have c46b0 : decide (1 < (l0_4.length : Int)) = true := decide_eq_true c46
                                      have c46b1 : decide (1 < l0_4.length) = true := decide_eq_true (by omega)
                                      clear c46
                                      replace H := Option.bind_eq_some_iff.mp H
                                      obtain ⟨t189, A470, H⟩ := H
                                      replace H : (if (((((⟨#[40]⟩ : ByteArray) ++ t187) ++ (⟨#[32]⟩ : ByteArray)) ++ ((⟨#[43, 45, 42, 47, 37]⟩ : ByteArray).extract ((ji40) : Int).toNat (a0_2 : Int).toNat)) ++ (⟨#[32]⟩ : ByteArray)).size + t189.size ≤ 9223372036854775807 then (if ((((((⟨#[40]⟩ : ByteArray) ++ t187) ++ (⟨#[32]⟩ : ByteArray)) ++ ((⟨#[43, 45, 42, 47, 37]⟩ : ByteArray).extract ((ji40) : Int).toNat (a0_2 : Int).toNat)) ++ (⟨#[32]⟩ : ByteArray)) ++ t189).size + 1 ≤ 9223372036854775807 then (some (((((((⟨#[40]⟩ : ByteArray) ++ t187) ++ (⟨#[32]⟩ : ByteArray)) ++ ((⟨#[43, 45, 42, 47, 37]⟩ : ByteArray).extract ((ji40) : Int).toNat (a0_2 : Int).toNat)) ++ (⟨#[32]⟩ : ByteArray)) ++ t189) ++ (⟨#[41]⟩ : ByteArray))) else (none)) else (none)) = some r := H
                                      have A47 := Aside0.mk A470
                                      clear A470
                                      by_cases c48 : (((((⟨#[40]⟩ : ByteArray) ++ t187) ++ (⟨#[32]⟩ : ByteArray)) ++ ((⟨#[43, 45, 42, 47, 37]⟩ : ByteArray).extract ((ji40) : Int).toNat (a0_2 : Int).toNat)) ++ (⟨#[32]⟩ : ByteArray)).size + t189.size ≤ 9223372036854775807
                                      · rw [if_pos c48] at H
                                        have c48b0 := eq_true c48
                                        have c48b1 : decide ((((((⟨#[40]⟩ : ByteArray) ++ t187) ++ (⟨#[32]⟩ : ByteArray)) ++ ((⟨#[43, 45, 42, 47, 37]⟩ : ByteArray).extract ((ji40) : Int).toNat (a0_2 : Int).toNat)) ++ (⟨#[32]⟩ : ByteArray)).size + t189.size ≤ 9223372036854775807) = true := decide_eq_true c48
                                        try have hE : ((⟨#[43, 45, 42, 47, 37]⟩ : ByteArray).extract ((ji40) : Int).toNat (a0_2 : Int).toNat).size = a0_2.toNat - ji40.toNat := by { rw [ByteArray.size_extract]; have h8 : a0_2 ≤ 5 := (by first | assumption | (apply of_decide_eq_true; assumption)); show min _ 5 - _ = _; omega }
                                        try have c48b2 : (9223372036854775807 < (((((⟨#[40]⟩ : ByteArray) ++ t187) ++ (⟨#[32]⟩ : ByteArray)) ++ ((⟨#[43, 45, 42, 47, 37]⟩ : ByteArray).extract ((ji40) : Int).toNat (a0_2 : Int).toNat)) ++ (⟨#[32]⟩ : ByteArray)).size + t189.size) = False := eq_false (Nat.not_lt.2 c48)
                                        try have c48b3 := c48b2
                                        try simp only [ByteArray.size_append, szl14, List.size_toArray, List.length_cons, List.length_nil, Nat.zero_add, Nat.reduceAdd, hE] at c48b3
                                        by_cases c49 : ((((((⟨#[40]⟩ : ByteArray) ++ t187) ++ (⟨#[32]⟩ : ByteArray)) ++ ((⟨#[43, 45, 42, 47, 37]⟩ : ByteArray).extract ((ji40) : Int).toNat (a0_2 : Int).toNat)) ++ (⟨#[32]⟩ : ByteArray)) ++ t189).size + 1 ≤ 9223372036854775807
                                        · rw [if_pos c49] at H
                                          have c49b0 := eq_true c49
                                          have c49b1 : decide (((((((⟨#[40]⟩ : ByteArray) ++ t187) ++ (⟨#[32]⟩ : ByteArray)) ++ ((⟨#[43, 45, 42, 47, 37]⟩ : ByteArray).extract ((ji40) : Int).toNat (a0_2 : Int).toNat)) ++ (⟨#[32]⟩ : ByteArray)) ++ t189).size + 1 ≤ 9223372036854775807) = true := decide_eq_true c49
                                          try have hE : ((⟨#[43, 45, 42, 47, 37]⟩ : ByteArray).extract ((ji40) : Int).toNat (a0_2 : Int).toNat).size = a0_2.toNat - ji40.toNat := by { rw [ByteArray.size_extract]; have h8 : a0_2 ≤ 5 := (by first | assumption | (apply of_decide_eq_true; assumption)); show min _ 5 - _ = _; omega }
                                          try have c49b2 : (9223372036854775807 < ((((((⟨#[40]⟩ : ByteArray) ++ t187) ++ (⟨#[32]⟩ : ByteArray)) ++ ((⟨#[43, 45, 42, 47, 37]⟩ : ByteArray).extract ((ji40) : Int).toNat (a0_2 : Int).toNat)) ++ (⟨#[32]⟩ : ByteArray)) ++ t189).size + 1) = False := eq_false (Nat.not_lt.2 c49)
                                          try have c49b3 := c49b2
                                          try simp only [ByteArray.size_append, szl14, List.size_toArray, List.length_cons, List.length_nil, Nat.zero_add, Nat.reduceAdd, hE] at c49b3
                                          obtain rfl := Option.some.inj H
                                          try go_wp2
                                          have n0_ := Aside0.mk (blk_drew BK182.out)
                                          have n1_ := Aside0.mk (below_drew1 HB.out)
                                          clear BK182
                                          clear HB
                                          have BK182 := n0_
                                          have HB := n1_
                                          clear n0_ n1_
                                          have p186 : 0 ≤ (0 : Int) := (by omega)
                                          have q186 : 0 < (l0_4.length : Int) := of_decide_eq_true (by first | (with_reducible assumption) | assumption)
                                          obtain ⟨ad186, A186_4, c186_4, e186, hx186_0, hx186_1, hx186_2, hx186_3, hx186_4, hl186_4, hi186_4⟩ := at_T30 HR0_4.out 0 p186 q186
                                          have hw186_4 := hx186_4
                                          (try rw [show ((0 : Int)).toNat = 0 from rfl] at hw186_4)
                                          (try rw [show 0 * 5 = 0 from rfl] at hw186_4)
                                          (try rw [Addr.add_zero'] at hw186_4)
                                          have hw186_3 := hx186_3
                                          (try rw [show ((0 : Int)).toNat = 0 from rfl] at hw186_3)
                                          (try rw [show 0 * 5 = 0 from rfl] at hw186_3)
                                          (try rw [Addr.add_zero'] at hw186_3)
                                          have hw186_2 := hx186_2
                                          (try rw [show ((0 : Int)).toNat = 0 from rfl] at hw186_2)
                                          (try rw [show 0 * 5 = 0 from rfl] at hw186_2)
                                          (try rw [Addr.add_zero'] at hw186_2)
                                          have hw186_1 := hx186_1
                                          (try rw [show ((0 : Int)).toNat = 0 from rfl] at hw186_1)
                                          (try rw [show 0 * 5 = 0 from rfl] at hw186_1)
                                          (try rw [Addr.add_zero'] at hw186_1)
                                          have hw186_0 := hx186_0
                                          (try rw [show ((0 : Int)).toNat = 0 from rfl] at hw186_0)
                                          (try rw [show 0 * 5 = 0 from rfl] at hw186_0)
                                          (try rw [Addr.add_zero'] at hw186_0)
                                          cases e186
                                          have qi186 : (0 < l0_4.length) = True := eq_true (by omega)
                                          (try rw [show ((0 : Int)).toNat = 0 from rfl] at hx186_0)
                                          (try rw [show 0 * 5 = 0 from rfl] at hx186_0)
                                          (try rw [Addr.add_zero'] at hx186_0)
                                          (try rw [show ((0 : Int)).toNat = 0 from rfl] at hx186_1)
                                          (try rw [show 0 * 5 = 0 from rfl] at hx186_1)
                                          (try rw [Addr.add_zero'] at hx186_1)
                                          (try rw [show ((0 : Int)).toNat = 0 from rfl] at hx186_2)
                                          (try rw [show 0 * 5 = 0 from rfl] at hx186_2)
                                          (try rw [Addr.add_zero'] at hx186_2)
                                          (try rw [show ((0 : Int)).toNat = 0 from rfl] at hx186_3)
                                          (try rw [show 0 * 5 = 0 from rfl] at hx186_3)
                                          (try rw [Addr.add_zero'] at hx186_3)
                                          (try rw [show ((0 : Int)).toNat = 0 from rfl] at hx186_4)
                                          (try rw [show 0 * 5 = 0 from rfl] at hx186_4)
                                          (try rw [Addr.add_zero'] at hx186_4)
                                          replace hx186_0 := (HB.out.cell (World.block_lt_of_cell? w _ hx186_0)).trans hx186_0
                                          replace hx186_1 := (HB.out.cell (World.block_lt_of_cell? w _ hx186_1)).trans hx186_1
                                          replace hx186_2 := (HB.out.cell (World.block_lt_of_cell? w _ hx186_2)).trans hx186_2
                                          replace hx186_3 := (HB.out.cell (World.block_lt_of_cell? w _ hx186_3)).trans hx186_3
                                          replace hx186_4 := (HB.out.cell (World.block_lt_of_cell? w _ hx186_4)).trans hx186_4
                                          have HR186_4 := Aside0.mk hi186_4
                                          have HC186_4 := Aside0.mk hl186_4
                                          clear hi186_4 hl186_4
                                          replace p186 := eq_true p186
                                          replace q186 := eq_true q186
                                          have p188 : 0 ≤ (1 : Int) := (by omega)
                                          have q188 : 1 < (l0_4.length : Int) := of_decide_eq_true (by first | (with_reducible assumption) | assumption)
                                          obtain ⟨ad188, A188_4, c188_4, e188, hx188_0, hx188_1, hx188_2, hx188_3, hx188_4, hl188_4, hi188_4⟩ := at_T30 HR0_4.out 1 p188 q188
                                          have hw188_4 := hx188_4
                                          (try rw [show ((1 : Int)).toNat = 1 from rfl] at hw188_4)
                                          (try rw [show 1 * 5 = 5 from rfl] at hw188_4)
                                          (try simp only [Nat.reduceMul, Nat.reduceEqDiff, Go.Addr.add, ↓reduceIte] at hw188_4)
                                          have hw188_3 := hx188_3
                                          (try rw [show ((1 : Int)).toNat = 1 from rfl] at hw188_3)
                                          (try rw [show 1 * 5 = 5 from rfl] at hw188_3)
                                          (try simp only [Nat.reduceMul, Nat.reduceEqDiff, Go.Addr.add, ↓reduceIte] at hw188_3)
                                          have hw188_2 := hx188_2
                                          (try rw [show ((1 : Int)).toNat = 1 from rfl] at hw188_2)
                                          (try rw [show 1 * 5 = 5 from rfl] at hw188_2)
                                          (try simp only [Nat.reduceMul, Nat.reduceEqDiff, Go.Addr.add, ↓reduceIte] at hw188_2)
                                          have hw188_1 := hx188_1
                                          (try rw [show ((1 : Int)).toNat = 1 from rfl] at hw188_1)
                                          (try rw [show 1 * 5 = 5 from rfl] at hw188_1)
                                          (try simp only [Nat.reduceMul, Nat.reduceEqDiff, Go.Addr.add, ↓reduceIte] at hw188_1)
                                          have hw188_0 := hx188_0
                                          (try rw [show ((1 : Int)).toNat = 1 from rfl] at hw188_0)
                                          (try rw [show 1 * 5 = 5 from rfl] at hw188_0)
                                          (try simp only [Nat.reduceMul, Nat.reduceEqDiff, Go.Addr.add, ↓reduceIte] at hw188_0)
                                          obtain rfl : ad186 = ad188 := (by injection e188)
                                          (try simp only [show (1 : Int).toNat = 1 from rfl, Nat.reduceMul, Nat.reduceEqDiff, Go.Addr.add, ↓reduceIte] at hx188_0)
                                          (try simp only [show (1 : Int).toNat = 1 from rfl, Nat.reduceMul, Nat.reduceEqDiff, Go.Addr.add, ↓reduceIte] at hx188_1)
                                          (try simp only [show (1 : Int).toNat = 1 from rfl, Nat.reduceMul, Nat.reduceEqDiff, Go.Addr.add, ↓reduceIte] at hx188_2)
                                          (try simp only [show (1 : Int).toNat = 1 from rfl, Nat.reduceMul, Nat.reduceEqDiff, Go.Addr.add, ↓reduceIte] at hx188_3)
                                          (try simp only [show (1 : Int).toNat = 1 from rfl, Nat.reduceMul, Nat.reduceEqDiff, Go.Addr.add, ↓reduceIte] at hx188_4)
                                          have qi188 : (1 < l0_4.length) = True := eq_true (by omega)
                                          (try rw [show ((1 : Int)).toNat = 1 from rfl] at hx188_0)
                                          (try rw [show 1 * 5 = 5 from rfl] at hx188_0)
                                          (try rw [show ((1 : Int)).toNat = 1 from rfl] at hx188_1)
                                          (try rw [show 1 * 5 = 5 from rfl] at hx188_1)
                                          (try rw [show ((1 : Int)).toNat = 1 from rfl] at hx188_2)
                                          (try rw [show 1 * 5 = 5 from rfl] at hx188_2)
                                          (try rw [show ((1 : Int)).toNat = 1 from rfl] at hx188_3)
                                          (try rw [show 1 * 5 = 5 from rfl] at hx188_3)
                                          (try rw [show ((1 : Int)).toNat = 1 from rfl] at hx188_4)
                                          (try rw [show 1 * 5 = 5 from rfl] at hx188_4)
                                          replace hx188_0 := (HB.out.cell (World.block_lt_of_cell? w _ hx188_0)).trans hx188_0
                                          replace hx188_1 := (HB.out.cell (World.block_lt_of_cell? w _ hx188_1)).trans hx188_1
                                          replace hx188_2 := (HB.out.cell (World.block_lt_of_cell? w _ hx188_2)).trans hx188_2
                                          replace hx188_3 := (HB.out.cell (World.block_lt_of_cell? w _ hx188_3)).trans hx188_3
                                          replace hx188_4 := (HB.out.cell (World.block_lt_of_cell? w _ hx188_4)).trans hx188_4
                                          have HR188_4 := Aside0.mk hi188_4
                                          have HC188_4 := Aside0.mk hl188_4
                                          clear hi188_4 hl188_4
                                          replace p188 := eq_true p188
                                          replace q188 := eq_true q188
                                          refine start_ (n := 23) (S := fun w' => w'.cell? ⟨gb182, 0, none⟩ = some (.int .i64 a0_0) ∧ w'.cell? ⟨gb182, 1, none⟩ = some (.int .i64 a0_1) ∧ w'.cell? ⟨gb182, 2, none⟩ = some (.int .i64 a0_2) ∧ w'.cell? ⟨gb182, 3, none⟩ = some (.string a0_3) ∧ w'.cell? ⟨gb182, 4, none⟩ = some (.slice (some ad186) l0_4.length c0_4) ∧ w'.cell? ad186 = some (.int .i64 ((rd_T30 l0_4 0).f0)) ∧ w'.cell? ⟨ad186.block, ad186.off + 1, none⟩ = some (.int .i64 ((rd_T30 l0_4 0).f1)) ∧ w'.cell? ⟨ad186.block, ad186.off + 2, none⟩ = some (.int .i64 ((rd_T30 l0_4 0).f2)) ∧ w'.cell? ⟨ad186.block, ad186.off + 3, none⟩ = some (.string ((rd_T30 l0_4 0).f3)) ∧ w'.cell? ⟨ad186.block, ad186.off + 4, none⟩ = some (.slice A186_4 ((rd_T30 l0_4 0).f4).length c186_4) ∧ w'.cell? ⟨ad186.block, ad186.off + 5, none⟩ = some (.int .i64 ((rd_T30 l0_4 1).f0)) ∧ w'.cell? ⟨ad186.block, ad186.off + 5 + 1, none⟩ = some (.int .i64 ((rd_T30 l0_4 1).f1)) ∧ w'.cell? ⟨ad186.block, ad186.off + 5 + 2, none⟩ = some (.int .i64 ((rd_T30 l0_4 1).f2)) ∧ w'.cell? ⟨ad186.block, ad186.off + 5 + 3, none⟩ = some (.string ((rd_T30 l0_4 1).f3)) ∧ w'.cell? ⟨ad186.block, ad186.off + 5 + 4, none⟩ = some (.slice A188_4 ((rd_T30 l0_4 1).f4).length c188_4)) (ds := []) #[false, false, false, false, false, false, false, false, false, false, false, false, false, false, false, false, false, false, false, false, false, false, false] (by kernel_rfl) rfl rfl ⟨(blk_cell BK182.out 0).trans rfl, (blk_cell BK182.out 1).trans rfl, (blk_cell BK182.out 2).trans rfl, (blk_cell BK182.out 3).trans rfl, (blk_cell BK182.out 4).trans rfl, ((HB.out.cell (World.block_lt_of_cell? w _ hw186_0)).trans hw186_0), ((HB.out.cell (World.block_lt_of_cell? w _ hw186_1)).trans hw186_1), ((HB.out.cell (World.block_lt_of_cell? w _ hw186_2)).trans hw186_2), ((HB.out.cell (World.block_lt_of_cell? w _ hw186_3)).trans hw186_3), ((HB.out.cell (World.block_lt_of_cell? w _ hw186_4)).trans hw186_4), ((HB.out.cell (World.block_lt_of_cell? w _ hw188_0)).trans hw188_0), ((HB.out.cell (World.block_lt_of_cell? w _ hw188_1)).trans hw188_1), ((HB.out.cell (World.block_lt_of_cell? w _ hw188_2)).trans hw188_2), ((HB.out.cell (World.block_lt_of_cell? w _ hw188_3)).trans hw188_3), ((HB.out.cell (World.block_lt_of_cell? w _ hw188_4)).trans hw188_4)⟩ (fun hHeld => ?_); refine with_tabW meddlerref6_Expr.tab10 meddlerref6_Expr.bits10 (fun HT_ HW_ => ?_)
                                          generalize wc.drew = w50 at BK182 HB HR186_4 HR188_4 hx186_0 hx186_1 hx186_2 hx186_3 hx186_4 hx188_0 hx188_1 hx188_2 hx188_3 hx188_4 hHeld ⊢
                                          refine pure_ (i := 0) (N := some 60) (v := ?_) (a' := ?_) #[true, false, false, false, false, false, false, false, false, false, false, false, false, false, false, false, false, false, false, false, false, false, false] rfl rfl (any_of HT_.out (by kernel_rfl)) (fun _ _ _ h => h) (Or.inl ⟨by rfl, ?_⟩) ?_ ?_
                                          rotate_left
                                          · intro w'
                                            go_simp
                                            with_reducible rfl
                                          rotate_left
                                          · simp only [Act.put, List.setIfInBounds_toArray, List.set_cons_zero, List.set_cons_succ, i64_w, i32_w]
                                            rfl
                                          refine pure_ (i := 7) (N := some 67) (v := ?_) (a' := ?_) #[true, false, false, false, false, false, false, true, false, false, false, false, false, false, false, false, false, false, false, false, false, false, false] rfl rfl (any_of HT_.out (by kernel_rfl)) (fun _ _ _ h => h) (Or.inl ⟨by rfl, ?_⟩) ?_ ?_
                                          rotate_left
                                          · intro w'
                                            go_simp
                                            with_reducible rfl
                                          rotate_left
                                          · simp only [Act.put, List.setIfInBounds_toArray, List.set_cons_zero, List.set_cons_succ, i64_w, i32_w]
                                            rfl
                                          refine pure_ (i := 10) (N := some 70) (v := ?_) (a' := ?_) #[true, false, false, false, false, false, false, true, false, false, true, false, false, false, false, false, false, false, false, false, false, false, false] rfl rfl (any_of HT_.out (by kernel_rfl)) (fun _ _ _ h => h) (Or.inl ⟨by rfl, ?_⟩) ?_ ?_
                                          rotate_left
                                          · intro w'
                                            go_simp
                                            with_reducible rfl
                                          rotate_left
                                          · simp only [Act.put, List.setIfInBounds_toArray, List.set_cons_zero, List.set_cons_succ, i64_w, i32_w]
                                            rfl
                                          refine pure_ (i := 15) (N := some 75) (v := ?_) (a' := ?_) #[true, false, false, false, false, false, false, true, false, false, true, false, false, false, false, true, false, false, false, false, false, false, false] rfl rfl (any_of HT_.out (by kernel_rfl)) (fun _ _ _ h => h) (Or.inl ⟨by rfl, ?_⟩) ?_ ?_
                                          rotate_left
                                          · intro w'
                                            go_simp
                                            with_reducible rfl
                                          rotate_left
                                          · simp only [Act.put, List.setIfInBounds_toArray, List.set_cons_zero, List.set_cons_succ, i64_w, i32_w]
                                            rfl
                                          refine take_ (i := 1) (N := some 61) (v := ?_) (a' := ?_) #[true, true, false, false, false, false, false, true, false, false, true, false, false, false, false, true, false, false, false, false, false, false, false] rfl rfl (take_ofW HT_.out HW_.out (by kernel_rfl)) (fun _ _ _ h => h) (Or.inl ⟨by rfl, ?_⟩) hHeld ?_ ?_
                                          rotate_left
                                          · rintro w' ⟨s0, s1, s2, s3, s4, s5, s6, s7, s8, s9, s10, s11, s12, s13, s14⟩
                                            go_simp
                                            with_reducible rfl
                                          rotate_left
                                          · simp only [Act.put, List.setIfInBounds_toArray, List.set_cons_zero, List.set_cons_succ, i64_w, i32_w]
                                            rfl
                                          refine pure_ (i := 2) (N := some 62) (v := ?_) (a' := ?_) #[true, true, true, false, false, false, false, true, false, false, true, false, false, false, false, true, false, false, false, false, false, false, false] rfl rfl (any_of HT_.out (by kernel_rfl)) (fun _ _ _ h => h) (Or.inl ⟨by rfl, ?_⟩) ?_ ?_
                                          rotate_left
                                          · intro w'
                                            go_simp
                                            with_reducible rfl
                                          rotate_left
                                          · simp only [Act.put, List.setIfInBounds_toArray, List.set_cons_zero, List.set_cons_succ, i64_w, i32_w]
                                            rfl
                                          refine take_ (i := 3) (N := some 63) (v := ?_) (a' := ?_) #[true, true, true, true, false, false, false, true, false, false, true, false, false, false, false, true, false, false, false, false, false, false, false] rfl rfl (take_ofW HT_.out HW_.out (by kernel_rfl)) (fun _ _ _ h => h) (Or.inl ⟨by rfl, ?_⟩) hHeld ?_ ?_
                                          rotate_left
                                          · rintro w' ⟨s0, s1, s2, s3, s4, s5, s6, s7, s8, s9, s10, s11, s12, s13, s14⟩
                                            go_simp
                                            with_reducible rfl
                                          rotate_left
                                          · simp only [Act.put, List.setIfInBounds_toArray, List.set_cons_zero, List.set_cons_succ, i64_w, i32_w]
                                            rfl
                                          refine take_ (i := 8) (N := some 68) (v := ?_) (a' := ?_) #[true, true, true, true, false, false, false, true, true, false, true, false, false, false, false, true, false, false, false, false, false, false, false] rfl rfl (take_ofW HT_.out HW_.out (by kernel_rfl)) (fun _ _ _ h => h) (Or.inl ⟨by rfl, ?_⟩) hHeld ?_ ?_
                                          rotate_left
                                          · rintro w' ⟨s0, s1, s2, s3, s4, s5, s6, s7, s8, s9, s10, s11, s12, s13, s14⟩
                                            go_simp
                                            with_reducible rfl
                                          rotate_left
                                          · simp only [Act.put, List.setIfInBounds_toArray, List.set_cons_zero, List.set_cons_succ, i64_w, i32_w]
                                            rfl
                                          refine pure_ (i := 9) (N := some 69) (v := ?_) (a' := ?_) #[true, true, true, true, false, false, false, true, true, true, true, false, false, false, false, true, false, false, false, false, false, false, false] rfl rfl (any_of HT_.out (by kernel_rfl)) (fun _ _ _ h => h) (Or.inl ⟨by rfl, ?_⟩) ?_ ?_
                                          rotate_left
                                          · intro w'
                                            go_simp
                                            with_reducible rfl
                                          rotate_left
                                          · simp only [Act.put, List.setIfInBounds_toArray, List.set_cons_zero, List.set_cons_succ, i64_w, i32_w]
                                            rfl
                                          refine take_ (i := 11) (N := some 71) (v := ?_) (a' := ?_) #[true, true, true, true, false, false, false, true, true, true, true, true, false, false, false, true, false, false, false, false, false, false, false] rfl rfl (take_ofW HT_.out HW_.out (by kernel_rfl)) (fun _ _ _ h => h) (Or.inl ⟨by rfl, ?_⟩) hHeld ?_ ?_
                                          rotate_left
                                          · rintro w' ⟨s0, s1, s2, s3, s4, s5, s6, s7, s8, s9, s10, s11, s12, s13, s14⟩
                                            go_simp
                                            with_reducible rfl
                                          rotate_left
                                          · simp only [Act.put, List.setIfInBounds_toArray, List.set_cons_zero, List.set_cons_succ, i64_w, i32_w]
                                            rfl
                                          refine pure_ (i := 12) (N := some 72) (v := ?_) (a' := ?_) #[true, true, true, true, false, false, false, true, true, true, true, true, true, false, false, true, false, false, false, false, false, false, false] rfl rfl (any_of HT_.out (by kernel_rfl)) (fun _ _ _ h => h) (Or.inl ⟨by rfl, ?_⟩) ?_ ?_
                                          rotate_left
                                          · intro w'
                                            go_simp
                                            with_reducible rfl
                                          rotate_left
                                          · simp only [Act.put, List.setIfInBounds_toArray, List.set_cons_zero, List.set_cons_succ, i64_w, i32_w]
                                            rfl
                                          refine take_ (i := 16) (N := some 76) (v := ?_) (a' := ?_) #[true, true, true, true, false, false, false, true, true, true, true, true, true, false, false, true, true, false, false, false, false, false, false] rfl rfl (take_ofW HT_.out HW_.out (by kernel_rfl)) (fun _ _ _ h => h) (Or.inl ⟨by rfl, ?_⟩) hHeld ?_ ?_
                                          rotate_left
                                          · rintro w' ⟨s0, s1, s2, s3, s4, s5, s6, s7, s8, s9, s10, s11, s12, s13, s14⟩
                                            go_simp
                                            with_reducible rfl
                                          rotate_left
                                          · simp only [Act.put, List.setIfInBounds_toArray, List.set_cons_zero, List.set_cons_succ, i64_w, i32_w]
                                            rfl
                                          refine pure_ (i := 17) (N := some 77) (v := ?_) (a' := ?_) #[true, true, true, true, false, false, false, true, true, true, true, true, true, false, false, true, true, true, false, false, false, false, false] rfl rfl (any_of HT_.out (by kernel_rfl)) (fun _ _ _ h => h) (Or.inl ⟨by rfl, ?_⟩) ?_ ?_
                                          rotate_left
                                          · intro w'
                                            go_simp
                                            with_reducible rfl
                                          rotate_left
                                          · simp only [Act.put, List.setIfInBounds_toArray, List.set_cons_zero, List.set_cons_succ, i64_w, i32_w]
                                            rfl
                                          refine take_ (i := 18) (N := some 78) (v := ?_) (a' := ?_) #[true, true, true, true, false, false, false, true, true, true, true, true, true, false, false, true, true, true, true, false, false, false, false] rfl rfl (take_ofW HT_.out HW_.out (by kernel_rfl)) (fun _ _ _ h => h) (Or.inl ⟨by rfl, ?_⟩) hHeld ?_ ?_
                                          rotate_left
                                          · rintro w' ⟨s0, s1, s2, s3, s4, s5, s6, s7, s8, s9, s10, s11, s12, s13, s14⟩
                                            go_simp
                                            with_reducible rfl
                                          rotate_left
                                          · simp only [Act.put, List.setIfInBounds_toArray, List.set_cons_zero, List.set_cons_succ, i64_w, i32_w]
                                            rfl
                                          refine one_ (i := 4) (N := some 64) #[true, true, true, true, true, false, false, true, true, true, true, true, true, false, false, true, true, true, true, false, false, false, false] rfl rfl (one_of HT_.out (by kernel_rfl)) (by decide) (fun K hK => ?_)
                                          refine goes_ Tryd.func14 (by kernel_rfl) rfl #[.agg #[.int .i64 ((rd_T30 l0_4 0).f0), .int .i64 ((rd_T30 l0_4 0).f1), .int .i64 ((rd_T30 l0_4 0).f2), .string ((rd_T30 l0_4 0).f3), .slice A186_4 ((rd_T30 l0_4 0).f4).length c186_4]] (by rfl) rfl rfl (by (try simp only [List.map_toArray, List.map_cons, List.map_nil]); first | done | rfl | (simp only [List.length_drop, List.length_take]; rfl)) ?_
                                          with_reducible refine (ih kj25 (by have := HJ9.out; have := HJ25.out; omega) ((rd_T30 l0_4 0).f0) ((rd_T30 l0_4 0).f1) ((rd_T30 l0_4 0).f2) ((rd_T30 l0_4 0).f3) _ _ ((rd_T30 l0_4 0).f4) t187 _ ?side1 ?side2 A37.out).mono ?_
                                          (case side1 => repeat (first | exact (Kd.C_below HR186_4.out HB.out) | (with_reducible refine Kd.C_alloc ?_ _) | (with_reducible refine Kd.C_drewN ?_ _) | (with_reducible refine Kd.C_drew ?_)))
                                          (case side2 => exact HC186_4.out)
                                          rintro e w51 ⟨rfl, hb⟩
                                          refine ⟨_, rfl, ?_⟩
                                          have n0_ := Aside0.mk (blk_below (g := gb182) (o := .cells #[.int .i64 a0_0, .int .i64 a0_1, .int .i64 a0_2, .string a0_3, .slice (some ad186) l0_4.length c0_4] 30 (0, 0)) (by (with_reducible repeat (first | refine blk_drewN ?_ _ | refine blk_drew ?_ | refine blk_alloc ?_ _)); exact BK182.out) hb)
                                          have n1_ := Aside0.mk (below_step (by repeat (first | (with_reducible first | exact HB.out | apply below_alloc | apply pw_below_drewN | apply below_drew1 | refine below_set ?_ GE182.out) | exact HB.out)) hb)
                                          clear BK182
                                          clear HB
                                          have BK182 := n0_
                                          have HB := n1_
                                          clear n0_ n1_
                                          (try clear hb)
                                          (try clear hb2)
                                          (try clear hk)
                                          (try clear hi)
                                          refine hK.out _ _ ⟨(blk_cell BK182.out 0).trans rfl, (blk_cell BK182.out 1).trans rfl, (blk_cell BK182.out 2).trans rfl, (blk_cell BK182.out 3).trans rfl, (blk_cell BK182.out 4).trans rfl, ((HB.out.cell (World.block_lt_of_cell? w _ hw186_0)).trans hw186_0), ((HB.out.cell (World.block_lt_of_cell? w _ hw186_1)).trans hw186_1), ((HB.out.cell (World.block_lt_of_cell? w _ hw186_2)).trans hw186_2), ((HB.out.cell (World.block_lt_of_cell? w _ hw186_3)).trans hw186_3), ((HB.out.cell (World.block_lt_of_cell? w _ hw186_4)).trans hw186_4), ((HB.out.cell (World.block_lt_of_cell? w _ hw188_0)).trans hw188_0), ((HB.out.cell (World.block_lt_of_cell? w _ hw188_1)).trans hw188_1), ((HB.out.cell (World.block_lt_of_cell? w _ hw188_2)).trans hw188_2), ((HB.out.cell (World.block_lt_of_cell? w _ hw188_3)).trans hw188_3), ((HB.out.cell (World.block_lt_of_cell? w _ hw188_4)).trans hw188_4)⟩ (fun hHeld => ?_)
                                          clear hK K
                                          refine norm_ (a' := ?_) ?_ ?_
                                          rotate_left
                                          · show Act.put _ (some 64) _ = _
                                            simp only [Act.put, List.setIfInBounds_toArray, List.set_cons_zero, List.set_cons_succ, i64_w, i32_w]
                                            rfl
                                          refine pure_ (i := 5) (N := some 65) (v := ?_) (a' := ?_) #[true, true, true, true, true, true, false, true, true, true, true, true, true, false, false, true, true, true, true, false, false, false, false] rfl rfl (any_of HT_.out (by kernel_rfl)) (fun _ _ _ h => h) (Or.inl ⟨by rfl, ?_⟩) ?_ ?_
                                          rotate_left
                                          · intro w'
                                            go_simp
                                            with_reducible rfl
                                          rotate_left
                                          · simp only [Act.put, List.setIfInBounds_toArray, List.set_cons_zero, List.set_cons_succ, i64_w, i32_w]
                                            rfl
                                          refine pure_ (i := 6) (N := some 66) (v := ?_) (a' := ?_) #[true, true, true, true, true, true, true, true, true, true, true, true, true, false, false, true, true, true, true, false, false, false, false] rfl rfl (any_of HT_.out (by kernel_rfl)) (fun _ _ _ h => h) (Or.inl ⟨by rfl, ?_⟩) ?_ ?_
                                          rotate_left
                                          · intro w'
                                            go_simp
                                            with_reducible rfl
                                          rotate_left
                                          · simp only [Act.put, List.setIfInBounds_toArray, List.set_cons_zero, List.set_cons_succ, i64_w, i32_w]
                                            rfl
                                          refine pure_ (i := 13) (N := some 73) (v := ?_) (a' := ?_) #[true, true, true, true, true, true, true, true, true, true, true, true, true, true, false, true, true, true, true, false, false, false, false] rfl rfl (any_of HT_.out (by kernel_rfl)) (fun _ _ _ h => h) (Or.inl ⟨by rfl, ?_⟩) ?_ ?_
                                          rotate_left
                                          · intro w'
                                            go_simp
                                            with_reducible rfl
                                          rotate_left
                                          · simp only [Act.put, List.setIfInBounds_toArray, List.set_cons_zero, List.set_cons_succ, i64_w, i32_w]
                                            rfl
                                          refine pure_ (i := 14) (N := some 74) (v := ?_) (a' := ?_) #[true, true, true, true, true, true, true, true, true, true, true, true, true, true, true, true, true, true, true, false, false, false, false] rfl rfl (any_of HT_.out (by kernel_rfl)) (fun _ _ _ h => h) (Or.inl ⟨by rfl, ?_⟩) ?_ ?_
                                          rotate_left
                                          · intro w'
                                            go_simp
                                            with_reducible rfl
                                          rotate_left
                                          · simp only [Act.put, List.setIfInBounds_toArray, List.set_cons_zero, List.set_cons_succ, i64_w, i32_w]
                                            rfl
                                          refine one_ (i := 19) (N := some 79) #[true, true, true, true, true, true, true, true, true, true, true, true, true, true, true, true, true, true, true, true, false, false, false] rfl rfl (one_of HT_.out (by kernel_rfl)) (by decide) (fun K hK => ?_)
                                          refine goes_ Tryd.func14 (by kernel_rfl) rfl #[.agg #[.int .i64 ((rd_T30 l0_4 1).f0), .int .i64 ((rd_T30 l0_4 1).f1), .int .i64 ((rd_T30 l0_4 1).f2), .string ((rd_T30 l0_4 1).f3), .slice A188_4 ((rd_T30 l0_4 1).f4).length c188_4]] (by rfl) rfl rfl (by (try simp only [List.map_toArray, List.map_cons, List.map_nil]); first | done | rfl | (simp only [List.length_drop, List.length_take]; rfl)) ?_
                                          with_reducible refine (ih kj25 (by have := HJ9.out; have := HJ25.out; omega) ((rd_T30 l0_4 1).f0) ((rd_T30 l0_4 1).f1) ((rd_T30 l0_4 1).f2) ((rd_T30 l0_4 1).f3) _ _ ((rd_T30 l0_4 1).f4) t189 _ ?side1 ?side2 A47.out).mono ?_
                                          (case side1 => repeat (first | exact (Kd.C_below HR188_4.out HB.out) | (with_reducible refine Kd.C_alloc ?_ _) | (with_reducible refine Kd.C_drewN ?_ _) | (with_reducible refine Kd.C_drew ?_)))
                                          (case side2 => exact HC188_4.out)
                                          rintro e w52 ⟨rfl, hb⟩
                                          refine ⟨_, rfl, ?_⟩
                                          have n0_ := Aside0.mk (blk_below (g := gb182) (o := .cells #[.int .i64 a0_0, .int .i64 a0_1, .int .i64 a0_2, .string a0_3, .slice (some ad186) l0_4.length c0_4] 30 (0, 0)) (by (with_reducible repeat (first | refine blk_drewN ?_ _ | refine blk_drew ?_ | refine blk_alloc ?_ _)); exact BK182.out) hb)
                                          have n1_ := Aside0.mk (below_step (by repeat (first | (with_reducible first | exact HB.out | apply below_alloc | apply pw_below_drewN | apply below_drew1 | refine below_set ?_ GE182.out) | exact HB.out)) hb)
                                          clear BK182
                                          clear HB
                                          have BK182 := n0_
                                          have HB := n1_
                                          clear n0_ n1_
                                          (try clear hb)
                                          (try clear hb2)
                                          (try clear hk)
                                          (try clear hi)
                                          refine hK.out _ _ ⟨(blk_cell BK182.out 0).trans rfl, (blk_cell BK182.out 1).trans rfl, (blk_cell BK182.out 2).trans rfl, (blk_cell BK182.out 3).trans rfl, (blk_cell BK182.out 4).trans rfl, ((HB.out.cell (World.block_lt_of_cell? w _ hw186_0)).trans hw186_0), ((HB.out.cell (World.block_lt_of_cell? w _ hw186_1)).trans hw186_1), ((HB.out.cell (World.block_lt_of_cell? w _ hw186_2)).trans hw186_2), ((HB.out.cell (World.block_lt_of_cell? w _ hw186_3)).trans hw186_3), ((HB.out.cell (World.block_lt_of_cell? w _ hw186_4)).trans hw186_4), ((HB.out.cell (World.block_lt_of_cell? w _ hw188_0)).trans hw188_0), ((HB.out.cell (World.block_lt_of_cell? w _ hw188_1)).trans hw188_1), ((HB.out.cell (World.block_lt_of_cell? w _ hw188_2)).trans hw188_2), ((HB.out.cell (World.block_lt_of_cell? w _ hw188_3)).trans hw188_3), ((HB.out.cell (World.block_lt_of_cell? w _ hw188_4)).trans hw188_4)⟩ (fun hHeld => ?_)
                                          clear hK K
                                          refine norm_ (a' := ?_) ?_ ?_
                                          rotate_left
                                          · show Act.put _ (some 79) _ = _
                                            simp only [Act.put, List.setIfInBounds_toArray, List.set_cons_zero, List.set_cons_succ, i64_w, i32_w]
                                            rfl
                                          refine pure_ (i := 20) (N := some 80) (v := ?_) (a' := ?_) #[true, true, true, true, true, true, true, true, true, true, true, true, true, true, true, true, true, true, true, true, true, false, false] rfl rfl (any_of HT_.out (by kernel_rfl)) (fun _ _ _ h => h) (Or.inl ⟨by rfl, ?_⟩) ?_ ?_
                                          rotate_left
                                          · intro w'
                                            go_simp
                                            with_reducible rfl
                                          rotate_left
                                          · simp only [Act.put, List.setIfInBounds_toArray, List.set_cons_zero, List.set_cons_succ, i64_w, i32_w]
                                            rfl
                                          refine pure_ (i := 21) (N := some 81) (v := ?_) (a' := ?_) #[true, true, true, true, true, true, true, true, true, true, true, true, true, true, true, true, true, true, true, true, true, true, false] rfl rfl (any_of HT_.out (by kernel_rfl)) (fun _ _ _ h => h) (Or.inl ⟨by rfl, ?_⟩) ?_ ?_
                                          rotate_left
                                          · intro w'
                                            go_simp
                                            with_reducible rfl
                                          rotate_left
                                          · simp only [Act.put, List.setIfInBounds_toArray, List.set_cons_zero, List.set_cons_succ, i64_w, i32_w]
                                            rfl
                                          refine pure_ (i := 22) (N := some 2) (v := ?_) (a' := ?_) #[true, true, true, true, true, true, true, true, true, true, true, true, true, true, true, true, true, true, true, true, true, true, true] rfl rfl (any_of HT_.out (by kernel_rfl)) (fun _ _ _ h => h) (Or.inl ⟨by rfl, ?_⟩) ?_ ?_
                                          rotate_left
                                          · intro w'
                                            go_simp
                                            with_reducible rfl
                                          rotate_left
                                          · simp only [Act.put, List.setIfInBounds_toArray, List.set_cons_zero, List.set_cons_succ, i64_w, i32_w]
                                            rfl
                                          refine done_ (done_of HT_.out (by kernel_rfl)) ?_
                                          try go_wp2
                                          go_ret
                                          exact ⟨by first | rfl | (simp [errW_none, errW_some] <;> rfl) | (simp only [← hji40]; first | rfl | (simp [errW_none, errW_some] <;> rfl)) | (simp [*, errW_none, errW_some] <;> rfl), by repeat (first | (with_reducible first | exact HB.out | apply below_alloc | apply pw_below_drewN | apply below_drew1 | refine below_set ?_ GE182.out) | exact HB.out)⟩
                                        · rw [if_neg c49] at H
                                          exact absurd H (by simp)
                                      · rw [if_neg c48] at H
                                        exact absurd H (by simp)
                                    · rw [if_neg c46] at H
                                      exact absurd H (by simp)
                                  · rw [if_neg c45] at H
                                    exact absurd H (by simp)
                                · rw [if_neg c44] at H
                                  exact absurd H (by simp)
                              · rw [if_neg c43] at H
                                exact absurd H (by simp)
                            · rw [if_neg c42] at H
                              exact absurd H (by simp)
                          · rw [if_neg c41] at H
                            exact absurd H (by simp)
                        · rw [if_neg c39] at H
                          exact absurd H (by simp)
                      · rw [if_neg c38] at H
                        exact absurd H (by simp)
                    · rw [if_neg c36] at H
                      exact absurd H (by simp)
                  · replace c35 := Bool.eq_false_iff.mpr c35
                    subst c35
                    have H1 : (if a0_0 = 6 then (if (l0_4.length : Int) > 0 then (if 0 < (l0_4.length : Int) then ((meddlerref6_Expr.f kj25 ((rd_T30 l0_4 0).f0) ((rd_T30 l0_4 0).f1) ((rd_T30 l0_4 0).f2) ((rd_T30 l0_4 0).f3) ((rd_T30 l0_4 0).f4)).bind fun t191 => (if 1 + t191.size ≤ 9223372036854775807 then (some ((⟨#[45]⟩ : ByteArray) ++ t191)) else (none))) else (none)) else (some (⟨#[63]⟩ : ByteArray))) else (some (⟨#[63]⟩ : ByteArray))) = some r := by rw [if_neg (show ¬ (false = true) by decide)] at H; exact H
                    clear H
                    have H := H1
                    clear H1
                    by_cases c53 : a0_0 = 6
                    · rw [if_pos c53] at H
                      have c53b0 : (a0_0 == 6) = true := beq_iff_eq.mpr c53
                      have c53b1 : (a0_0 != 6) = false := bne_eq_false_iff_eq.mpr c53
                      clear c53
                      by_cases c54 : (l0_4.length : Int) > 0
                      · rw [if_pos c54] at H
                        have c54b0 : decide (0 < (l0_4.length : Int)) = true := decide_eq_true c54
                        have c54b1 : decide (0 < l0_4.length) = true := decide_eq_true (by omega)
                        clear c54
                        by_cases c55 : 0 < (l0_4.length : Int)
                        · rw [if_pos c55] at H
                          have c55b0 : decide (0 < (l0_4.length : Int)) = true := decide_eq_true c55
                          have c55b1 : decide (0 < l0_4.length) = true := decide_eq_true (by omega)
                          clear c55
                          replace H := Option.bind_eq_some_iff.mp H
                          obtain ⟨t191, A560, H⟩ := H
                          replace H : (if 1 + t191.size ≤ 9223372036854775807 then (some ((⟨#[45]⟩ : ByteArray) ++ t191)) else (none)) = some r := H
                          have A56 := Aside0.mk A560
                          clear A560
                          by_cases c57 : 1 + t191.size ≤ 9223372036854775807
                          · rw [if_pos c57] at H
                            have c57b0 := eq_true c57
                            have c57b1 : decide (1 + t191.size ≤ 9223372036854775807) = true := decide_eq_true c57
                            try have c57b2 : (9223372036854775807 < 1 + t191.size) = False := eq_false (Nat.not_lt.2 c57)
                            try have c57b3 := c57b2
                            try simp only [ByteArray.size_append, szl14, List.size_toArray, List.length_cons, List.length_nil, Nat.zero_add, Nat.reduceAdd] at c57b3
                            obtain rfl := Option.some.inj H
                            have hcz58_0 : wc.cell? ⟨gb182, 0, none⟩ = some (.int .i64 a0_0) := (blk_cell BK182.out 0).trans rfl
                            have hcz58_1 : wc.cell? ⟨gb182, 1, none⟩ = some (.int .i64 a0_1) := (blk_cell BK182.out 1).trans rfl
                            have hcz58_2 : wc.cell? ⟨gb182, 2, none⟩ = some (.int .i64 a0_2) := (blk_cell BK182.out 2).trans rfl
                            have hcz58_3 : wc.cell? ⟨gb182, 3, none⟩ = some (.string a0_3) := (blk_cell BK182.out 3).trans rfl
                            have hcz58_4 : wc.cell? ⟨gb182, 4, none⟩ = some (.slice A0_4 l0_4.length c0_4) := (blk_cell BK182.out 4).trans rfl
                            have hfz58_0 := blk_frozen BK182.out 0
                            have hfz58_1 := blk_frozen BK182.out 1
                            have hfz58_2 := blk_frozen BK182.out 2
                            have hfz58_3 := blk_frozen BK182.out 3
                            have hfz58_4 := blk_frozen BK182.out 4
                            have p190 : 0 ≤ (0 : Int) := (by omega)
                            have q190 : 0 < (l0_4.length : Int) := of_decide_eq_true (by first | (with_reducible assumption) | assumption)
                            obtain ⟨ad190, A190_4, c190_4, e190, hx190_0, hx190_1, hx190_2, hx190_3, hx190_4, hl190_4, hi190_4⟩ := at_T30 HR0_4.out 0 p190 q190
                            cases e190
                            have qi190 : (0 < l0_4.length) = True := eq_true (by omega)
                            (try rw [show ((0 : Int)).toNat = 0 from rfl] at hx190_0)
                            (try rw [show 0 * 5 = 0 from rfl] at hx190_0)
                            (try rw [Addr.add_zero'] at hx190_0)
                            (try rw [show ((0 : Int)).toNat = 0 from rfl] at hx190_1)
                            (try rw [show 0 * 5 = 0 from rfl] at hx190_1)
                            (try rw [Addr.add_zero'] at hx190_1)
                            (try rw [show ((0 : Int)).toNat = 0 from rfl] at hx190_2)
                            (try rw [show 0 * 5 = 0 from rfl] at hx190_2)
                            (try rw [Addr.add_zero'] at hx190_2)
                            (try rw [show ((0 : Int)).toNat = 0 from rfl] at hx190_3)
                            (try rw [show 0 * 5 = 0 from rfl] at hx190_3)
                            (try rw [Addr.add_zero'] at hx190_3)
                            (try rw [show ((0 : Int)).toNat = 0 from rfl] at hx190_4)
                            (try rw [show 0 * 5 = 0 from rfl] at hx190_4)
                            (try rw [Addr.add_zero'] at hx190_4)
                            replace hx190_0 := (HB.out.cell (World.block_lt_of_cell? w _ hx190_0)).trans hx190_0
                            replace hx190_1 := (HB.out.cell (World.block_lt_of_cell? w _ hx190_1)).trans hx190_1
                            replace hx190_2 := (HB.out.cell (World.block_lt_of_cell? w _ hx190_2)).trans hx190_2
                            replace hx190_3 := (HB.out.cell (World.block_lt_of_cell? w _ hx190_3)).trans hx190_3
                            replace hx190_4 := (HB.out.cell (World.block_lt_of_cell? w _ hx190_4)).trans hx190_4
                            have HR190_4 := Aside0.mk hi190_4
                            have HC190_4 := Aside0.mk hl190_4
                            clear hi190_4 hl190_4
                            replace p190 := eq_true p190
                            replace q190 := eq_true q190
                            go_wp2_with (first | ((with_reducible refine gate_callee (f := 14) rfl ?_); refine goesL_ (some 96) rfl rfl Tryd.func14 (by kernel_rfl) rfl #[.agg #[.int .i64 ((rd_T30 l0_4 0).f0), .int .i64 ((rd_T30 l0_4 0).f1), .int .i64 ((rd_T30 l0_4 0).f2), .string ((rd_T30 l0_4 0).f3), .slice A190_4 ((rd_T30 l0_4 0).f4).length c190_4]] rfl (by (try simp only [List.map_toArray, List.map_cons, List.map_nil]); first | done | rfl | (simp only [List.length_drop, List.length_take]; rfl)) ?_; (with_reducible refine (ih kj25 (by have := HJ9.out; have := HJ25.out; omega) ((rd_T30 l0_4 0).f0) ((rd_T30 l0_4 0).f1) ((rd_T30 l0_4 0).f2) ((rd_T30 l0_4 0).f3) _ _ ((rd_T30 l0_4 0).f4) t191 _ ?side1 ?side2 A56.out).mono ?_); (case side1 => repeat (first | exact (Kd.C_below HR190_4.out HB.out) | (with_reducible refine Kd.C_alloc ?_ _) | (with_reducible refine Kd.C_drewN ?_ _) | (with_reducible refine Kd.C_drew ?_))); (case side2 => exact HC190_4.out); rintro e w59 ⟨rfl, hb⟩; refine ⟨_, rfl, ?_⟩; have n0_ := Aside0.mk (blk_below (g := gb182) (o := .cells #[.int .i64 a0_0, .int .i64 a0_1, .int .i64 a0_2, .string a0_3, .slice (some ad190) l0_4.length c0_4] 30 (0, 0)) (by (with_reducible repeat (first | refine blk_drewN ?_ _ | refine blk_drew ?_ | refine blk_alloc ?_ _)); exact BK182.out) hb); have n1_ := Aside0.mk (below_step (by repeat (first | (with_reducible first | exact HB.out | apply below_alloc | apply pw_below_drewN | apply below_drew1 | refine below_set ?_ GE182.out) | exact HB.out)) hb); clear BK182; clear HB; have BK182 := n0_; have HB := n1_; clear n0_ n1_; (try clear hb); (try clear hb2); (try clear hk); (try clear hi)))
                            go_ret
                            exact ⟨by first | rfl | (simp [errW_none, errW_some] <;> rfl) | (simp [*, errW_none, errW_some] <;> rfl), by repeat (first | (with_reducible first | exact HB.out | apply below_alloc | apply pw_below_drewN | apply below_drew1 | refine below_set ?_ GE182.out) | exact HB.out)⟩
                          · rw [if_neg c57] at H
                            exact absurd H (by simp)
                        · rw [if_neg c55] at H
                          exact absurd H (by simp)
                      · rw [if_neg c54] at H
                        have c54b0 : decide (0 < (l0_4.length : Int)) = false := decide_eq_false c54
                        have c54b1 : decide (0 < l0_4.length) = false := decide_eq_false (by omega)
                        clear c54
                        obtain rfl := Option.some.inj H
                        have hcz60_0 : wc.cell? ⟨gb182, 0, none⟩ = some (.int .i64 a0_0) := (blk_cell BK182.out 0).trans rfl
                        have hcz60_1 : wc.cell? ⟨gb182, 1, none⟩ = some (.int .i64 a0_1) := (blk_cell BK182.out 1).trans rfl
                        have hcz60_2 : wc.cell? ⟨gb182, 2, none⟩ = some (.int .i64 a0_2) := (blk_cell BK182.out 2).trans rfl
                        have hcz60_3 : wc.cell? ⟨gb182, 3, none⟩ = some (.string a0_3) := (blk_cell BK182.out 3).trans rfl
                        have hcz60_4 : wc.cell? ⟨gb182, 4, none⟩ = some (.slice A0_4 l0_4.length c0_4) := (blk_cell BK182.out 4).trans rfl
                        have hfz60_0 := blk_frozen BK182.out 0
                        have hfz60_1 := blk_frozen BK182.out 1
                        have hfz60_2 := blk_frozen BK182.out 2
                        have hfz60_3 := blk_frozen BK182.out 3
                        have hfz60_4 := blk_frozen BK182.out 4
                        go_wp2
                        go_ret
                        exact ⟨by first | rfl | (simp [errW_none, errW_some] <;> rfl) | (simp [*, errW_none, errW_some] <;> rfl), by repeat (first | (with_reducible first | exact HB.out | apply below_alloc | apply pw_below_drewN | apply below_drew1 | refine below_set ?_ GE182.out) | exact HB.out)⟩
                    · rw [if_neg c53] at H
                      have c53b0 : (a0_0 == 6) = false := beq_eq_false_iff_ne.mpr c53
                      have c53b1 : (a0_0 != 6) = true := bne_iff_ne.mpr c53
                      obtain rfl := Option.some.inj H
                      have hcz61_0 : wc.cell? ⟨gb182, 0, none⟩ = some (.int .i64 a0_0) := (blk_cell BK182.out 0).trans rfl
                      have hcz61_1 : wc.cell? ⟨gb182, 1, none⟩ = some (.int .i64 a0_1) := (blk_cell BK182.out 1).trans rfl
                      have hcz61_2 : wc.cell? ⟨gb182, 2, none⟩ = some (.int .i64 a0_2) := (blk_cell BK182.out 2).trans rfl
                      have hcz61_3 : wc.cell? ⟨gb182, 3, none⟩ = some (.string a0_3) := (blk_cell BK182.out 3).trans rfl
                      have hcz61_4 : wc.cell? ⟨gb182, 4, none⟩ = some (.slice A0_4 l0_4.length c0_4) := (blk_cell BK182.out 4).trans rfl
                      have hfz61_0 := blk_frozen BK182.out 0
                      have hfz61_1 := blk_frozen BK182.out 1
                      have hfz61_2 := blk_frozen BK182.out 2
                      have hfz61_3 := blk_frozen BK182.out 3
                      have hfz61_4 := blk_frozen BK182.out 4
                      go_wp2
                      go_ret
                      exact ⟨by first | rfl | (simp [errW_none, errW_some] <;> rfl) | (simp [*, errW_none, errW_some] <;> rfl), by repeat (first | (with_reducible first | exact HB.out | apply below_alloc | apply pw_below_drewN | apply below_drew1 | refine below_set ?_ GE182.out) | exact HB.out)⟩
end Go.Proofs.YtfeaekdhpkdljaaDoor.Sh
