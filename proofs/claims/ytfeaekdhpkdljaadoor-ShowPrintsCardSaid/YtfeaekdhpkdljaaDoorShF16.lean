/- An own text of this seat: Lean functions with the answers of Go functions, and that the Go code comes to them. Written by a program of this session out of the translation. -/
import Derived.Test.YtfeaekdhpkdljaaDoorShx0
import Derived.Test.YtfeaekdhpkdljaaDoorShF14
namespace Go.Proofs.YtfeaekdhpkdljaaDoor.Sh
open Go.RowKit Go.Proofs.YtfeaekdhpkdljaaDoorW.PrintWords Go.Proofs.YtfeaekdhpkdljaaDoorW.PrintLast Go.Proofs.YtfeaekdhpkdljaaDoorW.PrintMore
attribute [local go_sem] max2_int min2_int max_two min_two max_three min_three max_four min_four   -- for this text's walks alone
set_option linter.unusedVariables false
set_option linter.unusedSimpArgs false

theorem szl16 (a : Array UInt8) : (⟨a⟩ : ByteArray).size = a.size := rfl
/-! ### meddlerref6_Cond: function 16 -/
mutual
def meddlerref6_Cond.j0 : Nat → Bool → Int → Int → List (S30) → List (S33) → Option (ByteArray)
  | 0, _, _, _, _, _ => none
  | k + 1, x3, x193000, x193001, x193002, x193003 => if x3 = true then (if 0 < (x193002.length : Int) then ((meddlerref6_Expr.f k ((rd_T30 x193002 0).f0) ((rd_T30 x193002 0).f1) ((rd_T30 x193002 0).f2) ((rd_T30 x193002 0).f3) ((rd_T30 x193002 0).f4)).bind fun t194 => (if t194.size + 1 ≤ 9223372036854775807 then ((some (([(⟨#[60]⟩ : ByteArray), (⟨#[60, 61]⟩ : ByteArray), (⟨#[61, 61]⟩ : ByteArray), (⟨#[33, 61]⟩ : ByteArray), (⟨#[62, 61]⟩ : ByteArray), (⟨#[62]⟩ : ByteArray)] : List ByteArray) : List ByteArray)).bind fun y195 => (if 0 ≤ (wrap64 (x193001 - 1)) then (if (wrap64 (x193001 - 1)) < (y195.length : Int) then (if (t194 ++ (⟨#[32]⟩ : ByteArray)).size + (rdOf ByteArray.empty y195 (wrap64 (x193001 - 1))).size ≤ 9223372036854775807 then (if ((t194 ++ (⟨#[32]⟩ : ByteArray)) ++ (rdOf ByteArray.empty y195 (wrap64 (x193001 - 1)))).size + 1 ≤ 9223372036854775807 then (if 1 < (x193002.length : Int) then ((meddlerref6_Expr.f k ((rd_T30 x193002 1).f0) ((rd_T30 x193002 1).f1) ((rd_T30 x193002 1).f2) ((rd_T30 x193002 1).f3) ((rd_T30 x193002 1).f4)).bind fun t200 => (if (((t194 ++ (⟨#[32]⟩ : ByteArray)) ++ (rdOf ByteArray.empty y195 (wrap64 (x193001 - 1)))) ++ (⟨#[32]⟩ : ByteArray)).size + t200.size ≤ 9223372036854775807 then (some ((((t194 ++ (⟨#[32]⟩ : ByteArray)) ++ (rdOf ByteArray.empty y195 (wrap64 (x193001 - 1)))) ++ (⟨#[32]⟩ : ByteArray)) ++ t200)) else (none))) else (none)) else (none)) else (none)) else (none)) else (none))) else (none))) else (none)) else (if x193000 = 2 then (meddlerref6_Cond.j1 k (decide ((x193003.length : Int) > 0)) x193000 x193001 x193002 x193003) else (meddlerref6_Cond.j1 k false x193000 x193001 x193002 x193003))
def meddlerref6_Cond.j1 : Nat → Bool → Int → Int → List (S30) → List (S33) → Option (ByteArray)
  | 0, _, _, _, _, _ => none
  | k + 1, x43, x193000, x193001, x193002, x193003 => if x43 = true then (if 0 < (x193003.length : Int) then (if ((rd_T33 x193003 0).f0) = 1 then ((meddlerref6_Cond.f k ((rd_T33 x193003 0).f0) ((rd_T33 x193003 0).f1) ((rd_T33 x193003 0).f2) ((rd_T33 x193003 0).f3)).bind fun t203 => (if 2 + t203.size ≤ 9223372036854775807 then (if ((⟨#[33, 91]⟩ : ByteArray) ++ t203).size + 1 ≤ 9223372036854775807 then (some (((⟨#[33, 91]⟩ : ByteArray) ++ t203) ++ (⟨#[93]⟩ : ByteArray))) else (none)) else (none))) else ((meddlerref6_Cond.f k ((rd_T33 x193003 0).f0) ((rd_T33 x193003 0).f1) ((rd_T33 x193003 0).f2) ((rd_T33 x193003 0).f3)).bind fun t205 => (if 1 + t205.size ≤ 9223372036854775807 then (some ((⟨#[33]⟩ : ByteArray) ++ t205)) else (none)))) else (none)) else (if x193000 = 3 then (meddlerref6_Cond.j2 k (decide ((x193003.length : Int) > 1)) x193000 x193001 x193002 x193003) else (meddlerref6_Cond.j2 k false x193000 x193001 x193002 x193003))
def meddlerref6_Cond.j2 : Nat → Bool → Int → Int → List (S30) → List (S33) → Option (ByteArray)
  | 0, _, _, _, _, _ => none
  | k + 1, x72, x193000, x193001, x193002, x193003 => if x72 = true then (if 0 < (x193003.length : Int) then ((meddlerref6_Cond.f k ((rd_T33 x193003 0).f0) ((rd_T33 x193003 0).f1) ((rd_T33 x193003 0).f2) ((rd_T33 x193003 0).f3)).bind fun t207 => (if 1 + t207.size ≤ 9223372036854775807 then (if ((⟨#[91]⟩ : ByteArray) ++ t207).size + 4 ≤ 9223372036854775807 then (if 1 < (x193003.length : Int) then ((meddlerref6_Cond.f k ((rd_T33 x193003 1).f0) ((rd_T33 x193003 1).f1) ((rd_T33 x193003 1).f2) ((rd_T33 x193003 1).f3)).bind fun t209 => (if (((⟨#[91]⟩ : ByteArray) ++ t207) ++ (⟨#[32, 38, 38, 32]⟩ : ByteArray)).size + t209.size ≤ 9223372036854775807 then (if ((((⟨#[91]⟩ : ByteArray) ++ t207) ++ (⟨#[32, 38, 38, 32]⟩ : ByteArray)) ++ t209).size + 1 ≤ 9223372036854775807 then (some (((((⟨#[91]⟩ : ByteArray) ++ t207) ++ (⟨#[32, 38, 38, 32]⟩ : ByteArray)) ++ t209) ++ (⟨#[93]⟩ : ByteArray))) else (none)) else (none))) else (none)) else (none)) else (none))) else (none)) else (if x193000 = 4 then (meddlerref6_Cond.j3 k (decide ((x193003.length : Int) > 1)) x193000 x193001 x193002 x193003) else (meddlerref6_Cond.j3 k false x193000 x193001 x193002 x193003))
def meddlerref6_Cond.j3 : Nat → Bool → Int → Int → List (S30) → List (S33) → Option (ByteArray)
  | 0, _, _, _, _, _ => none
  | k + 1, x96, x193000, x193001, x193002, x193003 => if x96 = true then (if 0 < (x193003.length : Int) then ((meddlerref6_Cond.f k ((rd_T33 x193003 0).f0) ((rd_T33 x193003 0).f1) ((rd_T33 x193003 0).f2) ((rd_T33 x193003 0).f3)).bind fun t211 => (if 1 + t211.size ≤ 9223372036854775807 then (if ((⟨#[91]⟩ : ByteArray) ++ t211).size + 4 ≤ 9223372036854775807 then (if 1 < (x193003.length : Int) then ((meddlerref6_Cond.f k ((rd_T33 x193003 1).f0) ((rd_T33 x193003 1).f1) ((rd_T33 x193003 1).f2) ((rd_T33 x193003 1).f3)).bind fun t213 => (if (((⟨#[91]⟩ : ByteArray) ++ t211) ++ (⟨#[32, 124, 124, 32]⟩ : ByteArray)).size + t213.size ≤ 9223372036854775807 then (if ((((⟨#[91]⟩ : ByteArray) ++ t211) ++ (⟨#[32, 124, 124, 32]⟩ : ByteArray)) ++ t213).size + 1 ≤ 9223372036854775807 then (some (((((⟨#[91]⟩ : ByteArray) ++ t211) ++ (⟨#[32, 124, 124, 32]⟩ : ByteArray)) ++ t213) ++ (⟨#[93]⟩ : ByteArray))) else (none)) else (none))) else (none)) else (none)) else (none))) else (none)) else (some (⟨#[63]⟩ : ByteArray))
def meddlerref6_Cond.f : Nat → Int → Int → List (S30) → List (S33) → Option (ByteArray)
  | 0, _, _, _, _ => none
  | k + 1, a0_0, a0_1, l0_2, l0_3 => if a0_0 = 1 then (if (l0_2.length : Int) > 1 then (if a0_1 ≥ 1 then (meddlerref6_Cond.j0 k (decide (a0_1 ≤ 6)) a0_0 a0_1 l0_2 l0_3) else (meddlerref6_Cond.j0 k false a0_0 a0_1 l0_2 l0_3)) else (meddlerref6_Cond.j0 k false a0_0 a0_1 l0_2 l0_3)) else (meddlerref6_Cond.j0 k false a0_0 a0_1 l0_2 l0_3)
end
theorem meddlerref6_Cond.mono_l : ∀ k, (∀ y0 y1 y2 y3, LeO (meddlerref6_Cond.f k y0 y1 y2 y3) (meddlerref6_Cond.f (k + 1) y0 y1 y2 y3)) ∧ (∀ y0 y1 y2 y3 y4, LeO (meddlerref6_Cond.j0 k y0 y1 y2 y3 y4) (meddlerref6_Cond.j0 (k + 1) y0 y1 y2 y3 y4)) ∧ (∀ y0 y1 y2 y3 y4, LeO (meddlerref6_Cond.j1 k y0 y1 y2 y3 y4) (meddlerref6_Cond.j1 (k + 1) y0 y1 y2 y3 y4)) ∧ (∀ y0 y1 y2 y3 y4, LeO (meddlerref6_Cond.j2 k y0 y1 y2 y3 y4) (meddlerref6_Cond.j2 (k + 1) y0 y1 y2 y3 y4)) ∧ (∀ y0 y1 y2 y3 y4, LeO (meddlerref6_Cond.j3 k y0 y1 y2 y3 y4) (meddlerref6_Cond.j3 (k + 1) y0 y1 y2 y3 y4))
  | 0 => ⟨fun _ _ _ _ r h => by simp [meddlerref6_Cond.f] at h, fun _ _ _ _ _ r h => by simp [meddlerref6_Cond.j0] at h, fun _ _ _ _ _ r h => by simp [meddlerref6_Cond.j1] at h, fun _ _ _ _ _ r h => by simp [meddlerref6_Cond.j2] at h, fun _ _ _ _ _ r h => by simp [meddlerref6_Cond.j3] at h⟩
  | k + 1 => by
    obtain ⟨ih0, ih1, ih2, ih3, ih4⟩ := meddlerref6_Cond.mono_l k
    refine ⟨?_, ?_, ?_, ?_, ?_⟩
    · intro y0 y1 y2 y3
      unfold meddlerref6_Cond.f
      repeat' first
      | (with_reducible exact ih0 _ _ _ _)
      | (with_reducible exact ih1 _ _ _ _ _)
      | (with_reducible exact ih2 _ _ _ _ _)
      | (with_reducible exact ih3 _ _ _ _ _)
      | (with_reducible exact ih4 _ _ _ _ _)
      | (with_reducible exact meddlerref6_Expr.mono _ _ _ _ _ _)
      | (with_reducible exact LeO.refl _)
      | (with_reducible exact LeO.none _)
      | (with_reducible refine LeO.ite ?_ ?_)
      | (with_reducible refine LeO.bind ?_ (fun _ => ?_))
      | exact ih0 _ _ _ _
      | exact ih1 _ _ _ _ _
      | exact ih2 _ _ _ _ _
      | exact ih3 _ _ _ _ _
      | exact ih4 _ _ _ _ _
      | exact meddlerref6_Expr.mono _ _ _ _ _ _
      | exact LeO.none _
      | refine LeO.ite ?_ ?_
      | refine LeO.bind ?_ (fun _ => ?_)
    · intro y0 y1 y2 y3 y4
      unfold meddlerref6_Cond.j0
      repeat' first
      | (with_reducible exact ih0 _ _ _ _)
      | (with_reducible exact ih1 _ _ _ _ _)
      | (with_reducible exact ih2 _ _ _ _ _)
      | (with_reducible exact ih3 _ _ _ _ _)
      | (with_reducible exact ih4 _ _ _ _ _)
      | (with_reducible exact meddlerref6_Expr.mono _ _ _ _ _ _)
      | (with_reducible exact LeO.refl _)
      | (with_reducible exact LeO.none _)
      | (with_reducible refine LeO.ite ?_ ?_)
      | (with_reducible refine LeO.bind ?_ (fun _ => ?_))
      | exact ih0 _ _ _ _
      | exact ih1 _ _ _ _ _
      | exact ih2 _ _ _ _ _
      | exact ih3 _ _ _ _ _
      | exact ih4 _ _ _ _ _
      | exact meddlerref6_Expr.mono _ _ _ _ _ _
      | exact LeO.none _
      | refine LeO.ite ?_ ?_
      | refine LeO.bind ?_ (fun _ => ?_)
    · intro y0 y1 y2 y3 y4
      unfold meddlerref6_Cond.j1
      repeat' first
      | (with_reducible exact ih0 _ _ _ _)
      | (with_reducible exact ih1 _ _ _ _ _)
      | (with_reducible exact ih2 _ _ _ _ _)
      | (with_reducible exact ih3 _ _ _ _ _)
      | (with_reducible exact ih4 _ _ _ _ _)
      | (with_reducible exact meddlerref6_Expr.mono _ _ _ _ _ _)
      | (with_reducible exact LeO.refl _)
      | (with_reducible exact LeO.none _)
      | (with_reducible refine LeO.ite ?_ ?_)
      | (with_reducible refine LeO.bind ?_ (fun _ => ?_))
      | exact ih0 _ _ _ _
      | exact ih1 _ _ _ _ _
      | exact ih2 _ _ _ _ _
      | exact ih3 _ _ _ _ _
      | exact ih4 _ _ _ _ _
      | exact meddlerref6_Expr.mono _ _ _ _ _ _
      | exact LeO.none _
      | refine LeO.ite ?_ ?_
      | refine LeO.bind ?_ (fun _ => ?_)
    · intro y0 y1 y2 y3 y4
      unfold meddlerref6_Cond.j2
      repeat' first
      | (with_reducible exact ih0 _ _ _ _)
      | (with_reducible exact ih1 _ _ _ _ _)
      | (with_reducible exact ih2 _ _ _ _ _)
      | (with_reducible exact ih3 _ _ _ _ _)
      | (with_reducible exact ih4 _ _ _ _ _)
      | (with_reducible exact meddlerref6_Expr.mono _ _ _ _ _ _)
      | (with_reducible exact LeO.refl _)
      | (with_reducible exact LeO.none _)
      | (with_reducible refine LeO.ite ?_ ?_)
      | (with_reducible refine LeO.bind ?_ (fun _ => ?_))
      | exact ih0 _ _ _ _
      | exact ih1 _ _ _ _ _
      | exact ih2 _ _ _ _ _
      | exact ih3 _ _ _ _ _
      | exact ih4 _ _ _ _ _
      | exact meddlerref6_Expr.mono _ _ _ _ _ _
      | exact LeO.none _
      | refine LeO.ite ?_ ?_
      | refine LeO.bind ?_ (fun _ => ?_)
    · intro y0 y1 y2 y3 y4
      unfold meddlerref6_Cond.j3
      repeat' first
      | (with_reducible exact ih0 _ _ _ _)
      | (with_reducible exact ih1 _ _ _ _ _)
      | (with_reducible exact ih2 _ _ _ _ _)
      | (with_reducible exact ih3 _ _ _ _ _)
      | (with_reducible exact ih4 _ _ _ _ _)
      | (with_reducible exact meddlerref6_Expr.mono _ _ _ _ _ _)
      | (with_reducible exact LeO.refl _)
      | (with_reducible exact LeO.none _)
      | (with_reducible refine LeO.ite ?_ ?_)
      | (with_reducible refine LeO.bind ?_ (fun _ => ?_))
      | exact ih0 _ _ _ _
      | exact ih1 _ _ _ _ _
      | exact ih2 _ _ _ _ _
      | exact ih3 _ _ _ _ _
      | exact ih4 _ _ _ _ _
      | exact meddlerref6_Expr.mono _ _ _ _ _ _
      | exact LeO.none _
      | refine LeO.ite ?_ ?_
      | refine LeO.bind ?_ (fun _ => ?_)
theorem meddlerref6_Cond.mono : ∀ a0 a1 a2 a3 k, LeO (meddlerref6_Cond.f k a0 a1 a2 a3) (meddlerref6_Cond.f (k + 1) a0 a1 a2 a3) := by
  intro a0 a1 a2 a3 k
  obtain ⟨ih0, ih1, ih2, ih3, ih4⟩ := meddlerref6_Cond.mono_l k
  exact ih0 a0 a1 a2 a3
def meddlerref6_Cond.T2 : Bool × List (List Nat × List Nat) := (true, [([], []), ([0], [0]), ([1], [1]), ([2], [2]), ([3], [3]), ([4], [4]), ([], []), ([], []), ([7], [7]), ([8], [8]), ([6, 9], [6, 9]), ([10], [10]), ([5, 11], [5, 11]), ([12], [12]), ([], []), ([14], [14]), ([15], [15]), ([16], [16]), ([17, 4], [17]), ([13, 18], [13, 18]), ([19, 18, 0, 1, 2, 3, 4, 5, 6, 7, 8, 9, 10, 11, 12, 13, 14, 15, 16, 17, 18, 19], [19])])
def meddlerref6_Cond.B2 : List Nat := [0, 1, 3, 7, 15, 31, 0, 0, 128, 384, 960, 1984, 4095, 8191, 0, 16384, 49152, 114688, 245791, 524287, 1048575]
theorem meddlerref6_Cond.tab2 : rtab .any (opsOf Tryd.f16 2) = meddlerref6_Cond.T2 := by kernel_rfl
theorem meddlerref6_Cond.bits2 : waitsOk meddlerref6_Cond.T2.2 meddlerref6_Cond.B2 = true := by kernel_rfl
def meddlerref6_Cond.T8 : Bool × List (List Nat × List Nat) := (true, [([], []), ([0], [0]), ([1], [1]), ([2], [2]), ([3], [3]), ([4], [4]), ([5], [5]), ([], []), ([7], [7]), ([8], [8]), ([9], [9]), ([10, 4], [10]), ([6, 11], [6, 11]), ([12], [12]), ([13, 11, 0, 1, 2, 3, 4, 5, 6, 7, 8, 9, 10, 11, 12, 13], [13])])
def meddlerref6_Cond.B8 : List Nat := [0, 1, 3, 7, 15, 31, 63, 0, 128, 384, 896, 1951, 4095, 8191, 16383]
theorem meddlerref6_Cond.tab8 : rtab .any (opsOf Tryd.f16 8) = meddlerref6_Cond.T8 := by kernel_rfl
theorem meddlerref6_Cond.bits8 : waitsOk meddlerref6_Cond.T8.2 meddlerref6_Cond.B8 = true := by kernel_rfl
def meddlerref6_Cond.T10 : Bool × List (List Nat × List Nat) := (true, [([], []), ([0], [0]), ([1], [1]), ([2], [2]), ([3], [3]), ([4], [4]), ([5], [5]), ([], []), ([7], [7]), ([8], [8]), ([9], [9]), ([10, 4], [10]), ([6, 11], [6, 11]), ([12], [12]), ([13, 11, 0, 1, 2, 3, 4, 5, 6, 7, 8, 9, 10, 11, 12, 13], [13])])
def meddlerref6_Cond.B10 : List Nat := [0, 1, 3, 7, 15, 31, 63, 0, 128, 384, 896, 1951, 4095, 8191, 16383]
theorem meddlerref6_Cond.tab10 : rtab .any (opsOf Tryd.f16 10) = meddlerref6_Cond.T10 := by kernel_rfl
theorem meddlerref6_Cond.bits10 : waitsOk meddlerref6_Cond.T10.2 meddlerref6_Cond.B10 = true := by kernel_rfl
set_option maxHeartbeats 8000000 in
set_option maxRecDepth 100000 in
theorem meddlerref6_Cond.calls (k : Nat) : ∀ (a0_0 : Int) (a0_1 : Int) (A0_2 : Option Addr) (c0_2 : Nat) (l0_2 : List (S30)) (A0_3 : Option Addr) (c0_3 : Nat) (l0_3 : List (S33)) (r : ByteArray) (w : World) (hr0_2 : Kd.C k30 w A0_2 l0_2.length l0_2) (hc0_2 : l0_2.length ≤ c0_2) (hr0_3 : Kd.C k33 w A0_3 l0_3.length l0_3) (hc0_3 : l0_3.length ≤ c0_3) (h : meddlerref6_Cond.f k a0_0 a0_1 l0_2 l0_3 = some r),
    Calls Tryd.prog 16 #[.agg #[.int .i64 a0_0, .int .i64 a0_1, .slice A0_2 l0_2.length c0_2, .slice A0_3 l0_3.length c0_3]] w fun e w' => e = .returned (.string r) ∧ Below w.heap.size w w' := by
  induction k using Nat.strongRecOn with
  | _ k ih =>
  intro a0_0 a0_1 A0_2 c0_2 l0_2 A0_3 c0_3 l0_3 r w hr0_2 hc0_2 hr0_3 hc0_3 h
  cases k with
  | zero => exact absurd h (by simp [meddlerref6_Cond.f])
  | succ k =>
  simp only [meddlerref6_Cond.f] at h
  have hu33 := Tryd.underlying33
  have hu30 := Tryd.underlying30
  have HR0_2 := Aside0.mk hr0_2
  have HC0_2 := Aside0.mk hc0_2
  clear hr0_2 hc0_2
  have HR0_3 := Aside0.mk hr0_3
  have HC0_3 := Aside0.mk hc0_3
  clear hr0_3 hc0_3
  have HB := Aside0.mk (Below.refl w.heap.size w)
  have H : (if a0_0 = 1 then (if (l0_2.length : Int) > 1 then (if a0_1 ≥ 1 then (meddlerref6_Cond.j0 k (decide (a0_1 ≤ 6)) a0_0 a0_1 l0_2 l0_3) else (meddlerref6_Cond.j0 k false a0_0 a0_1 l0_2 l0_3)) else (meddlerref6_Cond.j0 k false a0_0 a0_1 l0_2 l0_3)) else (meddlerref6_Cond.j0 k false a0_0 a0_1 l0_2 l0_3)) = some r := h
  clear h
  have HC2 := Aside0.mk H
  clear H
  go_enter Tryd.func16, Tryd.ntmps16
  go_upto_region 1 with (first | ((with_reducible refine gate_dst (N := 1) rfl ?_); (try (refine gate_guard (by rfl) ?_; dsimp only)); refine box_event ?hg (N := 1) ?hd (cs := #[.int .i64 a0_0, .int .i64 a0_1, .slice A0_2 l0_2.length c0_2, .slice A0_3 l0_3.length c0_3]) (t := 33) ?hr ?_; (case hd => rfl); (case hg => rfl); (case hr => first | (go_simp; done) | (go_simp; rfl)); intro gb192 hg w3 hbox hb; have n0_ := Aside0.mk (below_step (by repeat (first | (with_reducible first | exact HB.out | apply below_alloc | apply pw_below_drewN | apply below_drew1) | exact HB.out)) hb); have n1_ := Aside0.mk (hbox); have n2_ := Aside0.mk ((by rw [hg]; exact (below_size (by repeat (first | (with_reducible first | exact HB.out | apply below_alloc | apply pw_below_drewN | apply below_drew1) | exact HB.out))) : w.heap.size ≤ gb192)); have n3_ := Aside0.mk ((by rw [hg]; exact (below_size (by repeat (first | (with_reducible first | exact HB.out | apply below_alloc | apply pw_below_drewN | apply below_drew1) | exact HB.out))) : w.heap.size ≤ gb192)); clear HB; have HB := n0_; have BK192 := n1_; have GW192 := n2_; have GE192 := n3_; clear n0_ n1_ n2_ n3_; clear hb hbox hg))
  (try simp only [Act.put, List.setIfInBounds_toArray, List.set_cons_zero, List.set_cons_succ])
  go_cut [3] (fun v3 wc => ∃ (kq : Nat) (x3_1 : Bool), v3 = .bool x3_1 ∧ Aside0 (meddlerref6_Cond.j0 kq x3_1 a0_0 a0_1 l0_2 l0_3 = some r) ∧ Aside0 (kq ≤ k) ∧ Aside0 (wc.heap[gb192]? = some (.cells #[.int .i64 a0_0, .int .i64 a0_1, (.slice A0_2 l0_2.length c0_2), (.slice A0_3 l0_3.length c0_3)] 33 (0, 0))) ∧ Aside0 (Below w.heap.size w wc))
  case first =>
    have H := HC2.out
    clear HC2
    by_cases c4 : a0_0 = 1
    · rw [if_pos c4] at H
      have c4b0 : (a0_0 == 1) = true := beq_iff_eq.mpr c4
      have c4b1 : (a0_0 != 1) = false := bne_eq_false_iff_eq.mpr c4
      clear c4
      (first | rw [c4b0] | (simp only [i64_w, i32_w]; rw [c4b0]) | skip)
      by_cases c5 : (l0_2.length : Int) > 1
      · rw [if_pos c5] at H
        have c5b0 : decide (1 < (l0_2.length : Int)) = true := decide_eq_true c5
        have c5b1 : decide (1 < l0_2.length) = true := decide_eq_true (by omega)
        clear c5
        by_cases c6 : a0_1 ≥ 1
        · rw [if_pos c6] at H
          have c6b0 : decide (1 ≤ a0_1) = true := decide_eq_true c6
          clear c6
          have H' := Aside0.mk H
          clear H
          have hcz7_0 : w3.cell? ⟨gb192, 0, none⟩ = some (.int .i64 a0_0) := (blk_cell BK192.out 0).trans rfl
          have hcz7_1 : w3.cell? ⟨gb192, 1, none⟩ = some (.int .i64 a0_1) := (blk_cell BK192.out 1).trans rfl
          have hcz7_2 : w3.cell? ⟨gb192, 2, none⟩ = some (.slice A0_2 l0_2.length c0_2) := (blk_cell BK192.out 2).trans rfl
          have hcz7_3 : w3.cell? ⟨gb192, 3, none⟩ = some (.slice A0_3 l0_3.length c0_3) := (blk_cell BK192.out 3).trans rfl
          have hfz7_0 := blk_frozen BK192.out 0
          have hfz7_1 := blk_frozen BK192.out 1
          have hfz7_2 := blk_frozen BK192.out 2
          have hfz7_3 := blk_frozen BK192.out 3
          go_wp2
          go_meet
          case rel => exact ⟨_, (decide (a0_1 ≤ 6)), (by first | rfl | (simp; done) | (simp [*]; done)), H', ⟨by first | omega | exact Nat.le_refl _⟩, ⟨by (with_reducible repeat (first | refine blk_drewN ?_ _ | refine blk_drew ?_ | refine blk_alloc ?_ _)); exact BK192.out⟩, ⟨by repeat (first | (with_reducible first | exact HB.out | apply below_alloc | apply pw_below_drewN | apply below_drew1 | refine below_set ?_ GE192.out) | exact HB.out)⟩⟩
        · rw [if_neg c6] at H
          have c6b0 : decide (1 ≤ a0_1) = false := decide_eq_false c6
          clear c6
          have H' := Aside0.mk H
          clear H
          have hcz8_0 : w3.cell? ⟨gb192, 0, none⟩ = some (.int .i64 a0_0) := (blk_cell BK192.out 0).trans rfl
          have hcz8_1 : w3.cell? ⟨gb192, 1, none⟩ = some (.int .i64 a0_1) := (blk_cell BK192.out 1).trans rfl
          have hcz8_2 : w3.cell? ⟨gb192, 2, none⟩ = some (.slice A0_2 l0_2.length c0_2) := (blk_cell BK192.out 2).trans rfl
          have hcz8_3 : w3.cell? ⟨gb192, 3, none⟩ = some (.slice A0_3 l0_3.length c0_3) := (blk_cell BK192.out 3).trans rfl
          have hfz8_0 := blk_frozen BK192.out 0
          have hfz8_1 := blk_frozen BK192.out 1
          have hfz8_2 := blk_frozen BK192.out 2
          have hfz8_3 := blk_frozen BK192.out 3
          go_wp2
          go_meet
          case rel => exact ⟨_, (false), (by first | rfl | (simp; done) | (simp [*]; done)), H', ⟨by first | omega | exact Nat.le_refl _⟩, ⟨by (with_reducible repeat (first | refine blk_drewN ?_ _ | refine blk_drew ?_ | refine blk_alloc ?_ _)); exact BK192.out⟩, ⟨by repeat (first | (with_reducible first | exact HB.out | apply below_alloc | apply pw_below_drewN | apply below_drew1 | refine below_set ?_ GE192.out) | exact HB.out)⟩⟩
      · rw [if_neg c5] at H
        have c5b0 : decide (1 < (l0_2.length : Int)) = false := decide_eq_false c5
        have c5b1 : decide (1 < l0_2.length) = false := decide_eq_false (by omega)
        clear c5
        have H' := Aside0.mk H
        clear H
        have hcz9_0 : w3.cell? ⟨gb192, 0, none⟩ = some (.int .i64 a0_0) := (blk_cell BK192.out 0).trans rfl
        have hcz9_1 : w3.cell? ⟨gb192, 1, none⟩ = some (.int .i64 a0_1) := (blk_cell BK192.out 1).trans rfl
        have hcz9_2 : w3.cell? ⟨gb192, 2, none⟩ = some (.slice A0_2 l0_2.length c0_2) := (blk_cell BK192.out 2).trans rfl
        have hcz9_3 : w3.cell? ⟨gb192, 3, none⟩ = some (.slice A0_3 l0_3.length c0_3) := (blk_cell BK192.out 3).trans rfl
        have hfz9_0 := blk_frozen BK192.out 0
        have hfz9_1 := blk_frozen BK192.out 1
        have hfz9_2 := blk_frozen BK192.out 2
        have hfz9_3 := blk_frozen BK192.out 3
        go_wp2
        go_meet
        case rel => exact ⟨_, (false), (by first | rfl | (simp; done) | (simp [*]; done)), H', ⟨by first | omega | exact Nat.le_refl _⟩, ⟨by (with_reducible repeat (first | refine blk_drewN ?_ _ | refine blk_drew ?_ | refine blk_alloc ?_ _)); exact BK192.out⟩, ⟨by repeat (first | (with_reducible first | exact HB.out | apply below_alloc | apply pw_below_drewN | apply below_drew1 | refine below_set ?_ GE192.out) | exact HB.out)⟩⟩
    · rw [if_neg c4] at H
      have c4b0 : (a0_0 == 1) = false := beq_eq_false_iff_ne.mpr c4
      have c4b1 : (a0_0 != 1) = true := bne_iff_ne.mpr c4
      (first | rw [c4b0] | (simp only [i64_w, i32_w]; rw [c4b0]) | skip)
      have H' := Aside0.mk H
      clear H
      have hcz10_0 : w3.cell? ⟨gb192, 0, none⟩ = some (.int .i64 a0_0) := (blk_cell BK192.out 0).trans rfl
      have hcz10_1 : w3.cell? ⟨gb192, 1, none⟩ = some (.int .i64 a0_1) := (blk_cell BK192.out 1).trans rfl
      have hcz10_2 : w3.cell? ⟨gb192, 2, none⟩ = some (.slice A0_2 l0_2.length c0_2) := (blk_cell BK192.out 2).trans rfl
      have hcz10_3 : w3.cell? ⟨gb192, 3, none⟩ = some (.slice A0_3 l0_3.length c0_3) := (blk_cell BK192.out 3).trans rfl
      have hfz10_0 := blk_frozen BK192.out 0
      have hfz10_1 := blk_frozen BK192.out 1
      have hfz10_2 := blk_frozen BK192.out 2
      have hfz10_3 := blk_frozen BK192.out 3
      go_wp2
      go_meet
      case rel => exact ⟨_, (false), (by first | rfl | (simp; done) | (simp [*]; done)), H', ⟨by first | omega | exact Nat.le_refl _⟩, ⟨by (with_reducible repeat (first | refine blk_drewN ?_ _ | refine blk_drew ?_ | refine blk_alloc ?_ _)); exact BK192.out⟩, ⟨by repeat (first | (with_reducible first | exact HB.out | apply below_alloc | apply pw_below_drewN | apply below_drew1 | refine below_set ?_ GE192.out) | exact HB.out)⟩⟩
  case rest =>
    clear HC2
    try clear c1
    try clear p2
    try clear c4
    try clear c4b0
    try clear c4b1
    try clear c5
    try clear c5b0
    try clear c5b1
    try clear c6
    try clear c6b0
    try clear hcz10_0
    try clear hcz10_1
    try clear hcz10_2
    try clear hcz10_3
    try clear hcz7_0
    try clear hcz7_1
    try clear hcz7_2
    try clear hcz7_3
    try clear hcz8_0
    try clear hcz8_1
    try clear hcz8_2
    try clear hcz8_3
    try clear hcz9_0
    try clear hcz9_1
    try clear hcz9_2
    try clear hcz9_3
    try clear hfz10_0
    try clear hfz10_1
    try clear hfz10_2
    try clear hfz10_3
    try clear hfz7_0
    try clear hfz7_1
    try clear hfz7_2
    try clear hfz7_3
    try clear hfz8_0
    try clear hfz8_1
    try clear hfz8_2
    try clear hfz8_3
    try clear hfz9_0
    try clear hfz9_1
    try clear hfz9_2
    try clear hfz9_3
    obtain ⟨kq, x3_1, rfl, HA, HJ1, BK192, HB⟩ := hcut
    cases kq with
    | zero => exact absurd HA.out (by simp [meddlerref6_Cond.j0])
    | succ kj1 =>
      have H := HA.out
      clear HA
      simp only [meddlerref6_Cond.j0] at H
      by_cases c11 : x3_1 = true
      · subst c11
        have H1 : (if 0 < (l0_2.length : Int) then ((meddlerref6_Expr.f kj1 ((rd_T30 l0_2 0).f0) ((rd_T30 l0_2 0).f1) ((rd_T30 l0_2 0).f2) ((rd_T30 l0_2 0).f3) ((rd_T30 l0_2 0).f4)).bind fun t194 => (if t194.size + 1 ≤ 9223372036854775807 then ((some (([(⟨#[60]⟩ : ByteArray), (⟨#[60, 61]⟩ : ByteArray), (⟨#[61, 61]⟩ : ByteArray), (⟨#[33, 61]⟩ : ByteArray), (⟨#[62, 61]⟩ : ByteArray), (⟨#[62]⟩ : ByteArray)] : List ByteArray) : List ByteArray)).bind fun y195 => (if 0 ≤ (wrap64 (a0_1 - 1)) then (if (wrap64 (a0_1 - 1)) < (y195.length : Int) then (if (t194 ++ (⟨#[32]⟩ : ByteArray)).size + (rdOf ByteArray.empty y195 (wrap64 (a0_1 - 1))).size ≤ 9223372036854775807 then (if ((t194 ++ (⟨#[32]⟩ : ByteArray)) ++ (rdOf ByteArray.empty y195 (wrap64 (a0_1 - 1)))).size + 1 ≤ 9223372036854775807 then (if 1 < (l0_2.length : Int) then ((meddlerref6_Expr.f kj1 ((rd_T30 l0_2 1).f0) ((rd_T30 l0_2 1).f1) ((rd_T30 l0_2 1).f2) ((rd_T30 l0_2 1).f3) ((rd_T30 l0_2 1).f4)).bind fun t200 => (if (((t194 ++ (⟨#[32]⟩ : ByteArray)) ++ (rdOf ByteArray.empty y195 (wrap64 (a0_1 - 1)))) ++ (⟨#[32]⟩ : ByteArray)).size + t200.size ≤ 9223372036854775807 then (some ((((t194 ++ (⟨#[32]⟩ : ByteArray)) ++ (rdOf ByteArray.empty y195 (wrap64 (a0_1 - 1)))) ++ (⟨#[32]⟩ : ByteArray)) ++ t200)) else (none))) else (none)) else (none)) else (none)) else (none)) else (none))) else (none))) else (none)) = some r := by rw [if_pos rfl] at H; exact H
        clear H
        have H := H1
        clear H1
        by_cases c12 : 0 < (l0_2.length : Int)
        · rw [if_pos c12] at H
          have c12b0 : decide (0 < (l0_2.length : Int)) = true := decide_eq_true c12
          have c12b1 : decide (0 < l0_2.length) = true := decide_eq_true (by omega)
          clear c12
          replace H := Option.bind_eq_some_iff.mp H
          obtain ⟨t194, A130, H⟩ := H
          replace H : (if t194.size + 1 ≤ 9223372036854775807 then ((some (([(⟨#[60]⟩ : ByteArray), (⟨#[60, 61]⟩ : ByteArray), (⟨#[61, 61]⟩ : ByteArray), (⟨#[33, 61]⟩ : ByteArray), (⟨#[62, 61]⟩ : ByteArray), (⟨#[62]⟩ : ByteArray)] : List ByteArray) : List ByteArray)).bind fun y195 => (if 0 ≤ (wrap64 (a0_1 - 1)) then (if (wrap64 (a0_1 - 1)) < (y195.length : Int) then (if (t194 ++ (⟨#[32]⟩ : ByteArray)).size + (rdOf ByteArray.empty y195 (wrap64 (a0_1 - 1))).size ≤ 9223372036854775807 then (if ((t194 ++ (⟨#[32]⟩ : ByteArray)) ++ (rdOf ByteArray.empty y195 (wrap64 (a0_1 - 1)))).size + 1 ≤ 9223372036854775807 then (if 1 < (l0_2.length : Int) then ((meddlerref6_Expr.f kj1 ((rd_T30 l0_2 1).f0) ((rd_T30 l0_2 1).f1) ((rd_T30 l0_2 1).f2) ((rd_T30 l0_2 1).f3) ((rd_T30 l0_2 1).f4)).bind fun t200 => (if (((t194 ++ (⟨#[32]⟩ : ByteArray)) ++ (rdOf ByteArray.empty y195 (wrap64 (a0_1 - 1)))) ++ (⟨#[32]⟩ : ByteArray)).size + t200.size ≤ 9223372036854775807 then (some ((((t194 ++ (⟨#[32]⟩ : ByteArray)) ++ (rdOf ByteArray.empty y195 (wrap64 (a0_1 - 1)))) ++ (⟨#[32]⟩ : ByteArray)) ++ t200)) else (none))) else (none)) else (none)) else (none)) else (none)) else (none))) else (none)) = some r := H
          have A13 := Aside0.mk A130
          clear A130
          by_cases c14 : t194.size + 1 ≤ 9223372036854775807
          · rw [if_pos c14] at H
            have c14b0 := eq_true c14
            have c14b1 : decide (t194.size + 1 ≤ 9223372036854775807) = true := decide_eq_true c14
            try have c14b2 : (9223372036854775807 < t194.size + 1) = False := eq_false (Nat.not_lt.2 c14)
            try have c14b3 := c14b2
            try simp only [ByteArray.size_append, szl16, List.size_toArray, List.length_cons, List.length_nil, Nat.zero_add, Nat.reduceAdd] at c14b3
            obtain ⟨y195, hy195⟩ : ∃ y_ : List ByteArray, y_ = (([(⟨#[60]⟩ : ByteArray), (⟨#[60, 61]⟩ : ByteArray), (⟨#[61, 61]⟩ : ByteArray), (⟨#[33, 61]⟩ : ByteArray), (⟨#[62, 61]⟩ : ByteArray), (⟨#[62]⟩ : ByteArray)] : List ByteArray)) := ⟨_, rfl⟩
            replace H : (if 0 ≤ (wrap64 (a0_1 - 1)) then (if (wrap64 (a0_1 - 1)) < (y195.length : Int) then (if (t194 ++ (⟨#[32]⟩ : ByteArray)).size + (rdOf ByteArray.empty y195 (wrap64 (a0_1 - 1))).size ≤ 9223372036854775807 then (if ((t194 ++ (⟨#[32]⟩ : ByteArray)) ++ (rdOf ByteArray.empty y195 (wrap64 (a0_1 - 1)))).size + 1 ≤ 9223372036854775807 then (if 1 < (l0_2.length : Int) then ((meddlerref6_Expr.f kj1 ((rd_T30 l0_2 1).f0) ((rd_T30 l0_2 1).f1) ((rd_T30 l0_2 1).f2) ((rd_T30 l0_2 1).f3) ((rd_T30 l0_2 1).f4)).bind fun t200 => (if (((t194 ++ (⟨#[32]⟩ : ByteArray)) ++ (rdOf ByteArray.empty y195 (wrap64 (a0_1 - 1)))) ++ (⟨#[32]⟩ : ByteArray)).size + t200.size ≤ 9223372036854775807 then (some ((((t194 ++ (⟨#[32]⟩ : ByteArray)) ++ (rdOf ByteArray.empty y195 (wrap64 (a0_1 - 1)))) ++ (⟨#[32]⟩ : ByteArray)) ++ t200)) else (none))) else (none)) else (none)) else (none)) else (none)) else (none)) = some r := by first | (rw [hy195]; with_reducible exact H) | (have H2_ := (Option.bind_some _ _).symm.trans H; rw [hy195]; with_reducible exact H2_) | (have H2_ := (Option.bind_some _ _).symm.trans H; with_reducible exact H2_) | with_reducible exact H | (rw [hy195]; exact H) | exact H
            have Ny195 := Aside0.mk hy195
            clear hy195
            obtain ⟨ji15, hji15⟩ : ∃ j_ : Int, (wrap64 (a0_1 - 1)) = j_ := ⟨_, rfl⟩
            replace H : (if 0 ≤ (ji15) then (if (ji15) < (y195.length : Int) then (if (t194 ++ (⟨#[32]⟩ : ByteArray)).size + (rdOf ByteArray.empty y195 (ji15)).size ≤ 9223372036854775807 then (if ((t194 ++ (⟨#[32]⟩ : ByteArray)) ++ (rdOf ByteArray.empty y195 (ji15))).size + 1 ≤ 9223372036854775807 then (if 1 < (l0_2.length : Int) then ((meddlerref6_Expr.f kj1 ((rd_T30 l0_2 1).f0) ((rd_T30 l0_2 1).f1) ((rd_T30 l0_2 1).f2) ((rd_T30 l0_2 1).f3) ((rd_T30 l0_2 1).f4)).bind fun t200 => (if (((t194 ++ (⟨#[32]⟩ : ByteArray)) ++ (rdOf ByteArray.empty y195 (ji15))) ++ (⟨#[32]⟩ : ByteArray)).size + t200.size ≤ 9223372036854775807 then (some ((((t194 ++ (⟨#[32]⟩ : ByteArray)) ++ (rdOf ByteArray.empty y195 (ji15))) ++ (⟨#[32]⟩ : ByteArray)) ++ t200)) else (none))) else (none)) else (none)) else (none)) else (none)) else (none)) = some r := by first | (rw [hji15] at H; exact H) | (simp only [hji15] at H ⊢; exact H)
            (try rw [hji15] at A13)
            have hji15w : (IntKind.i64.wrap (a0_1 - 1)) = ji15 := (i64_w _).trans hji15
            by_cases c16 : 0 ≤ (ji15)
            · rw [if_pos c16] at H
              have c16b0 : decide (0 ≤ (ji15)) = true := decide_eq_true c16
              clear c16
              by_cases c17 : (ji15) < (y195.length : Int)
              · rw [if_pos c17] at H
                have c17b0 : decide ((ji15) < (y195.length : Int)) = true := decide_eq_true c17
                clear c17
                by_cases c18 : (t194 ++ (⟨#[32]⟩ : ByteArray)).size + (rdOf ByteArray.empty y195 (ji15)).size ≤ 9223372036854775807
                · rw [if_pos c18] at H
                  have c18b0 := eq_true c18
                  have c18b1 : decide ((t194 ++ (⟨#[32]⟩ : ByteArray)).size + (rdOf ByteArray.empty y195 (ji15)).size ≤ 9223372036854775807) = true := decide_eq_true c18
                  try have c18b2 : (9223372036854775807 < (t194 ++ (⟨#[32]⟩ : ByteArray)).size + (rdOf ByteArray.empty y195 (ji15)).size) = False := eq_false (Nat.not_lt.2 c18)
                  try have c18b3 := c18b2
                  try simp only [ByteArray.size_append, szl16, List.size_toArray, List.length_cons, List.length_nil, Nat.zero_add, Nat.reduceAdd] at c18b3
                  by_cases c19 : ((t194 ++ (⟨#[32]⟩ : ByteArray)) ++ (rdOf ByteArray.empty y195 (ji15))).size + 1 ≤ 9223372036854775807
                  · rw [if_pos c19] at H
                    have c19b0 := eq_true c19
                    have c19b1 : decide (((t194 ++ (⟨#[32]⟩ : ByteArray)) ++ (rdOf ByteArray.empty y195 (ji15))).size + 1 ≤ 9223372036854775807) = true := decide_eq_true c19
                    try have c19b2 : (9223372036854775807 < ((t194 ++ (⟨#[32]⟩ : ByteArray)) ++ (rdOf ByteArray.empty y195 (ji15))).size + 1) = False := eq_false (Nat.not_lt.2 c19)
                    try have c19b3 := c19b2
                    try simp only [ByteArray.size_append, szl16, List.size_toArray, List.length_cons, List.length_nil, Nat.zero_add, Nat.reduceAdd] at c19b3
                    by_cases c20 : 1 < (l0_2.length : Int)
                    · rw [if_pos c20] at H
                      have c20b0 : decide (1 < (l0_2.length : Int)) = true := decide_eq_true c20
                      have c20b1 : decide (1 < l0_2.length) = true := decide_eq_true (by omega)
                      clear c20
                      replace H := Option.bind_eq_some_iff.mp H
                      obtain ⟨t200, A210, H⟩ := H
                      replace H : (if (((t194 ++ (⟨#[32]⟩ : ByteArray)) ++ (rdOf ByteArray.empty y195 (ji15))) ++ (⟨#[32]⟩ : ByteArray)).size + t200.size ≤ 9223372036854775807 then (some ((((t194 ++ (⟨#[32]⟩ : ByteArray)) ++ (rdOf ByteArray.empty y195 (ji15))) ++ (⟨#[32]⟩ : ByteArray)) ++ t200)) else (none)) = some r := H
                      have A21 := Aside0.mk A210
                      clear A210
                      by_cases c22 : (((t194 ++ (⟨#[32]⟩ : ByteArray)) ++ (rdOf ByteArray.empty y195 (ji15))) ++ (⟨#[32]⟩ : ByteArray)).size + t200.size ≤ 9223372036854775807
                      · rw [if_pos c22] at H
                        have c22b0 := eq_true c22
                        have c22b1 : decide ((((t194 ++ (⟨#[32]⟩ : ByteArray)) ++ (rdOf ByteArray.empty y195 (ji15))) ++ (⟨#[32]⟩ : ByteArray)).size + t200.size ≤ 9223372036854775807) = true := decide_eq_true c22
                        try have c22b2 : (9223372036854775807 < (((t194 ++ (⟨#[32]⟩ : ByteArray)) ++ (rdOf ByteArray.empty y195 (ji15))) ++ (⟨#[32]⟩ : ByteArray)).size + t200.size) = False := eq_false (Nat.not_lt.2 c22)
                        try have c22b3 := c22b2
                        try simp only [ByteArray.size_append, szl16, List.size_toArray, List.length_cons, List.length_nil, Nat.zero_add, Nat.reduceAdd] at c22b3
                        obtain rfl := Option.some.inj H
                        try go_wp2
                        have pi198 : (0 ≤ ((ji15) : Int)) = True := eq_true (of_decide_eq_true (by first | (with_reducible assumption) | assumption))
                        have qi198 : ((ji15) < (y195.length : Int)) = True := eq_true (of_decide_eq_true (by first | (with_reducible assumption) | assumption))
                        have n0_ := Aside0.mk (blk_drew BK192.out)
                        have n1_ := Aside0.mk (below_drew1 HB.out)
                        clear BK192
                        clear HB
                        have BK192 := n0_
                        have HB := n1_
                        clear n0_ n1_
                        have p193 : 0 ≤ (0 : Int) := (by omega)
                        have q193 : 0 < (l0_2.length : Int) := of_decide_eq_true (by first | (with_reducible assumption) | assumption)
                        obtain ⟨ad193, A193_4, c193_4, e193, hx193_0, hx193_1, hx193_2, hx193_3, hx193_4, hl193_4, hi193_4⟩ := at_T30 HR0_2.out 0 p193 q193
                        have hw193_4 := hx193_4
                        (try rw [show ((0 : Int)).toNat = 0 from rfl] at hw193_4)
                        (try rw [show 0 * 5 = 0 from rfl] at hw193_4)
                        (try rw [Addr.add_zero'] at hw193_4)
                        have hw193_3 := hx193_3
                        (try rw [show ((0 : Int)).toNat = 0 from rfl] at hw193_3)
                        (try rw [show 0 * 5 = 0 from rfl] at hw193_3)
                        (try rw [Addr.add_zero'] at hw193_3)
                        have hw193_2 := hx193_2
                        (try rw [show ((0 : Int)).toNat = 0 from rfl] at hw193_2)
                        (try rw [show 0 * 5 = 0 from rfl] at hw193_2)
                        (try rw [Addr.add_zero'] at hw193_2)
                        have hw193_1 := hx193_1
                        (try rw [show ((0 : Int)).toNat = 0 from rfl] at hw193_1)
                        (try rw [show 0 * 5 = 0 from rfl] at hw193_1)
                        (try rw [Addr.add_zero'] at hw193_1)
                        have hw193_0 := hx193_0
                        (try rw [show ((0 : Int)).toNat = 0 from rfl] at hw193_0)
                        (try rw [show 0 * 5 = 0 from rfl] at hw193_0)
                        (try rw [Addr.add_zero'] at hw193_0)
                        cases e193
                        have qi193 : (0 < l0_2.length) = True := eq_true (by omega)
                        (try rw [show ((0 : Int)).toNat = 0 from rfl] at hx193_0)
                        (try rw [show 0 * 5 = 0 from rfl] at hx193_0)
                        (try rw [Addr.add_zero'] at hx193_0)
                        (try rw [show ((0 : Int)).toNat = 0 from rfl] at hx193_1)
                        (try rw [show 0 * 5 = 0 from rfl] at hx193_1)
                        (try rw [Addr.add_zero'] at hx193_1)
                        (try rw [show ((0 : Int)).toNat = 0 from rfl] at hx193_2)
                        (try rw [show 0 * 5 = 0 from rfl] at hx193_2)
                        (try rw [Addr.add_zero'] at hx193_2)
                        (try rw [show ((0 : Int)).toNat = 0 from rfl] at hx193_3)
                        (try rw [show 0 * 5 = 0 from rfl] at hx193_3)
                        (try rw [Addr.add_zero'] at hx193_3)
                        (try rw [show ((0 : Int)).toNat = 0 from rfl] at hx193_4)
                        (try rw [show 0 * 5 = 0 from rfl] at hx193_4)
                        (try rw [Addr.add_zero'] at hx193_4)
                        replace hx193_0 := (HB.out.cell (World.block_lt_of_cell? w _ hx193_0)).trans hx193_0
                        replace hx193_1 := (HB.out.cell (World.block_lt_of_cell? w _ hx193_1)).trans hx193_1
                        replace hx193_2 := (HB.out.cell (World.block_lt_of_cell? w _ hx193_2)).trans hx193_2
                        replace hx193_3 := (HB.out.cell (World.block_lt_of_cell? w _ hx193_3)).trans hx193_3
                        replace hx193_4 := (HB.out.cell (World.block_lt_of_cell? w _ hx193_4)).trans hx193_4
                        have HR193_4 := Aside0.mk hi193_4
                        have HC193_4 := Aside0.mk hl193_4
                        clear hi193_4 hl193_4
                        replace p193 := eq_true p193
                        replace q193 := eq_true q193
                        have p199 : 0 ≤ (1 : Int) := (by omega)
                        have q199 : 1 < (l0_2.length : Int) := of_decide_eq_true (by first | (with_reducible assumption) | assumption)
                        obtain ⟨ad199, A199_4, c199_4, e199, hx199_0, hx199_1, hx199_2, hx199_3, hx199_4, hl199_4, hi199_4⟩ := at_T30 HR0_2.out 1 p199 q199
                        have hw199_4 := hx199_4
                        (try rw [show ((1 : Int)).toNat = 1 from rfl] at hw199_4)
                        (try rw [show 1 * 5 = 5 from rfl] at hw199_4)
                        (try simp only [Nat.reduceMul, Nat.reduceEqDiff, Go.Addr.add, ↓reduceIte] at hw199_4)
                        have hw199_3 := hx199_3
                        (try rw [show ((1 : Int)).toNat = 1 from rfl] at hw199_3)
                        (try rw [show 1 * 5 = 5 from rfl] at hw199_3)
                        (try simp only [Nat.reduceMul, Nat.reduceEqDiff, Go.Addr.add, ↓reduceIte] at hw199_3)
                        have hw199_2 := hx199_2
                        (try rw [show ((1 : Int)).toNat = 1 from rfl] at hw199_2)
                        (try rw [show 1 * 5 = 5 from rfl] at hw199_2)
                        (try simp only [Nat.reduceMul, Nat.reduceEqDiff, Go.Addr.add, ↓reduceIte] at hw199_2)
                        have hw199_1 := hx199_1
                        (try rw [show ((1 : Int)).toNat = 1 from rfl] at hw199_1)
                        (try rw [show 1 * 5 = 5 from rfl] at hw199_1)
                        (try simp only [Nat.reduceMul, Nat.reduceEqDiff, Go.Addr.add, ↓reduceIte] at hw199_1)
                        have hw199_0 := hx199_0
                        (try rw [show ((1 : Int)).toNat = 1 from rfl] at hw199_0)
                        (try rw [show 1 * 5 = 5 from rfl] at hw199_0)
                        (try simp only [Nat.reduceMul, Nat.reduceEqDiff, Go.Addr.add, ↓reduceIte] at hw199_0)
                        obtain rfl : ad193 = ad199 := (by injection e199)
                        (try simp only [show (1 : Int).toNat = 1 from rfl, Nat.reduceMul, Nat.reduceEqDiff, Go.Addr.add, ↓reduceIte] at hx199_0)
                        (try simp only [show (1 : Int).toNat = 1 from rfl, Nat.reduceMul, Nat.reduceEqDiff, Go.Addr.add, ↓reduceIte] at hx199_1)
                        (try simp only [show (1 : Int).toNat = 1 from rfl, Nat.reduceMul, Nat.reduceEqDiff, Go.Addr.add, ↓reduceIte] at hx199_2)
                        (try simp only [show (1 : Int).toNat = 1 from rfl, Nat.reduceMul, Nat.reduceEqDiff, Go.Addr.add, ↓reduceIte] at hx199_3)
                        (try simp only [show (1 : Int).toNat = 1 from rfl, Nat.reduceMul, Nat.reduceEqDiff, Go.Addr.add, ↓reduceIte] at hx199_4)
                        have qi199 : (1 < l0_2.length) = True := eq_true (by omega)
                        (try rw [show ((1 : Int)).toNat = 1 from rfl] at hx199_0)
                        (try rw [show 1 * 5 = 5 from rfl] at hx199_0)
                        (try rw [show ((1 : Int)).toNat = 1 from rfl] at hx199_1)
                        (try rw [show 1 * 5 = 5 from rfl] at hx199_1)
                        (try rw [show ((1 : Int)).toNat = 1 from rfl] at hx199_2)
                        (try rw [show 1 * 5 = 5 from rfl] at hx199_2)
                        (try rw [show ((1 : Int)).toNat = 1 from rfl] at hx199_3)
                        (try rw [show 1 * 5 = 5 from rfl] at hx199_3)
                        (try rw [show ((1 : Int)).toNat = 1 from rfl] at hx199_4)
                        (try rw [show 1 * 5 = 5 from rfl] at hx199_4)
                        replace hx199_0 := (HB.out.cell (World.block_lt_of_cell? w _ hx199_0)).trans hx199_0
                        replace hx199_1 := (HB.out.cell (World.block_lt_of_cell? w _ hx199_1)).trans hx199_1
                        replace hx199_2 := (HB.out.cell (World.block_lt_of_cell? w _ hx199_2)).trans hx199_2
                        replace hx199_3 := (HB.out.cell (World.block_lt_of_cell? w _ hx199_3)).trans hx199_3
                        replace hx199_4 := (HB.out.cell (World.block_lt_of_cell? w _ hx199_4)).trans hx199_4
                        have HR199_4 := Aside0.mk hi199_4
                        have HC199_4 := Aside0.mk hl199_4
                        clear hi199_4 hl199_4
                        replace p199 := eq_true p199
                        replace q199 := eq_true q199
                        refine start_ (n := 21) (S := fun w' => True) (ds := []) #[false, false, false, false, false, false, false, false, false, false, false, false, false, false, false, false, false, false, false, false, false] (by kernel_rfl) rfl rfl trivial (fun hHeld => ?_); refine with_tabW meddlerref6_Cond.tab2 meddlerref6_Cond.bits2 (fun HT_ HW_ => ?_)
                        generalize wc.drew = w23 at BK192 HB HR193_4 HR199_4 hx193_0 hx193_1 hx193_2 hx193_3 hx193_4 hx199_0 hx199_1 hx199_2 hx199_3 hx199_4 hHeld ⊢
                        refine pure_ (i := 0) (N := some 23) (v := ?_) (a' := ?_) #[true, false, false, false, false, false, false, false, false, false, false, false, false, false, false, false, false, false, false, false, false] rfl rfl (any_of HT_.out (by kernel_rfl)) (fun _ _ _ h => h) (Or.inl ⟨by rfl, ?_⟩) ?_ ?_
                        rotate_left
                        · intro w'
                          go_simp
                          with_reducible rfl
                        rotate_left
                        · simp only [Act.put, List.setIfInBounds_toArray, List.set_cons_zero, List.set_cons_succ, i64_w, i32_w]
                          rfl
                        refine pure_ (i := 7) (N := some 30) (v := ?_) (a' := ?_) #[true, false, false, false, false, false, false, true, false, false, false, false, false, false, false, false, false, false, false, false, false] rfl rfl (any_of HT_.out (by kernel_rfl)) (fun _ _ _ h => h) (Or.inl ⟨by rfl, ?_⟩) ?_ ?_
                        rotate_left
                        · intro w'
                          go_simp
                          with_reducible rfl
                        rotate_left
                        · simp only [Act.put, List.setIfInBounds_toArray, List.set_cons_zero, List.set_cons_succ, i64_w, i32_w]
                          rfl
                        refine pure_ (i := 14) (N := some 37) (v := ?_) (a' := ?_) #[true, false, false, false, false, false, false, true, false, false, false, false, false, false, true, false, false, false, false, false, false] rfl rfl (any_of HT_.out (by kernel_rfl)) (fun _ _ _ h => h) (Or.inl ⟨by rfl, ?_⟩) ?_ ?_
                        rotate_left
                        · intro w'
                          go_simp
                          with_reducible rfl
                        rotate_left
                        · simp only [Act.put, List.setIfInBounds_toArray, List.set_cons_zero, List.set_cons_succ, i64_w, i32_w]
                          rfl
                        refine inv_at [1, 2, 3, 4, 5, 6, 8, 9, 10, 11, 12, 13, 15, 16, 17, 18, 19, 20] (fun a0_ b a w' => ∃ (v196 : Value) (adz_v196 : Addr) (m10_ : Value), a = putSel a0_ b [(1, 24, .slice (some ad193) l0_2.length c0_2), (2, 25, .pointer (some ad193)), (3, 26, .agg #[.int .i64 ((rd_T30 l0_2 0).f0), .int .i64 ((rd_T30 l0_2 0).f1), .int .i64 ((rd_T30 l0_2 0).f2), .string ((rd_T30 l0_2 0).f3), .slice A193_4 ((rd_T30 l0_2 0).f4).length c193_4]), (4, 27, .string t194), (5, 28, .string (t194 ++ (⟨#[32]⟩ : ByteArray))), (6, 29, v196), (8, 31, .int .i64 a0_1), (9, 32, .int .i64 ji15), (10, 33, m10_), (11, 34, .string (rdOf ByteArray.empty y195 (ji15))), (12, 35, .string ((t194 ++ (⟨#[32]⟩ : ByteArray)) ++ (rdOf ByteArray.empty y195 (ji15)))), (13, 36, .string (((t194 ++ (⟨#[32]⟩ : ByteArray)) ++ (rdOf ByteArray.empty y195 (ji15))) ++ (⟨#[32]⟩ : ByteArray))), (15, 38, .slice (some ad193) l0_2.length c0_2), (16, 39, .pointer (some (ad193.add 5))), (17, 40, .agg #[.int .i64 ((rd_T30 l0_2 1).f0), .int .i64 ((rd_T30 l0_2 1).f1), .int .i64 ((rd_T30 l0_2 1).f2), .string ((rd_T30 l0_2 1).f3), .slice A199_4 ((rd_T30 l0_2 1).f4).length c199_4]), (18, 41, .string t200), (19, 42, .string ((((t194 ++ (⟨#[32]⟩ : ByteArray)) ++ (rdOf ByteArray.empty y195 (ji15))) ++ (⟨#[32]⟩ : ByteArray)) ++ t200)), (20, 2, .string ((((t194 ++ (⟨#[32]⟩ : ByteArray)) ++ (rdOf ByteArray.empty y195 (ji15))) ++ (⟨#[32]⟩ : ByteArray)) ++ t200))] ∧ (w'.heap[gb192]? = some (.cells #[.int .i64 a0_0, .int .i64 a0_1, .slice (some ad193) l0_2.length c0_2, .slice A0_3 l0_3.length c0_3] 33 (0, 0))) ∧ (Below w.heap.size w w') ∧ (b 6 = true → Kd.R Kd.string 9 w' w.heap.size (fun _ => True) v196 y195) ∧ (b 6 = true → ∃ c_, (v196 : Value) = .slice (some adz_v196) y195.length c_) ∧ (b 10 = true → (m10_ : Value) = .pointer (some (adz_v196.add ((ji15)).toNat)))) HT_.out HW_.out (by kernel_rfl) (by kernel_rfl) ?_ ?_ ?_
                        · exact ⟨.bool false, ⟨0, 0, none⟩, .bool false, by simp only [putSel, Bool.false_eq_true, if_false], BK192.out, HB.out, fun h_ => absurd h_ (by decide), fun h_ => absurd h_ (by decide), fun h_ => absurd h_ (by decide)⟩
                        · skip
                          clear BK192 HB
                          refine steps_cons ?_ ?_
                          · rintro b a w' ⟨v196, adz_v196, m10_, ha, Q_BK192, Q_HB, Q_HO197, Q_HA_HO197, Q_X10_⟩ hb_ hon hoff
                            refine ⟨_, rfl, fun K hK => ?_⟩
                            have e23 : a.tmps[23]? = some (.pointer (some ⟨gb192, 2, none⟩)) := by rw [ha]; exact (putSel_off rfl).trans rfl
                            replace ha := Aside0.mk ha
                            have BK192 := Aside0.mk Q_BK192
                            have HB := Aside0.mk Q_HB
                            have hc0_ : w'.cell? ⟨gb192, 0, none⟩ = some (.int .i64 a0_0) := (blk_cell BK192.out 0).trans rfl
                            have hc1_ : w'.cell? ⟨gb192, 1, none⟩ = some (.int .i64 a0_1) := (blk_cell BK192.out 1).trans rfl
                            have hc2_ : w'.cell? ⟨gb192, 2, none⟩ = some (.slice (some ad193) l0_2.length c0_2) := (blk_cell BK192.out 2).trans rfl
                            have hc3_ : w'.cell? ⟨gb192, 3, none⟩ = some (.slice A0_3 l0_3.length c0_3) := (blk_cell BK192.out 3).trans rfl
                            refine value_ (w1 := w') (v := .slice (some ad193) l0_2.length c0_2) (by rfl) rfl ?_ ?_
                            · go_simp
                              (try simp only [i64_w])
                              try rfl
                            refine hK.out _ _ ⟨v196, adz_v196, m10_, (by rw [ha.out]; exact putSel_upk 0 hb_ rfl rfl rfl), Q_BK192, Q_HB, Q_HO197, Q_HA_HO197, Q_X10_⟩
                          refine steps_cons ?_ ?_
                          · rintro b a w' ⟨v196, adz_v196, m10_, ha, Q_BK192, Q_HB, Q_HO197, Q_HA_HO197, Q_X10_⟩ hb_ hon hoff
                            refine ⟨_, rfl, fun K hK => ?_⟩
                            have e24 : a.tmps[24]? = some (.slice (some ad193) l0_2.length c0_2) := by rw [ha]; exact putSel_on (e := (1, 24, .slice (some ad193) l0_2.length c0_2)) 0 rfl rfl (hon 1 (by kernel_rfl)) rfl
                            replace ha := Aside0.mk ha
                            have BK192 := Aside0.mk Q_BK192
                            have HB := Aside0.mk Q_HB
                            have hs0_ : w'.cell? ad193 = some (.int .i64 ((rd_T30 l0_2 0).f0)) := ((HB.out.cell (World.block_lt_of_cell? w _ hw193_0)).trans hw193_0)
                            have hs1_ : w'.cell? ⟨ad193.block, ad193.off + 1, none⟩ = some (.int .i64 ((rd_T30 l0_2 0).f1)) := ((HB.out.cell (World.block_lt_of_cell? w _ hw193_1)).trans hw193_1)
                            have hs2_ : w'.cell? ⟨ad193.block, ad193.off + 2, none⟩ = some (.int .i64 ((rd_T30 l0_2 0).f2)) := ((HB.out.cell (World.block_lt_of_cell? w _ hw193_2)).trans hw193_2)
                            have hs3_ : w'.cell? ⟨ad193.block, ad193.off + 3, none⟩ = some (.string ((rd_T30 l0_2 0).f3)) := ((HB.out.cell (World.block_lt_of_cell? w _ hw193_3)).trans hw193_3)
                            have hs4_ : w'.cell? ⟨ad193.block, ad193.off + 4, none⟩ = some (.slice A193_4 ((rd_T30 l0_2 0).f4).length c193_4) := ((HB.out.cell (World.block_lt_of_cell? w _ hw193_4)).trans hw193_4)
                            refine value_ (w1 := w') (v := .pointer (some ad193)) (by rfl) rfl ?_ ?_
                            · go_simp
                              (try simp only [i64_w])
                              try rfl
                            refine hK.out _ _ ⟨v196, adz_v196, m10_, (by rw [ha.out]; exact putSel_upk 1 hb_ rfl rfl rfl), Q_BK192, Q_HB, Q_HO197, Q_HA_HO197, Q_X10_⟩
                          refine steps_cons ?_ ?_
                          · rintro b a w' ⟨v196, adz_v196, m10_, ha, Q_BK192, Q_HB, Q_HO197, Q_HA_HO197, Q_X10_⟩ hb_ hon hoff
                            refine ⟨_, rfl, fun K hK => ?_⟩
                            have e25 : a.tmps[25]? = some (.pointer (some ad193)) := by rw [ha]; exact putSel_on (e := (2, 25, .pointer (some ad193))) 1 rfl rfl (hon 2 (by kernel_rfl)) rfl
                            replace ha := Aside0.mk ha
                            have BK192 := Aside0.mk Q_BK192
                            have HB := Aside0.mk Q_HB
                            have hs0_ : w'.cell? ad193 = some (.int .i64 ((rd_T30 l0_2 0).f0)) := ((HB.out.cell (World.block_lt_of_cell? w _ hw193_0)).trans hw193_0)
                            have hs1_ : w'.cell? ⟨ad193.block, ad193.off + 1, none⟩ = some (.int .i64 ((rd_T30 l0_2 0).f1)) := ((HB.out.cell (World.block_lt_of_cell? w _ hw193_1)).trans hw193_1)
                            have hs2_ : w'.cell? ⟨ad193.block, ad193.off + 2, none⟩ = some (.int .i64 ((rd_T30 l0_2 0).f2)) := ((HB.out.cell (World.block_lt_of_cell? w _ hw193_2)).trans hw193_2)
                            have hs3_ : w'.cell? ⟨ad193.block, ad193.off + 3, none⟩ = some (.string ((rd_T30 l0_2 0).f3)) := ((HB.out.cell (World.block_lt_of_cell? w _ hw193_3)).trans hw193_3)
                            have hs4_ : w'.cell? ⟨ad193.block, ad193.off + 4, none⟩ = some (.slice A193_4 ((rd_T30 l0_2 0).f4).length c193_4) := ((HB.out.cell (World.block_lt_of_cell? w _ hw193_4)).trans hw193_4)
                            refine value_ (w1 := w') (v := .agg #[.int .i64 ((rd_T30 l0_2 0).f0), .int .i64 ((rd_T30 l0_2 0).f1), .int .i64 ((rd_T30 l0_2 0).f2), .string ((rd_T30 l0_2 0).f3), .slice A193_4 ((rd_T30 l0_2 0).f4).length c193_4]) (by rfl) rfl ?_ ?_
                            · go_simp
                              (try simp only [i64_w])
                              try rfl
                            refine hK.out _ _ ⟨v196, adz_v196, m10_, (by rw [ha.out]; exact putSel_upk 2 hb_ rfl rfl rfl), Q_BK192, Q_HB, Q_HO197, Q_HA_HO197, Q_X10_⟩
                          refine steps_cons ?_ ?_
                          · rintro b a w' ⟨v196, adz_v196, m10_, ha, Q_BK192, Q_HB, Q_HO197, Q_HA_HO197, Q_X10_⟩ hb_ hon hoff
                            refine ⟨_, rfl, fun K hK => ?_⟩
                            have e26 : a.tmps[26]? = some (.agg #[.int .i64 ((rd_T30 l0_2 0).f0), .int .i64 ((rd_T30 l0_2 0).f1), .int .i64 ((rd_T30 l0_2 0).f2), .string ((rd_T30 l0_2 0).f3), .slice A193_4 ((rd_T30 l0_2 0).f4).length c193_4]) := by rw [ha]; exact putSel_on (e := (3, 26, .agg #[.int .i64 ((rd_T30 l0_2 0).f0), .int .i64 ((rd_T30 l0_2 0).f1), .int .i64 ((rd_T30 l0_2 0).f2), .string ((rd_T30 l0_2 0).f3), .slice A193_4 ((rd_T30 l0_2 0).f4).length c193_4])) 2 rfl rfl (hon 3 (by kernel_rfl)) rfl
                            replace ha := Aside0.mk ha
                            have BK192 := Aside0.mk Q_BK192
                            have HB := Aside0.mk Q_HB
                            refine goes_ Tryd.func14 (by kernel_rfl) rfl #[.agg #[.int .i64 ((rd_T30 l0_2 0).f0), .int .i64 ((rd_T30 l0_2 0).f1), .int .i64 ((rd_T30 l0_2 0).f2), .string ((rd_T30 l0_2 0).f3), .slice A193_4 ((rd_T30 l0_2 0).f4).length c193_4]] (by rfl) rfl rfl (by first | (simp only [List.map_toArray, List.map_cons, List.map_nil, Act.eval, Array.getD_eq_getD_getElem?, Option.getD_some, e26]; done) | (simp only [List.map_toArray, List.map_cons, List.map_nil, Act.eval, Array.getD_eq_getD_getElem?, Option.getD_some, e26]; rfl)) ?_
                            with_reducible refine (meddlerref6_Expr.calls kj1 ((rd_T30 l0_2 0).f0) ((rd_T30 l0_2 0).f1) ((rd_T30 l0_2 0).f2) ((rd_T30 l0_2 0).f3) _ _ ((rd_T30 l0_2 0).f4) t194 _ ?side1 ?side2 A13.out).mono ?_
                            (case side1 => repeat (first | exact (Kd.C_below HR193_4.out HB.out) | (with_reducible refine Kd.C_alloc ?_ _) | (with_reducible refine Kd.C_drewN ?_ _) | (with_reducible refine Kd.C_drew ?_)))
                            (case side2 => exact HC193_4.out)
                            rintro e w24 ⟨rfl, hb⟩
                            refine ⟨_, rfl, ?_⟩
                            have n0_ := Aside0.mk (blk_below (g := gb192) (o := .cells #[.int .i64 a0_0, .int .i64 a0_1, .slice (some ad193) l0_2.length c0_2, .slice A0_3 l0_3.length c0_3] 33 (0, 0)) (by (with_reducible repeat (first | refine blk_drewN ?_ _ | refine blk_drew ?_ | refine blk_alloc ?_ _)); exact BK192.out) hb)
                            have n1_ := Aside0.mk (below_step (by repeat (first | (with_reducible first | exact HB.out | apply below_alloc | apply pw_below_drewN | apply below_drew1 | refine below_set ?_ GE192.out) | exact HB.out)) hb)
                            have z_HO197 := fun (h0_ : b 6 = true) => (show Kd.R Kd.string 9 w24 w.heap.size (fun _ => True) v196 y195 from by first | exact (Kd.R_below (by (with_reducible repeat (first | apply Kd.R_alloc | apply Kd.R_drewN | apply Kd.R_drew)); exact (Q_HO197 h0_)) hb) | exact Kd.R_mono (Kd.R_below (by (with_reducible repeat (first | apply Kd.R_alloc | apply Kd.R_drewN | apply Kd.R_drew)); exact (Q_HO197 h0_)) hb) (fun _ h_ => by first | trivial | exact h_ | exact h_.1))
                            clear BK192
                            clear HB
                            have BK192 := n0_
                            have HB := n1_
                            clear n0_ n1_
                            (try clear hb)
                            (try clear hb2)
                            (try clear hk)
                            (try clear hi)
                            refine hK.out _ _ ⟨v196, adz_v196, m10_, (by rw [ha.out]; exact putSel_upk 3 hb_ rfl rfl rfl), (by (with_reducible repeat (first | refine blk_drewN ?_ _ | refine blk_drew ?_ | refine blk_alloc ?_ _)); exact BK192.out), (by repeat (first | (with_reducible first | exact HB.out | apply below_alloc | apply pw_below_drewN | apply below_drew1 | refine below_set ?_ GE192.out) | exact HB.out)), z_HO197, Q_HA_HO197, Q_X10_⟩
                          refine steps_cons ?_ ?_
                          · rintro b a w' ⟨v196, adz_v196, m10_, ha, Q_BK192, Q_HB, Q_HO197, Q_HA_HO197, Q_X10_⟩ hb_ hon hoff
                            refine ⟨_, rfl, fun K hK => ?_⟩
                            have e27 : a.tmps[27]? = some (.string t194) := by rw [ha]; exact putSel_on (e := (4, 27, .string t194)) 3 rfl rfl (hon 4 (by kernel_rfl)) rfl
                            replace ha := Aside0.mk ha
                            have BK192 := Aside0.mk Q_BK192
                            have HB := Aside0.mk Q_HB
                            refine value_ (w1 := w') (v := .string (t194 ++ (⟨#[32]⟩ : ByteArray))) (by rfl) rfl ?_ ?_
                            · go_simp
                              (try simp only [i64_w])
                              try rfl
                            refine hK.out _ _ ⟨v196, adz_v196, m10_, (by rw [ha.out]; exact putSel_upk 4 hb_ rfl rfl rfl), Q_BK192, Q_HB, Q_HO197, Q_HA_HO197, Q_X10_⟩
                          refine steps_cons ?_ ?_
                          · rintro b a w' ⟨v196, adz_v196, m10_, ha, Q_BK192, Q_HB, Q_HO197, Q_HA_HO197, Q_X10_⟩ hb_ hon hoff
                            refine ⟨_, rfl, fun K hK => ?_⟩
                            replace ha := Aside0.mk ha
                            have BK192 := Aside0.mk Q_BK192
                            have HB := Aside0.mk Q_HB
                            refine Kd.R_lit_step Kd.string _ 9 ?hg (N := 29) ?hd (xs := ([(⟨#[60]⟩ : ByteArray), (⟨#[60, 61]⟩ : ByteArray), (⟨#[61, 61]⟩ : ByteArray), (⟨#[33, 61]⟩ : ByteArray), (⟨#[62, 61]⟩ : ByteArray), (⟨#[62]⟩ : ByteArray)] : List ByteArray)) (inner := [.string (⟨#[60]⟩ : ByteArray), .string (⟨#[60, 61]⟩ : ByteArray), .string (⟨#[61, 61]⟩ : ByteArray), .string (⟨#[33, 61]⟩ : ByteArray), .string (⟨#[62, 61]⟩ : ByteArray), .string (⟨#[62]⟩ : ByteArray)]) (ok := fun _ => True) (okp := fun _ => True) ?hr ?hp (fun _ hk => hk) trivial (Below.refl _ _) (Nat.le_refl _) (by simp) ?_; (case hd => rfl); (case hg => rfl); (case hr => first | (go_simp; done) | (go_simp; rfl)); (case hp => exact (Reps.one (show Kd.M Kd.string _ _ _ (⟨#[60]⟩ : ByteArray) [.string (⟨#[60]⟩ : ByteArray)] from rfl) (Reps.one (show Kd.M Kd.string _ _ _ (⟨#[60, 61]⟩ : ByteArray) [.string (⟨#[60, 61]⟩ : ByteArray)] from rfl) (Reps.one (show Kd.M Kd.string _ _ _ (⟨#[61, 61]⟩ : ByteArray) [.string (⟨#[61, 61]⟩ : ByteArray)] from rfl) (Reps.one (show Kd.M Kd.string _ _ _ (⟨#[33, 61]⟩ : ByteArray) [.string (⟨#[33, 61]⟩ : ByteArray)] from rfl) (Reps.one (show Kd.M Kd.string _ _ _ (⟨#[62, 61]⟩ : ByteArray) [.string (⟨#[62, 61]⟩ : ByteArray)] from rfl) (Reps.one (show Kd.M Kd.string _ _ _ (⟨#[62]⟩ : ByteArray) [.string (⟨#[62]⟩ : ByteArray)] from rfl) (Reps.none _ _))))))))
                            intro v196 w24 ho25 hb hg_ hnew_
                            clear hg_ hnew_
                            (first | rw [← Ny195.out] at ho25 | (simp only [Int.reduceToNat] at ho25; rw [← Ny195.out] at ho25))
                            have n0_ := Aside0.mk (Kd.R_lower ho25 (below_size (by repeat (first | (with_reducible first | exact HB.out | apply below_alloc | apply pw_below_drewN | apply below_drew1 | refine below_set ?_ GE192.out) | exact HB.out))))
                            have n1_ := Aside0.mk (blk_below (g := gb192) (o := .cells #[.int .i64 a0_0, .int .i64 a0_1, .slice (some ad193) l0_2.length c0_2, .slice A0_3 l0_3.length c0_3] 33 (0, 0)) (by (with_reducible repeat (first | refine blk_drewN ?_ _ | refine blk_drew ?_ | refine blk_alloc ?_ _)); exact BK192.out) hb)
                            have n2_ := Aside0.mk (below_step (by repeat (first | (with_reducible first | exact HB.out | apply below_alloc | apply pw_below_drewN | apply below_drew1 | refine below_set ?_ GE192.out) | exact HB.out)) hb)
                            clear BK192
                            clear HB
                            have HO197 := n0_
                            have BK192 := n1_
                            have HB := n2_
                            clear n0_ n1_ n2_
                            clear hb ho25
                            obtain ⟨Ao26, co26, eo26⟩ := Kd.R_slice HO197.out
                            subst eo26
                            obtain ⟨ado26, fo26, _⟩ := Kd.at_string (Kd.R_reads' HO197.out).2.2 0 (by decide) (by rw [Ny195.out]; simp)
                            cases fo26
                            refine hK.out _ _ ⟨.slice (some ado26) y195.length co26, ado26, m10_, (by rw [ha.out]; exact putSel_upk 5 hb_ rfl rfl rfl), (by (with_reducible repeat (first | refine blk_drewN ?_ _ | refine blk_drew ?_ | refine blk_alloc ?_ _)); exact BK192.out), (by repeat (first | (with_reducible first | exact HB.out | apply below_alloc | apply pw_below_drewN | apply below_drew1 | refine below_set ?_ GE192.out) | exact HB.out)), fun _ => (by (with_reducible repeat (first | apply Kd.R_alloc | apply Kd.R_drewN | apply Kd.R_drew)); exact HO197.out), fun _ => ⟨_, rfl⟩, fun h0_ => absurd ((hoff 10 (by kernel_rfl)).symm.trans h0_) (by decide)⟩
                          refine steps_cons ?_ ?_
                          · rintro b a w' ⟨v196, adz_v196, m10_, ha, Q_BK192, Q_HB, Q_HO197, Q_HA_HO197, Q_X10_⟩ hb_ hon hoff
                            refine ⟨_, rfl, fun K hK => ?_⟩
                            have e30 : a.tmps[30]? = some (.pointer (some ⟨gb192, 1, none⟩)) := by rw [ha]; exact (putSel_off rfl).trans rfl
                            replace ha := Aside0.mk ha
                            have BK192 := Aside0.mk Q_BK192
                            have HB := Aside0.mk Q_HB
                            have hc0_ : w'.cell? ⟨gb192, 0, none⟩ = some (.int .i64 a0_0) := (blk_cell BK192.out 0).trans rfl
                            have hc1_ : w'.cell? ⟨gb192, 1, none⟩ = some (.int .i64 a0_1) := (blk_cell BK192.out 1).trans rfl
                            have hc2_ : w'.cell? ⟨gb192, 2, none⟩ = some (.slice (some ad193) l0_2.length c0_2) := (blk_cell BK192.out 2).trans rfl
                            have hc3_ : w'.cell? ⟨gb192, 3, none⟩ = some (.slice A0_3 l0_3.length c0_3) := (blk_cell BK192.out 3).trans rfl
                            refine value_ (w1 := w') (v := .int .i64 a0_1) (by rfl) rfl ?_ ?_
                            · go_simp
                              (try simp only [i64_w])
                              try rfl
                            refine hK.out _ _ ⟨v196, adz_v196, m10_, (by rw [ha.out]; exact putSel_upk 6 hb_ rfl rfl rfl), Q_BK192, Q_HB, Q_HO197, Q_HA_HO197, fun h0_ => absurd ((hoff 10 (by kernel_rfl)).symm.trans h0_) (by decide)⟩
                          refine steps_cons ?_ ?_
                          · rintro b a w' ⟨v196, adz_v196, m10_, ha, Q_BK192, Q_HB, Q_HO197, Q_HA_HO197, Q_X10_⟩ hb_ hon hoff
                            refine ⟨_, rfl, fun K hK => ?_⟩
                            have e31 : a.tmps[31]? = some (.int .i64 a0_1) := by rw [ha]; exact putSel_on (e := (8, 31, .int .i64 a0_1)) 6 rfl rfl (hon 8 (by kernel_rfl)) rfl
                            replace ha := Aside0.mk ha
                            have BK192 := Aside0.mk Q_BK192
                            have HB := Aside0.mk Q_HB
                            refine value_ (w1 := w') (v := .int .i64 ji15) (by rfl) rfl ?_ ?_
                            · go_simp
                              (try simp only [i64_w])
                              try rfl
                            refine hK.out _ _ ⟨v196, adz_v196, m10_, (by rw [ha.out]; exact putSel_upk 7 hb_ rfl rfl rfl), Q_BK192, Q_HB, Q_HO197, Q_HA_HO197, fun h0_ => absurd ((hoff 10 (by kernel_rfl)).symm.trans h0_) (by decide)⟩
                          refine steps_cons ?_ ?_
                          · rintro b a w' ⟨v196, adz_v196, m10_, ha, Q_BK192, Q_HB, Q_HO197, Q_HA_HO197, Q_X10_⟩ hb_ hon hoff
                            refine ⟨_, rfl, fun K hK => ?_⟩
                            have e29 : a.tmps[29]? = some (v196) := by rw [ha]; exact putSel_on (e := (6, 29, v196)) 5 rfl rfl (hon 6 (by kernel_rfl)) rfl
                            have e32 : a.tmps[32]? = some (.int .i64 ji15) := by rw [ha]; exact putSel_on (e := (9, 32, .int .i64 ji15)) 7 rfl rfl (hon 9 (by kernel_rfl)) rfl
                            replace ha := Aside0.mk ha
                            have BK192 := Aside0.mk Q_BK192
                            have HB := Aside0.mk Q_HB
                            have HO197 := Aside0.mk (Q_HO197 (hon 6 (by kernel_rfl)))
                            have HA_HO197 := Aside0.mk (Q_HA_HO197 (hon 6 (by kernel_rfl)))
                            obtain ⟨c_, hv_⟩ := HA_HO197.out
                            rw [hv_] at e29
                            refine value_ (w1 := w') (v := .pointer (some (adz_v196.add ((ji15)).toNat))) (by rfl) rfl ?_ ?_
                            · go_simp
                              (try simp only [i64_w])
                              try rfl
                            refine hK.out _ _ ⟨v196, adz_v196, (.pointer (some (adz_v196.add ((ji15)).toNat))), (by rw [ha.out]; exact putSel_upk 8 hb_ rfl rfl rfl), Q_BK192, Q_HB, Q_HO197, Q_HA_HO197, fun _ => rfl⟩
                          refine steps_cons ?_ ?_
                          · rintro b a w' ⟨v196, adz_v196, m10_, ha, Q_BK192, Q_HB, Q_HO197, Q_HA_HO197, Q_X10_⟩ hb_ hon hoff
                            refine ⟨_, rfl, fun K hK => ?_⟩
                            have e33 : a.tmps[33]? = some (m10_) := by rw [ha]; exact putSel_on (e := (10, 33, m10_)) 8 rfl rfl (hon 10 (by kernel_rfl)) rfl
                            rw [Q_X10_ (hon 10 (by kernel_rfl))] at e33
                            replace ha := Aside0.mk ha
                            have BK192 := Aside0.mk Q_BK192
                            have HB := Aside0.mk Q_HB
                            have HO197 := Aside0.mk (Q_HO197 (hon 6 (by kernel_rfl)))
                            have HA_HO197 := Aside0.mk (Q_HA_HO197 (hon 6 (by kernel_rfl)))
                            obtain ⟨c_, hv_⟩ := HA_HO197.out
                            have hF_ := HO197.out
                            rw [hv_] at hF_
                            obtain ⟨ad_, ea_, hx_⟩ := Kd.at_string (Kd.R_reads' hF_).2.2 (ji15) (of_eq_true pi198) (of_eq_true qi198)
                            cases ea_
                            refine value_ (w1 := w') (v := .string (rdOf ByteArray.empty y195 (ji15))) (by rfl) rfl ?_ ?_
                            · go_simp
                              (try simp only [i64_w])
                              try rfl
                            refine hK.out _ _ ⟨v196, adz_v196, m10_, (by rw [ha.out]; exact putSel_upk 9 hb_ rfl rfl rfl), Q_BK192, Q_HB, Q_HO197, Q_HA_HO197, Q_X10_⟩
                          refine steps_cons ?_ ?_
                          · rintro b a w' ⟨v196, adz_v196, m10_, ha, Q_BK192, Q_HB, Q_HO197, Q_HA_HO197, Q_X10_⟩ hb_ hon hoff
                            refine ⟨_, rfl, fun K hK => ?_⟩
                            have e28 : a.tmps[28]? = some (.string (t194 ++ (⟨#[32]⟩ : ByteArray))) := by rw [ha]; exact putSel_on (e := (5, 28, .string (t194 ++ (⟨#[32]⟩ : ByteArray)))) 4 rfl rfl (hon 5 (by kernel_rfl)) rfl
                            have e34 : a.tmps[34]? = some (.string (rdOf ByteArray.empty y195 (ji15))) := by rw [ha]; exact putSel_on (e := (11, 34, .string (rdOf ByteArray.empty y195 (ji15)))) 9 rfl rfl (hon 11 (by kernel_rfl)) rfl
                            replace ha := Aside0.mk ha
                            have BK192 := Aside0.mk Q_BK192
                            have HB := Aside0.mk Q_HB
                            have HO197 := Aside0.mk (Q_HO197 (hon 6 (by kernel_rfl)))
                            have HA_HO197 := Aside0.mk (Q_HA_HO197 (hon 6 (by kernel_rfl)))
                            refine value_ (w1 := w') (v := .string ((t194 ++ (⟨#[32]⟩ : ByteArray)) ++ (rdOf ByteArray.empty y195 (ji15)))) (by rfl) rfl ?_ ?_
                            · go_simp
                              (try simp only [i64_w])
                              try rfl
                            refine hK.out _ _ ⟨v196, adz_v196, m10_, (by rw [ha.out]; exact putSel_upk 10 hb_ rfl rfl rfl), Q_BK192, Q_HB, Q_HO197, Q_HA_HO197, Q_X10_⟩
                          refine steps_cons ?_ ?_
                          · rintro b a w' ⟨v196, adz_v196, m10_, ha, Q_BK192, Q_HB, Q_HO197, Q_HA_HO197, Q_X10_⟩ hb_ hon hoff
                            refine ⟨_, rfl, fun K hK => ?_⟩
                            have e35 : a.tmps[35]? = some (.string ((t194 ++ (⟨#[32]⟩ : ByteArray)) ++ (rdOf ByteArray.empty y195 (ji15)))) := by rw [ha]; exact putSel_on (e := (12, 35, .string ((t194 ++ (⟨#[32]⟩ : ByteArray)) ++ (rdOf ByteArray.empty y195 (ji15))))) 10 rfl rfl (hon 12 (by kernel_rfl)) rfl
                            replace ha := Aside0.mk ha
                            have BK192 := Aside0.mk Q_BK192
                            have HB := Aside0.mk Q_HB
                            have HO197 := Aside0.mk (Q_HO197 (hon 6 (by kernel_rfl)))
                            have HA_HO197 := Aside0.mk (Q_HA_HO197 (hon 6 (by kernel_rfl)))
                            refine value_ (w1 := w') (v := .string (((t194 ++ (⟨#[32]⟩ : ByteArray)) ++ (rdOf ByteArray.empty y195 (ji15))) ++ (⟨#[32]⟩ : ByteArray))) (by rfl) rfl ?_ ?_
                            · go_simp
                              (try simp only [i64_w])
                              try rfl
                            refine hK.out _ _ ⟨v196, adz_v196, m10_, (by rw [ha.out]; exact putSel_upk 11 hb_ rfl rfl rfl), Q_BK192, Q_HB, Q_HO197, Q_HA_HO197, Q_X10_⟩
                          refine steps_cons ?_ ?_
                          · rintro b a w' ⟨v196, adz_v196, m10_, ha, Q_BK192, Q_HB, Q_HO197, Q_HA_HO197, Q_X10_⟩ hb_ hon hoff
                            refine ⟨_, rfl, fun K hK => ?_⟩
                            have e37 : a.tmps[37]? = some (.pointer (some ⟨gb192, 2, none⟩)) := by rw [ha]; exact (putSel_off rfl).trans rfl
                            replace ha := Aside0.mk ha
                            have BK192 := Aside0.mk Q_BK192
                            have HB := Aside0.mk Q_HB
                            have hc0_ : w'.cell? ⟨gb192, 0, none⟩ = some (.int .i64 a0_0) := (blk_cell BK192.out 0).trans rfl
                            have hc1_ : w'.cell? ⟨gb192, 1, none⟩ = some (.int .i64 a0_1) := (blk_cell BK192.out 1).trans rfl
                            have hc2_ : w'.cell? ⟨gb192, 2, none⟩ = some (.slice (some ad193) l0_2.length c0_2) := (blk_cell BK192.out 2).trans rfl
                            have hc3_ : w'.cell? ⟨gb192, 3, none⟩ = some (.slice A0_3 l0_3.length c0_3) := (blk_cell BK192.out 3).trans rfl
                            refine value_ (w1 := w') (v := .slice (some ad193) l0_2.length c0_2) (by rfl) rfl ?_ ?_
                            · go_simp
                              (try simp only [i64_w])
                              try rfl
                            refine hK.out _ _ ⟨v196, adz_v196, m10_, (by rw [ha.out]; exact putSel_upk 12 hb_ rfl rfl rfl), Q_BK192, Q_HB, Q_HO197, Q_HA_HO197, Q_X10_⟩
                          refine steps_cons ?_ ?_
                          · rintro b a w' ⟨v196, adz_v196, m10_, ha, Q_BK192, Q_HB, Q_HO197, Q_HA_HO197, Q_X10_⟩ hb_ hon hoff
                            refine ⟨_, rfl, fun K hK => ?_⟩
                            have e38 : a.tmps[38]? = some (.slice (some ad193) l0_2.length c0_2) := by rw [ha]; exact putSel_on (e := (15, 38, .slice (some ad193) l0_2.length c0_2)) 12 rfl rfl (hon 15 (by kernel_rfl)) rfl
                            replace ha := Aside0.mk ha
                            have BK192 := Aside0.mk Q_BK192
                            have HB := Aside0.mk Q_HB
                            have hs5_ : w'.cell? ⟨ad193.block, ad193.off + 5, none⟩ = some (.int .i64 ((rd_T30 l0_2 1).f0)) := ((HB.out.cell (World.block_lt_of_cell? w _ hw199_0)).trans hw199_0)
                            have hs6_ : w'.cell? ⟨ad193.block, ad193.off + 5 + 1, none⟩ = some (.int .i64 ((rd_T30 l0_2 1).f1)) := ((HB.out.cell (World.block_lt_of_cell? w _ hw199_1)).trans hw199_1)
                            have hs7_ : w'.cell? ⟨ad193.block, ad193.off + 5 + 2, none⟩ = some (.int .i64 ((rd_T30 l0_2 1).f2)) := ((HB.out.cell (World.block_lt_of_cell? w _ hw199_2)).trans hw199_2)
                            have hs8_ : w'.cell? ⟨ad193.block, ad193.off + 5 + 3, none⟩ = some (.string ((rd_T30 l0_2 1).f3)) := ((HB.out.cell (World.block_lt_of_cell? w _ hw199_3)).trans hw199_3)
                            have hs9_ : w'.cell? ⟨ad193.block, ad193.off + 5 + 4, none⟩ = some (.slice A199_4 ((rd_T30 l0_2 1).f4).length c199_4) := ((HB.out.cell (World.block_lt_of_cell? w _ hw199_4)).trans hw199_4)
                            refine value_ (w1 := w') (v := .pointer (some (ad193.add 5))) (by rfl) rfl ?_ ?_
                            · go_simp
                              (try simp only [i64_w])
                              try rfl
                            refine hK.out _ _ ⟨v196, adz_v196, m10_, (by rw [ha.out]; exact putSel_upk 13 hb_ rfl rfl rfl), Q_BK192, Q_HB, Q_HO197, Q_HA_HO197, Q_X10_⟩
                          refine steps_cons ?_ ?_
                          · rintro b a w' ⟨v196, adz_v196, m10_, ha, Q_BK192, Q_HB, Q_HO197, Q_HA_HO197, Q_X10_⟩ hb_ hon hoff
                            refine ⟨_, rfl, fun K hK => ?_⟩
                            have e39 : a.tmps[39]? = some (.pointer (some (ad193.add 5))) := by rw [ha]; exact putSel_on (e := (16, 39, .pointer (some (ad193.add 5)))) 13 rfl rfl (hon 16 (by kernel_rfl)) rfl
                            replace ha := Aside0.mk ha
                            have BK192 := Aside0.mk Q_BK192
                            have HB := Aside0.mk Q_HB
                            have hs5_ : w'.cell? ⟨ad193.block, ad193.off + 5, none⟩ = some (.int .i64 ((rd_T30 l0_2 1).f0)) := ((HB.out.cell (World.block_lt_of_cell? w _ hw199_0)).trans hw199_0)
                            have hs6_ : w'.cell? ⟨ad193.block, ad193.off + 5 + 1, none⟩ = some (.int .i64 ((rd_T30 l0_2 1).f1)) := ((HB.out.cell (World.block_lt_of_cell? w _ hw199_1)).trans hw199_1)
                            have hs7_ : w'.cell? ⟨ad193.block, ad193.off + 5 + 2, none⟩ = some (.int .i64 ((rd_T30 l0_2 1).f2)) := ((HB.out.cell (World.block_lt_of_cell? w _ hw199_2)).trans hw199_2)
                            have hs8_ : w'.cell? ⟨ad193.block, ad193.off + 5 + 3, none⟩ = some (.string ((rd_T30 l0_2 1).f3)) := ((HB.out.cell (World.block_lt_of_cell? w _ hw199_3)).trans hw199_3)
                            have hs9_ : w'.cell? ⟨ad193.block, ad193.off + 5 + 4, none⟩ = some (.slice A199_4 ((rd_T30 l0_2 1).f4).length c199_4) := ((HB.out.cell (World.block_lt_of_cell? w _ hw199_4)).trans hw199_4)
                            refine value_ (w1 := w') (v := .agg #[.int .i64 ((rd_T30 l0_2 1).f0), .int .i64 ((rd_T30 l0_2 1).f1), .int .i64 ((rd_T30 l0_2 1).f2), .string ((rd_T30 l0_2 1).f3), .slice A199_4 ((rd_T30 l0_2 1).f4).length c199_4]) (by rfl) rfl ?_ ?_
                            · go_simp
                              (try simp only [i64_w])
                              try rfl
                            refine hK.out _ _ ⟨v196, adz_v196, m10_, (by rw [ha.out]; exact putSel_upk 14 hb_ rfl rfl rfl), Q_BK192, Q_HB, Q_HO197, Q_HA_HO197, Q_X10_⟩
                          refine steps_cons ?_ ?_
                          · rintro b a w' ⟨v196, adz_v196, m10_, ha, Q_BK192, Q_HB, Q_HO197, Q_HA_HO197, Q_X10_⟩ hb_ hon hoff
                            refine ⟨_, rfl, fun K hK => ?_⟩
                            have e40 : a.tmps[40]? = some (.agg #[.int .i64 ((rd_T30 l0_2 1).f0), .int .i64 ((rd_T30 l0_2 1).f1), .int .i64 ((rd_T30 l0_2 1).f2), .string ((rd_T30 l0_2 1).f3), .slice A199_4 ((rd_T30 l0_2 1).f4).length c199_4]) := by rw [ha]; exact putSel_on (e := (17, 40, .agg #[.int .i64 ((rd_T30 l0_2 1).f0), .int .i64 ((rd_T30 l0_2 1).f1), .int .i64 ((rd_T30 l0_2 1).f2), .string ((rd_T30 l0_2 1).f3), .slice A199_4 ((rd_T30 l0_2 1).f4).length c199_4])) 14 rfl rfl (hon 17 (by kernel_rfl)) rfl
                            replace ha := Aside0.mk ha
                            have BK192 := Aside0.mk Q_BK192
                            have HB := Aside0.mk Q_HB
                            refine goes_ Tryd.func14 (by kernel_rfl) rfl #[.agg #[.int .i64 ((rd_T30 l0_2 1).f0), .int .i64 ((rd_T30 l0_2 1).f1), .int .i64 ((rd_T30 l0_2 1).f2), .string ((rd_T30 l0_2 1).f3), .slice A199_4 ((rd_T30 l0_2 1).f4).length c199_4]] (by rfl) rfl rfl (by first | (simp only [List.map_toArray, List.map_cons, List.map_nil, Act.eval, Array.getD_eq_getD_getElem?, Option.getD_some, e40]; done) | (simp only [List.map_toArray, List.map_cons, List.map_nil, Act.eval, Array.getD_eq_getD_getElem?, Option.getD_some, e40]; rfl)) ?_
                            with_reducible refine (meddlerref6_Expr.calls kj1 ((rd_T30 l0_2 1).f0) ((rd_T30 l0_2 1).f1) ((rd_T30 l0_2 1).f2) ((rd_T30 l0_2 1).f3) _ _ ((rd_T30 l0_2 1).f4) t200 _ ?side1 ?side2 A21.out).mono ?_
                            (case side1 => repeat (first | exact (Kd.C_below HR199_4.out HB.out) | (with_reducible refine Kd.C_alloc ?_ _) | (with_reducible refine Kd.C_drewN ?_ _) | (with_reducible refine Kd.C_drew ?_)))
                            (case side2 => exact HC199_4.out)
                            rintro e w26 ⟨rfl, hb⟩
                            refine ⟨_, rfl, ?_⟩
                            have n0_ := Aside0.mk (blk_below (g := gb192) (o := .cells #[.int .i64 a0_0, .int .i64 a0_1, .slice (some ad193) l0_2.length c0_2, .slice A0_3 l0_3.length c0_3] 33 (0, 0)) (by (with_reducible repeat (first | refine blk_drewN ?_ _ | refine blk_drew ?_ | refine blk_alloc ?_ _)); exact BK192.out) hb)
                            have n1_ := Aside0.mk (below_step (by repeat (first | (with_reducible first | exact HB.out | apply below_alloc | apply pw_below_drewN | apply below_drew1 | refine below_set ?_ GE192.out) | exact HB.out)) hb)
                            have z_HO197 := fun (h0_ : b 6 = true) => (show Kd.R Kd.string 9 w26 w.heap.size (fun _ => True) v196 y195 from by first | exact (Kd.R_below (by (with_reducible repeat (first | apply Kd.R_alloc | apply Kd.R_drewN | apply Kd.R_drew)); exact (Q_HO197 h0_)) hb) | exact Kd.R_mono (Kd.R_below (by (with_reducible repeat (first | apply Kd.R_alloc | apply Kd.R_drewN | apply Kd.R_drew)); exact (Q_HO197 h0_)) hb) (fun _ h_ => by first | trivial | exact h_ | exact h_.1))
                            clear BK192
                            clear HB
                            have BK192 := n0_
                            have HB := n1_
                            clear n0_ n1_
                            (try clear hb)
                            (try clear hb2)
                            (try clear hk)
                            (try clear hi)
                            refine hK.out _ _ ⟨v196, adz_v196, m10_, (by rw [ha.out]; exact putSel_upk 15 hb_ rfl rfl rfl), (by (with_reducible repeat (first | refine blk_drewN ?_ _ | refine blk_drew ?_ | refine blk_alloc ?_ _)); exact BK192.out), (by repeat (first | (with_reducible first | exact HB.out | apply below_alloc | apply pw_below_drewN | apply below_drew1 | refine below_set ?_ GE192.out) | exact HB.out)), z_HO197, Q_HA_HO197, Q_X10_⟩
                          refine steps_cons ?_ ?_
                          · rintro b a w' ⟨v196, adz_v196, m10_, ha, Q_BK192, Q_HB, Q_HO197, Q_HA_HO197, Q_X10_⟩ hb_ hon hoff
                            refine ⟨_, rfl, fun K hK => ?_⟩
                            have e36 : a.tmps[36]? = some (.string (((t194 ++ (⟨#[32]⟩ : ByteArray)) ++ (rdOf ByteArray.empty y195 (ji15))) ++ (⟨#[32]⟩ : ByteArray))) := by rw [ha]; exact putSel_on (e := (13, 36, .string (((t194 ++ (⟨#[32]⟩ : ByteArray)) ++ (rdOf ByteArray.empty y195 (ji15))) ++ (⟨#[32]⟩ : ByteArray)))) 11 rfl rfl (hon 13 (by kernel_rfl)) rfl
                            have e41 : a.tmps[41]? = some (.string t200) := by rw [ha]; exact putSel_on (e := (18, 41, .string t200)) 15 rfl rfl (hon 18 (by kernel_rfl)) rfl
                            replace ha := Aside0.mk ha
                            have BK192 := Aside0.mk Q_BK192
                            have HB := Aside0.mk Q_HB
                            have HO197 := Aside0.mk (Q_HO197 (hon 6 (by kernel_rfl)))
                            have HA_HO197 := Aside0.mk (Q_HA_HO197 (hon 6 (by kernel_rfl)))
                            refine value_ (w1 := w') (v := .string ((((t194 ++ (⟨#[32]⟩ : ByteArray)) ++ (rdOf ByteArray.empty y195 (ji15))) ++ (⟨#[32]⟩ : ByteArray)) ++ t200)) (by rfl) rfl ?_ ?_
                            · go_simp
                              (try simp only [i64_w])
                              try rfl
                            refine hK.out _ _ ⟨v196, adz_v196, m10_, (by rw [ha.out]; exact putSel_upk 16 hb_ rfl rfl rfl), Q_BK192, Q_HB, Q_HO197, Q_HA_HO197, Q_X10_⟩
                          refine steps_cons ?_ ?_
                          · rintro b a w' ⟨v196, adz_v196, m10_, ha, Q_BK192, Q_HB, Q_HO197, Q_HA_HO197, Q_X10_⟩ hb_ hon hoff
                            refine ⟨_, rfl, fun K hK => ?_⟩
                            have e42 : a.tmps[42]? = some (.string ((((t194 ++ (⟨#[32]⟩ : ByteArray)) ++ (rdOf ByteArray.empty y195 (ji15))) ++ (⟨#[32]⟩ : ByteArray)) ++ t200)) := by rw [ha]; exact putSel_on (e := (19, 42, .string ((((t194 ++ (⟨#[32]⟩ : ByteArray)) ++ (rdOf ByteArray.empty y195 (ji15))) ++ (⟨#[32]⟩ : ByteArray)) ++ t200))) 16 rfl rfl (hon 19 (by kernel_rfl)) rfl
                            replace ha := Aside0.mk ha
                            have BK192 := Aside0.mk Q_BK192
                            have HB := Aside0.mk Q_HB
                            have HO197 := Aside0.mk (Q_HO197 (hon 6 (by kernel_rfl)))
                            have HA_HO197 := Aside0.mk (Q_HA_HO197 (hon 6 (by kernel_rfl)))
                            refine value_ (w1 := w') (v := .string ((((t194 ++ (⟨#[32]⟩ : ByteArray)) ++ (rdOf ByteArray.empty y195 (ji15))) ++ (⟨#[32]⟩ : ByteArray)) ++ t200)) (by rfl) rfl ?_ ?_
                            · go_simp
                              (try simp only [i64_w])
                              try rfl
                            refine hK.out _ _ ⟨v196, adz_v196, m10_, (by rw [ha.out]; exact putSel_upk 17 hb_ rfl rfl rfl), Q_BK192, Q_HB, Q_HO197, Q_HA_HO197, Q_X10_⟩
                          exact steps_nil
                        rintro b a w29 hall ⟨v196, adz_v196, m10_, ha, Q_BK192, Q_HB, Q_HO197, Q_HA_HO197, Q_X10_⟩
                        clear BK192 HB
                        have hb1_ := hall 1 (by kernel_rfl)
                        have hb2_ := hall 2 (by kernel_rfl)
                        have hb3_ := hall 3 (by kernel_rfl)
                        have hb4_ := hall 4 (by kernel_rfl)
                        have hb5_ := hall 5 (by kernel_rfl)
                        have hb6_ := hall 6 (by kernel_rfl)
                        have hb8_ := hall 8 (by kernel_rfl)
                        have hb9_ := hall 9 (by kernel_rfl)
                        have hb10_ := hall 10 (by kernel_rfl)
                        have hb11_ := hall 11 (by kernel_rfl)
                        have hb12_ := hall 12 (by kernel_rfl)
                        have hb13_ := hall 13 (by kernel_rfl)
                        have hb15_ := hall 15 (by kernel_rfl)
                        have hb16_ := hall 16 (by kernel_rfl)
                        have hb17_ := hall 17 (by kernel_rfl)
                        have hb18_ := hall 18 (by kernel_rfl)
                        have hb19_ := hall 19 (by kernel_rfl)
                        have hb20_ := hall 20 (by kernel_rfl)
                        subst ha
                        obtain rfl := Q_X10_ hb10_
                        simp only [putSel, hb1_, hb2_, hb3_, hb4_, hb5_, hb6_, hb8_, hb9_, hb10_, hb11_, hb12_, hb13_, hb15_, hb16_, hb17_, hb18_, hb19_, hb20_, if_true, Act.put, List.setIfInBounds_toArray, List.set_cons_zero, List.set_cons_succ]
                        have BK192 := Aside0.mk Q_BK192
                        clear Q_BK192
                        have HB := Aside0.mk Q_HB
                        clear Q_HB
                        have HO197 := Aside0.mk (Q_HO197 hb6_)
                        clear Q_HO197
                        have HA_HO197 := Aside0.mk (Q_HA_HO197 hb6_)
                        clear Q_HA_HO197
                        clear hall hb1_ hb2_ hb3_ hb4_ hb5_ hb6_ hb8_ hb9_ hb10_ hb11_ hb12_ hb13_ hb15_ hb16_ hb17_ hb18_ hb19_ hb20_
                        obtain ⟨co30, eo30⟩ := HA_HO197.out
                        clear HA_HO197
                        subst eo30
                        try go_wp2
                        go_ret
                        exact ⟨by first | rfl | (simp [errW_none, errW_some] <;> rfl) | (simp only [← hji15]; first | rfl | (simp [errW_none, errW_some] <;> rfl)) | (simp [*, errW_none, errW_some] <;> rfl), by repeat (first | (with_reducible first | exact HB.out | apply below_alloc | apply pw_below_drewN | apply below_drew1 | refine below_set ?_ GE192.out) | exact HB.out)⟩
                      · rw [if_neg c22] at H
                        exact absurd H (by simp)
                    · rw [if_neg c20] at H
                      exact absurd H (by simp)
                  · rw [if_neg c19] at H
                    exact absurd H (by simp)
                · rw [if_neg c18] at H
                  exact absurd H (by simp)
              · rw [if_neg c17] at H
                exact absurd H (by simp)
            · rw [if_neg c16] at H
              exact absurd H (by simp)
          · rw [if_neg c14] at H
            exact absurd H (by simp)
        · rw [if_neg c12] at H
          exact absurd H (by simp)
      · replace c11 := Bool.eq_false_iff.mpr c11
        subst c11
        have H1 : (if a0_0 = 2 then (meddlerref6_Cond.j1 kj1 (decide ((l0_3.length : Int) > 0)) a0_0 a0_1 l0_2 l0_3) else (meddlerref6_Cond.j1 kj1 false a0_0 a0_1 l0_2 l0_3)) = some r := by rw [if_neg (show ¬ (false = true) by decide)] at H; exact H
        clear H
        have H := H1
        clear H1
        have HC31 := Aside0.mk H
        clear H
        go_upto_region 3 with (fail)
        go_cut [43] (fun v43 wc => ∃ (kq : Nat) (x43_30 : Bool), v43 = .bool x43_30 ∧ Aside0 (meddlerref6_Cond.j1 kq x43_30 a0_0 a0_1 l0_2 l0_3 = some r) ∧ Aside0 (kq ≤ kj1) ∧ Aside0 (wc.heap[gb192]? = some (.cells #[.int .i64 a0_0, .int .i64 a0_1, (.slice A0_2 l0_2.length c0_2), (.slice A0_3 l0_3.length c0_3)] 33 (0, 0))) ∧ Aside0 (Below w.heap.size w wc))
        case first =>
          have H := HC31.out
          clear HC31
          by_cases c32 : a0_0 = 2
          · rw [if_pos c32] at H
            have c32b0 : (a0_0 == 2) = true := beq_iff_eq.mpr c32
            have c32b1 : (a0_0 != 2) = false := bne_eq_false_iff_eq.mpr c32
            clear c32
            (first | rw [c32b0] | (simp only [i64_w, i32_w]; rw [c32b0]) | skip)
            have H' := Aside0.mk H
            clear H
            have hcz33_0 : wc.cell? ⟨gb192, 0, none⟩ = some (.int .i64 a0_0) := (blk_cell BK192.out 0).trans rfl
            have hcz33_1 : wc.cell? ⟨gb192, 1, none⟩ = some (.int .i64 a0_1) := (blk_cell BK192.out 1).trans rfl
            have hcz33_2 : wc.cell? ⟨gb192, 2, none⟩ = some (.slice A0_2 l0_2.length c0_2) := (blk_cell BK192.out 2).trans rfl
            have hcz33_3 : wc.cell? ⟨gb192, 3, none⟩ = some (.slice A0_3 l0_3.length c0_3) := (blk_cell BK192.out 3).trans rfl
            have hfz33_0 := blk_frozen BK192.out 0
            have hfz33_1 := blk_frozen BK192.out 1
            have hfz33_2 := blk_frozen BK192.out 2
            have hfz33_3 := blk_frozen BK192.out 3
            go_wp2
            go_meet
            case rel => exact ⟨_, (decide ((l0_3.length : Int) > 0)), (by first | rfl | (simp; done) | (simp [*]; done)), H', ⟨by have := HJ1.out; first | omega | exact Nat.le_refl _⟩, ⟨by (with_reducible repeat (first | refine blk_drewN ?_ _ | refine blk_drew ?_ | refine blk_alloc ?_ _)); exact BK192.out⟩, ⟨by repeat (first | (with_reducible first | exact HB.out | apply below_alloc | apply pw_below_drewN | apply below_drew1 | refine below_set ?_ GE192.out) | exact HB.out)⟩⟩
          · rw [if_neg c32] at H
            have c32b0 : (a0_0 == 2) = false := beq_eq_false_iff_ne.mpr c32
            have c32b1 : (a0_0 != 2) = true := bne_iff_ne.mpr c32
            (first | rw [c32b0] | (simp only [i64_w, i32_w]; rw [c32b0]) | skip)
            have H' := Aside0.mk H
            clear H
            have hcz34_0 : wc.cell? ⟨gb192, 0, none⟩ = some (.int .i64 a0_0) := (blk_cell BK192.out 0).trans rfl
            have hcz34_1 : wc.cell? ⟨gb192, 1, none⟩ = some (.int .i64 a0_1) := (blk_cell BK192.out 1).trans rfl
            have hcz34_2 : wc.cell? ⟨gb192, 2, none⟩ = some (.slice A0_2 l0_2.length c0_2) := (blk_cell BK192.out 2).trans rfl
            have hcz34_3 : wc.cell? ⟨gb192, 3, none⟩ = some (.slice A0_3 l0_3.length c0_3) := (blk_cell BK192.out 3).trans rfl
            have hfz34_0 := blk_frozen BK192.out 0
            have hfz34_1 := blk_frozen BK192.out 1
            have hfz34_2 := blk_frozen BK192.out 2
            have hfz34_3 := blk_frozen BK192.out 3
            go_wp2
            go_meet
            case rel => exact ⟨_, (false), (by first | rfl | (simp; done) | (simp [*]; done)), H', ⟨by have := HJ1.out; first | omega | exact Nat.le_refl _⟩, ⟨by (with_reducible repeat (first | refine blk_drewN ?_ _ | refine blk_drew ?_ | refine blk_alloc ?_ _)); exact BK192.out⟩, ⟨by repeat (first | (with_reducible first | exact HB.out | apply below_alloc | apply pw_below_drewN | apply below_drew1 | refine below_set ?_ GE192.out) | exact HB.out)⟩⟩
        case rest =>
          clear HC31
          try clear c1
          try clear p1
          try clear q1
          try clear hx1
          try clear qi1
          try clear c2
          try clear p2
          try clear c3
          try clear p6
          try clear c11
          try clear c12
          try clear c14
          try clear c16
          try clear c16b0
          try clear c17
          try clear c17b0
          try clear c18
          try clear c18b0
          try clear c18b1
          try clear c18b2
          try clear c19
          try clear c19b0
          try clear c19b1
          try clear c19b2
          try clear p19
          try clear q19
          try clear hx19
          try clear qi19
          try clear c20
          try clear c20b0
          try clear c20b1
          try clear c22
          try clear c22b0
          try clear c22b1
          try clear c22b2
          try clear c32
          try clear c32b0
          try clear c32b1
          try clear hcz33_0
          try clear hcz33_1
          try clear hcz33_2
          try clear hcz33_3
          try clear hcz34_0
          try clear hcz34_1
          try clear hcz34_2
          try clear hcz34_3
          try clear hfz33_0
          try clear hfz33_1
          try clear hfz33_2
          try clear hfz33_3
          try clear hfz34_0
          try clear hfz34_1
          try clear hfz34_2
          try clear hfz34_3
          try clear hx193_0
          try clear hx193_1
          try clear hx193_2
          try clear hx193_3
          try clear hx193_4
          try clear hx199_0
          try clear hx199_1
          try clear hx199_2
          try clear hx199_3
          try clear hx199_4
          try clear p193
          try clear p199
          try clear q193
          try clear q199
          obtain ⟨kq, x43_30, rfl, HA, HJ30, BK192, HB⟩ := hcut
          cases kq with
          | zero => exact absurd HA.out (by simp [meddlerref6_Cond.j1])
          | succ kj30 =>
            have H := HA.out
            clear HA
            simp only [meddlerref6_Cond.j1] at H
            by_cases c35 : x43_30 = true
            · subst c35
              have H1 : (if 0 < (l0_3.length : Int) then (if ((rd_T33 l0_3 0).f0) = 1 then ((meddlerref6_Cond.f kj30 ((rd_T33 l0_3 0).f0) ((rd_T33 l0_3 0).f1) ((rd_T33 l0_3 0).f2) ((rd_T33 l0_3 0).f3)).bind fun t203 => (if 2 + t203.size ≤ 9223372036854775807 then (if ((⟨#[33, 91]⟩ : ByteArray) ++ t203).size + 1 ≤ 9223372036854775807 then (some (((⟨#[33, 91]⟩ : ByteArray) ++ t203) ++ (⟨#[93]⟩ : ByteArray))) else (none)) else (none))) else ((meddlerref6_Cond.f kj30 ((rd_T33 l0_3 0).f0) ((rd_T33 l0_3 0).f1) ((rd_T33 l0_3 0).f2) ((rd_T33 l0_3 0).f3)).bind fun t205 => (if 1 + t205.size ≤ 9223372036854775807 then (some ((⟨#[33]⟩ : ByteArray) ++ t205)) else (none)))) else (none)) = some r := by rw [if_pos rfl] at H; exact H
              clear H
              have H := H1
              clear H1
              by_cases c36 : 0 < (l0_3.length : Int)
              · rw [if_pos c36] at H
                have c36b0 : decide (0 < (l0_3.length : Int)) = true := decide_eq_true c36
                have c36b1 : decide (0 < l0_3.length) = true := decide_eq_true (by omega)
                clear c36
                by_cases c37 : ((rd_T33 l0_3 0).f0) = 1
                · rw [if_pos c37] at H
                  have c37b0 : (((rd_T33 l0_3 0).f0) == 1) = true := beq_iff_eq.mpr c37
                  have c37b1 : (((rd_T33 l0_3 0).f0) != 1) = false := bne_eq_false_iff_eq.mpr c37
                  clear c37
                  replace H := Option.bind_eq_some_iff.mp H
                  obtain ⟨t203, A380, H⟩ := H
                  replace H : (if 2 + t203.size ≤ 9223372036854775807 then (if ((⟨#[33, 91]⟩ : ByteArray) ++ t203).size + 1 ≤ 9223372036854775807 then (some (((⟨#[33, 91]⟩ : ByteArray) ++ t203) ++ (⟨#[93]⟩ : ByteArray))) else (none)) else (none)) = some r := H
                  have A38 := Aside0.mk A380
                  clear A380
                  by_cases c39 : 2 + t203.size ≤ 9223372036854775807
                  · rw [if_pos c39] at H
                    have c39b0 := eq_true c39
                    have c39b1 : decide (2 + t203.size ≤ 9223372036854775807) = true := decide_eq_true c39
                    try have c39b2 : (9223372036854775807 < 2 + t203.size) = False := eq_false (Nat.not_lt.2 c39)
                    try have c39b3 := c39b2
                    try simp only [ByteArray.size_append, szl16, List.size_toArray, List.length_cons, List.length_nil, Nat.zero_add, Nat.reduceAdd] at c39b3
                    by_cases c40 : ((⟨#[33, 91]⟩ : ByteArray) ++ t203).size + 1 ≤ 9223372036854775807
                    · rw [if_pos c40] at H
                      have c40b0 := eq_true c40
                      have c40b1 : decide (((⟨#[33, 91]⟩ : ByteArray) ++ t203).size + 1 ≤ 9223372036854775807) = true := decide_eq_true c40
                      try have c40b2 : (9223372036854775807 < ((⟨#[33, 91]⟩ : ByteArray) ++ t203).size + 1) = False := eq_false (Nat.not_lt.2 c40)
                      try have c40b3 := c40b2
                      try simp only [ByteArray.size_append, szl16, List.size_toArray, List.length_cons, List.length_nil, Nat.zero_add, Nat.reduceAdd] at c40b3
                      obtain rfl := Option.some.inj H
                      have hcz41_0 : wc.cell? ⟨gb192, 0, none⟩ = some (.int .i64 a0_0) := (blk_cell BK192.out 0).trans rfl
                      have hcz41_1 : wc.cell? ⟨gb192, 1, none⟩ = some (.int .i64 a0_1) := (blk_cell BK192.out 1).trans rfl
                      have hcz41_2 : wc.cell? ⟨gb192, 2, none⟩ = some (.slice A0_2 l0_2.length c0_2) := (blk_cell BK192.out 2).trans rfl
                      have hcz41_3 : wc.cell? ⟨gb192, 3, none⟩ = some (.slice A0_3 l0_3.length c0_3) := (blk_cell BK192.out 3).trans rfl
                      have hfz41_0 := blk_frozen BK192.out 0
                      have hfz41_1 := blk_frozen BK192.out 1
                      have hfz41_2 := blk_frozen BK192.out 2
                      have hfz41_3 := blk_frozen BK192.out 3
                      have p201 : 0 ≤ (0 : Int) := (by omega)
                      have q201 : 0 < (l0_3.length : Int) := of_decide_eq_true (by first | (with_reducible assumption) | assumption)
                      obtain ⟨ad201, A201_2, c201_2, A201_3, c201_3, e201, hx201_0, hx201_1, hx201_2, hx201_3, hl201_2, hi201_2, hl201_3, hi201_3⟩ := at_T33 HR0_3.out 0 p201 q201
                      cases e201
                      have qi201 : (0 < l0_3.length) = True := eq_true (by omega)
                      (try rw [show ((0 : Int)).toNat = 0 from rfl] at hx201_0)
                      (try rw [show 0 * 4 = 0 from rfl] at hx201_0)
                      (try rw [Addr.add_zero'] at hx201_0)
                      (try rw [show ((0 : Int)).toNat = 0 from rfl] at hx201_1)
                      (try rw [show 0 * 4 = 0 from rfl] at hx201_1)
                      (try rw [Addr.add_zero'] at hx201_1)
                      (try rw [show ((0 : Int)).toNat = 0 from rfl] at hx201_2)
                      (try rw [show 0 * 4 = 0 from rfl] at hx201_2)
                      (try rw [Addr.add_zero'] at hx201_2)
                      (try rw [show ((0 : Int)).toNat = 0 from rfl] at hx201_3)
                      (try rw [show 0 * 4 = 0 from rfl] at hx201_3)
                      (try rw [Addr.add_zero'] at hx201_3)
                      replace hx201_0 := (HB.out.cell (World.block_lt_of_cell? w _ hx201_0)).trans hx201_0
                      replace hx201_1 := (HB.out.cell (World.block_lt_of_cell? w _ hx201_1)).trans hx201_1
                      replace hx201_2 := (HB.out.cell (World.block_lt_of_cell? w _ hx201_2)).trans hx201_2
                      replace hx201_3 := (HB.out.cell (World.block_lt_of_cell? w _ hx201_3)).trans hx201_3
                      have HR201_2 := Aside0.mk hi201_2
                      have HC201_2 := Aside0.mk hl201_2
                      clear hi201_2 hl201_2
                      have HR201_3 := Aside0.mk hi201_3
                      have HC201_3 := Aside0.mk hl201_3
                      clear hi201_3 hl201_3
                      replace p201 := eq_true p201
                      replace q201 := eq_true q201
                      have p202 : 0 ≤ (0 : Int) := (by omega)
                      have q202 : 0 < (l0_3.length : Int) := of_decide_eq_true (by first | (with_reducible assumption) | assumption)
                      obtain ⟨ad202, A202_2, c202_2, A202_3, c202_3, e202, hx202_0, hx202_1, hx202_2, hx202_3, hl202_2, hi202_2, hl202_3, hi202_3⟩ := at_T33 HR0_3.out 0 p202 q202
                      obtain rfl : ad201 = ad202 := (by injection e202)
                      have qi202 : (0 < l0_3.length) = True := eq_true (by omega)
                      (try rw [show ((0 : Int)).toNat = 0 from rfl] at hx202_0)
                      (try rw [show 0 * 4 = 0 from rfl] at hx202_0)
                      (try rw [Addr.add_zero'] at hx202_0)
                      (try rw [show ((0 : Int)).toNat = 0 from rfl] at hx202_1)
                      (try rw [show 0 * 4 = 0 from rfl] at hx202_1)
                      (try rw [Addr.add_zero'] at hx202_1)
                      (try rw [show ((0 : Int)).toNat = 0 from rfl] at hx202_2)
                      (try rw [show 0 * 4 = 0 from rfl] at hx202_2)
                      (try rw [Addr.add_zero'] at hx202_2)
                      (try rw [show ((0 : Int)).toNat = 0 from rfl] at hx202_3)
                      (try rw [show 0 * 4 = 0 from rfl] at hx202_3)
                      (try rw [Addr.add_zero'] at hx202_3)
                      replace hx202_0 := (HB.out.cell (World.block_lt_of_cell? w _ hx202_0)).trans hx202_0
                      replace hx202_1 := (HB.out.cell (World.block_lt_of_cell? w _ hx202_1)).trans hx202_1
                      replace hx202_2 := (HB.out.cell (World.block_lt_of_cell? w _ hx202_2)).trans hx202_2
                      replace hx202_3 := (HB.out.cell (World.block_lt_of_cell? w _ hx202_3)).trans hx202_3
                      have HR202_2 := Aside0.mk hi202_2
                      have HC202_2 := Aside0.mk hl202_2
                      clear hi202_2 hl202_2
                      have HR202_3 := Aside0.mk hi202_3
                      have HC202_3 := Aside0.mk hl202_3
                      clear hi202_3 hl202_3
                      replace p202 := eq_true p202
                      replace q202 := eq_true q202
                      have ea_ := Option.some.inj (hx201_2.symm.trans hx202_2)
                      injection ea_ with ea_ en_ ec_
                      subst ea_
                      subst ec_
                      clear en_
                      have ea_ := Option.some.inj (hx201_3.symm.trans hx202_3)
                      injection ea_ with ea_ en_ ec_
                      subst ea_
                      subst ec_
                      clear en_
                      go_wp2_with (first | ((with_reducible refine gate_callee (f := 16) rfl ?_); refine goesL_ (some 63) rfl rfl Tryd.func16 (by kernel_rfl) rfl #[.agg #[.int .i64 ((rd_T33 l0_3 0).f0), .int .i64 ((rd_T33 l0_3 0).f1), .slice A201_2 ((rd_T33 l0_3 0).f2).length c201_2, .slice A201_3 ((rd_T33 l0_3 0).f3).length c201_3]] rfl (by (try simp only [List.map_toArray, List.map_cons, List.map_nil]); first | done | rfl | (simp only [List.length_drop, List.length_take]; rfl)) ?_; (with_reducible refine (ih kj30 (by have := HJ1.out; have := HJ30.out; omega) ((rd_T33 l0_3 0).f0) ((rd_T33 l0_3 0).f1) _ _ ((rd_T33 l0_3 0).f2) _ _ ((rd_T33 l0_3 0).f3) t203 _ ?side1 ?side2 ?side3 ?side4 A38.out).mono ?_); (case side1 => repeat (first | exact (Kd.C_below HR202_2.out HB.out) | (with_reducible refine Kd.C_alloc ?_ _) | (with_reducible refine Kd.C_drewN ?_ _) | (with_reducible refine Kd.C_drew ?_))); (case side2 => exact HC202_2.out); (case side3 => repeat (first | exact (Kd.C_below HR202_3.out HB.out) | (with_reducible refine Kd.C_alloc ?_ _) | (with_reducible refine Kd.C_drewN ?_ _) | (with_reducible refine Kd.C_drew ?_))); (case side4 => exact HC202_3.out); rintro e w42 ⟨rfl, hb⟩; refine ⟨_, rfl, ?_⟩; have n0_ := Aside0.mk (blk_below (g := gb192) (o := .cells #[.int .i64 a0_0, .int .i64 a0_1, .slice A0_2 l0_2.length c0_2, .slice (some ad201) l0_3.length c0_3] 33 (0, 0)) (by (with_reducible repeat (first | refine blk_drewN ?_ _ | refine blk_drew ?_ | refine blk_alloc ?_ _)); exact BK192.out) hb); have n1_ := Aside0.mk (below_step (by repeat (first | (with_reducible first | exact HB.out | apply below_alloc | apply pw_below_drewN | apply below_drew1 | refine below_set ?_ GE192.out) | exact HB.out)) hb); clear BK192; clear HB; have BK192 := n0_; have HB := n1_; clear n0_ n1_; (try clear hb); (try clear hb2); (try clear hk); (try clear hi)))
                      go_ret
                      exact ⟨by first | rfl | (simp [errW_none, errW_some] <;> rfl) | (simp [*, errW_none, errW_some] <;> rfl), by repeat (first | (with_reducible first | exact HB.out | apply below_alloc | apply pw_below_drewN | apply below_drew1 | refine below_set ?_ GE192.out) | exact HB.out)⟩
                    · rw [if_neg c40] at H
                      exact absurd H (by simp)
                  · rw [if_neg c39] at H
                    exact absurd H (by simp)
                · rw [if_neg c37] at H
                  have c37b0 : (((rd_T33 l0_3 0).f0) == 1) = false := beq_eq_false_iff_ne.mpr c37
                  have c37b1 : (((rd_T33 l0_3 0).f0) != 1) = true := bne_iff_ne.mpr c37
                  replace H := Option.bind_eq_some_iff.mp H
                  obtain ⟨t205, A430, H⟩ := H
                  replace H : (if 1 + t205.size ≤ 9223372036854775807 then (some ((⟨#[33]⟩ : ByteArray) ++ t205)) else (none)) = some r := H
                  have A43 := Aside0.mk A430
                  clear A430
                  by_cases c44 : 1 + t205.size ≤ 9223372036854775807
                  · rw [if_pos c44] at H
                    have c44b0 := eq_true c44
                    have c44b1 : decide (1 + t205.size ≤ 9223372036854775807) = true := decide_eq_true c44
                    try have c44b2 : (9223372036854775807 < 1 + t205.size) = False := eq_false (Nat.not_lt.2 c44)
                    try have c44b3 := c44b2
                    try simp only [ByteArray.size_append, szl16, List.size_toArray, List.length_cons, List.length_nil, Nat.zero_add, Nat.reduceAdd] at c44b3
                    obtain rfl := Option.some.inj H
                    have hcz45_0 : wc.cell? ⟨gb192, 0, none⟩ = some (.int .i64 a0_0) := (blk_cell BK192.out 0).trans rfl
                    have hcz45_1 : wc.cell? ⟨gb192, 1, none⟩ = some (.int .i64 a0_1) := (blk_cell BK192.out 1).trans rfl
                    have hcz45_2 : wc.cell? ⟨gb192, 2, none⟩ = some (.slice A0_2 l0_2.length c0_2) := (blk_cell BK192.out 2).trans rfl
                    have hcz45_3 : wc.cell? ⟨gb192, 3, none⟩ = some (.slice A0_3 l0_3.length c0_3) := (blk_cell BK192.out 3).trans rfl
                    have hfz45_0 := blk_frozen BK192.out 0
                    have hfz45_1 := blk_frozen BK192.out 1
                    have hfz45_2 := blk_frozen BK192.out 2
                    have hfz45_3 := blk_frozen BK192.out 3
                    have p201 : 0 ≤ (0 : Int) := (by omega)
                    have q201 : 0 < (l0_3.length : Int) := of_decide_eq_true (by first | (with_reducible assumption) | assumption)
                    obtain ⟨ad201, A201_2, c201_2, A201_3, c201_3, e201, hx201_0, hx201_1, hx201_2, hx201_3, hl201_2, hi201_2, hl201_3, hi201_3⟩ := at_T33 HR0_3.out 0 p201 q201
                    cases e201
                    have qi201 : (0 < l0_3.length) = True := eq_true (by omega)
                    (try rw [show ((0 : Int)).toNat = 0 from rfl] at hx201_0)
                    (try rw [show 0 * 4 = 0 from rfl] at hx201_0)
                    (try rw [Addr.add_zero'] at hx201_0)
                    (try rw [show ((0 : Int)).toNat = 0 from rfl] at hx201_1)
                    (try rw [show 0 * 4 = 0 from rfl] at hx201_1)
                    (try rw [Addr.add_zero'] at hx201_1)
                    (try rw [show ((0 : Int)).toNat = 0 from rfl] at hx201_2)
                    (try rw [show 0 * 4 = 0 from rfl] at hx201_2)
                    (try rw [Addr.add_zero'] at hx201_2)
                    (try rw [show ((0 : Int)).toNat = 0 from rfl] at hx201_3)
                    (try rw [show 0 * 4 = 0 from rfl] at hx201_3)
                    (try rw [Addr.add_zero'] at hx201_3)
                    replace hx201_0 := (HB.out.cell (World.block_lt_of_cell? w _ hx201_0)).trans hx201_0
                    replace hx201_1 := (HB.out.cell (World.block_lt_of_cell? w _ hx201_1)).trans hx201_1
                    replace hx201_2 := (HB.out.cell (World.block_lt_of_cell? w _ hx201_2)).trans hx201_2
                    replace hx201_3 := (HB.out.cell (World.block_lt_of_cell? w _ hx201_3)).trans hx201_3
                    have HR201_2 := Aside0.mk hi201_2
                    have HC201_2 := Aside0.mk hl201_2
                    clear hi201_2 hl201_2
                    have HR201_3 := Aside0.mk hi201_3
                    have HC201_3 := Aside0.mk hl201_3
                    clear hi201_3 hl201_3
                    replace p201 := eq_true p201
                    replace q201 := eq_true q201
                    have p204 : 0 ≤ (0 : Int) := (by omega)
                    have q204 : 0 < (l0_3.length : Int) := of_decide_eq_true (by first | (with_reducible assumption) | assumption)
                    obtain ⟨ad204, A204_2, c204_2, A204_3, c204_3, e204, hx204_0, hx204_1, hx204_2, hx204_3, hl204_2, hi204_2, hl204_3, hi204_3⟩ := at_T33 HR0_3.out 0 p204 q204
                    obtain rfl : ad201 = ad204 := (by injection e204)
                    have qi204 : (0 < l0_3.length) = True := eq_true (by omega)
                    (try rw [show ((0 : Int)).toNat = 0 from rfl] at hx204_0)
                    (try rw [show 0 * 4 = 0 from rfl] at hx204_0)
                    (try rw [Addr.add_zero'] at hx204_0)
                    (try rw [show ((0 : Int)).toNat = 0 from rfl] at hx204_1)
                    (try rw [show 0 * 4 = 0 from rfl] at hx204_1)
                    (try rw [Addr.add_zero'] at hx204_1)
                    (try rw [show ((0 : Int)).toNat = 0 from rfl] at hx204_2)
                    (try rw [show 0 * 4 = 0 from rfl] at hx204_2)
                    (try rw [Addr.add_zero'] at hx204_2)
                    (try rw [show ((0 : Int)).toNat = 0 from rfl] at hx204_3)
                    (try rw [show 0 * 4 = 0 from rfl] at hx204_3)
                    (try rw [Addr.add_zero'] at hx204_3)
                    replace hx204_0 := (HB.out.cell (World.block_lt_of_cell? w _ hx204_0)).trans hx204_0
                    replace hx204_1 := (HB.out.cell (World.block_lt_of_cell? w _ hx204_1)).trans hx204_1
                    replace hx204_2 := (HB.out.cell (World.block_lt_of_cell? w _ hx204_2)).trans hx204_2
                    replace hx204_3 := (HB.out.cell (World.block_lt_of_cell? w _ hx204_3)).trans hx204_3
                    have HR204_2 := Aside0.mk hi204_2
                    have HC204_2 := Aside0.mk hl204_2
                    clear hi204_2 hl204_2
                    have HR204_3 := Aside0.mk hi204_3
                    have HC204_3 := Aside0.mk hl204_3
                    clear hi204_3 hl204_3
                    replace p204 := eq_true p204
                    replace q204 := eq_true q204
                    have ea_ := Option.some.inj (hx201_2.symm.trans hx204_2)
                    injection ea_ with ea_ en_ ec_
                    subst ea_
                    subst ec_
                    clear en_
                    have ea_ := Option.some.inj (hx201_3.symm.trans hx204_3)
                    injection ea_ with ea_ en_ ec_
                    subst ea_
                    subst ec_
                    clear en_
                    go_wp2_with (first | ((with_reducible refine gate_callee (f := 16) rfl ?_); refine goesL_ (some 70) rfl rfl Tryd.func16 (by kernel_rfl) rfl #[.agg #[.int .i64 ((rd_T33 l0_3 0).f0), .int .i64 ((rd_T33 l0_3 0).f1), .slice A201_2 ((rd_T33 l0_3 0).f2).length c201_2, .slice A201_3 ((rd_T33 l0_3 0).f3).length c201_3]] rfl (by (try simp only [List.map_toArray, List.map_cons, List.map_nil]); first | done | rfl | (simp only [List.length_drop, List.length_take]; rfl)) ?_; (with_reducible refine (ih kj30 (by have := HJ1.out; have := HJ30.out; omega) ((rd_T33 l0_3 0).f0) ((rd_T33 l0_3 0).f1) _ _ ((rd_T33 l0_3 0).f2) _ _ ((rd_T33 l0_3 0).f3) t205 _ ?side1 ?side2 ?side3 ?side4 A43.out).mono ?_); (case side1 => repeat (first | exact (Kd.C_below HR204_2.out HB.out) | (with_reducible refine Kd.C_alloc ?_ _) | (with_reducible refine Kd.C_drewN ?_ _) | (with_reducible refine Kd.C_drew ?_))); (case side2 => exact HC204_2.out); (case side3 => repeat (first | exact (Kd.C_below HR204_3.out HB.out) | (with_reducible refine Kd.C_alloc ?_ _) | (with_reducible refine Kd.C_drewN ?_ _) | (with_reducible refine Kd.C_drew ?_))); (case side4 => exact HC204_3.out); rintro e w46 ⟨rfl, hb⟩; refine ⟨_, rfl, ?_⟩; have n0_ := Aside0.mk (blk_below (g := gb192) (o := .cells #[.int .i64 a0_0, .int .i64 a0_1, .slice A0_2 l0_2.length c0_2, .slice (some ad201) l0_3.length c0_3] 33 (0, 0)) (by (with_reducible repeat (first | refine blk_drewN ?_ _ | refine blk_drew ?_ | refine blk_alloc ?_ _)); exact BK192.out) hb); have n1_ := Aside0.mk (below_step (by repeat (first | (with_reducible first | exact HB.out | apply below_alloc | apply pw_below_drewN | apply below_drew1 | refine below_set ?_ GE192.out) | exact HB.out)) hb); clear BK192; clear HB; have BK192 := n0_; have HB := n1_; clear n0_ n1_; (try clear hb); (try clear hb2); (try clear hk); (try clear hi)))
                    go_ret
                    exact ⟨by first | rfl | (simp [errW_none, errW_some] <;> rfl) | (simp [*, errW_none, errW_some] <;> rfl), by repeat (first | (with_reducible first | exact HB.out | apply below_alloc | apply pw_below_drewN | apply below_drew1 | refine below_set ?_ GE192.out) | exact HB.out)⟩
                  · rw [if_neg c44] at H
                    exact absurd H (by simp)
              · rw [if_neg c36] at H
                exact absurd H (by simp)
            · replace c35 := Bool.eq_false_iff.mpr c35
              subst c35
              have H1 : (if a0_0 = 3 then (meddlerref6_Cond.j2 kj30 (decide ((l0_3.length : Int) > 1)) a0_0 a0_1 l0_2 l0_3) else (meddlerref6_Cond.j2 kj30 false a0_0 a0_1 l0_2 l0_3)) = some r := by rw [if_neg (show ¬ (false = true) by decide)] at H; exact H
              clear H
              have H := H1
              clear H1
              have HC47 := Aside0.mk H
              clear H
              go_upto_region 7 with (fail)
              go_cut [72] (fun v72 wc => ∃ (kq : Nat) (x72_46 : Bool), v72 = .bool x72_46 ∧ Aside0 (meddlerref6_Cond.j2 kq x72_46 a0_0 a0_1 l0_2 l0_3 = some r) ∧ Aside0 (kq ≤ kj30) ∧ Aside0 (wc.heap[gb192]? = some (.cells #[.int .i64 a0_0, .int .i64 a0_1, (.slice A0_2 l0_2.length c0_2), (.slice A0_3 l0_3.length c0_3)] 33 (0, 0))) ∧ Aside0 (Below w.heap.size w wc))
              case first =>
                have H := HC47.out
                clear HC47
                by_cases c48 : a0_0 = 3
                · rw [if_pos c48] at H
                  have c48b0 : (a0_0 == 3) = true := beq_iff_eq.mpr c48
                  have c48b1 : (a0_0 != 3) = false := bne_eq_false_iff_eq.mpr c48
                  clear c48
                  (first | rw [c48b0] | (simp only [i64_w, i32_w]; rw [c48b0]) | skip)
                  have H' := Aside0.mk H
                  clear H
                  have hcz49_0 : wc.cell? ⟨gb192, 0, none⟩ = some (.int .i64 a0_0) := (blk_cell BK192.out 0).trans rfl
                  have hcz49_1 : wc.cell? ⟨gb192, 1, none⟩ = some (.int .i64 a0_1) := (blk_cell BK192.out 1).trans rfl
                  have hcz49_2 : wc.cell? ⟨gb192, 2, none⟩ = some (.slice A0_2 l0_2.length c0_2) := (blk_cell BK192.out 2).trans rfl
                  have hcz49_3 : wc.cell? ⟨gb192, 3, none⟩ = some (.slice A0_3 l0_3.length c0_3) := (blk_cell BK192.out 3).trans rfl
                  have hfz49_0 := blk_frozen BK192.out 0
                  have hfz49_1 := blk_frozen BK192.out 1
                  have hfz49_2 := blk_frozen BK192.out 2
                  have hfz49_3 := blk_frozen BK192.out 3
                  go_wp2
                  go_meet
                  case rel => exact ⟨_, (decide ((l0_3.length : Int) > 1)), (by first | rfl | (simp; done) | (simp [*]; done)), H', ⟨by have := HJ1.out; have := HJ30.out; first | omega | exact Nat.le_refl _⟩, ⟨by (with_reducible repeat (first | refine blk_drewN ?_ _ | refine blk_drew ?_ | refine blk_alloc ?_ _)); exact BK192.out⟩, ⟨by repeat (first | (with_reducible first | exact HB.out | apply below_alloc | apply pw_below_drewN | apply below_drew1 | refine below_set ?_ GE192.out) | exact HB.out)⟩⟩
                · rw [if_neg c48] at H
                  have c48b0 : (a0_0 == 3) = false := beq_eq_false_iff_ne.mpr c48
                  have c48b1 : (a0_0 != 3) = true := bne_iff_ne.mpr c48
                  (first | rw [c48b0] | (simp only [i64_w, i32_w]; rw [c48b0]) | skip)
                  have H' := Aside0.mk H
                  clear H
                  have hcz50_0 : wc.cell? ⟨gb192, 0, none⟩ = some (.int .i64 a0_0) := (blk_cell BK192.out 0).trans rfl
                  have hcz50_1 : wc.cell? ⟨gb192, 1, none⟩ = some (.int .i64 a0_1) := (blk_cell BK192.out 1).trans rfl
                  have hcz50_2 : wc.cell? ⟨gb192, 2, none⟩ = some (.slice A0_2 l0_2.length c0_2) := (blk_cell BK192.out 2).trans rfl
                  have hcz50_3 : wc.cell? ⟨gb192, 3, none⟩ = some (.slice A0_3 l0_3.length c0_3) := (blk_cell BK192.out 3).trans rfl
                  have hfz50_0 := blk_frozen BK192.out 0
                  have hfz50_1 := blk_frozen BK192.out 1
                  have hfz50_2 := blk_frozen BK192.out 2
                  have hfz50_3 := blk_frozen BK192.out 3
                  go_wp2
                  go_meet
                  case rel => exact ⟨_, (false), (by first | rfl | (simp; done) | (simp [*]; done)), H', ⟨by have := HJ1.out; have := HJ30.out; first | omega | exact Nat.le_refl _⟩, ⟨by (with_reducible repeat (first | refine blk_drewN ?_ _ | refine blk_drew ?_ | refine blk_alloc ?_ _)); exact BK192.out⟩, ⟨by repeat (first | (with_reducible first | exact HB.out | apply below_alloc | apply pw_below_drewN | apply below_drew1 | refine below_set ?_ GE192.out) | exact HB.out)⟩⟩
              case rest =>
                clear HC47
                try clear c1
                try clear p1
                try clear q1
                try clear hx1
                try clear qi1
                try clear c2
                try clear p2
                try clear q2
                try clear hx2
                try clear qi2
                try clear c3
                try clear c4
                try clear p6
                try clear c11
                try clear c12
                try clear c14
                try clear c16
                try clear c16b0
                try clear c17
                try clear c17b0
                try clear c18
                try clear c18b0
                try clear c18b1
                try clear c18b2
                try clear c19
                try clear c19b0
                try clear c19b1
                try clear c19b2
                try clear p19
                try clear q19
                try clear hx19
                try clear qi19
                try clear c20
                try clear c20b0
                try clear c20b1
                try clear p20
                try clear q20
                try clear hx20
                try clear qi20
                try clear c22
                try clear c22b0
                try clear c22b1
                try clear c22b2
                try clear c32
                try clear c32b0
                try clear c32b1
                try clear c35
                try clear c36
                try clear c36b0
                try clear c36b1
                try clear c37
                try clear c37b0
                try clear c37b1
                try clear c39
                try clear c39b0
                try clear c39b1
                try clear c39b2
                try clear c40
                try clear c40b0
                try clear c40b1
                try clear c40b2
                try clear c44
                try clear c44b0
                try clear c44b1
                try clear c44b2
                try clear c48
                try clear c48b0
                try clear c48b1
                try clear hcz33_0
                try clear hcz33_1
                try clear hcz33_2
                try clear hcz33_3
                try clear hcz34_0
                try clear hcz34_1
                try clear hcz34_2
                try clear hcz34_3
                try clear hcz41_0
                try clear hcz41_1
                try clear hcz41_2
                try clear hcz41_3
                try clear hcz45_0
                try clear hcz45_1
                try clear hcz45_2
                try clear hcz45_3
                try clear hcz49_0
                try clear hcz49_1
                try clear hcz49_2
                try clear hcz49_3
                try clear hcz50_0
                try clear hcz50_1
                try clear hcz50_2
                try clear hcz50_3
                try clear hfz33_0
                try clear hfz33_1
                try clear hfz33_2
                try clear hfz33_3
                try clear hfz34_0
                try clear hfz34_1
                try clear hfz34_2
                try clear hfz34_3
                try clear hfz41_0
                try clear hfz41_1
                try clear hfz41_2
                try clear hfz41_3
                try clear hfz45_0
                try clear hfz45_1
                try clear hfz45_2
                try clear hfz45_3
                try clear hfz49_0
                try clear hfz49_1
                try clear hfz49_2
                try clear hfz49_3
                try clear hfz50_0
                try clear hfz50_1
                try clear hfz50_2
                try clear hfz50_3
                try clear hx193_0
                try clear hx193_1
                try clear hx193_2
                try clear hx193_3
                try clear hx193_4
                try clear hx199_0
                try clear hx199_1
                try clear hx199_2
                try clear hx199_3
                try clear hx199_4
                try clear hx201_0
                try clear hx201_1
                try clear hx201_2
                try clear hx201_3
                try clear hx202_0
                try clear hx202_1
                try clear hx202_2
                try clear hx202_3
                try clear hx204_0
                try clear hx204_1
                try clear hx204_2
                try clear hx204_3
                try clear p1
                try clear p19
                try clear p193
                try clear p199
                try clear p2
                try clear p201
                try clear p202
                try clear p204
                try clear p6
                try clear q1
                try clear q19
                try clear q193
                try clear q199
                try clear q201
                try clear q202
                try clear q204
                obtain ⟨kq, x72_46, rfl, HA, HJ46, BK192, HB⟩ := hcut
                cases kq with
                | zero => exact absurd HA.out (by simp [meddlerref6_Cond.j2])
                | succ kj46 =>
                  have H := HA.out
                  clear HA
                  simp only [meddlerref6_Cond.j2] at H
                  by_cases c51 : x72_46 = true
                  · subst c51
                    have H1 : (if 0 < (l0_3.length : Int) then ((meddlerref6_Cond.f kj46 ((rd_T33 l0_3 0).f0) ((rd_T33 l0_3 0).f1) ((rd_T33 l0_3 0).f2) ((rd_T33 l0_3 0).f3)).bind fun t207 => (if 1 + t207.size ≤ 9223372036854775807 then (if ((⟨#[91]⟩ : ByteArray) ++ t207).size + 4 ≤ 9223372036854775807 then (if 1 < (l0_3.length : Int) then ((meddlerref6_Cond.f kj46 ((rd_T33 l0_3 1).f0) ((rd_T33 l0_3 1).f1) ((rd_T33 l0_3 1).f2) ((rd_T33 l0_3 1).f3)).bind fun t209 => (if (((⟨#[91]⟩ : ByteArray) ++ t207) ++ (⟨#[32, 38, 38, 32]⟩ : ByteArray)).size + t209.size ≤ 9223372036854775807 then (if ((((⟨#[91]⟩ : ByteArray) ++ t207) ++ (⟨#[32, 38, 38, 32]⟩ : ByteArray)) ++ t209).size + 1 ≤ 9223372036854775807 then (some (((((⟨#[91]⟩ : ByteArray) ++ t207) ++ (⟨#[32, 38, 38, 32]⟩ : ByteArray)) ++ t209) ++ (⟨#[93]⟩ : ByteArray))) else (none)) else (none))) else (none)) else (none)) else (none))) else (none)) = some r := by rw [if_pos rfl] at H; exact H
                    clear H
                    have H := H1
                    clear H1
                    by_cases c52 : 0 < (l0_3.length : Int)
                    · rw [if_pos c52] at H
                      have c52b0 : decide (0 < (l0_3.length : Int)) = true := decide_eq_true c52
                      have c52b1 : decide (0 < l0_3.length) = true := decide_eq_true (by omega)
                      clear c52
                      replace H := Option.bind_eq_some_iff.mp H
                      obtain ⟨t207, A530, H⟩ := H
                      replace H : (if 1 + t207.size ≤ 9223372036854775807 then (if ((⟨#[91]⟩ : ByteArray) ++ t207).size + 4 ≤ 9223372036854775807 then (if 1 < (l0_3.length : Int) then ((meddlerref6_Cond.f kj46 ((rd_T33 l0_3 1).f0) ((rd_T33 l0_3 1).f1) ((rd_T33 l0_3 1).f2) ((rd_T33 l0_3 1).f3)).bind fun t209 => (if (((⟨#[91]⟩ : ByteArray) ++ t207) ++ (⟨#[32, 38, 38, 32]⟩ : ByteArray)).size + t209.size ≤ 9223372036854775807 then (if ((((⟨#[91]⟩ : ByteArray) ++ t207) ++ (⟨#[32, 38, 38, 32]⟩ : ByteArray)) ++ t209).size + 1 ≤ 9223372036854775807 then (some (((((⟨#[91]⟩ : ByteArray) ++ t207) ++ (⟨#[32, 38, 38, 32]⟩ : ByteArray)) ++ t209) ++ (⟨#[93]⟩ : ByteArray))) else (none)) else (none))) else (none)) else (none)) else (none)) = some r := H
                      have A53 := Aside0.mk A530
                      clear A530
                      by_cases c54 : 1 + t207.size ≤ 9223372036854775807
                      · rw [if_pos c54] at H
                        have c54b0 := eq_true c54
                        have c54b1 : decide (1 + t207.size ≤ 9223372036854775807) = true := decide_eq_true c54
                        try have c54b2 : (9223372036854775807 < 1 + t207.size) = False := eq_false (Nat.not_lt.2 c54)
                        try have c54b3 := c54b2
                        try simp only [ByteArray.size_append, szl16, List.size_toArray, List.length_cons, List.length_nil, Nat.zero_add, Nat.reduceAdd] at c54b3
                        by_cases c55 : ((⟨#[91]⟩ : ByteArray) ++ t207).size + 4 ≤ 9223372036854775807
                        · rw [if_pos c55] at H
                          have c55b0 := eq_true c55
                          have c55b1 : decide (((⟨#[91]⟩ : ByteArray) ++ t207).size + 4 ≤ 9223372036854775807) = true := decide_eq_true c55
                          try have c55b2 : (9223372036854775807 < ((⟨#[91]⟩ : ByteArray) ++ t207).size + 4) = False := eq_false (Nat.not_lt.2 c55)
                          try have c55b3 := c55b2
                          try simp only [ByteArray.size_append, szl16, List.size_toArray, List.length_cons, List.length_nil, Nat.zero_add, Nat.reduceAdd] at c55b3
                          by_cases c56 : 1 < (l0_3.length : Int)
                          · rw [if_pos c56] at H
                            have c56b0 : decide (1 < (l0_3.length : Int)) = true := decide_eq_true c56
                            have c56b1 : decide (1 < l0_3.length) = true := decide_eq_true (by omega)
                            clear c56
                            replace H := Option.bind_eq_some_iff.mp H
                            obtain ⟨t209, A570, H⟩ := H
                            replace H : (if (((⟨#[91]⟩ : ByteArray) ++ t207) ++ (⟨#[32, 38, 38, 32]⟩ : ByteArray)).size + t209.size ≤ 9223372036854775807 then (if ((((⟨#[91]⟩ : ByteArray) ++ t207) ++ (⟨#[32, 38, 38, 32]⟩ : ByteArray)) ++ t209).size + 1 ≤ 9223372036854775807 then (some (((((⟨#[91]⟩ : ByteArray) ++ t207) ++ (⟨#[32, 38, 38, 32]⟩ : ByteArray)) ++ t209) ++ (⟨#[93]⟩ : ByteArray))) else (none)) else (none)) = some r := H
                            have A57 := Aside0.mk A570
                            clear A570
                            by_cases c58 : (((⟨#[91]⟩ : ByteArray) ++ t207) ++ (⟨#[32, 38, 38, 32]⟩ : ByteArray)).size + t209.size ≤ 9223372036854775807
                            · rw [if_pos c58] at H
                              have c58b0 := eq_true c58
                              have c58b1 : decide ((((⟨#[91]⟩ : ByteArray) ++ t207) ++ (⟨#[32, 38, 38, 32]⟩ : ByteArray)).size + t209.size ≤ 9223372036854775807) = true := decide_eq_true c58
                              try have c58b2 : (9223372036854775807 < (((⟨#[91]⟩ : ByteArray) ++ t207) ++ (⟨#[32, 38, 38, 32]⟩ : ByteArray)).size + t209.size) = False := eq_false (Nat.not_lt.2 c58)
                              try have c58b3 := c58b2
                              try simp only [ByteArray.size_append, szl16, List.size_toArray, List.length_cons, List.length_nil, Nat.zero_add, Nat.reduceAdd] at c58b3
                              by_cases c59 : ((((⟨#[91]⟩ : ByteArray) ++ t207) ++ (⟨#[32, 38, 38, 32]⟩ : ByteArray)) ++ t209).size + 1 ≤ 9223372036854775807
                              · rw [if_pos c59] at H
                                have c59b0 := eq_true c59
                                have c59b1 : decide (((((⟨#[91]⟩ : ByteArray) ++ t207) ++ (⟨#[32, 38, 38, 32]⟩ : ByteArray)) ++ t209).size + 1 ≤ 9223372036854775807) = true := decide_eq_true c59
                                try have c59b2 : (9223372036854775807 < ((((⟨#[91]⟩ : ByteArray) ++ t207) ++ (⟨#[32, 38, 38, 32]⟩ : ByteArray)) ++ t209).size + 1) = False := eq_false (Nat.not_lt.2 c59)
                                try have c59b3 := c59b2
                                try simp only [ByteArray.size_append, szl16, List.size_toArray, List.length_cons, List.length_nil, Nat.zero_add, Nat.reduceAdd] at c59b3
                                obtain rfl := Option.some.inj H
                                try go_wp2
                                have n0_ := Aside0.mk (blk_drew BK192.out)
                                have n1_ := Aside0.mk (below_drew1 HB.out)
                                clear BK192
                                clear HB
                                have BK192 := n0_
                                have HB := n1_
                                clear n0_ n1_
                                have p206 : 0 ≤ (0 : Int) := (by omega)
                                have q206 : 0 < (l0_3.length : Int) := of_decide_eq_true (by first | (with_reducible assumption) | assumption)
                                obtain ⟨ad206, A206_2, c206_2, A206_3, c206_3, e206, hx206_0, hx206_1, hx206_2, hx206_3, hl206_2, hi206_2, hl206_3, hi206_3⟩ := at_T33 HR0_3.out 0 p206 q206
                                have hw206_3 := hx206_3
                                (try rw [show ((0 : Int)).toNat = 0 from rfl] at hw206_3)
                                (try rw [show 0 * 4 = 0 from rfl] at hw206_3)
                                (try rw [Addr.add_zero'] at hw206_3)
                                have hw206_2 := hx206_2
                                (try rw [show ((0 : Int)).toNat = 0 from rfl] at hw206_2)
                                (try rw [show 0 * 4 = 0 from rfl] at hw206_2)
                                (try rw [Addr.add_zero'] at hw206_2)
                                have hw206_1 := hx206_1
                                (try rw [show ((0 : Int)).toNat = 0 from rfl] at hw206_1)
                                (try rw [show 0 * 4 = 0 from rfl] at hw206_1)
                                (try rw [Addr.add_zero'] at hw206_1)
                                have hw206_0 := hx206_0
                                (try rw [show ((0 : Int)).toNat = 0 from rfl] at hw206_0)
                                (try rw [show 0 * 4 = 0 from rfl] at hw206_0)
                                (try rw [Addr.add_zero'] at hw206_0)
                                cases e206
                                have qi206 : (0 < l0_3.length) = True := eq_true (by omega)
                                (try rw [show ((0 : Int)).toNat = 0 from rfl] at hx206_0)
                                (try rw [show 0 * 4 = 0 from rfl] at hx206_0)
                                (try rw [Addr.add_zero'] at hx206_0)
                                (try rw [show ((0 : Int)).toNat = 0 from rfl] at hx206_1)
                                (try rw [show 0 * 4 = 0 from rfl] at hx206_1)
                                (try rw [Addr.add_zero'] at hx206_1)
                                (try rw [show ((0 : Int)).toNat = 0 from rfl] at hx206_2)
                                (try rw [show 0 * 4 = 0 from rfl] at hx206_2)
                                (try rw [Addr.add_zero'] at hx206_2)
                                (try rw [show ((0 : Int)).toNat = 0 from rfl] at hx206_3)
                                (try rw [show 0 * 4 = 0 from rfl] at hx206_3)
                                (try rw [Addr.add_zero'] at hx206_3)
                                replace hx206_0 := (HB.out.cell (World.block_lt_of_cell? w _ hx206_0)).trans hx206_0
                                replace hx206_1 := (HB.out.cell (World.block_lt_of_cell? w _ hx206_1)).trans hx206_1
                                replace hx206_2 := (HB.out.cell (World.block_lt_of_cell? w _ hx206_2)).trans hx206_2
                                replace hx206_3 := (HB.out.cell (World.block_lt_of_cell? w _ hx206_3)).trans hx206_3
                                have HR206_2 := Aside0.mk hi206_2
                                have HC206_2 := Aside0.mk hl206_2
                                clear hi206_2 hl206_2
                                have HR206_3 := Aside0.mk hi206_3
                                have HC206_3 := Aside0.mk hl206_3
                                clear hi206_3 hl206_3
                                replace p206 := eq_true p206
                                replace q206 := eq_true q206
                                have p208 : 0 ≤ (1 : Int) := (by omega)
                                have q208 : 1 < (l0_3.length : Int) := of_decide_eq_true (by first | (with_reducible assumption) | assumption)
                                obtain ⟨ad208, A208_2, c208_2, A208_3, c208_3, e208, hx208_0, hx208_1, hx208_2, hx208_3, hl208_2, hi208_2, hl208_3, hi208_3⟩ := at_T33 HR0_3.out 1 p208 q208
                                have hw208_3 := hx208_3
                                (try rw [show ((1 : Int)).toNat = 1 from rfl] at hw208_3)
                                (try rw [show 1 * 4 = 4 from rfl] at hw208_3)
                                (try simp only [Nat.reduceMul, Nat.reduceEqDiff, Go.Addr.add, ↓reduceIte] at hw208_3)
                                have hw208_2 := hx208_2
                                (try rw [show ((1 : Int)).toNat = 1 from rfl] at hw208_2)
                                (try rw [show 1 * 4 = 4 from rfl] at hw208_2)
                                (try simp only [Nat.reduceMul, Nat.reduceEqDiff, Go.Addr.add, ↓reduceIte] at hw208_2)
                                have hw208_1 := hx208_1
                                (try rw [show ((1 : Int)).toNat = 1 from rfl] at hw208_1)
                                (try rw [show 1 * 4 = 4 from rfl] at hw208_1)
                                (try simp only [Nat.reduceMul, Nat.reduceEqDiff, Go.Addr.add, ↓reduceIte] at hw208_1)
                                have hw208_0 := hx208_0
                                (try rw [show ((1 : Int)).toNat = 1 from rfl] at hw208_0)
                                (try rw [show 1 * 4 = 4 from rfl] at hw208_0)
                                (try simp only [Nat.reduceMul, Nat.reduceEqDiff, Go.Addr.add, ↓reduceIte] at hw208_0)
                                obtain rfl : ad206 = ad208 := (by injection e208)
                                (try simp only [show (1 : Int).toNat = 1 from rfl, Nat.reduceMul, Nat.reduceEqDiff, Go.Addr.add, ↓reduceIte] at hx208_0)
                                (try simp only [show (1 : Int).toNat = 1 from rfl, Nat.reduceMul, Nat.reduceEqDiff, Go.Addr.add, ↓reduceIte] at hx208_1)
                                (try simp only [show (1 : Int).toNat = 1 from rfl, Nat.reduceMul, Nat.reduceEqDiff, Go.Addr.add, ↓reduceIte] at hx208_2)
                                (try simp only [show (1 : Int).toNat = 1 from rfl, Nat.reduceMul, Nat.reduceEqDiff, Go.Addr.add, ↓reduceIte] at hx208_3)
                                have qi208 : (1 < l0_3.length) = True := eq_true (by omega)
                                (try rw [show ((1 : Int)).toNat = 1 from rfl] at hx208_0)
                                (try rw [show 1 * 4 = 4 from rfl] at hx208_0)
                                (try rw [show ((1 : Int)).toNat = 1 from rfl] at hx208_1)
                                (try rw [show 1 * 4 = 4 from rfl] at hx208_1)
                                (try rw [show ((1 : Int)).toNat = 1 from rfl] at hx208_2)
                                (try rw [show 1 * 4 = 4 from rfl] at hx208_2)
                                (try rw [show ((1 : Int)).toNat = 1 from rfl] at hx208_3)
                                (try rw [show 1 * 4 = 4 from rfl] at hx208_3)
                                replace hx208_0 := (HB.out.cell (World.block_lt_of_cell? w _ hx208_0)).trans hx208_0
                                replace hx208_1 := (HB.out.cell (World.block_lt_of_cell? w _ hx208_1)).trans hx208_1
                                replace hx208_2 := (HB.out.cell (World.block_lt_of_cell? w _ hx208_2)).trans hx208_2
                                replace hx208_3 := (HB.out.cell (World.block_lt_of_cell? w _ hx208_3)).trans hx208_3
                                have HR208_2 := Aside0.mk hi208_2
                                have HC208_2 := Aside0.mk hl208_2
                                clear hi208_2 hl208_2
                                have HR208_3 := Aside0.mk hi208_3
                                have HC208_3 := Aside0.mk hl208_3
                                clear hi208_3 hl208_3
                                replace p208 := eq_true p208
                                replace q208 := eq_true q208
                                refine start_ (n := 15) (S := fun w' => w'.cell? ⟨gb192, 0, none⟩ = some (.int .i64 a0_0) ∧ w'.cell? ⟨gb192, 1, none⟩ = some (.int .i64 a0_1) ∧ w'.cell? ⟨gb192, 2, none⟩ = some (.slice A0_2 l0_2.length c0_2) ∧ w'.cell? ⟨gb192, 3, none⟩ = some (.slice (some ad206) l0_3.length c0_3) ∧ w'.cell? ad206 = some (.int .i64 ((rd_T33 l0_3 0).f0)) ∧ w'.cell? ⟨ad206.block, ad206.off + 1, none⟩ = some (.int .i64 ((rd_T33 l0_3 0).f1)) ∧ w'.cell? ⟨ad206.block, ad206.off + 2, none⟩ = some (.slice A206_2 ((rd_T33 l0_3 0).f2).length c206_2) ∧ w'.cell? ⟨ad206.block, ad206.off + 3, none⟩ = some (.slice A206_3 ((rd_T33 l0_3 0).f3).length c206_3) ∧ w'.cell? ⟨ad206.block, ad206.off + 4, none⟩ = some (.int .i64 ((rd_T33 l0_3 1).f0)) ∧ w'.cell? ⟨ad206.block, ad206.off + 4 + 1, none⟩ = some (.int .i64 ((rd_T33 l0_3 1).f1)) ∧ w'.cell? ⟨ad206.block, ad206.off + 4 + 2, none⟩ = some (.slice A208_2 ((rd_T33 l0_3 1).f2).length c208_2) ∧ w'.cell? ⟨ad206.block, ad206.off + 4 + 3, none⟩ = some (.slice A208_3 ((rd_T33 l0_3 1).f3).length c208_3)) (ds := []) #[false, false, false, false, false, false, false, false, false, false, false, false, false, false, false] (by kernel_rfl) rfl rfl ⟨(blk_cell BK192.out 0).trans rfl, (blk_cell BK192.out 1).trans rfl, (blk_cell BK192.out 2).trans rfl, (blk_cell BK192.out 3).trans rfl, ((HB.out.cell (World.block_lt_of_cell? w _ hw206_0)).trans hw206_0), ((HB.out.cell (World.block_lt_of_cell? w _ hw206_1)).trans hw206_1), ((HB.out.cell (World.block_lt_of_cell? w _ hw206_2)).trans hw206_2), ((HB.out.cell (World.block_lt_of_cell? w _ hw206_3)).trans hw206_3), ((HB.out.cell (World.block_lt_of_cell? w _ hw208_0)).trans hw208_0), ((HB.out.cell (World.block_lt_of_cell? w _ hw208_1)).trans hw208_1), ((HB.out.cell (World.block_lt_of_cell? w _ hw208_2)).trans hw208_2), ((HB.out.cell (World.block_lt_of_cell? w _ hw208_3)).trans hw208_3)⟩ (fun hHeld => ?_); refine with_tabW meddlerref6_Cond.tab8 meddlerref6_Cond.bits8 (fun HT_ HW_ => ?_)
                                generalize wc.drew = w60 at BK192 HB HR206_2 HR206_3 HR208_2 HR208_3 hx206_0 hx206_1 hx206_2 hx206_3 hx208_0 hx208_1 hx208_2 hx208_3 hHeld ⊢
                                refine pure_ (i := 0) (N := some 82) (v := ?_) (a' := ?_) #[true, false, false, false, false, false, false, false, false, false, false, false, false, false, false] rfl rfl (any_of HT_.out (by kernel_rfl)) (fun _ _ _ h => h) (Or.inl ⟨by rfl, ?_⟩) ?_ ?_
                                rotate_left
                                · intro w'
                                  go_simp
                                  with_reducible rfl
                                rotate_left
                                · simp only [Act.put, List.setIfInBounds_toArray, List.set_cons_zero, List.set_cons_succ, i64_w, i32_w]
                                  rfl
                                refine pure_ (i := 7) (N := some 89) (v := ?_) (a' := ?_) #[true, false, false, false, false, false, false, true, false, false, false, false, false, false, false] rfl rfl (any_of HT_.out (by kernel_rfl)) (fun _ _ _ h => h) (Or.inl ⟨by rfl, ?_⟩) ?_ ?_
                                rotate_left
                                · intro w'
                                  go_simp
                                  with_reducible rfl
                                rotate_left
                                · simp only [Act.put, List.setIfInBounds_toArray, List.set_cons_zero, List.set_cons_succ, i64_w, i32_w]
                                  rfl
                                refine take_ (i := 1) (N := some 83) (v := ?_) (a' := ?_) #[true, true, false, false, false, false, false, true, false, false, false, false, false, false, false] rfl rfl (take_ofW HT_.out HW_.out (by kernel_rfl)) (fun _ _ _ h => h) (Or.inl ⟨by rfl, ?_⟩) hHeld ?_ ?_
                                rotate_left
                                · rintro w' ⟨s0, s1, s2, s3, s4, s5, s6, s7, s8, s9, s10, s11⟩
                                  go_simp
                                  with_reducible rfl
                                rotate_left
                                · simp only [Act.put, List.setIfInBounds_toArray, List.set_cons_zero, List.set_cons_succ, i64_w, i32_w]
                                  rfl
                                refine pure_ (i := 2) (N := some 84) (v := ?_) (a' := ?_) #[true, true, true, false, false, false, false, true, false, false, false, false, false, false, false] rfl rfl (any_of HT_.out (by kernel_rfl)) (fun _ _ _ h => h) (Or.inl ⟨by rfl, ?_⟩) ?_ ?_
                                rotate_left
                                · intro w'
                                  go_simp
                                  with_reducible rfl
                                rotate_left
                                · simp only [Act.put, List.setIfInBounds_toArray, List.set_cons_zero, List.set_cons_succ, i64_w, i32_w]
                                  rfl
                                refine take_ (i := 3) (N := some 85) (v := ?_) (a' := ?_) #[true, true, true, true, false, false, false, true, false, false, false, false, false, false, false] rfl rfl (take_ofW HT_.out HW_.out (by kernel_rfl)) (fun _ _ _ h => h) (Or.inl ⟨by rfl, ?_⟩) hHeld ?_ ?_
                                rotate_left
                                · rintro w' ⟨s0, s1, s2, s3, s4, s5, s6, s7, s8, s9, s10, s11⟩
                                  go_simp
                                  with_reducible rfl
                                rotate_left
                                · simp only [Act.put, List.setIfInBounds_toArray, List.set_cons_zero, List.set_cons_succ, i64_w, i32_w]
                                  rfl
                                refine take_ (i := 8) (N := some 90) (v := ?_) (a' := ?_) #[true, true, true, true, false, false, false, true, true, false, false, false, false, false, false] rfl rfl (take_ofW HT_.out HW_.out (by kernel_rfl)) (fun _ _ _ h => h) (Or.inl ⟨by rfl, ?_⟩) hHeld ?_ ?_
                                rotate_left
                                · rintro w' ⟨s0, s1, s2, s3, s4, s5, s6, s7, s8, s9, s10, s11⟩
                                  go_simp
                                  with_reducible rfl
                                rotate_left
                                · simp only [Act.put, List.setIfInBounds_toArray, List.set_cons_zero, List.set_cons_succ, i64_w, i32_w]
                                  rfl
                                refine pure_ (i := 9) (N := some 91) (v := ?_) (a' := ?_) #[true, true, true, true, false, false, false, true, true, true, false, false, false, false, false] rfl rfl (any_of HT_.out (by kernel_rfl)) (fun _ _ _ h => h) (Or.inl ⟨by rfl, ?_⟩) ?_ ?_
                                rotate_left
                                · intro w'
                                  go_simp
                                  with_reducible rfl
                                rotate_left
                                · simp only [Act.put, List.setIfInBounds_toArray, List.set_cons_zero, List.set_cons_succ, i64_w, i32_w]
                                  rfl
                                refine take_ (i := 10) (N := some 92) (v := ?_) (a' := ?_) #[true, true, true, true, false, false, false, true, true, true, true, false, false, false, false] rfl rfl (take_ofW HT_.out HW_.out (by kernel_rfl)) (fun _ _ _ h => h) (Or.inl ⟨by rfl, ?_⟩) hHeld ?_ ?_
                                rotate_left
                                · rintro w' ⟨s0, s1, s2, s3, s4, s5, s6, s7, s8, s9, s10, s11⟩
                                  go_simp
                                  with_reducible rfl
                                rotate_left
                                · simp only [Act.put, List.setIfInBounds_toArray, List.set_cons_zero, List.set_cons_succ, i64_w, i32_w]
                                  rfl
                                refine one_ (i := 4) (N := some 86) #[true, true, true, true, true, false, false, true, true, true, true, false, false, false, false] rfl rfl (one_of HT_.out (by kernel_rfl)) (by decide) (fun K hK => ?_)
                                refine goes_ Tryd.func16 (by kernel_rfl) rfl #[.agg #[.int .i64 ((rd_T33 l0_3 0).f0), .int .i64 ((rd_T33 l0_3 0).f1), .slice A206_2 ((rd_T33 l0_3 0).f2).length c206_2, .slice A206_3 ((rd_T33 l0_3 0).f3).length c206_3]] (by rfl) rfl rfl (by (try simp only [List.map_toArray, List.map_cons, List.map_nil]); first | done | rfl | (simp only [List.length_drop, List.length_take]; rfl)) ?_
                                with_reducible refine (ih kj46 (by have := HJ1.out; have := HJ30.out; have := HJ46.out; omega) ((rd_T33 l0_3 0).f0) ((rd_T33 l0_3 0).f1) _ _ ((rd_T33 l0_3 0).f2) _ _ ((rd_T33 l0_3 0).f3) t207 _ ?side1 ?side2 ?side3 ?side4 A53.out).mono ?_
                                (case side1 => repeat (first | exact (Kd.C_below HR206_2.out HB.out) | (with_reducible refine Kd.C_alloc ?_ _) | (with_reducible refine Kd.C_drewN ?_ _) | (with_reducible refine Kd.C_drew ?_)))
                                (case side2 => exact HC206_2.out)
                                (case side3 => repeat (first | exact (Kd.C_below HR206_3.out HB.out) | (with_reducible refine Kd.C_alloc ?_ _) | (with_reducible refine Kd.C_drewN ?_ _) | (with_reducible refine Kd.C_drew ?_)))
                                (case side4 => exact HC206_3.out)
                                rintro e w61 ⟨rfl, hb⟩
                                refine ⟨_, rfl, ?_⟩
                                have n0_ := Aside0.mk (blk_below (g := gb192) (o := .cells #[.int .i64 a0_0, .int .i64 a0_1, .slice A0_2 l0_2.length c0_2, .slice (some ad206) l0_3.length c0_3] 33 (0, 0)) (by (with_reducible repeat (first | refine blk_drewN ?_ _ | refine blk_drew ?_ | refine blk_alloc ?_ _)); exact BK192.out) hb)
                                have n1_ := Aside0.mk (below_step (by repeat (first | (with_reducible first | exact HB.out | apply below_alloc | apply pw_below_drewN | apply below_drew1 | refine below_set ?_ GE192.out) | exact HB.out)) hb)
                                clear BK192
                                clear HB
                                have BK192 := n0_
                                have HB := n1_
                                clear n0_ n1_
                                (try clear hb)
                                (try clear hb2)
                                (try clear hk)
                                (try clear hi)
                                refine hK.out _ _ ⟨(blk_cell BK192.out 0).trans rfl, (blk_cell BK192.out 1).trans rfl, (blk_cell BK192.out 2).trans rfl, (blk_cell BK192.out 3).trans rfl, ((HB.out.cell (World.block_lt_of_cell? w _ hw206_0)).trans hw206_0), ((HB.out.cell (World.block_lt_of_cell? w _ hw206_1)).trans hw206_1), ((HB.out.cell (World.block_lt_of_cell? w _ hw206_2)).trans hw206_2), ((HB.out.cell (World.block_lt_of_cell? w _ hw206_3)).trans hw206_3), ((HB.out.cell (World.block_lt_of_cell? w _ hw208_0)).trans hw208_0), ((HB.out.cell (World.block_lt_of_cell? w _ hw208_1)).trans hw208_1), ((HB.out.cell (World.block_lt_of_cell? w _ hw208_2)).trans hw208_2), ((HB.out.cell (World.block_lt_of_cell? w _ hw208_3)).trans hw208_3)⟩ (fun hHeld => ?_)
                                clear hK K
                                refine norm_ (a' := ?_) ?_ ?_
                                rotate_left
                                · show Act.put _ (some 86) _ = _
                                  simp only [Act.put, List.setIfInBounds_toArray, List.set_cons_zero, List.set_cons_succ, i64_w, i32_w]
                                  rfl
                                refine pure_ (i := 5) (N := some 87) (v := ?_) (a' := ?_) #[true, true, true, true, true, true, false, true, true, true, true, false, false, false, false] rfl rfl (any_of HT_.out (by kernel_rfl)) (fun _ _ _ h => h) (Or.inl ⟨by rfl, ?_⟩) ?_ ?_
                                rotate_left
                                · intro w'
                                  go_simp
                                  with_reducible rfl
                                rotate_left
                                · simp only [Act.put, List.setIfInBounds_toArray, List.set_cons_zero, List.set_cons_succ, i64_w, i32_w]
                                  rfl
                                refine pure_ (i := 6) (N := some 88) (v := ?_) (a' := ?_) #[true, true, true, true, true, true, true, true, true, true, true, false, false, false, false] rfl rfl (any_of HT_.out (by kernel_rfl)) (fun _ _ _ h => h) (Or.inl ⟨by rfl, ?_⟩) ?_ ?_
                                rotate_left
                                · intro w'
                                  go_simp
                                  with_reducible rfl
                                rotate_left
                                · simp only [Act.put, List.setIfInBounds_toArray, List.set_cons_zero, List.set_cons_succ, i64_w, i32_w]
                                  rfl
                                refine one_ (i := 11) (N := some 93) #[true, true, true, true, true, true, true, true, true, true, true, true, false, false, false] rfl rfl (one_of HT_.out (by kernel_rfl)) (by decide) (fun K hK => ?_)
                                refine goes_ Tryd.func16 (by kernel_rfl) rfl #[.agg #[.int .i64 ((rd_T33 l0_3 1).f0), .int .i64 ((rd_T33 l0_3 1).f1), .slice A208_2 ((rd_T33 l0_3 1).f2).length c208_2, .slice A208_3 ((rd_T33 l0_3 1).f3).length c208_3]] (by rfl) rfl rfl (by (try simp only [List.map_toArray, List.map_cons, List.map_nil]); first | done | rfl | (simp only [List.length_drop, List.length_take]; rfl)) ?_
                                with_reducible refine (ih kj46 (by have := HJ1.out; have := HJ30.out; have := HJ46.out; omega) ((rd_T33 l0_3 1).f0) ((rd_T33 l0_3 1).f1) _ _ ((rd_T33 l0_3 1).f2) _ _ ((rd_T33 l0_3 1).f3) t209 _ ?side1 ?side2 ?side3 ?side4 A57.out).mono ?_
                                (case side1 => repeat (first | exact (Kd.C_below HR208_2.out HB.out) | (with_reducible refine Kd.C_alloc ?_ _) | (with_reducible refine Kd.C_drewN ?_ _) | (with_reducible refine Kd.C_drew ?_)))
                                (case side2 => exact HC208_2.out)
                                (case side3 => repeat (first | exact (Kd.C_below HR208_3.out HB.out) | (with_reducible refine Kd.C_alloc ?_ _) | (with_reducible refine Kd.C_drewN ?_ _) | (with_reducible refine Kd.C_drew ?_)))
                                (case side4 => exact HC208_3.out)
                                rintro e w62 ⟨rfl, hb⟩
                                refine ⟨_, rfl, ?_⟩
                                have n0_ := Aside0.mk (blk_below (g := gb192) (o := .cells #[.int .i64 a0_0, .int .i64 a0_1, .slice A0_2 l0_2.length c0_2, .slice (some ad206) l0_3.length c0_3] 33 (0, 0)) (by (with_reducible repeat (first | refine blk_drewN ?_ _ | refine blk_drew ?_ | refine blk_alloc ?_ _)); exact BK192.out) hb)
                                have n1_ := Aside0.mk (below_step (by repeat (first | (with_reducible first | exact HB.out | apply below_alloc | apply pw_below_drewN | apply below_drew1 | refine below_set ?_ GE192.out) | exact HB.out)) hb)
                                clear BK192
                                clear HB
                                have BK192 := n0_
                                have HB := n1_
                                clear n0_ n1_
                                (try clear hb)
                                (try clear hb2)
                                (try clear hk)
                                (try clear hi)
                                refine hK.out _ _ ⟨(blk_cell BK192.out 0).trans rfl, (blk_cell BK192.out 1).trans rfl, (blk_cell BK192.out 2).trans rfl, (blk_cell BK192.out 3).trans rfl, ((HB.out.cell (World.block_lt_of_cell? w _ hw206_0)).trans hw206_0), ((HB.out.cell (World.block_lt_of_cell? w _ hw206_1)).trans hw206_1), ((HB.out.cell (World.block_lt_of_cell? w _ hw206_2)).trans hw206_2), ((HB.out.cell (World.block_lt_of_cell? w _ hw206_3)).trans hw206_3), ((HB.out.cell (World.block_lt_of_cell? w _ hw208_0)).trans hw208_0), ((HB.out.cell (World.block_lt_of_cell? w _ hw208_1)).trans hw208_1), ((HB.out.cell (World.block_lt_of_cell? w _ hw208_2)).trans hw208_2), ((HB.out.cell (World.block_lt_of_cell? w _ hw208_3)).trans hw208_3)⟩ (fun hHeld => ?_)
                                clear hK K
                                refine norm_ (a' := ?_) ?_ ?_
                                rotate_left
                                · show Act.put _ (some 93) _ = _
                                  simp only [Act.put, List.setIfInBounds_toArray, List.set_cons_zero, List.set_cons_succ, i64_w, i32_w]
                                  rfl
                                refine pure_ (i := 12) (N := some 94) (v := ?_) (a' := ?_) #[true, true, true, true, true, true, true, true, true, true, true, true, true, false, false] rfl rfl (any_of HT_.out (by kernel_rfl)) (fun _ _ _ h => h) (Or.inl ⟨by rfl, ?_⟩) ?_ ?_
                                rotate_left
                                · intro w'
                                  go_simp
                                  with_reducible rfl
                                rotate_left
                                · simp only [Act.put, List.setIfInBounds_toArray, List.set_cons_zero, List.set_cons_succ, i64_w, i32_w]
                                  rfl
                                refine pure_ (i := 13) (N := some 95) (v := ?_) (a' := ?_) #[true, true, true, true, true, true, true, true, true, true, true, true, true, true, false] rfl rfl (any_of HT_.out (by kernel_rfl)) (fun _ _ _ h => h) (Or.inl ⟨by rfl, ?_⟩) ?_ ?_
                                rotate_left
                                · intro w'
                                  go_simp
                                  with_reducible rfl
                                rotate_left
                                · simp only [Act.put, List.setIfInBounds_toArray, List.set_cons_zero, List.set_cons_succ, i64_w, i32_w]
                                  rfl
                                refine pure_ (i := 14) (N := some 2) (v := ?_) (a' := ?_) #[true, true, true, true, true, true, true, true, true, true, true, true, true, true, true] rfl rfl (any_of HT_.out (by kernel_rfl)) (fun _ _ _ h => h) (Or.inl ⟨by rfl, ?_⟩) ?_ ?_
                                rotate_left
                                · intro w'
                                  go_simp
                                  with_reducible rfl
                                rotate_left
                                · simp only [Act.put, List.setIfInBounds_toArray, List.set_cons_zero, List.set_cons_succ, i64_w, i32_w]
                                  rfl
                                refine done_ (done_of HT_.out (by kernel_rfl)) ?_
                                try go_wp2
                                go_ret
                                exact ⟨by first | rfl | (simp [errW_none, errW_some] <;> rfl) | (simp [*, errW_none, errW_some] <;> rfl), by repeat (first | (with_reducible first | exact HB.out | apply below_alloc | apply pw_below_drewN | apply below_drew1 | refine below_set ?_ GE192.out) | exact HB.out)⟩
                              · rw [if_neg c59] at H
                                exact absurd H (by simp)
                            · rw [if_neg c58] at H
                              exact absurd H (by simp)
                          · rw [if_neg c56] at H
                            exact absurd H (by simp)
                        · rw [if_neg c55] at H
                          exact absurd H (by simp)
                      · rw [if_neg c54] at H
                        exact absurd H (by simp)
                    · rw [if_neg c52] at H
                      exact absurd H (by simp)
                  · replace c51 := Bool.eq_false_iff.mpr c51
                    subst c51
                    have H1 : (if a0_0 = 4 then (meddlerref6_Cond.j3 kj46 (decide ((l0_3.length : Int) > 1)) a0_0 a0_1 l0_2 l0_3) else (meddlerref6_Cond.j3 kj46 false a0_0 a0_1 l0_2 l0_3)) = some r := by rw [if_neg (show ¬ (false = true) by decide)] at H; exact H
                    clear H
                    have H := H1
                    clear H1
                    have HC63 := Aside0.mk H
                    clear H
                    go_upto_region 9 with (fail)
                    go_cut [96] (fun v96 wc => ∃ (kq : Nat) (x96_62 : Bool), v96 = .bool x96_62 ∧ Aside0 (meddlerref6_Cond.j3 kq x96_62 a0_0 a0_1 l0_2 l0_3 = some r) ∧ Aside0 (kq ≤ kj46) ∧ Aside0 (wc.heap[gb192]? = some (.cells #[.int .i64 a0_0, .int .i64 a0_1, (.slice A0_2 l0_2.length c0_2), (.slice A0_3 l0_3.length c0_3)] 33 (0, 0))) ∧ Aside0 (Below w.heap.size w wc))
                    case first =>
                      have H := HC63.out
                      clear HC63
                      by_cases c64 : a0_0 = 4
                      · rw [if_pos c64] at H
                        have c64b0 : (a0_0 == 4) = true := beq_iff_eq.mpr c64
                        have c64b1 : (a0_0 != 4) = false := bne_eq_false_iff_eq.mpr c64
                        clear c64
                        (first | rw [c64b0] | (simp only [i64_w, i32_w]; rw [c64b0]) | skip)
                        have H' := Aside0.mk H
                        clear H
                        have hcz65_0 : wc.cell? ⟨gb192, 0, none⟩ = some (.int .i64 a0_0) := (blk_cell BK192.out 0).trans rfl
                        have hcz65_1 : wc.cell? ⟨gb192, 1, none⟩ = some (.int .i64 a0_1) := (blk_cell BK192.out 1).trans rfl
                        have hcz65_2 : wc.cell? ⟨gb192, 2, none⟩ = some (.slice A0_2 l0_2.length c0_2) := (blk_cell BK192.out 2).trans rfl
                        have hcz65_3 : wc.cell? ⟨gb192, 3, none⟩ = some (.slice A0_3 l0_3.length c0_3) := (blk_cell BK192.out 3).trans rfl
                        have hfz65_0 := blk_frozen BK192.out 0
                        have hfz65_1 := blk_frozen BK192.out 1
                        have hfz65_2 := blk_frozen BK192.out 2
                        have hfz65_3 := blk_frozen BK192.out 3
                        go_wp2
                        go_meet
                        case rel => exact ⟨_, (decide ((l0_3.length : Int) > 1)), (by first | rfl | (simp; done) | (simp [*]; done)), H', ⟨by have := HJ1.out; have := HJ30.out; have := HJ46.out; first | omega | exact Nat.le_refl _⟩, ⟨by (with_reducible repeat (first | refine blk_drewN ?_ _ | refine blk_drew ?_ | refine blk_alloc ?_ _)); exact BK192.out⟩, ⟨by repeat (first | (with_reducible first | exact HB.out | apply below_alloc | apply pw_below_drewN | apply below_drew1 | refine below_set ?_ GE192.out) | exact HB.out)⟩⟩
                      · rw [if_neg c64] at H
                        have c64b0 : (a0_0 == 4) = false := beq_eq_false_iff_ne.mpr c64
                        have c64b1 : (a0_0 != 4) = true := bne_iff_ne.mpr c64
                        (first | rw [c64b0] | (simp only [i64_w, i32_w]; rw [c64b0]) | skip)
                        have H' := Aside0.mk H
                        clear H
                        have hcz66_0 : wc.cell? ⟨gb192, 0, none⟩ = some (.int .i64 a0_0) := (blk_cell BK192.out 0).trans rfl
                        have hcz66_1 : wc.cell? ⟨gb192, 1, none⟩ = some (.int .i64 a0_1) := (blk_cell BK192.out 1).trans rfl
                        have hcz66_2 : wc.cell? ⟨gb192, 2, none⟩ = some (.slice A0_2 l0_2.length c0_2) := (blk_cell BK192.out 2).trans rfl
                        have hcz66_3 : wc.cell? ⟨gb192, 3, none⟩ = some (.slice A0_3 l0_3.length c0_3) := (blk_cell BK192.out 3).trans rfl
                        have hfz66_0 := blk_frozen BK192.out 0
                        have hfz66_1 := blk_frozen BK192.out 1
                        have hfz66_2 := blk_frozen BK192.out 2
                        have hfz66_3 := blk_frozen BK192.out 3
                        go_wp2
                        go_meet
                        case rel => exact ⟨_, (false), (by first | rfl | (simp; done) | (simp [*]; done)), H', ⟨by have := HJ1.out; have := HJ30.out; have := HJ46.out; first | omega | exact Nat.le_refl _⟩, ⟨by (with_reducible repeat (first | refine blk_drewN ?_ _ | refine blk_drew ?_ | refine blk_alloc ?_ _)); exact BK192.out⟩, ⟨by repeat (first | (with_reducible first | exact HB.out | apply below_alloc | apply pw_below_drewN | apply below_drew1 | refine below_set ?_ GE192.out) | exact HB.out)⟩⟩
                    case rest =>
                      clear HC63
                      try clear c1
                      try clear p1
                      try clear q1
                      try clear hx1
                      try clear qi1
                      try clear c2
                      try clear p2
                      try clear q2
                      try clear hx2
                      try clear qi2
                      try clear c3
                      try clear c4
                      try clear c5
                      try clear c6
                      try clear p6
                      try clear c11
                      try clear c12
                      try clear c14
                      try clear c16
                      try clear c16b0
                      try clear c17
                      try clear c17b0
                      try clear c18
                      try clear c18b0
                      try clear c18b1
                      try clear c18b2
                      try clear c19
                      try clear c19b0
                      try clear c19b1
                      try clear c19b2
                      try clear p19
                      try clear q19
                      try clear hx19
                      try clear qi19
                      try clear c20
                      try clear c20b0
                      try clear c20b1
                      try clear p20
                      try clear q20
                      try clear hx20
                      try clear qi20
                      try clear c22
                      try clear c22b0
                      try clear c22b1
                      try clear c22b2
                      try clear c32
                      try clear c32b0
                      try clear c32b1
                      try clear c35
                      try clear c36
                      try clear c36b0
                      try clear c36b1
                      try clear c37
                      try clear c37b0
                      try clear c37b1
                      try clear c39
                      try clear c39b0
                      try clear c39b1
                      try clear c39b2
                      try clear c40
                      try clear c40b0
                      try clear c40b1
                      try clear c40b2
                      try clear c44
                      try clear c44b0
                      try clear c44b1
                      try clear c44b2
                      try clear c48
                      try clear c48b0
                      try clear c48b1
                      try clear c51
                      try clear c52
                      try clear c52b0
                      try clear c52b1
                      try clear c54
                      try clear c54b0
                      try clear c54b1
                      try clear c54b2
                      try clear c55
                      try clear c55b0
                      try clear c55b1
                      try clear c55b2
                      try clear c56
                      try clear c56b0
                      try clear c56b1
                      try clear c58
                      try clear c58b0
                      try clear c58b1
                      try clear c58b2
                      try clear c59
                      try clear c59b0
                      try clear c59b1
                      try clear c59b2
                      try clear c64
                      try clear c64b0
                      try clear c64b1
                      try clear hcz33_0
                      try clear hcz33_1
                      try clear hcz33_2
                      try clear hcz33_3
                      try clear hcz34_0
                      try clear hcz34_1
                      try clear hcz34_2
                      try clear hcz34_3
                      try clear hcz41_0
                      try clear hcz41_1
                      try clear hcz41_2
                      try clear hcz41_3
                      try clear hcz45_0
                      try clear hcz45_1
                      try clear hcz45_2
                      try clear hcz45_3
                      try clear hcz49_0
                      try clear hcz49_1
                      try clear hcz49_2
                      try clear hcz49_3
                      try clear hcz50_0
                      try clear hcz50_1
                      try clear hcz50_2
                      try clear hcz50_3
                      try clear hcz65_0
                      try clear hcz65_1
                      try clear hcz65_2
                      try clear hcz65_3
                      try clear hcz66_0
                      try clear hcz66_1
                      try clear hcz66_2
                      try clear hcz66_3
                      try clear hfz33_0
                      try clear hfz33_1
                      try clear hfz33_2
                      try clear hfz33_3
                      try clear hfz34_0
                      try clear hfz34_1
                      try clear hfz34_2
                      try clear hfz34_3
                      try clear hfz41_0
                      try clear hfz41_1
                      try clear hfz41_2
                      try clear hfz41_3
                      try clear hfz45_0
                      try clear hfz45_1
                      try clear hfz45_2
                      try clear hfz45_3
                      try clear hfz49_0
                      try clear hfz49_1
                      try clear hfz49_2
                      try clear hfz49_3
                      try clear hfz50_0
                      try clear hfz50_1
                      try clear hfz50_2
                      try clear hfz50_3
                      try clear hfz65_0
                      try clear hfz65_1
                      try clear hfz65_2
                      try clear hfz65_3
                      try clear hfz66_0
                      try clear hfz66_1
                      try clear hfz66_2
                      try clear hfz66_3
                      try clear hx193_0
                      try clear hx193_1
                      try clear hx193_2
                      try clear hx193_3
                      try clear hx193_4
                      try clear hx199_0
                      try clear hx199_1
                      try clear hx199_2
                      try clear hx199_3
                      try clear hx199_4
                      try clear hx201_0
                      try clear hx201_1
                      try clear hx201_2
                      try clear hx201_3
                      try clear hx202_0
                      try clear hx202_1
                      try clear hx202_2
                      try clear hx202_3
                      try clear hx204_0
                      try clear hx204_1
                      try clear hx204_2
                      try clear hx204_3
                      try clear hx206_0
                      try clear hx206_1
                      try clear hx206_2
                      try clear hx206_3
                      try clear hx208_0
                      try clear hx208_1
                      try clear hx208_2
                      try clear hx208_3
                      try clear p1
                      try clear p19
                      try clear p193
                      try clear p199
                      try clear p2
                      try clear p20
                      try clear p201
                      try clear p202
                      try clear p204
                      try clear p206
                      try clear p208
                      try clear p6
                      try clear q1
                      try clear q19
                      try clear q193
                      try clear q199
                      try clear q2
                      try clear q20
                      try clear q201
                      try clear q202
                      try clear q204
                      try clear q206
                      try clear q208
                      obtain ⟨kq, x96_62, rfl, HA, HJ62, BK192, HB⟩ := hcut
                      cases kq with
                      | zero => exact absurd HA.out (by simp [meddlerref6_Cond.j3])
                      | succ kj62 =>
                        have H := HA.out
                        clear HA
                        simp only [meddlerref6_Cond.j3] at H
                        by_cases c67 : x96_62 = true
                        · subst c67
                          have H1 : (if 0 < (l0_3.length : Int) then ((meddlerref6_Cond.f kj62 ((rd_T33 l0_3 0).f0) ((rd_T33 l0_3 0).f1) ((rd_T33 l0_3 0).f2) ((rd_T33 l0_3 0).f3)).bind fun t211 => (if 1 + t211.size ≤ 9223372036854775807 then (if ((⟨#[91]⟩ : ByteArray) ++ t211).size + 4 ≤ 9223372036854775807 then (if 1 < (l0_3.length : Int) then ((meddlerref6_Cond.f kj62 ((rd_T33 l0_3 1).f0) ((rd_T33 l0_3 1).f1) ((rd_T33 l0_3 1).f2) ((rd_T33 l0_3 1).f3)).bind fun t213 => (if (((⟨#[91]⟩ : ByteArray) ++ t211) ++ (⟨#[32, 124, 124, 32]⟩ : ByteArray)).size + t213.size ≤ 9223372036854775807 then (if ((((⟨#[91]⟩ : ByteArray) ++ t211) ++ (⟨#[32, 124, 124, 32]⟩ : ByteArray)) ++ t213).size + 1 ≤ 9223372036854775807 then (some (((((⟨#[91]⟩ : ByteArray) ++ t211) ++ (⟨#[32, 124, 124, 32]⟩ : ByteArray)) ++ t213) ++ (⟨#[93]⟩ : ByteArray))) else (none)) else (none))) else (none)) else (none)) else (none))) else (none)) = some r := by rw [if_pos rfl] at H; exact H
                          clear H
                          have H := H1
                          clear H1
                          by_cases c68 : 0 < (l0_3.length : Int)
                          · rw [if_pos c68] at H
                            have c68b0 : decide (0 < (l0_3.length : Int)) = true := decide_eq_true c68
                            have c68b1 : decide (0 < l0_3.length) = true := decide_eq_true (by omega)
                            clear c68
                            replace H := Option.bind_eq_some_iff.mp H
                            obtain ⟨t211, A690, H⟩ := H
                            replace H : (if 1 + t211.size ≤ 9223372036854775807 then (if ((⟨#[91]⟩ : ByteArray) ++ t211).size + 4 ≤ 9223372036854775807 then (if 1 < (l0_3.length : Int) then ((meddlerref6_Cond.f kj62 ((rd_T33 l0_3 1).f0) ((rd_T33 l0_3 1).f1) ((rd_T33 l0_3 1).f2) ((rd_T33 l0_3 1).f3)).bind fun t213 => (if (((⟨#[91]⟩ : ByteArray) ++ t211) ++ (⟨#[32, 124, 124, 32]⟩ : ByteArray)).size + t213.size ≤ 9223372036854775807 then (if ((((⟨#[91]⟩ : ByteArray) ++ t211) ++ (⟨#[32, 124, 124, 32]⟩ : ByteArray)) ++ t213).size + 1 ≤ 9223372036854775807 then (some (((((⟨#[91]⟩ : ByteArray) ++ t211) ++ (⟨#[32, 124, 124, 32]⟩ : ByteArray)) ++ t213) ++ (⟨#[93]⟩ : ByteArray))) else (none)) else (none))) else (none)) else (none)) else (none)) = some r := H
                            have A69 := Aside0.mk A690
                            clear A690
                            by_cases c70 : 1 + t211.size ≤ 9223372036854775807
                            · rw [if_pos c70] at H
                              have c70b0 := eq_true c70
                              have c70b1 : decide (1 + t211.size ≤ 9223372036854775807) = true := decide_eq_true c70
                              try have c70b2 : (9223372036854775807 < 1 + t211.size) = False := eq_false (Nat.not_lt.2 c70)
                              try have c70b3 := c70b2
                              try simp only [ByteArray.size_append, szl16, List.size_toArray, List.length_cons, List.length_nil, Nat.zero_add, Nat.reduceAdd] at c70b3
                              by_cases c71 : ((⟨#[91]⟩ : ByteArray) ++ t211).size + 4 ≤ 9223372036854775807
                              · rw [if_pos c71] at H
                                have c71b0 := eq_true c71
                                have c71b1 : decide (((⟨#[91]⟩ : ByteArray) ++ t211).size + 4 ≤ 9223372036854775807) = true := decide_eq_true c71
                                try have c71b2 : (9223372036854775807 < ((⟨#[91]⟩ : ByteArray) ++ t211).size + 4) = False := eq_false (Nat.not_lt.2 c71)
                                try have c71b3 := c71b2
                                try simp only [ByteArray.size_append, szl16, List.size_toArray, List.length_cons, List.length_nil, Nat.zero_add, Nat.reduceAdd] at c71b3
                                by_cases c72 : 1 < (l0_3.length : Int)
                                · rw [if_pos c72] at H
                                  have c72b0 : decide (1 < (l0_3.length : Int)) = true := decide_eq_true c72
                                  have c72b1 : decide (1 < l0_3.length) = true := decide_eq_true (by omega)
                                  clear c72
                                  replace H := Option.bind_eq_some_iff.mp H
                                  obtain ⟨t213, A730, H⟩ := H
                                  replace H : (if (((⟨#[91]⟩ : ByteArray) ++ t211) ++ (⟨#[32, 124, 124, 32]⟩ : ByteArray)).size + t213.size ≤ 9223372036854775807 then (if ((((⟨#[91]⟩ : ByteArray) ++ t211) ++ (⟨#[32, 124, 124, 32]⟩ : ByteArray)) ++ t213).size + 1 ≤ 9223372036854775807 then (some (((((⟨#[91]⟩ : ByteArray) ++ t211) ++ (⟨#[32, 124, 124, 32]⟩ : ByteArray)) ++ t213) ++ (⟨#[93]⟩ : ByteArray))) else (none)) else (none)) = some r := H
                                  have A73 := Aside0.mk A730
                                  clear A730
                                  by_cases c74 : (((⟨#[91]⟩ : ByteArray) ++ t211) ++ (⟨#[32, 124, 124, 32]⟩ : ByteArray)).size + t213.size ≤ 9223372036854775807
                                  · rw [if_pos c74] at H
                                    have c74b0 := eq_true c74
                                    have c74b1 : decide ((((⟨#[91]⟩ : ByteArray) ++ t211) ++ (⟨#[32, 124, 124, 32]⟩ : ByteArray)).size + t213.size ≤ 9223372036854775807) = true := decide_eq_true c74
                                    try have c74b2 : (9223372036854775807 < (((⟨#[91]⟩ : ByteArray) ++ t211) ++ (⟨#[32, 124, 124, 32]⟩ : ByteArray)).size + t213.size) = False := eq_false (Nat.not_lt.2 c74)
                                    try have c74b3 := c74b2
                                    try simp only [ByteArray.size_append, szl16, List.size_toArray, List.length_cons, List.length_nil, Nat.zero_add, Nat.reduceAdd] at c74b3
                                    by_cases c75 : ((((⟨#[91]⟩ : ByteArray) ++ t211) ++ (⟨#[32, 124, 124, 32]⟩ : ByteArray)) ++ t213).size + 1 ≤ 9223372036854775807
                                    · rw [if_pos c75] at H
                                      have c75b0 := eq_true c75
                                      have c75b1 : decide (((((⟨#[91]⟩ : ByteArray) ++ t211) ++ (⟨#[32, 124, 124, 32]⟩ : ByteArray)) ++ t213).size + 1 ≤ 9223372036854775807) = true := decide_eq_true c75
                                      try have c75b2 : (9223372036854775807 < ((((⟨#[91]⟩ : ByteArray) ++ t211) ++ (⟨#[32, 124, 124, 32]⟩ : ByteArray)) ++ t213).size + 1) = False := eq_false (Nat.not_lt.2 c75)
                                      try have c75b3 := c75b2
                                      try simp only [ByteArray.size_append, szl16, List.size_toArray, List.length_cons, List.length_nil, Nat.zero_add, Nat.reduceAdd] at c75b3
                                      obtain rfl := Option.some.inj H
                                      try go_wp2
                                      have n0_ := Aside0.mk (blk_drew BK192.out)
                                      have n1_ := Aside0.mk (below_drew1 HB.out)
                                      clear BK192
                                      clear HB
                                      have BK192 := n0_
                                      have HB := n1_
                                      clear n0_ n1_
                                      have p210 : 0 ≤ (0 : Int) := (by omega)
                                      have q210 : 0 < (l0_3.length : Int) := of_decide_eq_true (by first | (with_reducible assumption) | assumption)
                                      obtain ⟨ad210, A210_2, c210_2, A210_3, c210_3, e210, hx210_0, hx210_1, hx210_2, hx210_3, hl210_2, hi210_2, hl210_3, hi210_3⟩ := at_T33 HR0_3.out 0 p210 q210
                                      have hw210_3 := hx210_3
                                      (try rw [show ((0 : Int)).toNat = 0 from rfl] at hw210_3)
                                      (try rw [show 0 * 4 = 0 from rfl] at hw210_3)
                                      (try rw [Addr.add_zero'] at hw210_3)
                                      have hw210_2 := hx210_2
                                      (try rw [show ((0 : Int)).toNat = 0 from rfl] at hw210_2)
                                      (try rw [show 0 * 4 = 0 from rfl] at hw210_2)
                                      (try rw [Addr.add_zero'] at hw210_2)
                                      have hw210_1 := hx210_1
                                      (try rw [show ((0 : Int)).toNat = 0 from rfl] at hw210_1)
                                      (try rw [show 0 * 4 = 0 from rfl] at hw210_1)
                                      (try rw [Addr.add_zero'] at hw210_1)
                                      have hw210_0 := hx210_0
                                      (try rw [show ((0 : Int)).toNat = 0 from rfl] at hw210_0)
                                      (try rw [show 0 * 4 = 0 from rfl] at hw210_0)
                                      (try rw [Addr.add_zero'] at hw210_0)
                                      cases e210
                                      have qi210 : (0 < l0_3.length) = True := eq_true (by omega)
                                      (try rw [show ((0 : Int)).toNat = 0 from rfl] at hx210_0)
                                      (try rw [show 0 * 4 = 0 from rfl] at hx210_0)
                                      (try rw [Addr.add_zero'] at hx210_0)
                                      (try rw [show ((0 : Int)).toNat = 0 from rfl] at hx210_1)
                                      (try rw [show 0 * 4 = 0 from rfl] at hx210_1)
                                      (try rw [Addr.add_zero'] at hx210_1)
                                      (try rw [show ((0 : Int)).toNat = 0 from rfl] at hx210_2)
                                      (try rw [show 0 * 4 = 0 from rfl] at hx210_2)
                                      (try rw [Addr.add_zero'] at hx210_2)
                                      (try rw [show ((0 : Int)).toNat = 0 from rfl] at hx210_3)
                                      (try rw [show 0 * 4 = 0 from rfl] at hx210_3)
                                      (try rw [Addr.add_zero'] at hx210_3)
                                      replace hx210_0 := (HB.out.cell (World.block_lt_of_cell? w _ hx210_0)).trans hx210_0
                                      replace hx210_1 := (HB.out.cell (World.block_lt_of_cell? w _ hx210_1)).trans hx210_1
                                      replace hx210_2 := (HB.out.cell (World.block_lt_of_cell? w _ hx210_2)).trans hx210_2
                                      replace hx210_3 := (HB.out.cell (World.block_lt_of_cell? w _ hx210_3)).trans hx210_3
                                      have HR210_2 := Aside0.mk hi210_2
                                      have HC210_2 := Aside0.mk hl210_2
                                      clear hi210_2 hl210_2
                                      have HR210_3 := Aside0.mk hi210_3
                                      have HC210_3 := Aside0.mk hl210_3
                                      clear hi210_3 hl210_3
                                      replace p210 := eq_true p210
                                      replace q210 := eq_true q210
                                      have p212 : 0 ≤ (1 : Int) := (by omega)
                                      have q212 : 1 < (l0_3.length : Int) := of_decide_eq_true (by first | (with_reducible assumption) | assumption)
                                      obtain ⟨ad212, A212_2, c212_2, A212_3, c212_3, e212, hx212_0, hx212_1, hx212_2, hx212_3, hl212_2, hi212_2, hl212_3, hi212_3⟩ := at_T33 HR0_3.out 1 p212 q212
                                      have hw212_3 := hx212_3
                                      (try rw [show ((1 : Int)).toNat = 1 from rfl] at hw212_3)
                                      (try rw [show 1 * 4 = 4 from rfl] at hw212_3)
                                      (try simp only [Nat.reduceMul, Nat.reduceEqDiff, Go.Addr.add, ↓reduceIte] at hw212_3)
                                      have hw212_2 := hx212_2
                                      (try rw [show ((1 : Int)).toNat = 1 from rfl] at hw212_2)
                                      (try rw [show 1 * 4 = 4 from rfl] at hw212_2)
                                      (try simp only [Nat.reduceMul, Nat.reduceEqDiff, Go.Addr.add, ↓reduceIte] at hw212_2)
                                      have hw212_1 := hx212_1
                                      (try rw [show ((1 : Int)).toNat = 1 from rfl] at hw212_1)
                                      (try rw [show 1 * 4 = 4 from rfl] at hw212_1)
                                      (try simp only [Nat.reduceMul, Nat.reduceEqDiff, Go.Addr.add, ↓reduceIte] at hw212_1)
                                      have hw212_0 := hx212_0
                                      (try rw [show ((1 : Int)).toNat = 1 from rfl] at hw212_0)
                                      (try rw [show 1 * 4 = 4 from rfl] at hw212_0)
                                      (try simp only [Nat.reduceMul, Nat.reduceEqDiff, Go.Addr.add, ↓reduceIte] at hw212_0)
                                      obtain rfl : ad210 = ad212 := (by injection e212)
                                      (try simp only [show (1 : Int).toNat = 1 from rfl, Nat.reduceMul, Nat.reduceEqDiff, Go.Addr.add, ↓reduceIte] at hx212_0)
                                      (try simp only [show (1 : Int).toNat = 1 from rfl, Nat.reduceMul, Nat.reduceEqDiff, Go.Addr.add, ↓reduceIte] at hx212_1)
                                      (try simp only [show (1 : Int).toNat = 1 from rfl, Nat.reduceMul, Nat.reduceEqDiff, Go.Addr.add, ↓reduceIte] at hx212_2)
                                      (try simp only [show (1 : Int).toNat = 1 from rfl, Nat.reduceMul, Nat.reduceEqDiff, Go.Addr.add, ↓reduceIte] at hx212_3)
                                      have qi212 : (1 < l0_3.length) = True := eq_true (by omega)
                                      (try rw [show ((1 : Int)).toNat = 1 from rfl] at hx212_0)
                                      (try rw [show 1 * 4 = 4 from rfl] at hx212_0)
                                      (try rw [show ((1 : Int)).toNat = 1 from rfl] at hx212_1)
                                      (try rw [show 1 * 4 = 4 from rfl] at hx212_1)
                                      (try rw [show ((1 : Int)).toNat = 1 from rfl] at hx212_2)
                                      (try rw [show 1 * 4 = 4 from rfl] at hx212_2)
                                      (try rw [show ((1 : Int)).toNat = 1 from rfl] at hx212_3)
                                      (try rw [show 1 * 4 = 4 from rfl] at hx212_3)
                                      replace hx212_0 := (HB.out.cell (World.block_lt_of_cell? w _ hx212_0)).trans hx212_0
                                      replace hx212_1 := (HB.out.cell (World.block_lt_of_cell? w _ hx212_1)).trans hx212_1
                                      replace hx212_2 := (HB.out.cell (World.block_lt_of_cell? w _ hx212_2)).trans hx212_2
                                      replace hx212_3 := (HB.out.cell (World.block_lt_of_cell? w _ hx212_3)).trans hx212_3
                                      have HR212_2 := Aside0.mk hi212_2
                                      have HC212_2 := Aside0.mk hl212_2
                                      clear hi212_2 hl212_2
                                      have HR212_3 := Aside0.mk hi212_3
                                      have HC212_3 := Aside0.mk hl212_3
                                      clear hi212_3 hl212_3
                                      replace p212 := eq_true p212
                                      replace q212 := eq_true q212
                                      refine start_ (n := 15) (S := fun w' => w'.cell? ⟨gb192, 0, none⟩ = some (.int .i64 a0_0) ∧ w'.cell? ⟨gb192, 1, none⟩ = some (.int .i64 a0_1) ∧ w'.cell? ⟨gb192, 2, none⟩ = some (.slice A0_2 l0_2.length c0_2) ∧ w'.cell? ⟨gb192, 3, none⟩ = some (.slice (some ad210) l0_3.length c0_3) ∧ w'.cell? ad210 = some (.int .i64 ((rd_T33 l0_3 0).f0)) ∧ w'.cell? ⟨ad210.block, ad210.off + 1, none⟩ = some (.int .i64 ((rd_T33 l0_3 0).f1)) ∧ w'.cell? ⟨ad210.block, ad210.off + 2, none⟩ = some (.slice A210_2 ((rd_T33 l0_3 0).f2).length c210_2) ∧ w'.cell? ⟨ad210.block, ad210.off + 3, none⟩ = some (.slice A210_3 ((rd_T33 l0_3 0).f3).length c210_3) ∧ w'.cell? ⟨ad210.block, ad210.off + 4, none⟩ = some (.int .i64 ((rd_T33 l0_3 1).f0)) ∧ w'.cell? ⟨ad210.block, ad210.off + 4 + 1, none⟩ = some (.int .i64 ((rd_T33 l0_3 1).f1)) ∧ w'.cell? ⟨ad210.block, ad210.off + 4 + 2, none⟩ = some (.slice A212_2 ((rd_T33 l0_3 1).f2).length c212_2) ∧ w'.cell? ⟨ad210.block, ad210.off + 4 + 3, none⟩ = some (.slice A212_3 ((rd_T33 l0_3 1).f3).length c212_3)) (ds := []) #[false, false, false, false, false, false, false, false, false, false, false, false, false, false, false] (by kernel_rfl) rfl rfl ⟨(blk_cell BK192.out 0).trans rfl, (blk_cell BK192.out 1).trans rfl, (blk_cell BK192.out 2).trans rfl, (blk_cell BK192.out 3).trans rfl, ((HB.out.cell (World.block_lt_of_cell? w _ hw210_0)).trans hw210_0), ((HB.out.cell (World.block_lt_of_cell? w _ hw210_1)).trans hw210_1), ((HB.out.cell (World.block_lt_of_cell? w _ hw210_2)).trans hw210_2), ((HB.out.cell (World.block_lt_of_cell? w _ hw210_3)).trans hw210_3), ((HB.out.cell (World.block_lt_of_cell? w _ hw212_0)).trans hw212_0), ((HB.out.cell (World.block_lt_of_cell? w _ hw212_1)).trans hw212_1), ((HB.out.cell (World.block_lt_of_cell? w _ hw212_2)).trans hw212_2), ((HB.out.cell (World.block_lt_of_cell? w _ hw212_3)).trans hw212_3)⟩ (fun hHeld => ?_); refine with_tabW meddlerref6_Cond.tab10 meddlerref6_Cond.bits10 (fun HT_ HW_ => ?_)
                                      generalize wc.drew = w76 at BK192 HB HR210_2 HR210_3 HR212_2 HR212_3 hx210_0 hx210_1 hx210_2 hx210_3 hx212_0 hx212_1 hx212_2 hx212_3 hHeld ⊢
                                      refine pure_ (i := 0) (N := some 106) (v := ?_) (a' := ?_) #[true, false, false, false, false, false, false, false, false, false, false, false, false, false, false] rfl rfl (any_of HT_.out (by kernel_rfl)) (fun _ _ _ h => h) (Or.inl ⟨by rfl, ?_⟩) ?_ ?_
                                      rotate_left
                                      · intro w'
                                        go_simp
                                        with_reducible rfl
                                      rotate_left
                                      · simp only [Act.put, List.setIfInBounds_toArray, List.set_cons_zero, List.set_cons_succ, i64_w, i32_w]
                                        rfl
                                      refine pure_ (i := 7) (N := some 113) (v := ?_) (a' := ?_) #[true, false, false, false, false, false, false, true, false, false, false, false, false, false, false] rfl rfl (any_of HT_.out (by kernel_rfl)) (fun _ _ _ h => h) (Or.inl ⟨by rfl, ?_⟩) ?_ ?_
                                      rotate_left
                                      · intro w'
                                        go_simp
                                        with_reducible rfl
                                      rotate_left
                                      · simp only [Act.put, List.setIfInBounds_toArray, List.set_cons_zero, List.set_cons_succ, i64_w, i32_w]
                                        rfl
                                      refine take_ (i := 1) (N := some 107) (v := ?_) (a' := ?_) #[true, true, false, false, false, false, false, true, false, false, false, false, false, false, false] rfl rfl (take_ofW HT_.out HW_.out (by kernel_rfl)) (fun _ _ _ h => h) (Or.inl ⟨by rfl, ?_⟩) hHeld ?_ ?_
                                      rotate_left
                                      · rintro w' ⟨s0, s1, s2, s3, s4, s5, s6, s7, s8, s9, s10, s11⟩
                                        go_simp
                                        with_reducible rfl
                                      rotate_left
                                      · simp only [Act.put, List.setIfInBounds_toArray, List.set_cons_zero, List.set_cons_succ, i64_w, i32_w]
                                        rfl
                                      refine pure_ (i := 2) (N := some 108) (v := ?_) (a' := ?_) #[true, true, true, false, false, false, false, true, false, false, false, false, false, false, false] rfl rfl (any_of HT_.out (by kernel_rfl)) (fun _ _ _ h => h) (Or.inl ⟨by rfl, ?_⟩) ?_ ?_
                                      rotate_left
                                      · intro w'
                                        go_simp
                                        with_reducible rfl
                                      rotate_left
                                      · simp only [Act.put, List.setIfInBounds_toArray, List.set_cons_zero, List.set_cons_succ, i64_w, i32_w]
                                        rfl
                                      refine take_ (i := 3) (N := some 109) (v := ?_) (a' := ?_) #[true, true, true, true, false, false, false, true, false, false, false, false, false, false, false] rfl rfl (take_ofW HT_.out HW_.out (by kernel_rfl)) (fun _ _ _ h => h) (Or.inl ⟨by rfl, ?_⟩) hHeld ?_ ?_
                                      rotate_left
                                      · rintro w' ⟨s0, s1, s2, s3, s4, s5, s6, s7, s8, s9, s10, s11⟩
                                        go_simp
                                        with_reducible rfl
                                      rotate_left
                                      · simp only [Act.put, List.setIfInBounds_toArray, List.set_cons_zero, List.set_cons_succ, i64_w, i32_w]
                                        rfl
                                      refine take_ (i := 8) (N := some 114) (v := ?_) (a' := ?_) #[true, true, true, true, false, false, false, true, true, false, false, false, false, false, false] rfl rfl (take_ofW HT_.out HW_.out (by kernel_rfl)) (fun _ _ _ h => h) (Or.inl ⟨by rfl, ?_⟩) hHeld ?_ ?_
                                      rotate_left
                                      · rintro w' ⟨s0, s1, s2, s3, s4, s5, s6, s7, s8, s9, s10, s11⟩
                                        go_simp
                                        with_reducible rfl
                                      rotate_left
                                      · simp only [Act.put, List.setIfInBounds_toArray, List.set_cons_zero, List.set_cons_succ, i64_w, i32_w]
                                        rfl
                                      refine pure_ (i := 9) (N := some 115) (v := ?_) (a' := ?_) #[true, true, true, true, false, false, false, true, true, true, false, false, false, false, false] rfl rfl (any_of HT_.out (by kernel_rfl)) (fun _ _ _ h => h) (Or.inl ⟨by rfl, ?_⟩) ?_ ?_
                                      rotate_left
                                      · intro w'
                                        go_simp
                                        with_reducible rfl
                                      rotate_left
                                      · simp only [Act.put, List.setIfInBounds_toArray, List.set_cons_zero, List.set_cons_succ, i64_w, i32_w]
                                        rfl
                                      refine take_ (i := 10) (N := some 116) (v := ?_) (a' := ?_) #[true, true, true, true, false, false, false, true, true, true, true, false, false, false, false] rfl rfl (take_ofW HT_.out HW_.out (by kernel_rfl)) (fun _ _ _ h => h) (Or.inl ⟨by rfl, ?_⟩) hHeld ?_ ?_
                                      rotate_left
                                      · rintro w' ⟨s0, s1, s2, s3, s4, s5, s6, s7, s8, s9, s10, s11⟩
                                        go_simp
                                        with_reducible rfl
                                      rotate_left
                                      · simp only [Act.put, List.setIfInBounds_toArray, List.set_cons_zero, List.set_cons_succ, i64_w, i32_w]
                                        rfl
                                      refine one_ (i := 4) (N := some 110) #[true, true, true, true, true, false, false, true, true, true, true, false, false, false, false] rfl rfl (one_of HT_.out (by kernel_rfl)) (by decide) (fun K hK => ?_)
                                      refine goes_ Tryd.func16 (by kernel_rfl) rfl #[.agg #[.int .i64 ((rd_T33 l0_3 0).f0), .int .i64 ((rd_T33 l0_3 0).f1), .slice A210_2 ((rd_T33 l0_3 0).f2).length c210_2, .slice A210_3 ((rd_T33 l0_3 0).f3).length c210_3]] (by rfl) rfl rfl (by (try simp only [List.map_toArray, List.map_cons, List.map_nil]); first | done | rfl | (simp only [List.length_drop, List.length_take]; rfl)) ?_
                                      with_reducible refine (ih kj62 (by have := HJ1.out; have := HJ30.out; have := HJ46.out; have := HJ62.out; omega) ((rd_T33 l0_3 0).f0) ((rd_T33 l0_3 0).f1) _ _ ((rd_T33 l0_3 0).f2) _ _ ((rd_T33 l0_3 0).f3) t211 _ ?side1 ?side2 ?side3 ?side4 A69.out).mono ?_
                                      (case side1 => repeat (first | exact (Kd.C_below HR210_2.out HB.out) | (with_reducible refine Kd.C_alloc ?_ _) | (with_reducible refine Kd.C_drewN ?_ _) | (with_reducible refine Kd.C_drew ?_)))
                                      (case side2 => exact HC210_2.out)
                                      (case side3 => repeat (first | exact (Kd.C_below HR210_3.out HB.out) | (with_reducible refine Kd.C_alloc ?_ _) | (with_reducible refine Kd.C_drewN ?_ _) | (with_reducible refine Kd.C_drew ?_)))
                                      (case side4 => exact HC210_3.out)
                                      rintro e w77 ⟨rfl, hb⟩
                                      refine ⟨_, rfl, ?_⟩
                                      have n0_ := Aside0.mk (blk_below (g := gb192) (o := .cells #[.int .i64 a0_0, .int .i64 a0_1, .slice A0_2 l0_2.length c0_2, .slice (some ad210) l0_3.length c0_3] 33 (0, 0)) (by (with_reducible repeat (first | refine blk_drewN ?_ _ | refine blk_drew ?_ | refine blk_alloc ?_ _)); exact BK192.out) hb)
                                      have n1_ := Aside0.mk (below_step (by repeat (first | (with_reducible first | exact HB.out | apply below_alloc | apply pw_below_drewN | apply below_drew1 | refine below_set ?_ GE192.out) | exact HB.out)) hb)
                                      clear BK192
                                      clear HB
                                      have BK192 := n0_
                                      have HB := n1_
                                      clear n0_ n1_
                                      (try clear hb)
                                      (try clear hb2)
                                      (try clear hk)
                                      (try clear hi)
                                      refine hK.out _ _ ⟨(blk_cell BK192.out 0).trans rfl, (blk_cell BK192.out 1).trans rfl, (blk_cell BK192.out 2).trans rfl, (blk_cell BK192.out 3).trans rfl, ((HB.out.cell (World.block_lt_of_cell? w _ hw210_0)).trans hw210_0), ((HB.out.cell (World.block_lt_of_cell? w _ hw210_1)).trans hw210_1), ((HB.out.cell (World.block_lt_of_cell? w _ hw210_2)).trans hw210_2), ((HB.out.cell (World.block_lt_of_cell? w _ hw210_3)).trans hw210_3), ((HB.out.cell (World.block_lt_of_cell? w _ hw212_0)).trans hw212_0), ((HB.out.cell (World.block_lt_of_cell? w _ hw212_1)).trans hw212_1), ((HB.out.cell (World.block_lt_of_cell? w _ hw212_2)).trans hw212_2), ((HB.out.cell (World.block_lt_of_cell? w _ hw212_3)).trans hw212_3)⟩ (fun hHeld => ?_)
                                      clear hK K
                                      refine norm_ (a' := ?_) ?_ ?_
                                      rotate_left
                                      · show Act.put _ (some 110) _ = _
                                        simp only [Act.put, List.setIfInBounds_toArray, List.set_cons_zero, List.set_cons_succ, i64_w, i32_w]
                                        rfl
                                      refine pure_ (i := 5) (N := some 111) (v := ?_) (a' := ?_) #[true, true, true, true, true, true, false, true, true, true, true, false, false, false, false] rfl rfl (any_of HT_.out (by kernel_rfl)) (fun _ _ _ h => h) (Or.inl ⟨by rfl, ?_⟩) ?_ ?_
                                      rotate_left
                                      · intro w'
                                        go_simp
                                        with_reducible rfl
                                      rotate_left
                                      · simp only [Act.put, List.setIfInBounds_toArray, List.set_cons_zero, List.set_cons_succ, i64_w, i32_w]
                                        rfl
                                      refine pure_ (i := 6) (N := some 112) (v := ?_) (a' := ?_) #[true, true, true, true, true, true, true, true, true, true, true, false, false, false, false] rfl rfl (any_of HT_.out (by kernel_rfl)) (fun _ _ _ h => h) (Or.inl ⟨by rfl, ?_⟩) ?_ ?_
                                      rotate_left
                                      · intro w'
                                        go_simp
                                        with_reducible rfl
                                      rotate_left
                                      · simp only [Act.put, List.setIfInBounds_toArray, List.set_cons_zero, List.set_cons_succ, i64_w, i32_w]
                                        rfl
                                      refine one_ (i := 11) (N := some 117) #[true, true, true, true, true, true, true, true, true, true, true, true, false, false, false] rfl rfl (one_of HT_.out (by kernel_rfl)) (by decide) (fun K hK => ?_)
                                      refine goes_ Tryd.func16 (by kernel_rfl) rfl #[.agg #[.int .i64 ((rd_T33 l0_3 1).f0), .int .i64 ((rd_T33 l0_3 1).f1), .slice A212_2 ((rd_T33 l0_3 1).f2).length c212_2, .slice A212_3 ((rd_T33 l0_3 1).f3).length c212_3]] (by rfl) rfl rfl (by (try simp only [List.map_toArray, List.map_cons, List.map_nil]); first | done | rfl | (simp only [List.length_drop, List.length_take]; rfl)) ?_
                                      with_reducible refine (ih kj62 (by have := HJ1.out; have := HJ30.out; have := HJ46.out; have := HJ62.out; omega) ((rd_T33 l0_3 1).f0) ((rd_T33 l0_3 1).f1) _ _ ((rd_T33 l0_3 1).f2) _ _ ((rd_T33 l0_3 1).f3) t213 _ ?side1 ?side2 ?side3 ?side4 A73.out).mono ?_
                                      (case side1 => repeat (first | exact (Kd.C_below HR212_2.out HB.out) | (with_reducible refine Kd.C_alloc ?_ _) | (with_reducible refine Kd.C_drewN ?_ _) | (with_reducible refine Kd.C_drew ?_)))
                                      (case side2 => exact HC212_2.out)
                                      (case side3 => repeat (first | exact (Kd.C_below HR212_3.out HB.out) | (with_reducible refine Kd.C_alloc ?_ _) | (with_reducible refine Kd.C_drewN ?_ _) | (with_reducible refine Kd.C_drew ?_)))
                                      (case side4 => exact HC212_3.out)
                                      rintro e w78 ⟨rfl, hb⟩
                                      refine ⟨_, rfl, ?_⟩
                                      have n0_ := Aside0.mk (blk_below (g := gb192) (o := .cells #[.int .i64 a0_0, .int .i64 a0_1, .slice A0_2 l0_2.length c0_2, .slice (some ad210) l0_3.length c0_3] 33 (0, 0)) (by (with_reducible repeat (first | refine blk_drewN ?_ _ | refine blk_drew ?_ | refine blk_alloc ?_ _)); exact BK192.out) hb)
                                      have n1_ := Aside0.mk (below_step (by repeat (first | (with_reducible first | exact HB.out | apply below_alloc | apply pw_below_drewN | apply below_drew1 | refine below_set ?_ GE192.out) | exact HB.out)) hb)
                                      clear BK192
                                      clear HB
                                      have BK192 := n0_
                                      have HB := n1_
                                      clear n0_ n1_
                                      (try clear hb)
                                      (try clear hb2)
                                      (try clear hk)
                                      (try clear hi)
                                      refine hK.out _ _ ⟨(blk_cell BK192.out 0).trans rfl, (blk_cell BK192.out 1).trans rfl, (blk_cell BK192.out 2).trans rfl, (blk_cell BK192.out 3).trans rfl, ((HB.out.cell (World.block_lt_of_cell? w _ hw210_0)).trans hw210_0), ((HB.out.cell (World.block_lt_of_cell? w _ hw210_1)).trans hw210_1), ((HB.out.cell (World.block_lt_of_cell? w _ hw210_2)).trans hw210_2), ((HB.out.cell (World.block_lt_of_cell? w _ hw210_3)).trans hw210_3), ((HB.out.cell (World.block_lt_of_cell? w _ hw212_0)).trans hw212_0), ((HB.out.cell (World.block_lt_of_cell? w _ hw212_1)).trans hw212_1), ((HB.out.cell (World.block_lt_of_cell? w _ hw212_2)).trans hw212_2), ((HB.out.cell (World.block_lt_of_cell? w _ hw212_3)).trans hw212_3)⟩ (fun hHeld => ?_)
                                      clear hK K
                                      refine norm_ (a' := ?_) ?_ ?_
                                      rotate_left
                                      · show Act.put _ (some 117) _ = _
                                        simp only [Act.put, List.setIfInBounds_toArray, List.set_cons_zero, List.set_cons_succ, i64_w, i32_w]
                                        rfl
                                      refine pure_ (i := 12) (N := some 118) (v := ?_) (a' := ?_) #[true, true, true, true, true, true, true, true, true, true, true, true, true, false, false] rfl rfl (any_of HT_.out (by kernel_rfl)) (fun _ _ _ h => h) (Or.inl ⟨by rfl, ?_⟩) ?_ ?_
                                      rotate_left
                                      · intro w'
                                        go_simp
                                        with_reducible rfl
                                      rotate_left
                                      · simp only [Act.put, List.setIfInBounds_toArray, List.set_cons_zero, List.set_cons_succ, i64_w, i32_w]
                                        rfl
                                      refine pure_ (i := 13) (N := some 119) (v := ?_) (a' := ?_) #[true, true, true, true, true, true, true, true, true, true, true, true, true, true, false] rfl rfl (any_of HT_.out (by kernel_rfl)) (fun _ _ _ h => h) (Or.inl ⟨by rfl, ?_⟩) ?_ ?_
                                      rotate_left
                                      · intro w'
                                        go_simp
                                        with_reducible rfl
                                      rotate_left
                                      · simp only [Act.put, List.setIfInBounds_toArray, List.set_cons_zero, List.set_cons_succ, i64_w, i32_w]
                                        rfl
                                      refine pure_ (i := 14) (N := some 2) (v := ?_) (a' := ?_) #[true, true, true, true, true, true, true, true, true, true, true, true, true, true, true] rfl rfl (any_of HT_.out (by kernel_rfl)) (fun _ _ _ h => h) (Or.inl ⟨by rfl, ?_⟩) ?_ ?_
                                      rotate_left
                                      · intro w'
                                        go_simp
                                        with_reducible rfl
                                      rotate_left
                                      · simp only [Act.put, List.setIfInBounds_toArray, List.set_cons_zero, List.set_cons_succ, i64_w, i32_w]
                                        rfl
                                      refine done_ (done_of HT_.out (by kernel_rfl)) ?_
                                      try go_wp2
                                      go_ret
                                      exact ⟨by first | rfl | (simp [errW_none, errW_some] <;> rfl) | (simp [*, errW_none, errW_some] <;> rfl), by repeat (first | (with_reducible first | exact HB.out | apply below_alloc | apply pw_below_drewN | apply below_drew1 | refine below_set ?_ GE192.out) | exact HB.out)⟩
                                    · rw [if_neg c75] at H
                                      exact absurd H (by simp)
                                  · rw [if_neg c74] at H
                                    exact absurd H (by simp)
                                · rw [if_neg c72] at H
                                  exact absurd H (by simp)
                              · rw [if_neg c71] at H
                                exact absurd H (by simp)
                            · rw [if_neg c70] at H
                              exact absurd H (by simp)
                          · rw [if_neg c68] at H
                            exact absurd H (by simp)
                        · replace c67 := Bool.eq_false_iff.mpr c67
                          subst c67
                          have H1 : (some (⟨#[63]⟩ : ByteArray)) = some r := by rw [if_neg (show ¬ (false = true) by decide)] at H; exact H
                          clear H
                          have H := H1
                          clear H1
                          obtain rfl := Option.some.inj H
                          go_wp2
                          go_ret
                          exact ⟨by first | rfl | (simp [errW_none, errW_some] <;> rfl) | (simp [*, errW_none, errW_some] <;> rfl), by repeat (first | (with_reducible first | exact HB.out | apply below_alloc | apply pw_below_drewN | apply below_drew1 | refine below_set ?_ GE192.out) | exact HB.out)⟩
end Go.Proofs.YtfeaekdhpkdljaaDoor.Sh
