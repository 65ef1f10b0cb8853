/- An own text of this seat: Lean functions with the answers of Go functions, and that the Go code comes to them. Written by a program of this session out of the translation. -/
import Derived.Test.YtikjamcemnbhbaaMrx0
namespace Go.Proofs.Ytikjamcemnbhbaa.Mr
open Go.RowKit Go.Proofs.YtikjamcemnbhbaaW.PrintWords Go.Proofs.YtikjamcemnbhbaaW.PrintLast
set_option linter.unusedVariables false
set_option linter.unusedSimpArgs false

/-! ### meddlerref8_uses: function 75 -/
def meddlerref8_uses.l0 : Nat → ByteArray → Int → Int → Option (Bool)
  | 0, _, _, _ => none
  | k + 1, x5, x6, x7 => if x7 < (x5.size : Int) then (if 0 ≤ x7 then (if (bt x5 x7) = x6 then (some true) else (meddlerref8_uses.l0 k x5 x6 (wrap64 (x7 + 1)))) else (none)) else (some false)
def meddlerref8_uses.f (k : Nat) (a0 : Int) (a1 : Int) : Option (Bool) := (some (([(⟨#[]⟩ : ByteArray), (⟨#[84]⟩ : ByteArray), (⟨#[84, 88]⟩ : ByteArray), (⟨#[84]⟩ : ByteArray), (⟨#[84, 88, 89]⟩ : ByteArray), (⟨#[84, 71]⟩ : ByteArray), (⟨#[71, 88]⟩ : ByteArray), (⟨#[84, 71, 88]⟩ : ByteArray), (⟨#[71, 88, 89]⟩ : ByteArray), (⟨#[71]⟩ : ByteArray), (⟨#[71]⟩ : ByteArray), (⟨#[88, 89]⟩ : ByteArray), (⟨#[]⟩ : ByteArray), (⟨#[]⟩ : ByteArray), (⟨#[]⟩ : ByteArray)] : List ByteArray) : List ByteArray)).bind fun y101 => (if 0 ≤ a0 then (if a0 < (y101.length : Int) then (if 0 ≤ a1 then (if a1 < 5 then (meddlerref8_uses.l0 k (rdOf ByteArray.empty y101 a0) (bt (⟨#[32, 84, 88, 89, 71]⟩ : ByteArray) a1) 0) else (none)) else (none)) else (none)) else (none))
theorem meddlerref8_uses.mono_l : ∀ k, (∀ y0 y1 y2, LeO (meddlerref8_uses.l0 k y0 y1 y2) (meddlerref8_uses.l0 (k + 1) y0 y1 y2))
  | 0 => fun _ _ _ r h => by simp [meddlerref8_uses.l0] at h
  | k + 1 => by
    have ih0 := meddlerref8_uses.mono_l k
    · intro y0 y1 y2
      unfold meddlerref8_uses.l0
      repeat' first
      | (with_reducible exact ih0 _ _ _)
      | (with_reducible exact LeO.refl _)
      | (with_reducible exact LeO.none _)
      | (with_reducible refine LeO.ite ?_ ?_)
      | (with_reducible refine LeO.bind ?_ (fun _ => ?_))
      | exact ih0 _ _ _
      | exact LeO.none _
      | refine LeO.ite ?_ ?_
      | refine LeO.bind ?_ (fun _ => ?_)
theorem meddlerref8_uses.mono : ∀ a0 a1 k, LeO (meddlerref8_uses.f k a0 a1) (meddlerref8_uses.f (k + 1) a0 a1) := by
  intro a0 a1 k
  have ih0 := meddlerref8_uses.mono_l k
  unfold meddlerref8_uses.f
  repeat' first
      | (with_reducible exact ih0 _ _ _)
      | (with_reducible exact LeO.refl _)
      | (with_reducible exact LeO.none _)
      | (with_reducible refine LeO.ite ?_ ?_)
      | (with_reducible refine LeO.bind ?_ (fun _ => ?_))
      | exact ih0 _ _ _
      | exact LeO.none _
      | refine LeO.ite ?_ ?_
      | refine LeO.bind ?_ (fun _ => ?_)
set_option maxHeartbeats 8000000 in
set_option maxRecDepth 100000 in
theorem meddlerref8_uses.calls (k : Nat) (a0 : Int) (a1 : Int) (r : Bool) (w : World) (h : meddlerref8_uses.f k a0 a1 = some r) :
    Calls Try.prog 75 #[.int .i64 a0, .int .i64 a1] w fun e w' => e = .returned (.bool r) ∧ Below w.heap.size w w' := by
  have HB := Aside0.mk (Below.refl w.heap.size w)
  have H : ((some (([(⟨#[]⟩ : ByteArray), (⟨#[84]⟩ : ByteArray), (⟨#[84, 88]⟩ : ByteArray), (⟨#[84]⟩ : ByteArray), (⟨#[84, 88, 89]⟩ : ByteArray), (⟨#[84, 71]⟩ : ByteArray), (⟨#[71, 88]⟩ : ByteArray), (⟨#[84, 71, 88]⟩ : ByteArray), (⟨#[71, 88, 89]⟩ : ByteArray), (⟨#[71]⟩ : ByteArray), (⟨#[71]⟩ : ByteArray), (⟨#[88, 89]⟩ : ByteArray), (⟨#[]⟩ : ByteArray), (⟨#[]⟩ : ByteArray), (⟨#[]⟩ : ByteArray)] : List ByteArray) : List ByteArray)).bind fun y101 => (if 0 ≤ a0 then (if a0 < (y101.length : Int) then (if 0 ≤ a1 then (if a1 < 5 then (meddlerref8_uses.l0 k (rdOf ByteArray.empty y101 a0) (bt (⟨#[32, 84, 88, 89, 71]⟩ : ByteArray) a1) 0) else (none)) else (none)) else (none)) else (none))) = some r := h
  clear h
  obtain ⟨y101, hy101⟩ : ∃ y_ : List ByteArray, y_ = (([(⟨#[]⟩ : ByteArray), (⟨#[84]⟩ : ByteArray), (⟨#[84, 88]⟩ : ByteArray), (⟨#[84]⟩ : ByteArray), (⟨#[84, 88, 89]⟩ : ByteArray), (⟨#[84, 71]⟩ : ByteArray), (⟨#[71, 88]⟩ : ByteArray), (⟨#[84, 71, 88]⟩ : ByteArray), (⟨#[71, 88, 89]⟩ : ByteArray), (⟨#[71]⟩ : ByteArray), (⟨#[71]⟩ : ByteArray), (⟨#[88, 89]⟩ : ByteArray), (⟨#[]⟩ : ByteArray), (⟨#[]⟩ : ByteArray), (⟨#[]⟩ : ByteArray)] : List ByteArray)) := ⟨_, rfl⟩
  replace H : (if 0 ≤ a0 then (if a0 < (y101.length : Int) then (if 0 ≤ a1 then (if a1 < 5 then (meddlerref8_uses.l0 k (rdOf ByteArray.empty y101 a0) (bt (⟨#[32, 84, 88, 89, 71]⟩ : ByteArray) a1) 0) else (none)) else (none)) else (none)) else (none)) = some r := by first | (rw [hy101]; with_reducible exact H) | (have H2_ := (Option.bind_some _ _).symm.trans H; rw [hy101]; with_reducible exact H2_) | (have H2_ := (Option.bind_some _ _).symm.trans H; with_reducible exact H2_) | with_reducible exact H | (rw [hy101]; exact H) | exact H
  have Ny101 := Aside0.mk hy101
  clear hy101
  by_cases c3 : 0 ≤ a0
  · rw [if_pos c3] at H
    have c3b0 : decide (0 ≤ a0) = true := decide_eq_true c3
    clear c3
    by_cases c4 : a0 < (y101.length : Int)
    · rw [if_pos c4] at H
      have c4b0 : decide (a0 < (y101.length : Int)) = true := decide_eq_true c4
      clear c4
      by_cases c5 : 0 ≤ a1
      · rw [if_pos c5] at H
        have c5b0 : decide (0 ≤ a1) = true := decide_eq_true c5
        clear c5
        by_cases c6 : a1 < 5
        · rw [if_pos c6] at H
          have c6b0 : decide (a1 < 5) = true := decide_eq_true c6
          clear c6
          have H' := Aside0.mk H
          clear H
          go_enter Try.func75, Try.ntmps75
          go_wp2_with (first | ((with_reducible refine gate_dst (N := 8) rfl ?_); refine Kd.R_lit Kd.string _ 9 ?hg (N := 8) ?hd (xs := ([(⟨#[]⟩ : ByteArray), (⟨#[84]⟩ : ByteArray), (⟨#[84, 88]⟩ : ByteArray), (⟨#[84]⟩ : ByteArray), (⟨#[84, 88, 89]⟩ : ByteArray), (⟨#[84, 71]⟩ : ByteArray), (⟨#[71, 88]⟩ : ByteArray), (⟨#[84, 71, 88]⟩ : ByteArray), (⟨#[71, 88, 89]⟩ : ByteArray), (⟨#[71]⟩ : ByteArray), (⟨#[71]⟩ : ByteArray), (⟨#[88, 89]⟩ : ByteArray), (⟨#[]⟩ : ByteArray), (⟨#[]⟩ : ByteArray), (⟨#[]⟩ : ByteArray)] : List ByteArray)) (inner := [.string (⟨#[]⟩ : ByteArray), .string (⟨#[84]⟩ : ByteArray), .string (⟨#[84, 88]⟩ : ByteArray), .string (⟨#[84]⟩ : ByteArray), .string (⟨#[84, 88, 89]⟩ : ByteArray), .string (⟨#[84, 71]⟩ : ByteArray), .string (⟨#[71, 88]⟩ : ByteArray), .string (⟨#[84, 71, 88]⟩ : ByteArray), .string (⟨#[71, 88, 89]⟩ : ByteArray), .string (⟨#[71]⟩ : ByteArray), .string (⟨#[71]⟩ : ByteArray), .string (⟨#[88, 89]⟩ : ByteArray), .string (⟨#[]⟩ : ByteArray), .string (⟨#[]⟩ : ByteArray), .string (⟨#[]⟩ : ByteArray)]) (ok := fun _ => True) (okp := fun _ => True) ?hr ?hp (fun _ hk => hk) trivial (Below.refl _ _) (Nat.le_refl _) (by simp) ?_; (case hd => rfl); (case hg => rfl); (case hr => first | (go_simp; done) | (go_simp; rfl)); (case hp => exact (Reps.one (show Kd.M Kd.string _ _ _ (⟨#[]⟩ : ByteArray) [.string (⟨#[]⟩ : ByteArray)] from rfl) (Reps.one (show Kd.M Kd.string _ _ _ (⟨#[84]⟩ : ByteArray) [.string (⟨#[84]⟩ : ByteArray)] from rfl) (Reps.one (show Kd.M Kd.string _ _ _ (⟨#[84, 88]⟩ : ByteArray) [.string (⟨#[84, 88]⟩ : ByteArray)] from rfl) (Reps.one (show Kd.M Kd.string _ _ _ (⟨#[84]⟩ : ByteArray) [.string (⟨#[84]⟩ : ByteArray)] from rfl) (Reps.one (show Kd.M Kd.string _ _ _ (⟨#[84, 88, 89]⟩ : ByteArray) [.string (⟨#[84, 88, 89]⟩ : ByteArray)] from rfl) (Reps.one (show Kd.M Kd.string _ _ _ (⟨#[84, 71]⟩ : ByteArray) [.string (⟨#[84, 71]⟩ : ByteArray)] from rfl) (Reps.one (show Kd.M Kd.string _ _ _ (⟨#[71, 88]⟩ : ByteArray) [.string (⟨#[71, 88]⟩ : ByteArray)] from rfl) (Reps.one (show Kd.M Kd.string _ _ _ (⟨#[84, 71, 88]⟩ : ByteArray) [.string (⟨#[84, 71, 88]⟩ : ByteArray)] from rfl) (Reps.one (show Kd.M Kd.string _ _ _ (⟨#[71, 88, 89]⟩ : ByteArray) [.string (⟨#[71, 88, 89]⟩ : ByteArray)] from rfl) (Reps.one (show Kd.M Kd.string _ _ _ (⟨#[71]⟩ : ByteArray) [.string (⟨#[71]⟩ : ByteArray)] from rfl) (Reps.one (show Kd.M Kd.string _ _ _ (⟨#[71]⟩ : ByteArray) [.string (⟨#[71]⟩ : ByteArray)] from rfl) (Reps.one (show Kd.M Kd.string _ _ _ (⟨#[88, 89]⟩ : ByteArray) [.string (⟨#[88, 89]⟩ : ByteArray)] from rfl) (Reps.one (show Kd.M Kd.string _ _ _ (⟨#[]⟩ : ByteArray) [.string (⟨#[]⟩ : ByteArray)] from rfl) (Reps.one (show Kd.M Kd.string _ _ _ (⟨#[]⟩ : ByteArray) [.string (⟨#[]⟩ : ByteArray)] from rfl) (Reps.one (show Kd.M Kd.string _ _ _ (⟨#[]⟩ : ByteArray) [.string (⟨#[]⟩ : ByteArray)] from rfl) (Reps.none _ _))))))))))))))))); intro v102 w8 ho9 hb hg_ hnew_; clear hg_ hnew_; (first | rw [← Ny101.out] at ho9 | (simp only [Int.reduceToNat] at ho9; rw [← Ny101.out] at ho9)); have n0_ := Aside0.mk (Kd.R_lower ho9 (below_size (by repeat (first | (with_reducible first | exact HB.out | apply below_alloc | apply pw_below_drewN | apply below_drew1) | exact HB.out)))); have n1_ := Aside0.mk (below_step (by repeat (first | (with_reducible first | exact HB.out | apply below_alloc | apply pw_below_drewN | apply below_drew1) | exact HB.out)) hb); clear HB; have HO103 := n0_; have HB := n1_; clear n0_ n1_; clear hb ho9; obtain ⟨Ao10, co10, eo10⟩ := Kd.R_slice HO103.out; subst eo10; have p104 : 0 ≤ (a0 : Int) := of_decide_eq_true (by first | (with_reducible assumption) | assumption); have q104 : a0 < (y101.length : Int) := of_decide_eq_true (by first | (with_reducible assumption) | assumption); obtain ⟨ad104, e104, hx104_0⟩ := Kd.at_string (Kd.R_reads' HO103.out).2.2 a0 p104 q104; cases e104; replace p104 := eq_true p104; replace q104 := eq_true q104; have p7 : 0 ≤ (a1 : Int) := of_decide_eq_true (by first | (with_reducible assumption) | assumption); have q7 : a1 < (5 : Int) := of_decide_eq_true (by first | (with_reducible assumption) | assumption); have hx7 := bt_at (⟨#[32, 84, 88, 89, 71]⟩ : ByteArray) a1; replace p7 := eq_true p7; replace q7 := eq_true q7))
          go_loopg [7] k (fun kq v7 w' => ∃ (x7_1 : Int), v7 = .int .i64 x7_1 ∧ Aside0 (meddlerref8_uses.l0 kq (rdOf ByteArray.empty y101 a0) (bt (⟨#[32, 84, 88, 89, 71]⟩ : ByteArray) a1) x7_1 = some r) ∧ Aside0 (kq ≤ k) ∧ Aside0 (Below w.heap.size w w'))
          case atStart => exact ⟨(0), (by first | rfl | (simp; done) | (simp [*]; done)), H', ⟨Nat.le_refl _⟩, ⟨by repeat (first | (with_reducible first | exact HB.out | apply below_alloc | apply pw_below_drewN | apply below_drew1) | exact HB.out)⟩⟩
          case round =>
            clear H'
            try clear p1
            try clear q1
            try clear hx1
            try clear p2
            try clear c3
            try clear c3b0
            try clear c4
            try clear c4b0
            try clear c5
            try clear c5b0
            try clear c6
            try clear c6b0
            try clear c7
            try clear p7
            try clear q7
            try clear hx7
            try clear p10
            try clear q10
            try clear hx10
            try clear hx104_0
            try clear p104
            try clear p7
            try clear q104
            try clear q7
            obtain ⟨x7_1, rfl, HA, HK1, HB⟩ := hrel
            cases gk with
            | zero => exact absurd HA.out (by simp [meddlerref8_uses.l0])
            | succ k1 =>
              have H := HA.out
              clear HA
              simp only [meddlerref8_uses.l0] at H
              by_cases c11 : x7_1 < ((rdOf ByteArray.empty y101 a0).size : Int)
              · rw [if_pos c11] at H
                have c11b0 : decide (x7_1 < ((rdOf ByteArray.empty y101 a0).size : Int)) = true := decide_eq_true c11
                clear c11
                by_cases c12 : 0 ≤ x7_1
                · rw [if_pos c12] at H
                  have c12b0 : decide (0 ≤ x7_1) = true := decide_eq_true c12
                  clear c12
                  by_cases c14 : (bt (rdOf ByteArray.empty y101 a0) x7_1) = (bt (⟨#[32, 84, 88, 89, 71]⟩ : ByteArray) a1)
                  · rw [if_pos c14] at H
                    have c14b0 : ((bt (rdOf ByteArray.empty y101 a0) x7_1) == (bt (⟨#[32, 84, 88, 89, 71]⟩ : ByteArray) a1)) = true := beq_iff_eq.mpr c14
                    have c14b1 : ((bt (rdOf ByteArray.empty y101 a0) x7_1) != (bt (⟨#[32, 84, 88, 89, 71]⟩ : ByteArray) a1)) = false := bne_eq_false_iff_eq.mpr c14
                    clear c14
                    obtain rfl := Option.some.inj H
                    have p13 : 0 ≤ (x7_1 : Int) := of_decide_eq_true (by first | (with_reducible assumption) | assumption)
                    have q13 : x7_1 < ((rdOf ByteArray.empty y101 a0).size : Int) := of_decide_eq_true (by first | (with_reducible assumption) | assumption)
                    have hx13 := bt_at (rdOf ByteArray.empty y101 a0) x7_1
                    replace p13 := eq_true p13
                    replace q13 := eq_true q13
                    go_wp2
                    go_ret
                    exact ⟨by first | rfl | (simp [errW_none, errW_some] <;> rfl) | (simp [*, errW_none, errW_some] <;> rfl), by repeat (first | (with_reducible first | exact HB.out | apply below_alloc | apply pw_below_drewN | apply below_drew1) | exact HB.out)⟩
                  · rw [if_neg c14] at H
                    have c14b0 : ((bt (rdOf ByteArray.empty y101 a0) x7_1) == (bt (⟨#[32, 84, 88, 89, 71]⟩ : ByteArray) a1)) = false := beq_eq_false_iff_ne.mpr c14
                    have c14b1 : ((bt (rdOf ByteArray.empty y101 a0) x7_1) != (bt (⟨#[32, 84, 88, 89, 71]⟩ : ByteArray) a1)) = true := bne_iff_ne.mpr c14
                    have H' := Aside0.mk H
                    clear H
                    have p13 : 0 ≤ (x7_1 : Int) := of_decide_eq_true (by first | (with_reducible assumption) | assumption)
                    have q13 : x7_1 < ((rdOf ByteArray.empty y101 a0).size : Int) := of_decide_eq_true (by first | (with_reducible assumption) | assumption)
                    have hx13 := bt_at (rdOf ByteArray.empty y101 a0) x7_1
                    replace p13 := eq_true p13
                    replace q13 := eq_true q13
                    go_wp2
                    go_roundg k1
                    case measure => have := HK1.out; omega
                    case rel => exact ⟨(wrap64 (x7_1 + 1)), (by first | rfl | (simp; done) | (simp [*]; done)), H', ⟨by have := HK1.out; omega⟩, ⟨by repeat (first | (with_reducible first | exact HB.out | apply below_alloc | apply pw_below_drewN | apply below_drew1) | exact HB.out)⟩⟩
                · rw [if_neg c12] at H
                  exact absurd H (by simp)
              · rw [if_neg c11] at H
                have c11b0 : decide (x7_1 < ((rdOf ByteArray.empty y101 a0).size : Int)) = false := decide_eq_false c11
                clear c11
                obtain rfl := Option.some.inj H
                go_wp2
                go_ret
                exact ⟨by first | rfl | (simp [errW_none, errW_some] <;> rfl) | (simp [*, errW_none, errW_some] <;> rfl), by repeat (first | (with_reducible first | exact HB.out | apply below_alloc | apply pw_below_drewN | apply below_drew1) | exact HB.out)⟩
        · rw [if_neg c6] at H
          exact absurd H (by simp)
      · rw [if_neg c5] at H
        exact absurd H (by simp)
    · rw [if_neg c4] at H
      exact absurd H (by simp)
  · rw [if_neg c3] at H
    exact absurd H (by simp)
end Go.Proofs.Ytikjamcemnbhbaa.Mr
