/- meddlerref8.act. -/
import Derived.Deep.DeepCutAuto
import Derived.Deep.CutBlock
import Derived.BigQuiet
import Derived.Test.YtikjamcemnbhbaaMrF53
import Derived.Test.YtikjamcemnbhbaaMrF68
import Derived.Test.YtikjamcemnbhbaaMrPkA
namespace Go.Proofs.Ytikjamcemnbhbaa.Mr
open Go.RowKit Go.Proofs.YtikjamcemnbhbaaW.PrintWords Go.Proofs.YtikjamcemnbhbaaW.PrintLast
set_option linter.unusedVariables false
set_option linter.unusedSimpArgs false
section
def in8 (k n : Int) : Bool := decide (0 ≤ k) && decide (k < n)
/-- Does a Kind name T (1), X (2), Y (3), G (4)? -/
def usesP (k f : Int) : Bool :=
  if f = 1 then k == 1 || k == 2 || k == 3 || k == 4 || k == 5 || k == 7
  else if f = 2 then k == 2 || k == 4 || k == 6 || k == 7 || k == 8 || k == 11
  else if f = 3 then k == 4 || k == 8 || k == 11
  else k == 5 || k == 6 || k == 7 || k == 8 || k == 9 || k == 10
def hasB (k f v n : Int) : Bool := if usesP k f then in8 v n else v == 0
theorem in8_ok (k n : Int) : meddlerref8_in.f k n = some (in8 k n) := by
  unfold meddlerref8_in.f in8
  by_cases h : 0 ≤ k <;> simp [h]
theorem fit8_ok (k : Int) : meddlerref1_Fits.f k = some (fitsB k) := by
  unfold meddlerref1_Fits.f fitsB
  by_cases h : -2147483648 ≤ k <;> simp [h]
theorem uses_ok (k f : Int) (hk : 1 ≤ k ∧ k ≤ 14) (hf : 1 ≤ f ∧ f ≤ 4) : meddlerref8_uses.f 6 k f = some (usesP k f) := by
  rcases (by omega : k = 1 ∨ k = 2 ∨ k = 3 ∨ k = 4 ∨ k = 5 ∨ k = 6 ∨ k = 7 ∨ k = 8 ∨ k = 9 ∨ k = 10 ∨ k = 11 ∨ k = 12 ∨ k = 13 ∨ k = 14) with rfl | rfl | rfl | rfl | rfl | rfl | rfl | rfl | rfl | rfl | rfl | rfl | rfl | rfl <;> rcases (by omega : f = 1 ∨ f = 2 ∨ f = 3 ∨ f = 4) with rfl | rfl | rfl | rfl <;> decide +kernel
theorem has_ok (k f v n : Int) (hk : 1 ≤ k ∧ k ≤ 14) (hf : 1 ≤ f ∧ f ≤ 4) : meddlerref8_has.f 6 k f v n = some (hasB k f v n) := by
  unfold meddlerref8_has.f hasB
  rw [uses_ok k f hk hf, in8_ok]
  cases usesP k f <;> rfl
theorem has_calls (k f v n : Int) (hk : 1 ≤ k ∧ k ≤ 14) (hf : 1 ≤ f ∧ f ≤ 4) (w : World) : Calls Try.prog 68 #[.int .i64 k, .int .i64 f, .int .i64 v, .int .i64 n] w fun e w' => e = .returned (.bool (hasB k f v n)) ∧ Below w.heap.size w w' :=
  meddlerref8_has.calls 6 k f v n _ w (has_ok k f v n hk hf)
theorem in8_calls (k n : Int) (w : World) : Calls Try.prog 52 #[.int .i64 k, .int .i64 n] w fun e w' => e = .returned (.bool (in8 k n)) ∧ Drawn0 w w' :=
  meddlerref8_in.calls k n _ w (in8_ok k n)
theorem fit8_calls (k : Int) (w : World) : Calls Try.prog 53 #[.int .i64 k] w fun e w' => e = .returned (.bool (fitsB k)) ∧ Drawn0 w w' :=
  meddlerref1_Fits.calls k _ w (fit8_ok k)
end
section
def bT (nv k : Int) (f : Int) : Int := if usesP k f then nv else 0
def bG (ng na m k : Int) : Int := if k = 5 ∨ k = 6 then ng else if k = 7 ∨ k = 8 then na else if k = 9 ∨ k = 10 then m else 0
def bO (k : Int) : Int := if k = 4 then 6 else if k = 11 then 7 else 0
def act1 (nl : Int) (a : S33) : Bool := !((a.f0 != 1 && a.f5 != 0) || !fitsB a.f5 || !in8 a.f7 nl || !in8 a.f8 nl || (a.f0 != 11 && a.f8 != 0))
def act2 (a : S33) : Bool := !((decide (0 < bO a.f0) && (decide (a.f6 < 1) || decide (bO a.f0 ≤ a.f6))) || (bO a.f0 == 0 && a.f6 != 0))
def act3 (ng na m nv : Int) (a : S33) : Bool := hasB a.f0 1 a.f1 (bT nv a.f0 1) && hasB a.f0 2 a.f2 (bT nv a.f0 2) && hasB a.f0 3 a.f3 (bT nv a.f0 3) && hasB a.f0 4 a.f4 (bG ng na m a.f0)
def actB (ng na m nv nl : Int) (a : S33) : Bool := decide (1 ≤ a.f0 ∧ a.f0 ≤ 14) && (act1 nl a && (act2 a && act3 ng na m nv a))
theorem actB_no0 {ng na m nv nl : Int} {a : S33} (h : ¬ (1 ≤ a.f0 ∧ a.f0 ≤ 14)) : actB ng na m nv nl a = false := by unfold actB; rw [decide_eq_false h]; rfl
theorem actB_no1 {ng na m nv nl : Int} {a : S33} (h : act1 nl a = false) : actB ng na m nv nl a = false := by unfold actB; rw [h]; simp
theorem actB_no2 {ng na m nv nl : Int} {a : S33} (h : act2 a = false) : actB ng na m nv nl a = false := by unfold actB; rw [h]; simp
theorem actB_no3 {ng na m nv nl : Int} {a : S33} (h : act3 ng na m nv a = false) : actB ng na m nv nl a = false := by unfold actB; rw [h]; simp
theorem actB_yes {ng na m nv nl : Int} {a : S33} (h0 : 1 ≤ a.f0 ∧ a.f0 ≤ 14) (h1 : act1 nl a = true) (h2 : act2 a = true) (h3 : act3 ng na m nv a = true) : actB ng na m nv nl a = true := by unfold actB; rw [decide_eq_true h0, h1, h2, h3]; rfl
theorem ret_b {b c : Bool} (h : b = c) : Ending.returned (.bool c) = Ending.returned (.bool b) := by rw [h]
theorem nb_t {b : Bool} (h : b = false) : Value.bool true = .bool (!b) := by rw [h]; rfl
theorem nb_f {b : Bool} (h : b = true) : Value.bool false = .bool (!b) := by rw [h]; rfl
theorem act1_of1 {nl : Int} {a : S33} (h : a.f0 ≠ 1) (k : a.f5 ≠ 0) : act1 nl a = false := by simp [act1, h, k]
theorem act1_of2 {nl : Int} {a : S33} (h : fitsB a.f5 = false) : act1 nl a = false := by simp [act1, h]
theorem act1_of3 {nl : Int} {a : S33} (h : in8 a.f7 nl = false) : act1 nl a = false := by simp [act1, h]
theorem act1_of4 {nl : Int} {a : S33} (h : in8 a.f8 nl = false) : act1 nl a = false := by simp [act1, h]
theorem act1_of5 {nl : Int} {a : S33} (h : a.f0 ≠ 11) (k : a.f8 ≠ 0) : act1 nl a = false := by simp [act1, h, k]
theorem act1_ok {nl : Int} {a : S33} (h1 : a.f0 = 1 ∨ a.f5 = 0) (h2 : fitsB a.f5 = true) (h3 : in8 a.f7 nl = true) (h4 : in8 a.f8 nl = true) (h5 : a.f0 = 11 ∨ a.f8 = 0) : act1 nl a = true := by
  rcases h1 with h1 | h1 <;> rcases h5 with h5 | h5 <;> simp_all [act1]
theorem bO_nn (k : Int) : 0 ≤ bO k := by unfold bO; split; · decide
                                         split <;> decide
theorem act2_of1 {a : S33} (h : 0 < bO a.f0) (k : a.f6 < 1) : act2 a = false := by simp [act2, h, k]
theorem act2_of2 {a : S33} (h : 0 < bO a.f0) (k : bO a.f0 ≤ a.f6) : act2 a = false := by simp [act2, h, k]
theorem act2_of3 {a : S33} (h : 0 = bO a.f0) (k : a.f6 ≠ 0) : act2 a = false := by simp [act2, ← h, k]
theorem act2_ok1 {a : S33} (h : 0 < bO a.f0) (k : 1 ≤ a.f6 ∧ a.f6 < bO a.f0) : act2 a = true := by
  have h1 : ¬ a.f6 < 1 := by omega
  have h2 : ¬ bO a.f0 ≤ a.f6 := by omega
  have h3 : ¬ bO a.f0 = 0 := by omega
  simp [act2, h, h1, h2, h3]
theorem act2_ok2 {a : S33} (h : 0 = bO a.f0) (k : a.f6 = 0) : act2 a = true := by simp [act2, ← h, k]
theorem act3_of1 {ng na m nv : Int} {a : S33} (h : hasB a.f0 1 a.f1 (bT nv a.f0 1) = false) : act3 ng na m nv a = false := by simp [act3, h]
theorem act3_of2 {ng na m nv : Int} {a : S33} (h : hasB a.f0 2 a.f2 (bT nv a.f0 2) = false) : act3 ng na m nv a = false := by simp [act3, h]
theorem act3_of3 {ng na m nv : Int} {a : S33} (h : hasB a.f0 3 a.f3 (bT nv a.f0 3) = false) : act3 ng na m nv a = false := by simp [act3, h]
theorem act3_of4 {ng na m nv : Int} {a : S33} (h : hasB a.f0 4 a.f4 (bG ng na m a.f0) = false) : act3 ng na m nv a = false := by simp [act3, h]
theorem act3_ok {ng na m nv : Int} {a : S33} (h1 : hasB a.f0 1 a.f1 (bT nv a.f0 1) = true) (h2 : hasB a.f0 2 a.f2 (bT nv a.f0 2) = true) (h3 : hasB a.f0 3 a.f3 (bT nv a.f0 3) = true) (h4 : hasB a.f0 4 a.f4 (bG ng na m a.f0) = true) : act3 ng na m nv a = true := by simp [act3, h1, h2, h3, h4]
set_option maxHeartbeats 8000000 in
set_option maxRecDepth 100000 in
theorem act_calls (w : World) (Ag : Option Addr) (ng cg : Nat) (Aa : Option Addr) (na ca : Nat) (m : Int) (At : Option Addr) (nt ct : Nat) (nv : Int) (Ac : Option Addr) (nl cc : Nat) (a : S33) :
    Calls Try.prog 54 #[.agg #[.slice Ag ng cg, .slice Aa na ca, .int .i64 m, .slice At nt ct], .agg #[.int .i64 nv, .slice Ac nl cc], .agg #[.int .i64 a.f0, .int .i64 a.f1, .int .i64 a.f2, .int .i64 a.f3, .int .i64 a.f4, .int .i64 a.f5, .int .i64 a.f6, .int .i64 a.f7, .int .i64 a.f8]] w fun e w' => e = .returned (.bool (actB ng na m nv nl a)) ∧ Below w.heap.size w w' := by
  go_enter Try.func54, Try.ntmps54
  go_wp2_with (first | ((with_reducible refine gate_dst (N := 3) rfl ?_); refine box_event ?hg (N := 3) ?hd (cs := #[.slice Ag ng cg, .slice Aa na ca, .int .i64 m, .slice At nt ct]) (t := 25) ?hr ?_; (case hd => rfl); (case hg => rfl); (case hr => first | (go_simp; done) | (go_simp; rfl)); intro gu hgu w1 hbx1 hb1; have HU1 := Aside0.mk hbx1; have HB1 := Aside0.mk hb1; clear hgu hbx1 hb1) | ((with_reducible refine gate_dst (N := 4) rfl ?_); refine box_event ?hg (N := 4) ?hd (cs := #[.int .i64 nv, .slice Ac nl cc]) (t := 49) ?hr ?_; (case hd => rfl); (case hg => rfl); (case hr => first | (go_simp; done) | (go_simp; rfl)); intro gc hgc w2 hbx2 hb2; have HC2 := Aside0.mk hbx2; have HB2 := Aside0.mk (below_on HB1.out hb2); have HU2 := Aside0.mk (below_read hb2 HU1.out); clear hgc hbx2 hb2) | ((with_reducible refine gate_dst (N := 5) rfl ?_); refine box_event ?hg (N := 5) ?hd (cs := #[.int .i64 a.f0, .int .i64 a.f1, .int .i64 a.f2, .int .i64 a.f3, .int .i64 a.f4, .int .i64 a.f5, .int .i64 a.f6, .int .i64 a.f7, .int .i64 a.f8]) (t := 33) ?hr ?_; (case hd => rfl); (case hg => rfl); (case hr => first | (go_simp; done) | (go_simp; rfl)); intro ga hga w3 hbx3 hb3; have HY3 := Aside0.mk hbx3; have HB3 := Aside0.mk (below_on HB2.out hb3); have HU3 := Aside0.mk (below_read hb3 HU2.out); have HC3 := Aside0.mk (below_read hb3 HC2.out); have hk0 : w3.cell? ⟨gc, 0, none⟩ = some (.int .i64 nv) := (blk_cell HC3.out 0).trans rfl; have hk1 : w3.cell? ⟨gc, 1, none⟩ = some (.slice Ac nl cc) := (blk_cell HC3.out 1).trans rfl; have hy0 : w3.cell? ⟨ga, 0, none⟩ = some (.int .i64 a.f0) := (blk_cell HY3.out 0).trans rfl; have hu0 : w3.cell? ⟨gu, 0, none⟩ = some (.slice Ag ng cg) := (blk_cell HU3.out 0).trans rfl; have hu1 : w3.cell? ⟨gu, 1, none⟩ = some (.slice Aa na ca) := (blk_cell HU3.out 1).trans rfl; have hu2 : w3.cell? ⟨gu, 2, none⟩ = some (.int .i64 m) := (blk_cell HU3.out 2).trans rfl; clear hga hbx3 hb3))
  go_quiet (fail)
  go_upto_block 0 with (fail)
  have HB4 := Aside0.mk (pw_below_drewN HB3.out nq)
  have hbn := pw_below_drewN (Below.refl w3.heap.size w3) nq
  have HY4 := Aside0.mk (below_read hbn HY3.out)
  have HU4 := Aside0.mk (below_read hbn HU3.out)
  clear hbn hk0 hk1 hy0 hu0 hu1 hu2
  generalize w3.drewN nq = w4 at *
  clear HB1 HB2 HB3 HU1 HU2 HU3 HC2 HC3 HY3
  go_cut [9, 10, 11, 12, 13] (fun s9 s10 s11 s12 s13 wx => Aside0 (1 ≤ a.f0 ∧ a.f0 ≤ 14) ∧ s9 = .int .i64 (bT nv a.f0 1) ∧ s10 = .int .i64 (bT nv a.f0 2) ∧ s11 = .int .i64 (bT nv a.f0 3) ∧ s12 = .int .i64 (bG ng na m a.f0) ∧ s13 = .int .i64 (bO a.f0) ∧ Aside0 (Below w4.heap.size w4 wx))
  case first =>
    as_aux_lemma =>
      have hu0 : w4.cell? ⟨gu, 0, none⟩ = some (.slice Ag ng cg) := (blk_cell HU4.out 0).trans rfl
      have hu1 : w4.cell? ⟨gu, 1, none⟩ = some (.slice Aa na ca) := (blk_cell HU4.out 1).trans rfl
      have hu2 : w4.cell? ⟨gu, 2, none⟩ = some (.int .i64 m) := (blk_cell HU4.out 2).trans rfl
      have hy0 : w4.cell? ⟨ga, 0, none⟩ = some (.int .i64 a.f0) := (blk_cell HY4.out 0).trans rfl
      by_cases hk : 1 ≤ a.f0 ∧ a.f0 ≤ 14
      · generalize a.f0 = k at *
        rcases (by omega : k = 1 ∨ k = 2 ∨ k = 3 ∨ k = 4 ∨ k = 5 ∨ k = 6 ∨ k = 7 ∨ k = 8 ∨ k = 9 ∨ k = 10 ∨ k = 11 ∨ k = 12 ∨ k = 13 ∨ k = 14) with rfl | rfl | rfl | rfl | rfl | rfl | rfl | rfl | rfl | rfl | rfl | rfl | rfl | rfl
        all_goals (have HKK := Aside0.mk hk; clear hk; go_wp2_with (fail))
        all_goals first
          | (go_meet; exact ⟨HKK, rfl, rfl, rfl, rfl, rfl, ⟨Below.refl _ _⟩⟩)
          | (go_quiet (fail)
             have HD := Aside0.mk (pw_below_drewN (Below.refl w4.heap.size w4) nq)
             clear hu0 hu1 hu2 hy0
             generalize w4.drewN nq = w5 at *
             go_wp2_with (fail)
             go_meet
             exact ⟨HKK, rfl, rfl, rfl, rfl, rfl, HD⟩)
      · have HNO := Aside0.mk (actB_no0 (ng := ng) (na := na) (m := m) (nv := nv) (nl := nl) (a := a) hk)
        obtain ⟨n1, n2, n3, n4, n5, n6, n7, n8, n9, n10, n11, n12, n13, n14⟩ : ¬ a.f0 = 1 ∧ ¬ a.f0 = 2 ∧ ¬ a.f0 = 3 ∧ ¬ a.f0 = 4 ∧ ¬ a.f0 = 5 ∧ ¬ a.f0 = 6 ∧ ¬ a.f0 = 7 ∧ ¬ a.f0 = 8 ∧ ¬ a.f0 = 9 ∧ ¬ a.f0 = 10 ∧ ¬ a.f0 = 11 ∧ ¬ a.f0 = 12 ∧ ¬ a.f0 = 13 ∧ ¬ a.f0 = 14 := by omega
        clear hk
        go_wp2_with (fail)
        go_ret
        exact ⟨ret_b HNO.out, HB4.out⟩
  case rest =>
    generalize wc = wx at *
    obtain ⟨HK, rfl, rfl, rfl, rfl, rfl, HD⟩ := hcut
    have HYx := Aside0.mk (below_read HD.out HY4.out)
    obtain ⟨x9, hx9⟩ : ∃ x, x = bT nv a.f0 1 := ⟨_, rfl⟩
    obtain ⟨x10, hx10⟩ : ∃ x, x = bT nv a.f0 2 := ⟨_, rfl⟩
    obtain ⟨x11, hx11⟩ : ∃ x, x = bT nv a.f0 3 := ⟨_, rfl⟩
    obtain ⟨x12, hx12⟩ : ∃ x, x = bG ng na m a.f0 := ⟨_, rfl⟩
    obtain ⟨x13, hx13⟩ : ∃ x, x = bO a.f0 := ⟨_, rfl⟩
    rw [← hx9, ← hx10, ← hx11, ← hx12, ← hx13]
    have H9 := Aside0.mk hx9
    have H10 := Aside0.mk hx10
    have H11 := Aside0.mk hx11
    have H12 := Aside0.mk hx12
    have H13 := Aside0.mk hx13
    clear hx9 hx10 hx11 hx12 hx13
    go_upto_region 28 with (fail)
    go_cut [9, 10, 11, 12, 13, 110] (fun s9 s10 s11 s12 s13 s110 wy => s110 = .bool (!act1 nl a) ∧ s9 = .int .i64 x9 ∧ s10 = .int .i64 x10 ∧ s11 = .int .i64 x11 ∧ s12 = .int .i64 x12 ∧ s13 = .int .i64 x13 ∧ Aside0 (Below wx.heap.size wx wy))
    case first =>
      as_aux_lemma =>
        have HDx := Aside0.mk (Below.refl wx.heap.size wx)
        have hy0 : wx.cell? ⟨ga, 0, none⟩ = some (.int .i64 a.f0) := (blk_cell HYx.out 0).trans rfl
        have hy5 : wx.cell? ⟨ga, 5, none⟩ = some (.int .i64 a.f5) := (blk_cell HYx.out 5).trans rfl
        have hy7 : wx.cell? ⟨ga, 7, none⟩ = some (.int .i64 a.f7) := (blk_cell HYx.out 7).trans rfl
        have hy8 : wx.cell? ⟨ga, 8, none⟩ = some (.int .i64 a.f8) := (blk_cell HYx.out 8).trans rfl
        by_cases c1 : a.f0 = 1
        · have C1 : Aside0 (a.f0 = 1 ∨ a.f5 = 0) := ⟨.inl c1⟩
          have ec1 : (a.f0 == 1) = true := beq_iff_eq.mpr c1
          have nc1 : (a.f0 != 1) = false := by rw [bne, ec1]; rfl
          replace c1 := Aside0.mk c1
          rcases hf : fitsB a.f5 with _ | _
          · have HF := Aside0.mk hf
            have HNO := Aside0.mk (act1_of2 (nl := nl) (a := a) HF.out)
            go_wp2_with (first | (go_at_call 53; (with_reducible refine (fit8_calls _ _).mono ?_); rintro e w9 ⟨rfl, hd⟩; replace hd := hd.below; have hb := hd; replace hy0 := pw_cell_below hb hy0; replace hy5 := pw_cell_below hb hy5; replace hy7 := pw_cell_below hb hy7; replace hy8 := pw_cell_below hb hy8; replace HDx := Aside0.mk (below_on HDx.out hb); clear hb hd) | (go_at_call 52; (with_reducible refine (in8_calls _ _ _).mono ?_); rintro e w9 ⟨rfl, hd⟩; replace hd := hd.below; have hb := hd; replace hy0 := pw_cell_below hb hy0; replace hy5 := pw_cell_below hb hy5; replace hy7 := pw_cell_below hb hy7; replace hy8 := pw_cell_below hb hy8; replace HDx := Aside0.mk (below_on HDx.out hb); clear hb hd))
            go_meet
            exact ⟨nb_t HNO.out, rfl, rfl, rfl, rfl, rfl, HDx⟩
          rcases h7 : in8 a.f7 nl with _ | _
          · have H7 := Aside0.mk h7
            have HNO := Aside0.mk (act1_of3 (nl := nl) (a := a) H7.out)
            go_wp2_with (first | (go_at_call 53; (with_reducible refine (fit8_calls _ _).mono ?_); rintro e w9 ⟨rfl, hd⟩; replace hd := hd.below; have hb := hd; replace hy0 := pw_cell_below hb hy0; replace hy5 := pw_cell_below hb hy5; replace hy7 := pw_cell_below hb hy7; replace hy8 := pw_cell_below hb hy8; replace HDx := Aside0.mk (below_on HDx.out hb); clear hb hd) | (go_at_call 52; (with_reducible refine (in8_calls _ _ _).mono ?_); rintro e w9 ⟨rfl, hd⟩; replace hd := hd.below; have hb := hd; replace hy0 := pw_cell_below hb hy0; replace hy5 := pw_cell_below hb hy5; replace hy7 := pw_cell_below hb hy7; replace hy8 := pw_cell_below hb hy8; replace HDx := Aside0.mk (below_on HDx.out hb); clear hb hd))
            go_meet
            exact ⟨nb_t HNO.out, rfl, rfl, rfl, rfl, rfl, HDx⟩
          rcases h8 : in8 a.f8 nl with _ | _
          · have H8 := Aside0.mk h8
            have HNO := Aside0.mk (act1_of4 (nl := nl) (a := a) H8.out)
            go_wp2_with (first | (go_at_call 53; (with_reducible refine (fit8_calls _ _).mono ?_); rintro e w9 ⟨rfl, hd⟩; replace hd := hd.below; have hb := hd; replace hy0 := pw_cell_below hb hy0; replace hy5 := pw_cell_below hb hy5; replace hy7 := pw_cell_below hb hy7; replace hy8 := pw_cell_below hb hy8; replace HDx := Aside0.mk (below_on HDx.out hb); clear hb hd) | (go_at_call 52; (with_reducible refine (in8_calls _ _ _).mono ?_); rintro e w9 ⟨rfl, hd⟩; replace hd := hd.below; have hb := hd; replace hy0 := pw_cell_below hb hy0; replace hy5 := pw_cell_below hb hy5; replace hy7 := pw_cell_below hb hy7; replace hy8 := pw_cell_below hb hy8; replace HDx := Aside0.mk (below_on HDx.out hb); clear hb hd))
            go_meet
            exact ⟨nb_t HNO.out, rfl, rfl, rfl, rfl, rfl, HDx⟩
          have HF := Aside0.mk hf
          have H7 := Aside0.mk h7
          have H8 := Aside0.mk h8
          by_cases c11 : a.f0 = 11
          · have ec11 : (a.f0 == 11) = true := beq_iff_eq.mpr c11
            have nc11 : (a.f0 != 11) = false := by rw [bne, ec11]; rfl
            replace c11 := Aside0.mk c11
            have HOK := Aside0.mk (act1_ok (nl := nl) (a := a) C1.out HF.out H7.out H8.out (.inl c11.out))
            go_wp2_with (first | (go_at_call 53; (with_reducible refine (fit8_calls _ _).mono ?_); rintro e w9 ⟨rfl, hd⟩; replace hd := hd.below; have hb := hd; replace hy0 := pw_cell_below hb hy0; replace hy5 := pw_cell_below hb hy5; replace hy7 := pw_cell_below hb hy7; replace hy8 := pw_cell_below hb hy8; replace HDx := Aside0.mk (below_on HDx.out hb); clear hb hd) | (go_at_call 52; (with_reducible refine (in8_calls _ _ _).mono ?_); rintro e w9 ⟨rfl, hd⟩; replace hd := hd.below; have hb := hd; replace hy0 := pw_cell_below hb hy0; replace hy5 := pw_cell_below hb hy5; replace hy7 := pw_cell_below hb hy7; replace hy8 := pw_cell_below hb hy8; replace HDx := Aside0.mk (below_on HDx.out hb); clear hb hd))
            go_meet
            exact ⟨nb_f HOK.out, rfl, rfl, rfl, rfl, rfl, HDx⟩
          · have ec11 : (a.f0 == 11) = false := beq_eq_false_iff_ne.mpr c11
            have nc11 : (a.f0 != 11) = true := by rw [bne, ec11]; rfl
            replace c11 := Aside0.mk c11
            by_cases c8 : a.f8 = 0
            · have ec8 : (a.f8 == 0) = true := beq_iff_eq.mpr c8
              have nc8 : (a.f8 != 0) = false := by rw [bne, ec8]; rfl
              replace c8 := Aside0.mk c8
              have HOK := Aside0.mk (act1_ok (nl := nl) (a := a) C1.out HF.out H7.out H8.out (.inr c8.out))
              go_wp2_with (first | (go_at_call 53; (with_reducible refine (fit8_calls _ _).mono ?_); rintro e w9 ⟨rfl, hd⟩; replace hd := hd.below; have hb := hd; replace hy0 := pw_cell_below hb hy0; replace hy5 := pw_cell_below hb hy5; replace hy7 := pw_cell_below hb hy7; replace hy8 := pw_cell_below hb hy8; replace HDx := Aside0.mk (below_on HDx.out hb); clear hb hd) | (go_at_call 52; (with_reducible refine (in8_calls _ _ _).mono ?_); rintro e w9 ⟨rfl, hd⟩; replace hd := hd.below; have hb := hd; replace hy0 := pw_cell_below hb hy0; replace hy5 := pw_cell_below hb hy5; replace hy7 := pw_cell_below hb hy7; replace hy8 := pw_cell_below hb hy8; replace HDx := Aside0.mk (below_on HDx.out hb); clear hb hd))
              go_meet
              exact ⟨nb_f HOK.out, rfl, rfl, rfl, rfl, rfl, HDx⟩
            · have ec8 : (a.f8 == 0) = false := beq_eq_false_iff_ne.mpr c8
              have nc8 : (a.f8 != 0) = true := by rw [bne, ec8]; rfl
              replace c8 := Aside0.mk c8
              have HNO := Aside0.mk (act1_of5 (nl := nl) (a := a) c11.out c8.out)
              go_wp2_with (first | (go_at_call 53; (with_reducible refine (fit8_calls _ _).mono ?_); rintro e w9 ⟨rfl, hd⟩; replace hd := hd.below; have hb := hd; replace hy0 := pw_cell_below hb hy0; replace hy5 := pw_cell_below hb hy5; replace hy7 := pw_cell_below hb hy7; replace hy8 := pw_cell_below hb hy8; replace HDx := Aside0.mk (below_on HDx.out hb); clear hb hd) | (go_at_call 52; (with_reducible refine (in8_calls _ _ _).mono ?_); rintro e w9 ⟨rfl, hd⟩; replace hd := hd.below; have hb := hd; replace hy0 := pw_cell_below hb hy0; replace hy5 := pw_cell_below hb hy5; replace hy7 := pw_cell_below hb hy7; replace hy8 := pw_cell_below hb hy8; replace HDx := Aside0.mk (below_on HDx.out hb); clear hb hd))
              go_meet
              exact ⟨nb_t HNO.out, rfl, rfl, rfl, rfl, rfl, HDx⟩
        · have ec1 : (a.f0 == 1) = false := beq_eq_false_iff_ne.mpr c1
          have nc1 : (a.f0 != 1) = true := by rw [bne, ec1]; rfl
          replace c1 := Aside0.mk c1
          by_cases c5 : a.f5 = 0
          · have C1 : Aside0 (a.f0 = 1 ∨ a.f5 = 0) := ⟨.inr c5⟩
            have ec5 : (a.f5 == 0) = true := beq_iff_eq.mpr c5
            have nc5 : (a.f5 != 0) = false := by rw [bne, ec5]; rfl
            replace c5 := Aside0.mk c5
            rcases hf : fitsB a.f5 with _ | _
            · have HF := Aside0.mk hf
              have HNO := Aside0.mk (act1_of2 (nl := nl) (a := a) HF.out)
              go_wp2_with (first | (go_at_call 53; (with_reducible refine (fit8_calls _ _).mono ?_); rintro e w9 ⟨rfl, hd⟩; replace hd := hd.below; have hb := hd; replace hy0 := pw_cell_below hb hy0; replace hy5 := pw_cell_below hb hy5; replace hy7 := pw_cell_below hb hy7; replace hy8 := pw_cell_below hb hy8; replace HDx := Aside0.mk (below_on HDx.out hb); clear hb hd) | (go_at_call 52; (with_reducible refine (in8_calls _ _ _).mono ?_); rintro e w9 ⟨rfl, hd⟩; replace hd := hd.below; have hb := hd; replace hy0 := pw_cell_below hb hy0; replace hy5 := pw_cell_below hb hy5; replace hy7 := pw_cell_below hb hy7; replace hy8 := pw_cell_below hb hy8; replace HDx := Aside0.mk (below_on HDx.out hb); clear hb hd))
              go_meet
              exact ⟨nb_t HNO.out, rfl, rfl, rfl, rfl, rfl, HDx⟩
            rcases h7 : in8 a.f7 nl with _ | _
            · have H7 := Aside0.mk h7
              have HNO := Aside0.mk (act1_of3 (nl := nl) (a := a) H7.out)
              go_wp2_with (first | (go_at_call 53; (with_reducible refine (fit8_calls _ _).mono ?_); rintro e w9 ⟨rfl, hd⟩; replace hd := hd.below; have hb := hd; replace hy0 := pw_cell_below hb hy0; replace hy5 := pw_cell_below hb hy5; replace hy7 := pw_cell_below hb hy7; replace hy8 := pw_cell_below hb hy8; replace HDx := Aside0.mk (below_on HDx.out hb); clear hb hd) | (go_at_call 52; (with_reducible refine (in8_calls _ _ _).mono ?_); rintro e w9 ⟨rfl, hd⟩; replace hd := hd.below; have hb := hd; replace hy0 := pw_cell_below hb hy0; replace hy5 := pw_cell_below hb hy5; replace hy7 := pw_cell_below hb hy7; replace hy8 := pw_cell_below hb hy8; replace HDx := Aside0.mk (below_on HDx.out hb); clear hb hd))
              go_meet
              exact ⟨nb_t HNO.out, rfl, rfl, rfl, rfl, rfl, HDx⟩
            rcases h8 : in8 a.f8 nl with _ | _
            · have H8 := Aside0.mk h8
              have HNO := Aside0.mk (act1_of4 (nl := nl) (a := a) H8.out)
              go_wp2_with (first | (go_at_call 53; (with_reducible refine (fit8_calls _ _).mono ?_); rintro e w9 ⟨rfl, hd⟩; replace hd := hd.below; have hb := hd; replace hy0 := pw_cell_below hb hy0; replace hy5 := pw_cell_below hb hy5; replace hy7 := pw_cell_below hb hy7; replace hy8 := pw_cell_below hb hy8; replace HDx := Aside0.mk (below_on HDx.out hb); clear hb hd) | (go_at_call 52; (with_reducible refine (in8_calls _ _ _).mono ?_); rintro e w9 ⟨rfl, hd⟩; replace hd := hd.below; have hb := hd; replace hy0 := pw_cell_below hb hy0; replace hy5 := pw_cell_below hb hy5; replace hy7 := pw_cell_below hb hy7; replace hy8 := pw_cell_below hb hy8; replace HDx := Aside0.mk (below_on HDx.out hb); clear hb hd))
              go_meet
              exact ⟨nb_t HNO.out, rfl, rfl, rfl, rfl, rfl, HDx⟩
            have HF := Aside0.mk hf
            have H7 := Aside0.mk h7
            have H8 := Aside0.mk h8
            by_cases c11 : a.f0 = 11
            · have ec11 : (a.f0 == 11) = true := beq_iff_eq.mpr c11
              have nc11 : (a.f0 != 11) = false := by rw [bne, ec11]; rfl
              replace c11 := Aside0.mk c11
              have HOK := Aside0.mk (act1_ok (nl := nl) (a := a) C1.out HF.out H7.out H8.out (.inl c11.out))
              go_wp2_with (first | (go_at_call 53; (with_reducible refine (fit8_calls _ _).mono ?_); rintro e w9 ⟨rfl, hd⟩; replace hd := hd.below; have hb := hd; replace hy0 := pw_cell_below hb hy0; replace hy5 := pw_cell_below hb hy5; replace hy7 := pw_cell_below hb hy7; replace hy8 := pw_cell_below hb hy8; replace HDx := Aside0.mk (below_on HDx.out hb); clear hb hd) | (go_at_call 52; (with_reducible refine (in8_calls _ _ _).mono ?_); rintro e w9 ⟨rfl, hd⟩; replace hd := hd.below; have hb := hd; replace hy0 := pw_cell_below hb hy0; replace hy5 := pw_cell_below hb hy5; replace hy7 := pw_cell_below hb hy7; replace hy8 := pw_cell_below hb hy8; replace HDx := Aside0.mk (below_on HDx.out hb); clear hb hd))
              go_meet
              exact ⟨nb_f HOK.out, rfl, rfl, rfl, rfl, rfl, HDx⟩
            · have ec11 : (a.f0 == 11) = false := beq_eq_false_iff_ne.mpr c11
              have nc11 : (a.f0 != 11) = true := by rw [bne, ec11]; rfl
              replace c11 := Aside0.mk c11
              by_cases c8 : a.f8 = 0
              · have ec8 : (a.f8 == 0) = true := beq_iff_eq.mpr c8
                have nc8 : (a.f8 != 0) = false := by rw [bne, ec8]; rfl
                replace c8 := Aside0.mk c8
                have HOK := Aside0.mk (act1_ok (nl := nl) (a := a) C1.out HF.out H7.out H8.out (.inr c8.out))
                go_wp2_with (first | (go_at_call 53; (with_reducible refine (fit8_calls _ _).mono ?_); rintro e w9 ⟨rfl, hd⟩; replace hd := hd.below; have hb := hd; replace hy0 := pw_cell_below hb hy0; replace hy5 := pw_cell_below hb hy5; replace hy7 := pw_cell_below hb hy7; replace hy8 := pw_cell_below hb hy8; replace HDx := Aside0.mk (below_on HDx.out hb); clear hb hd) | (go_at_call 52; (with_reducible refine (in8_calls _ _ _).mono ?_); rintro e w9 ⟨rfl, hd⟩; replace hd := hd.below; have hb := hd; replace hy0 := pw_cell_below hb hy0; replace hy5 := pw_cell_below hb hy5; replace hy7 := pw_cell_below hb hy7; replace hy8 := pw_cell_below hb hy8; replace HDx := Aside0.mk (below_on HDx.out hb); clear hb hd))
                go_meet
                exact ⟨nb_f HOK.out, rfl, rfl, rfl, rfl, rfl, HDx⟩
              · have ec8 : (a.f8 == 0) = false := beq_eq_false_iff_ne.mpr c8
                have nc8 : (a.f8 != 0) = true := by rw [bne, ec8]; rfl
                replace c8 := Aside0.mk c8
                have HNO := Aside0.mk (act1_of5 (nl := nl) (a := a) c11.out c8.out)
                go_wp2_with (first | (go_at_call 53; (with_reducible refine (fit8_calls _ _).mono ?_); rintro e w9 ⟨rfl, hd⟩; replace hd := hd.below; have hb := hd; replace hy0 := pw_cell_below hb hy0; replace hy5 := pw_cell_below hb hy5; replace hy7 := pw_cell_below hb hy7; replace hy8 := pw_cell_below hb hy8; replace HDx := Aside0.mk (below_on HDx.out hb); clear hb hd) | (go_at_call 52; (with_reducible refine (in8_calls _ _ _).mono ?_); rintro e w9 ⟨rfl, hd⟩; replace hd := hd.below; have hb := hd; replace hy0 := pw_cell_below hb hy0; replace hy5 := pw_cell_below hb hy5; replace hy7 := pw_cell_below hb hy7; replace hy8 := pw_cell_below hb hy8; replace HDx := Aside0.mk (below_on HDx.out hb); clear hb hd))
                go_meet
                exact ⟨nb_t HNO.out, rfl, rfl, rfl, rfl, rfl, HDx⟩
          · have ec5 : (a.f5 == 0) = false := beq_eq_false_iff_ne.mpr c5
            have nc5 : (a.f5 != 0) = true := by rw [bne, ec5]; rfl
            replace c5 := Aside0.mk c5
            have HNO := Aside0.mk (act1_of1 (nl := nl) (a := a) c1.out c5.out)
            go_wp2_with (first | (go_at_call 53; (with_reducible refine (fit8_calls _ _).mono ?_); rintro e w9 ⟨rfl, hd⟩; replace hd := hd.below; have hb := hd; replace hy0 := pw_cell_below hb hy0; replace hy5 := pw_cell_below hb hy5; replace hy7 := pw_cell_below hb hy7; replace hy8 := pw_cell_below hb hy8; replace HDx := Aside0.mk (below_on HDx.out hb); clear hb hd) | (go_at_call 52; (with_reducible refine (in8_calls _ _ _).mono ?_); rintro e w9 ⟨rfl, hd⟩; replace hd := hd.below; have hb := hd; replace hy0 := pw_cell_below hb hy0; replace hy5 := pw_cell_below hb hy5; replace hy7 := pw_cell_below hb hy7; replace hy8 := pw_cell_below hb hy8; replace HDx := Aside0.mk (below_on HDx.out hb); clear hb hd))
            go_meet
            exact ⟨nb_t HNO.out, rfl, rfl, rfl, rfl, rfl, HDx⟩
    case rest =>
      generalize wc = wy at *
      obtain ⟨rfl, rfl, rfl, rfl, rfl, rfl, HDy⟩ := hcut
      replace HD := Aside0.mk (below_on HD.out HDy.out)
      replace HYx := Aside0.mk (below_read HDy.out HYx.out)
      clear HDy
      rcases h1 : act1 nl a with _ | _
      · have HNO := Aside0.mk (actB_no1 (ng := ng) (na := na) (m := m) (nv := nv) (nl := nl) (a := a) h1)
        clear h1
        go_wp2_with (fail)
        go_ret
        exact ⟨ret_b HNO.out, below_on HB4.out HD.out⟩
      have HOK1 := Aside0.mk h1
      clear h1
      go_upto_region 30 with (fail)
      go_cut [9, 10, 11, 12, 13, 132] (fun s9 s10 s11 s12 s13 s132 wz => s132 = .bool (!act2 a) ∧ s9 = .int .i64 x9 ∧ s10 = .int .i64 x10 ∧ s11 = .int .i64 x11 ∧ s12 = .int .i64 x12 ∧ s13 = .int .i64 x13 ∧ Aside0 (Below wy.heap.size wy wz))
      case first =>
        as_aux_lemma =>
          have HDx := Aside0.mk (Below.refl wy.heap.size wy)
          have hy6 : wy.cell? ⟨ga, 6, none⟩ = some (.int .i64 a.f6) := (blk_cell HYx.out 6).trans rfl
          by_cases o0 : 0 < x13
          · have d0 : decide (0 < x13) = true := decide_eq_true o0
            have z0 : (x13 == 0) = false := beq_eq_false_iff_ne.mpr (by omega)
            have O0 := Aside0.mk o0
            by_cases o1 : a.f6 < 1
            · have d1 : decide (a.f6 < 1) = true := decide_eq_true o1
              have O1 := Aside0.mk o1
              clear o0 o1
              have HNO := Aside0.mk (act2_of1 (a := a) (by rw [← H13.out]; exact O0.out) O1.out)
              go_wp2_with (fail)
              go_meet
              exact ⟨nb_t HNO.out, rfl, rfl, rfl, rfl, rfl, HDx⟩
            · have d1 : decide (a.f6 < 1) = false := decide_eq_false o1
              by_cases o2 : x13 ≤ a.f6
              · have d2 : decide (x13 ≤ a.f6) = true := decide_eq_true o2
                have O2 := Aside0.mk o2
                clear o0 o1 o2
                have HNO := Aside0.mk (act2_of2 (a := a) (by rw [← H13.out]; exact O0.out) (by rw [← H13.out]; exact O2.out))
                go_wp2_with (fail)
                go_meet
                exact ⟨nb_t HNO.out, rfl, rfl, rfl, rfl, rfl, HDx⟩
              · have d2 : decide (x13 ≤ a.f6) = false := decide_eq_false o2
                have HOK := Aside0.mk (act2_ok1 (a := a) (by rw [← H13.out]; exact O0.out) (by rw [← H13.out]; omega))
                clear o0 o1 o2
                go_wp2_with (fail)
                go_meet
                exact ⟨nb_f HOK.out, rfl, rfl, rfl, rfl, rfl, HDx⟩
          · have d0 : decide (0 < x13) = false := decide_eq_false o0
            have hz : x13 = 0 := by have := bO_nn a.f0; rw [← H13.out] at this; omega
            have z0 : (x13 == 0) = true := beq_iff_eq.mpr hz
            have HZ := Aside0.mk hz
            clear hz o0
            by_cases c6 : a.f6 = 0
            · have ec6 : (a.f6 == 0) = true := beq_iff_eq.mpr c6
              have nc6 : (a.f6 != 0) = false := by rw [bne, ec6]; rfl
              replace c6 := Aside0.mk c6
              have HOK := Aside0.mk (act2_ok2 (a := a) (by rw [← H13.out]; exact HZ.out.symm) c6.out)
              go_wp2_with (fail)
              go_meet
              exact ⟨nb_f HOK.out, rfl, rfl, rfl, rfl, rfl, HDx⟩
            · have ec6 : (a.f6 == 0) = false := beq_eq_false_iff_ne.mpr c6
              have nc6 : (a.f6 != 0) = true := by rw [bne, ec6]; rfl
              replace c6 := Aside0.mk c6
              have HNO := Aside0.mk (act2_of3 (a := a) (by rw [← H13.out]; exact HZ.out.symm) c6.out)
              go_wp2_with (fail)
              go_meet
              exact ⟨nb_t HNO.out, rfl, rfl, rfl, rfl, rfl, HDx⟩
      case rest =>
        generalize wc = wz at *
        obtain ⟨rfl, rfl, rfl, rfl, rfl, rfl, HDy⟩ := hcut
        replace HD := Aside0.mk (below_on HD.out HDy.out)
        replace HYx := Aside0.mk (below_read HDy.out HYx.out)
        clear HDy
        rcases h2 : act2 a with _ | _
        · have HNO := Aside0.mk (actB_no2 (ng := ng) (na := na) (m := m) (nv := nv) (nl := nl) (a := a) h2)
          clear h2
          go_wp2_with (fail)
          go_ret
          exact ⟨ret_b HNO.out, below_on HB4.out HD.out⟩
        have HOK2 := Aside0.mk h2
        clear h2
        have HDx := Aside0.mk (Below.refl wz.heap.size wz)
        have hy0 : wz.cell? ⟨ga, 0, none⟩ = some (.int .i64 a.f0) := (blk_cell HYx.out 0).trans rfl
        have hy1 : wz.cell? ⟨ga, 1, none⟩ = some (.int .i64 a.f1) := (blk_cell HYx.out 1).trans rfl
        have hy2 : wz.cell? ⟨ga, 2, none⟩ = some (.int .i64 a.f2) := (blk_cell HYx.out 2).trans rfl
        have hy3 : wz.cell? ⟨ga, 3, none⟩ = some (.int .i64 a.f3) := (blk_cell HYx.out 3).trans rfl
        have hy4 : wz.cell? ⟨ga, 4, none⟩ = some (.int .i64 a.f4) := (blk_cell HYx.out 4).trans rfl
        rcases u1 : hasB a.f0 1 a.f1 x9 with _ | _
        · have U1 := Aside0.mk u1
          have HNO := Aside0.mk (actB_no3 (ng := ng) (na := na) (m := m) (nv := nv) (nl := nl) (a := a) (act3_of1 (by rw [← H9.out]; exact U1.out)))
          go_wp2_with (go_at_call 68; (with_reducible refine (has_calls _ _ _ _ HK.out (by omega) _).mono ?_); rintro e w9 ⟨rfl, hd⟩; have hb := hd; replace hy0 := pw_cell_below hb hy0; replace hy1 := pw_cell_below hb hy1; replace hy2 := pw_cell_below hb hy2; replace hy3 := pw_cell_below hb hy3; replace hy4 := pw_cell_below hb hy4; replace HDx := Aside0.mk (below_on HDx.out hb); clear hb hd)
          go_ret
          exact ⟨ret_b HNO.out, below_on HB4.out (below_on HD.out HDx.out)⟩
        rcases u2 : hasB a.f0 2 a.f2 x10 with _ | _
        · have U2 := Aside0.mk u2
          have HNO := Aside0.mk (actB_no3 (ng := ng) (na := na) (m := m) (nv := nv) (nl := nl) (a := a) (act3_of2 (by rw [← H10.out]; exact U2.out)))
          go_wp2_with (go_at_call 68; (with_reducible refine (has_calls _ _ _ _ HK.out (by omega) _).mono ?_); rintro e w9 ⟨rfl, hd⟩; have hb := hd; replace hy0 := pw_cell_below hb hy0; replace hy1 := pw_cell_below hb hy1; replace hy2 := pw_cell_below hb hy2; replace hy3 := pw_cell_below hb hy3; replace hy4 := pw_cell_below hb hy4; replace HDx := Aside0.mk (below_on HDx.out hb); clear hb hd)
          go_ret
          exact ⟨ret_b HNO.out, below_on HB4.out (below_on HD.out HDx.out)⟩
        rcases u3 : hasB a.f0 3 a.f3 x11 with _ | _
        · have U3 := Aside0.mk u3
          have HNO := Aside0.mk (actB_no3 (ng := ng) (na := na) (m := m) (nv := nv) (nl := nl) (a := a) (act3_of3 (by rw [← H11.out]; exact U3.out)))
          go_wp2_with (go_at_call 68; (with_reducible refine (has_calls _ _ _ _ HK.out (by omega) _).mono ?_); rintro e w9 ⟨rfl, hd⟩; have hb := hd; replace hy0 := pw_cell_below hb hy0; replace hy1 := pw_cell_below hb hy1; replace hy2 := pw_cell_below hb hy2; replace hy3 := pw_cell_below hb hy3; replace hy4 := pw_cell_below hb hy4; replace HDx := Aside0.mk (below_on HDx.out hb); clear hb hd)
          go_ret
          exact ⟨ret_b HNO.out, below_on HB4.out (below_on HD.out HDx.out)⟩
        rcases u4 : hasB a.f0 4 a.f4 x12 with _ | _
        · have U4 := Aside0.mk u4
          have HNO := Aside0.mk (actB_no3 (ng := ng) (na := na) (m := m) (nv := nv) (nl := nl) (a := a) (act3_of4 (by rw [← H12.out]; exact U4.out)))
          go_wp2_with (go_at_call 68; (with_reducible refine (has_calls _ _ _ _ HK.out (by omega) _).mono ?_); rintro e w9 ⟨rfl, hd⟩; have hb := hd; replace hy0 := pw_cell_below hb hy0; replace hy1 := pw_cell_below hb hy1; replace hy2 := pw_cell_below hb hy2; replace hy3 := pw_cell_below hb hy3; replace hy4 := pw_cell_below hb hy4; replace HDx := Aside0.mk (below_on HDx.out hb); clear hb hd)
          go_ret
          exact ⟨ret_b HNO.out, below_on HB4.out (below_on HD.out HDx.out)⟩
        have U1 := Aside0.mk u1
        have U2 := Aside0.mk u2
        have U3 := Aside0.mk u3
        have U4 := Aside0.mk u4
        have HYES := Aside0.mk (actB_yes HK.out HOK1.out HOK2.out (act3_ok (by rw [← H9.out]; exact U1.out) (by rw [← H10.out]; exact U2.out) (by rw [← H11.out]; exact U3.out) (by rw [← H12.out]; exact U4.out)))
        go_wp2_with (go_at_call 68; (with_reducible refine (has_calls _ _ _ _ HK.out (by omega) _).mono ?_); rintro e w9 ⟨rfl, hd⟩; have hb := hd; replace hy0 := pw_cell_below hb hy0; replace hy1 := pw_cell_below hb hy1; replace hy2 := pw_cell_below hb hy2; replace hy3 := pw_cell_below hb hy3; replace hy4 := pw_cell_below hb hy4; replace HDx := Aside0.mk (below_on HDx.out hb); clear hb hd)
        go_ret
        exact ⟨ret_b HYES.out, below_on HB4.out (below_on HD.out HDx.out)⟩
end
section
def meddlerref8_act.f (_k : Nat) (G A : List Int) (m : Int) (_cs : List S49) (nv : Int) (acts : List S33) (f0 f1 f2 f3 f4 f5 f6 f7 f8 : Int) : Option Bool := some (actB G.length A.length m nv acts.length ⟨f0, f1, f2, f3, f4, f5, f6, f7, f8⟩)
theorem meddlerref8_act.mono : ∀ a0 a1 a2 a3 a4 a5 a6 a7 a8 a9 a10 a11 a12 a13 a14 k, LeO (meddlerref8_act.f k a0 a1 a2 a3 a4 a5 a6 a7 a8 a9 a10 a11 a12 a13 a14) (meddlerref8_act.f (k + 1) a0 a1 a2 a3 a4 a5 a6 a7 a8 a9 a10 a11 a12 a13 a14) :=
  fun _ _ _ _ _ _ _ _ _ _ _ _ _ _ _ _ => LeO.refl _
theorem meddlerref8_act.calls (k : Nat) (A0_0 : Option Addr) (c0_0 : Nat) (l0_0 : List Int) (A0_1 : Option Addr) (c0_1 : Nat) (l0_1 : List Int) (a0_2 : Int) (A0_3 : Option Addr) (c0_3 : Nat) (l0_3 : List (S49)) (a1_0 : Int) (A1_1 : Option Addr) (c1_1 : Nat) (l1_1 : List (S33)) (a2_0 : Int) (a2_1 : Int) (a2_2 : Int) (a2_3 : Int) (a2_4 : Int) (a2_5 : Int) (a2_6 : Int) (a2_7 : Int) (a2_8 : Int) (r : Bool) (w : World) (hr0_0 : Kd.C (Kd.int .i64) w A0_0 l0_0.length l0_0) (hc0_0 : l0_0.length ≤ c0_0) (hr0_1 : Kd.C (Kd.int .i64) w A0_1 l0_1.length l0_1) (hc0_1 : l0_1.length ≤ c0_1) (hr0_3 : Kd.C k49 w A0_3 l0_3.length l0_3) (hc0_3 : l0_3.length ≤ c0_3) (hr1_1 : Kd.C k33 w A1_1 l1_1.length l1_1) (hc1_1 : l1_1.length ≤ c1_1) (h : meddlerref8_act.f k l0_0 l0_1 a0_2 l0_3 a1_0 l1_1 a2_0 a2_1 a2_2 a2_3 a2_4 a2_5 a2_6 a2_7 a2_8 = some r) :
    Calls Try.prog 54 #[.agg #[.slice A0_0 l0_0.length c0_0, .slice A0_1 l0_1.length c0_1, .int .i64 a0_2, .slice A0_3 l0_3.length c0_3], .agg #[.int .i64 a1_0, .slice A1_1 l1_1.length c1_1], .agg #[.int .i64 a2_0, .int .i64 a2_1, .int .i64 a2_2, .int .i64 a2_3, .int .i64 a2_4, .int .i64 a2_5, .int .i64 a2_6, .int .i64 a2_7, .int .i64 a2_8]] w fun e w' => e = .returned (.bool r) ∧ Below w.heap.size w w' := by
  obtain rfl : actB l0_0.length l0_1.length a0_2 a1_0 l1_1.length ⟨a2_0, a2_1, a2_2, a2_3, a2_4, a2_5, a2_6, a2_7, a2_8⟩ = r := Option.some.inj h
  exact act_calls w A0_0 l0_0.length c0_0 A0_1 l0_1.length c0_1 a0_2 A0_3 l0_3.length c0_3 a1_0 A1_1 l1_1.length c1_1 ⟨a2_0, a2_1, a2_2, a2_3, a2_4, a2_5, a2_6, a2_7, a2_8⟩
end
end Go.Proofs.Ytikjamcemnbhbaa.Mr
