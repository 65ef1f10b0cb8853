/- An own text of this seat: Lean functions with the answers of Go functions, and that the Go code comes to them. Written by a program of this session out of the translation. -/
import Derived.Test.YtadnjibgdpjnlaaRpx0
namespace Go.Proofs.Ytadnjibgdpjnlaa.Rp
open Go.RowKit Go.Proofs.YtadnjibgdpjnlaaW.PrintWords Go.Proofs.YtadnjibgdpjnlaaW.PrintLast Go.Proofs.YtadnjibgdpjnlaaW.PrintMore
open Go.Proofs.YtadnjibgdpjnlaaW.PrintWords renaming below_alloc → ba, pw_below_drewN → bb, below_drew1 → bc
theorem q32 {p : Prop} (h : p) : Aside0 p := ⟨h⟩
attribute [local go_sem] max2_int min2_int max_two min_two max_three min_three max_four min_four   -- for this text's walks alone
set_option linter.unusedVariables false
set_option linter.unusedSimpArgs false

/-! ### held_bits: function 58 -/
def held_bits.l0 : Nat → Int → List Int → Int → Int → Option (Int)
 | 0, _, _, _, _ => none
 | k + 1, x3, x6, x7, x8 => if x8 < x7 then (if 0 ≤ x8 then (if x8 < (x6.length : Int) then (if (rd x6 x8) ≥ 0 then (if (rd x6 x8) < 31 then (if 0 ≤ (rd x6 x8) then (held_bits.l0 k (Go.bits .or .i64 x3 (shl .i64 1 (rd x6 x8))) x6 x7 (wrap64 (x8 + 1))) else (none)) else (held_bits.l0 k x3 x6 x7 (wrap64 (x8 + 1)))) else (held_bits.l0 k x3 x6 x7 (wrap64 (x8 + 1)))) else (none)) else (none)) else (some x3)
def held_bits.f (k : Nat) (l0 : List Int) : Option (Int) := held_bits.l0 k 0 l0 (l0.length : Int) 0
theorem held_bits.mono_l : ∀ k, (∀ y0 y1 y2 y3, LeO (held_bits.l0 k y0 y1 y2 y3) (held_bits.l0 (k + 1) y0 y1 y2 y3))
 | 0 => fun _ _ _ _ r h => by simp [held_bits.l0] at h
 | k + 1 => by
  have ae := held_bits.mono_l k
  ·intro y0 y1 y2 y3
   unfold held_bits.l0
   repeat' first
   | (with_reducible exact ae _ _ _ _)
   | (with_reducible exact LeO.refl _)
   | (with_reducible exact LeO.none _)
   | (with_reducible refine LeO.ite ?_ ?_)
   | (with_reducible refine LeO.bind ?_ (fun _ => ?_))
   | exact ae _ _ _ _
   | exact LeO.none _
   | refine LeO.ite ?_ ?_
   | refine LeO.bind ?_ (fun _ => ?_)
theorem held_bits.mono : ∀ a0 k, LeO (held_bits.f k a0) (held_bits.f (k + 1) a0) := by
 intro a0 k
 have ae := held_bits.mono_l k
 unfold held_bits.f
 repeat' first
   | (with_reducible exact ae _ _ _ _)
   | (with_reducible exact LeO.refl _)
   | (with_reducible exact LeO.none _)
   | (with_reducible refine LeO.ite ?_ ?_)
   | (with_reducible refine LeO.bind ?_ (fun _ => ?_))
   | exact ae _ _ _ _
   | exact LeO.none _
   | refine LeO.ite ?_ ?_
   | refine LeO.bind ?_ (fun _ => ?_)
set_option maxHeartbeats 8000000 in
set_option maxRecDepth 100000 in
theorem held_bits.calls (k : Nat) (A0 : Option Addr) (c0 : Nat) (l0 : List Int) (r : Int) (w : World) (ay : Kd.C (Kd.int .i64) w A0 l0.length l0) (az : l0.length ≤ c0) (h : held_bits.f k l0 = some r) :
  Calls Try.prog 58 #[.slice A0 l0.length c0] w fun e w' => e = .returned (.int .i64 r) ∧ Drawn0 w w' := by
 have av := q32 ay
 have aY := q32 az
 clear ay az
 have H : (held_bits.l0 k 0 l0 (l0.length : Int) 0) = some r := h
 clear h
 have H' := q32 H
 clear H
 go_enter Try.func58, Try.ntmps58
 go_wp2
 go_loopg [3, 8] k (fun kq v3 v8 w' => ∃ (x3_1 : Int) (aa : Int), v3 = .int .i64 x3_1 ∧ v8 = .int .i64 aa ∧ Aside0 (held_bits.l0 kq x3_1 l0 (l0.length : Int) aa = some r) ∧ Aside0 (kq ≤ k) ∧ Drawn0 w w')
 case atStart => exact ⟨(0), (0), (by first | rfl | (simp; done) | (simp [*]; done)), (by first | rfl | (simp; done) | (simp [*]; done)), H', ⟨Nat.le_refl _⟩, by repeat (first | exact Drawn0.refl _ | apply Drawn0.step)⟩
 case round =>
  clear H'
  obtain ⟨x3_1, aa, rfl, rfl, HA, af, ⟨m1, rfl⟩⟩ := hrel
  cases gk with
  | zero => exact absurd HA.out (by simp [held_bits.l0])
  | succ k1 =>
   have H := HA.out
   clear HA
   simp only [held_bits.l0] at H
   by_cases c2 : aa < (l0.length : Int)
   ·rw [if_pos c2] at H
    have aw : decide (aa < (l0.length : Int)) = true := decide_eq_true c2
    clear c2
    by_cases c3 : 0 ≤ aa
    ·rw [if_pos c3] at H
     have aZ : decide (0 ≤ aa) = true := decide_eq_true c3
     clear c3
     by_cases c4 : aa < (l0.length : Int)
     ·rw [if_pos c4] at H
      have a2 : decide (aa < (l0.length : Int)) = true := decide_eq_true c4
      clear c4
      by_cases c5 : (rd l0 aa) ≥ 0
      ·rw [if_pos c5] at H
       have aK : decide (0 ≤ (rd l0 aa)) = true := decide_eq_true c5
       clear c5
       by_cases c6 : (rd l0 aa) < 31
       ·rw [if_pos c6] at H
        have aM : decide ((rd l0 aa) < 31) = true := decide_eq_true c6
        clear c6
        by_cases c7 : 0 ≤ (rd l0 aa)
        ·rw [if_pos c7] at H
         have a3 := eq_true c7
         have a4 : decide (0 ≤ (rd l0 aa)) = true := decide_eq_true c7
         clear c7
         obtain ⟨aj, an⟩ : ∃ j_ : Int, (shl .i64 1 (rd l0 aa)) = j_ := ⟨_, rfl⟩
         replace H : (held_bits.l0 k1 (Go.bits .or .i64 x3_1 (aj)) l0 (l0.length : Int) (wrap64 (aa + 1))) = some r := by first | (rw [an] at H; exact H) | (simp only [an] at H ⊢; exact H)
         have aA : (IntKind.i64.wrap (1 * 2 ^ min (rd l0 aa).toNat 64)) = aj := an
         have hji8z : (rd l0 aa) ≤ 64 → (IntKind.i64.wrap (1 * 2 ^ (rd l0 aa).toNat)) = aj := shl_small an
         have hji8u : (IntKind.i64.wrap (2 ^ min (rd l0 aa).toNat 64)) = aj := by have h_ := aA; rw [Int.one_mul] at h_; exact h_
         have hji8v : (rd l0 aa) ≤ 64 → (IntKind.i64.wrap (2 ^ (rd l0 aa).toNat)) = aj := fun hle_ => by have h_ := hji8z hle_; rw [Int.one_mul] at h_; exact h_
         have hji8y : (wrap64 (1 * 2 ^ min (rd l0 aa).toNat 64)) = aj := (i64_w _).symm.trans aA
         have hji8x : (rd l0 aa) ≤ 64 → (wrap64 (1 * 2 ^ (rd l0 aa).toNat)) = aj := fun h_ => (i64_w _).symm.trans (hji8z h_)
         have H' := q32 H
         clear H
         have ag : 0 ≤ (aa : Int) := of_decide_eq_true (by first | (with_reducible assumption) | assumption)
         have ah : aa < (l0.length : Int) := of_decide_eq_true (by first | (with_reducible assumption) | assumption)
         obtain ⟨aC, ao, aD⟩ := Kd.at_int av.out aa ag ah
         cases ao
         replace ag := eq_true ag
         replace ah := eq_true ah
         go_wp2
         go_roundg k1
         case measure => have := af.out; omega
         case rel => exact ⟨(Go.bits .or .i64 x3_1 (aj)), (wrap64 (aa + 1)), (by first | rfl | (simp; done) | (simp only [← an] <;> (first | rfl | simp)) | (simp [*]; done)), (by first | rfl | (simp; done) | (simp [*]; done)), H', ⟨by have := af.out; omega⟩, by repeat (first | exact Drawn0.refl _ | apply Drawn0.step)⟩
        ·rw [if_neg c7] at H
         exact absurd H (by simp)
       ·rw [if_neg c6] at H
        have aM : decide ((rd l0 aa) < 31) = false := decide_eq_false c6
        clear c6
        have H' := q32 H
        clear H
        have ag : 0 ≤ (aa : Int) := of_decide_eq_true (by first | (with_reducible assumption) | assumption)
        have ah : aa < (l0.length : Int) := of_decide_eq_true (by first | (with_reducible assumption) | assumption)
        obtain ⟨aC, ao, aD⟩ := Kd.at_int av.out aa ag ah
        cases ao
        replace ag := eq_true ag
        replace ah := eq_true ah
        go_wp2
        go_roundg k1
        case measure => have := af.out; omega
        case rel => exact ⟨(x3_1), (wrap64 (aa + 1)), (by first | rfl | (simp; done) | (simp [*]; done)), (by first | rfl | (simp; done) | (simp [*]; done)), H', ⟨by have := af.out; omega⟩, by repeat (first | exact Drawn0.refl _ | apply Drawn0.step)⟩
      ·rw [if_neg c5] at H
       have aK : decide (0 ≤ (rd l0 aa)) = false := decide_eq_false c5
       clear c5
       have H' := q32 H
       clear H
       have ag : 0 ≤ (aa : Int) := of_decide_eq_true (by first | (with_reducible assumption) | assumption)
       have ah : aa < (l0.length : Int) := of_decide_eq_true (by first | (with_reducible assumption) | assumption)
       obtain ⟨aC, ao, aD⟩ := Kd.at_int av.out aa ag ah
       cases ao
       replace ag := eq_true ag
       replace ah := eq_true ah
       go_wp2
       go_roundg k1
       case measure => have := af.out; omega
       case rel => exact ⟨(x3_1), (wrap64 (aa + 1)), (by first | rfl | (simp; done) | (simp [*]; done)), (by first | rfl | (simp; done) | (simp [*]; done)), H', ⟨by have := af.out; omega⟩, by repeat (first | exact Drawn0.refl _ | apply Drawn0.step)⟩
     ·rw [if_neg c4] at H
      exact absurd H (by simp)
    ·rw [if_neg c3] at H
     exact absurd H (by simp)
   ·rw [if_neg c2] at H
    have aw : decide (aa < (l0.length : Int)) = false := decide_eq_false c2
    clear c2
    obtain rfl := Option.some.inj H
    go_wp2
    go_ret
    exact ⟨by first | rfl | (simp; done) | (simp [*]; done), by repeat (first | exact Drawn0.refl _ | apply Drawn0.step)⟩
/-! ### held_Has: function 52 -/
def held_Has.f (k : Nat) (a0 : Int) (a1 : Int) : Option (Bool) := (held_bits.f k (([a1] : List Int))).bind fun ak => (some ((Go.bits .and .i64 a0 ak) != 0))
theorem held_Has.mono : ∀ a0 a1 k, LeO (held_Has.f k a0 a1) (held_Has.f (k + 1) a0 a1) := by
 intro a0 a1 k
 unfold held_Has.f
 repeat' first
   | (with_reducible exact held_bits.mono _ _)
   | (with_reducible exact LeO.refl _)
   | (with_reducible exact LeO.none _)
   | (with_reducible refine LeO.ite ?_ ?_)
   | (with_reducible refine LeO.bind ?_ (fun _ => ?_))
   | exact held_bits.mono _ _
   | exact LeO.none _
   | refine LeO.ite ?_ ?_
   | refine LeO.bind ?_ (fun _ => ?_)
set_option maxHeartbeats 8000000 in
set_option maxRecDepth 100000 in
theorem held_Has.calls (k : Nat) (a0 : Int) (a1 : Int) (r : Bool) (w : World) (h : held_Has.f k a0 a1 = some r) :
  Calls Try.prog 52 #[.int .i64 a0, .int .i64 a1] w fun e w' => e = .returned (.bool r) ∧ Below w.heap.size w w' := by
 have HB := q32 (Below.refl w.heap.size w)
 have H : ((held_bits.f k (([a1] : List Int))).bind fun ak => (some ((Go.bits .and .i64 a0 ak) != 0))) = some r := h
 clear h
 obtain ⟨y126, ap⟩ : ∃ y_ : List Int, y_ = (([a1] : List Int)) := ⟨_, rfl⟩
 replace H : ((held_bits.f k y126).bind fun ak => (some ((Go.bits .and .i64 a0 ak) != 0))) = some r := by first | (rw [ap]; with_reducible exact H) | (have am := (Option.bind_some _ _).symm.trans H; rw [ap]; with_reducible exact am) | (have am := (Option.bind_some _ _).symm.trans H; with_reducible exact am) | with_reducible exact H | (rw [ap]; exact H) | exact H
 have aE := q32 ap
 clear ap
 replace H := Option.bind_eq_some_iff.mp H
 obtain ⟨ak, al, H⟩ := H
 replace H : (some ((Go.bits .and .i64 a0 ak) != 0)) = some r := H
 have A3 := q32 al
 clear al
 obtain rfl := Option.some.inj H
 go_enter Try.func52, Try.ntmps52
 go_wp2_with (first | ((with_reducible refine gate_dst (N := 7) rfl ?_); refine Kd.R_lit (Kd.int .i64) _ 3 ?hg (N := 7) ?hd (xs := ([a1] : List Int)) (inner := [.int .i64 a1]) (ok := fun _ => True) (okp := fun _ => True) ?hr ?hp (fun _ hk => hk) trivial (Below.refl _ _) (Nat.le_refl _) (by simp) ?_; (case hd => rfl); (case hg => rfl); (case hr => first | (go_simp; done) | (go_simp; rfl)); (case hp => exact (Reps.one (show Kd.M (Kd.int .i64) _ _ _ a1 [.int .i64 a1] from rfl) (Reps.none _ _))); intro a5 w4 aq hb hg_ hnew_; clear hg_ hnew_; (first | rw [← aE.out] at aq | (simp only [Int.reduceToNat] at aq; rw [← aE.out] at aq)); have ac := q32 (Kd.R_lower aq (below_size (by repeat (first | (with_reducible first | exact HB.out | apply ba | apply bb | apply bc) | exact HB.out)))); have ad := q32 (below_step (by repeat (first | (with_reducible first | exact HB.out | apply ba | apply bb | apply bc) | exact HB.out)) hb); clear HB; have ax := ac; have HB := ad; clear ac ad; clear hb aq; obtain ⟨aN, aQ, aR⟩ := Kd.R_slice ax.out; subst aR) | ((with_reducible refine gate_callee (f := 58) rfl ?_); refine goesL_ (some 8) rfl rfl Try.func58 (by kernel_rfl) rfl #[.slice aN y126.length aQ] rfl (by (try simp only [List.map_toArray, List.map_cons, List.map_nil]); first | done | rfl | (simp only [List.length_drop, List.length_take]; rfl)) ?_; (with_reducible refine (held_bits.calls k _ _ y126 ak _ ?side1 ?side2 A3.out).mono ?_); (case side1 => repeat (first | exact (Kd.R_reads' ax.out).2.2 | (with_reducible refine Kd.C_alloc ?_ _) | (with_reducible refine Kd.C_drewN ?_ _) | (with_reducible refine Kd.C_drew ?_))); (case side2 => exact (Kd.R_reads' ax.out).2.1); rintro e w' ⟨rfl, ⟨nd, rfl⟩⟩; refine ⟨_, rfl, ?_⟩))
 go_ret
 exact ⟨by first | rfl | (simp [errW_none, errW_some] <;> rfl) | (simp [*, errW_none, errW_some] <;> rfl), by repeat (first | (with_reducible first | exact HB.out | apply ba | apply bb | apply bc) | exact HB.out)⟩
/-! ### held_List: function 39 -/
def held_List.l0 : Nat → Int → List Int → Int → Option (List Int)
 | 0, _, _, _ => none
 | k + 1, x0, x3, x5 => if x5 < 31 then ((held_Has.f k x0 x5).bind fun au => (if au = true then (if x3.length < 17592186044416 then (held_List.l0 k x0 (x3 ++ [x5]) (wrap64 (x5 + 1))) else (none)) else (held_List.l0 k x0 x3 (wrap64 (x5 + 1))))) else (some x3)
def held_List.f (k : Nat) (a0 : Int) : Option (List Int) := held_List.l0 k a0 ([] : List Int) 0
theorem held_List.mono_l : ∀ k, (∀ y0 y1 y2, LeO (held_List.l0 k y0 y1 y2) (held_List.l0 (k + 1) y0 y1 y2))
 | 0 => fun _ _ _ r h => by simp [held_List.l0] at h
 | k + 1 => by
  have ae := held_List.mono_l k
  ·intro y0 y1 y2
   unfold held_List.l0
   repeat' first
   | (with_reducible exact ae _ _ _)
   | (with_reducible exact held_Has.mono _ _ _)
   | (with_reducible exact LeO.refl _)
   | (with_reducible exact LeO.none _)
   | (with_reducible refine LeO.ite ?_ ?_)
   | (with_reducible refine LeO.bind ?_ (fun _ => ?_))
   | exact ae _ _ _
   | exact held_Has.mono _ _ _
   | exact LeO.none _
   | refine LeO.ite ?_ ?_
   | refine LeO.bind ?_ (fun _ => ?_)
theorem held_List.mono : ∀ a0 k, LeO (held_List.f k a0) (held_List.f (k + 1) a0) := by
 intro a0 k
 have ae := held_List.mono_l k
 unfold held_List.f
 repeat' first
   | (with_reducible exact ae _ _ _)
   | (with_reducible exact held_Has.mono _ _ _)
   | (with_reducible exact LeO.refl _)
   | (with_reducible exact LeO.none _)
   | (with_reducible refine LeO.ite ?_ ?_)
   | (with_reducible refine LeO.bind ?_ (fun _ => ?_))
   | exact ae _ _ _
   | exact held_Has.mono _ _ _
   | exact LeO.none _
   | refine LeO.ite ?_ ?_
   | refine LeO.bind ?_ (fun _ => ?_)
set_option maxHeartbeats 8000000 in
set_option maxRecDepth 100000 in
theorem held_List.calls (k : Nat) (a0 : Int) (r : List Int) (w : World) (h : held_List.f k a0 = some r) :
  Calls Try.prog 39 #[.int .i64 a0] w fun e w' => ∃ aG : Value, e = .returned (aG) ∧ Kd.R (Kd.int .i64) 3 w' w.heap.size (fun _ => True) aG r ∧ Below w.heap.size w w' := by
 have HB := q32 (Below.refl w.heap.size w)
 have H : (held_List.l0 k a0 ([] : List Int) 0) = some r := h
 clear h
 have H' := q32 H
 clear H
 go_enter Try.func39, Try.ntmps39
 go_wp2
 go_loopg [3, 5] k (fun kq v3 v5 w' => ∃ (x3_1 : List Int) (ab : Int), v5 = .int .i64 ab ∧ Aside0 (held_List.l0 kq a0 x3_1 ab = some r) ∧ Aside0 (kq ≤ k) ∧ Aside0 (Kd.R (Kd.int .i64) 3 w' w.heap.size (fun _ => True) v3 x3_1) ∧ Aside0 (Below w.heap.size w w'))
 case atStart => exact ⟨(([] : List Int)), (0), (by first | rfl | (simp; done) | (simp [*]; done)), H', ⟨Nat.le_refl _⟩, ⟨by first | exact Kd.R_nil _ _ _ _ _ | exact Kd.N_nil _ _ _ _ _ | exact Kd.V_nil _ _ _ _ _ | exact Kd.Q_nil _ _ _ _ _ | exact Kd.S_nil _ _ _ _ _⟩, ⟨by repeat (first | (with_reducible first | exact HB.out | apply ba | apply bb | apply bc) | exact HB.out)⟩⟩
 case round =>
  clear H'
  obtain ⟨x3_1, ab, rfl, HA, af, ai, HB⟩ := hrel
  cases gk with
  | zero => exact absurd HA.out (by simp [held_List.l0])
  | succ k1 =>
   have H := HA.out
   clear HA
   simp only [held_List.l0] at H
   by_cases c2 : ab < 31
   ·rw [if_pos c2] at H
    have aw : decide (ab < 31) = true := decide_eq_true c2
    clear c2
    replace H := Option.bind_eq_some_iff.mp H
    obtain ⟨au, al, H⟩ := H
    replace H : (if au = true then (if x3_1.length < 17592186044416 then (held_List.l0 k1 a0 (x3_1 ++ [ab]) (wrap64 (ab + 1))) else (none)) else (held_List.l0 k1 a0 x3_1 (wrap64 (ab + 1)))) = some r := H
    have A3 := q32 al
    clear al
    by_cases c4 : au = true
    ·subst c4
     have H1 : (if x3_1.length < 17592186044416 then (held_List.l0 k1 a0 (x3_1 ++ [ab]) (wrap64 (ab + 1))) else (none)) = some r := by rw [if_pos rfl] at H; exact H
     clear H
     have H := H1
     clear H1
     by_cases c5 : x3_1.length < 17592186044416
     ·rw [if_pos c5] at H
      have aT := q32 c5
      clear c5
      obtain ⟨aH, ar⟩ : ∃ y_ : List Int, y_ = (x3_1 ++ [ab]) := ⟨_, rfl⟩
      replace H : (held_List.l0 k1 a0 aH (wrap64 (ab + 1))) = some r := by first | (rw [ar]; with_reducible exact H) | (have am := (Option.bind_some _ _).symm.trans H; rw [ar]; with_reducible exact am) | (have am := (Option.bind_some _ _).symm.trans H; with_reducible exact am) | with_reducible exact H | (rw [ar]; exact H) | exact H
      have aU := q32 ar
      clear ar
      have H' := q32 H
      clear H
      go_wp2_with (first | ((with_reducible refine gate_callee (f := 52) rfl ?_); refine goesL_ (some 10) rfl rfl Try.func52 (by kernel_rfl) rfl #[.int .i64 a0, .int .i64 ab] rfl (by (try simp only [List.map_toArray, List.map_cons, List.map_nil]); first | done | rfl | (simp only [List.length_drop, List.length_take]; rfl)) ?_; (with_reducible refine (held_Has.calls k1 a0 ab true _ A3.out).mono ?_); rintro e w6 ⟨rfl, hb⟩; refine ⟨_, rfl, ?_⟩; have ac := q32 (Kd.R_below (by (with_reducible repeat (first | apply Kd.R_alloc | apply Kd.R_drewN | apply Kd.R_drew)); exact ai.out) hb); have ad := q32 (below_step (by repeat (first | (with_reducible first | exact HB.out | apply ba | apply bb | apply bc) | exact HB.out)) hb); clear ai; clear HB; have ai := ac; have HB := ad; clear ac ad; (try clear hb); (try clear aI); (try clear hk); (try clear hi)) | ((with_reducible refine gate_builtin (b := .append) (xs := #[.tmp 11, .tmp 13]) rfl ?_); at_builtin; refine Kd.R_append (Kd.int .i64) (w0 := w) w.heap.size rfl (.tmp 11) (.tmp 13) 65 3 (.int .i64 0) 8 rfl Try.underlying65 info3 rfl (by decide) (by omega) u3 x3_1 ab [.int .i64 ab] (fun _ => True) (fun _ => False) rfl rfl ?aP (fun _ hk => hk.elim) ?aF ?aO ?aB ?aS ?aL ?_; (case aP => exact rfl); (case aB => exact (by repeat (first | (with_reducible first | exact HB.out | apply ba | apply bb | apply bc) | exact HB.out))); (case aF => exact (fun _ _ => trivial)); (case aO => exact (by (with_reducible repeat (first | apply Kd.R_alloc | apply Kd.R_drewN | apply Kd.R_drew)); exact ai.out)); (case aS => exact (below_size (by repeat (first | (with_reducible first | exact HB.out | apply ba | apply bb | apply bc) | exact HB.out)))); (case aL => have := aT.out; omega); intro a6 w7 ho hb hg hat; rw [← aU.out] at ho; have ac := q32 (hb); have ad := q32 (ho); clear HB; clear ai; have HB := ac; have aV := ad; clear ac ad; clear ho hb hg hat))
      go_roundg k1
      case measure => have := af.out; omega
      case rel => exact ⟨(aH), (wrap64 (ab + 1)), (by first | rfl | (simp; done) | (simp [*]; done)), H', ⟨by have := af.out; omega⟩, ⟨by (with_reducible repeat (first | apply Kd.R_alloc | apply Kd.R_drewN | apply Kd.R_drew)); exact aV.out⟩, ⟨by repeat (first | (with_reducible first | exact HB.out | apply ba | apply bb | apply bc) | exact HB.out)⟩⟩
     ·rw [if_neg c5] at H
      exact absurd H (by simp)
    ·replace c4 := Bool.eq_false_iff.mpr c4
     subst c4
     have H1 : (held_List.l0 k1 a0 x3_1 (wrap64 (ab + 1))) = some r := by rw [if_neg (show ¬ (false = true) by decide)] at H; exact H
     clear H
     have H := H1
     clear H1
     have H' := q32 H
     clear H
     go_wp2_with (first | ((with_reducible refine gate_callee (f := 52) rfl ?_); refine goesL_ (some 10) rfl rfl Try.func52 (by kernel_rfl) rfl #[.int .i64 a0, .int .i64 ab] rfl (by (try simp only [List.map_toArray, List.map_cons, List.map_nil]); first | done | rfl | (simp only [List.length_drop, List.length_take]; rfl)) ?_; (with_reducible refine (held_Has.calls k1 a0 ab false _ A3.out).mono ?_); rintro e w8 ⟨rfl, hb⟩; refine ⟨_, rfl, ?_⟩; have ac := q32 (Kd.R_below (by (with_reducible repeat (first | apply Kd.R_alloc | apply Kd.R_drewN | apply Kd.R_drew)); exact ai.out) hb); have ad := q32 (below_step (by repeat (first | (with_reducible first | exact HB.out | apply ba | apply bb | apply bc) | exact HB.out)) hb); clear ai; clear HB; have ai := ac; have HB := ad; clear ac ad; (try clear hb); (try clear aI); (try clear hk); (try clear hi)))
     go_roundg k1
     case measure => have := af.out; omega
     case rel => exact ⟨(x3_1), (wrap64 (ab + 1)), (by first | rfl | (simp; done) | (simp [*]; done)), H', ⟨by have := af.out; omega⟩, ⟨by (with_reducible repeat (first | apply Kd.R_alloc | apply Kd.R_drewN | apply Kd.R_drew)); exact ai.out⟩, ⟨by repeat (first | (with_reducible first | exact HB.out | apply ba | apply bb | apply bc) | exact HB.out)⟩⟩
   ·rw [if_neg c2] at H
    have aw : decide (ab < 31) = false := decide_eq_false c2
    clear c2
    obtain rfl := Option.some.inj H
    go_wp2
    go_ret
    exact ⟨_, by first | rfl | (simp [errW_none, errW_some] <;> rfl) | (simp [*, errW_none, errW_some] <;> rfl), by (with_reducible repeat (first | apply Kd.R_alloc | apply Kd.R_drewN | apply Kd.R_drew)); exact ai.out, by repeat (first | (with_reducible first | exact HB.out | apply ba | apply bb | apply bc) | exact HB.out)⟩
/-! ### held_Apart: function 32 -/
def held_Apart.f (k : Nat) (a0 : Int) (a1 : Int) : Option (Bool) := (held_List.f k (Go.bits .and .i64 a0 a1)).bind fun t134 => (some ((t134.length : Int) == 0))
theorem held_Apart.mono : ∀ a0 a1 k, LeO (held_Apart.f k a0 a1) (held_Apart.f (k + 1) a0 a1) := by
 intro a0 a1 k
 unfold held_Apart.f
 repeat' first
   | (with_reducible exact held_List.mono _ _)
   | (with_reducible exact LeO.refl _)
   | (with_reducible exact LeO.none _)
   | (with_reducible refine LeO.ite ?_ ?_)
   | (with_reducible refine LeO.bind ?_ (fun _ => ?_))
   | exact held_List.mono _ _
   | exact LeO.none _
   | refine LeO.ite ?_ ?_
   | refine LeO.bind ?_ (fun _ => ?_)
set_option maxHeartbeats 8000000 in
set_option maxRecDepth 100000 in
theorem held_Apart.calls (k : Nat) (a0 : Int) (a1 : Int) (r : Bool) (w : World) (h : held_Apart.f k a0 a1 = some r) :
  Calls Try.prog 32 #[.int .i64 a0, .int .i64 a1] w fun e w' => e = .returned (.bool r) ∧ Below w.heap.size w w' := by
 have HB := q32 (Below.refl w.heap.size w)
 have H : ((held_List.f k (Go.bits .and .i64 a0 a1)).bind fun t134 => (some ((t134.length : Int) == 0))) = some r := h
 clear h
 replace H := Option.bind_eq_some_iff.mp H
 obtain ⟨t134, al, H⟩ := H
 replace H : (some ((t134.length : Int) == 0)) = some r := H
 have A3 := q32 al
 clear al
 obtain rfl := Option.some.inj H
 go_enter Try.func32, Try.ntmps32
 go_wp2_with (first | ((with_reducible refine gate_callee (f := 39) rfl ?_); refine goesL_ (some 8) rfl rfl Try.func39 (by kernel_rfl) rfl #[.int .i64 (Go.bits .and .i64 a0 a1)] rfl (by (try simp only [List.map_toArray, List.map_cons, List.map_nil]); first | done | rfl | (simp only [List.length_drop, List.length_take]; rfl)) ?_; (with_reducible refine (held_List.calls k (Go.bits .and .i64 a0 a1) t134 _ A3.out).mono ?_); rintro e w4 ⟨a7, rfl, aJ, hb⟩; refine ⟨_, rfl, ?_⟩; have ac := q32 (Kd.R_lower aJ (below_size (by repeat (first | (with_reducible first | exact HB.out | apply ba | apply bb | apply bc) | exact HB.out)))); have ad := q32 (below_step (by repeat (first | (with_reducible first | exact HB.out | apply ba | apply bb | apply bc) | exact HB.out)) hb); clear HB; have aW := ac; have HB := ad; clear ac ad; (try clear hb); (try clear aI); (try clear hk); (try clear hi); (try clear aJ); obtain ⟨a8, a9, aX⟩ := Kd.R_slice aW.out; subst aX))
 go_ret
 exact ⟨by first | rfl | (simp [errW_none, errW_some] <;> rfl) | (simp [*, errW_none, errW_some] <;> rfl), by repeat (first | (with_reducible first | exact HB.out | apply ba | apply bb | apply bc) | exact HB.out)⟩
end Go.Proofs.Ytadnjibgdpjnlaa.Rp
