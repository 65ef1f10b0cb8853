/- An own text of this seat: Lean functions with the answers of Go functions, and that the Go code comes to them. Written by a program of this session out of the translation. -/
import Derived.Test.YtadnjibgdpjnlaaRpx0
import Derived.Test.YtadnjibgdpjnlaaRpF29
import Derived.Test.YtadnjibgdpjnlaaRpExt
namespace Go.Proofs.Ytadnjibgdpjnlaa.Rp
open Go.RowKit Go.Proofs.YtadnjibgdpjnlaaW.PrintWords Go.Proofs.YtadnjibgdpjnlaaW.PrintLast Go.Proofs.YtadnjibgdpjnlaaW.PrintMore
open Go.Proofs.YtadnjibgdpjnlaaW.PrintWords renaming below_alloc → bu, pw_below_drewN → bv, below_drew1 → bw
open Go.World renaming block_lt_of_cell? → bx
theorem q20 {p : Prop} (h : p) : Aside0 p := ⟨h⟩
attribute [local go_sem] max2_int min2_int max_two min_two max_three min_three max_four min_four   -- for this text's walks alone
set_option linter.unusedVariables false
set_option linter.unusedSimpArgs false

/-! ### clash_All: function 20 -/
def clash_All.l0 : Nat → List (S31) → List (S24) → List (S31) → Int → Int → Option ((List (S24)))
 | 0, _, _, _, _, _ => none
 | k + 1, x0, x3, x6, x7, x8 => if x8 < x7 then (if 0 ≤ x8 then (if x8 < (x6.length : Int) then ((clash_pairs.f k ((rd_T31 x6 x8).f0) ((rd_T31 x6 x8).f1) ((rd_T31 x6 x8).f2) ((rd_T31 x6 x8).f3) ((rd_T31 x6 x8).f4) ((rd_T31 x6 x8).f5) x0).bind fun t160 => (if x3.length + t160.length < 2932031007402 then (clash_All.l0 k x0 (x3 ++ t160) x6 x7 (wrap64 (x8 + 1))) else (none))) else (none)) else (none)) else ((api_Alarm_25.f k x3 30).bind fun ao => ((api_Alarm_27.f k ao).bind fun ai => (some ai)))
def clash_All.f (k : Nat) (l0 : List (S31)) : Option ((List (S24))) := clash_All.l0 k l0 ([] : List (S24)) l0 (l0.length : Int) 0
theorem clash_All.mono_l : ∀ k, (∀ y0 y1 y2 y3 y4, LeO (clash_All.l0 k y0 y1 y2 y3 y4) (clash_All.l0 (k + 1) y0 y1 y2 y3 y4))
 | 0 => fun _ _ _ _ _ r h => by simp [clash_All.l0] at h
 | k + 1 => by
  have ap := clash_All.mono_l k
  ·intro y0 y1 y2 y3 y4
   unfold clash_All.l0
   repeat' first
   | (with_reducible exact ap _ _ _ _ _)
   | (with_reducible exact api_Alarm_25.mono _ _ _)
   | (with_reducible exact api_Alarm_27.mono _ _)
   | (with_reducible exact clash_pairs.mono _ _ _ _ _ _ _ _)
   | (with_reducible exact LeO.refl _)
   | (with_reducible exact LeO.none _)
   | (with_reducible refine LeO.ite ?_ ?_)
   | (with_reducible refine LeO.bind ?_ (fun _ => ?_))
   | exact ap _ _ _ _ _
   | exact api_Alarm_25.mono _ _ _
   | exact api_Alarm_27.mono _ _
   | exact clash_pairs.mono _ _ _ _ _ _ _ _
   | exact LeO.none _
   | refine LeO.ite ?_ ?_
   | refine LeO.bind ?_ (fun _ => ?_)
theorem clash_All.mono : ∀ a0 k, LeO (clash_All.f k a0) (clash_All.f (k + 1) a0) := by
 intro a0 k
 have ap := clash_All.mono_l k
 unfold clash_All.f
 repeat' first
   | (with_reducible exact ap _ _ _ _ _)
   | (with_reducible exact api_Alarm_25.mono _ _ _)
   | (with_reducible exact api_Alarm_27.mono _ _)
   | (with_reducible exact clash_pairs.mono _ _ _ _ _ _ _ _)
   | (with_reducible exact LeO.refl _)
   | (with_reducible exact LeO.none _)
   | (with_reducible refine LeO.ite ?_ ?_)
   | (with_reducible refine LeO.bind ?_ (fun _ => ?_))
   | exact ap _ _ _ _ _
   | exact api_Alarm_25.mono _ _ _
   | exact api_Alarm_27.mono _ _
   | exact clash_pairs.mono _ _ _ _ _ _ _ _
   | exact LeO.none _
   | refine LeO.ite ?_ ?_
   | refine LeO.bind ?_ (fun _ => ?_)
set_option maxHeartbeats 8000000 in
set_option maxRecDepth 100000 in
theorem clash_All.calls (k : Nat) (A0 : Option Addr) (c0 : Nat) (l0 : List (S31)) (r : List (S24)) (w : World) (aD : Kd.C k31 w A0 l0.length l0) (aE : l0.length ≤ c0) (h : clash_All.f k l0 = some r) :
  Calls Try.prog 20 #[.slice A0 l0.length c0] w fun e w' => ∃ aG : Value, e = .returned (aG) ∧ Kd.R k24 24 w' w.heap.size (fun _ => True) aG r ∧ Below w.heap.size w w' := by
 have hu31 := Try.underlying31
 have aH := q20 aD
 have aT := q20 aE
 clear aD aE
 have HB := q20 (Below.refl w.heap.size w)
 have H : (clash_All.l0 k l0 ([] : List (S24)) l0 (l0.length : Int) 0) = some r := h
 clear h
 have H' := q20 H
 clear H
 go_enter Try.func20, Try.ntmps20
 go_wp2
 go_loopg [3, 8] k (fun kq v3 v8 w' => ∃ (x3_1 : List (S24)) (aa : Int), v8 = .int .i64 aa ∧ Aside0 (clash_All.l0 kq l0 x3_1 l0 (l0.length : Int) aa = some r) ∧ Aside0 (kq ≤ k) ∧ Aside0 (Kd.R k24 24 w' w.heap.size (fun _ => True) v3 x3_1) ∧ Aside0 (Below w.heap.size w w'))
 case atStart => exact ⟨(([] : List (S24))), (0), (by first | rfl | (simp; done) | (simp [*]; done)), H', ⟨Nat.le_refl _⟩, ⟨by first | exact Kd.R_nil _ _ _ _ _ | exact Kd.N_nil _ _ _ _ _ | exact Kd.V_nil _ _ _ _ _ | exact Kd.Q_nil _ _ _ _ _ | exact Kd.S_nil _ _ _ _ _⟩, ⟨by repeat (first | (with_reducible first | exact HB.out | apply bu | apply bv | apply bw) | exact HB.out)⟩⟩
 case round =>
  clear H'
  obtain ⟨x3_1, aa, rfl, HA, aI, ad, HB⟩ := hrel
  cases gk with
  | zero => exact absurd HA.out (by simp [clash_All.l0])
  | succ k1 =>
   have H := HA.out
   clear HA
   simp only [clash_All.l0] at H
   by_cases c2 : aa < (l0.length : Int)
   ·rw [if_pos c2] at H
    have aU : decide (aa < (l0.length : Int)) = true := decide_eq_true c2
    clear c2
    by_cases c3 : 0 ≤ aa
    ·rw [if_pos c3] at H
     have a8 : decide (0 ≤ aa) = true := decide_eq_true c3
     clear c3
     by_cases c4 : aa < (l0.length : Int)
     ·rw [if_pos c4] at H
      have a9 : decide (aa < (l0.length : Int)) = true := decide_eq_true c4
      clear c4
      replace H := Option.bind_eq_some_iff.mp H
      obtain ⟨t160, aJ, H⟩ := H
      replace H : (if x3_1.length + t160.length < 2932031007402 then (clash_All.l0 k1 l0 (x3_1 ++ t160) l0 (l0.length : Int) (wrap64 (aa + 1))) else (none)) = some r := H
      have A5 := q20 aJ
      clear aJ
      by_cases c6 : x3_1.length + t160.length < 2932031007402
      ·rw [if_pos c6] at H
       have aV := q20 c6
       clear c6
       obtain ⟨aK, aq⟩ : ∃ y_ : List (S24), y_ = (x3_1 ++ t160) := ⟨_, rfl⟩
       replace H : (clash_All.l0 k1 l0 aK l0 (l0.length : Int) (wrap64 (aa + 1))) = some r := by first | (rw [aq]; with_reducible exact H) | (have ar := (Option.bind_some _ _).symm.trans H; rw [aq]; with_reducible exact ar) | (have ar := (Option.bind_some _ _).symm.trans H; with_reducible exact ar) | with_reducible exact H | (rw [aq]; exact H) | exact H
       have aW := q20 aq
       clear aq
       have H' := q20 H
       clear H
       have au : 0 ≤ (aa : Int) := of_decide_eq_true (by first | (with_reducible assumption) | assumption)
       have av : aa < (l0.length : Int) := of_decide_eq_true (by first | (with_reducible assumption) | assumption)
       obtain ⟨aX, aY, aw, ax, ay, az, aA, aC⟩ := at_T31 aH.out aa au av
       cases aY
       replace aw := (HB.out.cell (bx w _ aw)).trans aw
       replace ax := (HB.out.cell (bx w _ ax)).trans ax
       replace ay := (HB.out.cell (bx w _ ay)).trans ay
       replace az := (HB.out.cell (bx w _ az)).trans az
       replace aA := (HB.out.cell (bx w _ aA)).trans aA
       replace aC := (HB.out.cell (bx w _ aC)).trans aC
       replace au := eq_true au
       replace av := eq_true av
       go_wp2_with (first | ((with_reducible refine gate_dst (N := 5) rfl ?_); refine box_event ?hg (N := 5) ?hd (cs := #[.int .i64 0, .int .i64 0, .bool false, .int .i64 0, .bool false, .int .i64 0]) (t := 31) ?hr ?_; (case hd => rfl); (case hg => rfl); (case hr => first | (go_simp; done) | (go_simp; rfl)); intro ab hg w7 hbox hb; have ae := q20 (Kd.R_below (by (with_reducible repeat (first | apply Kd.R_alloc | apply Kd.R_drewN | apply Kd.R_drew)); exact ad.out) hb); have af := q20 (below_step (by repeat (first | (with_reducible first | exact HB.out | apply bu | apply bv | apply bw) | exact HB.out)) hb); have ag := q20 (hbox); have ah := q20 ((by rw [hg]; exact (below_size (by repeat (first | (with_reducible first | exact HB.out | apply bu | apply bv | apply bw) | exact HB.out))) : w.heap.size ≤ ab)); have aM := q20 ((by rw [hg]; exact (below_size (by repeat (first | (with_reducible first | exact HB.out | apply bu | apply bv | apply bw) | exact HB.out))) : w.heap.size ≤ ab)); clear ad; clear HB; have ad := ae; have HB := af; have ac := ag; have ba := ah; have aj := aM; clear ae af ag ah aM; clear hb hbox hg; have bb : w7.cell? ⟨ab, 0, none⟩ = some (.int .i64 0) := (blk_cell ac.out 0).trans rfl; have bc : w7.cell? ⟨ab, 1, none⟩ = some (.int .i64 0) := (blk_cell ac.out 1).trans rfl; have bd : w7.cell? ⟨ab, 2, none⟩ = some (.bool false) := (blk_cell ac.out 2).trans rfl; have be : w7.cell? ⟨ab, 3, none⟩ = some (.int .i64 0) := (blk_cell ac.out 3).trans rfl; have bf : w7.cell? ⟨ab, 4, none⟩ = some (.bool false) := (blk_cell ac.out 4).trans rfl; have bg : w7.cell? ⟨ab, 5, none⟩ = some (.int .i64 0) := (blk_cell ac.out 5).trans rfl; have bh := blk_frozen ac.out 0; have bi := blk_frozen ac.out 1; have bj := blk_frozen ac.out 2; have bk := blk_frozen ac.out 3; have bl := blk_frozen ac.out 4; have bm := blk_frozen ac.out 5) | ((with_reducible refine gate_callee (f := 29) rfl ?_); refine goesL_ (some 15) rfl rfl Try.func29 (by kernel_rfl) rfl #[.agg #[.int .i64 ((rd_T31 l0 aa).f0), .int .i64 ((rd_T31 l0 aa).f1), .bool ((rd_T31 l0 aa).f2), .int .i64 ((rd_T31 l0 aa).f3), .bool ((rd_T31 l0 aa).f4), .int .i64 ((rd_T31 l0 aa).f5)], .slice (some aX) l0.length c0] rfl (by (try simp only [List.map_toArray, List.map_cons, List.map_nil]); first | done | rfl | (simp only [List.length_drop, List.length_take]; rfl)) ?_; (with_reducible refine (clash_pairs.calls k1 ((rd_T31 l0 aa).f0) ((rd_T31 l0 aa).f1) ((rd_T31 l0 aa).f2) ((rd_T31 l0 aa).f3) ((rd_T31 l0 aa).f4) ((rd_T31 l0 aa).f5) _ _ l0 t160 _ ?side1 ?side2 A5.out).mono ?_); (case side1 => exact Kd.C_below aH.out (by repeat (first | (with_reducible first | exact HB.out | apply bu | apply bv | apply bw | refine below_set ?_ aj.out) | exact HB.out))); (case side2 => exact aT.out); rintro e w9 ⟨bn, rfl, ak, hb⟩; refine ⟨_, rfl, ?_⟩; have ae := q20 (Kd.R_elder' (by (with_reducible repeat (first | apply Kd.R_alloc | apply Kd.R_drewN | apply Kd.R_drew)); exact (Kd.R_mono (Kd.R_far (p := ⟨ab, 5, none⟩) (Kd.R_far (p := ⟨ab, 4, none⟩) (Kd.R_far (p := ⟨ab, 3, none⟩) (Kd.R_far (p := ⟨ab, 2, none⟩) (Kd.R_far (p := ⟨ab, 1, none⟩) (Kd.R_far (p := ⟨ab, 0, none⟩) (Kd.R_types ad.out ac.out (by decide)) (fun _ hk => hk.2) (.int .i64 ((rd_T31 l0 aa).f0))) (fun _ hk => hk.2) (.int .i64 ((rd_T31 l0 aa).f1))) (fun _ hk => hk.2) (.bool ((rd_T31 l0 aa).f2))) (fun _ hk => hk.2) (.int .i64 ((rd_T31 l0 aa).f3))) (fun _ hk => hk.2) (.bool ((rd_T31 l0 aa).f4))) (fun _ hk => hk.2) (.int .i64 ((rd_T31 l0 aa).f5))) (fun _ h_ => h_.1))) (Kd.R_base ak) hb); have af := q20 (Kd.R_lower (Kd.R_new' ak (Kd.R_lt (by (with_reducible repeat (first | apply Kd.R_alloc | apply Kd.R_drewN | apply Kd.R_drew)); exact (Kd.R_mono (Kd.R_far (p := ⟨ab, 5, none⟩) (Kd.R_far (p := ⟨ab, 4, none⟩) (Kd.R_far (p := ⟨ab, 3, none⟩) (Kd.R_far (p := ⟨ab, 2, none⟩) (Kd.R_far (p := ⟨ab, 1, none⟩) (Kd.R_far (p := ⟨ab, 0, none⟩) (Kd.R_types ad.out ac.out (by decide)) (fun _ hk => hk.2) (.int .i64 ((rd_T31 l0 aa).f0))) (fun _ hk => hk.2) (.int .i64 ((rd_T31 l0 aa).f1))) (fun _ hk => hk.2) (.bool ((rd_T31 l0 aa).f2))) (fun _ hk => hk.2) (.int .i64 ((rd_T31 l0 aa).f3))) (fun _ hk => hk.2) (.bool ((rd_T31 l0 aa).f4))) (fun _ hk => hk.2) (.int .i64 ((rd_T31 l0 aa).f5))) (fun _ h_ => h_.1))))) (below_size (by repeat (first | (with_reducible first | exact HB.out | apply bu | apply bv | apply bw | refine below_set ?_ aj.out) | exact HB.out)))); have ag := q20 (blk_below (g := ab) (o := .cells #[.int .i64 ((rd_T31 l0 aa).f0), .int .i64 ((rd_T31 l0 aa).f1), .bool ((rd_T31 l0 aa).f2), .int .i64 ((rd_T31 l0 aa).f3), .bool ((rd_T31 l0 aa).f4), .int .i64 ((rd_T31 l0 aa).f5)] 31 (0, 0)) (by (with_reducible repeat (first | refine blk_drewN ?_ _ | refine blk_drew ?_ | refine blk_alloc ?_ _)); refine blk_put (cs := #[.int .i64 ((rd_T31 l0 aa).f0), .int .i64 ((rd_T31 l0 aa).f1), .bool ((rd_T31 l0 aa).f2), .int .i64 ((rd_T31 l0 aa).f3), .bool ((rd_T31 l0 aa).f4), .int .i64 0]) ?_ 5 _ rfl; (with_reducible repeat (first | refine blk_drewN ?_ _ | refine blk_drew ?_ | refine blk_alloc ?_ _)); refine blk_put (cs := #[.int .i64 ((rd_T31 l0 aa).f0), .int .i64 ((rd_T31 l0 aa).f1), .bool ((rd_T31 l0 aa).f2), .int .i64 ((rd_T31 l0 aa).f3), .bool false, .int .i64 0]) ?_ 4 _ rfl; (with_reducible repeat (first | refine blk_drewN ?_ _ | refine blk_drew ?_ | refine blk_alloc ?_ _)); refine blk_put (cs := #[.int .i64 ((rd_T31 l0 aa).f0), .int .i64 ((rd_T31 l0 aa).f1), .bool ((rd_T31 l0 aa).f2), .int .i64 0, .bool false, .int .i64 0]) ?_ 3 _ rfl; (with_reducible repeat (first | refine blk_drewN ?_ _ | refine blk_drew ?_ | refine blk_alloc ?_ _)); refine blk_put (cs := #[.int .i64 ((rd_T31 l0 aa).f0), .int .i64 ((rd_T31 l0 aa).f1), .bool false, .int .i64 0, .bool false, .int .i64 0]) ?_ 2 _ rfl; (with_reducible repeat (first | refine blk_drewN ?_ _ | refine blk_drew ?_ | refine blk_alloc ?_ _)); refine blk_put (cs := #[.int .i64 ((rd_T31 l0 aa).f0), .int .i64 0, .bool false, .int .i64 0, .bool false, .int .i64 0]) ?_ 1 _ rfl; (with_reducible repeat (first | refine blk_drewN ?_ _ | refine blk_drew ?_ | refine blk_alloc ?_ _)); refine blk_put (cs := #[.int .i64 0, .int .i64 0, .bool false, .int .i64 0, .bool false, .int .i64 0]) ?_ 0 _ rfl; (with_reducible repeat (first | refine blk_drewN ?_ _ | refine blk_drew ?_ | refine blk_alloc ?_ _)); exact ac.out) hb); have ah := q20 (below_step (by repeat (first | (with_reducible first | exact HB.out | apply bu | apply bv | apply bw | refine below_set ?_ aj.out) | exact HB.out)) hb); clear ad; clear ac; clear HB; have ad := ae; have al := af; have ac := ag; have HB := ah; clear ae af ag ah; (try clear hb); (try clear bo); (try clear hk); (try clear hi); (try clear ak); obtain ⟨aZ, a1, a2⟩ := Kd.R_slice al.out; subst a2) | ((with_reducible refine gate_builtin (b := .append) (xs := #[.tmp 12, .tmp 15]) rfl ?_); at_builtin; refine Kd.R_append_rows k24 (w0 := w) w.heap.size rfl (.tmp 12) (.tmp 15) 33 24 (.agg #[(.int .i64 0), (.int .i64 0), (.int .i64 0), (.int .i64 0), (.int .i64 0), (.int .i64 0)]) 48 rfl Try.underlying33 info24 rfl (by decide) (by omega) u3 x3_1 t160 _ _ _ (fun k_ => some k_ ≠ (.slice aZ t160.length a1 : Value).ownBlock) (fun _ => False) rfl rfl ?aO ?aR (fun _ _ h => h) (fun _ h => h.elim) ?aF ?aB ?aS ?aL ?_; (case aR => repeat (first | exact (Kd.R_reads' al.out).2.2 | (with_reducible refine Kd.C_alloc ?_ _) | (with_reducible refine Kd.C_drewN ?_ _) | (with_reducible refine Kd.C_drew ?_))); (case aB => exact (by repeat (first | (with_reducible first | exact HB.out | apply bu | apply bv | apply bw | refine below_set ?_ aj.out) | exact HB.out))); (case aF => exact (fun k_ hk => Kd.fresh' (Kd.R_lt (by (with_reducible repeat (first | apply Kd.R_alloc | apply Kd.R_drewN | apply Kd.R_drew)); exact al.out)) k_ hk)); (case aO => exact (by (with_reducible repeat (first | apply Kd.R_alloc | apply Kd.R_drewN | apply Kd.R_drew)); exact Kd.R_mono ad.out (fun _ hk => hk.2))); (case aS => exact (below_size (by repeat (first | (with_reducible first | exact HB.out | apply bu | apply bv | apply bw | refine below_set ?_ aj.out) | exact HB.out)))); (case aL => have := aV.out; omega); intro bp bq ho hb hg hat; rw [← aW.out] at ho; have ae := q20 (blk_grown (g := ab) (o := .cells #[.int .i64 ((rd_T31 l0 aa).f0), .int .i64 ((rd_T31 l0 aa).f1), .bool ((rd_T31 l0 aa).f2), .int .i64 ((rd_T31 l0 aa).f3), .bool ((rd_T31 l0 aa).f4), .int .i64 ((rd_T31 l0 aa).f5)] 31 (0, 0)) (by (with_reducible repeat (first | refine blk_drewN ?_ _ | refine blk_drew ?_ | refine blk_alloc ?_ _)); exact ac.out) hg (Kd.R_ne ad.out ac.out (by decide))); have af := q20 (Kd.R_after (ok := (fun _ => True)) (by (with_reducible repeat (first | apply Kd.R_alloc | apply Kd.R_drewN | apply Kd.R_drew)); exact al.out) hg hat); have ag := q20 (hb); have ah := q20 (ho); clear ac; clear al; clear HB; clear ad; have ac := ae; have al := af; have HB := ag; have a3 := ah; clear ae af ag ah; clear ho hb hg hat))
       go_roundg k1
       case measure => have := aI.out; omega
       case rel => exact ⟨(aK), (wrap64 (aa + 1)), (by first | rfl | (simp; done) | (simp [*]; done)), H', ⟨by have := aI.out; omega⟩, ⟨by (with_reducible repeat (first | apply Kd.R_alloc | apply Kd.R_drewN | apply Kd.R_drew)); exact Kd.R_mono a3.out (fun _ hk => trivial)⟩, ⟨by repeat (first | (with_reducible first | exact HB.out | apply bu | apply bv | apply bw | refine below_set ?_ aj.out) | exact HB.out)⟩⟩
      ·rw [if_neg c6] at H
       exact absurd H (by simp)
     ·rw [if_neg c4] at H
      exact absurd H (by simp)
    ·rw [if_neg c3] at H
     exact absurd H (by simp)
   ·rw [if_neg c2] at H
    have aU : decide (aa < (l0.length : Int)) = false := decide_eq_false c2
    clear c2
    replace H := Option.bind_eq_some_iff.mp H
    obtain ⟨ao, aN, H⟩ := H
    replace H : ((api_Alarm_27.f k1 ao).bind fun ai => (some ai)) = some r := H
    have a4 := q20 aN
    clear aN
    replace H := Option.bind_eq_some_iff.mp H
    obtain ⟨ai, aP, H⟩ := H
    replace H : (some ai) = some r := H
    have a5 := q20 aP
    clear aP
    obtain rfl := Option.some.inj H
    obtain ⟨am, an, a6⟩ := Kd.R_slice ad.out
    subst a6
    go_wp2_with (first | ((with_reducible refine gate_callee (f := 25) rfl ?_); refine goesL_ (some 19) rfl rfl Try.func25 (by kernel_rfl) rfl #[.slice am x3_1.length an, .func (.func 30) #[] #[]] rfl (by (try simp only [List.map_toArray, List.map_cons, List.map_nil]); first | done | rfl | (simp only [List.length_drop, List.length_take]; rfl)) ?_; (with_reducible refine (api_Alarm_25.calls k1 (fun k_ => some k_ = (.slice am x3_1.length an : Value).ownBlock) (.slice am x3_1.length an) x3_1 30 ao w _ ?side1 ?side2 a4.out).mono ?_); (case side1 => repeat (first | (with_reducible first | exact HB.out | apply bu | apply bv | apply bw) | exact HB.out)); (case side2 => exact Kd.R_tight rfl ad.out); rintro e br ⟨rfl, aQ, hb, hkp⟩; refine ⟨_, rfl, ?_⟩; have ae := q20 (Kd.R_reok rfl aQ (fun k_ e_ => ad.out.1 k_ e_)); have af := q20 (hb); clear ad; clear HB; have ad := ae; have HB := af; clear ae af; (try clear hb); (try clear hkp); (try clear aQ)) | ((with_reducible refine gate_callee (f := 27) rfl ?_); refine goesL_ (some 21) rfl rfl Try.func27 (by kernel_rfl) rfl #[.slice am x3_1.length an] rfl (by (try simp only [List.map_toArray, List.map_cons, List.map_nil]); first | done | rfl | (simp only [List.length_drop, List.length_take]; rfl)) ?_; (with_reducible refine (api_Alarm_27.calls k1 (fun k_ => some k_ = (.slice am x3_1.length an : Value).ownBlock) (.slice am x3_1.length an) ao ai w _ ?side1 ?side2 a5.out).mono ?_); (case side1 => repeat (first | (with_reducible first | exact HB.out | apply bu | apply bv | apply bw) | exact HB.out)); (case side2 => exact Kd.R_tight rfl ad.out); rintro e bs ⟨bt, rfl, ak, hb, hkp⟩; refine ⟨_, rfl, ?_⟩; have ae := q20 (Kd.R_mono (ok' := fun k_ => True) ak (fun k_ hk_ => trivial)); have af := q20 (hb); clear HB; clear ad; have a7 := ae; have HB := af; clear ae af; (try clear hb); (try clear hkp); (try clear ak)))
    go_ret
    exact ⟨_, by first | rfl | (simp [errW_none, errW_some] <;> rfl) | (simp [*, errW_none, errW_some] <;> rfl), by (with_reducible repeat (first | apply Kd.R_alloc | apply Kd.R_drewN | apply Kd.R_drew)); exact a7.out, by repeat (first | (with_reducible first | exact HB.out | apply bu | apply bv | apply bw) | exact HB.out)⟩
end Go.Proofs.Ytadnjibgdpjnlaa.Rp
