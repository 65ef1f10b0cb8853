/- An own text of this seat: Lean functions with the answers of Go functions, and that the Go code comes to them. Written by a program of this session out of the translation. -/
import Derived.Test.YtadnjibgdpjnlaaRpx0
import Derived.Test.YtadnjibgdpjnlaaRpF16
namespace Go.Proofs.Ytadnjibgdpjnlaa.Rp
open Go.RowKit Go.Proofs.YtadnjibgdpjnlaaW.PrintWords Go.Proofs.YtadnjibgdpjnlaaW.PrintLast Go.Proofs.YtadnjibgdpjnlaaW.PrintMore
open Go.Proofs.YtadnjibgdpjnlaaW.PrintWords renaming below_alloc → eN, pw_below_drewN → eO, below_drew1 → eP, below_step → eQ, below_size → eR, blk_below → eS, blk_drewN → eT, blk_alloc → eU, blk_drew → eV, blk_cell → eW, below_set → eX
open Go.Proofs.YtadnjibgdpjnlaaW.PrintWords.Kd renaming R_alloc → eY, R_drewN → eZ, R_drew → e0, C_alloc → e1, C_drewN → e2, C_drew → e3
open List renaming setIfInBounds_toArray → e4, set_cons_zero → e5, set_cons_succ → e6
open Go.World renaming block_lt_of_cell? → e7
theorem q28 {p : Prop} (h : p) : Aside0 p := ⟨h⟩
attribute [local go_sem] max2_int min2_int max_two min_two max_three min_three max_four min_four   -- for this text's walks alone
set_option linter.unusedVariables false
set_option linter.unusedSimpArgs false

/-! ### meddlerref15_Lay: function 28 -/
def meddlerref15_Lay.l0 : Nat → List (S24) → Int → Int → Int → Int → Int → Int → Int → Option ((List (S24)))
 | 0, _, _, _, _, _, _, _, _ => none
 | k + 1, x0, x5, bC, bD, bE, bF, bG, bH => if x5 < (x0.length : Int) then (if 0 ≤ x5 then ((meddlerref15_Order.f k ((rd_T24 x0 x5).f0) ((rd_T24 x0 x5).f1) ((rd_T24 x0 x5).f2) ((rd_T24 x0 x5).f3) ((rd_T24 x0 x5).f4) ((rd_T24 x0 x5).f5) bC bD bE bF bG bH).bind fun a9 => (if a9 < 0 then (meddlerref15_Lay.l0 k x0 (wrap64 (x5 + 1)) bC bD bE bF bG bH) else ((meddlerref15_Order.f k ((rd_T24 x0 x5).f0) ((rd_T24 x0 x5).f1) ((rd_T24 x0 x5).f2) ((rd_T24 x0 x5).f3) ((rd_T24 x0 x5).f4) ((rd_T24 x0 x5).f5) bC bD bE bF bG bH).bind fun aU => (if aU = 0 then (some x0) else ((some (([] : List (S24)) : List (S24))).bind fun y264 => (if x5 ≤ (x0.length : Int) then ((some (x0.take (x5 : Int).toNat : List (S24))).bind fun y267 => (if y264.length + y267.length < 2932031007402 then ((some (y264 ++ y267 : List (S24))).bind fun y271 => ((some (([(⟨bC, bD, bE, bF, bG, bH⟩ : S24)] : List (S24)) : List (S24))).bind fun y274 => (if y271.length + y274.length < 2932031007402 then ((some (y271 ++ y274 : List (S24))).bind fun y277 => ((some (x0.drop (x5 : Int).toNat : List (S24))).bind fun y280 => (if y277.length + y280.length < 2932031007402 then (some (y277 ++ y280)) else (none)))) else (none)))) else (none))) else (none))))))) else (none)) else ((some (([] : List (S24)) : List (S24))).bind fun y287 => (if 0 ≤ x5 then (if x5 ≤ (x0.length : Int) then ((some (x0.take (x5 : Int).toNat : List (S24))).bind fun y290 => (if y287.length + y290.length < 2932031007402 then ((some (y287 ++ y290 : List (S24))).bind fun y294 => ((some (([(⟨bC, bD, bE, bF, bG, bH⟩ : S24)] : List (S24)) : List (S24))).bind fun y297 => (if y294.length + y297.length < 2932031007402 then ((some (y294 ++ y297 : List (S24))).bind fun y300 => ((some (x0.drop (x5 : Int).toNat : List (S24))).bind fun y303 => (if y300.length + y303.length < 2932031007402 then (some (y300 ++ y303)) else (none)))) else (none)))) else (none))) else (none)) else (none)))
def meddlerref15_Lay.f (k : Nat) (l0 : List (S24)) (ae : Int) (af : Int) (ag : Int) (ah : Int) (ai : Int) (aj : Int) : Option ((List (S24))) := meddlerref15_Lay.l0 k l0 0 ae af ag ah ai aj
theorem meddlerref15_Lay.mono_l : ∀ k, (∀ y0 y1 y2 y3 y4 y5 y6 y7, LeO (meddlerref15_Lay.l0 k y0 y1 y2 y3 y4 y5 y6 y7) (meddlerref15_Lay.l0 (k + 1) y0 y1 y2 y3 y4 y5 y6 y7))
 | 0 => fun _ _ _ _ _ _ _ _ r h => by simp [meddlerref15_Lay.l0] at h
 | k + 1 => by
  have bI := meddlerref15_Lay.mono_l k
  ·intro y0 y1 y2 y3 y4 y5 y6 y7
   unfold meddlerref15_Lay.l0
   repeat' first
   | (with_reducible exact bI _ _ _ _ _ _ _ _)
   | (with_reducible exact meddlerref15_Order.mono _ _ _ _ _ _ _ _ _ _ _ _ _)
   | (with_reducible exact LeO.refl _)
   | (with_reducible exact LeO.none _)
   | (with_reducible refine LeO.ite ?_ ?_)
   | (with_reducible refine LeO.bind ?_ (fun _ => ?_))
   | exact bI _ _ _ _ _ _ _ _
   | exact meddlerref15_Order.mono _ _ _ _ _ _ _ _ _ _ _ _ _
   | exact LeO.none _
   | refine LeO.ite ?_ ?_
   | refine LeO.bind ?_ (fun _ => ?_)
theorem meddlerref15_Lay.mono : ∀ a0 a1 a2 a3 a4 a5 a6 k, LeO (meddlerref15_Lay.f k a0 a1 a2 a3 a4 a5 a6) (meddlerref15_Lay.f (k + 1) a0 a1 a2 a3 a4 a5 a6) := by
 intro a0 a1 a2 a3 a4 a5 a6 k
 have bI := meddlerref15_Lay.mono_l k
 unfold meddlerref15_Lay.f
 repeat' first
   | (with_reducible exact bI _ _ _ _ _ _ _ _)
   | (with_reducible exact meddlerref15_Order.mono _ _ _ _ _ _ _ _ _ _ _ _ _)
   | (with_reducible exact LeO.refl _)
   | (with_reducible exact LeO.none _)
   | (with_reducible refine LeO.ite ?_ ?_)
   | (with_reducible refine LeO.bind ?_ (fun _ => ?_))
   | exact bI _ _ _ _ _ _ _ _
   | exact meddlerref15_Order.mono _ _ _ _ _ _ _ _ _ _ _ _ _
   | exact LeO.none _
   | refine LeO.ite ?_ ?_
   | refine LeO.bind ?_ (fun _ => ?_)
def meddlerref15_Lay.T2 : Bool × List (List Nat × List Nat) := (true, [([], []), ([], []), ([1], [1]), ([0, 2], [0, 2]), ([3], [3]), ([4], [4]), ([4], [4]), ([5, 6, 4], [4, 5, 6]), ([7, 4], [4, 7]), ([4], [4]), ([8, 9, 4, 4], [4, 8, 9]), ([10, 4], [4, 10]), ([4, 11], [4, 11])])
def meddlerref15_Lay.B2 : List Nat := [0, 0, 2, 7, 15, 31, 31, 127, 255, 31, 1023, 2047, 4095]
theorem meddlerref15_Lay.tab2 : rtab .any (opsOf Try.f28 2) = meddlerref15_Lay.T2 := by kernel_rfl
theorem meddlerref15_Lay.bits2 : waitsOk meddlerref15_Lay.T2.2 meddlerref15_Lay.B2 = true := by kernel_rfl
def meddlerref15_Lay.T4 : Bool × List (List Nat × List Nat) := (true, [([], []), ([], []), ([1], [1]), ([0, 2], [0, 2]), ([3], [3]), ([4], [4]), ([4], [4]), ([5, 6, 4], [4, 5, 6]), ([7, 4], [4, 7]), ([4], [4]), ([8, 9, 4, 4], [4, 8, 9]), ([10, 4], [4, 10]), ([4, 11], [4, 11])])
def meddlerref15_Lay.B4 : List Nat := [0, 0, 2, 7, 15, 31, 31, 127, 255, 31, 1023, 2047, 4095]
theorem meddlerref15_Lay.tab4 : rtab .any (opsOf Try.f28 4) = meddlerref15_Lay.T4 := by kernel_rfl
theorem meddlerref15_Lay.bits4 : waitsOk meddlerref15_Lay.T4.2 meddlerref15_Lay.B4 = true := by kernel_rfl
def meddlerref15_Lay.T6 : Bool × List (List Nat × List Nat) := (true, [([], []), ([], []), ([], []), ([1, 2], [1, 2]), ([0, 3], [0, 3]), ([], []), ([5], [5]), ([4, 6, 4], [4, 6]), ([7, 7, 0, 1, 2, 3, 4, 5, 6, 7], [7])])
def meddlerref15_Lay.B6 : List Nat := [0, 0, 0, 6, 15, 0, 32, 127, 255]
theorem meddlerref15_Lay.tab6 : rtab .any (opsOf Try.f28 6) = meddlerref15_Lay.T6 := by kernel_rfl
theorem meddlerref15_Lay.bits6 : waitsOk meddlerref15_Lay.T6.2 meddlerref15_Lay.B6 = true := by kernel_rfl
set_option maxHeartbeats 8000000 in
set_option maxRecDepth 100000 in
theorem meddlerref15_Lay.calls (k : Nat) (ak : Nat → Prop) (ch : Value) (l0 : List (S24)) (ae : Int) (af : Int) (ag : Int) (ah : Int) (ai : Int) (aj : Int) (r : List (S24)) (w0 w : World) (hB : Below w0.heap.size w0 w) (du : Kd.R k24 24 w w0.heap.size ak ch l0) (h : meddlerref15_Lay.f k l0 ae af ag ah ai aj = some r) :
  Calls Try.prog 28 #[ch, .agg #[.int .i64 ae, .int .i64 af, .int .i64 ag, .int .i64 ah, .int .i64 ai, .int .i64 aj]] w fun e w' => ∃ cZ : Value, e = .returned (cZ) ∧ Kd.R k24 24 w' w0.heap.size (fun k_ => (ak k_ ∨ w.heap.size ≤ k_)) cZ r ∧ Below w0.heap.size w0 w' ∧ Kept w w' (fun k_ => ak k_) := by
 have hu24 := Try.underlying24
 have ci := q28 (show Kd.R k24 24 w w0.heap.size (fun k_ => (ak k_ ∨ w.heap.size ≤ k_)) ch l0 from Kd.R_mono du (fun k_ hk => (.inl hk)))
 have HK := q28 (Kept.refl w (fun k_ => ak k_))
 have d5 := q28 hB.size
 have HB := q28 hB
 clear hB
 have H : (meddlerref15_Lay.l0 k l0 0 ae af ag ah ai aj) = some r := h
 clear h
 have H' := q28 H
 clear H
 go_enter Try.func28, Try.ntmps28
 go_wp2_with (first | ((with_reducible refine gate_dst (N := 3) rfl ?_); refine box_event ?hg (N := 3) ?hd (cs := #[.int .i64 ae, .int .i64 af, .int .i64 ag, .int .i64 ah, .int .i64 ai, .int .i64 aj]) (t := 24) ?hr ?_; (case hd => rfl); (case hg => rfl); (case hr => first | (go_simp; done) | (go_simp; rfl)); intro ac hg w3 hbox hb; have al := q28 (Kd.R_below (Kd.R_elderB (by (with_reducible repeat (first | apply eY | apply eZ | apply e0)); exact ci.out) ac (Nat.le_of_eq hg.symm)) hb); have am := q28 (Kept.below (S := (fun k_ => ak k_)) (by repeat (first | (with_reducible first | exact HK.out | apply Kept.alloc | apply Kept.drewN | apply Kept.drew) | exact HK.out)) hb); have an := q28 (eQ (by repeat (first | (with_reducible first | exact HB.out | apply eN | apply eO | apply eP) | exact HB.out)) hb); have ao := q28 (hbox); have ap := q28 ((by rw [hg]; exact (by first | exact HK.out.1 | exact (show Kept w _ (fun k_ => ak k_) from by repeat (first | (with_reducible first | exact HK.out | apply Kept.alloc | apply Kept.drewN | apply Kept.drew) | exact HK.out)).1) : w.heap.size ≤ ac)); have aq := q28 ((by rw [hg]; exact (eR (by repeat (first | (with_reducible first | exact HB.out | apply eN | apply eO | apply eP) | exact HB.out))) : w0.heap.size ≤ ac)); clear ci; clear HK; clear HB; have ci := al; have HK := am; have HB := an; have aa := ao; have ar := ap; have au := aq; clear al am an ao ap aq; clear hb hbox hg))
 go_loopg [5] k (fun kq v5 w' => ∃ (ab : Int), v5 = .int .i64 ab ∧ Aside0 (meddlerref15_Lay.l0 kq l0 ab ae af ag ah ai aj = some r) ∧ Aside0 (kq ≤ k) ∧ Aside0 (Kd.R k24 24 w' w0.heap.size (fun k_ => (ak k_ ∨ w.heap.size ≤ k_) ∧ k_ ≠ ac) ch l0) ∧ Aside0 (w'.heap[ac]? = some (.cells #[.int .i64 ae, .int .i64 af, .int .i64 ag, .int .i64 ah, .int .i64 ai, .int .i64 aj] 24 (0, 0))) ∧ Aside0 (Kept w w' (fun k_ => ak k_)) ∧ Aside0 (Below w0.heap.size w0 w'))
 case atStart => exact ⟨(0), (by first | rfl | (simp; done) | (simp [*]; done)), H', ⟨Nat.le_refl _⟩, ⟨by (with_reducible repeat (first | apply eY | apply eZ | apply e0)); exact ci.out⟩, ⟨by (with_reducible repeat (first | refine eT ?_ _ | refine eV ?_ | refine eU ?_ _)); exact aa.out⟩, ⟨by repeat (first | (with_reducible first | exact HK.out | apply Kept.alloc | apply Kept.drewN | apply Kept.drew | refine Kept.setCell ?_ (.inr ar.out) _) | exact HK.out)⟩, ⟨by repeat (first | (with_reducible first | exact HB.out | apply eN | apply eO | apply eP | refine eX ?_ au.out) | exact HB.out)⟩⟩
 case round =>
  clear H'
  try clear c2
  try clear p2
  obtain ⟨ab, rfl, HA, c0, ad, aa, HK, HB⟩ := hrel
  cases gk with
  | zero => exact absurd HA.out (by simp [meddlerref15_Lay.l0])
  | succ k1 =>
   have H := HA.out
   clear HA
   simp only [meddlerref15_Lay.l0] at H
   by_cases c4 : ab < (l0.length : Int)
   ·rw [if_pos c4] at H
    have dv : decide (ab < (l0.length : Int)) = true := decide_eq_true c4
    clear c4
    by_cases c5 : 0 ≤ ab
    ·rw [if_pos c5] at H
     have d6 : decide (0 ≤ ab) = true := decide_eq_true c5
     clear c5
     replace H := Option.bind_eq_some_iff.mp H
     obtain ⟨a9, c3, H⟩ := H
     replace H : (if a9 < 0 then (meddlerref15_Lay.l0 k1 l0 (wrap64 (ab + 1)) ae af ag ah ai aj) else ((meddlerref15_Order.f k1 ((rd_T24 l0 ab).f0) ((rd_T24 l0 ab).f1) ((rd_T24 l0 ab).f2) ((rd_T24 l0 ab).f3) ((rd_T24 l0 ab).f4) ((rd_T24 l0 ab).f5) ae af ag ah ai aj).bind fun aU => (if aU = 0 then (some l0) else ((some (([] : List (S24)) : List (S24))).bind fun y264 => (if ab ≤ (l0.length : Int) then ((some (l0.take (ab : Int).toNat : List (S24))).bind fun y267 => (if y264.length + y267.length < 2932031007402 then ((some (y264 ++ y267 : List (S24))).bind fun y271 => ((some (([(⟨ae, af, ag, ah, ai, aj⟩ : S24)] : List (S24)) : List (S24))).bind fun y274 => (if y271.length + y274.length < 2932031007402 then ((some (y271 ++ y274 : List (S24))).bind fun y277 => ((some (l0.drop (ab : Int).toNat : List (S24))).bind fun y280 => (if y277.length + y280.length < 2932031007402 then (some (y277 ++ y280)) else (none)))) else (none)))) else (none))) else (none)))))) = some r := H
     have A6 := q28 c3
     clear c3
     by_cases c7 : a9 < 0
     ·rw [if_pos c7] at H
      have dw : decide (a9 < 0) = true := decide_eq_true c7
      clear c7
      have H' := q28 H
      clear H
      try go_wp2
      have al := q28 (e0 ad.out)
      have am := q28 (eV aa.out)
      have an := q28 (Kept.drew HK.out)
      have ao := q28 (eP HB.out)
      clear ad
      clear aa
      clear HK
      clear HB
      have ad := al
      have aa := am
      have HK := an
      have HB := ao
      clear al am an ao
      obtain ⟨d7, d8, c8⟩ := Kd.R_slice ad.out
      (first | subst c8 | (injection c8 with f1_ aV f3_; have aW := f1_.symm; have aX := f3_.symm; clear f1_ aV f3_; subst aW; subst aX))
      have aY : 0 ≤ (ab : Int) := of_decide_eq_true (by first | (with_reducible assumption) | assumption)
      have aZ : ab < (l0.length : Int) := of_decide_eq_true (by first | (with_reducible assumption) | assumption)
      obtain ⟨ad260, bJ, bi, bj, bk, bl, bm, bn⟩ := at_T24 (Kd.R_reads' ad.out).2.2 ab aY aZ
      cases bJ
      replace aY := eq_true aY
      replace aZ := eq_true aZ
      refine start_ (n := 13) (S := fun w' => w'.cell? ⟨ac, 0, none⟩ = some (.int .i64 ae) ∧ w'.cell? ⟨ac, 1, none⟩ = some (.int .i64 af) ∧ w'.cell? ⟨ac, 2, none⟩ = some (.int .i64 ag) ∧ w'.cell? ⟨ac, 3, none⟩ = some (.int .i64 ah) ∧ w'.cell? ⟨ac, 4, none⟩ = some (.int .i64 ai) ∧ w'.cell? ⟨ac, 5, none⟩ = some (.int .i64 aj) ∧ w'.cell? (ad260.add ((ab).toNat * 6)) = some (.int .i64 ((rd_T24 l0 ab).f0)) ∧ w'.cell? ⟨(ad260.add ((ab).toNat * 6)).block, (ad260.add ((ab).toNat * 6)).off + 1, none⟩ = some (.int .i64 ((rd_T24 l0 ab).f1)) ∧ w'.cell? ⟨(ad260.add ((ab).toNat * 6)).block, (ad260.add ((ab).toNat * 6)).off + 2, none⟩ = some (.int .i64 ((rd_T24 l0 ab).f2)) ∧ w'.cell? ⟨(ad260.add ((ab).toNat * 6)).block, (ad260.add ((ab).toNat * 6)).off + 3, none⟩ = some (.int .i64 ((rd_T24 l0 ab).f3)) ∧ w'.cell? ⟨(ad260.add ((ab).toNat * 6)).block, (ad260.add ((ab).toNat * 6)).off + 4, none⟩ = some (.int .i64 ((rd_T24 l0 ab).f4)) ∧ w'.cell? ⟨(ad260.add ((ab).toNat * 6)).block, (ad260.add ((ab).toNat * 6)).off + 5, none⟩ = some (.int .i64 ((rd_T24 l0 ab).f5))) (ds := []) #[false, false, false, false, false, false, false, false, false, false, false, false, false] (by kernel_rfl) rfl rfl ⟨(eW aa.out 0).trans rfl, (eW aa.out 1).trans rfl, (eW aa.out 2).trans rfl, (eW aa.out 3).trans rfl, (eW aa.out 4).trans rfl, (eW aa.out 5).trans rfl, bi, bj, bk, bl, bm, bn⟩ (fun hHeld => ?_); refine with_tabW meddlerref15_Lay.tab2 meddlerref15_Lay.bits2 (fun HT_ HW_ => ?_)
      generalize wr.drew = w8 at ad aa HK HB bi bj bk bl bm bn hHeld ⊢
      refine pure_ (i := 0) (N := some 7) (v := ?_) (a' := ?_) #[true, false, false, false, false, false, false, false, false, false, false, false, false] rfl rfl (any_of HT_.out (by kernel_rfl)) (fun _ _ _ h => h) (Or.inl ⟨by rfl, ?_⟩) ?_ ?_
      rotate_left
      ·intro w'
       go_simp
       with_reducible rfl
      rotate_left
      ·simp only [Act.put, e4, e5, e6, i64_w, i32_w]
       rfl
      refine pure_ (i := 1) (N := some 8) (v := ?_) (a' := ?_) #[true, true, false, false, false, false, false, false, false, false, false, false, false] rfl rfl (any_of HT_.out (by kernel_rfl)) (fun _ _ _ h => h) (Or.inl ⟨by rfl, ?_⟩) ?_ ?_
      rotate_left
      ·intro w'
       go_simp
       with_reducible rfl
      rotate_left
      ·simp only [Act.put, e4, e5, e6, i64_w, i32_w]
       rfl
      refine pure_ (i := 2) (N := some 9) (v := ?_) (a' := ?_) #[true, true, true, false, false, false, false, false, false, false, false, false, false] rfl rfl (any_of HT_.out (by kernel_rfl)) (fun _ _ _ h => h) (Or.inl ⟨by rfl, ?_⟩) ?_ ?_
      rotate_left
      ·intro w'
       go_simp
       with_reducible rfl
      rotate_left
      ·simp only [Act.put, e4, e5, e6, i64_w, i32_w]
       rfl
      refine pure_ (i := 3) (N := some 10) (v := ?_) (a' := ?_) #[true, true, true, true, false, false, false, false, false, false, false, false, false] rfl rfl (any_of HT_.out (by kernel_rfl)) (fun _ _ _ h => h) (Or.inl ⟨by rfl, ?_⟩) ?_ ?_
      rotate_left
      ·intro w'
       go_simp
       with_reducible rfl
      rotate_left
      ·simp only [Act.put, e4, e5, e6, i64_w, i32_w]
       rfl
      refine pure_ (i := 4) (N := some 11) (v := ?_) (a' := ?_) #[true, true, true, true, true, false, false, false, false, false, false, false, false] rfl rfl (any_of HT_.out (by kernel_rfl)) (fun _ _ _ h => h) (Or.inl ⟨by rfl, ?_⟩) ?_ ?_
      rotate_left
      ·intro w'
       go_simp
       with_reducible rfl
      rotate_left
      ·simp only [Act.put, e4, e5, e6, i64_w, i32_w]
       rfl
      refine pure_ (i := 5) (N := some 12) (v := ?_) (a' := ?_) #[true, true, true, true, true, true, false, false, false, false, false, false, false] rfl rfl (any_of HT_.out (by kernel_rfl)) (fun _ _ _ h => h) (Or.inl ⟨by rfl, ?_⟩) ?_ ?_
      rotate_left
      ·intro w'
       go_simp
       with_reducible rfl
      rotate_left
      ·simp only [Act.put, e4, e5, e6, i64_w, i32_w]
       rfl
      refine pure_ (i := 6) (N := some 13) (v := ?_) (a' := ?_) #[true, true, true, true, true, true, true, false, false, false, false, false, false] rfl rfl (any_of HT_.out (by kernel_rfl)) (fun _ _ _ h => h) (Or.inl ⟨by rfl, ?_⟩) ?_ ?_
      rotate_left
      ·intro w'
       go_simp
       with_reducible rfl
      rotate_left
      ·simp only [Act.put, e4, e5, e6, i64_w, i32_w]
       rfl
      refine pure_ (i := 7) (N := some 14) (v := ?_) (a' := ?_) #[true, true, true, true, true, true, true, true, false, false, false, false, false] rfl rfl (any_of HT_.out (by kernel_rfl)) (fun _ _ _ h => h) (Or.inl ⟨by rfl, ?_⟩) ?_ ?_
      rotate_left
      ·intro w'
       go_simp
       with_reducible rfl
      rotate_left
      ·simp only [Act.put, e4, e5, e6, i64_w, i32_w]
       rfl
      refine take_ (i := 8) (N := some 15) (v := ?_) (a' := ?_) #[true, true, true, true, true, true, true, true, true, false, false, false, false] rfl rfl (take_ofW HT_.out HW_.out (by kernel_rfl)) (fun _ _ _ h => h) (Or.inl ⟨by rfl, ?_⟩) hHeld ?_ ?_
      rotate_left
      ·rintro w' ⟨s0, s1, s2, s3, s4, s5, s6, s7, s8, s9, ba, bb⟩
       go_simp
       with_reducible rfl
      rotate_left
      ·simp only [Act.put, e4, e5, e6, i64_w, i32_w]
       rfl
      refine take_ (i := 9) (N := some 16) (v := ?_) (a' := ?_) #[true, true, true, true, true, true, true, true, true, true, false, false, false] rfl rfl (take_ofW HT_.out HW_.out (by kernel_rfl)) (fun _ _ _ h => h) (Or.inl ⟨by rfl, ?_⟩) hHeld ?_ ?_
      rotate_left
      ·rintro w' ⟨s0, s1, s2, s3, s4, s5, s6, s7, s8, s9, ba, bb⟩
       go_simp
       with_reducible rfl
      rotate_left
      ·simp only [Act.put, e4, e5, e6, i64_w, i32_w]
       rfl
      refine one_ (i := 10) (N := some 17) #[true, true, true, true, true, true, true, true, true, true, true, false, false] rfl rfl (one_of HT_.out (by kernel_rfl)) (by decide) (fun K hK => ?_)
      refine goes_ Try.func16 (by kernel_rfl) rfl #[.agg #[.int .i64 ((rd_T24 l0 ab).f0), .int .i64 ((rd_T24 l0 ab).f1), .int .i64 ((rd_T24 l0 ab).f2), .int .i64 ((rd_T24 l0 ab).f3), .int .i64 ((rd_T24 l0 ab).f4), .int .i64 ((rd_T24 l0 ab).f5)], .agg #[.int .i64 ae, .int .i64 af, .int .i64 ag, .int .i64 ah, .int .i64 ai, .int .i64 aj]] (by rfl) rfl rfl (by (try simp only [List.map_toArray, List.map_cons, List.map_nil]); first | done | rfl | (simp only [List.length_drop, List.length_take]; rfl)) ?_
      with_reducible refine (meddlerref15_Order.calls k1 ((rd_T24 l0 ab).f0) ((rd_T24 l0 ab).f1) ((rd_T24 l0 ab).f2) ((rd_T24 l0 ab).f3) ((rd_T24 l0 ab).f4) ((rd_T24 l0 ab).f5) ae af ag ah ai aj a9 _ A6.out).mono ?_
      rintro e d9 ⟨rfl, hb⟩
      have bc := (hb.cell (e7 _ _ (hHeld.2.2.2.2.2.2.1))).trans (hHeld.2.2.2.2.2.2.1)
      have bd := (hb.cell (e7 _ _ (hHeld.2.2.2.2.2.2.2.1))).trans (hHeld.2.2.2.2.2.2.2.1)
      have be := (hb.cell (e7 _ _ (hHeld.2.2.2.2.2.2.2.2.1))).trans (hHeld.2.2.2.2.2.2.2.2.1)
      have bf := (hb.cell (e7 _ _ (hHeld.2.2.2.2.2.2.2.2.2.1))).trans (hHeld.2.2.2.2.2.2.2.2.2.1)
      have bg := (hb.cell (e7 _ _ (hHeld.2.2.2.2.2.2.2.2.2.2.1))).trans (hHeld.2.2.2.2.2.2.2.2.2.2.1)
      have bh := (hb.cell (e7 _ _ (hHeld.2.2.2.2.2.2.2.2.2.2.2))).trans (hHeld.2.2.2.2.2.2.2.2.2.2.2)
      refine ⟨_, rfl, ?_⟩
      have al := q28 (Kd.R_below (by (with_reducible repeat (first | apply eY | apply eZ | apply e0)); exact ad.out) hb)
      have am := q28 (eS (g := ac) (o := .cells #[.int .i64 ae, .int .i64 af, .int .i64 ag, .int .i64 ah, .int .i64 ai, .int .i64 aj] 24 (0, 0)) (by (with_reducible repeat (first | refine eT ?_ _ | refine eV ?_ | refine eU ?_ _)); exact aa.out) hb)
      have an := q28 (Kept.below (S := (fun k_ => ak k_)) (by repeat (first | (with_reducible first | exact HK.out | apply Kept.alloc | apply Kept.drewN | apply Kept.drew | refine Kept.setCell ?_ (.inr ar.out) _) | exact HK.out)) hb)
      have ao := q28 (eQ (by repeat (first | (with_reducible first | exact HB.out | apply eN | apply eO | apply eP | refine eX ?_ au.out) | exact HB.out)) hb)
      clear ad
      clear aa
      clear HK
      clear HB
      have ad := al
      have aa := am
      have HK := an
      have HB := ao
      clear al am an ao
      (try clear hb)
      (try clear cj)
      (try clear hk)
      (try clear hi)
      refine hK.out _ _ ⟨(eW aa.out 0).trans rfl, (eW aa.out 1).trans rfl, (eW aa.out 2).trans rfl, (eW aa.out 3).trans rfl, (eW aa.out 4).trans rfl, (eW aa.out 5).trans rfl, bc, bd, be, bf, bg, bh⟩ (fun hHeld => ?_)
      clear hK K
      refine norm_ (a' := ?_) ?_ ?_
      rotate_left
      ·show Act.put _ (some 17) _ = _
       simp only [Act.put, e4, e5, e6, i64_w, i32_w]
       rfl
      refine pure_ (i := 11) (N := some 18) (v := ?_) (a' := ?_) #[true, true, true, true, true, true, true, true, true, true, true, true, false] rfl rfl (any_of HT_.out (by kernel_rfl)) (fun _ _ _ h => h) (Or.inl ⟨by rfl, ?_⟩) ?_ ?_
      rotate_left
      ·intro w'
       go_simp
       with_reducible rfl
      rotate_left
      ·simp only [Act.put, e4, e5, e6, i64_w, i32_w]
       rfl
      refine pure_ (i := 12) (N := some 19) (v := ?_) (a' := ?_) #[true, true, true, true, true, true, true, true, true, true, true, true, true] rfl rfl (any_of HT_.out (by kernel_rfl)) (fun _ _ _ h => h) (Or.inl ⟨by rfl, ?_⟩) ?_ ?_
      rotate_left
      ·intro w'
       go_simp
       with_reducible rfl
      rotate_left
      ·simp only [Act.put, e4, e5, e6, i64_w, i32_w]
       rfl
      refine done_ (done_of HT_.out (by kernel_rfl)) ?_
      try go_wp2
      go_roundg k1
      case measure => have := c0.out; omega
      case rel => exact ⟨(wrap64 (ab + 1)), (by first | rfl | (simp; done) | (simp [*]; done)), H', ⟨by have := c0.out; omega⟩, ⟨by (with_reducible repeat (first | apply eY | apply eZ | apply e0)); exact ad.out⟩, ⟨by (with_reducible repeat (first | refine eT ?_ _ | refine eV ?_ | refine eU ?_ _)); exact aa.out⟩, ⟨by repeat (first | (with_reducible first | exact HK.out | apply Kept.alloc | apply Kept.drewN | apply Kept.drew | refine Kept.setCell ?_ (.inr ar.out) _) | exact HK.out)⟩, ⟨by repeat (first | (with_reducible first | exact HB.out | apply eN | apply eO | apply eP | refine eX ?_ au.out) | exact HB.out)⟩⟩
     ·rw [if_neg c7] at H
      have dw : decide (a9 < 0) = false := decide_eq_false c7
      clear c7
      replace H := Option.bind_eq_some_iff.mp H
      obtain ⟨aU, c9, H⟩ := H
      replace H : (if aU = 0 then (some l0) else ((some (([] : List (S24)) : List (S24))).bind fun y264 => (if ab ≤ (l0.length : Int) then ((some (l0.take (ab : Int).toNat : List (S24))).bind fun y267 => (if y264.length + y267.length < 2932031007402 then ((some (y264 ++ y267 : List (S24))).bind fun y271 => ((some (([(⟨ae, af, ag, ah, ai, aj⟩ : S24)] : List (S24)) : List (S24))).bind fun y274 => (if y271.length + y274.length < 2932031007402 then ((some (y271 ++ y274 : List (S24))).bind fun y277 => ((some (l0.drop (ab : Int).toNat : List (S24))).bind fun y280 => (if y277.length + y280.length < 2932031007402 then (some (y277 ++ y280)) else (none)))) else (none)))) else (none))) else (none)))) = some r := H
      have da := q28 c9
      clear c9
      by_cases bq : aU = 0
      ·rw [if_pos bq] at H
       have dx : (aU == 0) = true := beq_iff_eq.mpr bq
       have dy : (aU != 0) = false := bne_eq_false_iff_eq.mpr bq
       clear bq
       obtain rfl := Option.some.inj H
       try go_wp2
       have al := q28 (e0 ad.out)
       have am := q28 (eV aa.out)
       have an := q28 (Kept.drew HK.out)
       have ao := q28 (eP HB.out)
       clear ad
       clear aa
       clear HK
       clear HB
       have ad := al
       have aa := am
       have HK := an
       have HB := ao
       clear al am an ao
       obtain ⟨ea, eb, db⟩ := Kd.R_slice ad.out
       (first | subst db | (injection db with f1_ aV f3_; have aW := f1_.symm; have aX := f3_.symm; clear f1_ aV f3_; subst aW; subst aX))
       have aY : 0 ≤ (ab : Int) := of_decide_eq_true (by first | (with_reducible assumption) | assumption)
       have aZ : ab < (l0.length : Int) := of_decide_eq_true (by first | (with_reducible assumption) | assumption)
       obtain ⟨ad260, bJ, bi, bj, bk, bl, bm, bn⟩ := at_T24 (Kd.R_reads' ad.out).2.2 ab aY aZ
       cases bJ
       replace aY := eq_true aY
       replace aZ := eq_true aZ
       refine start_ (n := 13) (S := fun w' => w'.cell? ⟨ac, 0, none⟩ = some (.int .i64 ae) ∧ w'.cell? ⟨ac, 1, none⟩ = some (.int .i64 af) ∧ w'.cell? ⟨ac, 2, none⟩ = some (.int .i64 ag) ∧ w'.cell? ⟨ac, 3, none⟩ = some (.int .i64 ah) ∧ w'.cell? ⟨ac, 4, none⟩ = some (.int .i64 ai) ∧ w'.cell? ⟨ac, 5, none⟩ = some (.int .i64 aj) ∧ w'.cell? (ad260.add ((ab).toNat * 6)) = some (.int .i64 ((rd_T24 l0 ab).f0)) ∧ w'.cell? ⟨(ad260.add ((ab).toNat * 6)).block, (ad260.add ((ab).toNat * 6)).off + 1, none⟩ = some (.int .i64 ((rd_T24 l0 ab).f1)) ∧ w'.cell? ⟨(ad260.add ((ab).toNat * 6)).block, (ad260.add ((ab).toNat * 6)).off + 2, none⟩ = some (.int .i64 ((rd_T24 l0 ab).f2)) ∧ w'.cell? ⟨(ad260.add ((ab).toNat * 6)).block, (ad260.add ((ab).toNat * 6)).off + 3, none⟩ = some (.int .i64 ((rd_T24 l0 ab).f3)) ∧ w'.cell? ⟨(ad260.add ((ab).toNat * 6)).block, (ad260.add ((ab).toNat * 6)).off + 4, none⟩ = some (.int .i64 ((rd_T24 l0 ab).f4)) ∧ w'.cell? ⟨(ad260.add ((ab).toNat * 6)).block, (ad260.add ((ab).toNat * 6)).off + 5, none⟩ = some (.int .i64 ((rd_T24 l0 ab).f5))) (ds := []) #[false, false, false, false, false, false, false, false, false, false, false, false, false] (by kernel_rfl) rfl rfl ⟨(eW aa.out 0).trans rfl, (eW aa.out 1).trans rfl, (eW aa.out 2).trans rfl, (eW aa.out 3).trans rfl, (eW aa.out 4).trans rfl, (eW aa.out 5).trans rfl, bi, bj, bk, bl, bm, bn⟩ (fun hHeld => ?_); refine with_tabW meddlerref15_Lay.tab2 meddlerref15_Lay.bits2 (fun HT_ HW_ => ?_)
       generalize wr.drew = ec at ad aa HK HB bi bj bk bl bm bn hHeld ⊢
       refine pure_ (i := 0) (N := some 7) (v := ?_) (a' := ?_) #[true, false, false, false, false, false, false, false, false, false, false, false, false] rfl rfl (any_of HT_.out (by kernel_rfl)) (fun _ _ _ h => h) (Or.inl ⟨by rfl, ?_⟩) ?_ ?_
       rotate_left
       ·intro w'
        go_simp
        with_reducible rfl
       rotate_left
       ·simp only [Act.put, e4, e5, e6, i64_w, i32_w]
        rfl
       refine pure_ (i := 1) (N := some 8) (v := ?_) (a' := ?_) #[true, true, false, false, false, false, false, false, false, false, false, false, false] rfl rfl (any_of HT_.out (by kernel_rfl)) (fun _ _ _ h => h) (Or.inl ⟨by rfl, ?_⟩) ?_ ?_
       rotate_left
       ·intro w'
        go_simp
        with_reducible rfl
       rotate_left
       ·simp only [Act.put, e4, e5, e6, i64_w, i32_w]
        rfl
       refine pure_ (i := 2) (N := some 9) (v := ?_) (a' := ?_) #[true, true, true, false, false, false, false, false, false, false, false, false, false] rfl rfl (any_of HT_.out (by kernel_rfl)) (fun _ _ _ h => h) (Or.inl ⟨by rfl, ?_⟩) ?_ ?_
       rotate_left
       ·intro w'
        go_simp
        with_reducible rfl
       rotate_left
       ·simp only [Act.put, e4, e5, e6, i64_w, i32_w]
        rfl
       refine pure_ (i := 3) (N := some 10) (v := ?_) (a' := ?_) #[true, true, true, true, false, false, false, false, false, false, false, false, false] rfl rfl (any_of HT_.out (by kernel_rfl)) (fun _ _ _ h => h) (Or.inl ⟨by rfl, ?_⟩) ?_ ?_
       rotate_left
       ·intro w'
        go_simp
        with_reducible rfl
       rotate_left
       ·simp only [Act.put, e4, e5, e6, i64_w, i32_w]
        rfl
       refine pure_ (i := 4) (N := some 11) (v := ?_) (a' := ?_) #[true, true, true, true, true, false, false, false, false, false, false, false, false] rfl rfl (any_of HT_.out (by kernel_rfl)) (fun _ _ _ h => h) (Or.inl ⟨by rfl, ?_⟩) ?_ ?_
       rotate_left
       ·intro w'
        go_simp
        with_reducible rfl
       rotate_left
       ·simp only [Act.put, e4, e5, e6, i64_w, i32_w]
        rfl
       refine pure_ (i := 5) (N := some 12) (v := ?_) (a' := ?_) #[true, true, true, true, true, true, false, false, false, false, false, false, false] rfl rfl (any_of HT_.out (by kernel_rfl)) (fun _ _ _ h => h) (Or.inl ⟨by rfl, ?_⟩) ?_ ?_
       rotate_left
       ·intro w'
        go_simp
        with_reducible rfl
       rotate_left
       ·simp only [Act.put, e4, e5, e6, i64_w, i32_w]
        rfl
       refine pure_ (i := 6) (N := some 13) (v := ?_) (a' := ?_) #[true, true, true, true, true, true, true, false, false, false, false, false, false] rfl rfl (any_of HT_.out (by kernel_rfl)) (fun _ _ _ h => h) (Or.inl ⟨by rfl, ?_⟩) ?_ ?_
       rotate_left
       ·intro w'
        go_simp
        with_reducible rfl
       rotate_left
       ·simp only [Act.put, e4, e5, e6, i64_w, i32_w]
        rfl
       refine pure_ (i := 7) (N := some 14) (v := ?_) (a' := ?_) #[true, true, true, true, true, true, true, true, false, false, false, false, false] rfl rfl (any_of HT_.out (by kernel_rfl)) (fun _ _ _ h => h) (Or.inl ⟨by rfl, ?_⟩) ?_ ?_
       rotate_left
       ·intro w'
        go_simp
        with_reducible rfl
       rotate_left
       ·simp only [Act.put, e4, e5, e6, i64_w, i32_w]
        rfl
       refine take_ (i := 8) (N := some 15) (v := ?_) (a' := ?_) #[true, true, true, true, true, true, true, true, true, false, false, false, false] rfl rfl (take_ofW HT_.out HW_.out (by kernel_rfl)) (fun _ _ _ h => h) (Or.inl ⟨by rfl, ?_⟩) hHeld ?_ ?_
       rotate_left
       ·rintro w' ⟨s0, s1, s2, s3, s4, s5, s6, s7, s8, s9, ba, bb⟩
        go_simp
        with_reducible rfl
       rotate_left
       ·simp only [Act.put, e4, e5, e6, i64_w, i32_w]
        rfl
       refine take_ (i := 9) (N := some 16) (v := ?_) (a' := ?_) #[true, true, true, true, true, true, true, true, true, true, false, false, false] rfl rfl (take_ofW HT_.out HW_.out (by kernel_rfl)) (fun _ _ _ h => h) (Or.inl ⟨by rfl, ?_⟩) hHeld ?_ ?_
       rotate_left
       ·rintro w' ⟨s0, s1, s2, s3, s4, s5, s6, s7, s8, s9, ba, bb⟩
        go_simp
        with_reducible rfl
       rotate_left
       ·simp only [Act.put, e4, e5, e6, i64_w, i32_w]
        rfl
       refine one_ (i := 10) (N := some 17) #[true, true, true, true, true, true, true, true, true, true, true, false, false] rfl rfl (one_of HT_.out (by kernel_rfl)) (by decide) (fun K hK => ?_)
       refine goes_ Try.func16 (by kernel_rfl) rfl #[.agg #[.int .i64 ((rd_T24 l0 ab).f0), .int .i64 ((rd_T24 l0 ab).f1), .int .i64 ((rd_T24 l0 ab).f2), .int .i64 ((rd_T24 l0 ab).f3), .int .i64 ((rd_T24 l0 ab).f4), .int .i64 ((rd_T24 l0 ab).f5)], .agg #[.int .i64 ae, .int .i64 af, .int .i64 ag, .int .i64 ah, .int .i64 ai, .int .i64 aj]] (by rfl) rfl rfl (by (try simp only [List.map_toArray, List.map_cons, List.map_nil]); first | done | rfl | (simp only [List.length_drop, List.length_take]; rfl)) ?_
       with_reducible refine (meddlerref15_Order.calls k1 ((rd_T24 l0 ab).f0) ((rd_T24 l0 ab).f1) ((rd_T24 l0 ab).f2) ((rd_T24 l0 ab).f3) ((rd_T24 l0 ab).f4) ((rd_T24 l0 ab).f5) ae af ag ah ai aj a9 _ A6.out).mono ?_
       rintro e w15 ⟨rfl, hb⟩
       have bc := (hb.cell (e7 _ _ (hHeld.2.2.2.2.2.2.1))).trans (hHeld.2.2.2.2.2.2.1)
       have bd := (hb.cell (e7 _ _ (hHeld.2.2.2.2.2.2.2.1))).trans (hHeld.2.2.2.2.2.2.2.1)
       have be := (hb.cell (e7 _ _ (hHeld.2.2.2.2.2.2.2.2.1))).trans (hHeld.2.2.2.2.2.2.2.2.1)
       have bf := (hb.cell (e7 _ _ (hHeld.2.2.2.2.2.2.2.2.2.1))).trans (hHeld.2.2.2.2.2.2.2.2.2.1)
       have bg := (hb.cell (e7 _ _ (hHeld.2.2.2.2.2.2.2.2.2.2.1))).trans (hHeld.2.2.2.2.2.2.2.2.2.2.1)
       have bh := (hb.cell (e7 _ _ (hHeld.2.2.2.2.2.2.2.2.2.2.2))).trans (hHeld.2.2.2.2.2.2.2.2.2.2.2)
       refine ⟨_, rfl, ?_⟩
       have al := q28 (Kd.R_below (by (with_reducible repeat (first | apply eY | apply eZ | apply e0)); exact ad.out) hb)
       have am := q28 (eS (g := ac) (o := .cells #[.int .i64 ae, .int .i64 af, .int .i64 ag, .int .i64 ah, .int .i64 ai, .int .i64 aj] 24 (0, 0)) (by (with_reducible repeat (first | refine eT ?_ _ | refine eV ?_ | refine eU ?_ _)); exact aa.out) hb)
       have an := q28 (Kept.below (S := (fun k_ => ak k_)) (by repeat (first | (with_reducible first | exact HK.out | apply Kept.alloc | apply Kept.drewN | apply Kept.drew | refine Kept.setCell ?_ (.inr ar.out) _) | exact HK.out)) hb)
       have ao := q28 (eQ (by repeat (first | (with_reducible first | exact HB.out | apply eN | apply eO | apply eP | refine eX ?_ au.out) | exact HB.out)) hb)
       clear ad
       clear aa
       clear HK
       clear HB
       have ad := al
       have aa := am
       have HK := an
       have HB := ao
       clear al am an ao
       (try clear hb)
       (try clear cj)
       (try clear hk)
       (try clear hi)
       refine hK.out _ _ ⟨(eW aa.out 0).trans rfl, (eW aa.out 1).trans rfl, (eW aa.out 2).trans rfl, (eW aa.out 3).trans rfl, (eW aa.out 4).trans rfl, (eW aa.out 5).trans rfl, bc, bd, be, bf, bg, bh⟩ (fun hHeld => ?_)
       clear hK K
       refine norm_ (a' := ?_) ?_ ?_
       rotate_left
       ·show Act.put _ (some 17) _ = _
        simp only [Act.put, e4, e5, e6, i64_w, i32_w]
        rfl
       refine pure_ (i := 11) (N := some 18) (v := ?_) (a' := ?_) #[true, true, true, true, true, true, true, true, true, true, true, true, false] rfl rfl (any_of HT_.out (by kernel_rfl)) (fun _ _ _ h => h) (Or.inl ⟨by rfl, ?_⟩) ?_ ?_
       rotate_left
       ·intro w'
        go_simp
        with_reducible rfl
       rotate_left
       ·simp only [Act.put, e4, e5, e6, i64_w, i32_w]
        rfl
       refine pure_ (i := 12) (N := some 19) (v := ?_) (a' := ?_) #[true, true, true, true, true, true, true, true, true, true, true, true, true] rfl rfl (any_of HT_.out (by kernel_rfl)) (fun _ _ _ h => h) (Or.inl ⟨by rfl, ?_⟩) ?_ ?_
       rotate_left
       ·intro w'
        go_simp
        with_reducible rfl
       rotate_left
       ·simp only [Act.put, e4, e5, e6, i64_w, i32_w]
        rfl
       refine done_ (done_of HT_.out (by kernel_rfl)) ?_
       try go_wp2
       have al := q28 (e0 ad.out)
       have am := q28 (eV aa.out)
       have an := q28 (Kept.drew HK.out)
       have ao := q28 (eP HB.out)
       clear ad
       clear aa
       clear HK
       clear HB
       have ad := al
       have aa := am
       have HK := an
       have HB := ao
       clear al am an ao
       have br : 0 ≤ (ab : Int) := of_decide_eq_true (by first | (with_reducible assumption) | assumption)
       have bs : ab < (l0.length : Int) := of_decide_eq_true (by first | (with_reducible assumption) | assumption)
       obtain ⟨cB, cC, bK, bL, bM, bN, bO, bP⟩ := at_T24 (Kd.R_reads' ad.out).2.2 ab br bs
       obtain rfl : ad260 = cB := (by injection cC)
       replace br := eq_true br
       replace bs := eq_true bs
       refine start_ (n := 13) (S := fun w' => w'.cell? ⟨ac, 0, none⟩ = some (.int .i64 ae) ∧ w'.cell? ⟨ac, 1, none⟩ = some (.int .i64 af) ∧ w'.cell? ⟨ac, 2, none⟩ = some (.int .i64 ag) ∧ w'.cell? ⟨ac, 3, none⟩ = some (.int .i64 ah) ∧ w'.cell? ⟨ac, 4, none⟩ = some (.int .i64 ai) ∧ w'.cell? ⟨ac, 5, none⟩ = some (.int .i64 aj) ∧ w'.cell? (ad260.add ((ab).toNat * 6)) = some (.int .i64 ((rd_T24 l0 ab).f0)) ∧ w'.cell? ⟨(ad260.add ((ab).toNat * 6)).block, (ad260.add ((ab).toNat * 6)).off + 1, none⟩ = some (.int .i64 ((rd_T24 l0 ab).f1)) ∧ w'.cell? ⟨(ad260.add ((ab).toNat * 6)).block, (ad260.add ((ab).toNat * 6)).off + 2, none⟩ = some (.int .i64 ((rd_T24 l0 ab).f2)) ∧ w'.cell? ⟨(ad260.add ((ab).toNat * 6)).block, (ad260.add ((ab).toNat * 6)).off + 3, none⟩ = some (.int .i64 ((rd_T24 l0 ab).f3)) ∧ w'.cell? ⟨(ad260.add ((ab).toNat * 6)).block, (ad260.add ((ab).toNat * 6)).off + 4, none⟩ = some (.int .i64 ((rd_T24 l0 ab).f4)) ∧ w'.cell? ⟨(ad260.add ((ab).toNat * 6)).block, (ad260.add ((ab).toNat * 6)).off + 5, none⟩ = some (.int .i64 ((rd_T24 l0 ab).f5))) (ds := []) #[false, false, false, false, false, false, false, false, false, false, false, false, false] (by kernel_rfl) rfl rfl ⟨(eW aa.out 0).trans rfl, (eW aa.out 1).trans rfl, (eW aa.out 2).trans rfl, (eW aa.out 3).trans rfl, (eW aa.out 4).trans rfl, (eW aa.out 5).trans rfl, bK, bL, bM, bN, bO, bP⟩ (fun hHeld => ?_); refine with_tabW meddlerref15_Lay.tab4 meddlerref15_Lay.bits4 (fun HT_ HW_ => ?_)
       generalize w15.drew = ed at ad aa HK HB bK bL bM bN bO bP hHeld ⊢
       refine pure_ (i := 0) (N := some 22) (v := ?_) (a' := ?_) #[true, false, false, false, false, false, false, false, false, false, false, false, false] rfl rfl (any_of HT_.out (by kernel_rfl)) (fun _ _ _ h => h) (Or.inl ⟨by rfl, ?_⟩) ?_ ?_
       rotate_left
       ·intro w'
        go_simp
        with_reducible rfl
       rotate_left
       ·simp only [Act.put, e4, e5, e6, i64_w, i32_w]
        rfl
       refine pure_ (i := 1) (N := some 23) (v := ?_) (a' := ?_) #[true, true, false, false, false, false, false, false, false, false, false, false, false] rfl rfl (any_of HT_.out (by kernel_rfl)) (fun _ _ _ h => h) (Or.inl ⟨by rfl, ?_⟩) ?_ ?_
       rotate_left
       ·intro w'
        go_simp
        with_reducible rfl
       rotate_left
       ·simp only [Act.put, e4, e5, e6, i64_w, i32_w]
        rfl
       refine pure_ (i := 2) (N := some 24) (v := ?_) (a' := ?_) #[true, true, true, false, false, false, false, false, false, false, false, false, false] rfl rfl (any_of HT_.out (by kernel_rfl)) (fun _ _ _ h => h) (Or.inl ⟨by rfl, ?_⟩) ?_ ?_
       rotate_left
       ·intro w'
        go_simp
        with_reducible rfl
       rotate_left
       ·simp only [Act.put, e4, e5, e6, i64_w, i32_w]
        rfl
       refine pure_ (i := 3) (N := some 25) (v := ?_) (a' := ?_) #[true, true, true, true, false, false, false, false, false, false, false, false, false] rfl rfl (any_of HT_.out (by kernel_rfl)) (fun _ _ _ h => h) (Or.inl ⟨by rfl, ?_⟩) ?_ ?_
       rotate_left
       ·intro w'
        go_simp
        with_reducible rfl
       rotate_left
       ·simp only [Act.put, e4, e5, e6, i64_w, i32_w]
        rfl
       refine pure_ (i := 4) (N := some 26) (v := ?_) (a' := ?_) #[true, true, true, true, true, false, false, false, false, false, false, false, false] rfl rfl (any_of HT_.out (by kernel_rfl)) (fun _ _ _ h => h) (Or.inl ⟨by rfl, ?_⟩) ?_ ?_
       rotate_left
       ·intro w'
        go_simp
        with_reducible rfl
       rotate_left
       ·simp only [Act.put, e4, e5, e6, i64_w, i32_w]
        rfl
       refine pure_ (i := 5) (N := some 27) (v := ?_) (a' := ?_) #[true, true, true, true, true, true, false, false, false, false, false, false, false] rfl rfl (any_of HT_.out (by kernel_rfl)) (fun _ _ _ h => h) (Or.inl ⟨by rfl, ?_⟩) ?_ ?_
       rotate_left
       ·intro w'
        go_simp
        with_reducible rfl
       rotate_left
       ·simp only [Act.put, e4, e5, e6, i64_w, i32_w]
        rfl
       refine pure_ (i := 6) (N := some 28) (v := ?_) (a' := ?_) #[true, true, true, true, true, true, true, false, false, false, false, false, false] rfl rfl (any_of HT_.out (by kernel_rfl)) (fun _ _ _ h => h) (Or.inl ⟨by rfl, ?_⟩) ?_ ?_
       rotate_left
       ·intro w'
        go_simp
        with_reducible rfl
       rotate_left
       ·simp only [Act.put, e4, e5, e6, i64_w, i32_w]
        rfl
       refine pure_ (i := 7) (N := some 29) (v := ?_) (a' := ?_) #[true, true, true, true, true, true, true, true, false, false, false, false, false] rfl rfl (any_of HT_.out (by kernel_rfl)) (fun _ _ _ h => h) (Or.inl ⟨by rfl, ?_⟩) ?_ ?_
       rotate_left
       ·intro w'
        go_simp
        with_reducible rfl
       rotate_left
       ·simp only [Act.put, e4, e5, e6, i64_w, i32_w]
        rfl
       refine take_ (i := 8) (N := some 30) (v := ?_) (a' := ?_) #[true, true, true, true, true, true, true, true, true, false, false, false, false] rfl rfl (take_ofW HT_.out HW_.out (by kernel_rfl)) (fun _ _ _ h => h) (Or.inl ⟨by rfl, ?_⟩) hHeld ?_ ?_
       rotate_left
       ·rintro w' ⟨s0, s1, s2, s3, s4, s5, s6, s7, s8, s9, ba, bb⟩
        go_simp
        with_reducible rfl
       rotate_left
       ·simp only [Act.put, e4, e5, e6, i64_w, i32_w]
        rfl
       refine take_ (i := 9) (N := some 31) (v := ?_) (a' := ?_) #[true, true, true, true, true, true, true, true, true, true, false, false, false] rfl rfl (take_ofW HT_.out HW_.out (by kernel_rfl)) (fun _ _ _ h => h) (Or.inl ⟨by rfl, ?_⟩) hHeld ?_ ?_
       rotate_left
       ·rintro w' ⟨s0, s1, s2, s3, s4, s5, s6, s7, s8, s9, ba, bb⟩
        go_simp
        with_reducible rfl
       rotate_left
       ·simp only [Act.put, e4, e5, e6, i64_w, i32_w]
        rfl
       refine one_ (i := 10) (N := some 32) #[true, true, true, true, true, true, true, true, true, true, true, false, false] rfl rfl (one_of HT_.out (by kernel_rfl)) (by decide) (fun K hK => ?_)
       refine goes_ Try.func16 (by kernel_rfl) rfl #[.agg #[.int .i64 ((rd_T24 l0 ab).f0), .int .i64 ((rd_T24 l0 ab).f1), .int .i64 ((rd_T24 l0 ab).f2), .int .i64 ((rd_T24 l0 ab).f3), .int .i64 ((rd_T24 l0 ab).f4), .int .i64 ((rd_T24 l0 ab).f5)], .agg #[.int .i64 ae, .int .i64 af, .int .i64 ag, .int .i64 ah, .int .i64 ai, .int .i64 aj]] (by rfl) rfl rfl (by (try simp only [List.map_toArray, List.map_cons, List.map_nil]); first | done | rfl | (simp only [List.length_drop, List.length_take]; rfl)) ?_
       with_reducible refine (meddlerref15_Order.calls k1 ((rd_T24 l0 ab).f0) ((rd_T24 l0 ab).f1) ((rd_T24 l0 ab).f2) ((rd_T24 l0 ab).f3) ((rd_T24 l0 ab).f4) ((rd_T24 l0 ab).f5) ae af ag ah ai aj aU _ da.out).mono ?_
       rintro e ee ⟨rfl, hb⟩
       have bc := (hb.cell (e7 _ _ (hHeld.2.2.2.2.2.2.1))).trans (hHeld.2.2.2.2.2.2.1)
       have bd := (hb.cell (e7 _ _ (hHeld.2.2.2.2.2.2.2.1))).trans (hHeld.2.2.2.2.2.2.2.1)
       have be := (hb.cell (e7 _ _ (hHeld.2.2.2.2.2.2.2.2.1))).trans (hHeld.2.2.2.2.2.2.2.2.1)
       have bf := (hb.cell (e7 _ _ (hHeld.2.2.2.2.2.2.2.2.2.1))).trans (hHeld.2.2.2.2.2.2.2.2.2.1)
       have bg := (hb.cell (e7 _ _ (hHeld.2.2.2.2.2.2.2.2.2.2.1))).trans (hHeld.2.2.2.2.2.2.2.2.2.2.1)
       have bh := (hb.cell (e7 _ _ (hHeld.2.2.2.2.2.2.2.2.2.2.2))).trans (hHeld.2.2.2.2.2.2.2.2.2.2.2)
       refine ⟨_, rfl, ?_⟩
       have al := q28 (Kd.R_below (by (with_reducible repeat (first | apply eY | apply eZ | apply e0)); exact ad.out) hb)
       have am := q28 (eS (g := ac) (o := .cells #[.int .i64 ae, .int .i64 af, .int .i64 ag, .int .i64 ah, .int .i64 ai, .int .i64 aj] 24 (0, 0)) (by (with_reducible repeat (first | refine eT ?_ _ | refine eV ?_ | refine eU ?_ _)); exact aa.out) hb)
       have an := q28 (Kept.below (S := (fun k_ => ak k_)) (by repeat (first | (with_reducible first | exact HK.out | apply Kept.alloc | apply Kept.drewN | apply Kept.drew | refine Kept.setCell ?_ (.inr ar.out) _) | exact HK.out)) hb)
       have ao := q28 (eQ (by repeat (first | (with_reducible first | exact HB.out | apply eN | apply eO | apply eP | refine eX ?_ au.out) | exact HB.out)) hb)
       clear ad
       clear aa
       clear HK
       clear HB
       have ad := al
       have aa := am
       have HK := an
       have HB := ao
       clear al am an ao
       (try clear hb)
       (try clear cj)
       (try clear hk)
       (try clear hi)
       refine hK.out _ _ ⟨(eW aa.out 0).trans rfl, (eW aa.out 1).trans rfl, (eW aa.out 2).trans rfl, (eW aa.out 3).trans rfl, (eW aa.out 4).trans rfl, (eW aa.out 5).trans rfl, bc, bd, be, bf, bg, bh⟩ (fun hHeld => ?_)
       clear hK K
       refine norm_ (a' := ?_) ?_ ?_
       rotate_left
       ·show Act.put _ (some 32) _ = _
        simp only [Act.put, e4, e5, e6, i64_w, i32_w]
        rfl
       refine pure_ (i := 11) (N := some 33) (v := ?_) (a' := ?_) #[true, true, true, true, true, true, true, true, true, true, true, true, false] rfl rfl (any_of HT_.out (by kernel_rfl)) (fun _ _ _ h => h) (Or.inl ⟨by rfl, ?_⟩) ?_ ?_
       rotate_left
       ·intro w'
        go_simp
        with_reducible rfl
       rotate_left
       ·simp only [Act.put, e4, e5, e6, i64_w, i32_w]
        rfl
       refine pure_ (i := 12) (N := some 34) (v := ?_) (a' := ?_) #[true, true, true, true, true, true, true, true, true, true, true, true, true] rfl rfl (any_of HT_.out (by kernel_rfl)) (fun _ _ _ h => h) (Or.inl ⟨by rfl, ?_⟩) ?_ ?_
       rotate_left
       ·intro w'
        go_simp
        with_reducible rfl
       rotate_left
       ·simp only [Act.put, e4, e5, e6, i64_w, i32_w]
        rfl
       refine done_ (done_of HT_.out (by kernel_rfl)) ?_
       try go_wp2
       go_ret
       exact ⟨_, by first | rfl | (simp [errW_none, errW_some] <;> rfl) | (simp [*, errW_none, errW_some] <;> rfl), by (with_reducible repeat (first | apply eY | apply eZ | apply e0)); exact Kd.R_mono ad.out (fun _ hk => hk.1), by repeat (first | (with_reducible first | exact HB.out | apply eN | apply eO | apply eP | refine eX ?_ au.out) | exact HB.out), by repeat (first | (with_reducible first | exact HK.out | apply Kept.alloc | apply Kept.drewN | apply Kept.drew | refine Kept.setCell ?_ (.inr ar.out) _) | exact HK.out)⟩
      ·rw [if_neg bq] at H
       have dx : (aU == 0) = false := beq_eq_false_iff_ne.mpr bq
       have dy : (aU != 0) = true := bne_iff_ne.mpr bq
       obtain ⟨y264, bQ⟩ : ∃ y_ : List (S24), y_ = (([] : List (S24))) := ⟨_, rfl⟩
       replace H : (if ab ≤ (l0.length : Int) then ((some (l0.take (ab : Int).toNat : List (S24))).bind fun y267 => (if y264.length + y267.length < 2932031007402 then ((some (y264 ++ y267 : List (S24))).bind fun y271 => ((some (([(⟨ae, af, ag, ah, ai, aj⟩ : S24)] : List (S24)) : List (S24))).bind fun y274 => (if y271.length + y274.length < 2932031007402 then ((some (y271 ++ y274 : List (S24))).bind fun y277 => ((some (l0.drop (ab : Int).toNat : List (S24))).bind fun y280 => (if y277.length + y280.length < 2932031007402 then (some (y277 ++ y280)) else (none)))) else (none)))) else (none))) else (none)) = some r := by first | (rw [bQ]; with_reducible exact H) | (have av := (Option.bind_some _ _).symm.trans H; rw [bQ]; with_reducible exact av) | (have av := (Option.bind_some _ _).symm.trans H; with_reducible exact av) | with_reducible exact H | (rw [bQ]; exact H) | exact H
       have ck := q28 bQ
       clear bQ
       have ef := eq_true (of_decide_eq_true (by first | (with_reducible assumption) | assumption) : 0 ≤ ab)
       by_cases bR : ab ≤ (l0.length : Int)
       ·rw [if_pos bR] at H
        have eg := eq_true bR
        have eh : decide (ab ≤ (l0.length : Int)) = true := decide_eq_true bR
        clear bR
        obtain ⟨y267, bS⟩ : ∃ y_ : List (S24), y_ = (l0.take (ab : Int).toNat) := ⟨_, rfl⟩
        replace H : (if y264.length + y267.length < 2932031007402 then ((some (y264 ++ y267 : List (S24))).bind fun y271 => ((some (([(⟨ae, af, ag, ah, ai, aj⟩ : S24)] : List (S24)) : List (S24))).bind fun y274 => (if y271.length + y274.length < 2932031007402 then ((some (y271 ++ y274 : List (S24))).bind fun y277 => ((some (l0.drop (ab : Int).toNat : List (S24))).bind fun y280 => (if y277.length + y280.length < 2932031007402 then (some (y277 ++ y280)) else (none)))) else (none)))) else (none)) = some r := by first | (rw [bS]; with_reducible exact H) | (have av := (Option.bind_some _ _).symm.trans H; rw [bS]; with_reducible exact av) | (have av := (Option.bind_some _ _).symm.trans H; with_reducible exact av) | with_reducible exact H | (rw [bS]; exact H) | exact H
        have bT := q28 bS
        clear bS
        by_cases cl : y264.length + y267.length < 2932031007402
        ·rw [if_pos cl] at H
         have cD := q28 cl
         clear cl
         obtain ⟨y271, bU⟩ : ∃ y_ : List (S24), y_ = (y264 ++ y267) := ⟨_, rfl⟩
         replace H : ((some (([(⟨ae, af, ag, ah, ai, aj⟩ : S24)] : List (S24)) : List (S24))).bind fun y274 => (if y271.length + y274.length < 2932031007402 then ((some (y271 ++ y274 : List (S24))).bind fun y277 => ((some (l0.drop (ab : Int).toNat : List (S24))).bind fun y280 => (if y277.length + y280.length < 2932031007402 then (some (y277 ++ y280)) else (none)))) else (none))) = some r := by first | (rw [bU]; with_reducible exact H) | (have av := (Option.bind_some _ _).symm.trans H; rw [bU]; with_reducible exact av) | (have av := (Option.bind_some _ _).symm.trans H; with_reducible exact av) | with_reducible exact H | (rw [bU]; exact H) | exact H
         have cE := q28 bU
         clear bU
         obtain ⟨y274, bV⟩ : ∃ y_ : List (S24), y_ = (([(⟨ae, af, ag, ah, ai, aj⟩ : S24)] : List (S24))) := ⟨_, rfl⟩
         replace H : (if y271.length + y274.length < 2932031007402 then ((some (y271 ++ y274 : List (S24))).bind fun y277 => ((some (l0.drop (ab : Int).toNat : List (S24))).bind fun y280 => (if y277.length + y280.length < 2932031007402 then (some (y277 ++ y280)) else (none)))) else (none)) = some r := by first | (rw [bV]; with_reducible exact H) | (have av := (Option.bind_some _ _).symm.trans H; rw [bV]; with_reducible exact av) | (have av := (Option.bind_some _ _).symm.trans H; with_reducible exact av) | with_reducible exact H | (rw [bV]; exact H) | exact H
         have bv := q28 bV
         clear bV
         by_cases cm : y271.length + y274.length < 2932031007402
         ·rw [if_pos cm] at H
          have dz := q28 cm
          clear cm
          obtain ⟨y277, bW⟩ : ∃ y_ : List (S24), y_ = (y271 ++ y274) := ⟨_, rfl⟩
          replace H : ((some (l0.drop (ab : Int).toNat : List (S24))).bind fun y280 => (if y277.length + y280.length < 2932031007402 then (some (y277 ++ y280)) else (none))) = some r := by first | (rw [bW]; with_reducible exact H) | (have av := (Option.bind_some _ _).symm.trans H; rw [bW]; with_reducible exact av) | (have av := (Option.bind_some _ _).symm.trans H; with_reducible exact av) | with_reducible exact H | (rw [bW]; exact H) | exact H
          have dA := q28 bW
          clear bW
          have ei := eq_true (of_decide_eq_true (by first | (with_reducible assumption) | assumption) : 0 ≤ ab)
          have ej := eq_true (of_decide_eq_true (by first | (with_reducible assumption) | assumption) : ab ≤ (l0.length : Int))
          obtain ⟨y280, bX⟩ : ∃ y_ : List (S24), y_ = (l0.drop (ab : Int).toNat) := ⟨_, rfl⟩
          replace H : (if y277.length + y280.length < 2932031007402 then (some (y277 ++ y280)) else (none)) = some r := by first | (rw [bX]; with_reducible exact H) | (have av := (Option.bind_some _ _).symm.trans H; rw [bX]; with_reducible exact av) | (have av := (Option.bind_some _ _).symm.trans H; with_reducible exact av) | with_reducible exact H | (rw [bX]; exact H) | exact H
          have cF := q28 bX
          clear bX
          by_cases cn : y277.length + y280.length < 2932031007402
          ·rw [if_pos cn] at H
           have dB := q28 cn
           clear cn
           obtain ⟨dC, bY⟩ : ∃ y_ : List (S24), y_ = (y277 ++ y280) := ⟨_, rfl⟩
           replace H : (some dC) = some r := by first | (rw [bY]; with_reducible exact H) | (have av := (Option.bind_some _ _).symm.trans H; rw [bY]; with_reducible exact av) | (have av := (Option.bind_some _ _).symm.trans H; with_reducible exact av) | with_reducible exact H | (rw [bY]; exact H) | exact H
           have dD := q28 bY
           clear bY
           obtain rfl := Option.some.inj H
           try go_wp2
           have al := q28 (e0 ad.out)
           have am := q28 (eV aa.out)
           have an := q28 (Kept.drew HK.out)
           have ao := q28 (eP HB.out)
           clear ad
           clear aa
           clear HK
           clear HB
           have ad := al
           have aa := am
           have HK := an
           have HB := ao
           clear al am an ao
           obtain ⟨ek, aC, dc⟩ := Kd.R_slice ad.out
           (first | subst dc | (injection dc with f1_ aV f3_; have aW := f1_.symm; have aX := f3_.symm; clear f1_ aV f3_; subst aW; subst aX))
           have aY : 0 ≤ (ab : Int) := of_decide_eq_true (by first | (with_reducible assumption) | assumption)
           have aZ : ab < (l0.length : Int) := of_decide_eq_true (by first | (with_reducible assumption) | assumption)
           obtain ⟨ad260, bJ, bi, bj, bk, bl, bm, bn⟩ := at_T24 (Kd.R_reads' ad.out).2.2 ab aY aZ
           cases bJ
           replace aY := eq_true aY
           replace aZ := eq_true aZ
           refine start_ (n := 13) (S := fun w' => w'.cell? ⟨ac, 0, none⟩ = some (.int .i64 ae) ∧ w'.cell? ⟨ac, 1, none⟩ = some (.int .i64 af) ∧ w'.cell? ⟨ac, 2, none⟩ = some (.int .i64 ag) ∧ w'.cell? ⟨ac, 3, none⟩ = some (.int .i64 ah) ∧ w'.cell? ⟨ac, 4, none⟩ = some (.int .i64 ai) ∧ w'.cell? ⟨ac, 5, none⟩ = some (.int .i64 aj) ∧ w'.cell? (ad260.add ((ab).toNat * 6)) = some (.int .i64 ((rd_T24 l0 ab).f0)) ∧ w'.cell? ⟨(ad260.add ((ab).toNat * 6)).block, (ad260.add ((ab).toNat * 6)).off + 1, none⟩ = some (.int .i64 ((rd_T24 l0 ab).f1)) ∧ w'.cell? ⟨(ad260.add ((ab).toNat * 6)).block, (ad260.add ((ab).toNat * 6)).off + 2, none⟩ = some (.int .i64 ((rd_T24 l0 ab).f2)) ∧ w'.cell? ⟨(ad260.add ((ab).toNat * 6)).block, (ad260.add ((ab).toNat * 6)).off + 3, none⟩ = some (.int .i64 ((rd_T24 l0 ab).f3)) ∧ w'.cell? ⟨(ad260.add ((ab).toNat * 6)).block, (ad260.add ((ab).toNat * 6)).off + 4, none⟩ = some (.int .i64 ((rd_T24 l0 ab).f4)) ∧ w'.cell? ⟨(ad260.add ((ab).toNat * 6)).block, (ad260.add ((ab).toNat * 6)).off + 5, none⟩ = some (.int .i64 ((rd_T24 l0 ab).f5))) (ds := []) #[false, false, false, false, false, false, false, false, false, false, false, false, false] (by kernel_rfl) rfl rfl ⟨(eW aa.out 0).trans rfl, (eW aa.out 1).trans rfl, (eW aa.out 2).trans rfl, (eW aa.out 3).trans rfl, (eW aa.out 4).trans rfl, (eW aa.out 5).trans rfl, bi, bj, bk, bl, bm, bn⟩ (fun hHeld => ?_); refine with_tabW meddlerref15_Lay.tab2 meddlerref15_Lay.bits2 (fun HT_ HW_ => ?_)
           generalize wr.drew = el at ad aa HK HB bi bj bk bl bm bn hHeld ⊢
           refine pure_ (i := 0) (N := some 7) (v := ?_) (a' := ?_) #[true, false, false, false, false, false, false, false, false, false, false, false, false] rfl rfl (any_of HT_.out (by kernel_rfl)) (fun _ _ _ h => h) (Or.inl ⟨by rfl, ?_⟩) ?_ ?_
           rotate_left
           ·intro w'
            go_simp
            with_reducible rfl
           rotate_left
           ·simp only [Act.put, e4, e5, e6, i64_w, i32_w]
            rfl
           refine pure_ (i := 1) (N := some 8) (v := ?_) (a' := ?_) #[true, true, false, false, false, false, false, false, false, false, false, false, false] rfl rfl (any_of HT_.out (by kernel_rfl)) (fun _ _ _ h => h) (Or.inl ⟨by rfl, ?_⟩) ?_ ?_
           rotate_left
           ·intro w'
            go_simp
            with_reducible rfl
           rotate_left
           ·simp only [Act.put, e4, e5, e6, i64_w, i32_w]
            rfl
           refine pure_ (i := 2) (N := some 9) (v := ?_) (a' := ?_) #[true, true, true, false, false, false, false, false, false, false, false, false, false] rfl rfl (any_of HT_.out (by kernel_rfl)) (fun _ _ _ h => h) (Or.inl ⟨by rfl, ?_⟩) ?_ ?_
           rotate_left
           ·intro w'
            go_simp
            with_reducible rfl
           rotate_left
           ·simp only [Act.put, e4, e5, e6, i64_w, i32_w]
            rfl
           refine pure_ (i := 3) (N := some 10) (v := ?_) (a' := ?_) #[true, true, true, true, false, false, false, false, false, false, false, false, false] rfl rfl (any_of HT_.out (by kernel_rfl)) (fun _ _ _ h => h) (Or.inl ⟨by rfl, ?_⟩) ?_ ?_
           rotate_left
           ·intro w'
            go_simp
            with_reducible rfl
           rotate_left
           ·simp only [Act.put, e4, e5, e6, i64_w, i32_w]
            rfl
           refine pure_ (i := 4) (N := some 11) (v := ?_) (a' := ?_) #[true, true, true, true, true, false, false, false, false, false, false, false, false] rfl rfl (any_of HT_.out (by kernel_rfl)) (fun _ _ _ h => h) (Or.inl ⟨by rfl, ?_⟩) ?_ ?_
           rotate_left
           ·intro w'
            go_simp
            with_reducible rfl
           rotate_left
           ·simp only [Act.put, e4, e5, e6, i64_w, i32_w]
            rfl
           refine pure_ (i := 5) (N := some 12) (v := ?_) (a' := ?_) #[true, true, true, true, true, true, false, false, false, false, false, false, false] rfl rfl (any_of HT_.out (by kernel_rfl)) (fun _ _ _ h => h) (Or.inl ⟨by rfl, ?_⟩) ?_ ?_
           rotate_left
           ·intro w'
            go_simp
            with_reducible rfl
           rotate_left
           ·simp only [Act.put, e4, e5, e6, i64_w, i32_w]
            rfl
           refine pure_ (i := 6) (N := some 13) (v := ?_) (a' := ?_) #[true, true, true, true, true, true, true, false, false, false, false, false, false] rfl rfl (any_of HT_.out (by kernel_rfl)) (fun _ _ _ h => h) (Or.inl ⟨by rfl, ?_⟩) ?_ ?_
           rotate_left
           ·intro w'
            go_simp
            with_reducible rfl
           rotate_left
           ·simp only [Act.put, e4, e5, e6, i64_w, i32_w]
            rfl
           refine pure_ (i := 7) (N := some 14) (v := ?_) (a' := ?_) #[true, true, true, true, true, true, true, true, false, false, false, false, false] rfl rfl (any_of HT_.out (by kernel_rfl)) (fun _ _ _ h => h) (Or.inl ⟨by rfl, ?_⟩) ?_ ?_
           rotate_left
           ·intro w'
            go_simp
            with_reducible rfl
           rotate_left
           ·simp only [Act.put, e4, e5, e6, i64_w, i32_w]
            rfl
           refine take_ (i := 8) (N := some 15) (v := ?_) (a' := ?_) #[true, true, true, true, true, true, true, true, true, false, false, false, false] rfl rfl (take_ofW HT_.out HW_.out (by kernel_rfl)) (fun _ _ _ h => h) (Or.inl ⟨by rfl, ?_⟩) hHeld ?_ ?_
           rotate_left
           ·rintro w' ⟨s0, s1, s2, s3, s4, s5, s6, s7, s8, s9, ba, bb⟩
            go_simp
            with_reducible rfl
           rotate_left
           ·simp only [Act.put, e4, e5, e6, i64_w, i32_w]
            rfl
           refine take_ (i := 9) (N := some 16) (v := ?_) (a' := ?_) #[true, true, true, true, true, true, true, true, true, true, false, false, false] rfl rfl (take_ofW HT_.out HW_.out (by kernel_rfl)) (fun _ _ _ h => h) (Or.inl ⟨by rfl, ?_⟩) hHeld ?_ ?_
           rotate_left
           ·rintro w' ⟨s0, s1, s2, s3, s4, s5, s6, s7, s8, s9, ba, bb⟩
            go_simp
            with_reducible rfl
           rotate_left
           ·simp only [Act.put, e4, e5, e6, i64_w, i32_w]
            rfl
           refine one_ (i := 10) (N := some 17) #[true, true, true, true, true, true, true, true, true, true, true, false, false] rfl rfl (one_of HT_.out (by kernel_rfl)) (by decide) (fun K hK => ?_)
           refine goes_ Try.func16 (by kernel_rfl) rfl #[.agg #[.int .i64 ((rd_T24 l0 ab).f0), .int .i64 ((rd_T24 l0 ab).f1), .int .i64 ((rd_T24 l0 ab).f2), .int .i64 ((rd_T24 l0 ab).f3), .int .i64 ((rd_T24 l0 ab).f4), .int .i64 ((rd_T24 l0 ab).f5)], .agg #[.int .i64 ae, .int .i64 af, .int .i64 ag, .int .i64 ah, .int .i64 ai, .int .i64 aj]] (by rfl) rfl rfl (by (try simp only [List.map_toArray, List.map_cons, List.map_nil]); first | done | rfl | (simp only [List.length_drop, List.length_take]; rfl)) ?_
           with_reducible refine (meddlerref15_Order.calls k1 ((rd_T24 l0 ab).f0) ((rd_T24 l0 ab).f1) ((rd_T24 l0 ab).f2) ((rd_T24 l0 ab).f3) ((rd_T24 l0 ab).f4) ((rd_T24 l0 ab).f5) ae af ag ah ai aj a9 _ A6.out).mono ?_
           rintro e w27 ⟨rfl, hb⟩
           have bc := (hb.cell (e7 _ _ (hHeld.2.2.2.2.2.2.1))).trans (hHeld.2.2.2.2.2.2.1)
           have bd := (hb.cell (e7 _ _ (hHeld.2.2.2.2.2.2.2.1))).trans (hHeld.2.2.2.2.2.2.2.1)
           have be := (hb.cell (e7 _ _ (hHeld.2.2.2.2.2.2.2.2.1))).trans (hHeld.2.2.2.2.2.2.2.2.1)
           have bf := (hb.cell (e7 _ _ (hHeld.2.2.2.2.2.2.2.2.2.1))).trans (hHeld.2.2.2.2.2.2.2.2.2.1)
           have bg := (hb.cell (e7 _ _ (hHeld.2.2.2.2.2.2.2.2.2.2.1))).trans (hHeld.2.2.2.2.2.2.2.2.2.2.1)
           have bh := (hb.cell (e7 _ _ (hHeld.2.2.2.2.2.2.2.2.2.2.2))).trans (hHeld.2.2.2.2.2.2.2.2.2.2.2)
           refine ⟨_, rfl, ?_⟩
           have al := q28 (Kd.R_below (by (with_reducible repeat (first | apply eY | apply eZ | apply e0)); exact ad.out) hb)
           have am := q28 (eS (g := ac) (o := .cells #[.int .i64 ae, .int .i64 af, .int .i64 ag, .int .i64 ah, .int .i64 ai, .int .i64 aj] 24 (0, 0)) (by (with_reducible repeat (first | refine eT ?_ _ | refine eV ?_ | refine eU ?_ _)); exact aa.out) hb)
           have an := q28 (Kept.below (S := (fun k_ => ak k_)) (by repeat (first | (with_reducible first | exact HK.out | apply Kept.alloc | apply Kept.drewN | apply Kept.drew | refine Kept.setCell ?_ (.inr ar.out) _) | exact HK.out)) hb)
           have ao := q28 (eQ (by repeat (first | (with_reducible first | exact HB.out | apply eN | apply eO | apply eP | refine eX ?_ au.out) | exact HB.out)) hb)
           clear ad
           clear aa
           clear HK
           clear HB
           have ad := al
           have aa := am
           have HK := an
           have HB := ao
           clear al am an ao
           (try clear hb)
           (try clear cj)
           (try clear hk)
           (try clear hi)
           refine hK.out _ _ ⟨(eW aa.out 0).trans rfl, (eW aa.out 1).trans rfl, (eW aa.out 2).trans rfl, (eW aa.out 3).trans rfl, (eW aa.out 4).trans rfl, (eW aa.out 5).trans rfl, bc, bd, be, bf, bg, bh⟩ (fun hHeld => ?_)
           clear hK K
           refine norm_ (a' := ?_) ?_ ?_
           rotate_left
           ·show Act.put _ (some 17) _ = _
            simp only [Act.put, e4, e5, e6, i64_w, i32_w]
            rfl
           refine pure_ (i := 11) (N := some 18) (v := ?_) (a' := ?_) #[true, true, true, true, true, true, true, true, true, true, true, true, false] rfl rfl (any_of HT_.out (by kernel_rfl)) (fun _ _ _ h => h) (Or.inl ⟨by rfl, ?_⟩) ?_ ?_
           rotate_left
           ·intro w'
            go_simp
            with_reducible rfl
           rotate_left
           ·simp only [Act.put, e4, e5, e6, i64_w, i32_w]
            rfl
           refine pure_ (i := 12) (N := some 19) (v := ?_) (a' := ?_) #[true, true, true, true, true, true, true, true, true, true, true, true, true] rfl rfl (any_of HT_.out (by kernel_rfl)) (fun _ _ _ h => h) (Or.inl ⟨by rfl, ?_⟩) ?_ ?_
           rotate_left
           ·intro w'
            go_simp
            with_reducible rfl
           rotate_left
           ·simp only [Act.put, e4, e5, e6, i64_w, i32_w]
            rfl
           refine done_ (done_of HT_.out (by kernel_rfl)) ?_
           try go_wp2
           have al := q28 (e0 ad.out)
           have am := q28 (eV aa.out)
           have an := q28 (Kept.drew HK.out)
           have ao := q28 (eP HB.out)
           clear ad
           clear aa
           clear HK
           clear HB
           have ad := al
           have aa := am
           have HK := an
           have HB := ao
           clear al am an ao
           have br : 0 ≤ (ab : Int) := of_decide_eq_true (by first | (with_reducible assumption) | assumption)
           have bs : ab < (l0.length : Int) := of_decide_eq_true (by first | (with_reducible assumption) | assumption)
           obtain ⟨cB, cC, bK, bL, bM, bN, bO, bP⟩ := at_T24 (Kd.R_reads' ad.out).2.2 ab br bs
           obtain rfl : ad260 = cB := (by injection cC)
           replace br := eq_true br
           replace bs := eq_true bs
           refine start_ (n := 13) (S := fun w' => w'.cell? ⟨ac, 0, none⟩ = some (.int .i64 ae) ∧ w'.cell? ⟨ac, 1, none⟩ = some (.int .i64 af) ∧ w'.cell? ⟨ac, 2, none⟩ = some (.int .i64 ag) ∧ w'.cell? ⟨ac, 3, none⟩ = some (.int .i64 ah) ∧ w'.cell? ⟨ac, 4, none⟩ = some (.int .i64 ai) ∧ w'.cell? ⟨ac, 5, none⟩ = some (.int .i64 aj) ∧ w'.cell? (ad260.add ((ab).toNat * 6)) = some (.int .i64 ((rd_T24 l0 ab).f0)) ∧ w'.cell? ⟨(ad260.add ((ab).toNat * 6)).block, (ad260.add ((ab).toNat * 6)).off + 1, none⟩ = some (.int .i64 ((rd_T24 l0 ab).f1)) ∧ w'.cell? ⟨(ad260.add ((ab).toNat * 6)).block, (ad260.add ((ab).toNat * 6)).off + 2, none⟩ = some (.int .i64 ((rd_T24 l0 ab).f2)) ∧ w'.cell? ⟨(ad260.add ((ab).toNat * 6)).block, (ad260.add ((ab).toNat * 6)).off + 3, none⟩ = some (.int .i64 ((rd_T24 l0 ab).f3)) ∧ w'.cell? ⟨(ad260.add ((ab).toNat * 6)).block, (ad260.add ((ab).toNat * 6)).off + 4, none⟩ = some (.int .i64 ((rd_T24 l0 ab).f4)) ∧ w'.cell? ⟨(ad260.add ((ab).toNat * 6)).block, (ad260.add ((ab).toNat * 6)).off + 5, none⟩ = some (.int .i64 ((rd_T24 l0 ab).f5))) (ds := []) #[false, false, false, false, false, false, false, false, false, false, false, false, false] (by kernel_rfl) rfl rfl ⟨(eW aa.out 0).trans rfl, (eW aa.out 1).trans rfl, (eW aa.out 2).trans rfl, (eW aa.out 3).trans rfl, (eW aa.out 4).trans rfl, (eW aa.out 5).trans rfl, bK, bL, bM, bN, bO, bP⟩ (fun hHeld => ?_); refine with_tabW meddlerref15_Lay.tab4 meddlerref15_Lay.bits4 (fun HT_ HW_ => ?_)
           generalize w27.drew = em at ad aa HK HB bK bL bM bN bO bP hHeld ⊢
           refine pure_ (i := 0) (N := some 22) (v := ?_) (a' := ?_) #[true, false, false, false, false, false, false, false, false, false, false, false, false] rfl rfl (any_of HT_.out (by kernel_rfl)) (fun _ _ _ h => h) (Or.inl ⟨by rfl, ?_⟩) ?_ ?_
           rotate_left
           ·intro w'
            go_simp
            with_reducible rfl
           rotate_left
           ·simp only [Act.put, e4, e5, e6, i64_w, i32_w]
            rfl
           refine pure_ (i := 1) (N := some 23) (v := ?_) (a' := ?_) #[true, true, false, false, false, false, false, false, false, false, false, false, false] rfl rfl (any_of HT_.out (by kernel_rfl)) (fun _ _ _ h => h) (Or.inl ⟨by rfl, ?_⟩) ?_ ?_
           rotate_left
           ·intro w'
            go_simp
            with_reducible rfl
           rotate_left
           ·simp only [Act.put, e4, e5, e6, i64_w, i32_w]
            rfl
           refine pure_ (i := 2) (N := some 24) (v := ?_) (a' := ?_) #[true, true, true, false, false, false, false, false, false, false, false, false, false] rfl rfl (any_of HT_.out (by kernel_rfl)) (fun _ _ _ h => h) (Or.inl ⟨by rfl, ?_⟩) ?_ ?_
           rotate_left
           ·intro w'
            go_simp
            with_reducible rfl
           rotate_left
           ·simp only [Act.put, e4, e5, e6, i64_w, i32_w]
            rfl
           refine pure_ (i := 3) (N := some 25) (v := ?_) (a' := ?_) #[true, true, true, true, false, false, false, false, false, false, false, false, false] rfl rfl (any_of HT_.out (by kernel_rfl)) (fun _ _ _ h => h) (Or.inl ⟨by rfl, ?_⟩) ?_ ?_
           rotate_left
           ·intro w'
            go_simp
            with_reducible rfl
           rotate_left
           ·simp only [Act.put, e4, e5, e6, i64_w, i32_w]
            rfl
           refine pure_ (i := 4) (N := some 26) (v := ?_) (a' := ?_) #[true, true, true, true, true, false, false, false, false, false, false, false, false] rfl rfl (any_of HT_.out (by kernel_rfl)) (fun _ _ _ h => h) (Or.inl ⟨by rfl, ?_⟩) ?_ ?_
           rotate_left
           ·intro w'
            go_simp
            with_reducible rfl
           rotate_left
           ·simp only [Act.put, e4, e5, e6, i64_w, i32_w]
            rfl
           refine pure_ (i := 5) (N := some 27) (v := ?_) (a' := ?_) #[true, true, true, true, true, true, false, false, false, false, false, false, false] rfl rfl (any_of HT_.out (by kernel_rfl)) (fun _ _ _ h => h) (Or.inl ⟨by rfl, ?_⟩) ?_ ?_
           rotate_left
           ·intro w'
            go_simp
            with_reducible rfl
           rotate_left
           ·simp only [Act.put, e4, e5, e6, i64_w, i32_w]
            rfl
           refine pure_ (i := 6) (N := some 28) (v := ?_) (a' := ?_) #[true, true, true, true, true, true, true, false, false, false, false, false, false] rfl rfl (any_of HT_.out (by kernel_rfl)) (fun _ _ _ h => h) (Or.inl ⟨by rfl, ?_⟩) ?_ ?_
           rotate_left
           ·intro w'
            go_simp
            with_reducible rfl
           rotate_left
           ·simp only [Act.put, e4, e5, e6, i64_w, i32_w]
            rfl
           refine pure_ (i := 7) (N := some 29) (v := ?_) (a' := ?_) #[true, true, true, true, true, true, true, true, false, false, false, false, false] rfl rfl (any_of HT_.out (by kernel_rfl)) (fun _ _ _ h => h) (Or.inl ⟨by rfl, ?_⟩) ?_ ?_
           rotate_left
           ·intro w'
            go_simp
            with_reducible rfl
           rotate_left
           ·simp only [Act.put, e4, e5, e6, i64_w, i32_w]
            rfl
           refine take_ (i := 8) (N := some 30) (v := ?_) (a' := ?_) #[true, true, true, true, true, true, true, true, true, false, false, false, false] rfl rfl (take_ofW HT_.out HW_.out (by kernel_rfl)) (fun _ _ _ h => h) (Or.inl ⟨by rfl, ?_⟩) hHeld ?_ ?_
           rotate_left
           ·rintro w' ⟨s0, s1, s2, s3, s4, s5, s6, s7, s8, s9, ba, bb⟩
            go_simp
            with_reducible rfl
           rotate_left
           ·simp only [Act.put, e4, e5, e6, i64_w, i32_w]
            rfl
           refine take_ (i := 9) (N := some 31) (v := ?_) (a' := ?_) #[true, true, true, true, true, true, true, true, true, true, false, false, false] rfl rfl (take_ofW HT_.out HW_.out (by kernel_rfl)) (fun _ _ _ h => h) (Or.inl ⟨by rfl, ?_⟩) hHeld ?_ ?_
           rotate_left
           ·rintro w' ⟨s0, s1, s2, s3, s4, s5, s6, s7, s8, s9, ba, bb⟩
            go_simp
            with_reducible rfl
           rotate_left
           ·simp only [Act.put, e4, e5, e6, i64_w, i32_w]
            rfl
           refine one_ (i := 10) (N := some 32) #[true, true, true, true, true, true, true, true, true, true, true, false, false] rfl rfl (one_of HT_.out (by kernel_rfl)) (by decide) (fun K hK => ?_)
           refine goes_ Try.func16 (by kernel_rfl) rfl #[.agg #[.int .i64 ((rd_T24 l0 ab).f0), .int .i64 ((rd_T24 l0 ab).f1), .int .i64 ((rd_T24 l0 ab).f2), .int .i64 ((rd_T24 l0 ab).f3), .int .i64 ((rd_T24 l0 ab).f4), .int .i64 ((rd_T24 l0 ab).f5)], .agg #[.int .i64 ae, .int .i64 af, .int .i64 ag, .int .i64 ah, .int .i64 ai, .int .i64 aj]] (by rfl) rfl rfl (by (try simp only [List.map_toArray, List.map_cons, List.map_nil]); first | done | rfl | (simp only [List.length_drop, List.length_take]; rfl)) ?_
           with_reducible refine (meddlerref15_Order.calls k1 ((rd_T24 l0 ab).f0) ((rd_T24 l0 ab).f1) ((rd_T24 l0 ab).f2) ((rd_T24 l0 ab).f3) ((rd_T24 l0 ab).f4) ((rd_T24 l0 ab).f5) ae af ag ah ai aj aU _ da.out).mono ?_
           rintro e w29 ⟨rfl, hb⟩
           have bc := (hb.cell (e7 _ _ (hHeld.2.2.2.2.2.2.1))).trans (hHeld.2.2.2.2.2.2.1)
           have bd := (hb.cell (e7 _ _ (hHeld.2.2.2.2.2.2.2.1))).trans (hHeld.2.2.2.2.2.2.2.1)
           have be := (hb.cell (e7 _ _ (hHeld.2.2.2.2.2.2.2.2.1))).trans (hHeld.2.2.2.2.2.2.2.2.1)
           have bf := (hb.cell (e7 _ _ (hHeld.2.2.2.2.2.2.2.2.2.1))).trans (hHeld.2.2.2.2.2.2.2.2.2.1)
           have bg := (hb.cell (e7 _ _ (hHeld.2.2.2.2.2.2.2.2.2.2.1))).trans (hHeld.2.2.2.2.2.2.2.2.2.2.1)
           have bh := (hb.cell (e7 _ _ (hHeld.2.2.2.2.2.2.2.2.2.2.2))).trans (hHeld.2.2.2.2.2.2.2.2.2.2.2)
           refine ⟨_, rfl, ?_⟩
           have al := q28 (Kd.R_below (by (with_reducible repeat (first | apply eY | apply eZ | apply e0)); exact ad.out) hb)
           have am := q28 (eS (g := ac) (o := .cells #[.int .i64 ae, .int .i64 af, .int .i64 ag, .int .i64 ah, .int .i64 ai, .int .i64 aj] 24 (0, 0)) (by (with_reducible repeat (first | refine eT ?_ _ | refine eV ?_ | refine eU ?_ _)); exact aa.out) hb)
           have an := q28 (Kept.below (S := (fun k_ => ak k_)) (by repeat (first | (with_reducible first | exact HK.out | apply Kept.alloc | apply Kept.drewN | apply Kept.drew | refine Kept.setCell ?_ (.inr ar.out) _) | exact HK.out)) hb)
           have ao := q28 (eQ (by repeat (first | (with_reducible first | exact HB.out | apply eN | apply eO | apply eP | refine eX ?_ au.out) | exact HB.out)) hb)
           clear ad
           clear aa
           clear HK
           clear HB
           have ad := al
           have aa := am
           have HK := an
           have HB := ao
           clear al am an ao
           (try clear hb)
           (try clear cj)
           (try clear hk)
           (try clear hi)
           refine hK.out _ _ ⟨(eW aa.out 0).trans rfl, (eW aa.out 1).trans rfl, (eW aa.out 2).trans rfl, (eW aa.out 3).trans rfl, (eW aa.out 4).trans rfl, (eW aa.out 5).trans rfl, bc, bd, be, bf, bg, bh⟩ (fun hHeld => ?_)
           clear hK K
           refine norm_ (a' := ?_) ?_ ?_
           rotate_left
           ·show Act.put _ (some 32) _ = _
            simp only [Act.put, e4, e5, e6, i64_w, i32_w]
            rfl
           refine pure_ (i := 11) (N := some 33) (v := ?_) (a' := ?_) #[true, true, true, true, true, true, true, true, true, true, true, true, false] rfl rfl (any_of HT_.out (by kernel_rfl)) (fun _ _ _ h => h) (Or.inl ⟨by rfl, ?_⟩) ?_ ?_
           rotate_left
           ·intro w'
            go_simp
            with_reducible rfl
           rotate_left
           ·simp only [Act.put, e4, e5, e6, i64_w, i32_w]
            rfl
           refine pure_ (i := 12) (N := some 34) (v := ?_) (a' := ?_) #[true, true, true, true, true, true, true, true, true, true, true, true, true] rfl rfl (any_of HT_.out (by kernel_rfl)) (fun _ _ _ h => h) (Or.inl ⟨by rfl, ?_⟩) ?_ ?_
           rotate_left
           ·intro w'
            go_simp
            with_reducible rfl
           rotate_left
           ·simp only [Act.put, e4, e5, e6, i64_w, i32_w]
            rfl
           refine done_ (done_of HT_.out (by kernel_rfl)) ?_
           try go_wp2
           have al := q28 (e0 ad.out)
           have am := q28 (eV aa.out)
           have an := q28 (Kept.drew HK.out)
           have ao := q28 (eP HB.out)
           clear ad
           clear aa
           clear HK
           clear HB
           have ad := al
           have aa := am
           have HK := an
           have HB := ao
           clear al am an ao
           have cG : (ab : Int) ≤ ((l0.length : Int) : Int) := of_decide_eq_true (by first | (with_reducible assumption) | assumption)
           obtain ⟨en, dd, _, dE, _⟩ := info_parts info24
           have hroom31 : l0.length ≤ aC := (Kd.R_reads' ad.out).2.1
           have de : Kd.C k24 _ (some ad260) l0.length l0 := (Kd.R_reads' ad.out).2.2
           have dF := cut_to (P := Try.prog) 33 24 .i64 Try.underlying33 dd (some ad260) l0.length aC ab (of_decide_eq_true (by first | (with_reducible assumption) | assumption)) cG hroom31
           have cH := Kd.C_take (m := (ab : Int).toNat) de (by omega)
           have cI : y267.length = (ab : Int).toNat := (by rw [bT.out, List.length_take]; omega)
           rw [← bT.out] at cH
           rw [← cI] at dF
           have ax := q28 cH
           have eo := q28 (show y267.length ≤ aC from by omega)
           clear cH de hroom31 dd dE
           have ep := q28 cI
           clear cI
           have cJ := q28 (show (ab : Int).toNat ≤ l0.length from by omega)
           replace cG := eq_true cG
           refine start_ (n := 9) (S := fun w' => w'.cell? ⟨ac, 0, none⟩ = some (.int .i64 ae) ∧ w'.cell? ⟨ac, 1, none⟩ = some (.int .i64 af) ∧ w'.cell? ⟨ac, 2, none⟩ = some (.int .i64 ag) ∧ w'.cell? ⟨ac, 3, none⟩ = some (.int .i64 ah) ∧ w'.cell? ⟨ac, 4, none⟩ = some (.int .i64 ai) ∧ w'.cell? ⟨ac, 5, none⟩ = some (.int .i64 aj)) (ds := []) #[false, false, false, false, false, false, false, false, false] (by kernel_rfl) rfl rfl ⟨(eW aa.out 0).trans rfl, (eW aa.out 1).trans rfl, (eW aa.out 2).trans rfl, (eW aa.out 3).trans rfl, (eW aa.out 4).trans rfl, (eW aa.out 5).trans rfl⟩ (fun hHeld => ?_); refine with_tabW meddlerref15_Lay.tab6 meddlerref15_Lay.bits6 (fun HT_ HW_ => ?_)
           generalize w29.drew = eq at ad aa HK HB ax hHeld ⊢
           refine pure_ (i := 1) (N := some 37) (v := ?_) (a' := ?_) #[false, true, false, false, false, false, false, false, false] rfl rfl (any_of HT_.out (by kernel_rfl)) (fun _ _ _ h => h) (Or.inl ⟨by rfl, ?_⟩) ?_ ?_
           rotate_left
           ·intro w'
            go_simp
            with_reducible rfl
           rotate_left
           ·simp only [Act.put, e4, e5, e6, i64_w, i32_w]
            rfl
           refine pure_ (i := 2) (N := some 38) (v := ?_) (a' := ?_) #[false, true, true, false, false, false, false, false, false] rfl rfl (any_of HT_.out (by kernel_rfl)) (fun _ _ _ h => h) (Or.inl ⟨by rfl, ?_⟩) ?_ ?_
           rotate_left
           ·intro w'
            go_simp
            with_reducible rfl
           rotate_left
           ·simp only [Act.put, e4, e5, e6, i64_w, i32_w]
            rfl
           refine pure_ (i := 3) (N := some 39) (v := ?_) (a' := ?_) #[false, true, true, true, false, false, false, false, false] rfl rfl (any_of HT_.out (by kernel_rfl)) (fun _ _ _ h => h) (Or.inl ⟨by rfl, ?_⟩) ?_ ?_
           rotate_left
           ·intro w'
            go_simp
            with_reducible rfl
           rotate_left
           ·simp only [Act.put, e4, e5, e6, i64_w, i32_w]
            rfl
           refine take_ (i := 5) (N := some 41) (v := ?_) (a' := ?_) #[false, true, true, true, false, true, false, false, false] rfl rfl (take_ofW HT_.out HW_.out (by kernel_rfl)) (fun _ _ _ h => h) (Or.inl ⟨by rfl, ?_⟩) hHeld ?_ ?_
           rotate_left
           ·rintro w' ⟨s0, s1, s2, s3, s4, s5⟩
            go_simp
            with_reducible rfl
           rotate_left
           ·simp only [Act.put, e4, e5, e6, i64_w, i32_w]
            rfl
           refine join_ (σ := Value × Value × Value) 2 #[true, true, true, true, true, true, true, false, false] (fun s_ => [(36, s_.1), (40, s_.2.1), (42, s_.2.2)]) (fun s_ w' => (w'.cell? ⟨ac, 0, none⟩ = some (.int .i64 ae) ∧ w'.cell? ⟨ac, 1, none⟩ = some (.int .i64 af) ∧ w'.cell? ⟨ac, 2, none⟩ = some (.int .i64 ag) ∧ w'.cell? ⟨ac, 3, none⟩ = some (.int .i64 ah) ∧ w'.cell? ⟨ac, 4, none⟩ = some (.int .i64 ai) ∧ w'.cell? ⟨ac, 5, none⟩ = some (.int .i64 aj)) ∧ (Kd.R k24 24 w' w0.heap.size (fun k_ => (ak k_ ∨ w.heap.size ≤ k_) ∧ some k_ ≠ (s_.2.2 : Value).ownBlock ∧ some k_ ≠ (.slice (some ad260) l0.length aC : Value).ownBlock ∧ k_ ≠ ac) s_.2.1 y271) ∧ (Kd.R k24 24 w' w0.heap.size (fun k_ => (ak k_ ∨ w.heap.size ≤ k_) ∧ some k_ ≠ (s_.2.1 : Value).ownBlock ∧ some k_ ≠ (.slice (some ad260) l0.length aC : Value).ownBlock ∧ k_ ≠ ac) s_.2.2 y274) ∧ (Kd.R k24 24 w' w0.heap.size (fun k_ => (ak k_ ∨ w.heap.size ≤ k_) ∧ some k_ ≠ (s_.2.1 : Value).ownBlock ∧ some k_ ≠ (s_.2.2 : Value).ownBlock ∧ k_ ≠ ac) (.slice (some ad260) l0.length aC) l0) ∧ (w'.heap[ac]? = some (.cells #[.int .i64 ae, .int .i64 af, .int .i64 ag, .int .i64 ah, .int .i64 ai, .int .i64 aj] 24 (0, 0))) ∧ (Kept w w' (fun k_ => ak k_)) ∧ (Below w0.heap.size w0 w')) ?_ ?_
           rotate_left
           ·intro hCont
            refine two_ (i := 0) (j := 6) (Ni := some 36) (Nj := some 42) #[true, true, true, true, false, true, false, false, false] #[false, true, true, true, false, true, true, false, false] rfl rfl rfl rfl (two_of HT_.out (by kernel_rfl)) (by decide) (by decide) (fun K hK => ?_) (fun K hK => ?_)
            ·skip
             refine Kd.R_lit_step k24 _ 24 ?hg (N := 36) ?hd (xs := ([] : List (S24))) (inner := []) (ok := fun _ => True) (okp := fun _ => True) ?hr ?hp (fun _ hk => hk) trivial (Below.refl _ _) (Nat.le_refl _) (by simp) ?_; (case hd => rfl); (case hg => rfl); (case hr => first | (go_simp; done) | (go_simp; rfl)); (case hp => exact (Reps.none _ _))
             intro bo dG aQ hb hg_ hnew_
             clear hg_ hnew_
             (first | rw [← ck.out] at aQ | (simp only [Int.reduceToNat] at aQ; rw [← ck.out] at aQ))
             have al := q28 (Kd.R_elder' (by (with_reducible repeat (first | apply eY | apply eZ | apply e0)); exact ad.out) (Kd.R_base aQ) hb)
             have am := q28 (Kd.R_lower (Kd.R_newB (Kd.R_new' (Kd.R_newM (M := fun k_ => (ak k_ ∨ w.heap.size ≤ k_)) aQ (by first | exact HK.out.1 | exact (show Kept w _ (fun k_ => ak k_) from by repeat (first | (with_reducible first | exact HK.out | apply Kept.alloc | apply Kept.drewN | apply Kept.drew | refine Kept.setCell ?_ (.inr ar.out) _) | exact HK.out)).1) (fun k_ h_ => .inr h_)) (Kd.R_lt (by (with_reducible repeat (first | apply eY | apply eZ | apply e0)); exact ad.out))) (g := ac) (o := .cells #[.int .i64 ae, .int .i64 af, .int .i64 ag, .int .i64 ah, .int .i64 ai, .int .i64 aj] 24 (0, 0)) (by (with_reducible repeat (first | refine eT ?_ _ | refine eV ?_ | refine eU ?_ _)); exact aa.out)) (eR (by repeat (first | (with_reducible first | exact HB.out | apply eN | apply eO | apply eP | refine eX ?_ au.out) | exact HB.out))))
             have an := q28 (eS (g := ac) (o := .cells #[.int .i64 ae, .int .i64 af, .int .i64 ag, .int .i64 ah, .int .i64 ai, .int .i64 aj] 24 (0, 0)) (by (with_reducible repeat (first | refine eT ?_ _ | refine eV ?_ | refine eU ?_ _)); exact aa.out) hb)
             have ao := q28 (Kd.C_below (by repeat (first | (with_reducible exact ax.out) | (with_reducible refine e1 ?_ _) | (with_reducible refine e2 ?_ _) | (with_reducible refine e3 ?_) | exact ax.out)) hb)
             have ap := q28 (Kept.below (S := (fun k_ => ak k_)) (by repeat (first | (with_reducible first | exact HK.out | apply Kept.alloc | apply Kept.drewN | apply Kept.drew | refine Kept.setCell ?_ (.inr ar.out) _) | exact HK.out)) hb)
             have aq := q28 (eQ (by repeat (first | (with_reducible first | exact HB.out | apply eN | apply eO | apply eP | refine eX ?_ au.out) | exact HB.out)) hb)
             clear ad
             clear aa
             clear ax
             clear HK
             clear HB
             have ad := al
             have aG := am
             have aa := an
             have ax := ao
             have HK := ap
             have HB := aq
             clear al am an ao ap aq
             clear hb aQ
             refine hK.out _ _ ⟨(eW aa.out 0).trans rfl, (eW aa.out 1).trans rfl, (eW aa.out 2).trans rfl, (eW aa.out 3).trans rfl, (eW aa.out 4).trans rfl, (eW aa.out 5).trans rfl⟩ (fun hHeld => ?_)
             clear hK K
             refine norm_ (a' := ?_) ?_ ?_
             rotate_left
             ·show Act.put _ (some 36) _ = _
              simp only [Act.put, e4, e5, e6, i64_w, i32_w]
              rfl
             refine two_ (i := 4) (j := 6) (Ni := some 40) (Nj := some 42) #[true, true, true, true, true, true, false, false, false] #[true, true, true, true, false, true, true, false, false] rfl rfl rfl rfl (two_of HT_.out (by kernel_rfl)) (by decide) (by decide) (fun K hK => ?_) (fun K hK => ?_)
             ·skip
              refine Kd.R_append_rows_step k24 (w0 := w0) w0.heap.size (by rfl) (.tmp 36) (.tmp 39) 33 24 (.agg #[(.int .i64 0), (.int .i64 0), (.int .i64 0), (.int .i64 0), (.int .i64 0), (.int .i64 0)]) 48 rfl Try.underlying33 info24 rfl (by decide) (by omega) bo y264 y267 _ _ _ (fun k_ => (ak k_ ∨ w.heap.size ≤ k_) ∧ some k_ ≠ (.slice (some ad260) l0.length aC : Value).ownBlock ∧ k_ ≠ ac) (fun _ => False) rfl rfl ?aO ?aR (fun _ _ h => h) (fun _ h => h.elim) ?aF ?aB ?aS ?aL ?_
              (case aR => repeat (first | exact (by repeat (first | (with_reducible exact ax.out) | (with_reducible refine e1 ?_ _) | (with_reducible refine e2 ?_ _) | (with_reducible refine e3 ?_) | exact ax.out)) | (with_reducible refine e1 ?_ _) | (with_reducible refine e2 ?_ _) | (with_reducible refine e3 ?_)))
              (case aB => exact (by repeat (first | (with_reducible first | exact HB.out | apply eN | apply eO | apply eP | refine eX ?_ au.out) | exact HB.out)))
              (case aF => exact (fun k_ hk => ⟨(.inr (Nat.le_trans (by first | exact HK.out.1 | exact (show Kept w _ (fun k_ => ak k_) from by repeat (first | (with_reducible first | exact HK.out | apply Kept.alloc | apply Kept.drewN | apply Kept.drew | refine Kept.setCell ?_ (.inr ar.out) _) | exact HK.out)).1) hk)), Kd.fresh' (Kd.R_lt (by (with_reducible repeat (first | apply eY | apply eZ | apply e0)); exact ad.out)) k_ hk, Kd.freshB (g := ac) (o := .cells #[.int .i64 ae, .int .i64 af, .int .i64 ag, .int .i64 ah, .int .i64 ai, .int .i64 aj] 24 (0, 0)) (by (with_reducible repeat (first | refine eT ?_ _ | refine eV ?_ | refine eU ?_ _)); exact aa.out) k_ hk⟩))
              (case aO => exact (by (with_reducible repeat (first | apply eY | apply eZ | apply e0)); exact Kd.R_mono aG.out (fun _ hk => ⟨hk.1.1.1, ⟨hk.1.2, hk.2⟩⟩)))
              (case aS => exact (eR (by repeat (first | (with_reducible first | exact HB.out | apply eN | apply eO | apply eP | refine eX ?_ au.out) | exact HB.out))))
              (case aL => have := cD.out; omega)
              intro a7 cK ho hb hg hat
              rw [← cE.out] at ho
              have al := q28 (Kd.R_after (ok := (fun k_ => (ak k_ ∨ w.heap.size ≤ k_) ∧ k_ ≠ ac)) (by (with_reducible repeat (first | apply eY | apply eZ | apply e0)); exact ad.out) hg hat)
              have am := q28 (blk_grown (g := ac) (o := .cells #[.int .i64 ae, .int .i64 af, .int .i64 ag, .int .i64 ah, .int .i64 ai, .int .i64 aj] 24 (0, 0)) (by (with_reducible repeat (first | refine eT ?_ _ | refine eV ?_ | refine eU ?_ _)); exact aa.out) hg (Kd.R_away aG.out (fun _ hk => hk.2)))
              have an := q28 (hb)
              have ao := q28 (Kept.of_grown (S := (fun k_ => ak k_)) hg (by repeat (first | (with_reducible first | exact HK.out | apply Kept.alloc | apply Kept.drewN | apply Kept.drew | refine Kept.setCell ?_ (.inr ar.out) _) | exact HK.out)) (fun k_ e_ => (aG.out.1 k_ e_).1.1.1))
              have ap := q28 ((show Kd.C k24 cK (some ad260) y267.length y267 from by rw [bT.out]; exact Kd.C_take (m := (ab : Int).toNat) ((Kd.R_reads' (Kd.R_after (ok := (fun k_ => (ak k_ ∨ w.heap.size ≤ k_) ∧ k_ ≠ ac)) (by (with_reducible repeat (first | apply eY | apply eZ | apply e0)); exact ad.out) hg hat)).2.2) cJ.out))
              have aq := q28 (ho)
              clear ad
              clear aa
              clear HB
              clear HK
              clear ax
              clear aG
              have ad := al
              have aa := am
              have HB := an
              have HK := ao
              have ax := ap
              have aN := aq
              clear al am an ao ap aq
              clear ho hb hg hat
              refine hK.out _ _ ⟨(eW aa.out 0).trans rfl, (eW aa.out 1).trans rfl, (eW aa.out 2).trans rfl, (eW aa.out 3).trans rfl, (eW aa.out 4).trans rfl, (eW aa.out 5).trans rfl⟩ (fun hHeld => ?_)
              clear hK K
              refine norm_ (a' := ?_) ?_ ?_
              rotate_left
              ·show Act.put _ (some 40) _ = _
               simp only [Act.put, e4, e5, e6, i64_w, i32_w]
               rfl
              refine one_ (i := 6) (N := some 42) #[true, true, true, true, true, true, true, false, false] rfl rfl (one_of HT_.out (by kernel_rfl)) (by decide) (fun K hK => ?_)
              refine Kd.R_lit_step k24 _ 24 ?hg (N := 42) ?hd (xs := ([(⟨ae, af, ag, ah, ai, aj⟩ : S24)] : List (S24))) (inner := [.int .i64 ae, .int .i64 af, .int .i64 ag, .int .i64 ah, .int .i64 ai, .int .i64 aj]) (ok := fun _ => True) (okp := fun _ => True) ?hr ?hp (fun _ hk => hk) trivial (Below.refl _ _) (Nat.le_refl _) (by simp) ?_; (case hd => rfl); (case hg => rfl); (case hr => first | (go_simp; done) | (go_simp; rfl)); (case hp => exact (Reps.c6 (show Kd.M k24 _ _ _ (⟨ae, af, ag, ah, ai, aj⟩ : S24) [.int .i64 ae, .int .i64 af, .int .i64 ag, .int .i64 ah, .int .i64 ai, .int .i64 aj] from (k24_mkM _ _ _ (⟨ae, af, ag, ah, ai, aj⟩ : S24) )) (Reps.none _ _)))
              intro aI er bt hb hg_ hnew_
              clear hg_ hnew_
              (first | rw [← bv.out] at bt | (simp only [Int.reduceToNat] at bt; rw [← bv.out] at bt))
              have al := q28 (Kd.R_elder' (by (with_reducible repeat (first | apply eY | apply eZ | apply e0)); exact ad.out) (Kd.R_base bt) hb)
              have am := q28 (Kd.R_elder' (by (with_reducible repeat (first | apply eY | apply eZ | apply e0)); exact aN.out) (Kd.R_base bt) hb)
              have an := q28 (Kd.R_lower (Kd.R_newB (Kd.R_new' (Kd.R_new' (Kd.R_newM (M := fun k_ => (ak k_ ∨ w.heap.size ≤ k_)) bt (by first | exact HK.out.1 | exact (show Kept w _ (fun k_ => ak k_) from by repeat (first | (with_reducible first | exact HK.out | apply Kept.alloc | apply Kept.drewN | apply Kept.drew | refine Kept.setCell ?_ (.inr ar.out) _) | exact HK.out)).1) (fun k_ h_ => .inr h_)) (Kd.R_lt (by (with_reducible repeat (first | apply eY | apply eZ | apply e0)); exact ad.out))) (Kd.R_lt (by (with_reducible repeat (first | apply eY | apply eZ | apply e0)); exact aN.out))) (g := ac) (o := .cells #[.int .i64 ae, .int .i64 af, .int .i64 ag, .int .i64 ah, .int .i64 ai, .int .i64 aj] 24 (0, 0)) (by (with_reducible repeat (first | refine eT ?_ _ | refine eV ?_ | refine eU ?_ _)); exact aa.out)) (eR (by repeat (first | (with_reducible first | exact HB.out | apply eN | apply eO | apply eP | refine eX ?_ au.out) | exact HB.out))))
              have ao := q28 (eS (g := ac) (o := .cells #[.int .i64 ae, .int .i64 af, .int .i64 ag, .int .i64 ah, .int .i64 ai, .int .i64 aj] 24 (0, 0)) (by (with_reducible repeat (first | refine eT ?_ _ | refine eV ?_ | refine eU ?_ _)); exact aa.out) hb)
              have ap := q28 (Kd.C_below (by repeat (first | (with_reducible exact ax.out) | (with_reducible refine e1 ?_ _) | (with_reducible refine e2 ?_ _) | (with_reducible refine e3 ?_) | exact ax.out)) hb)
              have aq := q28 (Kept.below (S := (fun k_ => ak k_)) (by repeat (first | (with_reducible first | exact HK.out | apply Kept.alloc | apply Kept.drewN | apply Kept.drew | refine Kept.setCell ?_ (.inr ar.out) _) | exact HK.out)) hb)
              have aw := q28 (eQ (by repeat (first | (with_reducible first | exact HB.out | apply eN | apply eO | apply eP | refine eX ?_ au.out) | exact HB.out)) hb)
              clear ad
              clear aN
              clear aa
              clear ax
              clear HK
              clear HB
              have ad := al
              have aN := am
              have az := an
              have aa := ao
              have ax := ap
              have HK := aq
              have HB := aw
              clear al am an ao ap aq aw
              clear hb bt
              refine hK.out _ _ ⟨(eW aa.out 0).trans rfl, (eW aa.out 1).trans rfl, (eW aa.out 2).trans rfl, (eW aa.out 3).trans rfl, (eW aa.out 4).trans rfl, (eW aa.out 5).trans rfl⟩ (fun hHeld => ?_)
              clear hK K
              refine norm_ (a' := ?_) ?_ ?_
              rotate_left
              ·show Act.put _ (some 42) _ = _
               simp only [Act.put, e4, e5, e6, i64_w, i32_w]
               rfl
              exact norm_ (by simp only [putAll, Act.put, e4, e5, e6]) (hCont (bo, a7, aI) _ ⟨hHeld, (by (with_reducible repeat (first | apply eY | apply eZ | apply e0)); exact Kd.R_mono aN.out (fun _ hk => ⟨hk.1.1, ⟨hk.2, ⟨hk.1.2.1, hk.1.2.2⟩⟩⟩)), (by (with_reducible repeat (first | apply eY | apply eZ | apply e0)); exact Kd.R_mono az.out (fun _ hk => ⟨hk.1.1.1.1, ⟨hk.1.2, ⟨hk.1.1.2, hk.2⟩⟩⟩)), (by (with_reducible repeat (first | apply eY | apply eZ | apply e0)); exact Kd.R_mono ad.out (fun _ hk => ⟨hk.1.1.1, ⟨hk.1.2, ⟨hk.2, hk.1.1.2⟩⟩⟩)), (by (with_reducible repeat (first | refine eT ?_ _ | refine eV ?_ | refine eU ?_ _)); exact aa.out), (by repeat (first | (with_reducible first | exact HK.out | apply Kept.alloc | apply Kept.drewN | apply Kept.drew | refine Kept.setCell ?_ (.inr ar.out) _) | exact HK.out)), (by repeat (first | (with_reducible first | exact HB.out | apply eN | apply eO | apply eP | refine eX ?_ au.out) | exact HB.out))⟩)
             ·skip
              refine Kd.R_lit_step k24 _ 24 ?hg (N := 42) ?hd (xs := ([(⟨ae, af, ag, ah, ai, aj⟩ : S24)] : List (S24))) (inner := [.int .i64 ae, .int .i64 af, .int .i64 ag, .int .i64 ah, .int .i64 ai, .int .i64 aj]) (ok := fun _ => True) (okp := fun _ => True) ?hr ?hp (fun _ hk => hk) trivial (Below.refl _ _) (Nat.le_refl _) (by simp) ?_; (case hd => rfl); (case hg => rfl); (case hr => first | (go_simp; done) | (go_simp; rfl)); (case hp => exact (Reps.c6 (show Kd.M k24 _ _ _ (⟨ae, af, ag, ah, ai, aj⟩ : S24) [.int .i64 ae, .int .i64 af, .int .i64 ag, .int .i64 ah, .int .i64 ai, .int .i64 aj] from (k24_mkM _ _ _ (⟨ae, af, ag, ah, ai, aj⟩ : S24) )) (Reps.none _ _)))
              intro aI cK aJ hb hg_ hnew_
              clear hg_ hnew_
              (first | rw [← bv.out] at aJ | (simp only [Int.reduceToNat] at aJ; rw [← bv.out] at aJ))
              have al := q28 (Kd.R_elder' (by (with_reducible repeat (first | apply eY | apply eZ | apply e0)); exact ad.out) (Kd.R_base aJ) hb)
              have am := q28 (Kd.R_elder' (by (with_reducible repeat (first | apply eY | apply eZ | apply e0)); exact aG.out) (Kd.R_base aJ) hb)
              have an := q28 (Kd.R_lower (Kd.R_newB (Kd.R_new' (Kd.R_new' (Kd.R_newM (M := fun k_ => (ak k_ ∨ w.heap.size ≤ k_)) aJ (by first | exact HK.out.1 | exact (show Kept w _ (fun k_ => ak k_) from by repeat (first | (with_reducible first | exact HK.out | apply Kept.alloc | apply Kept.drewN | apply Kept.drew | refine Kept.setCell ?_ (.inr ar.out) _) | exact HK.out)).1) (fun k_ h_ => .inr h_)) (Kd.R_lt (by (with_reducible repeat (first | apply eY | apply eZ | apply e0)); exact ad.out))) (Kd.R_lt (by (with_reducible repeat (first | apply eY | apply eZ | apply e0)); exact aG.out))) (g := ac) (o := .cells #[.int .i64 ae, .int .i64 af, .int .i64 ag, .int .i64 ah, .int .i64 ai, .int .i64 aj] 24 (0, 0)) (by (with_reducible repeat (first | refine eT ?_ _ | refine eV ?_ | refine eU ?_ _)); exact aa.out)) (eR (by repeat (first | (with_reducible first | exact HB.out | apply eN | apply eO | apply eP | refine eX ?_ au.out) | exact HB.out))))
              have ao := q28 (eS (g := ac) (o := .cells #[.int .i64 ae, .int .i64 af, .int .i64 ag, .int .i64 ah, .int .i64 ai, .int .i64 aj] 24 (0, 0)) (by (with_reducible repeat (first | refine eT ?_ _ | refine eV ?_ | refine eU ?_ _)); exact aa.out) hb)
              have ap := q28 (Kd.C_below (by repeat (first | (with_reducible exact ax.out) | (with_reducible refine e1 ?_ _) | (with_reducible refine e2 ?_ _) | (with_reducible refine e3 ?_) | exact ax.out)) hb)
              have aq := q28 (Kept.below (S := (fun k_ => ak k_)) (by repeat (first | (with_reducible first | exact HK.out | apply Kept.alloc | apply Kept.drewN | apply Kept.drew | refine Kept.setCell ?_ (.inr ar.out) _) | exact HK.out)) hb)
              have aw := q28 (eQ (by repeat (first | (with_reducible first | exact HB.out | apply eN | apply eO | apply eP | refine eX ?_ au.out) | exact HB.out)) hb)
              clear ad
              clear aG
              clear aa
              clear ax
              clear HK
              clear HB
              have ad := al
              have aG := am
              have az := an
              have aa := ao
              have ax := ap
              have HK := aq
              have HB := aw
              clear al am an ao ap aq aw
              clear hb aJ
              refine hK.out _ _ ⟨(eW aa.out 0).trans rfl, (eW aa.out 1).trans rfl, (eW aa.out 2).trans rfl, (eW aa.out 3).trans rfl, (eW aa.out 4).trans rfl, (eW aa.out 5).trans rfl⟩ (fun hHeld => ?_)
              clear hK K
              refine norm_ (a' := ?_) ?_ ?_
              rotate_left
              ·show Act.put _ (some 42) _ = _
               simp only [Act.put, e4, e5, e6, i64_w, i32_w]
               rfl
              refine one_ (i := 4) (N := some 40) #[true, true, true, true, true, true, true, false, false] rfl rfl (one_of HT_.out (by kernel_rfl)) (by decide) (fun K hK => ?_)
              refine Kd.R_append_rows_step k24 (w0 := w0) w0.heap.size (by rfl) (.tmp 36) (.tmp 39) 33 24 (.agg #[(.int .i64 0), (.int .i64 0), (.int .i64 0), (.int .i64 0), (.int .i64 0), (.int .i64 0)]) 48 rfl Try.underlying33 info24 rfl (by decide) (by omega) bo y264 y267 _ _ _ (fun k_ => (ak k_ ∨ w.heap.size ≤ k_) ∧ some k_ ≠ (.slice (some ad260) l0.length aC : Value).ownBlock ∧ some k_ ≠ (aI : Value).ownBlock ∧ k_ ≠ ac) (fun _ => False) rfl rfl ?aO ?aR (fun _ _ h => h) (fun _ h => h.elim) ?aF ?aB ?aS ?aL ?_
              (case aR => repeat (first | exact (by repeat (first | (with_reducible exact ax.out) | (with_reducible refine e1 ?_ _) | (with_reducible refine e2 ?_ _) | (with_reducible refine e3 ?_) | exact ax.out)) | (with_reducible refine e1 ?_ _) | (with_reducible refine e2 ?_ _) | (with_reducible refine e3 ?_)))
              (case aB => exact (by repeat (first | (with_reducible first | exact HB.out | apply eN | apply eO | apply eP | refine eX ?_ au.out) | exact HB.out)))
              (case aF => exact (fun k_ hk => ⟨(.inr (Nat.le_trans (by first | exact HK.out.1 | exact (show Kept w _ (fun k_ => ak k_) from by repeat (first | (with_reducible first | exact HK.out | apply Kept.alloc | apply Kept.drewN | apply Kept.drew | refine Kept.setCell ?_ (.inr ar.out) _) | exact HK.out)).1) hk)), Kd.fresh' (Kd.R_lt (by (with_reducible repeat (first | apply eY | apply eZ | apply e0)); exact ad.out)) k_ hk, Kd.fresh' (Kd.R_lt (by (with_reducible repeat (first | apply eY | apply eZ | apply e0)); exact az.out)) k_ hk, Kd.freshB (g := ac) (o := .cells #[.int .i64 ae, .int .i64 af, .int .i64 ag, .int .i64 ah, .int .i64 ai, .int .i64 aj] 24 (0, 0)) (by (with_reducible repeat (first | refine eT ?_ _ | refine eV ?_ | refine eU ?_ _)); exact aa.out) k_ hk⟩))
              (case aO => exact (by (with_reducible repeat (first | apply eY | apply eZ | apply e0)); exact Kd.R_mono aG.out (fun _ hk => ⟨hk.1.1.1.1, ⟨hk.1.1.2, ⟨hk.2, hk.1.2⟩⟩⟩)))
              (case aS => exact (eR (by repeat (first | (with_reducible first | exact HB.out | apply eN | apply eO | apply eP | refine eX ?_ au.out) | exact HB.out))))
              (case aL => have := cD.out; omega)
              intro a7 cL ho hb hg hat
              rw [← cE.out] at ho
              have al := q28 (Kd.R_after (ok := (fun k_ => (ak k_ ∨ w.heap.size ≤ k_) ∧ some k_ ≠ (aI : Value).ownBlock ∧ k_ ≠ ac)) (by (with_reducible repeat (first | apply eY | apply eZ | apply e0)); exact Kd.R_mono ad.out (fun _ hk => ⟨⟨hk.1.1.1, ⟨hk.2, hk.1.1.2⟩⟩, hk.1.2⟩)) hg hat)
              have am := q28 (blk_grown (g := ac) (o := .cells #[.int .i64 ae, .int .i64 af, .int .i64 ag, .int .i64 ah, .int .i64 ai, .int .i64 aj] 24 (0, 0)) (by (with_reducible repeat (first | refine eT ?_ _ | refine eV ?_ | refine eU ?_ _)); exact aa.out) hg (Kd.R_away aG.out (fun _ hk => hk.1.2)))
              have an := q28 (Kd.R_after (ok := (fun k_ => (ak k_ ∨ w.heap.size ≤ k_) ∧ some k_ ≠ (.slice (some ad260) l0.length aC : Value).ownBlock ∧ k_ ≠ ac)) (by (with_reducible repeat (first | apply eY | apply eZ | apply e0)); exact Kd.R_mono az.out (fun _ hk => ⟨⟨hk.1.1.1.1, ⟨hk.1.1.2, hk.2⟩⟩, hk.1.2⟩)) hg hat)
              have ao := q28 (hb)
              have ap := q28 (Kept.of_grown (S := (fun k_ => ak k_)) hg (by repeat (first | (with_reducible first | exact HK.out | apply Kept.alloc | apply Kept.drewN | apply Kept.drew | refine Kept.setCell ?_ (.inr ar.out) _) | exact HK.out)) (fun k_ e_ => (aG.out.1 k_ e_).1.1.1.1))
              have aq := q28 ((show Kd.C k24 cL (some ad260) y267.length y267 from by rw [bT.out]; exact Kd.C_take (m := (ab : Int).toNat) ((Kd.R_reads' (Kd.R_after (ok := (fun k_ => (ak k_ ∨ w.heap.size ≤ k_) ∧ some k_ ≠ (aI : Value).ownBlock ∧ k_ ≠ ac)) (by (with_reducible repeat (first | apply eY | apply eZ | apply e0)); exact Kd.R_mono ad.out (fun _ hk => ⟨⟨hk.1.1.1, ⟨hk.2, hk.1.1.2⟩⟩, hk.1.2⟩)) hg hat)).2.2) cJ.out))
              have aw := q28 (ho)
              clear ad
              clear aa
              clear az
              clear HB
              clear HK
              clear ax
              clear aG
              have ad := al
              have aa := am
              have az := an
              have HB := ao
              have HK := ap
              have ax := aq
              have aN := aw
              clear al am an ao ap aq aw
              clear ho hb hg hat
              refine hK.out _ _ ⟨(eW aa.out 0).trans rfl, (eW aa.out 1).trans rfl, (eW aa.out 2).trans rfl, (eW aa.out 3).trans rfl, (eW aa.out 4).trans rfl, (eW aa.out 5).trans rfl⟩ (fun hHeld => ?_)
              clear hK K
              refine norm_ (a' := ?_) ?_ ?_
              rotate_left
              ·show Act.put _ (some 40) _ = _
               simp only [Act.put, e4, e5, e6, i64_w, i32_w]
               rfl
              exact norm_ (by simp only [putAll, Act.put, e4, e5, e6]) (hCont (bo, a7, aI) _ ⟨hHeld, (by (with_reducible repeat (first | apply eY | apply eZ | apply e0)); exact Kd.R_mono aN.out (fun _ hk => ⟨hk.1, ⟨hk.2.2.1, ⟨hk.2.1, hk.2.2.2⟩⟩⟩)), (by (with_reducible repeat (first | apply eY | apply eZ | apply e0)); exact Kd.R_mono az.out (fun _ hk => ⟨hk.1.1, ⟨hk.2, ⟨hk.1.2.1, hk.1.2.2⟩⟩⟩)), (by (with_reducible repeat (first | apply eY | apply eZ | apply e0)); exact Kd.R_mono ad.out (fun _ hk => ⟨hk.1.1, ⟨hk.2, ⟨hk.1.2.1, hk.1.2.2⟩⟩⟩)), (by (with_reducible repeat (first | refine eT ?_ _ | refine eV ?_ | refine eU ?_ _)); exact aa.out), (by repeat (first | (with_reducible first | exact HK.out | apply Kept.alloc | apply Kept.drewN | apply Kept.drew | refine Kept.setCell ?_ (.inr ar.out) _) | exact HK.out)), (by repeat (first | (with_reducible first | exact HB.out | apply eN | apply eO | apply eP | refine eX ?_ au.out) | exact HB.out))⟩)
            ·skip
             refine Kd.R_lit_step k24 _ 24 ?hg (N := 42) ?hd (xs := ([(⟨ae, af, ag, ah, ai, aj⟩ : S24)] : List (S24))) (inner := [.int .i64 ae, .int .i64 af, .int .i64 ag, .int .i64 ah, .int .i64 ai, .int .i64 aj]) (ok := fun _ => True) (okp := fun _ => True) ?hr ?hp (fun _ hk => hk) trivial (Below.refl _ _) (Nat.le_refl _) (by simp) ?_; (case hd => rfl); (case hg => rfl); (case hr => first | (go_simp; done) | (go_simp; rfl)); (case hp => exact (Reps.c6 (show Kd.M k24 _ _ _ (⟨ae, af, ag, ah, ai, aj⟩ : S24) [.int .i64 ae, .int .i64 af, .int .i64 ag, .int .i64 ah, .int .i64 ai, .int .i64 aj] from (k24_mkM _ _ _ (⟨ae, af, ag, ah, ai, aj⟩ : S24) )) (Reps.none _ _)))
             intro aI dG aQ hb hg_ hnew_
             clear hg_ hnew_
             (first | rw [← bv.out] at aQ | (simp only [Int.reduceToNat] at aQ; rw [← bv.out] at aQ))
             have al := q28 (Kd.R_elder' (by (with_reducible repeat (first | apply eY | apply eZ | apply e0)); exact ad.out) (Kd.R_base aQ) hb)
             have am := q28 (Kd.R_lower (Kd.R_newB (Kd.R_new' (Kd.R_newM (M := fun k_ => (ak k_ ∨ w.heap.size ≤ k_)) aQ (by first | exact HK.out.1 | exact (show Kept w _ (fun k_ => ak k_) from by repeat (first | (with_reducible first | exact HK.out | apply Kept.alloc | apply Kept.drewN | apply Kept.drew | refine Kept.setCell ?_ (.inr ar.out) _) | exact HK.out)).1) (fun k_ h_ => .inr h_)) (Kd.R_lt (by (with_reducible repeat (first | apply eY | apply eZ | apply e0)); exact ad.out))) (g := ac) (o := .cells #[.int .i64 ae, .int .i64 af, .int .i64 ag, .int .i64 ah, .int .i64 ai, .int .i64 aj] 24 (0, 0)) (by (with_reducible repeat (first | refine eT ?_ _ | refine eV ?_ | refine eU ?_ _)); exact aa.out)) (eR (by repeat (first | (with_reducible first | exact HB.out | apply eN | apply eO | apply eP | refine eX ?_ au.out) | exact HB.out))))
             have an := q28 (eS (g := ac) (o := .cells #[.int .i64 ae, .int .i64 af, .int .i64 ag, .int .i64 ah, .int .i64 ai, .int .i64 aj] 24 (0, 0)) (by (with_reducible repeat (first | refine eT ?_ _ | refine eV ?_ | refine eU ?_ _)); exact aa.out) hb)
             have ao := q28 (Kd.C_below (by repeat (first | (with_reducible exact ax.out) | (with_reducible refine e1 ?_ _) | (with_reducible refine e2 ?_ _) | (with_reducible refine e3 ?_) | exact ax.out)) hb)
             have ap := q28 (Kept.below (S := (fun k_ => ak k_)) (by repeat (first | (with_reducible first | exact HK.out | apply Kept.alloc | apply Kept.drewN | apply Kept.drew | refine Kept.setCell ?_ (.inr ar.out) _) | exact HK.out)) hb)
             have aq := q28 (eQ (by repeat (first | (with_reducible first | exact HB.out | apply eN | apply eO | apply eP | refine eX ?_ au.out) | exact HB.out)) hb)
             clear ad
             clear aa
             clear ax
             clear HK
             clear HB
             have ad := al
             have az := am
             have aa := an
             have ax := ao
             have HK := ap
             have HB := aq
             clear al am an ao ap aq
             clear hb aQ
             refine hK.out _ _ ⟨(eW aa.out 0).trans rfl, (eW aa.out 1).trans rfl, (eW aa.out 2).trans rfl, (eW aa.out 3).trans rfl, (eW aa.out 4).trans rfl, (eW aa.out 5).trans rfl⟩ (fun hHeld => ?_)
             clear hK K
             refine norm_ (a' := ?_) ?_ ?_
             rotate_left
             ·show Act.put _ (some 42) _ = _
              simp only [Act.put, e4, e5, e6, i64_w, i32_w]
              rfl
             refine one_ (i := 0) (N := some 36) #[true, true, true, true, false, true, true, false, false] rfl rfl (one_of HT_.out (by kernel_rfl)) (by decide) (fun K hK => ?_)
             refine Kd.R_lit_step k24 _ 24 ?hg (N := 36) ?hd (xs := ([] : List (S24))) (inner := []) (ok := fun _ => True) (okp := fun _ => True) ?hr ?hp (fun _ hk => hk) trivial (Below.refl _ _) (Nat.le_refl _) (by simp) ?_; (case hd => rfl); (case hg => rfl); (case hr => first | (go_simp; done) | (go_simp; rfl)); (case hp => exact (Reps.none _ _))
             intro bo cK aJ hb hg_ hnew_
             clear hg_ hnew_
             (first | rw [← ck.out] at aJ | (simp only [Int.reduceToNat] at aJ; rw [← ck.out] at aJ))
             have al := q28 (Kd.R_elder' (by (with_reducible repeat (first | apply eY | apply eZ | apply e0)); exact ad.out) (Kd.R_base aJ) hb)
             have am := q28 (Kd.R_elder' (by (with_reducible repeat (first | apply eY | apply eZ | apply e0)); exact az.out) (Kd.R_base aJ) hb)
             have an := q28 (Kd.R_lower (Kd.R_newB (Kd.R_new' (Kd.R_new' (Kd.R_newM (M := fun k_ => (ak k_ ∨ w.heap.size ≤ k_)) aJ (by first | exact HK.out.1 | exact (show Kept w _ (fun k_ => ak k_) from by repeat (first | (with_reducible first | exact HK.out | apply Kept.alloc | apply Kept.drewN | apply Kept.drew | refine Kept.setCell ?_ (.inr ar.out) _) | exact HK.out)).1) (fun k_ h_ => .inr h_)) (Kd.R_lt (by (with_reducible repeat (first | apply eY | apply eZ | apply e0)); exact ad.out))) (Kd.R_lt (by (with_reducible repeat (first | apply eY | apply eZ | apply e0)); exact az.out))) (g := ac) (o := .cells #[.int .i64 ae, .int .i64 af, .int .i64 ag, .int .i64 ah, .int .i64 ai, .int .i64 aj] 24 (0, 0)) (by (with_reducible repeat (first | refine eT ?_ _ | refine eV ?_ | refine eU ?_ _)); exact aa.out)) (eR (by repeat (first | (with_reducible first | exact HB.out | apply eN | apply eO | apply eP | refine eX ?_ au.out) | exact HB.out))))
             have ao := q28 (eS (g := ac) (o := .cells #[.int .i64 ae, .int .i64 af, .int .i64 ag, .int .i64 ah, .int .i64 ai, .int .i64 aj] 24 (0, 0)) (by (with_reducible repeat (first | refine eT ?_ _ | refine eV ?_ | refine eU ?_ _)); exact aa.out) hb)
             have ap := q28 (Kd.C_below (by repeat (first | (with_reducible exact ax.out) | (with_reducible refine e1 ?_ _) | (with_reducible refine e2 ?_ _) | (with_reducible refine e3 ?_) | exact ax.out)) hb)
             have aq := q28 (Kept.below (S := (fun k_ => ak k_)) (by repeat (first | (with_reducible first | exact HK.out | apply Kept.alloc | apply Kept.drewN | apply Kept.drew | refine Kept.setCell ?_ (.inr ar.out) _) | exact HK.out)) hb)
             have aw := q28 (eQ (by repeat (first | (with_reducible first | exact HB.out | apply eN | apply eO | apply eP | refine eX ?_ au.out) | exact HB.out)) hb)
             clear ad
             clear az
             clear aa
             clear ax
             clear HK
             clear HB
             have ad := al
             have az := am
             have aG := an
             have aa := ao
             have ax := ap
             have HK := aq
             have HB := aw
             clear al am an ao ap aq aw
             clear hb aJ
             refine hK.out _ _ ⟨(eW aa.out 0).trans rfl, (eW aa.out 1).trans rfl, (eW aa.out 2).trans rfl, (eW aa.out 3).trans rfl, (eW aa.out 4).trans rfl, (eW aa.out 5).trans rfl⟩ (fun hHeld => ?_)
             clear hK K
             refine norm_ (a' := ?_) ?_ ?_
             rotate_left
             ·show Act.put _ (some 36) _ = _
              simp only [Act.put, e4, e5, e6, i64_w, i32_w]
              rfl
             refine one_ (i := 4) (N := some 40) #[true, true, true, true, true, true, true, false, false] rfl rfl (one_of HT_.out (by kernel_rfl)) (by decide) (fun K hK => ?_)
             refine Kd.R_append_rows_step k24 (w0 := w0) w0.heap.size (by rfl) (.tmp 36) (.tmp 39) 33 24 (.agg #[(.int .i64 0), (.int .i64 0), (.int .i64 0), (.int .i64 0), (.int .i64 0), (.int .i64 0)]) 48 rfl Try.underlying33 info24 rfl (by decide) (by omega) bo y264 y267 _ _ _ (fun k_ => (ak k_ ∨ w.heap.size ≤ k_) ∧ some k_ ≠ (.slice (some ad260) l0.length aC : Value).ownBlock ∧ some k_ ≠ (aI : Value).ownBlock ∧ k_ ≠ ac) (fun _ => False) rfl rfl ?aO ?aR (fun _ _ h => h) (fun _ h => h.elim) ?aF ?aB ?aS ?aL ?_
             (case aR => repeat (first | exact (by repeat (first | (with_reducible exact ax.out) | (with_reducible refine e1 ?_ _) | (with_reducible refine e2 ?_ _) | (with_reducible refine e3 ?_) | exact ax.out)) | (with_reducible refine e1 ?_ _) | (with_reducible refine e2 ?_ _) | (with_reducible refine e3 ?_)))
             (case aB => exact (by repeat (first | (with_reducible first | exact HB.out | apply eN | apply eO | apply eP | refine eX ?_ au.out) | exact HB.out)))
             (case aF => exact (fun k_ hk => ⟨(.inr (Nat.le_trans (by first | exact HK.out.1 | exact (show Kept w _ (fun k_ => ak k_) from by repeat (first | (with_reducible first | exact HK.out | apply Kept.alloc | apply Kept.drewN | apply Kept.drew | refine Kept.setCell ?_ (.inr ar.out) _) | exact HK.out)).1) hk)), Kd.fresh' (Kd.R_lt (by (with_reducible repeat (first | apply eY | apply eZ | apply e0)); exact ad.out)) k_ hk, Kd.fresh' (Kd.R_lt (by (with_reducible repeat (first | apply eY | apply eZ | apply e0)); exact az.out)) k_ hk, Kd.freshB (g := ac) (o := .cells #[.int .i64 ae, .int .i64 af, .int .i64 ag, .int .i64 ah, .int .i64 ai, .int .i64 aj] 24 (0, 0)) (by (with_reducible repeat (first | refine eT ?_ _ | refine eV ?_ | refine eU ?_ _)); exact aa.out) k_ hk⟩))
             (case aO => exact (by (with_reducible repeat (first | apply eY | apply eZ | apply e0)); exact Kd.R_mono aG.out (fun _ hk => ⟨hk.1.1.1.1, ⟨hk.1.1.2, ⟨hk.1.2, hk.2⟩⟩⟩)))
             (case aS => exact (eR (by repeat (first | (with_reducible first | exact HB.out | apply eN | apply eO | apply eP | refine eX ?_ au.out) | exact HB.out))))
             (case aL => have := cD.out; omega)
             intro a7 cL ho hb hg hat
             rw [← cE.out] at ho
             have al := q28 (Kd.R_after (ok := (fun k_ => (ak k_ ∨ w.heap.size ≤ k_) ∧ some k_ ≠ (aI : Value).ownBlock ∧ k_ ≠ ac)) (by (with_reducible repeat (first | apply eY | apply eZ | apply e0)); exact Kd.R_mono ad.out (fun _ hk => ⟨⟨hk.1.1.1, ⟨hk.1.2, hk.1.1.2⟩⟩, hk.2⟩)) hg hat)
             have am := q28 (blk_grown (g := ac) (o := .cells #[.int .i64 ae, .int .i64 af, .int .i64 ag, .int .i64 ah, .int .i64 ai, .int .i64 aj] 24 (0, 0)) (by (with_reducible repeat (first | refine eT ?_ _ | refine eV ?_ | refine eU ?_ _)); exact aa.out) hg (Kd.R_away aG.out (fun _ hk => hk.2)))
             have an := q28 (Kd.R_after (ok := (fun k_ => (ak k_ ∨ w.heap.size ≤ k_) ∧ some k_ ≠ (.slice (some ad260) l0.length aC : Value).ownBlock ∧ k_ ≠ ac)) (by (with_reducible repeat (first | apply eY | apply eZ | apply e0)); exact Kd.R_mono az.out (fun _ hk => ⟨⟨hk.1.1.1.1, ⟨hk.1.1.2, hk.1.2⟩⟩, hk.2⟩)) hg hat)
             have ao := q28 (hb)
             have ap := q28 (Kept.of_grown (S := (fun k_ => ak k_)) hg (by repeat (first | (with_reducible first | exact HK.out | apply Kept.alloc | apply Kept.drewN | apply Kept.drew | refine Kept.setCell ?_ (.inr ar.out) _) | exact HK.out)) (fun k_ e_ => (aG.out.1 k_ e_).1.1.1.1))
             have aq := q28 ((show Kd.C k24 cL (some ad260) y267.length y267 from by rw [bT.out]; exact Kd.C_take (m := (ab : Int).toNat) ((Kd.R_reads' (Kd.R_after (ok := (fun k_ => (ak k_ ∨ w.heap.size ≤ k_) ∧ some k_ ≠ (aI : Value).ownBlock ∧ k_ ≠ ac)) (by (with_reducible repeat (first | apply eY | apply eZ | apply e0)); exact Kd.R_mono ad.out (fun _ hk => ⟨⟨hk.1.1.1, ⟨hk.1.2, hk.1.1.2⟩⟩, hk.2⟩)) hg hat)).2.2) cJ.out))
             have aw := q28 (ho)
             clear ad
             clear aa
             clear az
             clear HB
             clear HK
             clear ax
             clear aG
             have ad := al
             have aa := am
             have az := an
             have HB := ao
             have HK := ap
             have ax := aq
             have aN := aw
             clear al am an ao ap aq aw
             clear ho hb hg hat
             refine hK.out _ _ ⟨(eW aa.out 0).trans rfl, (eW aa.out 1).trans rfl, (eW aa.out 2).trans rfl, (eW aa.out 3).trans rfl, (eW aa.out 4).trans rfl, (eW aa.out 5).trans rfl⟩ (fun hHeld => ?_)
             clear hK K
             refine norm_ (a' := ?_) ?_ ?_
             rotate_left
             ·show Act.put _ (some 40) _ = _
              simp only [Act.put, e4, e5, e6, i64_w, i32_w]
              rfl
             exact norm_ (by simp only [putAll, Act.put, e4, e5, e6]) (hCont (bo, a7, aI) _ ⟨hHeld, (by (with_reducible repeat (first | apply eY | apply eZ | apply e0)); exact Kd.R_mono aN.out (fun _ hk => ⟨hk.1, ⟨hk.2.2.1, ⟨hk.2.1, hk.2.2.2⟩⟩⟩)), (by (with_reducible repeat (first | apply eY | apply eZ | apply e0)); exact Kd.R_mono az.out (fun _ hk => ⟨hk.1.1, ⟨hk.2, ⟨hk.1.2.1, hk.1.2.2⟩⟩⟩)), (by (with_reducible repeat (first | apply eY | apply eZ | apply e0)); exact Kd.R_mono ad.out (fun _ hk => ⟨hk.1.1, ⟨hk.2, ⟨hk.1.2.1, hk.1.2.2⟩⟩⟩)), (by (with_reducible repeat (first | refine eT ?_ _ | refine eV ?_ | refine eU ?_ _)); exact aa.out), (by repeat (first | (with_reducible first | exact HK.out | apply Kept.alloc | apply Kept.drewN | apply Kept.drew | refine Kept.setCell ?_ (.inr ar.out) _) | exact HK.out)), (by repeat (first | (with_reducible first | exact HB.out | apply eN | apply eO | apply eP | refine eX ?_ au.out) | exact HB.out))⟩)
           rintro ⟨bo, a7, aI⟩ w37 ⟨hS_, bZ, b0, b1, b2, b3, b4⟩
           have al : Aside0 (Kd.R k24 24 w37 w0.heap.size (fun k_ => (ak k_ ∨ w.heap.size ≤ k_) ∧ some k_ ≠ (aI : Value).ownBlock ∧ some k_ ≠ (.slice (some ad260) l0.length aC : Value).ownBlock ∧ k_ ≠ ac) a7 y271) := ⟨bZ⟩
           have am : Aside0 (Kd.R k24 24 w37 w0.heap.size (fun k_ => (ak k_ ∨ w.heap.size ≤ k_) ∧ some k_ ≠ (a7 : Value).ownBlock ∧ some k_ ≠ (.slice (some ad260) l0.length aC : Value).ownBlock ∧ k_ ≠ ac) aI y274) := ⟨b0⟩
           have an : Aside0 (Kd.R k24 24 w37 w0.heap.size (fun k_ => (ak k_ ∨ w.heap.size ≤ k_) ∧ some k_ ≠ (a7 : Value).ownBlock ∧ some k_ ≠ (aI : Value).ownBlock ∧ k_ ≠ ac) (.slice (some ad260) l0.length aC) l0) := ⟨b1⟩
           have ao : Aside0 (w37.heap[ac]? = some (.cells #[.int .i64 ae, .int .i64 af, .int .i64 ag, .int .i64 ah, .int .i64 ai, .int .i64 aj] 24 (0, 0))) := ⟨b2⟩
           have ap : Aside0 (Kept w w37 (fun k_ => ak k_)) := ⟨b3⟩
           have aq : Aside0 (Below w0.heap.size w0 w37) := ⟨b4⟩
           clear ad
           clear aa
           clear HK
           clear HB
           clear bZ b0 b1 b2 b3 b4
           have aN := al
           have az := am
           have ad := an
           have aa := ao
           have HK := ap
           have HB := aq
           clear al am an ao ap aq
           have hHeld : w37.cell? ⟨ac, 0, none⟩ = some (.int .i64 ae) ∧ w37.cell? ⟨ac, 1, none⟩ = some (.int .i64 af) ∧ w37.cell? ⟨ac, 2, none⟩ = some (.int .i64 ag) ∧ w37.cell? ⟨ac, 3, none⟩ = some (.int .i64 ah) ∧ w37.cell? ⟨ac, 4, none⟩ = some (.int .i64 ai) ∧ w37.cell? ⟨ac, 5, none⟩ = some (.int .i64 aj) := hS_
           obtain ⟨bw, bx, df⟩ := Kd.R_slice az.out
           (first | subst df | (injection df with f1_ aV f3_; have aW := f1_.symm; have aX := f3_.symm; clear f1_ aV f3_; subst aW; subst aX))
           refine norm_ (a' := ?_) ?_ ?_
           rotate_left
           ·simp only [putAll, Act.put, e4, e5, e6]
            rfl
           refine one_ (i := 7) (N := some 43) #[true, true, true, true, true, true, true, true, false] rfl rfl (one_of HT_.out (by kernel_rfl)) (by decide) (fun K hK => ?_)
           refine Kd.R_append_rows_step k24 (w0 := w0) w0.heap.size (by rfl) (.tmp 40) (.tmp 42) 33 24 (.agg #[(.int .i64 0), (.int .i64 0), (.int .i64 0), (.int .i64 0), (.int .i64 0), (.int .i64 0)]) 48 rfl Try.underlying33 info24 rfl (by decide) (by omega) a7 y271 y274 _ _ _ (fun k_ => (ak k_ ∨ w.heap.size ≤ k_) ∧ some k_ ≠ (.slice (some ad260) l0.length aC : Value).ownBlock ∧ some k_ ≠ (.slice bw y274.length bx : Value).ownBlock ∧ k_ ≠ ac) (fun _ => False) rfl rfl ?aO ?aR (fun _ _ h => h) (fun _ h => h.elim) ?aF ?aB ?aS ?aL ?_
           (case aR => repeat (first | exact (Kd.R_reads' az.out).2.2 | (with_reducible refine e1 ?_ _) | (with_reducible refine e2 ?_ _) | (with_reducible refine e3 ?_)))
           (case aB => exact (by repeat (first | (with_reducible first | exact HB.out | apply eN | apply eO | apply eP | refine eX ?_ au.out) | exact HB.out)))
           (case aF => exact (fun k_ hk => ⟨(.inr (Nat.le_trans (by first | exact HK.out.1 | exact (show Kept w _ (fun k_ => ak k_) from by repeat (first | (with_reducible first | exact HK.out | apply Kept.alloc | apply Kept.drewN | apply Kept.drew | refine Kept.setCell ?_ (.inr ar.out) _) | exact HK.out)).1) hk)), Kd.fresh' (Kd.R_lt (by (with_reducible repeat (first | apply eY | apply eZ | apply e0)); exact ad.out)) k_ hk, Kd.fresh' (Kd.R_lt (by (with_reducible repeat (first | apply eY | apply eZ | apply e0)); exact az.out)) k_ hk, Kd.freshB (g := ac) (o := .cells #[.int .i64 ae, .int .i64 af, .int .i64 ag, .int .i64 ah, .int .i64 ai, .int .i64 aj] 24 (0, 0)) (by (with_reducible repeat (first | refine eT ?_ _ | refine eV ?_ | refine eU ?_ _)); exact aa.out) k_ hk⟩))
           (case aO => exact (by (with_reducible repeat (first | apply eY | apply eZ | apply e0)); exact Kd.R_mono aN.out (fun _ hk => ⟨hk.1, ⟨hk.2.2.1, ⟨hk.2.1, hk.2.2.2⟩⟩⟩)))
           (case aS => exact (eR (by repeat (first | (with_reducible first | exact HB.out | apply eN | apply eO | apply eP | refine eX ?_ au.out) | exact HB.out))))
           (case aL => have := dz.out; omega)
           intro dH es ho hb hg hat
           rw [← dA.out] at ho
           have al := q28 (Kd.R_after (ok := (fun k_ => (ak k_ ∨ w.heap.size ≤ k_) ∧ some k_ ≠ (.slice bw y274.length bx : Value).ownBlock ∧ k_ ≠ ac)) (by (with_reducible repeat (first | apply eY | apply eZ | apply e0)); exact Kd.R_mono ad.out (fun _ hk => ⟨⟨hk.1, ⟨hk.2.2.1, hk.2.2.2⟩⟩, hk.2.1⟩)) hg hat)
           have am := q28 (blk_grown (g := ac) (o := .cells #[.int .i64 ae, .int .i64 af, .int .i64 ag, .int .i64 ah, .int .i64 ai, .int .i64 aj] 24 (0, 0)) (by (with_reducible repeat (first | refine eT ?_ _ | refine eV ?_ | refine eU ?_ _)); exact aa.out) hg (Kd.R_away aN.out (fun _ hk => hk.2.2.2)))
           have an := q28 (Kd.R_after (ok := (fun k_ => (ak k_ ∨ w.heap.size ≤ k_) ∧ some k_ ≠ (.slice (some ad260) l0.length aC : Value).ownBlock ∧ k_ ≠ ac)) (by (with_reducible repeat (first | apply eY | apply eZ | apply e0)); exact Kd.R_mono az.out (fun _ hk => ⟨⟨hk.1, ⟨hk.2.2.1, hk.2.2.2⟩⟩, hk.2.1⟩)) hg hat)
           have ao := q28 (hb)
           have ap := q28 (Kept.of_grown (S := (fun k_ => ak k_)) hg (by repeat (first | (with_reducible first | exact HK.out | apply Kept.alloc | apply Kept.drewN | apply Kept.drew | refine Kept.setCell ?_ (.inr ar.out) _) | exact HK.out)) (fun k_ e_ => (aN.out.1 k_ e_).1))
           have aq := q28 (ho)
           clear ad
           clear aa
           clear az
           clear HB
           clear HK
           clear aN
           have ad := al
           have aa := am
           have az := an
           have HB := ao
           have HK := ap
           have co := aq
           clear al am an ao ap aq
           clear ho hb hg hat
           refine hK.out _ _ ⟨(eW aa.out 0).trans rfl, (eW aa.out 1).trans rfl, (eW aa.out 2).trans rfl, (eW aa.out 3).trans rfl, (eW aa.out 4).trans rfl, (eW aa.out 5).trans rfl⟩ (fun hHeld => ?_)
           clear hK K
           refine norm_ (a' := ?_) ?_ ?_
           rotate_left
           ·show Act.put _ (some 43) _ = _
            simp only [Act.put, e4, e5, e6, i64_w, i32_w]
            rfl
           refine pure_ (i := 8) (N := some 6) (v := ?_) (a' := ?_) #[true, true, true, true, true, true, true, true, true] rfl rfl (any_of HT_.out (by kernel_rfl)) (fun _ _ _ h => h) (Or.inl ⟨by rfl, ?_⟩) ?_ ?_
           rotate_left
           ·intro w'
            go_simp
            with_reducible rfl
           rotate_left
           ·simp only [Act.put, e4, e5, e6, i64_w, i32_w]
            rfl
           refine done_ (done_of HT_.out (by kernel_rfl)) ?_
           have cM : (ab : Int) ≤ ((l0.length : Int) : Int) := of_decide_eq_true (by first | (with_reducible assumption) | assumption)
           obtain ⟨et, dg, _, dh, _⟩ := info_parts info24
           have hroom40 : l0.length ≤ aC := (Kd.R_reads' ad.out).2.1
           have di : Kd.C k24 _ (some ad260) l0.length l0 := (Kd.R_reads' ad.out).2.2
           have dI : (0 : Int) ≤ (ab : Int) := of_decide_eq_true (by first | (with_reducible assumption) | assumption)
           have dJ := cut_from (P := Try.prog) 33 24 .i64 Try.underlying33 dg 6 dh (some ad260) l0.length aC ab dI cM
           have b5 := Kd.C_drop (m := (ab : Int).toNat) (c := aC) di (by omega) hroom40
           obtain ⟨dj, cp⟩ : ∃ A1, A1 = (if aC = (ab : Int).toNat then (some ad260) else ((some ad260) : Option Addr).map (·.add ((ab : Int).toNat * 6))) := ⟨_, rfl⟩
           obtain ⟨dK, cN⟩ : ∃ c1, c1 = aC - (ab : Int).toNat := ⟨_, rfl⟩
           have cq : y280.length = l0.length - (ab : Int).toNat := (by rw [cF.out, List.length_drop] <;> omega)
           rw [show (l0).drop (ab : Int).toNat = y280 from cF.out.symm] at b5
           replace b5 : Kd.C k24 _ dj y280.length y280 := (by rw [cp]; exact b5)
           rw [← cq, ← cp, ← cN] at dJ
           have cr := q28 b5
           have eu := q28 (show y280.length ≤ dK from by rw [cq, cN]; exact Nat.sub_le_sub_right hroom40 _)
           clear b5 di hroom40 dg dh cN
           have ev := q28 cq
           have dL := q28 cp
           clear cq cp
           have dM := q28 (show (ab : Int).toNat ≤ l0.length from by omega)
           replace cM := eq_true cM
           try go_wp2_with (first | ((with_reducible refine gate_builtin (b := .append) (xs := #[.tmp 44, .tmp 47]) rfl ?_); at_builtin; refine Kd.R_append_rows k24 (w0 := w0) w0.heap.size rfl (.tmp 44) (.tmp 47) 33 24 (.agg #[(.int .i64 0), (.int .i64 0), (.int .i64 0), (.int .i64 0), (.int .i64 0), (.int .i64 0)]) 48 rfl Try.underlying33 info24 rfl (by decide) (by omega) dH y277 y280 _ _ _ (fun k_ => (ak k_ ∨ w.heap.size ≤ k_) ∧ some k_ ≠ (.slice (some ad260) l0.length aC : Value).ownBlock ∧ some k_ ≠ (.slice bw y274.length bx : Value).ownBlock ∧ k_ ≠ ac) (fun _ => False) rfl rfl ?aO ?aR (fun _ _ h => h) (fun _ h => h.elim) ?aF ?aB ?aS ?aL ?_; (case aR => repeat (first | exact (by repeat (first | (with_reducible exact cr.out) | (with_reducible refine e1 ?_ _) | (with_reducible refine e2 ?_ _) | (with_reducible refine e3 ?_) | exact cr.out)) | (with_reducible refine e1 ?_ _) | (with_reducible refine e2 ?_ _) | (with_reducible refine e3 ?_))); (case aB => exact (by repeat (first | (with_reducible first | exact HB.out | apply eN | apply eO | apply eP | refine eX ?_ au.out) | exact HB.out))); (case aF => exact (fun k_ hk => ⟨(.inr (Nat.le_trans (by first | exact HK.out.1 | exact (show Kept w _ (fun k_ => ak k_) from by repeat (first | (with_reducible first | exact HK.out | apply Kept.alloc | apply Kept.drewN | apply Kept.drew | refine Kept.setCell ?_ (.inr ar.out) _) | exact HK.out)).1) hk)), Kd.fresh' (Kd.R_lt (by (with_reducible repeat (first | apply eY | apply eZ | apply e0)); exact ad.out)) k_ hk, Kd.fresh' (Kd.R_lt (by (with_reducible repeat (first | apply eY | apply eZ | apply e0)); exact az.out)) k_ hk, Kd.freshB (g := ac) (o := .cells #[.int .i64 ae, .int .i64 af, .int .i64 ag, .int .i64 ah, .int .i64 ai, .int .i64 aj] 24 (0, 0)) (by (with_reducible repeat (first | refine eT ?_ _ | refine eV ?_ | refine eU ?_ _)); exact aa.out) k_ hk⟩)); (case aO => exact (by (with_reducible repeat (first | apply eY | apply eZ | apply e0)); exact co.out)); (case aS => exact (eR (by repeat (first | (with_reducible first | exact HB.out | apply eN | apply eO | apply eP | refine eX ?_ au.out) | exact HB.out)))); (case aL => have := dB.out; omega); intro ew dN ho hb hg hat; rw [← dD.out] at ho; have al := q28 (Kd.R_after (ok := (fun k_ => (ak k_ ∨ w.heap.size ≤ k_) ∧ some k_ ≠ (.slice bw y274.length bx : Value).ownBlock ∧ k_ ≠ ac)) (by (with_reducible repeat (first | apply eY | apply eZ | apply e0)); exact ad.out) hg hat); have am := q28 (blk_grown (g := ac) (o := .cells #[.int .i64 ae, .int .i64 af, .int .i64 ag, .int .i64 ah, .int .i64 ai, .int .i64 aj] 24 (0, 0)) (by (with_reducible repeat (first | refine eT ?_ _ | refine eV ?_ | refine eU ?_ _)); exact aa.out) hg (Kd.R_away co.out (fun _ hk => hk.2.2.2))); have an := q28 (Kd.R_after (ok := (fun k_ => (ak k_ ∨ w.heap.size ≤ k_) ∧ some k_ ≠ (.slice (some ad260) l0.length aC : Value).ownBlock ∧ k_ ≠ ac)) (by (with_reducible repeat (first | apply eY | apply eZ | apply e0)); exact az.out) hg hat); have ao := q28 (hb); have ap := q28 (Kept.of_grown (S := (fun k_ => ak k_)) hg (by repeat (first | (with_reducible first | exact HK.out | apply Kept.alloc | apply Kept.drewN | apply Kept.drew | refine Kept.setCell ?_ (.inr ar.out) _) | exact HK.out)) (fun k_ e_ => (co.out.1 k_ e_).1)); have aq := q28 ((show Kd.C k24 dN dj y280.length y280 from by rw [cF.out, dL.out]; exact Kd.C_drop (m := (ab : Int).toNat) (c := aC) ((Kd.R_reads' (Kd.R_after (ok := (fun k_ => (ak k_ ∨ w.heap.size ≤ k_) ∧ some k_ ≠ (.slice bw y274.length bx : Value).ownBlock ∧ k_ ≠ ac)) (by (with_reducible repeat (first | apply eY | apply eZ | apply e0)); exact ad.out) hg hat)).2.2) dM.out ((Kd.R_reads' (Kd.R_after (ok := (fun k_ => (ak k_ ∨ w.heap.size ≤ k_) ∧ some k_ ≠ (.slice bw y274.length bx : Value).ownBlock ∧ k_ ≠ ac)) (by (with_reducible repeat (first | apply eY | apply eZ | apply e0)); exact ad.out) hg hat)).2.1))); have aw := q28 (ho); clear ad; clear aa; clear az; clear HB; clear HK; clear cr; clear co; have ad := al; have aa := am; have az := an; have HB := ao; have HK := ap; have cr := aq; have dO := aw; clear al am an ao ap aq aw; clear ho hb hg hat))
           go_ret
           exact ⟨_, by first | rfl | (simp [errW_none, errW_some] <;> rfl) | (simp [*, errW_none, errW_some] <;> rfl), by (with_reducible repeat (first | apply eY | apply eZ | apply e0)); exact Kd.R_mono dO.out (fun _ hk => hk.1), by repeat (first | (with_reducible first | exact HB.out | apply eN | apply eO | apply eP | refine eX ?_ au.out) | exact HB.out), by repeat (first | (with_reducible first | exact HK.out | apply Kept.alloc | apply Kept.drewN | apply Kept.drew | refine Kept.setCell ?_ (.inr ar.out) _) | exact HK.out)⟩
          ·rw [if_neg cn] at H
           exact absurd H (by simp)
         ·rw [if_neg cm] at H
          exact absurd H (by simp)
        ·rw [if_neg cl] at H
         exact absurd H (by simp)
       ·rw [if_neg bR] at H
        exact absurd H (by simp)
    ·rw [if_neg c5] at H
     exact absurd H (by simp)
   ·rw [if_neg c4] at H
    have dv : decide (ab < (l0.length : Int)) = false := decide_eq_false c4
    clear c4
    obtain ⟨y287, b6⟩ : ∃ y_ : List (S24), y_ = (([] : List (S24))) := ⟨_, rfl⟩
    replace H : (if 0 ≤ ab then (if ab ≤ (l0.length : Int) then ((some (l0.take (ab : Int).toNat : List (S24))).bind fun y290 => (if y287.length + y290.length < 2932031007402 then ((some (y287 ++ y290 : List (S24))).bind fun y294 => ((some (([(⟨ae, af, ag, ah, ai, aj⟩ : S24)] : List (S24)) : List (S24))).bind fun y297 => (if y294.length + y297.length < 2932031007402 then ((some (y294 ++ y297 : List (S24))).bind fun y300 => ((some (l0.drop (ab : Int).toNat : List (S24))).bind fun y303 => (if y300.length + y303.length < 2932031007402 then (some (y300 ++ y303)) else (none)))) else (none)))) else (none))) else (none)) else (none)) = some r := by first | (rw [b6]; with_reducible exact H) | (have av := (Option.bind_some _ _).symm.trans H; rw [b6]; with_reducible exact av) | (have av := (Option.bind_some _ _).symm.trans H; with_reducible exact av) | with_reducible exact H | (rw [b6]; exact H) | exact H
    have ct := q28 b6
    clear b6
    by_cases b7 : 0 ≤ ab
    ·rw [if_pos b7] at H
     have ex := eq_true b7
     have ey : decide (0 ≤ ab) = true := decide_eq_true b7
     clear b7
     by_cases b8 : ab ≤ (l0.length : Int)
     ·rw [if_pos b8] at H
      have ez := eq_true b8
      have eA : decide (ab ≤ (l0.length : Int)) = true := decide_eq_true b8
      clear b8
      obtain ⟨y290, b9⟩ : ∃ y_ : List (S24), y_ = (l0.take (ab : Int).toNat) := ⟨_, rfl⟩
      replace H : (if y287.length + y290.length < 2932031007402 then ((some (y287 ++ y290 : List (S24))).bind fun y294 => ((some (([(⟨ae, af, ag, ah, ai, aj⟩ : S24)] : List (S24)) : List (S24))).bind fun y297 => (if y294.length + y297.length < 2932031007402 then ((some (y294 ++ y297 : List (S24))).bind fun y300 => ((some (l0.drop (ab : Int).toNat : List (S24))).bind fun y303 => (if y300.length + y303.length < 2932031007402 then (some (y300 ++ y303)) else (none)))) else (none)))) else (none)) = some r := by first | (rw [b9]; with_reducible exact H) | (have av := (Option.bind_some _ _).symm.trans H; rw [b9]; with_reducible exact av) | (have av := (Option.bind_some _ _).symm.trans H; with_reducible exact av) | with_reducible exact H | (rw [b9]; exact H) | exact H
      have ca := q28 b9
      clear b9
      by_cases cu : y287.length + y290.length < 2932031007402
      ·rw [if_pos cu] at H
       have cO := q28 cu
       clear cu
       obtain ⟨y294, cb⟩ : ∃ y_ : List (S24), y_ = (y287 ++ y290) := ⟨_, rfl⟩
       replace H : ((some (([(⟨ae, af, ag, ah, ai, aj⟩ : S24)] : List (S24)) : List (S24))).bind fun y297 => (if y294.length + y297.length < 2932031007402 then ((some (y294 ++ y297 : List (S24))).bind fun y300 => ((some (l0.drop (ab : Int).toNat : List (S24))).bind fun y303 => (if y300.length + y303.length < 2932031007402 then (some (y300 ++ y303)) else (none)))) else (none))) = some r := by first | (rw [cb]; with_reducible exact H) | (have av := (Option.bind_some _ _).symm.trans H; rw [cb]; with_reducible exact av) | (have av := (Option.bind_some _ _).symm.trans H; with_reducible exact av) | with_reducible exact H | (rw [cb]; exact H) | exact H
       have cP := q28 cb
       clear cb
       obtain ⟨y297, cc⟩ : ∃ y_ : List (S24), y_ = (([(⟨ae, af, ag, ah, ai, aj⟩ : S24)] : List (S24))) := ⟨_, rfl⟩
       replace H : (if y294.length + y297.length < 2932031007402 then ((some (y294 ++ y297 : List (S24))).bind fun y300 => ((some (l0.drop (ab : Int).toNat : List (S24))).bind fun y303 => (if y300.length + y303.length < 2932031007402 then (some (y300 ++ y303)) else (none)))) else (none)) = some r := by first | (rw [cc]; with_reducible exact H) | (have av := (Option.bind_some _ _).symm.trans H; rw [cc]; with_reducible exact av) | (have av := (Option.bind_some _ _).symm.trans H; with_reducible exact av) | with_reducible exact H | (rw [cc]; exact H) | exact H
       have bz := q28 cc
       clear cc
       by_cases cv : y294.length + y297.length < 2932031007402
       ·rw [if_pos cv] at H
        have dP := q28 cv
        clear cv
        obtain ⟨y300, cd⟩ : ∃ y_ : List (S24), y_ = (y294 ++ y297) := ⟨_, rfl⟩
        replace H : ((some (l0.drop (ab : Int).toNat : List (S24))).bind fun y303 => (if y300.length + y303.length < 2932031007402 then (some (y300 ++ y303)) else (none))) = some r := by first | (rw [cd]; with_reducible exact H) | (have av := (Option.bind_some _ _).symm.trans H; rw [cd]; with_reducible exact av) | (have av := (Option.bind_some _ _).symm.trans H; with_reducible exact av) | with_reducible exact H | (rw [cd]; exact H) | exact H
        have dQ := q28 cd
        clear cd
        have eB := eq_true (of_decide_eq_true (by first | (with_reducible assumption) | assumption) : 0 ≤ ab)
        have eC := eq_true (of_decide_eq_true (by first | (with_reducible assumption) | assumption) : ab ≤ (l0.length : Int))
        obtain ⟨y303, ce⟩ : ∃ y_ : List (S24), y_ = (l0.drop (ab : Int).toNat) := ⟨_, rfl⟩
        replace H : (if y300.length + y303.length < 2932031007402 then (some (y300 ++ y303)) else (none)) = some r := by first | (rw [ce]; with_reducible exact H) | (have av := (Option.bind_some _ _).symm.trans H; rw [ce]; with_reducible exact av) | (have av := (Option.bind_some _ _).symm.trans H; with_reducible exact av) | with_reducible exact H | (rw [ce]; exact H) | exact H
        have cQ := q28 ce
        clear ce
        by_cases cw : y300.length + y303.length < 2932031007402
        ·rw [if_pos cw] at H
         have dR := q28 cw
         clear cw
         obtain ⟨dS, cf⟩ : ∃ y_ : List (S24), y_ = (y300 ++ y303) := ⟨_, rfl⟩
         replace H : (some dS) = some r := by first | (rw [cf]; with_reducible exact H) | (have av := (Option.bind_some _ _).symm.trans H; rw [cf]; with_reducible exact av) | (have av := (Option.bind_some _ _).symm.trans H; with_reducible exact av) | with_reducible exact H | (rw [cf]; exact H) | exact H
         have dT := q28 cf
         clear cf
         obtain rfl := Option.some.inj H
         try go_wp2
         have al := q28 (e0 ad.out)
         have am := q28 (eV aa.out)
         have an := q28 (Kept.drew HK.out)
         have ao := q28 (eP HB.out)
         clear ad
         clear aa
         clear HK
         clear HB
         have ad := al
         have aa := am
         have HK := an
         have HB := ao
         clear al am an ao
         obtain ⟨aD, aE, dk⟩ := Kd.R_slice ad.out
         (first | subst dk | (injection dk with f1_ aV f3_; have aW := f1_.symm; have aX := f3_.symm; clear f1_ aV f3_; subst aW; subst aX))
         refine start_ (n := 13) (S := fun w' => True) (ds := []) #[false, false, false, false, false, false, false, false, false, false, false, false, false] (by kernel_rfl) rfl rfl trivial (fun hHeld => ?_); refine with_tabW meddlerref15_Lay.tab2 meddlerref15_Lay.bits2 (fun HT_ HW_ => ?_)
         generalize wr.drew = w49 at ad aa HK HB hHeld ⊢
         refine pure_ (i := 0) (N := some 7) (v := ?_) (a' := ?_) #[true, false, false, false, false, false, false, false, false, false, false, false, false] rfl rfl (any_of HT_.out (by kernel_rfl)) (fun _ _ _ h => h) (Or.inl ⟨by rfl, ?_⟩) ?_ ?_
         rotate_left
         ·intro w'
          go_simp
          with_reducible rfl
         rotate_left
         ·simp only [Act.put, e4, e5, e6, i64_w, i32_w]
          rfl
         refine pure_ (i := 1) (N := some 8) (v := ?_) (a' := ?_) #[true, true, false, false, false, false, false, false, false, false, false, false, false] rfl rfl (any_of HT_.out (by kernel_rfl)) (fun _ _ _ h => h) (Or.inl ⟨by rfl, ?_⟩) ?_ ?_
         rotate_left
         ·intro w'
          go_simp
          with_reducible rfl
         rotate_left
         ·simp only [Act.put, e4, e5, e6, i64_w, i32_w]
          rfl
         refine pure_ (i := 2) (N := some 9) (v := ?_) (a' := ?_) #[true, true, true, false, false, false, false, false, false, false, false, false, false] rfl rfl (any_of HT_.out (by kernel_rfl)) (fun _ _ _ h => h) (Or.inl ⟨by rfl, ?_⟩) ?_ ?_
         rotate_left
         ·intro w'
          go_simp
          with_reducible rfl
         rotate_left
         ·simp only [Act.put, e4, e5, e6, i64_w, i32_w]
          rfl
         refine pure_ (i := 3) (N := some 10) (v := ?_) (a' := ?_) #[true, true, true, true, false, false, false, false, false, false, false, false, false] rfl rfl (any_of HT_.out (by kernel_rfl)) (fun _ _ _ h => h) (Or.inl ⟨by rfl, ?_⟩) ?_ ?_
         rotate_left
         ·intro w'
          go_simp
          with_reducible rfl
         rotate_left
         ·simp only [Act.put, e4, e5, e6, i64_w, i32_w]
          rfl
         refine pure_ (i := 4) (N := some 11) (v := ?_) (a' := ?_) #[true, true, true, true, true, false, false, false, false, false, false, false, false] rfl rfl (any_of HT_.out (by kernel_rfl)) (fun _ _ _ h => h) (Or.inl ⟨by rfl, ?_⟩) ?_ ?_
         rotate_left
         ·intro w'
          go_simp
          with_reducible rfl
         rotate_left
         ·simp only [Act.put, e4, e5, e6, i64_w, i32_w]
          rfl
         refine pure_ (i := 5) (N := some 12) (v := undef) (a' := ?_) #[true, true, true, true, true, true, false, false, false, false, false, false, false] rfl rfl (any_of HT_.out (by kernel_rfl)) (fun _ _ _ h => h) (Or.inr ⟨by rfl, rfl⟩) ?_ ?_
         rotate_left
         ·simp only [Act.put, e4, e5, e6, i64_w, i32_w]
          rfl
         refine pure_ (i := 6) (N := some 13) (v := undef) (a' := ?_) #[true, true, true, true, true, true, true, false, false, false, false, false, false] rfl rfl (any_of HT_.out (by kernel_rfl)) (fun _ _ _ h => h) (Or.inr ⟨by rfl, rfl⟩) ?_ ?_
         rotate_left
         ·simp only [Act.put, e4, e5, e6, i64_w, i32_w]
          rfl
         refine pure_ (i := 7) (N := some 14) (v := undef) (a' := ?_) #[true, true, true, true, true, true, true, true, false, false, false, false, false] rfl rfl (any_of HT_.out (by kernel_rfl)) (fun _ _ _ h => h) (Or.inr ⟨by rfl, rfl⟩) ?_ ?_
         rotate_left
         ·simp only [Act.put, e4, e5, e6, i64_w, i32_w]
          rfl
         refine pure_ (i := 8) (N := some 15) (v := undef) (a' := ?_) #[true, true, true, true, true, true, true, true, true, false, false, false, false] rfl rfl (any_of HT_.out (by kernel_rfl)) (fun _ _ _ h => h) (Or.inr ⟨by rfl, rfl⟩) ?_ ?_
         rotate_left
         ·simp only [Act.put, e4, e5, e6, i64_w, i32_w]
          rfl
         refine pure_ (i := 9) (N := some 16) (v := undef) (a' := ?_) #[true, true, true, true, true, true, true, true, true, true, false, false, false] rfl rfl (any_of HT_.out (by kernel_rfl)) (fun _ _ _ h => h) (Or.inr ⟨by rfl, rfl⟩) ?_ ?_
         rotate_left
         ·simp only [Act.put, e4, e5, e6, i64_w, i32_w]
          rfl
         refine pure_ (i := 10) (N := some 17) (v := undef) (a' := ?_) #[true, true, true, true, true, true, true, true, true, true, true, false, false] rfl rfl (any_of HT_.out (by kernel_rfl)) (fun _ _ _ h => h) (Or.inr ⟨by rfl, rfl⟩) ?_ ?_
         rotate_left
         ·simp only [Act.put, e4, e5, e6, i64_w, i32_w]
          rfl
         refine pure_ (i := 11) (N := some 18) (v := undef) (a' := ?_) #[true, true, true, true, true, true, true, true, true, true, true, true, false] rfl rfl (any_of HT_.out (by kernel_rfl)) (fun _ _ _ h => h) (Or.inr ⟨by rfl, rfl⟩) ?_ ?_
         rotate_left
         ·simp only [Act.put, e4, e5, e6, i64_w, i32_w]
          rfl
         refine pure_ (i := 12) (N := some 19) (v := ?_) (a' := ?_) #[true, true, true, true, true, true, true, true, true, true, true, true, true] rfl rfl (any_of HT_.out (by kernel_rfl)) (fun _ _ _ h => h) (Or.inl ⟨by rfl, ?_⟩) ?_ ?_
         rotate_left
         ·intro w'
          go_simp
          with_reducible rfl
         rotate_left
         ·simp only [Act.put, e4, e5, e6, i64_w, i32_w]
          rfl
         refine done_ (done_of HT_.out (by kernel_rfl)) ?_
         try go_wp2
         have al := q28 (e0 ad.out)
         have am := q28 (eV aa.out)
         have an := q28 (Kept.drew HK.out)
         have ao := q28 (eP HB.out)
         clear ad
         clear aa
         clear HK
         clear HB
         have ad := al
         have aa := am
         have HK := an
         have HB := ao
         clear al am an ao
         refine start_ (n := 13) (S := fun w' => True) (ds := []) #[false, false, false, false, false, false, false, false, false, false, false, false, false] (by kernel_rfl) rfl rfl trivial (fun hHeld => ?_); refine with_tabW meddlerref15_Lay.tab4 meddlerref15_Lay.bits4 (fun HT_ HW_ => ?_)
         generalize w49.drew = w51 at ad aa HK HB hHeld ⊢
         refine pure_ (i := 0) (N := some 22) (v := ?_) (a' := ?_) #[true, false, false, false, false, false, false, false, false, false, false, false, false] rfl rfl (any_of HT_.out (by kernel_rfl)) (fun _ _ _ h => h) (Or.inl ⟨by rfl, ?_⟩) ?_ ?_
         rotate_left
         ·intro w'
          go_simp
          with_reducible rfl
         rotate_left
         ·simp only [Act.put, e4, e5, e6, i64_w, i32_w]
          rfl
         refine pure_ (i := 1) (N := some 23) (v := ?_) (a' := ?_) #[true, true, false, false, false, false, false, false, false, false, false, false, false] rfl rfl (any_of HT_.out (by kernel_rfl)) (fun _ _ _ h => h) (Or.inl ⟨by rfl, ?_⟩) ?_ ?_
         rotate_left
         ·intro w'
          go_simp
          with_reducible rfl
         rotate_left
         ·simp only [Act.put, e4, e5, e6, i64_w, i32_w]
          rfl
         refine pure_ (i := 2) (N := some 24) (v := ?_) (a' := ?_) #[true, true, true, false, false, false, false, false, false, false, false, false, false] rfl rfl (any_of HT_.out (by kernel_rfl)) (fun _ _ _ h => h) (Or.inl ⟨by rfl, ?_⟩) ?_ ?_
         rotate_left
         ·intro w'
          go_simp
          with_reducible rfl
         rotate_left
         ·simp only [Act.put, e4, e5, e6, i64_w, i32_w]
          rfl
         refine pure_ (i := 3) (N := some 25) (v := ?_) (a' := ?_) #[true, true, true, true, false, false, false, false, false, false, false, false, false] rfl rfl (any_of HT_.out (by kernel_rfl)) (fun _ _ _ h => h) (Or.inl ⟨by rfl, ?_⟩) ?_ ?_
         rotate_left
         ·intro w'
          go_simp
          with_reducible rfl
         rotate_left
         ·simp only [Act.put, e4, e5, e6, i64_w, i32_w]
          rfl
         refine pure_ (i := 4) (N := some 26) (v := ?_) (a' := ?_) #[true, true, true, true, true, false, false, false, false, false, false, false, false] rfl rfl (any_of HT_.out (by kernel_rfl)) (fun _ _ _ h => h) (Or.inl ⟨by rfl, ?_⟩) ?_ ?_
         rotate_left
         ·intro w'
          go_simp
          with_reducible rfl
         rotate_left
         ·simp only [Act.put, e4, e5, e6, i64_w, i32_w]
          rfl
         refine pure_ (i := 5) (N := some 27) (v := undef) (a' := ?_) #[true, true, true, true, true, true, false, false, false, false, false, false, false] rfl rfl (any_of HT_.out (by kernel_rfl)) (fun _ _ _ h => h) (Or.inr ⟨by rfl, rfl⟩) ?_ ?_
         rotate_left
         ·simp only [Act.put, e4, e5, e6, i64_w, i32_w]
          rfl
         refine pure_ (i := 6) (N := some 28) (v := undef) (a' := ?_) #[true, true, true, true, true, true, true, false, false, false, false, false, false] rfl rfl (any_of HT_.out (by kernel_rfl)) (fun _ _ _ h => h) (Or.inr ⟨by rfl, rfl⟩) ?_ ?_
         rotate_left
         ·simp only [Act.put, e4, e5, e6, i64_w, i32_w]
          rfl
         refine pure_ (i := 7) (N := some 29) (v := undef) (a' := ?_) #[true, true, true, true, true, true, true, true, false, false, false, false, false] rfl rfl (any_of HT_.out (by kernel_rfl)) (fun _ _ _ h => h) (Or.inr ⟨by rfl, rfl⟩) ?_ ?_
         rotate_left
         ·simp only [Act.put, e4, e5, e6, i64_w, i32_w]
          rfl
         refine pure_ (i := 8) (N := some 30) (v := undef) (a' := ?_) #[true, true, true, true, true, true, true, true, true, false, false, false, false] rfl rfl (any_of HT_.out (by kernel_rfl)) (fun _ _ _ h => h) (Or.inr ⟨by rfl, rfl⟩) ?_ ?_
         rotate_left
         ·simp only [Act.put, e4, e5, e6, i64_w, i32_w]
          rfl
         refine pure_ (i := 9) (N := some 31) (v := undef) (a' := ?_) #[true, true, true, true, true, true, true, true, true, true, false, false, false] rfl rfl (any_of HT_.out (by kernel_rfl)) (fun _ _ _ h => h) (Or.inr ⟨by rfl, rfl⟩) ?_ ?_
         rotate_left
         ·simp only [Act.put, e4, e5, e6, i64_w, i32_w]
          rfl
         refine pure_ (i := 10) (N := some 32) (v := undef) (a' := ?_) #[true, true, true, true, true, true, true, true, true, true, true, false, false] rfl rfl (any_of HT_.out (by kernel_rfl)) (fun _ _ _ h => h) (Or.inr ⟨by rfl, rfl⟩) ?_ ?_
         rotate_left
         ·simp only [Act.put, e4, e5, e6, i64_w, i32_w]
          rfl
         refine pure_ (i := 11) (N := some 33) (v := undef) (a' := ?_) #[true, true, true, true, true, true, true, true, true, true, true, true, false] rfl rfl (any_of HT_.out (by kernel_rfl)) (fun _ _ _ h => h) (Or.inr ⟨by rfl, rfl⟩) ?_ ?_
         rotate_left
         ·simp only [Act.put, e4, e5, e6, i64_w, i32_w]
          rfl
         refine pure_ (i := 12) (N := some 34) (v := ?_) (a' := ?_) #[true, true, true, true, true, true, true, true, true, true, true, true, true] rfl rfl (any_of HT_.out (by kernel_rfl)) (fun _ _ _ h => h) (Or.inl ⟨by rfl, ?_⟩) ?_ ?_
         rotate_left
         ·intro w'
          go_simp
          with_reducible rfl
         rotate_left
         ·simp only [Act.put, e4, e5, e6, i64_w, i32_w]
          rfl
         refine done_ (done_of HT_.out (by kernel_rfl)) ?_
         try go_wp2
         have al := q28 (e0 ad.out)
         have am := q28 (eV aa.out)
         have an := q28 (Kept.drew HK.out)
         have ao := q28 (eP HB.out)
         clear ad
         clear aa
         clear HK
         clear HB
         have ad := al
         have aa := am
         have HK := an
         have HB := ao
         clear al am an ao
         have cR : (ab : Int) ≤ ((l0.length : Int) : Int) := of_decide_eq_true (by first | (with_reducible assumption) | assumption)
         obtain ⟨eD, dl, _, dU, _⟩ := info_parts info24
         have hroom53 : l0.length ≤ aE := (Kd.R_reads' ad.out).2.1
         have dm : Kd.C k24 _ aD l0.length l0 := (Kd.R_reads' ad.out).2.2
         have dV := cut_to (P := Try.prog) 33 24 .i64 Try.underlying33 dl aD l0.length aE ab (of_decide_eq_true (by first | (with_reducible assumption) | assumption)) cR hroom53
         have cS := Kd.C_take (m := (ab : Int).toNat) dm (by omega)
         have cT : y290.length = (ab : Int).toNat := (by rw [ca.out, List.length_take]; omega)
         rw [← ca.out] at cS
         rw [← cT] at dV
         have ay := q28 cS
         have eE := q28 (show y290.length ≤ aE from by omega)
         clear cS dm hroom53 dl dU
         have eF := q28 cT
         clear cT
         have cU := q28 (show (ab : Int).toNat ≤ l0.length from by omega)
         replace cR := eq_true cR
         refine start_ (n := 9) (S := fun w' => w'.cell? ⟨ac, 0, none⟩ = some (.int .i64 ae) ∧ w'.cell? ⟨ac, 1, none⟩ = some (.int .i64 af) ∧ w'.cell? ⟨ac, 2, none⟩ = some (.int .i64 ag) ∧ w'.cell? ⟨ac, 3, none⟩ = some (.int .i64 ah) ∧ w'.cell? ⟨ac, 4, none⟩ = some (.int .i64 ai) ∧ w'.cell? ⟨ac, 5, none⟩ = some (.int .i64 aj)) (ds := []) #[false, false, false, false, false, false, false, false, false] (by kernel_rfl) rfl rfl ⟨(eW aa.out 0).trans rfl, (eW aa.out 1).trans rfl, (eW aa.out 2).trans rfl, (eW aa.out 3).trans rfl, (eW aa.out 4).trans rfl, (eW aa.out 5).trans rfl⟩ (fun hHeld => ?_); refine with_tabW meddlerref15_Lay.tab6 meddlerref15_Lay.bits6 (fun HT_ HW_ => ?_)
         generalize w51.drew = eG at ad aa HK HB ay hHeld ⊢
         refine pure_ (i := 1) (N := some 37) (v := ?_) (a' := ?_) #[false, true, false, false, false, false, false, false, false] rfl rfl (any_of HT_.out (by kernel_rfl)) (fun _ _ _ h => h) (Or.inl ⟨by rfl, ?_⟩) ?_ ?_
         rotate_left
         ·intro w'
          go_simp
          with_reducible rfl
         rotate_left
         ·simp only [Act.put, e4, e5, e6, i64_w, i32_w]
          rfl
         refine pure_ (i := 2) (N := some 38) (v := ?_) (a' := ?_) #[false, true, true, false, false, false, false, false, false] rfl rfl (any_of HT_.out (by kernel_rfl)) (fun _ _ _ h => h) (Or.inl ⟨by rfl, ?_⟩) ?_ ?_
         rotate_left
         ·intro w'
          go_simp
          with_reducible rfl
         rotate_left
         ·simp only [Act.put, e4, e5, e6, i64_w, i32_w]
          rfl
         refine pure_ (i := 3) (N := some 39) (v := ?_) (a' := ?_) #[false, true, true, true, false, false, false, false, false] rfl rfl (any_of HT_.out (by kernel_rfl)) (fun _ _ _ h => h) (Or.inl ⟨by rfl, ?_⟩) ?_ ?_
         rotate_left
         ·intro w'
          go_simp
          with_reducible rfl
         rotate_left
         ·simp only [Act.put, e4, e5, e6, i64_w, i32_w]
          rfl
         refine take_ (i := 5) (N := some 41) (v := ?_) (a' := ?_) #[false, true, true, true, false, true, false, false, false] rfl rfl (take_ofW HT_.out HW_.out (by kernel_rfl)) (fun _ _ _ h => h) (Or.inl ⟨by rfl, ?_⟩) hHeld ?_ ?_
         rotate_left
         ·rintro w' ⟨s0, s1, s2, s3, s4, s5⟩
          go_simp
          with_reducible rfl
         rotate_left
         ·simp only [Act.put, e4, e5, e6, i64_w, i32_w]
          rfl
         refine join_ (σ := Value × Value × Value) 2 #[true, true, true, true, true, true, true, false, false] (fun s_ => [(36, s_.1), (40, s_.2.1), (42, s_.2.2)]) (fun s_ w' => (w'.cell? ⟨ac, 0, none⟩ = some (.int .i64 ae) ∧ w'.cell? ⟨ac, 1, none⟩ = some (.int .i64 af) ∧ w'.cell? ⟨ac, 2, none⟩ = some (.int .i64 ag) ∧ w'.cell? ⟨ac, 3, none⟩ = some (.int .i64 ah) ∧ w'.cell? ⟨ac, 4, none⟩ = some (.int .i64 ai) ∧ w'.cell? ⟨ac, 5, none⟩ = some (.int .i64 aj)) ∧ (Kd.R k24 24 w' w0.heap.size (fun k_ => (ak k_ ∨ w.heap.size ≤ k_) ∧ some k_ ≠ (s_.2.2 : Value).ownBlock ∧ some k_ ≠ (.slice aD l0.length aE : Value).ownBlock ∧ k_ ≠ ac) s_.2.1 y294) ∧ (Kd.R k24 24 w' w0.heap.size (fun k_ => (ak k_ ∨ w.heap.size ≤ k_) ∧ some k_ ≠ (s_.2.1 : Value).ownBlock ∧ some k_ ≠ (.slice aD l0.length aE : Value).ownBlock ∧ k_ ≠ ac) s_.2.2 y297) ∧ (Kd.R k24 24 w' w0.heap.size (fun k_ => (ak k_ ∨ w.heap.size ≤ k_) ∧ some k_ ≠ (s_.2.1 : Value).ownBlock ∧ some k_ ≠ (s_.2.2 : Value).ownBlock ∧ k_ ≠ ac) (.slice aD l0.length aE) l0) ∧ (w'.heap[ac]? = some (.cells #[.int .i64 ae, .int .i64 af, .int .i64 ag, .int .i64 ah, .int .i64 ai, .int .i64 aj] 24 (0, 0))) ∧ (Kept w w' (fun k_ => ak k_)) ∧ (Below w0.heap.size w0 w')) ?_ ?_
         rotate_left
         ·intro hCont
          refine two_ (i := 0) (j := 6) (Ni := some 36) (Nj := some 42) #[true, true, true, true, false, true, false, false, false] #[false, true, true, true, false, true, true, false, false] rfl rfl rfl rfl (two_of HT_.out (by kernel_rfl)) (by decide) (by decide) (fun K hK => ?_) (fun K hK => ?_)
          ·skip
           refine Kd.R_lit_step k24 _ 24 ?hg (N := 36) ?hd (xs := ([] : List (S24))) (inner := []) (ok := fun _ => True) (okp := fun _ => True) ?hr ?hp (fun _ hk => hk) trivial (Below.refl _ _) (Nat.le_refl _) (by simp) ?_; (case hd => rfl); (case hg => rfl); (case hr => first | (go_simp; done) | (go_simp; rfl)); (case hp => exact (Reps.none _ _))
           intro bp dW aT hb hg_ hnew_
           clear hg_ hnew_
           (first | rw [← ct.out] at aT | (simp only [Int.reduceToNat] at aT; rw [← ct.out] at aT))
           have al := q28 (Kd.R_elder' (by (with_reducible repeat (first | apply eY | apply eZ | apply e0)); exact ad.out) (Kd.R_base aT) hb)
           have am := q28 (Kd.R_lower (Kd.R_newB (Kd.R_new' (Kd.R_newM (M := fun k_ => (ak k_ ∨ w.heap.size ≤ k_)) aT (by first | exact HK.out.1 | exact (show Kept w _ (fun k_ => ak k_) from by repeat (first | (with_reducible first | exact HK.out | apply Kept.alloc | apply Kept.drewN | apply Kept.drew | refine Kept.setCell ?_ (.inr ar.out) _) | exact HK.out)).1) (fun k_ h_ => .inr h_)) (Kd.R_lt (by (with_reducible repeat (first | apply eY | apply eZ | apply e0)); exact ad.out))) (g := ac) (o := .cells #[.int .i64 ae, .int .i64 af, .int .i64 ag, .int .i64 ah, .int .i64 ai, .int .i64 aj] 24 (0, 0)) (by (with_reducible repeat (first | refine eT ?_ _ | refine eV ?_ | refine eU ?_ _)); exact aa.out)) (eR (by repeat (first | (with_reducible first | exact HB.out | apply eN | apply eO | apply eP | refine eX ?_ au.out) | exact HB.out))))
           have an := q28 (eS (g := ac) (o := .cells #[.int .i64 ae, .int .i64 af, .int .i64 ag, .int .i64 ah, .int .i64 ai, .int .i64 aj] 24 (0, 0)) (by (with_reducible repeat (first | refine eT ?_ _ | refine eV ?_ | refine eU ?_ _)); exact aa.out) hb)
           have ao := q28 (Kd.C_below (by repeat (first | (with_reducible exact ay.out) | (with_reducible refine e1 ?_ _) | (with_reducible refine e2 ?_ _) | (with_reducible refine e3 ?_) | exact ay.out)) hb)
           have ap := q28 (Kept.below (S := (fun k_ => ak k_)) (by repeat (first | (with_reducible first | exact HK.out | apply Kept.alloc | apply Kept.drewN | apply Kept.drew | refine Kept.setCell ?_ (.inr ar.out) _) | exact HK.out)) hb)
           have aq := q28 (eQ (by repeat (first | (with_reducible first | exact HB.out | apply eN | apply eO | apply eP | refine eX ?_ au.out) | exact HB.out)) hb)
           clear ad
           clear aa
           clear ay
           clear HK
           clear HB
           have ad := al
           have aH := am
           have aa := an
           have ay := ao
           have HK := ap
           have HB := aq
           clear al am an ao ap aq
           clear hb aT
           refine hK.out _ _ ⟨(eW aa.out 0).trans rfl, (eW aa.out 1).trans rfl, (eW aa.out 2).trans rfl, (eW aa.out 3).trans rfl, (eW aa.out 4).trans rfl, (eW aa.out 5).trans rfl⟩ (fun hHeld => ?_)
           clear hK K
           refine norm_ (a' := ?_) ?_ ?_
           rotate_left
           ·show Act.put _ (some 36) _ = _
            simp only [Act.put, e4, e5, e6, i64_w, i32_w]
            rfl
           refine two_ (i := 4) (j := 6) (Ni := some 40) (Nj := some 42) #[true, true, true, true, true, true, false, false, false] #[true, true, true, true, false, true, true, false, false] rfl rfl rfl rfl (two_of HT_.out (by kernel_rfl)) (by decide) (by decide) (fun K hK => ?_) (fun K hK => ?_)
           ·skip
            refine Kd.R_append_rows_step k24 (w0 := w0) w0.heap.size (by rfl) (.tmp 36) (.tmp 39) 33 24 (.agg #[(.int .i64 0), (.int .i64 0), (.int .i64 0), (.int .i64 0), (.int .i64 0), (.int .i64 0)]) 48 rfl Try.underlying33 info24 rfl (by decide) (by omega) bp y287 y290 _ _ _ (fun k_ => (ak k_ ∨ w.heap.size ≤ k_) ∧ some k_ ≠ (.slice aD l0.length aE : Value).ownBlock ∧ k_ ≠ ac) (fun _ => False) rfl rfl ?aO ?aR (fun _ _ h => h) (fun _ h => h.elim) ?aF ?aB ?aS ?aL ?_
            (case aR => repeat (first | exact (by repeat (first | (with_reducible exact ay.out) | (with_reducible refine e1 ?_ _) | (with_reducible refine e2 ?_ _) | (with_reducible refine e3 ?_) | exact ay.out)) | (with_reducible refine e1 ?_ _) | (with_reducible refine e2 ?_ _) | (with_reducible refine e3 ?_)))
            (case aB => exact (by repeat (first | (with_reducible first | exact HB.out | apply eN | apply eO | apply eP | refine eX ?_ au.out) | exact HB.out)))
            (case aF => exact (fun k_ hk => ⟨(.inr (Nat.le_trans (by first | exact HK.out.1 | exact (show Kept w _ (fun k_ => ak k_) from by repeat (first | (with_reducible first | exact HK.out | apply Kept.alloc | apply Kept.drewN | apply Kept.drew | refine Kept.setCell ?_ (.inr ar.out) _) | exact HK.out)).1) hk)), Kd.fresh' (Kd.R_lt (by (with_reducible repeat (first | apply eY | apply eZ | apply e0)); exact ad.out)) k_ hk, Kd.freshB (g := ac) (o := .cells #[.int .i64 ae, .int .i64 af, .int .i64 ag, .int .i64 ah, .int .i64 ai, .int .i64 aj] 24 (0, 0)) (by (with_reducible repeat (first | refine eT ?_ _ | refine eV ?_ | refine eU ?_ _)); exact aa.out) k_ hk⟩))
            (case aO => exact (by (with_reducible repeat (first | apply eY | apply eZ | apply e0)); exact Kd.R_mono aH.out (fun _ hk => ⟨hk.1.1.1, ⟨hk.1.2, hk.2⟩⟩)))
            (case aS => exact (eR (by repeat (first | (with_reducible first | exact HB.out | apply eN | apply eO | apply eP | refine eX ?_ au.out) | exact HB.out))))
            (case aL => have := cO.out; omega)
            intro a8 cV ho hb hg hat
            rw [← cP.out] at ho
            have al := q28 (Kd.R_after (ok := (fun k_ => (ak k_ ∨ w.heap.size ≤ k_) ∧ k_ ≠ ac)) (by (with_reducible repeat (first | apply eY | apply eZ | apply e0)); exact ad.out) hg hat)
            have am := q28 (blk_grown (g := ac) (o := .cells #[.int .i64 ae, .int .i64 af, .int .i64 ag, .int .i64 ah, .int .i64 ai, .int .i64 aj] 24 (0, 0)) (by (with_reducible repeat (first | refine eT ?_ _ | refine eV ?_ | refine eU ?_ _)); exact aa.out) hg (Kd.R_away aH.out (fun _ hk => hk.2)))
            have an := q28 (hb)
            have ao := q28 (Kept.of_grown (S := (fun k_ => ak k_)) hg (by repeat (first | (with_reducible first | exact HK.out | apply Kept.alloc | apply Kept.drewN | apply Kept.drew | refine Kept.setCell ?_ (.inr ar.out) _) | exact HK.out)) (fun k_ e_ => (aH.out.1 k_ e_).1.1.1))
            have ap := q28 ((show Kd.C k24 cV aD y290.length y290 from by rw [ca.out]; exact Kd.C_take (m := (ab : Int).toNat) ((Kd.R_reads' (Kd.R_after (ok := (fun k_ => (ak k_ ∨ w.heap.size ≤ k_) ∧ k_ ≠ ac)) (by (with_reducible repeat (first | apply eY | apply eZ | apply e0)); exact ad.out) hg hat)).2.2) cU.out))
            have aq := q28 (ho)
            clear ad
            clear aa
            clear HB
            clear HK
            clear ay
            clear aH
            have ad := al
            have aa := am
            have HB := an
            have HK := ao
            have ay := ap
            have aP := aq
            clear al am an ao ap aq
            clear ho hb hg hat
            refine hK.out _ _ ⟨(eW aa.out 0).trans rfl, (eW aa.out 1).trans rfl, (eW aa.out 2).trans rfl, (eW aa.out 3).trans rfl, (eW aa.out 4).trans rfl, (eW aa.out 5).trans rfl⟩ (fun hHeld => ?_)
            clear hK K
            refine norm_ (a' := ?_) ?_ ?_
            rotate_left
            ·show Act.put _ (some 40) _ = _
             simp only [Act.put, e4, e5, e6, i64_w, i32_w]
             rfl
            refine one_ (i := 6) (N := some 42) #[true, true, true, true, true, true, true, false, false] rfl rfl (one_of HT_.out (by kernel_rfl)) (by decide) (fun K hK => ?_)
            refine Kd.R_lit_step k24 _ 24 ?hg (N := 42) ?hd (xs := ([(⟨ae, af, ag, ah, ai, aj⟩ : S24)] : List (S24))) (inner := [.int .i64 ae, .int .i64 af, .int .i64 ag, .int .i64 ah, .int .i64 ai, .int .i64 aj]) (ok := fun _ => True) (okp := fun _ => True) ?hr ?hp (fun _ hk => hk) trivial (Below.refl _ _) (Nat.le_refl _) (by simp) ?_; (case hd => rfl); (case hg => rfl); (case hr => first | (go_simp; done) | (go_simp; rfl)); (case hp => exact (Reps.c6 (show Kd.M k24 _ _ _ (⟨ae, af, ag, ah, ai, aj⟩ : S24) [.int .i64 ae, .int .i64 af, .int .i64 ag, .int .i64 ah, .int .i64 ai, .int .i64 aj] from (k24_mkM _ _ _ (⟨ae, af, ag, ah, ai, aj⟩ : S24) )) (Reps.none _ _)))
            intro aK eH bu hb hg_ hnew_
            clear hg_ hnew_
            (first | rw [← bz.out] at bu | (simp only [Int.reduceToNat] at bu; rw [← bz.out] at bu))
            have al := q28 (Kd.R_elder' (by (with_reducible repeat (first | apply eY | apply eZ | apply e0)); exact ad.out) (Kd.R_base bu) hb)
            have am := q28 (Kd.R_elder' (by (with_reducible repeat (first | apply eY | apply eZ | apply e0)); exact aP.out) (Kd.R_base bu) hb)
            have an := q28 (Kd.R_lower (Kd.R_newB (Kd.R_new' (Kd.R_new' (Kd.R_newM (M := fun k_ => (ak k_ ∨ w.heap.size ≤ k_)) bu (by first | exact HK.out.1 | exact (show Kept w _ (fun k_ => ak k_) from by repeat (first | (with_reducible first | exact HK.out | apply Kept.alloc | apply Kept.drewN | apply Kept.drew | refine Kept.setCell ?_ (.inr ar.out) _) | exact HK.out)).1) (fun k_ h_ => .inr h_)) (Kd.R_lt (by (with_reducible repeat (first | apply eY | apply eZ | apply e0)); exact ad.out))) (Kd.R_lt (by (with_reducible repeat (first | apply eY | apply eZ | apply e0)); exact aP.out))) (g := ac) (o := .cells #[.int .i64 ae, .int .i64 af, .int .i64 ag, .int .i64 ah, .int .i64 ai, .int .i64 aj] 24 (0, 0)) (by (with_reducible repeat (first | refine eT ?_ _ | refine eV ?_ | refine eU ?_ _)); exact aa.out)) (eR (by repeat (first | (with_reducible first | exact HB.out | apply eN | apply eO | apply eP | refine eX ?_ au.out) | exact HB.out))))
            have ao := q28 (eS (g := ac) (o := .cells #[.int .i64 ae, .int .i64 af, .int .i64 ag, .int .i64 ah, .int .i64 ai, .int .i64 aj] 24 (0, 0)) (by (with_reducible repeat (first | refine eT ?_ _ | refine eV ?_ | refine eU ?_ _)); exact aa.out) hb)
            have ap := q28 (Kd.C_below (by repeat (first | (with_reducible exact ay.out) | (with_reducible refine e1 ?_ _) | (with_reducible refine e2 ?_ _) | (with_reducible refine e3 ?_) | exact ay.out)) hb)
            have aq := q28 (Kept.below (S := (fun k_ => ak k_)) (by repeat (first | (with_reducible first | exact HK.out | apply Kept.alloc | apply Kept.drewN | apply Kept.drew | refine Kept.setCell ?_ (.inr ar.out) _) | exact HK.out)) hb)
            have aw := q28 (eQ (by repeat (first | (with_reducible first | exact HB.out | apply eN | apply eO | apply eP | refine eX ?_ au.out) | exact HB.out)) hb)
            clear ad
            clear aP
            clear aa
            clear ay
            clear HK
            clear HB
            have ad := al
            have aP := am
            have aA := an
            have aa := ao
            have ay := ap
            have HK := aq
            have HB := aw
            clear al am an ao ap aq aw
            clear hb bu
            refine hK.out _ _ ⟨(eW aa.out 0).trans rfl, (eW aa.out 1).trans rfl, (eW aa.out 2).trans rfl, (eW aa.out 3).trans rfl, (eW aa.out 4).trans rfl, (eW aa.out 5).trans rfl⟩ (fun hHeld => ?_)
            clear hK K
            refine norm_ (a' := ?_) ?_ ?_
            rotate_left
            ·show Act.put _ (some 42) _ = _
             simp only [Act.put, e4, e5, e6, i64_w, i32_w]
             rfl
            exact norm_ (by simp only [putAll, Act.put, e4, e5, e6]) (hCont (bp, a8, aK) _ ⟨hHeld, (by (with_reducible repeat (first | apply eY | apply eZ | apply e0)); exact Kd.R_mono aP.out (fun _ hk => ⟨hk.1.1, ⟨hk.2, ⟨hk.1.2.1, hk.1.2.2⟩⟩⟩)), (by (with_reducible repeat (first | apply eY | apply eZ | apply e0)); exact Kd.R_mono aA.out (fun _ hk => ⟨hk.1.1.1.1, ⟨hk.1.2, ⟨hk.1.1.2, hk.2⟩⟩⟩)), (by (with_reducible repeat (first | apply eY | apply eZ | apply e0)); exact Kd.R_mono ad.out (fun _ hk => ⟨hk.1.1.1, ⟨hk.1.2, ⟨hk.2, hk.1.1.2⟩⟩⟩)), (by (with_reducible repeat (first | refine eT ?_ _ | refine eV ?_ | refine eU ?_ _)); exact aa.out), (by repeat (first | (with_reducible first | exact HK.out | apply Kept.alloc | apply Kept.drewN | apply Kept.drew | refine Kept.setCell ?_ (.inr ar.out) _) | exact HK.out)), (by repeat (first | (with_reducible first | exact HB.out | apply eN | apply eO | apply eP | refine eX ?_ au.out) | exact HB.out))⟩)
           ·skip
            refine Kd.R_lit_step k24 _ 24 ?hg (N := 42) ?hd (xs := ([(⟨ae, af, ag, ah, ai, aj⟩ : S24)] : List (S24))) (inner := [.int .i64 ae, .int .i64 af, .int .i64 ag, .int .i64 ah, .int .i64 ai, .int .i64 aj]) (ok := fun _ => True) (okp := fun _ => True) ?hr ?hp (fun _ hk => hk) trivial (Below.refl _ _) (Nat.le_refl _) (by simp) ?_; (case hd => rfl); (case hg => rfl); (case hr => first | (go_simp; done) | (go_simp; rfl)); (case hp => exact (Reps.c6 (show Kd.M k24 _ _ _ (⟨ae, af, ag, ah, ai, aj⟩ : S24) [.int .i64 ae, .int .i64 af, .int .i64 ag, .int .i64 ah, .int .i64 ai, .int .i64 aj] from (k24_mkM _ _ _ (⟨ae, af, ag, ah, ai, aj⟩ : S24) )) (Reps.none _ _)))
            intro aK cV aM hb hg_ hnew_
            clear hg_ hnew_
            (first | rw [← bz.out] at aM | (simp only [Int.reduceToNat] at aM; rw [← bz.out] at aM))
            have al := q28 (Kd.R_elder' (by (with_reducible repeat (first | apply eY | apply eZ | apply e0)); exact ad.out) (Kd.R_base aM) hb)
            have am := q28 (Kd.R_elder' (by (with_reducible repeat (first | apply eY | apply eZ | apply e0)); exact aH.out) (Kd.R_base aM) hb)
            have an := q28 (Kd.R_lower (Kd.R_newB (Kd.R_new' (Kd.R_new' (Kd.R_newM (M := fun k_ => (ak k_ ∨ w.heap.size ≤ k_)) aM (by first | exact HK.out.1 | exact (show Kept w _ (fun k_ => ak k_) from by repeat (first | (with_reducible first | exact HK.out | apply Kept.alloc | apply Kept.drewN | apply Kept.drew | refine Kept.setCell ?_ (.inr ar.out) _) | exact HK.out)).1) (fun k_ h_ => .inr h_)) (Kd.R_lt (by (with_reducible repeat (first | apply eY | apply eZ | apply e0)); exact ad.out))) (Kd.R_lt (by (with_reducible repeat (first | apply eY | apply eZ | apply e0)); exact aH.out))) (g := ac) (o := .cells #[.int .i64 ae, .int .i64 af, .int .i64 ag, .int .i64 ah, .int .i64 ai, .int .i64 aj] 24 (0, 0)) (by (with_reducible repeat (first | refine eT ?_ _ | refine eV ?_ | refine eU ?_ _)); exact aa.out)) (eR (by repeat (first | (with_reducible first | exact HB.out | apply eN | apply eO | apply eP | refine eX ?_ au.out) | exact HB.out))))
            have ao := q28 (eS (g := ac) (o := .cells #[.int .i64 ae, .int .i64 af, .int .i64 ag, .int .i64 ah, .int .i64 ai, .int .i64 aj] 24 (0, 0)) (by (with_reducible repeat (first | refine eT ?_ _ | refine eV ?_ | refine eU ?_ _)); exact aa.out) hb)
            have ap := q28 (Kd.C_below (by repeat (first | (with_reducible exact ay.out) | (with_reducible refine e1 ?_ _) | (with_reducible refine e2 ?_ _) | (with_reducible refine e3 ?_) | exact ay.out)) hb)
            have aq := q28 (Kept.below (S := (fun k_ => ak k_)) (by repeat (first | (with_reducible first | exact HK.out | apply Kept.alloc | apply Kept.drewN | apply Kept.drew | refine Kept.setCell ?_ (.inr ar.out) _) | exact HK.out)) hb)
            have aw := q28 (eQ (by repeat (first | (with_reducible first | exact HB.out | apply eN | apply eO | apply eP | refine eX ?_ au.out) | exact HB.out)) hb)
            clear ad
            clear aH
            clear aa
            clear ay
            clear HK
            clear HB
            have ad := al
            have aH := am
            have aA := an
            have aa := ao
            have ay := ap
            have HK := aq
            have HB := aw
            clear al am an ao ap aq aw
            clear hb aM
            refine hK.out _ _ ⟨(eW aa.out 0).trans rfl, (eW aa.out 1).trans rfl, (eW aa.out 2).trans rfl, (eW aa.out 3).trans rfl, (eW aa.out 4).trans rfl, (eW aa.out 5).trans rfl⟩ (fun hHeld => ?_)
            clear hK K
            refine norm_ (a' := ?_) ?_ ?_
            rotate_left
            ·show Act.put _ (some 42) _ = _
             simp only [Act.put, e4, e5, e6, i64_w, i32_w]
             rfl
            refine one_ (i := 4) (N := some 40) #[true, true, true, true, true, true, true, false, false] rfl rfl (one_of HT_.out (by kernel_rfl)) (by decide) (fun K hK => ?_)
            refine Kd.R_append_rows_step k24 (w0 := w0) w0.heap.size (by rfl) (.tmp 36) (.tmp 39) 33 24 (.agg #[(.int .i64 0), (.int .i64 0), (.int .i64 0), (.int .i64 0), (.int .i64 0), (.int .i64 0)]) 48 rfl Try.underlying33 info24 rfl (by decide) (by omega) bp y287 y290 _ _ _ (fun k_ => (ak k_ ∨ w.heap.size ≤ k_) ∧ some k_ ≠ (.slice aD l0.length aE : Value).ownBlock ∧ some k_ ≠ (aK : Value).ownBlock ∧ k_ ≠ ac) (fun _ => False) rfl rfl ?aO ?aR (fun _ _ h => h) (fun _ h => h.elim) ?aF ?aB ?aS ?aL ?_
            (case aR => repeat (first | exact (by repeat (first | (with_reducible exact ay.out) | (with_reducible refine e1 ?_ _) | (with_reducible refine e2 ?_ _) | (with_reducible refine e3 ?_) | exact ay.out)) | (with_reducible refine e1 ?_ _) | (with_reducible refine e2 ?_ _) | (with_reducible refine e3 ?_)))
            (case aB => exact (by repeat (first | (with_reducible first | exact HB.out | apply eN | apply eO | apply eP | refine eX ?_ au.out) | exact HB.out)))
            (case aF => exact (fun k_ hk => ⟨(.inr (Nat.le_trans (by first | exact HK.out.1 | exact (show Kept w _ (fun k_ => ak k_) from by repeat (first | (with_reducible first | exact HK.out | apply Kept.alloc | apply Kept.drewN | apply Kept.drew | refine Kept.setCell ?_ (.inr ar.out) _) | exact HK.out)).1) hk)), Kd.fresh' (Kd.R_lt (by (with_reducible repeat (first | apply eY | apply eZ | apply e0)); exact ad.out)) k_ hk, Kd.fresh' (Kd.R_lt (by (with_reducible repeat (first | apply eY | apply eZ | apply e0)); exact aA.out)) k_ hk, Kd.freshB (g := ac) (o := .cells #[.int .i64 ae, .int .i64 af, .int .i64 ag, .int .i64 ah, .int .i64 ai, .int .i64 aj] 24 (0, 0)) (by (with_reducible repeat (first | refine eT ?_ _ | refine eV ?_ | refine eU ?_ _)); exact aa.out) k_ hk⟩))
            (case aO => exact (by (with_reducible repeat (first | apply eY | apply eZ | apply e0)); exact Kd.R_mono aH.out (fun _ hk => ⟨hk.1.1.1.1, ⟨hk.1.1.2, ⟨hk.2, hk.1.2⟩⟩⟩)))
            (case aS => exact (eR (by repeat (first | (with_reducible first | exact HB.out | apply eN | apply eO | apply eP | refine eX ?_ au.out) | exact HB.out))))
            (case aL => have := cO.out; omega)
            intro a8 cW ho hb hg hat
            rw [← cP.out] at ho
            have al := q28 (Kd.R_after (ok := (fun k_ => (ak k_ ∨ w.heap.size ≤ k_) ∧ some k_ ≠ (aK : Value).ownBlock ∧ k_ ≠ ac)) (by (with_reducible repeat (first | apply eY | apply eZ | apply e0)); exact Kd.R_mono ad.out (fun _ hk => ⟨⟨hk.1.1.1, ⟨hk.2, hk.1.1.2⟩⟩, hk.1.2⟩)) hg hat)
            have am := q28 (blk_grown (g := ac) (o := .cells #[.int .i64 ae, .int .i64 af, .int .i64 ag, .int .i64 ah, .int .i64 ai, .int .i64 aj] 24 (0, 0)) (by (with_reducible repeat (first | refine eT ?_ _ | refine eV ?_ | refine eU ?_ _)); exact aa.out) hg (Kd.R_away aH.out (fun _ hk => hk.1.2)))
            have an := q28 (Kd.R_after (ok := (fun k_ => (ak k_ ∨ w.heap.size ≤ k_) ∧ some k_ ≠ (.slice aD l0.length aE : Value).ownBlock ∧ k_ ≠ ac)) (by (with_reducible repeat (first | apply eY | apply eZ | apply e0)); exact Kd.R_mono aA.out (fun _ hk => ⟨⟨hk.1.1.1.1, ⟨hk.1.1.2, hk.2⟩⟩, hk.1.2⟩)) hg hat)
            have ao := q28 (hb)
            have ap := q28 (Kept.of_grown (S := (fun k_ => ak k_)) hg (by repeat (first | (with_reducible first | exact HK.out | apply Kept.alloc | apply Kept.drewN | apply Kept.drew | refine Kept.setCell ?_ (.inr ar.out) _) | exact HK.out)) (fun k_ e_ => (aH.out.1 k_ e_).1.1.1.1))
            have aq := q28 ((show Kd.C k24 cW aD y290.length y290 from by rw [ca.out]; exact Kd.C_take (m := (ab : Int).toNat) ((Kd.R_reads' (Kd.R_after (ok := (fun k_ => (ak k_ ∨ w.heap.size ≤ k_) ∧ some k_ ≠ (aK : Value).ownBlock ∧ k_ ≠ ac)) (by (with_reducible repeat (first | apply eY | apply eZ | apply e0)); exact Kd.R_mono ad.out (fun _ hk => ⟨⟨hk.1.1.1, ⟨hk.2, hk.1.1.2⟩⟩, hk.1.2⟩)) hg hat)).2.2) cU.out))
            have aw := q28 (ho)
            clear ad
            clear aa
            clear aA
            clear HB
            clear HK
            clear ay
            clear aH
            have ad := al
            have aa := am
            have aA := an
            have HB := ao
            have HK := ap
            have ay := aq
            have aP := aw
            clear al am an ao ap aq aw
            clear ho hb hg hat
            refine hK.out _ _ ⟨(eW aa.out 0).trans rfl, (eW aa.out 1).trans rfl, (eW aa.out 2).trans rfl, (eW aa.out 3).trans rfl, (eW aa.out 4).trans rfl, (eW aa.out 5).trans rfl⟩ (fun hHeld => ?_)
            clear hK K
            refine norm_ (a' := ?_) ?_ ?_
            rotate_left
            ·show Act.put _ (some 40) _ = _
             simp only [Act.put, e4, e5, e6, i64_w, i32_w]
             rfl
            exact norm_ (by simp only [putAll, Act.put, e4, e5, e6]) (hCont (bp, a8, aK) _ ⟨hHeld, (by (with_reducible repeat (first | apply eY | apply eZ | apply e0)); exact Kd.R_mono aP.out (fun _ hk => ⟨hk.1, ⟨hk.2.2.1, ⟨hk.2.1, hk.2.2.2⟩⟩⟩)), (by (with_reducible repeat (first | apply eY | apply eZ | apply e0)); exact Kd.R_mono aA.out (fun _ hk => ⟨hk.1.1, ⟨hk.2, ⟨hk.1.2.1, hk.1.2.2⟩⟩⟩)), (by (with_reducible repeat (first | apply eY | apply eZ | apply e0)); exact Kd.R_mono ad.out (fun _ hk => ⟨hk.1.1, ⟨hk.2, ⟨hk.1.2.1, hk.1.2.2⟩⟩⟩)), (by (with_reducible repeat (first | refine eT ?_ _ | refine eV ?_ | refine eU ?_ _)); exact aa.out), (by repeat (first | (with_reducible first | exact HK.out | apply Kept.alloc | apply Kept.drewN | apply Kept.drew | refine Kept.setCell ?_ (.inr ar.out) _) | exact HK.out)), (by repeat (first | (with_reducible first | exact HB.out | apply eN | apply eO | apply eP | refine eX ?_ au.out) | exact HB.out))⟩)
          ·skip
           refine Kd.R_lit_step k24 _ 24 ?hg (N := 42) ?hd (xs := ([(⟨ae, af, ag, ah, ai, aj⟩ : S24)] : List (S24))) (inner := [.int .i64 ae, .int .i64 af, .int .i64 ag, .int .i64 ah, .int .i64 ai, .int .i64 aj]) (ok := fun _ => True) (okp := fun _ => True) ?hr ?hp (fun _ hk => hk) trivial (Below.refl _ _) (Nat.le_refl _) (by simp) ?_; (case hd => rfl); (case hg => rfl); (case hr => first | (go_simp; done) | (go_simp; rfl)); (case hp => exact (Reps.c6 (show Kd.M k24 _ _ _ (⟨ae, af, ag, ah, ai, aj⟩ : S24) [.int .i64 ae, .int .i64 af, .int .i64 ag, .int .i64 ah, .int .i64 ai, .int .i64 aj] from (k24_mkM _ _ _ (⟨ae, af, ag, ah, ai, aj⟩ : S24) )) (Reps.none _ _)))
           intro aK dW aT hb hg_ hnew_
           clear hg_ hnew_
           (first | rw [← bz.out] at aT | (simp only [Int.reduceToNat] at aT; rw [← bz.out] at aT))
           have al := q28 (Kd.R_elder' (by (with_reducible repeat (first | apply eY | apply eZ | apply e0)); exact ad.out) (Kd.R_base aT) hb)
           have am := q28 (Kd.R_lower (Kd.R_newB (Kd.R_new' (Kd.R_newM (M := fun k_ => (ak k_ ∨ w.heap.size ≤ k_)) aT (by first | exact HK.out.1 | exact (show Kept w _ (fun k_ => ak k_) from by repeat (first | (with_reducible first | exact HK.out | apply Kept.alloc | apply Kept.drewN | apply Kept.drew | refine Kept.setCell ?_ (.inr ar.out) _) | exact HK.out)).1) (fun k_ h_ => .inr h_)) (Kd.R_lt (by (with_reducible repeat (first | apply eY | apply eZ | apply e0)); exact ad.out))) (g := ac) (o := .cells #[.int .i64 ae, .int .i64 af, .int .i64 ag, .int .i64 ah, .int .i64 ai, .int .i64 aj] 24 (0, 0)) (by (with_reducible repeat (first | refine eT ?_ _ | refine eV ?_ | refine eU ?_ _)); exact aa.out)) (eR (by repeat (first | (with_reducible first | exact HB.out | apply eN | apply eO | apply eP | refine eX ?_ au.out) | exact HB.out))))
           have an := q28 (eS (g := ac) (o := .cells #[.int .i64 ae, .int .i64 af, .int .i64 ag, .int .i64 ah, .int .i64 ai, .int .i64 aj] 24 (0, 0)) (by (with_reducible repeat (first | refine eT ?_ _ | refine eV ?_ | refine eU ?_ _)); exact aa.out) hb)
           have ao := q28 (Kd.C_below (by repeat (first | (with_reducible exact ay.out) | (with_reducible refine e1 ?_ _) | (with_reducible refine e2 ?_ _) | (with_reducible refine e3 ?_) | exact ay.out)) hb)
           have ap := q28 (Kept.below (S := (fun k_ => ak k_)) (by repeat (first | (with_reducible first | exact HK.out | apply Kept.alloc | apply Kept.drewN | apply Kept.drew | refine Kept.setCell ?_ (.inr ar.out) _) | exact HK.out)) hb)
           have aq := q28 (eQ (by repeat (first | (with_reducible first | exact HB.out | apply eN | apply eO | apply eP | refine eX ?_ au.out) | exact HB.out)) hb)
           clear ad
           clear aa
           clear ay
           clear HK
           clear HB
           have ad := al
           have aA := am
           have aa := an
           have ay := ao
           have HK := ap
           have HB := aq
           clear al am an ao ap aq
           clear hb aT
           refine hK.out _ _ ⟨(eW aa.out 0).trans rfl, (eW aa.out 1).trans rfl, (eW aa.out 2).trans rfl, (eW aa.out 3).trans rfl, (eW aa.out 4).trans rfl, (eW aa.out 5).trans rfl⟩ (fun hHeld => ?_)
           clear hK K
           refine norm_ (a' := ?_) ?_ ?_
           rotate_left
           ·show Act.put _ (some 42) _ = _
            simp only [Act.put, e4, e5, e6, i64_w, i32_w]
            rfl
           refine one_ (i := 0) (N := some 36) #[true, true, true, true, false, true, true, false, false] rfl rfl (one_of HT_.out (by kernel_rfl)) (by decide) (fun K hK => ?_)
           refine Kd.R_lit_step k24 _ 24 ?hg (N := 36) ?hd (xs := ([] : List (S24))) (inner := []) (ok := fun _ => True) (okp := fun _ => True) ?hr ?hp (fun _ hk => hk) trivial (Below.refl _ _) (Nat.le_refl _) (by simp) ?_; (case hd => rfl); (case hg => rfl); (case hr => first | (go_simp; done) | (go_simp; rfl)); (case hp => exact (Reps.none _ _))
           intro bp cV aM hb hg_ hnew_
           clear hg_ hnew_
           (first | rw [← ct.out] at aM | (simp only [Int.reduceToNat] at aM; rw [← ct.out] at aM))
           have al := q28 (Kd.R_elder' (by (with_reducible repeat (first | apply eY | apply eZ | apply e0)); exact ad.out) (Kd.R_base aM) hb)
           have am := q28 (Kd.R_elder' (by (with_reducible repeat (first | apply eY | apply eZ | apply e0)); exact aA.out) (Kd.R_base aM) hb)
           have an := q28 (Kd.R_lower (Kd.R_newB (Kd.R_new' (Kd.R_new' (Kd.R_newM (M := fun k_ => (ak k_ ∨ w.heap.size ≤ k_)) aM (by first | exact HK.out.1 | exact (show Kept w _ (fun k_ => ak k_) from by repeat (first | (with_reducible first | exact HK.out | apply Kept.alloc | apply Kept.drewN | apply Kept.drew | refine Kept.setCell ?_ (.inr ar.out) _) | exact HK.out)).1) (fun k_ h_ => .inr h_)) (Kd.R_lt (by (with_reducible repeat (first | apply eY | apply eZ | apply e0)); exact ad.out))) (Kd.R_lt (by (with_reducible repeat (first | apply eY | apply eZ | apply e0)); exact aA.out))) (g := ac) (o := .cells #[.int .i64 ae, .int .i64 af, .int .i64 ag, .int .i64 ah, .int .i64 ai, .int .i64 aj] 24 (0, 0)) (by (with_reducible repeat (first | refine eT ?_ _ | refine eV ?_ | refine eU ?_ _)); exact aa.out)) (eR (by repeat (first | (with_reducible first | exact HB.out | apply eN | apply eO | apply eP | refine eX ?_ au.out) | exact HB.out))))
           have ao := q28 (eS (g := ac) (o := .cells #[.int .i64 ae, .int .i64 af, .int .i64 ag, .int .i64 ah, .int .i64 ai, .int .i64 aj] 24 (0, 0)) (by (with_reducible repeat (first | refine eT ?_ _ | refine eV ?_ | refine eU ?_ _)); exact aa.out) hb)
           have ap := q28 (Kd.C_below (by repeat (first | (with_reducible exact ay.out) | (with_reducible refine e1 ?_ _) | (with_reducible refine e2 ?_ _) | (with_reducible refine e3 ?_) | exact ay.out)) hb)
           have aq := q28 (Kept.below (S := (fun k_ => ak k_)) (by repeat (first | (with_reducible first | exact HK.out | apply Kept.alloc | apply Kept.drewN | apply Kept.drew | refine Kept.setCell ?_ (.inr ar.out) _) | exact HK.out)) hb)
           have aw := q28 (eQ (by repeat (first | (with_reducible first | exact HB.out | apply eN | apply eO | apply eP | refine eX ?_ au.out) | exact HB.out)) hb)
           clear ad
           clear aA
           clear aa
           clear ay
           clear HK
           clear HB
           have ad := al
           have aA := am
           have aH := an
           have aa := ao
           have ay := ap
           have HK := aq
           have HB := aw
           clear al am an ao ap aq aw
           clear hb aM
           refine hK.out _ _ ⟨(eW aa.out 0).trans rfl, (eW aa.out 1).trans rfl, (eW aa.out 2).trans rfl, (eW aa.out 3).trans rfl, (eW aa.out 4).trans rfl, (eW aa.out 5).trans rfl⟩ (fun hHeld => ?_)
           clear hK K
           refine norm_ (a' := ?_) ?_ ?_
           rotate_left
           ·show Act.put _ (some 36) _ = _
            simp only [Act.put, e4, e5, e6, i64_w, i32_w]
            rfl
           refine one_ (i := 4) (N := some 40) #[true, true, true, true, true, true, true, false, false] rfl rfl (one_of HT_.out (by kernel_rfl)) (by decide) (fun K hK => ?_)
           refine Kd.R_append_rows_step k24 (w0 := w0) w0.heap.size (by rfl) (.tmp 36) (.tmp 39) 33 24 (.agg #[(.int .i64 0), (.int .i64 0), (.int .i64 0), (.int .i64 0), (.int .i64 0), (.int .i64 0)]) 48 rfl Try.underlying33 info24 rfl (by decide) (by omega) bp y287 y290 _ _ _ (fun k_ => (ak k_ ∨ w.heap.size ≤ k_) ∧ some k_ ≠ (.slice aD l0.length aE : Value).ownBlock ∧ some k_ ≠ (aK : Value).ownBlock ∧ k_ ≠ ac) (fun _ => False) rfl rfl ?aO ?aR (fun _ _ h => h) (fun _ h => h.elim) ?aF ?aB ?aS ?aL ?_
           (case aR => repeat (first | exact (by repeat (first | (with_reducible exact ay.out) | (with_reducible refine e1 ?_ _) | (with_reducible refine e2 ?_ _) | (with_reducible refine e3 ?_) | exact ay.out)) | (with_reducible refine e1 ?_ _) | (with_reducible refine e2 ?_ _) | (with_reducible refine e3 ?_)))
           (case aB => exact (by repeat (first | (with_reducible first | exact HB.out | apply eN | apply eO | apply eP | refine eX ?_ au.out) | exact HB.out)))
           (case aF => exact (fun k_ hk => ⟨(.inr (Nat.le_trans (by first | exact HK.out.1 | exact (show Kept w _ (fun k_ => ak k_) from by repeat (first | (with_reducible first | exact HK.out | apply Kept.alloc | apply Kept.drewN | apply Kept.drew | refine Kept.setCell ?_ (.inr ar.out) _) | exact HK.out)).1) hk)), Kd.fresh' (Kd.R_lt (by (with_reducible repeat (first | apply eY | apply eZ | apply e0)); exact ad.out)) k_ hk, Kd.fresh' (Kd.R_lt (by (with_reducible repeat (first | apply eY | apply eZ | apply e0)); exact aA.out)) k_ hk, Kd.freshB (g := ac) (o := .cells #[.int .i64 ae, .int .i64 af, .int .i64 ag, .int .i64 ah, .int .i64 ai, .int .i64 aj] 24 (0, 0)) (by (with_reducible repeat (first | refine eT ?_ _ | refine eV ?_ | refine eU ?_ _)); exact aa.out) k_ hk⟩))
           (case aO => exact (by (with_reducible repeat (first | apply eY | apply eZ | apply e0)); exact Kd.R_mono aH.out (fun _ hk => ⟨hk.1.1.1.1, ⟨hk.1.1.2, ⟨hk.1.2, hk.2⟩⟩⟩)))
           (case aS => exact (eR (by repeat (first | (with_reducible first | exact HB.out | apply eN | apply eO | apply eP | refine eX ?_ au.out) | exact HB.out))))
           (case aL => have := cO.out; omega)
           intro a8 cW ho hb hg hat
           rw [← cP.out] at ho
           have al := q28 (Kd.R_after (ok := (fun k_ => (ak k_ ∨ w.heap.size ≤ k_) ∧ some k_ ≠ (aK : Value).ownBlock ∧ k_ ≠ ac)) (by (with_reducible repeat (first | apply eY | apply eZ | apply e0)); exact Kd.R_mono ad.out (fun _ hk => ⟨⟨hk.1.1.1, ⟨hk.1.2, hk.1.1.2⟩⟩, hk.2⟩)) hg hat)
           have am := q28 (blk_grown (g := ac) (o := .cells #[.int .i64 ae, .int .i64 af, .int .i64 ag, .int .i64 ah, .int .i64 ai, .int .i64 aj] 24 (0, 0)) (by (with_reducible repeat (first | refine eT ?_ _ | refine eV ?_ | refine eU ?_ _)); exact aa.out) hg (Kd.R_away aH.out (fun _ hk => hk.2)))
           have an := q28 (Kd.R_after (ok := (fun k_ => (ak k_ ∨ w.heap.size ≤ k_) ∧ some k_ ≠ (.slice aD l0.length aE : Value).ownBlock ∧ k_ ≠ ac)) (by (with_reducible repeat (first | apply eY | apply eZ | apply e0)); exact Kd.R_mono aA.out (fun _ hk => ⟨⟨hk.1.1.1.1, ⟨hk.1.1.2, hk.1.2⟩⟩, hk.2⟩)) hg hat)
           have ao := q28 (hb)
           have ap := q28 (Kept.of_grown (S := (fun k_ => ak k_)) hg (by repeat (first | (with_reducible first | exact HK.out | apply Kept.alloc | apply Kept.drewN | apply Kept.drew | refine Kept.setCell ?_ (.inr ar.out) _) | exact HK.out)) (fun k_ e_ => (aH.out.1 k_ e_).1.1.1.1))
           have aq := q28 ((show Kd.C k24 cW aD y290.length y290 from by rw [ca.out]; exact Kd.C_take (m := (ab : Int).toNat) ((Kd.R_reads' (Kd.R_after (ok := (fun k_ => (ak k_ ∨ w.heap.size ≤ k_) ∧ some k_ ≠ (aK : Value).ownBlock ∧ k_ ≠ ac)) (by (with_reducible repeat (first | apply eY | apply eZ | apply e0)); exact Kd.R_mono ad.out (fun _ hk => ⟨⟨hk.1.1.1, ⟨hk.1.2, hk.1.1.2⟩⟩, hk.2⟩)) hg hat)).2.2) cU.out))
           have aw := q28 (ho)
           clear ad
           clear aa
           clear aA
           clear HB
           clear HK
           clear ay
           clear aH
           have ad := al
           have aa := am
           have aA := an
           have HB := ao
           have HK := ap
           have ay := aq
           have aP := aw
           clear al am an ao ap aq aw
           clear ho hb hg hat
           refine hK.out _ _ ⟨(eW aa.out 0).trans rfl, (eW aa.out 1).trans rfl, (eW aa.out 2).trans rfl, (eW aa.out 3).trans rfl, (eW aa.out 4).trans rfl, (eW aa.out 5).trans rfl⟩ (fun hHeld => ?_)
           clear hK K
           refine norm_ (a' := ?_) ?_ ?_
           rotate_left
           ·show Act.put _ (some 40) _ = _
            simp only [Act.put, e4, e5, e6, i64_w, i32_w]
            rfl
           exact norm_ (by simp only [putAll, Act.put, e4, e5, e6]) (hCont (bp, a8, aK) _ ⟨hHeld, (by (with_reducible repeat (first | apply eY | apply eZ | apply e0)); exact Kd.R_mono aP.out (fun _ hk => ⟨hk.1, ⟨hk.2.2.1, ⟨hk.2.1, hk.2.2.2⟩⟩⟩)), (by (with_reducible repeat (first | apply eY | apply eZ | apply e0)); exact Kd.R_mono aA.out (fun _ hk => ⟨hk.1.1, ⟨hk.2, ⟨hk.1.2.1, hk.1.2.2⟩⟩⟩)), (by (with_reducible repeat (first | apply eY | apply eZ | apply e0)); exact Kd.R_mono ad.out (fun _ hk => ⟨hk.1.1, ⟨hk.2, ⟨hk.1.2.1, hk.1.2.2⟩⟩⟩)), (by (with_reducible repeat (first | refine eT ?_ _ | refine eV ?_ | refine eU ?_ _)); exact aa.out), (by repeat (first | (with_reducible first | exact HK.out | apply Kept.alloc | apply Kept.drewN | apply Kept.drew | refine Kept.setCell ?_ (.inr ar.out) _) | exact HK.out)), (by repeat (first | (with_reducible first | exact HB.out | apply eN | apply eO | apply eP | refine eX ?_ au.out) | exact HB.out))⟩)
         rintro ⟨bp, a8, aK⟩ w59 ⟨hS_, bZ, b0, b1, b2, b3, b4⟩
         have al : Aside0 (Kd.R k24 24 w59 w0.heap.size (fun k_ => (ak k_ ∨ w.heap.size ≤ k_) ∧ some k_ ≠ (aK : Value).ownBlock ∧ some k_ ≠ (.slice aD l0.length aE : Value).ownBlock ∧ k_ ≠ ac) a8 y294) := ⟨bZ⟩
         have am : Aside0 (Kd.R k24 24 w59 w0.heap.size (fun k_ => (ak k_ ∨ w.heap.size ≤ k_) ∧ some k_ ≠ (a8 : Value).ownBlock ∧ some k_ ≠ (.slice aD l0.length aE : Value).ownBlock ∧ k_ ≠ ac) aK y297) := ⟨b0⟩
         have an : Aside0 (Kd.R k24 24 w59 w0.heap.size (fun k_ => (ak k_ ∨ w.heap.size ≤ k_) ∧ some k_ ≠ (a8 : Value).ownBlock ∧ some k_ ≠ (aK : Value).ownBlock ∧ k_ ≠ ac) (.slice aD l0.length aE) l0) := ⟨b1⟩
         have ao : Aside0 (w59.heap[ac]? = some (.cells #[.int .i64 ae, .int .i64 af, .int .i64 ag, .int .i64 ah, .int .i64 ai, .int .i64 aj] 24 (0, 0))) := ⟨b2⟩
         have ap : Aside0 (Kept w w59 (fun k_ => ak k_)) := ⟨b3⟩
         have aq : Aside0 (Below w0.heap.size w0 w59) := ⟨b4⟩
         clear ad
         clear aa
         clear HK
         clear HB
         clear bZ b0 b1 b2 b3 b4
         have aP := al
         have aA := am
         have ad := an
         have aa := ao
         have HK := ap
         have HB := aq
         clear al am an ao ap aq
         have hHeld : w59.cell? ⟨ac, 0, none⟩ = some (.int .i64 ae) ∧ w59.cell? ⟨ac, 1, none⟩ = some (.int .i64 af) ∧ w59.cell? ⟨ac, 2, none⟩ = some (.int .i64 ag) ∧ w59.cell? ⟨ac, 3, none⟩ = some (.int .i64 ah) ∧ w59.cell? ⟨ac, 4, none⟩ = some (.int .i64 ai) ∧ w59.cell? ⟨ac, 5, none⟩ = some (.int .i64 aj) := hS_
         obtain ⟨bA, bB, dn⟩ := Kd.R_slice aA.out
         (first | subst dn | (injection dn with f1_ aV f3_; have aW := f1_.symm; have aX := f3_.symm; clear f1_ aV f3_; subst aW; subst aX))
         refine norm_ (a' := ?_) ?_ ?_
         rotate_left
         ·simp only [putAll, Act.put, e4, e5, e6]
          rfl
         refine one_ (i := 7) (N := some 43) #[true, true, true, true, true, true, true, true, false] rfl rfl (one_of HT_.out (by kernel_rfl)) (by decide) (fun K hK => ?_)
         refine Kd.R_append_rows_step k24 (w0 := w0) w0.heap.size (by rfl) (.tmp 40) (.tmp 42) 33 24 (.agg #[(.int .i64 0), (.int .i64 0), (.int .i64 0), (.int .i64 0), (.int .i64 0), (.int .i64 0)]) 48 rfl Try.underlying33 info24 rfl (by decide) (by omega) a8 y294 y297 _ _ _ (fun k_ => (ak k_ ∨ w.heap.size ≤ k_) ∧ some k_ ≠ (.slice aD l0.length aE : Value).ownBlock ∧ some k_ ≠ (.slice bA y297.length bB : Value).ownBlock ∧ k_ ≠ ac) (fun _ => False) rfl rfl ?aO ?aR (fun _ _ h => h) (fun _ h => h.elim) ?aF ?aB ?aS ?aL ?_
         (case aR => repeat (first | exact (Kd.R_reads' aA.out).2.2 | (with_reducible refine e1 ?_ _) | (with_reducible refine e2 ?_ _) | (with_reducible refine e3 ?_)))
         (case aB => exact (by repeat (first | (with_reducible first | exact HB.out | apply eN | apply eO | apply eP | refine eX ?_ au.out) | exact HB.out)))
         (case aF => exact (fun k_ hk => ⟨(.inr (Nat.le_trans (by first | exact HK.out.1 | exact (show Kept w _ (fun k_ => ak k_) from by repeat (first | (with_reducible first | exact HK.out | apply Kept.alloc | apply Kept.drewN | apply Kept.drew | refine Kept.setCell ?_ (.inr ar.out) _) | exact HK.out)).1) hk)), Kd.fresh' (Kd.R_lt (by (with_reducible repeat (first | apply eY | apply eZ | apply e0)); exact ad.out)) k_ hk, Kd.fresh' (Kd.R_lt (by (with_reducible repeat (first | apply eY | apply eZ | apply e0)); exact aA.out)) k_ hk, Kd.freshB (g := ac) (o := .cells #[.int .i64 ae, .int .i64 af, .int .i64 ag, .int .i64 ah, .int .i64 ai, .int .i64 aj] 24 (0, 0)) (by (with_reducible repeat (first | refine eT ?_ _ | refine eV ?_ | refine eU ?_ _)); exact aa.out) k_ hk⟩))
         (case aO => exact (by (with_reducible repeat (first | apply eY | apply eZ | apply e0)); exact Kd.R_mono aP.out (fun _ hk => ⟨hk.1, ⟨hk.2.2.1, ⟨hk.2.1, hk.2.2.2⟩⟩⟩)))
         (case aS => exact (eR (by repeat (first | (with_reducible first | exact HB.out | apply eN | apply eO | apply eP | refine eX ?_ au.out) | exact HB.out))))
         (case aL => have := dP.out; omega)
         intro dX eI ho hb hg hat
         rw [← dQ.out] at ho
         have al := q28 (Kd.R_after (ok := (fun k_ => (ak k_ ∨ w.heap.size ≤ k_) ∧ some k_ ≠ (.slice bA y297.length bB : Value).ownBlock ∧ k_ ≠ ac)) (by (with_reducible repeat (first | apply eY | apply eZ | apply e0)); exact Kd.R_mono ad.out (fun _ hk => ⟨⟨hk.1, ⟨hk.2.2.1, hk.2.2.2⟩⟩, hk.2.1⟩)) hg hat)
         have am := q28 (blk_grown (g := ac) (o := .cells #[.int .i64 ae, .int .i64 af, .int .i64 ag, .int .i64 ah, .int .i64 ai, .int .i64 aj] 24 (0, 0)) (by (with_reducible repeat (first | refine eT ?_ _ | refine eV ?_ | refine eU ?_ _)); exact aa.out) hg (Kd.R_away aP.out (fun _ hk => hk.2.2.2)))
         have an := q28 (Kd.R_after (ok := (fun k_ => (ak k_ ∨ w.heap.size ≤ k_) ∧ some k_ ≠ (.slice aD l0.length aE : Value).ownBlock ∧ k_ ≠ ac)) (by (with_reducible repeat (first | apply eY | apply eZ | apply e0)); exact Kd.R_mono aA.out (fun _ hk => ⟨⟨hk.1, ⟨hk.2.2.1, hk.2.2.2⟩⟩, hk.2.1⟩)) hg hat)
         have ao := q28 (hb)
         have ap := q28 (Kept.of_grown (S := (fun k_ => ak k_)) hg (by repeat (first | (with_reducible first | exact HK.out | apply Kept.alloc | apply Kept.drewN | apply Kept.drew | refine Kept.setCell ?_ (.inr ar.out) _) | exact HK.out)) (fun k_ e_ => (aP.out.1 k_ e_).1))
         have aq := q28 (ho)
         clear ad
         clear aa
         clear aA
         clear HB
         clear HK
         clear aP
         have ad := al
         have aa := am
         have aA := an
         have HB := ao
         have HK := ap
         have cx := aq
         clear al am an ao ap aq
         clear ho hb hg hat
         refine hK.out _ _ ⟨(eW aa.out 0).trans rfl, (eW aa.out 1).trans rfl, (eW aa.out 2).trans rfl, (eW aa.out 3).trans rfl, (eW aa.out 4).trans rfl, (eW aa.out 5).trans rfl⟩ (fun hHeld => ?_)
         clear hK K
         refine norm_ (a' := ?_) ?_ ?_
         rotate_left
         ·show Act.put _ (some 43) _ = _
          simp only [Act.put, e4, e5, e6, i64_w, i32_w]
          rfl
         refine pure_ (i := 8) (N := some 6) (v := ?_) (a' := ?_) #[true, true, true, true, true, true, true, true, true] rfl rfl (any_of HT_.out (by kernel_rfl)) (fun _ _ _ h => h) (Or.inl ⟨by rfl, ?_⟩) ?_ ?_
         rotate_left
         ·intro w'
          go_simp
          with_reducible rfl
         rotate_left
         ·simp only [Act.put, e4, e5, e6, i64_w, i32_w]
          rfl
         refine done_ (done_of HT_.out (by kernel_rfl)) ?_
         have cX : (ab : Int) ≤ ((l0.length : Int) : Int) := of_decide_eq_true (by first | (with_reducible assumption) | assumption)
         obtain ⟨eJ, dp, _, dq, _⟩ := info_parts info24
         have hroom62 : l0.length ≤ aE := (Kd.R_reads' ad.out).2.1
         have dr : Kd.C k24 _ aD l0.length l0 := (Kd.R_reads' ad.out).2.2
         have dY : (0 : Int) ≤ (ab : Int) := of_decide_eq_true (by first | (with_reducible assumption) | assumption)
         have dZ := cut_from (P := Try.prog) 33 24 .i64 Try.underlying33 dp 6 dq aD l0.length aE ab dY cX
         have cg := Kd.C_drop (m := (ab : Int).toNat) (c := aE) dr (by omega) hroom62
         obtain ⟨dt, cy⟩ : ∃ A1, A1 = (if aE = (ab : Int).toNat then aD else (aD : Option Addr).map (·.add ((ab : Int).toNat * 6))) := ⟨_, rfl⟩
         obtain ⟨d0, cY⟩ : ∃ c1, c1 = aE - (ab : Int).toNat := ⟨_, rfl⟩
         have cz : y303.length = l0.length - (ab : Int).toNat := (by rw [cQ.out, List.length_drop] <;> omega)
         rw [show (l0).drop (ab : Int).toNat = y303 from cQ.out.symm] at cg
         replace cg : Kd.C k24 _ dt y303.length y303 := (by rw [cy]; exact cg)
         rw [← cz, ← cy, ← cY] at dZ
         have cA := q28 cg
         have eK := q28 (show y303.length ≤ d0 from by rw [cz, cY]; exact Nat.sub_le_sub_right hroom62 _)
         clear cg dr hroom62 dp dq cY
         have eL := q28 cz
         have d1 := q28 cy
         clear cz cy
         have d2 := q28 (show (ab : Int).toNat ≤ l0.length from by omega)
         replace cX := eq_true cX
         try go_wp2_with (first | ((with_reducible refine gate_builtin (b := .append) (xs := #[.tmp 44, .tmp 47]) rfl ?_); at_builtin; refine Kd.R_append_rows k24 (w0 := w0) w0.heap.size rfl (.tmp 44) (.tmp 47) 33 24 (.agg #[(.int .i64 0), (.int .i64 0), (.int .i64 0), (.int .i64 0), (.int .i64 0), (.int .i64 0)]) 48 rfl Try.underlying33 info24 rfl (by decide) (by omega) dX y300 y303 _ _ _ (fun k_ => (ak k_ ∨ w.heap.size ≤ k_) ∧ some k_ ≠ (.slice aD l0.length aE : Value).ownBlock ∧ some k_ ≠ (.slice bA y297.length bB : Value).ownBlock ∧ k_ ≠ ac) (fun _ => False) rfl rfl ?aO ?aR (fun _ _ h => h) (fun _ h => h.elim) ?aF ?aB ?aS ?aL ?_; (case aR => repeat (first | exact (by repeat (first | (with_reducible exact cA.out) | (with_reducible refine e1 ?_ _) | (with_reducible refine e2 ?_ _) | (with_reducible refine e3 ?_) | exact cA.out)) | (with_reducible refine e1 ?_ _) | (with_reducible refine e2 ?_ _) | (with_reducible refine e3 ?_))); (case aB => exact (by repeat (first | (with_reducible first | exact HB.out | apply eN | apply eO | apply eP | refine eX ?_ au.out) | exact HB.out))); (case aF => exact (fun k_ hk => ⟨(.inr (Nat.le_trans (by first | exact HK.out.1 | exact (show Kept w _ (fun k_ => ak k_) from by repeat (first | (with_reducible first | exact HK.out | apply Kept.alloc | apply Kept.drewN | apply Kept.drew | refine Kept.setCell ?_ (.inr ar.out) _) | exact HK.out)).1) hk)), Kd.fresh' (Kd.R_lt (by (with_reducible repeat (first | apply eY | apply eZ | apply e0)); exact ad.out)) k_ hk, Kd.fresh' (Kd.R_lt (by (with_reducible repeat (first | apply eY | apply eZ | apply e0)); exact aA.out)) k_ hk, Kd.freshB (g := ac) (o := .cells #[.int .i64 ae, .int .i64 af, .int .i64 ag, .int .i64 ah, .int .i64 ai, .int .i64 aj] 24 (0, 0)) (by (with_reducible repeat (first | refine eT ?_ _ | refine eV ?_ | refine eU ?_ _)); exact aa.out) k_ hk⟩)); (case aO => exact (by (with_reducible repeat (first | apply eY | apply eZ | apply e0)); exact cx.out)); (case aS => exact (eR (by repeat (first | (with_reducible first | exact HB.out | apply eN | apply eO | apply eP | refine eX ?_ au.out) | exact HB.out)))); (case aL => have := dR.out; omega); intro eM d3 ho hb hg hat; rw [← dT.out] at ho; have al := q28 (Kd.R_after (ok := (fun k_ => (ak k_ ∨ w.heap.size ≤ k_) ∧ some k_ ≠ (.slice bA y297.length bB : Value).ownBlock ∧ k_ ≠ ac)) (by (with_reducible repeat (first | apply eY | apply eZ | apply e0)); exact ad.out) hg hat); have am := q28 (blk_grown (g := ac) (o := .cells #[.int .i64 ae, .int .i64 af, .int .i64 ag, .int .i64 ah, .int .i64 ai, .int .i64 aj] 24 (0, 0)) (by (with_reducible repeat (first | refine eT ?_ _ | refine eV ?_ | refine eU ?_ _)); exact aa.out) hg (Kd.R_away cx.out (fun _ hk => hk.2.2.2))); have an := q28 (Kd.R_after (ok := (fun k_ => (ak k_ ∨ w.heap.size ≤ k_) ∧ some k_ ≠ (.slice aD l0.length aE : Value).ownBlock ∧ k_ ≠ ac)) (by (with_reducible repeat (first | apply eY | apply eZ | apply e0)); exact aA.out) hg hat); have ao := q28 (hb); have ap := q28 (Kept.of_grown (S := (fun k_ => ak k_)) hg (by repeat (first | (with_reducible first | exact HK.out | apply Kept.alloc | apply Kept.drewN | apply Kept.drew | refine Kept.setCell ?_ (.inr ar.out) _) | exact HK.out)) (fun k_ e_ => (cx.out.1 k_ e_).1)); have aq := q28 ((show Kd.C k24 d3 dt y303.length y303 from by rw [cQ.out, d1.out]; exact Kd.C_drop (m := (ab : Int).toNat) (c := aE) ((Kd.R_reads' (Kd.R_after (ok := (fun k_ => (ak k_ ∨ w.heap.size ≤ k_) ∧ some k_ ≠ (.slice bA y297.length bB : Value).ownBlock ∧ k_ ≠ ac)) (by (with_reducible repeat (first | apply eY | apply eZ | apply e0)); exact ad.out) hg hat)).2.2) d2.out ((Kd.R_reads' (Kd.R_after (ok := (fun k_ => (ak k_ ∨ w.heap.size ≤ k_) ∧ some k_ ≠ (.slice bA y297.length bB : Value).ownBlock ∧ k_ ≠ ac)) (by (with_reducible repeat (first | apply eY | apply eZ | apply e0)); exact ad.out) hg hat)).2.1))); have aw := q28 (ho); clear ad; clear aa; clear aA; clear HB; clear HK; clear cA; clear cx; have ad := al; have aa := am; have aA := an; have HB := ao; have HK := ap; have cA := aq; have d4 := aw; clear al am an ao ap aq aw; clear ho hb hg hat))
         go_ret
         exact ⟨_, by first | rfl | (simp [errW_none, errW_some] <;> rfl) | (simp [*, errW_none, errW_some] <;> rfl), by (with_reducible repeat (first | apply eY | apply eZ | apply e0)); exact Kd.R_mono d4.out (fun _ hk => hk.1), by repeat (first | (with_reducible first | exact HB.out | apply eN | apply eO | apply eP | refine eX ?_ au.out) | exact HB.out), by repeat (first | (with_reducible first | exact HK.out | apply Kept.alloc | apply Kept.drewN | apply Kept.drew | refine Kept.setCell ?_ (.inr ar.out) _) | exact HK.out)⟩
        ·rw [if_neg cw] at H
         exact absurd H (by simp)
       ·rw [if_neg cv] at H
        exact absurd H (by simp)
      ·rw [if_neg cu] at H
       exact absurd H (by simp)
     ·rw [if_neg b8] at H
      exact absurd H (by simp)
    ·rw [if_neg b7] at H
     exact absurd H (by simp)
end Go.Proofs.Ytadnjibgdpjnlaa.Rp
