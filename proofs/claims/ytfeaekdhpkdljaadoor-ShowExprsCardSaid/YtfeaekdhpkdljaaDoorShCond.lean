/- show.Cond: a condition as a text. -/
import Derived.Test.YtfeaekdhpkdljaaDoorShExpr
namespace Go.Proofs.YtfeaekdhpkdljaaDoor.Sh
open Go.RowKit Go.Proofs.YtfeaekdhpkdljaaDoorW.PrintWords Go.Proofs.YtfeaekdhpkdljaaDoorW.PrintLast
set_option linter.unusedVariables false
set_option linter.unusedSimpArgs false
noncomputable abbrev exprS (e : S30) : ByteArray := exprF (SizeOf.sizeOf e) e
abbrev okE (e : S30) : Prop := okF (SizeOf.sizeOf e) e
def relB (n : Int) : ByteArray := if n = 1 then (⟨#[60]⟩ : ByteArray) else if n = 2 then (⟨#[60, 61]⟩ : ByteArray) else if n = 3 then (⟨#[61, 61]⟩ : ByteArray) else if n = 4 then (⟨#[33, 61]⟩ : ByteArray) else if n = 5 then (⟨#[62, 61]⟩ : ByteArray) else if n = 6 then (⟨#[62]⟩ : ByteArray) else (⟨#[63]⟩ : ByteArray)
theorem relB_none {n : Int} (h : ¬ (1 ≤ n ∧ n ≤ 6)) : relB n = (⟨#[63]⟩ : ByteArray) := by
  unfold relB
  rw [if_neg (by omega), if_neg (by omega), if_neg (by omega), if_neg (by omega), if_neg (by omega), if_neg (by omega)]
theorem relB_list {n : Int} (h : 1 ≤ n ∧ n ≤ 6) : (!(relB n).toList == [63]) = true := by
  rcases (by omega : n = 1 ∨ n = 2 ∨ n = 3 ∨ n = 4 ∨ n = 5 ∨ n = 6) with h | h | h | h | h | h <;> subst h <;> first | rfl | (simp [relB]; done) | kernel_rfl
theorem relB_size (n : Int) : (relB n).size ≤ 2 := by
  unfold relB
  repeat (split; decide)
  decide
theorem rel_calls (n : Int) {s : ByteArray} (hs : relB n = s) (w : World) : Calls Tryd.prog 30 #[.int .i64 n] w fun e w' => e = .returned (.string s) ∧ Below w.heap.size w w' := by
  subst hs
  refine show_rel.calls n (relB n) w ?_
  simp only [show_rel.f, show_among.f]
  unfold relB
  by_cases h0 : n < 1
  · rw [if_pos h0, if_neg (by omega), if_neg (by omega), if_neg (by omega), if_neg (by omega), if_neg (by omega), if_neg (by omega)]; rfl
  · by_cases h6 : n > 6
    · rw [if_neg h0, if_pos (by simpa using h6), if_neg (by omega), if_neg (by omega), if_neg (by omega), if_neg (by omega), if_neg (by omega), if_neg (by omega)]; rfl
    · have hw : wrap64 (n - 1) = n - 1 := by unfold wrap64; omega
      rw [hw]
      rcases (by omega : n = 1 ∨ n = 2 ∨ n = 3 ∨ n = 4 ∨ n = 5 ∨ n = 6) with h | h | h | h | h | h <;> subst h <;> rfl
theorem sz2 (c d : UInt8) : (⟨#[c, d]⟩ : ByteArray).size = 2 := rfl
noncomputable def condF : Nat → S33 → ByteArray
  | 0, _ => (⟨#[63]⟩ : ByteArray)
  | n + 1, e => if e.f0 = 1 ∧ 2 ≤ e.f2.length ∧ 1 ≤ e.f1 ∧ e.f1 ≤ 6 then (((exprS (rd_T30 e.f2 0) ++ (⟨#[32]⟩ : ByteArray)) ++ relB e.f1) ++ (⟨#[32]⟩ : ByteArray)) ++ exprS (rd_T30 e.f2 1)
    else if e.f0 = 2 ∧ 1 ≤ e.f3.length ∧ (rd_T33 e.f3 0).f0 = 1 then ((⟨#[33, 91]⟩ : ByteArray) ++ condF n (rd_T33 e.f3 0)) ++ (⟨#[93]⟩ : ByteArray)
    else if e.f0 = 2 ∧ 1 ≤ e.f3.length then (⟨#[33]⟩ : ByteArray) ++ condF n (rd_T33 e.f3 0)
    else if e.f0 = 3 ∧ 2 ≤ e.f3.length then ((((((⟨#[91]⟩ : ByteArray) ++ condF n (rd_T33 e.f3 0)) ++ (⟨#[32]⟩ : ByteArray)) ++ (⟨#[38, 38]⟩ : ByteArray)) ++ (⟨#[32]⟩ : ByteArray)) ++ condF n (rd_T33 e.f3 1)) ++ (⟨#[93]⟩ : ByteArray)
    else if e.f0 = 4 ∧ 2 ≤ e.f3.length then ((((((⟨#[91]⟩ : ByteArray) ++ condF n (rd_T33 e.f3 0)) ++ (⟨#[32]⟩ : ByteArray)) ++ (⟨#[124, 124]⟩ : ByteArray)) ++ (⟨#[32]⟩ : ByteArray)) ++ condF n (rd_T33 e.f3 1)) ++ (⟨#[93]⟩ : ByteArray)
    else (⟨#[63]⟩ : ByteArray)
def okC : Nat → S33 → Prop
  | 0, _ => True
  | n + 1, e => (∀ x ∈ e.f2, okE x) ∧ ∀ x ∈ e.f3, okC n x
theorem ckid_size (e : S33) (i : Nat) (h : i < e.f3.length) : SizeOf.sizeOf (rd_T33 e.f3 (i : Int)) < SizeOf.sizeOf e := by
  have hm : rd_T33 e.f3 (i : Int) = e.f3[i] := by simp [rd_T33, h]
  rw [hm]
  have h1 := List.sizeOf_lt_of_mem (List.getElem_mem h)
  obtain ⟨a, b, c, l⟩ := e
  simp only [S33.mk.sizeOf_spec]
  simp only at h1 h ⊢
  omega
theorem ckid_ok {n : Nat} {e : S33} (h : okC (n + 1) e) (i : Nat) (hi : i < e.f3.length) : okC n (rd_T33 e.f3 (i : Int)) := by
  have hm : rd_T33 e.f3 (i : Int) = e.f3[i] := by simp [rd_T33, hi]
  rw [hm]
  exact h.2 _ (List.getElem_mem hi)
theorem lkid_ok {n : Nat} {e : S33} (h : okC (n + 1) e) (i : Nat) (hi : i < e.f2.length) : okE (rd_T30 e.f2 (i : Int)) := by
  have hm : rd_T30 e.f2 (i : Int) = e.f2[i] := by simp [rd_T30, hi]
  rw [hm]
  exact h.1 _ (List.getElem_mem hi)
set_option maxHeartbeats 8000000 in
set_option maxRecDepth 100000 in
theorem cond_rel (n : Nat) (e : S33) (A2 A3 : Option Addr) (c2 c3 : Nat) (w : World) (hC2 : k30.C w A2 e.f2.length e.f2) (hc2 : e.f2.length ≤ c2) (hC3 : k33.C w A3 e.f3.length e.f3) (hc3 : e.f3.length ≤ c3) (ht : Tab w) (ok : okC (n + 1) e) (hk : e.f0 = 1 ∧ 2 ≤ e.f2.length ∧ 1 ≤ e.f1 ∧ e.f1 ≤ 6) (hsz : (condF (n + 1) e).size ≤ 4611686018427387904) :
    Calls Tryd.prog 15 #[.agg #[.int .i64 e.f0, .int .i64 e.f1, .slice A2 e.f2.length c2, .slice A3 e.f3.length c3]] w fun r w' => r = .returned (.string (condF (n + 1) e)) ∧ Below w.heap.size w w' := by
  have hv : condF (n + 1) e = (((exprS (rd_T30 e.f2 0) ++ (⟨#[32]⟩ : ByteArray)) ++ relB e.f1) ++ (⟨#[32]⟩ : ByteArray)) ++ exprS (rd_T30 e.f2 1) := by
    simp only [condF]
    rw [if_pos hk]
  obtain ⟨ad, K0, d0, rfl, p00, p01, p02, p03, p04, hd0, hD0⟩ := at_T30 hC2 0 (by decide) (by omega)
  have hok0 : okE (rd_T30 e.f2 0) := lkid_ok ok 0 (by omega)
  obtain ⟨l0, hq0⟩ : ∃ q, rd_T30 e.f2 0 = q := ⟨_, rfl⟩
  rw [hq0] at p00 p01 p02 p03 p04 hd0 hD0 hok0 hv
  replace p00 : w.cell? ad = some (.int .i64 l0.f0) := p00
  replace p01 : w.cell? ⟨ad.block, ad.off + 1, none⟩ = some (.int .i64 l0.f1) := p01
  replace p02 : w.cell? ⟨ad.block, ad.off + 2, none⟩ = some (.int .i64 l0.f2) := p02
  replace p03 : w.cell? ⟨ad.block, ad.off + 3, none⟩ = some (.string l0.f3) := p03
  replace p04 : w.cell? ⟨ad.block, ad.off + 4, none⟩ = some (.slice K0 l0.f4.length d0) := p04
  obtain ⟨t0, ht0⟩ : ∃ t, exprS l0 = t := ⟨_, rfl⟩
  rw [ht0] at hv
  obtain ⟨ad', K1, d1, ea, p10, p11, p12, p13, p14, hd1, hD1⟩ := at_T30 hC2 1 (by decide) (by omega)
  obtain rfl := Option.some.inj ea
  have hok1 : okE (rd_T30 e.f2 1) := lkid_ok ok 1 (by omega)
  obtain ⟨l1, hq1⟩ : ∃ q, rd_T30 e.f2 1 = q := ⟨_, rfl⟩
  rw [hq1] at p10 p11 p12 p13 p14 hd1 hD1 hok1 hv
  replace p10 : w.cell? ⟨ad.block, ad.off + 5, none⟩ = some (.int .i64 l1.f0) := p10
  replace p11 : w.cell? ⟨ad.block, ad.off + 5 + 1, none⟩ = some (.int .i64 l1.f1) := p11
  replace p12 : w.cell? ⟨ad.block, ad.off + 5 + 2, none⟩ = some (.int .i64 l1.f2) := p12
  replace p13 : w.cell? ⟨ad.block, ad.off + 5 + 3, none⟩ = some (.string l1.f3) := p13
  replace p14 : w.cell? ⟨ad.block, ad.off + 5 + 4, none⟩ = some (.slice K1 l1.f4.length d1) := p14
  obtain ⟨t1, ht1⟩ : ∃ t, exprS l1 = t := ⟨_, rfl⟩
  rw [ht1] at hv
  rw [hv] at hsz ⊢
  have hos := relB_size e.f1
  have hoy := relB_list hk.2.2
  have HO := Aside0.mk (fun (W : World) => rel_calls e.f1 (s := relB e.f1) rfl W)
  obtain ⟨so, hso⟩ : ∃ s, relB e.f1 = s := ⟨_, rfl⟩
  rw [hso] at hos hoy hsz HO ⊢
  simp only [ByteArray.size_append, sz1] at hsz
  have y0 : t0.size ≤ 4611686018427387904 := by omega
  have y1 : t1.size ≤ 4611686018427387904 := by omega
  have hn0 : 0 < e.f2.length := by omega
  have hn1 : (1 : Int) < (e.f2.length : Int) := by omega
  have hn2 : 2 ≤ e.f2.length := hk.2.1
  have HK0 := Aside0.mk (fun (W : World) (hb : Below w.heap.size w W) => expr_calls (SizeOf.sizeOf l0) l0 K0 d0 W (Kd.C_below hD0 hb) hd0 (tab_on ht hb) (Nat.le_refl _) hok0 (by show (exprS l0).size ≤ _; rw [ht0]; exact y0))
  rw [show exprF (SizeOf.sizeOf l0) l0 = t0 from ht0] at HK0
  have HK1 := Aside0.mk (fun (W : World) (hb : Below w.heap.size w W) => expr_calls (SizeOf.sizeOf l1) l1 K1 d1 W (Kd.C_below hD1 hb) hd1 (tab_on ht hb) (Nat.le_refl _) hok1 (by show (exprS l1).size ≤ _; rw [ht1]; exact y1))
  rw [show exprF (SizeOf.sizeOf l1) l1 = t1 from ht1] at HK1
  have kb1 : (e.f0 == 1) = true := beq_iff_eq.mpr hk.1
  have kb2 : (e.f0 == 2) = false := beq_eq_false_iff_ne.mpr (by omega)
  have kb3 : (e.f0 == 3) = false := beq_eq_false_iff_ne.mpr (by omega)
  have kb4 : (e.f0 == 4) = false := beq_eq_false_iff_ne.mpr (by omega)
  clear hC2 hc2 hC3 hc3 hv ok ht hk hd0 hD0 hok0 hq0 ht0 y0 hd1 hD1 hok1 hq1 ht1 y1 hso
  go_enter Tryd.func15, Tryd.ntmps15
  go_upto_region 3 with (first | ((with_reducible refine gate_dst (N := 1) rfl ?_); refine box_event ?hg (N := 1) ?hd (cs := #[.int .i64 e.f0, .int .i64 e.f1, .slice (some ad) e.f2.length c2, .slice A3 e.f3.length c3]) (t := 33) ?hr ?_; (case hd => rfl); (case hg => rfl); (case hr => first | (go_simp; done) | (go_simp; rfl)); intro ge hgg w1 hlit hb; have HG := Aside0.mk hlit; have HB1 := Aside0.mk hb; have hy0 : w1.cell? ⟨ge, 0, none⟩ = some (.int .i64 e.f0) := (blk_cell hlit 0).trans rfl; have hy1 : w1.cell? ⟨ge, 1, none⟩ = some (.int .i64 e.f1) := (blk_cell hlit 1).trans rfl; have hy2 : w1.cell? ⟨ge, 2, none⟩ = some (.slice (some ad) e.f2.length c2) := (blk_cell hlit 2).trans rfl; have hy3 : w1.cell? ⟨ge, 3, none⟩ = some (.slice A3 e.f3.length c3) := (blk_cell hlit 3).trans rfl; clear hlit hb hgg) | (go_at_call 30; (with_reducible refine (HO.out _).mono ?_); rintro e1 w2 ⟨rfl, hb⟩; have HB2 := Aside0.mk (below_then HB1.out HB1.out.size hb); have hx0 := pw_cell_below hb hy0; have hx1 := pw_cell_below hb hy1; have hx2 := pw_cell_below hb hy2; have hx3 := pw_cell_below hb hy3; clear hb))
  have h00 := pw_cell_below HB2.out p00
  have h01 := pw_cell_below HB2.out p01
  have h02 := pw_cell_below HB2.out p02
  have h03 := pw_cell_below HB2.out p03
  have h04 := pw_cell_below HB2.out p04
  have h10 := pw_cell_below HB2.out p10
  have h11 := pw_cell_below HB2.out p11
  have h12 := pw_cell_below HB2.out p12
  have h13 := pw_cell_below HB2.out p13
  have h14 := pw_cell_below HB2.out p14
  refine start_ (n := 18) (S := fun w' => w'.cell? ⟨ge, 1, none⟩ = some (.int .i64 e.f1) ∧ w'.cell? ⟨ge, 2, none⟩ = some (.slice (some ad) e.f2.length c2) ∧ w'.cell? ad = some (.int .i64 l0.f0) ∧ w'.cell? ⟨ad.block, ad.off + 1, none⟩ = some (.int .i64 l0.f1) ∧ w'.cell? ⟨ad.block, ad.off + 2, none⟩ = some (.int .i64 l0.f2) ∧ w'.cell? ⟨ad.block, ad.off + 3, none⟩ = some (.string l0.f3) ∧ w'.cell? ⟨ad.block, ad.off + 4, none⟩ = some (.slice K0 l0.f4.length d0) ∧ w'.cell? ⟨ad.block, ad.off + 5, none⟩ = some (.int .i64 l1.f0) ∧ w'.cell? ⟨ad.block, ad.off + 5 + 1, none⟩ = some (.int .i64 l1.f1) ∧ w'.cell? ⟨ad.block, ad.off + 5 + 2, none⟩ = some (.int .i64 l1.f2) ∧ w'.cell? ⟨ad.block, ad.off + 5 + 3, none⟩ = some (.string l1.f3) ∧ w'.cell? ⟨ad.block, ad.off + 5 + 4, none⟩ = some (.slice K1 l1.f4.length d1) ∧ Aside0 (Below w.heap.size w w')) (ds := []) #[false, false, false, false, false, false, false, false, false, false, false, false, false, false, false, false, false, false] (by kernel_rfl) rfl rfl ⟨hx1, hx2, h00, h01, h02, h03, h04, h10, h11, h12, h13, h14, ⟨below_drew HB2.out⟩⟩ (fun hHeld => ?_)
  refine pure_ (i := 0) (N := some 23) (v := ?_) (a' := ?_) #[true, false, false, false, false, false, false, false, false, false, false, false, false, false, false, false, false, false] rfl rfl (by kernel_rfl) (fun _ _ _ h => h) (Or.inl ⟨by rfl, ?_⟩) ?_ ?_
  rotate_left
  · intro w'
    go_simp
    first | with_reducible rfl | (rw [if_neg (by (try simp only [ByteArray.size_append, sz1, sz2]); omega)]; try with_reducible rfl)
  rotate_left
  · simp only [Act.put, List.setIfInBounds_toArray, List.set_cons_zero, List.set_cons_succ, i64_w, i32_w]
    rfl
  refine pure_ (i := 6) (N := some 29) (v := ?_) (a' := ?_) #[true, false, false, false, false, false, true, false, false, false, false, false, false, false, false, false, false, false] rfl rfl (by kernel_rfl) (fun _ _ _ h => h) (Or.inl ⟨by rfl, ?_⟩) ?_ ?_
  rotate_left
  · intro w'
    go_simp
    first | with_reducible rfl | (rw [if_neg (by (try simp only [ByteArray.size_append, sz1, sz2]); omega)]; try with_reducible rfl)
  rotate_left
  · simp only [Act.put, List.setIfInBounds_toArray, List.set_cons_zero, List.set_cons_succ, i64_w, i32_w]
    rfl
  refine pure_ (i := 11) (N := some 34) (v := ?_) (a' := ?_) #[true, false, false, false, false, false, true, false, false, false, false, true, false, false, false, false, false, false] rfl rfl (by kernel_rfl) (fun _ _ _ h => h) (Or.inl ⟨by rfl, ?_⟩) ?_ ?_
  rotate_left
  · intro w'
    go_simp
    first | with_reducible rfl | (rw [if_neg (by (try simp only [ByteArray.size_append, sz1, sz2]); omega)]; try with_reducible rfl)
  rotate_left
  · simp only [Act.put, List.setIfInBounds_toArray, List.set_cons_zero, List.set_cons_succ, i64_w, i32_w]
    rfl
  refine take_ (i := 1) (N := some 24) (v := ?_) (a' := ?_) #[true, true, false, false, false, false, true, false, false, false, false, true, false, false, false, false, false, false] rfl rfl (by kernel_rfl) (fun _ _ _ h => h) (Or.inl ⟨by rfl, ?_⟩) hHeld ?_ ?_
  rotate_left
  · rintro w' ⟨s0, s1, s2, s3, s4, s5, s6, s7, s8, s9, s10, s11, s12⟩
    go_simp
    first | with_reducible rfl | (rw [if_neg (by (try simp only [ByteArray.size_append, sz1, sz2]); omega)]; try with_reducible rfl)
  rotate_left
  · simp only [Act.put, List.setIfInBounds_toArray, List.set_cons_zero, List.set_cons_succ, i64_w, i32_w]
    rfl
  refine pure_ (i := 2) (N := some 25) (v := ?_) (a' := ?_) #[true, true, true, false, false, false, true, false, false, false, false, true, false, false, false, false, false, false] rfl rfl (by kernel_rfl) (fun _ _ _ h => h) (Or.inl ⟨by rfl, ?_⟩) ?_ ?_
  rotate_left
  · intro w'
    go_simp
    first | with_reducible rfl | (rw [if_neg (by (try simp only [ByteArray.size_append, sz1, sz2]); omega)]; try with_reducible rfl)
  rotate_left
  · simp only [Act.put, List.setIfInBounds_toArray, List.set_cons_zero, List.set_cons_succ, i64_w, i32_w]
    rfl
  refine take_ (i := 3) (N := some 26) (v := ?_) (a' := ?_) #[true, true, true, true, false, false, true, false, false, false, false, true, false, false, false, false, false, false] rfl rfl (by kernel_rfl) (fun _ _ _ h => h) (Or.inl ⟨by rfl, ?_⟩) hHeld ?_ ?_
  rotate_left
  · rintro w' ⟨s0, s1, s2, s3, s4, s5, s6, s7, s8, s9, s10, s11, s12⟩
    go_simp
    first | with_reducible rfl | (rw [if_neg (by (try simp only [ByteArray.size_append, sz1, sz2]); omega)]; try with_reducible rfl)
  rotate_left
  · simp only [Act.put, List.setIfInBounds_toArray, List.set_cons_zero, List.set_cons_succ, i64_w, i32_w]
    rfl
  refine take_ (i := 7) (N := some 30) (v := ?_) (a' := ?_) #[true, true, true, true, false, false, true, true, false, false, false, true, false, false, false, false, false, false] rfl rfl (by kernel_rfl) (fun _ _ _ h => h) (Or.inl ⟨by rfl, ?_⟩) hHeld ?_ ?_
  rotate_left
  · rintro w' ⟨s0, s1, s2, s3, s4, s5, s6, s7, s8, s9, s10, s11, s12⟩
    go_simp
    first | with_reducible rfl | (rw [if_neg (by (try simp only [ByteArray.size_append, sz1, sz2]); omega)]; try with_reducible rfl)
  rotate_left
  · simp only [Act.put, List.setIfInBounds_toArray, List.set_cons_zero, List.set_cons_succ, i64_w, i32_w]
    rfl
  refine take_ (i := 12) (N := some 35) (v := ?_) (a' := ?_) #[true, true, true, true, false, false, true, true, false, false, false, true, true, false, false, false, false, false] rfl rfl (by kernel_rfl) (fun _ _ _ h => h) (Or.inl ⟨by rfl, ?_⟩) hHeld ?_ ?_
  rotate_left
  · rintro w' ⟨s0, s1, s2, s3, s4, s5, s6, s7, s8, s9, s10, s11, s12⟩
    go_simp
    first | with_reducible rfl | (rw [if_neg (by (try simp only [ByteArray.size_append, sz1, sz2]); omega)]; try with_reducible rfl)
  rotate_left
  · simp only [Act.put, List.setIfInBounds_toArray, List.set_cons_zero, List.set_cons_succ, i64_w, i32_w]
    rfl
  refine pure_ (i := 13) (N := some 36) (v := ?_) (a' := ?_) #[true, true, true, true, false, false, true, true, false, false, false, true, true, true, false, false, false, false] rfl rfl (by kernel_rfl) (fun _ _ _ h => h) (Or.inl ⟨by rfl, ?_⟩) ?_ ?_
  rotate_left
  · intro w'
    go_simp
    first | with_reducible rfl | (rw [if_neg (by (try simp only [ByteArray.size_append, sz1, sz2]); omega)]; try with_reducible rfl)
  rotate_left
  · simp only [Act.put, List.setIfInBounds_toArray, List.set_cons_zero, List.set_cons_succ, i64_w, i32_w]
    rfl
  refine take_ (i := 14) (N := some 37) (v := ?_) (a' := ?_) #[true, true, true, true, false, false, true, true, false, false, false, true, true, true, true, false, false, false] rfl rfl (by kernel_rfl) (fun _ _ _ h => h) (Or.inl ⟨by rfl, ?_⟩) hHeld ?_ ?_
  rotate_left
  · rintro w' ⟨s0, s1, s2, s3, s4, s5, s6, s7, s8, s9, s10, s11, s12⟩
    go_simp
    first | with_reducible rfl | (rw [if_neg (by (try simp only [ByteArray.size_append, sz1, sz2]); omega)]; try with_reducible rfl)
  rotate_left
  · simp only [Act.put, List.setIfInBounds_toArray, List.set_cons_zero, List.set_cons_succ, i64_w, i32_w]
    rfl
  refine one_ (i := 4) (N := some 27) #[true, true, true, true, true, false, true, true, false, false, false, true, true, true, true, false, false, false] rfl rfl (by kernel_rfl) (by decide) (fun K hK => ?_)
  refine goes_ Tryd.func13 (by kernel_rfl) rfl #[.agg #[.int .i64 l0.f0, .int .i64 l0.f1, .int .i64 l0.f2, .string l0.f3, .slice K0 l0.f4.length d0]] (by rfl) rfl rfl (by simp only [List.map_toArray, List.map_cons, List.map_nil, Act.eval]; rfl) ?_
  refine (HK0.out _ hHeld.2.2.2.2.2.2.2.2.2.2.2.2.out).mono ?_
  rintro e1 w3 ⟨rfl, hb⟩
  refine ⟨_, rfl, ?_⟩
  refine hK.out _ _ ⟨pw_cell_below hb hHeld.1, pw_cell_below hb hHeld.2.1, pw_cell_below hb hHeld.2.2.1, pw_cell_below hb hHeld.2.2.2.1, pw_cell_below hb hHeld.2.2.2.2.1, pw_cell_below hb hHeld.2.2.2.2.2.1, pw_cell_below hb hHeld.2.2.2.2.2.2.1, pw_cell_below hb hHeld.2.2.2.2.2.2.2.1, pw_cell_below hb hHeld.2.2.2.2.2.2.2.2.1, pw_cell_below hb hHeld.2.2.2.2.2.2.2.2.2.1, pw_cell_below hb hHeld.2.2.2.2.2.2.2.2.2.2.1, pw_cell_below hb hHeld.2.2.2.2.2.2.2.2.2.2.2.1, ⟨below_then hHeld.2.2.2.2.2.2.2.2.2.2.2.2.out hHeld.2.2.2.2.2.2.2.2.2.2.2.2.out.size hb⟩⟩ (fun hHeld => ?_)
  clear hK K
  refine norm_ (a' := ?_) ?_ ?_
  rotate_left
  · show Act.put _ (some 27) _ = _
    simp only [Act.put, List.setIfInBounds_toArray, List.set_cons_zero, List.set_cons_succ, i64_w, i32_w]
    rfl
  refine pure_ (i := 5) (N := some 28) (v := ?_) (a' := ?_) #[true, true, true, true, true, true, true, true, false, false, false, true, true, true, true, false, false, false] rfl rfl (by kernel_rfl) (fun _ _ _ h => h) (Or.inl ⟨by rfl, ?_⟩) ?_ ?_
  rotate_left
  · intro w'
    go_simp
    first | with_reducible rfl | (rw [if_neg (by (try simp only [ByteArray.size_append, sz1, sz2]); omega)]; try with_reducible rfl)
  rotate_left
  · simp only [Act.put, List.setIfInBounds_toArray, List.set_cons_zero, List.set_cons_succ, i64_w, i32_w]
    rfl
  refine one_ (i := 8) (N := some 31) #[true, true, true, true, true, true, true, true, true, false, false, true, true, true, true, false, false, false] rfl rfl (by kernel_rfl) (by decide) (fun K hK => ?_)
  refine goes_ Tryd.func30 (by kernel_rfl) rfl #[.int .i64 e.f1] (by rfl) rfl rfl (by simp only [List.map_toArray, List.map_cons, List.map_nil, Act.eval]; rfl) ?_
  refine (HO.out _).mono ?_
  rintro e1 w4 ⟨rfl, hb⟩
  refine ⟨_, rfl, ?_⟩
  refine hK.out _ _ ⟨pw_cell_below hb hHeld.1, pw_cell_below hb hHeld.2.1, pw_cell_below hb hHeld.2.2.1, pw_cell_below hb hHeld.2.2.2.1, pw_cell_below hb hHeld.2.2.2.2.1, pw_cell_below hb hHeld.2.2.2.2.2.1, pw_cell_below hb hHeld.2.2.2.2.2.2.1, pw_cell_below hb hHeld.2.2.2.2.2.2.2.1, pw_cell_below hb hHeld.2.2.2.2.2.2.2.2.1, pw_cell_below hb hHeld.2.2.2.2.2.2.2.2.2.1, pw_cell_below hb hHeld.2.2.2.2.2.2.2.2.2.2.1, pw_cell_below hb hHeld.2.2.2.2.2.2.2.2.2.2.2.1, ⟨below_then hHeld.2.2.2.2.2.2.2.2.2.2.2.2.out hHeld.2.2.2.2.2.2.2.2.2.2.2.2.out.size hb⟩⟩ (fun hHeld => ?_)
  clear hK K
  refine norm_ (a' := ?_) ?_ ?_
  rotate_left
  · show Act.put _ (some 31) _ = _
    simp only [Act.put, List.setIfInBounds_toArray, List.set_cons_zero, List.set_cons_succ, i64_w, i32_w]
    rfl
  refine pure_ (i := 9) (N := some 32) (v := ?_) (a' := ?_) #[true, true, true, true, true, true, true, true, true, true, false, true, true, true, true, false, false, false] rfl rfl (by kernel_rfl) (fun _ _ _ h => h) (Or.inl ⟨by rfl, ?_⟩) ?_ ?_
  rotate_left
  · intro w'
    go_simp
    first | with_reducible rfl | (rw [if_neg (by (try simp only [ByteArray.size_append, sz1, sz2]); omega)]; try with_reducible rfl)
  rotate_left
  · simp only [Act.put, List.setIfInBounds_toArray, List.set_cons_zero, List.set_cons_succ, i64_w, i32_w]
    rfl
  refine pure_ (i := 10) (N := some 33) (v := ?_) (a' := ?_) #[true, true, true, true, true, true, true, true, true, true, true, true, true, true, true, false, false, false] rfl rfl (by kernel_rfl) (fun _ _ _ h => h) (Or.inl ⟨by rfl, ?_⟩) ?_ ?_
  rotate_left
  · intro w'
    go_simp
    first | with_reducible rfl | (rw [if_neg (by (try simp only [ByteArray.size_append, sz1, sz2]); omega)]; try with_reducible rfl)
  rotate_left
  · simp only [Act.put, List.setIfInBounds_toArray, List.set_cons_zero, List.set_cons_succ, i64_w, i32_w]
    rfl
  refine one_ (i := 15) (N := some 38) #[true, true, true, true, true, true, true, true, true, true, true, true, true, true, true, true, false, false] rfl rfl (by kernel_rfl) (by decide) (fun K hK => ?_)
  refine goes_ Tryd.func13 (by kernel_rfl) rfl #[.agg #[.int .i64 l1.f0, .int .i64 l1.f1, .int .i64 l1.f2, .string l1.f3, .slice K1 l1.f4.length d1]] (by rfl) rfl rfl (by simp only [List.map_toArray, List.map_cons, List.map_nil, Act.eval]; rfl) ?_
  refine (HK1.out _ hHeld.2.2.2.2.2.2.2.2.2.2.2.2.out).mono ?_
  rintro e1 w5 ⟨rfl, hb⟩
  refine ⟨_, rfl, ?_⟩
  refine hK.out _ _ ⟨pw_cell_below hb hHeld.1, pw_cell_below hb hHeld.2.1, pw_cell_below hb hHeld.2.2.1, pw_cell_below hb hHeld.2.2.2.1, pw_cell_below hb hHeld.2.2.2.2.1, pw_cell_below hb hHeld.2.2.2.2.2.1, pw_cell_below hb hHeld.2.2.2.2.2.2.1, pw_cell_below hb hHeld.2.2.2.2.2.2.2.1, pw_cell_below hb hHeld.2.2.2.2.2.2.2.2.1, pw_cell_below hb hHeld.2.2.2.2.2.2.2.2.2.1, pw_cell_below hb hHeld.2.2.2.2.2.2.2.2.2.2.1, pw_cell_below hb hHeld.2.2.2.2.2.2.2.2.2.2.2.1, ⟨below_then hHeld.2.2.2.2.2.2.2.2.2.2.2.2.out hHeld.2.2.2.2.2.2.2.2.2.2.2.2.out.size hb⟩⟩ (fun hHeld => ?_)
  clear hK K
  refine norm_ (a' := ?_) ?_ ?_
  rotate_left
  · show Act.put _ (some 38) _ = _
    simp only [Act.put, List.setIfInBounds_toArray, List.set_cons_zero, List.set_cons_succ, i64_w, i32_w]
    rfl
  refine pure_ (i := 16) (N := some 39) (v := ?_) (a' := ?_) #[true, true, true, true, true, true, true, true, true, true, true, true, true, true, true, true, true, false] rfl rfl (by kernel_rfl) (fun _ _ _ h => h) (Or.inl ⟨by rfl, ?_⟩) ?_ ?_
  rotate_left
  · intro w'
    go_simp
    first | with_reducible rfl | (rw [if_neg (by (try simp only [ByteArray.size_append, sz1, sz2]); omega)]; try with_reducible rfl)
  rotate_left
  · simp only [Act.put, List.setIfInBounds_toArray, List.set_cons_zero, List.set_cons_succ, i64_w, i32_w]
    rfl
  refine pure_ (i := 17) (N := some 2) (v := ?_) (a' := ?_) #[true, true, true, true, true, true, true, true, true, true, true, true, true, true, true, true, true, true] rfl rfl (by kernel_rfl) (fun _ _ _ h => h) (Or.inl ⟨by rfl, ?_⟩) ?_ ?_
  rotate_left
  · intro w'
    go_simp
    first | with_reducible rfl | (rw [if_neg (by (try simp only [ByteArray.size_append, sz1, sz2]); omega)]; try with_reducible rfl)
  rotate_left
  · simp only [Act.put, List.setIfInBounds_toArray, List.set_cons_zero, List.set_cons_succ, i64_w, i32_w]
    rfl
  refine done_ (by kernel_rfl) ?_
  go_wp2
  go_ret
  exact ⟨rfl, hHeld.2.2.2.2.2.2.2.2.2.2.2.2.out⟩
set_option maxHeartbeats 8000000 in
set_option maxRecDepth 100000 in
theorem cond_notr (n : Nat) (e : S33) (A2 A3 : Option Addr) (c2 c3 : Nat) (w : World) (hC2 : k30.C w A2 e.f2.length e.f2) (hc2 : e.f2.length ≤ c2) (hC3 : k33.C w A3 e.f3.length e.f3) (hc3 : e.f3.length ≤ c3) (ht : Tab w) (ih : ∀ (e : S33) (A2 A3 : Option Addr) (c2 c3 : Nat) (w : World), k30.C w A2 e.f2.length e.f2 → e.f2.length ≤ c2 → k33.C w A3 e.f3.length e.f3 → e.f3.length ≤ c3 → Tab w → SizeOf.sizeOf e ≤ n → okC n e → (condF n e).size ≤ 4611686018427387904 → Calls Tryd.prog 15 #[.agg #[.int .i64 e.f0, .int .i64 e.f1, .slice A2 e.f2.length c2, .slice A3 e.f3.length c3]] w fun r w' => r = .returned (.string (condF n e)) ∧ Below w.heap.size w w') (hs : SizeOf.sizeOf e ≤ n + 1) (ok : okC (n + 1) e) (hk : e.f0 = 2 ∧ 1 ≤ e.f3.length ∧ (rd_T33 e.f3 0).f0 = 1) (hsz : (condF (n + 1) e).size ≤ 4611686018427387904) :
    Calls Tryd.prog 15 #[.agg #[.int .i64 e.f0, .int .i64 e.f1, .slice A2 e.f2.length c2, .slice A3 e.f3.length c3]] w fun r w' => r = .returned (.string (condF (n + 1) e)) ∧ Below w.heap.size w w' := by
  have hv : condF (n + 1) e = ((⟨#[33, 91]⟩ : ByteArray) ++ condF n (rd_T33 e.f3 0)) ++ (⟨#[93]⟩ : ByteArray) := by
    simp only [condF]
    rw [if_neg (by omega), if_pos hk]
  have hk2 := hk
  obtain ⟨ad, K0, d0, J0, b0, rfl, p00, p01, p02, p03, hd0, hD0, hb0, hE0⟩ := at_T33 hC3 0 (by decide) (by omega)
  have hz0 : SizeOf.sizeOf (rd_T33 e.f3 0) ≤ n := Nat.le_of_lt_succ (Nat.lt_of_lt_of_le (ckid_size e 0 (by omega)) hs)
  have hok0 : okC n (rd_T33 e.f3 0) := ckid_ok ok 0 (by omega)
  obtain ⟨q0, hq0⟩ : ∃ q, rd_T33 e.f3 0 = q := ⟨_, rfl⟩
  rw [hq0] at p00 p01 p02 p03 hd0 hD0 hb0 hE0 hz0 hok0 hv hk2
  replace p00 : w.cell? ad = some (.int .i64 q0.f0) := p00
  replace p01 : w.cell? ⟨ad.block, ad.off + 1, none⟩ = some (.int .i64 q0.f1) := p01
  replace p02 : w.cell? ⟨ad.block, ad.off + 2, none⟩ = some (.slice K0 q0.f2.length d0) := p02
  replace p03 : w.cell? ⟨ad.block, ad.off + 3, none⟩ = some (.slice J0 q0.f3.length b0) := p03
  obtain ⟨t0, ht0⟩ : ∃ t, condF n q0 = t := ⟨_, rfl⟩
  rw [ht0] at hv
  rw [hv] at hsz ⊢
  simp only [ByteArray.size_append, sz1, sz2] at hsz
  have y0 : t0.size ≤ 4611686018427387904 := by omega
  have z0 : 2 + t0.size ≤ 9223372036854775807 := by omega
  have z1 : 2 + t0.size + 1 ≤ 9223372036854775807 := by omega
  have z2 : ((⟨#[33, 91]⟩ : ByteArray) ++ t0).size + 1 ≤ 9223372036854775807 := by simp only [ByteArray.size_append, sz2]; omega
  have kq : (q0.f0 == 1) = true := beq_iff_eq.mpr hk2.2.2
  have hn0 : 0 < e.f3.length := by omega
  have HK0 := Aside0.mk (fun (W : World) (hb : Below w.heap.size w W) => ih q0 K0 J0 d0 b0 W (Kd.C_below hD0 hb) hd0 (Kd.C_below hE0 hb) hb0 (tab_on ht hb) hz0 hok0 (by rw [ht0]; exact y0))
  rw [ht0] at HK0
  have kb1 : (e.f0 == 1) = false := beq_eq_false_iff_ne.mpr (by omega)
  have kb2 : (e.f0 == 2) = true := beq_iff_eq.mpr hk.1
  have kb3 : (e.f0 == 3) = false := beq_eq_false_iff_ne.mpr (by omega)
  have kb4 : (e.f0 == 4) = false := beq_eq_false_iff_ne.mpr (by omega)
  clear hC2 hc2 hC3 hc3 hv ok ht hs ih hk hk2 hd0 hD0 hb0 hE0 hz0 hok0 hq0 ht0 y0 hsz
  go_enter Tryd.func15, Tryd.ntmps15
  go_wp2_with (first | ((with_reducible refine gate_dst (N := 1) rfl ?_); refine box_event ?hg (N := 1) ?hd (cs := #[.int .i64 e.f0, .int .i64 e.f1, .slice A2 e.f2.length c2, .slice (some ad) e.f3.length c3]) (t := 33) ?hr ?_; (case hd => rfl); (case hg => rfl); (case hr => first | (go_simp; done) | (go_simp; rfl)); intro ge hgg w1 hlit hb; have HG := Aside0.mk hlit; have HB1 := Aside0.mk hb; have hy0 : w1.cell? ⟨ge, 0, none⟩ = some (.int .i64 e.f0) := (blk_cell hlit 0).trans rfl; have hy1 : w1.cell? ⟨ge, 1, none⟩ = some (.int .i64 e.f1) := (blk_cell hlit 1).trans rfl; have hy2 : w1.cell? ⟨ge, 2, none⟩ = some (.slice A2 e.f2.length c2) := (blk_cell hlit 2).trans rfl; have hy3 : w1.cell? ⟨ge, 3, none⟩ = some (.slice (some ad) e.f3.length c3) := (blk_cell hlit 3).trans rfl; have h00 := pw_cell_below hb p00; have h01 := pw_cell_below hb p01; have h02 := pw_cell_below hb p02; have h03 := pw_cell_below hb p03; clear hlit hb hgg) | (go_at_call 15; (with_reducible refine (HK0.out _ HB1.out).mono ?_); rintro e1 w2 ⟨rfl, hb⟩; have HB2 := Aside0.mk (below_then HB1.out HB1.out.size hb); clear hb))
  go_ret
  exact ⟨rfl, HB2.out⟩
set_option maxHeartbeats 8000000 in
set_option maxRecDepth 100000 in
theorem cond_not (n : Nat) (e : S33) (A2 A3 : Option Addr) (c2 c3 : Nat) (w : World) (hC2 : k30.C w A2 e.f2.length e.f2) (hc2 : e.f2.length ≤ c2) (hC3 : k33.C w A3 e.f3.length e.f3) (hc3 : e.f3.length ≤ c3) (ht : Tab w) (ih : ∀ (e : S33) (A2 A3 : Option Addr) (c2 c3 : Nat) (w : World), k30.C w A2 e.f2.length e.f2 → e.f2.length ≤ c2 → k33.C w A3 e.f3.length e.f3 → e.f3.length ≤ c3 → Tab w → SizeOf.sizeOf e ≤ n → okC n e → (condF n e).size ≤ 4611686018427387904 → Calls Tryd.prog 15 #[.agg #[.int .i64 e.f0, .int .i64 e.f1, .slice A2 e.f2.length c2, .slice A3 e.f3.length c3]] w fun r w' => r = .returned (.string (condF n e)) ∧ Below w.heap.size w w') (hs : SizeOf.sizeOf e ≤ n + 1) (ok : okC (n + 1) e) (hk : e.f0 = 2 ∧ 1 ≤ e.f3.length ∧ ¬ (rd_T33 e.f3 0).f0 = 1) (hsz : (condF (n + 1) e).size ≤ 4611686018427387904) :
    Calls Tryd.prog 15 #[.agg #[.int .i64 e.f0, .int .i64 e.f1, .slice A2 e.f2.length c2, .slice A3 e.f3.length c3]] w fun r w' => r = .returned (.string (condF (n + 1) e)) ∧ Below w.heap.size w w' := by
  have hv : condF (n + 1) e = (⟨#[33]⟩ : ByteArray) ++ condF n (rd_T33 e.f3 0) := by
    simp only [condF]
    rw [if_neg (by omega), if_neg (by omega), if_pos ⟨hk.1, hk.2.1⟩]
  have hk2 := hk
  obtain ⟨ad, K0, d0, J0, b0, rfl, p00, p01, p02, p03, hd0, hD0, hb0, hE0⟩ := at_T33 hC3 0 (by decide) (by omega)
  have hz0 : SizeOf.sizeOf (rd_T33 e.f3 0) ≤ n := Nat.le_of_lt_succ (Nat.lt_of_lt_of_le (ckid_size e 0 (by omega)) hs)
  have hok0 : okC n (rd_T33 e.f3 0) := ckid_ok ok 0 (by omega)
  obtain ⟨q0, hq0⟩ : ∃ q, rd_T33 e.f3 0 = q := ⟨_, rfl⟩
  rw [hq0] at p00 p01 p02 p03 hd0 hD0 hb0 hE0 hz0 hok0 hv hk2
  replace p00 : w.cell? ad = some (.int .i64 q0.f0) := p00
  replace p01 : w.cell? ⟨ad.block, ad.off + 1, none⟩ = some (.int .i64 q0.f1) := p01
  replace p02 : w.cell? ⟨ad.block, ad.off + 2, none⟩ = some (.slice K0 q0.f2.length d0) := p02
  replace p03 : w.cell? ⟨ad.block, ad.off + 3, none⟩ = some (.slice J0 q0.f3.length b0) := p03
  obtain ⟨t0, ht0⟩ : ∃ t, condF n q0 = t := ⟨_, rfl⟩
  rw [ht0] at hv
  rw [hv] at hsz ⊢
  simp only [ByteArray.size_append, sz1, sz2] at hsz
  have y0 : t0.size ≤ 4611686018427387904 := by omega
  have z0 : 1 + t0.size ≤ 9223372036854775807 := by omega
  have kq : (q0.f0 == 1) = false := beq_eq_false_iff_ne.mpr hk2.2.2
  have hn0 : 0 < e.f3.length := by omega
  have HK0 := Aside0.mk (fun (W : World) (hb : Below w.heap.size w W) => ih q0 K0 J0 d0 b0 W (Kd.C_below hD0 hb) hd0 (Kd.C_below hE0 hb) hb0 (tab_on ht hb) hz0 hok0 (by rw [ht0]; exact y0))
  rw [ht0] at HK0
  have kb1 : (e.f0 == 1) = false := beq_eq_false_iff_ne.mpr (by omega)
  have kb2 : (e.f0 == 2) = true := beq_iff_eq.mpr hk.1
  have kb3 : (e.f0 == 3) = false := beq_eq_false_iff_ne.mpr (by omega)
  have kb4 : (e.f0 == 4) = false := beq_eq_false_iff_ne.mpr (by omega)
  clear hC2 hc2 hC3 hc3 hv ok ht hs ih hk hk2 hd0 hD0 hb0 hE0 hz0 hok0 hq0 ht0 y0 hsz
  go_enter Tryd.func15, Tryd.ntmps15
  go_wp2_with (first | ((with_reducible refine gate_dst (N := 1) rfl ?_); refine box_event ?hg (N := 1) ?hd (cs := #[.int .i64 e.f0, .int .i64 e.f1, .slice A2 e.f2.length c2, .slice (some ad) e.f3.length c3]) (t := 33) ?hr ?_; (case hd => rfl); (case hg => rfl); (case hr => first | (go_simp; done) | (go_simp; rfl)); intro ge hgg w1 hlit hb; have HG := Aside0.mk hlit; have HB1 := Aside0.mk hb; have hy0 : w1.cell? ⟨ge, 0, none⟩ = some (.int .i64 e.f0) := (blk_cell hlit 0).trans rfl; have hy1 : w1.cell? ⟨ge, 1, none⟩ = some (.int .i64 e.f1) := (blk_cell hlit 1).trans rfl; have hy2 : w1.cell? ⟨ge, 2, none⟩ = some (.slice A2 e.f2.length c2) := (blk_cell hlit 2).trans rfl; have hy3 : w1.cell? ⟨ge, 3, none⟩ = some (.slice (some ad) e.f3.length c3) := (blk_cell hlit 3).trans rfl; have h00 := pw_cell_below hb p00; have h01 := pw_cell_below hb p01; have h02 := pw_cell_below hb p02; have h03 := pw_cell_below hb p03; clear hlit hb hgg) | (go_at_call 15; (with_reducible refine (HK0.out _ HB1.out).mono ?_); rintro e1 w2 ⟨rfl, hb⟩; have HB2 := Aside0.mk (below_then HB1.out HB1.out.size hb); clear hb))
  go_ret
  exact ⟨rfl, HB2.out⟩
set_option maxHeartbeats 8000000 in
set_option maxRecDepth 100000 in
theorem both_calls (n : Nat) (e : S33) (A2 A3 : Option Addr) (c2 c3 : Nat) (w : World) (hC2 : k30.C w A2 e.f2.length e.f2) (hc2 : e.f2.length ≤ c2) (hC3 : k33.C w A3 e.f3.length e.f3) (hc3 : e.f3.length ≤ c3) (ht : Tab w) (ih : ∀ (e : S33) (A2 A3 : Option Addr) (c2 c3 : Nat) (w : World), k30.C w A2 e.f2.length e.f2 → e.f2.length ≤ c2 → k33.C w A3 e.f3.length e.f3 → e.f3.length ≤ c3 → Tab w → SizeOf.sizeOf e ≤ n → okC n e → (condF n e).size ≤ 4611686018427387904 → Calls Tryd.prog 15 #[.agg #[.int .i64 e.f0, .int .i64 e.f1, .slice A2 e.f2.length c2, .slice A3 e.f3.length c3]] w fun r w' => r = .returned (.string (condF n e)) ∧ Below w.heap.size w w') (hs : SizeOf.sizeOf e ≤ n + 1) (ok : okC (n + 1) e) (sg : ByteArray) (hsg : sg.size = 2) (h2 : 2 ≤ e.f3.length) (hsz : (((((((⟨#[91]⟩ : ByteArray) ++ condF n (rd_T33 e.f3 0)) ++ (⟨#[32]⟩ : ByteArray)) ++ sg) ++ (⟨#[32]⟩ : ByteArray)) ++ condF n (rd_T33 e.f3 1)) ++ (⟨#[93]⟩ : ByteArray)).size ≤ 4611686018427387904) :
    Calls Tryd.prog 31 #[.agg #[.int .i64 e.f0, .int .i64 e.f1, .slice A2 e.f2.length c2, .slice A3 e.f3.length c3], .string sg] w fun r w' => r = .returned (.string (((((((⟨#[91]⟩ : ByteArray) ++ condF n (rd_T33 e.f3 0)) ++ (⟨#[32]⟩ : ByteArray)) ++ sg) ++ (⟨#[32]⟩ : ByteArray)) ++ condF n (rd_T33 e.f3 1)) ++ (⟨#[93]⟩ : ByteArray))) ∧ Below w.heap.size w w' := by
  obtain ⟨ad, K0, d0, J0, b0, rfl, p00, p01, p02, p03, hd0, hD0, hb0, hE0⟩ := at_T33 hC3 0 (by decide) (by omega)
  have hz0 : SizeOf.sizeOf (rd_T33 e.f3 0) ≤ n := Nat.le_of_lt_succ (Nat.lt_of_lt_of_le (ckid_size e 0 (by omega)) hs)
  have hok0 : okC n (rd_T33 e.f3 0) := ckid_ok ok 0 (by omega)
  obtain ⟨q0, hq0⟩ : ∃ q, rd_T33 e.f3 0 = q := ⟨_, rfl⟩
  rw [hq0] at p00 p01 p02 p03 hd0 hD0 hb0 hE0 hz0 hok0 hsz ⊢
  replace p00 : w.cell? ad = some (.int .i64 q0.f0) := p00
  replace p01 : w.cell? ⟨ad.block, ad.off + 1, none⟩ = some (.int .i64 q0.f1) := p01
  replace p02 : w.cell? ⟨ad.block, ad.off + 2, none⟩ = some (.slice K0 q0.f2.length d0) := p02
  replace p03 : w.cell? ⟨ad.block, ad.off + 3, none⟩ = some (.slice J0 q0.f3.length b0) := p03
  obtain ⟨t0, ht0⟩ : ∃ t, condF n q0 = t := ⟨_, rfl⟩
  rw [ht0] at hsz ⊢
  obtain ⟨ad', K1, d1, J1, b1, ea, p10, p11, p12, p13, hd1, hD1, hb1, hE1⟩ := at_T33 hC3 1 (by decide) (by omega)
  obtain rfl := Option.some.inj ea
  have hz1 : SizeOf.sizeOf (rd_T33 e.f3 1) ≤ n := Nat.le_of_lt_succ (Nat.lt_of_lt_of_le (ckid_size e 1 (by omega)) hs)
  have hok1 : okC n (rd_T33 e.f3 1) := ckid_ok ok 1 (by omega)
  obtain ⟨q1, hq1⟩ : ∃ q, rd_T33 e.f3 1 = q := ⟨_, rfl⟩
  rw [hq1] at p10 p11 p12 p13 hd1 hD1 hb1 hE1 hz1 hok1 hsz ⊢
  replace p10 : w.cell? ⟨ad.block, ad.off + 4, none⟩ = some (.int .i64 q1.f0) := p10
  replace p11 : w.cell? ⟨ad.block, ad.off + 4 + 1, none⟩ = some (.int .i64 q1.f1) := p11
  replace p12 : w.cell? ⟨ad.block, ad.off + 4 + 2, none⟩ = some (.slice K1 q1.f2.length d1) := p12
  replace p13 : w.cell? ⟨ad.block, ad.off + 4 + 3, none⟩ = some (.slice J1 q1.f3.length b1) := p13
  obtain ⟨t1, ht1⟩ : ∃ t, condF n q1 = t := ⟨_, rfl⟩
  rw [ht1] at hsz ⊢
  simp only [ByteArray.size_append, sz1, hsg] at hsz
  have y0 : t0.size ≤ 4611686018427387904 := by omega
  have y1 : t1.size ≤ 4611686018427387904 := by omega
  have hn0 : 0 < e.f3.length := by omega
  have hn1 : (1 : Int) < (e.f3.length : Int) := by omega
  have HK0 := Aside0.mk (fun (W : World) (hb : Below w.heap.size w W) => ih q0 K0 J0 d0 b0 W (Kd.C_below hD0 hb) hd0 (Kd.C_below hE0 hb) hb0 (tab_on ht hb) hz0 hok0 (by rw [ht0]; exact y0))
  rw [ht0] at HK0
  have HK1 := Aside0.mk (fun (W : World) (hb : Below w.heap.size w W) => ih q1 K1 J1 d1 b1 W (Kd.C_below hD1 hb) hd1 (Kd.C_below hE1 hb) hb1 (tab_on ht hb) hz1 hok1 (by rw [ht1]; exact y1))
  rw [ht1] at HK1
  clear hC2 hc2 hC3 hc3 ok ht hs ih h2 hd0 hD0 hb0 hE0 hz0 hok0 hq0 ht0 y0 hd1 hD1 hb1 hE1 hz1 hok1 hq1 ht1 y1
  go_enter Tryd.func31, Tryd.ntmps31
  go_upto_region 1 with (first | ((with_reducible refine gate_dst (N := 2) rfl ?_); refine box_event ?hg (N := 2) ?hd (cs := #[.int .i64 e.f0, .int .i64 e.f1, .slice A2 e.f2.length c2, .slice (some ad) e.f3.length c3]) (t := 33) ?hr ?_; (case hd => rfl); (case hg => rfl); (case hr => first | (go_simp; done) | (go_simp; rfl)); intro ge hgg w1 hlit hb; have HG := Aside0.mk hlit; have HB1 := Aside0.mk hb; have hy0 : w1.cell? ⟨ge, 0, none⟩ = some (.int .i64 e.f0) := (blk_cell hlit 0).trans rfl; have hy1 : w1.cell? ⟨ge, 1, none⟩ = some (.int .i64 e.f1) := (blk_cell hlit 1).trans rfl; have hy2 : w1.cell? ⟨ge, 2, none⟩ = some (.slice A2 e.f2.length c2) := (blk_cell hlit 2).trans rfl; have hy3 : w1.cell? ⟨ge, 3, none⟩ = some (.slice (some ad) e.f3.length c3) := (blk_cell hlit 3).trans rfl; clear hlit hb hgg))
  have h00 := pw_cell_below HB1.out p00
  have h01 := pw_cell_below HB1.out p01
  have h02 := pw_cell_below HB1.out p02
  have h03 := pw_cell_below HB1.out p03
  have h10 := pw_cell_below HB1.out p10
  have h11 := pw_cell_below HB1.out p11
  have h12 := pw_cell_below HB1.out p12
  have h13 := pw_cell_below HB1.out p13
  refine start_ (n := 18) (S := fun w' => w'.cell? ⟨ge, 3, none⟩ = some (.slice (some ad) e.f3.length c3) ∧ w'.cell? ad = some (.int .i64 q0.f0) ∧ w'.cell? ⟨ad.block, ad.off + 1, none⟩ = some (.int .i64 q0.f1) ∧ w'.cell? ⟨ad.block, ad.off + 2, none⟩ = some (.slice K0 q0.f2.length d0) ∧ w'.cell? ⟨ad.block, ad.off + 3, none⟩ = some (.slice J0 q0.f3.length b0) ∧ w'.cell? ⟨ad.block, ad.off + 4, none⟩ = some (.int .i64 q1.f0) ∧ w'.cell? ⟨ad.block, ad.off + 4 + 1, none⟩ = some (.int .i64 q1.f1) ∧ w'.cell? ⟨ad.block, ad.off + 4 + 2, none⟩ = some (.slice K1 q1.f2.length d1) ∧ w'.cell? ⟨ad.block, ad.off + 4 + 3, none⟩ = some (.slice J1 q1.f3.length b1) ∧ Aside0 (Below w.heap.size w w')) (ds := []) #[false, false, false, false, false, false, false, false, false, false, false, false, false, false, false, false, false, false] (by kernel_rfl) rfl rfl ⟨hy3, h00, h01, h02, h03, h10, h11, h12, h13, ⟨below_drew HB1.out⟩⟩ (fun hHeld => ?_)
  refine pure_ (i := 0) (N := some 5) (v := ?_) (a' := ?_) #[true, false, false, false, false, false, false, false, false, false, false, false, false, false, false, false, false, false] rfl rfl (by kernel_rfl) (fun _ _ _ h => h) (Or.inl ⟨by rfl, ?_⟩) ?_ ?_
  rotate_left
  · intro w'
    go_simp
    first | with_reducible rfl | (rw [if_neg (by (try simp only [ByteArray.size_append, sz1, sz2, hsg]); omega)]; try with_reducible rfl)
  rotate_left
  · simp only [Act.put, List.setIfInBounds_toArray, List.set_cons_zero, List.set_cons_succ, i64_w, i32_w]
    rfl
  refine pure_ (i := 7) (N := some 12) (v := ?_) (a' := ?_) #[true, false, false, false, false, false, false, true, false, false, false, false, false, false, false, false, false, false] rfl rfl (by kernel_rfl) (fun _ _ _ h => h) (Or.inl ⟨by rfl, ?_⟩) ?_ ?_
  rotate_left
  · intro w'
    go_simp
    first | with_reducible rfl | (rw [if_neg (by (try simp only [ByteArray.size_append, sz1, sz2, hsg]); omega)]; try with_reducible rfl)
  rotate_left
  · simp only [Act.put, List.setIfInBounds_toArray, List.set_cons_zero, List.set_cons_succ, i64_w, i32_w]
    rfl
  refine pure_ (i := 10) (N := some 15) (v := ?_) (a' := ?_) #[true, false, false, false, false, false, false, true, false, false, true, false, false, false, false, false, false, false] rfl rfl (by kernel_rfl) (fun _ _ _ h => h) (Or.inl ⟨by rfl, ?_⟩) ?_ ?_
  rotate_left
  · intro w'
    go_simp
    first | with_reducible rfl | (rw [if_neg (by (try simp only [ByteArray.size_append, sz1, sz2, hsg]); omega)]; try with_reducible rfl)
  rotate_left
  · simp only [Act.put, List.setIfInBounds_toArray, List.set_cons_zero, List.set_cons_succ, i64_w, i32_w]
    rfl
  refine take_ (i := 1) (N := some 6) (v := ?_) (a' := ?_) #[true, true, false, false, false, false, false, true, false, false, true, false, false, false, false, false, false, false] rfl rfl (by kernel_rfl) (fun _ _ _ h => h) (Or.inl ⟨by rfl, ?_⟩) hHeld ?_ ?_
  rotate_left
  · rintro w' ⟨s0, s1, s2, s3, s4, s5, s6, s7, s8, s9⟩
    go_simp
    first | with_reducible rfl | (rw [if_neg (by (try simp only [ByteArray.size_append, sz1, sz2, hsg]); omega)]; try with_reducible rfl)
  rotate_left
  · simp only [Act.put, List.setIfInBounds_toArray, List.set_cons_zero, List.set_cons_succ, i64_w, i32_w]
    rfl
  refine pure_ (i := 2) (N := some 7) (v := ?_) (a' := ?_) #[true, true, true, false, false, false, false, true, false, false, true, false, false, false, false, false, false, false] rfl rfl (by kernel_rfl) (fun _ _ _ h => h) (Or.inl ⟨by rfl, ?_⟩) ?_ ?_
  rotate_left
  · intro w'
    go_simp
    first | with_reducible rfl | (rw [if_neg (by (try simp only [ByteArray.size_append, sz1, sz2, hsg]); omega)]; try with_reducible rfl)
  rotate_left
  · simp only [Act.put, List.setIfInBounds_toArray, List.set_cons_zero, List.set_cons_succ, i64_w, i32_w]
    rfl
  refine take_ (i := 3) (N := some 8) (v := ?_) (a' := ?_) #[true, true, true, true, false, false, false, true, false, false, true, false, false, false, false, false, false, false] rfl rfl (by kernel_rfl) (fun _ _ _ h => h) (Or.inl ⟨by rfl, ?_⟩) hHeld ?_ ?_
  rotate_left
  · rintro w' ⟨s0, s1, s2, s3, s4, s5, s6, s7, s8, s9⟩
    go_simp
    first | with_reducible rfl | (rw [if_neg (by (try simp only [ByteArray.size_append, sz1, sz2, hsg]); omega)]; try with_reducible rfl)
  rotate_left
  · simp only [Act.put, List.setIfInBounds_toArray, List.set_cons_zero, List.set_cons_succ, i64_w, i32_w]
    rfl
  refine take_ (i := 11) (N := some 16) (v := ?_) (a' := ?_) #[true, true, true, true, false, false, false, true, false, false, true, true, false, false, false, false, false, false] rfl rfl (by kernel_rfl) (fun _ _ _ h => h) (Or.inl ⟨by rfl, ?_⟩) hHeld ?_ ?_
  rotate_left
  · rintro w' ⟨s0, s1, s2, s3, s4, s5, s6, s7, s8, s9⟩
    go_simp
    first | with_reducible rfl | (rw [if_neg (by (try simp only [ByteArray.size_append, sz1, sz2, hsg]); omega)]; try with_reducible rfl)
  rotate_left
  · simp only [Act.put, List.setIfInBounds_toArray, List.set_cons_zero, List.set_cons_succ, i64_w, i32_w]
    rfl
  refine pure_ (i := 12) (N := some 17) (v := ?_) (a' := ?_) #[true, true, true, true, false, false, false, true, false, false, true, true, true, false, false, false, false, false] rfl rfl (by kernel_rfl) (fun _ _ _ h => h) (Or.inl ⟨by rfl, ?_⟩) ?_ ?_
  rotate_left
  · intro w'
    go_simp
    first | with_reducible rfl | (rw [if_neg (by (try simp only [ByteArray.size_append, sz1, sz2, hsg]); omega)]; try with_reducible rfl)
  rotate_left
  · simp only [Act.put, List.setIfInBounds_toArray, List.set_cons_zero, List.set_cons_succ, i64_w, i32_w]
    rfl
  refine take_ (i := 13) (N := some 18) (v := ?_) (a' := ?_) #[true, true, true, true, false, false, false, true, false, false, true, true, true, true, false, false, false, false] rfl rfl (by kernel_rfl) (fun _ _ _ h => h) (Or.inl ⟨by rfl, ?_⟩) hHeld ?_ ?_
  rotate_left
  · rintro w' ⟨s0, s1, s2, s3, s4, s5, s6, s7, s8, s9⟩
    go_simp
    first | with_reducible rfl | (rw [if_neg (by (try simp only [ByteArray.size_append, sz1, sz2, hsg]); omega)]; try with_reducible rfl)
  rotate_left
  · simp only [Act.put, List.setIfInBounds_toArray, List.set_cons_zero, List.set_cons_succ, i64_w, i32_w]
    rfl
  refine one_ (i := 4) (N := some 9) #[true, true, true, true, true, false, false, true, false, false, true, true, true, true, false, false, false, false] rfl rfl (by kernel_rfl) (by decide) (fun K hK => ?_)
  refine goes_ Tryd.func15 (by kernel_rfl) rfl #[.agg #[.int .i64 q0.f0, .int .i64 q0.f1, .slice K0 q0.f2.length d0, .slice J0 q0.f3.length b0]] (by rfl) rfl rfl (by simp only [List.map_toArray, List.map_cons, List.map_nil, Act.eval]; rfl) ?_
  refine (HK0.out _ hHeld.2.2.2.2.2.2.2.2.2.out).mono ?_
  rintro e1 w3 ⟨rfl, hb⟩
  refine ⟨_, rfl, ?_⟩
  refine hK.out _ _ ⟨pw_cell_below hb hHeld.1, pw_cell_below hb hHeld.2.1, pw_cell_below hb hHeld.2.2.1, pw_cell_below hb hHeld.2.2.2.1, pw_cell_below hb hHeld.2.2.2.2.1, pw_cell_below hb hHeld.2.2.2.2.2.1, pw_cell_below hb hHeld.2.2.2.2.2.2.1, pw_cell_below hb hHeld.2.2.2.2.2.2.2.1, pw_cell_below hb hHeld.2.2.2.2.2.2.2.2.1, ⟨below_then hHeld.2.2.2.2.2.2.2.2.2.out hHeld.2.2.2.2.2.2.2.2.2.out.size hb⟩⟩ (fun hHeld => ?_)
  clear hK K
  refine norm_ (a' := ?_) ?_ ?_
  rotate_left
  · show Act.put _ (some 9) _ = _
    simp only [Act.put, List.setIfInBounds_toArray, List.set_cons_zero, List.set_cons_succ, i64_w, i32_w]
    rfl
  refine pure_ (i := 5) (N := some 10) (v := ?_) (a' := ?_) #[true, true, true, true, true, true, false, true, false, false, true, true, true, true, false, false, false, false] rfl rfl (by kernel_rfl) (fun _ _ _ h => h) (Or.inl ⟨by rfl, ?_⟩) ?_ ?_
  rotate_left
  · intro w'
    go_simp
    first | with_reducible rfl | (rw [if_neg (by (try simp only [ByteArray.size_append, sz1, sz2, hsg]); omega)]; try with_reducible rfl)
  rotate_left
  · simp only [Act.put, List.setIfInBounds_toArray, List.set_cons_zero, List.set_cons_succ, i64_w, i32_w]
    rfl
  refine pure_ (i := 6) (N := some 11) (v := ?_) (a' := ?_) #[true, true, true, true, true, true, true, true, false, false, true, true, true, true, false, false, false, false] rfl rfl (by kernel_rfl) (fun _ _ _ h => h) (Or.inl ⟨by rfl, ?_⟩) ?_ ?_
  rotate_left
  · intro w'
    go_simp
    first | with_reducible rfl | (rw [if_neg (by (try simp only [ByteArray.size_append, sz1, sz2, hsg]); omega)]; try with_reducible rfl)
  rotate_left
  · simp only [Act.put, List.setIfInBounds_toArray, List.set_cons_zero, List.set_cons_succ, i64_w, i32_w]
    rfl
  refine pure_ (i := 8) (N := some 13) (v := ?_) (a' := ?_) #[true, true, true, true, true, true, true, true, true, false, true, true, true, true, false, false, false, false] rfl rfl (by kernel_rfl) (fun _ _ _ h => h) (Or.inl ⟨by rfl, ?_⟩) ?_ ?_
  rotate_left
  · intro w'
    go_simp
    first | with_reducible rfl | (rw [if_neg (by (try simp only [ByteArray.size_append, sz1, sz2, hsg]); omega)]; try with_reducible rfl)
  rotate_left
  · simp only [Act.put, List.setIfInBounds_toArray, List.set_cons_zero, List.set_cons_succ, i64_w, i32_w]
    rfl
  refine pure_ (i := 9) (N := some 14) (v := ?_) (a' := ?_) #[true, true, true, true, true, true, true, true, true, true, true, true, true, true, false, false, false, false] rfl rfl (by kernel_rfl) (fun _ _ _ h => h) (Or.inl ⟨by rfl, ?_⟩) ?_ ?_
  rotate_left
  · intro w'
    go_simp
    first | with_reducible rfl | (rw [if_neg (by (try simp only [ByteArray.size_append, sz1, sz2, hsg]); omega)]; try with_reducible rfl)
  rotate_left
  · simp only [Act.put, List.setIfInBounds_toArray, List.set_cons_zero, List.set_cons_succ, i64_w, i32_w]
    rfl
  refine one_ (i := 14) (N := some 19) #[true, true, true, true, true, true, true, true, true, true, true, true, true, true, true, false, false, false] rfl rfl (by kernel_rfl) (by decide) (fun K hK => ?_)
  refine goes_ Tryd.func15 (by kernel_rfl) rfl #[.agg #[.int .i64 q1.f0, .int .i64 q1.f1, .slice K1 q1.f2.length d1, .slice J1 q1.f3.length b1]] (by rfl) rfl rfl (by simp only [List.map_toArray, List.map_cons, List.map_nil, Act.eval]; rfl) ?_
  refine (HK1.out _ hHeld.2.2.2.2.2.2.2.2.2.out).mono ?_
  rintro e1 w5 ⟨rfl, hb⟩
  refine ⟨_, rfl, ?_⟩
  refine hK.out _ _ ⟨pw_cell_below hb hHeld.1, pw_cell_below hb hHeld.2.1, pw_cell_below hb hHeld.2.2.1, pw_cell_below hb hHeld.2.2.2.1, pw_cell_below hb hHeld.2.2.2.2.1, pw_cell_below hb hHeld.2.2.2.2.2.1, pw_cell_below hb hHeld.2.2.2.2.2.2.1, pw_cell_below hb hHeld.2.2.2.2.2.2.2.1, pw_cell_below hb hHeld.2.2.2.2.2.2.2.2.1, ⟨below_then hHeld.2.2.2.2.2.2.2.2.2.out hHeld.2.2.2.2.2.2.2.2.2.out.size hb⟩⟩ (fun hHeld => ?_)
  clear hK K
  refine norm_ (a' := ?_) ?_ ?_
  rotate_left
  · show Act.put _ (some 19) _ = _
    simp only [Act.put, List.setIfInBounds_toArray, List.set_cons_zero, List.set_cons_succ, i64_w, i32_w]
    rfl
  refine pure_ (i := 15) (N := some 20) (v := ?_) (a' := ?_) #[true, true, true, true, true, true, true, true, true, true, true, true, true, true, true, true, false, false] rfl rfl (by kernel_rfl) (fun _ _ _ h => h) (Or.inl ⟨by rfl, ?_⟩) ?_ ?_
  rotate_left
  · intro w'
    go_simp
    first | with_reducible rfl | (rw [if_neg (by (try simp only [ByteArray.size_append, sz1, sz2, hsg]); omega)]; try with_reducible rfl)
  rotate_left
  · simp only [Act.put, List.setIfInBounds_toArray, List.set_cons_zero, List.set_cons_succ, i64_w, i32_w]
    rfl
  refine pure_ (i := 16) (N := some 21) (v := ?_) (a' := ?_) #[true, true, true, true, true, true, true, true, true, true, true, true, true, true, true, true, true, false] rfl rfl (by kernel_rfl) (fun _ _ _ h => h) (Or.inl ⟨by rfl, ?_⟩) ?_ ?_
  rotate_left
  · intro w'
    go_simp
    first | with_reducible rfl | (rw [if_neg (by (try simp only [ByteArray.size_append, sz1, sz2, hsg]); omega)]; try with_reducible rfl)
  rotate_left
  · simp only [Act.put, List.setIfInBounds_toArray, List.set_cons_zero, List.set_cons_succ, i64_w, i32_w]
    rfl
  refine pure_ (i := 17) (N := some 4) (v := ?_) (a' := ?_) #[true, true, true, true, true, true, true, true, true, true, true, true, true, true, true, true, true, true] rfl rfl (by kernel_rfl) (fun _ _ _ h => h) (Or.inl ⟨by rfl, ?_⟩) ?_ ?_
  rotate_left
  · intro w'
    go_simp
    first | with_reducible rfl | (rw [if_neg (by (try simp only [ByteArray.size_append, sz1, sz2, hsg]); omega)]; try with_reducible rfl)
  rotate_left
  · simp only [Act.put, List.setIfInBounds_toArray, List.set_cons_zero, List.set_cons_succ, i64_w, i32_w]
    rfl
  refine done_ (by kernel_rfl) ?_
  go_wp2
  go_ret
  exact ⟨rfl, hHeld.2.2.2.2.2.2.2.2.2.out⟩
set_option maxHeartbeats 8000000 in
set_option maxRecDepth 100000 in
theorem cond_and (n : Nat) (e : S33) (A2 A3 : Option Addr) (c2 c3 : Nat) (w : World) (hC2 : k30.C w A2 e.f2.length e.f2) (hc2 : e.f2.length ≤ c2) (hC3 : k33.C w A3 e.f3.length e.f3) (hc3 : e.f3.length ≤ c3) (ht : Tab w) (ih : ∀ (e : S33) (A2 A3 : Option Addr) (c2 c3 : Nat) (w : World), k30.C w A2 e.f2.length e.f2 → e.f2.length ≤ c2 → k33.C w A3 e.f3.length e.f3 → e.f3.length ≤ c3 → Tab w → SizeOf.sizeOf e ≤ n → okC n e → (condF n e).size ≤ 4611686018427387904 → Calls Tryd.prog 15 #[.agg #[.int .i64 e.f0, .int .i64 e.f1, .slice A2 e.f2.length c2, .slice A3 e.f3.length c3]] w fun r w' => r = .returned (.string (condF n e)) ∧ Below w.heap.size w w') (hs : SizeOf.sizeOf e ≤ n + 1) (ok : okC (n + 1) e) (hk : e.f0 = 3 ∧ 2 ≤ e.f3.length) (hsz : (condF (n + 1) e).size ≤ 4611686018427387904) :
    Calls Tryd.prog 15 #[.agg #[.int .i64 e.f0, .int .i64 e.f1, .slice A2 e.f2.length c2, .slice A3 e.f3.length c3]] w fun r w' => r = .returned (.string (condF (n + 1) e)) ∧ Below w.heap.size w w' := by
  have hv : condF (n + 1) e = ((((((⟨#[91]⟩ : ByteArray) ++ condF n (rd_T33 e.f3 0)) ++ (⟨#[32]⟩ : ByteArray)) ++ (⟨#[38, 38]⟩ : ByteArray)) ++ (⟨#[32]⟩ : ByteArray)) ++ condF n (rd_T33 e.f3 1)) ++ (⟨#[93]⟩ : ByteArray) := by
    simp only [condF]
    rw [if_neg (by omega), if_neg (by omega), if_neg (by omega), if_pos hk]
  rw [hv] at hsz ⊢
  have HO := Aside0.mk (fun (W : World) (hb : Below w.heap.size w W) => both_calls n e A2 A3 c2 c3 W (Kd.C_below hC2 hb) hc2 (Kd.C_below hC3 hb) hc3 (tab_on ht hb) ih hs ok (⟨#[38, 38]⟩ : ByteArray) rfl hk.2 hsz)
  obtain ⟨t, ht2⟩ : ∃ t, ((((((⟨#[91]⟩ : ByteArray) ++ condF n (rd_T33 e.f3 0)) ++ (⟨#[32]⟩ : ByteArray)) ++ (⟨#[38, 38]⟩ : ByteArray)) ++ (⟨#[32]⟩ : ByteArray)) ++ condF n (rd_T33 e.f3 1)) ++ (⟨#[93]⟩ : ByteArray) = t := ⟨_, rfl⟩
  rw [ht2] at HO ⊢
  have hn2 := hk.2
  have kb1 : (e.f0 == 1) = false := beq_eq_false_iff_ne.mpr (by omega)
  have kb2 : (e.f0 == 2) = false := beq_eq_false_iff_ne.mpr (by omega)
  have kb3 : (e.f0 == 3) = true := beq_iff_eq.mpr hk.1
  have kb4 : (e.f0 == 4) = false := beq_eq_false_iff_ne.mpr (by omega)
  clear hC2 hc2 hC3 hc3 hv ok ht hs ih hk hsz ht2
  go_enter Tryd.func15, Tryd.ntmps15
  go_wp2_with (first | ((with_reducible refine gate_dst (N := 1) rfl ?_); refine box_event ?hg (N := 1) ?hd (cs := #[.int .i64 e.f0, .int .i64 e.f1, .slice A2 e.f2.length c2, .slice A3 e.f3.length c3]) (t := 33) ?hr ?_; (case hd => rfl); (case hg => rfl); (case hr => first | (go_simp; done) | (go_simp; rfl)); intro ge hgg w1 hlit hb; have HG := Aside0.mk hlit; have HB1 := Aside0.mk hb; have hy0 : w1.cell? ⟨ge, 0, none⟩ = some (.int .i64 e.f0) := (blk_cell hlit 0).trans rfl; have hy1 : w1.cell? ⟨ge, 1, none⟩ = some (.int .i64 e.f1) := (blk_cell hlit 1).trans rfl; have hy2 : w1.cell? ⟨ge, 2, none⟩ = some (.slice A2 e.f2.length c2) := (blk_cell hlit 2).trans rfl; have hy3 : w1.cell? ⟨ge, 3, none⟩ = some (.slice A3 e.f3.length c3) := (blk_cell hlit 3).trans rfl; clear hlit hb hgg) | (go_at_call 31; (with_reducible refine (HO.out _ HB1.out).mono ?_); rintro e1 w2 ⟨rfl, hb⟩; have HB2 := Aside0.mk (below_then HB1.out HB1.out.size hb); clear hb))
  go_ret
  exact ⟨rfl, HB2.out⟩
set_option maxHeartbeats 8000000 in
set_option maxRecDepth 100000 in
theorem cond_or (n : Nat) (e : S33) (A2 A3 : Option Addr) (c2 c3 : Nat) (w : World) (hC2 : k30.C w A2 e.f2.length e.f2) (hc2 : e.f2.length ≤ c2) (hC3 : k33.C w A3 e.f3.length e.f3) (hc3 : e.f3.length ≤ c3) (ht : Tab w) (ih : ∀ (e : S33) (A2 A3 : Option Addr) (c2 c3 : Nat) (w : World), k30.C w A2 e.f2.length e.f2 → e.f2.length ≤ c2 → k33.C w A3 e.f3.length e.f3 → e.f3.length ≤ c3 → Tab w → SizeOf.sizeOf e ≤ n → okC n e → (condF n e).size ≤ 4611686018427387904 → Calls Tryd.prog 15 #[.agg #[.int .i64 e.f0, .int .i64 e.f1, .slice A2 e.f2.length c2, .slice A3 e.f3.length c3]] w fun r w' => r = .returned (.string (condF n e)) ∧ Below w.heap.size w w') (hs : SizeOf.sizeOf e ≤ n + 1) (ok : okC (n + 1) e) (hk : e.f0 = 4 ∧ 2 ≤ e.f3.length) (hsz : (condF (n + 1) e).size ≤ 4611686018427387904) :
    Calls Tryd.prog 15 #[.agg #[.int .i64 e.f0, .int .i64 e.f1, .slice A2 e.f2.length c2, .slice A3 e.f3.length c3]] w fun r w' => r = .returned (.string (condF (n + 1) e)) ∧ Below w.heap.size w w' := by
  have hv : condF (n + 1) e = ((((((⟨#[91]⟩ : ByteArray) ++ condF n (rd_T33 e.f3 0)) ++ (⟨#[32]⟩ : ByteArray)) ++ (⟨#[124, 124]⟩ : ByteArray)) ++ (⟨#[32]⟩ : ByteArray)) ++ condF n (rd_T33 e.f3 1)) ++ (⟨#[93]⟩ : ByteArray) := by
    simp only [condF]
    rw [if_neg (by omega), if_neg (by omega), if_neg (by omega), if_neg (by omega), if_pos hk]
  rw [hv] at hsz ⊢
  have HO := Aside0.mk (fun (W : World) (hb : Below w.heap.size w W) => both_calls n e A2 A3 c2 c3 W (Kd.C_below hC2 hb) hc2 (Kd.C_below hC3 hb) hc3 (tab_on ht hb) ih hs ok (⟨#[124, 124]⟩ : ByteArray) rfl hk.2 hsz)
  obtain ⟨t, ht2⟩ : ∃ t, ((((((⟨#[91]⟩ : ByteArray) ++ condF n (rd_T33 e.f3 0)) ++ (⟨#[32]⟩ : ByteArray)) ++ (⟨#[124, 124]⟩ : ByteArray)) ++ (⟨#[32]⟩ : ByteArray)) ++ condF n (rd_T33 e.f3 1)) ++ (⟨#[93]⟩ : ByteArray) = t := ⟨_, rfl⟩
  rw [ht2] at HO ⊢
  have hn2 := hk.2
  have kb1 : (e.f0 == 1) = false := beq_eq_false_iff_ne.mpr (by omega)
  have kb2 : (e.f0 == 2) = false := beq_eq_false_iff_ne.mpr (by omega)
  have kb3 : (e.f0 == 3) = false := beq_eq_false_iff_ne.mpr (by omega)
  have kb4 : (e.f0 == 4) = true := beq_iff_eq.mpr hk.1
  clear hC2 hc2 hC3 hc3 hv ok ht hs ih hk hsz ht2
  go_enter Tryd.func15, Tryd.ntmps15
  go_wp2_with (first | ((with_reducible refine gate_dst (N := 1) rfl ?_); refine box_event ?hg (N := 1) ?hd (cs := #[.int .i64 e.f0, .int .i64 e.f1, .slice A2 e.f2.length c2, .slice A3 e.f3.length c3]) (t := 33) ?hr ?_; (case hd => rfl); (case hg => rfl); (case hr => first | (go_simp; done) | (go_simp; rfl)); intro ge hgg w1 hlit hb; have HG := Aside0.mk hlit; have HB1 := Aside0.mk hb; have hy0 : w1.cell? ⟨ge, 0, none⟩ = some (.int .i64 e.f0) := (blk_cell hlit 0).trans rfl; have hy1 : w1.cell? ⟨ge, 1, none⟩ = some (.int .i64 e.f1) := (blk_cell hlit 1).trans rfl; have hy2 : w1.cell? ⟨ge, 2, none⟩ = some (.slice A2 e.f2.length c2) := (blk_cell hlit 2).trans rfl; have hy3 : w1.cell? ⟨ge, 3, none⟩ = some (.slice A3 e.f3.length c3) := (blk_cell hlit 3).trans rfl; clear hlit hb hgg) | (go_at_call 31; (with_reducible refine (HO.out _ HB1.out).mono ?_); rintro e1 w2 ⟨rfl, hb⟩; have HB2 := Aside0.mk (below_then HB1.out HB1.out.size hb); clear hb))
  go_ret
  exact ⟨rfl, HB2.out⟩
set_option maxHeartbeats 8000000 in
set_option maxRecDepth 100000 in
theorem cond_no0 (n : Nat) (e : S33) (A2 A3 : Option Addr) (c2 c3 : Nat) (w : World) (hC2 : k30.C w A2 e.f2.length e.f2) (hc2 : e.f2.length ≤ c2) (hC3 : k33.C w A3 e.f3.length e.f3) (hc3 : e.f3.length ≤ c3) (ht : Tab w) (hk : ¬ (1 ≤ e.f0 ∧ e.f0 ≤ 4)) :
    Calls Tryd.prog 15 #[.agg #[.int .i64 e.f0, .int .i64 e.f1, .slice A2 e.f2.length c2, .slice A3 e.f3.length c3]] w fun r w' => r = .returned (.string (condF (n + 1) e)) ∧ Below w.heap.size w w' := by
  have hv : condF (n + 1) e = (⟨#[63]⟩ : ByteArray) := by
    simp only [condF]
    rw [if_neg (by omega), if_neg (by omega), if_neg (by omega), if_neg (by omega), if_neg (by omega)]
  rw [hv]
  have kb1 : (e.f0 == 1) = false := beq_eq_false_iff_ne.mpr (by omega)
  have kb2 : (e.f0 == 2) = false := beq_eq_false_iff_ne.mpr (by omega)
  have kb3 : (e.f0 == 3) = false := beq_eq_false_iff_ne.mpr (by omega)
  have kb4 : (e.f0 == 4) = false := beq_eq_false_iff_ne.mpr (by omega)
  clear hC2 hc2 hC3 hc3 hv ht hk
  go_enter Tryd.func15, Tryd.ntmps15
  go_wp2_with (first | ((with_reducible refine gate_dst (N := 1) rfl ?_); refine box_event ?hg (N := 1) ?hd (cs := #[.int .i64 e.f0, .int .i64 e.f1, .slice A2 e.f2.length c2, .slice A3 e.f3.length c3]) (t := 33) ?hr ?_; (case hd => rfl); (case hg => rfl); (case hr => first | (go_simp; done) | (go_simp; rfl)); intro ge hgg w1 hlit hb; have HG := Aside0.mk hlit; have HB1 := Aside0.mk hb; have hy0 : w1.cell? ⟨ge, 0, none⟩ = some (.int .i64 e.f0) := (blk_cell hlit 0).trans rfl; have hy1 : w1.cell? ⟨ge, 1, none⟩ = some (.int .i64 e.f1) := (blk_cell hlit 1).trans rfl; have hy2 : w1.cell? ⟨ge, 2, none⟩ = some (.slice A2 e.f2.length c2) := (blk_cell hlit 2).trans rfl; have hy3 : w1.cell? ⟨ge, 3, none⟩ = some (.slice A3 e.f3.length c3) := (blk_cell hlit 3).trans rfl; clear hlit hb hgg))
  go_ret
  exact ⟨rfl, HB1.out⟩
set_option maxHeartbeats 8000000 in
set_option maxRecDepth 100000 in
theorem cond_no1a (n : Nat) (e : S33) (A2 A3 : Option Addr) (c2 c3 : Nat) (w : World) (hC2 : k30.C w A2 e.f2.length e.f2) (hc2 : e.f2.length ≤ c2) (hC3 : k33.C w A3 e.f3.length e.f3) (hc3 : e.f3.length ≤ c3) (ht : Tab w) (hk : e.f0 = 1 ∧ e.f2.length = 0) :
    Calls Tryd.prog 15 #[.agg #[.int .i64 e.f0, .int .i64 e.f1, .slice A2 e.f2.length c2, .slice A3 e.f3.length c3]] w fun r w' => r = .returned (.string (condF (n + 1) e)) ∧ Below w.heap.size w w' := by
  have hv : condF (n + 1) e = (⟨#[63]⟩ : ByteArray) := by
    simp only [condF]
    rw [if_neg (by omega), if_neg (by omega), if_neg (by omega), if_neg (by omega), if_neg (by omega)]
  rw [hv]
  have kb1 : (e.f0 == 1) = true := beq_iff_eq.mpr hk.1
  have kb2 : (e.f0 == 2) = false := beq_eq_false_iff_ne.mpr (by omega)
  have kb3 : (e.f0 == 3) = false := beq_eq_false_iff_ne.mpr (by omega)
  have kb4 : (e.f0 == 4) = false := beq_eq_false_iff_ne.mpr (by omega)
  have h0 := hk.2
  clear hC2 hc2 hC3 hc3 hv ht hk
  go_enter Tryd.func15, Tryd.ntmps15
  go_wp2_with (first | ((with_reducible refine gate_dst (N := 1) rfl ?_); refine box_event ?hg (N := 1) ?hd (cs := #[.int .i64 e.f0, .int .i64 e.f1, .slice A2 e.f2.length c2, .slice A3 e.f3.length c3]) (t := 33) ?hr ?_; (case hd => rfl); (case hg => rfl); (case hr => first | (go_simp; done) | (go_simp; rfl)); intro ge hgg w1 hlit hb; have HG := Aside0.mk hlit; have HB1 := Aside0.mk hb; have hy0 : w1.cell? ⟨ge, 0, none⟩ = some (.int .i64 e.f0) := (blk_cell hlit 0).trans rfl; have hy1 : w1.cell? ⟨ge, 1, none⟩ = some (.int .i64 e.f1) := (blk_cell hlit 1).trans rfl; have hy2 : w1.cell? ⟨ge, 2, none⟩ = some (.slice A2 e.f2.length c2) := (blk_cell hlit 2).trans rfl; have hy3 : w1.cell? ⟨ge, 3, none⟩ = some (.slice A3 e.f3.length c3) := (blk_cell hlit 3).trans rfl; clear hlit hb hgg))
  go_ret
  exact ⟨rfl, HB1.out⟩
set_option maxHeartbeats 8000000 in
set_option maxRecDepth 100000 in
theorem cond_no1b (n : Nat) (e : S33) (A2 A3 : Option Addr) (c2 c3 : Nat) (w : World) (hC2 : k30.C w A2 e.f2.length e.f2) (hc2 : e.f2.length ≤ c2) (hC3 : k33.C w A3 e.f3.length e.f3) (hc3 : e.f3.length ≤ c3) (ht : Tab w) (hk : e.f0 = 1 ∧ e.f2.length = 1) :
    Calls Tryd.prog 15 #[.agg #[.int .i64 e.f0, .int .i64 e.f1, .slice A2 e.f2.length c2, .slice A3 e.f3.length c3]] w fun r w' => r = .returned (.string (condF (n + 1) e)) ∧ Below w.heap.size w w' := by
  have hv : condF (n + 1) e = (⟨#[63]⟩ : ByteArray) := by
    simp only [condF]
    rw [if_neg (by omega), if_neg (by omega), if_neg (by omega), if_neg (by omega), if_neg (by omega)]
  rw [hv]
  have kb1 : (e.f0 == 1) = true := beq_iff_eq.mpr hk.1
  have kb2 : (e.f0 == 2) = false := beq_eq_false_iff_ne.mpr (by omega)
  have kb3 : (e.f0 == 3) = false := beq_eq_false_iff_ne.mpr (by omega)
  have kb4 : (e.f0 == 4) = false := beq_eq_false_iff_ne.mpr (by omega)
  have h0 := hk.2
  clear hC2 hc2 hC3 hc3 hv ht hk
  go_enter Tryd.func15, Tryd.ntmps15
  go_wp2_with (first | ((with_reducible refine gate_dst (N := 1) rfl ?_); refine box_event ?hg (N := 1) ?hd (cs := #[.int .i64 e.f0, .int .i64 e.f1, .slice A2 e.f2.length c2, .slice A3 e.f3.length c3]) (t := 33) ?hr ?_; (case hd => rfl); (case hg => rfl); (case hr => first | (go_simp; done) | (go_simp; rfl)); intro ge hgg w1 hlit hb; have HG := Aside0.mk hlit; have HB1 := Aside0.mk hb; have hy0 : w1.cell? ⟨ge, 0, none⟩ = some (.int .i64 e.f0) := (blk_cell hlit 0).trans rfl; have hy1 : w1.cell? ⟨ge, 1, none⟩ = some (.int .i64 e.f1) := (blk_cell hlit 1).trans rfl; have hy2 : w1.cell? ⟨ge, 2, none⟩ = some (.slice A2 e.f2.length c2) := (blk_cell hlit 2).trans rfl; have hy3 : w1.cell? ⟨ge, 3, none⟩ = some (.slice A3 e.f3.length c3) := (blk_cell hlit 3).trans rfl; clear hlit hb hgg))
  go_ret
  exact ⟨rfl, HB1.out⟩
set_option maxHeartbeats 8000000 in
set_option maxRecDepth 100000 in
theorem cond_no1c (n : Nat) (e : S33) (A2 A3 : Option Addr) (c2 c3 : Nat) (w : World) (hC2 : k30.C w A2 e.f2.length e.f2) (hc2 : e.f2.length ≤ c2) (hC3 : k33.C w A3 e.f3.length e.f3) (hc3 : e.f3.length ≤ c3) (ht : Tab w) (hk : e.f0 = 1 ∧ 2 ≤ e.f2.length ∧ ¬ (1 ≤ e.f1 ∧ e.f1 ≤ 6)) :
    Calls Tryd.prog 15 #[.agg #[.int .i64 e.f0, .int .i64 e.f1, .slice A2 e.f2.length c2, .slice A3 e.f3.length c3]] w fun r w' => r = .returned (.string (condF (n + 1) e)) ∧ Below w.heap.size w w' := by
  have hv : condF (n + 1) e = (⟨#[63]⟩ : ByteArray) := by
    simp only [condF]
    rw [if_neg (by omega), if_neg (by omega), if_neg (by omega), if_neg (by omega), if_neg (by omega)]
  rw [hv]
  have kb1 : (e.f0 == 1) = true := beq_iff_eq.mpr hk.1
  have kb2 : (e.f0 == 2) = false := beq_eq_false_iff_ne.mpr (by omega)
  have kb3 : (e.f0 == 3) = false := beq_eq_false_iff_ne.mpr (by omega)
  have kb4 : (e.f0 == 4) = false := beq_eq_false_iff_ne.mpr (by omega)
  have HO := Aside0.mk (fun (W : World) => rel_calls e.f1 (relB_none hk.2.2) W)
  have hn2 := hk.2.1
  clear hC2 hc2 hC3 hc3 hv ht hk
  go_enter Tryd.func15, Tryd.ntmps15
  go_wp2_with (first | ((with_reducible refine gate_dst (N := 1) rfl ?_); refine box_event ?hg (N := 1) ?hd (cs := #[.int .i64 e.f0, .int .i64 e.f1, .slice A2 e.f2.length c2, .slice A3 e.f3.length c3]) (t := 33) ?hr ?_; (case hd => rfl); (case hg => rfl); (case hr => first | (go_simp; done) | (go_simp; rfl)); intro ge hgg w1 hlit hb; have HG := Aside0.mk hlit; have HB1 := Aside0.mk hb; have hy0 : w1.cell? ⟨ge, 0, none⟩ = some (.int .i64 e.f0) := (blk_cell hlit 0).trans rfl; have hy1 : w1.cell? ⟨ge, 1, none⟩ = some (.int .i64 e.f1) := (blk_cell hlit 1).trans rfl; have hy2 : w1.cell? ⟨ge, 2, none⟩ = some (.slice A2 e.f2.length c2) := (blk_cell hlit 2).trans rfl; have hy3 : w1.cell? ⟨ge, 3, none⟩ = some (.slice A3 e.f3.length c3) := (blk_cell hlit 3).trans rfl; clear hlit hb hgg) | (go_at_call 30; (with_reducible refine (HO.out _).mono ?_); rintro e1 w2 ⟨rfl, hb⟩; have HB2 := Aside0.mk (below_then HB1.out HB1.out.size hb); have hx0 := pw_cell_below hb hy0; have hx1 := pw_cell_below hb hy1; have hx2 := pw_cell_below hb hy2; have hx3 := pw_cell_below hb hy3; clear hb))
  go_ret
  exact ⟨rfl, HB2.out⟩
set_option maxHeartbeats 8000000 in
set_option maxRecDepth 100000 in
theorem cond_no2 (n : Nat) (e : S33) (A2 A3 : Option Addr) (c2 c3 : Nat) (w : World) (hC2 : k30.C w A2 e.f2.length e.f2) (hc2 : e.f2.length ≤ c2) (hC3 : k33.C w A3 e.f3.length e.f3) (hc3 : e.f3.length ≤ c3) (ht : Tab w) (hk : e.f0 = 2 ∧ e.f3.length = 0) :
    Calls Tryd.prog 15 #[.agg #[.int .i64 e.f0, .int .i64 e.f1, .slice A2 e.f2.length c2, .slice A3 e.f3.length c3]] w fun r w' => r = .returned (.string (condF (n + 1) e)) ∧ Below w.heap.size w w' := by
  have hv : condF (n + 1) e = (⟨#[63]⟩ : ByteArray) := by
    simp only [condF]
    rw [if_neg (by omega), if_neg (by omega), if_neg (by omega), if_neg (by omega), if_neg (by omega)]
  rw [hv]
  have kb1 : (e.f0 == 1) = false := beq_eq_false_iff_ne.mpr (by omega)
  have kb2 : (e.f0 == 2) = true := beq_iff_eq.mpr hk.1
  have kb3 : (e.f0 == 3) = false := beq_eq_false_iff_ne.mpr (by omega)
  have kb4 : (e.f0 == 4) = false := beq_eq_false_iff_ne.mpr (by omega)
  have h0 := hk.2
  clear hC2 hc2 hC3 hc3 hv ht hk
  go_enter Tryd.func15, Tryd.ntmps15
  go_wp2_with (first | ((with_reducible refine gate_dst (N := 1) rfl ?_); refine box_event ?hg (N := 1) ?hd (cs := #[.int .i64 e.f0, .int .i64 e.f1, .slice A2 e.f2.length c2, .slice A3 e.f3.length c3]) (t := 33) ?hr ?_; (case hd => rfl); (case hg => rfl); (case hr => first | (go_simp; done) | (go_simp; rfl)); intro ge hgg w1 hlit hb; have HG := Aside0.mk hlit; have HB1 := Aside0.mk hb; have hy0 : w1.cell? ⟨ge, 0, none⟩ = some (.int .i64 e.f0) := (blk_cell hlit 0).trans rfl; have hy1 : w1.cell? ⟨ge, 1, none⟩ = some (.int .i64 e.f1) := (blk_cell hlit 1).trans rfl; have hy2 : w1.cell? ⟨ge, 2, none⟩ = some (.slice A2 e.f2.length c2) := (blk_cell hlit 2).trans rfl; have hy3 : w1.cell? ⟨ge, 3, none⟩ = some (.slice A3 e.f3.length c3) := (blk_cell hlit 3).trans rfl; clear hlit hb hgg))
  go_ret
  exact ⟨rfl, HB1.out⟩
set_option maxHeartbeats 8000000 in
set_option maxRecDepth 100000 in
theorem cond_no3a (n : Nat) (e : S33) (A2 A3 : Option Addr) (c2 c3 : Nat) (w : World) (hC2 : k30.C w A2 e.f2.length e.f2) (hc2 : e.f2.length ≤ c2) (hC3 : k33.C w A3 e.f3.length e.f3) (hc3 : e.f3.length ≤ c3) (ht : Tab w) (hk : e.f0 = 3 ∧ e.f3.length = 0) :
    Calls Tryd.prog 15 #[.agg #[.int .i64 e.f0, .int .i64 e.f1, .slice A2 e.f2.length c2, .slice A3 e.f3.length c3]] w fun r w' => r = .returned (.string (condF (n + 1) e)) ∧ Below w.heap.size w w' := by
  have hv : condF (n + 1) e = (⟨#[63]⟩ : ByteArray) := by
    simp only [condF]
    rw [if_neg (by omega), if_neg (by omega), if_neg (by omega), if_neg (by omega), if_neg (by omega)]
  rw [hv]
  have kb1 : (e.f0 == 1) = false := beq_eq_false_iff_ne.mpr (by omega)
  have kb2 : (e.f0 == 2) = false := beq_eq_false_iff_ne.mpr (by omega)
  have kb3 : (e.f0 == 3) = true := beq_iff_eq.mpr hk.1
  have kb4 : (e.f0 == 4) = false := beq_eq_false_iff_ne.mpr (by omega)
  have h0 := hk.2
  clear hC2 hc2 hC3 hc3 hv ht hk
  go_enter Tryd.func15, Tryd.ntmps15
  go_wp2_with (first | ((with_reducible refine gate_dst (N := 1) rfl ?_); refine box_event ?hg (N := 1) ?hd (cs := #[.int .i64 e.f0, .int .i64 e.f1, .slice A2 e.f2.length c2, .slice A3 e.f3.length c3]) (t := 33) ?hr ?_; (case hd => rfl); (case hg => rfl); (case hr => first | (go_simp; done) | (go_simp; rfl)); intro ge hgg w1 hlit hb; have HG := Aside0.mk hlit; have HB1 := Aside0.mk hb; have hy0 : w1.cell? ⟨ge, 0, none⟩ = some (.int .i64 e.f0) := (blk_cell hlit 0).trans rfl; have hy1 : w1.cell? ⟨ge, 1, none⟩ = some (.int .i64 e.f1) := (blk_cell hlit 1).trans rfl; have hy2 : w1.cell? ⟨ge, 2, none⟩ = some (.slice A2 e.f2.length c2) := (blk_cell hlit 2).trans rfl; have hy3 : w1.cell? ⟨ge, 3, none⟩ = some (.slice A3 e.f3.length c3) := (blk_cell hlit 3).trans rfl; clear hlit hb hgg))
  go_ret
  exact ⟨rfl, HB1.out⟩
set_option maxHeartbeats 8000000 in
set_option maxRecDepth 100000 in
theorem cond_no3b (n : Nat) (e : S33) (A2 A3 : Option Addr) (c2 c3 : Nat) (w : World) (hC2 : k30.C w A2 e.f2.length e.f2) (hc2 : e.f2.length ≤ c2) (hC3 : k33.C w A3 e.f3.length e.f3) (hc3 : e.f3.length ≤ c3) (ht : Tab w) (hk : e.f0 = 3 ∧ e.f3.length = 1) :
    Calls Tryd.prog 15 #[.agg #[.int .i64 e.f0, .int .i64 e.f1, .slice A2 e.f2.length c2, .slice A3 e.f3.length c3]] w fun r w' => r = .returned (.string (condF (n + 1) e)) ∧ Below w.heap.size w w' := by
  have hv : condF (n + 1) e = (⟨#[63]⟩ : ByteArray) := by
    simp only [condF]
    rw [if_neg (by omega), if_neg (by omega), if_neg (by omega), if_neg (by omega), if_neg (by omega)]
  rw [hv]
  have kb1 : (e.f0 == 1) = false := beq_eq_false_iff_ne.mpr (by omega)
  have kb2 : (e.f0 == 2) = false := beq_eq_false_iff_ne.mpr (by omega)
  have kb3 : (e.f0 == 3) = true := beq_iff_eq.mpr hk.1
  have kb4 : (e.f0 == 4) = false := beq_eq_false_iff_ne.mpr (by omega)
  have h0 := hk.2
  clear hC2 hc2 hC3 hc3 hv ht hk
  go_enter Tryd.func15, Tryd.ntmps15
  go_wp2_with (first | ((with_reducible refine gate_dst (N := 1) rfl ?_); refine box_event ?hg (N := 1) ?hd (cs := #[.int .i64 e.f0, .int .i64 e.f1, .slice A2 e.f2.length c2, .slice A3 e.f3.length c3]) (t := 33) ?hr ?_; (case hd => rfl); (case hg => rfl); (case hr => first | (go_simp; done) | (go_simp; rfl)); intro ge hgg w1 hlit hb; have HG := Aside0.mk hlit; have HB1 := Aside0.mk hb; have hy0 : w1.cell? ⟨ge, 0, none⟩ = some (.int .i64 e.f0) := (blk_cell hlit 0).trans rfl; have hy1 : w1.cell? ⟨ge, 1, none⟩ = some (.int .i64 e.f1) := (blk_cell hlit 1).trans rfl; have hy2 : w1.cell? ⟨ge, 2, none⟩ = some (.slice A2 e.f2.length c2) := (blk_cell hlit 2).trans rfl; have hy3 : w1.cell? ⟨ge, 3, none⟩ = some (.slice A3 e.f3.length c3) := (blk_cell hlit 3).trans rfl; clear hlit hb hgg))
  go_ret
  exact ⟨rfl, HB1.out⟩
set_option maxHeartbeats 8000000 in
set_option maxRecDepth 100000 in
theorem cond_no4a (n : Nat) (e : S33) (A2 A3 : Option Addr) (c2 c3 : Nat) (w : World) (hC2 : k30.C w A2 e.f2.length e.f2) (hc2 : e.f2.length ≤ c2) (hC3 : k33.C w A3 e.f3.length e.f3) (hc3 : e.f3.length ≤ c3) (ht : Tab w) (hk : e.f0 = 4 ∧ e.f3.length = 0) :
    Calls Tryd.prog 15 #[.agg #[.int .i64 e.f0, .int .i64 e.f1, .slice A2 e.f2.length c2, .slice A3 e.f3.length c3]] w fun r w' => r = .returned (.string (condF (n + 1) e)) ∧ Below w.heap.size w w' := by
  have hv : condF (n + 1) e = (⟨#[63]⟩ : ByteArray) := by
    simp only [condF]
    rw [if_neg (by omega), if_neg (by omega), if_neg (by omega), if_neg (by omega), if_neg (by omega)]
  rw [hv]
  have kb1 : (e.f0 == 1) = false := beq_eq_false_iff_ne.mpr (by omega)
  have kb2 : (e.f0 == 2) = false := beq_eq_false_iff_ne.mpr (by omega)
  have kb3 : (e.f0 == 3) = false := beq_eq_false_iff_ne.mpr (by omega)
  have kb4 : (e.f0 == 4) = true := beq_iff_eq.mpr hk.1
  have h0 := hk.2
  clear hC2 hc2 hC3 hc3 hv ht hk
  go_enter Tryd.func15, Tryd.ntmps15
  go_wp2_with (first | ((with_reducible refine gate_dst (N := 1) rfl ?_); refine box_event ?hg (N := 1) ?hd (cs := #[.int .i64 e.f0, .int .i64 e.f1, .slice A2 e.f2.length c2, .slice A3 e.f3.length c3]) (t := 33) ?hr ?_; (case hd => rfl); (case hg => rfl); (case hr => first | (go_simp; done) | (go_simp; rfl)); intro ge hgg w1 hlit hb; have HG := Aside0.mk hlit; have HB1 := Aside0.mk hb; have hy0 : w1.cell? ⟨ge, 0, none⟩ = some (.int .i64 e.f0) := (blk_cell hlit 0).trans rfl; have hy1 : w1.cell? ⟨ge, 1, none⟩ = some (.int .i64 e.f1) := (blk_cell hlit 1).trans rfl; have hy2 : w1.cell? ⟨ge, 2, none⟩ = some (.slice A2 e.f2.length c2) := (blk_cell hlit 2).trans rfl; have hy3 : w1.cell? ⟨ge, 3, none⟩ = some (.slice A3 e.f3.length c3) := (blk_cell hlit 3).trans rfl; clear hlit hb hgg))
  go_ret
  exact ⟨rfl, HB1.out⟩
set_option maxHeartbeats 8000000 in
set_option maxRecDepth 100000 in
theorem cond_no4b (n : Nat) (e : S33) (A2 A3 : Option Addr) (c2 c3 : Nat) (w : World) (hC2 : k30.C w A2 e.f2.length e.f2) (hc2 : e.f2.length ≤ c2) (hC3 : k33.C w A3 e.f3.length e.f3) (hc3 : e.f3.length ≤ c3) (ht : Tab w) (hk : e.f0 = 4 ∧ e.f3.length = 1) :
    Calls Tryd.prog 15 #[.agg #[.int .i64 e.f0, .int .i64 e.f1, .slice A2 e.f2.length c2, .slice A3 e.f3.length c3]] w fun r w' => r = .returned (.string (condF (n + 1) e)) ∧ Below w.heap.size w w' := by
  have hv : condF (n + 1) e = (⟨#[63]⟩ : ByteArray) := by
    simp only [condF]
    rw [if_neg (by omega), if_neg (by omega), if_neg (by omega), if_neg (by omega), if_neg (by omega)]
  rw [hv]
  have kb1 : (e.f0 == 1) = false := beq_eq_false_iff_ne.mpr (by omega)
  have kb2 : (e.f0 == 2) = false := beq_eq_false_iff_ne.mpr (by omega)
  have kb3 : (e.f0 == 3) = false := beq_eq_false_iff_ne.mpr (by omega)
  have kb4 : (e.f0 == 4) = true := beq_iff_eq.mpr hk.1
  have h0 := hk.2
  clear hC2 hc2 hC3 hc3 hv ht hk
  go_enter Tryd.func15, Tryd.ntmps15
  go_wp2_with (first | ((with_reducible refine gate_dst (N := 1) rfl ?_); refine box_event ?hg (N := 1) ?hd (cs := #[.int .i64 e.f0, .int .i64 e.f1, .slice A2 e.f2.length c2, .slice A3 e.f3.length c3]) (t := 33) ?hr ?_; (case hd => rfl); (case hg => rfl); (case hr => first | (go_simp; done) | (go_simp; rfl)); intro ge hgg w1 hlit hb; have HG := Aside0.mk hlit; have HB1 := Aside0.mk hb; have hy0 : w1.cell? ⟨ge, 0, none⟩ = some (.int .i64 e.f0) := (blk_cell hlit 0).trans rfl; have hy1 : w1.cell? ⟨ge, 1, none⟩ = some (.int .i64 e.f1) := (blk_cell hlit 1).trans rfl; have hy2 : w1.cell? ⟨ge, 2, none⟩ = some (.slice A2 e.f2.length c2) := (blk_cell hlit 2).trans rfl; have hy3 : w1.cell? ⟨ge, 3, none⟩ = some (.slice A3 e.f3.length c3) := (blk_cell hlit 3).trans rfl; clear hlit hb hgg))
  go_ret
  exact ⟨rfl, HB1.out⟩
/-- show.Cond answers condF, with as much fuel as the condition is large. -/
theorem cond_calls : ∀ (n : Nat) (e : S33) (A2 A3 : Option Addr) (c2 c3 : Nat) (w : World), k30.C w A2 e.f2.length e.f2 → e.f2.length ≤ c2 → k33.C w A3 e.f3.length e.f3 → e.f3.length ≤ c3 → Tab w → SizeOf.sizeOf e ≤ n → okC n e → (condF n e).size ≤ 4611686018427387904 → Calls Tryd.prog 15 #[.agg #[.int .i64 e.f0, .int .i64 e.f1, .slice A2 e.f2.length c2, .slice A3 e.f3.length c3]] w fun r w' => r = .returned (.string (condF n e)) ∧ Below w.heap.size w w'
  | 0, e, A2, A3, c2, c3, w, hC2, hc2, hC3, hc3, ht, hs, ok, hsz => by
    obtain ⟨a, b, c, d⟩ := e
    simp only [S33.mk.sizeOf_spec] at hs
    omega
  | n + 1, e, A2, A3, c2, c3, w, hC2, hc2, hC3, hc3, ht, hs, ok, hsz => by
    have ih := cond_calls n
    by_cases k1 : e.f0 = 1
    · by_cases h2 : 2 ≤ e.f2.length
      · by_cases ho : 1 ≤ e.f1 ∧ e.f1 ≤ 6
        · exact cond_rel n e A2 A3 c2 c3 w hC2 hc2 hC3 hc3 ht ok ⟨k1, h2, ho⟩ hsz
        · exact cond_no1c n e A2 A3 c2 c3 w hC2 hc2 hC3 hc3 ht ⟨k1, h2, ho⟩
      · rcases Nat.eq_zero_or_pos e.f2.length with h | h
        · exact cond_no1a n e A2 A3 c2 c3 w hC2 hc2 hC3 hc3 ht ⟨k1, h⟩
        · exact cond_no1b n e A2 A3 c2 c3 w hC2 hc2 hC3 hc3 ht ⟨k1, by omega⟩
    by_cases k2 : e.f0 = 2
    · rcases Nat.eq_zero_or_pos e.f3.length with h | h
      · exact cond_no2 n e A2 A3 c2 c3 w hC2 hc2 hC3 hc3 ht ⟨k2, h⟩
      · by_cases hq : (rd_T33 e.f3 0).f0 = 1
        · exact cond_notr n e A2 A3 c2 c3 w hC2 hc2 hC3 hc3 ht ih hs ok ⟨k2, h, hq⟩ hsz
        · exact cond_not n e A2 A3 c2 c3 w hC2 hc2 hC3 hc3 ht ih hs ok ⟨k2, h, hq⟩ hsz
    by_cases k3 : e.f0 = 3
    · by_cases h2 : 2 ≤ e.f3.length
      · exact cond_and n e A2 A3 c2 c3 w hC2 hc2 hC3 hc3 ht ih hs ok ⟨k3, h2⟩ hsz
      · rcases Nat.eq_zero_or_pos e.f3.length with h | h
        · exact cond_no3a n e A2 A3 c2 c3 w hC2 hc2 hC3 hc3 ht ⟨k3, h⟩
        · exact cond_no3b n e A2 A3 c2 c3 w hC2 hc2 hC3 hc3 ht ⟨k3, by omega⟩
    by_cases k4 : e.f0 = 4
    · by_cases h2 : 2 ≤ e.f3.length
      · exact cond_or n e A2 A3 c2 c3 w hC2 hc2 hC3 hc3 ht ih hs ok ⟨k4, h2⟩ hsz
      · rcases Nat.eq_zero_or_pos e.f3.length with h | h
        · exact cond_no4a n e A2 A3 c2 c3 w hC2 hc2 hC3 hc3 ht ⟨k4, h⟩
        · exact cond_no4b n e A2 A3 c2 c3 w hC2 hc2 hC3 hc3 ht ⟨k4, by omega⟩
    exact cond_no0 n e A2 A3 c2 c3 w hC2 hc2 hC3 hc3 ht (by omega)
noncomputable abbrev condS (e : S33) : ByteArray := condF (SizeOf.sizeOf e) e
abbrev okCs (e : S33) : Prop := okC (SizeOf.sizeOf e) e
end Go.Proofs.YtfeaekdhpkdljaaDoor.Sh
