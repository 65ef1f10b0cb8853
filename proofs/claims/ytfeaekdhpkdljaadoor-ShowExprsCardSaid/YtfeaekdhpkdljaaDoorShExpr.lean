/- show.Expr: an expression as a text. -/
import Derived.Test.YtfeaekdhpkdljaaDoorShBld
import Derived.Test.YtfeaekdhpkdljaaDoorShItoa
import Derived.Test.YtfeaekdhpkdljaaDoorShF29
import Derived.Test.YtfeaekdhpkdljaaDoorShF30
import Derived.Lib.SmallJoins
namespace Go.Proofs.YtfeaekdhpkdljaaDoor.Sh
open Go.RowKit Go.Proofs.YtfeaekdhpkdljaaDoorW.PrintWords Go.Proofs.YtfeaekdhpkdljaaDoorW.PrintLast
set_option linter.unusedVariables false
set_option linter.unusedSimpArgs false
def bm (n m : Nat) : Array Bool := ((List.range n).map fun i => m.testBit i).toArray
/-- The table that strconv.Itoa reads. -/
abbrev Tab (w : World) : Prop := Lib.TabIs Tryd.prog w "internal/strconv.uint64pow10" .u64 Lib.pow10Tab
theorem tab_on {w w' : World} (h : Tab w) (hb : Below w.heap.size w w') : Tab w' := Go.Joins.tab_stays (show Tryd.prog.globalNamed "internal/strconv.uint64pow10" = some 0 by kernel_rfl) h hb (Nat.le_refl _)
theorem below_grow (q : Nat) (os : Array Obj) (w : World) : Below w.heap.size w (Go.Sort.grow (w.drewN q) os) :=
  ⟨rfl, rfl, rfl, by simp [Go.Sort.grow], fun i hi => by
    show ((w.drewN q).heap ++ os)[i]? = _
    rw [Array.getElem?_append_left (by show i < w.heap.size; omega)]
    rfl⟩
def itoaB (n : Int) : ByteArray := ⟨(Lib.itoa n).toArray⟩
theorem itoa_calls (n : Int) (h0 : -9223372036854775808 ≤ n) (h1 : n ≤ 9223372036854775807) (w : World) (ht : Tab w) :
    Calls Tryd.prog 24 #[.int .i64 n] w fun e w' => e = .returned (.string (itoaB n)) ∧ Below w.heap.size w w' :=
  (Tryd.strconv_Itoa n h0 h1 w ht).mono fun e w' h => by
    obtain ⟨he, k, os, rfl⟩ := h
    exact ⟨he, below_grow k os w⟩
def opB (n : Int) : ByteArray := if n = 1 then (⟨#[43]⟩ : ByteArray) else if n = 2 then (⟨#[45]⟩ : ByteArray) else if n = 3 then (⟨#[42]⟩ : ByteArray) else if n = 4 then (⟨#[47]⟩ : ByteArray) else if n = 5 then (⟨#[37]⟩ : ByteArray) else (⟨#[63]⟩ : ByteArray)
theorem op_calls (n : Int) {s : ByteArray} (hs : opB n = s) (w : World) : Calls Tryd.prog 29 #[.int .i64 n] w fun e w' => e = .returned (.string s) ∧ Below w.heap.size w w' := by
  subst hs
  refine show_op.calls n (opB n) w ?_
  simp only [show_op.f, show_among.f]
  unfold opB
  by_cases h0 : n < 1
  · rw [if_pos h0, if_neg (by omega), if_neg (by omega), if_neg (by omega), if_neg (by omega), if_neg (by omega)]; rfl
  · by_cases h6 : n > 5
    · rw [if_neg h0, if_pos (by simpa using h6), if_neg (by omega), if_neg (by omega), if_neg (by omega), if_neg (by omega), if_neg (by omega)]; rfl
    · have hw : wrap64 (n - 1) = n - 1 := by unfold wrap64; omega
      rw [hw]
      rcases (by omega : n = 1 ∨ n = 2 ∨ n = 3 ∨ n = 4 ∨ n = 5) with h | h | h | h | h <;> subst h <;> rfl
def exprF : Nat → S30 → ByteArray
  | 0, _ => (⟨#[63]⟩ : ByteArray)
  | n + 1, e => if e.f0 = 1 then itoaB e.f1 else if e.f0 = 2 then e.f3
    else if e.f0 = 3 ∧ (1 : Int) ≤ (e.f4.length : Int) then ((e.f3 ++ (⟨#[91]⟩ : ByteArray)) ++ exprF n (rd_T30 e.f4 0)) ++ (⟨#[93]⟩ : ByteArray)
    else if e.f0 = 4 then (⟨#[105, 110, 112, 117, 116]⟩ : ByteArray)
    else if e.f0 = 5 ∧ (2 : Int) ≤ (e.f4.length : Int) ∧ 1 ≤ e.f2 ∧ e.f2 ≤ 5 then ((((((⟨#[40]⟩ : ByteArray) ++ exprF n (rd_T30 e.f4 0)) ++ (⟨#[32]⟩ : ByteArray)) ++ opB e.f2) ++ (⟨#[32]⟩ : ByteArray)) ++ exprF n (rd_T30 e.f4 1)) ++ (⟨#[41]⟩ : ByteArray)
    else if e.f0 = 6 ∧ (1 : Int) ≤ (e.f4.length : Int) then (⟨#[45]⟩ : ByteArray) ++ exprF n (rd_T30 e.f4 0) else (⟨#[63]⟩ : ByteArray)
def okF : Nat → S30 → Prop
  | 0, _ => True
  | n + 1, e => (-9223372036854775808 ≤ e.f1 ∧ e.f1 ≤ 9223372036854775807) ∧ ∀ x ∈ e.f4, okF n x
theorem kid_size (e : S30) (i : Nat) (h : i < e.f4.length) : SizeOf.sizeOf (rd_T30 e.f4 (i : Int)) < SizeOf.sizeOf e := by
  have hm : rd_T30 e.f4 (i : Int) = e.f4[i] := by simp [rd_T30, h]
  rw [hm]
  have h1 := List.sizeOf_lt_of_mem (List.getElem_mem h)
  obtain ⟨a, b, c, d, l⟩ := e
  simp only [S30.mk.sizeOf_spec]
  simp only at h1 h ⊢
  omega
theorem kid_ok {n : Nat} {e : S30} (h : okF (n + 1) e) (i : Nat) (hi : i < e.f4.length) : okF n (rd_T30 e.f4 (i : Int)) := by
  have hm : rd_T30 e.f4 (i : Int) = e.f4[i] := by simp [rd_T30, hi]
  rw [hm]
  exact h.2 _ (List.getElem_mem hi)
theorem opB_none {n : Int} (h : ¬ (1 ≤ n ∧ n ≤ 5)) : opB n = (⟨#[63]⟩ : ByteArray) := by
  unfold opB
  rw [if_neg (by omega), if_neg (by omega), if_neg (by omega), if_neg (by omega), if_neg (by omega)]
theorem sz1 (c : UInt8) : (⟨#[c]⟩ : ByteArray).size = 1 := rfl
theorem opB_list {n : Int} (h : 1 ≤ n ∧ n ≤ 5) : (!(opB n).toList == [63]) = true := by
  rcases (by omega : n = 1 ∨ n = 2 ∨ n = 3 ∨ n = 4 ∨ n = 5) with h | h | h | h | h <;> subst h <;> first | rfl | (simp [opB]; done) | kernel_rfl
theorem opB_size (n : Int) : (opB n).size = 1 := by
  unfold opB
  repeat (split; rfl)
  rfl
set_option maxHeartbeats 8000000 in
set_option maxRecDepth 100000 in
theorem expr_num (n : Nat) (e : S30) (A : Option Addr) (c : Nat) (w : World) (hC : k30.C w A e.f4.length e.f4) (hc : e.f4.length ≤ c) (ht : Tab w) (hk : e.f0 = 1) (h0 : -9223372036854775808 ≤ e.f1 ∧ e.f1 ≤ 9223372036854775807) :
    Calls Tryd.prog 13 #[.agg #[.int .i64 e.f0, .int .i64 e.f1, .int .i64 e.f2, .string e.f3, .slice A e.f4.length c]] w fun r w' => r = .returned (.string (exprF (n + 1) e)) ∧ Below w.heap.size w w' := by
  have hv : exprF (n + 1) e = itoaB e.f1 := by
    simp only [exprF]
    rw [if_pos hk]
  rw [hv]
  have HI := Aside0.mk (fun (W : World) (hb : Below w.heap.size w W) => itoa_calls e.f1 h0.1 h0.2 W (tab_on ht hb))
  have kb1 : (e.f0 == 1) = true := beq_iff_eq.mpr hk
  have kb2 : (e.f0 == 2) = false := beq_eq_false_iff_ne.mpr (by omega)
  have kb3 : (e.f0 == 3) = false := beq_eq_false_iff_ne.mpr (by omega)
  have kb4 : (e.f0 == 4) = false := beq_eq_false_iff_ne.mpr (by omega)
  have kb5 : (e.f0 == 5) = false := beq_eq_false_iff_ne.mpr (by omega)
  have kb6 : (e.f0 == 6) = false := beq_eq_false_iff_ne.mpr (by omega)
  clear hC hc hk hv h0 ht
  go_enter Tryd.func13, Tryd.ntmps13
  go_wp2_with (first | ((with_reducible refine gate_dst (N := 1) rfl ?_); refine box_event ?hg (N := 1) ?hd (cs := #[.int .i64 e.f0, .int .i64 e.f1, .int .i64 e.f2, .string e.f3, .slice A e.f4.length c]) (t := 30) ?hr ?_; (case hd => rfl); (case hg => rfl); (case hr => first | (go_simp; done) | (go_simp; rfl)); intro ge hgg w1 hlit hb; have HG := Aside0.mk hlit; have HB1 := Aside0.mk hb; have hy0 : w1.cell? ⟨ge, 0, none⟩ = some (.int .i64 e.f0) := (blk_cell hlit 0).trans rfl; have hy1 : w1.cell? ⟨ge, 1, none⟩ = some (.int .i64 e.f1) := (blk_cell hlit 1).trans rfl; have hy2 : w1.cell? ⟨ge, 2, none⟩ = some (.int .i64 e.f2) := (blk_cell hlit 2).trans rfl; have hy3 : w1.cell? ⟨ge, 3, none⟩ = some (.string e.f3) := (blk_cell hlit 3).trans rfl; have hy4 : w1.cell? ⟨ge, 4, none⟩ = some (.slice A e.f4.length c) := (blk_cell hlit 4).trans rfl; clear hlit hb hgg) | (go_at_call 24; (with_reducible refine (HI.out _ HB1.out).mono ?_); rintro r w2 ⟨rfl, hb⟩; have HB2 := Aside0.mk (below_then HB1.out HB1.out.size hb); clear hb))
  go_ret
  exact ⟨rfl, HB2.out⟩
set_option maxHeartbeats 8000000 in
set_option maxRecDepth 100000 in
theorem expr_var (n : Nat) (e : S30) (A : Option Addr) (c : Nat) (w : World) (hC : k30.C w A e.f4.length e.f4) (hc : e.f4.length ≤ c) (ht : Tab w) (hk : e.f0 = 2) :
    Calls Tryd.prog 13 #[.agg #[.int .i64 e.f0, .int .i64 e.f1, .int .i64 e.f2, .string e.f3, .slice A e.f4.length c]] w fun r w' => r = .returned (.string (exprF (n + 1) e)) ∧ Below w.heap.size w w' := by
  have hv : exprF (n + 1) e = e.f3 := by
    simp only [exprF]
    rw [if_neg (by omega), if_pos hk]
  rw [hv]
  have kb1 : (e.f0 == 1) = false := beq_eq_false_iff_ne.mpr (by omega)
  have kb2 : (e.f0 == 2) = true := beq_iff_eq.mpr hk
  have kb3 : (e.f0 == 3) = false := beq_eq_false_iff_ne.mpr (by omega)
  have kb4 : (e.f0 == 4) = false := beq_eq_false_iff_ne.mpr (by omega)
  have kb5 : (e.f0 == 5) = false := beq_eq_false_iff_ne.mpr (by omega)
  have kb6 : (e.f0 == 6) = false := beq_eq_false_iff_ne.mpr (by omega)
  clear hC hc hk hv ht
  go_enter Tryd.func13, Tryd.ntmps13
  go_wp2_with (first | ((with_reducible refine gate_dst (N := 1) rfl ?_); refine box_event ?hg (N := 1) ?hd (cs := #[.int .i64 e.f0, .int .i64 e.f1, .int .i64 e.f2, .string e.f3, .slice A e.f4.length c]) (t := 30) ?hr ?_; (case hd => rfl); (case hg => rfl); (case hr => first | (go_simp; done) | (go_simp; rfl)); intro ge hgg w1 hlit hb; have HG := Aside0.mk hlit; have HB1 := Aside0.mk hb; have hy0 : w1.cell? ⟨ge, 0, none⟩ = some (.int .i64 e.f0) := (blk_cell hlit 0).trans rfl; have hy1 : w1.cell? ⟨ge, 1, none⟩ = some (.int .i64 e.f1) := (blk_cell hlit 1).trans rfl; have hy2 : w1.cell? ⟨ge, 2, none⟩ = some (.int .i64 e.f2) := (blk_cell hlit 2).trans rfl; have hy3 : w1.cell? ⟨ge, 3, none⟩ = some (.string e.f3) := (blk_cell hlit 3).trans rfl; have hy4 : w1.cell? ⟨ge, 4, none⟩ = some (.slice A e.f4.length c) := (blk_cell hlit 4).trans rfl; clear hlit hb hgg))
  go_ret
  exact ⟨rfl, HB1.out⟩
set_option maxHeartbeats 8000000 in
set_option maxRecDepth 100000 in
theorem expr_inp (n : Nat) (e : S30) (A : Option Addr) (c : Nat) (w : World) (hC : k30.C w A e.f4.length e.f4) (hc : e.f4.length ≤ c) (ht : Tab w) (hk : e.f0 = 4) :
    Calls Tryd.prog 13 #[.agg #[.int .i64 e.f0, .int .i64 e.f1, .int .i64 e.f2, .string e.f3, .slice A e.f4.length c]] w fun r w' => r = .returned (.string (exprF (n + 1) e)) ∧ Below w.heap.size w w' := by
  have hv : exprF (n + 1) e = (⟨#[105, 110, 112, 117, 116]⟩ : ByteArray) := by
    simp only [exprF]
    rw [if_neg (by omega), if_neg (by omega), if_neg (by omega), if_pos hk]
  rw [hv]
  have kb1 : (e.f0 == 1) = false := beq_eq_false_iff_ne.mpr (by omega)
  have kb2 : (e.f0 == 2) = false := beq_eq_false_iff_ne.mpr (by omega)
  have kb3 : (e.f0 == 3) = false := beq_eq_false_iff_ne.mpr (by omega)
  have kb4 : (e.f0 == 4) = true := beq_iff_eq.mpr hk
  have kb5 : (e.f0 == 5) = false := beq_eq_false_iff_ne.mpr (by omega)
  have kb6 : (e.f0 == 6) = false := beq_eq_false_iff_ne.mpr (by omega)
  clear hC hc hk hv ht
  go_enter Tryd.func13, Tryd.ntmps13
  go_wp2_with (first | ((with_reducible refine gate_dst (N := 1) rfl ?_); refine box_event ?hg (N := 1) ?hd (cs := #[.int .i64 e.f0, .int .i64 e.f1, .int .i64 e.f2, .string e.f3, .slice A e.f4.length c]) (t := 30) ?hr ?_; (case hd => rfl); (case hg => rfl); (case hr => first | (go_simp; done) | (go_simp; rfl)); intro ge hgg w1 hlit hb; have HG := Aside0.mk hlit; have HB1 := Aside0.mk hb; have hy0 : w1.cell? ⟨ge, 0, none⟩ = some (.int .i64 e.f0) := (blk_cell hlit 0).trans rfl; have hy1 : w1.cell? ⟨ge, 1, none⟩ = some (.int .i64 e.f1) := (blk_cell hlit 1).trans rfl; have hy2 : w1.cell? ⟨ge, 2, none⟩ = some (.int .i64 e.f2) := (blk_cell hlit 2).trans rfl; have hy3 : w1.cell? ⟨ge, 3, none⟩ = some (.string e.f3) := (blk_cell hlit 3).trans rfl; have hy4 : w1.cell? ⟨ge, 4, none⟩ = some (.slice A e.f4.length c) := (blk_cell hlit 4).trans rfl; clear hlit hb hgg))
  go_ret
  exact ⟨rfl, HB1.out⟩
set_option maxHeartbeats 8000000 in
set_option maxRecDepth 100000 in
theorem expr_elem (n : Nat) (e : S30) (A : Option Addr) (c : Nat) (w : World) (hC : k30.C w A e.f4.length e.f4) (hc : e.f4.length ≤ c) (ht : Tab w) (ih : ∀ (e : S30) (A : Option Addr) (c : Nat) (w : World), k30.C w A e.f4.length e.f4 → e.f4.length ≤ c → Tab w → SizeOf.sizeOf e ≤ n → okF n e → (exprF n e).size ≤ 4611686018427387904 → Calls Tryd.prog 13 #[.agg #[.int .i64 e.f0, .int .i64 e.f1, .int .i64 e.f2, .string e.f3, .slice A e.f4.length c]] w fun r w' => r = .returned (.string (exprF n e)) ∧ Below w.heap.size w w') (hs : SizeOf.sizeOf e ≤ n + 1) (ok : okF (n + 1) e) (hk : e.f0 = 3 ∧ (1 : Int) ≤ (e.f4.length : Int)) (hsz : (exprF (n + 1) e).size ≤ 4611686018427387904) :
    Calls Tryd.prog 13 #[.agg #[.int .i64 e.f0, .int .i64 e.f1, .int .i64 e.f2, .string e.f3, .slice A e.f4.length c]] w fun r w' => r = .returned (.string (exprF (n + 1) e)) ∧ Below w.heap.size w w' := by
  have hv : exprF (n + 1) e = ((e.f3 ++ (⟨#[91]⟩ : ByteArray)) ++ exprF n (rd_T30 e.f4 0)) ++ (⟨#[93]⟩ : ByteArray) := by
    simp only [exprF]
    rw [if_neg (by omega), if_neg (by omega), if_pos hk]
  obtain ⟨ad, K0, d0, rfl, p00, p01, p02, p03, p04, hd0, hD0⟩ := at_T30 hC 0 (by decide) (by omega)
  have hz0 : SizeOf.sizeOf (rd_T30 e.f4 0) ≤ n := Nat.le_of_lt_succ (Nat.lt_of_lt_of_le (kid_size e 0 (by omega)) hs)
  have hok0 : okF n (rd_T30 e.f4 0) := kid_ok ok 0 (by omega)
  rw [show ad.add ((0 : Int).toNat * 5) = ad from rfl] at p00 p01 p02 p03 p04
  obtain ⟨q0, hq0⟩ : ∃ q, rd_T30 e.f4 0 = q := ⟨_, rfl⟩
  rw [hq0] at p00 p01 p02 p03 p04 hd0 hD0 hz0 hok0 hv
  obtain ⟨t0, ht0⟩ : ∃ t, exprF n q0 = t := ⟨_, rfl⟩
  rw [ht0] at hv
  rw [hv] at hsz ⊢
  simp only [ByteArray.size_append, sz1] at hsz
  have y0 : t0.size ≤ 4611686018427387904 := by omega
  obtain ⟨hk, hl⟩ := hk
  have hn0 : 0 < e.f4.length := by omega
  have HK0 := Aside0.mk (fun (W : World) (hb : Below w.heap.size w W) => ih q0 K0 d0 W (Kd.C_below hD0 hb) hd0 (tab_on ht hb) hz0 hok0 (by rw [ht0]; exact y0))
  rw [ht0] at HK0
  have kb1 : (e.f0 == 1) = false := beq_eq_false_iff_ne.mpr (by omega)
  have kb2 : (e.f0 == 2) = false := beq_eq_false_iff_ne.mpr (by omega)
  have kb3 : (e.f0 == 3) = true := beq_iff_eq.mpr hk
  have kb4 : (e.f0 == 4) = false := beq_eq_false_iff_ne.mpr (by omega)
  have kb5 : (e.f0 == 5) = false := beq_eq_false_iff_ne.mpr (by omega)
  have kb6 : (e.f0 == 6) = false := beq_eq_false_iff_ne.mpr (by omega)
  clear hC hc hv ih hs ok ht hk hd0 hD0 hz0 hok0 hq0 ht0 y0
  go_enter Tryd.func13, Tryd.ntmps13
  go_upto_region 7 with (first | ((with_reducible refine gate_dst (N := 1) rfl ?_); refine box_event ?hg (N := 1) ?hd (cs := #[.int .i64 e.f0, .int .i64 e.f1, .int .i64 e.f2, .string e.f3, .slice (some ad) e.f4.length c]) (t := 30) ?hr ?_; (case hd => rfl); (case hg => rfl); (case hr => first | (go_simp; done) | (go_simp; rfl)); intro ge hgg w1 hlit hb; have HG := Aside0.mk hlit; have HB1 := Aside0.mk hb; have hy0 : w1.cell? ⟨ge, 0, none⟩ = some (.int .i64 e.f0) := (blk_cell hlit 0).trans rfl; have hy1 : w1.cell? ⟨ge, 1, none⟩ = some (.int .i64 e.f1) := (blk_cell hlit 1).trans rfl; have hy2 : w1.cell? ⟨ge, 2, none⟩ = some (.int .i64 e.f2) := (blk_cell hlit 2).trans rfl; have hy3 : w1.cell? ⟨ge, 3, none⟩ = some (.string e.f3) := (blk_cell hlit 3).trans rfl; have hy4 : w1.cell? ⟨ge, 4, none⟩ = some (.slice (some ad) e.f4.length c) := (blk_cell hlit 4).trans rfl; clear hlit hb hgg))
  have h00 := pw_cell_below HB1.out p00
  have h01 := pw_cell_below HB1.out p01
  have h02 := pw_cell_below HB1.out p02
  have h03 := pw_cell_below HB1.out p03
  have h04 := pw_cell_below HB1.out p04
  refine start_ (n := 11) (S := fun w' => w'.cell? ⟨ge, 3, none⟩ = some (.string e.f3) ∧ w'.cell? ⟨ge, 4, none⟩ = some (.slice (some ad) e.f4.length c) ∧ w'.cell? ad = some (.int .i64 q0.f0) ∧ w'.cell? ⟨ad.block, ad.off + 1, none⟩ = some (.int .i64 q0.f1) ∧ w'.cell? ⟨ad.block, ad.off + 2, none⟩ = some (.int .i64 q0.f2) ∧ w'.cell? ⟨ad.block, ad.off + 3, none⟩ = some (.string q0.f3) ∧ w'.cell? ⟨ad.block, ad.off + 4, none⟩ = some (.slice K0 q0.f4.length d0) ∧ Aside0 (Below w.heap.size w w')) (ds := []) #[false, false, false, false, false, false, false, false, false, false, false] (by kernel_rfl) rfl rfl ⟨hy3, hy4, h00, h01, h02, h03, h04, ⟨below_drew HB1.out⟩⟩ (fun hHeld => ?_)
  refine pure_ (i := 0) (N := some 28) (v := ?_) (a' := ?_) #[true, false, false, false, false, false, false, false, false, false, false] rfl rfl (by kernel_rfl) (fun _ _ _ h => h) (Or.inl ⟨by rfl, ?_⟩) ?_ ?_
  rotate_left
  · intro w'
    go_simp
    first | with_reducible rfl | (rw [if_neg (by (try simp only [ByteArray.size_append, sz1]); omega)]; try with_reducible rfl)
  rotate_left
  · simp only [Act.put, List.setIfInBounds_toArray, List.set_cons_zero, List.set_cons_succ, i64_w, i32_w]
    rfl
  refine pure_ (i := 3) (N := some 31) (v := ?_) (a' := ?_) #[true, false, false, true, false, false, false, false, false, false, false] rfl rfl (by kernel_rfl) (fun _ _ _ h => h) (Or.inl ⟨by rfl, ?_⟩) ?_ ?_
  rotate_left
  · intro w'
    go_simp
    first | with_reducible rfl | (rw [if_neg (by (try simp only [ByteArray.size_append, sz1]); omega)]; try with_reducible rfl)
  rotate_left
  · simp only [Act.put, List.setIfInBounds_toArray, List.set_cons_zero, List.set_cons_succ, i64_w, i32_w]
    rfl
  refine take_ (i := 1) (N := some 29) (v := ?_) (a' := ?_) #[true, true, false, true, false, false, false, false, false, false, false] rfl rfl (by kernel_rfl) (fun _ _ _ h => h) (Or.inl ⟨by rfl, ?_⟩) hHeld ?_ ?_
  rotate_left
  · rintro w' ⟨s0, s1, s2, s3, s4, s5, s6, s7⟩
    go_simp
    first | with_reducible rfl | (rw [if_neg (by (try simp only [ByteArray.size_append, sz1]); omega)]; try with_reducible rfl)
  rotate_left
  · simp only [Act.put, List.setIfInBounds_toArray, List.set_cons_zero, List.set_cons_succ, i64_w, i32_w]
    rfl
  refine pure_ (i := 2) (N := some 30) (v := ?_) (a' := ?_) #[true, true, true, true, false, false, false, false, false, false, false] rfl rfl (by kernel_rfl) (fun _ _ _ h => h) (Or.inl ⟨by rfl, ?_⟩) ?_ ?_
  rotate_left
  · intro w'
    go_simp
    first | with_reducible rfl | (rw [if_neg (by (try simp only [ByteArray.size_append, sz1]); omega)]; try with_reducible rfl)
  rotate_left
  · simp only [Act.put, List.setIfInBounds_toArray, List.set_cons_zero, List.set_cons_succ, i64_w, i32_w]
    rfl
  refine take_ (i := 4) (N := some 32) (v := ?_) (a' := ?_) #[true, true, true, true, true, false, false, false, false, false, false] rfl rfl (by kernel_rfl) (fun _ _ _ h => h) (Or.inl ⟨by rfl, ?_⟩) hHeld ?_ ?_
  rotate_left
  · rintro w' ⟨s0, s1, s2, s3, s4, s5, s6, s7⟩
    go_simp
    first | with_reducible rfl | (rw [if_neg (by (try simp only [ByteArray.size_append, sz1]); omega)]; try with_reducible rfl)
  rotate_left
  · simp only [Act.put, List.setIfInBounds_toArray, List.set_cons_zero, List.set_cons_succ, i64_w, i32_w]
    rfl
  refine pure_ (i := 5) (N := some 33) (v := ?_) (a' := ?_) #[true, true, true, true, true, true, false, false, false, false, false] rfl rfl (by kernel_rfl) (fun _ _ _ h => h) (Or.inl ⟨by rfl, ?_⟩) ?_ ?_
  rotate_left
  · intro w'
    go_simp
    first | with_reducible rfl | (rw [if_neg (by (try simp only [ByteArray.size_append, sz1]); omega)]; try with_reducible rfl)
  rotate_left
  · simp only [Act.put, List.setIfInBounds_toArray, List.set_cons_zero, List.set_cons_succ, i64_w, i32_w]
    rfl
  refine take_ (i := 6) (N := some 34) (v := ?_) (a' := ?_) #[true, true, true, true, true, true, true, false, false, false, false] rfl rfl (by kernel_rfl) (fun _ _ _ h => h) (Or.inl ⟨by rfl, ?_⟩) hHeld ?_ ?_
  rotate_left
  · rintro w' ⟨s0, s1, s2, s3, s4, s5, s6, s7⟩
    go_simp
    first | with_reducible rfl | (rw [if_neg (by (try simp only [ByteArray.size_append, sz1]); omega)]; try with_reducible rfl)
  rotate_left
  · simp only [Act.put, List.setIfInBounds_toArray, List.set_cons_zero, List.set_cons_succ, i64_w, i32_w]
    rfl
  refine one_ (i := 7) (N := some 35) #[true, true, true, true, true, true, true, true, false, false, false] rfl rfl (by kernel_rfl) (by decide) (fun K hK => ?_)
  refine goes_ Tryd.func13 (by kernel_rfl) rfl #[.agg #[.int .i64 q0.f0, .int .i64 q0.f1, .int .i64 q0.f2, .string q0.f3, .slice K0 q0.f4.length d0]] (by rfl) rfl rfl (by simp only [List.map_toArray, List.map_cons, List.map_nil, Act.eval]; rfl) ?_
  refine (HK0.out _ hHeld.2.2.2.2.2.2.2.out).mono ?_
  rintro e1 w2 ⟨rfl, hb⟩
  refine ⟨_, rfl, ?_⟩
  refine hK.out _ _ ⟨pw_cell_below hb hHeld.1, pw_cell_below hb hHeld.2.1, pw_cell_below hb hHeld.2.2.1, pw_cell_below hb hHeld.2.2.2.1, pw_cell_below hb hHeld.2.2.2.2.1, pw_cell_below hb hHeld.2.2.2.2.2.1, pw_cell_below hb hHeld.2.2.2.2.2.2.1, ⟨below_then hHeld.2.2.2.2.2.2.2.out hHeld.2.2.2.2.2.2.2.out.size hb⟩⟩ (fun hHeld => ?_)
  clear hK K
  refine norm_ (a' := ?_) ?_ ?_
  rotate_left
  · show Act.put _ (some 35) _ = _
    simp only [Act.put, List.setIfInBounds_toArray, List.set_cons_zero, List.set_cons_succ, i64_w, i32_w]
    rfl
  refine pure_ (i := 8) (N := some 36) (v := ?_) (a' := ?_) #[true, true, true, true, true, true, true, true, true, false, false] rfl rfl (by kernel_rfl) (fun _ _ _ h => h) (Or.inl ⟨by rfl, ?_⟩) ?_ ?_
  rotate_left
  · intro w'
    go_simp
    first | with_reducible rfl | (rw [if_neg (by (try simp only [ByteArray.size_append, sz1]); omega)]; try with_reducible rfl)
  rotate_left
  · simp only [Act.put, List.setIfInBounds_toArray, List.set_cons_zero, List.set_cons_succ, i64_w, i32_w]
    rfl
  refine pure_ (i := 9) (N := some 37) (v := ?_) (a' := ?_) #[true, true, true, true, true, true, true, true, true, true, false] rfl rfl (by kernel_rfl) (fun _ _ _ h => h) (Or.inl ⟨by rfl, ?_⟩) ?_ ?_
  rotate_left
  · intro w'
    go_simp
    first | with_reducible rfl | (rw [if_neg (by (try simp only [ByteArray.size_append, sz1]); omega)]; try with_reducible rfl)
  rotate_left
  · simp only [Act.put, List.setIfInBounds_toArray, List.set_cons_zero, List.set_cons_succ, i64_w, i32_w]
    rfl
  refine pure_ (i := 10) (N := some 2) (v := ?_) (a' := ?_) #[true, true, true, true, true, true, true, true, true, true, true] rfl rfl (by kernel_rfl) (fun _ _ _ h => h) (Or.inl ⟨by rfl, ?_⟩) ?_ ?_
  rotate_left
  · intro w'
    go_simp
    first | with_reducible rfl | (rw [if_neg (by (try simp only [ByteArray.size_append, sz1]); omega)]; try with_reducible rfl)
  rotate_left
  · simp only [Act.put, List.setIfInBounds_toArray, List.set_cons_zero, List.set_cons_succ, i64_w, i32_w]
    rfl
  refine done_ (by kernel_rfl) ?_
  go_wp2
  go_ret
  exact ⟨rfl, hHeld.2.2.2.2.2.2.2.out⟩
set_option maxHeartbeats 8000000 in
set_option maxRecDepth 100000 in
theorem expr_bin (n : Nat) (e : S30) (A : Option Addr) (c : Nat) (w : World) (hC : k30.C w A e.f4.length e.f4) (hc : e.f4.length ≤ c) (ht : Tab w) (ih : ∀ (e : S30) (A : Option Addr) (c : Nat) (w : World), k30.C w A e.f4.length e.f4 → e.f4.length ≤ c → Tab w → SizeOf.sizeOf e ≤ n → okF n e → (exprF n e).size ≤ 4611686018427387904 → Calls Tryd.prog 13 #[.agg #[.int .i64 e.f0, .int .i64 e.f1, .int .i64 e.f2, .string e.f3, .slice A e.f4.length c]] w fun r w' => r = .returned (.string (exprF n e)) ∧ Below w.heap.size w w') (hs : SizeOf.sizeOf e ≤ n + 1) (ok : okF (n + 1) e) (hk : e.f0 = 5 ∧ (2 : Int) ≤ (e.f4.length : Int) ∧ 1 ≤ e.f2 ∧ e.f2 ≤ 5) (hsz : (exprF (n + 1) e).size ≤ 4611686018427387904) :
    Calls Tryd.prog 13 #[.agg #[.int .i64 e.f0, .int .i64 e.f1, .int .i64 e.f2, .string e.f3, .slice A e.f4.length c]] w fun r w' => r = .returned (.string (exprF (n + 1) e)) ∧ Below w.heap.size w w' := by
  have hv : exprF (n + 1) e = ((((((⟨#[40]⟩ : ByteArray) ++ exprF n (rd_T30 e.f4 0)) ++ (⟨#[32]⟩ : ByteArray)) ++ opB e.f2) ++ (⟨#[32]⟩ : ByteArray)) ++ exprF n (rd_T30 e.f4 1)) ++ (⟨#[41]⟩ : ByteArray) := by
    simp only [exprF]
    rw [if_neg (by omega), if_neg (by omega), if_neg (by omega), if_neg (by omega), if_pos hk]
  obtain ⟨ad, K0, d0, rfl, p00, p01, p02, p03, p04, hd0, hD0⟩ := at_T30 hC 0 (by decide) (by omega)
  have hz0 : SizeOf.sizeOf (rd_T30 e.f4 0) ≤ n := Nat.le_of_lt_succ (Nat.lt_of_lt_of_le (kid_size e 0 (by omega)) hs)
  have hok0 : okF n (rd_T30 e.f4 0) := kid_ok ok 0 (by omega)
  rw [show ad.add ((0 : Int).toNat * 5) = ad from rfl] at p00 p01 p02 p03 p04
  obtain ⟨q0, hq0⟩ : ∃ q, rd_T30 e.f4 0 = q := ⟨_, rfl⟩
  rw [hq0] at p00 p01 p02 p03 p04 hd0 hD0 hz0 hok0 hv
  obtain ⟨t0, ht0⟩ : ∃ t, exprF n q0 = t := ⟨_, rfl⟩
  rw [ht0] at hv
  obtain ⟨ad', K1, d1, ea, p10, p11, p12, p13, p14, hd1, hD1⟩ := at_T30 hC 1 (by decide) (by omega)
  obtain rfl := Option.some.inj ea
  have hz1 : SizeOf.sizeOf (rd_T30 e.f4 1) ≤ n := Nat.le_of_lt_succ (Nat.lt_of_lt_of_le (kid_size e 1 (by omega)) hs)
  have hok1 : okF n (rd_T30 e.f4 1) := kid_ok ok 1 (by omega)
  replace p10 : w.cell? ⟨ad.block, ad.off + 5, none⟩ = _ := p10
  replace p11 : w.cell? ⟨ad.block, ad.off + 5 + 1, none⟩ = _ := p11
  replace p12 : w.cell? ⟨ad.block, ad.off + 5 + 2, none⟩ = _ := p12
  replace p13 : w.cell? ⟨ad.block, ad.off + 5 + 3, none⟩ = _ := p13
  replace p14 : w.cell? ⟨ad.block, ad.off + 5 + 4, none⟩ = _ := p14
  obtain ⟨q1, hq1⟩ : ∃ q, rd_T30 e.f4 1 = q := ⟨_, rfl⟩
  rw [hq1] at p10 p11 p12 p13 p14 hd1 hD1 hz1 hok1 hv
  obtain ⟨t1, ht1⟩ : ∃ t, exprF n q1 = t := ⟨_, rfl⟩
  rw [ht1] at hv
  rw [hv] at hsz ⊢
  have hos := opB_size e.f2
  have hoy := opB_list hk.2.2
  have HO := Aside0.mk (fun (W : World) => op_calls e.f2 (s := opB e.f2) rfl W)
  obtain ⟨so, hso⟩ : ∃ s, opB e.f2 = s := ⟨_, rfl⟩
  rw [hso] at hos hoy hsz HO ⊢
  simp only [ByteArray.size_append, sz1, hos] at hsz
  have y0 : t0.size ≤ 4611686018427387904 := by omega
  have y1 : t1.size ≤ 4611686018427387904 := by omega
  obtain ⟨hk, hl, hop⟩ := hk
  have hn0 : 0 < e.f4.length := by omega
  have hn1 : (1 : Int) < (e.f4.length : Int) := by omega
  have hn2 : 2 ≤ e.f4.length := by omega
  have HK0 := Aside0.mk (fun (W : World) (hb : Below w.heap.size w W) => ih q0 K0 d0 W (Kd.C_below hD0 hb) hd0 (tab_on ht hb) hz0 hok0 (by rw [ht0]; exact y0))
  rw [ht0] at HK0
  have HK1 := Aside0.mk (fun (W : World) (hb : Below w.heap.size w W) => ih q1 K1 d1 W (Kd.C_below hD1 hb) hd1 (tab_on ht hb) hz1 hok1 (by rw [ht1]; exact y1))
  rw [ht1] at HK1
  have kb1 : (e.f0 == 1) = false := beq_eq_false_iff_ne.mpr (by omega)
  have kb2 : (e.f0 == 2) = false := beq_eq_false_iff_ne.mpr (by omega)
  have kb3 : (e.f0 == 3) = false := beq_eq_false_iff_ne.mpr (by omega)
  have kb4 : (e.f0 == 4) = false := beq_eq_false_iff_ne.mpr (by omega)
  have kb5 : (e.f0 == 5) = true := beq_iff_eq.mpr hk
  have kb6 : (e.f0 == 6) = false := beq_eq_false_iff_ne.mpr (by omega)
  clear hC hc hv ih hs ok ht hk hop hd0 hD0 hz0 hok0 hq0 ht0 y0 hd1 hD1 hz1 hok1 hq1 ht1 y1 hso hl
  go_enter Tryd.func13, Tryd.ntmps13
  go_upto_region 11 with (first | ((with_reducible refine gate_dst (N := 1) rfl ?_); refine box_event ?hg (N := 1) ?hd (cs := #[.int .i64 e.f0, .int .i64 e.f1, .int .i64 e.f2, .string e.f3, .slice (some ad) e.f4.length c]) (t := 30) ?hr ?_; (case hd => rfl); (case hg => rfl); (case hr => first | (go_simp; done) | (go_simp; rfl)); intro ge hgg w1 hlit hb; have HG := Aside0.mk hlit; have HB1 := Aside0.mk hb; have hy0 : w1.cell? ⟨ge, 0, none⟩ = some (.int .i64 e.f0) := (blk_cell hlit 0).trans rfl; have hy1 : w1.cell? ⟨ge, 1, none⟩ = some (.int .i64 e.f1) := (blk_cell hlit 1).trans rfl; have hy2 : w1.cell? ⟨ge, 2, none⟩ = some (.int .i64 e.f2) := (blk_cell hlit 2).trans rfl; have hy3 : w1.cell? ⟨ge, 3, none⟩ = some (.string e.f3) := (blk_cell hlit 3).trans rfl; have hy4 : w1.cell? ⟨ge, 4, none⟩ = some (.slice (some ad) e.f4.length c) := (blk_cell hlit 4).trans rfl; clear hlit hb hgg) | (go_at_call 29; (with_reducible refine (HO.out _).mono ?_); rintro e1 w2 ⟨rfl, hb⟩; have HB2 := Aside0.mk (below_then HB1.out HB1.out.size hb); have hx2 := pw_cell_below hb hy2; have hx4 := pw_cell_below hb hy4; clear hb))
  have h00 := pw_cell_below HB2.out p00
  have h01 := pw_cell_below HB2.out p01
  have h02 := pw_cell_below HB2.out p02
  have h03 := pw_cell_below HB2.out p03
  have h04 := pw_cell_below HB2.out p04
  have h10 := pw_cell_below HB2.out p10
  have h11 := pw_cell_below HB2.out p11
  have h12 := pw_cell_below HB2.out p12
  have h13 := pw_cell_below HB2.out p13
  have h14 := pw_cell_below HB2.out p14
  refine start_ (n := 20) (S := fun w' => w'.cell? ⟨ge, 2, none⟩ = some (.int .i64 e.f2) ∧ w'.cell? ⟨ge, 4, none⟩ = some (.slice (some ad) e.f4.length c) ∧ w'.cell? ad = some (.int .i64 q0.f0) ∧ w'.cell? ⟨ad.block, ad.off + 1, none⟩ = some (.int .i64 q0.f1) ∧ w'.cell? ⟨ad.block, ad.off + 2, none⟩ = some (.int .i64 q0.f2) ∧ w'.cell? ⟨ad.block, ad.off + 3, none⟩ = some (.string q0.f3) ∧ w'.cell? ⟨ad.block, ad.off + 4, none⟩ = some (.slice K0 q0.f4.length d0) ∧ w'.cell? ⟨ad.block, ad.off + 5, none⟩ = some (.int .i64 q1.f0) ∧ w'.cell? ⟨ad.block, ad.off + 5 + 1, none⟩ = some (.int .i64 q1.f1) ∧ w'.cell? ⟨ad.block, ad.off + 5 + 2, none⟩ = some (.int .i64 q1.f2) ∧ w'.cell? ⟨ad.block, ad.off + 5 + 3, none⟩ = some (.string q1.f3) ∧ w'.cell? ⟨ad.block, ad.off + 5 + 4, none⟩ = some (.slice K1 q1.f4.length d1) ∧ Aside0 (Below w.heap.size w w')) (ds := []) #[false, false, false, false, false, false, false, false, false, false, false, false, false, false, false, false, false, false, false, false] (by kernel_rfl) rfl rfl ⟨hx2, hx4, h00, h01, h02, h03, h04, h10, h11, h12, h13, h14, ⟨below_drew HB2.out⟩⟩ (fun hHeld => ?_)
  refine pure_ (i := 0) (N := some 56) (v := ?_) (a' := ?_) #[true, false, false, false, false, false, false, false, false, false, false, false, false, false, false, false, false, false, false, false] rfl rfl (by kernel_rfl) (fun _ _ _ h => h) (Or.inl ⟨by rfl, ?_⟩) ?_ ?_
  rotate_left
  · intro w'
    go_simp
    first | with_reducible rfl | (rw [if_neg (by (try simp only [ByteArray.size_append, sz1]); omega)]; try with_reducible rfl)
  rotate_left
  · simp only [Act.put, List.setIfInBounds_toArray, List.set_cons_zero, List.set_cons_succ, i64_w, i32_w]
    rfl
  refine pure_ (i := 7) (N := some 63) (v := ?_) (a' := ?_) #[true, false, false, false, false, false, false, true, false, false, false, false, false, false, false, false, false, false, false, false] rfl rfl (by kernel_rfl) (fun _ _ _ h => h) (Or.inl ⟨by rfl, ?_⟩) ?_ ?_
  rotate_left
  · intro w'
    go_simp
    first | with_reducible rfl | (rw [if_neg (by (try simp only [ByteArray.size_append, sz1]); omega)]; try with_reducible rfl)
  rotate_left
  · simp only [Act.put, List.setIfInBounds_toArray, List.set_cons_zero, List.set_cons_succ, i64_w, i32_w]
    rfl
  refine pure_ (i := 12) (N := some 68) (v := ?_) (a' := ?_) #[true, false, false, false, false, false, false, true, false, false, false, false, true, false, false, false, false, false, false, false] rfl rfl (by kernel_rfl) (fun _ _ _ h => h) (Or.inl ⟨by rfl, ?_⟩) ?_ ?_
  rotate_left
  · intro w'
    go_simp
    first | with_reducible rfl | (rw [if_neg (by (try simp only [ByteArray.size_append, sz1]); omega)]; try with_reducible rfl)
  rotate_left
  · simp only [Act.put, List.setIfInBounds_toArray, List.set_cons_zero, List.set_cons_succ, i64_w, i32_w]
    rfl
  refine take_ (i := 1) (N := some 57) (v := ?_) (a' := ?_) #[true, true, false, false, false, false, false, true, false, false, false, false, true, false, false, false, false, false, false, false] rfl rfl (by kernel_rfl) (fun _ _ _ h => h) (Or.inl ⟨by rfl, ?_⟩) hHeld ?_ ?_
  rotate_left
  · rintro w' ⟨s0, s1, s2, s3, s4, s5, s6, s7, s8, s9, s10, s11, s12⟩
    go_simp
    first | with_reducible rfl | (rw [if_neg (by (try simp only [ByteArray.size_append, sz1]); omega)]; try with_reducible rfl)
  rotate_left
  · simp only [Act.put, List.setIfInBounds_toArray, List.set_cons_zero, List.set_cons_succ, i64_w, i32_w]
    rfl
  refine pure_ (i := 2) (N := some 58) (v := ?_) (a' := ?_) #[true, true, true, false, false, false, false, true, false, false, false, false, true, false, false, false, false, false, false, false] rfl rfl (by kernel_rfl) (fun _ _ _ h => h) (Or.inl ⟨by rfl, ?_⟩) ?_ ?_
  rotate_left
  · intro w'
    go_simp
    first | with_reducible rfl | (rw [if_neg (by (try simp only [ByteArray.size_append, sz1]); omega)]; try with_reducible rfl)
  rotate_left
  · simp only [Act.put, List.setIfInBounds_toArray, List.set_cons_zero, List.set_cons_succ, i64_w, i32_w]
    rfl
  refine take_ (i := 3) (N := some 59) (v := ?_) (a' := ?_) #[true, true, true, true, false, false, false, true, false, false, false, false, true, false, false, false, false, false, false, false] rfl rfl (by kernel_rfl) (fun _ _ _ h => h) (Or.inl ⟨by rfl, ?_⟩) hHeld ?_ ?_
  rotate_left
  · rintro w' ⟨s0, s1, s2, s3, s4, s5, s6, s7, s8, s9, s10, s11, s12⟩
    go_simp
    first | with_reducible rfl | (rw [if_neg (by (try simp only [ByteArray.size_append, sz1]); omega)]; try with_reducible rfl)
  rotate_left
  · simp only [Act.put, List.setIfInBounds_toArray, List.set_cons_zero, List.set_cons_succ, i64_w, i32_w]
    rfl
  refine take_ (i := 8) (N := some 64) (v := ?_) (a' := ?_) #[true, true, true, true, false, false, false, true, true, false, false, false, true, false, false, false, false, false, false, false] rfl rfl (by kernel_rfl) (fun _ _ _ h => h) (Or.inl ⟨by rfl, ?_⟩) hHeld ?_ ?_
  rotate_left
  · rintro w' ⟨s0, s1, s2, s3, s4, s5, s6, s7, s8, s9, s10, s11, s12⟩
    go_simp
    first | with_reducible rfl | (rw [if_neg (by (try simp only [ByteArray.size_append, sz1]); omega)]; try with_reducible rfl)
  rotate_left
  · simp only [Act.put, List.setIfInBounds_toArray, List.set_cons_zero, List.set_cons_succ, i64_w, i32_w]
    rfl
  refine take_ (i := 13) (N := some 69) (v := ?_) (a' := ?_) #[true, true, true, true, false, false, false, true, true, false, false, false, true, true, false, false, false, false, false, false] rfl rfl (by kernel_rfl) (fun _ _ _ h => h) (Or.inl ⟨by rfl, ?_⟩) hHeld ?_ ?_
  rotate_left
  · rintro w' ⟨s0, s1, s2, s3, s4, s5, s6, s7, s8, s9, s10, s11, s12⟩
    go_simp
    first | with_reducible rfl | (rw [if_neg (by (try simp only [ByteArray.size_append, sz1]); omega)]; try with_reducible rfl)
  rotate_left
  · simp only [Act.put, List.setIfInBounds_toArray, List.set_cons_zero, List.set_cons_succ, i64_w, i32_w]
    rfl
  refine pure_ (i := 14) (N := some 70) (v := ?_) (a' := ?_) #[true, true, true, true, false, false, false, true, true, false, false, false, true, true, true, false, false, false, false, false] rfl rfl (by kernel_rfl) (fun _ _ _ h => h) (Or.inl ⟨by rfl, ?_⟩) ?_ ?_
  rotate_left
  · intro w'
    go_simp
    first | with_reducible rfl | (rw [if_neg (by (try simp only [ByteArray.size_append, sz1]); omega)]; try with_reducible rfl)
  rotate_left
  · simp only [Act.put, List.setIfInBounds_toArray, List.set_cons_zero, List.set_cons_succ, i64_w, i32_w]
    rfl
  refine take_ (i := 15) (N := some 71) (v := ?_) (a' := ?_) #[true, true, true, true, false, false, false, true, true, false, false, false, true, true, true, true, false, false, false, false] rfl rfl (by kernel_rfl) (fun _ _ _ h => h) (Or.inl ⟨by rfl, ?_⟩) hHeld ?_ ?_
  rotate_left
  · rintro w' ⟨s0, s1, s2, s3, s4, s5, s6, s7, s8, s9, s10, s11, s12⟩
    go_simp
    first | with_reducible rfl | (rw [if_neg (by (try simp only [ByteArray.size_append, sz1]); omega)]; try with_reducible rfl)
  rotate_left
  · simp only [Act.put, List.setIfInBounds_toArray, List.set_cons_zero, List.set_cons_succ, i64_w, i32_w]
    rfl
  refine one_ (i := 4) (N := some 60) #[true, true, true, true, true, false, false, true, true, false, false, false, true, true, true, true, false, false, false, false] rfl rfl (by kernel_rfl) (by decide) (fun K hK => ?_)
  refine goes_ Tryd.func13 (by kernel_rfl) rfl #[.agg #[.int .i64 q0.f0, .int .i64 q0.f1, .int .i64 q0.f2, .string q0.f3, .slice K0 q0.f4.length d0]] (by rfl) rfl rfl (by simp only [List.map_toArray, List.map_cons, List.map_nil, Act.eval]; rfl) ?_
  refine (HK0.out _ hHeld.2.2.2.2.2.2.2.2.2.2.2.2.out).mono ?_
  rintro e1 w3 ⟨rfl, hb⟩
  refine ⟨_, rfl, ?_⟩
  refine hK.out _ _ ⟨pw_cell_below hb hHeld.1, pw_cell_below hb hHeld.2.1, pw_cell_below hb hHeld.2.2.1, pw_cell_below hb hHeld.2.2.2.1, pw_cell_below hb hHeld.2.2.2.2.1, pw_cell_below hb hHeld.2.2.2.2.2.1, pw_cell_below hb hHeld.2.2.2.2.2.2.1, pw_cell_below hb hHeld.2.2.2.2.2.2.2.1, pw_cell_below hb hHeld.2.2.2.2.2.2.2.2.1, pw_cell_below hb hHeld.2.2.2.2.2.2.2.2.2.1, pw_cell_below hb hHeld.2.2.2.2.2.2.2.2.2.2.1, pw_cell_below hb hHeld.2.2.2.2.2.2.2.2.2.2.2.1, ⟨below_then hHeld.2.2.2.2.2.2.2.2.2.2.2.2.out hHeld.2.2.2.2.2.2.2.2.2.2.2.2.out.size hb⟩⟩ (fun hHeld => ?_)
  clear hK K
  refine norm_ (a' := ?_) ?_ ?_
  rotate_left
  · show Act.put _ (some 60) _ = _
    simp only [Act.put, List.setIfInBounds_toArray, List.set_cons_zero, List.set_cons_succ, i64_w, i32_w]
    rfl
  refine pure_ (i := 5) (N := some 61) (v := ?_) (a' := ?_) #[true, true, true, true, true, true, false, true, true, false, false, false, true, true, true, true, false, false, false, false] rfl rfl (by kernel_rfl) (fun _ _ _ h => h) (Or.inl ⟨by rfl, ?_⟩) ?_ ?_
  rotate_left
  · intro w'
    go_simp
    first | with_reducible rfl | (rw [if_neg (by (try simp only [ByteArray.size_append, sz1]); omega)]; try with_reducible rfl)
  rotate_left
  · simp only [Act.put, List.setIfInBounds_toArray, List.set_cons_zero, List.set_cons_succ, i64_w, i32_w]
    rfl
  refine pure_ (i := 6) (N := some 62) (v := ?_) (a' := ?_) #[true, true, true, true, true, true, true, true, true, false, false, false, true, true, true, true, false, false, false, false] rfl rfl (by kernel_rfl) (fun _ _ _ h => h) (Or.inl ⟨by rfl, ?_⟩) ?_ ?_
  rotate_left
  · intro w'
    go_simp
    first | with_reducible rfl | (rw [if_neg (by (try simp only [ByteArray.size_append, sz1]); omega)]; try with_reducible rfl)
  rotate_left
  · simp only [Act.put, List.setIfInBounds_toArray, List.set_cons_zero, List.set_cons_succ, i64_w, i32_w]
    rfl
  refine one_ (i := 9) (N := some 65) #[true, true, true, true, true, true, true, true, true, true, false, false, true, true, true, true, false, false, false, false] rfl rfl (by kernel_rfl) (by decide) (fun K hK => ?_)
  refine goes_ Tryd.func29 (by kernel_rfl) rfl #[.int .i64 e.f2] (by rfl) rfl rfl (by simp only [List.map_toArray, List.map_cons, List.map_nil, Act.eval]; rfl) ?_
  refine (HO.out _).mono ?_
  rintro e1 w4 ⟨rfl, hb⟩
  refine ⟨_, rfl, ?_⟩
  refine hK.out _ _ ⟨pw_cell_below hb hHeld.1, pw_cell_below hb hHeld.2.1, pw_cell_below hb hHeld.2.2.1, pw_cell_below hb hHeld.2.2.2.1, pw_cell_below hb hHeld.2.2.2.2.1, pw_cell_below hb hHeld.2.2.2.2.2.1, pw_cell_below hb hHeld.2.2.2.2.2.2.1, pw_cell_below hb hHeld.2.2.2.2.2.2.2.1, pw_cell_below hb hHeld.2.2.2.2.2.2.2.2.1, pw_cell_below hb hHeld.2.2.2.2.2.2.2.2.2.1, pw_cell_below hb hHeld.2.2.2.2.2.2.2.2.2.2.1, pw_cell_below hb hHeld.2.2.2.2.2.2.2.2.2.2.2.1, ⟨below_then hHeld.2.2.2.2.2.2.2.2.2.2.2.2.out hHeld.2.2.2.2.2.2.2.2.2.2.2.2.out.size hb⟩⟩ (fun hHeld => ?_)
  clear hK K
  refine norm_ (a' := ?_) ?_ ?_
  rotate_left
  · show Act.put _ (some 65) _ = _
    simp only [Act.put, List.setIfInBounds_toArray, List.set_cons_zero, List.set_cons_succ, i64_w, i32_w]
    rfl
  refine pure_ (i := 10) (N := some 66) (v := ?_) (a' := ?_) #[true, true, true, true, true, true, true, true, true, true, true, false, true, true, true, true, false, false, false, false] rfl rfl (by kernel_rfl) (fun _ _ _ h => h) (Or.inl ⟨by rfl, ?_⟩) ?_ ?_
  rotate_left
  · intro w'
    go_simp
    first | with_reducible rfl | (rw [if_neg (by (try simp only [ByteArray.size_append, sz1]); omega)]; try with_reducible rfl)
  rotate_left
  · simp only [Act.put, List.setIfInBounds_toArray, List.set_cons_zero, List.set_cons_succ, i64_w, i32_w]
    rfl
  refine pure_ (i := 11) (N := some 67) (v := ?_) (a' := ?_) #[true, true, true, true, true, true, true, true, true, true, true, true, true, true, true, true, false, false, false, false] rfl rfl (by kernel_rfl) (fun _ _ _ h => h) (Or.inl ⟨by rfl, ?_⟩) ?_ ?_
  rotate_left
  · intro w'
    go_simp
    first | with_reducible rfl | (rw [if_neg (by (try simp only [ByteArray.size_append, sz1]); omega)]; try with_reducible rfl)
  rotate_left
  · simp only [Act.put, List.setIfInBounds_toArray, List.set_cons_zero, List.set_cons_succ, i64_w, i32_w]
    rfl
  refine one_ (i := 16) (N := some 72) #[true, true, true, true, true, true, true, true, true, true, true, true, true, true, true, true, true, false, false, false] rfl rfl (by kernel_rfl) (by decide) (fun K hK => ?_)
  refine goes_ Tryd.func13 (by kernel_rfl) rfl #[.agg #[.int .i64 q1.f0, .int .i64 q1.f1, .int .i64 q1.f2, .string q1.f3, .slice K1 q1.f4.length d1]] (by rfl) rfl rfl (by simp only [List.map_toArray, List.map_cons, List.map_nil, Act.eval]; rfl) ?_
  refine (HK1.out _ hHeld.2.2.2.2.2.2.2.2.2.2.2.2.out).mono ?_
  rintro e1 w5 ⟨rfl, hb⟩
  refine ⟨_, rfl, ?_⟩
  refine hK.out _ _ ⟨pw_cell_below hb hHeld.1, pw_cell_below hb hHeld.2.1, pw_cell_below hb hHeld.2.2.1, pw_cell_below hb hHeld.2.2.2.1, pw_cell_below hb hHeld.2.2.2.2.1, pw_cell_below hb hHeld.2.2.2.2.2.1, pw_cell_below hb hHeld.2.2.2.2.2.2.1, pw_cell_below hb hHeld.2.2.2.2.2.2.2.1, pw_cell_below hb hHeld.2.2.2.2.2.2.2.2.1, pw_cell_below hb hHeld.2.2.2.2.2.2.2.2.2.1, pw_cell_below hb hHeld.2.2.2.2.2.2.2.2.2.2.1, pw_cell_below hb hHeld.2.2.2.2.2.2.2.2.2.2.2.1, ⟨below_then hHeld.2.2.2.2.2.2.2.2.2.2.2.2.out hHeld.2.2.2.2.2.2.2.2.2.2.2.2.out.size hb⟩⟩ (fun hHeld => ?_)
  clear hK K
  refine norm_ (a' := ?_) ?_ ?_
  rotate_left
  · show Act.put _ (some 72) _ = _
    simp only [Act.put, List.setIfInBounds_toArray, List.set_cons_zero, List.set_cons_succ, i64_w, i32_w]
    rfl
  refine pure_ (i := 17) (N := some 73) (v := ?_) (a' := ?_) #[true, true, true, true, true, true, true, true, true, true, true, true, true, true, true, true, true, true, false, false] rfl rfl (by kernel_rfl) (fun _ _ _ h => h) (Or.inl ⟨by rfl, ?_⟩) ?_ ?_
  rotate_left
  · intro w'
    go_simp
    first | with_reducible rfl | (rw [if_neg (by (try simp only [ByteArray.size_append, sz1]); omega)]; try with_reducible rfl)
  rotate_left
  · simp only [Act.put, List.setIfInBounds_toArray, List.set_cons_zero, List.set_cons_succ, i64_w, i32_w]
    rfl
  refine pure_ (i := 18) (N := some 74) (v := ?_) (a' := ?_) #[true, true, true, true, true, true, true, true, true, true, true, true, true, true, true, true, true, true, true, false] rfl rfl (by kernel_rfl) (fun _ _ _ h => h) (Or.inl ⟨by rfl, ?_⟩) ?_ ?_
  rotate_left
  · intro w'
    go_simp
    first | with_reducible rfl | (rw [if_neg (by (try simp only [ByteArray.size_append, sz1]); omega)]; try with_reducible rfl)
  rotate_left
  · simp only [Act.put, List.setIfInBounds_toArray, List.set_cons_zero, List.set_cons_succ, i64_w, i32_w]
    rfl
  refine pure_ (i := 19) (N := some 2) (v := ?_) (a' := ?_) #[true, true, true, true, true, true, true, true, true, true, true, true, true, true, true, true, true, true, true, true] rfl rfl (by kernel_rfl) (fun _ _ _ h => h) (Or.inl ⟨by rfl, ?_⟩) ?_ ?_
  rotate_left
  · intro w'
    go_simp
    first | with_reducible rfl | (rw [if_neg (by (try simp only [ByteArray.size_append, sz1]); omega)]; try with_reducible rfl)
  rotate_left
  · simp only [Act.put, List.setIfInBounds_toArray, List.set_cons_zero, List.set_cons_succ, i64_w, i32_w]
    rfl
  refine done_ (by kernel_rfl) ?_
  go_wp2
  go_ret
  exact ⟨rfl, hHeld.2.2.2.2.2.2.2.2.2.2.2.2.out⟩
set_option maxHeartbeats 8000000 in
set_option maxRecDepth 100000 in
theorem expr_neg (n : Nat) (e : S30) (A : Option Addr) (c : Nat) (w : World) (hC : k30.C w A e.f4.length e.f4) (hc : e.f4.length ≤ c) (ht : Tab w) (ih : ∀ (e : S30) (A : Option Addr) (c : Nat) (w : World), k30.C w A e.f4.length e.f4 → e.f4.length ≤ c → Tab w → SizeOf.sizeOf e ≤ n → okF n e → (exprF n e).size ≤ 4611686018427387904 → Calls Tryd.prog 13 #[.agg #[.int .i64 e.f0, .int .i64 e.f1, .int .i64 e.f2, .string e.f3, .slice A e.f4.length c]] w fun r w' => r = .returned (.string (exprF n e)) ∧ Below w.heap.size w w') (hs : SizeOf.sizeOf e ≤ n + 1) (ok : okF (n + 1) e) (hk : e.f0 = 6 ∧ (1 : Int) ≤ (e.f4.length : Int)) (hsz : (exprF (n + 1) e).size ≤ 4611686018427387904) :
    Calls Tryd.prog 13 #[.agg #[.int .i64 e.f0, .int .i64 e.f1, .int .i64 e.f2, .string e.f3, .slice A e.f4.length c]] w fun r w' => r = .returned (.string (exprF (n + 1) e)) ∧ Below w.heap.size w w' := by
  have hv : exprF (n + 1) e = (⟨#[45]⟩ : ByteArray) ++ exprF n (rd_T30 e.f4 0) := by
    simp only [exprF]
    rw [if_neg (by omega), if_neg (by omega), if_neg (by omega), if_neg (by omega), if_neg (by omega), if_pos hk]
  obtain ⟨ad, K0, d0, rfl, p00, p01, p02, p03, p04, hd0, hD0⟩ := at_T30 hC 0 (by decide) (by omega)
  have hz0 : SizeOf.sizeOf (rd_T30 e.f4 0) ≤ n := Nat.le_of_lt_succ (Nat.lt_of_lt_of_le (kid_size e 0 (by omega)) hs)
  have hok0 : okF n (rd_T30 e.f4 0) := kid_ok ok 0 (by omega)
  rw [show ad.add ((0 : Int).toNat * 5) = ad from rfl] at p00 p01 p02 p03 p04
  obtain ⟨q0, hq0⟩ : ∃ q, rd_T30 e.f4 0 = q := ⟨_, rfl⟩
  rw [hq0] at p00 p01 p02 p03 p04 hd0 hD0 hz0 hok0 hv
  obtain ⟨t0, ht0⟩ : ∃ t, exprF n q0 = t := ⟨_, rfl⟩
  rw [ht0] at hv
  rw [hv] at hsz ⊢
  simp only [ByteArray.size_append, sz1] at hsz
  have y0 : t0.size ≤ 4611686018427387904 := by omega
  have z0 : 1 + t0.size ≤ 9223372036854775807 := by omega
  obtain ⟨hk, hl⟩ := hk
  have hn0 : 0 < e.f4.length := by omega
  have HK0 := Aside0.mk (fun (W : World) (hb : Below w.heap.size w W) => ih q0 K0 d0 W (Kd.C_below hD0 hb) hd0 (tab_on ht hb) hz0 hok0 (by rw [ht0]; exact y0))
  rw [ht0] at HK0
  have kb1 : (e.f0 == 1) = false := beq_eq_false_iff_ne.mpr (by omega)
  have kb2 : (e.f0 == 2) = false := beq_eq_false_iff_ne.mpr (by omega)
  have kb3 : (e.f0 == 3) = false := beq_eq_false_iff_ne.mpr (by omega)
  have kb4 : (e.f0 == 4) = false := beq_eq_false_iff_ne.mpr (by omega)
  have kb5 : (e.f0 == 5) = false := beq_eq_false_iff_ne.mpr (by omega)
  have kb6 : (e.f0 == 6) = true := beq_iff_eq.mpr hk
  clear hC hc hv ih hs ok ht hk hd0 hD0 hz0 hok0 hq0 ht0 y0 hsz
  go_enter Tryd.func13, Tryd.ntmps13
  go_wp2_with (first | ((with_reducible refine gate_dst (N := 1) rfl ?_); refine box_event ?hg (N := 1) ?hd (cs := #[.int .i64 e.f0, .int .i64 e.f1, .int .i64 e.f2, .string e.f3, .slice (some ad) e.f4.length c]) (t := 30) ?hr ?_; (case hd => rfl); (case hg => rfl); (case hr => first | (go_simp; done) | (go_simp; rfl)); intro ge hgg w1 hlit hb; have HG := Aside0.mk hlit; have HB1 := Aside0.mk hb; have hy0 : w1.cell? ⟨ge, 0, none⟩ = some (.int .i64 e.f0) := (blk_cell hlit 0).trans rfl; have hy1 : w1.cell? ⟨ge, 1, none⟩ = some (.int .i64 e.f1) := (blk_cell hlit 1).trans rfl; have hy2 : w1.cell? ⟨ge, 2, none⟩ = some (.int .i64 e.f2) := (blk_cell hlit 2).trans rfl; have hy3 : w1.cell? ⟨ge, 3, none⟩ = some (.string e.f3) := (blk_cell hlit 3).trans rfl; have hy4 : w1.cell? ⟨ge, 4, none⟩ = some (.slice (some ad) e.f4.length c) := (blk_cell hlit 4).trans rfl; have h00 := pw_cell_below hb p00; have h01 := pw_cell_below hb p01; have h02 := pw_cell_below hb p02; have h03 := pw_cell_below hb p03; have h04 := pw_cell_below hb p04; clear hlit hb hgg) | (go_at_call 13; (with_reducible refine (HK0.out _ HB1.out).mono ?_); rintro e1 w2 ⟨rfl, hb⟩; have HB2 := Aside0.mk (below_then HB1.out HB1.out.size hb); clear hb))
  go_ret
  exact ⟨rfl, HB2.out⟩
set_option maxHeartbeats 8000000 in
set_option maxRecDepth 100000 in
theorem expr_no0 (n : Nat) (e : S30) (A : Option Addr) (c : Nat) (w : World) (hC : k30.C w A e.f4.length e.f4) (hc : e.f4.length ≤ c) (ht : Tab w) (hk : ¬ (1 ≤ e.f0 ∧ e.f0 ≤ 6)) :
    Calls Tryd.prog 13 #[.agg #[.int .i64 e.f0, .int .i64 e.f1, .int .i64 e.f2, .string e.f3, .slice A e.f4.length c]] w fun r w' => r = .returned (.string (exprF (n + 1) e)) ∧ Below w.heap.size w w' := by
  have hv : exprF (n + 1) e = (⟨#[63]⟩ : ByteArray) := by
    simp only [exprF]
    rw [if_neg (by omega), if_neg (by omega), if_neg (by omega), if_neg (by omega), if_neg (by omega), if_neg (by omega)]
  rw [hv]
  have kb1 : (e.f0 == 1) = false := beq_eq_false_iff_ne.mpr (by omega)
  have kb2 : (e.f0 == 2) = false := beq_eq_false_iff_ne.mpr (by omega)
  have kb3 : (e.f0 == 3) = false := beq_eq_false_iff_ne.mpr (by omega)
  have kb4 : (e.f0 == 4) = false := beq_eq_false_iff_ne.mpr (by omega)
  have kb5 : (e.f0 == 5) = false := beq_eq_false_iff_ne.mpr (by omega)
  have kb6 : (e.f0 == 6) = false := beq_eq_false_iff_ne.mpr (by omega)
  clear hC hc hv ht hk
  go_enter Tryd.func13, Tryd.ntmps13
  go_wp2_with (first | ((with_reducible refine gate_dst (N := 1) rfl ?_); refine box_event ?hg (N := 1) ?hd (cs := #[.int .i64 e.f0, .int .i64 e.f1, .int .i64 e.f2, .string e.f3, .slice A e.f4.length c]) (t := 30) ?hr ?_; (case hd => rfl); (case hg => rfl); (case hr => first | (go_simp; done) | (go_simp; rfl)); intro ge hgg w1 hlit hb; have HG := Aside0.mk hlit; have HB1 := Aside0.mk hb; have hy0 : w1.cell? ⟨ge, 0, none⟩ = some (.int .i64 e.f0) := (blk_cell hlit 0).trans rfl; have hy1 : w1.cell? ⟨ge, 1, none⟩ = some (.int .i64 e.f1) := (blk_cell hlit 1).trans rfl; have hy2 : w1.cell? ⟨ge, 2, none⟩ = some (.int .i64 e.f2) := (blk_cell hlit 2).trans rfl; have hy3 : w1.cell? ⟨ge, 3, none⟩ = some (.string e.f3) := (blk_cell hlit 3).trans rfl; have hy4 : w1.cell? ⟨ge, 4, none⟩ = some (.slice A e.f4.length c) := (blk_cell hlit 4).trans rfl; clear hlit hb hgg))
  go_ret
  exact ⟨rfl, HB1.out⟩
set_option maxHeartbeats 8000000 in
set_option maxRecDepth 100000 in
theorem expr_no3 (n : Nat) (e : S30) (A : Option Addr) (c : Nat) (w : World) (hC : k30.C w A e.f4.length e.f4) (hc : e.f4.length ≤ c) (ht : Tab w) (hk : e.f0 = 3 ∧ e.f4.length = 0) :
    Calls Tryd.prog 13 #[.agg #[.int .i64 e.f0, .int .i64 e.f1, .int .i64 e.f2, .string e.f3, .slice A e.f4.length c]] w fun r w' => r = .returned (.string (exprF (n + 1) e)) ∧ Below w.heap.size w w' := by
  have hv : exprF (n + 1) e = (⟨#[63]⟩ : ByteArray) := by
    simp only [exprF]
    rw [if_neg (by omega), if_neg (by omega), if_neg (by omega), if_neg (by omega), if_neg (by omega), if_neg (by omega)]
  rw [hv]
  have kb1 : (e.f0 == 1) = false := beq_eq_false_iff_ne.mpr (by omega)
  have kb2 : (e.f0 == 2) = false := beq_eq_false_iff_ne.mpr (by omega)
  have kb3 : (e.f0 == 3) = true := beq_iff_eq.mpr hk.1
  have kb4 : (e.f0 == 4) = false := beq_eq_false_iff_ne.mpr (by omega)
  have kb5 : (e.f0 == 5) = false := beq_eq_false_iff_ne.mpr (by omega)
  have kb6 : (e.f0 == 6) = false := beq_eq_false_iff_ne.mpr (by omega)
  have h0 := hk.2
  clear hC hc hv ht hk
  go_enter Tryd.func13, Tryd.ntmps13
  go_wp2_with (first | ((with_reducible refine gate_dst (N := 1) rfl ?_); refine box_event ?hg (N := 1) ?hd (cs := #[.int .i64 e.f0, .int .i64 e.f1, .int .i64 e.f2, .string e.f3, .slice A e.f4.length c]) (t := 30) ?hr ?_; (case hd => rfl); (case hg => rfl); (case hr => first | (go_simp; done) | (go_simp; rfl)); intro ge hgg w1 hlit hb; have HG := Aside0.mk hlit; have HB1 := Aside0.mk hb; have hy0 : w1.cell? ⟨ge, 0, none⟩ = some (.int .i64 e.f0) := (blk_cell hlit 0).trans rfl; have hy1 : w1.cell? ⟨ge, 1, none⟩ = some (.int .i64 e.f1) := (blk_cell hlit 1).trans rfl; have hy2 : w1.cell? ⟨ge, 2, none⟩ = some (.int .i64 e.f2) := (blk_cell hlit 2).trans rfl; have hy3 : w1.cell? ⟨ge, 3, none⟩ = some (.string e.f3) := (blk_cell hlit 3).trans rfl; have hy4 : w1.cell? ⟨ge, 4, none⟩ = some (.slice A e.f4.length c) := (blk_cell hlit 4).trans rfl; clear hlit hb hgg))
  go_ret
  exact ⟨rfl, HB1.out⟩
set_option maxHeartbeats 8000000 in
set_option maxRecDepth 100000 in
theorem expr_no5a (n : Nat) (e : S30) (A : Option Addr) (c : Nat) (w : World) (hC : k30.C w A e.f4.length e.f4) (hc : e.f4.length ≤ c) (ht : Tab w) (hk : e.f0 = 5 ∧ e.f4.length = 0) :
    Calls Tryd.prog 13 #[.agg #[.int .i64 e.f0, .int .i64 e.f1, .int .i64 e.f2, .string e.f3, .slice A e.f4.length c]] w fun r w' => r = .returned (.string (exprF (n + 1) e)) ∧ Below w.heap.size w w' := by
  have hv : exprF (n + 1) e = (⟨#[63]⟩ : ByteArray) := by
    simp only [exprF]
    rw [if_neg (by omega), if_neg (by omega), if_neg (by omega), if_neg (by omega), if_neg (by omega), if_neg (by omega)]
  rw [hv]
  have kb1 : (e.f0 == 1) = false := beq_eq_false_iff_ne.mpr (by omega)
  have kb2 : (e.f0 == 2) = false := beq_eq_false_iff_ne.mpr (by omega)
  have kb3 : (e.f0 == 3) = false := beq_eq_false_iff_ne.mpr (by omega)
  have kb4 : (e.f0 == 4) = false := beq_eq_false_iff_ne.mpr (by omega)
  have kb5 : (e.f0 == 5) = true := beq_iff_eq.mpr hk.1
  have kb6 : (e.f0 == 6) = false := beq_eq_false_iff_ne.mpr (by omega)
  have h0 := hk.2
  clear hC hc hv ht hk
  go_enter Tryd.func13, Tryd.ntmps13
  go_wp2_with (first | ((with_reducible refine gate_dst (N := 1) rfl ?_); refine box_event ?hg (N := 1) ?hd (cs := #[.int .i64 e.f0, .int .i64 e.f1, .int .i64 e.f2, .string e.f3, .slice A e.f4.length c]) (t := 30) ?hr ?_; (case hd => rfl); (case hg => rfl); (case hr => first | (go_simp; done) | (go_simp; rfl)); intro ge hgg w1 hlit hb; have HG := Aside0.mk hlit; have HB1 := Aside0.mk hb; have hy0 : w1.cell? ⟨ge, 0, none⟩ = some (.int .i64 e.f0) := (blk_cell hlit 0).trans rfl; have hy1 : w1.cell? ⟨ge, 1, none⟩ = some (.int .i64 e.f1) := (blk_cell hlit 1).trans rfl; have hy2 : w1.cell? ⟨ge, 2, none⟩ = some (.int .i64 e.f2) := (blk_cell hlit 2).trans rfl; have hy3 : w1.cell? ⟨ge, 3, none⟩ = some (.string e.f3) := (blk_cell hlit 3).trans rfl; have hy4 : w1.cell? ⟨ge, 4, none⟩ = some (.slice A e.f4.length c) := (blk_cell hlit 4).trans rfl; clear hlit hb hgg))
  go_ret
  exact ⟨rfl, HB1.out⟩
set_option maxHeartbeats 8000000 in
set_option maxRecDepth 100000 in
theorem expr_no5b (n : Nat) (e : S30) (A : Option Addr) (c : Nat) (w : World) (hC : k30.C w A e.f4.length e.f4) (hc : e.f4.length ≤ c) (ht : Tab w) (hk : e.f0 = 5 ∧ e.f4.length = 1) :
    Calls Tryd.prog 13 #[.agg #[.int .i64 e.f0, .int .i64 e.f1, .int .i64 e.f2, .string e.f3, .slice A e.f4.length c]] w fun r w' => r = .returned (.string (exprF (n + 1) e)) ∧ Below w.heap.size w w' := by
  have hv : exprF (n + 1) e = (⟨#[63]⟩ : ByteArray) := by
    simp only [exprF]
    rw [if_neg (by omega), if_neg (by omega), if_neg (by omega), if_neg (by omega), if_neg (by omega), if_neg (by omega)]
  rw [hv]
  have kb1 : (e.f0 == 1) = false := beq_eq_false_iff_ne.mpr (by omega)
  have kb2 : (e.f0 == 2) = false := beq_eq_false_iff_ne.mpr (by omega)
  have kb3 : (e.f0 == 3) = false := beq_eq_false_iff_ne.mpr (by omega)
  have kb4 : (e.f0 == 4) = false := beq_eq_false_iff_ne.mpr (by omega)
  have kb5 : (e.f0 == 5) = true := beq_iff_eq.mpr hk.1
  have kb6 : (e.f0 == 6) = false := beq_eq_false_iff_ne.mpr (by omega)
  have h0 := hk.2
  clear hC hc hv ht hk
  go_enter Tryd.func13, Tryd.ntmps13
  go_wp2_with (first | ((with_reducible refine gate_dst (N := 1) rfl ?_); refine box_event ?hg (N := 1) ?hd (cs := #[.int .i64 e.f0, .int .i64 e.f1, .int .i64 e.f2, .string e.f3, .slice A e.f4.length c]) (t := 30) ?hr ?_; (case hd => rfl); (case hg => rfl); (case hr => first | (go_simp; done) | (go_simp; rfl)); intro ge hgg w1 hlit hb; have HG := Aside0.mk hlit; have HB1 := Aside0.mk hb; have hy0 : w1.cell? ⟨ge, 0, none⟩ = some (.int .i64 e.f0) := (blk_cell hlit 0).trans rfl; have hy1 : w1.cell? ⟨ge, 1, none⟩ = some (.int .i64 e.f1) := (blk_cell hlit 1).trans rfl; have hy2 : w1.cell? ⟨ge, 2, none⟩ = some (.int .i64 e.f2) := (blk_cell hlit 2).trans rfl; have hy3 : w1.cell? ⟨ge, 3, none⟩ = some (.string e.f3) := (blk_cell hlit 3).trans rfl; have hy4 : w1.cell? ⟨ge, 4, none⟩ = some (.slice A e.f4.length c) := (blk_cell hlit 4).trans rfl; clear hlit hb hgg))
  go_ret
  exact ⟨rfl, HB1.out⟩
set_option maxHeartbeats 8000000 in
set_option maxRecDepth 100000 in
theorem expr_no5c (n : Nat) (e : S30) (A : Option Addr) (c : Nat) (w : World) (hC : k30.C w A e.f4.length e.f4) (hc : e.f4.length ≤ c) (ht : Tab w) (hk : e.f0 = 5 ∧ 2 ≤ e.f4.length ∧ ¬ (1 ≤ e.f2 ∧ e.f2 ≤ 5)) :
    Calls Tryd.prog 13 #[.agg #[.int .i64 e.f0, .int .i64 e.f1, .int .i64 e.f2, .string e.f3, .slice A e.f4.length c]] w fun r w' => r = .returned (.string (exprF (n + 1) e)) ∧ Below w.heap.size w w' := by
  have hv : exprF (n + 1) e = (⟨#[63]⟩ : ByteArray) := by
    simp only [exprF]
    rw [if_neg (by omega), if_neg (by omega), if_neg (by omega), if_neg (by omega), if_neg (by omega), if_neg (by omega)]
  rw [hv]
  have kb1 : (e.f0 == 1) = false := beq_eq_false_iff_ne.mpr (by omega)
  have kb2 : (e.f0 == 2) = false := beq_eq_false_iff_ne.mpr (by omega)
  have kb3 : (e.f0 == 3) = false := beq_eq_false_iff_ne.mpr (by omega)
  have kb4 : (e.f0 == 4) = false := beq_eq_false_iff_ne.mpr (by omega)
  have kb5 : (e.f0 == 5) = true := beq_iff_eq.mpr hk.1
  have kb6 : (e.f0 == 6) = false := beq_eq_false_iff_ne.mpr (by omega)
  have HO := Aside0.mk (fun (W : World) => op_calls e.f2 (opB_none hk.2.2) W)
  have hn2 := hk.2.1
  clear hC hc hv ht hk
  go_enter Tryd.func13, Tryd.ntmps13
  go_wp2_with (first | ((with_reducible refine gate_dst (N := 1) rfl ?_); refine box_event ?hg (N := 1) ?hd (cs := #[.int .i64 e.f0, .int .i64 e.f1, .int .i64 e.f2, .string e.f3, .slice A e.f4.length c]) (t := 30) ?hr ?_; (case hd => rfl); (case hg => rfl); (case hr => first | (go_simp; done) | (go_simp; rfl)); intro ge hgg w1 hlit hb; have HG := Aside0.mk hlit; have HB1 := Aside0.mk hb; have hy0 : w1.cell? ⟨ge, 0, none⟩ = some (.int .i64 e.f0) := (blk_cell hlit 0).trans rfl; have hy1 : w1.cell? ⟨ge, 1, none⟩ = some (.int .i64 e.f1) := (blk_cell hlit 1).trans rfl; have hy2 : w1.cell? ⟨ge, 2, none⟩ = some (.int .i64 e.f2) := (blk_cell hlit 2).trans rfl; have hy3 : w1.cell? ⟨ge, 3, none⟩ = some (.string e.f3) := (blk_cell hlit 3).trans rfl; have hy4 : w1.cell? ⟨ge, 4, none⟩ = some (.slice A e.f4.length c) := (blk_cell hlit 4).trans rfl; clear hlit hb hgg) | (go_at_call 29; (with_reducible refine (HO.out _).mono ?_); rintro e1 w2 ⟨rfl, hb⟩; have HB2 := Aside0.mk (below_then HB1.out HB1.out.size hb); have hx2 := pw_cell_below hb hy2; have hx4 := pw_cell_below hb hy4; have hx0 := pw_cell_below hb hy0; clear hb))
  go_ret
  exact ⟨rfl, HB2.out⟩
set_option maxHeartbeats 8000000 in
set_option maxRecDepth 100000 in
theorem expr_no6 (n : Nat) (e : S30) (A : Option Addr) (c : Nat) (w : World) (hC : k30.C w A e.f4.length e.f4) (hc : e.f4.length ≤ c) (ht : Tab w) (hk : e.f0 = 6 ∧ e.f4.length = 0) :
    Calls Tryd.prog 13 #[.agg #[.int .i64 e.f0, .int .i64 e.f1, .int .i64 e.f2, .string e.f3, .slice A e.f4.length c]] w fun r w' => r = .returned (.string (exprF (n + 1) e)) ∧ Below w.heap.size w w' := by
  have hv : exprF (n + 1) e = (⟨#[63]⟩ : ByteArray) := by
    simp only [exprF]
    rw [if_neg (by omega), if_neg (by omega), if_neg (by omega), if_neg (by omega), if_neg (by omega), if_neg (by omega)]
  rw [hv]
  have kb1 : (e.f0 == 1) = false := beq_eq_false_iff_ne.mpr (by omega)
  have kb2 : (e.f0 == 2) = false := beq_eq_false_iff_ne.mpr (by omega)
  have kb3 : (e.f0 == 3) = false := beq_eq_false_iff_ne.mpr (by omega)
  have kb4 : (e.f0 == 4) = false := beq_eq_false_iff_ne.mpr (by omega)
  have kb5 : (e.f0 == 5) = false := beq_eq_false_iff_ne.mpr (by omega)
  have kb6 : (e.f0 == 6) = true := beq_iff_eq.mpr hk.1
  have h0 := hk.2
  clear hC hc hv ht hk
  go_enter Tryd.func13, Tryd.ntmps13
  go_wp2_with (first | ((with_reducible refine gate_dst (N := 1) rfl ?_); refine box_event ?hg (N := 1) ?hd (cs := #[.int .i64 e.f0, .int .i64 e.f1, .int .i64 e.f2, .string e.f3, .slice A e.f4.length c]) (t := 30) ?hr ?_; (case hd => rfl); (case hg => rfl); (case hr => first | (go_simp; done) | (go_simp; rfl)); intro ge hgg w1 hlit hb; have HG := Aside0.mk hlit; have HB1 := Aside0.mk hb; have hy0 : w1.cell? ⟨ge, 0, none⟩ = some (.int .i64 e.f0) := (blk_cell hlit 0).trans rfl; have hy1 : w1.cell? ⟨ge, 1, none⟩ = some (.int .i64 e.f1) := (blk_cell hlit 1).trans rfl; have hy2 : w1.cell? ⟨ge, 2, none⟩ = some (.int .i64 e.f2) := (blk_cell hlit 2).trans rfl; have hy3 : w1.cell? ⟨ge, 3, none⟩ = some (.string e.f3) := (blk_cell hlit 3).trans rfl; have hy4 : w1.cell? ⟨ge, 4, none⟩ = some (.slice A e.f4.length c) := (blk_cell hlit 4).trans rfl; clear hlit hb hgg))
  go_ret
  exact ⟨rfl, HB1.out⟩
/-- show.Expr answers exprF, with as much fuel as the expression is large. -/
theorem expr_calls : ∀ (n : Nat) (e : S30) (A : Option Addr) (c : Nat) (w : World), k30.C w A e.f4.length e.f4 → e.f4.length ≤ c → Tab w → SizeOf.sizeOf e ≤ n → okF n e → (exprF n e).size ≤ 4611686018427387904 → Calls Tryd.prog 13 #[.agg #[.int .i64 e.f0, .int .i64 e.f1, .int .i64 e.f2, .string e.f3, .slice A e.f4.length c]] w fun r w' => r = .returned (.string (exprF n e)) ∧ Below w.heap.size w w'
  | 0, e, A, c, w, hC, hc, ht, hs, ok, hsz => by
    obtain ⟨a, b, c, d, l⟩ := e
    simp only [S30.mk.sizeOf_spec] at hs
    omega
  | n + 1, e, A, c, w, hC, hc, ht, hs, ok, hsz => by
    have ih := expr_calls n
    by_cases k1 : e.f0 = 1
    · exact expr_num n e A c w hC hc ht k1 ok.1
    by_cases k2 : e.f0 = 2
    · exact expr_var n e A c w hC hc ht k2
    by_cases k3 : e.f0 = 3
    · rcases Nat.eq_zero_or_pos e.f4.length with h | h
      · exact expr_no3 n e A c w hC hc ht ⟨k3, h⟩
      · exact expr_elem n e A c w hC hc ht ih hs ok ⟨k3, by omega⟩ hsz
    by_cases k4 : e.f0 = 4
    · exact expr_inp n e A c w hC hc ht k4
    by_cases k5 : e.f0 = 5
    · by_cases h2 : 2 ≤ e.f4.length
      · by_cases ho : 1 ≤ e.f2 ∧ e.f2 ≤ 5
        · exact expr_bin n e A c w hC hc ht ih hs ok ⟨k5, by omega, ho⟩ hsz
        · exact expr_no5c n e A c w hC hc ht ⟨k5, h2, ho⟩
      · rcases Nat.eq_zero_or_pos e.f4.length with h | h
        · exact expr_no5a n e A c w hC hc ht ⟨k5, h⟩
        · exact expr_no5b n e A c w hC hc ht ⟨k5, by omega⟩
    by_cases k6 : e.f0 = 6
    · rcases Nat.eq_zero_or_pos e.f4.length with h | h
      · exact expr_no6 n e A c w hC hc ht ⟨k6, h⟩
      · exact expr_neg n e A c w hC hc ht ih hs ok ⟨k6, by omega⟩ hsz
    exact expr_no0 n e A c w hC hc ht (by omega)
end Go.Proofs.YtfeaekdhpkdljaaDoor.Sh
