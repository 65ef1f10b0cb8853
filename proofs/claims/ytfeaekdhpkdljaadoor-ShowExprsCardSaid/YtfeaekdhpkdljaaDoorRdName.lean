/- meddlerref5.reader: name, num, full, rel; bin. -/
import Derived.Test.YtfeaekdhpkdljaaDoorRdTok
import Derived.Test.YtfeaekdhpkdljaaDoorShF39
namespace Go.Proofs.YtfeaekdhpkdljaaDoor.Rd
open Go.RowKit Go.Proofs.YtfeaekdhpkdljaaDoorW.PrintWords Go.Proofs.YtfeaekdhpkdljaaDoorW.PrintLast Go.Proofs.YtfeaekdhpkdljaaDoor.Sh
set_option linter.unusedVariables false
set_option linter.unusedSimpArgs false
def words : List ByteArray := [⟨#[103, 108, 111, 98, 97, 108]⟩, ⟨#[97, 114, 114, 97, 121]⟩, ⟨#[109, 117, 116, 101, 120]⟩, ⟨#[116, 104, 114, 101, 97, 100]⟩, ⟨#[108, 111, 99, 97, 108]⟩, ⟨#[108, 111, 99, 107]⟩, ⟨#[117, 110, 108, 111, 99, 107]⟩, ⟨#[105, 102]⟩, ⟨#[101, 108, 115, 101]⟩, ⟨#[119, 104, 105, 108, 101]⟩, ⟨#[97, 115, 115, 101, 114, 116]⟩, ⟨#[115, 107, 105, 112]⟩, ⟨#[105, 110, 112, 117, 116]⟩]
def wordB (x : ByteArray) : Bool := words.any (fun v => decide (v = x))
theorem word_l (x : ByteArray) (ws : List ByteArray) (hl : ws.length ≤ 1000) : ∀ (m i k : Nat), i + m = ws.length → m < k → meddlerref4_Word.l0 k x ws (i : Int) = some ((ws.drop i).any (fun v => decide (v = x)))
  | m, i, 0, _, hk => by omega
  | 0, i, k + 1, hm, _ => by
    simp only [meddlerref4_Word.l0]
    rw [if_neg (by omega), List.drop_eq_nil_of_le (by omega)]
    simp
  | m + 1, i, k + 1, hm, hk => by
    have hi : i < ws.length := by omega
    have ih := word_l x ws hl m (i + 1) k (by omega) (by omega)
    have hd : ws.drop i = ws[i] :: ws.drop (i + 1) := List.drop_eq_getElem_cons hi
    have hr : rdOf ByteArray.empty ws (i : Int) = ws[i] := by simp [rdOf, hi]
    simp only [meddlerref4_Word.l0]
    rw [if_pos (by omega), if_pos (by omega), hr, hd]
    by_cases h : ws[i] = x
    · rw [if_pos (by rw [h]), List.any_cons, decide_eq_true h, Bool.true_or]
    · rw [if_neg (fun e => h (str_inj e)), show wrap64 ((i : Int) + 1) = ((i + 1 : Nat) : Int) by rw [IntWalk.wrap64_in _ (by omega)]; omega, ih, List.any_cons, decide_eq_false h, Bool.false_or]
theorem word_calls (x : ByteArray) (w : World) : Calls Tryd.prog 39 #[.string x] w fun q w' => q = .returned (.bool (wordB x)) ∧ Below w.heap.size w w' :=
  meddlerref4_Word.calls 14 x (wordB x) w (word_l x words (by decide) 13 0 14 rfl (by decide))
def nameS (ts : List S86) (en : Int) (s : Rs) : ByteArray × Rs := if s.e = 0 ∧ (tokS ts en s).f0 = 2 ∧ wordB (tokS ts en s).f1 = false then ((tokS ts en s).f1, stepS s) else (⟨#[]⟩, failS ts en s 2)
def numS (ts : List S86) (en : Int) (s : Rs) : Int × Rs := if s.e = 0 ∧ (tokS ts en s).f0 = 1 then ((tokS ts en s).f2, stepS s) else (0, failS ts en s 2)
def fullS (ts : List S86) (en : Int) (s : Rs) (n m : Int) : Rs := if m ≤ n ∧ (tokS ts en s).f0 = 2 ∧ wordB (tokS ts en s).f1 = false then failS ts en s 4 else s
set_option maxHeartbeats 8000000 in
set_option maxRecDepth 100000 in
theorem num_calls (w0 : World) (A : Option Addr) (c : Nat) (ts : List S86) (en : Int) (b : Nat) (hX : Ctx w0 A c ts b) (s : Rs) (w : World) (h : Rd w0 A c ts en b s w) :
    Calls Tryd.prog 59 #[.pointer (some ⟨b, 0, none⟩)] w fun q w' => q = .returned (.int .i64 (numS ts en s).1) ∧ Rd w0 A c ts en b ((numS ts en s).2) w' ∧ w.grownBy w' (some b) := by
  have HX := Aside0.mk hX
  have HR := Aside0.mk h
  have hml : ts.length ≤ 9223372036854775807 := hX.row.2.1
  have HT := Aside0.mk (tok_calls w0 A c ts en b hX s w h)
  unfold numS
  have HIN := Aside0.mk (fun (h : (tokS ts en s).f0 ≠ 0) => tokS_in (ts := ts) (en := en) (s := s) h)
  obtain ⟨t, ht⟩ : ∃ t, tokS ts en s = t := ⟨_, rfl⟩
  rw [ht] at HT HIN ⊢
  clear hX h ht
  by_cases k1 : s.e = 0
  · by_cases k2 : t.f0 = 1
    · rw [if_pos ⟨k1, k2⟩]
      have hin := HIN.out (by omega)
      have e1 : (s.e != 0) = false := bne_eq_false_iff_eq.mpr k1
      have e2 : (t.f0 != 1) = false := bne_eq_false_iff_eq.mpr k2
      clear k1 k2
      go_enter Tryd.func59, Tryd.ntmps59
      go_wp2_with fail
      refine HT.out.mono ?_
      rintro q w1 ⟨rfl, hb⟩
      have HB1 := Aside0.mk hb
      clear hb
      go_wp2_with (first | ((with_reducible refine gate_dst (N := 3) rfl ?_); refine box_event ?hg (N := 3) ?hd (cs := #[.int .i64 0, .string ⟨#[]⟩, .int .i64 0, .int .i64 0]) (t := 86) ?hr ?_; (case hd => rfl); (case hg => rfl); (case hr => first | (go_simp; done) | (go_simp; rfl)); intro gt hgg w2 hlit hb; have HZ := Aside0.mk hlit; have HB2 := Aside0.mk hb; have HGT := Aside0.mk hgg; clear hlit hb hgg) | ((with_reducible refine gate_store (t := 86) (p := 3) rfl ?_); refine put_val ?hg ?hn 86 (.tmp 3) (.tmp 5) ?ho gt 86 _ (#[.int .i64 t.f0, .string t.f1, .int .i64 t.f2, .int .i64 t.f3]) (.agg (#[.int .i64 t.f0, .string t.f1, .int .i64 t.f2, .int .i64 t.f3])) ?hp ?hx ?hu HZ.out ?ht ?hs ?h1 ?_; (case hg => rfl); (case hn => rfl); (case ho => rfl); (case hp => rfl); (case hx => rfl); (case hu => rfl); (case ht => kernel_rfl); (case hs => rfl); (case h1 => exact tokC_one t); intro w3 hlit hg; have HBW := Aside0.mk (below_then HB1.out HB1.out.size (HB2.out.grown hg HB2.out.size (fun q hq => by injection hq with hq; rw [← hq, HGT.out]; exact Nat.le_refl _))); have HTK := Aside0.mk hlit; have h0 : w3.cell? ⟨gt, 0, none⟩ = some (.int .i64 t.f0) := (blk_cell hlit 0).trans rfl; have h1 : w3.cell? ⟨gt, 1, none⟩ = some (.string t.f1) := (blk_cell hlit 1).trans rfl; have h2 : w3.cell? ⟨gt, 2, none⟩ = some (.int .i64 t.f2) := (blk_cell hlit 2).trans rfl; have h3 : w3.cell? ⟨b, 3, none⟩ = some (.int .i64 s.e) := (blk_cell (below_read HBW.out HR.out.blk) 3).trans rfl; have hblk : w3.heap[b]? = some (.cells (rdC A c ts en s) 79 (0, 0)) := below_read HBW.out HR.out.blk; have n1 : w3.cell? ⟨b, 1, none⟩ = some (.int .i64 s.at_) := (blk_cell hblk 1).trans rfl; have m1 : w3.frozen? ⟨b, 1, none⟩ = false := blk_frozen hblk 1; have HG := Aside0.mk (grow_trans (grown_of_below HBW.out (some b)) (grow_set w3 b 1 (.int .i64 ((s.at_ : Int) + 1)))); have HF := Aside0.mk (show Rd w0 A c ts en b (stepS s) (w3.setCell ⟨b, 1, none⟩ (.int .i64 ((s.at_ : Int) + 1))) from ⟨(blk_set hblk 1 (.int .i64 ((s.at_ : Int) + 1))).trans rfl, HX.out.old_of HR.out.old HG.out, hin⟩); clear hblk; have hne : gt ≠ b := typed_ne (HTK.out) (below_read HBW.out HR.out.blk) (by decide); have hv : (w3.setCell ⟨b, 1, none⟩ (.int .i64 ((s.at_ : Int) + 1))).cell? ⟨gt, 2, none⟩ = some (.int .i64 t.f2) := (blk_cell (blk_far HTK.out hne _) 2).trans rfl; clear hlit hg))
      go_ret
      exact ⟨rfl, HF.out, HG.out⟩
    · rw [if_neg (by intro hc; exact absurd hc.2 k2)]
      have e1 : (s.e != 0) = false := bne_eq_false_iff_eq.mpr k1
      have e2 : (t.f0 != 1) = true := bne_iff_ne.mpr k2
      clear k1 k2
      go_enter Tryd.func59, Tryd.ntmps59
      go_wp2_with fail
      refine HT.out.mono ?_
      rintro q w1 ⟨rfl, hb⟩
      have HB1 := Aside0.mk hb
      clear hb
      go_wp2_with (first | ((with_reducible refine gate_dst (N := 3) rfl ?_); refine box_event ?hg (N := 3) ?hd (cs := #[.int .i64 0, .string ⟨#[]⟩, .int .i64 0, .int .i64 0]) (t := 86) ?hr ?_; (case hd => rfl); (case hg => rfl); (case hr => first | (go_simp; done) | (go_simp; rfl)); intro gt hgg w2 hlit hb; have HZ := Aside0.mk hlit; have HB2 := Aside0.mk hb; have HGT := Aside0.mk hgg; clear hlit hb hgg) | ((with_reducible refine gate_store (t := 86) (p := 3) rfl ?_); refine put_val ?hg ?hn 86 (.tmp 3) (.tmp 5) ?ho gt 86 _ (#[.int .i64 t.f0, .string t.f1, .int .i64 t.f2, .int .i64 t.f3]) (.agg (#[.int .i64 t.f0, .string t.f1, .int .i64 t.f2, .int .i64 t.f3])) ?hp ?hx ?hu HZ.out ?ht ?hs ?h1 ?_; (case hg => rfl); (case hn => rfl); (case ho => rfl); (case hp => rfl); (case hx => rfl); (case hu => rfl); (case ht => kernel_rfl); (case hs => rfl); (case h1 => exact tokC_one t); intro w3 hlit hg; have HBW := Aside0.mk (below_then HB1.out HB1.out.size (HB2.out.grown hg HB2.out.size (fun q hq => by injection hq with hq; rw [← hq, HGT.out]; exact Nat.le_refl _))); have HTK := Aside0.mk hlit; have h0 : w3.cell? ⟨gt, 0, none⟩ = some (.int .i64 t.f0) := (blk_cell hlit 0).trans rfl; have h1 : w3.cell? ⟨gt, 1, none⟩ = some (.string t.f1) := (blk_cell hlit 1).trans rfl; have h2 : w3.cell? ⟨gt, 2, none⟩ = some (.int .i64 t.f2) := (blk_cell hlit 2).trans rfl; have h3 : w3.cell? ⟨b, 3, none⟩ = some (.int .i64 s.e) := (blk_cell (below_read HBW.out HR.out.blk) 3).trans rfl; clear hlit hg))
      refine (fail_calls w0 A c ts en b HX.out s 2 w3 (HR.out.on HBW.out)).mono ?_
      rintro q w8 ⟨rfl, hr, hg⟩
      have HR8 := Aside0.mk hr
      have HG8 := Aside0.mk (grow_trans (grown_of_below HBW.out (some b)) hg)
      clear hr hg
      go_wp2_with fail
      go_ret
      exact ⟨rfl, HR8.out, HG8.out⟩
  · rw [if_neg (by intro hc; exact absurd hc.1 k1)]
    have e1 : (s.e != 0) = true := bne_iff_ne.mpr k1
    clear k1
    go_enter Tryd.func59, Tryd.ntmps59
    go_wp2_with fail
    refine HT.out.mono ?_
    rintro q w1 ⟨rfl, hb⟩
    have HB1 := Aside0.mk hb
    clear hb
    go_wp2_with (first | ((with_reducible refine gate_dst (N := 3) rfl ?_); refine box_event ?hg (N := 3) ?hd (cs := #[.int .i64 0, .string ⟨#[]⟩, .int .i64 0, .int .i64 0]) (t := 86) ?hr ?_; (case hd => rfl); (case hg => rfl); (case hr => first | (go_simp; done) | (go_simp; rfl)); intro gt hgg w2 hlit hb; have HZ := Aside0.mk hlit; have HB2 := Aside0.mk hb; have HGT := Aside0.mk hgg; clear hlit hb hgg) | ((with_reducible refine gate_store (t := 86) (p := 3) rfl ?_); refine put_val ?hg ?hn 86 (.tmp 3) (.tmp 5) ?ho gt 86 _ (#[.int .i64 t.f0, .string t.f1, .int .i64 t.f2, .int .i64 t.f3]) (.agg (#[.int .i64 t.f0, .string t.f1, .int .i64 t.f2, .int .i64 t.f3])) ?hp ?hx ?hu HZ.out ?ht ?hs ?h1 ?_; (case hg => rfl); (case hn => rfl); (case ho => rfl); (case hp => rfl); (case hx => rfl); (case hu => rfl); (case ht => kernel_rfl); (case hs => rfl); (case h1 => exact tokC_one t); intro w3 hlit hg; have HBW := Aside0.mk (below_then HB1.out HB1.out.size (HB2.out.grown hg HB2.out.size (fun q hq => by injection hq with hq; rw [← hq, HGT.out]; exact Nat.le_refl _))); have HTK := Aside0.mk hlit; have h0 : w3.cell? ⟨gt, 0, none⟩ = some (.int .i64 t.f0) := (blk_cell hlit 0).trans rfl; have h1 : w3.cell? ⟨gt, 1, none⟩ = some (.string t.f1) := (blk_cell hlit 1).trans rfl; have h2 : w3.cell? ⟨gt, 2, none⟩ = some (.int .i64 t.f2) := (blk_cell hlit 2).trans rfl; have h3 : w3.cell? ⟨b, 3, none⟩ = some (.int .i64 s.e) := (blk_cell (below_read HBW.out HR.out.blk) 3).trans rfl; clear hlit hg))
    refine (fail_calls w0 A c ts en b HX.out s 2 w3 (HR.out.on HBW.out)).mono ?_
    rintro q w8 ⟨rfl, hr, hg⟩
    have HR8 := Aside0.mk hr
    have HG8 := Aside0.mk (grow_trans (grown_of_below HBW.out (some b)) hg)
    clear hr hg
    go_wp2_with fail
    go_ret
    exact ⟨rfl, HR8.out, HG8.out⟩
set_option maxHeartbeats 8000000 in
set_option maxRecDepth 100000 in
theorem name_calls (w0 : World) (A : Option Addr) (c : Nat) (ts : List S86) (en : Int) (b : Nat) (hX : Ctx w0 A c ts b) (s : Rs) (w : World) (h : Rd w0 A c ts en b s w) :
    Calls Tryd.prog 52 #[.pointer (some ⟨b, 0, none⟩)] w fun q w' => q = .returned (.string (nameS ts en s).1) ∧ Rd w0 A c ts en b ((nameS ts en s).2) w' ∧ w.grownBy w' (some b) := by
  have HX := Aside0.mk hX
  have HR := Aside0.mk h
  have hml : ts.length ≤ 9223372036854775807 := hX.row.2.1
  have HT := Aside0.mk (tok_calls w0 A c ts en b hX s w h)
  unfold nameS
  have HIN := Aside0.mk (fun (h : (tokS ts en s).f0 ≠ 0) => tokS_in (ts := ts) (en := en) (s := s) h)
  obtain ⟨t, ht⟩ : ∃ t, tokS ts en s = t := ⟨_, rfl⟩
  rw [ht] at HT HIN ⊢
  clear hX h ht
  by_cases k1 : s.e = 0
  · by_cases k2 : t.f0 = 2
    · have HWD := Aside0.mk (fun W => word_calls t.f1 W)
      by_cases k3 : wordB t.f1 = false
      · rw [if_pos ⟨k1, k2, k3⟩]
        have hin := HIN.out (by omega)
        have e1 : (s.e != 0) = false := bne_eq_false_iff_eq.mpr k1
        have e2 : (t.f0 != 2) = false := bne_eq_false_iff_eq.mpr k2
        rw [k3] at HWD
        clear k1 k2 k3
        go_enter Tryd.func52, Tryd.ntmps52
        go_wp2_with fail
        refine HT.out.mono ?_
        rintro q w1 ⟨rfl, hb⟩
        have HB1 := Aside0.mk hb
        clear hb
        go_wp2_with (first | ((with_reducible refine gate_dst (N := 3) rfl ?_); refine box_event ?hg (N := 3) ?hd (cs := #[.int .i64 0, .string ⟨#[]⟩, .int .i64 0, .int .i64 0]) (t := 86) ?hr ?_; (case hd => rfl); (case hg => rfl); (case hr => first | (go_simp; done) | (go_simp; rfl)); intro gt hgg w2 hlit hb; have HZ := Aside0.mk hlit; have HB2 := Aside0.mk hb; have HGT := Aside0.mk hgg; clear hlit hb hgg) | ((with_reducible refine gate_store (t := 86) (p := 3) rfl ?_); refine put_val ?hg ?hn 86 (.tmp 3) (.tmp 5) ?ho gt 86 _ (#[.int .i64 t.f0, .string t.f1, .int .i64 t.f2, .int .i64 t.f3]) (.agg (#[.int .i64 t.f0, .string t.f1, .int .i64 t.f2, .int .i64 t.f3])) ?hp ?hx ?hu HZ.out ?ht ?hs ?h1 ?_; (case hg => rfl); (case hn => rfl); (case ho => rfl); (case hp => rfl); (case hx => rfl); (case hu => rfl); (case ht => kernel_rfl); (case hs => rfl); (case h1 => exact tokC_one t); intro w3 hlit hg; have HBW := Aside0.mk (below_then HB1.out HB1.out.size (HB2.out.grown hg HB2.out.size (fun q hq => by injection hq with hq; rw [← hq, HGT.out]; exact Nat.le_refl _))); have HTK := Aside0.mk hlit; have h0 : w3.cell? ⟨gt, 0, none⟩ = some (.int .i64 t.f0) := (blk_cell hlit 0).trans rfl; have h1 : w3.cell? ⟨gt, 1, none⟩ = some (.string t.f1) := (blk_cell hlit 1).trans rfl; have h2 : w3.cell? ⟨gt, 2, none⟩ = some (.int .i64 t.f2) := (blk_cell hlit 2).trans rfl; have h3 : w3.cell? ⟨b, 3, none⟩ = some (.int .i64 s.e) := (blk_cell (below_read HBW.out HR.out.blk) 3).trans rfl; clear hlit hg) | (go_at_call 39; (with_reducible refine (HWD.out w3).mono ?_); rintro q w4 ⟨rfl, hb⟩; have HB4 := Aside0.mk (below_then HBW.out HBW.out.size hb); have HTK4 := Aside0.mk (below_read hb HTK.out); have hblk : w4.heap[b]? = some (.cells (rdC A c ts en s) 79 (0, 0)) := below_read HB4.out HR.out.blk; have n1 : w4.cell? ⟨b, 1, none⟩ = some (.int .i64 s.at_) := (blk_cell hblk 1).trans rfl; have m1 : w4.frozen? ⟨b, 1, none⟩ = false := blk_frozen hblk 1; have HG := Aside0.mk (grow_trans (grown_of_below HB4.out (some b)) (grow_set w4 b 1 (.int .i64 ((s.at_ : Int) + 1)))); have HF := Aside0.mk (show Rd w0 A c ts en b (stepS s) (w4.setCell ⟨b, 1, none⟩ (.int .i64 ((s.at_ : Int) + 1))) from ⟨(blk_set hblk 1 (.int .i64 ((s.at_ : Int) + 1))).trans rfl, HX.out.old_of HR.out.old HG.out, hin⟩); clear hblk; have hne : gt ≠ b := typed_ne (HTK4.out) (below_read HB4.out HR.out.blk) (by decide); have hv : (w4.setCell ⟨b, 1, none⟩ (.int .i64 ((s.at_ : Int) + 1))).cell? ⟨gt, 1, none⟩ = some (.string t.f1) := (blk_cell (blk_far HTK4.out hne _) 1).trans rfl; clear hb))
        go_ret
        exact ⟨rfl, HF.out, HG.out⟩
      · rw [if_neg (by intro hc; exact absurd hc.2.2 k3)]
        have e1 : (s.e != 0) = false := bne_eq_false_iff_eq.mpr k1
        have e2 : (t.f0 != 2) = false := bne_eq_false_iff_eq.mpr k2
        rw [show wordB t.f1 = true by simpa using k3] at HWD
        clear k1 k2 k3
        go_enter Tryd.func52, Tryd.ntmps52
        go_wp2_with fail
        refine HT.out.mono ?_
        rintro q w1 ⟨rfl, hb⟩
        have HB1 := Aside0.mk hb
        clear hb
        go_wp2_with (first | ((with_reducible refine gate_dst (N := 3) rfl ?_); refine box_event ?hg (N := 3) ?hd (cs := #[.int .i64 0, .string ⟨#[]⟩, .int .i64 0, .int .i64 0]) (t := 86) ?hr ?_; (case hd => rfl); (case hg => rfl); (case hr => first | (go_simp; done) | (go_simp; rfl)); intro gt hgg w2 hlit hb; have HZ := Aside0.mk hlit; have HB2 := Aside0.mk hb; have HGT := Aside0.mk hgg; clear hlit hb hgg) | ((with_reducible refine gate_store (t := 86) (p := 3) rfl ?_); refine put_val ?hg ?hn 86 (.tmp 3) (.tmp 5) ?ho gt 86 _ (#[.int .i64 t.f0, .string t.f1, .int .i64 t.f2, .int .i64 t.f3]) (.agg (#[.int .i64 t.f0, .string t.f1, .int .i64 t.f2, .int .i64 t.f3])) ?hp ?hx ?hu HZ.out ?ht ?hs ?h1 ?_; (case hg => rfl); (case hn => rfl); (case ho => rfl); (case hp => rfl); (case hx => rfl); (case hu => rfl); (case ht => kernel_rfl); (case hs => rfl); (case h1 => exact tokC_one t); intro w3 hlit hg; have HBW := Aside0.mk (below_then HB1.out HB1.out.size (HB2.out.grown hg HB2.out.size (fun q hq => by injection hq with hq; rw [← hq, HGT.out]; exact Nat.le_refl _))); have HTK := Aside0.mk hlit; have h0 : w3.cell? ⟨gt, 0, none⟩ = some (.int .i64 t.f0) := (blk_cell hlit 0).trans rfl; have h1 : w3.cell? ⟨gt, 1, none⟩ = some (.string t.f1) := (blk_cell hlit 1).trans rfl; have h2 : w3.cell? ⟨gt, 2, none⟩ = some (.int .i64 t.f2) := (blk_cell hlit 2).trans rfl; have h3 : w3.cell? ⟨b, 3, none⟩ = some (.int .i64 s.e) := (blk_cell (below_read HBW.out HR.out.blk) 3).trans rfl; clear hlit hg) | (go_at_call 39; (with_reducible refine (HWD.out w3).mono ?_); rintro q w4 ⟨rfl, hb⟩; have HB4 := Aside0.mk (below_then HBW.out HBW.out.size hb); have HTK4 := Aside0.mk (below_read hb HTK.out); clear hb))
        refine (fail_calls w0 A c ts en b HX.out s 2 w4 (HR.out.on HB4.out)).mono ?_
        rintro q w8 ⟨rfl, hr, hg⟩
        have HR8 := Aside0.mk hr
        have HG8 := Aside0.mk (grow_trans (grown_of_below HB4.out (some b)) hg)
        clear hr hg
        go_wp2_with fail
        go_ret
        exact ⟨rfl, HR8.out, HG8.out⟩
    · rw [if_neg (by intro hc; exact absurd hc.2.1 k2)]
      have e1 : (s.e != 0) = false := bne_eq_false_iff_eq.mpr k1
      have e2 : (t.f0 != 2) = true := bne_iff_ne.mpr k2
      clear k1 k2
      go_enter Tryd.func52, Tryd.ntmps52
      go_wp2_with fail
      refine HT.out.mono ?_
      rintro q w1 ⟨rfl, hb⟩
      have HB1 := Aside0.mk hb
      clear hb
      go_wp2_with (first | ((with_reducible refine gate_dst (N := 3) rfl ?_); refine box_event ?hg (N := 3) ?hd (cs := #[.int .i64 0, .string ⟨#[]⟩, .int .i64 0, .int .i64 0]) (t := 86) ?hr ?_; (case hd => rfl); (case hg => rfl); (case hr => first | (go_simp; done) | (go_simp; rfl)); intro gt hgg w2 hlit hb; have HZ := Aside0.mk hlit; have HB2 := Aside0.mk hb; have HGT := Aside0.mk hgg; clear hlit hb hgg) | ((with_reducible refine gate_store (t := 86) (p := 3) rfl ?_); refine put_val ?hg ?hn 86 (.tmp 3) (.tmp 5) ?ho gt 86 _ (#[.int .i64 t.f0, .string t.f1, .int .i64 t.f2, .int .i64 t.f3]) (.agg (#[.int .i64 t.f0, .string t.f1, .int .i64 t.f2, .int .i64 t.f3])) ?hp ?hx ?hu HZ.out ?ht ?hs ?h1 ?_; (case hg => rfl); (case hn => rfl); (case ho => rfl); (case hp => rfl); (case hx => rfl); (case hu => rfl); (case ht => kernel_rfl); (case hs => rfl); (case h1 => exact tokC_one t); intro w3 hlit hg; have HBW := Aside0.mk (below_then HB1.out HB1.out.size (HB2.out.grown hg HB2.out.size (fun q hq => by injection hq with hq; rw [← hq, HGT.out]; exact Nat.le_refl _))); have HTK := Aside0.mk hlit; have h0 : w3.cell? ⟨gt, 0, none⟩ = some (.int .i64 t.f0) := (blk_cell hlit 0).trans rfl; have h1 : w3.cell? ⟨gt, 1, none⟩ = some (.string t.f1) := (blk_cell hlit 1).trans rfl; have h2 : w3.cell? ⟨gt, 2, none⟩ = some (.int .i64 t.f2) := (blk_cell hlit 2).trans rfl; have h3 : w3.cell? ⟨b, 3, none⟩ = some (.int .i64 s.e) := (blk_cell (below_read HBW.out HR.out.blk) 3).trans rfl; clear hlit hg))
      refine (fail_calls w0 A c ts en b HX.out s 2 w3 (HR.out.on HBW.out)).mono ?_
      rintro q w8 ⟨rfl, hr, hg⟩
      have HR8 := Aside0.mk hr
      have HG8 := Aside0.mk (grow_trans (grown_of_below HBW.out (some b)) hg)
      clear hr hg
      go_wp2_with fail
      go_ret
      exact ⟨rfl, HR8.out, HG8.out⟩
  · rw [if_neg (by intro hc; exact absurd hc.1 k1)]
    have e1 : (s.e != 0) = true := bne_iff_ne.mpr k1
    clear k1
    go_enter Tryd.func52, Tryd.ntmps52
    go_wp2_with fail
    refine HT.out.mono ?_
    rintro q w1 ⟨rfl, hb⟩
    have HB1 := Aside0.mk hb
    clear hb
    go_wp2_with (first | ((with_reducible refine gate_dst (N := 3) rfl ?_); refine box_event ?hg (N := 3) ?hd (cs := #[.int .i64 0, .string ⟨#[]⟩, .int .i64 0, .int .i64 0]) (t := 86) ?hr ?_; (case hd => rfl); (case hg => rfl); (case hr => first | (go_simp; done) | (go_simp; rfl)); intro gt hgg w2 hlit hb; have HZ := Aside0.mk hlit; have HB2 := Aside0.mk hb; have HGT := Aside0.mk hgg; clear hlit hb hgg) | ((with_reducible refine gate_store (t := 86) (p := 3) rfl ?_); refine put_val ?hg ?hn 86 (.tmp 3) (.tmp 5) ?ho gt 86 _ (#[.int .i64 t.f0, .string t.f1, .int .i64 t.f2, .int .i64 t.f3]) (.agg (#[.int .i64 t.f0, .string t.f1, .int .i64 t.f2, .int .i64 t.f3])) ?hp ?hx ?hu HZ.out ?ht ?hs ?h1 ?_; (case hg => rfl); (case hn => rfl); (case ho => rfl); (case hp => rfl); (case hx => rfl); (case hu => rfl); (case ht => kernel_rfl); (case hs => rfl); (case h1 => exact tokC_one t); intro w3 hlit hg; have HBW := Aside0.mk (below_then HB1.out HB1.out.size (HB2.out.grown hg HB2.out.size (fun q hq => by injection hq with hq; rw [← hq, HGT.out]; exact Nat.le_refl _))); have HTK := Aside0.mk hlit; have h0 : w3.cell? ⟨gt, 0, none⟩ = some (.int .i64 t.f0) := (blk_cell hlit 0).trans rfl; have h1 : w3.cell? ⟨gt, 1, none⟩ = some (.string t.f1) := (blk_cell hlit 1).trans rfl; have h2 : w3.cell? ⟨gt, 2, none⟩ = some (.int .i64 t.f2) := (blk_cell hlit 2).trans rfl; have h3 : w3.cell? ⟨b, 3, none⟩ = some (.int .i64 s.e) := (blk_cell (below_read HBW.out HR.out.blk) 3).trans rfl; clear hlit hg))
    refine (fail_calls w0 A c ts en b HX.out s 2 w3 (HR.out.on HBW.out)).mono ?_
    rintro q w8 ⟨rfl, hr, hg⟩
    have HR8 := Aside0.mk hr
    have HG8 := Aside0.mk (grow_trans (grown_of_below HBW.out (some b)) hg)
    clear hr hg
    go_wp2_with fail
    go_ret
    exact ⟨rfl, HR8.out, HG8.out⟩
set_option maxHeartbeats 8000000 in
set_option maxRecDepth 100000 in
theorem full_calls (w0 : World) (A : Option Addr) (c : Nat) (ts : List S86) (en : Int) (b : Nat) (hX : Ctx w0 A c ts b) (s : Rs) (n m : Int) (w : World) (h : Rd w0 A c ts en b s w) :
    Calls Tryd.prog 34 #[.pointer (some ⟨b, 0, none⟩), .int .i64 n, .int .i64 m] w fun q w' => q = .returned (.tuple #[]) ∧ Rd w0 A c ts en b (fullS ts en s n m) w' ∧ w.grownBy w' (some b) := by
  have HX := Aside0.mk hX
  have HR := Aside0.mk h
  have hml : ts.length ≤ 9223372036854775807 := hX.row.2.1
  have HT := Aside0.mk (tok_calls w0 A c ts en b hX s w h)
  unfold fullS
  have HIN := Aside0.mk (fun (h : (tokS ts en s).f0 ≠ 0) => tokS_in (ts := ts) (en := en) (s := s) h)
  obtain ⟨t, ht⟩ : ∃ t, tokS ts en s = t := ⟨_, rfl⟩
  rw [ht] at HT HIN ⊢
  clear hX h ht
  by_cases k1 : m ≤ n
  · by_cases k2 : t.f0 = 2
    · have HWD := Aside0.mk (fun W => word_calls t.f1 W)
      by_cases k3 : wordB t.f1 = false
      · rw [if_pos ⟨k1, k2, k3⟩]
        have e1 : decide (m ≤ n) = true := decide_eq_true k1
        have e2 : (t.f0 == 2) = true := beq_iff_eq.mpr k2
        rw [k3] at HWD
        clear k2 k3
        go_enter Tryd.func34, Tryd.ntmps34
        go_wp2_with fail
        refine HT.out.mono ?_
        rintro q w1 ⟨rfl, hb⟩
        have HB1 := Aside0.mk hb
        clear hb
        go_wp2_with (first | ((with_reducible refine gate_dst (N := 6) rfl ?_); refine box_event ?hg (N := 6) ?hd (cs := #[.int .i64 0, .string ⟨#[]⟩, .int .i64 0, .int .i64 0]) (t := 86) ?hr ?_; (case hd => rfl); (case hg => rfl); (case hr => first | (go_simp; done) | (go_simp; rfl)); intro gt hgg w2 hlit hb; have HZ := Aside0.mk hlit; have HB2 := Aside0.mk hb; have HGT := Aside0.mk hgg; clear hlit hb hgg) | ((with_reducible refine gate_store (t := 86) (p := 6) rfl ?_); refine put_val ?hg ?hn 86 (.tmp 6) (.tmp 8) ?ho gt 86 _ (#[.int .i64 t.f0, .string t.f1, .int .i64 t.f2, .int .i64 t.f3]) (.agg (#[.int .i64 t.f0, .string t.f1, .int .i64 t.f2, .int .i64 t.f3])) ?hp ?hx ?hu HZ.out ?ht ?hs ?h1 ?_; (case hg => rfl); (case hn => rfl); (case ho => rfl); (case hp => rfl); (case hx => rfl); (case hu => rfl); (case ht => kernel_rfl); (case hs => rfl); (case h1 => exact tokC_one t); intro w3 hlit hg; have HBW := Aside0.mk (below_then HB1.out HB1.out.size (HB2.out.grown hg HB2.out.size (fun q hq => by injection hq with hq; rw [← hq, HGT.out]; exact Nat.le_refl _))); have HTK := Aside0.mk hlit; have h0 : w3.cell? ⟨gt, 0, none⟩ = some (.int .i64 t.f0) := (blk_cell hlit 0).trans rfl; have h1 : w3.cell? ⟨gt, 1, none⟩ = some (.string t.f1) := (blk_cell hlit 1).trans rfl; have h2 : w3.cell? ⟨gt, 2, none⟩ = some (.int .i64 t.f2) := (blk_cell hlit 2).trans rfl; have h3 : w3.cell? ⟨b, 3, none⟩ = some (.int .i64 s.e) := (blk_cell (below_read HBW.out HR.out.blk) 3).trans rfl; clear hlit hg) | (go_at_call 39; (with_reducible refine (HWD.out w3).mono ?_); rintro q w4 ⟨rfl, hb⟩; have HB4 := Aside0.mk (below_then HBW.out HBW.out.size hb); have HTK4 := Aside0.mk (below_read hb HTK.out); clear hb))
        refine (fail_calls w0 A c ts en b HX.out s 4 w4 (HR.out.on HB4.out)).mono ?_
        rintro q w8 ⟨rfl, hr, hg⟩
        have HR8 := Aside0.mk hr
        have HG8 := Aside0.mk (grow_trans (grown_of_below HB4.out (some b)) hg)
        clear hr hg
        go_wp2_with fail
        go_end0
        exact ⟨rfl, HR8.out, HG8.out⟩
      · rw [if_neg (by intro hc; exact absurd hc.2.2 k3)]
        have e1 : decide (m ≤ n) = true := decide_eq_true k1
        have e2 : (t.f0 == 2) = true := beq_iff_eq.mpr k2
        rw [show wordB t.f1 = true by simpa using k3] at HWD
        clear k2 k3
        go_enter Tryd.func34, Tryd.ntmps34
        go_wp2_with fail
        refine HT.out.mono ?_
        rintro q w1 ⟨rfl, hb⟩
        have HB1 := Aside0.mk hb
        clear hb
        go_wp2_with (first | ((with_reducible refine gate_dst (N := 6) rfl ?_); refine box_event ?hg (N := 6) ?hd (cs := #[.int .i64 0, .string ⟨#[]⟩, .int .i64 0, .int .i64 0]) (t := 86) ?hr ?_; (case hd => rfl); (case hg => rfl); (case hr => first | (go_simp; done) | (go_simp; rfl)); intro gt hgg w2 hlit hb; have HZ := Aside0.mk hlit; have HB2 := Aside0.mk hb; have HGT := Aside0.mk hgg; clear hlit hb hgg) | ((with_reducible refine gate_store (t := 86) (p := 6) rfl ?_); refine put_val ?hg ?hn 86 (.tmp 6) (.tmp 8) ?ho gt 86 _ (#[.int .i64 t.f0, .string t.f1, .int .i64 t.f2, .int .i64 t.f3]) (.agg (#[.int .i64 t.f0, .string t.f1, .int .i64 t.f2, .int .i64 t.f3])) ?hp ?hx ?hu HZ.out ?ht ?hs ?h1 ?_; (case hg => rfl); (case hn => rfl); (case ho => rfl); (case hp => rfl); (case hx => rfl); (case hu => rfl); (case ht => kernel_rfl); (case hs => rfl); (case h1 => exact tokC_one t); intro w3 hlit hg; have HBW := Aside0.mk (below_then HB1.out HB1.out.size (HB2.out.grown hg HB2.out.size (fun q hq => by injection hq with hq; rw [← hq, HGT.out]; exact Nat.le_refl _))); have HTK := Aside0.mk hlit; have h0 : w3.cell? ⟨gt, 0, none⟩ = some (.int .i64 t.f0) := (blk_cell hlit 0).trans rfl; have h1 : w3.cell? ⟨gt, 1, none⟩ = some (.string t.f1) := (blk_cell hlit 1).trans rfl; have h2 : w3.cell? ⟨gt, 2, none⟩ = some (.int .i64 t.f2) := (blk_cell hlit 2).trans rfl; have h3 : w3.cell? ⟨b, 3, none⟩ = some (.int .i64 s.e) := (blk_cell (below_read HBW.out HR.out.blk) 3).trans rfl; clear hlit hg) | (go_at_call 39; (with_reducible refine (HWD.out w3).mono ?_); rintro q w4 ⟨rfl, hb⟩; have HB4 := Aside0.mk (below_then HBW.out HBW.out.size hb); have HTK4 := Aside0.mk (below_read hb HTK.out); clear hb))
        go_end0
        exact ⟨rfl, HR.out.on HB4.out, grown_of_below HB4.out _⟩
    · rw [if_neg (by intro hc; exact absurd hc.2.1 k2)]
      have e1 : decide (m ≤ n) = true := decide_eq_true k1
      have e2 : (t.f0 == 2) = false := beq_eq_false_iff_ne.mpr k2
      clear k2
      go_enter Tryd.func34, Tryd.ntmps34
      go_wp2_with fail
      refine HT.out.mono ?_
      rintro q w1 ⟨rfl, hb⟩
      have HB1 := Aside0.mk hb
      clear hb
      go_wp2_with (first | ((with_reducible refine gate_dst (N := 6) rfl ?_); refine box_event ?hg (N := 6) ?hd (cs := #[.int .i64 0, .string ⟨#[]⟩, .int .i64 0, .int .i64 0]) (t := 86) ?hr ?_; (case hd => rfl); (case hg => rfl); (case hr => first | (go_simp; done) | (go_simp; rfl)); intro gt hgg w2 hlit hb; have HZ := Aside0.mk hlit; have HB2 := Aside0.mk hb; have HGT := Aside0.mk hgg; clear hlit hb hgg) | ((with_reducible refine gate_store (t := 86) (p := 6) rfl ?_); refine put_val ?hg ?hn 86 (.tmp 6) (.tmp 8) ?ho gt 86 _ (#[.int .i64 t.f0, .string t.f1, .int .i64 t.f2, .int .i64 t.f3]) (.agg (#[.int .i64 t.f0, .string t.f1, .int .i64 t.f2, .int .i64 t.f3])) ?hp ?hx ?hu HZ.out ?ht ?hs ?h1 ?_; (case hg => rfl); (case hn => rfl); (case ho => rfl); (case hp => rfl); (case hx => rfl); (case hu => rfl); (case ht => kernel_rfl); (case hs => rfl); (case h1 => exact tokC_one t); intro w3 hlit hg; have HBW := Aside0.mk (below_then HB1.out HB1.out.size (HB2.out.grown hg HB2.out.size (fun q hq => by injection hq with hq; rw [← hq, HGT.out]; exact Nat.le_refl _))); have HTK := Aside0.mk hlit; have h0 : w3.cell? ⟨gt, 0, none⟩ = some (.int .i64 t.f0) := (blk_cell hlit 0).trans rfl; have h1 : w3.cell? ⟨gt, 1, none⟩ = some (.string t.f1) := (blk_cell hlit 1).trans rfl; have h2 : w3.cell? ⟨gt, 2, none⟩ = some (.int .i64 t.f2) := (blk_cell hlit 2).trans rfl; have h3 : w3.cell? ⟨b, 3, none⟩ = some (.int .i64 s.e) := (blk_cell (below_read HBW.out HR.out.blk) 3).trans rfl; clear hlit hg))
      go_end0
      exact ⟨rfl, HR.out.on HBW.out, grown_of_below HBW.out _⟩
  · rw [if_neg (by intro hc; exact absurd hc.1 k1)]
    have e1 : decide (m ≤ n) = false := decide_eq_false k1
    go_enter Tryd.func34, Tryd.ntmps34
    go_wp2_with fail
    refine HT.out.mono ?_
    rintro q w1 ⟨rfl, hb⟩
    have HB1 := Aside0.mk hb
    clear hb
    go_wp2_with (first | ((with_reducible refine gate_dst (N := 6) rfl ?_); refine box_event ?hg (N := 6) ?hd (cs := #[.int .i64 0, .string ⟨#[]⟩, .int .i64 0, .int .i64 0]) (t := 86) ?hr ?_; (case hd => rfl); (case hg => rfl); (case hr => first | (go_simp; done) | (go_simp; rfl)); intro gt hgg w2 hlit hb; have HZ := Aside0.mk hlit; have HB2 := Aside0.mk hb; have HGT := Aside0.mk hgg; clear hlit hb hgg) | ((with_reducible refine gate_store (t := 86) (p := 6) rfl ?_); refine put_val ?hg ?hn 86 (.tmp 6) (.tmp 8) ?ho gt 86 _ (#[.int .i64 t.f0, .string t.f1, .int .i64 t.f2, .int .i64 t.f3]) (.agg (#[.int .i64 t.f0, .string t.f1, .int .i64 t.f2, .int .i64 t.f3])) ?hp ?hx ?hu HZ.out ?ht ?hs ?h1 ?_; (case hg => rfl); (case hn => rfl); (case ho => rfl); (case hp => rfl); (case hx => rfl); (case hu => rfl); (case ht => kernel_rfl); (case hs => rfl); (case h1 => exact tokC_one t); intro w3 hlit hg; have HBW := Aside0.mk (below_then HB1.out HB1.out.size (HB2.out.grown hg HB2.out.size (fun q hq => by injection hq with hq; rw [← hq, HGT.out]; exact Nat.le_refl _))); have HTK := Aside0.mk hlit; have h0 : w3.cell? ⟨gt, 0, none⟩ = some (.int .i64 t.f0) := (blk_cell hlit 0).trans rfl; have h1 : w3.cell? ⟨gt, 1, none⟩ = some (.string t.f1) := (blk_cell hlit 1).trans rfl; have h2 : w3.cell? ⟨gt, 2, none⟩ = some (.int .i64 t.f2) := (blk_cell hlit 2).trans rfl; have h3 : w3.cell? ⟨b, 3, none⟩ = some (.int .i64 s.e) := (blk_cell (below_read HBW.out HR.out.blk) 3).trans rfl; clear hlit hg))
    go_end0
    exact ⟨rfl, HR.out.on HBW.out, grown_of_below HBW.out _⟩
def rels : List ByteArray := [⟨#[60]⟩, ⟨#[60, 61]⟩, ⟨#[61, 61]⟩, ⟨#[33, 61]⟩, ⟨#[62, 61]⟩, ⟨#[62]⟩]
def relL (ts : List S86) (en : Int) (s : Rs) : List ByteArray → Int → Int × Rs
  | [], _ => (0, failS ts en s 2)
  | x :: l, i => if isS ts en s x = true then (i + 1, stepS s) else relL ts en s l (i + 1)
def relS (ts : List S86) (en : Int) (s : Rs) : Int × Rs := relL ts en s rels 0
theorem rel_cell {w : World} {g : Nat} (h : w.heap[g]? = some (.cells #[.string ⟨#[60]⟩, .string ⟨#[60, 61]⟩, .string ⟨#[61, 61]⟩, .string ⟨#[33, 61]⟩, .string ⟨#[62, 61]⟩, .string ⟨#[62]⟩] 9 (0, 0))) (i : Nat) (hi : i < 6) : w.cell? ⟨g, i, none⟩ = some (.string (rels.getD i ⟨#[]⟩)) := by
  rw [blk_cell h]
  rcases (by omega : i = 0 ∨ i = 1 ∨ i = 2 ∨ i = 3 ∨ i = 4 ∨ i = 5) with h | h | h | h | h | h <;> subst h <;> rfl
theorem rel_step (ts : List S86) (en : Int) (s : Rs) (i : Nat) (hi : i < 6) : relL ts en s (rels.drop i) i = if isS ts en s (rels.getD i ⟨#[]⟩) = true then ((i : Int) + 1, stepS s) else relL ts en s (rels.drop (i + 1)) ((i + 1 : Nat) : Int) := by
  rcases (by omega : i = 0 ∨ i = 1 ∨ i = 2 ∨ i = 3 ∨ i = 4 ∨ i = 5) with h | h | h | h | h | h <;> subst h <;> rfl
set_option maxHeartbeats 8000000 in
set_option maxRecDepth 100000 in
theorem rel_calls (w0 : World) (A : Option Addr) (c : Nat) (ts : List S86) (en : Int) (b : Nat) (hX : Ctx w0 A c ts b) (s : Rs) (w : World) (h : Rd w0 A c ts en b s w) :
    Calls Tryd.prog 80 #[.pointer (some ⟨b, 0, none⟩)] w fun q w' => q = .returned (.int .i64 (relS ts en s).1) ∧ Rd w0 A c ts en b ((relS ts en s).2) w' ∧ w.grownBy w' (some b) := by
  have HX := Aside0.mk hX
  have HR := Aside0.mk h
  obtain ⟨R, hR⟩ : ∃ R, R = relS ts en s := ⟨_, rfl⟩
  rw [← hR]
  have HRL := Aside0.mk (show relL ts en s (rels.drop 0) ((0 : Nat) : Int) = R from hR.symm)
  clear hX h hR
  go_enter Tryd.func80, Tryd.ntmps80
  go_wp2_with (first | ((with_reducible refine gate_dst (N := 5) rfl ?_); refine lit_ev2 (n := 6) ?hg (N := 5) ?hd (cs := #[.string ⟨#[60]⟩, .string ⟨#[60, 61]⟩, .string ⟨#[61, 61]⟩, .string ⟨#[33, 61]⟩, .string ⟨#[62, 61]⟩, .string ⟨#[62]⟩]) (t := 9) ?hr ?_; (case hd => rfl); (case hg => rfl); (case hr => first | (go_simp; done) | (go_simp; rfl)); intro g1 hgg w1 hlit hb; have HS := Aside0.mk hlit; have HB1 := Aside0.mk hb; have HNE := Aside0.mk (show g1 ≠ b by rw [hgg]; exact Nat.ne_of_gt (blk_lt HR.out.blk)); clear hlit hb hgg))
  go_loopg [4] 6 (fun gg sx wr => ∃ i : Nat, i ≤ 6 ∧ 6 - i ≤ gg ∧ sx = .int .i64 i ∧ Aside0 (relL ts en s (rels.drop i) i = R ∧ Rd w0 A c ts en b s wr ∧ w.grownBy wr (some b) ∧ wr.heap[g1]? = some (.cells #[.string ⟨#[60]⟩, .string ⟨#[60, 61]⟩, .string ⟨#[61, 61]⟩, .string ⟨#[33, 61]⟩, .string ⟨#[62, 61]⟩, .string ⟨#[62]⟩] 9 (0, 0))))
  case atStart => exact ⟨0, by omega, by omega, rfl, ⟨HRL.out, HR.out.on HB1.out, grown_of_below HB1.out _, HS.out⟩⟩
  case round =>
    obtain ⟨i, hi, hgg, rfl, HL⟩ := hrel
    generalize wr = wo at *
    by_cases hlt : i < 6
    · have hltz : (i : Int) < 6 := by omega
      have hc := rel_cell HL.out.2.2.2 i hlt
      have HT := Aside0.mk (take_calls w0 A c ts en b HX.out s (rels.getD i ⟨#[]⟩) wo HL.out.2.1)
      have HST := Aside0.mk (rel_step ts en s i hlt)
      obtain ⟨x, hx⟩ : ∃ x, rels.getD i ⟨#[]⟩ = x := ⟨_, rfl⟩
      rw [hx] at hc HT HST
      clear hx hlt
      unfold takeS at HT
      by_cases hB : isS ts en s x = true
      · rw [hB, if_pos rfl] at HT HST
        clear hB
        go_wp2_with fail
        refine HT.out.mono ?_
        rintro q w2 ⟨rfl, hr, hg⟩
        have HE := Aside0.mk (⟨HL.out.1.symm.trans HST.out, hr, grow_trans HL.out.2.2.1 hg⟩ : R = ((i : Int) + 1, stepS s) ∧ Rd w0 A c ts en b (stepS s) w2 ∧ w.grownBy w2 (some b))
        clear hr hg
        go_wp2_with fail
        go_ret
        exact ⟨by rw [HE.out.1]; rfl, by rw [HE.out.1]; exact HE.out.2.1, HE.out.2.2⟩
      · have hB := Bool.eq_false_iff.2 hB
        rw [hB, if_neg (by decide)] at HT HST
        clear hB
        go_wp2_with fail
        refine HT.out.mono ?_
        rintro q w2 ⟨rfl, hr, hg⟩
        have HE := Aside0.mk (⟨HST.out.symm.trans HL.out.1, hr, grow_trans HL.out.2.2.1 hg, (hg.block g1 (blk_lt HL.out.2.2.2) (fun e => HNE.out (by injection e))).trans HL.out.2.2.2⟩ : relL ts en s (rels.drop (i + 1)) ((i + 1 : Nat) : Int) = R ∧ Rd w0 A c ts en b s w2 ∧ w.grownBy w2 (some b) ∧ w2.heap[g1]? = some (.cells #[.string ⟨#[60]⟩, .string ⟨#[60, 61]⟩, .string ⟨#[61, 61]⟩, .string ⟨#[33, 61]⟩, .string ⟨#[62, 61]⟩, .string ⟨#[62]⟩] 9 (0, 0)))
        clear hr hg
        go_wp2_with fail
        go_roundg (6 - (i + 1))
        case measure => omega
        case rel => exact ⟨i + 1, by omega, by omega, by go_num, HE⟩
    · have hltz : ¬ (i : Int) < 6 := by omega
      have he : i = 6 := by omega
      subst he
      have HE := Aside0.mk (show (0, failS ts en s 2) = R from HL.out.1)
      clear hlt
      go_wp2_with fail
      refine (fail_calls w0 A c ts en b HX.out s 2 wo HL.out.2.1).mono ?_
      rintro q w2 ⟨rfl, hr, hg⟩
      have HR2 := Aside0.mk hr
      have HG2 := Aside0.mk (grow_trans HL.out.2.2.1 hg)
      clear hr hg
      go_wp2_with fail
      go_ret
      exact ⟨by rw [← HE.out]; rfl, by rw [← HE.out]; exact HR2.out, HG2.out⟩
end Go.Proofs.YtfeaekdhpkdljaaDoor.Rd
