/- meddlerref5.reader: global, array. meddlerref5.reader: thread. -/
import Derived.Test.YtfeaekdhpkdljaaDoorRdPkC
namespace Go.Proofs.YtfeaekdhpkdljaaDoor.Rd
open Go.RowKit Go.Proofs.YtfeaekdhpkdljaaDoorW.PrintWords Go.Proofs.YtfeaekdhpkdljaaDoorW.PrintLast Go.Proofs.YtfeaekdhpkdljaaDoor.Sh
set_option linter.unusedVariables false
set_option linter.unusedSimpArgs false
def globS (ts : List S86) (en : Int) (s : Rs) : S59 × Rs :=
  if isS ts en (needS ts en (nameS ts en s).2 (⟨#[61]⟩ : ByteArray)) (⟨#[45]⟩ : ByteArray) = true then (⟨(nameS ts en s).1, wrap64 (-(numS ts en (stepS (needS ts en (nameS ts en s).2 (⟨#[61]⟩ : ByteArray)))).1)⟩, (numS ts en (stepS (needS ts en (nameS ts en s).2 (⟨#[61]⟩ : ByteArray)))).2)
  else (⟨(nameS ts en s).1, (numS ts en (needS ts en (nameS ts en s).2 (⟨#[61]⟩ : ByteArray))).1⟩, (numS ts en (needS ts en (nameS ts en s).2 (⟨#[61]⟩ : ByteArray))).2)
def sizeS (ts : List S86) (en : Int) (s : Rs) : Rs := if (tokS ts en s).f0 = 1 ∧ ((tokS ts en s).f2 < 1 ∨ (tokS ts en s).f2 > 16) then failS ts en s 2 else s
def arrS (ts : List S86) (en : Int) (s : Rs) : S61 × Rs :=
  (⟨(nameS ts en s).1, (numS ts en (sizeS ts en (needS ts en (nameS ts en s).2 (⟨#[91]⟩ : ByteArray)))).1⟩, needS ts en (numS ts en (sizeS ts en (needS ts en (nameS ts en s).2 (⟨#[91]⟩ : ByteArray)))).2 (⟨#[93]⟩ : ByteArray))
theorem pair_one (a : ByteArray) (n : Int) : ∀ q ∈ (#[.string a, .int .i64 n] : Array Value).toList, q.oneCell' = true := by
  intro q hq
  simp only [List.mem_cons, List.not_mem_nil, or_false] at hq
  rcases hq with h | h <;> subst h <;> rfl
set_option maxHeartbeats 8000000 in
set_option maxRecDepth 100000 in
theorem global_calls (w0 : World) (A : Option Addr) (c : Nat) (ts : List S86) (en : Int) (b : Nat) (hX : Ctx w0 A c ts b) (s : Rs) (w : World) (h : Rd w0 A c ts en b s w) :
    Calls Tryd.prog 50 #[.pointer (some ⟨b, 0, none⟩)] w fun q w' => q = .returned (.agg #[.string (globS ts en s).1.f0, .int .i64 (globS ts en s).1.f1]) ∧ Rd w0 A c ts en b ((globS ts en s).2) w' ∧ w.grownBy w' (some b) := by
  have HX := Aside0.mk hX
  have HR := Aside0.mk h
  unfold globS
  by_cases k1 : isS ts en (needS ts en (nameS ts en s).2 (⟨#[61]⟩ : ByteArray)) (⟨#[45]⟩ : ByteArray) = true
  · rw [if_pos k1]
    have B1 := Aside0.mk k1
    clear k1 h
    go_enter Tryd.func50, Tryd.ntmps50
    go_wp2_with (first | ((with_reducible refine gate_dst (N := 2) rfl ?_); refine box_event ?hg (N := 2) ?hd (cs := #[.string ⟨#[]⟩, .int .i64 0]) (t := 59) ?hr ?_; (case hd => rfl); (case hg => rfl); (case hr => first | (go_simp; done) | (go_simp; rfl)); intro gr hgg w1 hlit hb; have HZ1 := Aside0.mk hlit; have HB1 := Aside0.mk hb; have HGR := Aside0.mk hgg; clear hlit hb hgg))
    have HNB := Aside0.mk (show gr ≠ b by have h1 := HGR.out; have h2 := blk_lt HR.out.blk; omega)
    refine (name_calls w0 A c ts en b HX.out s w1 (HR.out.on HB1.out)).mono ?_
    rintro q w2 ⟨rfl, hr, hg⟩
    have HR2 := Aside0.mk hr
    have HG2 := Aside0.mk (grow_trans (grown_of_below HB1.out (some b)) hg)
    have HZ2 := Aside0.mk ((hg.block gr (blk_lt HZ1.out) (fun e => HNB.out (by injection e))).trans HZ1.out)
    clear hr hg
    go_wp2_with (first | ((with_reducible refine gate_dst (N := 3) rfl ?_); refine box_event ?hg (N := 3) ?hd (cs := #[.string ⟨#[]⟩, .int .i64 0]) (t := 59) ?hr ?_; (case hd => rfl); (case hg => rfl); (case hr => first | (go_simp; done) | (go_simp; rfl)); intro gs hgg w3 hlit hb; have HXZ := Aside0.mk hlit; have HBX := Aside0.mk hb; have HGS := Aside0.mk hgg; clear hlit hb hgg) | ((with_reducible refine gate_store (t := 59) (p := 3) rfl ?_); refine put_val ?hg ?hn 59 (.tmp 3) (.tmp 6) ?ho gs 59 _ (#[.string (nameS ts en s).1, .int .i64 0]) (.agg (#[.string (nameS ts en s).1, .int .i64 0])) ?hp ?hx ?hu HXZ.out ?ht ?hs ?h1 ?_; (case hg => rfl); (case hn => rfl); (case ho => rfl); (case hp => rfl); (case hx => rfl); (case hu => rfl); (case ht => kernel_rfl); (case hs => rfl); (case h1 => exact pair_one _ _); intro w4 hlit hg; have HS4 := Aside0.mk hlit; have HBW := Aside0.mk (made_below HGS.out HBX.out hg); have HR4 := Aside0.mk (HR2.out.on HBW.out); have HG4 := Aside0.mk (grow_trans HG2.out (grown_of_below HBW.out _)); have HZ4 := Aside0.mk (below_read HBW.out HZ2.out); clear hlit hg))
    have HSB := Aside0.mk (show gs ≠ b by have h1 := HGS.out; have h2 := blk_lt HR2.out.blk; omega)
    have HSG := Aside0.mk (show gr ≠ gs by have h1 := HGS.out; have h2 := blk_lt HZ2.out; omega)
    have HSW := Aside0.mk (show w.heap.size ≤ gs by have h1 := HGS.out; have h2 := HG2.out.size; omega)
    have HSW0 := Aside0.mk (show w0.heap.size ≤ gs by have h1 := HSW.out; have h2 := HR.out.old.size; omega)
    have HGW := Aside0.mk (show w.heap.size ≤ gr by rw [HGR.out]; exact Nat.le_refl _)
    have HGW0 := Aside0.mk (show w0.heap.size ≤ gr by have h1 := HGW.out; have h2 := HR.out.old.size; omega)
    go_wp2_with fail
    refine (need_calls w0 A c ts en b HX.out (nameS ts en s).2 (⟨#[61]⟩ : ByteArray) w4 HR4.out).mono ?_
    rintro q w5 ⟨rfl, hr, hg⟩
    have HR5 := Aside0.mk hr
    have HG5 := Aside0.mk (grow_trans HG4.out hg)
    have HZ5 := Aside0.mk ((hg.block gr (blk_lt HZ4.out) (fun e => HNB.out (by injection e))).trans HZ4.out)
    have HS5 := Aside0.mk ((hg.block gs (blk_lt HS4.out) (fun e => HSB.out (by injection e))).trans HS4.out)
    clear hr hg
    go_wp2_with fail
    have HT6 := Aside0.mk (take_calls w0 A c ts en b HX.out (needS ts en (nameS ts en s).2 (⟨#[61]⟩ : ByteArray)) (⟨#[45]⟩ : ByteArray) w5 HR5.out)
    unfold takeS at HT6
    rw [B1.out, if_pos rfl] at HT6
    refine HT6.out.mono ?_
    rintro q w6 ⟨rfl, hr, hg⟩
    have HR6 := Aside0.mk hr
    have HG6 := Aside0.mk (grow_trans HG5.out hg)
    have HZ6 := Aside0.mk ((hg.block gr (blk_lt HZ5.out) (fun e => HNB.out (by injection e))).trans HZ5.out)
    have HS6 := Aside0.mk ((hg.block gs (blk_lt HS5.out) (fun e => HSB.out (by injection e))).trans HS5.out)
    clear hr hg HT6
    go_wp2_with fail
    refine (num_calls w0 A c ts en b HX.out (stepS (needS ts en (nameS ts en s).2 (⟨#[61]⟩ : ByteArray))) w6 HR6.out).mono ?_
    rintro q w7 ⟨rfl, hr, hg⟩
    have HR7 := Aside0.mk hr
    have HG7 := Aside0.mk (grow_trans HG6.out hg)
    have HZ7 := Aside0.mk ((hg.block gr (blk_lt HZ6.out) (fun e => HNB.out (by injection e))).trans HZ6.out)
    have HS7 := Aside0.mk ((hg.block gs (blk_lt HS6.out) (fun e => HSB.out (by injection e))).trans HS6.out)
    clear hr hg
    have hz8 : w7.cell? ⟨gs, 1, none⟩ = some (.int .i64 0) := (blk_cell HS7.out 1).trans rfl
    have hf8 : w7.frozen? ⟨gs, 1, none⟩ = false := blk_frozen HS7.out 1
    have HS8 := Aside0.mk (show (w7.setCell ⟨gs, 1, none⟩ (.int .i64 (wrap64 (-(numS ts en (stepS (needS ts en (nameS ts en s).2 (⟨#[61]⟩ : ByteArray)))).1)))).heap[gs]? = some (.cells #[.string (nameS ts en s).1, .int .i64 (wrap64 (-(numS ts en (stepS (needS ts en (nameS ts en s).2 (⟨#[61]⟩ : ByteArray)))).1))] 59 (0, 0)) from (blk_set HS7.out 1 (.int .i64 (wrap64 (-(numS ts en (stepS (needS ts en (nameS ts en s).2 (⟨#[61]⟩ : ByteArray)))).1)))).trans rfl)
    have HR8 := Aside0.mk (rd_store2 HX.out HR7.out HSB.out HSW0.out (grow_set w7 gs 1 (.int .i64 (wrap64 (-(numS ts en (stepS (needS ts en (nameS ts en s).2 (⟨#[61]⟩ : ByteArray)))).1)))))
    have HG8 := Aside0.mk (own_store2 HSW.out HG7.out (grow_set w7 gs 1 (.int .i64 (wrap64 (-(numS ts en (stepS (needS ts en (nameS ts en s).2 (⟨#[61]⟩ : ByteArray)))).1)))))
    have HZ8 := Aside0.mk (((grow_set w7 gs 1 (.int .i64 (wrap64 (-(numS ts en (stepS (needS ts en (nameS ts en s).2 (⟨#[61]⟩ : ByteArray)))).1)))).block gr (blk_lt HZ7.out) (fun e => HSG.out (by injection e))).trans HZ7.out)
    go_wp2_with (first | ((with_reducible refine gate_dst (N := 18) rfl ?_); (try (refine gate_guard (by rfl) ?_; dsimp only)); refine wpList_load_row ?hg 59 (.tmp 3) ?ho gs ?hx 59 _ (0, 0) _ HS8.out Tryd.underlying59 ?hd ?hi ?_; (case hg => rfl); (case ho => rfl); (case hx => rfl); (case hd => rfl); (case hi => kernel_rfl)) | ((with_reducible refine gate_store (t := 59) (p := 2) rfl ?_); refine put_val ?hg ?hn 59 (.tmp 2) (.tmp 18) ?ho gr 59 _ (#[.string (nameS ts en s).1, .int .i64 (wrap64 (-(numS ts en (stepS (needS ts en (nameS ts en s).2 (⟨#[61]⟩ : ByteArray)))).1))]) (.agg (#[.string (nameS ts en s).1, .int .i64 (wrap64 (-(numS ts en (stepS (needS ts en (nameS ts en s).2 (⟨#[61]⟩ : ByteArray)))).1))])) ?hp ?hx ?hu HZ8.out ?ht ?hs ?h1 ?_; (case hg => rfl); (case hn => rfl); (case ho => rfl); (case hp => rfl); (case hx => rfl); (case hu => rfl); (case ht => kernel_rfl); (case hs => rfl); (case h1 => exact pair_one _ _); intro w99 hlit hg; have HT := Aside0.mk hlit; have HGZ := Aside0.mk hg; have HOW := Aside0.mk (own_store2 HGW.out HG8.out hg); have HRZ := Aside0.mk (rd_store2 HX.out HR8.out HNB.out HGW0.out hg); clear hlit hg))
    (try simp only [Exit.inBlock, Exit.then])
    refine bodyPost_ret (results_cell_row rfl _ _ gr 59 _ (0, 0) _ rfl HT.out Tryd.underlying59 rfl (by kernel_rfl)) rfl ?_
    exact ⟨rfl, HRZ.out, HOW.out⟩
  · rw [if_neg k1]
    have B1 := Aside0.mk (Bool.eq_false_iff.2 k1)
    clear k1 h
    go_enter Tryd.func50, Tryd.ntmps50
    go_wp2_with (first | ((with_reducible refine gate_dst (N := 2) rfl ?_); refine box_event ?hg (N := 2) ?hd (cs := #[.string ⟨#[]⟩, .int .i64 0]) (t := 59) ?hr ?_; (case hd => rfl); (case hg => rfl); (case hr => first | (go_simp; done) | (go_simp; rfl)); intro gr hgg w1 hlit hb; have HZ1 := Aside0.mk hlit; have HB1 := Aside0.mk hb; have HGR := Aside0.mk hgg; clear hlit hb hgg))
    have HNB := Aside0.mk (show gr ≠ b by have h1 := HGR.out; have h2 := blk_lt HR.out.blk; omega)
    refine (name_calls w0 A c ts en b HX.out s w1 (HR.out.on HB1.out)).mono ?_
    rintro q w2 ⟨rfl, hr, hg⟩
    have HR2 := Aside0.mk hr
    have HG2 := Aside0.mk (grow_trans (grown_of_below HB1.out (some b)) hg)
    have HZ2 := Aside0.mk ((hg.block gr (blk_lt HZ1.out) (fun e => HNB.out (by injection e))).trans HZ1.out)
    clear hr hg
    go_wp2_with (first | ((with_reducible refine gate_dst (N := 3) rfl ?_); refine box_event ?hg (N := 3) ?hd (cs := #[.string ⟨#[]⟩, .int .i64 0]) (t := 59) ?hr ?_; (case hd => rfl); (case hg => rfl); (case hr => first | (go_simp; done) | (go_simp; rfl)); intro gs hgg w3 hlit hb; have HXZ := Aside0.mk hlit; have HBX := Aside0.mk hb; have HGS := Aside0.mk hgg; clear hlit hb hgg) | ((with_reducible refine gate_store (t := 59) (p := 3) rfl ?_); refine put_val ?hg ?hn 59 (.tmp 3) (.tmp 6) ?ho gs 59 _ (#[.string (nameS ts en s).1, .int .i64 0]) (.agg (#[.string (nameS ts en s).1, .int .i64 0])) ?hp ?hx ?hu HXZ.out ?ht ?hs ?h1 ?_; (case hg => rfl); (case hn => rfl); (case ho => rfl); (case hp => rfl); (case hx => rfl); (case hu => rfl); (case ht => kernel_rfl); (case hs => rfl); (case h1 => exact pair_one _ _); intro w4 hlit hg; have HS4 := Aside0.mk hlit; have HBW := Aside0.mk (made_below HGS.out HBX.out hg); have HR4 := Aside0.mk (HR2.out.on HBW.out); have HG4 := Aside0.mk (grow_trans HG2.out (grown_of_below HBW.out _)); have HZ4 := Aside0.mk (below_read HBW.out HZ2.out); clear hlit hg))
    have HSB := Aside0.mk (show gs ≠ b by have h1 := HGS.out; have h2 := blk_lt HR2.out.blk; omega)
    have HSG := Aside0.mk (show gr ≠ gs by have h1 := HGS.out; have h2 := blk_lt HZ2.out; omega)
    have HSW := Aside0.mk (show w.heap.size ≤ gs by have h1 := HGS.out; have h2 := HG2.out.size; omega)
    have HSW0 := Aside0.mk (show w0.heap.size ≤ gs by have h1 := HSW.out; have h2 := HR.out.old.size; omega)
    have HGW := Aside0.mk (show w.heap.size ≤ gr by rw [HGR.out]; exact Nat.le_refl _)
    have HGW0 := Aside0.mk (show w0.heap.size ≤ gr by have h1 := HGW.out; have h2 := HR.out.old.size; omega)
    go_wp2_with fail
    refine (need_calls w0 A c ts en b HX.out (nameS ts en s).2 (⟨#[61]⟩ : ByteArray) w4 HR4.out).mono ?_
    rintro q w5 ⟨rfl, hr, hg⟩
    have HR5 := Aside0.mk hr
    have HG5 := Aside0.mk (grow_trans HG4.out hg)
    have HZ5 := Aside0.mk ((hg.block gr (blk_lt HZ4.out) (fun e => HNB.out (by injection e))).trans HZ4.out)
    have HS5 := Aside0.mk ((hg.block gs (blk_lt HS4.out) (fun e => HSB.out (by injection e))).trans HS4.out)
    clear hr hg
    go_wp2_with fail
    have HT6 := Aside0.mk (take_calls w0 A c ts en b HX.out (needS ts en (nameS ts en s).2 (⟨#[61]⟩ : ByteArray)) (⟨#[45]⟩ : ByteArray) w5 HR5.out)
    unfold takeS at HT6
    rw [B1.out, if_neg (by decide)] at HT6
    refine HT6.out.mono ?_
    rintro q w6 ⟨rfl, hr, hg⟩
    have HR6 := Aside0.mk hr
    have HG6 := Aside0.mk (grow_trans HG5.out hg)
    have HZ6 := Aside0.mk ((hg.block gr (blk_lt HZ5.out) (fun e => HNB.out (by injection e))).trans HZ5.out)
    have HS6 := Aside0.mk ((hg.block gs (blk_lt HS5.out) (fun e => HSB.out (by injection e))).trans HS5.out)
    clear hr hg HT6
    go_wp2_with fail
    refine (num_calls w0 A c ts en b HX.out (needS ts en (nameS ts en s).2 (⟨#[61]⟩ : ByteArray)) w6 HR6.out).mono ?_
    rintro q w7 ⟨rfl, hr, hg⟩
    have HR7 := Aside0.mk hr
    have HG7 := Aside0.mk (grow_trans HG6.out hg)
    have HZ7 := Aside0.mk ((hg.block gr (blk_lt HZ6.out) (fun e => HNB.out (by injection e))).trans HZ6.out)
    have HS7 := Aside0.mk ((hg.block gs (blk_lt HS6.out) (fun e => HSB.out (by injection e))).trans HS6.out)
    clear hr hg
    have hz8 : w7.cell? ⟨gs, 1, none⟩ = some (.int .i64 0) := (blk_cell HS7.out 1).trans rfl
    have hf8 : w7.frozen? ⟨gs, 1, none⟩ = false := blk_frozen HS7.out 1
    have HS8 := Aside0.mk (show (w7.setCell ⟨gs, 1, none⟩ (.int .i64 (numS ts en (needS ts en (nameS ts en s).2 (⟨#[61]⟩ : ByteArray))).1)).heap[gs]? = some (.cells #[.string (nameS ts en s).1, .int .i64 (numS ts en (needS ts en (nameS ts en s).2 (⟨#[61]⟩ : ByteArray))).1] 59 (0, 0)) from (blk_set HS7.out 1 (.int .i64 (numS ts en (needS ts en (nameS ts en s).2 (⟨#[61]⟩ : ByteArray))).1)).trans rfl)
    have HR8 := Aside0.mk (rd_store2 HX.out HR7.out HSB.out HSW0.out (grow_set w7 gs 1 (.int .i64 (numS ts en (needS ts en (nameS ts en s).2 (⟨#[61]⟩ : ByteArray))).1)))
    have HG8 := Aside0.mk (own_store2 HSW.out HG7.out (grow_set w7 gs 1 (.int .i64 (numS ts en (needS ts en (nameS ts en s).2 (⟨#[61]⟩ : ByteArray))).1)))
    have HZ8 := Aside0.mk (((grow_set w7 gs 1 (.int .i64 (numS ts en (needS ts en (nameS ts en s).2 (⟨#[61]⟩ : ByteArray))).1)).block gr (blk_lt HZ7.out) (fun e => HSG.out (by injection e))).trans HZ7.out)
    go_wp2_with (first | ((with_reducible refine gate_dst (N := 18) rfl ?_); (try (refine gate_guard (by rfl) ?_; dsimp only)); refine wpList_load_row ?hg 59 (.tmp 3) ?ho gs ?hx 59 _ (0, 0) _ HS8.out Tryd.underlying59 ?hd ?hi ?_; (case hg => rfl); (case ho => rfl); (case hx => rfl); (case hd => rfl); (case hi => kernel_rfl)) | ((with_reducible refine gate_store (t := 59) (p := 2) rfl ?_); refine put_val ?hg ?hn 59 (.tmp 2) (.tmp 18) ?ho gr 59 _ (#[.string (nameS ts en s).1, .int .i64 (numS ts en (needS ts en (nameS ts en s).2 (⟨#[61]⟩ : ByteArray))).1]) (.agg (#[.string (nameS ts en s).1, .int .i64 (numS ts en (needS ts en (nameS ts en s).2 (⟨#[61]⟩ : ByteArray))).1])) ?hp ?hx ?hu HZ8.out ?ht ?hs ?h1 ?_; (case hg => rfl); (case hn => rfl); (case ho => rfl); (case hp => rfl); (case hx => rfl); (case hu => rfl); (case ht => kernel_rfl); (case hs => rfl); (case h1 => exact pair_one _ _); intro w99 hlit hg; have HT := Aside0.mk hlit; have HGZ := Aside0.mk hg; have HOW := Aside0.mk (own_store2 HGW.out HG8.out hg); have HRZ := Aside0.mk (rd_store2 HX.out HR8.out HNB.out HGW0.out hg); clear hlit hg))
    (try simp only [Exit.inBlock, Exit.then])
    refine bodyPost_ret (results_cell_row rfl _ _ gr 59 _ (0, 0) _ rfl HT.out Tryd.underlying59 rfl (by kernel_rfl)) rfl ?_
    exact ⟨rfl, HRZ.out, HOW.out⟩
set_option maxHeartbeats 8000000 in
set_option maxRecDepth 100000 in
theorem array_calls (w0 : World) (A : Option Addr) (c : Nat) (ts : List S86) (en : Int) (b : Nat) (hX : Ctx w0 A c ts b) (s : Rs) (w : World) (h : Rd w0 A c ts en b s w) :
    Calls Tryd.prog 51 #[.pointer (some ⟨b, 0, none⟩)] w fun q w' => q = .returned (.agg #[.string (arrS ts en s).1.f0, .int .i64 (arrS ts en s).1.f1]) ∧ Rd w0 A c ts en b ((arrS ts en s).2) w' ∧ w.grownBy w' (some b) := by
  have HX := Aside0.mk hX
  have HR := Aside0.mk h
  unfold arrS sizeS
  by_cases k1 : (tokS ts en (needS ts en (nameS ts en s).2 (⟨#[91]⟩ : ByteArray))).f0 = 1
  · have e1 : ((tokS ts en (needS ts en (nameS ts en s).2 (⟨#[91]⟩ : ByteArray))).f0 == 1) = true := beq_iff_eq.mpr k1
    by_cases k2 : (tokS ts en (needS ts en (nameS ts en s).2 (⟨#[91]⟩ : ByteArray))).f2 < 1
    · rw [if_pos ⟨k1, .inl k2⟩]
      have e2 : decide ((tokS ts en (needS ts en (nameS ts en s).2 (⟨#[91]⟩ : ByteArray))).f2 < 1) = true := decide_eq_true k2
      clear k1 k2
      clear h
      go_enter Tryd.func51, Tryd.ntmps51
      go_wp2_with (first | ((with_reducible refine gate_dst (N := 2) rfl ?_); refine box_event ?hg (N := 2) ?hd (cs := #[.string ⟨#[]⟩, .int .i64 0]) (t := 61) ?hr ?_; (case hd => rfl); (case hg => rfl); (case hr => first | (go_simp; done) | (go_simp; rfl)); intro gr hgg w1 hlit hb; have HZ1 := Aside0.mk hlit; have HB1 := Aside0.mk hb; have HGR := Aside0.mk hgg; clear hlit hb hgg))
      have HNB := Aside0.mk (show gr ≠ b by have h1 := HGR.out; have h2 := blk_lt HR.out.blk; omega)
      refine (name_calls w0 A c ts en b HX.out s w1 (HR.out.on HB1.out)).mono ?_
      rintro q w2 ⟨rfl, hr, hg⟩
      have HR2 := Aside0.mk hr
      have HG2 := Aside0.mk (grow_trans (grown_of_below HB1.out (some b)) hg)
      have HZ2 := Aside0.mk ((hg.block gr (blk_lt HZ1.out) (fun e => HNB.out (by injection e))).trans HZ1.out)
      clear hr hg
      go_wp2_with (first | ((with_reducible refine gate_dst (N := 3) rfl ?_); refine box_event ?hg (N := 3) ?hd (cs := #[.string ⟨#[]⟩, .int .i64 0]) (t := 61) ?hr ?_; (case hd => rfl); (case hg => rfl); (case hr => first | (go_simp; done) | (go_simp; rfl)); intro gs hgg w3 hlit hb; have HXZ := Aside0.mk hlit; have HBX := Aside0.mk hb; have HGS := Aside0.mk hgg; clear hlit hb hgg) | ((with_reducible refine gate_store (t := 61) (p := 3) rfl ?_); refine put_val ?hg ?hn 61 (.tmp 3) (.tmp 7) ?ho gs 61 _ (#[.string (nameS ts en s).1, .int .i64 0]) (.agg (#[.string (nameS ts en s).1, .int .i64 0])) ?hp ?hx ?hu HXZ.out ?ht ?hs ?h1 ?_; (case hg => rfl); (case hn => rfl); (case ho => rfl); (case hp => rfl); (case hx => rfl); (case hu => rfl); (case ht => kernel_rfl); (case hs => rfl); (case h1 => exact pair_one _ _); intro w4 hlit hg; have HS4 := Aside0.mk hlit; have HBW := Aside0.mk (made_below HGS.out HBX.out hg); have HR4 := Aside0.mk (HR2.out.on HBW.out); have HG4 := Aside0.mk (grow_trans HG2.out (grown_of_below HBW.out _)); have HZ4 := Aside0.mk (below_read HBW.out HZ2.out); clear hlit hg))
      have HSB := Aside0.mk (show gs ≠ b by have h1 := HGS.out; have h2 := blk_lt HR2.out.blk; omega)
      have HSG := Aside0.mk (show gr ≠ gs by have h1 := HGS.out; have h2 := blk_lt HZ2.out; omega)
      have HSW := Aside0.mk (show w.heap.size ≤ gs by have h1 := HGS.out; have h2 := HG2.out.size; omega)
      have HSW0 := Aside0.mk (show w0.heap.size ≤ gs by have h1 := HSW.out; have h2 := HR.out.old.size; omega)
      have HGW := Aside0.mk (show w.heap.size ≤ gr by rw [HGR.out]; exact Nat.le_refl _)
      have HGW0 := Aside0.mk (show w0.heap.size ≤ gr by have h1 := HGW.out; have h2 := HR.out.old.size; omega)
      go_wp2_with fail
      refine (need_calls w0 A c ts en b HX.out (nameS ts en s).2 (⟨#[91]⟩ : ByteArray) w4 HR4.out).mono ?_
      rintro q w5 ⟨rfl, hr, hg⟩
      have HR5 := Aside0.mk hr
      have HG5 := Aside0.mk (grow_trans HG4.out hg)
      have HZ5 := Aside0.mk ((hg.block gr (blk_lt HZ4.out) (fun e => HNB.out (by injection e))).trans HZ4.out)
      have HS5 := Aside0.mk ((hg.block gs (blk_lt HS4.out) (fun e => HSB.out (by injection e))).trans HS4.out)
      clear hr hg
      go_wp2_with fail
      refine (tok_calls w0 A c ts en b HX.out (needS ts en (nameS ts en s).2 (⟨#[91]⟩ : ByteArray)) w5 HR5.out).mono ?_
      rintro q w6 ⟨rfl, hb⟩
      have HR6 := Aside0.mk (HR5.out.on hb)
      have HG6 := Aside0.mk (grow_trans HG5.out (grown_of_below hb _))
      have HZ6 := Aside0.mk (below_read hb HZ5.out)
      have HS6 := Aside0.mk (below_read hb HS5.out)
      clear hb
      go_wp2_with (first | ((with_reducible refine gate_dst (N := 4) rfl ?_); refine box_event ?hg (N := 4) ?hd (cs := #[.int .i64 0, .string ⟨#[]⟩, .int .i64 0, .int .i64 0]) (t := 86) ?hr ?_; (case hd => rfl); (case hg => rfl); (case hr => first | (go_simp; done) | (go_simp; rfl)); intro gt hgg w7 hlit hb; have HTZ := Aside0.mk hlit; have HBT := Aside0.mk hb; have HGT := Aside0.mk hgg; clear hlit hb hgg) | ((with_reducible refine gate_store (t := 86) (p := 4) rfl ?_); refine put_val ?hg ?hn 86 (.tmp 4) (.tmp 11) ?ho gt 86 _ (#[.int .i64 (tokS ts en (needS ts en (nameS ts en s).2 (⟨#[91]⟩ : ByteArray))).f0, .string (tokS ts en (needS ts en (nameS ts en s).2 (⟨#[91]⟩ : ByteArray))).f1, .int .i64 (tokS ts en (needS ts en (nameS ts en s).2 (⟨#[91]⟩ : ByteArray))).f2, .int .i64 (tokS ts en (needS ts en (nameS ts en s).2 (⟨#[91]⟩ : ByteArray))).f3]) (.agg (#[.int .i64 (tokS ts en (needS ts en (nameS ts en s).2 (⟨#[91]⟩ : ByteArray))).f0, .string (tokS ts en (needS ts en (nameS ts en s).2 (⟨#[91]⟩ : ByteArray))).f1, .int .i64 (tokS ts en (needS ts en (nameS ts en s).2 (⟨#[91]⟩ : ByteArray))).f2, .int .i64 (tokS ts en (needS ts en (nameS ts en s).2 (⟨#[91]⟩ : ByteArray))).f3])) ?hp ?hx ?hu HTZ.out ?ht ?hs ?h1 ?_; (case hg => rfl); (case hn => rfl); (case ho => rfl); (case hp => rfl); (case hx => rfl); (case hu => rfl); (case ht => kernel_rfl); (case hs => rfl); (case h1 => exact tokC_one (tokS ts en (needS ts en (nameS ts en s).2 (⟨#[91]⟩ : ByteArray)))); intro w8 hlit hg; have HTK := Aside0.mk hlit; have HBW2 := Aside0.mk (made_below HGT.out HBT.out hg); have HR8 := Aside0.mk (HR6.out.on HBW2.out); have HG8 := Aside0.mk (grow_trans HG6.out (grown_of_below HBW2.out _)); have HZ8 := Aside0.mk (below_read HBW2.out HZ6.out); have HS8 := Aside0.mk (below_read HBW2.out HS6.out); have h0 : w8.cell? ⟨gt, 0, none⟩ = some (.int .i64 (tokS ts en (needS ts en (nameS ts en s).2 (⟨#[91]⟩ : ByteArray))).f0) := (blk_cell hlit 0).trans rfl; have h2 : w8.cell? ⟨gt, 2, none⟩ = some (.int .i64 (tokS ts en (needS ts en (nameS ts en s).2 (⟨#[91]⟩ : ByteArray))).f2) := (blk_cell hlit 2).trans rfl; clear hlit hg))
      refine (fail_calls w0 A c ts en b HX.out (needS ts en (nameS ts en s).2 (⟨#[91]⟩ : ByteArray)) 2 w8 HR8.out).mono ?_
      rintro q w9 ⟨rfl, hr, hg⟩
      have HR9 := Aside0.mk hr
      have HG9 := Aside0.mk (grow_trans HG8.out hg)
      have HZ9 := Aside0.mk ((hg.block gr (blk_lt HZ8.out) (fun e => HNB.out (by injection e))).trans HZ8.out)
      have HS9 := Aside0.mk ((hg.block gs (blk_lt HS8.out) (fun e => HSB.out (by injection e))).trans HS8.out)
      clear hr hg
      go_wp2_with fail
      refine (num_calls w0 A c ts en b HX.out (failS ts en (needS ts en (nameS ts en s).2 (⟨#[91]⟩ : ByteArray)) 2) w9 HR9.out).mono ?_
      rintro q w10 ⟨rfl, hr, hg⟩
      have HR10 := Aside0.mk hr
      have HG10 := Aside0.mk (grow_trans HG9.out hg)
      have HZ10 := Aside0.mk ((hg.block gr (blk_lt HZ9.out) (fun e => HNB.out (by injection e))).trans HZ9.out)
      have HS10 := Aside0.mk ((hg.block gs (blk_lt HS9.out) (fun e => HSB.out (by injection e))).trans HS9.out)
      clear hr hg
      have hz11 : w10.cell? ⟨gs, 1, none⟩ = some (.int .i64 0) := (blk_cell HS10.out 1).trans rfl
      have hf11 : w10.frozen? ⟨gs, 1, none⟩ = false := blk_frozen HS10.out 1
      have HS11 := Aside0.mk (show (w10.setCell ⟨gs, 1, none⟩ (.int .i64 (numS ts en (failS ts en (needS ts en (nameS ts en s).2 (⟨#[91]⟩ : ByteArray)) 2)).1)).heap[gs]? = some (.cells #[.string (nameS ts en s).1, .int .i64 (numS ts en (failS ts en (needS ts en (nameS ts en s).2 (⟨#[91]⟩ : ByteArray)) 2)).1] 61 (0, 0)) from (blk_set HS10.out 1 (.int .i64 (numS ts en (failS ts en (needS ts en (nameS ts en s).2 (⟨#[91]⟩ : ByteArray)) 2)).1)).trans rfl)
      have HR11 := Aside0.mk (rd_store2 HX.out HR10.out HSB.out HSW0.out (grow_set w10 gs 1 (.int .i64 (numS ts en (failS ts en (needS ts en (nameS ts en s).2 (⟨#[91]⟩ : ByteArray)) 2)).1)))
      have HG11 := Aside0.mk (own_store2 HSW.out HG10.out (grow_set w10 gs 1 (.int .i64 (numS ts en (failS ts en (needS ts en (nameS ts en s).2 (⟨#[91]⟩ : ByteArray)) 2)).1)))
      have HZ11 := Aside0.mk (((grow_set w10 gs 1 (.int .i64 (numS ts en (failS ts en (needS ts en (nameS ts en s).2 (⟨#[91]⟩ : ByteArray)) 2)).1)).block gr (blk_lt HZ10.out) (fun e => HSG.out (by injection e))).trans HZ10.out)
      go_wp2_with fail
      refine (need_calls w0 A c ts en b HX.out (numS ts en (failS ts en (needS ts en (nameS ts en s).2 (⟨#[91]⟩ : ByteArray)) 2)).2 (⟨#[93]⟩ : ByteArray) (w10.setCell ⟨gs, 1, none⟩ (.int .i64 (numS ts en (failS ts en (needS ts en (nameS ts en s).2 (⟨#[91]⟩ : ByteArray)) 2)).1)) HR11.out).mono ?_
      rintro q w12 ⟨rfl, hr, hg⟩
      have HR12 := Aside0.mk hr
      have HG12 := Aside0.mk (grow_trans HG11.out hg)
      have HZ12 := Aside0.mk ((hg.block gr (blk_lt HZ11.out) (fun e => HNB.out (by injection e))).trans HZ11.out)
      have HS12 := Aside0.mk ((hg.block gs (blk_lt HS11.out) (fun e => HSB.out (by injection e))).trans HS11.out)
      clear hr hg
      go_wp2_with (first | ((with_reducible refine gate_dst (N := 32) rfl ?_); (try (refine gate_guard (by rfl) ?_; dsimp only)); refine wpList_load_row ?hg 61 (.tmp 3) ?ho gs ?hx 61 _ (0, 0) _ HS12.out Tryd.underlying61 ?hd ?hi ?_; (case hg => rfl); (case ho => rfl); (case hx => rfl); (case hd => rfl); (case hi => kernel_rfl)) | ((with_reducible refine gate_store (t := 61) (p := 2) rfl ?_); refine put_val ?hg ?hn 61 (.tmp 2) (.tmp 32) ?ho gr 61 _ (#[.string (nameS ts en s).1, .int .i64 (numS ts en (failS ts en (needS ts en (nameS ts en s).2 (⟨#[91]⟩ : ByteArray)) 2)).1]) (.agg (#[.string (nameS ts en s).1, .int .i64 (numS ts en (failS ts en (needS ts en (nameS ts en s).2 (⟨#[91]⟩ : ByteArray)) 2)).1])) ?hp ?hx ?hu HZ12.out ?ht ?hs ?h1 ?_; (case hg => rfl); (case hn => rfl); (case ho => rfl); (case hp => rfl); (case hx => rfl); (case hu => rfl); (case ht => kernel_rfl); (case hs => rfl); (case h1 => exact pair_one _ _); intro w99 hlit hg; have HT := Aside0.mk hlit; have HGZ := Aside0.mk hg; have HOW := Aside0.mk (own_store2 HGW.out HG12.out hg); have HRZ := Aside0.mk (rd_store2 HX.out HR12.out HNB.out HGW0.out hg); clear hlit hg))
      (try simp only [Exit.inBlock, Exit.then])
      refine bodyPost_ret (results_cell_row rfl _ _ gr 61 _ (0, 0) _ rfl HT.out Tryd.underlying61 rfl (by kernel_rfl)) rfl ?_
      exact ⟨rfl, HRZ.out, HOW.out⟩
    · have e2 : decide ((tokS ts en (needS ts en (nameS ts en s).2 (⟨#[91]⟩ : ByteArray))).f2 < 1) = false := decide_eq_false k2
      by_cases k3 : (tokS ts en (needS ts en (nameS ts en s).2 (⟨#[91]⟩ : ByteArray))).f2 > 16
      · rw [if_pos ⟨k1, .inr k3⟩]
        have e3 : decide (16 < (tokS ts en (needS ts en (nameS ts en s).2 (⟨#[91]⟩ : ByteArray))).f2) = true := decide_eq_true k3
        clear k1 k2 k3
        clear h
        go_enter Tryd.func51, Tryd.ntmps51
        go_wp2_with (first | ((with_reducible refine gate_dst (N := 2) rfl ?_); refine box_event ?hg (N := 2) ?hd (cs := #[.string ⟨#[]⟩, .int .i64 0]) (t := 61) ?hr ?_; (case hd => rfl); (case hg => rfl); (case hr => first | (go_simp; done) | (go_simp; rfl)); intro gr hgg w1 hlit hb; have HZ1 := Aside0.mk hlit; have HB1 := Aside0.mk hb; have HGR := Aside0.mk hgg; clear hlit hb hgg))
        have HNB := Aside0.mk (show gr ≠ b by have h1 := HGR.out; have h2 := blk_lt HR.out.blk; omega)
        refine (name_calls w0 A c ts en b HX.out s w1 (HR.out.on HB1.out)).mono ?_
        rintro q w2 ⟨rfl, hr, hg⟩
        have HR2 := Aside0.mk hr
        have HG2 := Aside0.mk (grow_trans (grown_of_below HB1.out (some b)) hg)
        have HZ2 := Aside0.mk ((hg.block gr (blk_lt HZ1.out) (fun e => HNB.out (by injection e))).trans HZ1.out)
        clear hr hg
        go_wp2_with (first | ((with_reducible refine gate_dst (N := 3) rfl ?_); refine box_event ?hg (N := 3) ?hd (cs := #[.string ⟨#[]⟩, .int .i64 0]) (t := 61) ?hr ?_; (case hd => rfl); (case hg => rfl); (case hr => first | (go_simp; done) | (go_simp; rfl)); intro gs hgg w3 hlit hb; have HXZ := Aside0.mk hlit; have HBX := Aside0.mk hb; have HGS := Aside0.mk hgg; clear hlit hb hgg) | ((with_reducible refine gate_store (t := 61) (p := 3) rfl ?_); refine put_val ?hg ?hn 61 (.tmp 3) (.tmp 7) ?ho gs 61 _ (#[.string (nameS ts en s).1, .int .i64 0]) (.agg (#[.string (nameS ts en s).1, .int .i64 0])) ?hp ?hx ?hu HXZ.out ?ht ?hs ?h1 ?_; (case hg => rfl); (case hn => rfl); (case ho => rfl); (case hp => rfl); (case hx => rfl); (case hu => rfl); (case ht => kernel_rfl); (case hs => rfl); (case h1 => exact pair_one _ _); intro w4 hlit hg; have HS4 := Aside0.mk hlit; have HBW := Aside0.mk (made_below HGS.out HBX.out hg); have HR4 := Aside0.mk (HR2.out.on HBW.out); have HG4 := Aside0.mk (grow_trans HG2.out (grown_of_below HBW.out _)); have HZ4 := Aside0.mk (below_read HBW.out HZ2.out); clear hlit hg))
        have HSB := Aside0.mk (show gs ≠ b by have h1 := HGS.out; have h2 := blk_lt HR2.out.blk; omega)
        have HSG := Aside0.mk (show gr ≠ gs by have h1 := HGS.out; have h2 := blk_lt HZ2.out; omega)
        have HSW := Aside0.mk (show w.heap.size ≤ gs by have h1 := HGS.out; have h2 := HG2.out.size; omega)
        have HSW0 := Aside0.mk (show w0.heap.size ≤ gs by have h1 := HSW.out; have h2 := HR.out.old.size; omega)
        have HGW := Aside0.mk (show w.heap.size ≤ gr by rw [HGR.out]; exact Nat.le_refl _)
        have HGW0 := Aside0.mk (show w0.heap.size ≤ gr by have h1 := HGW.out; have h2 := HR.out.old.size; omega)
        go_wp2_with fail
        refine (need_calls w0 A c ts en b HX.out (nameS ts en s).2 (⟨#[91]⟩ : ByteArray) w4 HR4.out).mono ?_
        rintro q w5 ⟨rfl, hr, hg⟩
        have HR5 := Aside0.mk hr
        have HG5 := Aside0.mk (grow_trans HG4.out hg)
        have HZ5 := Aside0.mk ((hg.block gr (blk_lt HZ4.out) (fun e => HNB.out (by injection e))).trans HZ4.out)
        have HS5 := Aside0.mk ((hg.block gs (blk_lt HS4.out) (fun e => HSB.out (by injection e))).trans HS4.out)
        clear hr hg
        go_wp2_with fail
        refine (tok_calls w0 A c ts en b HX.out (needS ts en (nameS ts en s).2 (⟨#[91]⟩ : ByteArray)) w5 HR5.out).mono ?_
        rintro q w6 ⟨rfl, hb⟩
        have HR6 := Aside0.mk (HR5.out.on hb)
        have HG6 := Aside0.mk (grow_trans HG5.out (grown_of_below hb _))
        have HZ6 := Aside0.mk (below_read hb HZ5.out)
        have HS6 := Aside0.mk (below_read hb HS5.out)
        clear hb
        go_wp2_with (first | ((with_reducible refine gate_dst (N := 4) rfl ?_); refine box_event ?hg (N := 4) ?hd (cs := #[.int .i64 0, .string ⟨#[]⟩, .int .i64 0, .int .i64 0]) (t := 86) ?hr ?_; (case hd => rfl); (case hg => rfl); (case hr => first | (go_simp; done) | (go_simp; rfl)); intro gt hgg w7 hlit hb; have HTZ := Aside0.mk hlit; have HBT := Aside0.mk hb; have HGT := Aside0.mk hgg; clear hlit hb hgg) | ((with_reducible refine gate_store (t := 86) (p := 4) rfl ?_); refine put_val ?hg ?hn 86 (.tmp 4) (.tmp 11) ?ho gt 86 _ (#[.int .i64 (tokS ts en (needS ts en (nameS ts en s).2 (⟨#[91]⟩ : ByteArray))).f0, .string (tokS ts en (needS ts en (nameS ts en s).2 (⟨#[91]⟩ : ByteArray))).f1, .int .i64 (tokS ts en (needS ts en (nameS ts en s).2 (⟨#[91]⟩ : ByteArray))).f2, .int .i64 (tokS ts en (needS ts en (nameS ts en s).2 (⟨#[91]⟩ : ByteArray))).f3]) (.agg (#[.int .i64 (tokS ts en (needS ts en (nameS ts en s).2 (⟨#[91]⟩ : ByteArray))).f0, .string (tokS ts en (needS ts en (nameS ts en s).2 (⟨#[91]⟩ : ByteArray))).f1, .int .i64 (tokS ts en (needS ts en (nameS ts en s).2 (⟨#[91]⟩ : ByteArray))).f2, .int .i64 (tokS ts en (needS ts en (nameS ts en s).2 (⟨#[91]⟩ : ByteArray))).f3])) ?hp ?hx ?hu HTZ.out ?ht ?hs ?h1 ?_; (case hg => rfl); (case hn => rfl); (case ho => rfl); (case hp => rfl); (case hx => rfl); (case hu => rfl); (case ht => kernel_rfl); (case hs => rfl); (case h1 => exact tokC_one (tokS ts en (needS ts en (nameS ts en s).2 (⟨#[91]⟩ : ByteArray)))); intro w8 hlit hg; have HTK := Aside0.mk hlit; have HBW2 := Aside0.mk (made_below HGT.out HBT.out hg); have HR8 := Aside0.mk (HR6.out.on HBW2.out); have HG8 := Aside0.mk (grow_trans HG6.out (grown_of_below HBW2.out _)); have HZ8 := Aside0.mk (below_read HBW2.out HZ6.out); have HS8 := Aside0.mk (below_read HBW2.out HS6.out); have h0 : w8.cell? ⟨gt, 0, none⟩ = some (.int .i64 (tokS ts en (needS ts en (nameS ts en s).2 (⟨#[91]⟩ : ByteArray))).f0) := (blk_cell hlit 0).trans rfl; have h2 : w8.cell? ⟨gt, 2, none⟩ = some (.int .i64 (tokS ts en (needS ts en (nameS ts en s).2 (⟨#[91]⟩ : ByteArray))).f2) := (blk_cell hlit 2).trans rfl; clear hlit hg))
        refine (fail_calls w0 A c ts en b HX.out (needS ts en (nameS ts en s).2 (⟨#[91]⟩ : ByteArray)) 2 w8 HR8.out).mono ?_
        rintro q w9 ⟨rfl, hr, hg⟩
        have HR9 := Aside0.mk hr
        have HG9 := Aside0.mk (grow_trans HG8.out hg)
        have HZ9 := Aside0.mk ((hg.block gr (blk_lt HZ8.out) (fun e => HNB.out (by injection e))).trans HZ8.out)
        have HS9 := Aside0.mk ((hg.block gs (blk_lt HS8.out) (fun e => HSB.out (by injection e))).trans HS8.out)
        clear hr hg
        go_wp2_with fail
        refine (num_calls w0 A c ts en b HX.out (failS ts en (needS ts en (nameS ts en s).2 (⟨#[91]⟩ : ByteArray)) 2) w9 HR9.out).mono ?_
        rintro q w10 ⟨rfl, hr, hg⟩
        have HR10 := Aside0.mk hr
        have HG10 := Aside0.mk (grow_trans HG9.out hg)
        have HZ10 := Aside0.mk ((hg.block gr (blk_lt HZ9.out) (fun e => HNB.out (by injection e))).trans HZ9.out)
        have HS10 := Aside0.mk ((hg.block gs (blk_lt HS9.out) (fun e => HSB.out (by injection e))).trans HS9.out)
        clear hr hg
        have hz11 : w10.cell? ⟨gs, 1, none⟩ = some (.int .i64 0) := (blk_cell HS10.out 1).trans rfl
        have hf11 : w10.frozen? ⟨gs, 1, none⟩ = false := blk_frozen HS10.out 1
        have HS11 := Aside0.mk (show (w10.setCell ⟨gs, 1, none⟩ (.int .i64 (numS ts en (failS ts en (needS ts en (nameS ts en s).2 (⟨#[91]⟩ : ByteArray)) 2)).1)).heap[gs]? = some (.cells #[.string (nameS ts en s).1, .int .i64 (numS ts en (failS ts en (needS ts en (nameS ts en s).2 (⟨#[91]⟩ : ByteArray)) 2)).1] 61 (0, 0)) from (blk_set HS10.out 1 (.int .i64 (numS ts en (failS ts en (needS ts en (nameS ts en s).2 (⟨#[91]⟩ : ByteArray)) 2)).1)).trans rfl)
        have HR11 := Aside0.mk (rd_store2 HX.out HR10.out HSB.out HSW0.out (grow_set w10 gs 1 (.int .i64 (numS ts en (failS ts en (needS ts en (nameS ts en s).2 (⟨#[91]⟩ : ByteArray)) 2)).1)))
        have HG11 := Aside0.mk (own_store2 HSW.out HG10.out (grow_set w10 gs 1 (.int .i64 (numS ts en (failS ts en (needS ts en (nameS ts en s).2 (⟨#[91]⟩ : ByteArray)) 2)).1)))
        have HZ11 := Aside0.mk (((grow_set w10 gs 1 (.int .i64 (numS ts en (failS ts en (needS ts en (nameS ts en s).2 (⟨#[91]⟩ : ByteArray)) 2)).1)).block gr (blk_lt HZ10.out) (fun e => HSG.out (by injection e))).trans HZ10.out)
        go_wp2_with fail
        refine (need_calls w0 A c ts en b HX.out (numS ts en (failS ts en (needS ts en (nameS ts en s).2 (⟨#[91]⟩ : ByteArray)) 2)).2 (⟨#[93]⟩ : ByteArray) (w10.setCell ⟨gs, 1, none⟩ (.int .i64 (numS ts en (failS ts en (needS ts en (nameS ts en s).2 (⟨#[91]⟩ : ByteArray)) 2)).1)) HR11.out).mono ?_
        rintro q w12 ⟨rfl, hr, hg⟩
        have HR12 := Aside0.mk hr
        have HG12 := Aside0.mk (grow_trans HG11.out hg)
        have HZ12 := Aside0.mk ((hg.block gr (blk_lt HZ11.out) (fun e => HNB.out (by injection e))).trans HZ11.out)
        have HS12 := Aside0.mk ((hg.block gs (blk_lt HS11.out) (fun e => HSB.out (by injection e))).trans HS11.out)
        clear hr hg
        go_wp2_with (first | ((with_reducible refine gate_dst (N := 32) rfl ?_); (try (refine gate_guard (by rfl) ?_; dsimp only)); refine wpList_load_row ?hg 61 (.tmp 3) ?ho gs ?hx 61 _ (0, 0) _ HS12.out Tryd.underlying61 ?hd ?hi ?_; (case hg => rfl); (case ho => rfl); (case hx => rfl); (case hd => rfl); (case hi => kernel_rfl)) | ((with_reducible refine gate_store (t := 61) (p := 2) rfl ?_); refine put_val ?hg ?hn 61 (.tmp 2) (.tmp 32) ?ho gr 61 _ (#[.string (nameS ts en s).1, .int .i64 (numS ts en (failS ts en (needS ts en (nameS ts en s).2 (⟨#[91]⟩ : ByteArray)) 2)).1]) (.agg (#[.string (nameS ts en s).1, .int .i64 (numS ts en (failS ts en (needS ts en (nameS ts en s).2 (⟨#[91]⟩ : ByteArray)) 2)).1])) ?hp ?hx ?hu HZ12.out ?ht ?hs ?h1 ?_; (case hg => rfl); (case hn => rfl); (case ho => rfl); (case hp => rfl); (case hx => rfl); (case hu => rfl); (case ht => kernel_rfl); (case hs => rfl); (case h1 => exact pair_one _ _); intro w99 hlit hg; have HT := Aside0.mk hlit; have HGZ := Aside0.mk hg; have HOW := Aside0.mk (own_store2 HGW.out HG12.out hg); have HRZ := Aside0.mk (rd_store2 HX.out HR12.out HNB.out HGW0.out hg); clear hlit hg))
        (try simp only [Exit.inBlock, Exit.then])
        refine bodyPost_ret (results_cell_row rfl _ _ gr 61 _ (0, 0) _ rfl HT.out Tryd.underlying61 rfl (by kernel_rfl)) rfl ?_
        exact ⟨rfl, HRZ.out, HOW.out⟩
      · rw [if_neg (fun hc => hc.2.elim k2 k3)]
        have e3 : decide (16 < (tokS ts en (needS ts en (nameS ts en s).2 (⟨#[91]⟩ : ByteArray))).f2) = false := decide_eq_false k3
        clear k1 k2 k3
        clear h
        go_enter Tryd.func51, Tryd.ntmps51
        go_wp2_with (first | ((with_reducible refine gate_dst (N := 2) rfl ?_); refine box_event ?hg (N := 2) ?hd (cs := #[.string ⟨#[]⟩, .int .i64 0]) (t := 61) ?hr ?_; (case hd => rfl); (case hg => rfl); (case hr => first | (go_simp; done) | (go_simp; rfl)); intro gr hgg w1 hlit hb; have HZ1 := Aside0.mk hlit; have HB1 := Aside0.mk hb; have HGR := Aside0.mk hgg; clear hlit hb hgg))
        have HNB := Aside0.mk (show gr ≠ b by have h1 := HGR.out; have h2 := blk_lt HR.out.blk; omega)
        refine (name_calls w0 A c ts en b HX.out s w1 (HR.out.on HB1.out)).mono ?_
        rintro q w2 ⟨rfl, hr, hg⟩
        have HR2 := Aside0.mk hr
        have HG2 := Aside0.mk (grow_trans (grown_of_below HB1.out (some b)) hg)
        have HZ2 := Aside0.mk ((hg.block gr (blk_lt HZ1.out) (fun e => HNB.out (by injection e))).trans HZ1.out)
        clear hr hg
        go_wp2_with (first | ((with_reducible refine gate_dst (N := 3) rfl ?_); refine box_event ?hg (N := 3) ?hd (cs := #[.string ⟨#[]⟩, .int .i64 0]) (t := 61) ?hr ?_; (case hd => rfl); (case hg => rfl); (case hr => first | (go_simp; done) | (go_simp; rfl)); intro gs hgg w3 hlit hb; have HXZ := Aside0.mk hlit; have HBX := Aside0.mk hb; have HGS := Aside0.mk hgg; clear hlit hb hgg) | ((with_reducible refine gate_store (t := 61) (p := 3) rfl ?_); refine put_val ?hg ?hn 61 (.tmp 3) (.tmp 7) ?ho gs 61 _ (#[.string (nameS ts en s).1, .int .i64 0]) (.agg (#[.string (nameS ts en s).1, .int .i64 0])) ?hp ?hx ?hu HXZ.out ?ht ?hs ?h1 ?_; (case hg => rfl); (case hn => rfl); (case ho => rfl); (case hp => rfl); (case hx => rfl); (case hu => rfl); (case ht => kernel_rfl); (case hs => rfl); (case h1 => exact pair_one _ _); intro w4 hlit hg; have HS4 := Aside0.mk hlit; have HBW := Aside0.mk (made_below HGS.out HBX.out hg); have HR4 := Aside0.mk (HR2.out.on HBW.out); have HG4 := Aside0.mk (grow_trans HG2.out (grown_of_below HBW.out _)); have HZ4 := Aside0.mk (below_read HBW.out HZ2.out); clear hlit hg))
        have HSB := Aside0.mk (show gs ≠ b by have h1 := HGS.out; have h2 := blk_lt HR2.out.blk; omega)
        have HSG := Aside0.mk (show gr ≠ gs by have h1 := HGS.out; have h2 := blk_lt HZ2.out; omega)
        have HSW := Aside0.mk (show w.heap.size ≤ gs by have h1 := HGS.out; have h2 := HG2.out.size; omega)
        have HSW0 := Aside0.mk (show w0.heap.size ≤ gs by have h1 := HSW.out; have h2 := HR.out.old.size; omega)
        have HGW := Aside0.mk (show w.heap.size ≤ gr by rw [HGR.out]; exact Nat.le_refl _)
        have HGW0 := Aside0.mk (show w0.heap.size ≤ gr by have h1 := HGW.out; have h2 := HR.out.old.size; omega)
        go_wp2_with fail
        refine (need_calls w0 A c ts en b HX.out (nameS ts en s).2 (⟨#[91]⟩ : ByteArray) w4 HR4.out).mono ?_
        rintro q w5 ⟨rfl, hr, hg⟩
        have HR5 := Aside0.mk hr
        have HG5 := Aside0.mk (grow_trans HG4.out hg)
        have HZ5 := Aside0.mk ((hg.block gr (blk_lt HZ4.out) (fun e => HNB.out (by injection e))).trans HZ4.out)
        have HS5 := Aside0.mk ((hg.block gs (blk_lt HS4.out) (fun e => HSB.out (by injection e))).trans HS4.out)
        clear hr hg
        go_wp2_with fail
        refine (tok_calls w0 A c ts en b HX.out (needS ts en (nameS ts en s).2 (⟨#[91]⟩ : ByteArray)) w5 HR5.out).mono ?_
        rintro q w6 ⟨rfl, hb⟩
        have HR6 := Aside0.mk (HR5.out.on hb)
        have HG6 := Aside0.mk (grow_trans HG5.out (grown_of_below hb _))
        have HZ6 := Aside0.mk (below_read hb HZ5.out)
        have HS6 := Aside0.mk (below_read hb HS5.out)
        clear hb
        go_wp2_with (first | ((with_reducible refine gate_dst (N := 4) rfl ?_); refine box_event ?hg (N := 4) ?hd (cs := #[.int .i64 0, .string ⟨#[]⟩, .int .i64 0, .int .i64 0]) (t := 86) ?hr ?_; (case hd => rfl); (case hg => rfl); (case hr => first | (go_simp; done) | (go_simp; rfl)); intro gt hgg w7 hlit hb; have HTZ := Aside0.mk hlit; have HBT := Aside0.mk hb; have HGT := Aside0.mk hgg; clear hlit hb hgg) | ((with_reducible refine gate_store (t := 86) (p := 4) rfl ?_); refine put_val ?hg ?hn 86 (.tmp 4) (.tmp 11) ?ho gt 86 _ (#[.int .i64 (tokS ts en (needS ts en (nameS ts en s).2 (⟨#[91]⟩ : ByteArray))).f0, .string (tokS ts en (needS ts en (nameS ts en s).2 (⟨#[91]⟩ : ByteArray))).f1, .int .i64 (tokS ts en (needS ts en (nameS ts en s).2 (⟨#[91]⟩ : ByteArray))).f2, .int .i64 (tokS ts en (needS ts en (nameS ts en s).2 (⟨#[91]⟩ : ByteArray))).f3]) (.agg (#[.int .i64 (tokS ts en (needS ts en (nameS ts en s).2 (⟨#[91]⟩ : ByteArray))).f0, .string (tokS ts en (needS ts en (nameS ts en s).2 (⟨#[91]⟩ : ByteArray))).f1, .int .i64 (tokS ts en (needS ts en (nameS ts en s).2 (⟨#[91]⟩ : ByteArray))).f2, .int .i64 (tokS ts en (needS ts en (nameS ts en s).2 (⟨#[91]⟩ : ByteArray))).f3])) ?hp ?hx ?hu HTZ.out ?ht ?hs ?h1 ?_; (case hg => rfl); (case hn => rfl); (case ho => rfl); (case hp => rfl); (case hx => rfl); (case hu => rfl); (case ht => kernel_rfl); (case hs => rfl); (case h1 => exact tokC_one (tokS ts en (needS ts en (nameS ts en s).2 (⟨#[91]⟩ : ByteArray)))); intro w8 hlit hg; have HTK := Aside0.mk hlit; have HBW2 := Aside0.mk (made_below HGT.out HBT.out hg); have HR8 := Aside0.mk (HR6.out.on HBW2.out); have HG8 := Aside0.mk (grow_trans HG6.out (grown_of_below HBW2.out _)); have HZ8 := Aside0.mk (below_read HBW2.out HZ6.out); have HS8 := Aside0.mk (below_read HBW2.out HS6.out); have h0 : w8.cell? ⟨gt, 0, none⟩ = some (.int .i64 (tokS ts en (needS ts en (nameS ts en s).2 (⟨#[91]⟩ : ByteArray))).f0) := (blk_cell hlit 0).trans rfl; have h2 : w8.cell? ⟨gt, 2, none⟩ = some (.int .i64 (tokS ts en (needS ts en (nameS ts en s).2 (⟨#[91]⟩ : ByteArray))).f2) := (blk_cell hlit 2).trans rfl; clear hlit hg))
        refine (num_calls w0 A c ts en b HX.out (needS ts en (nameS ts en s).2 (⟨#[91]⟩ : ByteArray)) w8 HR8.out).mono ?_
        rintro q w9 ⟨rfl, hr, hg⟩
        have HR9 := Aside0.mk hr
        have HG9 := Aside0.mk (grow_trans HG8.out hg)
        have HZ9 := Aside0.mk ((hg.block gr (blk_lt HZ8.out) (fun e => HNB.out (by injection e))).trans HZ8.out)
        have HS9 := Aside0.mk ((hg.block gs (blk_lt HS8.out) (fun e => HSB.out (by injection e))).trans HS8.out)
        clear hr hg
        have hz10 : w9.cell? ⟨gs, 1, none⟩ = some (.int .i64 0) := (blk_cell HS9.out 1).trans rfl
        have hf10 : w9.frozen? ⟨gs, 1, none⟩ = false := blk_frozen HS9.out 1
        have HS10 := Aside0.mk (show (w9.setCell ⟨gs, 1, none⟩ (.int .i64 (numS ts en (needS ts en (nameS ts en s).2 (⟨#[91]⟩ : ByteArray))).1)).heap[gs]? = some (.cells #[.string (nameS ts en s).1, .int .i64 (numS ts en (needS ts en (nameS ts en s).2 (⟨#[91]⟩ : ByteArray))).1] 61 (0, 0)) from (blk_set HS9.out 1 (.int .i64 (numS ts en (needS ts en (nameS ts en s).2 (⟨#[91]⟩ : ByteArray))).1)).trans rfl)
        have HR10 := Aside0.mk (rd_store2 HX.out HR9.out HSB.out HSW0.out (grow_set w9 gs 1 (.int .i64 (numS ts en (needS ts en (nameS ts en s).2 (⟨#[91]⟩ : ByteArray))).1)))
        have HG10 := Aside0.mk (own_store2 HSW.out HG9.out (grow_set w9 gs 1 (.int .i64 (numS ts en (needS ts en (nameS ts en s).2 (⟨#[91]⟩ : ByteArray))).1)))
        have HZ10 := Aside0.mk (((grow_set w9 gs 1 (.int .i64 (numS ts en (needS ts en (nameS ts en s).2 (⟨#[91]⟩ : ByteArray))).1)).block gr (blk_lt HZ9.out) (fun e => HSG.out (by injection e))).trans HZ9.out)
        go_wp2_with fail
        refine (need_calls w0 A c ts en b HX.out (numS ts en (needS ts en (nameS ts en s).2 (⟨#[91]⟩ : ByteArray))).2 (⟨#[93]⟩ : ByteArray) (w9.setCell ⟨gs, 1, none⟩ (.int .i64 (numS ts en (needS ts en (nameS ts en s).2 (⟨#[91]⟩ : ByteArray))).1)) HR10.out).mono ?_
        rintro q w11 ⟨rfl, hr, hg⟩
        have HR11 := Aside0.mk hr
        have HG11 := Aside0.mk (grow_trans HG10.out hg)
        have HZ11 := Aside0.mk ((hg.block gr (blk_lt HZ10.out) (fun e => HNB.out (by injection e))).trans HZ10.out)
        have HS11 := Aside0.mk ((hg.block gs (blk_lt HS10.out) (fun e => HSB.out (by injection e))).trans HS10.out)
        clear hr hg
        go_wp2_with (first | ((with_reducible refine gate_dst (N := 32) rfl ?_); (try (refine gate_guard (by rfl) ?_; dsimp only)); refine wpList_load_row ?hg 61 (.tmp 3) ?ho gs ?hx 61 _ (0, 0) _ HS11.out Tryd.underlying61 ?hd ?hi ?_; (case hg => rfl); (case ho => rfl); (case hx => rfl); (case hd => rfl); (case hi => kernel_rfl)) | ((with_reducible refine gate_store (t := 61) (p := 2) rfl ?_); refine put_val ?hg ?hn 61 (.tmp 2) (.tmp 32) ?ho gr 61 _ (#[.string (nameS ts en s).1, .int .i64 (numS ts en (needS ts en (nameS ts en s).2 (⟨#[91]⟩ : ByteArray))).1]) (.agg (#[.string (nameS ts en s).1, .int .i64 (numS ts en (needS ts en (nameS ts en s).2 (⟨#[91]⟩ : ByteArray))).1])) ?hp ?hx ?hu HZ11.out ?ht ?hs ?h1 ?_; (case hg => rfl); (case hn => rfl); (case ho => rfl); (case hp => rfl); (case hx => rfl); (case hu => rfl); (case ht => kernel_rfl); (case hs => rfl); (case h1 => exact pair_one _ _); intro w99 hlit hg; have HT := Aside0.mk hlit; have HGZ := Aside0.mk hg; have HOW := Aside0.mk (own_store2 HGW.out HG11.out hg); have HRZ := Aside0.mk (rd_store2 HX.out HR11.out HNB.out HGW0.out hg); clear hlit hg))
        (try simp only [Exit.inBlock, Exit.then])
        refine bodyPost_ret (results_cell_row rfl _ _ gr 61 _ (0, 0) _ rfl HT.out Tryd.underlying61 rfl (by kernel_rfl)) rfl ?_
        exact ⟨rfl, HRZ.out, HOW.out⟩
  · rw [if_neg (fun hc => k1 hc.1)]
    have e1 : ((tokS ts en (needS ts en (nameS ts en s).2 (⟨#[91]⟩ : ByteArray))).f0 == 1) = false := beq_eq_false_iff_ne.mpr k1
    clear k1
    clear h
    go_enter Tryd.func51, Tryd.ntmps51
    go_wp2_with (first | ((with_reducible refine gate_dst (N := 2) rfl ?_); refine box_event ?hg (N := 2) ?hd (cs := #[.string ⟨#[]⟩, .int .i64 0]) (t := 61) ?hr ?_; (case hd => rfl); (case hg => rfl); (case hr => first | (go_simp; done) | (go_simp; rfl)); intro gr hgg w1 hlit hb; have HZ1 := Aside0.mk hlit; have HB1 := Aside0.mk hb; have HGR := Aside0.mk hgg; clear hlit hb hgg))
    have HNB := Aside0.mk (show gr ≠ b by have h1 := HGR.out; have h2 := blk_lt HR.out.blk; omega)
    refine (name_calls w0 A c ts en b HX.out s w1 (HR.out.on HB1.out)).mono ?_
    rintro q w2 ⟨rfl, hr, hg⟩
    have HR2 := Aside0.mk hr
    have HG2 := Aside0.mk (grow_trans (grown_of_below HB1.out (some b)) hg)
    have HZ2 := Aside0.mk ((hg.block gr (blk_lt HZ1.out) (fun e => HNB.out (by injection e))).trans HZ1.out)
    clear hr hg
    go_wp2_with (first | ((with_reducible refine gate_dst (N := 3) rfl ?_); refine box_event ?hg (N := 3) ?hd (cs := #[.string ⟨#[]⟩, .int .i64 0]) (t := 61) ?hr ?_; (case hd => rfl); (case hg => rfl); (case hr => first | (go_simp; done) | (go_simp; rfl)); intro gs hgg w3 hlit hb; have HXZ := Aside0.mk hlit; have HBX := Aside0.mk hb; have HGS := Aside0.mk hgg; clear hlit hb hgg) | ((with_reducible refine gate_store (t := 61) (p := 3) rfl ?_); refine put_val ?hg ?hn 61 (.tmp 3) (.tmp 7) ?ho gs 61 _ (#[.string (nameS ts en s).1, .int .i64 0]) (.agg (#[.string (nameS ts en s).1, .int .i64 0])) ?hp ?hx ?hu HXZ.out ?ht ?hs ?h1 ?_; (case hg => rfl); (case hn => rfl); (case ho => rfl); (case hp => rfl); (case hx => rfl); (case hu => rfl); (case ht => kernel_rfl); (case hs => rfl); (case h1 => exact pair_one _ _); intro w4 hlit hg; have HS4 := Aside0.mk hlit; have HBW := Aside0.mk (made_below HGS.out HBX.out hg); have HR4 := Aside0.mk (HR2.out.on HBW.out); have HG4 := Aside0.mk (grow_trans HG2.out (grown_of_below HBW.out _)); have HZ4 := Aside0.mk (below_read HBW.out HZ2.out); clear hlit hg))
    have HSB := Aside0.mk (show gs ≠ b by have h1 := HGS.out; have h2 := blk_lt HR2.out.blk; omega)
    have HSG := Aside0.mk (show gr ≠ gs by have h1 := HGS.out; have h2 := blk_lt HZ2.out; omega)
    have HSW := Aside0.mk (show w.heap.size ≤ gs by have h1 := HGS.out; have h2 := HG2.out.size; omega)
    have HSW0 := Aside0.mk (show w0.heap.size ≤ gs by have h1 := HSW.out; have h2 := HR.out.old.size; omega)
    have HGW := Aside0.mk (show w.heap.size ≤ gr by rw [HGR.out]; exact Nat.le_refl _)
    have HGW0 := Aside0.mk (show w0.heap.size ≤ gr by have h1 := HGW.out; have h2 := HR.out.old.size; omega)
    go_wp2_with fail
    refine (need_calls w0 A c ts en b HX.out (nameS ts en s).2 (⟨#[91]⟩ : ByteArray) w4 HR4.out).mono ?_
    rintro q w5 ⟨rfl, hr, hg⟩
    have HR5 := Aside0.mk hr
    have HG5 := Aside0.mk (grow_trans HG4.out hg)
    have HZ5 := Aside0.mk ((hg.block gr (blk_lt HZ4.out) (fun e => HNB.out (by injection e))).trans HZ4.out)
    have HS5 := Aside0.mk ((hg.block gs (blk_lt HS4.out) (fun e => HSB.out (by injection e))).trans HS4.out)
    clear hr hg
    go_wp2_with fail
    refine (tok_calls w0 A c ts en b HX.out (needS ts en (nameS ts en s).2 (⟨#[91]⟩ : ByteArray)) w5 HR5.out).mono ?_
    rintro q w6 ⟨rfl, hb⟩
    have HR6 := Aside0.mk (HR5.out.on hb)
    have HG6 := Aside0.mk (grow_trans HG5.out (grown_of_below hb _))
    have HZ6 := Aside0.mk (below_read hb HZ5.out)
    have HS6 := Aside0.mk (below_read hb HS5.out)
    clear hb
    go_wp2_with (first | ((with_reducible refine gate_dst (N := 4) rfl ?_); refine box_event ?hg (N := 4) ?hd (cs := #[.int .i64 0, .string ⟨#[]⟩, .int .i64 0, .int .i64 0]) (t := 86) ?hr ?_; (case hd => rfl); (case hg => rfl); (case hr => first | (go_simp; done) | (go_simp; rfl)); intro gt hgg w7 hlit hb; have HTZ := Aside0.mk hlit; have HBT := Aside0.mk hb; have HGT := Aside0.mk hgg; clear hlit hb hgg) | ((with_reducible refine gate_store (t := 86) (p := 4) rfl ?_); refine put_val ?hg ?hn 86 (.tmp 4) (.tmp 11) ?ho gt 86 _ (#[.int .i64 (tokS ts en (needS ts en (nameS ts en s).2 (⟨#[91]⟩ : ByteArray))).f0, .string (tokS ts en (needS ts en (nameS ts en s).2 (⟨#[91]⟩ : ByteArray))).f1, .int .i64 (tokS ts en (needS ts en (nameS ts en s).2 (⟨#[91]⟩ : ByteArray))).f2, .int .i64 (tokS ts en (needS ts en (nameS ts en s).2 (⟨#[91]⟩ : ByteArray))).f3]) (.agg (#[.int .i64 (tokS ts en (needS ts en (nameS ts en s).2 (⟨#[91]⟩ : ByteArray))).f0, .string (tokS ts en (needS ts en (nameS ts en s).2 (⟨#[91]⟩ : ByteArray))).f1, .int .i64 (tokS ts en (needS ts en (nameS ts en s).2 (⟨#[91]⟩ : ByteArray))).f2, .int .i64 (tokS ts en (needS ts en (nameS ts en s).2 (⟨#[91]⟩ : ByteArray))).f3])) ?hp ?hx ?hu HTZ.out ?ht ?hs ?h1 ?_; (case hg => rfl); (case hn => rfl); (case ho => rfl); (case hp => rfl); (case hx => rfl); (case hu => rfl); (case ht => kernel_rfl); (case hs => rfl); (case h1 => exact tokC_one (tokS ts en (needS ts en (nameS ts en s).2 (⟨#[91]⟩ : ByteArray)))); intro w8 hlit hg; have HTK := Aside0.mk hlit; have HBW2 := Aside0.mk (made_below HGT.out HBT.out hg); have HR8 := Aside0.mk (HR6.out.on HBW2.out); have HG8 := Aside0.mk (grow_trans HG6.out (grown_of_below HBW2.out _)); have HZ8 := Aside0.mk (below_read HBW2.out HZ6.out); have HS8 := Aside0.mk (below_read HBW2.out HS6.out); have h0 : w8.cell? ⟨gt, 0, none⟩ = some (.int .i64 (tokS ts en (needS ts en (nameS ts en s).2 (⟨#[91]⟩ : ByteArray))).f0) := (blk_cell hlit 0).trans rfl; have h2 : w8.cell? ⟨gt, 2, none⟩ = some (.int .i64 (tokS ts en (needS ts en (nameS ts en s).2 (⟨#[91]⟩ : ByteArray))).f2) := (blk_cell hlit 2).trans rfl; clear hlit hg))
    refine (num_calls w0 A c ts en b HX.out (needS ts en (nameS ts en s).2 (⟨#[91]⟩ : ByteArray)) w8 HR8.out).mono ?_
    rintro q w9 ⟨rfl, hr, hg⟩
    have HR9 := Aside0.mk hr
    have HG9 := Aside0.mk (grow_trans HG8.out hg)
    have HZ9 := Aside0.mk ((hg.block gr (blk_lt HZ8.out) (fun e => HNB.out (by injection e))).trans HZ8.out)
    have HS9 := Aside0.mk ((hg.block gs (blk_lt HS8.out) (fun e => HSB.out (by injection e))).trans HS8.out)
    clear hr hg
    have hz10 : w9.cell? ⟨gs, 1, none⟩ = some (.int .i64 0) := (blk_cell HS9.out 1).trans rfl
    have hf10 : w9.frozen? ⟨gs, 1, none⟩ = false := blk_frozen HS9.out 1
    have HS10 := Aside0.mk (show (w9.setCell ⟨gs, 1, none⟩ (.int .i64 (numS ts en (needS ts en (nameS ts en s).2 (⟨#[91]⟩ : ByteArray))).1)).heap[gs]? = some (.cells #[.string (nameS ts en s).1, .int .i64 (numS ts en (needS ts en (nameS ts en s).2 (⟨#[91]⟩ : ByteArray))).1] 61 (0, 0)) from (blk_set HS9.out 1 (.int .i64 (numS ts en (needS ts en (nameS ts en s).2 (⟨#[91]⟩ : ByteArray))).1)).trans rfl)
    have HR10 := Aside0.mk (rd_store2 HX.out HR9.out HSB.out HSW0.out (grow_set w9 gs 1 (.int .i64 (numS ts en (needS ts en (nameS ts en s).2 (⟨#[91]⟩ : ByteArray))).1)))
    have HG10 := Aside0.mk (own_store2 HSW.out HG9.out (grow_set w9 gs 1 (.int .i64 (numS ts en (needS ts en (nameS ts en s).2 (⟨#[91]⟩ : ByteArray))).1)))
    have HZ10 := Aside0.mk (((grow_set w9 gs 1 (.int .i64 (numS ts en (needS ts en (nameS ts en s).2 (⟨#[91]⟩ : ByteArray))).1)).block gr (blk_lt HZ9.out) (fun e => HSG.out (by injection e))).trans HZ9.out)
    go_wp2_with fail
    refine (need_calls w0 A c ts en b HX.out (numS ts en (needS ts en (nameS ts en s).2 (⟨#[91]⟩ : ByteArray))).2 (⟨#[93]⟩ : ByteArray) (w9.setCell ⟨gs, 1, none⟩ (.int .i64 (numS ts en (needS ts en (nameS ts en s).2 (⟨#[91]⟩ : ByteArray))).1)) HR10.out).mono ?_
    rintro q w11 ⟨rfl, hr, hg⟩
    have HR11 := Aside0.mk hr
    have HG11 := Aside0.mk (grow_trans HG10.out hg)
    have HZ11 := Aside0.mk ((hg.block gr (blk_lt HZ10.out) (fun e => HNB.out (by injection e))).trans HZ10.out)
    have HS11 := Aside0.mk ((hg.block gs (blk_lt HS10.out) (fun e => HSB.out (by injection e))).trans HS10.out)
    clear hr hg
    go_wp2_with (first | ((with_reducible refine gate_dst (N := 32) rfl ?_); (try (refine gate_guard (by rfl) ?_; dsimp only)); refine wpList_load_row ?hg 61 (.tmp 3) ?ho gs ?hx 61 _ (0, 0) _ HS11.out Tryd.underlying61 ?hd ?hi ?_; (case hg => rfl); (case ho => rfl); (case hx => rfl); (case hd => rfl); (case hi => kernel_rfl)) | ((with_reducible refine gate_store (t := 61) (p := 2) rfl ?_); refine put_val ?hg ?hn 61 (.tmp 2) (.tmp 32) ?ho gr 61 _ (#[.string (nameS ts en s).1, .int .i64 (numS ts en (needS ts en (nameS ts en s).2 (⟨#[91]⟩ : ByteArray))).1]) (.agg (#[.string (nameS ts en s).1, .int .i64 (numS ts en (needS ts en (nameS ts en s).2 (⟨#[91]⟩ : ByteArray))).1])) ?hp ?hx ?hu HZ11.out ?ht ?hs ?h1 ?_; (case hg => rfl); (case hn => rfl); (case ho => rfl); (case hp => rfl); (case hx => rfl); (case hu => rfl); (case ht => kernel_rfl); (case hs => rfl); (case h1 => exact pair_one _ _); intro w99 hlit hg; have HT := Aside0.mk hlit; have HGZ := Aside0.mk hg; have HOW := Aside0.mk (own_store2 HGW.out HG11.out hg); have HRZ := Aside0.mk (rd_store2 HX.out HR11.out HNB.out HGW0.out hg); clear hlit hg))
    (try simp only [Exit.inBlock, Exit.then])
    refine bodyPost_ret (results_cell_row rfl _ _ gr 61 _ (0, 0) _ rfl HT.out Tryd.underlying61 rfl (by kernel_rfl)) rfl ?_
    exact ⟨rfl, HRZ.out, HOW.out⟩
end Go.Proofs.YtfeaekdhpkdljaaDoor.Rd
namespace Go.Proofs.YtfeaekdhpkdljaaDoor.Rd
open Go.RowKit Go.Proofs.YtfeaekdhpkdljaaDoorW.PrintWords Go.Proofs.YtfeaekdhpkdljaaDoorW.PrintLast Go.Proofs.YtfeaekdhpkdljaaDoor.Sh
set_option linter.unusedVariables false
set_option linter.unusedSimpArgs false
def locL (ts : List S86) (en : Int) : Nat → List ByteArray → Rs → Option (List ByteArray × Rs)
  | 0, _, _ => none
  | n + 1, l, s => if isS ts en s (⟨#[108, 111, 99, 97, 108]⟩ : ByteArray) = true then locL ts en n (l ++ [(nameS ts en (fullS ts en (stepS s) l.length 6)).1]) (needS ts en (nameS ts en (fullS ts en (stepS s) l.length 6)).2 (⟨#[59]⟩ : ByteArray)) else some (l, s)
def thrF (ts : List S86) (en : Int) (n : Nat) (s : Rs) : Option (S52 × Rs) :=
  (locL ts en n [] (needS ts en (nameS ts en s).2 (⟨#[123]⟩ : ByteArray))).bind fun r => (blockL ts en n [] r.2 0).bind fun q => some (⟨(nameS ts en s).1, r.1, q.1⟩, needS ts en q.2 (⟨#[125]⟩ : ByteArray))
theorem thr_one (a : ByteArray) (A B : Option Addr) (n m k l : Nat) : ∀ q ∈ (#[.string a, .slice A n m, .slice B k l] : Array Value).toList, q.oneCell' = true := by
  intro q hq
  simp only [List.mem_cons, List.not_mem_nil, or_false] at hq
  rcases hq with h | h | h <;> subst h <;> rfl
theorem infoNm : (Tryd.prog.info? 9).map (fun i => (i.zero, i.size, i.bytes)) = some (some (.string ⟨#[]⟩), 1, 16) := by kernel_rfl
/-- A row whose elements lead nowhere keeps its own block alone in sight. -/
theorem N_flat {α : Type} {d : Kd α} (flat : ∀ w w' x c, d.K w x c → d.K w' x c) {e base : Nat} {w : World} {ok : Nat → Prop} {v : Value} {xs : List α} (h : Kd.N d e w base ok v xs) : Kd.N d e w base (fun k => some k = v.ownBlock) v xs := by
  obtain ⟨h0, rows, hl, hR, hf⟩ := h
  exact ⟨fun k hk => hk.symm, rows, hl, hR, fun j x c hx hc => fun W' _ => flat _ _ x c (Kd.FK_now (hf j x c hx hc))⟩
theorem keep_typed {w1 w2 : World} {b e t : Nat} {v : Value} {c : Array Value} (hc : w1.heap[b]? = some (.cells c t (0, 0))) (hv : ∀ k, v.ownBlock = some k → ∃ cells, w1.heap[k]? = some (.cells cells e (0, 0))) (he : e ≠ t) (hg : w1.grownBy w2 v.ownBlock) : w2.heap[b]? = some (.cells c t (0, 0)) := by
  rw [hg.block b (blk_lt hc) (fun e1 => ?_)]
  · exact hc
  · obtain ⟨c2, h2⟩ := hv b e1.symm
    exact typed_ne h2 hc he rfl
section
variable {P : Program} {ops : Array Oper} {o : Oper} {a : Act} {Q : Exit → Act → World → Prop} {Kc : Act → World → Prop}
/-- A value stored at a place within a block, in a region that draws. -/
theorem put_at_step {W : World} (hw : Region.wanted o (yielded ops a.tmps) = true) (hN : o.dst = none) (t : TypeId) (p x : Operand) (ho : o.op = .store t p x) (g off : Nat) (e : TypeId) (cur seg new : Array Value) (v : Value)
    (hp : a.eval p = .pointer (some ⟨g, off, none⟩)) (hx : a.eval x = v) (hu : v.cells = seg) (hh : W.heap[g]? = some (.cells cur e (0, 0))) (ht : (P.info? t).map (·.size) = some seg.size)
    (hs : off + seg.size ≤ cur.size) (hn : cur.toList.take off ++ seg.toList ++ cur.toList.drop (off + seg.size) = new.toList) (h1 : ∀ q ∈ seg.toList, q.oneCell' = true)
    (h : ∀ w', w'.heap[g]? = some (.cells new e (0, 0)) → W.grownBy w' (some g) → Kc a w') : if Region.wanted o (yielded ops a.tmps) = true then Oper.wp P o a W Kc Q else Kc (a.put none undef) W := by
  have hrun : (Instr.storeAt t (.pointer (some ⟨g, off, none⟩)) v).run P W = .ok () (W.setCells g off seg.toList) :=
    run_store_run t v seg.toList hh (by rw [hu]) (by rw [Array.length_toList]; exact ht) (by rw [Array.length_toList]; omega) h1
  refine skip_ hw hN (w1 := W.setCells g off seg.toList) ?_ (h _ ?_ ?_)
  · unfold execOp
    simp only [ho, hp, hx, Sem.run_bind, Sem.run_pure, Result.andThen_ok, hrun]
  · obtain ⟨cur', h3, h4, h5⟩ := setCells_row seg.toList off W cur hh (by rw [Array.length_toList]; omega)
    rw [h3]
    have : cur' = new := by
      apply Array.toList_inj.1
      rw [h5, ← hn, Array.length_toList]
    rw [this]
  · obtain ⟨s1, s2, s3, s4⟩ := setCells_same g seg.toList off W
    exact ⟨s1, s2, s3, by rw [s4]; exact Nat.le_refl _, fun k _ hk => setCells_far seg.toList off k (fun e => hk (by rw [e]))⟩
end
/-- A thread's rows, in blocks from 'base' on. -/
structure Tx (base : Nat) (x : S52) (A : Option Addr) (c : Nat) (B : Option Addr) (d : Nat) (w : World) : Prop where
  c1 : x.f1.length ≤ c
  r1 : Kd.F Kd.string w (fun k => base ≤ k) A x.f1.length x.f1
  c2 : x.f2.length ≤ d
  r2 : Kd.F k54 w (fun k => base ≤ k) B x.f2.length x.f2
section
variable {base base' b g : Nat} {x : S52} {A B : Option Addr} {c d : Nat} {w w' w1 w2 : World}
theorem Tx.grown (h : Tx base x A c B d w) (hb : b < base) (hg : w.grownBy w' (some b)) : Tx base x A c B d w' :=
  ⟨h.c1, F_on h.r1 (fun k hk hl => hg.block k hl (fun e => by injection e with e; omega)) hg.size, h.c2, F_on h.r2 (fun k hk hl => hg.block k hl (fun e => by injection e with e; omega)) hg.size⟩
theorem Tx.on (h : Tx base x A c B d w) (hb : Below w.heap.size w w') : Tx base x A c B d w' := ⟨h.c1, F_on h.r1 (fun k _ hl => hb.block k hl) hb.size, h.c2, F_on h.r2 (fun k _ hl => hb.block k hl) hb.size⟩
theorem Tx.less (h : Tx base x A c B d w) (hb : base' ≤ base) : Tx base' x A c B d w := ⟨h.c1, F_mono h.r1 (fun k hk _ => Nat.le_trans hb hk), h.c2, F_mono h.r2 (fun k hk _ => Nat.le_trans hb hk)⟩
theorem Tx.FK (h : Tx base x A c B d w) : Kd.FK k52 w (fun k => base ≤ k) x [.string x.f0, .slice A x.f1.length c, .slice B x.f2.length d] := k52_mkF w _ x h.c1 h.r1 h.c2 h.r2
end
/-- Where the thread under construction lies: blocks gr (the result's) and gs (its own). -/
structure Tq (w0 w : World) (b gr gs : Nat) : Prop where
  bw : b < w.heap.size
  ow : w0.heap.size ≤ w.heap.size
  hr : w.heap.size ≤ gr
  hs : w.heap.size ≤ gs
  ne : gr ≠ gs
structure Tw (w0 : World) (A : Option Addr) (c : Nat) (ts : List S86) (en : Int) (b : Nat) (w : World) (gr gs : Nat) (nm : ByteArray) (s : Rs) (vL : Value) (ls : List ByteArray) (vB : Value) (l : List S54) (wr : World) : Prop where
  rd : Rd w0 A c ts en b s wr
  gb : w.grownBy wr (some b)
  zr : wr.heap[gr]? = some (.cells #[.string ⟨#[]⟩, .slice none 0 0, .slice none 0 0] 52 (0, 0))
  cs : wr.heap[gs]? = some (.cells #[.string nm, vL, vB] 52 (0, 0))
  nL : Kd.N Kd.string 9 wr w.heap.size (fun k => some k = vL.ownBlock) vL ls
  nB : Kd.N k54 54 wr w.heap.size (fun k => w.heap.size ≤ k ∧ k ≠ gs ∧ k ≠ gr) vB l
section
variable {w0 w wr w1 w2 : World} {A : Option Addr} {c b gr gs : Nat} {ts : List S86} {en : Int} {nm x : ByteArray} {s s' : Rs} {vL vB v1 : Value} {ls : List ByteArray} {l l' : List S54}
theorem Tw.call (H : Tw w0 A c ts en b w gr gs nm s vL ls vB l wr) (q : Tq w0 w b gr gs) (hr : Rd w0 A c ts en b s' w1) (hg : wr.grownBy w1 (some b)) : Tw w0 A c ts en b w gr gs nm s' vL ls vB l w1 :=
  ⟨hr, grow_trans H.gb hg, (hg.block gr (blk_lt H.zr) (fun e => by injection e with e; have := q.hr; have := q.bw; omega)).trans H.zr, (hg.block gs (blk_lt H.cs) (fun e => by injection e with e; have := q.hs; have := q.bw; omega)).trans H.cs,
   Kd.N_step H.nL (fun k hk hl => hg.block k hl (fun e => by injection e with e; have := Kd.N_base H.nL k hk.symm; have := q.bw; omega)), Kd.N_step H.nB (fun k hk hl => hg.block k hl (fun e => by injection e with e; have := hk.1; have := q.bw; omega))⟩
theorem Tw.on (H : Tw w0 A c ts en b w gr gs nm s vL ls vB l wr) (hb : Below wr.heap.size wr w1) : Tw w0 A c ts en b w gr gs nm s vL ls vB l w1 :=
  ⟨H.rd.on hb, grow_trans H.gb (grown_of_below hb _), below_read hb H.zr, below_read hb H.cs, Kd.N_below H.nL hb, Kd.N_below H.nB hb⟩
theorem Tw.keepL (H : Tw w0 A c ts en b w gr gs nm s vL ls vB l wr) (hg : wr.grownBy w1 vL.ownBlock) : w1.heap[gs]? = some (.cells #[.string nm, vL, vB] 52 (0, 0)) := keep_typed H.cs (Kd.N_typed H.nL) (by decide) hg
theorem Tw.keepB (H : Tw w0 A c ts en b w gr gs nm s vL ls vB l wr) (hg : wr.grownBy w1 vB.ownBlock) : w1.heap[gs]? = some (.cells #[.string nm, vL, vB] 52 (0, 0)) := keep_typed H.cs (Kd.N_typed H.nB) (by decide) hg
/-- One more local. -/
theorem Tw.pushL (hX : Ctx w0 A c ts b) (h0 : Rd w0 A c ts en b s' w) (H : Tw w0 A c ts en b w gr gs nm s vL ls (.slice none 0 0) [] wr) (q : Tq w0 w b gr gs) (HN : Kd.N Kd.string 9 w1 w.heap.size (fun _ => True) v1 (ls ++ [x])) (hg : wr.grownBy w1 vL.ownBlock)
    (hc : w2.heap[gs]? = some (.cells #[.string nm, v1, (.slice none 0 0)] 52 (0, 0))) (hs : w1.grownBy w2 (some gs)) : Tw w0 A c ts en b w gr gs nm s v1 (ls ++ [x]) (.slice none 0 0) [] w2 := by
  have hb := Kd.N_base H.nL
  have hcs := H.keepL hg
  have hF := N_flat (fun _ _ _ _ h => h) HN
  refine ⟨rd_store2 hX (rd_row H.rd h0 hb hg) (fun e => by have := q.hs; have := q.bw; omega) (Nat.le_trans q.ow q.hs) hs, own_store2 q.hs (own_row hb H.gb hg) hs, (hs.block gr (Nat.lt_of_lt_of_le (blk_lt H.zr) hg.size) (fun e => q.ne (by injection e))).trans (keep_typed H.zr (Kd.N_typed H.nL) (by decide) hg), hc, ?_, Kd.N_nil ..⟩
  refine Kd.N_step hF (fun k hk hl => hs.block k hl (fun e => ?_))
  injection e with e
  obtain ⟨c2, h2⟩ := Kd.N_typed hF k hk.symm
  exact typed_ne h2 hcs (by decide) e
/-- One more statement. -/
theorem Tw.pushB (hX : Ctx w0 A c ts b) (h0 : Rd w0 A c ts en b s' w) (H : Tw w0 A c ts en b w gr gs nm s vL ls vB l wr) (q : Tq w0 w b gr gs) (HN : Kd.N k54 54 w1 w.heap.size (fun k => w.heap.size ≤ k ∧ k ≠ gs ∧ k ≠ gr) v1 l') (hg : wr.grownBy w1 vB.ownBlock)
    (hc : w2.heap[gs]? = some (.cells #[.string nm, vL, v1] 52 (0, 0))) (hs : w1.grownBy w2 (some gs)) : Tw w0 A c ts en b w gr gs nm s vL ls v1 l' w2 := by
  have hb := Kd.N_base H.nB
  have hcs := H.keepB hg
  refine ⟨rd_store2 hX (rd_row H.rd h0 hb hg) (fun e => by have := q.hs; have := q.bw; omega) (Nat.le_trans q.ow q.hs) hs, own_store2 q.hs (own_row hb H.gb hg) hs, (hs.block gr (Nat.lt_of_lt_of_le (blk_lt H.zr) hg.size) (fun e => q.ne (by injection e))).trans (keep_typed H.zr (Kd.N_typed H.nB) (by decide) hg), hc, ?_, Kd.N_step HN (fun k hk hl => hs.block k hl (fun e => hk.2.1 (by injection e)))⟩
  refine Kd.N_step H.nL (fun k hk hl => ?_)
  obtain ⟨c2, h2⟩ := Kd.N_typed H.nL k hk.symm
  rw [hs.block k (Nat.lt_of_lt_of_le hl hg.size) (fun e => typed_ne h2 H.cs (by decide) (by injection e))]
  refine hg.block k hl (fun e => ?_)
  obtain ⟨c3, h3⟩ := Kd.N_typed H.nB k e.symm
  exact typed_ne h2 h3 (by decide) rfl
/-- Read, behind the last store into the result's block. -/
theorem Tw.tx {AL AB : Option Addr} {cL cB : Nat} (H : Tw w0 A c ts en b w gr gs nm s (.slice AL ls.length cL) ls (.slice AB l.length cB) l wr) (hs : wr.grownBy w1 (some gr)) : Tx w.heap.size ⟨nm, ls, l⟩ AL cL AB cB w1 := by
  refine ⟨(Kd.N_reads' H.nL).2.1, ?_, (Kd.N_reads' H.nB).2.1, ?_⟩
  · refine F_on (F_mono (ok' := fun k => w.heap.size ≤ k ∧ k ≠ gr) (Kd.N_F H.nL) (fun k hk hl => ⟨Kd.N_base H.nL k hk.symm, ?_⟩)) (fun k hk hl => hs.block k hl (fun e => hk.2 (by injection e))) hs.size |> fun h => F_mono h (fun k hk _ => hk.1)
    obtain ⟨c2, h2⟩ := Kd.N_typed H.nL k hk.symm
    exact typed_ne h2 H.zr (by decide)
  · exact F_mono (F_on (Kd.N_F H.nB) (fun k hk hl => hs.block k hl (fun e => hk.2.2 (by injection e))) hs.size) (fun k hk _ => hk.1)
end
set_option maxHeartbeats 8000000 in
set_option maxRecDepth 100000 in
/-- The reader's thread answers thrF, with as much fuel as that has. -/
theorem thread_calls (w0 : World) (A : Option Addr) (c : Nat) (ts : List S86) (en : Int) (b : Nat) (hX : Ctx w0 A c ts b) (n : Nat) (hn : n ≤ 1000000000) (s : Rs) (w : World) (r : S52 × Rs) (h : Rd w0 A c ts en b s w) (hF : thrF ts en n s = some r) :
    Calls Tryd.prog 35 #[.pointer (some ⟨b, 0, none⟩)] w fun q w' => ∃ AL cL AB cB, q = .returned (.agg #[.string r.1.f0, .slice AL r.1.f1.length cL, .slice AB r.1.f2.length cB]) ∧ Tx w.heap.size r.1 AL cL AB cB w' ∧ Rd w0 A c ts en b r.2 w' ∧ w.grownBy w' (some b) := by
  have HX := Aside0.mk hX
  have HR := Aside0.mk h
  unfold thrF at hF
  obtain ⟨rl, hrl, hF⟩ := Option.bind_eq_some_iff.1 hF
  obtain ⟨rb, hrb, hF⟩ := Option.bind_eq_some_iff.1 hF
  obtain rfl := Option.some.inj hF
  clear hF h hX
  go_enter Tryd.func35, Tryd.ntmps35
  go_wp2_with (first | ((with_reducible refine gate_dst (N := 2) rfl ?_); refine box_event ?hg (N := 2) ?hd (cs := #[.string ⟨#[]⟩, .slice none 0 0, .slice none 0 0]) (t := 52) ?hr ?_; (case hd => rfl); (case hg => rfl); (case hr => first | (go_simp; done) | (go_simp; rfl)); intro gr hgg w1 hlit hb; have HZ1 := Aside0.mk hlit; have HB1 := Aside0.mk hb; have HGR := Aside0.mk hgg; clear hlit hb hgg))
  have HNB := Aside0.mk (show gr ≠ b by have h1 := HGR.out; have h2 := blk_lt HR.out.blk; omega)
  refine (name_calls w0 A c ts en b HX.out s w1 (HR.out.on HB1.out)).mono ?_
  rintro q w2 ⟨rfl, hr, hg⟩
  have HR2 := Aside0.mk hr
  have HG2 := Aside0.mk (grow_trans (grown_of_below HB1.out (some b)) hg)
  have HZ2 := Aside0.mk ((hg.block gr (blk_lt HZ1.out) (fun e => HNB.out (by injection e))).trans HZ1.out)
  clear hr hg
  go_wp2_with (first | ((with_reducible refine gate_dst (N := 3) rfl ?_); refine box_event ?hg (N := 3) ?hd (cs := #[.string ⟨#[]⟩, .slice none 0 0, .slice none 0 0]) (t := 52) ?hr ?_; (case hd => rfl); (case hg => rfl); (case hr => first | (go_simp; done) | (go_simp; rfl)); intro gs hgg w3 hlit hb; have HXZ := Aside0.mk hlit; have HBX := Aside0.mk hb; have HGS := Aside0.mk hgg; clear hlit hb hgg) | ((with_reducible refine gate_store (t := 52) (p := 3) rfl ?_); refine put_val ?hg ?hn 52 (.tmp 3) (.tmp 6) ?ho gs 52 _ (#[.string (nameS ts en s).1, .slice none 0 0, .slice none 0 0]) (.agg (#[.string (nameS ts en s).1, .slice none 0 0, .slice none 0 0])) ?hp ?hx ?hu HXZ.out ?ht ?hs ?h1 ?_; (case hg => rfl); (case hn => rfl); (case ho => rfl); (case hp => rfl); (case hx => rfl); (case hu => rfl); (case ht => kernel_rfl); (case hs => rfl); (case h1 => exact thr_one _ _ _ _ _ _ _); intro w4 hlit hg; have HS4 := Aside0.mk hlit; have HBW := Aside0.mk (made_below HGS.out HBX.out hg); have HR4 := Aside0.mk (HR2.out.on HBW.out); have HG4 := Aside0.mk (grow_trans HG2.out (grown_of_below HBW.out _)); have HZ4 := Aside0.mk (below_read HBW.out HZ2.out); have HQ := Aside0.mk (Tq.mk (blk_lt HR.out.blk) HR.out.old.size (show w.heap.size ≤ gr by rw [HGR.out]; exact Nat.le_refl _) (show w.heap.size ≤ gs by have h1 := HGS.out; have h2 := HG2.out.size; omega) (show gr ≠ gs by have h1 := HGS.out; have h2 := blk_lt HZ2.out; omega)); have HL4 := Aside0.mk (Tw.mk HR4.out HG4.out HZ4.out HS4.out (Kd.N_nil Kd.string 9 w4 w.heap.size _) (Kd.N_nil k54 54 w4 w.heap.size _)); clear HS4 HR4 HG4 HZ4; clear hlit hg))
  have HN1 := Aside0.mk (need_calls w0 A c ts en b HX.out (nameS ts en s).2 (⟨#[123]⟩ : ByteArray) w4 HL4.out.rd)
  go_wp2_with fail
  refine HN1.out.mono ?_
  rintro q w5 ⟨rfl, hr, hg⟩
  have HL5 := Aside0.mk (HL4.out.call HQ.out hr hg)
  clear hr hg HN1 HL4
  go_upto_block 0 with fail
  go_cut [] (fun wx => ∃ vL, Aside0 (Tw w0 A c ts en b w gr gs (nameS ts en s).1 rl.2 vL rl.1 (.slice none 0 0) [] wx))
  case first =>
    go_wp2_with fail
    go_loopg [] n (fun gg wr => ∃ (k : Nat) (ls : List ByteArray) (s1 : Rs) (vL : Value), k ≤ gg ∧ ls.length + k ≤ n ∧ Aside0 (locL ts en k ls s1 = some rl) ∧ Aside0 (Tw w0 A c ts en b w gr gs (nameS ts en s).1 s1 vL ls (.slice none 0 0) [] wr))
    case atStart => exact ⟨n, [], _, _, Nat.le_refl _, by simp, ⟨hrl⟩, HL5⟩
    case round =>
      clear HL5
      obtain ⟨k, ls, s1, vL, hgg, hkn, HKF, HL20⟩ := hrel
      generalize wr = w20 at *
      obtain ⟨AL, cL, rfl⟩ := Kd.N_slice HL20.out.nL
      have hk := HKF.out
      clear HKF
      cases k with
      | zero => simp [locL] at hk
      | succ k =>
      simp only [locL] at hk
      have h3 : w20.cell? ⟨b, 3, none⟩ = some (.int .i64 s1.e) := (blk_cell HL20.out.rd.blk 3).trans rfl
      by_cases k1 : isS ts en s1 (⟨#[108, 111, 99, 97, 108]⟩ : ByteArray) = true
      · rw [if_pos k1] at hk
        have e1 : (s1.e == 0) = true := beq_iff_eq.mpr (isS_e k1)
        have B1 := Aside0.mk k1
        have HK := Aside0.mk hk
        clear hk k1
        have HT21 := Aside0.mk (take_calls w0 A c ts en b HX.out s1 (⟨#[108, 111, 99, 97, 108]⟩ : ByteArray) w20 HL20.out.rd)
        unfold takeS at HT21
        rw [B1.out, if_pos rfl] at HT21
        go_wp2_with fail
        refine HT21.out.mono ?_
        rintro q w21 ⟨rfl, hr, hg⟩
        have HL21 := Aside0.mk (HL20.out.call HQ.out hr hg)
        clear hr hg HT21
        have hy1 : w21.cell? ⟨gs, 1, none⟩ = some (.slice AL ls.length cL) := (blk_cell HL21.out.cs 1).trans rfl
        go_wp2_with fail
        refine (full_calls w0 A c ts en b HX.out (stepS s1) (ls.length : Int) 6 w21 HL21.out.rd).mono ?_
        rintro q w22 ⟨rfl, hr, hg⟩
        have HL22 := Aside0.mk (HL21.out.call HQ.out hr hg)
        have HD := Aside0.mk (HL22.out.on (below_drew (Below.refl _ _)))
        clear hr hg
        go_upto_region 5 with fail
        refine start_ (n := 8) (S := fun w' => w'.cell? ⟨gs, 1, none⟩ = some (.slice AL ls.length cL)) (ds := [7]) #[false, false, false, false, false, false, false, false] (by kernel_rfl) rfl rfl ((blk_cell HD.out.cs 1).trans rfl) (fun hHeld => ?_)
        refine pure_ (i := 0) (N := some 23) (v := ?_) (a' := ?_) #[true, false, false, false, false, false, false, false] rfl rfl (by kernel_rfl) (fun _ _ _ h => h) (Or.inl ⟨by rfl, ?_⟩) ?_ ?_
        rotate_left
        · intro w'
          go_simp
          with_reducible rfl
        rotate_left
        · simp only [Act.put, List.setIfInBounds_toArray, List.set_cons_zero, List.set_cons_succ, i64_w, i32_w]
          rfl
        refine pure_ (i := 2) (N := some 25) (v := ?_) (a' := ?_) #[true, false, true, false, false, false, false, false] rfl rfl (by kernel_rfl) (fun _ _ _ h => h) (Or.inl ⟨by rfl, ?_⟩) ?_ ?_
        rotate_left
        · intro w'
          go_simp
          with_reducible rfl
        rotate_left
        · simp only [Act.put, List.setIfInBounds_toArray, List.set_cons_zero, List.set_cons_succ, i64_w, i32_w]
          rfl
        refine take_ (i := 1) (N := some 24) (v := ?_) (a' := ?_) #[true, true, true, false, false, false, false, false] rfl rfl (by kernel_rfl) (fun _ _ _ h => h) (Or.inl ⟨by rfl, ?_⟩) hHeld ?_ ?_
        rotate_left
        · intro w' s0
          go_simp
          with_reducible rfl
        rotate_left
        · simp only [Act.put, List.setIfInBounds_toArray, List.set_cons_zero, List.set_cons_succ, i64_w, i32_w]
          rfl
        refine one_ (i := 3) (N := some 26) #[true, true, true, true, false, false, false, false] rfl rfl (by kernel_rfl) (by decide) (fun K hK => ?_)
        refine goes_ Tryd.func52 (by kernel_rfl) rfl #[.pointer (some ⟨b, 0, none⟩)] (by rfl) rfl rfl (by simp only [List.map_toArray, List.map_cons, List.map_nil, Act.eval]; rfl) ?_
        refine (name_calls w0 A c ts en b HX.out (fullS ts en (stepS s1) (ls.length : Int) 6) w22.drew HD.out.rd).mono ?_
        rintro q v3 ⟨rfl, hr, hg⟩
        have HL3 := Aside0.mk (HD.out.call HQ.out hr hg)
        clear hr hg
        refine ⟨_, rfl, ?_⟩
        refine hK.out _ _ ((blk_cell HL3.out.cs 1).trans rfl) (fun hHeld => ?_)
        clear hK K
        refine norm_ (a' := ?_) ?_ ?_
        rotate_left
        · show Act.put _ (some 26) _ = _
          simp only [Act.put, List.setIfInBounds_toArray, List.set_cons_zero, List.set_cons_succ, i64_w, i32_w]
          rfl
        refine one_ (i := 4) (N := some 27) #[true, true, true, true, true, false, false, false] rfl rfl (by kernel_rfl) (by decide) (fun K hK => ?_)
        refine lit_step (n := 1) (by rfl) (N := 27) rfl (cs := #[.string (nameS ts en (fullS ts en (stepS s1) (ls.length : Int) 6)).1]) (t := 9) ?hr ?_
        case hr => first | (go_simp; done) | (go_simp; rfl)
        intro g hgg v4 hlit hb
        have HGB := Aside0.mk hlit
        have HNE := Aside0.mk (show ∀ k, Value.ownBlock (.slice AL ls.length cL) = some k → g ≠ k from fun k hk => by have := Kd.N_lt HL3.out.nL k hk; omega)
        have HL4 := Aside0.mk (HL3.out.on hb)
        clear hlit hgg hb
        refine hK.out _ _ ((blk_cell HL4.out.cs 1).trans rfl) (fun hHeld => ?_)
        clear hK K
        refine norm_ (a' := ?_) ?_ ?_
        rotate_left
        · show Act.put _ (some 27) _ = _
          simp only [Act.put, List.setIfInBounds_toArray, List.set_cons_zero, List.set_cons_succ, i64_w, i32_w]
          rfl
        refine one_ (i := 5) (N := some 28) #[true, true, true, true, true, true, false, false] rfl rfl (by kernel_rfl) (by decide) (fun K hK => ?_)
        refine Kd.N_append_rows_step Kd.string (w0 := v4) w.heap.size (by rfl) (.tmp 24) (.tmp 27) 24 9 (.string ⟨#[]⟩) 16 ?ho ?ht ?hi ?hz ?h0 ?hb0 (.slice AL ls.length cL) ls [(nameS ts en (fullS ts en (stepS s1) (ls.length : Int) 6)).1] (some ⟨g, 0, none⟩) 1 1 (fun _ => True) (fun k => False ∨ k = g) ?hs ?hx ?hN ?hF ?hk ?hf ?hB ?hbase ?hl ?_
        case ho => rfl
        case ht => exact Tryd.underlying24
        case hi => exact infoNm
        case hz => rfl
        case h0 => decide
        case hb0 => decide
        case hs => rfl
        case hx => rfl
        case hN => exact Kd.N_mono HL4.out.nL (fun _ _ => trivial)
        case hF => exact F_one Kd.string (fun _ _ => rfl) rfl HGB.out
        case hk => exact fun k hk => ⟨trivial, fun e => hk.elim id (fun e2 => HNE.out k e.symm e2.symm)⟩
        case hf => exact fun _ _ => trivial
        case hB => exact Below.refl _ _
        case hbase => exact HL4.out.gb.size
        case hl => omega
        intro v1 v5 hn hb2 hg2 hat
        have HC5 := Aside0.mk (HL4.out.keepL hg2)
        have HN5 := Aside0.mk hn
        have HG5 := Aside0.mk hg2
        have HV5 := Aside0.mk (show v1.cells = #[v1] from Array.toList_inj.1 (Kd.N_val hn).1)
        have HO5 := Aside0.mk (show ∀ q ∈ (#[v1] : Array Value).toList, q.oneCell' = true from fun q hq => by simp only [List.mem_cons, List.not_mem_nil, or_false] at hq; rw [hq]; exact (Kd.N_val hn).2)
        clear hn hb2 hg2 hat
        refine hK.out _ _ ((blk_cell HC5.out 1).trans rfl) (fun hHeld => ?_)
        clear hK K
        refine norm_ (a' := ?_) ?_ ?_
        rotate_left
        · show Act.put _ (some 28) _ = _
          simp only [Act.put, List.setIfInBounds_toArray, List.set_cons_zero, List.set_cons_succ, i64_w, i32_w]
          rfl
        refine pure_ (i := 6) (N := some 29) (v := ?_) (a' := ?_) #[true, true, true, true, true, true, true, false] rfl rfl (by kernel_rfl) (fun _ _ _ h => h) (Or.inl ⟨by rfl, ?_⟩) ?_ ?_
        rotate_left
        · intro w'
          go_simp
          with_reducible rfl
        rotate_left
        · simp only [Act.put, List.setIfInBounds_toArray, List.set_cons_zero, List.set_cons_succ, i64_w, i32_w]
          rfl
        refine last_ (i := 7) (N := none) #[true, true, true, true, true, true, true, true] rfl rfl (by kernel_rfl) (by decide) (fun K hK => ?_)
        refine put_at_step (by rfl) rfl 24 (.tmp 29) (.tmp 28) ?ho gs 1 52 _ (#[v1]) (#[.string (nameS ts en s).1, v1, .slice none 0 0]) v1 ?hp ?hx HV5.out HC5.out ?ht ?hs ?hn HO5.out ?_
        case ho => rfl
        case hp => rfl
        case hx => rfl
        case ht => kernel_rfl
        case hs => simp
        case hn => rfl
        intro v6 hlit hg
        have HL6 := Aside0.mk (Tw.pushL HX.out HR.out HL4.out HQ.out HN5.out HG5.out hlit hg)
        clear hlit hg
        refine hK.out _ _ ?_
        clear hK K
        refine done_ (by kernel_rfl) ?_
        have HN9 := Aside0.mk (need_calls w0 A c ts en b HX.out _ (⟨#[59]⟩ : ByteArray) v6 HL6.out.rd)
        go_wp2_with fail
        refine HN9.out.mono ?_
        rintro q w23 ⟨rfl, hr, hg⟩
        have HL23 := Aside0.mk (HL6.out.call HQ.out hr hg)
        clear hr hg
        go_wp2_with fail
        go_roundg k
        case measure => omega
        case rel => exact ⟨k, _, _, v1, Nat.le_refl _, by rw [List.length_append, List.length_singleton]; omega, HK, HL23⟩
      · rw [if_neg k1] at hk
        have hk := Option.some.inj hk
        subst hk
        have B1 := Aside0.mk (Bool.eq_false_iff.2 k1)
        clear k1
        by_cases ke : s1.e = 0
        · have e1 : (s1.e == 0) = true := beq_iff_eq.mpr ke
          clear ke
          have HT21 := Aside0.mk (take_calls w0 A c ts en b HX.out s1 (⟨#[108, 111, 99, 97, 108]⟩ : ByteArray) w20 HL20.out.rd)
          unfold takeS at HT21
          rw [B1.out, if_neg (by decide)] at HT21
          go_wp2_with fail
          refine HT21.out.mono ?_
          rintro q w21 ⟨rfl, hr, hg⟩
          have HL21 := Aside0.mk (HL20.out.call HQ.out hr hg)
          clear hr hg HT21
          go_wp2_with fail
          go_meet
          exact ⟨_, HL21⟩
        · have e1 : (s1.e == 0) = false := beq_eq_false_iff_ne.mpr ke
          clear ke
          go_wp2_with fail
          go_meet
          exact ⟨_, HL20⟩
  case rest =>
    clear HL5 hrl
    have HC := hcut
    clear hcut
    obtain ⟨vL, HL30⟩ := HC
    generalize wc = w30 at *
    obtain ⟨AL, cL, rfl⟩ := Kd.N_slice HL30.out.nL
    obtain ⟨ls, sl⟩ := rl
    go_upto_block 2 with fail
    go_cut [] (fun wx => ∃ vB, Aside0 (Tw w0 A c ts en b w gr gs (nameS ts en s).1 rb.2 (.slice AL ls.length cL) ls vB rb.1 wx))
    case first =>
      go_wp2_with fail
      go_loopg [] n (fun gg wr => ∃ (k : Nat) (l : List S54) (s1 : Rs) (vB : Value), k ≤ gg ∧ l.length + k ≤ n ∧ Aside0 (blockL ts en k l s1 0 = some rb) ∧ Aside0 (Tw w0 A c ts en b w gr gs (nameS ts en s).1 s1 (.slice AL ls.length cL) ls vB l wr))
      case atStart => exact ⟨n, [], _, _, Nat.le_refl _, by simp, ⟨hrb⟩, HL30⟩
      case round =>
        clear HL30
        obtain ⟨k, l, s1, vB, hgg, hkn, HKF, HL40⟩ := hrel
        generalize wr = w40 at *
        obtain ⟨AB, cB, rfl⟩ := Kd.N_slice HL40.out.nB
        have hk := HKF.out
        clear HKF
        cases k with
        | zero => simp [blockL] at hk
        | succ k =>
        simp only [blockL] at hk
        have h3 : w40.cell? ⟨b, 3, none⟩ = some (.int .i64 s1.e) := (blk_cell HL40.out.rd.blk 3).trans rfl
        by_cases ke : s1.e = 0
        · have e1 : (s1.e == 0) = true := beq_iff_eq.mpr ke
          have HI := Aside0.mk (is_calls w0 A c ts en b HX.out s1 (⟨#[125]⟩ : ByteArray) w40 HL40.out.rd)
          by_cases k1 : isS ts en s1 (⟨#[125]⟩ : ByteArray) = false
          · rw [if_pos ⟨ke, k1⟩] at hk
            obtain ⟨r1, hr1, hk⟩ := Option.bind_eq_some_iff.1 hk
            have HU := Aside0.mk (fun (W : World) (hR : Rd w0 A c ts en b s1 W) => rdstmt_calls w0 A c ts en b HX.out k s1 0 W r1 hR (Int.le_refl _) (by omega) hr1)
            have HK := Aside0.mk hk
            rw [k1] at HI
            clear hk hr1 ke k1
            go_wp2_with fail
            refine HI.out.mono ?_
            rintro q w41 ⟨rfl, hb⟩
            have HL41 := Aside0.mk (HL40.out.on hb)
            have HD := Aside0.mk (HL41.out.on (below_drew (Below.refl _ _)))
            clear hb
            go_upto_region 8 with fail
            refine start_ (n := 8) (S := fun w' => w'.cell? ⟨gs, 2, none⟩ = some (.slice AB l.length cB)) (ds := [7]) #[false, false, false, false, false, false, false, false] (by kernel_rfl) rfl rfl ((blk_cell HD.out.cs 2).trans rfl) (fun hHeld => ?_)
            refine pure_ (i := 0) (N := some 42) (v := ?_) (a' := ?_) #[true, false, false, false, false, false, false, false] rfl rfl (by kernel_rfl) (fun _ _ _ h => h) (Or.inl ⟨by rfl, ?_⟩) ?_ ?_
            rotate_left
            · intro w'
              go_simp
              with_reducible rfl
            rotate_left
            · simp only [Act.put, List.setIfInBounds_toArray, List.set_cons_zero, List.set_cons_succ, i64_w, i32_w]
              rfl
            refine pure_ (i := 2) (N := some 44) (v := ?_) (a' := ?_) #[true, false, true, false, false, false, false, false] rfl rfl (by kernel_rfl) (fun _ _ _ h => h) (Or.inl ⟨by rfl, ?_⟩) ?_ ?_
            rotate_left
            · intro w'
              go_simp
              with_reducible rfl
            rotate_left
            · simp only [Act.put, List.setIfInBounds_toArray, List.set_cons_zero, List.set_cons_succ, i64_w, i32_w]
              rfl
            refine take_ (i := 1) (N := some 43) (v := ?_) (a' := ?_) #[true, true, true, false, false, false, false, false] rfl rfl (by kernel_rfl) (fun _ _ _ h => h) (Or.inl ⟨by rfl, ?_⟩) hHeld ?_ ?_
            rotate_left
            · intro w' s0
              go_simp
              with_reducible rfl
            rotate_left
            · simp only [Act.put, List.setIfInBounds_toArray, List.set_cons_zero, List.set_cons_succ, i64_w, i32_w]
              rfl
            refine one_ (i := 3) (N := some 45) #[true, true, true, true, false, false, false, false] rfl rfl (by kernel_rfl) (by decide) (fun K hK => ?_)
            refine goes_ Tryd.func55 (by kernel_rfl) rfl #[.pointer (some ⟨b, 0, none⟩), .int .i64 0] (by rfl) rfl rfl (by simp only [List.map_toArray, List.map_cons, List.map_nil, Act.eval]; rfl) ?_
            refine (HU.out w41.drew HD.out.rd).mono ?_
            rintro q v3 ⟨p, rfl, hx, hr, hg⟩
            have HL3 := Aside0.mk (HD.out.call HQ.out hr hg)
            have HS3 := Aside0.mk hg.size
            have HE3 := Aside0.mk hx
            clear hr hg hx
            refine ⟨_, rfl, ?_⟩
            refine hK.out _ _ ((blk_cell HL3.out.cs 2).trans rfl) (fun hHeld => ?_)
            clear hK K
            refine norm_ (a' := ?_) ?_ ?_
            rotate_left
            · show Act.put _ (some 45) _ = _
              simp only [Act.put, List.setIfInBounds_toArray, List.set_cons_zero, List.set_cons_succ, i64_w, i32_w]
              rfl
            refine one_ (i := 4) (N := some 46) #[true, true, true, true, true, false, false, false] rfl rfl (by kernel_rfl) (by decide) (fun K hK => ?_)
            refine lit_step (n := 1) (by rfl) (N := 46) rfl (cs := #[.int .i64 r1.1.f0, .string r1.1.f1, .int .i64 r1.1.f2.f0, .int .i64 r1.1.f2.f1, .int .i64 r1.1.f2.f2, .string r1.1.f2.f3, .slice p.A6 r1.1.f2.f4.length p.c6, .int .i64 r1.1.f3.f0, .int .i64 r1.1.f3.f1, .int .i64 r1.1.f3.f2, .string r1.1.f3.f3, .slice p.A11 r1.1.f3.f4.length p.c11, .int .i64 r1.1.f4.f0, .int .i64 r1.1.f4.f1, .slice p.A14 r1.1.f4.f2.length p.c14, .slice p.A15 r1.1.f4.f3.length p.c15, .slice p.A16 r1.1.f5.length p.c16, .slice p.A17 r1.1.f6.length p.c17]) (t := 54) ?hr ?_
            case hr => first | (go_simp; done) | (go_simp; rfl)
            intro g hgg v4 hlit hb
            have HGB := Aside0.mk hlit
            have HGE := Aside0.mk (show v3.heap.size ≤ g by rw [hgg]; exact Nat.le_refl _)
            have HNE := Aside0.mk (show ∀ k, Value.ownBlock (.slice AB l.length cB) = some k → k < w41.drew.heap.size from fun k hk => Kd.N_lt HD.out.nB k hk)
            have HS3 := Aside0.mk (show w41.drew.heap.size ≤ v3.heap.size from HS3.out)
            have HE4 := Aside0.mk (HE3.out.on hb)
            have HL4 := Aside0.mk (HL3.out.on hb)
            clear hlit hgg hb
            refine hK.out _ _ ((blk_cell HL4.out.cs 2).trans rfl) (fun hHeld => ?_)
            clear hK K
            refine norm_ (a' := ?_) ?_ ?_
            rotate_left
            · show Act.put _ (some 46) _ = _
              simp only [Act.put, List.setIfInBounds_toArray, List.set_cons_zero, List.set_cons_succ, i64_w, i32_w]
              rfl
            refine one_ (i := 5) (N := some 47) #[true, true, true, true, true, true, false, false] rfl rfl (by kernel_rfl) (by decide) (fun K hK => ?_)
            refine Kd.N_append_rows_step k54 (w0 := v4) w.heap.size (by rfl) (.tmp 43) (.tmp 46) 50 54 ?zq 264 ?ho ?ht ?hi ?hz ?h0 ?hb0 (.slice AB l.length cB) l [r1.1] (some ⟨g, 0, none⟩) 1 1 (fun k => w.heap.size ≤ k ∧ k ≠ gs ∧ k ≠ gr) (fun k => w41.drew.heap.size ≤ k ∨ k = g) ?hs ?hx ?hN ?hF ?hk ?hf ?hB ?hbase ?hl ?_
            case ho => rfl
            case ht => exact Tryd.underlying50
            case hi => exact infoSt
            case hz => rfl
            case h0 => decide
            case hb0 => decide
            case hs => rfl
            case hx => rfl
            case hN => exact HL4.out.nB
            case hF => exact F_one k54 HE4.out.FK rfl HGB.out
            case hk => exact fun k hk => have hk1 : w41.drew.heap.size ≤ k := hk.elim id (fun e => by rw [e]; exact Nat.le_trans HS3.out HGE.out); ⟨⟨Nat.le_trans HD.out.gb.size hk1, Nat.ne_of_gt (Nat.lt_of_lt_of_le (blk_lt HD.out.cs) hk1), Nat.ne_of_gt (Nat.lt_of_lt_of_le (blk_lt HD.out.zr) hk1)⟩, fun e => absurd (HNE.out k e.symm) (Nat.not_lt.2 hk1)⟩
            case hf => exact fun k hk => ⟨Nat.le_trans HL4.out.gb.size hk, Nat.ne_of_gt (Nat.lt_of_lt_of_le (blk_lt HL4.out.cs) hk), Nat.ne_of_gt (Nat.lt_of_lt_of_le (blk_lt HL4.out.zr) hk)⟩
            case hB => exact Below.refl _ _
            case hbase => exact HL4.out.gb.size
            case hl => omega
            intro v1 v5 hn hb2 hg2 hat
            have HC5 := Aside0.mk (HL4.out.keepB hg2)
            have HN5 := Aside0.mk hn
            have HG5 := Aside0.mk hg2
            have HV5 := Aside0.mk (show v1.cells = #[v1] from Array.toList_inj.1 (Kd.N_val hn).1)
            have HO5 := Aside0.mk (show ∀ q ∈ (#[v1] : Array Value).toList, q.oneCell' = true from fun q hq => by simp only [List.mem_cons, List.not_mem_nil, or_false] at hq; rw [hq]; exact (Kd.N_val hn).2)
            clear hn hb2 hg2 hat
            refine hK.out _ _ ((blk_cell HC5.out 2).trans rfl) (fun hHeld => ?_)
            clear hK K
            refine norm_ (a' := ?_) ?_ ?_
            rotate_left
            · show Act.put _ (some 47) _ = _
              simp only [Act.put, List.setIfInBounds_toArray, List.set_cons_zero, List.set_cons_succ, i64_w, i32_w]
              rfl
            refine pure_ (i := 6) (N := some 48) (v := ?_) (a' := ?_) #[true, true, true, true, true, true, true, false] rfl rfl (by kernel_rfl) (fun _ _ _ h => h) (Or.inl ⟨by rfl, ?_⟩) ?_ ?_
            rotate_left
            · intro w'
              go_simp
              with_reducible rfl
            rotate_left
            · simp only [Act.put, List.setIfInBounds_toArray, List.set_cons_zero, List.set_cons_succ, i64_w, i32_w]
              rfl
            refine last_ (i := 7) (N := none) #[true, true, true, true, true, true, true, true] rfl rfl (by kernel_rfl) (by decide) (fun K hK => ?_)
            refine put_at_step (by rfl) rfl 50 (.tmp 48) (.tmp 47) ?ho gs 2 52 _ (#[v1]) (#[.string (nameS ts en s).1, .slice AL ls.length cL, v1]) v1 ?hp ?hx HV5.out HC5.out ?ht ?hs ?hn HO5.out ?_
            case ho => rfl
            case hp => rfl
            case hx => rfl
            case ht => kernel_rfl
            case hs => simp
            case hn => rfl
            intro v6 hlit hg
            have HL6 := Aside0.mk (Tw.pushB HX.out HR.out HL4.out HQ.out HN5.out HG5.out hlit hg)
            clear hlit hg
            refine hK.out _ _ ?_
            clear hK K
            refine done_ (by kernel_rfl) ?_
            go_wp2_with fail
            go_roundg k
            case measure => omega
            case rel => exact ⟨k, _, _, v1, Nat.le_refl _, by rw [List.length_append, List.length_singleton]; omega, HK, HL6⟩
          · have k1 : isS ts en s1 (⟨#[125]⟩ : ByteArray) = true := by simpa using k1
            rw [if_neg (by rw [k1]; simp)] at hk
            have hk := Option.some.inj hk
            subst hk
            rw [k1] at HI
            clear ke k1
            go_wp2_with fail
            refine HI.out.mono ?_
            rintro q w41 ⟨rfl, hb⟩
            have HL41 := Aside0.mk (HL40.out.on hb)
            clear hb
            go_wp2_with fail
            go_meet
            exact ⟨_, HL41⟩
        · rw [if_neg (fun hc => ke hc.1)] at hk
          have hk := Option.some.inj hk
          subst hk
          have e1 : (s1.e == 0) = false := beq_eq_false_iff_ne.mpr ke
          clear ke
          go_wp2_with fail
          go_meet
          exact ⟨_, HL40⟩
    case rest =>
      clear HL30 hrb
      have HC := hcut
      clear hcut
      obtain ⟨vB, HL50⟩ := HC
      generalize wc = w50 at *
      obtain ⟨AB, cB, rfl⟩ := Kd.N_slice HL50.out.nB
      obtain ⟨lb, sb⟩ := rb
      have HN9 := Aside0.mk (need_calls w0 A c ts en b HX.out sb (⟨#[125]⟩ : ByteArray) w50 HL50.out.rd)
      go_wp2_with fail
      refine HN9.out.mono ?_
      rintro q w51 ⟨rfl, hr, hg⟩
      have HL51 := Aside0.mk (HL50.out.call HQ.out hr hg)
      clear hr hg
      go_wp2_with (first | ((with_reducible refine gate_dst (N := 51) rfl ?_); (try (refine gate_guard (by rfl) ?_; dsimp only)); refine wpList_load_row ?hg 52 (.tmp 3) ?ho gs ?hx 52 _ (0, 0) _ HL51.out.cs Tryd.underlying52 ?hd ?hi ?_; (case hg => rfl); (case ho => rfl); (case hx => rfl); (case hd => rfl); (case hi => kernel_rfl)) | ((with_reducible refine gate_store (t := 52) (p := 2) rfl ?_); refine put_val ?hg ?hn 52 (.tmp 2) (.tmp 51) ?ho gr 52 _ (#[.string (nameS ts en s).1, .slice AL ls.length cL, .slice AB lb.length cB]) (.agg (#[.string (nameS ts en s).1, .slice AL ls.length cL, .slice AB lb.length cB])) ?hp ?hx ?hu HL51.out.zr ?ht ?hs ?h1 ?_; (case hg => rfl); (case hn => rfl); (case ho => rfl); (case hp => rfl); (case hx => rfl); (case hu => rfl); (case ht => kernel_rfl); (case hs => rfl); (case h1 => exact thr_one _ _ _ _ _ _ _); intro w99 hlit hg; have HT := Aside0.mk hlit; have HGZ := Aside0.mk hg; have HOW := Aside0.mk (own_store2 HQ.out.hr HL51.out.gb hg); have HRZ := Aside0.mk (rd_store2 HX.out HL51.out.rd HNB.out (Nat.le_trans HQ.out.ow HQ.out.hr) hg); clear hlit hg))
      (try simp only [Exit.inBlock, Exit.then])
      refine bodyPost_ret (results_cell_row rfl _ _ gr 52 _ (0, 0) _ rfl HT.out Tryd.underlying52 rfl (by kernel_rfl)) rfl ?_
      exact ⟨_, _, _, _, rfl, HL51.out.tx HGZ.out, HRZ.out, HOW.out⟩
end Go.Proofs.YtfeaekdhpkdljaaDoor.Rd
