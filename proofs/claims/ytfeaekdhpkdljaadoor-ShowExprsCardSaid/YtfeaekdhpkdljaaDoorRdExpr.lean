/- meddlerref5.reader: expressions. -/
import Derived.Test.YtfeaekdhpkdljaaDoorRdName
import Derived.Deep.DeepCutAuto
import Derived.Deep.CutBlock
namespace Go.Proofs.YtfeaekdhpkdljaaDoor.Rd
open Go.RowKit Go.Proofs.YtfeaekdhpkdljaaDoorW.PrintWords Go.Proofs.YtfeaekdhpkdljaaDoorW.PrintLast Go.Proofs.YtfeaekdhpkdljaaDoor.Sh
set_option linter.unusedVariables false
set_option linter.unusedSimpArgs false
theorem F_on {α : Type} {d : Kd α} {w w' : World} {ok : Nat → Prop} {A : Option Addr} {n : Nat} {xs : List α} (h : Kd.F d w ok A n xs) (hw : ∀ k, ok k → k < w.heap.size → w'.heap[k]? = w.heap[k]?) (hs : w.heap.size ≤ w'.heap.size) : Kd.F d w' ok A n xs :=
  fun W' hW => h W' (fun k hk hlt => (hW k hk (Nat.lt_of_lt_of_le hlt hs)).trans (hw k hk hlt))
theorem F_mono {α : Type} {d : Kd α} {w : World} {ok ok' : Nat → Prop} {A : Option Addr} {n : Nat} {xs : List α} (h : Kd.F d w ok A n xs) (hm : ∀ k, ok k → k < w.heap.size → ok' k) : Kd.F d w ok' A n xs := fun W' hW => h W' (fun k hk hlt => hW k (hm k hk hlt) hlt)
theorem F_bound {α : Type} {d : Kd α} {w : World} {ok : Nat → Prop} {A : Option Addr} {n : Nat} {xs : List α} (h : Kd.F d w ok A n xs) : Kd.F d w (fun k => ok k ∧ k < w.heap.size) A n xs := F_mono h (fun k hk hl => ⟨hk, hl⟩)
/-- An expression's row, in blocks from 'base' on. -/
structure Ex (base : Nat) (x : S30) (K : Option Addr) (d : Nat) (w : World) : Prop where
  cap : x.f4.length ≤ d
  row : Kd.F k30 w (fun k => base ≤ k) K x.f4.length x.f4
theorem Ex.grown {base b : Nat} {x : S30} {K : Option Addr} {d : Nat} {w w' : World} (h : Ex base x K d w) (hb : b < base) (hg : w.grownBy w' (some b)) : Ex base x K d w' :=
  ⟨h.cap, F_on h.row (fun k hk hl => hg.block k hl (fun e => by injection e with e; omega)) hg.size⟩
theorem Ex.on {base : Nat} {x : S30} {K : Option Addr} {d : Nat} {w w' : World} (h : Ex base x K d w) (hb : Below w.heap.size w w') : Ex base x K d w' := ⟨h.cap, F_on h.row (fun k _ hl => hb.block k hl) hb.size⟩
theorem Ex.none (base : Nat) (a b c : Int) (s : ByteArray) (w : World) : Ex base ⟨a, b, c, s, []⟩ .none 0 w := ⟨Nat.le_refl _, F_nil _ _ _⟩
theorem Ex.FK {base : Nat} {x : S30} {K : Option Addr} {d : Nat} {w : World} (h : Ex base x K d w) : Kd.FK k30 w (fun k => base ≤ k) x [.int .i64 x.f0, .int .i64 x.f1, .int .i64 x.f2, .string x.f3, .slice K x.f4.length d] := k30_mkF w _ x h.cap h.row
/-- One kid, in a fresh block. -/
theorem Ex.kid {base g : Nat} {x : S30} {K : Option Addr} {d : Nat} {w : World} (h : Ex base x K d w) (hg : base ≤ g) (hb : w.heap[g]? = some (.cells #[.int .i64 x.f0, .int .i64 x.f1, .int .i64 x.f2, .string x.f3, .slice K x.f4.length d] 30 (0, 0))) (a n o : Int) (s : ByteArray) : Ex base ⟨a, n, o, s, [x]⟩ (some ⟨g, 0, .none⟩) 1 w :=
  ⟨Nat.le_refl _, F_mono (F_one k30 h.FK rfl hb) (fun k hk _ => hk.elim id (fun e => by rw [e]; exact hg))⟩
theorem Ex.two {base g : Nat} {x y : S30} {K L : Option Addr} {d e : Nat} {w : World} (h : Ex base x K d w) (k : Ex base y L e w) (hg : base ≤ g) (hb : w.heap[g]? = some (.cells #[.int .i64 x.f0, .int .i64 x.f1, .int .i64 x.f2, .string x.f3, .slice K x.f4.length d, .int .i64 y.f0, .int .i64 y.f1, .int .i64 y.f2, .string y.f3, .slice L y.f4.length e] 30 (0, 0))) (a n o : Int) (s : ByteArray) : Ex base ⟨a, n, o, s, [x, y]⟩ (some ⟨g, 0, .none⟩) 2 w :=
  ⟨Nat.le_refl _, F_mono (F_two k30 h.FK rfl k.FK rfl hb) (fun k hk _ => hk.elim id (fun e => by rw [e]; exact hg))⟩
theorem exC_one (a b c : Int) (s : ByteArray) (K : Option Addr) (n m : Nat) : ∀ q ∈ (#[.int .i64 a, .int .i64 b, .int .i64 c, .string s, .slice K n m] : Array Value).toList, q.oneCell' = true := by
  intro q hq
  simp only [List.mem_cons, List.not_mem_nil, or_false] at hq
  rcases hq with h | h | h | h | h <;> subst h <;> rfl
set_option maxHeartbeats 8000000 in
set_option maxRecDepth 100000 in
theorem bin_calls (op : Int) (x y : S30) (K L : Option Addr) (d e : Nat) (w : World) :
    Calls Tryd.prog 70 #[.int .i64 op, .agg #[.int .i64 x.f0, .int .i64 x.f1, .int .i64 x.f2, .string x.f3, .slice K x.f4.length d], .agg #[.int .i64 y.f0, .int .i64 y.f1, .int .i64 y.f2, .string y.f3, .slice L y.f4.length e]] w fun q w' => ∃ g, q = .returned (.agg #[.int .i64 5, .int .i64 0, .int .i64 op, .string ⟨#[]⟩, .slice (some ⟨g, 0, none⟩) 2 2]) ∧ w.heap.size ≤ g ∧ w'.heap[g]? = some (.cells #[.int .i64 x.f0, .int .i64 x.f1, .int .i64 x.f2, .string x.f3, .slice K x.f4.length d, .int .i64 y.f0, .int .i64 y.f1, .int .i64 y.f2, .string y.f3, .slice L y.f4.length e] 30 (0, 0)) ∧ Below w.heap.size w w' := by
  go_enter Tryd.func70, Tryd.ntmps70
  go_wp2_with (first | ((with_reducible refine gate_dst (N := 4) rfl ?_); refine box_event ?hg (N := 4) ?hd (cs := #[.int .i64 x.f0, .int .i64 x.f1, .int .i64 x.f2, .string x.f3, .slice K x.f4.length d]) (t := 30) ?hr ?_; (case hd => rfl); (case hg => rfl); (case hr => first | (go_simp; done) | (go_simp; rfl)); intro ga hgg w1 hlit hb; have HA := Aside0.mk hlit; have HB1 := Aside0.mk hb; clear hlit hb hgg) | ((with_reducible refine gate_dst (N := 5) rfl ?_); refine box_event ?hg (N := 5) ?hd (cs := #[.int .i64 y.f0, .int .i64 y.f1, .int .i64 y.f2, .string y.f3, .slice L y.f4.length e]) (t := 30) ?hr ?_; (case hd => rfl); (case hg => rfl); (case hr => first | (go_simp; done) | (go_simp; rfl)); intro gb hgg w2 hlit hb; have HY := Aside0.mk hlit; have HB2 := Aside0.mk hb; clear hlit hb hgg) | ((with_reducible refine gate_dst (N := 6) rfl ?_); refine box_event ?hg (N := 6) ?hd (cs := #[.int .i64 0, .int .i64 0, .int .i64 0, .string ⟨#[]⟩, .slice none 0 0]) (t := 30) ?hr ?_; (case hd => rfl); (case hg => rfl); (case hr => first | (go_simp; done) | (go_simp; rfl)); intro gr hgg w3 hlit hb; have HZ := Aside0.mk hlit; have HB3 := Aside0.mk hb; have HGR := Aside0.mk hgg; clear hlit hb hgg) | ((with_reducible refine gate_dst (N := 8) rfl ?_); (try (refine gate_guard (by rfl) ?_; dsimp only)); refine wpList_load_row ?hg 30 (.tmp 4) ?ho ga ?hx 30 _ (0, 0) _ (below_read HB3.out (below_read HB2.out HA.out)) Tryd.underlying30 ?hd ?hi ?_; (case hg => rfl); (case ho => rfl); (case hx => rfl); (case hd => rfl); (case hi => kernel_rfl)) | ((with_reducible refine gate_dst (N := 9) rfl ?_); (try (refine gate_guard (by rfl) ?_; dsimp only)); refine wpList_load_row ?hg 30 (.tmp 5) ?ho gb ?hx 30 _ (0, 0) _ (below_read HB3.out HY.out) Tryd.underlying30 ?hd ?hi ?_; (case hg => rfl); (case ho => rfl); (case hx => rfl); (case hd => rfl); (case hi => kernel_rfl)) | ((with_reducible refine gate_dst (N := 10) rfl ?_); refine lit_ev2 (n := 2) ?hg (N := 10) ?hd (cs := #[.int .i64 x.f0, .int .i64 x.f1, .int .i64 x.f2, .string x.f3, .slice K x.f4.length d, .int .i64 y.f0, .int .i64 y.f1, .int .i64 y.f2, .string y.f3, .slice L y.f4.length e]) (t := 30) ?hr ?_; (case hd => rfl); (case hg => rfl); (case hr => first | (go_simp; done) | (go_simp; rfl)); intro g hgg w4 hlit hb; have HG := Aside0.mk hlit; have HB4 := Aside0.mk hb; have HGG := Aside0.mk (show w.heap.size ≤ g by rw [hgg]; exact ((below_then (below_then HB1.out HB1.out.size HB2.out) (below_then HB1.out HB1.out.size HB2.out).size HB3.out)).size); have HNE := Aside0.mk (show g ≠ gr by rw [hgg]; exact Nat.ne_of_gt (blk_lt HZ.out)); have HZ4 := Aside0.mk (below_read hb HZ.out); clear hlit hb hgg) | ((with_reducible refine gate_store (t := 30) (p := 6) rfl ?_); refine put_val ?hg ?hn 30 (.tmp 6) (.tmp 11) ?ho gr 30 _ (#[.int .i64 5, .int .i64 0, .int .i64 op, .string ⟨#[]⟩, .slice (some ⟨g, 0, none⟩) 2 2]) (.agg (#[.int .i64 5, .int .i64 0, .int .i64 op, .string ⟨#[]⟩, .slice (some ⟨g, 0, none⟩) 2 2])) ?hp ?hx ?hu HZ4.out ?ht ?hs ?h1 ?_; (case hg => rfl); (case hn => rfl); (case ho => rfl); (case hp => rfl); (case hx => rfl); (case hu => rfl); (case ht => kernel_rfl); (case hs => rfl); (case h1 => exact exC_one _ _ _ _ _ _ _); intro w5 hlit hg; have HT := Aside0.mk hlit; have HB5 := Aside0.mk (((below_then (below_then (below_then HB1.out HB1.out.size HB2.out) (below_then HB1.out HB1.out.size HB2.out).size HB3.out) (below_then (below_then HB1.out HB1.out.size HB2.out) (below_then HB1.out HB1.out.size HB2.out).size HB3.out).size HB4.out)).grown hg ((below_then (below_then (below_then HB1.out HB1.out.size HB2.out) (below_then HB1.out HB1.out.size HB2.out).size HB3.out) (below_then (below_then HB1.out HB1.out.size HB2.out) (below_then HB1.out HB1.out.size HB2.out).size HB3.out).size HB4.out)).size (fun q hq => by injection hq with hq; rw [← hq, HGR.out]; exact ((below_then HB1.out HB1.out.size HB2.out)).size)); have HG5 := Aside0.mk ((hg.block g (blk_lt HG.out) (fun e => HNE.out (by injection e))).trans HG.out); clear hlit hg))
  (try simp only [Exit.inBlock, Exit.then])
  refine bodyPost_ret (results_cell_row rfl _ _ gr 30 _ (0, 0) _ rfl HT.out Tryd.underlying30 rfl (by kernel_rfl)) rfl ?_
  exact ⟨g, rfl, HGG.out, HG5.out, HB5.out⟩
def binE (op : Int) (a b : S30) : S30 := ⟨5, 0, op, ⟨#[]⟩, [a, b]⟩
mutual
def primF (ts : List S86) (en : Int) : Nat → Rs → Int → Option (S30 × Rs)
  | 0, _, _ => none
  | n + 1, s, deep =>
    if s.e ≠ 0 then some (z30, s)
    else if (tokS ts en s).f0 = 1 then some (⟨1, (numS ts en s).1, 0, ⟨#[]⟩, []⟩, (numS ts en s).2)
    else if isS ts en s (⟨#[105, 110, 112, 117, 116]⟩ : ByteArray) = true then some (⟨4, 0, 0, ⟨#[]⟩, []⟩, stepS s)
    else if isS ts en s (⟨#[40]⟩ : ByteArray) = true then (exprP ts en n (stepS s) (deep + 1)).bind fun r => some (r.1, needS ts en r.2 (⟨#[41]⟩ : ByteArray))
    else if isS ts en (nameS ts en s).2 (⟨#[91]⟩ : ByteArray) = true then (exprP ts en n (stepS (nameS ts en s).2) (deep + 1)).bind fun r => some (⟨3, 0, 0, (nameS ts en s).1, [r.1]⟩, needS ts en r.2 (⟨#[93]⟩ : ByteArray))
    else some (⟨2, 0, 0, (nameS ts en s).1, []⟩, (nameS ts en s).2)
def unaryF (ts : List S86) (en : Int) : Nat → Rs → Int → Option (S30 × Rs)
  | 0, _, _ => none
  | n + 1, s, deep =>
    if isS ts en (if deep > 10 then failS ts en s 3 else s) (⟨#[45]⟩ : ByteArray) = true then (unaryF ts en n (stepS (if deep > 10 then failS ts en s 3 else s)) (deep + 1)).bind fun r => some (⟨6, 0, 0, ⟨#[]⟩, [r.1]⟩, r.2)
    else primF ts en n (if deep > 10 then failS ts en s 3 else s) deep
def termF (ts : List S86) (en : Int) : Nat → Rs → Int → Option (S30 × Rs)
  | 0, _, _ => none
  | n + 1, s, deep => (unaryF ts en n s deep).bind fun r => termL ts en n r.1 r.2 deep
def termL (ts : List S86) (en : Int) : Nat → S30 → Rs → Int → Option (S30 × Rs)
  | 0, _, _, _ => none
  | n + 1, a, s, deep =>
    if s.e ≠ 0 then some (a, s)
    else if isS ts en s (⟨#[42]⟩ : ByteArray) = true then (unaryF ts en n (stepS s) deep).bind fun r => termL ts en n (binE 3 a r.1) r.2 deep
    else if isS ts en s (⟨#[47]⟩ : ByteArray) = true then (unaryF ts en n (stepS s) deep).bind fun r => termL ts en n (binE 4 a r.1) r.2 deep
    else if isS ts en s (⟨#[37]⟩ : ByteArray) = true then (unaryF ts en n (stepS s) deep).bind fun r => termL ts en n (binE 5 a r.1) r.2 deep
    else some (a, s)
def exprP (ts : List S86) (en : Int) : Nat → Rs → Int → Option (S30 × Rs)
  | 0, _, _ => none
  | n + 1, s, deep => (termF ts en n s deep).bind fun r => exprL ts en n r.1 r.2 deep
def exprL (ts : List S86) (en : Int) : Nat → S30 → Rs → Int → Option (S30 × Rs)
  | 0, _, _, _ => none
  | n + 1, a, s, deep =>
    if s.e ≠ 0 then some (a, s)
    else if isS ts en s (⟨#[43]⟩ : ByteArray) = true then (termF ts en n (stepS s) deep).bind fun r => exprL ts en n (binE 1 a r.1) r.2 deep
    else if isS ts en s (⟨#[45]⟩ : ByteArray) = true then (termF ts en n (stepS s) deep).bind fun r => exprL ts en n (binE 2 a r.1) r.2 deep
    else some (a, s)
end
theorem Ex.less {base base' : Nat} {x : S30} {K : Option Addr} {d : Nat} {w : World} (h : Ex base x K d w) (hb : base' ≤ base) : Ex base' x K d w := ⟨h.cap, F_mono h.row (fun k hk _ => Nat.le_trans hb hk)⟩
def ExC (w0 : World) (A : Option Addr) (c : Nat) (ts : List S86) (en : Int) (b : Nat) (fn n : Nat) (F : Rs → Int → Option (S30 × Rs)) : Prop :=
  ∀ (s : Rs) (deep : Int) (w : World) (r : S30 × Rs), Rd w0 A c ts en b s w → 0 ≤ deep → deep + n ≤ 1000000000 → F s deep = some r → Calls Tryd.prog fn #[.pointer (some ⟨b, 0, none⟩), .int .i64 deep] w fun q w' => ∃ K d, q = .returned (.agg #[.int .i64 r.1.f0, .int .i64 r.1.f1, .int .i64 r.1.f2, .string r.1.f3, .slice K r.1.f4.length d]) ∧ Ex w.heap.size r.1 K d w' ∧ Rd w0 A c ts en b r.2 w' ∧ w.grownBy w' (some b)
/-- A store into a block that the call has made: beside the reader's own, old blocks stay. -/
theorem own_store {w w1 wa wz : World} {b gr : Nat} (h1 : gr = w.heap.size) (hb : Below w.heap.size w w1) (hg : w.grownBy wa (some b)) (hs : wa.grownBy wz (some gr)) : w.grownBy wz (some b) :=
  ⟨hs.os.trans hg.os, hs.tape.trans hg.tape, hs.output.trans hg.output, Nat.le_trans hg.size hs.size, fun i hi hne => (hs.block i (Nat.lt_of_lt_of_le hi hg.size) (fun e => by injection e with e; omega)).trans (hg.block i hi hne)⟩
theorem rd_store {w0 w w1 wa wz : World} {A : Option Addr} {c : Nat} {ts : List S86} {en : Int} {b gr : Nat} {s s' : Rs} (hX : Ctx w0 A c ts b) (h : Rd w0 A c ts en b s' wa) (h1 : gr = w.heap.size) (hb : Below w.heap.size w w1) (h0 : Rd w0 A c ts en b s w) (hs : wa.grownBy wz (some gr)) : Rd w0 A c ts en b s' wz :=
  ⟨(hs.block b (blk_lt h.blk) (fun e => by injection e with e; have := blk_lt h0.blk; omega)).trans h.blk, h.old.grown hs h.old.size (fun k hk => by injection hk with hk; have := h0.old.size; omega), h.le⟩
set_option maxHeartbeats 8000000 in
set_option maxRecDepth 100000 in
theorem unary_step (w0 : World) (A : Option Addr) (c : Nat) (ts : List S86) (en : Int) (b : Nat) (hX : Ctx w0 A c ts b) (n : Nat) (ihU : ExC w0 A c ts en b 77 n (unaryF ts en n)) (ihP : ExC w0 A c ts en b 81 n (primF ts en n)) : ExC w0 A c ts en b 77 (n + 1) (unaryF ts en (n + 1)) := by
  intro s deep w r h h0 h1 hF
  have HX := Aside0.mk hX
  have HR := Aside0.mk h
  simp only [unaryF] at hF
  obtain ⟨s1, h1s⟩ : ∃ z, (if deep > 10 then failS ts en s 3 else s) = z := ⟨_, rfl⟩
  rw [h1s] at hF
  have HNB : Aside0 (∀ gr : Nat, gr = w.heap.size → gr ≠ b) := ⟨fun gr e => by have := blk_lt h.blk; omega⟩
  go_enter Tryd.func77, Tryd.ntmps77
  go_upto_if 6 with (first | ((with_reducible refine gate_dst (N := 4) rfl ?_); refine box_event ?hg (N := 4) ?hd (cs := #[.int .i64 0, .int .i64 0, .int .i64 0, .string ⟨#[]⟩, .slice none 0 0]) (t := 30) ?hr ?_; (case hd => rfl); (case hg => rfl); (case hr => first | (go_simp; done) | (go_simp; rfl)); intro gr hgg w1 hlit hb; have HZ1 := Aside0.mk hlit; have HB1 := Aside0.mk hb; have HGR := Aside0.mk hgg; clear hlit hb hgg))
  have HNB := Aside0.mk (HNB.out gr HGR.out)
  have HS1 := Aside0.mk h1s
  go_cut [] (fun wx => Aside0 (Rd w0 A c ts en b s1 wx) ∧ Aside0 (w.grownBy wx (some b)) ∧ Aside0 (wx.heap[gr]? = some (.cells (#[.int .i64 0, .int .i64 0, .int .i64 0, .string ⟨#[]⟩, .slice none 0 0]) 30 (0, 0))))
  case first =>
    by_cases hd : deep > 10
    · go_wp2_with fail
      refine (fail_calls w0 A c ts en b HX.out s 3 w1 (HR.out.on HB1.out)).mono ?_
      rintro q w2 ⟨rfl, hr, hg⟩
      have h2s := HS1.out
      rw [if_pos hd] at h2s
      rw [h2s] at hr
      have HR2 := Aside0.mk hr
      have HG2 := Aside0.mk (grow_trans (grown_of_below HB1.out (some b)) hg)
      have HZ2 := Aside0.mk ((hg.block gr (blk_lt HZ1.out) (fun e => HNB.out (by injection e))).trans HZ1.out)
      clear hr hg h2s
      go_wp2_with fail
      go_meet
      case rel => exact ⟨HR2, HG2, HZ2⟩
    · have h2s := HS1.out
      rw [if_neg hd] at h2s
      have HR2 := Aside0.mk (show Rd w0 A c ts en b s1 w1 by rw [← h2s]; exact HR.out.on HB1.out)
      have HG2 := Aside0.mk (grown_of_below HB1.out (some b))
      clear h2s
      go_wp2_with fail
      go_meet
      case rel => exact ⟨HR2, HG2, HZ1⟩
  case rest =>
    obtain ⟨HR2, HG2, HZ2⟩ := hcut
    generalize wc = w2 at *
    clear HS1
    by_cases hB : isS ts en s1 (⟨#[45]⟩ : ByteArray) = true
    · rw [if_pos hB] at hF
      obtain ⟨r1, hr1, hF⟩ := Option.bind_eq_some_iff.1 hF
      obtain rfl := Option.some.inj hF
      have HTK := Aside0.mk (take_calls w0 A c ts en b HX.out s1 (⟨#[45]⟩ : ByteArray) w2 HR2.out)
      unfold takeS at HTK
      rw [hB, if_pos rfl] at HTK
      have HU := Aside0.mk (fun (W : World) (hR : Rd w0 A c ts en b (stepS s1) W) => ihU (stepS s1) (deep + 1) W r1 hR (by omega) (by push_cast at h1; omega) hr1)
      clear hB hF hr1 h h1s
      go_wp2_with fail
      refine HTK.out.mono ?_
      rintro q w3 ⟨rfl, hr, hg⟩
      have HR3 := Aside0.mk hr
      have HG3 := Aside0.mk (grow_trans HG2.out hg)
      have HZ3 := Aside0.mk ((hg.block gr (blk_lt HZ2.out) (fun e => HNB.out (by injection e))).trans HZ2.out)
      clear hr hg
      go_wp2_with fail
      refine (HU.out w3 HR3.out).mono ?_
      rintro q w4 ⟨K, d, rfl, hx, hr, hg⟩
      have HE4 := Aside0.mk hx
      have HR4 := Aside0.mk hr
      have HG4 := Aside0.mk (grow_trans HG3.out hg)
      have HZ4 := Aside0.mk ((hg.block gr (blk_lt HZ3.out) (fun e => HNB.out (by injection e))).trans HZ3.out)
      have HS4 := Aside0.mk hg.size
      clear hx hr hg
      go_wp2_with (first | ((with_reducible refine gate_dst (N := 15) rfl ?_); refine lit_ev2 (n := 1) ?hg (N := 15) ?hd (cs := #[.int .i64 r1.1.f0, .int .i64 r1.1.f1, .int .i64 r1.1.f2, .string r1.1.f3, .slice K r1.1.f4.length d]) (t := 30) ?hr ?_; (case hd => rfl); (case hg => rfl); (case hr => first | (go_simp; done) | (go_simp; rfl)); intro g hgg w5 hlit hb; have HB5 := Aside0.mk hb; have HR5 := Aside0.mk (HR4.out.on hb); have HG5 := Aside0.mk (grow_trans HG4.out (grown_of_below hb _)); have HZ5 := Aside0.mk (below_read hb HZ4.out); have HE5 := Aside0.mk ((HE4.out.on hb).kid (by rw [hgg]; exact HS4.out) hlit 6 0 0 ⟨#[]⟩); clear hlit hb hgg) | ((with_reducible refine gate_store (t := 30) (p := 4) rfl ?_); refine put_val ?hg ?hn 30 (.tmp 4) (.tmp 16) ?ho gr 30 _ (#[.int .i64 6, .int .i64 0, .int .i64 0, .string ⟨#[]⟩, .slice (some ⟨g, 0, none⟩) 1 1]) (.agg (#[.int .i64 6, .int .i64 0, .int .i64 0, .string ⟨#[]⟩, .slice (some ⟨g, 0, none⟩) 1 1])) ?hp ?hx ?hu HZ5.out ?ht ?hs ?h1 ?_; (case hg => rfl); (case hn => rfl); (case ho => rfl); (case hp => rfl); (case hx => rfl); (case hu => rfl); (case ht => kernel_rfl); (case hs => rfl); (case h1 => exact exC_one _ _ _ _ _ _ _); intro w6 hlit hg; have HT := Aside0.mk hlit; have HGZ := Aside0.mk hg; have HOW := Aside0.mk (own_store HGR.out HB1.out HG5.out hg); have HRZ := Aside0.mk (rd_store HX.out HR5.out HGR.out HB1.out HR.out hg); clear hlit hg))
      (try simp only [Exit.inBlock, Exit.then])
      refine bodyPost_ret (results_cell_row rfl _ _ gr 30 _ (0, 0) _ rfl HT.out Tryd.underlying30 rfl (by kernel_rfl)) rfl ?_
      exact ⟨_, _, rfl, (HE5.out.grown (blk_lt HZ3.out) HGZ.out).less HG3.out.size, HRZ.out, HOW.out⟩
    · rw [if_neg hB] at hF
      have HTK := Aside0.mk (take_calls w0 A c ts en b HX.out s1 (⟨#[45]⟩ : ByteArray) w2 HR2.out)
      unfold takeS at HTK
      rw [Bool.eq_false_iff.2 hB, if_neg (by decide)] at HTK
      have HU := Aside0.mk (fun (W : World) (hR : Rd w0 A c ts en b s1 W) => ihP s1 deep W r hR (by omega) (by push_cast at h1; omega) hF)
      clear hB hF h h1s
      go_wp2_with fail
      refine HTK.out.mono ?_
      rintro q w3 ⟨rfl, hr, hg⟩
      have HR3 := Aside0.mk hr
      have HG3 := Aside0.mk (grow_trans HG2.out hg)
      have HZ3 := Aside0.mk ((hg.block gr (blk_lt HZ2.out) (fun e => HNB.out (by injection e))).trans HZ2.out)
      clear hr hg
      go_wp2_with fail
      refine (HU.out w3 HR3.out).mono ?_
      rintro q w4 ⟨K, d, rfl, hx, hr, hg⟩
      have HE4 := Aside0.mk hx
      have HR4 := Aside0.mk hr
      have HG4 := Aside0.mk (grow_trans HG3.out hg)
      have HZ4 := Aside0.mk ((hg.block gr (blk_lt HZ3.out) (fun e => HNB.out (by injection e))).trans HZ3.out)
      clear hx hr hg
      go_wp2_with (first | ((with_reducible refine gate_store (t := 30) (p := 4) rfl ?_); refine put_val ?hg ?hn 30 (.tmp 4) (.tmp 19) ?ho gr 30 _ (#[.int .i64 r.1.f0, .int .i64 r.1.f1, .int .i64 r.1.f2, .string r.1.f3, .slice K r.1.f4.length d]) (.agg (#[.int .i64 r.1.f0, .int .i64 r.1.f1, .int .i64 r.1.f2, .string r.1.f3, .slice K r.1.f4.length d])) ?hp ?hx ?hu HZ4.out ?ht ?hs ?h1 ?_; (case hg => rfl); (case hn => rfl); (case ho => rfl); (case hp => rfl); (case hx => rfl); (case hu => rfl); (case ht => kernel_rfl); (case hs => rfl); (case h1 => exact exC_one _ _ _ _ _ _ _); intro w5 hlit hg; have HT := Aside0.mk hlit; have HGZ := Aside0.mk hg; have HOW := Aside0.mk (own_store HGR.out HB1.out HG4.out hg); have HRZ := Aside0.mk (rd_store HX.out HR4.out HGR.out HB1.out HR.out hg); clear hlit hg))
      (try simp only [Exit.inBlock, Exit.then])
      refine bodyPost_ret (results_cell_row rfl _ _ gr 30 _ (0, 0) _ rfl HT.out Tryd.underlying30 rfl (by kernel_rfl)) rfl ?_
      exact ⟨_, _, rfl, (HE4.out.grown (blk_lt HZ3.out) HGZ.out).less HG3.out.size, HRZ.out, HOW.out⟩
theorem Ex.made {base g : Nat} {x : S30} {K : Option Addr} {d : Nat} {w w1 w2 : World} (h : Ex base x K d w) (hg : g = w.heap.size) (hb : Below w.heap.size w w1) (hs : w1.grownBy w2 (some g)) : Ex base x K d w2 :=
  ⟨h.cap, F_on h.row (fun k _ hl => (hs.block k (Nat.lt_of_lt_of_le hl hb.size) (fun e => by injection e with e; omega)).trans (hb.block k hl)) (Nat.le_trans hb.size hs.size)⟩
/-- A block that the call has made is filled: all that was there stays. -/
theorem made_below {w w1 w2 : World} {g : Nat} (hg : g = w.heap.size) (hb : Below w.heap.size w w1) (hs : w1.grownBy w2 (some g)) : Below w.heap.size w w2 :=
  hb.grown hs hb.size (fun k hk => by injection hk with hk; omega)
set_option maxHeartbeats 8000000 in
set_option maxRecDepth 100000 in
theorem prim_step (w0 : World) (A : Option Addr) (c : Nat) (ts : List S86) (en : Int) (b : Nat) (hX : Ctx w0 A c ts b) (n : Nat) (ihE : ExC w0 A c ts en b 62 n (exprP ts en n)) : ExC w0 A c ts en b 81 (n + 1) (primF ts en (n + 1)) := by
  intro s deep w r h h0 h1 hF
  have HX := Aside0.mk hX
  have HR := Aside0.mk h
  simp only [primF] at hF
  have HNB : Aside0 (∀ gr : Nat, gr = w.heap.size → gr ≠ b) := ⟨fun gr e => by have := blk_lt h.blk; omega⟩
  have HTK := Aside0.mk (fun (W : World) (hb : Below w.heap.size w W) => tok_calls w0 A c ts en b hX s W (h.on hb))
  obtain ⟨t, ht⟩ : ∃ t, tokS ts en s = t := ⟨_, rfl⟩
  rw [ht] at hF HTK
  clear ht hX
  by_cases k1 : s.e ≠ 0
  · rw [if_pos k1] at hF
    obtain rfl := Option.some.inj hF
    have e1 : (s.e != 0) = true := bne_iff_ne.mpr k1
    clear k1 hF h
    go_enter Tryd.func81, Tryd.ntmps81
    go_wp2_with (first | ((with_reducible refine gate_dst (N := 4) rfl ?_); refine box_event ?hg (N := 4) ?hd (cs := #[.int .i64 0, .int .i64 0, .int .i64 0, .string ⟨#[]⟩, .slice none 0 0]) (t := 30) ?hr ?_; (case hd => rfl); (case hg => rfl); (case hr => first | (go_simp; done) | (go_simp; rfl)); intro gr hgg w1 hlit hb; have HZ1 := Aside0.mk hlit; have HB1 := Aside0.mk hb; have HGR := Aside0.mk hgg; clear hlit hb hgg))
    have HNB := Aside0.mk (HNB.out gr HGR.out)
    refine (HTK.out w1 HB1.out).mono ?_
    rintro q w2 ⟨rfl, hb⟩
    have HB2 := Aside0.mk (below_then HB1.out HB1.out.size hb)
    have HZ2 := Aside0.mk (below_read hb HZ1.out)
    clear hb
    go_wp2_with (first | ((with_reducible refine gate_dst (N := 5) rfl ?_); refine box_event ?hg (N := 5) ?hd (cs := #[.int .i64 0, .string ⟨#[]⟩, .int .i64 0, .int .i64 0]) (t := 86) ?hr ?_; (case hd => rfl); (case hg => rfl); (case hr => first | (go_simp; done) | (go_simp; rfl)); intro gt hgg w3 hlit hb; have HZT := Aside0.mk hlit; have HB3 := Aside0.mk hb; have HGT := Aside0.mk hgg; clear hlit hb hgg) | ((with_reducible refine gate_store (t := 86) (p := 5) rfl ?_); refine put_val ?hg ?hn 86 (.tmp 5) (.tmp 10) ?ho gt 86 _ (#[.int .i64 t.f0, .string t.f1, .int .i64 t.f2, .int .i64 t.f3]) (.agg (#[.int .i64 t.f0, .string t.f1, .int .i64 t.f2, .int .i64 t.f3])) ?hp ?hx ?hu HZT.out ?ht ?hs ?h1 ?_; (case hg => rfl); (case hn => rfl); (case ho => rfl); (case hp => rfl); (case hx => rfl); (case hu => rfl); (case ht => kernel_rfl); (case hs => rfl); (case h1 => exact tokC_one t); intro w4 hlit hg; have HB4 := Aside0.mk (below_then HB2.out HB2.out.size (made_below HGT.out HB3.out hg)); have HR4 := Aside0.mk (HR.out.on HB4.out); have HG4 := Aside0.mk (grown_of_below HB4.out (some b)); have HZ4 := Aside0.mk (below_read (made_below HGT.out HB3.out hg) HZ2.out); have h0 : w4.cell? ⟨gt, 0, none⟩ = some (.int .i64 t.f0) := (blk_cell hlit 0).trans rfl; have h3 : w4.cell? ⟨b, 3, none⟩ = some (.int .i64 s.e) := (blk_cell HR4.out.blk 3).trans rfl; clear hlit hg) | ((with_reducible refine gate_store (t := 30) (p := 4) rfl ?_); refine put_val ?hg ?hn 30 (.tmp 4) (.tmp 17) ?ho gr 30 _ (#[.int .i64 0, .int .i64 0, .int .i64 0, .string ⟨#[]⟩, .slice none 0 0]) (.agg (#[.int .i64 0, .int .i64 0, .int .i64 0, .string ⟨#[]⟩, .slice none 0 0])) ?hp ?hx ?hu HZ4.out ?ht ?hs ?h1 ?_; (case hg => rfl); (case hn => rfl); (case ho => rfl); (case hp => rfl); (case hx => rfl); (case hu => rfl); (case ht => kernel_rfl); (case hs => rfl); (case h1 => exact exC_one _ _ _ _ _ _ _); intro w5 hlit hg; have HT := Aside0.mk hlit; have HGZ := Aside0.mk hg; have HOW := Aside0.mk (own_store HGR.out HB1.out HG4.out hg); have HRZ := Aside0.mk (rd_store HX.out HR4.out HGR.out HB1.out HR.out hg); clear hlit hg))
    (try simp only [Exit.inBlock, Exit.then])
    refine bodyPost_ret (results_cell_row rfl _ _ gr 30 _ (0, 0) _ rfl HT.out Tryd.underlying30 rfl (by kernel_rfl)) rfl ?_
    exact ⟨_, _, rfl, Ex.none _ _ _ _ _ _, HRZ.out, HOW.out⟩
  rw [if_neg k1] at hF
  have e1 : (s.e != 0) = false := bne_eq_false_iff_eq.mpr (by simpa using k1)
  clear k1
  by_cases k2 : t.f0 = 1
  · rw [if_pos k2] at hF
    obtain rfl := Option.some.inj hF
    have e2 : (t.f0 == 1) = true := beq_iff_eq.mpr k2
    have HNUM := Aside0.mk (fun (W : World) (hb : Rd w0 A c ts en b s W) => num_calls w0 A c ts en b HX.out s W hb)
    obtain ⟨m, hm⟩ : ∃ m, numS ts en s = m := ⟨_, rfl⟩
    rw [hm] at HNUM ⊢
    clear k2 hF h hm
    go_enter Tryd.func81, Tryd.ntmps81
    go_wp2_with (first | ((with_reducible refine gate_dst (N := 4) rfl ?_); refine box_event ?hg (N := 4) ?hd (cs := #[.int .i64 0, .int .i64 0, .int .i64 0, .string ⟨#[]⟩, .slice none 0 0]) (t := 30) ?hr ?_; (case hd => rfl); (case hg => rfl); (case hr => first | (go_simp; done) | (go_simp; rfl)); intro gr hgg w1 hlit hb; have HZ1 := Aside0.mk hlit; have HB1 := Aside0.mk hb; have HGR := Aside0.mk hgg; clear hlit hb hgg))
    have HNB := Aside0.mk (HNB.out gr HGR.out)
    refine (HTK.out w1 HB1.out).mono ?_
    rintro q w2 ⟨rfl, hb⟩
    have HB2 := Aside0.mk (below_then HB1.out HB1.out.size hb)
    have HZ2 := Aside0.mk (below_read hb HZ1.out)
    clear hb
    go_wp2_with (first | ((with_reducible refine gate_dst (N := 5) rfl ?_); refine box_event ?hg (N := 5) ?hd (cs := #[.int .i64 0, .string ⟨#[]⟩, .int .i64 0, .int .i64 0]) (t := 86) ?hr ?_; (case hd => rfl); (case hg => rfl); (case hr => first | (go_simp; done) | (go_simp; rfl)); intro gt hgg w3 hlit hb; have HZT := Aside0.mk hlit; have HB3 := Aside0.mk hb; have HGT := Aside0.mk hgg; clear hlit hb hgg) | ((with_reducible refine gate_store (t := 86) (p := 5) rfl ?_); refine put_val ?hg ?hn 86 (.tmp 5) (.tmp 10) ?ho gt 86 _ (#[.int .i64 t.f0, .string t.f1, .int .i64 t.f2, .int .i64 t.f3]) (.agg (#[.int .i64 t.f0, .string t.f1, .int .i64 t.f2, .int .i64 t.f3])) ?hp ?hx ?hu HZT.out ?ht ?hs ?h1 ?_; (case hg => rfl); (case hn => rfl); (case ho => rfl); (case hp => rfl); (case hx => rfl); (case hu => rfl); (case ht => kernel_rfl); (case hs => rfl); (case h1 => exact tokC_one t); intro w4 hlit hg; have HB4 := Aside0.mk (below_then HB2.out HB2.out.size (made_below HGT.out HB3.out hg)); have HR4 := Aside0.mk (HR.out.on HB4.out); have HG4 := Aside0.mk (grown_of_below HB4.out (some b)); have HZ4 := Aside0.mk (below_read (made_below HGT.out HB3.out hg) HZ2.out); have h0 : w4.cell? ⟨gt, 0, none⟩ = some (.int .i64 t.f0) := (blk_cell hlit 0).trans rfl; have h3 : w4.cell? ⟨b, 3, none⟩ = some (.int .i64 s.e) := (blk_cell HR4.out.blk 3).trans rfl; clear hlit hg))
    refine (HNUM.out w4 HR4.out).mono ?_
    rintro q w5 ⟨rfl, hr, hg⟩
    have HR5 := Aside0.mk hr
    have HG5 := Aside0.mk (grow_trans HG4.out hg)
    have HZ5 := Aside0.mk ((hg.block gr (blk_lt HZ4.out) (fun e => HNB.out (by injection e))).trans HZ4.out)
    clear hr hg
    go_wp2_with (first | ((with_reducible refine gate_store (t := 30) (p := 4) rfl ?_); refine put_val ?hg ?hn 30 (.tmp 4) (.tmp 24) ?ho gr 30 _ (#[.int .i64 1, .int .i64 m.1, .int .i64 0, .string ⟨#[]⟩, .slice none 0 0]) (.agg (#[.int .i64 1, .int .i64 m.1, .int .i64 0, .string ⟨#[]⟩, .slice none 0 0])) ?hp ?hx ?hu HZ5.out ?ht ?hs ?h1 ?_; (case hg => rfl); (case hn => rfl); (case ho => rfl); (case hp => rfl); (case hx => rfl); (case hu => rfl); (case ht => kernel_rfl); (case hs => rfl); (case h1 => exact exC_one _ _ _ _ _ _ _); intro w6 hlit hg; have HT := Aside0.mk hlit; have HGZ := Aside0.mk hg; have HOW := Aside0.mk (own_store HGR.out HB1.out HG5.out hg); have HRZ := Aside0.mk (rd_store HX.out HR5.out HGR.out HB1.out HR.out hg); clear hlit hg))
    (try simp only [Exit.inBlock, Exit.then])
    refine bodyPost_ret (results_cell_row rfl _ _ gr 30 _ (0, 0) _ rfl HT.out Tryd.underlying30 rfl (by kernel_rfl)) rfl ?_
    exact ⟨_, _, rfl, Ex.none _ _ _ _ _ _, HRZ.out, HOW.out⟩
  rw [if_neg k2] at hF
  have e2 : (t.f0 == 1) = false := beq_eq_false_iff_ne.mpr k2
  clear k2
  by_cases k3 : isS ts en s (⟨#[105, 110, 112, 117, 116]⟩ : ByteArray) = true
  · rw [if_pos k3] at hF
    obtain rfl := Option.some.inj hF
    have B5 := Aside0.mk k3
    clear k3 hF h
    go_enter Tryd.func81, Tryd.ntmps81
    go_wp2_with (first | ((with_reducible refine gate_dst (N := 4) rfl ?_); refine box_event ?hg (N := 4) ?hd (cs := #[.int .i64 0, .int .i64 0, .int .i64 0, .string ⟨#[]⟩, .slice none 0 0]) (t := 30) ?hr ?_; (case hd => rfl); (case hg => rfl); (case hr => first | (go_simp; done) | (go_simp; rfl)); intro gr hgg w1 hlit hb; have HZ1 := Aside0.mk hlit; have HB1 := Aside0.mk hb; have HGR := Aside0.mk hgg; clear hlit hb hgg))
    have HNB := Aside0.mk (HNB.out gr HGR.out)
    refine (HTK.out w1 HB1.out).mono ?_
    rintro q w2 ⟨rfl, hb⟩
    have HB2 := Aside0.mk (below_then HB1.out HB1.out.size hb)
    have HZ2 := Aside0.mk (below_read hb HZ1.out)
    clear hb
    go_wp2_with (first | ((with_reducible refine gate_dst (N := 5) rfl ?_); refine box_event ?hg (N := 5) ?hd (cs := #[.int .i64 0, .string ⟨#[]⟩, .int .i64 0, .int .i64 0]) (t := 86) ?hr ?_; (case hd => rfl); (case hg => rfl); (case hr => first | (go_simp; done) | (go_simp; rfl)); intro gt hgg w3 hlit hb; have HZT := Aside0.mk hlit; have HB3 := Aside0.mk hb; have HGT := Aside0.mk hgg; clear hlit hb hgg) | ((with_reducible refine gate_store (t := 86) (p := 5) rfl ?_); refine put_val ?hg ?hn 86 (.tmp 5) (.tmp 10) ?ho gt 86 _ (#[.int .i64 t.f0, .string t.f1, .int .i64 t.f2, .int .i64 t.f3]) (.agg (#[.int .i64 t.f0, .string t.f1, .int .i64 t.f2, .int .i64 t.f3])) ?hp ?hx ?hu HZT.out ?ht ?hs ?h1 ?_; (case hg => rfl); (case hn => rfl); (case ho => rfl); (case hp => rfl); (case hx => rfl); (case hu => rfl); (case ht => kernel_rfl); (case hs => rfl); (case h1 => exact tokC_one t); intro w4 hlit hg; have HB4 := Aside0.mk (below_then HB2.out HB2.out.size (made_below HGT.out HB3.out hg)); have HR4 := Aside0.mk (HR.out.on HB4.out); have HG4 := Aside0.mk (grown_of_below HB4.out (some b)); have HZ4 := Aside0.mk (below_read (made_below HGT.out HB3.out hg) HZ2.out); have h0 : w4.cell? ⟨gt, 0, none⟩ = some (.int .i64 t.f0) := (blk_cell hlit 0).trans rfl; have h3 : w4.cell? ⟨b, 3, none⟩ = some (.int .i64 s.e) := (blk_cell HR4.out.blk 3).trans rfl; clear hlit hg))
    have HT5 := Aside0.mk (take_calls w0 A c ts en b HX.out s (⟨#[105, 110, 112, 117, 116]⟩ : ByteArray) w4 HR4.out)
    unfold takeS at HT5
    rw [B5.out, if_pos rfl] at HT5
    refine HT5.out.mono ?_
    rintro q w5 ⟨rfl, hr, hg⟩
    have HR5 := Aside0.mk hr
    have HG5 := Aside0.mk (grow_trans HG4.out hg)
    have HZ5 := Aside0.mk ((hg.block gr (blk_lt HZ4.out) (fun e => HNB.out (by injection e))).trans HZ4.out)
    clear hr hg HT5
    go_wp2_with (first | ((with_reducible refine gate_store (t := 30) (p := 4) rfl ?_); refine put_val ?hg ?hn 30 (.tmp 4) (.tmp 28) ?ho gr 30 _ (#[.int .i64 4, .int .i64 0, .int .i64 0, .string ⟨#[]⟩, .slice none 0 0]) (.agg (#[.int .i64 4, .int .i64 0, .int .i64 0, .string ⟨#[]⟩, .slice none 0 0])) ?hp ?hx ?hu HZ5.out ?ht ?hs ?h1 ?_; (case hg => rfl); (case hn => rfl); (case ho => rfl); (case hp => rfl); (case hx => rfl); (case hu => rfl); (case ht => kernel_rfl); (case hs => rfl); (case h1 => exact exC_one _ _ _ _ _ _ _); intro w6 hlit hg; have HT := Aside0.mk hlit; have HGZ := Aside0.mk hg; have HOW := Aside0.mk (own_store HGR.out HB1.out HG5.out hg); have HRZ := Aside0.mk (rd_store HX.out HR5.out HGR.out HB1.out HR.out hg); clear hlit hg))
    (try simp only [Exit.inBlock, Exit.then])
    refine bodyPost_ret (results_cell_row rfl _ _ gr 30 _ (0, 0) _ rfl HT.out Tryd.underlying30 rfl (by kernel_rfl)) rfl ?_
    exact ⟨_, _, rfl, Ex.none _ _ _ _ _ _, HRZ.out, HOW.out⟩
  rw [if_neg k3] at hF
  by_cases k4 : isS ts en s (⟨#[40]⟩ : ByteArray) = true
  · rw [if_pos k4] at hF
    obtain ⟨r1, hr1, hF⟩ := Option.bind_eq_some_iff.1 hF
    obtain rfl := Option.some.inj hF
    have HU := Aside0.mk (fun (W : World) (hR : Rd w0 A c ts en b (stepS s) W) => ihE (stepS s) (deep + 1) W r1 hR (by omega) (by push_cast at h1; omega) hr1)
    have B5 := Aside0.mk (Bool.eq_false_iff.2 k3)
    have B6 := Aside0.mk k4
    clear k3 k4 hF h hr1
    go_enter Tryd.func81, Tryd.ntmps81
    go_wp2_with (first | ((with_reducible refine gate_dst (N := 4) rfl ?_); refine box_event ?hg (N := 4) ?hd (cs := #[.int .i64 0, .int .i64 0, .int .i64 0, .string ⟨#[]⟩, .slice none 0 0]) (t := 30) ?hr ?_; (case hd => rfl); (case hg => rfl); (case hr => first | (go_simp; done) | (go_simp; rfl)); intro gr hgg w1 hlit hb; have HZ1 := Aside0.mk hlit; have HB1 := Aside0.mk hb; have HGR := Aside0.mk hgg; clear hlit hb hgg))
    have HNB := Aside0.mk (HNB.out gr HGR.out)
    refine (HTK.out w1 HB1.out).mono ?_
    rintro q w2 ⟨rfl, hb⟩
    have HB2 := Aside0.mk (below_then HB1.out HB1.out.size hb)
    have HZ2 := Aside0.mk (below_read hb HZ1.out)
    clear hb
    go_wp2_with (first | ((with_reducible refine gate_dst (N := 5) rfl ?_); refine box_event ?hg (N := 5) ?hd (cs := #[.int .i64 0, .string ⟨#[]⟩, .int .i64 0, .int .i64 0]) (t := 86) ?hr ?_; (case hd => rfl); (case hg => rfl); (case hr => first | (go_simp; done) | (go_simp; rfl)); intro gt hgg w3 hlit hb; have HZT := Aside0.mk hlit; have HB3 := Aside0.mk hb; have HGT := Aside0.mk hgg; clear hlit hb hgg) | ((with_reducible refine gate_store (t := 86) (p := 5) rfl ?_); refine put_val ?hg ?hn 86 (.tmp 5) (.tmp 10) ?ho gt 86 _ (#[.int .i64 t.f0, .string t.f1, .int .i64 t.f2, .int .i64 t.f3]) (.agg (#[.int .i64 t.f0, .string t.f1, .int .i64 t.f2, .int .i64 t.f3])) ?hp ?hx ?hu HZT.out ?ht ?hs ?h1 ?_; (case hg => rfl); (case hn => rfl); (case ho => rfl); (case hp => rfl); (case hx => rfl); (case hu => rfl); (case ht => kernel_rfl); (case hs => rfl); (case h1 => exact tokC_one t); intro w4 hlit hg; have HB4 := Aside0.mk (below_then HB2.out HB2.out.size (made_below HGT.out HB3.out hg)); have HR4 := Aside0.mk (HR.out.on HB4.out); have HG4 := Aside0.mk (grown_of_below HB4.out (some b)); have HZ4 := Aside0.mk (below_read (made_below HGT.out HB3.out hg) HZ2.out); have h0 : w4.cell? ⟨gt, 0, none⟩ = some (.int .i64 t.f0) := (blk_cell hlit 0).trans rfl; have h3 : w4.cell? ⟨b, 3, none⟩ = some (.int .i64 s.e) := (blk_cell HR4.out.blk 3).trans rfl; clear hlit hg))
    have HT5 := Aside0.mk (take_calls w0 A c ts en b HX.out s (⟨#[105, 110, 112, 117, 116]⟩ : ByteArray) w4 HR4.out)
    unfold takeS at HT5
    rw [B5.out, if_neg (by decide)] at HT5
    refine HT5.out.mono ?_
    rintro q w5 ⟨rfl, hr, hg⟩
    have HR5 := Aside0.mk hr
    have HG5 := Aside0.mk (grow_trans HG4.out hg)
    have HZ5 := Aside0.mk ((hg.block gr (blk_lt HZ4.out) (fun e => HNB.out (by injection e))).trans HZ4.out)
    clear hr hg HT5
    go_wp2_with fail
    have HT6 := Aside0.mk (take_calls w0 A c ts en b HX.out s (⟨#[40]⟩ : ByteArray) w5 HR5.out)
    unfold takeS at HT6
    rw [B6.out, if_pos rfl] at HT6
    refine HT6.out.mono ?_
    rintro q w6 ⟨rfl, hr, hg⟩
    have HR6 := Aside0.mk hr
    have HG6 := Aside0.mk (grow_trans HG5.out hg)
    have HZ6 := Aside0.mk ((hg.block gr (blk_lt HZ5.out) (fun e => HNB.out (by injection e))).trans HZ5.out)
    clear hr hg HT6
    go_wp2_with fail
    refine (HU.out w6 HR6.out).mono ?_
    rintro q w7 ⟨K, d, rfl, hx, hr, hg⟩
    have HE7 := Aside0.mk hx
    have HR7 := Aside0.mk hr
    have HG7 := Aside0.mk (grow_trans HG6.out hg)
    have HZ7 := Aside0.mk ((hg.block gr (blk_lt HZ6.out) (fun e => HNB.out (by injection e))).trans HZ6.out)
    clear hx hr hg
    go_wp2_with (first | ((with_reducible refine gate_dst (N := 6) rfl ?_); refine box_event ?hg (N := 6) ?hd (cs := #[.int .i64 0, .int .i64 0, .int .i64 0, .string ⟨#[]⟩, .slice none 0 0]) (t := 30) ?hr ?_; (case hd => rfl); (case hg => rfl); (case hr => first | (go_simp; done) | (go_simp; rfl)); intro gx hgg w8 hlit hb; have HXZ := Aside0.mk hlit; have HB8 := Aside0.mk hb; have HGX := Aside0.mk hgg; clear hlit hb hgg) | ((with_reducible refine gate_store (t := 30) (p := 6) rfl ?_); refine put_val ?hg ?hn 30 (.tmp 6) (.tmp 35) ?ho gx 30 _ (#[.int .i64 r1.1.f0, .int .i64 r1.1.f1, .int .i64 r1.1.f2, .string r1.1.f3, .slice K r1.1.f4.length d]) (.agg (#[.int .i64 r1.1.f0, .int .i64 r1.1.f1, .int .i64 r1.1.f2, .string r1.1.f3, .slice K r1.1.f4.length d])) ?hp ?hx ?hu HXZ.out ?ht ?hs ?h1 ?_; (case hg => rfl); (case hn => rfl); (case ho => rfl); (case hp => rfl); (case hx => rfl); (case hu => rfl); (case ht => kernel_rfl); (case hs => rfl); (case h1 => exact exC_one _ _ _ _ _ _ _); intro w9 hlit hg; have HXT := Aside0.mk hlit; have HBX := Aside0.mk (made_below HGX.out HB8.out hg); have HE9 := Aside0.mk (HE7.out.made HGX.out HB8.out hg); have HR9 := Aside0.mk (HR7.out.on HBX.out); have HG9 := Aside0.mk (grow_trans HG7.out (grown_of_below HBX.out _)); have HZ9 := Aside0.mk (below_read HBX.out HZ7.out); clear hlit hg))
    refine (need_calls w0 A c ts en b HX.out r1.2 (⟨#[41]⟩ : ByteArray) w9 HR9.out).mono ?_
    rintro q w10 ⟨rfl, hr, hg⟩
    have HE10 := Aside0.mk (HE9.out.grown (blk_lt HR6.out.blk) hg)
    have HR10 := Aside0.mk hr
    have HG10 := Aside0.mk (grow_trans HG9.out hg)
    have HZ10 := Aside0.mk ((hg.block gr (blk_lt HZ9.out) (fun e => HNB.out (by injection e))).trans HZ9.out)
    have HX10 := Aside0.mk ((hg.block gx (blk_lt HXT.out) (fun e => by injection e with e; have h1 := blk_lt HR7.out.blk; have h2 := HGX.out; omega)).trans HXT.out)
    clear hr hg
    go_wp2_with (first | ((with_reducible refine gate_dst (N := 38) rfl ?_); (try (refine gate_guard (by rfl) ?_; dsimp only)); refine wpList_load_row ?hg 30 (.tmp 6) ?ho gx ?hx 30 _ (0, 0) _ HX10.out Tryd.underlying30 ?hd ?hi ?_; (case hg => rfl); (case ho => rfl); (case hx => rfl); (case hd => rfl); (case hi => kernel_rfl)) | ((with_reducible refine gate_store (t := 30) (p := 4) rfl ?_); refine put_val ?hg ?hn 30 (.tmp 4) (.tmp 38) ?ho gr 30 _ (#[.int .i64 r1.1.f0, .int .i64 r1.1.f1, .int .i64 r1.1.f2, .string r1.1.f3, .slice K r1.1.f4.length d]) (.agg (#[.int .i64 r1.1.f0, .int .i64 r1.1.f1, .int .i64 r1.1.f2, .string r1.1.f3, .slice K r1.1.f4.length d])) ?hp ?hx ?hu HZ10.out ?ht ?hs ?h1 ?_; (case hg => rfl); (case hn => rfl); (case ho => rfl); (case hp => rfl); (case hx => rfl); (case hu => rfl); (case ht => kernel_rfl); (case hs => rfl); (case h1 => exact exC_one _ _ _ _ _ _ _); intro w11 hlit hg; have HT := Aside0.mk hlit; have HGZ := Aside0.mk hg; have HOW := Aside0.mk (own_store HGR.out HB1.out HG10.out hg); have HRZ := Aside0.mk (rd_store HX.out HR10.out HGR.out HB1.out HR.out hg); clear hlit hg))
    (try simp only [Exit.inBlock, Exit.then])
    refine bodyPost_ret (results_cell_row rfl _ _ gr 30 _ (0, 0) _ rfl HT.out Tryd.underlying30 rfl (by kernel_rfl)) rfl ?_
    exact ⟨_, _, rfl, (HE10.out.grown (blk_lt HZ6.out) HGZ.out).less HG6.out.size, HRZ.out, HOW.out⟩
  rw [if_neg k4] at hF
  by_cases k5 : isS ts en (nameS ts en s).2 (⟨#[91]⟩ : ByteArray) = true
  · rw [if_pos k5] at hF
    obtain ⟨r1, hr1, hF⟩ := Option.bind_eq_some_iff.1 hF
    obtain rfl := Option.some.inj hF
    have HU := Aside0.mk (fun (W : World) (hR : Rd w0 A c ts en b (stepS (nameS ts en s).2) W) => ihE (stepS (nameS ts en s).2) (deep + 1) W r1 hR (by omega) (by push_cast at h1; omega) hr1)
    have B5 := Aside0.mk (Bool.eq_false_iff.2 k3)
    have B6 := Aside0.mk (Bool.eq_false_iff.2 k4)
    have HNA := Aside0.mk (fun (W : World) (hb : Rd w0 A c ts en b s W) => name_calls w0 A c ts en b HX.out s W hb)
    have B8 := Aside0.mk k5
    obtain ⟨m, hm⟩ : ∃ m, nameS ts en s = m := ⟨_, rfl⟩
    rw [hm] at HNA B8 HU ⊢
    clear k3 k4 k5 hF h hr1 hm
    go_enter Tryd.func81, Tryd.ntmps81
    go_wp2_with (first | ((with_reducible refine gate_dst (N := 4) rfl ?_); refine box_event ?hg (N := 4) ?hd (cs := #[.int .i64 0, .int .i64 0, .int .i64 0, .string ⟨#[]⟩, .slice none 0 0]) (t := 30) ?hr ?_; (case hd => rfl); (case hg => rfl); (case hr => first | (go_simp; done) | (go_simp; rfl)); intro gr hgg w1 hlit hb; have HZ1 := Aside0.mk hlit; have HB1 := Aside0.mk hb; have HGR := Aside0.mk hgg; clear hlit hb hgg))
    have HNB := Aside0.mk (HNB.out gr HGR.out)
    refine (HTK.out w1 HB1.out).mono ?_
    rintro q w2 ⟨rfl, hb⟩
    have HB2 := Aside0.mk (below_then HB1.out HB1.out.size hb)
    have HZ2 := Aside0.mk (below_read hb HZ1.out)
    clear hb
    go_wp2_with (first | ((with_reducible refine gate_dst (N := 5) rfl ?_); refine box_event ?hg (N := 5) ?hd (cs := #[.int .i64 0, .string ⟨#[]⟩, .int .i64 0, .int .i64 0]) (t := 86) ?hr ?_; (case hd => rfl); (case hg => rfl); (case hr => first | (go_simp; done) | (go_simp; rfl)); intro gt hgg w3 hlit hb; have HZT := Aside0.mk hlit; have HB3 := Aside0.mk hb; have HGT := Aside0.mk hgg; clear hlit hb hgg) | ((with_reducible refine gate_store (t := 86) (p := 5) rfl ?_); refine put_val ?hg ?hn 86 (.tmp 5) (.tmp 10) ?ho gt 86 _ (#[.int .i64 t.f0, .string t.f1, .int .i64 t.f2, .int .i64 t.f3]) (.agg (#[.int .i64 t.f0, .string t.f1, .int .i64 t.f2, .int .i64 t.f3])) ?hp ?hx ?hu HZT.out ?ht ?hs ?h1 ?_; (case hg => rfl); (case hn => rfl); (case ho => rfl); (case hp => rfl); (case hx => rfl); (case hu => rfl); (case ht => kernel_rfl); (case hs => rfl); (case h1 => exact tokC_one t); intro w4 hlit hg; have HB4 := Aside0.mk (below_then HB2.out HB2.out.size (made_below HGT.out HB3.out hg)); have HR4 := Aside0.mk (HR.out.on HB4.out); have HG4 := Aside0.mk (grown_of_below HB4.out (some b)); have HZ4 := Aside0.mk (below_read (made_below HGT.out HB3.out hg) HZ2.out); have h0 : w4.cell? ⟨gt, 0, none⟩ = some (.int .i64 t.f0) := (blk_cell hlit 0).trans rfl; have h3 : w4.cell? ⟨b, 3, none⟩ = some (.int .i64 s.e) := (blk_cell HR4.out.blk 3).trans rfl; clear hlit hg))
    have HT5 := Aside0.mk (take_calls w0 A c ts en b HX.out s (⟨#[105, 110, 112, 117, 116]⟩ : ByteArray) w4 HR4.out)
    unfold takeS at HT5
    rw [B5.out, if_neg (by decide)] at HT5
    refine HT5.out.mono ?_
    rintro q w5 ⟨rfl, hr, hg⟩
    have HR5 := Aside0.mk hr
    have HG5 := Aside0.mk (grow_trans HG4.out hg)
    have HZ5 := Aside0.mk ((hg.block gr (blk_lt HZ4.out) (fun e => HNB.out (by injection e))).trans HZ4.out)
    clear hr hg HT5
    go_wp2_with fail
    have HT6 := Aside0.mk (take_calls w0 A c ts en b HX.out s (⟨#[40]⟩ : ByteArray) w5 HR5.out)
    unfold takeS at HT6
    rw [B6.out, if_neg (by decide)] at HT6
    refine HT6.out.mono ?_
    rintro q w6 ⟨rfl, hr, hg⟩
    have HR6 := Aside0.mk hr
    have HG6 := Aside0.mk (grow_trans HG5.out hg)
    have HZ6 := Aside0.mk ((hg.block gr (blk_lt HZ5.out) (fun e => HNB.out (by injection e))).trans HZ5.out)
    clear hr hg HT6
    go_wp2_with fail
    refine (HNA.out w6 HR6.out).mono ?_
    rintro q w7 ⟨rfl, hr, hg⟩
    have HR7 := Aside0.mk hr
    have HG7 := Aside0.mk (grow_trans HG6.out hg)
    have HZ7 := Aside0.mk ((hg.block gr (blk_lt HZ6.out) (fun e => HNB.out (by injection e))).trans HZ6.out)
    clear hr hg
    go_wp2_with fail
    have HT8 := Aside0.mk (take_calls w0 A c ts en b HX.out m.2 (⟨#[91]⟩ : ByteArray) w7 HR7.out)
    unfold takeS at HT8
    rw [B8.out, if_pos rfl] at HT8
    refine HT8.out.mono ?_
    rintro q w8 ⟨rfl, hr, hg⟩
    have HR8 := Aside0.mk hr
    have HG8 := Aside0.mk (grow_trans HG7.out hg)
    have HZ8 := Aside0.mk ((hg.block gr (blk_lt HZ7.out) (fun e => HNB.out (by injection e))).trans HZ7.out)
    clear hr hg HT8
    go_wp2_with fail
    refine (HU.out w8 HR8.out).mono ?_
    rintro q w9 ⟨K, d, rfl, hx, hr, hg⟩
    have HS9 := Aside0.mk hg.size
    have HE9 := Aside0.mk hx
    have HR9 := Aside0.mk hr
    have HG9 := Aside0.mk (grow_trans HG8.out hg)
    have HZ9 := Aside0.mk ((hg.block gr (blk_lt HZ8.out) (fun e => HNB.out (by injection e))).trans HZ8.out)
    clear hx hr hg
    go_wp2_with (first | ((with_reducible refine gate_dst (N := 8) rfl ?_); refine box_event ?hg (N := 8) ?hd (cs := #[.int .i64 0, .int .i64 0, .int .i64 0, .string ⟨#[]⟩, .slice none 0 0]) (t := 30) ?hr ?_; (case hd => rfl); (case hg => rfl); (case hr => first | (go_simp; done) | (go_simp; rfl)); intro gx hgg w10 hlit hb; have HXZ := Aside0.mk hlit; have HB10 := Aside0.mk hb; have HGX := Aside0.mk hgg; clear hlit hb hgg) | ((with_reducible refine gate_store (t := 30) (p := 8) rfl ?_); refine put_val ?hg ?hn 30 (.tmp 8) (.tmp 46) ?ho gx 30 _ (#[.int .i64 r1.1.f0, .int .i64 r1.1.f1, .int .i64 r1.1.f2, .string r1.1.f3, .slice K r1.1.f4.length d]) (.agg (#[.int .i64 r1.1.f0, .int .i64 r1.1.f1, .int .i64 r1.1.f2, .string r1.1.f3, .slice K r1.1.f4.length d])) ?hp ?hx ?hu HXZ.out ?ht ?hs ?h1 ?_; (case hg => rfl); (case hn => rfl); (case ho => rfl); (case hp => rfl); (case hx => rfl); (case hu => rfl); (case ht => kernel_rfl); (case hs => rfl); (case h1 => exact exC_one _ _ _ _ _ _ _); intro w11 hlit hg; have HXT := Aside0.mk hlit; have HS11 := Aside0.mk (Nat.le_trans HS9.out (made_below HGX.out HB10.out hg).size); have HBX := Aside0.mk (made_below HGX.out HB10.out hg); have HE11 := Aside0.mk (HE9.out.made HGX.out HB10.out hg); have HR11 := Aside0.mk (HR9.out.on HBX.out); have HG11 := Aside0.mk (grow_trans HG9.out (grown_of_below HBX.out _)); have HZ11 := Aside0.mk (below_read HBX.out HZ9.out); clear hlit hg))
    refine (need_calls w0 A c ts en b HX.out r1.2 (⟨#[93]⟩ : ByteArray) w11 HR11.out).mono ?_
    rintro q w12 ⟨rfl, hr, hg⟩
    have HS12 := Aside0.mk (Nat.le_trans HS11.out hg.size)
    have HE12 := Aside0.mk (HE11.out.grown (blk_lt HR8.out.blk) hg)
    have HR12 := Aside0.mk hr
    have HG12 := Aside0.mk (grow_trans HG11.out hg)
    have HZ12 := Aside0.mk ((hg.block gr (blk_lt HZ11.out) (fun e => HNB.out (by injection e))).trans HZ11.out)
    have HX12 := Aside0.mk ((hg.block gx (blk_lt HXT.out) (fun e => by injection e with e; have h1 := blk_lt HR9.out.blk; have h2 := HGX.out; omega)).trans HXT.out)
    clear hr hg
    go_wp2_with (first | ((with_reducible refine gate_dst (N := 50) rfl ?_); (try (refine gate_guard (by rfl) ?_; dsimp only)); refine wpList_load_row ?hg 30 (.tmp 8) ?ho gx ?hx 30 _ (0, 0) _ HX12.out Tryd.underlying30 ?hd ?hi ?_; (case hg => rfl); (case ho => rfl); (case hx => rfl); (case hd => rfl); (case hi => kernel_rfl)) | ((with_reducible refine gate_dst (N := 51) rfl ?_); refine lit_ev2 (n := 1) ?hg (N := 51) ?hd (cs := #[.int .i64 r1.1.f0, .int .i64 r1.1.f1, .int .i64 r1.1.f2, .string r1.1.f3, .slice K r1.1.f4.length d]) (t := 30) ?hr ?_; (case hd => rfl); (case hg => rfl); (case hr => first | (go_simp; done) | (go_simp; rfl)); intro g hgg w13 hlit hb; have HR13 := Aside0.mk (HR12.out.on hb); have HG13 := Aside0.mk (grow_trans HG12.out (grown_of_below hb _)); have HZ13 := Aside0.mk (below_read hb HZ12.out); have HE13 := Aside0.mk ((HE12.out.on hb).kid (by rw [hgg]; exact HS12.out) hlit 3 0 0 m.1); clear hlit hb hgg) | ((with_reducible refine gate_store (t := 30) (p := 4) rfl ?_); refine put_val ?hg ?hn 30 (.tmp 4) (.tmp 52) ?ho gr 30 _ (#[.int .i64 3, .int .i64 0, .int .i64 0, .string m.1, .slice (some ⟨g, 0, none⟩) 1 1]) (.agg (#[.int .i64 3, .int .i64 0, .int .i64 0, .string m.1, .slice (some ⟨g, 0, none⟩) 1 1])) ?hp ?hx ?hu HZ13.out ?ht ?hs ?h1 ?_; (case hg => rfl); (case hn => rfl); (case ho => rfl); (case hp => rfl); (case hx => rfl); (case hu => rfl); (case ht => kernel_rfl); (case hs => rfl); (case h1 => exact exC_one _ _ _ _ _ _ _); intro w14 hlit hg; have HT := Aside0.mk hlit; have HGZ := Aside0.mk hg; have HOW := Aside0.mk (own_store HGR.out HB1.out HG13.out hg); have HRZ := Aside0.mk (rd_store HX.out HR13.out HGR.out HB1.out HR.out hg); clear hlit hg))
    (try simp only [Exit.inBlock, Exit.then])
    refine bodyPost_ret (results_cell_row rfl _ _ gr 30 _ (0, 0) _ rfl HT.out Tryd.underlying30 rfl (by kernel_rfl)) rfl ?_
    exact ⟨_, _, rfl, (HE13.out.grown (blk_lt HZ8.out) HGZ.out).less HG8.out.size, HRZ.out, HOW.out⟩
  rw [if_neg k5] at hF
  obtain rfl := Option.some.inj hF
  have B5 := Aside0.mk (Bool.eq_false_iff.2 k3)
  have B6 := Aside0.mk (Bool.eq_false_iff.2 k4)
  have HNA := Aside0.mk (fun (W : World) (hb : Rd w0 A c ts en b s W) => name_calls w0 A c ts en b HX.out s W hb)
  have B8 := Aside0.mk (Bool.eq_false_iff.2 k5)
  obtain ⟨m, hm⟩ : ∃ m, nameS ts en s = m := ⟨_, rfl⟩
  rw [hm] at HNA B8 ⊢
  clear k3 k4 k5 hF h hm
  go_enter Tryd.func81, Tryd.ntmps81
  go_wp2_with (first | ((with_reducible refine gate_dst (N := 4) rfl ?_); refine box_event ?hg (N := 4) ?hd (cs := #[.int .i64 0, .int .i64 0, .int .i64 0, .string ⟨#[]⟩, .slice none 0 0]) (t := 30) ?hr ?_; (case hd => rfl); (case hg => rfl); (case hr => first | (go_simp; done) | (go_simp; rfl)); intro gr hgg w1 hlit hb; have HZ1 := Aside0.mk hlit; have HB1 := Aside0.mk hb; have HGR := Aside0.mk hgg; clear hlit hb hgg))
  have HNB := Aside0.mk (HNB.out gr HGR.out)
  refine (HTK.out w1 HB1.out).mono ?_
  rintro q w2 ⟨rfl, hb⟩
  have HB2 := Aside0.mk (below_then HB1.out HB1.out.size hb)
  have HZ2 := Aside0.mk (below_read hb HZ1.out)
  clear hb
  go_wp2_with (first | ((with_reducible refine gate_dst (N := 5) rfl ?_); refine box_event ?hg (N := 5) ?hd (cs := #[.int .i64 0, .string ⟨#[]⟩, .int .i64 0, .int .i64 0]) (t := 86) ?hr ?_; (case hd => rfl); (case hg => rfl); (case hr => first | (go_simp; done) | (go_simp; rfl)); intro gt hgg w3 hlit hb; have HZT := Aside0.mk hlit; have HB3 := Aside0.mk hb; have HGT := Aside0.mk hgg; clear hlit hb hgg) | ((with_reducible refine gate_store (t := 86) (p := 5) rfl ?_); refine put_val ?hg ?hn 86 (.tmp 5) (.tmp 10) ?ho gt 86 _ (#[.int .i64 t.f0, .string t.f1, .int .i64 t.f2, .int .i64 t.f3]) (.agg (#[.int .i64 t.f0, .string t.f1, .int .i64 t.f2, .int .i64 t.f3])) ?hp ?hx ?hu HZT.out ?ht ?hs ?h1 ?_; (case hg => rfl); (case hn => rfl); (case ho => rfl); (case hp => rfl); (case hx => rfl); (case hu => rfl); (case ht => kernel_rfl); (case hs => rfl); (case h1 => exact tokC_one t); intro w4 hlit hg; have HB4 := Aside0.mk (below_then HB2.out HB2.out.size (made_below HGT.out HB3.out hg)); have HR4 := Aside0.mk (HR.out.on HB4.out); have HG4 := Aside0.mk (grown_of_below HB4.out (some b)); have HZ4 := Aside0.mk (below_read (made_below HGT.out HB3.out hg) HZ2.out); have h0 : w4.cell? ⟨gt, 0, none⟩ = some (.int .i64 t.f0) := (blk_cell hlit 0).trans rfl; have h3 : w4.cell? ⟨b, 3, none⟩ = some (.int .i64 s.e) := (blk_cell HR4.out.blk 3).trans rfl; clear hlit hg))
  have HT5 := Aside0.mk (take_calls w0 A c ts en b HX.out s (⟨#[105, 110, 112, 117, 116]⟩ : ByteArray) w4 HR4.out)
  unfold takeS at HT5
  rw [B5.out, if_neg (by decide)] at HT5
  refine HT5.out.mono ?_
  rintro q w5 ⟨rfl, hr, hg⟩
  have HR5 := Aside0.mk hr
  have HG5 := Aside0.mk (grow_trans HG4.out hg)
  have HZ5 := Aside0.mk ((hg.block gr (blk_lt HZ4.out) (fun e => HNB.out (by injection e))).trans HZ4.out)
  clear hr hg HT5
  go_wp2_with fail
  have HT6 := Aside0.mk (take_calls w0 A c ts en b HX.out s (⟨#[40]⟩ : ByteArray) w5 HR5.out)
  unfold takeS at HT6
  rw [B6.out, if_neg (by decide)] at HT6
  refine HT6.out.mono ?_
  rintro q w6 ⟨rfl, hr, hg⟩
  have HR6 := Aside0.mk hr
  have HG6 := Aside0.mk (grow_trans HG5.out hg)
  have HZ6 := Aside0.mk ((hg.block gr (blk_lt HZ5.out) (fun e => HNB.out (by injection e))).trans HZ5.out)
  clear hr hg HT6
  go_wp2_with fail
  refine (HNA.out w6 HR6.out).mono ?_
  rintro q w7 ⟨rfl, hr, hg⟩
  have HR7 := Aside0.mk hr
  have HG7 := Aside0.mk (grow_trans HG6.out hg)
  have HZ7 := Aside0.mk ((hg.block gr (blk_lt HZ6.out) (fun e => HNB.out (by injection e))).trans HZ6.out)
  clear hr hg
  go_wp2_with fail
  have HT8 := Aside0.mk (take_calls w0 A c ts en b HX.out m.2 (⟨#[91]⟩ : ByteArray) w7 HR7.out)
  unfold takeS at HT8
  rw [B8.out, if_neg (by decide)] at HT8
  refine HT8.out.mono ?_
  rintro q w8 ⟨rfl, hr, hg⟩
  have HR8 := Aside0.mk hr
  have HG8 := Aside0.mk (grow_trans HG7.out hg)
  have HZ8 := Aside0.mk ((hg.block gr (blk_lt HZ7.out) (fun e => HNB.out (by injection e))).trans HZ7.out)
  clear hr hg HT8
  go_wp2_with (first | ((with_reducible refine gate_store (t := 30) (p := 4) rfl ?_); refine put_val ?hg ?hn 30 (.tmp 4) (.tmp 54) ?ho gr 30 _ (#[.int .i64 2, .int .i64 0, .int .i64 0, .string m.1, .slice none 0 0]) (.agg (#[.int .i64 2, .int .i64 0, .int .i64 0, .string m.1, .slice none 0 0])) ?hp ?hx ?hu HZ8.out ?ht ?hs ?h1 ?_; (case hg => rfl); (case hn => rfl); (case ho => rfl); (case hp => rfl); (case hx => rfl); (case hu => rfl); (case ht => kernel_rfl); (case hs => rfl); (case h1 => exact exC_one _ _ _ _ _ _ _); intro w9 hlit hg; have HT := Aside0.mk hlit; have HGZ := Aside0.mk hg; have HOW := Aside0.mk (own_store HGR.out HB1.out HG8.out hg); have HRZ := Aside0.mk (rd_store HX.out HR8.out HGR.out HB1.out HR.out hg); clear hlit hg))
  (try simp only [Exit.inBlock, Exit.then])
  refine bodyPost_ret (results_cell_row rfl _ _ gr 30 _ (0, 0) _ rfl HT.out Tryd.underlying30 rfl (by kernel_rfl)) rfl ?_
  exact ⟨_, _, rfl, Ex.none _ _ _ _ _ _, HRZ.out, HOW.out⟩
section
variable {P : Program} {ops : Array Oper} {o : Oper} {a : Act} {Q : Exit → Act → World → Prop} {Kc : Act → World → Prop}
theorem put_step {W : World} (hw : Region.wanted o (yielded ops a.tmps) = true) (hN : o.dst = none) (t : TypeId) (p x : Operand) (ho : o.op = .store t p x) (g : Nat) (e : TypeId) (cur seg : Array Value) (v : Value)
    (hp : a.eval p = .pointer (some ⟨g, 0, none⟩)) (hx : a.eval x = v) (hu : v.cells = seg) (hh : W.heap[g]? = some (.cells cur e (0, 0))) (ht : (P.info? t).map (·.size) = some seg.size)
    (hs : seg.size = cur.size) (h1 : ∀ q ∈ seg.toList, q.oneCell' = true)
    (h : ∀ w', w'.heap[g]? = some (.cells seg e (0, 0)) → W.grownBy w' (some g) → Kc a w') : if Region.wanted o (yielded ops a.tmps) = true then Oper.wp P o a W Kc Q else Kc (a.put none undef) W := by
  have hrun : (Instr.storeAt t (.pointer (some ⟨g, 0, none⟩)) v).run P W = .ok () (W.setCells g 0 seg.toList) :=
    run_store_run t v seg.toList hh (by rw [hu]) (by rw [Array.length_toList]; exact ht) (by rw [Array.length_toList]; omega) h1
  refine skip_ hw hN (w1 := W.setCells g 0 seg.toList) ?_ (h _ ?_ ?_)
  · unfold execOp
    simp only [ho, hp, hx, Sem.run_bind, Sem.run_pure, Result.andThen_ok, hrun]
  · obtain ⟨cur', h3, h4, h5⟩ := setCells_row seg.toList 0 W cur hh (by rw [Array.length_toList]; omega)
    rw [h3]
    have : cur' = seg := by
      apply Array.toList_inj.1
      rw [h5]
      simp only [List.take_zero, List.nil_append, Nat.zero_add, Array.length_toList]
      rw [List.drop_eq_nil_of_le (by rw [Array.length_toList]; omega), List.append_nil]
    rw [this]
  · obtain ⟨s1, s2, s3, s4⟩ := setCells_same g seg.toList 0 W
    exact ⟨s1, s2, s3, by rw [s4]; exact Nat.le_refl _, fun k _ hk => setCells_far seg.toList 0 k (fun e => hk (by rw [e]))⟩
end
/-- An expression's row, in blocks from 'base' on, none of them ga. -/
structure Ey (base ga : Nat) (x : S30) (K : Option Addr) (d : Nat) (w : World) : Prop where
  cap : x.f4.length ≤ d
  row : Kd.F k30 w (fun k => base ≤ k ∧ k ≠ ga) K x.f4.length x.f4
theorem Ey.of {base ga : Nat} {x : S30} {K : Option Addr} {d : Nat} {w w1 w2 : World} (h : Ex base x K d w) (hg : ga = w.heap.size) (hb : Below w.heap.size w w1) (hs : w1.grownBy w2 (some ga)) : Ey base ga x K d w2 :=
  ⟨h.cap, F_mono (F_on (F_bound h.row) (fun k hk hl => (hs.block k (Nat.lt_of_lt_of_le hl hb.size) (fun e => by injection e with e; omega)).trans (hb.block k hl)) (Nat.le_trans hb.size hs.size)) (fun k hk _ => ⟨hk.1, by have := hk.2; omega⟩)⟩
theorem Ey.grown {base ga b : Nat} {x : S30} {K : Option Addr} {d : Nat} {w w' : World} (h : Ey base ga x K d w) (hb : b < base) (hg : w.grownBy w' (some b)) : Ey base ga x K d w' :=
  ⟨h.cap, F_on h.row (fun k hk hl => hg.block k hl (fun e => by injection e with e; have := hk.1; omega)) hg.size⟩
theorem Ey.on {base ga : Nat} {x : S30} {K : Option Addr} {d : Nat} {w w' : World} (h : Ey base ga x K d w) (hb : Below w.heap.size w w') : Ey base ga x K d w' := ⟨h.cap, F_on h.row (fun k _ hl => hb.block k hl) hb.size⟩
theorem Ey.ex {base ga : Nat} {x : S30} {K : Option Addr} {d : Nat} {w : World} (h : Ey base ga x K d w) : Ex base x K d w := ⟨h.cap, F_mono h.row (fun k hk _ => hk.1)⟩
theorem Ey.FK {base ga : Nat} {x : S30} {K : Option Addr} {d : Nat} {w : World} (h : Ey base ga x K d w) : Kd.FK k30 w (fun k => base ≤ k ∧ k ≠ ga) x [.int .i64 x.f0, .int .i64 x.f1, .int .i64 x.f2, .string x.f3, .slice K x.f4.length d] := k30_mkF w _ x h.cap h.row
/-- Two are made one; the row of the new one, behind the store into ga. -/
theorem Ey.two {base base' g ga : Nat} {x y : S30} {K L : Option Addr} {d e : Nat} {w wz : World} (h : Ey base ga x K d w) (k : Ex base' y L e w) (h1 : base ≤ base') (h2 : ga < base') (hg : base' ≤ g) (hb : w.heap[g]? = some (.cells #[.int .i64 x.f0, .int .i64 x.f1, .int .i64 x.f2, .string x.f3, .slice K x.f4.length d, .int .i64 y.f0, .int .i64 y.f1, .int .i64 y.f2, .string y.f3, .slice L y.f4.length e] 30 (0, 0))) (hs : w.grownBy wz (some ga)) (a n o : Int) (s : ByteArray) : Ey base ga ⟨a, n, o, s, [x, y]⟩ (some ⟨g, 0, .none⟩) 2 wz :=
  ⟨Nat.le_refl _, F_on (F_mono (F_two k30 h.FK rfl (FK_mono k.FK (fun q hq => ⟨Nat.le_trans h1 hq, Nat.ne_of_gt (Nat.lt_of_lt_of_le h2 hq)⟩)) rfl hb) (fun q hq _ => hq.elim id (fun e => by rw [e]; exact ⟨Nat.le_trans h1 hg, Nat.ne_of_gt (Nat.lt_of_lt_of_le h2 hg)⟩))) (fun q hq hl => hs.block q hl (fun e => by injection e with e; exact hq.2 e)) hs.size⟩
theorem own_store2 {w wa wz : World} {b gr : Nat} (h1 : w.heap.size ≤ gr) (hg : w.grownBy wa (some b)) (hs : wa.grownBy wz (some gr)) : w.grownBy wz (some b) :=
  ⟨hs.os.trans hg.os, hs.tape.trans hg.tape, hs.output.trans hg.output, Nat.le_trans hg.size hs.size, fun i hi hne => (hs.block i (Nat.lt_of_lt_of_le hi hg.size) (fun e => by injection e with e; omega)).trans (hg.block i hi hne)⟩
theorem rd_store2 {w0 wa wz : World} {A : Option Addr} {c : Nat} {ts : List S86} {en : Int} {b gr : Nat} {s' : Rs} (hX : Ctx w0 A c ts b) (h : Rd w0 A c ts en b s' wa) (h1 : gr ≠ b) (h0 : w0.heap.size ≤ gr) (hs : wa.grownBy wz (some gr)) : Rd w0 A c ts en b s' wz :=
  ⟨(hs.block b (blk_lt h.blk) (fun e => h1 (by injection e with e; exact e.symm))).trans h.blk, h.old.grown hs h.old.size (fun k hk => by injection hk with hk; omega), h.le⟩
set_option maxHeartbeats 8000000 in
set_option maxRecDepth 100000 in
theorem term_step (w0 : World) (A : Option Addr) (c : Nat) (ts : List S86) (en : Int) (b : Nat) (hX : Ctx w0 A c ts b) (n : Nat) (ihU : ∀ m, m ≤ n → ExC w0 A c ts en b 77 m (unaryF ts en m)) : ExC w0 A c ts en b 69 (n + 1) (termF ts en (n + 1)) := by
  intro s deep w r h h0 h1 hF
  have HX := Aside0.mk hX
  have HR := Aside0.mk h
  simp only [termF] at hF
  obtain ⟨r1, hr1, hF⟩ := Option.bind_eq_some_iff.1 hF
  have HNB : Aside0 (∀ gr : Nat, gr = w.heap.size → gr ≠ b) := ⟨fun gr e => by have := blk_lt h.blk; omega⟩
  have HU1 := Aside0.mk (fun (W : World) (hR : Rd w0 A c ts en b s W) => ihU n (Nat.le_refl _) s deep W r1 hR h0 (by push_cast at h1; omega) hr1)
  clear hr1
  go_enter Tryd.func69, Tryd.ntmps69
  go_wp2_with (first | ((with_reducible refine gate_dst (N := 4) rfl ?_); refine box_event ?hg (N := 4) ?hd (cs := #[.int .i64 0, .int .i64 0, .int .i64 0, .string ⟨#[]⟩, .slice none 0 0]) (t := 30) ?hr ?_; (case hd => rfl); (case hg => rfl); (case hr => first | (go_simp; done) | (go_simp; rfl)); intro gr hgg w1 hlit hb; have HZ1 := Aside0.mk hlit; have HB1 := Aside0.mk hb; have HGR := Aside0.mk hgg; clear hlit hb hgg))
  have HNB := Aside0.mk (HNB.out gr HGR.out)
  refine (HU1.out w1 (HR.out.on HB1.out)).mono ?_
  rintro q w2 ⟨K, d, rfl, hx, hr, hg⟩
  have HX2 := Aside0.mk hx
  have HR2 := Aside0.mk hr
  have HG2 := Aside0.mk (grow_trans (grown_of_below HB1.out (some b)) hg)
  have HZ2 := Aside0.mk ((hg.block gr (blk_lt HZ1.out) (fun e => HNB.out (by injection e))).trans HZ1.out)
  have HS12 := Aside0.mk hg.size
  clear hx hr hg
  go_wp2_with (first | ((with_reducible refine gate_dst (N := 5) rfl ?_); refine box_event ?hg (N := 5) ?hd (cs := #[.int .i64 0, .int .i64 0, .int .i64 0, .string ⟨#[]⟩, .slice none 0 0]) (t := 30) ?hr ?_; (case hd => rfl); (case hg => rfl); (case hr => first | (go_simp; done) | (go_simp; rfl)); intro ga hgg w3 hlit hb; have HAZ := Aside0.mk hlit; have HB3 := Aside0.mk hb; have HGA := Aside0.mk hgg; clear hlit hb hgg) | ((with_reducible refine gate_store (t := 30) (p := 5) rfl ?_); refine put_val ?hg ?hn 30 (.tmp 5) (.tmp 8) ?ho ga 30 _ (#[.int .i64 r1.1.f0, .int .i64 r1.1.f1, .int .i64 r1.1.f2, .string r1.1.f3, .slice K r1.1.f4.length d]) (.agg (#[.int .i64 r1.1.f0, .int .i64 r1.1.f1, .int .i64 r1.1.f2, .string r1.1.f3, .slice K r1.1.f4.length d])) ?hp ?hx ?hu HAZ.out ?ht ?hs ?h1 ?_; (case hg => rfl); (case hn => rfl); (case ho => rfl); (case hp => rfl); (case hx => rfl); (case hu => rfl); (case ht => kernel_rfl); (case hs => rfl); (case h1 => exact exC_one _ _ _ _ _ _ _); intro w4 hlit hg; have HA4 := Aside0.mk hlit; have HBA := Aside0.mk (made_below HGA.out HB3.out hg); have HE4 := Aside0.mk (Ey.of HX2.out HGA.out HB3.out hg); have HR4 := Aside0.mk (HR2.out.on HBA.out); have HG4 := Aside0.mk (grow_trans HG2.out (grown_of_below HBA.out _)); have HZ4 := Aside0.mk (below_read HBA.out HZ2.out); clear hlit hg))
  have HNA := Aside0.mk (show ga ≠ b by have h1 := HGA.out; have h2 := blk_lt HR2.out.blk; omega)
  have HNG := Aside0.mk (show gr ≠ ga by have h1 := HGA.out; have h2 := blk_lt HZ2.out; omega)
  have HNW := Aside0.mk (show w.heap.size ≤ ga by have h1 := HGA.out; have h2 := HG2.out.size; omega)
  have HNW0 := Aside0.mk (show w0.heap.size ≤ ga by have h1 := HNW.out; have h2 := HR.out.old.size; omega)
  have HBB := Aside0.mk (show b < w1.heap.size from Nat.lt_of_lt_of_le (blk_lt HR.out.blk) HB1.out.size)
  have HGN := Aside0.mk (show gr < w1.heap.size from blk_lt HZ1.out)
  have HSG := Aside0.mk (show w2.heap.size ≤ ga by rw [HGA.out]; exact Nat.le_refl _)
  obtain ⟨K0, hK0⟩ : ∃ z, z = K := ⟨_, rfl⟩
  clear hK0 K0
  (try simp only [Act.put, List.setIfInBounds_toArray, List.set_cons_zero, List.set_cons_succ])
  go_loopg [] n (fun gg wr => ∃ (k : Nat) (a : S30) (s1 : Rs) (Ka : Option Addr) (da : Nat), k ≤ gg ∧ k ≤ n ∧ Aside0 (termL ts en k a s1 deep = some r) ∧ Aside0 (Rd w0 A c ts en b s1 wr ∧ w.grownBy wr (some b) ∧ wr.heap[gr]? = some (.cells #[.int .i64 0, .int .i64 0, .int .i64 0, .string ⟨#[]⟩, .slice none 0 0] 30 (0, 0)) ∧ wr.heap[ga]? = some (.cells #[.int .i64 a.f0, .int .i64 a.f1, .int .i64 a.f2, .string a.f3, .slice Ka a.f4.length da] 30 (0, 0)) ∧ Ey w1.heap.size ga a Ka da wr))
  case atStart => exact ⟨n, r1.1, r1.2, K, d, Nat.le_refl _, Nat.le_refl _, ⟨hF⟩, ⟨HR4.out, HG4.out, HZ4.out, HA4.out, HE4.out⟩⟩
  case round =>
    clear hF HA4 HE4 HR4 HG4 HZ4 HX2 HR2 HG2 HZ2
    obtain ⟨k, a, s1, Ka, da, hgg, hkn, HKF, HL20⟩ := hrel
    generalize wr = w20 at *
    have hk := HKF.out
    clear HKF
    cases k with
    | zero => simp [termL] at hk
    | succ k =>
    simp only [termL] at hk
    have h3 : w20.cell? ⟨b, 3, none⟩ = some (.int .i64 s1.e) := (blk_cell HL20.out.1.blk 3).trans rfl
    by_cases ke : s1.e ≠ 0
    · rw [if_pos ke] at hk
      have e1 : (s1.e == 0) = false := beq_eq_false_iff_ne.mpr ke
      have hk := Option.some.inj hk
      subst hk
      clear ke
      go_wp2_with (first | ((with_reducible refine gate_dst (N := 39) rfl ?_); (try (refine gate_guard (by rfl) ?_; dsimp only)); refine wpList_load_row ?hg 30 (.tmp 5) ?ho ga ?hx 30 _ (0, 0) _ HL20.out.2.2.2.1 Tryd.underlying30 ?hd ?hi ?_; (case hg => rfl); (case ho => rfl); (case hx => rfl); (case hd => rfl); (case hi => kernel_rfl)) | ((with_reducible refine gate_store (t := 30) (p := 4) rfl ?_); refine put_val ?hg ?hn 30 (.tmp 4) (.tmp 39) ?ho gr 30 _ (#[.int .i64 a.f0, .int .i64 a.f1, .int .i64 a.f2, .string a.f3, .slice Ka a.f4.length da]) (.agg (#[.int .i64 a.f0, .int .i64 a.f1, .int .i64 a.f2, .string a.f3, .slice Ka a.f4.length da])) ?hp ?hx ?hu HL20.out.2.2.1 ?ht ?hs ?h1 ?_; (case hg => rfl); (case hn => rfl); (case ho => rfl); (case hp => rfl); (case hx => rfl); (case hu => rfl); (case ht => kernel_rfl); (case hs => rfl); (case h1 => exact exC_one _ _ _ _ _ _ _); intro w99 hlit hg; have HT := Aside0.mk hlit; have HGZ := Aside0.mk hg; have HOW := Aside0.mk (own_store HGR.out HB1.out HL20.out.2.1 hg); have HRZ := Aside0.mk (rd_store HX.out HL20.out.1 HGR.out HB1.out HR.out hg); clear hlit hg))
      (try simp only [Exit.inBlock, Exit.then])
      refine bodyPost_ret (results_cell_row rfl _ _ gr 30 _ (0, 0) _ rfl HT.out Tryd.underlying30 rfl (by kernel_rfl)) rfl ?_
      exact ⟨_, _, rfl, (HL20.out.2.2.2.2.ex.grown HGN.out HGZ.out).less HB1.out.size, HRZ.out, HOW.out⟩
    · rw [if_neg ke] at hk
      have e1 : (s1.e == 0) = true := beq_iff_eq.mpr (by simpa using ke)
      clear ke
      by_cases k0 : isS ts en s1 (⟨#[42]⟩ : ByteArray) = true
      · rw [if_pos k0] at hk
        have B21 := Aside0.mk k0
        clear k0
        go_wp2_with fail
        obtain ⟨r1, hr1, hk⟩ := Option.bind_eq_some_iff.1 hk
        have HU := Aside0.mk (fun (W : World) (hR : Rd w0 A c ts en b (stepS s1) W) => ihU k (by omega) (stepS s1) deep W r1 hR h0 (by omega) hr1)
        have HK := Aside0.mk hk
        clear hk hr1
        have HT21 := Aside0.mk (take_calls w0 A c ts en b HX.out s1 (⟨#[42]⟩ : ByteArray) w20 HL20.out.1)
        unfold takeS at HT21
        rw [B21.out, if_pos rfl] at HT21
        refine HT21.out.mono ?_
        rintro q w21 ⟨rfl, hr, hg⟩
        have HL21 := Aside0.mk (⟨hr, grow_trans HL20.out.2.1 hg, (hg.block gr (blk_lt HL20.out.2.2.1) (fun e => HNB.out (by injection e))).trans HL20.out.2.2.1, (hg.block ga (blk_lt HL20.out.2.2.2.1) (fun e => HNA.out (by injection e))).trans HL20.out.2.2.2.1, HL20.out.2.2.2.2.grown HBB.out hg⟩ : Rd w0 A c ts en b (stepS s1) w21 ∧ w.grownBy w21 (some b) ∧ w21.heap[gr]? = some (.cells #[.int .i64 0, .int .i64 0, .int .i64 0, .string ⟨#[]⟩, .slice none 0 0] 30 (0, 0)) ∧ w21.heap[ga]? = some (.cells #[.int .i64 a.f0, .int .i64 a.f1, .int .i64 a.f2, .string a.f3, .slice Ka a.f4.length da] 30 (0, 0)) ∧ Ey w1.heap.size ga a Ka da w21)
        clear hr hg HT21
        go_upto_region 5 with fail
        have HRT := Aside0.mk HL21.out.1
        have HGT := Aside0.mk HL21.out.2.1
        have HZT := Aside0.mk HL21.out.2.2.1
        have HAT := Aside0.mk HL21.out.2.2.2.1
        have HET := Aside0.mk HL21.out.2.2.2.2
        have HSA := Aside0.mk (show w1.heap.size ≤ w21.drew.heap.size from Nat.le_trans HS12.out (Nat.le_of_lt (Nat.lt_of_le_of_lt HSG.out (blk_lt HL21.out.2.2.2.1))))
        have HLA := Aside0.mk (show ga < w21.drew.heap.size from blk_lt HL21.out.2.2.2.1)
        have hq0 : w21.drew.cell? ⟨ga, 0, none⟩ = some (.int .i64 a.f0) := (blk_cell HAT.out 0).trans rfl
        have hq1 : w21.drew.cell? ⟨ga, 1, none⟩ = some (.int .i64 a.f1) := (blk_cell HAT.out 1).trans rfl
        have hq2 : w21.drew.cell? ⟨ga, 2, none⟩ = some (.int .i64 a.f2) := (blk_cell HAT.out 2).trans rfl
        have hq3 : w21.drew.cell? ⟨ga, 3, none⟩ = some (.string a.f3) := (blk_cell HAT.out 3).trans rfl
        have hq4 : w21.drew.cell? ⟨ga, 4, none⟩ = some (.slice Ka a.f4.length da) := (blk_cell HAT.out 4).trans rfl
        refine start_ (n := 6) (S := fun w' => w'.cell? ⟨ga, 0, none⟩ = some (.int .i64 a.f0) ∧ w'.cell? ⟨ga, 1, none⟩ = some (.int .i64 a.f1) ∧ w'.cell? ⟨ga, 2, none⟩ = some (.int .i64 a.f2) ∧ w'.cell? ⟨ga, 3, none⟩ = some (.string a.f3) ∧ w'.cell? ⟨ga, 4, none⟩ = some (.slice Ka a.f4.length da)) (ds := [5]) #[false, false, false, false, false, false] (by kernel_rfl) rfl rfl ⟨hq0, hq1, hq2, hq3, hq4⟩ (fun hHeld => ?_)
        refine pure_ (i := 1) (N := some 19) (v := ?_) (a' := ?_) #[false, true, false, false, false, false] rfl rfl (by kernel_rfl) (fun _ _ _ h => h) (Or.inl ⟨by rfl, ?_⟩) ?_ ?_
        rotate_left
        · intro w'
          go_simp
          with_reducible rfl
        rotate_left
        · simp only [Act.put, List.setIfInBounds_toArray, List.set_cons_zero, List.set_cons_succ, i64_w, i32_w]
          rfl
        refine pure_ (i := 2) (N := some 20) (v := ?_) (a' := ?_) #[false, true, true, false, false, false] rfl rfl (by kernel_rfl) (fun _ _ _ h => h) (Or.inl ⟨by rfl, ?_⟩) ?_ ?_
        rotate_left
        · intro w'
          go_simp
          with_reducible rfl
        rotate_left
        · simp only [Act.put, List.setIfInBounds_toArray, List.set_cons_zero, List.set_cons_succ, i64_w, i32_w]
          rfl
        refine take_ (i := 0) (N := some 18) (v := ?_) (a' := ?_) #[true, true, true, false, false, false] rfl rfl (by kernel_rfl) (fun _ _ _ h => h) (Or.inl ⟨by rfl, ?_⟩) hHeld ?_ ?_
        rotate_left
        · rintro w' ⟨s0, s1, s2, s3, s4⟩
          go_simp
          with_reducible rfl
        rotate_left
        · simp only [Act.put, List.setIfInBounds_toArray, List.set_cons_zero, List.set_cons_succ, i64_w, i32_w]
          rfl
        refine one_ (i := 3) (N := some 21) #[true, true, true, true, false, false] rfl rfl (by kernel_rfl) (by decide) (fun K hK => ?_)
        refine goes_ Tryd.func77 (by kernel_rfl) rfl #[.pointer (some ⟨b, 0, none⟩), .int .i64 deep] (by rfl) rfl rfl (by simp only [List.map_toArray, List.map_cons, List.map_nil, Act.eval]; rfl) ?_
        refine (HU.out _ (HRT.out.on (below_drew (Below.refl _ _)))).mono ?_
        rintro q v3 ⟨L, e, rfl, hx, hr, hg⟩
        have HX3 := Aside0.mk hx
        have HR3 := Aside0.mk hr
        have HG3 := Aside0.mk (grow_trans (grow_trans HGT.out (grown_of_below (below_drew (Below.refl _ _)) (some b))) hg)
        have HA3 := Aside0.mk ((hg.block ga (blk_lt HAT.out) (fun e => HNA.out (by injection e))).trans HAT.out)
        have HZ3 := Aside0.mk ((hg.block gr (blk_lt HZT.out) (fun e => HNB.out (by injection e))).trans HZT.out)
        have HE3 := Aside0.mk ((HET.out.on (below_drew (Below.refl _ _))).grown HBB.out hg)
        have HS3 := Aside0.mk hg.size
        clear hx hr hg
        refine ⟨_, rfl, ?_⟩
        refine hK.out _ _ ⟨(blk_cell HA3.out 0).trans rfl, (blk_cell HA3.out 1).trans rfl, (blk_cell HA3.out 2).trans rfl, (blk_cell HA3.out 3).trans rfl, (blk_cell HA3.out 4).trans rfl⟩ (fun hHeld => ?_)
        clear hK K
        refine norm_ (a' := ?_) ?_ ?_
        rotate_left
        · show Act.put _ (some 21) _ = _
          simp only [Act.put, List.setIfInBounds_toArray, List.set_cons_zero, List.set_cons_succ, i64_w, i32_w]
          rfl
        refine one_ (i := 4) (N := some 22) #[true, true, true, true, true, false] rfl rfl (by kernel_rfl) (by decide) (fun K hK => ?_)
        refine goes_ Tryd.func70 (by kernel_rfl) rfl #[.int .i64 3, .agg #[.int .i64 a.f0, .int .i64 a.f1, .int .i64 a.f2, .string a.f3, .slice Ka a.f4.length da], .agg #[.int .i64 r1.1.f0, .int .i64 r1.1.f1, .int .i64 r1.1.f2, .string r1.1.f3, .slice L r1.1.f4.length e]] (by rfl) rfl rfl (by simp only [List.map_toArray, List.map_cons, List.map_nil, Act.eval]; rfl) ?_
        refine (bin_calls 3 a r1.1 Ka L da e v3).mono ?_
        rintro q v4 ⟨g, rfl, hge, hgb, hb⟩
        have HGE := Aside0.mk hge
        have HGB := Aside0.mk hgb
        have HR4 := Aside0.mk (HR3.out.on hb)
        have HG4 := Aside0.mk (grow_trans HG3.out (grown_of_below hb _))
        have HA4 := Aside0.mk (below_read hb HA3.out)
        have HZ4 := Aside0.mk (below_read hb HZ3.out)
        have HE4 := Aside0.mk (HE3.out.on hb)
        have HX4 := Aside0.mk (HX3.out.on hb)
        clear hge hgb hb
        refine ⟨_, rfl, ?_⟩
        refine hK.out _ _ ⟨(blk_cell HA4.out 0).trans rfl, (blk_cell HA4.out 1).trans rfl, (blk_cell HA4.out 2).trans rfl, (blk_cell HA4.out 3).trans rfl, (blk_cell HA4.out 4).trans rfl⟩ (fun hHeld => ?_)
        clear hK K
        refine norm_ (a' := ?_) ?_ ?_
        rotate_left
        · show Act.put _ (some 22) _ = _
          simp only [Act.put, List.setIfInBounds_toArray, List.set_cons_zero, List.set_cons_succ, i64_w, i32_w]
          rfl
        refine last_ (i := 5) (N := none) #[true, true, true, true, true, true] rfl rfl (by kernel_rfl) (by decide) (fun K hK => ?_)
        refine put_step (by rfl) rfl 30 (.tmp 5) (.tmp 22) ?ho ga 30 _ (#[.int .i64 5, .int .i64 0, .int .i64 3, .string ⟨#[]⟩, .slice (some ⟨g, 0, none⟩) 2 2]) (.agg (#[.int .i64 5, .int .i64 0, .int .i64 3, .string ⟨#[]⟩, .slice (some ⟨g, 0, none⟩) 2 2])) ?hp ?hx ?hu HA4.out ?ht ?hs ?h1 ?_
        case ho => rfl
        case hp => rfl
        case hx => rfl
        case hu => rfl
        case ht => kernel_rfl
        case hs => rfl
        case h1 => exact exC_one _ _ _ _ _ _ _
        intro w5 hlit hg
        have HT5 := Aside0.mk hlit
        have HG5 := Aside0.mk (own_store2 HNW.out HG4.out hg)
        have HR5 := Aside0.mk (rd_store2 HX.out HR4.out HNA.out HNW0.out hg)
        have HZ5 := Aside0.mk ((hg.block gr (blk_lt HZ4.out) (fun e => HNG.out (by injection e))).trans HZ4.out)
        have HE5 := Aside0.mk (HE4.out.two HX4.out HSA.out HLA.out (Nat.le_trans HS3.out HGE.out) HGB.out hg 5 0 3 ⟨#[]⟩)
        clear hlit hg
        refine hK.out _ _ ?_
        clear hK K
        refine done_ (by kernel_rfl) ?_
        go_wp2_with fail
        go_roundg k
        case measure => omega
        case rel => exact ⟨k, _, _, _, _, Nat.le_refl _, by omega, ⟨HK.out⟩, ⟨HR5.out, HG5.out, HZ5.out, HT5.out, HE5.out⟩⟩
      · rw [if_neg k0] at hk
        have B21 := Aside0.mk (Bool.eq_false_iff.2 k0)
        clear k0
        go_wp2_with fail
        have HT21 := Aside0.mk (take_calls w0 A c ts en b HX.out s1 (⟨#[42]⟩ : ByteArray) w20 HL20.out.1)
        unfold takeS at HT21
        rw [B21.out, if_neg (by decide)] at HT21
        refine HT21.out.mono ?_
        rintro q w21 ⟨rfl, hr, hg⟩
        have HL21 := Aside0.mk (⟨hr, grow_trans HL20.out.2.1 hg, (hg.block gr (blk_lt HL20.out.2.2.1) (fun e => HNB.out (by injection e))).trans HL20.out.2.2.1, (hg.block ga (blk_lt HL20.out.2.2.2.1) (fun e => HNA.out (by injection e))).trans HL20.out.2.2.2.1, HL20.out.2.2.2.2.grown HBB.out hg⟩ : Rd w0 A c ts en b s1 w21 ∧ w.grownBy w21 (some b) ∧ w21.heap[gr]? = some (.cells #[.int .i64 0, .int .i64 0, .int .i64 0, .string ⟨#[]⟩, .slice none 0 0] 30 (0, 0)) ∧ w21.heap[ga]? = some (.cells #[.int .i64 a.f0, .int .i64 a.f1, .int .i64 a.f2, .string a.f3, .slice Ka a.f4.length da] 30 (0, 0)) ∧ Ey w1.heap.size ga a Ka da w21)
        clear hr hg HT21
        by_cases k1 : isS ts en s1 (⟨#[47]⟩ : ByteArray) = true
        · rw [if_pos k1] at hk
          have B22 := Aside0.mk k1
          clear k1
          go_wp2_with fail
          obtain ⟨r1, hr1, hk⟩ := Option.bind_eq_some_iff.1 hk
          have HU := Aside0.mk (fun (W : World) (hR : Rd w0 A c ts en b (stepS s1) W) => ihU k (by omega) (stepS s1) deep W r1 hR h0 (by omega) hr1)
          have HK := Aside0.mk hk
          clear hk hr1
          have HT22 := Aside0.mk (take_calls w0 A c ts en b HX.out s1 (⟨#[47]⟩ : ByteArray) w21 HL21.out.1)
          unfold takeS at HT22
          rw [B22.out, if_pos rfl] at HT22
          refine HT22.out.mono ?_
          rintro q w22 ⟨rfl, hr, hg⟩
          have HL22 := Aside0.mk (⟨hr, grow_trans HL21.out.2.1 hg, (hg.block gr (blk_lt HL21.out.2.2.1) (fun e => HNB.out (by injection e))).trans HL21.out.2.2.1, (hg.block ga (blk_lt HL21.out.2.2.2.1) (fun e => HNA.out (by injection e))).trans HL21.out.2.2.2.1, HL21.out.2.2.2.2.grown HBB.out hg⟩ : Rd w0 A c ts en b (stepS s1) w22 ∧ w.grownBy w22 (some b) ∧ w22.heap[gr]? = some (.cells #[.int .i64 0, .int .i64 0, .int .i64 0, .string ⟨#[]⟩, .slice none 0 0] 30 (0, 0)) ∧ w22.heap[ga]? = some (.cells #[.int .i64 a.f0, .int .i64 a.f1, .int .i64 a.f2, .string a.f3, .slice Ka a.f4.length da] 30 (0, 0)) ∧ Ey w1.heap.size ga a Ka da w22)
          clear hr hg HT22
          go_upto_region 7 with fail
          have HRT := Aside0.mk HL22.out.1
          have HGT := Aside0.mk HL22.out.2.1
          have HZT := Aside0.mk HL22.out.2.2.1
          have HAT := Aside0.mk HL22.out.2.2.2.1
          have HET := Aside0.mk HL22.out.2.2.2.2
          have HSA := Aside0.mk (show w1.heap.size ≤ w22.drew.heap.size from Nat.le_trans HS12.out (Nat.le_of_lt (Nat.lt_of_le_of_lt HSG.out (blk_lt HL22.out.2.2.2.1))))
          have HLA := Aside0.mk (show ga < w22.drew.heap.size from blk_lt HL22.out.2.2.2.1)
          have hq0 : w22.drew.cell? ⟨ga, 0, none⟩ = some (.int .i64 a.f0) := (blk_cell HAT.out 0).trans rfl
          have hq1 : w22.drew.cell? ⟨ga, 1, none⟩ = some (.int .i64 a.f1) := (blk_cell HAT.out 1).trans rfl
          have hq2 : w22.drew.cell? ⟨ga, 2, none⟩ = some (.int .i64 a.f2) := (blk_cell HAT.out 2).trans rfl
          have hq3 : w22.drew.cell? ⟨ga, 3, none⟩ = some (.string a.f3) := (blk_cell HAT.out 3).trans rfl
          have hq4 : w22.drew.cell? ⟨ga, 4, none⟩ = some (.slice Ka a.f4.length da) := (blk_cell HAT.out 4).trans rfl
          refine start_ (n := 6) (S := fun w' => w'.cell? ⟨ga, 0, none⟩ = some (.int .i64 a.f0) ∧ w'.cell? ⟨ga, 1, none⟩ = some (.int .i64 a.f1) ∧ w'.cell? ⟨ga, 2, none⟩ = some (.int .i64 a.f2) ∧ w'.cell? ⟨ga, 3, none⟩ = some (.string a.f3) ∧ w'.cell? ⟨ga, 4, none⟩ = some (.slice Ka a.f4.length da)) (ds := [5]) #[false, false, false, false, false, false] (by kernel_rfl) rfl rfl ⟨hq0, hq1, hq2, hq3, hq4⟩ (fun hHeld => ?_)
          refine pure_ (i := 1) (N := some 27) (v := ?_) (a' := ?_) #[false, true, false, false, false, false] rfl rfl (by kernel_rfl) (fun _ _ _ h => h) (Or.inl ⟨by rfl, ?_⟩) ?_ ?_
          rotate_left
          · intro w'
            go_simp
            with_reducible rfl
          rotate_left
          · simp only [Act.put, List.setIfInBounds_toArray, List.set_cons_zero, List.set_cons_succ, i64_w, i32_w]
            rfl
          refine pure_ (i := 2) (N := some 28) (v := ?_) (a' := ?_) #[false, true, true, false, false, false] rfl rfl (by kernel_rfl) (fun _ _ _ h => h) (Or.inl ⟨by rfl, ?_⟩) ?_ ?_
          rotate_left
          · intro w'
            go_simp
            with_reducible rfl
          rotate_left
          · simp only [Act.put, List.setIfInBounds_toArray, List.set_cons_zero, List.set_cons_succ, i64_w, i32_w]
            rfl
          refine take_ (i := 0) (N := some 26) (v := ?_) (a' := ?_) #[true, true, true, false, false, false] rfl rfl (by kernel_rfl) (fun _ _ _ h => h) (Or.inl ⟨by rfl, ?_⟩) hHeld ?_ ?_
          rotate_left
          · rintro w' ⟨s0, s1, s2, s3, s4⟩
            go_simp
            with_reducible rfl
          rotate_left
          · simp only [Act.put, List.setIfInBounds_toArray, List.set_cons_zero, List.set_cons_succ, i64_w, i32_w]
            rfl
          refine one_ (i := 3) (N := some 29) #[true, true, true, true, false, false] rfl rfl (by kernel_rfl) (by decide) (fun K hK => ?_)
          refine goes_ Tryd.func77 (by kernel_rfl) rfl #[.pointer (some ⟨b, 0, none⟩), .int .i64 deep] (by rfl) rfl rfl (by simp only [List.map_toArray, List.map_cons, List.map_nil, Act.eval]; rfl) ?_
          refine (HU.out _ (HRT.out.on (below_drew (Below.refl _ _)))).mono ?_
          rintro q v3 ⟨L, e, rfl, hx, hr, hg⟩
          have HX3 := Aside0.mk hx
          have HR3 := Aside0.mk hr
          have HG3 := Aside0.mk (grow_trans (grow_trans HGT.out (grown_of_below (below_drew (Below.refl _ _)) (some b))) hg)
          have HA3 := Aside0.mk ((hg.block ga (blk_lt HAT.out) (fun e => HNA.out (by injection e))).trans HAT.out)
          have HZ3 := Aside0.mk ((hg.block gr (blk_lt HZT.out) (fun e => HNB.out (by injection e))).trans HZT.out)
          have HE3 := Aside0.mk ((HET.out.on (below_drew (Below.refl _ _))).grown HBB.out hg)
          have HS3 := Aside0.mk hg.size
          clear hx hr hg
          refine ⟨_, rfl, ?_⟩
          refine hK.out _ _ ⟨(blk_cell HA3.out 0).trans rfl, (blk_cell HA3.out 1).trans rfl, (blk_cell HA3.out 2).trans rfl, (blk_cell HA3.out 3).trans rfl, (blk_cell HA3.out 4).trans rfl⟩ (fun hHeld => ?_)
          clear hK K
          refine norm_ (a' := ?_) ?_ ?_
          rotate_left
          · show Act.put _ (some 29) _ = _
            simp only [Act.put, List.setIfInBounds_toArray, List.set_cons_zero, List.set_cons_succ, i64_w, i32_w]
            rfl
          refine one_ (i := 4) (N := some 30) #[true, true, true, true, true, false] rfl rfl (by kernel_rfl) (by decide) (fun K hK => ?_)
          refine goes_ Tryd.func70 (by kernel_rfl) rfl #[.int .i64 4, .agg #[.int .i64 a.f0, .int .i64 a.f1, .int .i64 a.f2, .string a.f3, .slice Ka a.f4.length da], .agg #[.int .i64 r1.1.f0, .int .i64 r1.1.f1, .int .i64 r1.1.f2, .string r1.1.f3, .slice L r1.1.f4.length e]] (by rfl) rfl rfl (by simp only [List.map_toArray, List.map_cons, List.map_nil, Act.eval]; rfl) ?_
          refine (bin_calls 4 a r1.1 Ka L da e v3).mono ?_
          rintro q v4 ⟨g, rfl, hge, hgb, hb⟩
          have HGE := Aside0.mk hge
          have HGB := Aside0.mk hgb
          have HR4 := Aside0.mk (HR3.out.on hb)
          have HG4 := Aside0.mk (grow_trans HG3.out (grown_of_below hb _))
          have HA4 := Aside0.mk (below_read hb HA3.out)
          have HZ4 := Aside0.mk (below_read hb HZ3.out)
          have HE4 := Aside0.mk (HE3.out.on hb)
          have HX4 := Aside0.mk (HX3.out.on hb)
          clear hge hgb hb
          refine ⟨_, rfl, ?_⟩
          refine hK.out _ _ ⟨(blk_cell HA4.out 0).trans rfl, (blk_cell HA4.out 1).trans rfl, (blk_cell HA4.out 2).trans rfl, (blk_cell HA4.out 3).trans rfl, (blk_cell HA4.out 4).trans rfl⟩ (fun hHeld => ?_)
          clear hK K
          refine norm_ (a' := ?_) ?_ ?_
          rotate_left
          · show Act.put _ (some 30) _ = _
            simp only [Act.put, List.setIfInBounds_toArray, List.set_cons_zero, List.set_cons_succ, i64_w, i32_w]
            rfl
          refine last_ (i := 5) (N := none) #[true, true, true, true, true, true] rfl rfl (by kernel_rfl) (by decide) (fun K hK => ?_)
          refine put_step (by rfl) rfl 30 (.tmp 5) (.tmp 30) ?ho ga 30 _ (#[.int .i64 5, .int .i64 0, .int .i64 4, .string ⟨#[]⟩, .slice (some ⟨g, 0, none⟩) 2 2]) (.agg (#[.int .i64 5, .int .i64 0, .int .i64 4, .string ⟨#[]⟩, .slice (some ⟨g, 0, none⟩) 2 2])) ?hp ?hx ?hu HA4.out ?ht ?hs ?h1 ?_
          case ho => rfl
          case hp => rfl
          case hx => rfl
          case hu => rfl
          case ht => kernel_rfl
          case hs => rfl
          case h1 => exact exC_one _ _ _ _ _ _ _
          intro w5 hlit hg
          have HT5 := Aside0.mk hlit
          have HG5 := Aside0.mk (own_store2 HNW.out HG4.out hg)
          have HR5 := Aside0.mk (rd_store2 HX.out HR4.out HNA.out HNW0.out hg)
          have HZ5 := Aside0.mk ((hg.block gr (blk_lt HZ4.out) (fun e => HNG.out (by injection e))).trans HZ4.out)
          have HE5 := Aside0.mk (HE4.out.two HX4.out HSA.out HLA.out (Nat.le_trans HS3.out HGE.out) HGB.out hg 5 0 4 ⟨#[]⟩)
          clear hlit hg
          refine hK.out _ _ ?_
          clear hK K
          refine done_ (by kernel_rfl) ?_
          go_wp2_with fail
          go_roundg k
          case measure => omega
          case rel => exact ⟨k, _, _, _, _, Nat.le_refl _, by omega, ⟨HK.out⟩, ⟨HR5.out, HG5.out, HZ5.out, HT5.out, HE5.out⟩⟩
        · rw [if_neg k1] at hk
          have B22 := Aside0.mk (Bool.eq_false_iff.2 k1)
          clear k1
          go_wp2_with fail
          have HT22 := Aside0.mk (take_calls w0 A c ts en b HX.out s1 (⟨#[47]⟩ : ByteArray) w21 HL21.out.1)
          unfold takeS at HT22
          rw [B22.out, if_neg (by decide)] at HT22
          refine HT22.out.mono ?_
          rintro q w22 ⟨rfl, hr, hg⟩
          have HL22 := Aside0.mk (⟨hr, grow_trans HL21.out.2.1 hg, (hg.block gr (blk_lt HL21.out.2.2.1) (fun e => HNB.out (by injection e))).trans HL21.out.2.2.1, (hg.block ga (blk_lt HL21.out.2.2.2.1) (fun e => HNA.out (by injection e))).trans HL21.out.2.2.2.1, HL21.out.2.2.2.2.grown HBB.out hg⟩ : Rd w0 A c ts en b s1 w22 ∧ w.grownBy w22 (some b) ∧ w22.heap[gr]? = some (.cells #[.int .i64 0, .int .i64 0, .int .i64 0, .string ⟨#[]⟩, .slice none 0 0] 30 (0, 0)) ∧ w22.heap[ga]? = some (.cells #[.int .i64 a.f0, .int .i64 a.f1, .int .i64 a.f2, .string a.f3, .slice Ka a.f4.length da] 30 (0, 0)) ∧ Ey w1.heap.size ga a Ka da w22)
          clear hr hg HT22
          by_cases k2 : isS ts en s1 (⟨#[37]⟩ : ByteArray) = true
          · rw [if_pos k2] at hk
            have B23 := Aside0.mk k2
            clear k2
            go_wp2_with fail
            obtain ⟨r1, hr1, hk⟩ := Option.bind_eq_some_iff.1 hk
            have HU := Aside0.mk (fun (W : World) (hR : Rd w0 A c ts en b (stepS s1) W) => ihU k (by omega) (stepS s1) deep W r1 hR h0 (by omega) hr1)
            have HK := Aside0.mk hk
            clear hk hr1
            have HT23 := Aside0.mk (take_calls w0 A c ts en b HX.out s1 (⟨#[37]⟩ : ByteArray) w22 HL22.out.1)
            unfold takeS at HT23
            rw [B23.out, if_pos rfl] at HT23
            refine HT23.out.mono ?_
            rintro q w23 ⟨rfl, hr, hg⟩
            have HL23 := Aside0.mk (⟨hr, grow_trans HL22.out.2.1 hg, (hg.block gr (blk_lt HL22.out.2.2.1) (fun e => HNB.out (by injection e))).trans HL22.out.2.2.1, (hg.block ga (blk_lt HL22.out.2.2.2.1) (fun e => HNA.out (by injection e))).trans HL22.out.2.2.2.1, HL22.out.2.2.2.2.grown HBB.out hg⟩ : Rd w0 A c ts en b (stepS s1) w23 ∧ w.grownBy w23 (some b) ∧ w23.heap[gr]? = some (.cells #[.int .i64 0, .int .i64 0, .int .i64 0, .string ⟨#[]⟩, .slice none 0 0] 30 (0, 0)) ∧ w23.heap[ga]? = some (.cells #[.int .i64 a.f0, .int .i64 a.f1, .int .i64 a.f2, .string a.f3, .slice Ka a.f4.length da] 30 (0, 0)) ∧ Ey w1.heap.size ga a Ka da w23)
            clear hr hg HT23
            go_upto_region 9 with fail
            have HRT := Aside0.mk HL23.out.1
            have HGT := Aside0.mk HL23.out.2.1
            have HZT := Aside0.mk HL23.out.2.2.1
            have HAT := Aside0.mk HL23.out.2.2.2.1
            have HET := Aside0.mk HL23.out.2.2.2.2
            have HSA := Aside0.mk (show w1.heap.size ≤ w23.drew.heap.size from Nat.le_trans HS12.out (Nat.le_of_lt (Nat.lt_of_le_of_lt HSG.out (blk_lt HL23.out.2.2.2.1))))
            have HLA := Aside0.mk (show ga < w23.drew.heap.size from blk_lt HL23.out.2.2.2.1)
            have hq0 : w23.drew.cell? ⟨ga, 0, none⟩ = some (.int .i64 a.f0) := (blk_cell HAT.out 0).trans rfl
            have hq1 : w23.drew.cell? ⟨ga, 1, none⟩ = some (.int .i64 a.f1) := (blk_cell HAT.out 1).trans rfl
            have hq2 : w23.drew.cell? ⟨ga, 2, none⟩ = some (.int .i64 a.f2) := (blk_cell HAT.out 2).trans rfl
            have hq3 : w23.drew.cell? ⟨ga, 3, none⟩ = some (.string a.f3) := (blk_cell HAT.out 3).trans rfl
            have hq4 : w23.drew.cell? ⟨ga, 4, none⟩ = some (.slice Ka a.f4.length da) := (blk_cell HAT.out 4).trans rfl
            refine start_ (n := 6) (S := fun w' => w'.cell? ⟨ga, 0, none⟩ = some (.int .i64 a.f0) ∧ w'.cell? ⟨ga, 1, none⟩ = some (.int .i64 a.f1) ∧ w'.cell? ⟨ga, 2, none⟩ = some (.int .i64 a.f2) ∧ w'.cell? ⟨ga, 3, none⟩ = some (.string a.f3) ∧ w'.cell? ⟨ga, 4, none⟩ = some (.slice Ka a.f4.length da)) (ds := [5]) #[false, false, false, false, false, false] (by kernel_rfl) rfl rfl ⟨hq0, hq1, hq2, hq3, hq4⟩ (fun hHeld => ?_)
            refine pure_ (i := 1) (N := some 35) (v := ?_) (a' := ?_) #[false, true, false, false, false, false] rfl rfl (by kernel_rfl) (fun _ _ _ h => h) (Or.inl ⟨by rfl, ?_⟩) ?_ ?_
            rotate_left
            · intro w'
              go_simp
              with_reducible rfl
            rotate_left
            · simp only [Act.put, List.setIfInBounds_toArray, List.set_cons_zero, List.set_cons_succ, i64_w, i32_w]
              rfl
            refine pure_ (i := 2) (N := some 36) (v := ?_) (a' := ?_) #[false, true, true, false, false, false] rfl rfl (by kernel_rfl) (fun _ _ _ h => h) (Or.inl ⟨by rfl, ?_⟩) ?_ ?_
            rotate_left
            · intro w'
              go_simp
              with_reducible rfl
            rotate_left
            · simp only [Act.put, List.setIfInBounds_toArray, List.set_cons_zero, List.set_cons_succ, i64_w, i32_w]
              rfl
            refine take_ (i := 0) (N := some 34) (v := ?_) (a' := ?_) #[true, true, true, false, false, false] rfl rfl (by kernel_rfl) (fun _ _ _ h => h) (Or.inl ⟨by rfl, ?_⟩) hHeld ?_ ?_
            rotate_left
            · rintro w' ⟨s0, s1, s2, s3, s4⟩
              go_simp
              with_reducible rfl
            rotate_left
            · simp only [Act.put, List.setIfInBounds_toArray, List.set_cons_zero, List.set_cons_succ, i64_w, i32_w]
              rfl
            refine one_ (i := 3) (N := some 37) #[true, true, true, true, false, false] rfl rfl (by kernel_rfl) (by decide) (fun K hK => ?_)
            refine goes_ Tryd.func77 (by kernel_rfl) rfl #[.pointer (some ⟨b, 0, none⟩), .int .i64 deep] (by rfl) rfl rfl (by simp only [List.map_toArray, List.map_cons, List.map_nil, Act.eval]; rfl) ?_
            refine (HU.out _ (HRT.out.on (below_drew (Below.refl _ _)))).mono ?_
            rintro q v3 ⟨L, e, rfl, hx, hr, hg⟩
            have HX3 := Aside0.mk hx
            have HR3 := Aside0.mk hr
            have HG3 := Aside0.mk (grow_trans (grow_trans HGT.out (grown_of_below (below_drew (Below.refl _ _)) (some b))) hg)
            have HA3 := Aside0.mk ((hg.block ga (blk_lt HAT.out) (fun e => HNA.out (by injection e))).trans HAT.out)
            have HZ3 := Aside0.mk ((hg.block gr (blk_lt HZT.out) (fun e => HNB.out (by injection e))).trans HZT.out)
            have HE3 := Aside0.mk ((HET.out.on (below_drew (Below.refl _ _))).grown HBB.out hg)
            have HS3 := Aside0.mk hg.size
            clear hx hr hg
            refine ⟨_, rfl, ?_⟩
            refine hK.out _ _ ⟨(blk_cell HA3.out 0).trans rfl, (blk_cell HA3.out 1).trans rfl, (blk_cell HA3.out 2).trans rfl, (blk_cell HA3.out 3).trans rfl, (blk_cell HA3.out 4).trans rfl⟩ (fun hHeld => ?_)
            clear hK K
            refine norm_ (a' := ?_) ?_ ?_
            rotate_left
            · show Act.put _ (some 37) _ = _
              simp only [Act.put, List.setIfInBounds_toArray, List.set_cons_zero, List.set_cons_succ, i64_w, i32_w]
              rfl
            refine one_ (i := 4) (N := some 38) #[true, true, true, true, true, false] rfl rfl (by kernel_rfl) (by decide) (fun K hK => ?_)
            refine goes_ Tryd.func70 (by kernel_rfl) rfl #[.int .i64 5, .agg #[.int .i64 a.f0, .int .i64 a.f1, .int .i64 a.f2, .string a.f3, .slice Ka a.f4.length da], .agg #[.int .i64 r1.1.f0, .int .i64 r1.1.f1, .int .i64 r1.1.f2, .string r1.1.f3, .slice L r1.1.f4.length e]] (by rfl) rfl rfl (by simp only [List.map_toArray, List.map_cons, List.map_nil, Act.eval]; rfl) ?_
            refine (bin_calls 5 a r1.1 Ka L da e v3).mono ?_
            rintro q v4 ⟨g, rfl, hge, hgb, hb⟩
            have HGE := Aside0.mk hge
            have HGB := Aside0.mk hgb
            have HR4 := Aside0.mk (HR3.out.on hb)
            have HG4 := Aside0.mk (grow_trans HG3.out (grown_of_below hb _))
            have HA4 := Aside0.mk (below_read hb HA3.out)
            have HZ4 := Aside0.mk (below_read hb HZ3.out)
            have HE4 := Aside0.mk (HE3.out.on hb)
            have HX4 := Aside0.mk (HX3.out.on hb)
            clear hge hgb hb
            refine ⟨_, rfl, ?_⟩
            refine hK.out _ _ ⟨(blk_cell HA4.out 0).trans rfl, (blk_cell HA4.out 1).trans rfl, (blk_cell HA4.out 2).trans rfl, (blk_cell HA4.out 3).trans rfl, (blk_cell HA4.out 4).trans rfl⟩ (fun hHeld => ?_)
            clear hK K
            refine norm_ (a' := ?_) ?_ ?_
            rotate_left
            · show Act.put _ (some 38) _ = _
              simp only [Act.put, List.setIfInBounds_toArray, List.set_cons_zero, List.set_cons_succ, i64_w, i32_w]
              rfl
            refine last_ (i := 5) (N := none) #[true, true, true, true, true, true] rfl rfl (by kernel_rfl) (by decide) (fun K hK => ?_)
            refine put_step (by rfl) rfl 30 (.tmp 5) (.tmp 38) ?ho ga 30 _ (#[.int .i64 5, .int .i64 0, .int .i64 5, .string ⟨#[]⟩, .slice (some ⟨g, 0, none⟩) 2 2]) (.agg (#[.int .i64 5, .int .i64 0, .int .i64 5, .string ⟨#[]⟩, .slice (some ⟨g, 0, none⟩) 2 2])) ?hp ?hx ?hu HA4.out ?ht ?hs ?h1 ?_
            case ho => rfl
            case hp => rfl
            case hx => rfl
            case hu => rfl
            case ht => kernel_rfl
            case hs => rfl
            case h1 => exact exC_one _ _ _ _ _ _ _
            intro w5 hlit hg
            have HT5 := Aside0.mk hlit
            have HG5 := Aside0.mk (own_store2 HNW.out HG4.out hg)
            have HR5 := Aside0.mk (rd_store2 HX.out HR4.out HNA.out HNW0.out hg)
            have HZ5 := Aside0.mk ((hg.block gr (blk_lt HZ4.out) (fun e => HNG.out (by injection e))).trans HZ4.out)
            have HE5 := Aside0.mk (HE4.out.two HX4.out HSA.out HLA.out (Nat.le_trans HS3.out HGE.out) HGB.out hg 5 0 5 ⟨#[]⟩)
            clear hlit hg
            refine hK.out _ _ ?_
            clear hK K
            refine done_ (by kernel_rfl) ?_
            go_wp2_with fail
            go_roundg k
            case measure => omega
            case rel => exact ⟨k, _, _, _, _, Nat.le_refl _, by omega, ⟨HK.out⟩, ⟨HR5.out, HG5.out, HZ5.out, HT5.out, HE5.out⟩⟩
          · rw [if_neg k2] at hk
            have B23 := Aside0.mk (Bool.eq_false_iff.2 k2)
            clear k2
            go_wp2_with fail
            have HT23 := Aside0.mk (take_calls w0 A c ts en b HX.out s1 (⟨#[37]⟩ : ByteArray) w22 HL22.out.1)
            unfold takeS at HT23
            rw [B23.out, if_neg (by decide)] at HT23
            refine HT23.out.mono ?_
            rintro q w23 ⟨rfl, hr, hg⟩
            have HL23 := Aside0.mk (⟨hr, grow_trans HL22.out.2.1 hg, (hg.block gr (blk_lt HL22.out.2.2.1) (fun e => HNB.out (by injection e))).trans HL22.out.2.2.1, (hg.block ga (blk_lt HL22.out.2.2.2.1) (fun e => HNA.out (by injection e))).trans HL22.out.2.2.2.1, HL22.out.2.2.2.2.grown HBB.out hg⟩ : Rd w0 A c ts en b s1 w23 ∧ w.grownBy w23 (some b) ∧ w23.heap[gr]? = some (.cells #[.int .i64 0, .int .i64 0, .int .i64 0, .string ⟨#[]⟩, .slice none 0 0] 30 (0, 0)) ∧ w23.heap[ga]? = some (.cells #[.int .i64 a.f0, .int .i64 a.f1, .int .i64 a.f2, .string a.f3, .slice Ka a.f4.length da] 30 (0, 0)) ∧ Ey w1.heap.size ga a Ka da w23)
            clear hr hg HT23
            have hk := Option.some.inj hk
            subst hk
            go_wp2_with (first | ((with_reducible refine gate_dst (N := 14) rfl ?_); (try (refine gate_guard (by rfl) ?_; dsimp only)); refine wpList_load_row ?hg 30 (.tmp 5) ?ho ga ?hx 30 _ (0, 0) _ HL23.out.2.2.2.1 Tryd.underlying30 ?hd ?hi ?_; (case hg => rfl); (case ho => rfl); (case hx => rfl); (case hd => rfl); (case hi => kernel_rfl)) | ((with_reducible refine gate_store (t := 30) (p := 4) rfl ?_); refine put_val ?hg ?hn 30 (.tmp 4) (.tmp 14) ?ho gr 30 _ (#[.int .i64 a.f0, .int .i64 a.f1, .int .i64 a.f2, .string a.f3, .slice Ka a.f4.length da]) (.agg (#[.int .i64 a.f0, .int .i64 a.f1, .int .i64 a.f2, .string a.f3, .slice Ka a.f4.length da])) ?hp ?hx ?hu HL23.out.2.2.1 ?ht ?hs ?h1 ?_; (case hg => rfl); (case hn => rfl); (case ho => rfl); (case hp => rfl); (case hx => rfl); (case hu => rfl); (case ht => kernel_rfl); (case hs => rfl); (case h1 => exact exC_one _ _ _ _ _ _ _); intro w99 hlit hg; have HT := Aside0.mk hlit; have HGZ := Aside0.mk hg; have HOW := Aside0.mk (own_store HGR.out HB1.out HL23.out.2.1 hg); have HRZ := Aside0.mk (rd_store HX.out HL23.out.1 HGR.out HB1.out HR.out hg); clear hlit hg))
            (try simp only [Exit.inBlock, Exit.then])
            refine bodyPost_ret (results_cell_row rfl _ _ gr 30 _ (0, 0) _ rfl HT.out Tryd.underlying30 rfl (by kernel_rfl)) rfl ?_
            exact ⟨_, _, rfl, (HL23.out.2.2.2.2.ex.grown HGN.out HGZ.out).less HB1.out.size, HRZ.out, HOW.out⟩
set_option maxHeartbeats 8000000 in
set_option maxRecDepth 100000 in
theorem expr_step (w0 : World) (A : Option Addr) (c : Nat) (ts : List S86) (en : Int) (b : Nat) (hX : Ctx w0 A c ts b) (n : Nat) (ihU : ∀ m, m ≤ n → ExC w0 A c ts en b 69 m (termF ts en m)) : ExC w0 A c ts en b 62 (n + 1) (exprP ts en (n + 1)) := by
  intro s deep w r h h0 h1 hF
  have HX := Aside0.mk hX
  have HR := Aside0.mk h
  simp only [exprP] at hF
  obtain ⟨r1, hr1, hF⟩ := Option.bind_eq_some_iff.1 hF
  have HNB : Aside0 (∀ gr : Nat, gr = w.heap.size → gr ≠ b) := ⟨fun gr e => by have := blk_lt h.blk; omega⟩
  have HU1 := Aside0.mk (fun (W : World) (hR : Rd w0 A c ts en b s W) => ihU n (Nat.le_refl _) s deep W r1 hR h0 (by push_cast at h1; omega) hr1)
  clear hr1
  go_enter Tryd.func62, Tryd.ntmps62
  go_wp2_with (first | ((with_reducible refine gate_dst (N := 4) rfl ?_); refine box_event ?hg (N := 4) ?hd (cs := #[.int .i64 0, .int .i64 0, .int .i64 0, .string ⟨#[]⟩, .slice none 0 0]) (t := 30) ?hr ?_; (case hd => rfl); (case hg => rfl); (case hr => first | (go_simp; done) | (go_simp; rfl)); intro gr hgg w1 hlit hb; have HZ1 := Aside0.mk hlit; have HB1 := Aside0.mk hb; have HGR := Aside0.mk hgg; clear hlit hb hgg))
  have HNB := Aside0.mk (HNB.out gr HGR.out)
  refine (HU1.out w1 (HR.out.on HB1.out)).mono ?_
  rintro q w2 ⟨K, d, rfl, hx, hr, hg⟩
  have HX2 := Aside0.mk hx
  have HR2 := Aside0.mk hr
  have HG2 := Aside0.mk (grow_trans (grown_of_below HB1.out (some b)) hg)
  have HZ2 := Aside0.mk ((hg.block gr (blk_lt HZ1.out) (fun e => HNB.out (by injection e))).trans HZ1.out)
  have HS12 := Aside0.mk hg.size
  clear hx hr hg
  go_wp2_with (first | ((with_reducible refine gate_dst (N := 5) rfl ?_); refine box_event ?hg (N := 5) ?hd (cs := #[.int .i64 0, .int .i64 0, .int .i64 0, .string ⟨#[]⟩, .slice none 0 0]) (t := 30) ?hr ?_; (case hd => rfl); (case hg => rfl); (case hr => first | (go_simp; done) | (go_simp; rfl)); intro ga hgg w3 hlit hb; have HAZ := Aside0.mk hlit; have HB3 := Aside0.mk hb; have HGA := Aside0.mk hgg; clear hlit hb hgg) | ((with_reducible refine gate_store (t := 30) (p := 5) rfl ?_); refine put_val ?hg ?hn 30 (.tmp 5) (.tmp 8) ?ho ga 30 _ (#[.int .i64 r1.1.f0, .int .i64 r1.1.f1, .int .i64 r1.1.f2, .string r1.1.f3, .slice K r1.1.f4.length d]) (.agg (#[.int .i64 r1.1.f0, .int .i64 r1.1.f1, .int .i64 r1.1.f2, .string r1.1.f3, .slice K r1.1.f4.length d])) ?hp ?hx ?hu HAZ.out ?ht ?hs ?h1 ?_; (case hg => rfl); (case hn => rfl); (case ho => rfl); (case hp => rfl); (case hx => rfl); (case hu => rfl); (case ht => kernel_rfl); (case hs => rfl); (case h1 => exact exC_one _ _ _ _ _ _ _); intro w4 hlit hg; have HA4 := Aside0.mk hlit; have HBA := Aside0.mk (made_below HGA.out HB3.out hg); have HE4 := Aside0.mk (Ey.of HX2.out HGA.out HB3.out hg); have HR4 := Aside0.mk (HR2.out.on HBA.out); have HG4 := Aside0.mk (grow_trans HG2.out (grown_of_below HBA.out _)); have HZ4 := Aside0.mk (below_read HBA.out HZ2.out); clear hlit hg))
  have HNA := Aside0.mk (show ga ≠ b by have h1 := HGA.out; have h2 := blk_lt HR2.out.blk; omega)
  have HNG := Aside0.mk (show gr ≠ ga by have h1 := HGA.out; have h2 := blk_lt HZ2.out; omega)
  have HNW := Aside0.mk (show w.heap.size ≤ ga by have h1 := HGA.out; have h2 := HG2.out.size; omega)
  have HNW0 := Aside0.mk (show w0.heap.size ≤ ga by have h1 := HNW.out; have h2 := HR.out.old.size; omega)
  have HBB := Aside0.mk (show b < w1.heap.size from Nat.lt_of_lt_of_le (blk_lt HR.out.blk) HB1.out.size)
  have HGN := Aside0.mk (show gr < w1.heap.size from blk_lt HZ1.out)
  have HSG := Aside0.mk (show w2.heap.size ≤ ga by rw [HGA.out]; exact Nat.le_refl _)
  obtain ⟨K0, hK0⟩ : ∃ z, z = K := ⟨_, rfl⟩
  clear hK0 K0
  (try simp only [Act.put, List.setIfInBounds_toArray, List.set_cons_zero, List.set_cons_succ])
  go_loopg [] n (fun gg wr => ∃ (k : Nat) (a : S30) (s1 : Rs) (Ka : Option Addr) (da : Nat), k ≤ gg ∧ k ≤ n ∧ Aside0 (exprL ts en k a s1 deep = some r) ∧ Aside0 (Rd w0 A c ts en b s1 wr ∧ w.grownBy wr (some b) ∧ wr.heap[gr]? = some (.cells #[.int .i64 0, .int .i64 0, .int .i64 0, .string ⟨#[]⟩, .slice none 0 0] 30 (0, 0)) ∧ wr.heap[ga]? = some (.cells #[.int .i64 a.f0, .int .i64 a.f1, .int .i64 a.f2, .string a.f3, .slice Ka a.f4.length da] 30 (0, 0)) ∧ Ey w1.heap.size ga a Ka da wr))
  case atStart => exact ⟨n, r1.1, r1.2, K, d, Nat.le_refl _, Nat.le_refl _, ⟨hF⟩, ⟨HR4.out, HG4.out, HZ4.out, HA4.out, HE4.out⟩⟩
  case round =>
    clear hF HA4 HE4 HR4 HG4 HZ4 HX2 HR2 HG2 HZ2
    obtain ⟨k, a, s1, Ka, da, hgg, hkn, HKF, HL20⟩ := hrel
    generalize wr = w20 at *
    have hk := HKF.out
    clear HKF
    cases k with
    | zero => simp [exprL] at hk
    | succ k =>
    simp only [exprL] at hk
    have h3 : w20.cell? ⟨b, 3, none⟩ = some (.int .i64 s1.e) := (blk_cell HL20.out.1.blk 3).trans rfl
    by_cases ke : s1.e ≠ 0
    · rw [if_pos ke] at hk
      have e1 : (s1.e == 0) = false := beq_eq_false_iff_ne.mpr ke
      have hk := Option.some.inj hk
      subst hk
      clear ke
      go_wp2_with (first | ((with_reducible refine gate_dst (N := 31) rfl ?_); (try (refine gate_guard (by rfl) ?_; dsimp only)); refine wpList_load_row ?hg 30 (.tmp 5) ?ho ga ?hx 30 _ (0, 0) _ HL20.out.2.2.2.1 Tryd.underlying30 ?hd ?hi ?_; (case hg => rfl); (case ho => rfl); (case hx => rfl); (case hd => rfl); (case hi => kernel_rfl)) | ((with_reducible refine gate_store (t := 30) (p := 4) rfl ?_); refine put_val ?hg ?hn 30 (.tmp 4) (.tmp 31) ?ho gr 30 _ (#[.int .i64 a.f0, .int .i64 a.f1, .int .i64 a.f2, .string a.f3, .slice Ka a.f4.length da]) (.agg (#[.int .i64 a.f0, .int .i64 a.f1, .int .i64 a.f2, .string a.f3, .slice Ka a.f4.length da])) ?hp ?hx ?hu HL20.out.2.2.1 ?ht ?hs ?h1 ?_; (case hg => rfl); (case hn => rfl); (case ho => rfl); (case hp => rfl); (case hx => rfl); (case hu => rfl); (case ht => kernel_rfl); (case hs => rfl); (case h1 => exact exC_one _ _ _ _ _ _ _); intro w99 hlit hg; have HT := Aside0.mk hlit; have HGZ := Aside0.mk hg; have HOW := Aside0.mk (own_store HGR.out HB1.out HL20.out.2.1 hg); have HRZ := Aside0.mk (rd_store HX.out HL20.out.1 HGR.out HB1.out HR.out hg); clear hlit hg))
      (try simp only [Exit.inBlock, Exit.then])
      refine bodyPost_ret (results_cell_row rfl _ _ gr 30 _ (0, 0) _ rfl HT.out Tryd.underlying30 rfl (by kernel_rfl)) rfl ?_
      exact ⟨_, _, rfl, (HL20.out.2.2.2.2.ex.grown HGN.out HGZ.out).less HB1.out.size, HRZ.out, HOW.out⟩
    · rw [if_neg ke] at hk
      have e1 : (s1.e == 0) = true := beq_iff_eq.mpr (by simpa using ke)
      clear ke
      by_cases k0 : isS ts en s1 (⟨#[43]⟩ : ByteArray) = true
      · rw [if_pos k0] at hk
        have B21 := Aside0.mk k0
        clear k0
        go_wp2_with fail
        obtain ⟨r1, hr1, hk⟩ := Option.bind_eq_some_iff.1 hk
        have HU := Aside0.mk (fun (W : World) (hR : Rd w0 A c ts en b (stepS s1) W) => ihU k (by omega) (stepS s1) deep W r1 hR h0 (by omega) hr1)
        have HK := Aside0.mk hk
        clear hk hr1
        have HT21 := Aside0.mk (take_calls w0 A c ts en b HX.out s1 (⟨#[43]⟩ : ByteArray) w20 HL20.out.1)
        unfold takeS at HT21
        rw [B21.out, if_pos rfl] at HT21
        refine HT21.out.mono ?_
        rintro q w21 ⟨rfl, hr, hg⟩
        have HL21 := Aside0.mk (⟨hr, grow_trans HL20.out.2.1 hg, (hg.block gr (blk_lt HL20.out.2.2.1) (fun e => HNB.out (by injection e))).trans HL20.out.2.2.1, (hg.block ga (blk_lt HL20.out.2.2.2.1) (fun e => HNA.out (by injection e))).trans HL20.out.2.2.2.1, HL20.out.2.2.2.2.grown HBB.out hg⟩ : Rd w0 A c ts en b (stepS s1) w21 ∧ w.grownBy w21 (some b) ∧ w21.heap[gr]? = some (.cells #[.int .i64 0, .int .i64 0, .int .i64 0, .string ⟨#[]⟩, .slice none 0 0] 30 (0, 0)) ∧ w21.heap[ga]? = some (.cells #[.int .i64 a.f0, .int .i64 a.f1, .int .i64 a.f2, .string a.f3, .slice Ka a.f4.length da] 30 (0, 0)) ∧ Ey w1.heap.size ga a Ka da w21)
        clear hr hg HT21
        go_upto_region 5 with fail
        have HRT := Aside0.mk HL21.out.1
        have HGT := Aside0.mk HL21.out.2.1
        have HZT := Aside0.mk HL21.out.2.2.1
        have HAT := Aside0.mk HL21.out.2.2.2.1
        have HET := Aside0.mk HL21.out.2.2.2.2
        have HSA := Aside0.mk (show w1.heap.size ≤ w21.drew.heap.size from Nat.le_trans HS12.out (Nat.le_of_lt (Nat.lt_of_le_of_lt HSG.out (blk_lt HL21.out.2.2.2.1))))
        have HLA := Aside0.mk (show ga < w21.drew.heap.size from blk_lt HL21.out.2.2.2.1)
        have hq0 : w21.drew.cell? ⟨ga, 0, none⟩ = some (.int .i64 a.f0) := (blk_cell HAT.out 0).trans rfl
        have hq1 : w21.drew.cell? ⟨ga, 1, none⟩ = some (.int .i64 a.f1) := (blk_cell HAT.out 1).trans rfl
        have hq2 : w21.drew.cell? ⟨ga, 2, none⟩ = some (.int .i64 a.f2) := (blk_cell HAT.out 2).trans rfl
        have hq3 : w21.drew.cell? ⟨ga, 3, none⟩ = some (.string a.f3) := (blk_cell HAT.out 3).trans rfl
        have hq4 : w21.drew.cell? ⟨ga, 4, none⟩ = some (.slice Ka a.f4.length da) := (blk_cell HAT.out 4).trans rfl
        refine start_ (n := 6) (S := fun w' => w'.cell? ⟨ga, 0, none⟩ = some (.int .i64 a.f0) ∧ w'.cell? ⟨ga, 1, none⟩ = some (.int .i64 a.f1) ∧ w'.cell? ⟨ga, 2, none⟩ = some (.int .i64 a.f2) ∧ w'.cell? ⟨ga, 3, none⟩ = some (.string a.f3) ∧ w'.cell? ⟨ga, 4, none⟩ = some (.slice Ka a.f4.length da)) (ds := [5]) #[false, false, false, false, false, false] (by kernel_rfl) rfl rfl ⟨hq0, hq1, hq2, hq3, hq4⟩ (fun hHeld => ?_)
        refine pure_ (i := 1) (N := some 19) (v := ?_) (a' := ?_) #[false, true, false, false, false, false] rfl rfl (by kernel_rfl) (fun _ _ _ h => h) (Or.inl ⟨by rfl, ?_⟩) ?_ ?_
        rotate_left
        · intro w'
          go_simp
          with_reducible rfl
        rotate_left
        · simp only [Act.put, List.setIfInBounds_toArray, List.set_cons_zero, List.set_cons_succ, i64_w, i32_w]
          rfl
        refine pure_ (i := 2) (N := some 20) (v := ?_) (a' := ?_) #[false, true, true, false, false, false] rfl rfl (by kernel_rfl) (fun _ _ _ h => h) (Or.inl ⟨by rfl, ?_⟩) ?_ ?_
        rotate_left
        · intro w'
          go_simp
          with_reducible rfl
        rotate_left
        · simp only [Act.put, List.setIfInBounds_toArray, List.set_cons_zero, List.set_cons_succ, i64_w, i32_w]
          rfl
        refine take_ (i := 0) (N := some 18) (v := ?_) (a' := ?_) #[true, true, true, false, false, false] rfl rfl (by kernel_rfl) (fun _ _ _ h => h) (Or.inl ⟨by rfl, ?_⟩) hHeld ?_ ?_
        rotate_left
        · rintro w' ⟨s0, s1, s2, s3, s4⟩
          go_simp
          with_reducible rfl
        rotate_left
        · simp only [Act.put, List.setIfInBounds_toArray, List.set_cons_zero, List.set_cons_succ, i64_w, i32_w]
          rfl
        refine one_ (i := 3) (N := some 21) #[true, true, true, true, false, false] rfl rfl (by kernel_rfl) (by decide) (fun K hK => ?_)
        refine goes_ Tryd.func69 (by kernel_rfl) rfl #[.pointer (some ⟨b, 0, none⟩), .int .i64 deep] (by rfl) rfl rfl (by simp only [List.map_toArray, List.map_cons, List.map_nil, Act.eval]; rfl) ?_
        refine (HU.out _ (HRT.out.on (below_drew (Below.refl _ _)))).mono ?_
        rintro q v3 ⟨L, e, rfl, hx, hr, hg⟩
        have HX3 := Aside0.mk hx
        have HR3 := Aside0.mk hr
        have HG3 := Aside0.mk (grow_trans (grow_trans HGT.out (grown_of_below (below_drew (Below.refl _ _)) (some b))) hg)
        have HA3 := Aside0.mk ((hg.block ga (blk_lt HAT.out) (fun e => HNA.out (by injection e))).trans HAT.out)
        have HZ3 := Aside0.mk ((hg.block gr (blk_lt HZT.out) (fun e => HNB.out (by injection e))).trans HZT.out)
        have HE3 := Aside0.mk ((HET.out.on (below_drew (Below.refl _ _))).grown HBB.out hg)
        have HS3 := Aside0.mk hg.size
        clear hx hr hg
        refine ⟨_, rfl, ?_⟩
        refine hK.out _ _ ⟨(blk_cell HA3.out 0).trans rfl, (blk_cell HA3.out 1).trans rfl, (blk_cell HA3.out 2).trans rfl, (blk_cell HA3.out 3).trans rfl, (blk_cell HA3.out 4).trans rfl⟩ (fun hHeld => ?_)
        clear hK K
        refine norm_ (a' := ?_) ?_ ?_
        rotate_left
        · show Act.put _ (some 21) _ = _
          simp only [Act.put, List.setIfInBounds_toArray, List.set_cons_zero, List.set_cons_succ, i64_w, i32_w]
          rfl
        refine one_ (i := 4) (N := some 22) #[true, true, true, true, true, false] rfl rfl (by kernel_rfl) (by decide) (fun K hK => ?_)
        refine goes_ Tryd.func70 (by kernel_rfl) rfl #[.int .i64 1, .agg #[.int .i64 a.f0, .int .i64 a.f1, .int .i64 a.f2, .string a.f3, .slice Ka a.f4.length da], .agg #[.int .i64 r1.1.f0, .int .i64 r1.1.f1, .int .i64 r1.1.f2, .string r1.1.f3, .slice L r1.1.f4.length e]] (by rfl) rfl rfl (by simp only [List.map_toArray, List.map_cons, List.map_nil, Act.eval]; rfl) ?_
        refine (bin_calls 1 a r1.1 Ka L da e v3).mono ?_
        rintro q v4 ⟨g, rfl, hge, hgb, hb⟩
        have HGE := Aside0.mk hge
        have HGB := Aside0.mk hgb
        have HR4 := Aside0.mk (HR3.out.on hb)
        have HG4 := Aside0.mk (grow_trans HG3.out (grown_of_below hb _))
        have HA4 := Aside0.mk (below_read hb HA3.out)
        have HZ4 := Aside0.mk (below_read hb HZ3.out)
        have HE4 := Aside0.mk (HE3.out.on hb)
        have HX4 := Aside0.mk (HX3.out.on hb)
        clear hge hgb hb
        refine ⟨_, rfl, ?_⟩
        refine hK.out _ _ ⟨(blk_cell HA4.out 0).trans rfl, (blk_cell HA4.out 1).trans rfl, (blk_cell HA4.out 2).trans rfl, (blk_cell HA4.out 3).trans rfl, (blk_cell HA4.out 4).trans rfl⟩ (fun hHeld => ?_)
        clear hK K
        refine norm_ (a' := ?_) ?_ ?_
        rotate_left
        · show Act.put _ (some 22) _ = _
          simp only [Act.put, List.setIfInBounds_toArray, List.set_cons_zero, List.set_cons_succ, i64_w, i32_w]
          rfl
        refine last_ (i := 5) (N := none) #[true, true, true, true, true, true] rfl rfl (by kernel_rfl) (by decide) (fun K hK => ?_)
        refine put_step (by rfl) rfl 30 (.tmp 5) (.tmp 22) ?ho ga 30 _ (#[.int .i64 5, .int .i64 0, .int .i64 1, .string ⟨#[]⟩, .slice (some ⟨g, 0, none⟩) 2 2]) (.agg (#[.int .i64 5, .int .i64 0, .int .i64 1, .string ⟨#[]⟩, .slice (some ⟨g, 0, none⟩) 2 2])) ?hp ?hx ?hu HA4.out ?ht ?hs ?h1 ?_
        case ho => rfl
        case hp => rfl
        case hx => rfl
        case hu => rfl
        case ht => kernel_rfl
        case hs => rfl
        case h1 => exact exC_one _ _ _ _ _ _ _
        intro w5 hlit hg
        have HT5 := Aside0.mk hlit
        have HG5 := Aside0.mk (own_store2 HNW.out HG4.out hg)
        have HR5 := Aside0.mk (rd_store2 HX.out HR4.out HNA.out HNW0.out hg)
        have HZ5 := Aside0.mk ((hg.block gr (blk_lt HZ4.out) (fun e => HNG.out (by injection e))).trans HZ4.out)
        have HE5 := Aside0.mk (HE4.out.two HX4.out HSA.out HLA.out (Nat.le_trans HS3.out HGE.out) HGB.out hg 5 0 1 ⟨#[]⟩)
        clear hlit hg
        refine hK.out _ _ ?_
        clear hK K
        refine done_ (by kernel_rfl) ?_
        go_wp2_with fail
        go_roundg k
        case measure => omega
        case rel => exact ⟨k, _, _, _, _, Nat.le_refl _, by omega, ⟨HK.out⟩, ⟨HR5.out, HG5.out, HZ5.out, HT5.out, HE5.out⟩⟩
      · rw [if_neg k0] at hk
        have B21 := Aside0.mk (Bool.eq_false_iff.2 k0)
        clear k0
        go_wp2_with fail
        have HT21 := Aside0.mk (take_calls w0 A c ts en b HX.out s1 (⟨#[43]⟩ : ByteArray) w20 HL20.out.1)
        unfold takeS at HT21
        rw [B21.out, if_neg (by decide)] at HT21
        refine HT21.out.mono ?_
        rintro q w21 ⟨rfl, hr, hg⟩
        have HL21 := Aside0.mk (⟨hr, grow_trans HL20.out.2.1 hg, (hg.block gr (blk_lt HL20.out.2.2.1) (fun e => HNB.out (by injection e))).trans HL20.out.2.2.1, (hg.block ga (blk_lt HL20.out.2.2.2.1) (fun e => HNA.out (by injection e))).trans HL20.out.2.2.2.1, HL20.out.2.2.2.2.grown HBB.out hg⟩ : Rd w0 A c ts en b s1 w21 ∧ w.grownBy w21 (some b) ∧ w21.heap[gr]? = some (.cells #[.int .i64 0, .int .i64 0, .int .i64 0, .string ⟨#[]⟩, .slice none 0 0] 30 (0, 0)) ∧ w21.heap[ga]? = some (.cells #[.int .i64 a.f0, .int .i64 a.f1, .int .i64 a.f2, .string a.f3, .slice Ka a.f4.length da] 30 (0, 0)) ∧ Ey w1.heap.size ga a Ka da w21)
        clear hr hg HT21
        by_cases k1 : isS ts en s1 (⟨#[45]⟩ : ByteArray) = true
        · rw [if_pos k1] at hk
          have B22 := Aside0.mk k1
          clear k1
          go_wp2_with fail
          obtain ⟨r1, hr1, hk⟩ := Option.bind_eq_some_iff.1 hk
          have HU := Aside0.mk (fun (W : World) (hR : Rd w0 A c ts en b (stepS s1) W) => ihU k (by omega) (stepS s1) deep W r1 hR h0 (by omega) hr1)
          have HK := Aside0.mk hk
          clear hk hr1
          have HT22 := Aside0.mk (take_calls w0 A c ts en b HX.out s1 (⟨#[45]⟩ : ByteArray) w21 HL21.out.1)
          unfold takeS at HT22
          rw [B22.out, if_pos rfl] at HT22
          refine HT22.out.mono ?_
          rintro q w22 ⟨rfl, hr, hg⟩
          have HL22 := Aside0.mk (⟨hr, grow_trans HL21.out.2.1 hg, (hg.block gr (blk_lt HL21.out.2.2.1) (fun e => HNB.out (by injection e))).trans HL21.out.2.2.1, (hg.block ga (blk_lt HL21.out.2.2.2.1) (fun e => HNA.out (by injection e))).trans HL21.out.2.2.2.1, HL21.out.2.2.2.2.grown HBB.out hg⟩ : Rd w0 A c ts en b (stepS s1) w22 ∧ w.grownBy w22 (some b) ∧ w22.heap[gr]? = some (.cells #[.int .i64 0, .int .i64 0, .int .i64 0, .string ⟨#[]⟩, .slice none 0 0] 30 (0, 0)) ∧ w22.heap[ga]? = some (.cells #[.int .i64 a.f0, .int .i64 a.f1, .int .i64 a.f2, .string a.f3, .slice Ka a.f4.length da] 30 (0, 0)) ∧ Ey w1.heap.size ga a Ka da w22)
          clear hr hg HT22
          go_upto_region 7 with fail
          have HRT := Aside0.mk HL22.out.1
          have HGT := Aside0.mk HL22.out.2.1
          have HZT := Aside0.mk HL22.out.2.2.1
          have HAT := Aside0.mk HL22.out.2.2.2.1
          have HET := Aside0.mk HL22.out.2.2.2.2
          have HSA := Aside0.mk (show w1.heap.size ≤ w22.drew.heap.size from Nat.le_trans HS12.out (Nat.le_of_lt (Nat.lt_of_le_of_lt HSG.out (blk_lt HL22.out.2.2.2.1))))
          have HLA := Aside0.mk (show ga < w22.drew.heap.size from blk_lt HL22.out.2.2.2.1)
          have hq0 : w22.drew.cell? ⟨ga, 0, none⟩ = some (.int .i64 a.f0) := (blk_cell HAT.out 0).trans rfl
          have hq1 : w22.drew.cell? ⟨ga, 1, none⟩ = some (.int .i64 a.f1) := (blk_cell HAT.out 1).trans rfl
          have hq2 : w22.drew.cell? ⟨ga, 2, none⟩ = some (.int .i64 a.f2) := (blk_cell HAT.out 2).trans rfl
          have hq3 : w22.drew.cell? ⟨ga, 3, none⟩ = some (.string a.f3) := (blk_cell HAT.out 3).trans rfl
          have hq4 : w22.drew.cell? ⟨ga, 4, none⟩ = some (.slice Ka a.f4.length da) := (blk_cell HAT.out 4).trans rfl
          refine start_ (n := 6) (S := fun w' => w'.cell? ⟨ga, 0, none⟩ = some (.int .i64 a.f0) ∧ w'.cell? ⟨ga, 1, none⟩ = some (.int .i64 a.f1) ∧ w'.cell? ⟨ga, 2, none⟩ = some (.int .i64 a.f2) ∧ w'.cell? ⟨ga, 3, none⟩ = some (.string a.f3) ∧ w'.cell? ⟨ga, 4, none⟩ = some (.slice Ka a.f4.length da)) (ds := [5]) #[false, false, false, false, false, false] (by kernel_rfl) rfl rfl ⟨hq0, hq1, hq2, hq3, hq4⟩ (fun hHeld => ?_)
          refine pure_ (i := 1) (N := some 27) (v := ?_) (a' := ?_) #[false, true, false, false, false, false] rfl rfl (by kernel_rfl) (fun _ _ _ h => h) (Or.inl ⟨by rfl, ?_⟩) ?_ ?_
          rotate_left
          · intro w'
            go_simp
            with_reducible rfl
          rotate_left
          · simp only [Act.put, List.setIfInBounds_toArray, List.set_cons_zero, List.set_cons_succ, i64_w, i32_w]
            rfl
          refine pure_ (i := 2) (N := some 28) (v := ?_) (a' := ?_) #[false, true, true, false, false, false] rfl rfl (by kernel_rfl) (fun _ _ _ h => h) (Or.inl ⟨by rfl, ?_⟩) ?_ ?_
          rotate_left
          · intro w'
            go_simp
            with_reducible rfl
          rotate_left
          · simp only [Act.put, List.setIfInBounds_toArray, List.set_cons_zero, List.set_cons_succ, i64_w, i32_w]
            rfl
          refine take_ (i := 0) (N := some 26) (v := ?_) (a' := ?_) #[true, true, true, false, false, false] rfl rfl (by kernel_rfl) (fun _ _ _ h => h) (Or.inl ⟨by rfl, ?_⟩) hHeld ?_ ?_
          rotate_left
          · rintro w' ⟨s0, s1, s2, s3, s4⟩
            go_simp
            with_reducible rfl
          rotate_left
          · simp only [Act.put, List.setIfInBounds_toArray, List.set_cons_zero, List.set_cons_succ, i64_w, i32_w]
            rfl
          refine one_ (i := 3) (N := some 29) #[true, true, true, true, false, false] rfl rfl (by kernel_rfl) (by decide) (fun K hK => ?_)
          refine goes_ Tryd.func69 (by kernel_rfl) rfl #[.pointer (some ⟨b, 0, none⟩), .int .i64 deep] (by rfl) rfl rfl (by simp only [List.map_toArray, List.map_cons, List.map_nil, Act.eval]; rfl) ?_
          refine (HU.out _ (HRT.out.on (below_drew (Below.refl _ _)))).mono ?_
          rintro q v3 ⟨L, e, rfl, hx, hr, hg⟩
          have HX3 := Aside0.mk hx
          have HR3 := Aside0.mk hr
          have HG3 := Aside0.mk (grow_trans (grow_trans HGT.out (grown_of_below (below_drew (Below.refl _ _)) (some b))) hg)
          have HA3 := Aside0.mk ((hg.block ga (blk_lt HAT.out) (fun e => HNA.out (by injection e))).trans HAT.out)
          have HZ3 := Aside0.mk ((hg.block gr (blk_lt HZT.out) (fun e => HNB.out (by injection e))).trans HZT.out)
          have HE3 := Aside0.mk ((HET.out.on (below_drew (Below.refl _ _))).grown HBB.out hg)
          have HS3 := Aside0.mk hg.size
          clear hx hr hg
          refine ⟨_, rfl, ?_⟩
          refine hK.out _ _ ⟨(blk_cell HA3.out 0).trans rfl, (blk_cell HA3.out 1).trans rfl, (blk_cell HA3.out 2).trans rfl, (blk_cell HA3.out 3).trans rfl, (blk_cell HA3.out 4).trans rfl⟩ (fun hHeld => ?_)
          clear hK K
          refine norm_ (a' := ?_) ?_ ?_
          rotate_left
          · show Act.put _ (some 29) _ = _
            simp only [Act.put, List.setIfInBounds_toArray, List.set_cons_zero, List.set_cons_succ, i64_w, i32_w]
            rfl
          refine one_ (i := 4) (N := some 30) #[true, true, true, true, true, false] rfl rfl (by kernel_rfl) (by decide) (fun K hK => ?_)
          refine goes_ Tryd.func70 (by kernel_rfl) rfl #[.int .i64 2, .agg #[.int .i64 a.f0, .int .i64 a.f1, .int .i64 a.f2, .string a.f3, .slice Ka a.f4.length da], .agg #[.int .i64 r1.1.f0, .int .i64 r1.1.f1, .int .i64 r1.1.f2, .string r1.1.f3, .slice L r1.1.f4.length e]] (by rfl) rfl rfl (by simp only [List.map_toArray, List.map_cons, List.map_nil, Act.eval]; rfl) ?_
          refine (bin_calls 2 a r1.1 Ka L da e v3).mono ?_
          rintro q v4 ⟨g, rfl, hge, hgb, hb⟩
          have HGE := Aside0.mk hge
          have HGB := Aside0.mk hgb
          have HR4 := Aside0.mk (HR3.out.on hb)
          have HG4 := Aside0.mk (grow_trans HG3.out (grown_of_below hb _))
          have HA4 := Aside0.mk (below_read hb HA3.out)
          have HZ4 := Aside0.mk (below_read hb HZ3.out)
          have HE4 := Aside0.mk (HE3.out.on hb)
          have HX4 := Aside0.mk (HX3.out.on hb)
          clear hge hgb hb
          refine ⟨_, rfl, ?_⟩
          refine hK.out _ _ ⟨(blk_cell HA4.out 0).trans rfl, (blk_cell HA4.out 1).trans rfl, (blk_cell HA4.out 2).trans rfl, (blk_cell HA4.out 3).trans rfl, (blk_cell HA4.out 4).trans rfl⟩ (fun hHeld => ?_)
          clear hK K
          refine norm_ (a' := ?_) ?_ ?_
          rotate_left
          · show Act.put _ (some 30) _ = _
            simp only [Act.put, List.setIfInBounds_toArray, List.set_cons_zero, List.set_cons_succ, i64_w, i32_w]
            rfl
          refine last_ (i := 5) (N := none) #[true, true, true, true, true, true] rfl rfl (by kernel_rfl) (by decide) (fun K hK => ?_)
          refine put_step (by rfl) rfl 30 (.tmp 5) (.tmp 30) ?ho ga 30 _ (#[.int .i64 5, .int .i64 0, .int .i64 2, .string ⟨#[]⟩, .slice (some ⟨g, 0, none⟩) 2 2]) (.agg (#[.int .i64 5, .int .i64 0, .int .i64 2, .string ⟨#[]⟩, .slice (some ⟨g, 0, none⟩) 2 2])) ?hp ?hx ?hu HA4.out ?ht ?hs ?h1 ?_
          case ho => rfl
          case hp => rfl
          case hx => rfl
          case hu => rfl
          case ht => kernel_rfl
          case hs => rfl
          case h1 => exact exC_one _ _ _ _ _ _ _
          intro w5 hlit hg
          have HT5 := Aside0.mk hlit
          have HG5 := Aside0.mk (own_store2 HNW.out HG4.out hg)
          have HR5 := Aside0.mk (rd_store2 HX.out HR4.out HNA.out HNW0.out hg)
          have HZ5 := Aside0.mk ((hg.block gr (blk_lt HZ4.out) (fun e => HNG.out (by injection e))).trans HZ4.out)
          have HE5 := Aside0.mk (HE4.out.two HX4.out HSA.out HLA.out (Nat.le_trans HS3.out HGE.out) HGB.out hg 5 0 2 ⟨#[]⟩)
          clear hlit hg
          refine hK.out _ _ ?_
          clear hK K
          refine done_ (by kernel_rfl) ?_
          go_wp2_with fail
          go_roundg k
          case measure => omega
          case rel => exact ⟨k, _, _, _, _, Nat.le_refl _, by omega, ⟨HK.out⟩, ⟨HR5.out, HG5.out, HZ5.out, HT5.out, HE5.out⟩⟩
        · rw [if_neg k1] at hk
          have B22 := Aside0.mk (Bool.eq_false_iff.2 k1)
          clear k1
          go_wp2_with fail
          have HT22 := Aside0.mk (take_calls w0 A c ts en b HX.out s1 (⟨#[45]⟩ : ByteArray) w21 HL21.out.1)
          unfold takeS at HT22
          rw [B22.out, if_neg (by decide)] at HT22
          refine HT22.out.mono ?_
          rintro q w22 ⟨rfl, hr, hg⟩
          have HL22 := Aside0.mk (⟨hr, grow_trans HL21.out.2.1 hg, (hg.block gr (blk_lt HL21.out.2.2.1) (fun e => HNB.out (by injection e))).trans HL21.out.2.2.1, (hg.block ga (blk_lt HL21.out.2.2.2.1) (fun e => HNA.out (by injection e))).trans HL21.out.2.2.2.1, HL21.out.2.2.2.2.grown HBB.out hg⟩ : Rd w0 A c ts en b s1 w22 ∧ w.grownBy w22 (some b) ∧ w22.heap[gr]? = some (.cells #[.int .i64 0, .int .i64 0, .int .i64 0, .string ⟨#[]⟩, .slice none 0 0] 30 (0, 0)) ∧ w22.heap[ga]? = some (.cells #[.int .i64 a.f0, .int .i64 a.f1, .int .i64 a.f2, .string a.f3, .slice Ka a.f4.length da] 30 (0, 0)) ∧ Ey w1.heap.size ga a Ka da w22)
          clear hr hg HT22
          have hk := Option.some.inj hk
          subst hk
          go_wp2_with (first | ((with_reducible refine gate_dst (N := 14) rfl ?_); (try (refine gate_guard (by rfl) ?_; dsimp only)); refine wpList_load_row ?hg 30 (.tmp 5) ?ho ga ?hx 30 _ (0, 0) _ HL22.out.2.2.2.1 Tryd.underlying30 ?hd ?hi ?_; (case hg => rfl); (case ho => rfl); (case hx => rfl); (case hd => rfl); (case hi => kernel_rfl)) | ((with_reducible refine gate_store (t := 30) (p := 4) rfl ?_); refine put_val ?hg ?hn 30 (.tmp 4) (.tmp 14) ?ho gr 30 _ (#[.int .i64 a.f0, .int .i64 a.f1, .int .i64 a.f2, .string a.f3, .slice Ka a.f4.length da]) (.agg (#[.int .i64 a.f0, .int .i64 a.f1, .int .i64 a.f2, .string a.f3, .slice Ka a.f4.length da])) ?hp ?hx ?hu HL22.out.2.2.1 ?ht ?hs ?h1 ?_; (case hg => rfl); (case hn => rfl); (case ho => rfl); (case hp => rfl); (case hx => rfl); (case hu => rfl); (case ht => kernel_rfl); (case hs => rfl); (case h1 => exact exC_one _ _ _ _ _ _ _); intro w99 hlit hg; have HT := Aside0.mk hlit; have HGZ := Aside0.mk hg; have HOW := Aside0.mk (own_store HGR.out HB1.out HL22.out.2.1 hg); have HRZ := Aside0.mk (rd_store HX.out HL22.out.1 HGR.out HB1.out HR.out hg); clear hlit hg))
          (try simp only [Exit.inBlock, Exit.then])
          refine bodyPost_ret (results_cell_row rfl _ _ gr 30 _ (0, 0) _ rfl HT.out Tryd.underlying30 rfl (by kernel_rfl)) rfl ?_
          exact ⟨_, _, rfl, (HL22.out.2.2.2.2.ex.grown HGN.out HGZ.out).less HB1.out.size, HRZ.out, HOW.out⟩
theorem ExC.zero {w0 : World} {A : Option Addr} {c : Nat} {ts : List S86} {en : Int} {b fn : Nat} {F : Rs → Int → Option (S30 × Rs)} (h : ∀ s d, F s d = none) : ExC w0 A c ts en b fn 0 F := fun s d w r _ _ _ hF => by rw [h] at hF; cases hF
theorem expr_all (w0 : World) (A : Option Addr) (c : Nat) (ts : List S86) (en : Int) (b : Nat) (hX : Ctx w0 A c ts b) : ∀ (n m : Nat), m ≤ n → ExC w0 A c ts en b 81 m (primF ts en m) ∧ ExC w0 A c ts en b 77 m (unaryF ts en m) ∧ ExC w0 A c ts en b 69 m (termF ts en m) ∧ ExC w0 A c ts en b 62 m (exprP ts en m)
  | _, 0, _ => ⟨ExC.zero (fun _ _ => by simp [primF]), ExC.zero (fun _ _ => by simp [unaryF]), ExC.zero (fun _ _ => by simp [termF]), ExC.zero (fun _ _ => by simp [exprP])⟩
  | 0, m + 1, h => by omega
  | n + 1, m + 1, h => by
    have ih := expr_all w0 A c ts en b hX n
    exact ⟨prim_step w0 A c ts en b hX m (ih m (by omega)).2.2.2, unary_step w0 A c ts en b hX m (ih m (by omega)).2.1 (ih m (by omega)).1, term_step w0 A c ts en b hX m (fun k hk => (ih k (by omega)).2.1), expr_step w0 A c ts en b hX m (fun k hk => (ih k (by omega)).2.2.1)⟩
/-- The reader's expr answers exprP, with as much fuel as that has. -/
theorem expr_calls (w0 : World) (A : Option Addr) (c : Nat) (ts : List S86) (en : Int) (b : Nat) (hX : Ctx w0 A c ts b) (n : Nat) : ExC w0 A c ts en b 62 n (exprP ts en n) := (expr_all w0 A c ts en b hX n n (Nat.le_refl _)).2.2.2
end Go.Proofs.YtfeaekdhpkdljaaDoor.Rd
