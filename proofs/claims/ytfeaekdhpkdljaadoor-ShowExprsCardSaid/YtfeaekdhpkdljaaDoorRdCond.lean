/- meddlerref5.reader: conditions. -/
import Derived.Test.YtfeaekdhpkdljaaDoorRdExpr
namespace Go.Proofs.YtfeaekdhpkdljaaDoor.Rd
open Go.RowKit Go.Proofs.YtfeaekdhpkdljaaDoorW.PrintWords Go.Proofs.YtfeaekdhpkdljaaDoorW.PrintLast Go.Proofs.YtfeaekdhpkdljaaDoor.Sh
set_option linter.unusedVariables false
set_option linter.unusedSimpArgs false
/-- A condition's rows, in blocks from 'base' on. -/
structure Cx (base : Nat) (x : S33) (K : Option Addr) (d : Nat) (L : Option Addr) (e : Nat) (w : World) : Prop where
  cap : x.f2.length ≤ d
  row : Kd.F k30 w (fun k => base ≤ k) K x.f2.length x.f2
  cap3 : x.f3.length ≤ e
  row3 : Kd.F k33 w (fun k => base ≤ k) L x.f3.length x.f3
section
variable {base base' b g ga : Nat} {x y : S33} {K L K' L' : Option Addr} {d e d' e' : Nat} {w w' w1 w2 wz : World}
theorem Cx.grown (h : Cx base x K d L e w) (hb : b < base) (hg : w.grownBy w' (some b)) : Cx base x K d L e w' :=
  ⟨h.cap, F_on h.row (fun k hk hl => hg.block k hl (fun e => by injection e with e; omega)) hg.size, h.cap3, F_on h.row3 (fun k hk hl => hg.block k hl (fun e => by injection e with e; omega)) hg.size⟩
theorem Cx.on (h : Cx base x K d L e w) (hb : Below w.heap.size w w') : Cx base x K d L e w' := ⟨h.cap, F_on h.row (fun k _ hl => hb.block k hl) hb.size, h.cap3, F_on h.row3 (fun k _ hl => hb.block k hl) hb.size⟩
theorem Cx.less (h : Cx base x K d L e w) (hb : base' ≤ base) : Cx base' x K d L e w := ⟨h.cap, F_mono h.row (fun k hk _ => Nat.le_trans hb hk), h.cap3, F_mono h.row3 (fun k hk _ => Nat.le_trans hb hk)⟩
theorem Cx.made (h : Cx base x K d L e w) (hg : g = w.heap.size) (hb : Below w.heap.size w w1) (hs : w1.grownBy w2 (some g)) : Cx base x K d L e w2 :=
  ⟨h.cap, F_on h.row (fun k _ hl => (hs.block k (Nat.lt_of_lt_of_le hl hb.size) (fun e => by injection e with e; omega)).trans (hb.block k hl)) (Nat.le_trans hb.size hs.size), h.cap3, F_on h.row3 (fun k _ hl => (hs.block k (Nat.lt_of_lt_of_le hl hb.size) (fun e => by injection e with e; omega)).trans (hb.block k hl)) (Nat.le_trans hb.size hs.size)⟩
theorem Cx.FK (h : Cx base x K d L e w) : Kd.FK k33 w (fun k => base ≤ k) x [.int .i64 x.f0, .int .i64 x.f1, .slice K x.f2.length d, .slice L x.f3.length e] := k33_mkF w _ x h.cap h.row h.cap3 h.row3
theorem Cx.kid (h : Cx base x K d L e w) (hg : base ≤ g) (hb : w.heap[g]? = some (.cells #[.int .i64 x.f0, .int .i64 x.f1, .slice K x.f2.length d, .slice L x.f3.length e] 33 (0, 0))) (a r : Int) : Cx base ⟨a, r, [], [x]⟩ .none 0 (some ⟨g, 0, .none⟩) 1 w :=
  ⟨Nat.le_refl _, F_nil _ _ _, Nat.le_refl _, F_mono (F_one k33 h.FK rfl hb) (fun k hk _ => hk.elim id (fun e => by rw [e]; exact hg))⟩
/-- A relation's two sides. -/
theorem Cx.rel {p q : S30} {M N : Option Addr} {m n : Nat} (h : Ex base p M m w) (k : Ex base' q N n w) (h1 : base ≤ base') (hg : base ≤ g) (hb : w.heap[g]? = some (.cells #[.int .i64 p.f0, .int .i64 p.f1, .int .i64 p.f2, .string p.f3, .slice M p.f4.length m, .int .i64 q.f0, .int .i64 q.f1, .int .i64 q.f2, .string q.f3, .slice N q.f4.length n] 30 (0, 0))) (a r : Int) : Cx base ⟨a, r, [p, q], []⟩ (some ⟨g, 0, .none⟩) 2 .none 0 w :=
  ⟨Nat.le_refl _, F_mono (F_two k30 h.FK rfl (k.less h1).FK rfl hb) (fun k hk _ => hk.elim id (fun e => by rw [e]; exact hg)), Nat.le_refl _, F_nil _ _ _⟩
end
structure Cy (base ga : Nat) (x : S33) (K : Option Addr) (d : Nat) (L : Option Addr) (e : Nat) (w : World) : Prop where
  cap : x.f2.length ≤ d
  row : Kd.F k30 w (fun k => base ≤ k ∧ k ≠ ga) K x.f2.length x.f2
  cap3 : x.f3.length ≤ e
  row3 : Kd.F k33 w (fun k => base ≤ k ∧ k ≠ ga) L x.f3.length x.f3
section
variable {base base' b g ga : Nat} {x y : S33} {K L K' L' : Option Addr} {d e d' e' : Nat} {w w' w1 w2 wz : World}
theorem Cy.of (h : Cx base x K d L e w) (hg : ga = w.heap.size) (hb : Below w.heap.size w w1) (hs : w1.grownBy w2 (some ga)) : Cy base ga x K d L e w2 :=
  ⟨h.cap, F_mono (F_on (F_bound h.row) (fun k hk hl => (hs.block k (Nat.lt_of_lt_of_le hl hb.size) (fun e => by injection e with e; omega)).trans (hb.block k hl)) (Nat.le_trans hb.size hs.size)) (fun k hk _ => ⟨hk.1, by have := hk.2; omega⟩),
   h.cap3, F_mono (F_on (F_bound h.row3) (fun k hk hl => (hs.block k (Nat.lt_of_lt_of_le hl hb.size) (fun e => by injection e with e; omega)).trans (hb.block k hl)) (Nat.le_trans hb.size hs.size)) (fun k hk _ => ⟨hk.1, by have := hk.2; omega⟩)⟩
theorem Cy.grown (h : Cy base ga x K d L e w) (hb : b < base) (hg : w.grownBy w' (some b)) : Cy base ga x K d L e w' :=
  ⟨h.cap, F_on h.row (fun k hk hl => hg.block k hl (fun e => by injection e with e; have := hk.1; omega)) hg.size, h.cap3, F_on h.row3 (fun k hk hl => hg.block k hl (fun e => by injection e with e; have := hk.1; omega)) hg.size⟩
theorem Cy.on (h : Cy base ga x K d L e w) (hb : Below w.heap.size w w') : Cy base ga x K d L e w' := ⟨h.cap, F_on h.row (fun k _ hl => hb.block k hl) hb.size, h.cap3, F_on h.row3 (fun k _ hl => hb.block k hl) hb.size⟩
theorem Cy.cx (h : Cy base ga x K d L e w) : Cx base x K d L e w := ⟨h.cap, F_mono h.row (fun k hk _ => hk.1), h.cap3, F_mono h.row3 (fun k hk _ => hk.1)⟩
theorem Cy.FK (h : Cy base ga x K d L e w) : Kd.FK k33 w (fun k => base ≤ k ∧ k ≠ ga) x [.int .i64 x.f0, .int .i64 x.f1, .slice K x.f2.length d, .slice L x.f3.length e] := k33_mkF w _ x h.cap h.row h.cap3 h.row3
theorem Cy.two (h : Cy base ga x K d L e w) (k : Cx base' y K' d' L' e' w) (h1 : base ≤ base') (h2 : ga < base') (hg : base' ≤ g) (hb : w.heap[g]? = some (.cells #[.int .i64 x.f0, .int .i64 x.f1, .slice K x.f2.length d, .slice L x.f3.length e, .int .i64 y.f0, .int .i64 y.f1, .slice K' y.f2.length d', .slice L' y.f3.length e'] 33 (0, 0))) (hs : w.grownBy wz (some ga)) (a r : Int) : Cy base ga ⟨a, r, [], [x, y]⟩ .none 0 (some ⟨g, 0, .none⟩) 2 wz :=
  ⟨Nat.le_refl _, F_nil _ _ _, Nat.le_refl _, F_on (F_mono (F_two k33 h.FK rfl (FK_mono k.FK (fun q hq => ⟨Nat.le_trans h1 hq, Nat.ne_of_gt (Nat.lt_of_lt_of_le h2 hq)⟩)) rfl hb) (fun q hq _ => hq.elim id (fun e => by rw [e]; exact ⟨Nat.le_trans h1 hg, Nat.ne_of_gt (Nat.lt_of_lt_of_le h2 hg)⟩))) (fun q hq hl => hs.block q hl (fun e => by injection e with e; exact hq.2 e)) hs.size⟩
end
theorem cdC_one (a b : Int) (K L : Option Addr) (n m k l : Nat) : ∀ q ∈ (#[.int .i64 a, .int .i64 b, .slice K n m, .slice L k l] : Array Value).toList, q.oneCell' = true := by
  intro q hq
  simp only [List.mem_cons, List.not_mem_nil, or_false] at hq
  rcases hq with h | h | h | h <;> subst h <;> rfl
mutual
def atomF (ts : List S86) (en : Int) : Nat → Rs → Int → Option (S33 × Rs)
  | 0, _, _ => none
  | n + 1, s, deep =>
    if isS ts en (if deep > 10 then failS ts en s 3 else s) (⟨#[33]⟩ : ByteArray) = true then (atomF ts en n (stepS (if deep > 10 then failS ts en s 3 else s)) (deep + 1)).bind fun r => some (⟨2, 0, [], [r.1]⟩, r.2)
    else if isS ts en (if deep > 10 then failS ts en s 3 else s) (⟨#[91]⟩ : ByteArray) = true then (condP ts en n (stepS (if deep > 10 then failS ts en s 3 else s)) (deep + 1)).bind fun r => some (r.1, needS ts en r.2 (⟨#[93]⟩ : ByteArray))
    else (exprP ts en n (if deep > 10 then failS ts en s 3 else s) deep).bind fun a => (exprP ts en n (relS ts en a.2).2 deep).bind fun b => some (⟨1, (relS ts en a.2).1, [a.1, b.1], []⟩, b.2)
def conjF (ts : List S86) (en : Int) : Nat → Rs → Int → Option (S33 × Rs)
  | 0, _, _ => none
  | n + 1, s, deep => (atomF ts en n s deep).bind fun r => conjL ts en n r.1 r.2 deep
def conjL (ts : List S86) (en : Int) : Nat → S33 → Rs → Int → Option (S33 × Rs)
  | 0, _, _, _ => none
  | n + 1, a, s, deep => if isS ts en s (⟨#[38, 38]⟩ : ByteArray) = true then (atomF ts en n (stepS s) deep).bind fun r => conjL ts en n ⟨3, 0, [], [a, r.1]⟩ r.2 deep else some (a, s)
def condP (ts : List S86) (en : Int) : Nat → Rs → Int → Option (S33 × Rs)
  | 0, _, _ => none
  | n + 1, s, deep => (conjF ts en n s deep).bind fun r => condL ts en n r.1 r.2 deep
def condL (ts : List S86) (en : Int) : Nat → S33 → Rs → Int → Option (S33 × Rs)
  | 0, _, _, _ => none
  | n + 1, a, s, deep => if isS ts en s (⟨#[124, 124]⟩ : ByteArray) = true then (conjF ts en n (stepS s) deep).bind fun r => condL ts en n ⟨4, 0, [], [a, r.1]⟩ r.2 deep else some (a, s)
end
def CdC (w0 : World) (A : Option Addr) (c : Nat) (ts : List S86) (en : Int) (b : Nat) (fn n : Nat) (F : Rs → Int → Option (S33 × Rs)) : Prop :=
  ∀ (s : Rs) (deep : Int) (w : World) (r : S33 × Rs), Rd w0 A c ts en b s w → 0 ≤ deep → deep + n ≤ 1000000000 → F s deep = some r → Calls Tryd.prog fn #[.pointer (some ⟨b, 0, none⟩), .int .i64 deep] w fun q w' => ∃ K d L e, q = .returned (.agg #[.int .i64 r.1.f0, .int .i64 r.1.f1, .slice K r.1.f2.length d, .slice L r.1.f3.length e]) ∧ Cx w.heap.size r.1 K d L e w' ∧ Rd w0 A c ts en b r.2 w' ∧ w.grownBy w' (some b)
set_option maxHeartbeats 8000000 in
set_option maxRecDepth 100000 in
theorem atom_step (w0 : World) (A : Option Addr) (c : Nat) (ts : List S86) (en : Int) (b : Nat) (hX : Ctx w0 A c ts b) (n : Nat) (ihA : CdC w0 A c ts en b 76 n (atomF ts en n)) (ihC : CdC w0 A c ts en b 60 n (condP ts en n)) (ihE : ExC w0 A c ts en b 62 n (exprP ts en n)) : CdC w0 A c ts en b 76 (n + 1) (atomF ts en (n + 1)) := by
  intro s deep w r h h0 h1 hF
  have HX := Aside0.mk hX
  have HR := Aside0.mk h
  simp only [atomF] at hF
  obtain ⟨s1, h1s⟩ : ∃ z, (if deep > 10 then failS ts en s 3 else s) = z := ⟨_, rfl⟩
  rw [h1s] at hF
  have HNB : Aside0 (∀ gr : Nat, gr = w.heap.size → gr ≠ b) := ⟨fun gr e => by have := blk_lt h.blk; omega⟩
  go_enter Tryd.func76, Tryd.ntmps76
  go_upto_if 10 with (first | ((with_reducible refine gate_dst (N := 4) rfl ?_); refine box_event ?hg (N := 4) ?hd (cs := #[.int .i64 0, .int .i64 0, .slice none 0 0, .slice none 0 0]) (t := 33) ?hr ?_; (case hd => rfl); (case hg => rfl); (case hr => first | (go_simp; done) | (go_simp; rfl)); intro gr hgg w1 hlit hb; have HZ1 := Aside0.mk hlit; have HB1 := Aside0.mk hb; have HGR := Aside0.mk hgg; clear hlit hb hgg))
  have HNB := Aside0.mk (HNB.out gr HGR.out)
  have HS1 := Aside0.mk h1s
  go_cut [] (fun wx => Aside0 (Rd w0 A c ts en b s1 wx) ∧ Aside0 (w.grownBy wx (some b)) ∧ Aside0 (wx.heap[gr]? = some (.cells (#[.int .i64 0, .int .i64 0, .slice none 0 0, .slice none 0 0]) 33 (0, 0))))
  case first =>
    by_cases hd : deep > 10
    · go_wp2_with fail
      refine (fail_calls w0 A c ts en b HX.out s 3 w1 (HR.out.on HB1.out)).mono ?_
      rintro q w2 ⟨rfl, hr, hg⟩
      have h2s := HS1.out
      rw [if_pos hd] at h2s
      rw [h2s] at hr
      have HR2 := Aside0.mk hr
      have HG2 := Aside0.mk (grow_trans (grown_of_below HB1.out (some b)) hg)
      have HZ2 := Aside0.mk ((hg.block gr (blk_lt HZ1.out) (fun e => HNB.out (by injection e))).trans HZ1.out)
      clear hr hg h2s
      go_wp2_with fail
      go_meet
      case rel => exact ⟨HR2, HG2, HZ2⟩
    · have h2s := HS1.out
      rw [if_neg hd] at h2s
      have HR2 := Aside0.mk (show Rd w0 A c ts en b s1 w1 by rw [← h2s]; exact HR.out.on HB1.out)
      have HG2 := Aside0.mk (grown_of_below HB1.out (some b))
      clear h2s
      go_wp2_with fail
      go_meet
      case rel => exact ⟨HR2, HG2, HZ1⟩
  case rest =>
    obtain ⟨HR2, HG2, HZ2⟩ := hcut
    generalize wc = w2 at *
    clear HS1
    by_cases k1 : isS ts en s1 (⟨#[33]⟩ : ByteArray) = true
    · rw [if_pos k1] at hF
      obtain ⟨r1, hr1, hF⟩ := Option.bind_eq_some_iff.1 hF
      obtain rfl := Option.some.inj hF
      have B1 := Aside0.mk k1
      have HU := Aside0.mk (fun (W : World) (hR : Rd w0 A c ts en b (stepS s1) W) => ihA (stepS s1) (deep + 1) W r1 hR (by omega) (by push_cast at h1; omega) hr1)
      clear k1 hF hr1 h h1s
      go_wp2_with fail
      have HT3 := Aside0.mk (take_calls w0 A c ts en b HX.out s1 (⟨#[33]⟩ : ByteArray) w2 HR2.out)
      unfold takeS at HT3
      rw [B1.out, if_pos rfl] at HT3
      refine HT3.out.mono ?_
      rintro q w3 ⟨rfl, hr, hg⟩
      have HR3 := Aside0.mk hr
      have HG3 := Aside0.mk (grow_trans HG2.out hg)
      have HZ3 := Aside0.mk ((hg.block gr (blk_lt HZ2.out) (fun e => HNB.out (by injection e))).trans HZ2.out)
      clear hr hg HT3
      go_wp2_with fail
      refine (HU.out w3 HR3.out).mono ?_
      rintro q w4 ⟨K, d, L, e, rfl, hx, hr, hg⟩
      have HE4 := Aside0.mk hx
      have HS4 := Aside0.mk hg.size
      have HR4 := Aside0.mk hr
      have HG4 := Aside0.mk (grow_trans HG3.out hg)
      have HZ4 := Aside0.mk ((hg.block gr (blk_lt HZ3.out) (fun e => HNB.out (by injection e))).trans HZ3.out)
      clear hx hr hg
      go_wp2_with (first | ((with_reducible refine gate_dst (N := 19) rfl ?_); refine lit_ev2 (n := 1) ?hg (N := 19) ?hd (cs := #[.int .i64 r1.1.f0, .int .i64 r1.1.f1, .slice K r1.1.f2.length d, .slice L r1.1.f3.length e]) (t := 33) ?hr ?_; (case hd => rfl); (case hg => rfl); (case hr => first | (go_simp; done) | (go_simp; rfl)); intro g hgg w5 hlit hb; have HR5 := Aside0.mk (HR4.out.on hb); have HG5 := Aside0.mk (grow_trans HG4.out (grown_of_below hb _)); have HZ5 := Aside0.mk (below_read hb HZ4.out); have HE5 := Aside0.mk ((HE4.out.on hb).kid (by rw [hgg]; exact HS4.out) hlit 2 0); clear hlit hb hgg) | ((with_reducible refine gate_store (t := 33) (p := 4) rfl ?_); refine put_val ?hg ?hn 33 (.tmp 4) (.tmp 20) ?ho gr 33 _ (#[.int .i64 2, .int .i64 0, .slice none 0 0, .slice (some ⟨g, 0, none⟩) 1 1]) (.agg (#[.int .i64 2, .int .i64 0, .slice none 0 0, .slice (some ⟨g, 0, none⟩) 1 1])) ?hp ?hx ?hu HZ5.out ?ht ?hs ?h1 ?_; (case hg => rfl); (case hn => rfl); (case ho => rfl); (case hp => rfl); (case hx => rfl); (case hu => rfl); (case ht => kernel_rfl); (case hs => rfl); (case h1 => exact cdC_one _ _ _ _ _ _ _ _); intro w6 hlit hg; have HT := Aside0.mk hlit; have HGZ := Aside0.mk hg; have HOW := Aside0.mk (own_store HGR.out HB1.out HG5.out hg); have HRZ := Aside0.mk (rd_store HX.out HR5.out HGR.out HB1.out HR.out hg); clear hlit hg))
      (try simp only [Exit.inBlock, Exit.then])
      refine bodyPost_ret (results_cell_row rfl _ _ gr 33 _ (0, 0) _ rfl HT.out Tryd.underlying33 rfl (by kernel_rfl)) rfl ?_
      exact ⟨_, _, _, _, rfl, (HE5.out.grown (blk_lt HZ3.out) HGZ.out).less HG3.out.size, HRZ.out, HOW.out⟩
    rw [if_neg k1] at hF
    have B1 := Aside0.mk (Bool.eq_false_iff.2 k1)
    clear k1
    by_cases k2 : isS ts en s1 (⟨#[91]⟩ : ByteArray) = true
    · rw [if_pos k2] at hF
      obtain ⟨r1, hr1, hF⟩ := Option.bind_eq_some_iff.1 hF
      obtain rfl := Option.some.inj hF
      have B2 := Aside0.mk k2
      have HU := Aside0.mk (fun (W : World) (hR : Rd w0 A c ts en b (stepS s1) W) => ihC (stepS s1) (deep + 1) W r1 hR (by omega) (by push_cast at h1; omega) hr1)
      clear k2 hF hr1 h h1s
      go_wp2_with fail
      have HT3 := Aside0.mk (take_calls w0 A c ts en b HX.out s1 (⟨#[33]⟩ : ByteArray) w2 HR2.out)
      unfold takeS at HT3
      rw [B1.out, if_neg (by decide)] at HT3
      refine HT3.out.mono ?_
      rintro q w3 ⟨rfl, hr, hg⟩
      have HR3 := Aside0.mk hr
      have HG3 := Aside0.mk (grow_trans HG2.out hg)
      have HZ3 := Aside0.mk ((hg.block gr (blk_lt HZ2.out) (fun e => HNB.out (by injection e))).trans HZ2.out)
      clear hr hg HT3
      go_wp2_with fail
      have HT4 := Aside0.mk (take_calls w0 A c ts en b HX.out s1 (⟨#[91]⟩ : ByteArray) w3 HR3.out)
      unfold takeS at HT4
      rw [B2.out, if_pos rfl] at HT4
      refine HT4.out.mono ?_
      rintro q w4 ⟨rfl, hr, hg⟩
      have HR4 := Aside0.mk hr
      have HG4 := Aside0.mk (grow_trans HG3.out hg)
      have HZ4 := Aside0.mk ((hg.block gr (blk_lt HZ3.out) (fun e => HNB.out (by injection e))).trans HZ3.out)
      clear hr hg HT4
      go_wp2_with fail
      refine (HU.out w4 HR4.out).mono ?_
      rintro q w5 ⟨K, d, L, e, rfl, hx, hr, hg⟩
      have HE5 := Aside0.mk hx
      have HS5 := Aside0.mk hg.size
      have HR5 := Aside0.mk hr
      have HG5 := Aside0.mk (grow_trans HG4.out hg)
      have HZ5 := Aside0.mk ((hg.block gr (blk_lt HZ4.out) (fun e => HNB.out (by injection e))).trans HZ4.out)
      clear hx hr hg
      go_wp2_with (first | ((with_reducible refine gate_dst (N := 5) rfl ?_); refine box_event ?hg (N := 5) ?hd (cs := #[.int .i64 0, .int .i64 0, .slice none 0 0, .slice none 0 0]) (t := 33) ?hr ?_; (case hd => rfl); (case hg => rfl); (case hr => first | (go_simp; done) | (go_simp; rfl)); intro gx hgg w6 hlit hb; have HXZ := Aside0.mk hlit; have HB6 := Aside0.mk hb; have HGX := Aside0.mk hgg; clear hlit hb hgg) | ((with_reducible refine gate_store (t := 33) (p := 5) rfl ?_); refine put_val ?hg ?hn 33 (.tmp 5) (.tmp 26) ?ho gx 33 _ (#[.int .i64 r1.1.f0, .int .i64 r1.1.f1, .slice K r1.1.f2.length d, .slice L r1.1.f3.length e]) (.agg (#[.int .i64 r1.1.f0, .int .i64 r1.1.f1, .slice K r1.1.f2.length d, .slice L r1.1.f3.length e])) ?hp ?hx ?hu HXZ.out ?ht ?hs ?h1 ?_; (case hg => rfl); (case hn => rfl); (case ho => rfl); (case hp => rfl); (case hx => rfl); (case hu => rfl); (case ht => kernel_rfl); (case hs => rfl); (case h1 => exact cdC_one _ _ _ _ _ _ _ _); intro w7 hlit hg; have HXT := Aside0.mk hlit; have HBX := Aside0.mk (made_below HGX.out HB6.out hg); have HE7 := Aside0.mk (HE5.out.made HGX.out HB6.out hg); have HR7 := Aside0.mk (HR5.out.on HBX.out); have HG7 := Aside0.mk (grow_trans HG5.out (grown_of_below HBX.out _)); have HZ7 := Aside0.mk (below_read HBX.out HZ5.out); clear hlit hg))
      refine (need_calls w0 A c ts en b HX.out r1.2 (⟨#[93]⟩ : ByteArray) w7 HR7.out).mono ?_
      rintro q w8 ⟨rfl, hr, hg⟩
      have HE8 := Aside0.mk (HE7.out.grown (blk_lt HR4.out.blk) hg)
      have HR8 := Aside0.mk hr
      have HG8 := Aside0.mk (grow_trans HG7.out hg)
      have HZ8 := Aside0.mk ((hg.block gr (blk_lt HZ7.out) (fun e => HNB.out (by injection e))).trans HZ7.out)
      have HX8 := Aside0.mk ((hg.block gx (blk_lt HXT.out) (fun e => by injection e with e; have h1 := blk_lt HR5.out.blk; have h2 := HGX.out; omega)).trans HXT.out)
      clear hr hg
      go_wp2_with (first | ((with_reducible refine gate_dst (N := 29) rfl ?_); (try (refine gate_guard (by rfl) ?_; dsimp only)); refine wpList_load_row ?hg 33 (.tmp 5) ?ho gx ?hx 33 _ (0, 0) _ HX8.out Tryd.underlying33 ?hd ?hi ?_; (case hg => rfl); (case ho => rfl); (case hx => rfl); (case hd => rfl); (case hi => kernel_rfl)) | ((with_reducible refine gate_store (t := 33) (p := 4) rfl ?_); refine put_val ?hg ?hn 33 (.tmp 4) (.tmp 29) ?ho gr 33 _ (#[.int .i64 r1.1.f0, .int .i64 r1.1.f1, .slice K r1.1.f2.length d, .slice L r1.1.f3.length e]) (.agg (#[.int .i64 r1.1.f0, .int .i64 r1.1.f1, .slice K r1.1.f2.length d, .slice L r1.1.f3.length e])) ?hp ?hx ?hu HZ8.out ?ht ?hs ?h1 ?_; (case hg => rfl); (case hn => rfl); (case ho => rfl); (case hp => rfl); (case hx => rfl); (case hu => rfl); (case ht => kernel_rfl); (case hs => rfl); (case h1 => exact cdC_one _ _ _ _ _ _ _ _); intro w9 hlit hg; have HT := Aside0.mk hlit; have HGZ := Aside0.mk hg; have HOW := Aside0.mk (own_store HGR.out HB1.out HG8.out hg); have HRZ := Aside0.mk (rd_store HX.out HR8.out HGR.out HB1.out HR.out hg); clear hlit hg))
      (try simp only [Exit.inBlock, Exit.then])
      refine bodyPost_ret (results_cell_row rfl _ _ gr 33 _ (0, 0) _ rfl HT.out Tryd.underlying33 rfl (by kernel_rfl)) rfl ?_
      exact ⟨_, _, _, _, rfl, (HE8.out.grown (blk_lt HZ4.out) HGZ.out).less HG4.out.size, HRZ.out, HOW.out⟩
    rw [if_neg k2] at hF
    have B2 := Aside0.mk (Bool.eq_false_iff.2 k2)
    clear k2
    obtain ⟨r1, hr1, hF⟩ := Option.bind_eq_some_iff.1 hF
    obtain ⟨r2, hr2, hF⟩ := Option.bind_eq_some_iff.1 hF
    obtain rfl := Option.some.inj hF
    have HU := Aside0.mk (fun (W : World) (hR : Rd w0 A c ts en b s1 W) => ihE s1 deep W r1 hR (by omega) (by push_cast at h1; omega) hr1)
    have HV := Aside0.mk (fun (W : World) (hR : Rd w0 A c ts en b (relS ts en r1.2).2 W) => ihE (relS ts en r1.2).2 deep W r2 hR (by omega) (by push_cast at h1; omega) hr2)
    have HRL := Aside0.mk (fun (W : World) (hR : Rd w0 A c ts en b r1.2 W) => rel_calls w0 A c ts en b HX.out r1.2 W hR)
    clear hF hr1 hr2 h h1s
    go_wp2_with fail
    have HT3 := Aside0.mk (take_calls w0 A c ts en b HX.out s1 (⟨#[33]⟩ : ByteArray) w2 HR2.out)
    unfold takeS at HT3
    rw [B1.out, if_neg (by decide)] at HT3
    refine HT3.out.mono ?_
    rintro q w3 ⟨rfl, hr, hg⟩
    have HR3 := Aside0.mk hr
    have HG3 := Aside0.mk (grow_trans HG2.out hg)
    have HZ3 := Aside0.mk ((hg.block gr (blk_lt HZ2.out) (fun e => HNB.out (by injection e))).trans HZ2.out)
    clear hr hg HT3
    go_wp2_with fail
    have HT4 := Aside0.mk (take_calls w0 A c ts en b HX.out s1 (⟨#[91]⟩ : ByteArray) w3 HR3.out)
    unfold takeS at HT4
    rw [B2.out, if_neg (by decide)] at HT4
    refine HT4.out.mono ?_
    rintro q w4 ⟨rfl, hr, hg⟩
    have HR4 := Aside0.mk hr
    have HG4 := Aside0.mk (grow_trans HG3.out hg)
    have HZ4 := Aside0.mk ((hg.block gr (blk_lt HZ3.out) (fun e => HNB.out (by injection e))).trans HZ3.out)
    clear hr hg HT4
    go_wp2_with fail
    refine (HU.out w4 HR4.out).mono ?_
    rintro q w5 ⟨K, d, rfl, hx, hr, hg⟩
    have HE5 := Aside0.mk hx
    have HS5 := Aside0.mk hg.size
    have HR5 := Aside0.mk hr
    have HG5 := Aside0.mk (grow_trans HG4.out hg)
    have HZ5 := Aside0.mk ((hg.block gr (blk_lt HZ4.out) (fun e => HNB.out (by injection e))).trans HZ4.out)
    clear hx hr hg
    go_wp2_with (first | ((with_reducible refine gate_dst (N := 6) rfl ?_); refine box_event ?hg (N := 6) ?hd (cs := #[.int .i64 0, .int .i64 0, .int .i64 0, .string ⟨#[]⟩, .slice none 0 0]) (t := 30) ?hr ?_; (case hd => rfl); (case hg => rfl); (case hr => first | (go_simp; done) | (go_simp; rfl)); intro gx hgg w6 hlit hb; have HXZgx := Aside0.mk hlit; have HB6 := Aside0.mk hb; have HGgx := Aside0.mk hgg; clear hlit hb hgg) | ((with_reducible refine gate_store (t := 30) (p := 6) rfl ?_); refine put_val ?hg ?hn 30 (.tmp 6) (.tmp 32) ?ho gx 30 _ (#[.int .i64 r1.1.f0, .int .i64 r1.1.f1, .int .i64 r1.1.f2, .string r1.1.f3, .slice K r1.1.f4.length d]) (.agg (#[.int .i64 r1.1.f0, .int .i64 r1.1.f1, .int .i64 r1.1.f2, .string r1.1.f3, .slice K r1.1.f4.length d])) ?hp ?hx ?hu HXZgx.out ?ht ?hs ?h1 ?_; (case hg => rfl); (case hn => rfl); (case ho => rfl); (case hp => rfl); (case hx => rfl); (case hu => rfl); (case ht => kernel_rfl); (case hs => rfl); (case h1 => exact exC_one _ _ _ _ _ _ _); intro w7 hlit hg; have HXTgx := Aside0.mk hlit; have HBX := Aside0.mk (made_below HGgx.out HB6.out hg); have HR7 := Aside0.mk (HR5.out.on HBX.out); have HG7 := Aside0.mk (grow_trans HG5.out (grown_of_below HBX.out _)); have HZ7 := Aside0.mk (below_read HBX.out HZ5.out); have HEgx := Aside0.mk (HE5.out.made HGgx.out HB6.out hg); clear hlit hg))
    refine (HRL.out w7 HR7.out).mono ?_
    rintro q w8 ⟨rfl, hr, hg⟩
    have HE8 := Aside0.mk (HEgx.out.grown (blk_lt HR4.out.blk) hg)
    have HNX := Aside0.mk (show gx ≠ b by have h1 := blk_lt HR5.out.blk; have h2 := HGgx.out; omega)
    have HX8 := Aside0.mk ((hg.block gx (blk_lt HXTgx.out) (fun e => HNX.out (by injection e))).trans HXTgx.out)
    have HS8 := Aside0.mk (show w4.heap.size ≤ w8.heap.size from Nat.le_trans (Nat.le_trans HS5.out (Nat.le_of_lt (by have := blk_lt HXTgx.out; have h2 := HGgx.out; omega))) hg.size)
    have HR8 := Aside0.mk hr
    have HG8 := Aside0.mk (grow_trans HG7.out hg)
    have HZ8 := Aside0.mk ((hg.block gr (blk_lt HZ7.out) (fun e => HNB.out (by injection e))).trans HZ7.out)
    clear hr hg
    go_wp2_with fail
    refine (HV.out w8 HR8.out).mono ?_
    rintro q w9 ⟨L, e, rfl, hx, hr, hg⟩
    have HE9 := Aside0.mk (HE8.out.grown (blk_lt HR4.out.blk) hg)
    have HF9 := Aside0.mk hx
    have HX9 := Aside0.mk ((hg.block gx (blk_lt HX8.out) (fun e => HNX.out (by injection e))).trans HX8.out)
    have HS9 := Aside0.mk (Nat.le_trans HS8.out hg.size)
    have HR9 := Aside0.mk hr
    have HG9 := Aside0.mk (grow_trans HG8.out hg)
    have HZ9 := Aside0.mk ((hg.block gr (blk_lt HZ8.out) (fun e => HNB.out (by injection e))).trans HZ8.out)
    clear hx hr hg
    go_wp2_with (first | ((with_reducible refine gate_dst (N := 8) rfl ?_); refine box_event ?hg (N := 8) ?hd (cs := #[.int .i64 0, .int .i64 0, .int .i64 0, .string ⟨#[]⟩, .slice none 0 0]) (t := 30) ?hr ?_; (case hd => rfl); (case hg => rfl); (case hr => first | (go_simp; done) | (go_simp; rfl)); intro gy hgg w10 hlit hb; have HXZgy := Aside0.mk hlit; have HB10 := Aside0.mk hb; have HGgy := Aside0.mk hgg; clear hlit hb hgg) | ((with_reducible refine gate_store (t := 30) (p := 8) rfl ?_); refine put_val ?hg ?hn 30 (.tmp 8) (.tmp 37) ?ho gy 30 _ (#[.int .i64 r2.1.f0, .int .i64 r2.1.f1, .int .i64 r2.1.f2, .string r2.1.f3, .slice L r2.1.f4.length e]) (.agg (#[.int .i64 r2.1.f0, .int .i64 r2.1.f1, .int .i64 r2.1.f2, .string r2.1.f3, .slice L r2.1.f4.length e])) ?hp ?hx ?hu HXZgy.out ?ht ?hs ?h1 ?_; (case hg => rfl); (case hn => rfl); (case ho => rfl); (case hp => rfl); (case hx => rfl); (case hu => rfl); (case ht => kernel_rfl); (case hs => rfl); (case h1 => exact exC_one _ _ _ _ _ _ _); intro w11 hlit hg; have HXTgy := Aside0.mk hlit; have HBX := Aside0.mk (made_below HGgy.out HB10.out hg); have HR11 := Aside0.mk (HR9.out.on HBX.out); have HG11 := Aside0.mk (grow_trans HG9.out (grown_of_below HBX.out _)); have HZ11 := Aside0.mk (below_read HBX.out HZ9.out); have HEgy := Aside0.mk (HF9.out.made HGgy.out HB10.out hg); have HE11 := Aside0.mk (HE9.out.on HBX.out); have HX11 := Aside0.mk (below_read HBX.out HX9.out); clear hlit hg) | ((with_reducible refine gate_dst (N := 39) rfl ?_); (try (refine gate_guard (by rfl) ?_; dsimp only)); refine wpList_load_row ?hg 30 (.tmp 6) ?ho gx ?hx 30 _ (0, 0) _ HX11.out Tryd.underlying30 ?hd ?hi ?_; (case hg => rfl); (case ho => rfl); (case hx => rfl); (case hd => rfl); (case hi => kernel_rfl)) | ((with_reducible refine gate_dst (N := 40) rfl ?_); (try (refine gate_guard (by rfl) ?_; dsimp only)); refine wpList_load_row ?hg 30 (.tmp 8) ?ho gy ?hx 30 _ (0, 0) _ HXTgy.out Tryd.underlying30 ?hd ?hi ?_; (case hg => rfl); (case ho => rfl); (case hx => rfl); (case hd => rfl); (case hi => kernel_rfl)) | ((with_reducible refine gate_dst (N := 41) rfl ?_); refine lit_ev2 (n := 2) ?hg (N := 41) ?hd (cs := #[.int .i64 r1.1.f0, .int .i64 r1.1.f1, .int .i64 r1.1.f2, .string r1.1.f3, .slice K r1.1.f4.length d, .int .i64 r2.1.f0, .int .i64 r2.1.f1, .int .i64 r2.1.f2, .string r2.1.f3, .slice L r2.1.f4.length e]) (t := 30) ?hr ?_; (case hd => rfl); (case hg => rfl); (case hr => first | (go_simp; done) | (go_simp; rfl)); intro g hgg w12 hlit hb; have HR12 := Aside0.mk (HR11.out.on hb); have HG12 := Aside0.mk (grow_trans HG11.out (grown_of_below hb _)); have HZ12 := Aside0.mk (below_read hb HZ11.out); have HE12 := Aside0.mk (Cx.rel (HE11.out.on hb) (HEgy.out.on hb) HS8.out (by rw [hgg]; exact Nat.le_trans HS9.out (Nat.le_of_lt (by have := blk_lt HXTgy.out; have h2 := HGgy.out; omega))) hlit 1 (relS ts en r1.2).1); clear hlit hb hgg) | ((with_reducible refine gate_store (t := 33) (p := 4) rfl ?_); refine put_val ?hg ?hn 33 (.tmp 4) (.tmp 42) ?ho gr 33 _ (#[.int .i64 1, .int .i64 (relS ts en r1.2).1, .slice (some ⟨g, 0, none⟩) 2 2, .slice none 0 0]) (.agg (#[.int .i64 1, .int .i64 (relS ts en r1.2).1, .slice (some ⟨g, 0, none⟩) 2 2, .slice none 0 0])) ?hp ?hx ?hu HZ12.out ?ht ?hs ?h1 ?_; (case hg => rfl); (case hn => rfl); (case ho => rfl); (case hp => rfl); (case hx => rfl); (case hu => rfl); (case ht => kernel_rfl); (case hs => rfl); (case h1 => exact cdC_one _ _ _ _ _ _ _ _); intro w13 hlit hg; have HT := Aside0.mk hlit; have HGZ := Aside0.mk hg; have HOW := Aside0.mk (own_store HGR.out HB1.out HG12.out hg); have HRZ := Aside0.mk (rd_store HX.out HR12.out HGR.out HB1.out HR.out hg); clear hlit hg))
    (try simp only [Exit.inBlock, Exit.then])
    refine bodyPost_ret (results_cell_row rfl _ _ gr 33 _ (0, 0) _ rfl HT.out Tryd.underlying33 rfl (by kernel_rfl)) rfl ?_
    exact ⟨_, _, _, _, rfl, (HE12.out.grown (blk_lt HZ4.out) HGZ.out).less HG4.out.size, HRZ.out, HOW.out⟩
theorem isS_e {ts : List S86} {en : Int} {s : Rs} {x : ByteArray} (h : isS ts en s x = true) : s.e = 0 := by
  unfold isS at h
  simp only [Bool.and_eq_true, decide_eq_true_eq] at h
  exact h.1
set_option maxHeartbeats 8000000 in
set_option maxRecDepth 100000 in
theorem conj_step (w0 : World) (A : Option Addr) (c : Nat) (ts : List S86) (en : Int) (b : Nat) (hX : Ctx w0 A c ts b) (n : Nat) (ihU : ∀ m, m ≤ n → CdC w0 A c ts en b 76 m (atomF ts en m)) : CdC w0 A c ts en b 68 (n + 1) (conjF ts en (n + 1)) := by
  intro s deep w r h h0 h1 hF
  have HX := Aside0.mk hX
  have HR := Aside0.mk h
  simp only [conjF] at hF
  obtain ⟨r1, hr1, hF⟩ := Option.bind_eq_some_iff.1 hF
  have HNB : Aside0 (∀ gr : Nat, gr = w.heap.size → gr ≠ b) := ⟨fun gr e => by have := blk_lt h.blk; omega⟩
  have HU1 := Aside0.mk (fun (W : World) (hR : Rd w0 A c ts en b s W) => ihU n (Nat.le_refl _) s deep W r1 hR h0 (by push_cast at h1; omega) hr1)
  clear hr1
  go_enter Tryd.func68, Tryd.ntmps68
  go_wp2_with (first | ((with_reducible refine gate_dst (N := 4) rfl ?_); refine box_event ?hg (N := 4) ?hd (cs := #[.int .i64 0, .int .i64 0, .slice none 0 0, .slice none 0 0]) (t := 33) ?hr ?_; (case hd => rfl); (case hg => rfl); (case hr => first | (go_simp; done) | (go_simp; rfl)); intro gr hgg w1 hlit hb; have HZ1 := Aside0.mk hlit; have HB1 := Aside0.mk hb; have HGR := Aside0.mk hgg; clear hlit hb hgg))
  have HNB := Aside0.mk (HNB.out gr HGR.out)
  refine (HU1.out w1 (HR.out.on HB1.out)).mono ?_
  rintro q w2 ⟨K, d, L, e, rfl, hx, hr, hg⟩
  have HX2 := Aside0.mk hx
  have HR2 := Aside0.mk hr
  have HG2 := Aside0.mk (grow_trans (grown_of_below HB1.out (some b)) hg)
  have HZ2 := Aside0.mk ((hg.block gr (blk_lt HZ1.out) (fun e => HNB.out (by injection e))).trans HZ1.out)
  have HS12 := Aside0.mk hg.size
  clear hx hr hg
  go_wp2_with (first | ((with_reducible refine gate_dst (N := 5) rfl ?_); refine box_event ?hg (N := 5) ?hd (cs := #[.int .i64 0, .int .i64 0, .slice none 0 0, .slice none 0 0]) (t := 33) ?hr ?_; (case hd => rfl); (case hg => rfl); (case hr => first | (go_simp; done) | (go_simp; rfl)); intro ga hgg w3 hlit hb; have HAZ := Aside0.mk hlit; have HB3 := Aside0.mk hb; have HGA := Aside0.mk hgg; clear hlit hb hgg) | ((with_reducible refine gate_store (t := 33) (p := 5) rfl ?_); refine put_val ?hg ?hn 33 (.tmp 5) (.tmp 8) ?ho ga 33 _ (#[.int .i64 r1.1.f0, .int .i64 r1.1.f1, .slice K r1.1.f2.length d, .slice L r1.1.f3.length e]) (.agg (#[.int .i64 r1.1.f0, .int .i64 r1.1.f1, .slice K r1.1.f2.length d, .slice L r1.1.f3.length e])) ?hp ?hx ?hu HAZ.out ?ht ?hs ?h1 ?_; (case hg => rfl); (case hn => rfl); (case ho => rfl); (case hp => rfl); (case hx => rfl); (case hu => rfl); (case ht => kernel_rfl); (case hs => rfl); (case h1 => exact cdC_one _ _ _ _ _ _ _ _); intro w4 hlit hg; have HA4 := Aside0.mk hlit; have HBA := Aside0.mk (made_below HGA.out HB3.out hg); have HE4 := Aside0.mk (Cy.of HX2.out HGA.out HB3.out hg); have HR4 := Aside0.mk (HR2.out.on HBA.out); have HG4 := Aside0.mk (grow_trans HG2.out (grown_of_below HBA.out _)); have HZ4 := Aside0.mk (below_read HBA.out HZ2.out); clear hlit hg))
  have HNA := Aside0.mk (show ga ≠ b by have h1 := HGA.out; have h2 := blk_lt HR2.out.blk; omega)
  have HNG := Aside0.mk (show gr ≠ ga by have h1 := HGA.out; have h2 := blk_lt HZ2.out; omega)
  have HNW := Aside0.mk (show w.heap.size ≤ ga by have h1 := HGA.out; have h2 := HG2.out.size; omega)
  have HNW0 := Aside0.mk (show w0.heap.size ≤ ga by have h1 := HNW.out; have h2 := HR.out.old.size; omega)
  have HBB := Aside0.mk (show b < w1.heap.size from Nat.lt_of_lt_of_le (blk_lt HR.out.blk) HB1.out.size)
  have HGN := Aside0.mk (show gr < w1.heap.size from blk_lt HZ1.out)
  have HSG := Aside0.mk (show w2.heap.size ≤ ga by rw [HGA.out]; exact Nat.le_refl _)
  (try simp only [Act.put, List.setIfInBounds_toArray, List.set_cons_zero, List.set_cons_succ])
  go_loopg [] n (fun gg wr => ∃ (k : Nat) (a : S33) (s1 : Rs) (Ka : Option Addr) (da : Nat) (La : Option Addr) (ea : Nat), k ≤ gg ∧ k ≤ n ∧ Aside0 (conjL ts en k a s1 deep = some r) ∧ Aside0 (Rd w0 A c ts en b s1 wr ∧ w.grownBy wr (some b) ∧ wr.heap[gr]? = some (.cells #[.int .i64 0, .int .i64 0, .slice none 0 0, .slice none 0 0] 33 (0, 0)) ∧ wr.heap[ga]? = some (.cells #[.int .i64 a.f0, .int .i64 a.f1, .slice Ka a.f2.length da, .slice La a.f3.length ea] 33 (0, 0)) ∧ Cy w1.heap.size ga a Ka da La ea wr))
  case atStart => exact ⟨n, r1.1, r1.2, K, d, L, e, Nat.le_refl _, Nat.le_refl _, ⟨hF⟩, ⟨HR4.out, HG4.out, HZ4.out, HA4.out, HE4.out⟩⟩
  case round =>
    clear hF HA4 HE4 HR4 HG4 HZ4 HX2 HR2 HG2 HZ2
    obtain ⟨k, a, s1, Ka, da, La, ea, hgg, hkn, HKF, HL20⟩ := hrel
    generalize wr = w20 at *
    have hk := HKF.out
    clear HKF
    cases k with
    | zero => simp [conjL] at hk
    | succ k =>
    simp only [conjL] at hk
    have h3 : w20.cell? ⟨b, 3, none⟩ = some (.int .i64 s1.e) := (blk_cell HL20.out.1.blk 3).trans rfl
    by_cases k1 : isS ts en s1 (⟨#[38, 38]⟩ : ByteArray) = true
    · rw [if_pos k1] at hk
      have e1 : (s1.e == 0) = true := beq_iff_eq.mpr (isS_e k1)
      have B1 := Aside0.mk k1
      clear k1
      obtain ⟨r1, hr1, hk⟩ := Option.bind_eq_some_iff.1 hk
      have HU := Aside0.mk (fun (W : World) (hR : Rd w0 A c ts en b (stepS s1) W) => ihU k (by omega) (stepS s1) deep W r1 hR h0 (by omega) hr1)
      have HK := Aside0.mk hk
      clear hk hr1
      have HT21 := Aside0.mk (take_calls w0 A c ts en b HX.out s1 (⟨#[38, 38]⟩ : ByteArray) w20 HL20.out.1)
      unfold takeS at HT21
      rw [B1.out, if_pos rfl] at HT21
      go_wp2_with fail
      refine HT21.out.mono ?_
      rintro q w21 ⟨rfl, hr, hg⟩
      have HL21 := Aside0.mk (⟨hr, grow_trans HL20.out.2.1 hg, (hg.block gr (blk_lt HL20.out.2.2.1) (fun e => HNB.out (by injection e))).trans HL20.out.2.2.1, (hg.block ga (blk_lt HL20.out.2.2.2.1) (fun e => HNA.out (by injection e))).trans HL20.out.2.2.2.1, HL20.out.2.2.2.2.grown HBB.out hg⟩ : Rd w0 A c ts en b (stepS s1) w21 ∧ w.grownBy w21 (some b) ∧ w21.heap[gr]? = some (.cells #[.int .i64 0, .int .i64 0, .slice none 0 0, .slice none 0 0] 33 (0, 0)) ∧ w21.heap[ga]? = some (.cells #[.int .i64 a.f0, .int .i64 a.f1, .slice Ka a.f2.length da, .slice La a.f3.length ea] 33 (0, 0)) ∧ Cy w1.heap.size ga a Ka da La ea w21)
      clear hr hg HT21
      go_upto_region 3 with fail
      have HRT := Aside0.mk HL21.out.1
      have HGT := Aside0.mk HL21.out.2.1
      have HZT := Aside0.mk HL21.out.2.2.1
      have HAT := Aside0.mk HL21.out.2.2.2.1
      have HET := Aside0.mk HL21.out.2.2.2.2
      have HSA := Aside0.mk (show w1.heap.size ≤ w21.drew.heap.size from Nat.le_trans HS12.out (Nat.le_of_lt (Nat.lt_of_le_of_lt HSG.out (blk_lt HL21.out.2.2.2.1))))
      have HLA := Aside0.mk (show ga < w21.drew.heap.size from blk_lt HL21.out.2.2.2.1)
      have hq0 : w21.drew.cell? ⟨ga, 0, none⟩ = some (.int .i64 a.f0) := (blk_cell HAT.out 0).trans rfl
      have hq1 : w21.drew.cell? ⟨ga, 1, none⟩ = some (.int .i64 a.f1) := (blk_cell HAT.out 1).trans rfl
      have hq2 : w21.drew.cell? ⟨ga, 2, none⟩ = some (.slice Ka a.f2.length da) := (blk_cell HAT.out 2).trans rfl
      have hq3 : w21.drew.cell? ⟨ga, 3, none⟩ = some (.slice La a.f3.length ea) := (blk_cell HAT.out 3).trans rfl
      refine start_ (n := 7) (S := fun w' => w'.cell? ⟨ga, 0, none⟩ = some (.int .i64 a.f0) ∧ w'.cell? ⟨ga, 1, none⟩ = some (.int .i64 a.f1) ∧ w'.cell? ⟨ga, 2, none⟩ = some (.slice Ka a.f2.length da) ∧ w'.cell? ⟨ga, 3, none⟩ = some (.slice La a.f3.length ea)) (ds := [6]) #[false, false, false, false, false, false, false] (by kernel_rfl) rfl rfl ⟨hq0, hq1, hq2, hq3⟩ (fun hHeld => ?_)
      refine pure_ (i := 1) (N := some 19) (v := ?_) (a' := ?_) #[false, true, false, false, false, false, false] rfl rfl (by kernel_rfl) (fun _ _ _ h => h) (Or.inl ⟨by rfl, ?_⟩) ?_ ?_
      rotate_left
      · intro w'
        go_simp
        with_reducible rfl
      rotate_left
      · simp only [Act.put, List.setIfInBounds_toArray, List.set_cons_zero, List.set_cons_succ, i64_w, i32_w]
        rfl
      refine pure_ (i := 2) (N := some 20) (v := ?_) (a' := ?_) #[false, true, true, false, false, false, false] rfl rfl (by kernel_rfl) (fun _ _ _ h => h) (Or.inl ⟨by rfl, ?_⟩) ?_ ?_
      rotate_left
      · intro w'
        go_simp
        with_reducible rfl
      rotate_left
      · simp only [Act.put, List.setIfInBounds_toArray, List.set_cons_zero, List.set_cons_succ, i64_w, i32_w]
        rfl
      refine take_ (i := 0) (N := some 18) (v := ?_) (a' := ?_) #[true, true, true, false, false, false, false] rfl rfl (by kernel_rfl) (fun _ _ _ h => h) (Or.inl ⟨by rfl, ?_⟩) hHeld ?_ ?_
      rotate_left
      · rintro w' ⟨s0, s1, s2, s3⟩
        go_simp
        with_reducible rfl
      rotate_left
      · simp only [Act.put, List.setIfInBounds_toArray, List.set_cons_zero, List.set_cons_succ, i64_w, i32_w]
        rfl
      refine one_ (i := 3) (N := some 21) #[true, true, true, true, false, false, false] rfl rfl (by kernel_rfl) (by decide) (fun K hK => ?_)
      refine goes_ Tryd.func76 (by kernel_rfl) rfl #[.pointer (some ⟨b, 0, none⟩), .int .i64 deep] (by rfl) rfl rfl (by simp only [List.map_toArray, List.map_cons, List.map_nil, Act.eval]; rfl) ?_
      refine (HU.out _ (HRT.out.on (below_drew (Below.refl _ _)))).mono ?_
      rintro q v3 ⟨Kb, db, Lb, eb, rfl, hx, hr, hg⟩
      have HX3 := Aside0.mk hx
      have HR3 := Aside0.mk hr
      have HG3 := Aside0.mk (grow_trans (grow_trans HGT.out (grown_of_below (below_drew (Below.refl _ _)) (some b))) hg)
      have HA3 := Aside0.mk ((hg.block ga (blk_lt HAT.out) (fun e => HNA.out (by injection e))).trans HAT.out)
      have HZ3 := Aside0.mk ((hg.block gr (blk_lt HZT.out) (fun e => HNB.out (by injection e))).trans HZT.out)
      have HE3 := Aside0.mk ((HET.out.on (below_drew (Below.refl _ _))).grown HBB.out hg)
      have HS3 := Aside0.mk hg.size
      clear hx hr hg
      refine ⟨_, rfl, ?_⟩
      refine hK.out _ _ ⟨(blk_cell HA3.out 0).trans rfl, (blk_cell HA3.out 1).trans rfl, (blk_cell HA3.out 2).trans rfl, (blk_cell HA3.out 3).trans rfl⟩ (fun hHeld => ?_)
      clear hK K
      refine norm_ (a' := ?_) ?_ ?_
      rotate_left
      · show Act.put _ (some 21) _ = _
        simp only [Act.put, List.setIfInBounds_toArray, List.set_cons_zero, List.set_cons_succ, i64_w, i32_w]
        rfl
      refine one_ (i := 4) (N := some 22) #[true, true, true, true, true, false, false] rfl rfl (by kernel_rfl) (by decide) (fun K hK => ?_)
      refine lit_step (n := 2) (by rfl) (N := 22) rfl (cs := #[.int .i64 a.f0, .int .i64 a.f1, .slice Ka a.f2.length da, .slice La a.f3.length ea, .int .i64 r1.1.f0, .int .i64 r1.1.f1, .slice Kb r1.1.f2.length db, .slice Lb r1.1.f3.length eb]) (t := 33) ?hr ?_
      case hr => first | (go_simp; done) | (go_simp; rfl)
      intro g hgg v4 hlit hb
      have HGE := Aside0.mk (show v3.heap.size ≤ g by rw [hgg]; exact Nat.le_refl _)
      have HGB := Aside0.mk hlit
      have HR4 := Aside0.mk (HR3.out.on hb)
      have HG4 := Aside0.mk (grow_trans HG3.out (grown_of_below hb _))
      have HA4 := Aside0.mk (below_read hb HA3.out)
      have HZ4 := Aside0.mk (below_read hb HZ3.out)
      have HE4 := Aside0.mk (HE3.out.on hb)
      have HX4 := Aside0.mk (HX3.out.on hb)
      clear hlit hgg
      refine hK.out _ _ ⟨(blk_cell HA4.out 0).trans rfl, (blk_cell HA4.out 1).trans rfl, (blk_cell HA4.out 2).trans rfl, (blk_cell HA4.out 3).trans rfl⟩ (fun hHeld => ?_)
      clear hK K
      refine norm_ (a' := ?_) ?_ ?_
      rotate_left
      · show Act.put _ (some 22) _ = _
        simp only [Act.put, List.setIfInBounds_toArray, List.set_cons_zero, List.set_cons_succ, i64_w, i32_w]
        rfl
      refine pure_ (i := 5) (N := some 23) (v := ?_) (a' := ?_) #[true, true, true, true, true, true, false] rfl rfl (by kernel_rfl) (fun _ _ _ h => h) (Or.inl ⟨by rfl, ?_⟩) ?_ ?_
      rotate_left
      · intro w'
        go_simp
        with_reducible rfl
      rotate_left
      · simp only [Act.put, List.setIfInBounds_toArray, List.set_cons_zero, List.set_cons_succ, i64_w, i32_w]
        rfl
      refine last_ (i := 6) (N := none) #[true, true, true, true, true, true, true] rfl rfl (by kernel_rfl) (by decide) (fun K hK => ?_)
      refine put_step (by rfl) rfl 33 (.tmp 5) (.tmp 23) ?ho ga 33 _ (#[.int .i64 3, .int .i64 0, .slice none 0 0, .slice (some ⟨g, 0, none⟩) 2 2]) (.agg (#[.int .i64 3, .int .i64 0, .slice none 0 0, .slice (some ⟨g, 0, none⟩) 2 2])) ?hp ?hx ?hu HA4.out ?ht ?hs ?h1 ?_
      case ho => rfl
      case hp => rfl
      case hx => rfl
      case hu => rfl
      case ht => kernel_rfl
      case hs => rfl
      case h1 => exact cdC_one _ _ _ _ _ _ _ _
      intro w5 hlit hg
      have HT5 := Aside0.mk hlit
      have HG5 := Aside0.mk (own_store2 HNW.out HG4.out hg)
      have HR5 := Aside0.mk (rd_store2 HX.out HR4.out HNA.out HNW0.out hg)
      have HZ5 := Aside0.mk ((hg.block gr (blk_lt HZ4.out) (fun e => HNG.out (by injection e))).trans HZ4.out)
      have HE5 := Aside0.mk (HE4.out.two HX4.out HSA.out HLA.out (Nat.le_trans HS3.out HGE.out) HGB.out hg 3 0)
      clear hlit hg
      refine hK.out _ _ ?_
      clear hK K
      refine done_ (by kernel_rfl) ?_
      go_wp2_with fail
      go_roundg k
      case measure => omega
      case rel => exact ⟨k, _, _, _, _, _, _, Nat.le_refl _, by omega, ⟨HK.out⟩, ⟨HR5.out, HG5.out, HZ5.out, HT5.out, HE5.out⟩⟩
    · rw [if_neg k1] at hk
      have hk := Option.some.inj hk
      subst hk
      have B1 := Aside0.mk (Bool.eq_false_iff.2 k1)
      clear k1
      by_cases ke : s1.e = 0
      · have e1 : (s1.e == 0) = true := beq_iff_eq.mpr ke
        clear ke
        have HT21 := Aside0.mk (take_calls w0 A c ts en b HX.out s1 (⟨#[38, 38]⟩ : ByteArray) w20 HL20.out.1)
        unfold takeS at HT21
        rw [B1.out, if_neg (by decide)] at HT21
        go_wp2_with fail
        refine HT21.out.mono ?_
        rintro q w21 ⟨rfl, hr, hg⟩
        have HL21 := Aside0.mk (⟨hr, grow_trans HL20.out.2.1 hg, (hg.block gr (blk_lt HL20.out.2.2.1) (fun e => HNB.out (by injection e))).trans HL20.out.2.2.1, (hg.block ga (blk_lt HL20.out.2.2.2.1) (fun e => HNA.out (by injection e))).trans HL20.out.2.2.2.1, HL20.out.2.2.2.2.grown HBB.out hg⟩ : Rd w0 A c ts en b s1 w21 ∧ w.grownBy w21 (some b) ∧ w21.heap[gr]? = some (.cells #[.int .i64 0, .int .i64 0, .slice none 0 0, .slice none 0 0] 33 (0, 0)) ∧ w21.heap[ga]? = some (.cells #[.int .i64 a.f0, .int .i64 a.f1, .slice Ka a.f2.length da, .slice La a.f3.length ea] 33 (0, 0)) ∧ Cy w1.heap.size ga a Ka da La ea w21)
        clear hr hg HT21
        go_wp2_with (first | ((with_reducible refine gate_dst (N := 24) rfl ?_); (try (refine gate_guard (by rfl) ?_; dsimp only)); refine wpList_load_row ?hg 33 (.tmp 5) ?ho ga ?hx 33 _ (0, 0) _ HL21.out.2.2.2.1 Tryd.underlying33 ?hd ?hi ?_; (case hg => rfl); (case ho => rfl); (case hx => rfl); (case hd => rfl); (case hi => kernel_rfl)) | ((with_reducible refine gate_store (t := 33) (p := 4) rfl ?_); refine put_val ?hg ?hn 33 (.tmp 4) (.tmp 24) ?ho gr 33 _ (#[.int .i64 a.f0, .int .i64 a.f1, .slice Ka a.f2.length da, .slice La a.f3.length ea]) (.agg (#[.int .i64 a.f0, .int .i64 a.f1, .slice Ka a.f2.length da, .slice La a.f3.length ea])) ?hp ?hx ?hu HL21.out.2.2.1 ?ht ?hs ?h1 ?_; (case hg => rfl); (case hn => rfl); (case ho => rfl); (case hp => rfl); (case hx => rfl); (case hu => rfl); (case ht => kernel_rfl); (case hs => rfl); (case h1 => exact cdC_one _ _ _ _ _ _ _ _); intro w99 hlit hg; have HT := Aside0.mk hlit; have HGZ := Aside0.mk hg; have HOW := Aside0.mk (own_store HGR.out HB1.out HL21.out.2.1 hg); have HRZ := Aside0.mk (rd_store HX.out HL21.out.1 HGR.out HB1.out HR.out hg); clear hlit hg))
        (try simp only [Exit.inBlock, Exit.then])
        refine bodyPost_ret (results_cell_row rfl _ _ gr 33 _ (0, 0) _ rfl HT.out Tryd.underlying33 rfl (by kernel_rfl)) rfl ?_
        exact ⟨_, _, _, _, rfl, (HL21.out.2.2.2.2.cx.grown HGN.out HGZ.out).less HB1.out.size, HRZ.out, HOW.out⟩
      · have e1 : (s1.e == 0) = false := beq_eq_false_iff_ne.mpr ke
        clear ke
        go_wp2_with (first | ((with_reducible refine gate_dst (N := 24) rfl ?_); (try (refine gate_guard (by rfl) ?_; dsimp only)); refine wpList_load_row ?hg 33 (.tmp 5) ?ho ga ?hx 33 _ (0, 0) _ HL20.out.2.2.2.1 Tryd.underlying33 ?hd ?hi ?_; (case hg => rfl); (case ho => rfl); (case hx => rfl); (case hd => rfl); (case hi => kernel_rfl)) | ((with_reducible refine gate_store (t := 33) (p := 4) rfl ?_); refine put_val ?hg ?hn 33 (.tmp 4) (.tmp 24) ?ho gr 33 _ (#[.int .i64 a.f0, .int .i64 a.f1, .slice Ka a.f2.length da, .slice La a.f3.length ea]) (.agg (#[.int .i64 a.f0, .int .i64 a.f1, .slice Ka a.f2.length da, .slice La a.f3.length ea])) ?hp ?hx ?hu HL20.out.2.2.1 ?ht ?hs ?h1 ?_; (case hg => rfl); (case hn => rfl); (case ho => rfl); (case hp => rfl); (case hx => rfl); (case hu => rfl); (case ht => kernel_rfl); (case hs => rfl); (case h1 => exact cdC_one _ _ _ _ _ _ _ _); intro w99 hlit hg; have HT := Aside0.mk hlit; have HGZ := Aside0.mk hg; have HOW := Aside0.mk (own_store HGR.out HB1.out HL20.out.2.1 hg); have HRZ := Aside0.mk (rd_store HX.out HL20.out.1 HGR.out HB1.out HR.out hg); clear hlit hg))
        (try simp only [Exit.inBlock, Exit.then])
        refine bodyPost_ret (results_cell_row rfl _ _ gr 33 _ (0, 0) _ rfl HT.out Tryd.underlying33 rfl (by kernel_rfl)) rfl ?_
        exact ⟨_, _, _, _, rfl, (HL20.out.2.2.2.2.cx.grown HGN.out HGZ.out).less HB1.out.size, HRZ.out, HOW.out⟩
set_option maxHeartbeats 8000000 in
set_option maxRecDepth 100000 in
theorem cond_step (w0 : World) (A : Option Addr) (c : Nat) (ts : List S86) (en : Int) (b : Nat) (hX : Ctx w0 A c ts b) (n : Nat) (ihU : ∀ m, m ≤ n → CdC w0 A c ts en b 68 m (conjF ts en m)) : CdC w0 A c ts en b 60 (n + 1) (condP ts en (n + 1)) := by
  intro s deep w r h h0 h1 hF
  have HX := Aside0.mk hX
  have HR := Aside0.mk h
  simp only [condP] at hF
  obtain ⟨r1, hr1, hF⟩ := Option.bind_eq_some_iff.1 hF
  have HNB : Aside0 (∀ gr : Nat, gr = w.heap.size → gr ≠ b) := ⟨fun gr e => by have := blk_lt h.blk; omega⟩
  have HU1 := Aside0.mk (fun (W : World) (hR : Rd w0 A c ts en b s W) => ihU n (Nat.le_refl _) s deep W r1 hR h0 (by push_cast at h1; omega) hr1)
  clear hr1
  go_enter Tryd.func60, Tryd.ntmps60
  go_wp2_with (first | ((with_reducible refine gate_dst (N := 4) rfl ?_); refine box_event ?hg (N := 4) ?hd (cs := #[.int .i64 0, .int .i64 0, .slice none 0 0, .slice none 0 0]) (t := 33) ?hr ?_; (case hd => rfl); (case hg => rfl); (case hr => first | (go_simp; done) | (go_simp; rfl)); intro gr hgg w1 hlit hb; have HZ1 := Aside0.mk hlit; have HB1 := Aside0.mk hb; have HGR := Aside0.mk hgg; clear hlit hb hgg))
  have HNB := Aside0.mk (HNB.out gr HGR.out)
  refine (HU1.out w1 (HR.out.on HB1.out)).mono ?_
  rintro q w2 ⟨K, d, L, e, rfl, hx, hr, hg⟩
  have HX2 := Aside0.mk hx
  have HR2 := Aside0.mk hr
  have HG2 := Aside0.mk (grow_trans (grown_of_below HB1.out (some b)) hg)
  have HZ2 := Aside0.mk ((hg.block gr (blk_lt HZ1.out) (fun e => HNB.out (by injection e))).trans HZ1.out)
  have HS12 := Aside0.mk hg.size
  clear hx hr hg
  go_wp2_with (first | ((with_reducible refine gate_dst (N := 5) rfl ?_); refine box_event ?hg (N := 5) ?hd (cs := #[.int .i64 0, .int .i64 0, .slice none 0 0, .slice none 0 0]) (t := 33) ?hr ?_; (case hd => rfl); (case hg => rfl); (case hr => first | (go_simp; done) | (go_simp; rfl)); intro ga hgg w3 hlit hb; have HAZ := Aside0.mk hlit; have HB3 := Aside0.mk hb; have HGA := Aside0.mk hgg; clear hlit hb hgg) | ((with_reducible refine gate_store (t := 33) (p := 5) rfl ?_); refine put_val ?hg ?hn 33 (.tmp 5) (.tmp 8) ?ho ga 33 _ (#[.int .i64 r1.1.f0, .int .i64 r1.1.f1, .slice K r1.1.f2.length d, .slice L r1.1.f3.length e]) (.agg (#[.int .i64 r1.1.f0, .int .i64 r1.1.f1, .slice K r1.1.f2.length d, .slice L r1.1.f3.length e])) ?hp ?hx ?hu HAZ.out ?ht ?hs ?h1 ?_; (case hg => rfl); (case hn => rfl); (case ho => rfl); (case hp => rfl); (case hx => rfl); (case hu => rfl); (case ht => kernel_rfl); (case hs => rfl); (case h1 => exact cdC_one _ _ _ _ _ _ _ _); intro w4 hlit hg; have HA4 := Aside0.mk hlit; have HBA := Aside0.mk (made_below HGA.out HB3.out hg); have HE4 := Aside0.mk (Cy.of HX2.out HGA.out HB3.out hg); have HR4 := Aside0.mk (HR2.out.on HBA.out); have HG4 := Aside0.mk (grow_trans HG2.out (grown_of_below HBA.out _)); have HZ4 := Aside0.mk (below_read HBA.out HZ2.out); clear hlit hg))
  have HNA := Aside0.mk (show ga ≠ b by have h1 := HGA.out; have h2 := blk_lt HR2.out.blk; omega)
  have HNG := Aside0.mk (show gr ≠ ga by have h1 := HGA.out; have h2 := blk_lt HZ2.out; omega)
  have HNW := Aside0.mk (show w.heap.size ≤ ga by have h1 := HGA.out; have h2 := HG2.out.size; omega)
  have HNW0 := Aside0.mk (show w0.heap.size ≤ ga by have h1 := HNW.out; have h2 := HR.out.old.size; omega)
  have HBB := Aside0.mk (show b < w1.heap.size from Nat.lt_of_lt_of_le (blk_lt HR.out.blk) HB1.out.size)
  have HGN := Aside0.mk (show gr < w1.heap.size from blk_lt HZ1.out)
  have HSG := Aside0.mk (show w2.heap.size ≤ ga by rw [HGA.out]; exact Nat.le_refl _)
  (try simp only [Act.put, List.setIfInBounds_toArray, List.set_cons_zero, List.set_cons_succ])
  go_loopg [] n (fun gg wr => ∃ (k : Nat) (a : S33) (s1 : Rs) (Ka : Option Addr) (da : Nat) (La : Option Addr) (ea : Nat), k ≤ gg ∧ k ≤ n ∧ Aside0 (condL ts en k a s1 deep = some r) ∧ Aside0 (Rd w0 A c ts en b s1 wr ∧ w.grownBy wr (some b) ∧ wr.heap[gr]? = some (.cells #[.int .i64 0, .int .i64 0, .slice none 0 0, .slice none 0 0] 33 (0, 0)) ∧ wr.heap[ga]? = some (.cells #[.int .i64 a.f0, .int .i64 a.f1, .slice Ka a.f2.length da, .slice La a.f3.length ea] 33 (0, 0)) ∧ Cy w1.heap.size ga a Ka da La ea wr))
  case atStart => exact ⟨n, r1.1, r1.2, K, d, L, e, Nat.le_refl _, Nat.le_refl _, ⟨hF⟩, ⟨HR4.out, HG4.out, HZ4.out, HA4.out, HE4.out⟩⟩
  case round =>
    clear hF HA4 HE4 HR4 HG4 HZ4 HX2 HR2 HG2 HZ2
    obtain ⟨k, a, s1, Ka, da, La, ea, hgg, hkn, HKF, HL20⟩ := hrel
    generalize wr = w20 at *
    have hk := HKF.out
    clear HKF
    cases k with
    | zero => simp [condL] at hk
    | succ k =>
    simp only [condL] at hk
    have h3 : w20.cell? ⟨b, 3, none⟩ = some (.int .i64 s1.e) := (blk_cell HL20.out.1.blk 3).trans rfl
    by_cases k1 : isS ts en s1 (⟨#[124, 124]⟩ : ByteArray) = true
    · rw [if_pos k1] at hk
      have e1 : (s1.e == 0) = true := beq_iff_eq.mpr (isS_e k1)
      have B1 := Aside0.mk k1
      clear k1
      obtain ⟨r1, hr1, hk⟩ := Option.bind_eq_some_iff.1 hk
      have HU := Aside0.mk (fun (W : World) (hR : Rd w0 A c ts en b (stepS s1) W) => ihU k (by omega) (stepS s1) deep W r1 hR h0 (by omega) hr1)
      have HK := Aside0.mk hk
      clear hk hr1
      have HT21 := Aside0.mk (take_calls w0 A c ts en b HX.out s1 (⟨#[124, 124]⟩ : ByteArray) w20 HL20.out.1)
      unfold takeS at HT21
      rw [B1.out, if_pos rfl] at HT21
      go_wp2_with fail
      refine HT21.out.mono ?_
      rintro q w21 ⟨rfl, hr, hg⟩
      have HL21 := Aside0.mk (⟨hr, grow_trans HL20.out.2.1 hg, (hg.block gr (blk_lt HL20.out.2.2.1) (fun e => HNB.out (by injection e))).trans HL20.out.2.2.1, (hg.block ga (blk_lt HL20.out.2.2.2.1) (fun e => HNA.out (by injection e))).trans HL20.out.2.2.2.1, HL20.out.2.2.2.2.grown HBB.out hg⟩ : Rd w0 A c ts en b (stepS s1) w21 ∧ w.grownBy w21 (some b) ∧ w21.heap[gr]? = some (.cells #[.int .i64 0, .int .i64 0, .slice none 0 0, .slice none 0 0] 33 (0, 0)) ∧ w21.heap[ga]? = some (.cells #[.int .i64 a.f0, .int .i64 a.f1, .slice Ka a.f2.length da, .slice La a.f3.length ea] 33 (0, 0)) ∧ Cy w1.heap.size ga a Ka da La ea w21)
      clear hr hg HT21
      go_upto_region 3 with fail
      have HRT := Aside0.mk HL21.out.1
      have HGT := Aside0.mk HL21.out.2.1
      have HZT := Aside0.mk HL21.out.2.2.1
      have HAT := Aside0.mk HL21.out.2.2.2.1
      have HET := Aside0.mk HL21.out.2.2.2.2
      have HSA := Aside0.mk (show w1.heap.size ≤ w21.drew.heap.size from Nat.le_trans HS12.out (Nat.le_of_lt (Nat.lt_of_le_of_lt HSG.out (blk_lt HL21.out.2.2.2.1))))
      have HLA := Aside0.mk (show ga < w21.drew.heap.size from blk_lt HL21.out.2.2.2.1)
      have hq0 : w21.drew.cell? ⟨ga, 0, none⟩ = some (.int .i64 a.f0) := (blk_cell HAT.out 0).trans rfl
      have hq1 : w21.drew.cell? ⟨ga, 1, none⟩ = some (.int .i64 a.f1) := (blk_cell HAT.out 1).trans rfl
      have hq2 : w21.drew.cell? ⟨ga, 2, none⟩ = some (.slice Ka a.f2.length da) := (blk_cell HAT.out 2).trans rfl
      have hq3 : w21.drew.cell? ⟨ga, 3, none⟩ = some (.slice La a.f3.length ea) := (blk_cell HAT.out 3).trans rfl
      refine start_ (n := 7) (S := fun w' => w'.cell? ⟨ga, 0, none⟩ = some (.int .i64 a.f0) ∧ w'.cell? ⟨ga, 1, none⟩ = some (.int .i64 a.f1) ∧ w'.cell? ⟨ga, 2, none⟩ = some (.slice Ka a.f2.length da) ∧ w'.cell? ⟨ga, 3, none⟩ = some (.slice La a.f3.length ea)) (ds := [6]) #[false, false, false, false, false, false, false] (by kernel_rfl) rfl rfl ⟨hq0, hq1, hq2, hq3⟩ (fun hHeld => ?_)
      refine pure_ (i := 1) (N := some 19) (v := ?_) (a' := ?_) #[false, true, false, false, false, false, false] rfl rfl (by kernel_rfl) (fun _ _ _ h => h) (Or.inl ⟨by rfl, ?_⟩) ?_ ?_
      rotate_left
      · intro w'
        go_simp
        with_reducible rfl
      rotate_left
      · simp only [Act.put, List.setIfInBounds_toArray, List.set_cons_zero, List.set_cons_succ, i64_w, i32_w]
        rfl
      refine pure_ (i := 2) (N := some 20) (v := ?_) (a' := ?_) #[false, true, true, false, false, false, false] rfl rfl (by kernel_rfl) (fun _ _ _ h => h) (Or.inl ⟨by rfl, ?_⟩) ?_ ?_
      rotate_left
      · intro w'
        go_simp
        with_reducible rfl
      rotate_left
      · simp only [Act.put, List.setIfInBounds_toArray, List.set_cons_zero, List.set_cons_succ, i64_w, i32_w]
        rfl
      refine take_ (i := 0) (N := some 18) (v := ?_) (a' := ?_) #[true, true, true, false, false, false, false] rfl rfl (by kernel_rfl) (fun _ _ _ h => h) (Or.inl ⟨by rfl, ?_⟩) hHeld ?_ ?_
      rotate_left
      · rintro w' ⟨s0, s1, s2, s3⟩
        go_simp
        with_reducible rfl
      rotate_left
      · simp only [Act.put, List.setIfInBounds_toArray, List.set_cons_zero, List.set_cons_succ, i64_w, i32_w]
        rfl
      refine one_ (i := 3) (N := some 21) #[true, true, true, true, false, false, false] rfl rfl (by kernel_rfl) (by decide) (fun K hK => ?_)
      refine goes_ Tryd.func68 (by kernel_rfl) rfl #[.pointer (some ⟨b, 0, none⟩), .int .i64 deep] (by rfl) rfl rfl (by simp only [List.map_toArray, List.map_cons, List.map_nil, Act.eval]; rfl) ?_
      refine (HU.out _ (HRT.out.on (below_drew (Below.refl _ _)))).mono ?_
      rintro q v3 ⟨Kb, db, Lb, eb, rfl, hx, hr, hg⟩
      have HX3 := Aside0.mk hx
      have HR3 := Aside0.mk hr
      have HG3 := Aside0.mk (grow_trans (grow_trans HGT.out (grown_of_below (below_drew (Below.refl _ _)) (some b))) hg)
      have HA3 := Aside0.mk ((hg.block ga (blk_lt HAT.out) (fun e => HNA.out (by injection e))).trans HAT.out)
      have HZ3 := Aside0.mk ((hg.block gr (blk_lt HZT.out) (fun e => HNB.out (by injection e))).trans HZT.out)
      have HE3 := Aside0.mk ((HET.out.on (below_drew (Below.refl _ _))).grown HBB.out hg)
      have HS3 := Aside0.mk hg.size
      clear hx hr hg
      refine ⟨_, rfl, ?_⟩
      refine hK.out _ _ ⟨(blk_cell HA3.out 0).trans rfl, (blk_cell HA3.out 1).trans rfl, (blk_cell HA3.out 2).trans rfl, (blk_cell HA3.out 3).trans rfl⟩ (fun hHeld => ?_)
      clear hK K
      refine norm_ (a' := ?_) ?_ ?_
      rotate_left
      · show Act.put _ (some 21) _ = _
        simp only [Act.put, List.setIfInBounds_toArray, List.set_cons_zero, List.set_cons_succ, i64_w, i32_w]
        rfl
      refine one_ (i := 4) (N := some 22) #[true, true, true, true, true, false, false] rfl rfl (by kernel_rfl) (by decide) (fun K hK => ?_)
      refine lit_step (n := 2) (by rfl) (N := 22) rfl (cs := #[.int .i64 a.f0, .int .i64 a.f1, .slice Ka a.f2.length da, .slice La a.f3.length ea, .int .i64 r1.1.f0, .int .i64 r1.1.f1, .slice Kb r1.1.f2.length db, .slice Lb r1.1.f3.length eb]) (t := 33) ?hr ?_
      case hr => first | (go_simp; done) | (go_simp; rfl)
      intro g hgg v4 hlit hb
      have HGE := Aside0.mk (show v3.heap.size ≤ g by rw [hgg]; exact Nat.le_refl _)
      have HGB := Aside0.mk hlit
      have HR4 := Aside0.mk (HR3.out.on hb)
      have HG4 := Aside0.mk (grow_trans HG3.out (grown_of_below hb _))
      have HA4 := Aside0.mk (below_read hb HA3.out)
      have HZ4 := Aside0.mk (below_read hb HZ3.out)
      have HE4 := Aside0.mk (HE3.out.on hb)
      have HX4 := Aside0.mk (HX3.out.on hb)
      clear hlit hgg
      refine hK.out _ _ ⟨(blk_cell HA4.out 0).trans rfl, (blk_cell HA4.out 1).trans rfl, (blk_cell HA4.out 2).trans rfl, (blk_cell HA4.out 3).trans rfl⟩ (fun hHeld => ?_)
      clear hK K
      refine norm_ (a' := ?_) ?_ ?_
      rotate_left
      · show Act.put _ (some 22) _ = _
        simp only [Act.put, List.setIfInBounds_toArray, List.set_cons_zero, List.set_cons_succ, i64_w, i32_w]
        rfl
      refine pure_ (i := 5) (N := some 23) (v := ?_) (a' := ?_) #[true, true, true, true, true, true, false] rfl rfl (by kernel_rfl) (fun _ _ _ h => h) (Or.inl ⟨by rfl, ?_⟩) ?_ ?_
      rotate_left
      · intro w'
        go_simp
        with_reducible rfl
      rotate_left
      · simp only [Act.put, List.setIfInBounds_toArray, List.set_cons_zero, List.set_cons_succ, i64_w, i32_w]
        rfl
      refine last_ (i := 6) (N := none) #[true, true, true, true, true, true, true] rfl rfl (by kernel_rfl) (by decide) (fun K hK => ?_)
      refine put_step (by rfl) rfl 33 (.tmp 5) (.tmp 23) ?ho ga 33 _ (#[.int .i64 4, .int .i64 0, .slice none 0 0, .slice (some ⟨g, 0, none⟩) 2 2]) (.agg (#[.int .i64 4, .int .i64 0, .slice none 0 0, .slice (some ⟨g, 0, none⟩) 2 2])) ?hp ?hx ?hu HA4.out ?ht ?hs ?h1 ?_
      case ho => rfl
      case hp => rfl
      case hx => rfl
      case hu => rfl
      case ht => kernel_rfl
      case hs => rfl
      case h1 => exact cdC_one _ _ _ _ _ _ _ _
      intro w5 hlit hg
      have HT5 := Aside0.mk hlit
      have HG5 := Aside0.mk (own_store2 HNW.out HG4.out hg)
      have HR5 := Aside0.mk (rd_store2 HX.out HR4.out HNA.out HNW0.out hg)
      have HZ5 := Aside0.mk ((hg.block gr (blk_lt HZ4.out) (fun e => HNG.out (by injection e))).trans HZ4.out)
      have HE5 := Aside0.mk (HE4.out.two HX4.out HSA.out HLA.out (Nat.le_trans HS3.out HGE.out) HGB.out hg 4 0)
      clear hlit hg
      refine hK.out _ _ ?_
      clear hK K
      refine done_ (by kernel_rfl) ?_
      go_wp2_with fail
      go_roundg k
      case measure => omega
      case rel => exact ⟨k, _, _, _, _, _, _, Nat.le_refl _, by omega, ⟨HK.out⟩, ⟨HR5.out, HG5.out, HZ5.out, HT5.out, HE5.out⟩⟩
    · rw [if_neg k1] at hk
      have hk := Option.some.inj hk
      subst hk
      have B1 := Aside0.mk (Bool.eq_false_iff.2 k1)
      clear k1
      by_cases ke : s1.e = 0
      · have e1 : (s1.e == 0) = true := beq_iff_eq.mpr ke
        clear ke
        have HT21 := Aside0.mk (take_calls w0 A c ts en b HX.out s1 (⟨#[124, 124]⟩ : ByteArray) w20 HL20.out.1)
        unfold takeS at HT21
        rw [B1.out, if_neg (by decide)] at HT21
        go_wp2_with fail
        refine HT21.out.mono ?_
        rintro q w21 ⟨rfl, hr, hg⟩
        have HL21 := Aside0.mk (⟨hr, grow_trans HL20.out.2.1 hg, (hg.block gr (blk_lt HL20.out.2.2.1) (fun e => HNB.out (by injection e))).trans HL20.out.2.2.1, (hg.block ga (blk_lt HL20.out.2.2.2.1) (fun e => HNA.out (by injection e))).trans HL20.out.2.2.2.1, HL20.out.2.2.2.2.grown HBB.out hg⟩ : Rd w0 A c ts en b s1 w21 ∧ w.grownBy w21 (some b) ∧ w21.heap[gr]? = some (.cells #[.int .i64 0, .int .i64 0, .slice none 0 0, .slice none 0 0] 33 (0, 0)) ∧ w21.heap[ga]? = some (.cells #[.int .i64 a.f0, .int .i64 a.f1, .slice Ka a.f2.length da, .slice La a.f3.length ea] 33 (0, 0)) ∧ Cy w1.heap.size ga a Ka da La ea w21)
        clear hr hg HT21
        go_wp2_with (first | ((with_reducible refine gate_dst (N := 24) rfl ?_); (try (refine gate_guard (by rfl) ?_; dsimp only)); refine wpList_load_row ?hg 33 (.tmp 5) ?ho ga ?hx 33 _ (0, 0) _ HL21.out.2.2.2.1 Tryd.underlying33 ?hd ?hi ?_; (case hg => rfl); (case ho => rfl); (case hx => rfl); (case hd => rfl); (case hi => kernel_rfl)) | ((with_reducible refine gate_store (t := 33) (p := 4) rfl ?_); refine put_val ?hg ?hn 33 (.tmp 4) (.tmp 24) ?ho gr 33 _ (#[.int .i64 a.f0, .int .i64 a.f1, .slice Ka a.f2.length da, .slice La a.f3.length ea]) (.agg (#[.int .i64 a.f0, .int .i64 a.f1, .slice Ka a.f2.length da, .slice La a.f3.length ea])) ?hp ?hx ?hu HL21.out.2.2.1 ?ht ?hs ?h1 ?_; (case hg => rfl); (case hn => rfl); (case ho => rfl); (case hp => rfl); (case hx => rfl); (case hu => rfl); (case ht => kernel_rfl); (case hs => rfl); (case h1 => exact cdC_one _ _ _ _ _ _ _ _); intro w99 hlit hg; have HT := Aside0.mk hlit; have HGZ := Aside0.mk hg; have HOW := Aside0.mk (own_store HGR.out HB1.out HL21.out.2.1 hg); have HRZ := Aside0.mk (rd_store HX.out HL21.out.1 HGR.out HB1.out HR.out hg); clear hlit hg))
        (try simp only [Exit.inBlock, Exit.then])
        refine bodyPost_ret (results_cell_row rfl _ _ gr 33 _ (0, 0) _ rfl HT.out Tryd.underlying33 rfl (by kernel_rfl)) rfl ?_
        exact ⟨_, _, _, _, rfl, (HL21.out.2.2.2.2.cx.grown HGN.out HGZ.out).less HB1.out.size, HRZ.out, HOW.out⟩
      · have e1 : (s1.e == 0) = false := beq_eq_false_iff_ne.mpr ke
        clear ke
        go_wp2_with (first | ((with_reducible refine gate_dst (N := 24) rfl ?_); (try (refine gate_guard (by rfl) ?_; dsimp only)); refine wpList_load_row ?hg 33 (.tmp 5) ?ho ga ?hx 33 _ (0, 0) _ HL20.out.2.2.2.1 Tryd.underlying33 ?hd ?hi ?_; (case hg => rfl); (case ho => rfl); (case hx => rfl); (case hd => rfl); (case hi => kernel_rfl)) | ((with_reducible refine gate_store (t := 33) (p := 4) rfl ?_); refine put_val ?hg ?hn 33 (.tmp 4) (.tmp 24) ?ho gr 33 _ (#[.int .i64 a.f0, .int .i64 a.f1, .slice Ka a.f2.length da, .slice La a.f3.length ea]) (.agg (#[.int .i64 a.f0, .int .i64 a.f1, .slice Ka a.f2.length da, .slice La a.f3.length ea])) ?hp ?hx ?hu HL20.out.2.2.1 ?ht ?hs ?h1 ?_; (case hg => rfl); (case hn => rfl); (case ho => rfl); (case hp => rfl); (case hx => rfl); (case hu => rfl); (case ht => kernel_rfl); (case hs => rfl); (case h1 => exact cdC_one _ _ _ _ _ _ _ _); intro w99 hlit hg; have HT := Aside0.mk hlit; have HGZ := Aside0.mk hg; have HOW := Aside0.mk (own_store HGR.out HB1.out HL20.out.2.1 hg); have HRZ := Aside0.mk (rd_store HX.out HL20.out.1 HGR.out HB1.out HR.out hg); clear hlit hg))
        (try simp only [Exit.inBlock, Exit.then])
        refine bodyPost_ret (results_cell_row rfl _ _ gr 33 _ (0, 0) _ rfl HT.out Tryd.underlying33 rfl (by kernel_rfl)) rfl ?_
        exact ⟨_, _, _, _, rfl, (HL20.out.2.2.2.2.cx.grown HGN.out HGZ.out).less HB1.out.size, HRZ.out, HOW.out⟩
theorem CdC.zero {w0 : World} {A : Option Addr} {c : Nat} {ts : List S86} {en : Int} {b fn : Nat} {F : Rs → Int → Option (S33 × Rs)} (h : ∀ s d, F s d = none) : CdC w0 A c ts en b fn 0 F := fun s d w r _ _ _ hF => by rw [h] at hF; cases hF
theorem cond_all (w0 : World) (A : Option Addr) (c : Nat) (ts : List S86) (en : Int) (b : Nat) (hX : Ctx w0 A c ts b) : ∀ (n m : Nat), m ≤ n → CdC w0 A c ts en b 76 m (atomF ts en m) ∧ CdC w0 A c ts en b 68 m (conjF ts en m) ∧ CdC w0 A c ts en b 60 m (condP ts en m)
  | _, 0, _ => ⟨CdC.zero (fun _ _ => by simp [atomF]), CdC.zero (fun _ _ => by simp [conjF]), CdC.zero (fun _ _ => by simp [condP])⟩
  | 0, m + 1, h => by omega
  | n + 1, m + 1, h => by
    have ih := cond_all w0 A c ts en b hX n
    exact ⟨atom_step w0 A c ts en b hX m (ih m (by omega)).1 (ih m (by omega)).2.2 (expr_calls w0 A c ts en b hX m), conj_step w0 A c ts en b hX m (fun k hk => (ih k (by omega)).1), cond_step w0 A c ts en b hX m (fun k hk => (ih k (by omega)).2.1)⟩
/-- The reader's cond answers condP, with as much fuel as that has. -/
theorem cond_calls (w0 : World) (A : Option Addr) (c : Nat) (ts : List S86) (en : Int) (b : Nat) (hX : Ctx w0 A c ts b) (n : Nat) : CdC w0 A c ts en b 60 n (condP ts en n) := (cond_all w0 A c ts en b hX n n (Nat.le_refl _)).2.2
end Go.Proofs.YtfeaekdhpkdljaaDoor.Rd
