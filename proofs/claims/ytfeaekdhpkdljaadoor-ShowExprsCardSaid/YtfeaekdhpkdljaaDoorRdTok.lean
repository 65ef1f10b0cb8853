/- meddlerref5.reader: its tokens: tok, fail, is, take, need. -/
import Derived.Test.YtfeaekdhpkdljaaDoorRdBase
import Derived.StillTailTactics
import Derived.Deep.QuietTactic
namespace Go.Proofs.YtfeaekdhpkdljaaDoor.Rd
open Go.RowKit Go.Proofs.YtfeaekdhpkdljaaDoorW.PrintWords Go.Proofs.YtfeaekdhpkdljaaDoorW.PrintLast Go.Proofs.YtfeaekdhpkdljaaDoor.Sh
set_option linter.unusedVariables false
set_option linter.unusedSimpArgs false
/-- Where a reader stands: its place, its first error, that one's place. -/
structure Rs where
  at_ : Nat
  e : Int
  pos : Int
def tok0 (en : Int) : S86 := ⟨0, ⟨#[]⟩, 0, en⟩
def tokS (ts : List S86) (en : Int) (s : Rs) : S86 := ts.getD s.at_ (tok0 en)
def failS (ts : List S86) (en : Int) (s : Rs) (e : Int) : Rs := if s.e = 0 then ⟨s.at_, e, (tokS ts en s).f3⟩ else s
def isS (ts : List S86) (en : Int) (s : Rs) (x : ByteArray) : Bool := decide (s.e = 0) && (decide ((tokS ts en s).f0 ≠ 0) && (decide ((tokS ts en s).f0 ≠ 1) && decide ((tokS ts en s).f1 = x)))
def stepS (s : Rs) : Rs := ⟨s.at_ + 1, s.e, s.pos⟩
def takeS (ts : List S86) (en : Int) (s : Rs) (x : ByteArray) : Rs := if isS ts en s x = true then stepS s else s
def needS (ts : List S86) (en : Int) (s : Rs) (x : ByteArray) : Rs := if isS ts en s x = true then stepS s else failS ts en s 2
abbrev rdC (A : Option Addr) (c : Nat) (ts : List S86) (en : Int) (s : Rs) : Array Value := #[.slice A ts.length c, .int .i64 s.at_, .int .i64 en, .int .i64 s.e, .int .i64 s.pos]
abbrev tokC (t : S86) : Array Value := #[.int .i64 t.f0, .string t.f1, .int .i64 t.f2, .int .i64 t.f3]
/-- What the reader reads does not change: its tokens lie in the world w0, its own block b above. -/
structure Ctx (w0 : World) (A : Option Addr) (c : Nat) (ts : List S86) (b : Nat) : Prop where
  row : k86.C w0 A ts.length ts
  cap : ts.length ≤ c
  base : w0.heap.size ≤ b
structure Rd (w0 : World) (A : Option Addr) (c : Nat) (ts : List S86) (en : Int) (b : Nat) (s : Rs) (w : World) : Prop where
  blk : w.heap[b]? = some (.cells (rdC A c ts en s) 79 (0, 0))
  old : Below w0.heap.size w0 w
  le : s.at_ ≤ ts.length
section
variable {w0 w w' : World} {A : Option Addr} {c b : Nat} {ts : List S86} {en : Int} {s s' : Rs}
theorem Rd.on (h : Rd w0 A c ts en b s w) (hb : Below w.heap.size w w') : Rd w0 A c ts en b s w' := ⟨below_read hb h.blk, below_then h.old h.old.size hb, h.le⟩
theorem Ctx.old_of {w0 w w' : World} (hc : Ctx w0 A c ts b) (h : Below w0.heap.size w0 w) (hg : w.grownBy w' (some b)) : Below w0.heap.size w0 w' := h.grown hg h.size (fun k hk => by injection hk with hk; rw [← hk]; exact hc.base)
end
/-- A token that is one stands in the row. -/
theorem tokS_in {ts : List S86} {en : Int} {s : Rs} (h : (tokS ts en s).f0 ≠ 0) : s.at_ < ts.length := by
  unfold tokS at h
  by_cases hl : s.at_ < ts.length
  · exact hl
  · rw [List.getD_eq_getElem?_getD, List.getElem?_eq_none (by omega)] at h
    exact absurd rfl h
theorem isS_in {ts : List S86} {en : Int} {s : Rs} {x : ByteArray} (h : isS ts en s x = true) : s.at_ < ts.length := by
  unfold isS at h
  simp only [Bool.and_eq_true, decide_eq_true_eq] at h
  exact tokS_in h.2.1
section
variable {P : Program} {ops : Array Oper} {rest : List Oper} {o : Oper} {a : Act} {Q : Exit → Act → World → Prop}
theorem field_ev {W : World} (hgd : o.guard = none) (t : TypeId) (x : Operand) (f : Nat) (ho : o.op = .field t x f) (v : Value) (hrun : (Instr.field t (a.eval x) f).run P W = .ok v W) (h : wpList P ops Q rest (a.put o.dst v) W) : wpList P ops Q (o :: rest) a W := by
  refine wpList_plain hgd fun K hK => ?_
  unfold Oper.wp execOp
  simp only [ho, Sem.run_bind, Sem.run_pure, Result.andThen_ok, hrun]
  exact hK _ _ h
end
theorem run_tok3 (W : World) (a b c d : Value) : (Instr.field 86 (.agg #[a, b, c, d]) 3).run Tryd.prog W = .ok d W := by
  unfold Instr.field
  rw [Sem.run_bind, run_underlying Tryd.underlying86 W]
  simp only [Result.andThen_ok]
  simp [part, asAgg, isAgg, run_underlying Tryd.underlying3 W, Sem.run_bind, go_sem]
theorem str_inj {a b : ByteArray} (h : a.toList = b.toList) : a = b := by
  rw [ByteArray.toList_eq, ByteArray.toList_eq] at h
  exact ByteArray.ext (Array.toList_inj.1 h)
set_option maxHeartbeats 8000000 in
set_option maxRecDepth 100000 in
theorem tokC_one (t : S86) : ∀ q ∈ (tokC t).toList, q.oneCell' = true := by
  intro q hq
  simp only [tokC, List.mem_cons, List.not_mem_nil, or_false] at hq
  rcases hq with h | h | h | h <;> subst h <;> rfl
set_option maxHeartbeats 8000000 in
set_option maxRecDepth 100000 in
theorem tok_calls (w0 : World) (A : Option Addr) (c : Nat) (ts : List S86) (en : Int) (b : Nat) (hX : Ctx w0 A c ts b) (s : Rs) (w : World) (h : Rd w0 A c ts en b s w) :
    Calls Tryd.prog 54 #[.pointer (some ⟨b, 0, none⟩)] w fun q w' => q = .returned (.agg #[.int .i64 (tokS ts en s).f0, .string (tokS ts en s).f1, .int .i64 (tokS ts en s).f2, .int .i64 (tokS ts en s).f3]) ∧ Below w.heap.size w w' := by
  have HX := Aside0.mk hX
  have HR := Aside0.mk h
  have hml : ts.length ≤ 9223372036854775807 := hX.row.2.1
  have hle := h.le
  clear hX h
  by_cases hlt : s.at_ < ts.length
  · have hltz : (s.at_ : Int) < (ts.length : Int) := by omega
    have hx : rd_T86 ts (s.at_ : Int) = tokS ts en s := by simp [rd_T86, tokS, hlt]
    obtain ⟨t, ht⟩ : ∃ t, tokS ts en s = t := ⟨_, rfl⟩
    rw [ht] at hx ⊢
    clear ht hlt
    go_enter Tryd.func54, Tryd.ntmps54
    go_upto_region 1 with (first | ((with_reducible refine gate_dst (N := 2) rfl ?_); refine box_event ?hg (N := 2) ?hd (cs := #[.int .i64 0, .string ⟨#[]⟩, .int .i64 0, .int .i64 0]) (t := 86) ?hr ?_; (case hd => rfl); (case hg => rfl); (case hr => first | (go_simp; done) | (go_simp; rfl)); intro gt hgg w1 hlit hb; have HZ := Aside0.mk hlit; have HB1 := Aside0.mk hb; have HGT := Aside0.mk hgg; clear hlit hb hgg))
    have hr0 : w1.cell? ⟨b, 0, none⟩ = some (.slice A ts.length c) := (blk_cell (below_read HB1.out HR.out.blk) 0).trans rfl
    have hr1 : w1.cell? ⟨b, 1, none⟩ = some (.int .i64 s.at_) := (blk_cell (below_read HB1.out HR.out.blk) 1).trans rfl
    have hr2 : w1.cell? ⟨b, 2, none⟩ = some (.int .i64 en) := (blk_cell (below_read HB1.out HR.out.blk) 2).trans rfl
    obtain ⟨ad, rfl, p0, p1, p2, p3⟩ := at_T86 (Kd.C_below HX.out.row (below_then HR.out.old HR.out.old.size HB1.out)) (s.at_ : Int) (by omega) hltz
    rw [Int.toNat_natCast, hx] at p0 p1 p2 p3
    clear hx
    go_quiet (fail)
    obtain ⟨w2, hw2⟩ : ∃ w2, w1.drewN nq = w2 := ⟨_, rfl⟩
    rw [hw2]
    replace p0 := cell_at hw2 p0
    replace p1 := cell_at hw2 p1
    replace p2 := cell_at hw2 p2
    replace p3 := cell_at hw2 p3
    have hs0 := cell_at hw2 hr0
    have hs1 := cell_at hw2 hr1
    have HZ2 := Aside0.mk (blk_at hw2 HZ.out)
    have HB2 := Aside0.mk (show Below w.heap.size w w2 by rw [← hw2]; exact pw_below_drewN HB1.out nq)
    clear hr0 hr1 hr2 hw2
    go_upto_region 2 with fail
    go_still_tail 10, (by kernel_rfl)
    change wpList _ _ _ _ _ w2.drew
    go_wp2_with (first | ((with_reducible refine gate_store (t := 86) (p := 2) rfl ?_); refine put_val ?hg ?hn 86 (.tmp 2) (.tmp 22) ?ho gt 86 _ (tokC t) (.agg (tokC t)) ?hp ?hx ?hu HZ2.out ?ht ?hs ?h1 ?_; (case hg => rfl); (case hn => rfl); (case ho => rfl); (case hp => rfl); (case hx => rfl); (case hu => rfl); (case ht => kernel_rfl); (case hs => rfl); (case h1 => exact tokC_one t); intro w3 hlit hg; have HT := Aside0.mk hlit; have HB3 := Aside0.mk ((below_drew HB2.out).grown hg (below_drew HB2.out).size (fun q hq => by injection hq with hq; rw [← hq, HGT.out]; exact Nat.le_refl _)); clear hlit hg))
    (try simp only [Exit.inBlock, Exit.then])
    refine bodyPost_ret (results_cell_row rfl _ _ gt 86 _ (0, 0) _ rfl HT.out Tryd.underlying86 rfl (by kernel_rfl)) rfl ?_
    exact ⟨rfl, HB3.out⟩
  · have hltz : ¬ (s.at_ : Int) < (ts.length : Int) := by omega
    have ht : tokS ts en s = tok0 en := by unfold tokS; rw [List.getD_eq_getElem?_getD, List.getElem?_eq_none (by omega)]; rfl
    rw [ht]
    clear ht hlt
    go_enter Tryd.func54, Tryd.ntmps54
    go_upto_region 1 with (first | ((with_reducible refine gate_dst (N := 2) rfl ?_); refine box_event ?hg (N := 2) ?hd (cs := #[.int .i64 0, .string ⟨#[]⟩, .int .i64 0, .int .i64 0]) (t := 86) ?hr ?_; (case hd => rfl); (case hg => rfl); (case hr => first | (go_simp; done) | (go_simp; rfl)); intro gt hgg w1 hlit hb; have HZ := Aside0.mk hlit; have HB1 := Aside0.mk hb; have HGT := Aside0.mk hgg; clear hlit hb hgg))
    have hr0 : w1.cell? ⟨b, 0, none⟩ = some (.slice A ts.length c) := (blk_cell (below_read HB1.out HR.out.blk) 0).trans rfl
    have hr1 : w1.cell? ⟨b, 1, none⟩ = some (.int .i64 s.at_) := (blk_cell (below_read HB1.out HR.out.blk) 1).trans rfl
    have hr2 : w1.cell? ⟨b, 2, none⟩ = some (.int .i64 en) := (blk_cell (below_read HB1.out HR.out.blk) 2).trans rfl
    go_quiet (fail)
    obtain ⟨w2, hw2⟩ : ∃ w2, w1.drewN nq = w2 := ⟨_, rfl⟩
    rw [hw2]
    have hs2 := cell_at hw2 hr2
    have HZ2 := Aside0.mk (blk_at hw2 HZ.out)
    have HB2 := Aside0.mk (show Below w.heap.size w w2 by rw [← hw2]; exact pw_below_drewN HB1.out nq)
    clear hr0 hr1 hr2 hw2
    go_wp2_with (first | ((with_reducible refine gate_store (t := 86) (p := 2) rfl ?_); refine put_val ?hg ?hn 86 (.tmp 2) (.tmp 27) ?ho gt 86 _ (tokC (tok0 en)) (.agg (tokC (tok0 en))) ?hp ?hx ?hu HZ2.out ?ht ?hs ?h1 ?_; (case hg => rfl); (case hn => rfl); (case ho => rfl); (case hp => rfl); (case hx => rfl); (case hu => rfl); (case ht => kernel_rfl); (case hs => rfl); (case h1 => exact tokC_one (tok0 en)); intro w3 hlit hg; have HT := Aside0.mk hlit; have HB3 := Aside0.mk (HB2.out.grown hg HB2.out.size (fun q hq => by injection hq with hq; rw [← hq, HGT.out]; exact Nat.le_refl _)); clear hlit hg))
    (try simp only [Exit.inBlock, Exit.then])
    refine bodyPost_ret (results_cell_row rfl _ _ gt 86 _ (0, 0) _ rfl HT.out Tryd.underlying86 rfl (by kernel_rfl)) rfl ?_
    exact ⟨rfl, HB3.out⟩
set_option maxHeartbeats 8000000 in
set_option maxRecDepth 100000 in
theorem fail_calls (w0 : World) (A : Option Addr) (c : Nat) (ts : List S86) (en : Int) (b : Nat) (hX : Ctx w0 A c ts b) (s : Rs) (e : Int) (w : World) (h : Rd w0 A c ts en b s w) :
    Calls Tryd.prog 53 #[.pointer (some ⟨b, 0, none⟩), .int .i64 e] w fun q w' => q = .returned (.tuple #[]) ∧ Rd w0 A c ts en b (failS ts en s e) w' ∧ w.grownBy w' (some b) := by
  have HX := Aside0.mk hX
  have HR := Aside0.mk h
  have he3 : w.cell? ⟨b, 3, none⟩ = some (.int .i64 s.e) := (blk_cell h.blk 3).trans rfl
  by_cases hk : s.e = 0
  · have hkb : (s.e == 0) = true := beq_iff_eq.mpr hk
    have hv : failS ts en s e = ⟨s.at_, e, (tokS ts en s).f3⟩ := if_pos hk
    rw [hv]
    have HT := Aside0.mk (tok_calls w0 A c ts en b hX s w h)
    obtain ⟨t, ht⟩ : ∃ t, tokS ts en s = t := ⟨_, rfl⟩
    rw [ht] at HT ⊢
    clear hX h hv ht hk
    go_enter Tryd.func53, Tryd.ntmps53
    go_wp2_with fail
    refine HT.out.mono ?_
    rintro q w1 ⟨rfl, hb⟩
    have HB1 := Aside0.mk hb
    have hblk : w1.heap[b]? = some (.cells (rdC A c ts en s) 79 (0, 0)) := below_read hb HR.out.blk
    have h13 : w1.cell? ⟨b, 3, none⟩ = some (.int .i64 s.e) := (blk_cell hblk 3).trans rfl
    have f13 : w1.frozen? ⟨b, 3, none⟩ = false := blk_frozen hblk 3
    have hblk2 := blk_set hblk 3 (.int .i64 e)
    have h14 : (w1.setCell ⟨b, 3, none⟩ (.int .i64 e)).cell? ⟨b, 4, none⟩ = some (.int .i64 s.pos) := (blk_cell hblk2 4).trans rfl
    have f14 : (w1.setCell ⟨b, 3, none⟩ (.int .i64 e)).frozen? ⟨b, 4, none⟩ = false := blk_frozen hblk2 4
    have HF := Aside0.mk (show ((w1.setCell ⟨b, 3, none⟩ (.int .i64 e)).setCell ⟨b, 4, none⟩ (.int .i64 t.f3)).heap[b]? = some (.cells (rdC A c ts en ⟨s.at_, e, t.f3⟩) 79 (0, 0)) from (blk_set hblk2 4 (.int .i64 t.f3)).trans rfl)
    clear hb hblk hblk2
    go_wp2_with (first | ((with_reducible refine gate_dst (N := 14) rfl ?_); refine field_ev ?hg 86 (.tmp 13) 3 ?ho (.int .i64 t.f3) ?hr ?_; (case hg => rfl); (case ho => rfl); (case hr => exact run_tok3 _ _ _ _ _)))
    go_end0
    have HG := grow_trans (grow_trans (grown_of_below HB1.out (some b)) (grow_set w1 b 3 (.int .i64 e))) (grow_set (w1.setCell ⟨b, 3, none⟩ (.int .i64 e)) b 4 (.int .i64 t.f3))
    exact ⟨rfl, ⟨HF.out, HX.out.old_of HR.out.old HG, HR.out.le⟩, HG⟩
  · have hkb : (s.e == 0) = false := beq_eq_false_iff_ne.mpr hk
    have hv : failS ts en s e = s := if_neg hk
    rw [hv]
    clear hX h hv hk
    go_enter Tryd.func53, Tryd.ntmps53
    go_wp2_with fail
    go_end0
    exact ⟨rfl, HR.out, grown_of_below (Below.refl _ _) _⟩
set_option maxHeartbeats 8000000 in
set_option maxRecDepth 100000 in
theorem is_calls (w0 : World) (A : Option Addr) (c : Nat) (ts : List S86) (en : Int) (b : Nat) (hX : Ctx w0 A c ts b) (s : Rs) (x : ByteArray) (w : World) (h : Rd w0 A c ts en b s w) :
    Calls Tryd.prog 48 #[.pointer (some ⟨b, 0, none⟩), .string x] w fun q w' => q = .returned (.bool (isS ts en s x)) ∧ Below w.heap.size w w' := by
  have HR := Aside0.mk h
  have HT := Aside0.mk (tok_calls w0 A c ts en b hX s w h)
  unfold isS
  obtain ⟨t, ht⟩ : ∃ t, tokS ts en s = t := ⟨_, rfl⟩
  rw [ht] at HT ⊢
  clear hX h ht
  obtain ⟨isB, hB⟩ : ∃ z, z = (decide (s.e = 0) && (decide (t.f0 ≠ 0) && (decide (t.f0 ≠ 1) && decide (t.f1 = x)))) := ⟨_, rfl⟩
  rw [← hB]
  by_cases hk : s.e = 0
  · have d0 := decide_eq_true hk
    have b0 : (s.e == 0) = true := beq_iff_eq.mpr hk
    clear hk
    by_cases hk : t.f0 ≠ 0
    · have d1 := decide_eq_true hk
      have b1 : (t.f0 != 0) = true := bne_iff_ne.mpr hk
      clear hk
      by_cases hk : t.f0 ≠ 1
      · have d2 := decide_eq_true hk
        have b2 : (t.f0 != 1) = true := bne_iff_ne.mpr hk
        clear hk
        by_cases hk : t.f1 = x
        · have d3 := decide_eq_true hk
          have b3 : (t.f1.toList == x.toList) = true := beq_iff_eq.mpr (by rw [hk])
          clear hk
          have hv : isB = true := by rw [hB, d0, d1, d2, d3]; rfl
          rw [hv]
          clear hv hB
          go_enter Tryd.func48, Tryd.ntmps48
          go_wp2_with fail
          refine HT.out.mono ?_
          rintro q w1 ⟨rfl, hb⟩
          have HB1 := Aside0.mk hb
          clear hb
          go_wp2_with (first | ((with_reducible refine gate_dst (N := 5) rfl ?_); refine box_event ?hg (N := 5) ?hd (cs := #[.int .i64 0, .string ⟨#[]⟩, .int .i64 0, .int .i64 0]) (t := 86) ?hr ?_; (case hd => rfl); (case hg => rfl); (case hr => first | (go_simp; done) | (go_simp; rfl)); intro gt hgg w2 hlit hb; have HZ := Aside0.mk hlit; have HB2 := Aside0.mk hb; have HGT := Aside0.mk hgg; clear hlit hb hgg) | ((with_reducible refine gate_store (t := 86) (p := 5) rfl ?_); refine put_val ?hg ?hn 86 (.tmp 5) (.tmp 7) ?ho gt 86 _ (#[.int .i64 t.f0, .string t.f1, .int .i64 t.f2, .int .i64 t.f3]) (.agg (#[.int .i64 t.f0, .string t.f1, .int .i64 t.f2, .int .i64 t.f3])) ?hp ?hx ?hu HZ.out ?ht ?hs ?h1 ?_; (case hg => rfl); (case hn => rfl); (case ho => rfl); (case hp => rfl); (case hx => rfl); (case hu => rfl); (case ht => kernel_rfl); (case hs => rfl); (case h1 => exact tokC_one t); intro w3 hlit hg; have HBW := Aside0.mk (below_then HB1.out HB1.out.size (HB2.out.grown hg HB2.out.size (fun q hq => by injection hq with hq; rw [← hq, HGT.out]; exact Nat.le_refl _))); have h0 : w3.cell? ⟨gt, 0, none⟩ = some (.int .i64 t.f0) := (blk_cell hlit 0).trans rfl; have h1 : w3.cell? ⟨gt, 1, none⟩ = some (.string t.f1) := (blk_cell hlit 1).trans rfl; have h2 : w3.cell? ⟨gt, 2, none⟩ = some (.int .i64 t.f2) := (blk_cell hlit 2).trans rfl; have h3 : w3.cell? ⟨b, 3, none⟩ = some (.int .i64 s.e) := (blk_cell (below_read HBW.out HR.out.blk) 3).trans rfl; clear hlit hg))
          go_ret
          exact ⟨rfl, HBW.out⟩
        · have d3 := decide_eq_false hk
          have b3 : (t.f1.toList == x.toList) = false := beq_eq_false_iff_ne.mpr (fun e => hk (str_inj e))
          clear hk
          have hv : isB = false := by rw [hB, d0, d1, d2, d3]; rfl
          rw [hv]
          clear hv hB
          go_enter Tryd.func48, Tryd.ntmps48
          go_wp2_with fail
          refine HT.out.mono ?_
          rintro q w1 ⟨rfl, hb⟩
          have HB1 := Aside0.mk hb
          clear hb
          go_wp2_with (first | ((with_reducible refine gate_dst (N := 5) rfl ?_); refine box_event ?hg (N := 5) ?hd (cs := #[.int .i64 0, .string ⟨#[]⟩, .int .i64 0, .int .i64 0]) (t := 86) ?hr ?_; (case hd => rfl); (case hg => rfl); (case hr => first | (go_simp; done) | (go_simp; rfl)); intro gt hgg w2 hlit hb; have HZ := Aside0.mk hlit; have HB2 := Aside0.mk hb; have HGT := Aside0.mk hgg; clear hlit hb hgg) | ((with_reducible refine gate_store (t := 86) (p := 5) rfl ?_); refine put_val ?hg ?hn 86 (.tmp 5) (.tmp 7) ?ho gt 86 _ (#[.int .i64 t.f0, .string t.f1, .int .i64 t.f2, .int .i64 t.f3]) (.agg (#[.int .i64 t.f0, .string t.f1, .int .i64 t.f2, .int .i64 t.f3])) ?hp ?hx ?hu HZ.out ?ht ?hs ?h1 ?_; (case hg => rfl); (case hn => rfl); (case ho => rfl); (case hp => rfl); (case hx => rfl); (case hu => rfl); (case ht => kernel_rfl); (case hs => rfl); (case h1 => exact tokC_one t); intro w3 hlit hg; have HBW := Aside0.mk (below_then HB1.out HB1.out.size (HB2.out.grown hg HB2.out.size (fun q hq => by injection hq with hq; rw [← hq, HGT.out]; exact Nat.le_refl _))); have h0 : w3.cell? ⟨gt, 0, none⟩ = some (.int .i64 t.f0) := (blk_cell hlit 0).trans rfl; have h1 : w3.cell? ⟨gt, 1, none⟩ = some (.string t.f1) := (blk_cell hlit 1).trans rfl; have h2 : w3.cell? ⟨gt, 2, none⟩ = some (.int .i64 t.f2) := (blk_cell hlit 2).trans rfl; have h3 : w3.cell? ⟨b, 3, none⟩ = some (.int .i64 s.e) := (blk_cell (below_read HBW.out HR.out.blk) 3).trans rfl; clear hlit hg))
          go_ret
          exact ⟨rfl, HBW.out⟩
      · have d2 := decide_eq_false hk
        have b2 : (t.f0 != 1) = false := (by simp only [ne_eq, Classical.not_not] at hk; exact bne_eq_false_iff_eq.mpr hk)
        clear hk
        have hv : isB = false := by rw [hB, d0, d1, d2]; rfl
        rw [hv]
        clear hv hB
        go_enter Tryd.func48, Tryd.ntmps48
        go_wp2_with fail
        refine HT.out.mono ?_
        rintro q w1 ⟨rfl, hb⟩
        have HB1 := Aside0.mk hb
        clear hb
        go_wp2_with (first | ((with_reducible refine gate_dst (N := 5) rfl ?_); refine box_event ?hg (N := 5) ?hd (cs := #[.int .i64 0, .string ⟨#[]⟩, .int .i64 0, .int .i64 0]) (t := 86) ?hr ?_; (case hd => rfl); (case hg => rfl); (case hr => first | (go_simp; done) | (go_simp; rfl)); intro gt hgg w2 hlit hb; have HZ := Aside0.mk hlit; have HB2 := Aside0.mk hb; have HGT := Aside0.mk hgg; clear hlit hb hgg) | ((with_reducible refine gate_store (t := 86) (p := 5) rfl ?_); refine put_val ?hg ?hn 86 (.tmp 5) (.tmp 7) ?ho gt 86 _ (#[.int .i64 t.f0, .string t.f1, .int .i64 t.f2, .int .i64 t.f3]) (.agg (#[.int .i64 t.f0, .string t.f1, .int .i64 t.f2, .int .i64 t.f3])) ?hp ?hx ?hu HZ.out ?ht ?hs ?h1 ?_; (case hg => rfl); (case hn => rfl); (case ho => rfl); (case hp => rfl); (case hx => rfl); (case hu => rfl); (case ht => kernel_rfl); (case hs => rfl); (case h1 => exact tokC_one t); intro w3 hlit hg; have HBW := Aside0.mk (below_then HB1.out HB1.out.size (HB2.out.grown hg HB2.out.size (fun q hq => by injection hq with hq; rw [← hq, HGT.out]; exact Nat.le_refl _))); have h0 : w3.cell? ⟨gt, 0, none⟩ = some (.int .i64 t.f0) := (blk_cell hlit 0).trans rfl; have h1 : w3.cell? ⟨gt, 1, none⟩ = some (.string t.f1) := (blk_cell hlit 1).trans rfl; have h2 : w3.cell? ⟨gt, 2, none⟩ = some (.int .i64 t.f2) := (blk_cell hlit 2).trans rfl; have h3 : w3.cell? ⟨b, 3, none⟩ = some (.int .i64 s.e) := (blk_cell (below_read HBW.out HR.out.blk) 3).trans rfl; clear hlit hg))
        go_ret
        exact ⟨rfl, HBW.out⟩
    · have d1 := decide_eq_false hk
      have b1 : (t.f0 != 0) = false := (by simp only [ne_eq, Classical.not_not] at hk; exact bne_eq_false_iff_eq.mpr hk)
      clear hk
      have hv : isB = false := by rw [hB, d0, d1]; rfl
      rw [hv]
      clear hv hB
      go_enter Tryd.func48, Tryd.ntmps48
      go_wp2_with fail
      refine HT.out.mono ?_
      rintro q w1 ⟨rfl, hb⟩
      have HB1 := Aside0.mk hb
      clear hb
      go_wp2_with (first | ((with_reducible refine gate_dst (N := 5) rfl ?_); refine box_event ?hg (N := 5) ?hd (cs := #[.int .i64 0, .string ⟨#[]⟩, .int .i64 0, .int .i64 0]) (t := 86) ?hr ?_; (case hd => rfl); (case hg => rfl); (case hr => first | (go_simp; done) | (go_simp; rfl)); intro gt hgg w2 hlit hb; have HZ := Aside0.mk hlit; have HB2 := Aside0.mk hb; have HGT := Aside0.mk hgg; clear hlit hb hgg) | ((with_reducible refine gate_store (t := 86) (p := 5) rfl ?_); refine put_val ?hg ?hn 86 (.tmp 5) (.tmp 7) ?ho gt 86 _ (#[.int .i64 t.f0, .string t.f1, .int .i64 t.f2, .int .i64 t.f3]) (.agg (#[.int .i64 t.f0, .string t.f1, .int .i64 t.f2, .int .i64 t.f3])) ?hp ?hx ?hu HZ.out ?ht ?hs ?h1 ?_; (case hg => rfl); (case hn => rfl); (case ho => rfl); (case hp => rfl); (case hx => rfl); (case hu => rfl); (case ht => kernel_rfl); (case hs => rfl); (case h1 => exact tokC_one t); intro w3 hlit hg; have HBW := Aside0.mk (below_then HB1.out HB1.out.size (HB2.out.grown hg HB2.out.size (fun q hq => by injection hq with hq; rw [← hq, HGT.out]; exact Nat.le_refl _))); have h0 : w3.cell? ⟨gt, 0, none⟩ = some (.int .i64 t.f0) := (blk_cell hlit 0).trans rfl; have h1 : w3.cell? ⟨gt, 1, none⟩ = some (.string t.f1) := (blk_cell hlit 1).trans rfl; have h2 : w3.cell? ⟨gt, 2, none⟩ = some (.int .i64 t.f2) := (blk_cell hlit 2).trans rfl; have h3 : w3.cell? ⟨b, 3, none⟩ = some (.int .i64 s.e) := (blk_cell (below_read HBW.out HR.out.blk) 3).trans rfl; clear hlit hg))
      go_ret
      exact ⟨rfl, HBW.out⟩
  · have d0 := decide_eq_false hk
    have b0 : (s.e == 0) = false := beq_eq_false_iff_ne.mpr hk
    clear hk
    have hv : isB = false := by rw [hB, d0]; rfl
    rw [hv]
    clear hv hB
    go_enter Tryd.func48, Tryd.ntmps48
    go_wp2_with fail
    refine HT.out.mono ?_
    rintro q w1 ⟨rfl, hb⟩
    have HB1 := Aside0.mk hb
    clear hb
    go_wp2_with (first | ((with_reducible refine gate_dst (N := 5) rfl ?_); refine box_event ?hg (N := 5) ?hd (cs := #[.int .i64 0, .string ⟨#[]⟩, .int .i64 0, .int .i64 0]) (t := 86) ?hr ?_; (case hd => rfl); (case hg => rfl); (case hr => first | (go_simp; done) | (go_simp; rfl)); intro gt hgg w2 hlit hb; have HZ := Aside0.mk hlit; have HB2 := Aside0.mk hb; have HGT := Aside0.mk hgg; clear hlit hb hgg) | ((with_reducible refine gate_store (t := 86) (p := 5) rfl ?_); refine put_val ?hg ?hn 86 (.tmp 5) (.tmp 7) ?ho gt 86 _ (#[.int .i64 t.f0, .string t.f1, .int .i64 t.f2, .int .i64 t.f3]) (.agg (#[.int .i64 t.f0, .string t.f1, .int .i64 t.f2, .int .i64 t.f3])) ?hp ?hx ?hu HZ.out ?ht ?hs ?h1 ?_; (case hg => rfl); (case hn => rfl); (case ho => rfl); (case hp => rfl); (case hx => rfl); (case hu => rfl); (case ht => kernel_rfl); (case hs => rfl); (case h1 => exact tokC_one t); intro w3 hlit hg; have HBW := Aside0.mk (below_then HB1.out HB1.out.size (HB2.out.grown hg HB2.out.size (fun q hq => by injection hq with hq; rw [← hq, HGT.out]; exact Nat.le_refl _))); have h0 : w3.cell? ⟨gt, 0, none⟩ = some (.int .i64 t.f0) := (blk_cell hlit 0).trans rfl; have h1 : w3.cell? ⟨gt, 1, none⟩ = some (.string t.f1) := (blk_cell hlit 1).trans rfl; have h2 : w3.cell? ⟨gt, 2, none⟩ = some (.int .i64 t.f2) := (blk_cell hlit 2).trans rfl; have h3 : w3.cell? ⟨b, 3, none⟩ = some (.int .i64 s.e) := (blk_cell (below_read HBW.out HR.out.blk) 3).trans rfl; clear hlit hg))
    go_ret
    exact ⟨rfl, HBW.out⟩
set_option maxHeartbeats 8000000 in
set_option maxRecDepth 100000 in
theorem take_calls (w0 : World) (A : Option Addr) (c : Nat) (ts : List S86) (en : Int) (b : Nat) (hX : Ctx w0 A c ts b) (s : Rs) (x : ByteArray) (w : World) (h : Rd w0 A c ts en b s w) :
    Calls Tryd.prog 49 #[.pointer (some ⟨b, 0, none⟩), .string x] w fun q w' => q = .returned (.bool (isS ts en s x)) ∧ Rd w0 A c ts en b (takeS ts en s x) w' ∧ w.grownBy w' (some b) := by
  have HX := Aside0.mk hX
  have HR := Aside0.mk h
  have hml : ts.length ≤ 9223372036854775807 := hX.row.2.1
  have HI := Aside0.mk (is_calls w0 A c ts en b hX s x w h)
  unfold takeS
  by_cases hB : isS ts en s x = true
  · have hin := isS_in hB
    rw [hB] at HI ⊢
    rw [if_pos rfl]
    clear hX h hB
    go_enter Tryd.func49, Tryd.ntmps49
    go_wp2_with fail
    refine HI.out.mono ?_
    rintro q w1 ⟨rfl, hb⟩
    have HB1 := Aside0.mk hb
    clear hb
    have hblk : w1.heap[b]? = some (.cells (rdC A c ts en s) 79 (0, 0)) := below_read HB1.out HR.out.blk
    have n1 : w1.cell? ⟨b, 1, none⟩ = some (.int .i64 s.at_) := (blk_cell hblk 1).trans rfl
    have m1 : w1.frozen? ⟨b, 1, none⟩ = false := blk_frozen hblk 1
    have HG := Aside0.mk (grow_trans (grown_of_below HB1.out (some b)) (grow_set w1 b 1 (.int .i64 ((s.at_ : Int) + 1))))
    have HF := Aside0.mk (show Rd w0 A c ts en b (stepS s) (w1.setCell ⟨b, 1, none⟩ (.int .i64 ((s.at_ : Int) + 1))) from ⟨(blk_set hblk 1 (.int .i64 ((s.at_ : Int) + 1))).trans rfl, HX.out.old_of HR.out.old HG.out, hin⟩)
    clear hblk
    go_wp2_with fail
    go_ret
    exact ⟨rfl, HF.out, HG.out⟩
  · have hB := Bool.eq_false_iff.2 hB
    rw [hB] at HI ⊢
    rw [if_neg (by decide)]
    clear hX h hB
    go_enter Tryd.func49, Tryd.ntmps49
    go_wp2_with fail
    refine HI.out.mono ?_
    rintro q w1 ⟨rfl, hb⟩
    have HB1 := Aside0.mk hb
    clear hb
    go_wp2_with fail
    go_ret
    exact ⟨rfl, HR.out.on HB1.out, grown_of_below HB1.out _⟩
set_option maxHeartbeats 8000000 in
set_option maxRecDepth 100000 in
theorem need_calls (w0 : World) (A : Option Addr) (c : Nat) (ts : List S86) (en : Int) (b : Nat) (hX : Ctx w0 A c ts b) (s : Rs) (x : ByteArray) (w : World) (h : Rd w0 A c ts en b s w) :
    Calls Tryd.prog 33 #[.pointer (some ⟨b, 0, none⟩), .string x] w fun q w' => q = .returned (.tuple #[]) ∧ Rd w0 A c ts en b (needS ts en s x) w' ∧ w.grownBy w' (some b) := by
  have HX := Aside0.mk hX
  have HT := Aside0.mk (take_calls w0 A c ts en b hX s x w h)
  unfold takeS at HT
  unfold needS
  by_cases hB : isS ts en s x = true
  · rw [hB, if_pos rfl] at HT
    rw [if_pos hB]
    clear h hB
    go_enter Tryd.func33, Tryd.ntmps33
    go_wp2_with fail
    refine HT.out.mono ?_
    rintro q w1 ⟨rfl, hr, hg⟩
    have HR1 := Aside0.mk hr
    have HG1 := Aside0.mk hg
    clear hr hg
    go_wp2_with fail
    go_end0
    exact ⟨rfl, HR1.out, HG1.out⟩
  · rw [if_neg hB]
    have hB := Bool.eq_false_iff.2 hB
    rw [hB, if_neg (by decide)] at HT
    clear h hB
    go_enter Tryd.func33, Tryd.ntmps33
    go_wp2_with fail
    refine HT.out.mono ?_
    rintro q w1 ⟨rfl, hr, hg⟩
    have HG1 := Aside0.mk hg
    have HF := Aside0.mk (fail_calls w0 A c ts en b HX.out s 2 w1 hr)
    clear hr hg
    go_wp2_with fail
    refine HF.out.mono ?_
    rintro q w2 ⟨rfl, hr, hg⟩
    have HR2 := Aside0.mk hr
    have HG2 := Aside0.mk (grow_trans HG1.out hg)
    clear hr hg
    go_wp2_with fail
    go_end0
    exact ⟨rfl, HR2.out, HG2.out⟩
end Go.Proofs.YtfeaekdhpkdljaaDoor.Rd
