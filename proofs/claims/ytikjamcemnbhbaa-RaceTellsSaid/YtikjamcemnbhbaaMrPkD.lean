/- race.touched, meet, Pairs, Racing. -/
import Derived.Test.YtikjamcemnbhbaaMrF74
import Derived.Test.YtikjamcemnbhbaaMrPkC
namespace Go.Proofs.Ytikjamcemnbhbaa.Mr
open Go.RowKit Go.Proofs.YtikjamcemnbhbaaW.PrintWords Go.Proofs.YtikjamcemnbhbaaW.PrintLast
set_option linter.unusedVariables false
set_option linter.unusedSimpArgs false
section
theorem index_ok : ∀ (d : Nat) (l : List Int) (x : Int) (i k : Nat), l.length - i = d → i ≤ l.length → l.length ≤ 1000 → d < k → ∃ n : Int, slices_Index_int_int.l0 k l x (l.length : Int) (i : Int) = some n ∧ decide (n ≥ 0) = (l.drop i).contains x := by
  intro d
  induction d with
  | zero =>
    intro l x i k hd hi hl hk
    obtain ⟨k, rfl⟩ : ∃ m, k = m + 1 := ⟨k - 1, by omega⟩
    refine ⟨-1, ?_, ?_⟩
    · simp only [slices_Index_int_int.l0]
      rw [if_neg (by omega)]
    · rw [List.drop_eq_nil_of_le (by omega)]
      simp
  | succ d ih =>
    intro l x i k hd hi hl hk
    obtain ⟨k, rfl⟩ : ∃ m, k = m + 1 := ⟨k - 1, by omega⟩
    have hlt : i < l.length := by omega
    have hr : rd l (i : Int) = l[i] := by simp [rd, hlt]
    have hd' : l.drop i = l[i] :: l.drop (i + 1) := List.drop_eq_getElem_cons hlt
    simp only [slices_Index_int_int.l0]
    rw [if_pos (by omega), if_pos (by omega), if_pos (by omega), hr]
    by_cases e : x = l[i]
    · rw [if_pos e]
      refine ⟨i, rfl, ?_⟩
      rw [hd', ← e]
      simp
    · rw [if_neg e]
      have hw : wrap64 ((i : Int) + 1) = ((i + 1 : Nat) : Int) := by unfold wrap64; omega
      rw [hw]
      obtain ⟨n, h1, h2⟩ := ih l x (i + 1) k (by omega) (by omega) hl (by omega)
      refine ⟨n, h1, ?_⟩
      rw [h2, hd', List.contains_cons]
      have : (x == l[i]) = false := by simpa using e
      rw [this, Bool.false_or]
theorem isAny_calls (w : World) (x : Int) (A : Option Addr) (c : Nat) (l : List Int) (hC : Kd.C (Kd.int .i64) w A l.length l) (hc : l.length ≤ c) (hl : l.length ≤ 1000) {b : Bool} (hb : l.contains x = b) :
    Calls Try.prog 74 #[.int .i64 x, .slice A l.length c] w fun e w' => e = .returned (.bool b) ∧ Below w.heap.size w w' := by
  obtain ⟨n, h1, h2⟩ := index_ok l.length l x 0 (l.length + 1) (by omega) (by omega) hl (by omega)
  refine (race_isAny.calls (l.length + 1) x A c l b w hC hc ?_).mono fun e w' h => ⟨h.1, h.2.below⟩
  have e1 : slices_Index_int_int.f (l.length + 1) l x = some n := h1
  unfold race_isAny.f slices_Contains_int_int.f
  rw [e1]
  simp only [Option.bind_some]
  rw [h2, List.drop_zero, hb]
section
variable {P : Program} {ops : Array Oper} {o : Oper} {a : Act} {Q : Exit → Act → World → Prop} {K : Act → World → Prop}
theorem put_step {W : World} (hw : Region.wanted o (yielded ops a.tmps) = true) (hN : o.dst = none) (t : TypeId) (p x : Operand) (ho : o.op = .store t p x) (g : Nat) (e : TypeId) (cur seg : Array Value)
    (hp : a.eval p = .pointer (some ⟨g, 0, none⟩)) (hx : a.eval x = .agg seg) (hu : (Value.agg seg).cells = seg) (hh : W.heap[g]? = some (.cells cur e (0, 0))) (ht : (P.info? t).map (·.size) = some seg.size)
    (hs : seg.size = cur.size) (h1 : ∀ q ∈ seg.toList, q.oneCell' = true)
    (h : ∀ w', w'.heap[g]? = some (.cells seg e (0, 0)) → W.grownBy w' (some g) → K a w') : if Region.wanted o (yielded ops a.tmps) = true then Oper.wp P o a W K Q else K (a.put none undef) W := by
  have hrun : (Instr.storeAt t (.pointer (some ⟨g, 0, none⟩)) (.agg seg)).run P W = .ok () (W.setCells g 0 seg.toList) :=
    run_store_run t (.agg seg) seg.toList hh (by rw [hu]) (by rw [Array.length_toList]; exact ht) (by rw [Array.length_toList]; omega) h1
  refine skip_ (w1 := W.setCells g 0 seg.toList) hw hN ?_ (h _ ?_ ?_)
  · unfold execOp
    simp only [ho, hp, hx, Sem.run_bind, Sem.run_pure, Result.andThen_ok, hrun]
  · obtain ⟨cur', h3, h4, h5⟩ := setCells_row seg.toList 0 W cur hh (by rw [Array.length_toList]; omega)
    rw [h3]
    have : cur' = seg := by
      apply Array.toList_inj.1
      rw [h5]
      simp only [List.take_zero, List.nil_append, Nat.zero_add, Array.length_toList]
      rw [List.drop_eq_nil_of_le (by rw [Array.length_toList]; omega), List.append_nil]
    rw [this]
  · obtain ⟨s1, s2, s3, s4⟩ := setCells_same g seg.toList 0 W
    exact ⟨s1, s2, s3, by rw [s4]; exact Nat.le_refl _, fun k _ hk => setCells_far seg.toList 0 k (fun e => hk (by rw [e]))⟩
end
section
variable {P : Program} {ops : Array Oper} {rest : List Oper} {o : Oper} {a : Act} {Q : Exit → Act → World → Prop}
theorem lit_ev2 {W : World} {n : Nat} (hgd : o.guard = none) {N : Tmp} (_hd : o.dst = some N) {cs : Array Value} {t : TypeId}
    (hrun : (execOp a.eval o).run P W = .ok (.value (.slice (some ⟨W.heap.size, 0, none⟩) n n)) (W.alloc (.cells cs t (0, 0))))
    (h : ∀ g, g = W.heap.size → ∀ w1, w1.heap[g]? = some (.cells cs t (0, 0)) → Below W.heap.size W w1 → wpList P ops Q rest (a.put o.dst (.slice (some ⟨g, 0, none⟩) n n)) w1) : wpList P ops Q (o :: rest) a W :=
  Kd.event_run hgd hrun (h _ rfl _ (blk_new W _) (below_alloc (Below.refl _ _) _))
end
/-- What a thread would touch: an array's element?, which, the index, is it written. -/
structure Tch where
  arr : Bool
  g : Int
  ix : Int
  wr : Bool
def tchA (s : St) (i : Int) (a : S33) : Option Tch :=
  if a.f0 = 5 then some ⟨false, a.f4, 0, false⟩ else if a.f0 = 6 then some ⟨false, a.f4, 0, true⟩
  else if a.f0 = 7 then some ⟨true, a.f4, rd (s.row (4 + 2 * i.toNat)) a.f2, false⟩ else if a.f0 = 8 then some ⟨true, a.f4, rd (s.row (4 + 2 * i.toNat)) a.f2, true⟩ else none
def tchP (cs : List S49) (s : St) (i : Int) : Option Tch :=
  match nxt cs s i with
  | none => none
  | some a => tchA s i a
def tchV : Option Tch → Value
  | none => .tuple #[.agg #[.bool false, .int .i64 0, .int .i64 0, .bool false], .bool false]
  | some t => .tuple #[.agg #[.bool t.arr, .int .i64 t.g, .int .i64 t.ix, .bool t.wr], .bool true]
theorem t109_one (a d : Bool) (b c : Int) : ∀ q ∈ (#[.bool a, .int .i64 b, .int .i64 c, .bool d] : Array Value).toList, q.oneCell' = true := by
  intro q hq
  simp at hq
  rcases hq with rfl | rfl | rfl | rfl <;> rfl
theorem put_below2 {w6 w7 w8 : World} {g : Nat} (hb : Below w6.heap.size w6 w7) (hg : g = w6.heap.size) (h : w7.grownBy w8 (some g)) : Below w6.heap.size w6 w8 :=
  hb.grown h hb.size (fun q hq => by injection hq with hq; omega)
theorem Live.nextS {L R : Nat} {w : World} {ph : Ph} {cs : List S49} {nA : Nat} {s : St} (H : Live L R w ph cs nA s) (i : Int) {a : S33} (hn : nxt cs s i = some a) :
    Calls Try.prog 20 #[.pointer (some ⟨ph.bm, 0, none⟩), .int .i64 i] w fun e w' => e = .returned (.tuple #[.agg #[.int .i64 a.f0, .int .i64 a.f1, .int .i64 a.f2, .int .i64 a.f3, .int .i64 a.f4, .int .i64 a.f5, .int .i64 a.f6, .int .i64 a.f7, .int .i64 a.f8], .bool true]) ∧ Below w.heap.size w w' := by
  have h := H.next i
  rw [hn] at h
  exact h
set_option maxHeartbeats 16000000 in
set_option maxRecDepth 100000 in
theorem touched_no (w : World) {L R : Nat} {ph : Ph} {cs : List S49} {nA : Nat} {s : St} (H : Live L R w ph cs nA s) (i : Int) (a : S33) (hn : nxt cs s i = some a) (vs : List Int) (hv : varsOf cs s i = vs) (hvl : vs.length ≤ 1000) (hB : ([5, 6, 7, 8] : List Int).contains a.f0 = false) :
    Calls Try.prog 67 #[.pointer (some ⟨ph.bm, 0, none⟩), .int .i64 i] w fun e w' => e = .returned (tchV none) ∧ Below w.heap.size w w' := by
  have H0 := Aside0.mk H
  have HNX := Aside0.mk hn
  have HV := Aside0.mk hv
  have HVL := Aside0.mk hvl
  have HB := Aside0.mk hB
  clear H hn hv hvl hB
  go_enter Try.func67, Try.ntmps67
  go_wp2_with (first | ((with_reducible refine gate_dst (N := 4) rfl ?_); refine box_event ?hg (N := 4) ?hd (cs := #[.bool false, .int .i64 0, .int .i64 0, .bool false]) (t := 109) ?hr ?_; (case hd => rfl); (case hg => rfl); (case hr => first | (go_simp; done) | (go_simp; rfl)); intro g4 hgg w1 hlit hb; have HLw1 := Aside0.mk hlit; have HKw1 := Aside0.mk hb; have HGw1 := Aside0.mk hgg; skip; clear hlit hb hgg) | (go_at_call 20; (with_reducible refine ((H0.out.below HKw1.out).nextS i HNX.out).mono ?_); rintro e w2 ⟨rfl, hb⟩; have HK2 := Aside0.mk (below_on HKw1.out hb); have HL2 := Aside0.mk (below_read hb HLw1.out); clear hb) | ((with_reducible refine gate_dst (N := 6) rfl ?_); refine box_event ?hg (N := 6) ?hd (cs := #[.int .i64 0, .int .i64 0, .int .i64 0, .int .i64 0, .int .i64 0, .int .i64 0, .int .i64 0, .int .i64 0, .int .i64 0]) (t := 33) ?hr ?_; (case hd => rfl); (case hg => rfl); (case hr => first | (go_simp; done) | (go_simp; rfl)); intro g6 hgg w3 hlit hb; have HLw3 := Aside0.mk hlit; have HKw3 := Aside0.mk hb; have HGw3 := Aside0.mk hgg; have HL3 := Aside0.mk (below_read hb HL2.out); clear hlit hb hgg) | ((with_reducible refine gate_store (t := 33) (p := 6) rfl ?_); refine put_row ?hg ?hn 33 (.tmp 6) (.tmp 13) ?ho g6 33 _ (#[.int .i64 a.f0, .int .i64 a.f1, .int .i64 a.f2, .int .i64 a.f3, .int .i64 a.f4, .int .i64 a.f5, .int .i64 a.f6, .int .i64 a.f7, .int .i64 a.f8]) ?hp ?hx ?hu HLw3.out ?ht ?hs ?h1 ?_; (case hg => rfl); (case hn => rfl); (case ho => rfl); (case hp => rfl); (case hx => rfl); (case hu => rfl); (case ht => kernel_rfl); (case hs => rfl); (case h1 => exact actC_one a); intro w4 hlit hg; have HLw4 := Aside0.mk hlit; have hy0 : w4.cell? ⟨g6, 0, none⟩ = some (.int .i64 a.f0) := (blk_cell hlit 0).trans rfl; have hy2 : w4.cell? ⟨g6, 2, none⟩ = some (.int .i64 a.f2) := (blk_cell hlit 2).trans rfl; have hy4 : w4.cell? ⟨g6, 4, none⟩ = some (.int .i64 a.f4) := (blk_cell hlit 4).trans rfl; have HK4 := Aside0.mk (below_on HK2.out (put_below2 HKw3.out HGw3.out hg)); have HL4 := Aside0.mk (blk_keep HL3.out hg (fun e => by injection e with e; subst e; have h1 := HLw3.out; rw [HL3.out] at h1; injection h1 with h1; injection h1 with _ h1 _; exact absurd h1 (by decide))); clear hlit hg) | ((with_reducible refine gate_dst (N := 20) rfl ?_); refine gate_guard (by rfl) ?_; refine lit_ev2 (n := 4) ?hg (N := 20) ?hd (cs := #[.int .i64 5, .int .i64 6, .int .i64 7, .int .i64 8]) (t := 3) ?hr ?_; (case hd => rfl); (case hg => rfl); (case hr => first | (go_simp; done) | (go_simp; rfl)); intro g20 hgg w5 hlit hb; have HLw5 := Aside0.mk hlit; have HKw5 := Aside0.mk hb; have HGw5 := Aside0.mk hgg; replace hy0 := pw_cell_below hb hy0; replace hy2 := pw_cell_below hb hy2; replace hy4 := pw_cell_below hb hy4; have HK5 := Aside0.mk (below_on HK4.out hb); have HL5 := Aside0.mk (below_read hb HL4.out); have HA5 := Aside0.mk (below_read hb HLw4.out); have HCL := Aside0.mk (C_lit w5 g20 [5, 6, 7, 8] hlit); clear hlit hb hgg) | (go_at_call 74; (refine (isAny_calls w5 a.f0 (some ⟨g20, 0, none⟩) 4 [5, 6, 7, 8] HCL.out (by decide) (by decide) (b := false) HB.out).mono ?_); rintro e w6 ⟨rfl, hb⟩; replace hy0 := pw_cell_below hb hy0; replace hy2 := pw_cell_below hb hy2; replace hy4 := pw_cell_below hb hy4; have HK6 := Aside0.mk (below_on HK5.out hb); have HL6 := Aside0.mk (below_read hb HL5.out); clear hb) | ((with_reducible refine gate_store (t := 109) (p := 4) rfl ?_); refine put_row ?hg ?hn 109 (.tmp 4) (.tmp 24) ?ho g4 109 _ (#[.bool false, .int .i64 0, .int .i64 0, .bool false]) ?hp ?hx ?hu HL6.out ?ht ?hs ?h1 ?_; (case hg => rfl); (case hn => rfl); (case ho => rfl); (case hp => rfl); (case hx => rfl); (case hu => rfl); (case ht => kernel_rfl); (case hs => rfl); (case h1 => exact t109_one _ _ _ _); intro w7 hlit hg; have HLw7 := Aside0.mk hlit; have HK7 := Aside0.mk (HK6.out.grown hg HK6.out.size (fun q hq => by injection hq with hq; rw [← hq, HGw1.out]; exact Nat.le_refl _)); clear hlit hg))
  refine bodyPost_ret (results_ct rfl _ _ g4 109 _ (0, 0) _ rfl HLw7.out Try.underlying109 rfl (by kernel_rfl)) rfl ?_
  exact ⟨rfl, HK7.out⟩
set_option maxHeartbeats 16000000 in
set_option maxRecDepth 100000 in
theorem touched_hit (w : World) {L R : Nat} {ph : Ph} {cs : List S49} {nA : Nat} {s : St} (H : Live L R w ph cs nA s) (i : Int) (a : S33) (hn : nxt cs s i = some a) (vs : List Int) (hv : varsOf cs s i = vs) (hvl : vs.length ≤ 1000) (hB : ([5, 6, 7, 8] : List Int).contains a.f0 = true) (ba bw : Bool) (hA : ([7, 8] : List Int).contains a.f0 = ba) (hW : ([6, 8] : List Int).contains a.f0 = bw) (hx : ba = true → 0 ≤ a.f2 ∧ a.f2 < vs.length) :
    Calls Try.prog 67 #[.pointer (some ⟨ph.bm, 0, none⟩), .int .i64 i] w fun e w' => e = .returned (tchV (some ⟨ba, a.f4, if ba then rd vs a.f2 else 0, bw⟩)) ∧ Below w.heap.size w w' := by
  have H0 := Aside0.mk H
  have HNX := Aside0.mk hn
  have HV := Aside0.mk hv
  have HVL := Aside0.mk hvl
  have HB := Aside0.mk hB
  have HBA := Aside0.mk hA
  have HBW := Aside0.mk hW
  have HXX := Aside0.mk hx
  clear H hn hv hvl hB hA hW hx
  go_enter Try.func67, Try.ntmps67
  go_wp2_with (first | ((with_reducible refine gate_dst (N := 4) rfl ?_); refine box_event ?hg (N := 4) ?hd (cs := #[.bool false, .int .i64 0, .int .i64 0, .bool false]) (t := 109) ?hr ?_; (case hd => rfl); (case hg => rfl); (case hr => first | (go_simp; done) | (go_simp; rfl)); intro g4 hgg w1 hlit hb; have HLw1 := Aside0.mk hlit; have HKw1 := Aside0.mk hb; have HGw1 := Aside0.mk hgg; skip; clear hlit hb hgg) | (go_at_call 20; (with_reducible refine ((H0.out.below HKw1.out).nextS i HNX.out).mono ?_); rintro e w2 ⟨rfl, hb⟩; have HK2 := Aside0.mk (below_on HKw1.out hb); have HL2 := Aside0.mk (below_read hb HLw1.out); clear hb) | ((with_reducible refine gate_dst (N := 6) rfl ?_); refine box_event ?hg (N := 6) ?hd (cs := #[.int .i64 0, .int .i64 0, .int .i64 0, .int .i64 0, .int .i64 0, .int .i64 0, .int .i64 0, .int .i64 0, .int .i64 0]) (t := 33) ?hr ?_; (case hd => rfl); (case hg => rfl); (case hr => first | (go_simp; done) | (go_simp; rfl)); intro g6 hgg w3 hlit hb; have HLw3 := Aside0.mk hlit; have HKw3 := Aside0.mk hb; have HGw3 := Aside0.mk hgg; have HL3 := Aside0.mk (below_read hb HL2.out); clear hlit hb hgg) | ((with_reducible refine gate_store (t := 33) (p := 6) rfl ?_); refine put_row ?hg ?hn 33 (.tmp 6) (.tmp 13) ?ho g6 33 _ (#[.int .i64 a.f0, .int .i64 a.f1, .int .i64 a.f2, .int .i64 a.f3, .int .i64 a.f4, .int .i64 a.f5, .int .i64 a.f6, .int .i64 a.f7, .int .i64 a.f8]) ?hp ?hx ?hu HLw3.out ?ht ?hs ?h1 ?_; (case hg => rfl); (case hn => rfl); (case ho => rfl); (case hp => rfl); (case hx => rfl); (case hu => rfl); (case ht => kernel_rfl); (case hs => rfl); (case h1 => exact actC_one a); intro w4 hlit hg; have HLw4 := Aside0.mk hlit; have hy0 : w4.cell? ⟨g6, 0, none⟩ = some (.int .i64 a.f0) := (blk_cell hlit 0).trans rfl; have hy2 : w4.cell? ⟨g6, 2, none⟩ = some (.int .i64 a.f2) := (blk_cell hlit 2).trans rfl; have hy4 : w4.cell? ⟨g6, 4, none⟩ = some (.int .i64 a.f4) := (blk_cell hlit 4).trans rfl; have HK4 := Aside0.mk (below_on HK2.out (put_below2 HKw3.out HGw3.out hg)); have HL4 := Aside0.mk (blk_keep HL3.out hg (fun e => by injection e with e; subst e; have h1 := HLw3.out; rw [HL3.out] at h1; injection h1 with h1; injection h1 with _ h1 _; exact absurd h1 (by decide))); clear hlit hg) | ((with_reducible refine gate_dst (N := 20) rfl ?_); refine gate_guard (by rfl) ?_; refine lit_ev2 (n := 4) ?hg (N := 20) ?hd (cs := #[.int .i64 5, .int .i64 6, .int .i64 7, .int .i64 8]) (t := 3) ?hr ?_; (case hd => rfl); (case hg => rfl); (case hr => first | (go_simp; done) | (go_simp; rfl)); intro g20 hgg w5 hlit hb; have HLw5 := Aside0.mk hlit; have HKw5 := Aside0.mk hb; have HGw5 := Aside0.mk hgg; replace hy0 := pw_cell_below hb hy0; replace hy2 := pw_cell_below hb hy2; replace hy4 := pw_cell_below hb hy4; have HK5 := Aside0.mk (below_on HK4.out hb); have HL5 := Aside0.mk (below_read hb HL4.out); have HA5 := Aside0.mk (below_read hb HLw4.out); have HCL := Aside0.mk (C_lit w5 g20 [5, 6, 7, 8] hlit); clear hlit hb hgg) | (go_at_call 74; (refine (isAny_calls w5 a.f0 (some ⟨g20, 0, none⟩) 4 [5, 6, 7, 8] HCL.out (by decide) (by decide) (b := true) HB.out).mono ?_); rintro e w6 ⟨rfl, hb⟩; replace hy0 := pw_cell_below hb hy0; replace hy2 := pw_cell_below hb hy2; replace hy4 := pw_cell_below hb hy4; have HK6 := Aside0.mk (below_on HK5.out hb); have HL6 := Aside0.mk (below_read hb HL5.out); clear hb))
  refine start_ (n := 13) (S := fun w' => w'.cell? ⟨g6, 0, none⟩ = some (.int .i64 a.f0) ∧ w'.cell? ⟨g6, 4, none⟩ = some (.int .i64 a.f4)) (ds := [12]) #[false, false, false, false, false, false, false, false, false, false, false, false, false] (by kernel_rfl) rfl rfl ⟨hy0, hy4⟩ (fun hHeld => ?_)
  refine pure_ (i := 0) (N := some 25) (v := ?_) (a' := ?_) #[true, false, false, false, false, false, false, false, false, false, false, false, false] rfl rfl (by kernel_rfl) (fun _ _ _ h => h) (Or.inl ⟨by rfl, ?_⟩) ?_ ?_
  rotate_left
  · intro w'
    go_simp
    with_reducible rfl
  rotate_left
  · simp only [Act.put, List.setIfInBounds_toArray, List.set_cons_zero, List.set_cons_succ, i64_w, i32_w]
    rfl
  refine pure_ (i := 4) (N := some 29) (v := ?_) (a' := ?_) #[true, false, false, false, true, false, false, false, false, false, false, false, false] rfl rfl (by kernel_rfl) (fun _ _ _ h => h) (Or.inl ⟨by rfl, ?_⟩) ?_ ?_
  rotate_left
  · intro w'
    go_simp
    with_reducible rfl
  rotate_left
  · simp only [Act.put, List.setIfInBounds_toArray, List.set_cons_zero, List.set_cons_succ, i64_w, i32_w]
    rfl
  refine pure_ (i := 6) (N := some 31) (v := ?_) (a' := ?_) #[true, false, false, false, true, false, true, false, false, false, false, false, false] rfl rfl (by kernel_rfl) (fun _ _ _ h => h) (Or.inl ⟨by rfl, ?_⟩) ?_ ?_
  rotate_left
  · intro w'
    go_simp
    with_reducible rfl
  rotate_left
  · simp only [Act.put, List.setIfInBounds_toArray, List.set_cons_zero, List.set_cons_succ, i64_w, i32_w]
    rfl
  refine take_ (i := 1) (N := some 26) (v := ?_) (a' := ?_) #[true, true, false, false, true, false, true, false, false, false, false, false, false] rfl rfl (by kernel_rfl) (fun _ _ _ h => h) (Or.inl ⟨by rfl, ?_⟩) hHeld ?_ ?_
  rotate_left
  · rintro w' ⟨s0, s1⟩
    go_simp
    with_reducible rfl
  rotate_left
  · simp only [Act.put, List.setIfInBounds_toArray, List.set_cons_zero, List.set_cons_succ, i64_w, i32_w]
    rfl
  refine take_ (i := 5) (N := some 30) (v := ?_) (a' := ?_) #[true, true, false, false, true, true, true, false, false, false, false, false, false] rfl rfl (by kernel_rfl) (fun _ _ _ h => h) (Or.inl ⟨by rfl, ?_⟩) hHeld ?_ ?_
  rotate_left
  · rintro w' ⟨s0, s1⟩
    go_simp
    with_reducible rfl
  rotate_left
  · simp only [Act.put, List.setIfInBounds_toArray, List.set_cons_zero, List.set_cons_succ, i64_w, i32_w]
    rfl
  refine take_ (i := 7) (N := some 32) (v := ?_) (a' := ?_) #[true, true, false, false, true, true, true, true, false, false, false, false, false] rfl rfl (by kernel_rfl) (fun _ _ _ h => h) (Or.inl ⟨by rfl, ?_⟩) hHeld ?_ ?_
  rotate_left
  · rintro w' ⟨s0, s1⟩
    go_simp
    with_reducible rfl
  rotate_left
  · simp only [Act.put, List.setIfInBounds_toArray, List.set_cons_zero, List.set_cons_succ, i64_w, i32_w]
    rfl
  refine join_ (σ := Nat × Nat × Nat) 1 #[true, true, true, true, true, true, true, true, true, true, true, true, false] (fun s => [(27, .slice (some ⟨s.1, 0, none⟩) 2 2), (28, .bool ba), (33, .slice (some ⟨s.2.1, 0, none⟩) 2 2), (34, .bool bw), (35, .agg #[.bool ba, .int .i64 a.f4, .int .i64 0, .bool bw]), (8, .pointer (some ⟨s.2.2, 0, none⟩))]) (fun s w' => Aside0 (Below w6.drew.heap.size w6.drew w') ∧ Aside0 (w'.heap[s.2.2]? = some (.cells #[.bool false, .int .i64 0, .int .i64 0, .bool false] 109 (0, 0))) ∧ w6.drew.heap.size ≤ s.2.2 ∧ (w'.cell? ⟨g6, 0, none⟩ = some (.int .i64 a.f0) ∧ w'.cell? ⟨g6, 4, none⟩ = some (.int .i64 a.f4))) ?_ ?_
  rotate_left
  · intro hCont
    refine three_ (i := 2) (j := 8) (k := 11) (Ni := some 27) (Nj := some 33) (Nk := some 8) #[true, true, true, false, true, true, true, true, false, false, false, false, false] #[true, true, false, false, true, true, true, true, true, false, false, false, false] #[true, true, false, false, true, true, true, true, false, false, false, true, false] rfl rfl rfl rfl rfl rfl (by kernel_rfl) (by decide) (by decide) (by decide) (fun K hK => ?_) (fun K hK => ?_) (fun K hK => ?_)
    · skip
      refine lit_step (n := 2) (by rfl) (N := 27) rfl (cs := #[.int .i64 7, .int .i64 8]) (t := 3) ?hr ?_
      case hr => first | (go_simp; done) | (go_simp; rfl)
      intro q2 v2 hlit hb
      have hl2 := Aside0.mk hlit
      have hb2 := Aside0.mk hb
      refine hK.out _ _ ⟨pw_cell_below hb hHeld.1, pw_cell_below hb hHeld.2⟩ (fun hHeld => ?_)
      clear hK K
      refine norm_ (a' := ?_) ?_ ?_
      rotate_left
      · show Act.put _ (some 27) _ = _
        simp only [Act.put, List.setIfInBounds_toArray, List.set_cons_zero, List.set_cons_succ, i64_w, i32_w]
        rfl
      refine three_ (i := 3) (j := 8) (k := 11) (Ni := some 28) (Nj := some 33) (Nk := some 8) #[true, true, true, true, true, true, true, true, false, false, false, false, false] #[true, true, true, false, true, true, true, true, true, false, false, false, false] #[true, true, true, false, true, true, true, true, false, false, false, true, false] rfl rfl rfl rfl rfl rfl (by kernel_rfl) (by decide) (by decide) (by decide) (fun K hK => ?_) (fun K hK => ?_) (fun K hK => ?_)
      · skip
        refine goes_ Try.func74 (by kernel_rfl) rfl #[.int .i64 a.f0, .slice (some ⟨q2, 0, none⟩) 2 2] (by rfl) rfl rfl (by simp only [List.map_toArray, List.map_cons, List.map_nil, Act.eval]; rfl) ?_
        refine (isAny_calls _ a.f0 (some ⟨q2, 0, none⟩) 2 [7, 8] (C_lit _ q2 [7, 8] hl2.out) (by decide) (by decide) (b := ba) HBA.out).mono ?_
        rintro e v3 ⟨rfl, hb⟩
        refine ⟨_, rfl, ?_⟩
        have hb3 := Aside0.mk hb
        refine hK.out _ _ ⟨pw_cell_below hb hHeld.1, pw_cell_below hb hHeld.2⟩ (fun hHeld => ?_)
        clear hK K
        refine norm_ (a' := ?_) ?_ ?_
        rotate_left
        · show Act.put _ (some 28) _ = _
          simp only [Act.put, List.setIfInBounds_toArray, List.set_cons_zero, List.set_cons_succ, i64_w, i32_w]
          rfl
        refine two_ (i := 8) (j := 11) (Ni := some 33) (Nj := some 8) #[true, true, true, true, true, true, true, true, true, false, false, false, false] #[true, true, true, true, true, true, true, true, false, false, false, true, false] rfl rfl rfl rfl (by kernel_rfl) (by decide) (by decide) (fun K hK => ?_) (fun K hK => ?_)
        · skip
          refine lit_step (n := 2) (by rfl) (N := 33) rfl (cs := #[.int .i64 6, .int .i64 8]) (t := 3) ?hr ?_
          case hr => first | (go_simp; done) | (go_simp; rfl)
          intro q8 v8 hlit hb
          have hl8 := Aside0.mk hlit
          have hb8 := Aside0.mk hb
          refine hK.out _ _ ⟨pw_cell_below hb hHeld.1, pw_cell_below hb hHeld.2⟩ (fun hHeld => ?_)
          clear hK K
          refine norm_ (a' := ?_) ?_ ?_
          rotate_left
          · show Act.put _ (some 33) _ = _
            simp only [Act.put, List.setIfInBounds_toArray, List.set_cons_zero, List.set_cons_succ, i64_w, i32_w]
            rfl
          refine two_ (i := 9) (j := 11) (Ni := some 34) (Nj := some 8) #[true, true, true, true, true, true, true, true, true, true, false, false, false] #[true, true, true, true, true, true, true, true, true, false, false, true, false] rfl rfl rfl rfl (by kernel_rfl) (by decide) (by decide) (fun K hK => ?_) (fun K hK => ?_)
          · skip
            refine goes_ Try.func74 (by kernel_rfl) rfl #[.int .i64 a.f0, .slice (some ⟨q8, 0, none⟩) 2 2] (by rfl) rfl rfl (by simp only [List.map_toArray, List.map_cons, List.map_nil, Act.eval]; rfl) ?_
            refine (isAny_calls _ a.f0 (some ⟨q8, 0, none⟩) 2 [6, 8] (C_lit _ q8 [6, 8] hl8.out) (by decide) (by decide) (b := bw) HBW.out).mono ?_
            rintro e v9 ⟨rfl, hb⟩
            refine ⟨_, rfl, ?_⟩
            have hb9 := Aside0.mk hb
            refine hK.out _ _ ⟨pw_cell_below hb hHeld.1, pw_cell_below hb hHeld.2⟩ (fun hHeld => ?_)
            clear hK K
            refine norm_ (a' := ?_) ?_ ?_
            rotate_left
            · show Act.put _ (some 34) _ = _
              simp only [Act.put, List.setIfInBounds_toArray, List.set_cons_zero, List.set_cons_succ, i64_w, i32_w]
              rfl
            refine pure_ (i := 10) (N := some 35) (v := ?_) (a' := ?_) #[true, true, true, true, true, true, true, true, true, true, true, false, false] rfl rfl (by kernel_rfl) (fun _ _ _ h => h) (Or.inl ⟨by rfl, ?_⟩) ?_ ?_
            rotate_left
            · intro w'
              go_simp
              with_reducible rfl
            rotate_left
            · simp only [Act.put, List.setIfInBounds_toArray, List.set_cons_zero, List.set_cons_succ, i64_w, i32_w]
              rfl
            refine one_ (i := 11) (N := some 8) #[true, true, true, true, true, true, true, true, true, true, true, true, false] rfl rfl (by kernel_rfl) (by decide) (fun K hK => ?_)
            refine box_step (by rfl) (N := 8) rfl (cs := #[.bool false, .int .i64 0, .int .i64 0, .bool false]) (t := 109) ?hr ?_
            case hr => first | (go_simp; done) | (go_simp; rfl)
            intro q11 hgq v11 hlit hb
            have hl11 := Aside0.mk hlit
            have hq11 := Aside0.mk hgq
            have hb11 := Aside0.mk hb
            refine hK.out _ _ ⟨pw_cell_below hb hHeld.1, pw_cell_below hb hHeld.2⟩ (fun hHeld => ?_)
            clear hK K
            refine norm_ (a' := ?_) ?_ ?_
            rotate_left
            · show Act.put _ (some 8) _ = _
              simp only [Act.put, List.setIfInBounds_toArray, List.set_cons_zero, List.set_cons_succ, i64_w, i32_w]
              rfl
            exact norm_ (by simp only [putAll, Act.put, List.setIfInBounds_toArray, List.set_cons_zero, List.set_cons_succ]) (hCont (q2, q8, q11) _ ⟨⟨(below_on (below_on (below_on (below_on hb2.out hb3.out) hb8.out) hb9.out) hb11.out)⟩, ⟨hl11.out⟩, (by rw [hq11.out]; exact (below_on (below_on (below_on hb2.out hb3.out) hb8.out) hb9.out).size), hHeld⟩)
          · skip
            refine box_step (by rfl) (N := 8) rfl (cs := #[.bool false, .int .i64 0, .int .i64 0, .bool false]) (t := 109) ?hr ?_
            case hr => first | (go_simp; done) | (go_simp; rfl)
            intro q11 hgq v11 hlit hb
            have hl11 := Aside0.mk hlit
            have hq11 := Aside0.mk hgq
            have hb11 := Aside0.mk hb
            refine hK.out _ _ ⟨pw_cell_below hb hHeld.1, pw_cell_below hb hHeld.2⟩ (fun hHeld => ?_)
            clear hK K
            refine norm_ (a' := ?_) ?_ ?_
            rotate_left
            · show Act.put _ (some 8) _ = _
              simp only [Act.put, List.setIfInBounds_toArray, List.set_cons_zero, List.set_cons_succ, i64_w, i32_w]
              rfl
            refine one_ (i := 9) (N := some 34) #[true, true, true, true, true, true, true, true, true, true, false, true, false] rfl rfl (by kernel_rfl) (by decide) (fun K hK => ?_)
            refine goes_ Try.func74 (by kernel_rfl) rfl #[.int .i64 a.f0, .slice (some ⟨q8, 0, none⟩) 2 2] (by rfl) rfl rfl (by simp only [List.map_toArray, List.map_cons, List.map_nil, Act.eval]; rfl) ?_
            refine (isAny_calls _ a.f0 (some ⟨q8, 0, none⟩) 2 [6, 8] (C_lit _ q8 [6, 8] (below_read hb11.out hl8.out)) (by decide) (by decide) (b := bw) HBW.out).mono ?_
            rintro e v9 ⟨rfl, hb⟩
            refine ⟨_, rfl, ?_⟩
            have hb9 := Aside0.mk hb
            refine hK.out _ _ ⟨pw_cell_below hb hHeld.1, pw_cell_below hb hHeld.2⟩ (fun hHeld => ?_)
            clear hK K
            refine norm_ (a' := ?_) ?_ ?_
            rotate_left
            · show Act.put _ (some 34) _ = _
              simp only [Act.put, List.setIfInBounds_toArray, List.set_cons_zero, List.set_cons_succ, i64_w, i32_w]
              rfl
            refine pure_ (i := 10) (N := some 35) (v := ?_) (a' := ?_) #[true, true, true, true, true, true, true, true, true, true, true, true, false] rfl rfl (by kernel_rfl) (fun _ _ _ h => h) (Or.inl ⟨by rfl, ?_⟩) ?_ ?_
            rotate_left
            · intro w'
              go_simp
              with_reducible rfl
            rotate_left
            · simp only [Act.put, List.setIfInBounds_toArray, List.set_cons_zero, List.set_cons_succ, i64_w, i32_w]
              rfl
            exact norm_ (by simp only [putAll, Act.put, List.setIfInBounds_toArray, List.set_cons_zero, List.set_cons_succ]) (hCont (q2, q8, q11) _ ⟨⟨(below_on (below_on (below_on (below_on hb2.out hb3.out) hb8.out) hb11.out) hb9.out)⟩, ⟨(below_read hb9.out hl11.out)⟩, (by rw [hq11.out]; exact (below_on (below_on hb2.out hb3.out) hb8.out).size), hHeld⟩)
        · skip
          refine box_step (by rfl) (N := 8) rfl (cs := #[.bool false, .int .i64 0, .int .i64 0, .bool false]) (t := 109) ?hr ?_
          case hr => first | (go_simp; done) | (go_simp; rfl)
          intro q11 hgq v11 hlit hb
          have hl11 := Aside0.mk hlit
          have hq11 := Aside0.mk hgq
          have hb11 := Aside0.mk hb
          refine hK.out _ _ ⟨pw_cell_below hb hHeld.1, pw_cell_below hb hHeld.2⟩ (fun hHeld => ?_)
          clear hK K
          refine norm_ (a' := ?_) ?_ ?_
          rotate_left
          · show Act.put _ (some 8) _ = _
            simp only [Act.put, List.setIfInBounds_toArray, List.set_cons_zero, List.set_cons_succ, i64_w, i32_w]
            rfl
          refine one_ (i := 8) (N := some 33) #[true, true, true, true, true, true, true, true, true, false, false, true, false] rfl rfl (by kernel_rfl) (by decide) (fun K hK => ?_)
          refine lit_step (n := 2) (by rfl) (N := 33) rfl (cs := #[.int .i64 6, .int .i64 8]) (t := 3) ?hr ?_
          case hr => first | (go_simp; done) | (go_simp; rfl)
          intro q8 v8 hlit hb
          have hl8 := Aside0.mk hlit
          have hb8 := Aside0.mk hb
          refine hK.out _ _ ⟨pw_cell_below hb hHeld.1, pw_cell_below hb hHeld.2⟩ (fun hHeld => ?_)
          clear hK K
          refine norm_ (a' := ?_) ?_ ?_
          rotate_left
          · show Act.put _ (some 33) _ = _
            simp only [Act.put, List.setIfInBounds_toArray, List.set_cons_zero, List.set_cons_succ, i64_w, i32_w]
            rfl
          refine one_ (i := 9) (N := some 34) #[true, true, true, true, true, true, true, true, true, true, false, true, false] rfl rfl (by kernel_rfl) (by decide) (fun K hK => ?_)
          refine goes_ Try.func74 (by kernel_rfl) rfl #[.int .i64 a.f0, .slice (some ⟨q8, 0, none⟩) 2 2] (by rfl) rfl rfl (by simp only [List.map_toArray, List.map_cons, List.map_nil, Act.eval]; rfl) ?_
          refine (isAny_calls _ a.f0 (some ⟨q8, 0, none⟩) 2 [6, 8] (C_lit _ q8 [6, 8] hl8.out) (by decide) (by decide) (b := bw) HBW.out).mono ?_
          rintro e v9 ⟨rfl, hb⟩
          refine ⟨_, rfl, ?_⟩
          have hb9 := Aside0.mk hb
          refine hK.out _ _ ⟨pw_cell_below hb hHeld.1, pw_cell_below hb hHeld.2⟩ (fun hHeld => ?_)
          clear hK K
          refine norm_ (a' := ?_) ?_ ?_
          rotate_left
          · show Act.put _ (some 34) _ = _
            simp only [Act.put, List.setIfInBounds_toArray, List.set_cons_zero, List.set_cons_succ, i64_w, i32_w]
            rfl
          refine pure_ (i := 10) (N := some 35) (v := ?_) (a' := ?_) #[true, true, true, true, true, true, true, true, true, true, true, true, false] rfl rfl (by kernel_rfl) (fun _ _ _ h => h) (Or.inl ⟨by rfl, ?_⟩) ?_ ?_
          rotate_left
          · intro w'
            go_simp
            with_reducible rfl
          rotate_left
          · simp only [Act.put, List.setIfInBounds_toArray, List.set_cons_zero, List.set_cons_succ, i64_w, i32_w]
            rfl
          exact norm_ (by simp only [putAll, Act.put, List.setIfInBounds_toArray, List.set_cons_zero, List.set_cons_succ]) (hCont (q2, q8, q11) _ ⟨⟨(below_on (below_on (below_on (below_on hb2.out hb3.out) hb11.out) hb8.out) hb9.out)⟩, ⟨(below_read hb9.out (below_read hb8.out hl11.out))⟩, (by rw [hq11.out]; exact (below_on hb2.out hb3.out).size), hHeld⟩)
      · skip
        refine lit_step (n := 2) (by rfl) (N := 33) rfl (cs := #[.int .i64 6, .int .i64 8]) (t := 3) ?hr ?_
        case hr => first | (go_simp; done) | (go_simp; rfl)
        intro q8 v8 hlit hb
        have hl8 := Aside0.mk hlit
        have hb8 := Aside0.mk hb
        refine hK.out _ _ ⟨pw_cell_below hb hHeld.1, pw_cell_below hb hHeld.2⟩ (fun hHeld => ?_)
        clear hK K
        refine norm_ (a' := ?_) ?_ ?_
        rotate_left
        · show Act.put _ (some 33) _ = _
          simp only [Act.put, List.setIfInBounds_toArray, List.set_cons_zero, List.set_cons_succ, i64_w, i32_w]
          rfl
        refine two_ (i := 3) (j := 11) (Ni := some 28) (Nj := some 8) #[true, true, true, true, true, true, true, true, true, false, false, false, false] #[true, true, true, false, true, true, true, true, true, false, false, true, false] rfl rfl rfl rfl (by kernel_rfl) (by decide) (by decide) (fun K hK => ?_) (fun K hK => ?_)
        · skip
          refine goes_ Try.func74 (by kernel_rfl) rfl #[.int .i64 a.f0, .slice (some ⟨q2, 0, none⟩) 2 2] (by rfl) rfl rfl (by simp only [List.map_toArray, List.map_cons, List.map_nil, Act.eval]; rfl) ?_
          refine (isAny_calls _ a.f0 (some ⟨q2, 0, none⟩) 2 [7, 8] (C_lit _ q2 [7, 8] (below_read hb8.out hl2.out)) (by decide) (by decide) (b := ba) HBA.out).mono ?_
          rintro e v3 ⟨rfl, hb⟩
          refine ⟨_, rfl, ?_⟩
          have hb3 := Aside0.mk hb
          refine hK.out _ _ ⟨pw_cell_below hb hHeld.1, pw_cell_below hb hHeld.2⟩ (fun hHeld => ?_)
          clear hK K
          refine norm_ (a' := ?_) ?_ ?_
          rotate_left
          · show Act.put _ (some 28) _ = _
            simp only [Act.put, List.setIfInBounds_toArray, List.set_cons_zero, List.set_cons_succ, i64_w, i32_w]
            rfl
          refine two_ (i := 9) (j := 11) (Ni := some 34) (Nj := some 8) #[true, true, true, true, true, true, true, true, true, true, false, false, false] #[true, true, true, true, true, true, true, true, true, false, false, true, false] rfl rfl rfl rfl (by kernel_rfl) (by decide) (by decide) (fun K hK => ?_) (fun K hK => ?_)
          · skip
            refine goes_ Try.func74 (by kernel_rfl) rfl #[.int .i64 a.f0, .slice (some ⟨q8, 0, none⟩) 2 2] (by rfl) rfl rfl (by simp only [List.map_toArray, List.map_cons, List.map_nil, Act.eval]; rfl) ?_
            refine (isAny_calls _ a.f0 (some ⟨q8, 0, none⟩) 2 [6, 8] (C_lit _ q8 [6, 8] (below_read hb3.out hl8.out)) (by decide) (by decide) (b := bw) HBW.out).mono ?_
            rintro e v9 ⟨rfl, hb⟩
            refine ⟨_, rfl, ?_⟩
            have hb9 := Aside0.mk hb
            refine hK.out _ _ ⟨pw_cell_below hb hHeld.1, pw_cell_below hb hHeld.2⟩ (fun hHeld => ?_)
            clear hK K
            refine norm_ (a' := ?_) ?_ ?_
            rotate_left
            · show Act.put _ (some 34) _ = _
              simp only [Act.put, List.setIfInBounds_toArray, List.set_cons_zero, List.set_cons_succ, i64_w, i32_w]
              rfl
            refine pure_ (i := 10) (N := some 35) (v := ?_) (a' := ?_) #[true, true, true, true, true, true, true, true, true, true, true, false, false] rfl rfl (by kernel_rfl) (fun _ _ _ h => h) (Or.inl ⟨by rfl, ?_⟩) ?_ ?_
            rotate_left
            · intro w'
              go_simp
              with_reducible rfl
            rotate_left
            · simp only [Act.put, List.setIfInBounds_toArray, List.set_cons_zero, List.set_cons_succ, i64_w, i32_w]
              rfl
            refine one_ (i := 11) (N := some 8) #[true, true, true, true, true, true, true, true, true, true, true, true, false] rfl rfl (by kernel_rfl) (by decide) (fun K hK => ?_)
            refine box_step (by rfl) (N := 8) rfl (cs := #[.bool false, .int .i64 0, .int .i64 0, .bool false]) (t := 109) ?hr ?_
            case hr => first | (go_simp; done) | (go_simp; rfl)
            intro q11 hgq v11 hlit hb
            have hl11 := Aside0.mk hlit
            have hq11 := Aside0.mk hgq
            have hb11 := Aside0.mk hb
            refine hK.out _ _ ⟨pw_cell_below hb hHeld.1, pw_cell_below hb hHeld.2⟩ (fun hHeld => ?_)
            clear hK K
            refine norm_ (a' := ?_) ?_ ?_
            rotate_left
            · show Act.put _ (some 8) _ = _
              simp only [Act.put, List.setIfInBounds_toArray, List.set_cons_zero, List.set_cons_succ, i64_w, i32_w]
              rfl
            exact norm_ (by simp only [putAll, Act.put, List.setIfInBounds_toArray, List.set_cons_zero, List.set_cons_succ]) (hCont (q2, q8, q11) _ ⟨⟨(below_on (below_on (below_on (below_on hb2.out hb8.out) hb3.out) hb9.out) hb11.out)⟩, ⟨hl11.out⟩, (by rw [hq11.out]; exact (below_on (below_on (below_on hb2.out hb8.out) hb3.out) hb9.out).size), hHeld⟩)
          · skip
            refine box_step (by rfl) (N := 8) rfl (cs := #[.bool false, .int .i64 0, .int .i64 0, .bool false]) (t := 109) ?hr ?_
            case hr => first | (go_simp; done) | (go_simp; rfl)
            intro q11 hgq v11 hlit hb
            have hl11 := Aside0.mk hlit
            have hq11 := Aside0.mk hgq
            have hb11 := Aside0.mk hb
            refine hK.out _ _ ⟨pw_cell_below hb hHeld.1, pw_cell_below hb hHeld.2⟩ (fun hHeld => ?_)
            clear hK K
            refine norm_ (a' := ?_) ?_ ?_
            rotate_left
            · show Act.put _ (some 8) _ = _
              simp only [Act.put, List.setIfInBounds_toArray, List.set_cons_zero, List.set_cons_succ, i64_w, i32_w]
              rfl
            refine one_ (i := 9) (N := some 34) #[true, true, true, true, true, true, true, true, true, true, false, true, false] rfl rfl (by kernel_rfl) (by decide) (fun K hK => ?_)
            refine goes_ Try.func74 (by kernel_rfl) rfl #[.int .i64 a.f0, .slice (some ⟨q8, 0, none⟩) 2 2] (by rfl) rfl rfl (by simp only [List.map_toArray, List.map_cons, List.map_nil, Act.eval]; rfl) ?_
            refine (isAny_calls _ a.f0 (some ⟨q8, 0, none⟩) 2 [6, 8] (C_lit _ q8 [6, 8] (below_read hb11.out (below_read hb3.out hl8.out))) (by decide) (by decide) (b := bw) HBW.out).mono ?_
            rintro e v9 ⟨rfl, hb⟩
            refine ⟨_, rfl, ?_⟩
            have hb9 := Aside0.mk hb
            refine hK.out _ _ ⟨pw_cell_below hb hHeld.1, pw_cell_below hb hHeld.2⟩ (fun hHeld => ?_)
            clear hK K
            refine norm_ (a' := ?_) ?_ ?_
            rotate_left
            · show Act.put _ (some 34) _ = _
              simp only [Act.put, List.setIfInBounds_toArray, List.set_cons_zero, List.set_cons_succ, i64_w, i32_w]
              rfl
            refine pure_ (i := 10) (N := some 35) (v := ?_) (a' := ?_) #[true, true, true, true, true, true, true, true, true, true, true, true, false] rfl rfl (by kernel_rfl) (fun _ _ _ h => h) (Or.inl ⟨by rfl, ?_⟩) ?_ ?_
            rotate_left
            · intro w'
              go_simp
              with_reducible rfl
            rotate_left
            · simp only [Act.put, List.setIfInBounds_toArray, List.set_cons_zero, List.set_cons_succ, i64_w, i32_w]
              rfl
            exact norm_ (by simp only [putAll, Act.put, List.setIfInBounds_toArray, List.set_cons_zero, List.set_cons_succ]) (hCont (q2, q8, q11) _ ⟨⟨(below_on (below_on (below_on (below_on hb2.out hb8.out) hb3.out) hb11.out) hb9.out)⟩, ⟨(below_read hb9.out hl11.out)⟩, (by rw [hq11.out]; exact (below_on (below_on hb2.out hb8.out) hb3.out).size), hHeld⟩)
        · skip
          refine box_step (by rfl) (N := 8) rfl (cs := #[.bool false, .int .i64 0, .int .i64 0, .bool false]) (t := 109) ?hr ?_
          case hr => first | (go_simp; done) | (go_simp; rfl)
          intro q11 hgq v11 hlit hb
          have hl11 := Aside0.mk hlit
          have hq11 := Aside0.mk hgq
          have hb11 := Aside0.mk hb
          refine hK.out _ _ ⟨pw_cell_below hb hHeld.1, pw_cell_below hb hHeld.2⟩ (fun hHeld => ?_)
          clear hK K
          refine norm_ (a' := ?_) ?_ ?_
          rotate_left
          · show Act.put _ (some 8) _ = _
            simp only [Act.put, List.setIfInBounds_toArray, List.set_cons_zero, List.set_cons_succ, i64_w, i32_w]
            rfl
          refine one_ (i := 3) (N := some 28) #[true, true, true, true, true, true, true, true, true, false, false, true, false] rfl rfl (by kernel_rfl) (by decide) (fun K hK => ?_)
          refine goes_ Try.func74 (by kernel_rfl) rfl #[.int .i64 a.f0, .slice (some ⟨q2, 0, none⟩) 2 2] (by rfl) rfl rfl (by simp only [List.map_toArray, List.map_cons, List.map_nil, Act.eval]; rfl) ?_
          refine (isAny_calls _ a.f0 (some ⟨q2, 0, none⟩) 2 [7, 8] (C_lit _ q2 [7, 8] (below_read hb11.out (below_read hb8.out hl2.out))) (by decide) (by decide) (b := ba) HBA.out).mono ?_
          rintro e v3 ⟨rfl, hb⟩
          refine ⟨_, rfl, ?_⟩
          have hb3 := Aside0.mk hb
          refine hK.out _ _ ⟨pw_cell_below hb hHeld.1, pw_cell_below hb hHeld.2⟩ (fun hHeld => ?_)
          clear hK K
          refine norm_ (a' := ?_) ?_ ?_
          rotate_left
          · show Act.put _ (some 28) _ = _
            simp only [Act.put, List.setIfInBounds_toArray, List.set_cons_zero, List.set_cons_succ, i64_w, i32_w]
            rfl
          refine one_ (i := 9) (N := some 34) #[true, true, true, true, true, true, true, true, true, true, false, true, false] rfl rfl (by kernel_rfl) (by decide) (fun K hK => ?_)
          refine goes_ Try.func74 (by kernel_rfl) rfl #[.int .i64 a.f0, .slice (some ⟨q8, 0, none⟩) 2 2] (by rfl) rfl rfl (by simp only [List.map_toArray, List.map_cons, List.map_nil, Act.eval]; rfl) ?_
          refine (isAny_calls _ a.f0 (some ⟨q8, 0, none⟩) 2 [6, 8] (C_lit _ q8 [6, 8] (below_read hb3.out (below_read hb11.out hl8.out))) (by decide) (by decide) (b := bw) HBW.out).mono ?_
          rintro e v9 ⟨rfl, hb⟩
          refine ⟨_, rfl, ?_⟩
          have hb9 := Aside0.mk hb
          refine hK.out _ _ ⟨pw_cell_below hb hHeld.1, pw_cell_below hb hHeld.2⟩ (fun hHeld => ?_)
          clear hK K
          refine norm_ (a' := ?_) ?_ ?_
          rotate_left
          · show Act.put _ (some 34) _ = _
            simp only [Act.put, List.setIfInBounds_toArray, List.set_cons_zero, List.set_cons_succ, i64_w, i32_w]
            rfl
          refine pure_ (i := 10) (N := some 35) (v := ?_) (a' := ?_) #[true, true, true, true, true, true, true, true, true, true, true, true, false] rfl rfl (by kernel_rfl) (fun _ _ _ h => h) (Or.inl ⟨by rfl, ?_⟩) ?_ ?_
          rotate_left
          · intro w'
            go_simp
            with_reducible rfl
          rotate_left
          · simp only [Act.put, List.setIfInBounds_toArray, List.set_cons_zero, List.set_cons_succ, i64_w, i32_w]
            rfl
          exact norm_ (by simp only [putAll, Act.put, List.setIfInBounds_toArray, List.set_cons_zero, List.set_cons_succ]) (hCont (q2, q8, q11) _ ⟨⟨(below_on (below_on (below_on (below_on hb2.out hb8.out) hb11.out) hb3.out) hb9.out)⟩, ⟨(below_read hb9.out (below_read hb3.out hl11.out))⟩, (by rw [hq11.out]; exact (below_on hb2.out hb8.out).size), hHeld⟩)
      · skip
        refine box_step (by rfl) (N := 8) rfl (cs := #[.bool false, .int .i64 0, .int .i64 0, .bool false]) (t := 109) ?hr ?_
        case hr => first | (go_simp; done) | (go_simp; rfl)
        intro q11 hgq v11 hlit hb
        have hl11 := Aside0.mk hlit
        have hq11 := Aside0.mk hgq
        have hb11 := Aside0.mk hb
        refine hK.out _ _ ⟨pw_cell_below hb hHeld.1, pw_cell_below hb hHeld.2⟩ (fun hHeld => ?_)
        clear hK K
        refine norm_ (a' := ?_) ?_ ?_
        rotate_left
        · show Act.put _ (some 8) _ = _
          simp only [Act.put, List.setIfInBounds_toArray, List.set_cons_zero, List.set_cons_succ, i64_w, i32_w]
          rfl
        refine two_ (i := 3) (j := 8) (Ni := some 28) (Nj := some 33) #[true, true, true, true, true, true, true, true, false, false, false, true, false] #[true, true, true, false, true, true, true, true, true, false, false, true, false] rfl rfl rfl rfl (by kernel_rfl) (by decide) (by decide) (fun K hK => ?_) (fun K hK => ?_)
        · skip
          refine goes_ Try.func74 (by kernel_rfl) rfl #[.int .i64 a.f0, .slice (some ⟨q2, 0, none⟩) 2 2] (by rfl) rfl rfl (by simp only [List.map_toArray, List.map_cons, List.map_nil, Act.eval]; rfl) ?_
          refine (isAny_calls _ a.f0 (some ⟨q2, 0, none⟩) 2 [7, 8] (C_lit _ q2 [7, 8] (below_read hb11.out hl2.out)) (by decide) (by decide) (b := ba) HBA.out).mono ?_
          rintro e v3 ⟨rfl, hb⟩
          refine ⟨_, rfl, ?_⟩
          have hb3 := Aside0.mk hb
          refine hK.out _ _ ⟨pw_cell_below hb hHeld.1, pw_cell_below hb hHeld.2⟩ (fun hHeld => ?_)
          clear hK K
          refine norm_ (a' := ?_) ?_ ?_
          rotate_left
          · show Act.put _ (some 28) _ = _
            simp only [Act.put, List.setIfInBounds_toArray, List.set_cons_zero, List.set_cons_succ, i64_w, i32_w]
            rfl
          refine one_ (i := 8) (N := some 33) #[true, true, true, true, true, true, true, true, true, false, false, true, false] rfl rfl (by kernel_rfl) (by decide) (fun K hK => ?_)
          refine lit_step (n := 2) (by rfl) (N := 33) rfl (cs := #[.int .i64 6, .int .i64 8]) (t := 3) ?hr ?_
          case hr => first | (go_simp; done) | (go_simp; rfl)
          intro q8 v8 hlit hb
          have hl8 := Aside0.mk hlit
          have hb8 := Aside0.mk hb
          refine hK.out _ _ ⟨pw_cell_below hb hHeld.1, pw_cell_below hb hHeld.2⟩ (fun hHeld => ?_)
          clear hK K
          refine norm_ (a' := ?_) ?_ ?_
          rotate_left
          · show Act.put _ (some 33) _ = _
            simp only [Act.put, List.setIfInBounds_toArray, List.set_cons_zero, List.set_cons_succ, i64_w, i32_w]
            rfl
          refine one_ (i := 9) (N := some 34) #[true, true, true, true, true, true, true, true, true, true, false, true, false] rfl rfl (by kernel_rfl) (by decide) (fun K hK => ?_)
          refine goes_ Try.func74 (by kernel_rfl) rfl #[.int .i64 a.f0, .slice (some ⟨q8, 0, none⟩) 2 2] (by rfl) rfl rfl (by simp only [List.map_toArray, List.map_cons, List.map_nil, Act.eval]; rfl) ?_
          refine (isAny_calls _ a.f0 (some ⟨q8, 0, none⟩) 2 [6, 8] (C_lit _ q8 [6, 8] hl8.out) (by decide) (by decide) (b := bw) HBW.out).mono ?_
          rintro e v9 ⟨rfl, hb⟩
          refine ⟨_, rfl, ?_⟩
          have hb9 := Aside0.mk hb
          refine hK.out _ _ ⟨pw_cell_below hb hHeld.1, pw_cell_below hb hHeld.2⟩ (fun hHeld => ?_)
          clear hK K
          refine norm_ (a' := ?_) ?_ ?_
          rotate_left
          · show Act.put _ (some 34) _ = _
            simp only [Act.put, List.setIfInBounds_toArray, List.set_cons_zero, List.set_cons_succ, i64_w, i32_w]
            rfl
          refine pure_ (i := 10) (N := some 35) (v := ?_) (a' := ?_) #[true, true, true, true, true, true, true, true, true, true, true, true, false] rfl rfl (by kernel_rfl) (fun _ _ _ h => h) (Or.inl ⟨by rfl, ?_⟩) ?_ ?_
          rotate_left
          · intro w'
            go_simp
            with_reducible rfl
          rotate_left
          · simp only [Act.put, List.setIfInBounds_toArray, List.set_cons_zero, List.set_cons_succ, i64_w, i32_w]
            rfl
          exact norm_ (by simp only [putAll, Act.put, List.setIfInBounds_toArray, List.set_cons_zero, List.set_cons_succ]) (hCont (q2, q8, q11) _ ⟨⟨(below_on (below_on (below_on (below_on hb2.out hb11.out) hb3.out) hb8.out) hb9.out)⟩, ⟨(below_read hb9.out (below_read hb8.out (below_read hb3.out hl11.out)))⟩, (by rw [hq11.out]; exact hb2.out.size), hHeld⟩)
        · skip
          refine lit_step (n := 2) (by rfl) (N := 33) rfl (cs := #[.int .i64 6, .int .i64 8]) (t := 3) ?hr ?_
          case hr => first | (go_simp; done) | (go_simp; rfl)
          intro q8 v8 hlit hb
          have hl8 := Aside0.mk hlit
          have hb8 := Aside0.mk hb
          refine hK.out _ _ ⟨pw_cell_below hb hHeld.1, pw_cell_below hb hHeld.2⟩ (fun hHeld => ?_)
          clear hK K
          refine norm_ (a' := ?_) ?_ ?_
          rotate_left
          · show Act.put _ (some 33) _ = _
            simp only [Act.put, List.setIfInBounds_toArray, List.set_cons_zero, List.set_cons_succ, i64_w, i32_w]
            rfl
          refine one_ (i := 3) (N := some 28) #[true, true, true, true, true, true, true, true, true, false, false, true, false] rfl rfl (by kernel_rfl) (by decide) (fun K hK => ?_)
          refine goes_ Try.func74 (by kernel_rfl) rfl #[.int .i64 a.f0, .slice (some ⟨q2, 0, none⟩) 2 2] (by rfl) rfl rfl (by simp only [List.map_toArray, List.map_cons, List.map_nil, Act.eval]; rfl) ?_
          refine (isAny_calls _ a.f0 (some ⟨q2, 0, none⟩) 2 [7, 8] (C_lit _ q2 [7, 8] (below_read hb8.out (below_read hb11.out hl2.out))) (by decide) (by decide) (b := ba) HBA.out).mono ?_
          rintro e v3 ⟨rfl, hb⟩
          refine ⟨_, rfl, ?_⟩
          have hb3 := Aside0.mk hb
          refine hK.out _ _ ⟨pw_cell_below hb hHeld.1, pw_cell_below hb hHeld.2⟩ (fun hHeld => ?_)
          clear hK K
          refine norm_ (a' := ?_) ?_ ?_
          rotate_left
          · show Act.put _ (some 28) _ = _
            simp only [Act.put, List.setIfInBounds_toArray, List.set_cons_zero, List.set_cons_succ, i64_w, i32_w]
            rfl
          refine one_ (i := 9) (N := some 34) #[true, true, true, true, true, true, true, true, true, true, false, true, false] rfl rfl (by kernel_rfl) (by decide) (fun K hK => ?_)
          refine goes_ Try.func74 (by kernel_rfl) rfl #[.int .i64 a.f0, .slice (some ⟨q8, 0, none⟩) 2 2] (by rfl) rfl rfl (by simp only [List.map_toArray, List.map_cons, List.map_nil, Act.eval]; rfl) ?_
          refine (isAny_calls _ a.f0 (some ⟨q8, 0, none⟩) 2 [6, 8] (C_lit _ q8 [6, 8] (below_read hb3.out hl8.out)) (by decide) (by decide) (b := bw) HBW.out).mono ?_
          rintro e v9 ⟨rfl, hb⟩
          refine ⟨_, rfl, ?_⟩
          have hb9 := Aside0.mk hb
          refine hK.out _ _ ⟨pw_cell_below hb hHeld.1, pw_cell_below hb hHeld.2⟩ (fun hHeld => ?_)
          clear hK K
          refine norm_ (a' := ?_) ?_ ?_
          rotate_left
          · show Act.put _ (some 34) _ = _
            simp only [Act.put, List.setIfInBounds_toArray, List.set_cons_zero, List.set_cons_succ, i64_w, i32_w]
            rfl
          refine pure_ (i := 10) (N := some 35) (v := ?_) (a' := ?_) #[true, true, true, true, true, true, true, true, true, true, true, true, false] rfl rfl (by kernel_rfl) (fun _ _ _ h => h) (Or.inl ⟨by rfl, ?_⟩) ?_ ?_
          rotate_left
          · intro w'
            go_simp
            with_reducible rfl
          rotate_left
          · simp only [Act.put, List.setIfInBounds_toArray, List.set_cons_zero, List.set_cons_succ, i64_w, i32_w]
            rfl
          exact norm_ (by simp only [putAll, Act.put, List.setIfInBounds_toArray, List.set_cons_zero, List.set_cons_succ]) (hCont (q2, q8, q11) _ ⟨⟨(below_on (below_on (below_on (below_on hb2.out hb11.out) hb8.out) hb3.out) hb9.out)⟩, ⟨(below_read hb9.out (below_read hb3.out (below_read hb8.out hl11.out)))⟩, (by rw [hq11.out]; exact hb2.out.size), hHeld⟩)
    · skip
      refine lit_step (n := 2) (by rfl) (N := 33) rfl (cs := #[.int .i64 6, .int .i64 8]) (t := 3) ?hr ?_
      case hr => first | (go_simp; done) | (go_simp; rfl)
      intro q8 v8 hlit hb
      have hl8 := Aside0.mk hlit
      have hb8 := Aside0.mk hb
      refine hK.out _ _ ⟨pw_cell_below hb hHeld.1, pw_cell_below hb hHeld.2⟩ (fun hHeld => ?_)
      clear hK K
      refine norm_ (a' := ?_) ?_ ?_
      rotate_left
      · show Act.put _ (some 33) _ = _
        simp only [Act.put, List.setIfInBounds_toArray, List.set_cons_zero, List.set_cons_succ, i64_w, i32_w]
        rfl
      refine two_ (i := 2) (j := 11) (Ni := some 27) (Nj := some 8) #[true, true, true, false, true, true, true, true, true, false, false, false, false] #[true, true, false, false, true, true, true, true, true, false, false, true, false] rfl rfl rfl rfl (by kernel_rfl) (by decide) (by decide) (fun K hK => ?_) (fun K hK => ?_)
      · skip
        refine lit_step (n := 2) (by rfl) (N := 27) rfl (cs := #[.int .i64 7, .int .i64 8]) (t := 3) ?hr ?_
        case hr => first | (go_simp; done) | (go_simp; rfl)
        intro q2 v2 hlit hb
        have hl2 := Aside0.mk hlit
        have hb2 := Aside0.mk hb
        refine hK.out _ _ ⟨pw_cell_below hb hHeld.1, pw_cell_below hb hHeld.2⟩ (fun hHeld => ?_)
        clear hK K
        refine norm_ (a' := ?_) ?_ ?_
        rotate_left
        · show Act.put _ (some 27) _ = _
          simp only [Act.put, List.setIfInBounds_toArray, List.set_cons_zero, List.set_cons_succ, i64_w, i32_w]
          rfl
        refine two_ (i := 3) (j := 11) (Ni := some 28) (Nj := some 8) #[true, true, true, true, true, true, true, true, true, false, false, false, false] #[true, true, true, false, true, true, true, true, true, false, false, true, false] rfl rfl rfl rfl (by kernel_rfl) (by decide) (by decide) (fun K hK => ?_) (fun K hK => ?_)
        · skip
          refine goes_ Try.func74 (by kernel_rfl) rfl #[.int .i64 a.f0, .slice (some ⟨q2, 0, none⟩) 2 2] (by rfl) rfl rfl (by simp only [List.map_toArray, List.map_cons, List.map_nil, Act.eval]; rfl) ?_
          refine (isAny_calls _ a.f0 (some ⟨q2, 0, none⟩) 2 [7, 8] (C_lit _ q2 [7, 8] hl2.out) (by decide) (by decide) (b := ba) HBA.out).mono ?_
          rintro e v3 ⟨rfl, hb⟩
          refine ⟨_, rfl, ?_⟩
          have hb3 := Aside0.mk hb
          refine hK.out _ _ ⟨pw_cell_below hb hHeld.1, pw_cell_below hb hHeld.2⟩ (fun hHeld => ?_)
          clear hK K
          refine norm_ (a' := ?_) ?_ ?_
          rotate_left
          · show Act.put _ (some 28) _ = _
            simp only [Act.put, List.setIfInBounds_toArray, List.set_cons_zero, List.set_cons_succ, i64_w, i32_w]
            rfl
          refine two_ (i := 9) (j := 11) (Ni := some 34) (Nj := some 8) #[true, true, true, true, true, true, true, true, true, true, false, false, false] #[true, true, true, true, true, true, true, true, true, false, false, true, false] rfl rfl rfl rfl (by kernel_rfl) (by decide) (by decide) (fun K hK => ?_) (fun K hK => ?_)
          · skip
            refine goes_ Try.func74 (by kernel_rfl) rfl #[.int .i64 a.f0, .slice (some ⟨q8, 0, none⟩) 2 2] (by rfl) rfl rfl (by simp only [List.map_toArray, List.map_cons, List.map_nil, Act.eval]; rfl) ?_
            refine (isAny_calls _ a.f0 (some ⟨q8, 0, none⟩) 2 [6, 8] (C_lit _ q8 [6, 8] (below_read hb3.out (below_read hb2.out hl8.out))) (by decide) (by decide) (b := bw) HBW.out).mono ?_
            rintro e v9 ⟨rfl, hb⟩
            refine ⟨_, rfl, ?_⟩
            have hb9 := Aside0.mk hb
            refine hK.out _ _ ⟨pw_cell_below hb hHeld.1, pw_cell_below hb hHeld.2⟩ (fun hHeld => ?_)
            clear hK K
            refine norm_ (a' := ?_) ?_ ?_
            rotate_left
            · show Act.put _ (some 34) _ = _
              simp only [Act.put, List.setIfInBounds_toArray, List.set_cons_zero, List.set_cons_succ, i64_w, i32_w]
              rfl
            refine pure_ (i := 10) (N := some 35) (v := ?_) (a' := ?_) #[true, true, true, true, true, true, true, true, true, true, true, false, false] rfl rfl (by kernel_rfl) (fun _ _ _ h => h) (Or.inl ⟨by rfl, ?_⟩) ?_ ?_
            rotate_left
            · intro w'
              go_simp
              with_reducible rfl
            rotate_left
            · simp only [Act.put, List.setIfInBounds_toArray, List.set_cons_zero, List.set_cons_succ, i64_w, i32_w]
              rfl
            refine one_ (i := 11) (N := some 8) #[true, true, true, true, true, true, true, true, true, true, true, true, false] rfl rfl (by kernel_rfl) (by decide) (fun K hK => ?_)
            refine box_step (by rfl) (N := 8) rfl (cs := #[.bool false, .int .i64 0, .int .i64 0, .bool false]) (t := 109) ?hr ?_
            case hr => first | (go_simp; done) | (go_simp; rfl)
            intro q11 hgq v11 hlit hb
            have hl11 := Aside0.mk hlit
            have hq11 := Aside0.mk hgq
            have hb11 := Aside0.mk hb
            refine hK.out _ _ ⟨pw_cell_below hb hHeld.1, pw_cell_below hb hHeld.2⟩ (fun hHeld => ?_)
            clear hK K
            refine norm_ (a' := ?_) ?_ ?_
            rotate_left
            · show Act.put _ (some 8) _ = _
              simp only [Act.put, List.setIfInBounds_toArray, List.set_cons_zero, List.set_cons_succ, i64_w, i32_w]
              rfl
            exact norm_ (by simp only [putAll, Act.put, List.setIfInBounds_toArray, List.set_cons_zero, List.set_cons_succ]) (hCont (q2, q8, q11) _ ⟨⟨(below_on (below_on (below_on (below_on hb8.out hb2.out) hb3.out) hb9.out) hb11.out)⟩, ⟨hl11.out⟩, (by rw [hq11.out]; exact (below_on (below_on (below_on hb8.out hb2.out) hb3.out) hb9.out).size), hHeld⟩)
          · skip
            refine box_step (by rfl) (N := 8) rfl (cs := #[.bool false, .int .i64 0, .int .i64 0, .bool false]) (t := 109) ?hr ?_
            case hr => first | (go_simp; done) | (go_simp; rfl)
            intro q11 hgq v11 hlit hb
            have hl11 := Aside0.mk hlit
            have hq11 := Aside0.mk hgq
            have hb11 := Aside0.mk hb
            refine hK.out _ _ ⟨pw_cell_below hb hHeld.1, pw_cell_below hb hHeld.2⟩ (fun hHeld => ?_)
            clear hK K
            refine norm_ (a' := ?_) ?_ ?_
            rotate_left
            · show Act.put _ (some 8) _ = _
              simp only [Act.put, List.setIfInBounds_toArray, List.set_cons_zero, List.set_cons_succ, i64_w, i32_w]
              rfl
            refine one_ (i := 9) (N := some 34) #[true, true, true, true, true, true, true, true, true, true, false, true, false] rfl rfl (by kernel_rfl) (by decide) (fun K hK => ?_)
            refine goes_ Try.func74 (by kernel_rfl) rfl #[.int .i64 a.f0, .slice (some ⟨q8, 0, none⟩) 2 2] (by rfl) rfl rfl (by simp only [List.map_toArray, List.map_cons, List.map_nil, Act.eval]; rfl) ?_
            refine (isAny_calls _ a.f0 (some ⟨q8, 0, none⟩) 2 [6, 8] (C_lit _ q8 [6, 8] (below_read hb11.out (below_read hb3.out (below_read hb2.out hl8.out)))) (by decide) (by decide) (b := bw) HBW.out).mono ?_
            rintro e v9 ⟨rfl, hb⟩
            refine ⟨_, rfl, ?_⟩
            have hb9 := Aside0.mk hb
            refine hK.out _ _ ⟨pw_cell_below hb hHeld.1, pw_cell_below hb hHeld.2⟩ (fun hHeld => ?_)
            clear hK K
            refine norm_ (a' := ?_) ?_ ?_
            rotate_left
            · show Act.put _ (some 34) _ = _
              simp only [Act.put, List.setIfInBounds_toArray, List.set_cons_zero, List.set_cons_succ, i64_w, i32_w]
              rfl
            refine pure_ (i := 10) (N := some 35) (v := ?_) (a' := ?_) #[true, true, true, true, true, true, true, true, true, true, true, true, false] rfl rfl (by kernel_rfl) (fun _ _ _ h => h) (Or.inl ⟨by rfl, ?_⟩) ?_ ?_
            rotate_left
            · intro w'
              go_simp
              with_reducible rfl
            rotate_left
            · simp only [Act.put, List.setIfInBounds_toArray, List.set_cons_zero, List.set_cons_succ, i64_w, i32_w]
              rfl
            exact norm_ (by simp only [putAll, Act.put, List.setIfInBounds_toArray, List.set_cons_zero, List.set_cons_succ]) (hCont (q2, q8, q11) _ ⟨⟨(below_on (below_on (below_on (below_on hb8.out hb2.out) hb3.out) hb11.out) hb9.out)⟩, ⟨(below_read hb9.out hl11.out)⟩, (by rw [hq11.out]; exact (below_on (below_on hb8.out hb2.out) hb3.out).size), hHeld⟩)
        · skip
          refine box_step (by rfl) (N := 8) rfl (cs := #[.bool false, .int .i64 0, .int .i64 0, .bool false]) (t := 109) ?hr ?_
          case hr => first | (go_simp; done) | (go_simp; rfl)
          intro q11 hgq v11 hlit hb
          have hl11 := Aside0.mk hlit
          have hq11 := Aside0.mk hgq
          have hb11 := Aside0.mk hb
          refine hK.out _ _ ⟨pw_cell_below hb hHeld.1, pw_cell_below hb hHeld.2⟩ (fun hHeld => ?_)
          clear hK K
          refine norm_ (a' := ?_) ?_ ?_
          rotate_left
          · show Act.put _ (some 8) _ = _
            simp only [Act.put, List.setIfInBounds_toArray, List.set_cons_zero, List.set_cons_succ, i64_w, i32_w]
            rfl
          refine one_ (i := 3) (N := some 28) #[true, true, true, true, true, true, true, true, true, false, false, true, false] rfl rfl (by kernel_rfl) (by decide) (fun K hK => ?_)
          refine goes_ Try.func74 (by kernel_rfl) rfl #[.int .i64 a.f0, .slice (some ⟨q2, 0, none⟩) 2 2] (by rfl) rfl rfl (by simp only [List.map_toArray, List.map_cons, List.map_nil, Act.eval]; rfl) ?_
          refine (isAny_calls _ a.f0 (some ⟨q2, 0, none⟩) 2 [7, 8] (C_lit _ q2 [7, 8] (below_read hb11.out hl2.out)) (by decide) (by decide) (b := ba) HBA.out).mono ?_
          rintro e v3 ⟨rfl, hb⟩
          refine ⟨_, rfl, ?_⟩
          have hb3 := Aside0.mk hb
          refine hK.out _ _ ⟨pw_cell_below hb hHeld.1, pw_cell_below hb hHeld.2⟩ (fun hHeld => ?_)
          clear hK K
          refine norm_ (a' := ?_) ?_ ?_
          rotate_left
          · show Act.put _ (some 28) _ = _
            simp only [Act.put, List.setIfInBounds_toArray, List.set_cons_zero, List.set_cons_succ, i64_w, i32_w]
            rfl
          refine one_ (i := 9) (N := some 34) #[true, true, true, true, true, true, true, true, true, true, false, true, false] rfl rfl (by kernel_rfl) (by decide) (fun K hK => ?_)
          refine goes_ Try.func74 (by kernel_rfl) rfl #[.int .i64 a.f0, .slice (some ⟨q8, 0, none⟩) 2 2] (by rfl) rfl rfl (by simp only [List.map_toArray, List.map_cons, List.map_nil, Act.eval]; rfl) ?_
          refine (isAny_calls _ a.f0 (some ⟨q8, 0, none⟩) 2 [6, 8] (C_lit _ q8 [6, 8] (below_read hb3.out (below_read hb11.out (below_read hb2.out hl8.out)))) (by decide) (by decide) (b := bw) HBW.out).mono ?_
          rintro e v9 ⟨rfl, hb⟩
          refine ⟨_, rfl, ?_⟩
          have hb9 := Aside0.mk hb
          refine hK.out _ _ ⟨pw_cell_below hb hHeld.1, pw_cell_below hb hHeld.2⟩ (fun hHeld => ?_)
          clear hK K
          refine norm_ (a' := ?_) ?_ ?_
          rotate_left
          · show Act.put _ (some 34) _ = _
            simp only [Act.put, List.setIfInBounds_toArray, List.set_cons_zero, List.set_cons_succ, i64_w, i32_w]
            rfl
          refine pure_ (i := 10) (N := some 35) (v := ?_) (a' := ?_) #[true, true, true, true, true, true, true, true, true, true, true, true, false] rfl rfl (by kernel_rfl) (fun _ _ _ h => h) (Or.inl ⟨by rfl, ?_⟩) ?_ ?_
          rotate_left
          · intro w'
            go_simp
            with_reducible rfl
          rotate_left
          · simp only [Act.put, List.setIfInBounds_toArray, List.set_cons_zero, List.set_cons_succ, i64_w, i32_w]
            rfl
          exact norm_ (by simp only [putAll, Act.put, List.setIfInBounds_toArray, List.set_cons_zero, List.set_cons_succ]) (hCont (q2, q8, q11) _ ⟨⟨(below_on (below_on (below_on (below_on hb8.out hb2.out) hb11.out) hb3.out) hb9.out)⟩, ⟨(below_read hb9.out (below_read hb3.out hl11.out))⟩, (by rw [hq11.out]; exact (below_on hb8.out hb2.out).size), hHeld⟩)
      · skip
        refine box_step (by rfl) (N := 8) rfl (cs := #[.bool false, .int .i64 0, .int .i64 0, .bool false]) (t := 109) ?hr ?_
        case hr => first | (go_simp; done) | (go_simp; rfl)
        intro q11 hgq v11 hlit hb
        have hl11 := Aside0.mk hlit
        have hq11 := Aside0.mk hgq
        have hb11 := Aside0.mk hb
        refine hK.out _ _ ⟨pw_cell_below hb hHeld.1, pw_cell_below hb hHeld.2⟩ (fun hHeld => ?_)
        clear hK K
        refine norm_ (a' := ?_) ?_ ?_
        rotate_left
        · show Act.put _ (some 8) _ = _
          simp only [Act.put, List.setIfInBounds_toArray, List.set_cons_zero, List.set_cons_succ, i64_w, i32_w]
          rfl
        refine one_ (i := 2) (N := some 27) #[true, true, true, false, true, true, true, true, true, false, false, true, false] rfl rfl (by kernel_rfl) (by decide) (fun K hK => ?_)
        refine lit_step (n := 2) (by rfl) (N := 27) rfl (cs := #[.int .i64 7, .int .i64 8]) (t := 3) ?hr ?_
        case hr => first | (go_simp; done) | (go_simp; rfl)
        intro q2 v2 hlit hb
        have hl2 := Aside0.mk hlit
        have hb2 := Aside0.mk hb
        refine hK.out _ _ ⟨pw_cell_below hb hHeld.1, pw_cell_below hb hHeld.2⟩ (fun hHeld => ?_)
        clear hK K
        refine norm_ (a' := ?_) ?_ ?_
        rotate_left
        · show Act.put _ (some 27) _ = _
          simp only [Act.put, List.setIfInBounds_toArray, List.set_cons_zero, List.set_cons_succ, i64_w, i32_w]
          rfl
        refine one_ (i := 3) (N := some 28) #[true, true, true, true, true, true, true, true, true, false, false, true, false] rfl rfl (by kernel_rfl) (by decide) (fun K hK => ?_)
        refine goes_ Try.func74 (by kernel_rfl) rfl #[.int .i64 a.f0, .slice (some ⟨q2, 0, none⟩) 2 2] (by rfl) rfl rfl (by simp only [List.map_toArray, List.map_cons, List.map_nil, Act.eval]; rfl) ?_
        refine (isAny_calls _ a.f0 (some ⟨q2, 0, none⟩) 2 [7, 8] (C_lit _ q2 [7, 8] hl2.out) (by decide) (by decide) (b := ba) HBA.out).mono ?_
        rintro e v3 ⟨rfl, hb⟩
        refine ⟨_, rfl, ?_⟩
        have hb3 := Aside0.mk hb
        refine hK.out _ _ ⟨pw_cell_below hb hHeld.1, pw_cell_below hb hHeld.2⟩ (fun hHeld => ?_)
        clear hK K
        refine norm_ (a' := ?_) ?_ ?_
        rotate_left
        · show Act.put _ (some 28) _ = _
          simp only [Act.put, List.setIfInBounds_toArray, List.set_cons_zero, List.set_cons_succ, i64_w, i32_w]
          rfl
        refine one_ (i := 9) (N := some 34) #[true, true, true, true, true, true, true, true, true, true, false, true, false] rfl rfl (by kernel_rfl) (by decide) (fun K hK => ?_)
        refine goes_ Try.func74 (by kernel_rfl) rfl #[.int .i64 a.f0, .slice (some ⟨q8, 0, none⟩) 2 2] (by rfl) rfl rfl (by simp only [List.map_toArray, List.map_cons, List.map_nil, Act.eval]; rfl) ?_
        refine (isAny_calls _ a.f0 (some ⟨q8, 0, none⟩) 2 [6, 8] (C_lit _ q8 [6, 8] (below_read hb3.out (below_read hb2.out (below_read hb11.out hl8.out)))) (by decide) (by decide) (b := bw) HBW.out).mono ?_
        rintro e v9 ⟨rfl, hb⟩
        refine ⟨_, rfl, ?_⟩
        have hb9 := Aside0.mk hb
        refine hK.out _ _ ⟨pw_cell_below hb hHeld.1, pw_cell_below hb hHeld.2⟩ (fun hHeld => ?_)
        clear hK K
        refine norm_ (a' := ?_) ?_ ?_
        rotate_left
        · show Act.put _ (some 34) _ = _
          simp only [Act.put, List.setIfInBounds_toArray, List.set_cons_zero, List.set_cons_succ, i64_w, i32_w]
          rfl
        refine pure_ (i := 10) (N := some 35) (v := ?_) (a' := ?_) #[true, true, true, true, true, true, true, true, true, true, true, true, false] rfl rfl (by kernel_rfl) (fun _ _ _ h => h) (Or.inl ⟨by rfl, ?_⟩) ?_ ?_
        rotate_left
        · intro w'
          go_simp
          with_reducible rfl
        rotate_left
        · simp only [Act.put, List.setIfInBounds_toArray, List.set_cons_zero, List.set_cons_succ, i64_w, i32_w]
          rfl
        exact norm_ (by simp only [putAll, Act.put, List.setIfInBounds_toArray, List.set_cons_zero, List.set_cons_succ]) (hCont (q2, q8, q11) _ ⟨⟨(below_on (below_on (below_on (below_on hb8.out hb11.out) hb2.out) hb3.out) hb9.out)⟩, ⟨(below_read hb9.out (below_read hb3.out (below_read hb2.out hl11.out)))⟩, (by rw [hq11.out]; exact hb8.out.size), hHeld⟩)
    · skip
      refine box_step (by rfl) (N := 8) rfl (cs := #[.bool false, .int .i64 0, .int .i64 0, .bool false]) (t := 109) ?hr ?_
      case hr => first | (go_simp; done) | (go_simp; rfl)
      intro q11 hgq v11 hlit hb
      have hl11 := Aside0.mk hlit
      have hq11 := Aside0.mk hgq
      have hb11 := Aside0.mk hb
      refine hK.out _ _ ⟨pw_cell_below hb hHeld.1, pw_cell_below hb hHeld.2⟩ (fun hHeld => ?_)
      clear hK K
      refine norm_ (a' := ?_) ?_ ?_
      rotate_left
      · show Act.put _ (some 8) _ = _
        simp only [Act.put, List.setIfInBounds_toArray, List.set_cons_zero, List.set_cons_succ, i64_w, i32_w]
        rfl
      refine two_ (i := 2) (j := 8) (Ni := some 27) (Nj := some 33) #[true, true, true, false, true, true, true, true, false, false, false, true, false] #[true, true, false, false, true, true, true, true, true, false, false, true, false] rfl rfl rfl rfl (by kernel_rfl) (by decide) (by decide) (fun K hK => ?_) (fun K hK => ?_)
      · skip
        refine lit_step (n := 2) (by rfl) (N := 27) rfl (cs := #[.int .i64 7, .int .i64 8]) (t := 3) ?hr ?_
        case hr => first | (go_simp; done) | (go_simp; rfl)
        intro q2 v2 hlit hb
        have hl2 := Aside0.mk hlit
        have hb2 := Aside0.mk hb
        refine hK.out _ _ ⟨pw_cell_below hb hHeld.1, pw_cell_below hb hHeld.2⟩ (fun hHeld => ?_)
        clear hK K
        refine norm_ (a' := ?_) ?_ ?_
        rotate_left
        · show Act.put _ (some 27) _ = _
          simp only [Act.put, List.setIfInBounds_toArray, List.set_cons_zero, List.set_cons_succ, i64_w, i32_w]
          rfl
        refine two_ (i := 3) (j := 8) (Ni := some 28) (Nj := some 33) #[true, true, true, true, true, true, true, true, false, false, false, true, false] #[true, true, true, false, true, true, true, true, true, false, false, true, false] rfl rfl rfl rfl (by kernel_rfl) (by decide) (by decide) (fun K hK => ?_) (fun K hK => ?_)
        · skip
          refine goes_ Try.func74 (by kernel_rfl) rfl #[.int .i64 a.f0, .slice (some ⟨q2, 0, none⟩) 2 2] (by rfl) rfl rfl (by simp only [List.map_toArray, List.map_cons, List.map_nil, Act.eval]; rfl) ?_
          refine (isAny_calls _ a.f0 (some ⟨q2, 0, none⟩) 2 [7, 8] (C_lit _ q2 [7, 8] hl2.out) (by decide) (by decide) (b := ba) HBA.out).mono ?_
          rintro e v3 ⟨rfl, hb⟩
          refine ⟨_, rfl, ?_⟩
          have hb3 := Aside0.mk hb
          refine hK.out _ _ ⟨pw_cell_below hb hHeld.1, pw_cell_below hb hHeld.2⟩ (fun hHeld => ?_)
          clear hK K
          refine norm_ (a' := ?_) ?_ ?_
          rotate_left
          · show Act.put _ (some 28) _ = _
            simp only [Act.put, List.setIfInBounds_toArray, List.set_cons_zero, List.set_cons_succ, i64_w, i32_w]
            rfl
          refine one_ (i := 8) (N := some 33) #[true, true, true, true, true, true, true, true, true, false, false, true, false] rfl rfl (by kernel_rfl) (by decide) (fun K hK => ?_)
          refine lit_step (n := 2) (by rfl) (N := 33) rfl (cs := #[.int .i64 6, .int .i64 8]) (t := 3) ?hr ?_
          case hr => first | (go_simp; done) | (go_simp; rfl)
          intro q8 v8 hlit hb
          have hl8 := Aside0.mk hlit
          have hb8 := Aside0.mk hb
          refine hK.out _ _ ⟨pw_cell_below hb hHeld.1, pw_cell_below hb hHeld.2⟩ (fun hHeld => ?_)
          clear hK K
          refine norm_ (a' := ?_) ?_ ?_
          rotate_left
          · show Act.put _ (some 33) _ = _
            simp only [Act.put, List.setIfInBounds_toArray, List.set_cons_zero, List.set_cons_succ, i64_w, i32_w]
            rfl
          refine one_ (i := 9) (N := some 34) #[true, true, true, true, true, true, true, true, true, true, false, true, false] rfl rfl (by kernel_rfl) (by decide) (fun K hK => ?_)
          refine goes_ Try.func74 (by kernel_rfl) rfl #[.int .i64 a.f0, .slice (some ⟨q8, 0, none⟩) 2 2] (by rfl) rfl rfl (by simp only [List.map_toArray, List.map_cons, List.map_nil, Act.eval]; rfl) ?_
          refine (isAny_calls _ a.f0 (some ⟨q8, 0, none⟩) 2 [6, 8] (C_lit _ q8 [6, 8] hl8.out) (by decide) (by decide) (b := bw) HBW.out).mono ?_
          rintro e v9 ⟨rfl, hb⟩
          refine ⟨_, rfl, ?_⟩
          have hb9 := Aside0.mk hb
          refine hK.out _ _ ⟨pw_cell_below hb hHeld.1, pw_cell_below hb hHeld.2⟩ (fun hHeld => ?_)
          clear hK K
          refine norm_ (a' := ?_) ?_ ?_
          rotate_left
          · show Act.put _ (some 34) _ = _
            simp only [Act.put, List.setIfInBounds_toArray, List.set_cons_zero, List.set_cons_succ, i64_w, i32_w]
            rfl
          refine pure_ (i := 10) (N := some 35) (v := ?_) (a' := ?_) #[true, true, true, true, true, true, true, true, true, true, true, true, false] rfl rfl (by kernel_rfl) (fun _ _ _ h => h) (Or.inl ⟨by rfl, ?_⟩) ?_ ?_
          rotate_left
          · intro w'
            go_simp
            with_reducible rfl
          rotate_left
          · simp only [Act.put, List.setIfInBounds_toArray, List.set_cons_zero, List.set_cons_succ, i64_w, i32_w]
            rfl
          exact norm_ (by simp only [putAll, Act.put, List.setIfInBounds_toArray, List.set_cons_zero, List.set_cons_succ]) (hCont (q2, q8, q11) _ ⟨⟨(below_on (below_on (below_on (below_on hb11.out hb2.out) hb3.out) hb8.out) hb9.out)⟩, ⟨(below_read hb9.out (below_read hb8.out (below_read hb3.out (below_read hb2.out hl11.out))))⟩, (by rw [hq11.out]; exact Nat.le_refl _), hHeld⟩)
        · skip
          refine lit_step (n := 2) (by rfl) (N := 33) rfl (cs := #[.int .i64 6, .int .i64 8]) (t := 3) ?hr ?_
          case hr => first | (go_simp; done) | (go_simp; rfl)
          intro q8 v8 hlit hb
          have hl8 := Aside0.mk hlit
          have hb8 := Aside0.mk hb
          refine hK.out _ _ ⟨pw_cell_below hb hHeld.1, pw_cell_below hb hHeld.2⟩ (fun hHeld => ?_)
          clear hK K
          refine norm_ (a' := ?_) ?_ ?_
          rotate_left
          · show Act.put _ (some 33) _ = _
            simp only [Act.put, List.setIfInBounds_toArray, List.set_cons_zero, List.set_cons_succ, i64_w, i32_w]
            rfl
          refine one_ (i := 3) (N := some 28) #[true, true, true, true, true, true, true, true, true, false, false, true, false] rfl rfl (by kernel_rfl) (by decide) (fun K hK => ?_)
          refine goes_ Try.func74 (by kernel_rfl) rfl #[.int .i64 a.f0, .slice (some ⟨q2, 0, none⟩) 2 2] (by rfl) rfl rfl (by simp only [List.map_toArray, List.map_cons, List.map_nil, Act.eval]; rfl) ?_
          refine (isAny_calls _ a.f0 (some ⟨q2, 0, none⟩) 2 [7, 8] (C_lit _ q2 [7, 8] (below_read hb8.out hl2.out)) (by decide) (by decide) (b := ba) HBA.out).mono ?_
          rintro e v3 ⟨rfl, hb⟩
          refine ⟨_, rfl, ?_⟩
          have hb3 := Aside0.mk hb
          refine hK.out _ _ ⟨pw_cell_below hb hHeld.1, pw_cell_below hb hHeld.2⟩ (fun hHeld => ?_)
          clear hK K
          refine norm_ (a' := ?_) ?_ ?_
          rotate_left
          · show Act.put _ (some 28) _ = _
            simp only [Act.put, List.setIfInBounds_toArray, List.set_cons_zero, List.set_cons_succ, i64_w, i32_w]
            rfl
          refine one_ (i := 9) (N := some 34) #[true, true, true, true, true, true, true, true, true, true, false, true, false] rfl rfl (by kernel_rfl) (by decide) (fun K hK => ?_)
          refine goes_ Try.func74 (by kernel_rfl) rfl #[.int .i64 a.f0, .slice (some ⟨q8, 0, none⟩) 2 2] (by rfl) rfl rfl (by simp only [List.map_toArray, List.map_cons, List.map_nil, Act.eval]; rfl) ?_
          refine (isAny_calls _ a.f0 (some ⟨q8, 0, none⟩) 2 [6, 8] (C_lit _ q8 [6, 8] (below_read hb3.out hl8.out)) (by decide) (by decide) (b := bw) HBW.out).mono ?_
          rintro e v9 ⟨rfl, hb⟩
          refine ⟨_, rfl, ?_⟩
          have hb9 := Aside0.mk hb
          refine hK.out _ _ ⟨pw_cell_below hb hHeld.1, pw_cell_below hb hHeld.2⟩ (fun hHeld => ?_)
          clear hK K
          refine norm_ (a' := ?_) ?_ ?_
          rotate_left
          · show Act.put _ (some 34) _ = _
            simp only [Act.put, List.setIfInBounds_toArray, List.set_cons_zero, List.set_cons_succ, i64_w, i32_w]
            rfl
          refine pure_ (i := 10) (N := some 35) (v := ?_) (a' := ?_) #[true, true, true, true, true, true, true, true, true, true, true, true, false] rfl rfl (by kernel_rfl) (fun _ _ _ h => h) (Or.inl ⟨by rfl, ?_⟩) ?_ ?_
          rotate_left
          · intro w'
            go_simp
            with_reducible rfl
          rotate_left
          · simp only [Act.put, List.setIfInBounds_toArray, List.set_cons_zero, List.set_cons_succ, i64_w, i32_w]
            rfl
          exact norm_ (by simp only [putAll, Act.put, List.setIfInBounds_toArray, List.set_cons_zero, List.set_cons_succ]) (hCont (q2, q8, q11) _ ⟨⟨(below_on (below_on (below_on (below_on hb11.out hb2.out) hb8.out) hb3.out) hb9.out)⟩, ⟨(below_read hb9.out (below_read hb3.out (below_read hb8.out (below_read hb2.out hl11.out))))⟩, (by rw [hq11.out]; exact Nat.le_refl _), hHeld⟩)
      · skip
        refine lit_step (n := 2) (by rfl) (N := 33) rfl (cs := #[.int .i64 6, .int .i64 8]) (t := 3) ?hr ?_
        case hr => first | (go_simp; done) | (go_simp; rfl)
        intro q8 v8 hlit hb
        have hl8 := Aside0.mk hlit
        have hb8 := Aside0.mk hb
        refine hK.out _ _ ⟨pw_cell_below hb hHeld.1, pw_cell_below hb hHeld.2⟩ (fun hHeld => ?_)
        clear hK K
        refine norm_ (a' := ?_) ?_ ?_
        rotate_left
        · show Act.put _ (some 33) _ = _
          simp only [Act.put, List.setIfInBounds_toArray, List.set_cons_zero, List.set_cons_succ, i64_w, i32_w]
          rfl
        refine one_ (i := 2) (N := some 27) #[true, true, true, false, true, true, true, true, true, false, false, true, false] rfl rfl (by kernel_rfl) (by decide) (fun K hK => ?_)
        refine lit_step (n := 2) (by rfl) (N := 27) rfl (cs := #[.int .i64 7, .int .i64 8]) (t := 3) ?hr ?_
        case hr => first | (go_simp; done) | (go_simp; rfl)
        intro q2 v2 hlit hb
        have hl2 := Aside0.mk hlit
        have hb2 := Aside0.mk hb
        refine hK.out _ _ ⟨pw_cell_below hb hHeld.1, pw_cell_below hb hHeld.2⟩ (fun hHeld => ?_)
        clear hK K
        refine norm_ (a' := ?_) ?_ ?_
        rotate_left
        · show Act.put _ (some 27) _ = _
          simp only [Act.put, List.setIfInBounds_toArray, List.set_cons_zero, List.set_cons_succ, i64_w, i32_w]
          rfl
        refine one_ (i := 3) (N := some 28) #[true, true, true, true, true, true, true, true, true, false, false, true, false] rfl rfl (by kernel_rfl) (by decide) (fun K hK => ?_)
        refine goes_ Try.func74 (by kernel_rfl) rfl #[.int .i64 a.f0, .slice (some ⟨q2, 0, none⟩) 2 2] (by rfl) rfl rfl (by simp only [List.map_toArray, List.map_cons, List.map_nil, Act.eval]; rfl) ?_
        refine (isAny_calls _ a.f0 (some ⟨q2, 0, none⟩) 2 [7, 8] (C_lit _ q2 [7, 8] hl2.out) (by decide) (by decide) (b := ba) HBA.out).mono ?_
        rintro e v3 ⟨rfl, hb⟩
        refine ⟨_, rfl, ?_⟩
        have hb3 := Aside0.mk hb
        refine hK.out _ _ ⟨pw_cell_below hb hHeld.1, pw_cell_below hb hHeld.2⟩ (fun hHeld => ?_)
        clear hK K
        refine norm_ (a' := ?_) ?_ ?_
        rotate_left
        · show Act.put _ (some 28) _ = _
          simp only [Act.put, List.setIfInBounds_toArray, List.set_cons_zero, List.set_cons_succ, i64_w, i32_w]
          rfl
        refine one_ (i := 9) (N := some 34) #[true, true, true, true, true, true, true, true, true, true, false, true, false] rfl rfl (by kernel_rfl) (by decide) (fun K hK => ?_)
        refine goes_ Try.func74 (by kernel_rfl) rfl #[.int .i64 a.f0, .slice (some ⟨q8, 0, none⟩) 2 2] (by rfl) rfl rfl (by simp only [List.map_toArray, List.map_cons, List.map_nil, Act.eval]; rfl) ?_
        refine (isAny_calls _ a.f0 (some ⟨q8, 0, none⟩) 2 [6, 8] (C_lit _ q8 [6, 8] (below_read hb3.out (below_read hb2.out hl8.out))) (by decide) (by decide) (b := bw) HBW.out).mono ?_
        rintro e v9 ⟨rfl, hb⟩
        refine ⟨_, rfl, ?_⟩
        have hb9 := Aside0.mk hb
        refine hK.out _ _ ⟨pw_cell_below hb hHeld.1, pw_cell_below hb hHeld.2⟩ (fun hHeld => ?_)
        clear hK K
        refine norm_ (a' := ?_) ?_ ?_
        rotate_left
        · show Act.put _ (some 34) _ = _
          simp only [Act.put, List.setIfInBounds_toArray, List.set_cons_zero, List.set_cons_succ, i64_w, i32_w]
          rfl
        refine pure_ (i := 10) (N := some 35) (v := ?_) (a' := ?_) #[true, true, true, true, true, true, true, true, true, true, true, true, false] rfl rfl (by kernel_rfl) (fun _ _ _ h => h) (Or.inl ⟨by rfl, ?_⟩) ?_ ?_
        rotate_left
        · intro w'
          go_simp
          with_reducible rfl
        rotate_left
        · simp only [Act.put, List.setIfInBounds_toArray, List.set_cons_zero, List.set_cons_succ, i64_w, i32_w]
          rfl
        exact norm_ (by simp only [putAll, Act.put, List.setIfInBounds_toArray, List.set_cons_zero, List.set_cons_succ]) (hCont (q2, q8, q11) _ ⟨⟨(below_on (below_on (below_on (below_on hb11.out hb8.out) hb2.out) hb3.out) hb9.out)⟩, ⟨(below_read hb9.out (below_read hb3.out (below_read hb2.out (below_read hb8.out hl11.out))))⟩, (by rw [hq11.out]; exact Nat.le_refl _), hHeld⟩)
  rintro ⟨q2, q8, g8⟩ w7 ⟨HB7, HL7, hq7, hHeld⟩
  have hq7 : w6.drew.heap.size ≤ g8 := hq7
  refine norm_ (a' := ?_) ?_ ?_
  rotate_left
  · simp only [putAll, Act.put, List.setIfInBounds_toArray, List.set_cons_zero, List.set_cons_succ]
    rfl
  refine last_ (i := 12) (N := none) #[true, true, true, true, true, true, true, true, true, true, true, true, true] rfl rfl (by kernel_rfl) (by decide) (fun K hK => ?_)
  refine put_step (by rfl) rfl 109 (.tmp 8) (.tmp 35) rfl g8 109 _ (#[.bool ba, .int .i64 a.f4, .int .i64 0, .bool bw]) rfl rfl rfl HL7.out (by kernel_rfl) rfl (t109_one _ _ _ _) ?_
  intro w8 hlit hg
  have HL8 := Aside0.mk hlit
  have HK8 := Aside0.mk (HB7.out.grown hg HB7.out.size (fun q hq => by injection hq with hq; omega))
  clear hlit hg
  refine hK.out _ _ ?_
  clear hK K
  refine done_ (by kernel_rfl) ?_
  have h80 : w8.cell? ⟨g8, 0, none⟩ = some (.bool ba) := (blk_cell HL8.out 0).trans rfl
  have h81 : w8.cell? ⟨g8, 1, none⟩ = some (.int .i64 a.f4) := (blk_cell HL8.out 1).trans rfl
  have h82 : w8.cell? ⟨g8, 2, none⟩ = some (.int .i64 0) := (blk_cell HL8.out 2).trans rfl
  have h83 : w8.cell? ⟨g8, 3, none⟩ = some (.bool bw) := (blk_cell HL8.out 3).trans rfl
  have HL4' := Aside0.mk (below_read HK8.out (HL6.out : w6.drew.heap[g4]? = _))
  have HK8' := Aside0.mk (below_on (below_drew HK6.out) HK8.out)
  have hy2 := pw_cell_below HK8.out (hy2 : w6.drew.cell? ⟨g6, 2, none⟩ = _)
  clear HBA HBW
  cases ba with
  | false =>
    go_wp2_with (first | ((with_reducible refine gate_store (t := 109) (p := 4) rfl ?_); refine put_row ?hg ?hn 109 (.tmp 4) (.tmp 46) ?ho g4 109 _ (#[.bool false, .int .i64 a.f4, .int .i64 0, .bool bw]) ?hp ?hx ?hu HL4'.out ?ht ?hs ?h1 ?_; (case hg => rfl); (case hn => rfl); (case ho => rfl); (case hp => rfl); (case hx => rfl); (case hu => rfl); (case ht => kernel_rfl); (case hs => rfl); (case h1 => exact t109_one _ _ _ _); intro w9 hlit hg; have HLw9 := Aside0.mk hlit; have HK9 := Aside0.mk (HK8'.out.grown hg HK8'.out.size (fun q hq => by injection hq with hq; rw [← hq, HGw1.out]; exact Nat.le_refl _)); clear hlit hg))
    refine bodyPost_ret (results_ct rfl _ _ g4 109 _ (0, 0) _ rfl HLw9.out Try.underlying109 rfl (by kernel_rfl)) rfl ?_
    exact ⟨rfl, HK9.out⟩
  | true =>
    obtain ⟨hx0, hx1⟩ := HXX.out rfl
    have H8 := Aside0.mk (H0.out.below HK8'.out)
    go_wp2_with fail
    clear h80 h81 h82 h83
    refine start_ (n := 9) (S := fun w' => w'.cell? ⟨g6, 2, none⟩ = some (.int .i64 a.f2)) (ds := [8]) #[false, false, false, false, false, false, false, false, false] (by kernel_rfl) rfl rfl (hy2) (fun hHeld => ?_)
    refine pure_ (i := 0) (N := some 38) (v := ?_) (a' := ?_) #[true, false, false, false, false, false, false, false, false] rfl rfl (by kernel_rfl) (fun _ _ _ h => h) (Or.inl ⟨by rfl, ?_⟩) ?_ ?_
    rotate_left
    · intro w'
      go_simp
      with_reducible rfl
    rotate_left
    · simp only [Act.put, List.setIfInBounds_toArray, List.set_cons_zero, List.set_cons_succ, i64_w, i32_w]
      rfl
    refine pure_ (i := 1) (N := some 39) (v := ?_) (a' := ?_) #[true, true, false, false, false, false, false, false, false] rfl rfl (by kernel_rfl) (fun _ _ _ h => h) (Or.inl ⟨by rfl, ?_⟩) ?_ ?_
    rotate_left
    · intro w'
      go_simp
      with_reducible rfl
    rotate_left
    · simp only [Act.put, List.setIfInBounds_toArray, List.set_cons_zero, List.set_cons_succ, i64_w, i32_w]
      rfl
    refine pure_ (i := 3) (N := some 41) (v := ?_) (a' := ?_) #[true, true, false, true, false, false, false, false, false] rfl rfl (by kernel_rfl) (fun _ _ _ h => h) (Or.inl ⟨by rfl, ?_⟩) ?_ ?_
    rotate_left
    · intro w'
      go_simp
      with_reducible rfl
    rotate_left
    · simp only [Act.put, List.setIfInBounds_toArray, List.set_cons_zero, List.set_cons_succ, i64_w, i32_w]
      rfl
    refine take_ (i := 4) (N := some 42) (v := ?_) (a' := ?_) #[true, true, false, true, true, false, false, false, false] rfl rfl (by kernel_rfl) (fun _ _ _ h => h) (Or.inl ⟨by rfl, ?_⟩) hHeld ?_ ?_
    rotate_left
    · intro w' s0
      go_simp
      with_reducible rfl
    rotate_left
    · simp only [Act.put, List.setIfInBounds_toArray, List.set_cons_zero, List.set_cons_succ, i64_w, i32_w]
      rfl
    refine one_ (i := 2) (N := some 40) #[true, true, true, true, true, false, false, false, false] rfl rfl (by kernel_rfl) (by decide) (fun K hK => ?_)
    refine goes_ Try.func25 (by kernel_rfl) rfl #[.pointer (some ⟨ph.bm, 0, none⟩), .int .i64 i] (by rfl) rfl rfl (by simp only [List.map_toArray, List.map_cons, List.map_nil, Act.eval]; rfl) ?_
    refine ((H8.out.below (drew_below w8)).vars i HV.out HVL.out).mono ?_
    rintro e w9 ⟨Av, cv, rfl, hcv, hC, hb⟩
    obtain ⟨ad, rfl, hcell⟩ := Kd.at_int hC.out a.f2 hx0 hx1
    have HK9 := Aside0.mk hb
    have h80 : w9.cell? ⟨g8, 2, none⟩ = some (.int .i64 0) := (blk_cell (below_read hb (HL8.out : w8.drew.heap[g8]? = _)) 2).trans rfl
    have h8f : w9.frozen? ⟨g8, 2, none⟩ = false := blk_frozen (below_read hb (HL8.out : w8.drew.heap[g8]? = _)) 2
    have HL9 := Aside0.mk (below_read hb (HL8.out : w8.drew.heap[g8]? = _))
    clear hC hcv
    refine ⟨_, rfl, ?_⟩
    refine hK.out _ _ (pw_cell_below hb hHeld) (fun hHeld => ?_)
    clear hK K
    refine norm_ (a' := ?_) ?_ ?_
    rotate_left
    · show Act.put _ (some 40) _ = _
      simp only [Act.put, List.setIfInBounds_toArray, List.set_cons_zero, List.set_cons_succ, i64_w, i32_w]
      rfl
    refine pure_ (i := 5) (N := some 43) (v := ?_) (a' := ?_) #[true, true, true, true, true, true, false, false, false] rfl rfl (by kernel_rfl) (fun _ _ _ h => h) (Or.inl ⟨by rfl, ?_⟩) ?_ ?_
    rotate_left
    · intro w'
      go_simp
      with_reducible rfl
    rotate_left
    · simp only [Act.put, List.setIfInBounds_toArray, List.set_cons_zero, List.set_cons_succ, i64_w, i32_w]
      rfl
    refine one_ (i := 6) (N := some 44) #[true, true, true, true, true, true, true, false, false] rfl rfl (by kernel_rfl) (by decide) (fun K hK => ?_)
    refine value_ (w1 := ?_) (v := ?_) (by rfl) rfl ?_ ?_
    rotate_left 2
    · go_simp
      constructor
      · rfl
      · rfl
    refine hK.out _ _ (hHeld) (fun hHeld => ?_)
    clear hK K
    refine norm_ (a' := ?_) ?_ ?_
    rotate_left
    · show Act.put _ (some 44) _ = _
      simp only [Act.put, List.setIfInBounds_toArray, List.set_cons_zero, List.set_cons_succ, i64_w, i32_w]
      rfl
    refine pure_ (i := 7) (N := some 45) (v := ?_) (a' := ?_) #[true, true, true, true, true, true, true, true, false] rfl rfl (by kernel_rfl) (fun _ _ _ h => h) (Or.inl ⟨by rfl, ?_⟩) ?_ ?_
    rotate_left
    · intro w'
      go_simp
      with_reducible rfl
    rotate_left
    · simp only [Act.put, List.setIfInBounds_toArray, List.set_cons_zero, List.set_cons_succ, i64_w, i32_w]
      rfl
    refine last_ (i := 8) (N := none) #[true, true, true, true, true, true, true, true, true] rfl rfl (by kernel_rfl) (by decide) (fun K hK => ?_)
    refine skip_ (w1 := ?_) (by rfl) rfl ?_ ?_
    rotate_left
    · go_simp
      rfl
    refine hK.out _ _ ?_
    clear hK K
    refine done_ (by kernel_rfl) ?_
    have hgg : g4 ≠ g8 := fun e => by
      have h1 := blk_lt HL6.out
      have h2 := hq7
      rw [← e] at h2
      exact absurd h2 (Nat.not_le.2 h1)
    obtain ⟨w10, hw10⟩ : ∃ W, W = w9.setCell ⟨g8, 2, none⟩ (.int .i64 (rd vs a.f2)) := ⟨_, rfl⟩
    have HL10 : w10.heap[g8]? = some (.cells #[.bool true, .int .i64 a.f4, .int .i64 (rd vs a.f2), .bool bw] 109 (0, 0)) := by rw [hw10]; exact blk_put HL9.out 2 _ rfl
    have HL4a : Aside0 (w10.heap[g4]? = some (.cells #[.bool false, .int .i64 0, .int .i64 0, .bool false] 109 (0, 0))) := ⟨by rw [hw10]; exact blk_far (below_read HK9.out (HL4'.out : w8.drew.heap[g4]? = _)) hgg _⟩
    have HK10 : Aside0 (Below w.heap.size w w10) := ⟨by rw [hw10]; exact (below_on (below_drew HK8'.out) HK9.out).setCell (show w.heap.size ≤ (⟨g8, 2, none⟩ : Addr).block from Nat.le_trans HK6.out.size hq7) _⟩
    rw [← hw10]
    clear hw10 h80 h8f hcell hgg
    have k0 := (blk_cell HL10 0).trans rfl
    have k1 := (blk_cell HL10 1).trans rfl
    have k2 := (blk_cell HL10 2).trans rfl
    have k3 := (blk_cell HL10 3).trans rfl
    clear HL10
    go_wp2_with (first | ((with_reducible refine gate_store (t := 109) (p := 4) rfl ?_); refine put_row ?hg ?hn 109 (.tmp 4) (.tmp 46) ?ho g4 109 _ (#[.bool true, .int .i64 a.f4, .int .i64 (rd vs a.f2), .bool bw]) ?hp ?hx ?hu HL4a.out ?ht ?hs ?h1 ?_; (case hg => rfl); (case hn => rfl); (case ho => rfl); (case hp => rfl); (case hx => rfl); (case hu => rfl); (case ht => kernel_rfl); (case hs => rfl); (case h1 => exact t109_one _ _ _ _); intro w11 hlit hg; have HLw11 := Aside0.mk hlit; have HK11 := Aside0.mk (HK10.out.grown hg HK10.out.size (fun q hq => by injection hq with hq; rw [← hq, HGw1.out]; exact Nat.le_refl _)); clear hlit hg))
    refine bodyPost_ret (results_ct rfl _ _ g4 109 _ (0, 0) _ rfl HLw11.out Try.underlying109 rfl (by kernel_rfl)) rfl ?_
    exact ⟨rfl, HK11.out⟩
set_option maxHeartbeats 4000000 in
set_option maxRecDepth 100000 in
theorem touched_off (w : World) (p : Option Addr) (i : Int) (hN : ∀ W, Below w.heap.size w W → Calls Try.prog 20 #[.pointer p, .int .i64 i] W fun e w' => e = .returned (.tuple #[.agg #[.int .i64 0, .int .i64 0, .int .i64 0, .int .i64 0, .int .i64 0, .int .i64 0, .int .i64 0, .int .i64 0, .int .i64 0], .bool false]) ∧ Below W.heap.size W w') :
    Calls Try.prog 67 #[.pointer p, .int .i64 i] w fun e w' => e = .returned (tchV none) ∧ Below w.heap.size w w' := by
  have HN := Aside0.mk hN
  clear hN
  go_enter Try.func67, Try.ntmps67
  go_wp2_with (first | ((with_reducible refine gate_dst (N := 4) rfl ?_); refine box_event ?hg (N := 4) ?hd (cs := #[.bool false, .int .i64 0, .int .i64 0, .bool false]) (t := 109) ?hr ?_; (case hd => rfl); (case hg => rfl); (case hr => first | (go_simp; done) | (go_simp; rfl)); intro g4 hgg w1 hlit hb; have HLw1 := Aside0.mk hlit; have HKw1 := Aside0.mk hb; have HGw1 := Aside0.mk hgg; skip; clear hlit hb hgg) | (go_at_call 20; (with_reducible refine (HN.out _ HKw1.out).mono ?_); rintro e w2 ⟨rfl, hb⟩; have HK2 := Aside0.mk (below_on HKw1.out hb); have HL2 := Aside0.mk (below_read hb HLw1.out); clear hb) | ((with_reducible refine gate_dst (N := 6) rfl ?_); refine box_event ?hg (N := 6) ?hd (cs := #[.int .i64 0, .int .i64 0, .int .i64 0, .int .i64 0, .int .i64 0, .int .i64 0, .int .i64 0, .int .i64 0, .int .i64 0]) (t := 33) ?hr ?_; (case hd => rfl); (case hg => rfl); (case hr => first | (go_simp; done) | (go_simp; rfl)); intro g6 hgg w3 hlit hb; have HLw3 := Aside0.mk hlit; have HKw3 := Aside0.mk hb; have HGw3 := Aside0.mk hgg; have HL3 := Aside0.mk (below_read hb HL2.out); clear hlit hb hgg) | ((with_reducible refine gate_store (t := 33) (p := 6) rfl ?_); refine put_row ?hg ?hn 33 (.tmp 6) (.tmp 13) ?ho g6 33 _ (#[.int .i64 0, .int .i64 0, .int .i64 0, .int .i64 0, .int .i64 0, .int .i64 0, .int .i64 0, .int .i64 0, .int .i64 0]) ?hp ?hx ?hu HLw3.out ?ht ?hs ?h1 ?_; (case hg => rfl); (case hn => rfl); (case ho => rfl); (case hp => rfl); (case hx => rfl); (case hu => rfl); (case ht => kernel_rfl); (case hs => rfl); (case h1 => exact actC_one z33); intro w4 hlit hg; have HLw4 := Aside0.mk hlit; have HK4 := Aside0.mk (below_on HK2.out (put_below2 HKw3.out HGw3.out hg)); have HL4 := Aside0.mk (blk_keep HL3.out hg (fun e => by injection e with e; subst e; have h1 := HLw3.out; rw [HL3.out] at h1; injection h1 with h1; injection h1 with _ h1 _; exact absurd h1 (by decide))); clear hlit hg) | ((with_reducible refine gate_store (t := 109) (p := 4) rfl ?_); refine put_row ?hg ?hn 109 (.tmp 4) (.tmp 24) ?ho g4 109 _ (#[.bool false, .int .i64 0, .int .i64 0, .bool false]) ?hp ?hx ?hu HL4.out ?ht ?hs ?h1 ?_; (case hg => rfl); (case hn => rfl); (case ho => rfl); (case hp => rfl); (case hx => rfl); (case hu => rfl); (case ht => kernel_rfl); (case hs => rfl); (case h1 => exact t109_one _ _ _ _); intro w5 hlit hg; have HLw5 := Aside0.mk hlit; have HK5 := Aside0.mk (HK4.out.grown hg HK4.out.size (fun q hq => by injection hq with hq; rw [← hq, HGw1.out]; exact Nat.le_refl _)); clear hlit hg))
  refine bodyPost_ret (results_ct rfl _ _ g4 109 _ (0, 0) _ rfl HLw5.out Try.underlying109 rfl (by kernel_rfl)) rfl ?_
  exact ⟨rfl, HK5.out⟩
theorem touched_calls (w : World) {L R : Nat} {ph : Ph} {cs : List S49} {nA : Nat} {s : St} (H : Live L R w ph cs nA s) (hsm : ∀ k, (s.row k).length ≤ 1000) (i : Int) :
    Calls Try.prog 67 #[.pointer (some ⟨ph.bm, 0, none⟩), .int .i64 i] w fun e w' => e = .returned (tchV (tchP cs s i)) ∧ Below w.heap.size w w' := by
  cases hn : nxt cs s i with
  | none =>
    have e : tchP cs s i = none := by unfold tchP; rw [hn]
    rw [e]
    exact touched_off w _ i (fun W hb => by
      have h := (H.below hb).next i
      rw [hn] at h
      exact h)
  | some a =>
    obtain ⟨⟨h0, h1⟩, hbad, ha⟩ := nxt_some hn
    have hv : varsOf cs s i = s.row (4 + 2 * i.toNat) := by unfold varsOf; rw [if_pos ⟨h0, h1⟩]
    have ok := (H.wf.act i h0 h1).1
    rw [← ha] at ok
    have e : tchP cs s i = tchA s i a := by unfold tchP; rw [hn]
    rw [e]
    unfold tchA
    by_cases k5 : a.f0 = 5
    · rw [if_pos k5]
      exact touched_hit w H i a hn _ hv (hsm _) (by rw [k5]; rfl) false false (by rw [k5]; rfl) (by rw [k5]; rfl) (fun h => by cases h)
    rw [if_neg k5]
    by_cases k6 : a.f0 = 6
    · rw [if_pos k6]
      exact touched_hit w H i a hn _ hv (hsm _) (by rw [k6]; rfl) false true (by rw [k6]; rfl) (by rw [k6]; rfl) (fun h => by cases h)
    rw [if_neg k6]
    by_cases k7 : a.f0 = 7
    · rw [if_pos k7]
      exact touched_hit w H i a hn _ hv (hsm _) (by rw [k7]; rfl) true false (by rw [k7]; rfl) (by rw [k7]; rfl) (fun _ => ok.x (by omega))
    rw [if_neg k7]
    by_cases k8 : a.f0 = 8
    · rw [if_pos k8]
      exact touched_hit w H i a hn _ hv (hsm _) (by rw [k8]; rfl) true true (by rw [k8]; rfl) (by rw [k8]; rfl) (fun _ => ok.x (by omega))
    rw [if_neg k8]
    exact touched_no w H i a hn _ hv (hsm _) (by simp [k5, k6, k7, k8])
def meetP : Option Tch → Option Tch → Bool
  | some a, some b => (a.arr == b.arr) && (a.g == b.g) && (a.ix == b.ix) && (a.wr || b.wr)
  | _, _ => false
set_option maxHeartbeats 4000000 in
set_option maxRecDepth 100000 in
theorem meet_nn (w : World) (p : Option Addr) (i k : Int) 
    (h1 : ∀ W, Below w.heap.size w W → Calls Try.prog 67 #[.pointer p, .int .i64 i] W fun e w' => e = .returned (.tuple #[.agg #[.bool false, .int .i64 0, .int .i64 0, .bool false], .bool false]) ∧ Below W.heap.size W w')
    (h2 : ∀ W, Below w.heap.size w W → Calls Try.prog 67 #[.pointer p, .int .i64 k] W fun e w' => e = .returned (.tuple #[.agg #[.bool false, .int .i64 0, .int .i64 0, .bool false], .bool false]) ∧ Below W.heap.size W w')  :
    Calls Try.prog 50 #[.pointer p, .int .i64 i, .int .i64 k] w fun e w' => e = .returned (.bool false) ∧ Below w.heap.size w w' := by
  have H1 := Aside0.mk h1
  have H2 := Aside0.mk h2
  clear h1 h2
  go_enter Try.func50, Try.ntmps50
  go_wp2_with (first | (go_at_call 67; (with_reducible refine (H1.out _ (Below.refl _ _)).mono ?_); rintro e w1 ⟨rfl, hb⟩; have HK1 := Aside0.mk hb; clear hb H1) | ((with_reducible refine gate_dst (N := 7) rfl ?_); refine box_event ?hg (N := 7) ?hd (cs := #[.bool false, .int .i64 0, .int .i64 0, .bool false]) (t := 109) ?hr ?_; (case hd => rfl); (case hg => rfl); (case hr => first | (go_simp; done) | (go_simp; rfl)); intro g7 hgg w2 hlit hb; have HLw2 := Aside0.mk hlit; have HKw2 := Aside0.mk hb; have HGw2 := Aside0.mk hgg; have HK2 := Aside0.mk (below_on HK1.out hb); clear hlit hb hgg) | ((with_reducible refine gate_store (t := 109) (p := 7) rfl ?_); refine put_row ?hg ?hn 109 (.tmp 7) (.tmp 15) ?ho g7 109 _ (#[.bool false, .int .i64 0, .int .i64 0, .bool false]) ?hp ?hx ?hu HLw2.out ?ht ?hs ?h1 ?_; (case hg => rfl); (case hn => rfl); (case ho => rfl); (case hp => rfl); (case hx => rfl); (case hu => rfl); (case ht => kernel_rfl); (case hs => rfl); (case h1 => exact t109_one _ _ _ _); intro w3 hlit hg; have HLw3 := Aside0.mk hlit; have HK3 := Aside0.mk (below_on HK1.out (put_below2 HKw2.out HGw2.out hg)); clear hlit hg) | (go_at_call 67; (with_reducible refine (H2.out _ HK3.out).mono ?_); rintro e w4 ⟨rfl, hb⟩; have HK4 := Aside0.mk (below_on HK3.out hb); have HL4 := Aside0.mk (below_read hb HLw3.out); clear hb) | ((with_reducible refine gate_dst (N := 9) rfl ?_); refine box_event ?hg (N := 9) ?hd (cs := #[.bool false, .int .i64 0, .int .i64 0, .bool false]) (t := 109) ?hr ?_; (case hd => rfl); (case hg => rfl); (case hr => first | (go_simp; done) | (go_simp; rfl)); intro g9 hgg w5 hlit hb; have HLw5 := Aside0.mk hlit; have HKw5 := Aside0.mk hb; have HGw5 := Aside0.mk hgg; have HL5 := Aside0.mk (below_read hb HL4.out); clear hlit hb hgg) | ((with_reducible refine gate_store (t := 109) (p := 9) rfl ?_); refine put_row ?hg ?hn 109 (.tmp 9) (.tmp 21) ?ho g9 109 _ (#[.bool false, .int .i64 0, .int .i64 0, .bool false]) ?hp ?hx ?hu HLw5.out ?ht ?hs ?h1 ?_; (case hg => rfl); (case hn => rfl); (case ho => rfl); (case hp => rfl); (case hx => rfl); (case hu => rfl); (case ht => kernel_rfl); (case hs => rfl); (case h1 => exact t109_one _ _ _ _); intro w6 hlit hg; have HLw6 := Aside0.mk hlit; have HK6 := Aside0.mk (below_on HK4.out (put_below2 HKw5.out HGw5.out hg)); have HL6 := Aside0.mk (blk_keep HL5.out hg (fun e => by injection e with e; have h1 := blk_lt HL4.out; rw [← e, HGw5.out] at h1; exact absurd h1 (Nat.lt_irrefl _))); have ca0 := (blk_cell HL6.out 0).trans rfl; have cb0 := (blk_cell hlit 0).trans rfl; have ca1 := (blk_cell HL6.out 1).trans rfl; have cb1 := (blk_cell hlit 1).trans rfl; have ca2 := (blk_cell HL6.out 2).trans rfl; have cb2 := (blk_cell hlit 2).trans rfl; have ca3 := (blk_cell HL6.out 3).trans rfl; have cb3 := (blk_cell hlit 3).trans rfl; clear hlit hg))
  go_ret
  exact ⟨rfl, HK6.out⟩
set_option maxHeartbeats 4000000 in
set_option maxRecDepth 100000 in
theorem meet_ns (w : World) (p : Option Addr) (i k : Int) (b : Tch)
    (h1 : ∀ W, Below w.heap.size w W → Calls Try.prog 67 #[.pointer p, .int .i64 i] W fun e w' => e = .returned (.tuple #[.agg #[.bool false, .int .i64 0, .int .i64 0, .bool false], .bool false]) ∧ Below W.heap.size W w')
    (h2 : ∀ W, Below w.heap.size w W → Calls Try.prog 67 #[.pointer p, .int .i64 k] W fun e w' => e = .returned (.tuple #[.agg #[.bool b.arr, .int .i64 b.g, .int .i64 b.ix, .bool b.wr], .bool true]) ∧ Below W.heap.size W w')  :
    Calls Try.prog 50 #[.pointer p, .int .i64 i, .int .i64 k] w fun e w' => e = .returned (.bool false) ∧ Below w.heap.size w w' := by
  have H1 := Aside0.mk h1
  have H2 := Aside0.mk h2
  clear h1 h2
  go_enter Try.func50, Try.ntmps50
  go_wp2_with (first | (go_at_call 67; (with_reducible refine (H1.out _ (Below.refl _ _)).mono ?_); rintro e w1 ⟨rfl, hb⟩; have HK1 := Aside0.mk hb; clear hb H1) | ((with_reducible refine gate_dst (N := 7) rfl ?_); refine box_event ?hg (N := 7) ?hd (cs := #[.bool false, .int .i64 0, .int .i64 0, .bool false]) (t := 109) ?hr ?_; (case hd => rfl); (case hg => rfl); (case hr => first | (go_simp; done) | (go_simp; rfl)); intro g7 hgg w2 hlit hb; have HLw2 := Aside0.mk hlit; have HKw2 := Aside0.mk hb; have HGw2 := Aside0.mk hgg; have HK2 := Aside0.mk (below_on HK1.out hb); clear hlit hb hgg) | ((with_reducible refine gate_store (t := 109) (p := 7) rfl ?_); refine put_row ?hg ?hn 109 (.tmp 7) (.tmp 15) ?ho g7 109 _ (#[.bool false, .int .i64 0, .int .i64 0, .bool false]) ?hp ?hx ?hu HLw2.out ?ht ?hs ?h1 ?_; (case hg => rfl); (case hn => rfl); (case ho => rfl); (case hp => rfl); (case hx => rfl); (case hu => rfl); (case ht => kernel_rfl); (case hs => rfl); (case h1 => exact t109_one _ _ _ _); intro w3 hlit hg; have HLw3 := Aside0.mk hlit; have HK3 := Aside0.mk (below_on HK1.out (put_below2 HKw2.out HGw2.out hg)); clear hlit hg) | (go_at_call 67; (with_reducible refine (H2.out _ HK3.out).mono ?_); rintro e w4 ⟨rfl, hb⟩; have HK4 := Aside0.mk (below_on HK3.out hb); have HL4 := Aside0.mk (below_read hb HLw3.out); clear hb) | ((with_reducible refine gate_dst (N := 9) rfl ?_); refine box_event ?hg (N := 9) ?hd (cs := #[.bool false, .int .i64 0, .int .i64 0, .bool false]) (t := 109) ?hr ?_; (case hd => rfl); (case hg => rfl); (case hr => first | (go_simp; done) | (go_simp; rfl)); intro g9 hgg w5 hlit hb; have HLw5 := Aside0.mk hlit; have HKw5 := Aside0.mk hb; have HGw5 := Aside0.mk hgg; have HL5 := Aside0.mk (below_read hb HL4.out); clear hlit hb hgg) | ((with_reducible refine gate_store (t := 109) (p := 9) rfl ?_); refine put_row ?hg ?hn 109 (.tmp 9) (.tmp 21) ?ho g9 109 _ (#[.bool b.arr, .int .i64 b.g, .int .i64 b.ix, .bool b.wr]) ?hp ?hx ?hu HLw5.out ?ht ?hs ?h1 ?_; (case hg => rfl); (case hn => rfl); (case ho => rfl); (case hp => rfl); (case hx => rfl); (case hu => rfl); (case ht => kernel_rfl); (case hs => rfl); (case h1 => exact t109_one _ _ _ _); intro w6 hlit hg; have HLw6 := Aside0.mk hlit; have HK6 := Aside0.mk (below_on HK4.out (put_below2 HKw5.out HGw5.out hg)); have HL6 := Aside0.mk (blk_keep HL5.out hg (fun e => by injection e with e; have h1 := blk_lt HL4.out; rw [← e, HGw5.out] at h1; exact absurd h1 (Nat.lt_irrefl _))); have ca0 := (blk_cell HL6.out 0).trans rfl; have cb0 := (blk_cell hlit 0).trans rfl; have ca1 := (blk_cell HL6.out 1).trans rfl; have cb1 := (blk_cell hlit 1).trans rfl; have ca2 := (blk_cell HL6.out 2).trans rfl; have cb2 := (blk_cell hlit 2).trans rfl; have ca3 := (blk_cell HL6.out 3).trans rfl; have cb3 := (blk_cell hlit 3).trans rfl; clear hlit hg))
  go_ret
  exact ⟨rfl, HK6.out⟩
set_option maxHeartbeats 4000000 in
set_option maxRecDepth 100000 in
theorem meet_sn (w : World) (p : Option Addr) (i k : Int) (a : Tch)
    (h1 : ∀ W, Below w.heap.size w W → Calls Try.prog 67 #[.pointer p, .int .i64 i] W fun e w' => e = .returned (.tuple #[.agg #[.bool a.arr, .int .i64 a.g, .int .i64 a.ix, .bool a.wr], .bool true]) ∧ Below W.heap.size W w')
    (h2 : ∀ W, Below w.heap.size w W → Calls Try.prog 67 #[.pointer p, .int .i64 k] W fun e w' => e = .returned (.tuple #[.agg #[.bool false, .int .i64 0, .int .i64 0, .bool false], .bool false]) ∧ Below W.heap.size W w')  :
    Calls Try.prog 50 #[.pointer p, .int .i64 i, .int .i64 k] w fun e w' => e = .returned (.bool false) ∧ Below w.heap.size w w' := by
  have H1 := Aside0.mk h1
  have H2 := Aside0.mk h2
  clear h1 h2
  go_enter Try.func50, Try.ntmps50
  go_wp2_with (first | (go_at_call 67; (with_reducible refine (H1.out _ (Below.refl _ _)).mono ?_); rintro e w1 ⟨rfl, hb⟩; have HK1 := Aside0.mk hb; clear hb H1) | ((with_reducible refine gate_dst (N := 7) rfl ?_); refine box_event ?hg (N := 7) ?hd (cs := #[.bool false, .int .i64 0, .int .i64 0, .bool false]) (t := 109) ?hr ?_; (case hd => rfl); (case hg => rfl); (case hr => first | (go_simp; done) | (go_simp; rfl)); intro g7 hgg w2 hlit hb; have HLw2 := Aside0.mk hlit; have HKw2 := Aside0.mk hb; have HGw2 := Aside0.mk hgg; have HK2 := Aside0.mk (below_on HK1.out hb); clear hlit hb hgg) | ((with_reducible refine gate_store (t := 109) (p := 7) rfl ?_); refine put_row ?hg ?hn 109 (.tmp 7) (.tmp 15) ?ho g7 109 _ (#[.bool a.arr, .int .i64 a.g, .int .i64 a.ix, .bool a.wr]) ?hp ?hx ?hu HLw2.out ?ht ?hs ?h1 ?_; (case hg => rfl); (case hn => rfl); (case ho => rfl); (case hp => rfl); (case hx => rfl); (case hu => rfl); (case ht => kernel_rfl); (case hs => rfl); (case h1 => exact t109_one _ _ _ _); intro w3 hlit hg; have HLw3 := Aside0.mk hlit; have HK3 := Aside0.mk (below_on HK1.out (put_below2 HKw2.out HGw2.out hg)); clear hlit hg) | (go_at_call 67; (with_reducible refine (H2.out _ HK3.out).mono ?_); rintro e w4 ⟨rfl, hb⟩; have HK4 := Aside0.mk (below_on HK3.out hb); have HL4 := Aside0.mk (below_read hb HLw3.out); clear hb) | ((with_reducible refine gate_dst (N := 9) rfl ?_); refine box_event ?hg (N := 9) ?hd (cs := #[.bool false, .int .i64 0, .int .i64 0, .bool false]) (t := 109) ?hr ?_; (case hd => rfl); (case hg => rfl); (case hr => first | (go_simp; done) | (go_simp; rfl)); intro g9 hgg w5 hlit hb; have HLw5 := Aside0.mk hlit; have HKw5 := Aside0.mk hb; have HGw5 := Aside0.mk hgg; have HL5 := Aside0.mk (below_read hb HL4.out); clear hlit hb hgg) | ((with_reducible refine gate_store (t := 109) (p := 9) rfl ?_); refine put_row ?hg ?hn 109 (.tmp 9) (.tmp 21) ?ho g9 109 _ (#[.bool false, .int .i64 0, .int .i64 0, .bool false]) ?hp ?hx ?hu HLw5.out ?ht ?hs ?h1 ?_; (case hg => rfl); (case hn => rfl); (case ho => rfl); (case hp => rfl); (case hx => rfl); (case hu => rfl); (case ht => kernel_rfl); (case hs => rfl); (case h1 => exact t109_one _ _ _ _); intro w6 hlit hg; have HLw6 := Aside0.mk hlit; have HK6 := Aside0.mk (below_on HK4.out (put_below2 HKw5.out HGw5.out hg)); have HL6 := Aside0.mk (blk_keep HL5.out hg (fun e => by injection e with e; have h1 := blk_lt HL4.out; rw [← e, HGw5.out] at h1; exact absurd h1 (Nat.lt_irrefl _))); have ca0 := (blk_cell HL6.out 0).trans rfl; have cb0 := (blk_cell hlit 0).trans rfl; have ca1 := (blk_cell HL6.out 1).trans rfl; have cb1 := (blk_cell hlit 1).trans rfl; have ca2 := (blk_cell HL6.out 2).trans rfl; have cb2 := (blk_cell hlit 2).trans rfl; have ca3 := (blk_cell HL6.out 3).trans rfl; have cb3 := (blk_cell hlit 3).trans rfl; clear hlit hg))
  go_ret
  exact ⟨rfl, HK6.out⟩
set_option maxHeartbeats 4000000 in
set_option maxRecDepth 100000 in
theorem meet_s0 (w : World) (p : Option Addr) (i k : Int) (a b : Tch)
    (h1 : ∀ W, Below w.heap.size w W → Calls Try.prog 67 #[.pointer p, .int .i64 i] W fun e w' => e = .returned (.tuple #[.agg #[.bool a.arr, .int .i64 a.g, .int .i64 a.ix, .bool a.wr], .bool true]) ∧ Below W.heap.size W w')
    (h2 : ∀ W, Below w.heap.size w W → Calls Try.prog 67 #[.pointer p, .int .i64 k] W fun e w' => e = .returned (.tuple #[.agg #[.bool b.arr, .int .i64 b.g, .int .i64 b.ix, .bool b.wr], .bool true]) ∧ Below W.heap.size W w') (ha : (a.arr == b.arr) = false) :
    Calls Try.prog 50 #[.pointer p, .int .i64 i, .int .i64 k] w fun e w' => e = .returned (.bool false) ∧ Below w.heap.size w w' := by
  have H1 := Aside0.mk h1
  have H2 := Aside0.mk h2
  clear h1 h2
  go_enter Try.func50, Try.ntmps50
  go_wp2_with (first | (go_at_call 67; (with_reducible refine (H1.out _ (Below.refl _ _)).mono ?_); rintro e w1 ⟨rfl, hb⟩; have HK1 := Aside0.mk hb; clear hb H1) | ((with_reducible refine gate_dst (N := 7) rfl ?_); refine box_event ?hg (N := 7) ?hd (cs := #[.bool false, .int .i64 0, .int .i64 0, .bool false]) (t := 109) ?hr ?_; (case hd => rfl); (case hg => rfl); (case hr => first | (go_simp; done) | (go_simp; rfl)); intro g7 hgg w2 hlit hb; have HLw2 := Aside0.mk hlit; have HKw2 := Aside0.mk hb; have HGw2 := Aside0.mk hgg; have HK2 := Aside0.mk (below_on HK1.out hb); clear hlit hb hgg) | ((with_reducible refine gate_store (t := 109) (p := 7) rfl ?_); refine put_row ?hg ?hn 109 (.tmp 7) (.tmp 15) ?ho g7 109 _ (#[.bool a.arr, .int .i64 a.g, .int .i64 a.ix, .bool a.wr]) ?hp ?hx ?hu HLw2.out ?ht ?hs ?h1 ?_; (case hg => rfl); (case hn => rfl); (case ho => rfl); (case hp => rfl); (case hx => rfl); (case hu => rfl); (case ht => kernel_rfl); (case hs => rfl); (case h1 => exact t109_one _ _ _ _); intro w3 hlit hg; have HLw3 := Aside0.mk hlit; have HK3 := Aside0.mk (below_on HK1.out (put_below2 HKw2.out HGw2.out hg)); clear hlit hg) | (go_at_call 67; (with_reducible refine (H2.out _ HK3.out).mono ?_); rintro e w4 ⟨rfl, hb⟩; have HK4 := Aside0.mk (below_on HK3.out hb); have HL4 := Aside0.mk (below_read hb HLw3.out); clear hb) | ((with_reducible refine gate_dst (N := 9) rfl ?_); refine box_event ?hg (N := 9) ?hd (cs := #[.bool false, .int .i64 0, .int .i64 0, .bool false]) (t := 109) ?hr ?_; (case hd => rfl); (case hg => rfl); (case hr => first | (go_simp; done) | (go_simp; rfl)); intro g9 hgg w5 hlit hb; have HLw5 := Aside0.mk hlit; have HKw5 := Aside0.mk hb; have HGw5 := Aside0.mk hgg; have HL5 := Aside0.mk (below_read hb HL4.out); clear hlit hb hgg) | ((with_reducible refine gate_store (t := 109) (p := 9) rfl ?_); refine put_row ?hg ?hn 109 (.tmp 9) (.tmp 21) ?ho g9 109 _ (#[.bool b.arr, .int .i64 b.g, .int .i64 b.ix, .bool b.wr]) ?hp ?hx ?hu HLw5.out ?ht ?hs ?h1 ?_; (case hg => rfl); (case hn => rfl); (case ho => rfl); (case hp => rfl); (case hx => rfl); (case hu => rfl); (case ht => kernel_rfl); (case hs => rfl); (case h1 => exact t109_one _ _ _ _); intro w6 hlit hg; have HLw6 := Aside0.mk hlit; have HK6 := Aside0.mk (below_on HK4.out (put_below2 HKw5.out HGw5.out hg)); have HL6 := Aside0.mk (blk_keep HL5.out hg (fun e => by injection e with e; have h1 := blk_lt HL4.out; rw [← e, HGw5.out] at h1; exact absurd h1 (Nat.lt_irrefl _))); have ca0 := (blk_cell HL6.out 0).trans rfl; have cb0 := (blk_cell hlit 0).trans rfl; have ca1 := (blk_cell HL6.out 1).trans rfl; have cb1 := (blk_cell hlit 1).trans rfl; have ca2 := (blk_cell HL6.out 2).trans rfl; have cb2 := (blk_cell hlit 2).trans rfl; have ca3 := (blk_cell HL6.out 3).trans rfl; have cb3 := (blk_cell hlit 3).trans rfl; clear hlit hg))
  go_ret
  exact ⟨rfl, HK6.out⟩
set_option maxHeartbeats 4000000 in
set_option maxRecDepth 100000 in
theorem meet_s1 (w : World) (p : Option Addr) (i k : Int) (a b : Tch)
    (h1 : ∀ W, Below w.heap.size w W → Calls Try.prog 67 #[.pointer p, .int .i64 i] W fun e w' => e = .returned (.tuple #[.agg #[.bool a.arr, .int .i64 a.g, .int .i64 a.ix, .bool a.wr], .bool true]) ∧ Below W.heap.size W w')
    (h2 : ∀ W, Below w.heap.size w W → Calls Try.prog 67 #[.pointer p, .int .i64 k] W fun e w' => e = .returned (.tuple #[.agg #[.bool b.arr, .int .i64 b.g, .int .i64 b.ix, .bool b.wr], .bool true]) ∧ Below W.heap.size W w') (ha : (a.arr == b.arr) = true) (hg : (a.g == b.g) = false) :
    Calls Try.prog 50 #[.pointer p, .int .i64 i, .int .i64 k] w fun e w' => e = .returned (.bool false) ∧ Below w.heap.size w w' := by
  have H1 := Aside0.mk h1
  have H2 := Aside0.mk h2
  clear h1 h2
  go_enter Try.func50, Try.ntmps50
  go_wp2_with (first | (go_at_call 67; (with_reducible refine (H1.out _ (Below.refl _ _)).mono ?_); rintro e w1 ⟨rfl, hb⟩; have HK1 := Aside0.mk hb; clear hb H1) | ((with_reducible refine gate_dst (N := 7) rfl ?_); refine box_event ?hg (N := 7) ?hd (cs := #[.bool false, .int .i64 0, .int .i64 0, .bool false]) (t := 109) ?hr ?_; (case hd => rfl); (case hg => rfl); (case hr => first | (go_simp; done) | (go_simp; rfl)); intro g7 hgg w2 hlit hb; have HLw2 := Aside0.mk hlit; have HKw2 := Aside0.mk hb; have HGw2 := Aside0.mk hgg; have HK2 := Aside0.mk (below_on HK1.out hb); clear hlit hb hgg) | ((with_reducible refine gate_store (t := 109) (p := 7) rfl ?_); refine put_row ?hg ?hn 109 (.tmp 7) (.tmp 15) ?ho g7 109 _ (#[.bool a.arr, .int .i64 a.g, .int .i64 a.ix, .bool a.wr]) ?hp ?hx ?hu HLw2.out ?ht ?hs ?h1 ?_; (case hg => rfl); (case hn => rfl); (case ho => rfl); (case hp => rfl); (case hx => rfl); (case hu => rfl); (case ht => kernel_rfl); (case hs => rfl); (case h1 => exact t109_one _ _ _ _); intro w3 hlit hg; have HLw3 := Aside0.mk hlit; have HK3 := Aside0.mk (below_on HK1.out (put_below2 HKw2.out HGw2.out hg)); clear hlit hg) | (go_at_call 67; (with_reducible refine (H2.out _ HK3.out).mono ?_); rintro e w4 ⟨rfl, hb⟩; have HK4 := Aside0.mk (below_on HK3.out hb); have HL4 := Aside0.mk (below_read hb HLw3.out); clear hb) | ((with_reducible refine gate_dst (N := 9) rfl ?_); refine box_event ?hg (N := 9) ?hd (cs := #[.bool false, .int .i64 0, .int .i64 0, .bool false]) (t := 109) ?hr ?_; (case hd => rfl); (case hg => rfl); (case hr => first | (go_simp; done) | (go_simp; rfl)); intro g9 hgg w5 hlit hb; have HLw5 := Aside0.mk hlit; have HKw5 := Aside0.mk hb; have HGw5 := Aside0.mk hgg; have HL5 := Aside0.mk (below_read hb HL4.out); clear hlit hb hgg) | ((with_reducible refine gate_store (t := 109) (p := 9) rfl ?_); refine put_row ?hg ?hn 109 (.tmp 9) (.tmp 21) ?ho g9 109 _ (#[.bool b.arr, .int .i64 b.g, .int .i64 b.ix, .bool b.wr]) ?hp ?hx ?hu HLw5.out ?ht ?hs ?h1 ?_; (case hg => rfl); (case hn => rfl); (case ho => rfl); (case hp => rfl); (case hx => rfl); (case hu => rfl); (case ht => kernel_rfl); (case hs => rfl); (case h1 => exact t109_one _ _ _ _); intro w6 hlit hg; have HLw6 := Aside0.mk hlit; have HK6 := Aside0.mk (below_on HK4.out (put_below2 HKw5.out HGw5.out hg)); have HL6 := Aside0.mk (blk_keep HL5.out hg (fun e => by injection e with e; have h1 := blk_lt HL4.out; rw [← e, HGw5.out] at h1; exact absurd h1 (Nat.lt_irrefl _))); have ca0 := (blk_cell HL6.out 0).trans rfl; have cb0 := (blk_cell hlit 0).trans rfl; have ca1 := (blk_cell HL6.out 1).trans rfl; have cb1 := (blk_cell hlit 1).trans rfl; have ca2 := (blk_cell HL6.out 2).trans rfl; have cb2 := (blk_cell hlit 2).trans rfl; have ca3 := (blk_cell HL6.out 3).trans rfl; have cb3 := (blk_cell hlit 3).trans rfl; clear hlit hg))
  go_ret
  exact ⟨rfl, HK6.out⟩
set_option maxHeartbeats 4000000 in
set_option maxRecDepth 100000 in
theorem meet_s2 (w : World) (p : Option Addr) (i k : Int) (a b : Tch)
    (h1 : ∀ W, Below w.heap.size w W → Calls Try.prog 67 #[.pointer p, .int .i64 i] W fun e w' => e = .returned (.tuple #[.agg #[.bool a.arr, .int .i64 a.g, .int .i64 a.ix, .bool a.wr], .bool true]) ∧ Below W.heap.size W w')
    (h2 : ∀ W, Below w.heap.size w W → Calls Try.prog 67 #[.pointer p, .int .i64 k] W fun e w' => e = .returned (.tuple #[.agg #[.bool b.arr, .int .i64 b.g, .int .i64 b.ix, .bool b.wr], .bool true]) ∧ Below W.heap.size W w') (ha : (a.arr == b.arr) = true) (hg : (a.g == b.g) = true) (hx : (a.ix == b.ix) = false) :
    Calls Try.prog 50 #[.pointer p, .int .i64 i, .int .i64 k] w fun e w' => e = .returned (.bool false) ∧ Below w.heap.size w w' := by
  have H1 := Aside0.mk h1
  have H2 := Aside0.mk h2
  clear h1 h2
  go_enter Try.func50, Try.ntmps50
  go_wp2_with (first | (go_at_call 67; (with_reducible refine (H1.out _ (Below.refl _ _)).mono ?_); rintro e w1 ⟨rfl, hb⟩; have HK1 := Aside0.mk hb; clear hb H1) | ((with_reducible refine gate_dst (N := 7) rfl ?_); refine box_event ?hg (N := 7) ?hd (cs := #[.bool false, .int .i64 0, .int .i64 0, .bool false]) (t := 109) ?hr ?_; (case hd => rfl); (case hg => rfl); (case hr => first | (go_simp; done) | (go_simp; rfl)); intro g7 hgg w2 hlit hb; have HLw2 := Aside0.mk hlit; have HKw2 := Aside0.mk hb; have HGw2 := Aside0.mk hgg; have HK2 := Aside0.mk (below_on HK1.out hb); clear hlit hb hgg) | ((with_reducible refine gate_store (t := 109) (p := 7) rfl ?_); refine put_row ?hg ?hn 109 (.tmp 7) (.tmp 15) ?ho g7 109 _ (#[.bool a.arr, .int .i64 a.g, .int .i64 a.ix, .bool a.wr]) ?hp ?hx ?hu HLw2.out ?ht ?hs ?h1 ?_; (case hg => rfl); (case hn => rfl); (case ho => rfl); (case hp => rfl); (case hx => rfl); (case hu => rfl); (case ht => kernel_rfl); (case hs => rfl); (case h1 => exact t109_one _ _ _ _); intro w3 hlit hg; have HLw3 := Aside0.mk hlit; have HK3 := Aside0.mk (below_on HK1.out (put_below2 HKw2.out HGw2.out hg)); clear hlit hg) | (go_at_call 67; (with_reducible refine (H2.out _ HK3.out).mono ?_); rintro e w4 ⟨rfl, hb⟩; have HK4 := Aside0.mk (below_on HK3.out hb); have HL4 := Aside0.mk (below_read hb HLw3.out); clear hb) | ((with_reducible refine gate_dst (N := 9) rfl ?_); refine box_event ?hg (N := 9) ?hd (cs := #[.bool false, .int .i64 0, .int .i64 0, .bool false]) (t := 109) ?hr ?_; (case hd => rfl); (case hg => rfl); (case hr => first | (go_simp; done) | (go_simp; rfl)); intro g9 hgg w5 hlit hb; have HLw5 := Aside0.mk hlit; have HKw5 := Aside0.mk hb; have HGw5 := Aside0.mk hgg; have HL5 := Aside0.mk (below_read hb HL4.out); clear hlit hb hgg) | ((with_reducible refine gate_store (t := 109) (p := 9) rfl ?_); refine put_row ?hg ?hn 109 (.tmp 9) (.tmp 21) ?ho g9 109 _ (#[.bool b.arr, .int .i64 b.g, .int .i64 b.ix, .bool b.wr]) ?hp ?hx ?hu HLw5.out ?ht ?hs ?h1 ?_; (case hg => rfl); (case hn => rfl); (case ho => rfl); (case hp => rfl); (case hx => rfl); (case hu => rfl); (case ht => kernel_rfl); (case hs => rfl); (case h1 => exact t109_one _ _ _ _); intro w6 hlit hg; have HLw6 := Aside0.mk hlit; have HK6 := Aside0.mk (below_on HK4.out (put_below2 HKw5.out HGw5.out hg)); have HL6 := Aside0.mk (blk_keep HL5.out hg (fun e => by injection e with e; have h1 := blk_lt HL4.out; rw [← e, HGw5.out] at h1; exact absurd h1 (Nat.lt_irrefl _))); have ca0 := (blk_cell HL6.out 0).trans rfl; have cb0 := (blk_cell hlit 0).trans rfl; have ca1 := (blk_cell HL6.out 1).trans rfl; have cb1 := (blk_cell hlit 1).trans rfl; have ca2 := (blk_cell HL6.out 2).trans rfl; have cb2 := (blk_cell hlit 2).trans rfl; have ca3 := (blk_cell HL6.out 3).trans rfl; have cb3 := (blk_cell hlit 3).trans rfl; clear hlit hg))
  go_ret
  exact ⟨rfl, HK6.out⟩
set_option maxHeartbeats 4000000 in
set_option maxRecDepth 100000 in
theorem meet_s3 (w : World) (p : Option Addr) (i k : Int) (a b : Tch)
    (h1 : ∀ W, Below w.heap.size w W → Calls Try.prog 67 #[.pointer p, .int .i64 i] W fun e w' => e = .returned (.tuple #[.agg #[.bool a.arr, .int .i64 a.g, .int .i64 a.ix, .bool true], .bool true]) ∧ Below W.heap.size W w')
    (h2 : ∀ W, Below w.heap.size w W → Calls Try.prog 67 #[.pointer p, .int .i64 k] W fun e w' => e = .returned (.tuple #[.agg #[.bool b.arr, .int .i64 b.g, .int .i64 b.ix, .bool b.wr], .bool true]) ∧ Below W.heap.size W w') (ha : (a.arr == b.arr) = true) (hg : (a.g == b.g) = true) (hx : (a.ix == b.ix) = true) :
    Calls Try.prog 50 #[.pointer p, .int .i64 i, .int .i64 k] w fun e w' => e = .returned (.bool true) ∧ Below w.heap.size w w' := by
  have H1 := Aside0.mk h1
  have H2 := Aside0.mk h2
  clear h1 h2
  go_enter Try.func50, Try.ntmps50
  go_wp2_with (first | (go_at_call 67; (with_reducible refine (H1.out _ (Below.refl _ _)).mono ?_); rintro e w1 ⟨rfl, hb⟩; have HK1 := Aside0.mk hb; clear hb H1) | ((with_reducible refine gate_dst (N := 7) rfl ?_); refine box_event ?hg (N := 7) ?hd (cs := #[.bool false, .int .i64 0, .int .i64 0, .bool false]) (t := 109) ?hr ?_; (case hd => rfl); (case hg => rfl); (case hr => first | (go_simp; done) | (go_simp; rfl)); intro g7 hgg w2 hlit hb; have HLw2 := Aside0.mk hlit; have HKw2 := Aside0.mk hb; have HGw2 := Aside0.mk hgg; have HK2 := Aside0.mk (below_on HK1.out hb); clear hlit hb hgg) | ((with_reducible refine gate_store (t := 109) (p := 7) rfl ?_); refine put_row ?hg ?hn 109 (.tmp 7) (.tmp 15) ?ho g7 109 _ (#[.bool a.arr, .int .i64 a.g, .int .i64 a.ix, .bool true]) ?hp ?hx ?hu HLw2.out ?ht ?hs ?h1 ?_; (case hg => rfl); (case hn => rfl); (case ho => rfl); (case hp => rfl); (case hx => rfl); (case hu => rfl); (case ht => kernel_rfl); (case hs => rfl); (case h1 => exact t109_one _ _ _ _); intro w3 hlit hg; have HLw3 := Aside0.mk hlit; have HK3 := Aside0.mk (below_on HK1.out (put_below2 HKw2.out HGw2.out hg)); clear hlit hg) | (go_at_call 67; (with_reducible refine (H2.out _ HK3.out).mono ?_); rintro e w4 ⟨rfl, hb⟩; have HK4 := Aside0.mk (below_on HK3.out hb); have HL4 := Aside0.mk (below_read hb HLw3.out); clear hb) | ((with_reducible refine gate_dst (N := 9) rfl ?_); refine box_event ?hg (N := 9) ?hd (cs := #[.bool false, .int .i64 0, .int .i64 0, .bool false]) (t := 109) ?hr ?_; (case hd => rfl); (case hg => rfl); (case hr => first | (go_simp; done) | (go_simp; rfl)); intro g9 hgg w5 hlit hb; have HLw5 := Aside0.mk hlit; have HKw5 := Aside0.mk hb; have HGw5 := Aside0.mk hgg; have HL5 := Aside0.mk (below_read hb HL4.out); clear hlit hb hgg) | ((with_reducible refine gate_store (t := 109) (p := 9) rfl ?_); refine put_row ?hg ?hn 109 (.tmp 9) (.tmp 21) ?ho g9 109 _ (#[.bool b.arr, .int .i64 b.g, .int .i64 b.ix, .bool b.wr]) ?hp ?hx ?hu HLw5.out ?ht ?hs ?h1 ?_; (case hg => rfl); (case hn => rfl); (case ho => rfl); (case hp => rfl); (case hx => rfl); (case hu => rfl); (case ht => kernel_rfl); (case hs => rfl); (case h1 => exact t109_one _ _ _ _); intro w6 hlit hg; have HLw6 := Aside0.mk hlit; have HK6 := Aside0.mk (below_on HK4.out (put_below2 HKw5.out HGw5.out hg)); have HL6 := Aside0.mk (blk_keep HL5.out hg (fun e => by injection e with e; have h1 := blk_lt HL4.out; rw [← e, HGw5.out] at h1; exact absurd h1 (Nat.lt_irrefl _))); have ca0 := (blk_cell HL6.out 0).trans rfl; have cb0 := (blk_cell hlit 0).trans rfl; have ca1 := (blk_cell HL6.out 1).trans rfl; have cb1 := (blk_cell hlit 1).trans rfl; have ca2 := (blk_cell HL6.out 2).trans rfl; have cb2 := (blk_cell hlit 2).trans rfl; have ca3 := (blk_cell HL6.out 3).trans rfl; have cb3 := (blk_cell hlit 3).trans rfl; clear hlit hg))
  go_ret
  exact ⟨rfl, HK6.out⟩
set_option maxHeartbeats 4000000 in
set_option maxRecDepth 100000 in
theorem meet_s4 (w : World) (p : Option Addr) (i k : Int) (a b : Tch)
    (h1 : ∀ W, Below w.heap.size w W → Calls Try.prog 67 #[.pointer p, .int .i64 i] W fun e w' => e = .returned (.tuple #[.agg #[.bool a.arr, .int .i64 a.g, .int .i64 a.ix, .bool false], .bool true]) ∧ Below W.heap.size W w')
    (h2 : ∀ W, Below w.heap.size w W → Calls Try.prog 67 #[.pointer p, .int .i64 k] W fun e w' => e = .returned (.tuple #[.agg #[.bool b.arr, .int .i64 b.g, .int .i64 b.ix, .bool b.wr], .bool true]) ∧ Below W.heap.size W w') (ha : (a.arr == b.arr) = true) (hg : (a.g == b.g) = true) (hx : (a.ix == b.ix) = true) :
    Calls Try.prog 50 #[.pointer p, .int .i64 i, .int .i64 k] w fun e w' => e = .returned (.bool b.wr) ∧ Below w.heap.size w w' := by
  have H1 := Aside0.mk h1
  have H2 := Aside0.mk h2
  clear h1 h2
  go_enter Try.func50, Try.ntmps50
  go_wp2_with (first | (go_at_call 67; (with_reducible refine (H1.out _ (Below.refl _ _)).mono ?_); rintro e w1 ⟨rfl, hb⟩; have HK1 := Aside0.mk hb; clear hb H1) | ((with_reducible refine gate_dst (N := 7) rfl ?_); refine box_event ?hg (N := 7) ?hd (cs := #[.bool false, .int .i64 0, .int .i64 0, .bool false]) (t := 109) ?hr ?_; (case hd => rfl); (case hg => rfl); (case hr => first | (go_simp; done) | (go_simp; rfl)); intro g7 hgg w2 hlit hb; have HLw2 := Aside0.mk hlit; have HKw2 := Aside0.mk hb; have HGw2 := Aside0.mk hgg; have HK2 := Aside0.mk (below_on HK1.out hb); clear hlit hb hgg) | ((with_reducible refine gate_store (t := 109) (p := 7) rfl ?_); refine put_row ?hg ?hn 109 (.tmp 7) (.tmp 15) ?ho g7 109 _ (#[.bool a.arr, .int .i64 a.g, .int .i64 a.ix, .bool false]) ?hp ?hx ?hu HLw2.out ?ht ?hs ?h1 ?_; (case hg => rfl); (case hn => rfl); (case ho => rfl); (case hp => rfl); (case hx => rfl); (case hu => rfl); (case ht => kernel_rfl); (case hs => rfl); (case h1 => exact t109_one _ _ _ _); intro w3 hlit hg; have HLw3 := Aside0.mk hlit; have HK3 := Aside0.mk (below_on HK1.out (put_below2 HKw2.out HGw2.out hg)); clear hlit hg) | (go_at_call 67; (with_reducible refine (H2.out _ HK3.out).mono ?_); rintro e w4 ⟨rfl, hb⟩; have HK4 := Aside0.mk (below_on HK3.out hb); have HL4 := Aside0.mk (below_read hb HLw3.out); clear hb) | ((with_reducible refine gate_dst (N := 9) rfl ?_); refine box_event ?hg (N := 9) ?hd (cs := #[.bool false, .int .i64 0, .int .i64 0, .bool false]) (t := 109) ?hr ?_; (case hd => rfl); (case hg => rfl); (case hr => first | (go_simp; done) | (go_simp; rfl)); intro g9 hgg w5 hlit hb; have HLw5 := Aside0.mk hlit; have HKw5 := Aside0.mk hb; have HGw5 := Aside0.mk hgg; have HL5 := Aside0.mk (below_read hb HL4.out); clear hlit hb hgg) | ((with_reducible refine gate_store (t := 109) (p := 9) rfl ?_); refine put_row ?hg ?hn 109 (.tmp 9) (.tmp 21) ?ho g9 109 _ (#[.bool b.arr, .int .i64 b.g, .int .i64 b.ix, .bool b.wr]) ?hp ?hx ?hu HLw5.out ?ht ?hs ?h1 ?_; (case hg => rfl); (case hn => rfl); (case ho => rfl); (case hp => rfl); (case hx => rfl); (case hu => rfl); (case ht => kernel_rfl); (case hs => rfl); (case h1 => exact t109_one _ _ _ _); intro w6 hlit hg; have HLw6 := Aside0.mk hlit; have HK6 := Aside0.mk (below_on HK4.out (put_below2 HKw5.out HGw5.out hg)); have HL6 := Aside0.mk (blk_keep HL5.out hg (fun e => by injection e with e; have h1 := blk_lt HL4.out; rw [← e, HGw5.out] at h1; exact absurd h1 (Nat.lt_irrefl _))); have ca0 := (blk_cell HL6.out 0).trans rfl; have cb0 := (blk_cell hlit 0).trans rfl; have ca1 := (blk_cell HL6.out 1).trans rfl; have cb1 := (blk_cell hlit 1).trans rfl; have ca2 := (blk_cell HL6.out 2).trans rfl; have cb2 := (blk_cell hlit 2).trans rfl; have ca3 := (blk_cell HL6.out 3).trans rfl; have cb3 := (blk_cell hlit 3).trans rfl; clear hlit hg))
  go_ret
  exact ⟨rfl, HK6.out⟩
theorem meet_any (w : World) (p : Option Addr) (i k : Int) (ti tk : Option Tch)
    (h1 : ∀ W, Below w.heap.size w W → Calls Try.prog 67 #[.pointer p, .int .i64 i] W fun e w' => e = .returned (tchV ti) ∧ Below W.heap.size W w')
    (h2 : ∀ W, Below w.heap.size w W → Calls Try.prog 67 #[.pointer p, .int .i64 k] W fun e w' => e = .returned (tchV tk) ∧ Below W.heap.size W w') :
    Calls Try.prog 50 #[.pointer p, .int .i64 i, .int .i64 k] w fun e w' => e = .returned (.bool (meetP ti tk)) ∧ Below w.heap.size w w' := by
  cases ti with
  | none =>
    cases tk with
    | none => exact meet_nn w p i k h1 h2
    | some b => exact meet_ns w p i k b h1 h2
  | some a =>
    cases tk with
    | none => exact meet_sn w p i k a h1 h2
    | some b =>
      cases ha : (a.arr == b.arr) with
      | false => rw [show meetP (some a) (some b) = false by simp [meetP, ha]]; exact meet_s0 w p i k a b h1 h2 ha
      | true =>
        cases hg : (a.g == b.g) with
        | false => rw [show meetP (some a) (some b) = false by simp [meetP, ha, hg]]; exact meet_s1 w p i k a b h1 h2 ha hg
        | true =>
          cases hx : (a.ix == b.ix) with
          | false => rw [show meetP (some a) (some b) = false by simp [meetP, ha, hg, hx]]; exact meet_s2 w p i k a b h1 h2 ha hg hx
          | true =>
            cases hw : a.wr with
            | true => rw [show meetP (some a) (some b) = true by simp [meetP, ha, hg, hx, hw]]; simp only [tchV, hw] at h1; exact meet_s3 w p i k a b h1 h2 ha hg hx
            | false => rw [show meetP (some a) (some b) = b.wr by simp [meetP, ha, hg, hx, hw]]; simp only [tchV, hw] at h1; exact meet_s4 w p i k a b h1 h2 ha hg hx
end
section
def flat2 : List (Nat × Nat) → List Value
  | [] => []
  | p :: l => (.int .i64 (p.1 : Int)) :: (.int .i64 (p.2 : Int)) :: flat2 l
theorem flat2_append (l m : List (Nat × Nat)) : flat2 (l ++ m) = flat2 l ++ flat2 m := by
  induction l with
  | nil => rfl
  | cons p l ih => simp [flat2, ih]
/-- The pairs with i, of those below k. -/
def row2 (mt : Nat → Nat → Bool) (i k : Nat) : List (Nat × Nat) := ((List.range k).filter (fun j => decide (i < j) && mt i j)).map (fun j => (i, j))
def outL (mt : Nat → Nat → Bool) (N i : Nat) : List (Nat × Nat) := (List.range i).flatMap (fun a => row2 mt a N)
def pairsL (mt : Nat → Nat → Bool) (N : Nat) : List (Nat × Nat) := outL mt N N
theorem row2_start (mt : Nat → Nat → Bool) (i : Nat) : row2 mt i (i + 1) = [] := by
  unfold row2
  rw [List.map_eq_nil_iff, List.filter_eq_nil_iff]
  intro j hj
  have := List.mem_range.1 hj
  simp; omega
theorem row2_yes {mt : Nat → Nat → Bool} {i k : Nat} (h : i < k) (hm : mt i k = true) : row2 mt i (k + 1) = row2 mt i k ++ [(i, k)] := by
  unfold row2
  rw [List.range_succ, List.filter_append, List.map_append]
  congr 1
  simp [h, hm]
theorem row2_no {mt : Nat → Nat → Bool} {i k : Nat} (hm : mt i k = false) : row2 mt i (k + 1) = row2 mt i k := by
  unfold row2
  rw [List.range_succ, List.filter_append, List.map_append]
  simp [hm]
theorem outL_succ (mt : Nat → Nat → Bool) (N i : Nat) : outL mt N (i + 1) = outL mt N i ++ row2 mt i N := by
  unfold outL
  rw [List.range_succ, List.flatMap_append]
  simp
theorem row2_le (mt : Nat → Nat → Bool) (i k : Nat) : (row2 mt i k).length ≤ k := by
  unfold row2
  rw [List.length_map]
  exact Nat.le_trans (List.length_filter_le _ _) (by simp)
theorem outL_le (mt : Nat → Nat → Bool) (N i : Nat) : (outL mt N i).length ≤ i * N := by
  induction i with
  | zero => simp [outL]
  | succ i ih =>
    rw [outL_succ, List.length_append, Nat.add_mul, Nat.one_mul]
    exact Nat.add_le_add ih (row2_le mt i N)
theorem info69 : (Try.prog.info? 69).map (fun i => (i.zero, i.size, i.bytes)) = some (some (.agg #[.int .i64 0, .int .i64 0]), 2, 16) := by kernel_rfl
section
variable {P : Program} {ops : Array Oper} {rest : List Oper} {o : Oper} {a : Act} {Q : Exit → Act → World → Prop}
theorem app2_event {W : World} (hgd : o.guard = none) (s x : Operand) (t e : TypeId) (z : Value) (bytes : Nat)
    (ho : o.op = .call { callee := .builtin .append, args := #[s, x], argTypes := #[t, t] })
    (ht : P.underlying t = some (.slice e)) (hinfo : (P.info? e).map (fun i => (i.zero, i.size, i.bytes)) = some (some z, 2, bytes)) (hz : z.cells.size = 2)
    (base : Nat) (v : Value) (n : Nat) (xs : List Value) (hs : a.eval s = v) (hown : W.ownsRow base e 2 v n xs) (g' c : Nat) (n1 n2 : Value) (hx : a.eval x = .slice (some ⟨g', 0, none⟩) 1 c) (h0 : W.cell? ⟨g', 0, none⟩ = some n1) (h1 : W.cell? ⟨g', 1, none⟩ = some n2) (h2 : n1.oneCell' = true) (h3 : n2.oneCell' = true)
    (hl : (n + 1) * bytes ≤ 140737488355328) (hn : n ≤ 1000) (hbase : base ≤ W.heap.size)
    (h : ∀ g cap w1, w1.ownsRow base e 2 (.slice (some ⟨g, 0, none⟩) (n + 1) cap) (n + 1) (xs ++ [n1, n2]) → W.grownBy w1 v.ownBlock → wpList P ops Q rest (a.put o.dst (.slice (some ⟨g, 0, none⟩) (n + 1) cap)) w1) :
    wpList P ops Q (o :: rest) a W := by
  refine wpList_plain hgd fun K hK => ?_
  obtain ⟨i0, hi, hzz⟩ := Option.map_eq_some_iff.1 hinfo
  simp only [Prod.mk.injEq] at hzz
  obtain ⟨hz0, hz1, hz2⟩ := hzz
  exact wp_append_lies W s x t ho base e i0 z 2 bytes ht hi hz0 hz1 hz2 hz (by decide) v n xs hs hown ⟨g', 0, none⟩ 1 c [n1, n2] hx rfl (fun j u hj => by
    have hjl := (List.getElem?_eq_some_iff.1 hj).1
    have hj0 : j = 0 ∨ j = 1 := by simp at hjl; omega
    rw [add_plain]
    rcases hj0 with rfl | rfl
    · have hu : u = n1 := by simpa using hj.symm
      rw [hu]; exact h0
    · have hu : u = n2 := by simpa using hj.symm
      rw [hu]; exact h1) (fun u hu => by
      simp at hu
      rcases hu with rfl | rfl
      · exact h2
      · exact h3) (by decide) (by unfold maxLen; omega) hl hbase _ rfl (fun g cap w1 h1 h2 h3 _ => hK _ _ (h g cap w1 h1 h2))
end
/-- Pairs, handed out. -/
def PairsOut (l : List (Nat × Nat)) (w : World) (e : Ending) (w' : World) : Prop := ∃ v, e = .returned v ∧ w'.ownsRow w.heap.size 69 2 v l.length (flat2 l) ∧ Below w.heap.size w w'
theorem own2_slice {w : World} {base n : Nat} {v : Value} {xs : List Value} (h : w.ownsRow base 69 2 v n xs) : ∃ A c, v = .slice A n c := by
  rcases h.2 with ⟨rfl, rfl⟩ | ⟨g, cap, cur, rfl, _⟩
  · exact ⟨none, 0, rfl⟩
  · exact ⟨_, _, rfl⟩
set_option maxHeartbeats 8000000 in
set_option maxRecDepth 100000 in
theorem pairs_1 (w : World) (p : Option Addr) (mt : Nat → Nat → Bool) (hM : ∀ (W : World) (i k : Nat), Below w.heap.size w W → i < 4 → k < 4 → Calls Try.prog 50 #[.pointer p, .int .i64 i, .int .i64 k] W fun e w' => e = .returned (.bool (mt i k)) ∧ Below W.heap.size W w') :
    Calls Try.prog 35 #[.pointer p, .int .i64 1] w fun e w' => PairsOut (pairsL mt 1) w e w' := by
  have HM := Aside0.mk hM
  clear hM
  go_enter Try.func35, Try.ntmps35
  go_wp2_with fail
  go_loopg [5, 11] 1 (fun gg s5 s11 wr => ∃ i : Nat, i ≤ 1 ∧ 1 - i ≤ gg ∧ s11 = .int .i64 i ∧ Aside0 (wr.ownsRow w.heap.size 69 2 s5 (outL mt 1 i).length (flat2 (outL mt 1 i)) ∧ Below w.heap.size w wr))
  case atStart => exact ⟨0, Nat.zero_le _, by omega, rfl, ⟨⟨rfl, .inl ⟨rfl, rfl⟩⟩, Below.refl _ _⟩⟩
  case round =>
    obtain ⟨i, hi, hgg, rfl, OW⟩ := hrel
    by_cases hlt : i < 1
    · have hltz : (i : Int) < 1 := by omega
      obtain ⟨A5, c5, e5⟩ := own2_slice OW.out.1
      rw [e5] at OW ⊢
      have HGG := Aside0.mk hgg
      clear e5 hgg
      go_wp2_with fail
      go_loopg [5, 7] 1 (fun gg s5 s7 wr => ∃ k : Nat, i < k ∧ k ≤ 1 ∧ 1 - k ≤ gg ∧ s7 = .int .i64 k ∧ Aside0 (wr.ownsRow w.heap.size 69 2 s5 (outL mt 1 i ++ row2 mt i k).length (flat2 (outL mt 1 i ++ row2 mt i k)) ∧ Below w.heap.size w wr))
      case atStart => exact ⟨i + 1, by omega, by omega, by omega, by go_num, ⟨by rw [row2_start, List.append_nil]; exact OW.out.1, OW.out.2⟩⟩
      case round =>
        clear OW
        obtain ⟨k, hik, hk, hgg, rfl, OQ⟩ := hrel
        by_cases hlq : k < 1
        · exact absurd hlq (by omega)
        · obtain rfl : k = 1 := by omega
          have hlqz : ¬ ((1 : Nat) : Int) < 1 := by omega
          go_wp2_with fail
          go_roundg (1 - (i + 1))
          case measure => have := HGG.out; omega
          case rel => exact ⟨i + 1, by omega, by omega, by go_num, ⟨by rw [outL_succ]; exact OQ.out.1, OQ.out.2⟩⟩
    · obtain rfl : i = 1 := by omega
      have hltz : ¬ ((1 : Nat) : Int) < 1 := by omega
      go_wp2_with fail
      go_ret
      exact ⟨_, rfl, OW.out.1, OW.out.2⟩
set_option maxHeartbeats 8000000 in
set_option maxRecDepth 100000 in
theorem pairs_2 (w : World) (p : Option Addr) (mt : Nat → Nat → Bool) (hM : ∀ (W : World) (i k : Nat), Below w.heap.size w W → i < 4 → k < 4 → Calls Try.prog 50 #[.pointer p, .int .i64 i, .int .i64 k] W fun e w' => e = .returned (.bool (mt i k)) ∧ Below W.heap.size W w') :
    Calls Try.prog 35 #[.pointer p, .int .i64 2] w fun e w' => PairsOut (pairsL mt 2) w e w' := by
  have HM := Aside0.mk hM
  clear hM
  go_enter Try.func35, Try.ntmps35
  go_wp2_with fail
  go_loopg [5, 11] 2 (fun gg s5 s11 wr => ∃ i : Nat, i ≤ 2 ∧ 2 - i ≤ gg ∧ s11 = .int .i64 i ∧ Aside0 (wr.ownsRow w.heap.size 69 2 s5 (outL mt 2 i).length (flat2 (outL mt 2 i)) ∧ Below w.heap.size w wr))
  case atStart => exact ⟨0, Nat.zero_le _, by omega, rfl, ⟨⟨rfl, .inl ⟨rfl, rfl⟩⟩, Below.refl _ _⟩⟩
  case round =>
    obtain ⟨i, hi, hgg, rfl, OW⟩ := hrel
    by_cases hlt : i < 2
    · have hltz : (i : Int) < 2 := by omega
      obtain ⟨A5, c5, e5⟩ := own2_slice OW.out.1
      rw [e5] at OW ⊢
      have HGG := Aside0.mk hgg
      clear e5 hgg
      go_wp2_with fail
      go_loopg [5, 7] 2 (fun gg s5 s7 wr => ∃ k : Nat, i < k ∧ k ≤ 2 ∧ 2 - k ≤ gg ∧ s7 = .int .i64 k ∧ Aside0 (wr.ownsRow w.heap.size 69 2 s5 (outL mt 2 i ++ row2 mt i k).length (flat2 (outL mt 2 i ++ row2 mt i k)) ∧ Below w.heap.size w wr))
      case atStart => exact ⟨i + 1, by omega, by omega, by omega, by go_num, ⟨by rw [row2_start, List.append_nil]; exact OW.out.1, OW.out.2⟩⟩
      case round =>
        clear OW
        obtain ⟨k, hik, hk, hgg, rfl, OQ⟩ := hrel
        by_cases hlq : k < 2
        · have hlqz : (k : Int) < 2 := by omega
          obtain ⟨A6, c6, e6⟩ := own2_slice OQ.out.1
          rw [e6] at OQ ⊢
          have HN := Aside0.mk (show (outL mt 2 i ++ row2 mt i k).length ≤ 20 by rw [List.length_append]; have h1 := outL_le mt 2 i; have h2 := row2_le mt i k; have h3 : i * 2 ≤ 2 * 2 := Nat.mul_le_mul_right _ (by omega); omega)
          clear e6
          generalize hL : outL mt 2 i ++ row2 mt i k = l2 at OQ HN ⊢
          have HL := Aside0.mk hL
          clear hL
          cases hm : mt i k with
          | false =>
            have HE := Aside0.mk (row2_no (i := i) hm)
            have HQ := Aside0.mk (HM.out wr i k OQ.out.2 (by omega) (by omega))
            rw [hm] at HQ
            clear hm
            go_wp2_with fail
            go_at_call 50
            refine HQ.out.mono ?_
            rintro e w1 ⟨rfl, hb⟩
            have HK1 := Aside0.mk hb
            clear hb
            go_wp2_with fail
            go_roundg (2 - (k + 1))
            case measure => omega
            case rel => exact ⟨k + 1, by omega, by omega, by omega, by go_num, ⟨by rw [HE.out, HL.out]; exact own_move OQ.out.1 (fun q hq => HK1.out.block q (OQ.out.1.lt q hq).2), below_on OQ.out.2 HK1.out⟩⟩
          | true =>
            have HE := Aside0.mk (row2_yes hik hm)
            have HQ := Aside0.mk (HM.out wr i k OQ.out.2 (by omega) (by omega))
            rw [hm] at HQ
            clear hm
            go_wp2_with fail
            go_at_call 50
            refine HQ.out.mono ?_
            rintro e w1 ⟨rfl, hb⟩
            have HK1 := Aside0.mk (below_on OQ.out.2 hb)
            have HO1 := Aside0.mk (own_move OQ.out.1 (fun q hq => hb.block q (OQ.out.1.lt q hq).2))
            clear hb
            go_wp2_with (first | ((with_reducible refine gate_dst (N := 30) rfl ?_); refine lit_ev2 (n := 1) ?hg (N := 30) ?hd (cs := #[.int .i64 i, .int .i64 k]) (t := 69) ?hr ?_; (case hd => rfl); (case hg => rfl); (case hr => first | (go_simp; done) | (go_simp; rfl)); intro q1 hgg w2 hlit hb; have HLw2 := Aside0.mk hlit; have HKw2 := Aside0.mk hb; have HGw2 := Aside0.mk hgg; have HK2 := Aside0.mk (below_on HK1.out hb); have HO2 := Aside0.mk (own_move HO1.out (fun q hq => hb.block q (HO1.out.lt q hq).2)); clear hlit hb hgg) | ((with_reducible refine gate_dst (N := 31) rfl ?_); refine app2_event ?hg (.tmp 26) (.tmp 30) 64 69 (.agg #[.int .i64 0, .int .i64 0]) 16 rfl Try.underlying64 info69 rfl w.heap.size (.slice A6 l2.length c6) l2.length (flat2 l2) rfl HO2.out q1 1 (.int .i64 i) (.int .i64 k) rfl ((blk_cell HLw2.out 0).trans rfl) ((blk_cell HLw2.out 1).trans rfl) rfl rfl (by have := HN.out; omega) (by have := HN.out; omega) HK2.out.size ?_; (case hg => rfl); intro g3 cap3 w3 ho3 hg3; have HO3 := Aside0.mk ho3; have HK3 := Aside0.mk (HK2.out.grown hg3 HK2.out.size (fun q hq => (HO2.out.lt q hq).1)); clear ho3 hg3))
            go_roundg (2 - (k + 1))
            case measure => omega
            case rel => exact ⟨k + 1, by omega, by omega, by omega, by go_num, ⟨by rw [HE.out, ← List.append_assoc, HL.out, flat2_append, List.length_append]; exact HO3.out, HK3.out⟩⟩
        · obtain rfl : k = 2 := by omega
          have hlqz : ¬ ((2 : Nat) : Int) < 2 := by omega
          go_wp2_with fail
          go_roundg (2 - (i + 1))
          case measure => have := HGG.out; omega
          case rel => exact ⟨i + 1, by omega, by omega, by go_num, ⟨by rw [outL_succ]; exact OQ.out.1, OQ.out.2⟩⟩
    · obtain rfl : i = 2 := by omega
      have hltz : ¬ ((2 : Nat) : Int) < 2 := by omega
      go_wp2_with fail
      go_ret
      exact ⟨_, rfl, OW.out.1, OW.out.2⟩
set_option maxHeartbeats 8000000 in
set_option maxRecDepth 100000 in
theorem pairs_3 (w : World) (p : Option Addr) (mt : Nat → Nat → Bool) (hM : ∀ (W : World) (i k : Nat), Below w.heap.size w W → i < 4 → k < 4 → Calls Try.prog 50 #[.pointer p, .int .i64 i, .int .i64 k] W fun e w' => e = .returned (.bool (mt i k)) ∧ Below W.heap.size W w') :
    Calls Try.prog 35 #[.pointer p, .int .i64 3] w fun e w' => PairsOut (pairsL mt 3) w e w' := by
  have HM := Aside0.mk hM
  clear hM
  go_enter Try.func35, Try.ntmps35
  go_wp2_with fail
  go_loopg [5, 11] 3 (fun gg s5 s11 wr => ∃ i : Nat, i ≤ 3 ∧ 3 - i ≤ gg ∧ s11 = .int .i64 i ∧ Aside0 (wr.ownsRow w.heap.size 69 2 s5 (outL mt 3 i).length (flat2 (outL mt 3 i)) ∧ Below w.heap.size w wr))
  case atStart => exact ⟨0, Nat.zero_le _, by omega, rfl, ⟨⟨rfl, .inl ⟨rfl, rfl⟩⟩, Below.refl _ _⟩⟩
  case round =>
    obtain ⟨i, hi, hgg, rfl, OW⟩ := hrel
    by_cases hlt : i < 3
    · have hltz : (i : Int) < 3 := by omega
      obtain ⟨A5, c5, e5⟩ := own2_slice OW.out.1
      rw [e5] at OW ⊢
      have HGG := Aside0.mk hgg
      clear e5 hgg
      go_wp2_with fail
      go_loopg [5, 7] 3 (fun gg s5 s7 wr => ∃ k : Nat, i < k ∧ k ≤ 3 ∧ 3 - k ≤ gg ∧ s7 = .int .i64 k ∧ Aside0 (wr.ownsRow w.heap.size 69 2 s5 (outL mt 3 i ++ row2 mt i k).length (flat2 (outL mt 3 i ++ row2 mt i k)) ∧ Below w.heap.size w wr))
      case atStart => exact ⟨i + 1, by omega, by omega, by omega, by go_num, ⟨by rw [row2_start, List.append_nil]; exact OW.out.1, OW.out.2⟩⟩
      case round =>
        clear OW
        obtain ⟨k, hik, hk, hgg, rfl, OQ⟩ := hrel
        by_cases hlq : k < 3
        · have hlqz : (k : Int) < 3 := by omega
          obtain ⟨A6, c6, e6⟩ := own2_slice OQ.out.1
          rw [e6] at OQ ⊢
          have HN := Aside0.mk (show (outL mt 3 i ++ row2 mt i k).length ≤ 20 by rw [List.length_append]; have h1 := outL_le mt 3 i; have h2 := row2_le mt i k; have h3 : i * 3 ≤ 3 * 3 := Nat.mul_le_mul_right _ (by omega); omega)
          clear e6
          generalize hL : outL mt 3 i ++ row2 mt i k = l2 at OQ HN ⊢
          have HL := Aside0.mk hL
          clear hL
          cases hm : mt i k with
          | false =>
            have HE := Aside0.mk (row2_no (i := i) hm)
            have HQ := Aside0.mk (HM.out wr i k OQ.out.2 (by omega) (by omega))
            rw [hm] at HQ
            clear hm
            go_wp2_with fail
            go_at_call 50
            refine HQ.out.mono ?_
            rintro e w1 ⟨rfl, hb⟩
            have HK1 := Aside0.mk hb
            clear hb
            go_wp2_with fail
            go_roundg (3 - (k + 1))
            case measure => omega
            case rel => exact ⟨k + 1, by omega, by omega, by omega, by go_num, ⟨by rw [HE.out, HL.out]; exact own_move OQ.out.1 (fun q hq => HK1.out.block q (OQ.out.1.lt q hq).2), below_on OQ.out.2 HK1.out⟩⟩
          | true =>
            have HE := Aside0.mk (row2_yes hik hm)
            have HQ := Aside0.mk (HM.out wr i k OQ.out.2 (by omega) (by omega))
            rw [hm] at HQ
            clear hm
            go_wp2_with fail
            go_at_call 50
            refine HQ.out.mono ?_
            rintro e w1 ⟨rfl, hb⟩
            have HK1 := Aside0.mk (below_on OQ.out.2 hb)
            have HO1 := Aside0.mk (own_move OQ.out.1 (fun q hq => hb.block q (OQ.out.1.lt q hq).2))
            clear hb
            go_wp2_with (first | ((with_reducible refine gate_dst (N := 30) rfl ?_); refine lit_ev2 (n := 1) ?hg (N := 30) ?hd (cs := #[.int .i64 i, .int .i64 k]) (t := 69) ?hr ?_; (case hd => rfl); (case hg => rfl); (case hr => first | (go_simp; done) | (go_simp; rfl)); intro q1 hgg w2 hlit hb; have HLw2 := Aside0.mk hlit; have HKw2 := Aside0.mk hb; have HGw2 := Aside0.mk hgg; have HK2 := Aside0.mk (below_on HK1.out hb); have HO2 := Aside0.mk (own_move HO1.out (fun q hq => hb.block q (HO1.out.lt q hq).2)); clear hlit hb hgg) | ((with_reducible refine gate_dst (N := 31) rfl ?_); refine app2_event ?hg (.tmp 26) (.tmp 30) 64 69 (.agg #[.int .i64 0, .int .i64 0]) 16 rfl Try.underlying64 info69 rfl w.heap.size (.slice A6 l2.length c6) l2.length (flat2 l2) rfl HO2.out q1 1 (.int .i64 i) (.int .i64 k) rfl ((blk_cell HLw2.out 0).trans rfl) ((blk_cell HLw2.out 1).trans rfl) rfl rfl (by have := HN.out; omega) (by have := HN.out; omega) HK2.out.size ?_; (case hg => rfl); intro g3 cap3 w3 ho3 hg3; have HO3 := Aside0.mk ho3; have HK3 := Aside0.mk (HK2.out.grown hg3 HK2.out.size (fun q hq => (HO2.out.lt q hq).1)); clear ho3 hg3))
            go_roundg (3 - (k + 1))
            case measure => omega
            case rel => exact ⟨k + 1, by omega, by omega, by omega, by go_num, ⟨by rw [HE.out, ← List.append_assoc, HL.out, flat2_append, List.length_append]; exact HO3.out, HK3.out⟩⟩
        · obtain rfl : k = 3 := by omega
          have hlqz : ¬ ((3 : Nat) : Int) < 3 := by omega
          go_wp2_with fail
          go_roundg (3 - (i + 1))
          case measure => have := HGG.out; omega
          case rel => exact ⟨i + 1, by omega, by omega, by go_num, ⟨by rw [outL_succ]; exact OQ.out.1, OQ.out.2⟩⟩
    · obtain rfl : i = 3 := by omega
      have hltz : ¬ ((3 : Nat) : Int) < 3 := by omega
      go_wp2_with fail
      go_ret
      exact ⟨_, rfl, OW.out.1, OW.out.2⟩
set_option maxHeartbeats 8000000 in
set_option maxRecDepth 100000 in
theorem pairs_4 (w : World) (p : Option Addr) (mt : Nat → Nat → Bool) (hM : ∀ (W : World) (i k : Nat), Below w.heap.size w W → i < 4 → k < 4 → Calls Try.prog 50 #[.pointer p, .int .i64 i, .int .i64 k] W fun e w' => e = .returned (.bool (mt i k)) ∧ Below W.heap.size W w') :
    Calls Try.prog 35 #[.pointer p, .int .i64 4] w fun e w' => PairsOut (pairsL mt 4) w e w' := by
  have HM := Aside0.mk hM
  clear hM
  go_enter Try.func35, Try.ntmps35
  go_wp2_with fail
  go_loopg [5, 11] 4 (fun gg s5 s11 wr => ∃ i : Nat, i ≤ 4 ∧ 4 - i ≤ gg ∧ s11 = .int .i64 i ∧ Aside0 (wr.ownsRow w.heap.size 69 2 s5 (outL mt 4 i).length (flat2 (outL mt 4 i)) ∧ Below w.heap.size w wr))
  case atStart => exact ⟨0, Nat.zero_le _, by omega, rfl, ⟨⟨rfl, .inl ⟨rfl, rfl⟩⟩, Below.refl _ _⟩⟩
  case round =>
    obtain ⟨i, hi, hgg, rfl, OW⟩ := hrel
    by_cases hlt : i < 4
    · have hltz : (i : Int) < 4 := by omega
      obtain ⟨A5, c5, e5⟩ := own2_slice OW.out.1
      rw [e5] at OW ⊢
      have HGG := Aside0.mk hgg
      clear e5 hgg
      go_wp2_with fail
      go_loopg [5, 7] 4 (fun gg s5 s7 wr => ∃ k : Nat, i < k ∧ k ≤ 4 ∧ 4 - k ≤ gg ∧ s7 = .int .i64 k ∧ Aside0 (wr.ownsRow w.heap.size 69 2 s5 (outL mt 4 i ++ row2 mt i k).length (flat2 (outL mt 4 i ++ row2 mt i k)) ∧ Below w.heap.size w wr))
      case atStart => exact ⟨i + 1, by omega, by omega, by omega, by go_num, ⟨by rw [row2_start, List.append_nil]; exact OW.out.1, OW.out.2⟩⟩
      case round =>
        clear OW
        obtain ⟨k, hik, hk, hgg, rfl, OQ⟩ := hrel
        by_cases hlq : k < 4
        · have hlqz : (k : Int) < 4 := by omega
          obtain ⟨A6, c6, e6⟩ := own2_slice OQ.out.1
          rw [e6] at OQ ⊢
          have HN := Aside0.mk (show (outL mt 4 i ++ row2 mt i k).length ≤ 20 by rw [List.length_append]; have h1 := outL_le mt 4 i; have h2 := row2_le mt i k; have h3 : i * 4 ≤ 4 * 4 := Nat.mul_le_mul_right _ (by omega); omega)
          clear e6
          generalize hL : outL mt 4 i ++ row2 mt i k = l2 at OQ HN ⊢
          have HL := Aside0.mk hL
          clear hL
          cases hm : mt i k with
          | false =>
            have HE := Aside0.mk (row2_no (i := i) hm)
            have HQ := Aside0.mk (HM.out wr i k OQ.out.2 (by omega) (by omega))
            rw [hm] at HQ
            clear hm
            go_wp2_with fail
            go_at_call 50
            refine HQ.out.mono ?_
            rintro e w1 ⟨rfl, hb⟩
            have HK1 := Aside0.mk hb
            clear hb
            go_wp2_with fail
            go_roundg (4 - (k + 1))
            case measure => omega
            case rel => exact ⟨k + 1, by omega, by omega, by omega, by go_num, ⟨by rw [HE.out, HL.out]; exact own_move OQ.out.1 (fun q hq => HK1.out.block q (OQ.out.1.lt q hq).2), below_on OQ.out.2 HK1.out⟩⟩
          | true =>
            have HE := Aside0.mk (row2_yes hik hm)
            have HQ := Aside0.mk (HM.out wr i k OQ.out.2 (by omega) (by omega))
            rw [hm] at HQ
            clear hm
            go_wp2_with fail
            go_at_call 50
            refine HQ.out.mono ?_
            rintro e w1 ⟨rfl, hb⟩
            have HK1 := Aside0.mk (below_on OQ.out.2 hb)
            have HO1 := Aside0.mk (own_move OQ.out.1 (fun q hq => hb.block q (OQ.out.1.lt q hq).2))
            clear hb
            go_wp2_with (first | ((with_reducible refine gate_dst (N := 30) rfl ?_); refine lit_ev2 (n := 1) ?hg (N := 30) ?hd (cs := #[.int .i64 i, .int .i64 k]) (t := 69) ?hr ?_; (case hd => rfl); (case hg => rfl); (case hr => first | (go_simp; done) | (go_simp; rfl)); intro q1 hgg w2 hlit hb; have HLw2 := Aside0.mk hlit; have HKw2 := Aside0.mk hb; have HGw2 := Aside0.mk hgg; have HK2 := Aside0.mk (below_on HK1.out hb); have HO2 := Aside0.mk (own_move HO1.out (fun q hq => hb.block q (HO1.out.lt q hq).2)); clear hlit hb hgg) | ((with_reducible refine gate_dst (N := 31) rfl ?_); refine app2_event ?hg (.tmp 26) (.tmp 30) 64 69 (.agg #[.int .i64 0, .int .i64 0]) 16 rfl Try.underlying64 info69 rfl w.heap.size (.slice A6 l2.length c6) l2.length (flat2 l2) rfl HO2.out q1 1 (.int .i64 i) (.int .i64 k) rfl ((blk_cell HLw2.out 0).trans rfl) ((blk_cell HLw2.out 1).trans rfl) rfl rfl (by have := HN.out; omega) (by have := HN.out; omega) HK2.out.size ?_; (case hg => rfl); intro g3 cap3 w3 ho3 hg3; have HO3 := Aside0.mk ho3; have HK3 := Aside0.mk (HK2.out.grown hg3 HK2.out.size (fun q hq => (HO2.out.lt q hq).1)); clear ho3 hg3))
            go_roundg (4 - (k + 1))
            case measure => omega
            case rel => exact ⟨k + 1, by omega, by omega, by omega, by go_num, ⟨by rw [HE.out, ← List.append_assoc, HL.out, flat2_append, List.length_append]; exact HO3.out, HK3.out⟩⟩
        · obtain rfl : k = 4 := by omega
          have hlqz : ¬ ((4 : Nat) : Int) < 4 := by omega
          go_wp2_with fail
          go_roundg (4 - (i + 1))
          case measure => have := HGG.out; omega
          case rel => exact ⟨i + 1, by omega, by omega, by go_num, ⟨by rw [outL_succ]; exact OQ.out.1, OQ.out.2⟩⟩
    · obtain rfl : i = 4 := by omega
      have hltz : ¬ ((4 : Nat) : Int) < 4 := by omega
      go_wp2_with fail
      go_ret
      exact ⟨_, rfl, OW.out.1, OW.out.2⟩
set_option maxHeartbeats 8000000 in
set_option maxRecDepth 100000 in
theorem pairs_many (w : World) (p : Option Addr) (mt : Nat → Nat → Bool) (n : Int) (hn : 4 < n) (hM : ∀ (W : World) (i k : Nat), Below w.heap.size w W → i < 4 → k < 4 → Calls Try.prog 50 #[.pointer p, .int .i64 i, .int .i64 k] W fun e w' => e = .returned (.bool (mt i k)) ∧ Below W.heap.size W w') :
    Calls Try.prog 35 #[.pointer p, .int .i64 n] w fun e w' => PairsOut (pairsL mt 4) w e w' := by
  have HM := Aside0.mk hM
  clear hM
  go_enter Try.func35, Try.ntmps35
  go_wp2_with fail
  go_loopg [5, 11] 4 (fun gg s5 s11 wr => ∃ i : Nat, i ≤ 4 ∧ 4 - i ≤ gg ∧ s11 = .int .i64 i ∧ Aside0 (wr.ownsRow w.heap.size 69 2 s5 (outL mt 4 i).length (flat2 (outL mt 4 i)) ∧ Below w.heap.size w wr))
  case atStart => exact ⟨0, Nat.zero_le _, by omega, rfl, ⟨⟨rfl, .inl ⟨rfl, rfl⟩⟩, Below.refl _ _⟩⟩
  case round =>
    obtain ⟨i, hi, hgg, rfl, OW⟩ := hrel
    by_cases hlt : i < 4
    · have hltz : (i : Int) < 4 := by omega
      obtain ⟨A5, c5, e5⟩ := own2_slice OW.out.1
      rw [e5] at OW ⊢
      have HGG := Aside0.mk hgg
      clear e5 hgg
      go_wp2_with fail
      go_loopg [5, 7] 4 (fun gg s5 s7 wr => ∃ k : Nat, i < k ∧ k ≤ 4 ∧ 4 - k ≤ gg ∧ s7 = .int .i64 k ∧ Aside0 (wr.ownsRow w.heap.size 69 2 s5 (outL mt 4 i ++ row2 mt i k).length (flat2 (outL mt 4 i ++ row2 mt i k)) ∧ Below w.heap.size w wr))
      case atStart => exact ⟨i + 1, by omega, by omega, by omega, by go_num, ⟨by rw [row2_start, List.append_nil]; exact OW.out.1, OW.out.2⟩⟩
      case round =>
        clear OW
        obtain ⟨k, hik, hk, hgg, rfl, OQ⟩ := hrel
        by_cases hlq : k < 4
        · have hlqz : (k : Int) < 4 := by omega
          obtain ⟨A6, c6, e6⟩ := own2_slice OQ.out.1
          rw [e6] at OQ ⊢
          have HN := Aside0.mk (show (outL mt 4 i ++ row2 mt i k).length ≤ 20 by rw [List.length_append]; have h1 := outL_le mt 4 i; have h2 := row2_le mt i k; have h3 : i * 4 ≤ 4 * 4 := Nat.mul_le_mul_right _ (by omega); omega)
          clear e6
          generalize hL : outL mt 4 i ++ row2 mt i k = l2 at OQ HN ⊢
          have HL := Aside0.mk hL
          clear hL
          cases hm : mt i k with
          | false =>
            have HE := Aside0.mk (row2_no (i := i) hm)
            have HQ := Aside0.mk (HM.out wr i k OQ.out.2 (by omega) (by omega))
            rw [hm] at HQ
            clear hm
            go_wp2_with fail
            go_at_call 50
            refine HQ.out.mono ?_
            rintro e w1 ⟨rfl, hb⟩
            have HK1 := Aside0.mk hb
            clear hb
            go_wp2_with fail
            go_roundg (4 - (k + 1))
            case measure => omega
            case rel => exact ⟨k + 1, by omega, by omega, by omega, by go_num, ⟨by rw [HE.out, HL.out]; exact own_move OQ.out.1 (fun q hq => HK1.out.block q (OQ.out.1.lt q hq).2), below_on OQ.out.2 HK1.out⟩⟩
          | true =>
            have HE := Aside0.mk (row2_yes hik hm)
            have HQ := Aside0.mk (HM.out wr i k OQ.out.2 (by omega) (by omega))
            rw [hm] at HQ
            clear hm
            go_wp2_with fail
            go_at_call 50
            refine HQ.out.mono ?_
            rintro e w1 ⟨rfl, hb⟩
            have HK1 := Aside0.mk (below_on OQ.out.2 hb)
            have HO1 := Aside0.mk (own_move OQ.out.1 (fun q hq => hb.block q (OQ.out.1.lt q hq).2))
            clear hb
            go_wp2_with (first | ((with_reducible refine gate_dst (N := 30) rfl ?_); refine lit_ev2 (n := 1) ?hg (N := 30) ?hd (cs := #[.int .i64 i, .int .i64 k]) (t := 69) ?hr ?_; (case hd => rfl); (case hg => rfl); (case hr => first | (go_simp; done) | (go_simp; rfl)); intro q1 hgg w2 hlit hb; have HLw2 := Aside0.mk hlit; have HKw2 := Aside0.mk hb; have HGw2 := Aside0.mk hgg; have HK2 := Aside0.mk (below_on HK1.out hb); have HO2 := Aside0.mk (own_move HO1.out (fun q hq => hb.block q (HO1.out.lt q hq).2)); clear hlit hb hgg) | ((with_reducible refine gate_dst (N := 31) rfl ?_); refine app2_event ?hg (.tmp 26) (.tmp 30) 64 69 (.agg #[.int .i64 0, .int .i64 0]) 16 rfl Try.underlying64 info69 rfl w.heap.size (.slice A6 l2.length c6) l2.length (flat2 l2) rfl HO2.out q1 1 (.int .i64 i) (.int .i64 k) rfl ((blk_cell HLw2.out 0).trans rfl) ((blk_cell HLw2.out 1).trans rfl) rfl rfl (by have := HN.out; omega) (by have := HN.out; omega) HK2.out.size ?_; (case hg => rfl); intro g3 cap3 w3 ho3 hg3; have HO3 := Aside0.mk ho3; have HK3 := Aside0.mk (HK2.out.grown hg3 HK2.out.size (fun q hq => (HO2.out.lt q hq).1)); clear ho3 hg3))
            go_roundg (4 - (k + 1))
            case measure => omega
            case rel => exact ⟨k + 1, by omega, by omega, by omega, by go_num, ⟨by rw [HE.out, ← List.append_assoc, HL.out, flat2_append, List.length_append]; exact HO3.out, HK3.out⟩⟩
        · obtain rfl : k = 4 := by omega
          have hlqz : ¬ ((4 : Nat) : Int) < 4 := by omega
          go_wp2_with fail
          go_roundg (4 - (i + 1))
          case measure => have := HGG.out; omega
          case rel => exact ⟨i + 1, by omega, by omega, by go_num, ⟨by rw [outL_succ]; exact OQ.out.1, OQ.out.2⟩⟩
    · obtain rfl : i = 4 := by omega
      have hltz : ¬ ((4 : Nat) : Int) < 4 := by omega
      go_wp2_with fail
      go_ret
      exact ⟨_, rfl, OW.out.1, OW.out.2⟩
set_option maxHeartbeats 4000000 in
set_option maxRecDepth 100000 in
theorem pairs_neg (w : World) (p : Option Addr) (mt : Nat → Nat → Bool) (n : Int) (hn : n < 0) :
    Calls Try.prog 35 #[.pointer p, .int .i64 n] w fun e w' => PairsOut (pairsL mt 0) w e w' := by
  go_enter Try.func35, Try.ntmps35
  go_wp2_with fail
  go_loopg [5, 11] 0 (fun gg s5 s11 wr => s5 = .slice none 0 0 ∧ s11 = .int .i64 0 ∧ Aside0 (wr = w))
  case atStart => exact ⟨rfl, rfl, ⟨rfl⟩⟩
  case round =>
    obtain ⟨rfl, rfl, HW⟩ := hrel
    go_wp2_with fail
    go_ret
    exact ⟨_, rfl, ⟨rfl, .inl ⟨rfl, rfl⟩⟩, HW.out ▸ Below.refl _ _⟩
set_option maxHeartbeats 4000000 in
set_option maxRecDepth 100000 in
theorem pairs_zero (w : World) (p : Option Addr) (mt : Nat → Nat → Bool) :
    Calls Try.prog 35 #[.pointer p, .int .i64 0] w fun e w' => PairsOut (pairsL mt 0) w e w' := by
  go_enter Try.func35, Try.ntmps35
  go_wp2_with fail
  go_loopg [5, 11] 0 (fun gg s5 s11 wr => s5 = .slice none 0 0 ∧ s11 = .int .i64 0 ∧ Aside0 (wr = w))
  case atStart => exact ⟨rfl, rfl, ⟨rfl⟩⟩
  case round =>
    obtain ⟨rfl, rfl, HW⟩ := hrel
    go_wp2_with fail
    go_ret
    exact ⟨_, rfl, ⟨rfl, .inl ⟨rfl, rfl⟩⟩, HW.out ▸ Below.refl _ _⟩
theorem pairs_none (w : World) (p : Option Addr) (mt : Nat → Nat → Bool) (n : Int) (hn : n ≤ 0) :
    Calls Try.prog 35 #[.pointer p, .int .i64 n] w fun e w' => PairsOut (pairsL mt 0) w e w' := by
  by_cases h : n < 0
  · exact pairs_neg w p mt n h
  · obtain rfl : n = 0 := by omega
    exact pairs_zero w p mt
def bnd (n : Int) : Nat := if n ≤ 0 then 0 else if 4 < n then 4 else n.toNat
theorem pairs_calls (w : World) (p : Option Addr) (mt : Nat → Nat → Bool) (hM : ∀ (W : World) (i k : Nat), Below w.heap.size w W → i < 4 → k < 4 → Calls Try.prog 50 #[.pointer p, .int .i64 i, .int .i64 k] W fun e w' => e = .returned (.bool (mt i k)) ∧ Below W.heap.size W w') (n : Int) :
    Calls Try.prog 35 #[.pointer p, .int .i64 n] w fun e w' => PairsOut (pairsL mt (bnd n)) w e w' := by
  unfold bnd
  by_cases h0 : n ≤ 0
  · rw [if_pos h0]; exact pairs_none w p mt n h0
  · rw [if_neg h0]
    by_cases h4 : 4 < n
    · rw [if_pos h4]; exact pairs_many w p mt n h4 hM
    · rw [if_neg h4]
      rcases (by omega : n = 1 ∨ n = 2 ∨ n = 3 ∨ n = 4) with rfl | rfl | rfl | rfl
      · exact pairs_1 w p mt hM
      · exact pairs_2 w p mt hM
      · exact pairs_3 w p mt hM
      · exact pairs_4 w p mt hM
set_option maxHeartbeats 4000000 in
set_option maxRecDepth 100000 in
theorem racing_calls (w : World) (p : Option Addr) (mt : Nat → Nat → Bool) (hM : ∀ (W : World) (i k : Nat), Below w.heap.size w W → i < 4 → k < 4 → Calls Try.prog 50 #[.pointer p, .int .i64 i, .int .i64 k] W fun e w' => e = .returned (.bool (mt i k)) ∧ Below W.heap.size W w') (n : Int) {b : Bool} (hb : decide (0 < (pairsL mt (bnd n)).length) = b) :
    Calls Try.prog 34 #[.pointer p, .int .i64 n] w fun e w' => e = .returned (.bool b) ∧ Below w.heap.size w w' := by
  have HP := Aside0.mk (pairs_calls w p mt hM n)
  have HB := Aside0.mk hb
  clear hM hb
  go_enter Try.func34, Try.ntmps34
  go_wp2_with fail
  go_at_call 35
  refine HP.out.mono ?_
  rintro e w1 ⟨v, rfl, ho, hk⟩
  obtain ⟨A, c, rfl⟩ := own2_slice ho
  generalize (pairsL mt (bnd n)).length = m at HB ⊢
  clear ho
  by_cases h : 0 < m
  · have hz : (0 : Int) < (m : Int) := by omega
    obtain rfl : b = true := by rw [← HB.out]; exact decide_eq_true h
    go_wp2_with fail
    go_ret
    exact ⟨rfl, hk⟩
  · have hz : ¬ (0 : Int) < (m : Int) := by omega
    obtain rfl : b = false := by rw [← HB.out]; exact decide_eq_false h
    go_wp2_with fail
    go_ret
    exact ⟨rfl, hk⟩
/-- Do threads i and k meet? -/
def mtP (cs : List S49) (s : St) (i k : Nat) : Bool := meetP (tchP cs s i) (tchP cs s k)
theorem Live.meets {L R : Nat} {w : World} {ph : Ph} {cs : List S49} {nA : Nat} {s : St} (H : Live L R w ph cs nA s) (hsm : ∀ k, (s.row k).length ≤ 1000) (W : World) (i k : Nat) (hb : Below w.heap.size w W) :
    Calls Try.prog 50 #[.pointer (some ⟨ph.bm, 0, none⟩), .int .i64 i, .int .i64 k] W fun e w' => e = .returned (.bool (mtP cs s i k)) ∧ Below W.heap.size W w' :=
  meet_any W _ i k _ _ (fun V hv => touched_calls V ((H.below hb).below hv) hsm i) (fun V hv => touched_calls V ((H.below hb).below hv) hsm k)
theorem Live.racing {L R : Nat} {w : World} {ph : Ph} {cs : List S49} {nA : Nat} {s : St} (H : Live L R w ph cs nA s) (hsm : ∀ k, (s.row k).length ≤ 1000) (n : Int) {b : Bool} (hb : decide (0 < (pairsL (mtP cs s) (bnd n)).length) = b) :
    Calls Try.prog 34 #[.pointer (some ⟨ph.bm, 0, none⟩), .int .i64 n] w fun e w' => e = .returned (.bool b) ∧ Below w.heap.size w w' :=
  racing_calls w _ (mtP cs s) (fun W i k h _ _ => H.meets hsm W i k h) n hb
theorem Live.pairs {L R : Nat} {w : World} {ph : Ph} {cs : List S49} {nA : Nat} {s : St} (H : Live L R w ph cs nA s) (hsm : ∀ k, (s.row k).length ≤ 1000) (n : Int) :
    Calls Try.prog 35 #[.pointer (some ⟨ph.bm, 0, none⟩), .int .i64 n] w fun e w' => PairsOut (pairsL (mtP cs s) (bnd n)) w e w' :=
  pairs_calls w _ (mtP cs s) (fun W i k h _ _ => H.meets hsm W i k h) n
def mtN (_ _ : Nat) : Bool := false
end
end Go.Proofs.Ytikjamcemnbhbaa.Mr
