/- show.printer.stmt, stmts: statements as lines. -/
import Derived.Test.YtfeaekdhpkdljaaDoorShCond
import Derived.Test.YtfeaekdhpkdljaaDoorShLine
namespace Go.Proofs.YtfeaekdhpkdljaaDoor.Sh
open Go.RowKit Go.Proofs.YtfeaekdhpkdljaaDoorW.PrintWords Go.Proofs.YtfeaekdhpkdljaaDoorW.PrintLast
set_option linter.unusedVariables false
set_option linter.unusedSimpArgs false
theorem Bu.below {b : Nat} {l : List UInt8} {w w' : World} (h : Bu b l w) (hb : Below w.heap.size w w') : Bu b l w' := by
  have hlt := h.lt
  rcases h with ⟨hB, v, hk, hown, hne⟩ | ⟨hB, v, hk, hown, hne⟩
  all_goals
    have hg : w.grownBy w' none := ⟨hb.os, hb.tape, hb.output, hb.size, fun k hk _ => hb.block k hk⟩
    have hk' := (hb.block b hlt).trans hk
    have ho' := hown.kept hg (by cases hv : v.ownBlock with
      | none => exact .inl rfl
      | some g => exact .inr (by simp))
  · exact .inl ⟨hB, v, hk', ho', hne⟩
  · exact .inr ⟨hB, v, hk', ho', hne⟩
theorem Fr.base {b : Nat} {w0 w w' : World} (h : Below w0.heap.size w0 w) (hb : w0.heap.size ≤ b) (hf : Fr b w w') : Below w0.heap.size w0 w' := h.trans ⟨hf.1.os, hf.1.tape, hf.1.output, hf.1.size, fun k hk => hf.1.block k (Nat.lt_of_lt_of_le hk hb)⟩
theorem add_add_ (a : Addr) (m n : Nat) : (a.add m).add n = a.add (m + n) := by
  unfold Addr.add
  by_cases hm : m = 0 <;> by_cases hn : n = 0 <;> simp [hm, hn, Nat.add_assoc]
section
variable {P : Program} {ops : Array Oper} {rest : List Oper} {o : Oper} {a : Act} {Q : Exit → Act → World → Prop} {Kc : Act → World → Prop}
theorem lit_ev2 {W : World} {n : Nat} (hgd : o.guard = none) {N : Tmp} (_hd : o.dst = some N) {cs : Array Value} {t : TypeId}
    (hrun : (execOp a.eval o).run P W = .ok (.value (.slice (some ⟨W.heap.size, 0, none⟩) n n)) (W.alloc (.cells cs t (0, 0))))
    (h : ∀ g, g = W.heap.size → ∀ w1, w1.heap[g]? = some (.cells cs t (0, 0)) → Below W.heap.size W w1 → wpList P ops Q rest (a.put o.dst (.slice (some ⟨g, 0, none⟩) n n)) w1) : wpList P ops Q (o :: rest) a W :=
  Kd.event_run hgd hrun (h _ rfl _ (blk_new W _) (below_alloc (Below.refl _ _) _))
theorem lit_step {W : World} {n : Nat} (hw : Region.wanted o (yielded ops a.tmps) = true) {N : Tmp} (_hd : o.dst = some N) {cs : Array Value} {t : TypeId}
    (hrun : (execOp a.eval o).run P W = .ok (.value (.slice (some ⟨W.heap.size, 0, none⟩) n n)) (W.alloc (.cells cs t (0, 0))))
    (h : ∀ g, g = W.heap.size → ∀ w1, w1.heap[g]? = some (.cells cs t (0, 0)) → Below W.heap.size W w1 → Kc (a.put o.dst (.slice (some ⟨g, 0, none⟩) n n)) w1) : if Region.wanted o (yielded ops a.tmps) = true then Oper.wp P o a W Kc Q else Kc (a.put o.dst undef) W :=
  event_step hw hrun (h _ rfl _ (blk_new W _) (below_alloc (Below.refl _ _) _))
theorem load_any {W : World} (hgd : o.guard = none) (ty : TypeId) (x : Operand) (ho : o.op = .load ty x) (a0 : Addr) (hx : a.eval x = .pointer (some a0)) (cs : List Value) (d : TypeDesc)
    (hu : P.underlying ty = some d) (hd : (match d with | .struct _ | .array _ _ => true | _ => false) = true) (hi : (P.info? ty).map (·.size) = some cs.length)
    (hc : ∀ j v, cs[j]? = some v → W.cell? (a0.add j) = some v) (h : wpList P ops Q rest (a.put o.dst (.agg cs.toArray)) W) : wpList P ops Q (o :: rest) a W := by
  refine wpList_plain hgd fun K hK => ?_
  have hl : (loadCells a0 cs.length).run P W = .ok cs.toArray W := run_loadCells_list (P := P) W a0 cs hc
  have hv : (loadVar ty a0).run P W = .ok (.agg cs.toArray) W := by
    cases hq : P.info? ty with
    | none => simp [hq] at hi
    | some i =>
      have hs : i.size = cs.length := by simpa [hq] using hi
      have hagg : (isAgg ty).run P W = .ok true W := by
        unfold isAgg
        rw [Sem.run_bind, run_underlying hu W]
        cases d <;> simp_all
      simp [loadVar, Sem.run_bind, hagg, sizeOf, typeInfo, hq, hs, hl]
  unfold Oper.wp execOp
  simp only [ho, hx, Instr.loadAt, Instr.sureAddr, Sem.run_bind, Sem.run_pure, Result.andThen_ok, hv]
  exact hK _ _ h
theorem put_val {W : World} (hgd : o.guard = none) (hN : o.dst = none) (t : TypeId) (p x : Operand) (ho : o.op = .store t p x) (g : Nat) (e : TypeId) (cur seg : Array Value) (v : Value)
    (hp : a.eval p = .pointer (some ⟨g, 0, none⟩)) (hx : a.eval x = v) (hu : v.cells = seg) (hh : W.heap[g]? = some (.cells cur e (0, 0))) (ht : (P.info? t).map (·.size) = some seg.size)
    (hs : seg.size = cur.size) (h1 : ∀ q ∈ seg.toList, q.oneCell' = true)
    (h : ∀ w', w'.heap[g]? = some (.cells seg e (0, 0)) → W.grownBy w' (some g) → wpList P ops Q rest a w') : wpList P ops Q (o :: rest) a W := by
  refine wpList_plain hgd fun K hK => ?_
  have hrun : (Instr.storeAt t (.pointer (some ⟨g, 0, none⟩)) v).run P W = .ok () (W.setCells g 0 seg.toList) :=
    run_store_run t v seg.toList hh (by rw [hu]) (by rw [Array.length_toList]; exact ht) (by rw [Array.length_toList]; omega) h1
  unfold Oper.wp execOp
  simp only [ho, hp, hx, Sem.run_bind, Sem.run_pure, Result.andThen_ok, hrun]
  show K (a.put o.dst undef) _
  rw [hN]
  refine hK a _ (h _ ?_ ?_)
  · obtain ⟨cur', h3, h4, h5⟩ := setCells_row seg.toList 0 W cur hh (by rw [Array.length_toList]; omega)
    rw [h3]
    have : cur' = seg := by
      apply Array.toList_inj.1
      rw [h5]
      simp only [List.take_zero, List.nil_append, Nat.zero_add, Array.length_toList]
      rw [List.drop_eq_nil_of_le (by rw [Array.length_toList]; omega), List.append_nil]
    rw [this]
  · obtain ⟨s1, s2, s3, s4⟩ := setCells_same g seg.toList 0 W
    exact ⟨s1, s2, s3, by rw [s4]; exact Nat.le_refl _, fun k _ hk => setCells_far seg.toList 0 k (fun e => hk (by rw [e]))⟩
end
abbrev lineL (ss : List ByteArray) : List UInt8 := catL ss ++ [10]
noncomputable def stmtF : Nat → S54 → List UInt8
  | 0, _ => []
  | n + 1, s => if s.f0 = 1 then lineL [s.f1, (⟨#[32, 61, 32]⟩ : ByteArray), exprS s.f3, (⟨#[59]⟩ : ByteArray)]
    else if s.f0 = 2 then lineL [s.f1, (⟨#[91]⟩ : ByteArray), exprS s.f2, (⟨#[93, 32, 61, 32]⟩ : ByteArray), exprS s.f3, (⟨#[59]⟩ : ByteArray)]
    else if s.f0 = 3 then lineL [(⟨#[108, 111, 99, 107, 32]⟩ : ByteArray), s.f1, (⟨#[59]⟩ : ByteArray)]
    else if s.f0 = 4 then lineL [(⟨#[117, 110, 108, 111, 99, 107, 32]⟩ : ByteArray), s.f1, (⟨#[59]⟩ : ByteArray)]
    else if s.f0 = 5 then lineL [(⟨#[105, 102, 32, 40]⟩ : ByteArray), condS s.f4, (⟨#[41, 32, 123]⟩ : ByteArray)] ++ (s.f5.flatMap (stmtF n) ++ ((if s.f6.length = 0 then [] else lineL [(⟨#[125, 32, 101, 108, 115, 101, 32, 123]⟩ : ByteArray)] ++ s.f6.flatMap (stmtF n)) ++ lineL [(⟨#[125]⟩ : ByteArray)]))
    else if s.f0 = 6 then lineL [(⟨#[119, 104, 105, 108, 101, 32, 40]⟩ : ByteArray), condS s.f4, (⟨#[41, 32, 123]⟩ : ByteArray)] ++ (s.f5.flatMap (stmtF n) ++ lineL [(⟨#[125]⟩ : ByteArray)])
    else if s.f0 = 7 then lineL [(⟨#[97, 115, 115, 101, 114, 116, 32]⟩ : ByteArray), condS s.f4, (⟨#[59]⟩ : ByteArray)]
    else if s.f0 = 8 then lineL [(⟨#[115, 107, 105, 112, 59]⟩ : ByteArray)]
    else lineL [(⟨#[63]⟩ : ByteArray)]
def okSt : Nat → S54 → Prop
  | 0, _ => True
  | n + 1, s => okE s.f2 ∧ okE s.f3 ∧ okCs s.f4 ∧ (∀ x ∈ s.f5, okSt n x) ∧ ∀ x ∈ s.f6, okSt n x
theorem body_size (s : S54) {x : S54} (h : x ∈ s.f5) : SizeOf.sizeOf x < SizeOf.sizeOf s := by
  have h1 := List.sizeOf_lt_of_mem h
  obtain ⟨a, b, c, d, e, f, g⟩ := s
  simp only [S54.mk.sizeOf_spec]
  simp only at h1
  omega
theorem else_size (s : S54) {x : S54} (h : x ∈ s.f6) : SizeOf.sizeOf x < SizeOf.sizeOf s := by
  have h1 := List.sizeOf_lt_of_mem h
  obtain ⟨a, b, c, d, e, f, g⟩ := s
  simp only [S54.mk.sizeOf_spec]
  simp only at h1
  omega
/-- A statement as a call has it: where its rows lie, read in the world w0. -/
structure At54 where
  (A6 A11 A14 A15 A16 A17 : Option Addr)
  (c6 c11 c14 c15 c16 c17 : Nat)
structure StIn (w0 : World) (s : S54) (p : At54) : Prop where
  (l6 : s.f2.f4.length ≤ p.c6) (g6 : k30.C w0 p.A6 s.f2.f4.length s.f2.f4)
  (l11 : s.f3.f4.length ≤ p.c11) (g11 : k30.C w0 p.A11 s.f3.f4.length s.f3.f4)
  (l14 : s.f4.f2.length ≤ p.c14) (g14 : k30.C w0 p.A14 s.f4.f2.length s.f4.f2)
  (l15 : s.f4.f3.length ≤ p.c15) (g15 : k33.C w0 p.A15 s.f4.f3.length s.f4.f3)
  (l16 : s.f5.length ≤ p.c16) (g16 : k54.C w0 p.A16 s.f5.length s.f5)
  (l17 : s.f6.length ≤ p.c17) (g17 : k54.C w0 p.A17 s.f6.length s.f6)
abbrev exprV (e : S30) (A : Option Addr) (c : Nat) : Value := .agg #[.int .i64 e.f0, .int .i64 e.f1, .int .i64 e.f2, .string e.f3, .slice A e.f4.length c]
abbrev condV (e : S33) (A2 : Option Addr) (c2 : Nat) (A3 : Option Addr) (c3 : Nat) : Value := .agg #[.int .i64 e.f0, .int .i64 e.f1, .slice A2 e.f2.length c2, .slice A3 e.f3.length c3]
abbrev stmtC (s : S54) (p : At54) : Array Value := #[.int .i64 s.f0, .string s.f1, .int .i64 s.f2.f0, .int .i64 s.f2.f1, .int .i64 s.f2.f2, .string s.f2.f3, .slice p.A6 s.f2.f4.length p.c6, .int .i64 s.f3.f0, .int .i64 s.f3.f1, .int .i64 s.f3.f2, .string s.f3.f3, .slice p.A11 s.f3.f4.length p.c11, .int .i64 s.f4.f0, .int .i64 s.f4.f1, .slice p.A14 s.f4.f2.length p.c14, .slice p.A15 s.f4.f3.length p.c15, .slice p.A16 s.f5.length p.c16, .slice p.A17 s.f6.length p.c17]
abbrev stmtV (s : S54) (p : At54) : Value := .agg (stmtC s p)
/-- What is asked of a call that prints, and what it leaves. -/
def Pre (w0 : World) (b : Nat) (l : List UInt8) (w : World) (add : List UInt8) : Prop := Bu b l w ∧ Below w0.heap.size w0 w ∧ w0.heap.size ≤ b ∧ Tab w0 ∧ l.length + add.length ≤ 140737488355328
def Post (b : Nat) (l : List UInt8) (w : World) (add : List UInt8) (e : Ending) (w' : World) : Prop := e = .returned (.tuple #[]) ∧ Bu b (l ++ add) w' ∧ Fr b w w'
set_option maxHeartbeats 8000000 in
set_option maxRecDepth 100000 in
theorem stmt_lock (n : Nat) (w0 : World) (s : S54) (p : At54) (b : Nat) (l : List UInt8) (w : World) (hin : StIn w0 s p) (hp : Pre w0 b l w (stmtF (n + 1) s)) (hk : s.f0 = 3) :
    Calls Tryd.prog 45 #[.pointer (some ⟨b, 0, none⟩), stmtV s p] w fun e w' => Post b l w (stmtF (n + 1) s) e w' := by
  have hv : stmtF (n + 1) s = lineL [(⟨#[108, 111, 99, 107, 32]⟩ : ByteArray), s.f1, (⟨#[59]⟩ : ByteArray)] := by
    simp only [stmtF]
    rw [if_neg (by omega), if_neg (by omega), if_pos hk]
  rw [hv] at hp ⊢
  obtain ⟨hB, hw, hb0, ht, hsz⟩ := hp
  have HB := Aside0.mk hB
  have HLT := Aside0.mk hB.lt
  have HL : Aside0 (∀ (W : World) (g : Nat), Bu b (l) W → W.heap[g]? = some (.cells (strV [(⟨#[108, 111, 99, 107, 32]⟩ : ByteArray), s.f1, (⟨#[59]⟩ : ByteArray)]) 9 (0, 0)) → g ≠ b → Calls Tryd.prog 23 #[.pointer (some ⟨b, 0, none⟩), .slice (some ⟨g, 0, none⟩) 3 3] W fun e w' => e = .returned (.tuple #[]) ∧ Bu b (l ++ lineL [(⟨#[108, 111, 99, 107, 32]⟩ : ByteArray), s.f1, (⟨#[59]⟩ : ByteArray)]) w' ∧ Fr b W w') := ⟨fun W g h1 h2 h3 => line_calls b (l) [(⟨#[108, 111, 99, 107, 32]⟩ : ByteArray), s.f1, (⟨#[59]⟩ : ByteArray)] g W h1 h2 h3 (by simp) (by rw [List.length_append] at hsz; exact hsz)⟩
  have kb1 : (s.f0 == 1) = false := beq_eq_false_iff_ne.mpr (by omega)
  have kb2 : (s.f0 == 2) = false := beq_eq_false_iff_ne.mpr (by omega)
  have kb3 : (s.f0 == 3) = true := beq_iff_eq.mpr hk
  have kb4 : (s.f0 == 4) = false := beq_eq_false_iff_ne.mpr (by omega)
  have kb5 : (s.f0 == 5) = false := beq_eq_false_iff_ne.mpr (by omega)
  have kb6 : (s.f0 == 6) = false := beq_eq_false_iff_ne.mpr (by omega)
  have kb7 : (s.f0 == 7) = false := beq_eq_false_iff_ne.mpr (by omega)
  have kb8 : (s.f0 == 8) = false := beq_eq_false_iff_ne.mpr (by omega)
  clear hB hw hb0 ht hsz hv hin hk
  unfold stmtV stmtC
  go_enter Tryd.func45, Tryd.ntmps45
  go_wp2_with (first | ((with_reducible refine gate_dst (N := 3) rfl ?_); refine box_event ?hg (N := 3) ?hd (cs := #[.int .i64 s.f0, .string s.f1, .int .i64 s.f2.f0, .int .i64 s.f2.f1, .int .i64 s.f2.f2, .string s.f2.f3, .slice p.A6 s.f2.f4.length p.c6, .int .i64 s.f3.f0, .int .i64 s.f3.f1, .int .i64 s.f3.f2, .string s.f3.f3, .slice p.A11 s.f3.f4.length p.c11, .int .i64 s.f4.f0, .int .i64 s.f4.f1, .slice p.A14 s.f4.f2.length p.c14, .slice p.A15 s.f4.f3.length p.c15, .slice p.A16 s.f5.length p.c16, .slice p.A17 s.f6.length p.c17]) (t := 54) ?hr ?_; (case hd => rfl); (case hg => rfl); (case hr => first | (go_simp; done) | (go_simp; rfl)); intro ge hgg w1 hlit hb; have HG := Aside0.mk hlit; have HB1 := Aside0.mk hb; have HGE := Aside0.mk hgg; have hy0 : w1.cell? ⟨ge, 0, none⟩ = some (.int .i64 s.f0) := (blk_cell hlit 0).trans rfl; have hy1 : w1.cell? ⟨ge, 1, none⟩ = some (.string s.f1) := (blk_cell hlit 1).trans rfl; clear hlit hb hgg) | ((with_reducible refine gate_dst (N := 37) rfl ?_); refine lit_ev2 (n := 3) ?hg (N := 37) ?hd (cs := #[.string (⟨#[108, 111, 99, 107, 32]⟩ : ByteArray), .string s.f1, .string (⟨#[59]⟩ : ByteArray)]) (t := 9) ?hr ?_; (case hd => rfl); (case hg => rfl); (case hr => first | (go_simp; done) | (go_simp; rfl)); intro g2 hgg w2 hlit hb; have HG2 := Aside0.mk (show w2.heap[g2]? = some (.cells (strV [(⟨#[108, 111, 99, 107, 32]⟩ : ByteArray), s.f1, (⟨#[59]⟩ : ByteArray)]) 9 (0, 0)) from hlit); have HF2 := Aside0.mk ((Fr.of (Nat.le_of_lt HLT.out) HB1.out).trans (Fr.of (Nat.le_trans (Nat.le_of_lt HLT.out) HB1.out.size) hb)); have HB2 := Aside0.mk ((HB.out.below HB1.out).below hb); have HN2 := Aside0.mk (show g2 ≠ b by have h1 := HLT.out; have h2 := HB1.out.size; omega); clear hlit hb hgg) | (go_at_call 23; (with_reducible refine (HL.out _ g2 HB2.out HG2.out HN2.out).mono ?_); rintro e1 w3 ⟨rfl, hb, hf⟩; have HB3 := Aside0.mk hb; have HF3 := Aside0.mk hf; clear hb hf))
  go_end0
  exact ⟨rfl, HB3.out, (HF2.out.trans HF3.out)⟩
set_option maxHeartbeats 8000000 in
set_option maxRecDepth 100000 in
theorem stmt_unlock (n : Nat) (w0 : World) (s : S54) (p : At54) (b : Nat) (l : List UInt8) (w : World) (hin : StIn w0 s p) (hp : Pre w0 b l w (stmtF (n + 1) s)) (hk : s.f0 = 4) :
    Calls Tryd.prog 45 #[.pointer (some ⟨b, 0, none⟩), stmtV s p] w fun e w' => Post b l w (stmtF (n + 1) s) e w' := by
  have hv : stmtF (n + 1) s = lineL [(⟨#[117, 110, 108, 111, 99, 107, 32]⟩ : ByteArray), s.f1, (⟨#[59]⟩ : ByteArray)] := by
    simp only [stmtF]
    rw [if_neg (by omega), if_neg (by omega), if_neg (by omega), if_pos hk]
  rw [hv] at hp ⊢
  obtain ⟨hB, hw, hb0, ht, hsz⟩ := hp
  have HB := Aside0.mk hB
  have HLT := Aside0.mk hB.lt
  have HL : Aside0 (∀ (W : World) (g : Nat), Bu b (l) W → W.heap[g]? = some (.cells (strV [(⟨#[117, 110, 108, 111, 99, 107, 32]⟩ : ByteArray), s.f1, (⟨#[59]⟩ : ByteArray)]) 9 (0, 0)) → g ≠ b → Calls Tryd.prog 23 #[.pointer (some ⟨b, 0, none⟩), .slice (some ⟨g, 0, none⟩) 3 3] W fun e w' => e = .returned (.tuple #[]) ∧ Bu b (l ++ lineL [(⟨#[117, 110, 108, 111, 99, 107, 32]⟩ : ByteArray), s.f1, (⟨#[59]⟩ : ByteArray)]) w' ∧ Fr b W w') := ⟨fun W g h1 h2 h3 => line_calls b (l) [(⟨#[117, 110, 108, 111, 99, 107, 32]⟩ : ByteArray), s.f1, (⟨#[59]⟩ : ByteArray)] g W h1 h2 h3 (by simp) (by rw [List.length_append] at hsz; exact hsz)⟩
  have kb1 : (s.f0 == 1) = false := beq_eq_false_iff_ne.mpr (by omega)
  have kb2 : (s.f0 == 2) = false := beq_eq_false_iff_ne.mpr (by omega)
  have kb3 : (s.f0 == 3) = false := beq_eq_false_iff_ne.mpr (by omega)
  have kb4 : (s.f0 == 4) = true := beq_iff_eq.mpr hk
  have kb5 : (s.f0 == 5) = false := beq_eq_false_iff_ne.mpr (by omega)
  have kb6 : (s.f0 == 6) = false := beq_eq_false_iff_ne.mpr (by omega)
  have kb7 : (s.f0 == 7) = false := beq_eq_false_iff_ne.mpr (by omega)
  have kb8 : (s.f0 == 8) = false := beq_eq_false_iff_ne.mpr (by omega)
  clear hB hw hb0 ht hsz hv hin hk
  unfold stmtV stmtC
  go_enter Tryd.func45, Tryd.ntmps45
  go_wp2_with (first | ((with_reducible refine gate_dst (N := 3) rfl ?_); refine box_event ?hg (N := 3) ?hd (cs := #[.int .i64 s.f0, .string s.f1, .int .i64 s.f2.f0, .int .i64 s.f2.f1, .int .i64 s.f2.f2, .string s.f2.f3, .slice p.A6 s.f2.f4.length p.c6, .int .i64 s.f3.f0, .int .i64 s.f3.f1, .int .i64 s.f3.f2, .string s.f3.f3, .slice p.A11 s.f3.f4.length p.c11, .int .i64 s.f4.f0, .int .i64 s.f4.f1, .slice p.A14 s.f4.f2.length p.c14, .slice p.A15 s.f4.f3.length p.c15, .slice p.A16 s.f5.length p.c16, .slice p.A17 s.f6.length p.c17]) (t := 54) ?hr ?_; (case hd => rfl); (case hg => rfl); (case hr => first | (go_simp; done) | (go_simp; rfl)); intro ge hgg w1 hlit hb; have HG := Aside0.mk hlit; have HB1 := Aside0.mk hb; have HGE := Aside0.mk hgg; have hy0 : w1.cell? ⟨ge, 0, none⟩ = some (.int .i64 s.f0) := (blk_cell hlit 0).trans rfl; have hy1 : w1.cell? ⟨ge, 1, none⟩ = some (.string s.f1) := (blk_cell hlit 1).trans rfl; clear hlit hb hgg) | ((with_reducible refine gate_dst (N := 44) rfl ?_); refine lit_ev2 (n := 3) ?hg (N := 44) ?hd (cs := #[.string (⟨#[117, 110, 108, 111, 99, 107, 32]⟩ : ByteArray), .string s.f1, .string (⟨#[59]⟩ : ByteArray)]) (t := 9) ?hr ?_; (case hd => rfl); (case hg => rfl); (case hr => first | (go_simp; done) | (go_simp; rfl)); intro g2 hgg w2 hlit hb; have HG2 := Aside0.mk (show w2.heap[g2]? = some (.cells (strV [(⟨#[117, 110, 108, 111, 99, 107, 32]⟩ : ByteArray), s.f1, (⟨#[59]⟩ : ByteArray)]) 9 (0, 0)) from hlit); have HF2 := Aside0.mk ((Fr.of (Nat.le_of_lt HLT.out) HB1.out).trans (Fr.of (Nat.le_trans (Nat.le_of_lt HLT.out) HB1.out.size) hb)); have HB2 := Aside0.mk ((HB.out.below HB1.out).below hb); have HN2 := Aside0.mk (show g2 ≠ b by have h1 := HLT.out; have h2 := HB1.out.size; omega); clear hlit hb hgg) | (go_at_call 23; (with_reducible refine (HL.out _ g2 HB2.out HG2.out HN2.out).mono ?_); rintro e1 w3 ⟨rfl, hb, hf⟩; have HB3 := Aside0.mk hb; have HF3 := Aside0.mk hf; clear hb hf))
  go_end0
  exact ⟨rfl, HB3.out, (HF2.out.trans HF3.out)⟩
set_option maxHeartbeats 8000000 in
set_option maxRecDepth 100000 in
theorem stmt_skip (n : Nat) (w0 : World) (s : S54) (p : At54) (b : Nat) (l : List UInt8) (w : World) (hin : StIn w0 s p) (hp : Pre w0 b l w (stmtF (n + 1) s)) (hk : s.f0 = 8) :
    Calls Tryd.prog 45 #[.pointer (some ⟨b, 0, none⟩), stmtV s p] w fun e w' => Post b l w (stmtF (n + 1) s) e w' := by
  have hv : stmtF (n + 1) s = lineL [(⟨#[115, 107, 105, 112, 59]⟩ : ByteArray)] := by
    simp only [stmtF]
    rw [if_neg (by omega), if_neg (by omega), if_neg (by omega), if_neg (by omega), if_neg (by omega), if_neg (by omega), if_neg (by omega), if_pos hk]
  rw [hv] at hp ⊢
  obtain ⟨hB, hw, hb0, ht, hsz⟩ := hp
  have HB := Aside0.mk hB
  have HLT := Aside0.mk hB.lt
  have HL : Aside0 (∀ (W : World) (g : Nat), Bu b (l) W → W.heap[g]? = some (.cells (strV [(⟨#[115, 107, 105, 112, 59]⟩ : ByteArray)]) 9 (0, 0)) → g ≠ b → Calls Tryd.prog 23 #[.pointer (some ⟨b, 0, none⟩), .slice (some ⟨g, 0, none⟩) 1 1] W fun e w' => e = .returned (.tuple #[]) ∧ Bu b (l ++ lineL [(⟨#[115, 107, 105, 112, 59]⟩ : ByteArray)]) w' ∧ Fr b W w') := ⟨fun W g h1 h2 h3 => line_calls b (l) [(⟨#[115, 107, 105, 112, 59]⟩ : ByteArray)] g W h1 h2 h3 (by simp) (by rw [List.length_append] at hsz; exact hsz)⟩
  have kb1 : (s.f0 == 1) = false := beq_eq_false_iff_ne.mpr (by omega)
  have kb2 : (s.f0 == 2) = false := beq_eq_false_iff_ne.mpr (by omega)
  have kb3 : (s.f0 == 3) = false := beq_eq_false_iff_ne.mpr (by omega)
  have kb4 : (s.f0 == 4) = false := beq_eq_false_iff_ne.mpr (by omega)
  have kb5 : (s.f0 == 5) = false := beq_eq_false_iff_ne.mpr (by omega)
  have kb6 : (s.f0 == 6) = false := beq_eq_false_iff_ne.mpr (by omega)
  have kb7 : (s.f0 == 7) = false := beq_eq_false_iff_ne.mpr (by omega)
  have kb8 : (s.f0 == 8) = true := beq_iff_eq.mpr hk
  clear hB hw hb0 ht hsz hv hin hk
  unfold stmtV stmtC
  go_enter Tryd.func45, Tryd.ntmps45
  go_wp2_with (first | ((with_reducible refine gate_dst (N := 3) rfl ?_); refine box_event ?hg (N := 3) ?hd (cs := #[.int .i64 s.f0, .string s.f1, .int .i64 s.f2.f0, .int .i64 s.f2.f1, .int .i64 s.f2.f2, .string s.f2.f3, .slice p.A6 s.f2.f4.length p.c6, .int .i64 s.f3.f0, .int .i64 s.f3.f1, .int .i64 s.f3.f2, .string s.f3.f3, .slice p.A11 s.f3.f4.length p.c11, .int .i64 s.f4.f0, .int .i64 s.f4.f1, .slice p.A14 s.f4.f2.length p.c14, .slice p.A15 s.f4.f3.length p.c15, .slice p.A16 s.f5.length p.c16, .slice p.A17 s.f6.length p.c17]) (t := 54) ?hr ?_; (case hd => rfl); (case hg => rfl); (case hr => first | (go_simp; done) | (go_simp; rfl)); intro ge hgg w1 hlit hb; have HG := Aside0.mk hlit; have HB1 := Aside0.mk hb; have HGE := Aside0.mk hgg; have hy0 : w1.cell? ⟨ge, 0, none⟩ = some (.int .i64 s.f0) := (blk_cell hlit 0).trans rfl; clear hlit hb hgg) | ((with_reducible refine gate_dst (N := 98) rfl ?_); refine lit_ev2 (n := 1) ?hg (N := 98) ?hd (cs := #[.string (⟨#[115, 107, 105, 112, 59]⟩ : ByteArray)]) (t := 9) ?hr ?_; (case hd => rfl); (case hg => rfl); (case hr => first | (go_simp; done) | (go_simp; rfl)); intro g2 hgg w2 hlit hb; have HG2 := Aside0.mk (show w2.heap[g2]? = some (.cells (strV [(⟨#[115, 107, 105, 112, 59]⟩ : ByteArray)]) 9 (0, 0)) from hlit); have HF2 := Aside0.mk ((Fr.of (Nat.le_of_lt HLT.out) HB1.out).trans (Fr.of (Nat.le_trans (Nat.le_of_lt HLT.out) HB1.out.size) hb)); have HB2 := Aside0.mk ((HB.out.below HB1.out).below hb); have HN2 := Aside0.mk (show g2 ≠ b by have h1 := HLT.out; have h2 := HB1.out.size; omega); clear hlit hb hgg) | (go_at_call 23; (with_reducible refine (HL.out _ g2 HB2.out HG2.out HN2.out).mono ?_); rintro e1 w3 ⟨rfl, hb, hf⟩; have HB3 := Aside0.mk hb; have HF3 := Aside0.mk hf; clear hb hf))
  go_end0
  exact ⟨rfl, HB3.out, (HF2.out.trans HF3.out)⟩
set_option maxHeartbeats 8000000 in
set_option maxRecDepth 100000 in
theorem stmt_none (n : Nat) (w0 : World) (s : S54) (p : At54) (b : Nat) (l : List UInt8) (w : World) (hin : StIn w0 s p) (hp : Pre w0 b l w (stmtF (n + 1) s)) (hk : ¬ (1 ≤ s.f0 ∧ s.f0 ≤ 8)) :
    Calls Tryd.prog 45 #[.pointer (some ⟨b, 0, none⟩), stmtV s p] w fun e w' => Post b l w (stmtF (n + 1) s) e w' := by
  have hv : stmtF (n + 1) s = lineL [(⟨#[63]⟩ : ByteArray)] := by
    simp only [stmtF]
    rw [if_neg (by omega), if_neg (by omega), if_neg (by omega), if_neg (by omega), if_neg (by omega), if_neg (by omega), if_neg (by omega), if_neg (by omega)]
  rw [hv] at hp ⊢
  obtain ⟨hB, hw, hb0, ht, hsz⟩ := hp
  have HB := Aside0.mk hB
  have HLT := Aside0.mk hB.lt
  have HL : Aside0 (∀ (W : World) (g : Nat), Bu b (l) W → W.heap[g]? = some (.cells (strV [(⟨#[63]⟩ : ByteArray)]) 9 (0, 0)) → g ≠ b → Calls Tryd.prog 23 #[.pointer (some ⟨b, 0, none⟩), .slice (some ⟨g, 0, none⟩) 1 1] W fun e w' => e = .returned (.tuple #[]) ∧ Bu b (l ++ lineL [(⟨#[63]⟩ : ByteArray)]) w' ∧ Fr b W w') := ⟨fun W g h1 h2 h3 => line_calls b (l) [(⟨#[63]⟩ : ByteArray)] g W h1 h2 h3 (by simp) (by rw [List.length_append] at hsz; exact hsz)⟩
  have kb1 : (s.f0 == 1) = false := beq_eq_false_iff_ne.mpr (by omega)
  have kb2 : (s.f0 == 2) = false := beq_eq_false_iff_ne.mpr (by omega)
  have kb3 : (s.f0 == 3) = false := beq_eq_false_iff_ne.mpr (by omega)
  have kb4 : (s.f0 == 4) = false := beq_eq_false_iff_ne.mpr (by omega)
  have kb5 : (s.f0 == 5) = false := beq_eq_false_iff_ne.mpr (by omega)
  have kb6 : (s.f0 == 6) = false := beq_eq_false_iff_ne.mpr (by omega)
  have kb7 : (s.f0 == 7) = false := beq_eq_false_iff_ne.mpr (by omega)
  have kb8 : (s.f0 == 8) = false := beq_eq_false_iff_ne.mpr (by omega)
  clear hB hw hb0 ht hsz hv hin hk
  unfold stmtV stmtC
  go_enter Tryd.func45, Tryd.ntmps45
  go_wp2_with (first | ((with_reducible refine gate_dst (N := 3) rfl ?_); refine box_event ?hg (N := 3) ?hd (cs := #[.int .i64 s.f0, .string s.f1, .int .i64 s.f2.f0, .int .i64 s.f2.f1, .int .i64 s.f2.f2, .string s.f2.f3, .slice p.A6 s.f2.f4.length p.c6, .int .i64 s.f3.f0, .int .i64 s.f3.f1, .int .i64 s.f3.f2, .string s.f3.f3, .slice p.A11 s.f3.f4.length p.c11, .int .i64 s.f4.f0, .int .i64 s.f4.f1, .slice p.A14 s.f4.f2.length p.c14, .slice p.A15 s.f4.f3.length p.c15, .slice p.A16 s.f5.length p.c16, .slice p.A17 s.f6.length p.c17]) (t := 54) ?hr ?_; (case hd => rfl); (case hg => rfl); (case hr => first | (go_simp; done) | (go_simp; rfl)); intro ge hgg w1 hlit hb; have HG := Aside0.mk hlit; have HB1 := Aside0.mk hb; have HGE := Aside0.mk hgg; have hy0 : w1.cell? ⟨ge, 0, none⟩ = some (.int .i64 s.f0) := (blk_cell hlit 0).trans rfl; clear hlit hb hgg) | ((with_reducible refine gate_dst (N := 7) rfl ?_); refine lit_ev2 (n := 1) ?hg (N := 7) ?hd (cs := #[.string (⟨#[63]⟩ : ByteArray)]) (t := 9) ?hr ?_; (case hd => rfl); (case hg => rfl); (case hr => first | (go_simp; done) | (go_simp; rfl)); intro g2 hgg w2 hlit hb; have HG2 := Aside0.mk (show w2.heap[g2]? = some (.cells (strV [(⟨#[63]⟩ : ByteArray)]) 9 (0, 0)) from hlit); have HF2 := Aside0.mk ((Fr.of (Nat.le_of_lt HLT.out) HB1.out).trans (Fr.of (Nat.le_trans (Nat.le_of_lt HLT.out) HB1.out.size) hb)); have HB2 := Aside0.mk ((HB.out.below HB1.out).below hb); have HN2 := Aside0.mk (show g2 ≠ b by have h1 := HLT.out; have h2 := HB1.out.size; omega); clear hlit hb hgg) | (go_at_call 23; (with_reducible refine (HL.out _ g2 HB2.out HG2.out HN2.out).mono ?_); rintro e1 w3 ⟨rfl, hb, hf⟩; have HB3 := Aside0.mk hb; have HF3 := Aside0.mk hf; clear hb hf))
  go_end0
  exact ⟨rfl, HB3.out, (HF2.out.trans HF3.out)⟩
theorem stmtC_one (s : S54) (p : At54) : ∀ q ∈ (stmtC s p).toList, q.oneCell' = true := by
  intro q hq
  simp only [stmtC, List.mem_cons, List.not_mem_nil, or_false] at hq
  rcases hq with h | h | h | h | h | h | h | h | h | h | h | h | h | h | h | h | h | h <;> subst h <;> rfl
theorem flat_take (n : Nat) (xs : List S54) (i : Nat) (h : i < xs.length) : (xs.take (i + 1)).flatMap (stmtF n) = (xs.take i).flatMap (stmtF n) ++ stmtF n xs[i] := by
  rw [List.take_succ_eq_append_getElem h, List.flatMap_append]
  simp
theorem flat_le (n : Nat) (xs : List S54) (i : Nat) : ((xs.take i).flatMap (stmtF n)).length ≤ (xs.flatMap (stmtF n)).length := by
  have h : xs.flatMap (stmtF n) = (xs.take i).flatMap (stmtF n) ++ (xs.drop i).flatMap (stmtF n) := by
    rw [← List.flatMap_append, List.take_append_drop]
  rw [h, List.length_append]
  omega
abbrev IHs (w0 : World) (n : Nat) : Prop := ∀ (s : S54) (p : At54) (b : Nat) (l : List UInt8) (w : World), StIn w0 s p → SizeOf.sizeOf s ≤ n → okSt n s → Pre w0 b l w (stmtF n s) → Calls Tryd.prog 45 #[.pointer (some ⟨b, 0, none⟩), stmtV s p] w fun e w' => Post b l w (stmtF n s) e w'
set_option maxHeartbeats 8000000 in
set_option maxRecDepth 100000 in
theorem stmts_calls (w0 : World) (n : Nat) (ih : IHs w0 n) (xs : List S54) (hz : ∀ x ∈ xs, SizeOf.sizeOf x ≤ n) (ok : ∀ x ∈ xs, okSt n x) (A : Option Addr) (c : Nat) (hC : k54.C w0 A xs.length xs) (b : Nat) (l : List UInt8) (w : World) (hp : Pre w0 b l w (xs.flatMap (stmtF n))) :
    Calls Tryd.prog 25 #[.pointer (some ⟨b, 0, none⟩), .slice A xs.length c] w fun e w' => Post b l w (xs.flatMap (stmtF n)) e w' := by
  obtain ⟨hB, hw, hb0, ht, hsz⟩ := hp
  have HB := Aside0.mk hB
  have HW := Aside0.mk hw
  have HC := Aside0.mk hC
  have HIH := Aside0.mk ih
  have HZ := Aside0.mk hz
  have HOK := Aside0.mk ok
  have HT := Aside0.mk ht
  have HX := Aside0.mk (⟨hb0, hsz⟩ : w0.heap.size ≤ b ∧ l.length + (xs.flatMap (stmtF n)).length ≤ 140737488355328)
  have hml : xs.length ≤ 9223372036854775807 := hC.2.1
  clear hB hw hC ih hz ok ht hb0 hsz
  go_enter Tryd.func25, Tryd.ntmps25
  go_wp2_with fail
  go_loopg [8] xs.length (fun gg s8 wr => ∃ i : Nat, i ≤ xs.length ∧ xs.length - i ≤ gg ∧ s8 = .int .i64 i ∧ Aside0 (Bu b (l ++ (xs.take i).flatMap (stmtF n)) wr ∧ Fr b w wr))
  case atStart => exact ⟨0, Nat.zero_le _, by omega, rfl, ⟨by simpa using HB.out, Fr.refl b w⟩⟩
  case round =>
    obtain ⟨i, hi, hgg, rfl, HL⟩ := hrel
    generalize wr = wo at *
    by_cases hlt : i < xs.length
    · have hltz : (i : Int) < (xs.length : Int) := by omega
      have HWO := Aside0.mk (Fr.base HW.out HX.out.1 HL.out.2)
      obtain ⟨ad, cc, rfl, _, hK, hc0⟩ := Kd.C_get HC.out z54 (i : Int) (by omega) hltz
      have hx : xs.getD (i : Int).toNat z54 = xs[i] := by simp [hlt]
      rw [hx] at hK
      have hc1 : ∀ j v, cc[j]? = some v → wo.cell? ((ad.add (i * 18)).add j) = some v := fun j v hj => by
        have h := hc0 j v hj
        rw [Int.toNat_natCast] at h
        rw [add_add_]
        exact pw_cell_below HWO.out h
      have HFT := Aside0.mk (flat_take n xs i hlt)
      have HFL := Aside0.mk (flat_le n xs (i + 1))
      have hm := List.getElem_mem hlt
      have HSZ := Aside0.mk (HZ.out _ hm)
      have HSO := Aside0.mk (HOK.out _ hm)
      obtain ⟨x, hxx⟩ : ∃ x, xs[i] = x := ⟨_, rfl⟩
      rw [hxx] at hK HFT HSZ HSO
      obtain ⟨A6, c6, A11, c11, A14, c14, A15, c15, A16, c16, A17, c17, rfl, l6, g6, l11, g11, l14, g14, l15, g15, l16, g16, l17, g17⟩ := k54_open hK
      have HIN := Aside0.mk (⟨l6, g6, l11, g11, l14, g14, l15, g15, l16, g16, l17, g17⟩ : StIn w0 x ⟨A6, A11, A14, A15, A16, A17, c6, c11, c14, c15, c16, c17⟩)
      have HCC := Aside0.mk hc1
      clear hc0 hc1 hK
      clear hx hxx hm l6 g6 l11 g11 l14 g14 l15 g15 l16 g16 l17 g17 hlt
      have HLT := Aside0.mk HL.out.1.lt
      go_wp2_with (first | ((with_reducible refine gate_dst (N := 11) rfl ?_); refine load_any ?hg 54 (.tmp 10) ?ho (ad.add (i * 18)) ?hx [.int .i64 x.f0, .string x.f1, .int .i64 x.f2.f0, .int .i64 x.f2.f1, .int .i64 x.f2.f2, .string x.f2.f3, .slice A6 x.f2.f4.length c6, .int .i64 x.f3.f0, .int .i64 x.f3.f1, .int .i64 x.f3.f2, .string x.f3.f3, .slice A11 x.f3.f4.length c11, .int .i64 x.f4.f0, .int .i64 x.f4.f1, .slice A14 x.f4.f2.length c14, .slice A15 x.f4.f3.length c15, .slice A16 x.f5.length c16, .slice A17 x.f6.length c17] _ Tryd.underlying54 ?hd ?hi HCC.out ?_; (case hg => rfl); (case ho => rfl); (case hx => rfl); (case hd => rfl); (case hi => kernel_rfl)) | ((with_reducible refine gate_dst (N := 13) rfl ?_); refine wpList_load_row ?hg 54 (.tmp 5) ?ho ga ?hx 54 _ (0, 0) _ HGX.out Tryd.underlying54 ?hd ?hi ?_; (case hg => rfl); (case ho => rfl); (case hx => rfl); (case hd => rfl); (case hi => kernel_rfl)) | ((with_reducible refine gate_dst (N := 5) rfl ?_); refine box_event ?hg (N := 5) ?hd (cs := #[.int .i64 0, .string ⟨#[]⟩, .int .i64 0, .int .i64 0, .int .i64 0, .string ⟨#[]⟩, .slice none 0 0, .int .i64 0, .int .i64 0, .int .i64 0, .string ⟨#[]⟩, .slice none 0 0, .int .i64 0, .int .i64 0, .slice none 0 0, .slice none 0 0, .slice none 0 0, .slice none 0 0]) (t := 54) ?hr ?_; (case hd => rfl); (case hg => rfl); (case hr => first | (go_simp; done) | (go_simp; rfl)); intro ga hgg w1 hlit hb; have HZZ := Aside0.mk hlit; have HGA := Aside0.mk hgg; have HB1 := Aside0.mk hb; clear hlit hb hgg) | ((with_reducible refine gate_store (t := 54) (p := 5) rfl ?_); refine put_val ?hg ?hn 54 (.tmp 5) (.tmp 11) ?ho ga 54 _ (#[.int .i64 x.f0, .string x.f1, .int .i64 x.f2.f0, .int .i64 x.f2.f1, .int .i64 x.f2.f2, .string x.f2.f3, .slice A6 x.f2.f4.length c6, .int .i64 x.f3.f0, .int .i64 x.f3.f1, .int .i64 x.f3.f2, .string x.f3.f3, .slice A11 x.f3.f4.length c11, .int .i64 x.f4.f0, .int .i64 x.f4.f1, .slice A14 x.f4.f2.length c14, .slice A15 x.f4.f3.length c15, .slice A16 x.f5.length c16, .slice A17 x.f6.length c17]) (.agg #[.int .i64 x.f0, .string x.f1, .int .i64 x.f2.f0, .int .i64 x.f2.f1, .int .i64 x.f2.f2, .string x.f2.f3, .slice A6 x.f2.f4.length c6, .int .i64 x.f3.f0, .int .i64 x.f3.f1, .int .i64 x.f3.f2, .string x.f3.f3, .slice A11 x.f3.f4.length c11, .int .i64 x.f4.f0, .int .i64 x.f4.f1, .slice A14 x.f4.f2.length c14, .slice A15 x.f4.f3.length c15, .slice A16 x.f5.length c16, .slice A17 x.f6.length c17]) ?hp ?hx ?hu HZZ.out ?ht ?hs ?h1 ?_; (case hg => rfl); (case hn => rfl); (case ho => rfl); (case hp => rfl); (case hx => rfl); (case hu => rfl); (case ht => kernel_rfl); (case hs => rfl); (case h1 => exact stmtC_one x ⟨A6, A11, A14, A15, A16, A17, c6, c11, c14, c15, c16, c17⟩); intro w2 hlit hg; have HBW := Aside0.mk (HB1.out.grown hg HB1.out.size (fun q hq => by injection hq with hq; rw [← hq, HGA.out]; exact Nat.le_refl _)); have HW2 := Aside0.mk (below_then HWO.out HWO.out.size HBW.out); have HF2 := Aside0.mk (HL.out.2.trans (Fr.of (Nat.le_of_lt HLT.out) HBW.out)); have HB2 := Aside0.mk (HL.out.1.below HBW.out); have HGX := Aside0.mk hlit; clear hlit hg))
      have HPRE := Aside0.mk (show Pre w0 b (l ++ (xs.take i).flatMap (stmtF n)) w2 (stmtF n x) from ⟨HB2.out, HW2.out, HX.out.1, HT.out, by
        have h1 := HX.out.2
        have h2 := HFL.out
        rw [HFT.out, List.length_append] at h2
        rw [List.length_append]
        omega⟩)
      refine (HIH.out x ⟨A6, A11, A14, A15, A16, A17, c6, c11, c14, c15, c16, c17⟩ b _ w2 HIN.out HSZ.out HSO.out HPRE.out).mono ?_
      rintro e1 w3 ⟨rfl, hb3, hf3⟩
      have HB3 := Aside0.mk hb3
      have HF3 := Aside0.mk (HF2.out.trans hf3)
      clear hb3 hf3
      go_wp2_with fail
      go_roundg (xs.length - (i + 1))
      case measure => omega
      case rel => exact ⟨i + 1, by omega, by omega, by go_num, ⟨by have h := HB3.out; rw [HFT.out, ← List.append_assoc]; exact h, HF3.out⟩⟩
    · have hltz : ¬ (i : Int) < (xs.length : Int) := by omega
      have he : xs.take i = xs := List.take_of_length_le (by omega)
      rw [he] at HL
      clear hlt he
      go_wp2_with fail
      go_end0
      exact ⟨rfl, HL.out.1, HL.out.2⟩
end Go.Proofs.YtfeaekdhpkdljaaDoor.Sh
