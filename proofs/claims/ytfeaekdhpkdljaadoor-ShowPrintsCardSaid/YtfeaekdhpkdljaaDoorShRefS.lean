/- meddlerref6.stmt, stmts: they answer what show lays. -/
import Derived.Test.YtfeaekdhpkdljaaDoorShRefE
import Derived.Test.YtfeaekdhpkdljaaDoorShStmt
import Derived.Deep.DeepCutAuto
import Derived.Deep.CutBlock
namespace Go.Proofs.YtfeaekdhpkdljaaDoor.Sh
open Go.RowKit Go.Proofs.YtfeaekdhpkdljaaDoorW.PrintWords Go.Proofs.YtfeaekdhpkdljaaDoorW.PrintLast
set_option linter.unusedVariables false
set_option linter.unusedSimpArgs false
theorem by_app (x y : ByteArray) : by_ (x ++ y) = by_ x ++ by_ y := by
  unfold by_
  rw [ByteArray.data_append, Array.toList_append]
theorem by_lit (l : List UInt8) : by_ ⟨l.toArray⟩ = l := rfl
theorem ba_of (x : ByteArray) {l : List UInt8} (h : by_ x = l) : (⟨l.toArray⟩ : ByteArray) = x := by
  subst h
  apply ByteArray.ext
  unfold by_
  simp
theorem by_size (x : ByteArray) : (by_ x).length = x.size := rfl
theorem StIn.below {w0 w : World} {s : S54} {p : At54} (h : StIn w0 s p) (hb : Below w0.heap.size w0 w) : StIn w s p :=
  ⟨h.l6, Kd.C_below h.g6 hb, h.l11, Kd.C_below h.g11 hb, h.l14, Kd.C_below h.g14 hb, h.l15, Kd.C_below h.g15 hb, h.l16, Kd.C_below h.g16 hb, h.l17, Kd.C_below h.g17 hb⟩
/-- A list of bytes as a string. -/
abbrev tx (l : List UInt8) : ByteArray := ⟨l.toArray⟩
theorem tx_size (l : List UInt8) : (tx l).size = l.length := by show l.toArray.size = _; simp
theorem tx_app (l m : List UInt8) : tx l ++ tx m = tx (l ++ m) := ba_app l m
abbrev IHr (n : Nat) : Prop := ∀ (s : S54) (p : At54) (w : World), StIn w s p → SizeOf.sizeOf s ≤ n → okSt n s → (stmtF n s).length ≤ 140737488355328 → Calls Tryd.prog 46 #[stmtV s p] w fun e w' => e = .returned (.string (tx (stmtF n s))) ∧ Below w.heap.size w w'
set_option maxHeartbeats 8000000 in
set_option maxRecDepth 100000 in
theorem rstmt_lock (n : Nat) (s : S54) (p : At54) (w : World) (hin : StIn w s p) (hk : s.f0 = 3) (hsz : (stmtF (n + 1) s).length ≤ 140737488355328) :
    Calls Tryd.prog 46 #[stmtV s p] w fun e w' => e = .returned (.string (tx (stmtF (n + 1) s))) ∧ Below w.heap.size w w' := by
  have hv : tx (stmtF (n + 1) s) = (((⟨#[108, 111, 99, 107, 32]⟩ : ByteArray) ++ s.f1) ++ (⟨#[59, 10]⟩ : ByteArray)) := by
    refine ba_of _ ?_
    simp only [stmtF]
    rw [if_neg (by omega), if_neg (by omega), if_pos hk]
    simp only [by_app, by_lit, lineL, catL, List.flatMap_cons, List.flatMap_nil, List.append_assoc, List.cons_append, List.nil_append, List.append_nil]
  rw [← tx_size, hv] at hsz
  rw [hv]
  simp only [ByteArray.size_append, szl14, List.size_toArray, List.length_cons, List.length_nil, Nat.zero_add, Nat.reduceAdd] at hsz
  have hq1 : 5 + s.f1.size ≤ 9223372036854775807 := by omega
  have hq2 : 5 + s.f1.size + 2 ≤ 9223372036854775807 := by omega
  have kb1 : (s.f0 == 1) = false := beq_eq_false_iff_ne.mpr (by omega)
  have kb2 : (s.f0 == 2) = false := beq_eq_false_iff_ne.mpr (by omega)
  have kb3 : (s.f0 == 3) = true := beq_iff_eq.mpr hk
  have kb4 : (s.f0 == 4) = false := beq_eq_false_iff_ne.mpr (by omega)
  have kb5 : (s.f0 == 5) = false := beq_eq_false_iff_ne.mpr (by omega)
  have kb6 : (s.f0 == 6) = false := beq_eq_false_iff_ne.mpr (by omega)
  have kb7 : (s.f0 == 7) = false := beq_eq_false_iff_ne.mpr (by omega)
  have kb8 : (s.f0 == 8) = false := beq_eq_false_iff_ne.mpr (by omega)
  clear hin hv hk
  unfold stmtV stmtC
  go_enter Tryd.func46, Tryd.ntmps46
  go_wp2_with (first | ((with_reducible refine gate_dst (N := 1) rfl ?_); refine box_event ?hg (N := 1) ?hd (cs := #[.int .i64 s.f0, .string s.f1, .int .i64 s.f2.f0, .int .i64 s.f2.f1, .int .i64 s.f2.f2, .string s.f2.f3, .slice p.A6 s.f2.f4.length p.c6, .int .i64 s.f3.f0, .int .i64 s.f3.f1, .int .i64 s.f3.f2, .string s.f3.f3, .slice p.A11 s.f3.f4.length p.c11, .int .i64 s.f4.f0, .int .i64 s.f4.f1, .slice p.A14 s.f4.f2.length p.c14, .slice p.A15 s.f4.f3.length p.c15, .slice p.A16 s.f5.length p.c16, .slice p.A17 s.f6.length p.c17]) (t := 54) ?hr ?_; (case hd => rfl); (case hg => rfl); (case hr => first | (go_simp; done) | (go_simp; rfl)); intro ge hgg w1 hlit hb; have HG := Aside0.mk hlit; have HB1 := Aside0.mk hb; have hy0 : w1.cell? ⟨ge, 0, none⟩ = some (.int .i64 s.f0) := (blk_cell hlit 0).trans rfl; have hy1 : w1.cell? ⟨ge, 1, none⟩ = some (.string s.f1) := (blk_cell hlit 1).trans rfl; clear hlit hb hgg))
  go_ret
  exact ⟨rfl, HB1.out⟩
set_option maxHeartbeats 8000000 in
set_option maxRecDepth 100000 in
theorem rstmt_unlock (n : Nat) (s : S54) (p : At54) (w : World) (hin : StIn w s p) (hk : s.f0 = 4) (hsz : (stmtF (n + 1) s).length ≤ 140737488355328) :
    Calls Tryd.prog 46 #[stmtV s p] w fun e w' => e = .returned (.string (tx (stmtF (n + 1) s))) ∧ Below w.heap.size w w' := by
  have hv : tx (stmtF (n + 1) s) = (((⟨#[117, 110, 108, 111, 99, 107, 32]⟩ : ByteArray) ++ s.f1) ++ (⟨#[59, 10]⟩ : ByteArray)) := by
    refine ba_of _ ?_
    simp only [stmtF]
    rw [if_neg (by omega), if_neg (by omega), if_neg (by omega), if_pos hk]
    simp only [by_app, by_lit, lineL, catL, List.flatMap_cons, List.flatMap_nil, List.append_assoc, List.cons_append, List.nil_append, List.append_nil]
  rw [← tx_size, hv] at hsz
  rw [hv]
  simp only [ByteArray.size_append, szl14, List.size_toArray, List.length_cons, List.length_nil, Nat.zero_add, Nat.reduceAdd] at hsz
  have hq1 : 7 + s.f1.size ≤ 9223372036854775807 := by omega
  have hq2 : 7 + s.f1.size + 2 ≤ 9223372036854775807 := by omega
  have kb1 : (s.f0 == 1) = false := beq_eq_false_iff_ne.mpr (by omega)
  have kb2 : (s.f0 == 2) = false := beq_eq_false_iff_ne.mpr (by omega)
  have kb3 : (s.f0 == 3) = false := beq_eq_false_iff_ne.mpr (by omega)
  have kb4 : (s.f0 == 4) = true := beq_iff_eq.mpr hk
  have kb5 : (s.f0 == 5) = false := beq_eq_false_iff_ne.mpr (by omega)
  have kb6 : (s.f0 == 6) = false := beq_eq_false_iff_ne.mpr (by omega)
  have kb7 : (s.f0 == 7) = false := beq_eq_false_iff_ne.mpr (by omega)
  have kb8 : (s.f0 == 8) = false := beq_eq_false_iff_ne.mpr (by omega)
  clear hin hv hk
  unfold stmtV stmtC
  go_enter Tryd.func46, Tryd.ntmps46
  go_wp2_with (first | ((with_reducible refine gate_dst (N := 1) rfl ?_); refine box_event ?hg (N := 1) ?hd (cs := #[.int .i64 s.f0, .string s.f1, .int .i64 s.f2.f0, .int .i64 s.f2.f1, .int .i64 s.f2.f2, .string s.f2.f3, .slice p.A6 s.f2.f4.length p.c6, .int .i64 s.f3.f0, .int .i64 s.f3.f1, .int .i64 s.f3.f2, .string s.f3.f3, .slice p.A11 s.f3.f4.length p.c11, .int .i64 s.f4.f0, .int .i64 s.f4.f1, .slice p.A14 s.f4.f2.length p.c14, .slice p.A15 s.f4.f3.length p.c15, .slice p.A16 s.f5.length p.c16, .slice p.A17 s.f6.length p.c17]) (t := 54) ?hr ?_; (case hd => rfl); (case hg => rfl); (case hr => first | (go_simp; done) | (go_simp; rfl)); intro ge hgg w1 hlit hb; have HG := Aside0.mk hlit; have HB1 := Aside0.mk hb; have hy0 : w1.cell? ⟨ge, 0, none⟩ = some (.int .i64 s.f0) := (blk_cell hlit 0).trans rfl; have hy1 : w1.cell? ⟨ge, 1, none⟩ = some (.string s.f1) := (blk_cell hlit 1).trans rfl; clear hlit hb hgg))
  go_ret
  exact ⟨rfl, HB1.out⟩
set_option maxHeartbeats 8000000 in
set_option maxRecDepth 100000 in
theorem rstmt_skip (n : Nat) (s : S54) (p : At54) (w : World) (hin : StIn w s p) (hk : s.f0 = 8) (hsz : (stmtF (n + 1) s).length ≤ 140737488355328) :
    Calls Tryd.prog 46 #[stmtV s p] w fun e w' => e = .returned (.string (tx (stmtF (n + 1) s))) ∧ Below w.heap.size w w' := by
  have hv : tx (stmtF (n + 1) s) = (⟨#[115, 107, 105, 112, 59, 10]⟩ : ByteArray) := by
    refine ba_of _ ?_
    simp only [stmtF]
    rw [if_neg (by omega), if_neg (by omega), if_neg (by omega), if_neg (by omega), if_neg (by omega), if_neg (by omega), if_neg (by omega), if_pos hk]
    simp only [by_app, by_lit, lineL, catL, List.flatMap_cons, List.flatMap_nil, List.append_assoc, List.cons_append, List.nil_append, List.append_nil]
  rw [← tx_size, hv] at hsz
  rw [hv]
  simp only [ByteArray.size_append, szl14, List.size_toArray, List.length_cons, List.length_nil, Nat.zero_add, Nat.reduceAdd] at hsz
  have kb1 : (s.f0 == 1) = false := beq_eq_false_iff_ne.mpr (by omega)
  have kb2 : (s.f0 == 2) = false := beq_eq_false_iff_ne.mpr (by omega)
  have kb3 : (s.f0 == 3) = false := beq_eq_false_iff_ne.mpr (by omega)
  have kb4 : (s.f0 == 4) = false := beq_eq_false_iff_ne.mpr (by omega)
  have kb5 : (s.f0 == 5) = false := beq_eq_false_iff_ne.mpr (by omega)
  have kb6 : (s.f0 == 6) = false := beq_eq_false_iff_ne.mpr (by omega)
  have kb7 : (s.f0 == 7) = false := beq_eq_false_iff_ne.mpr (by omega)
  have kb8 : (s.f0 == 8) = true := beq_iff_eq.mpr hk
  clear hin hv hk
  unfold stmtV stmtC
  go_enter Tryd.func46, Tryd.ntmps46
  go_wp2_with (first | ((with_reducible refine gate_dst (N := 1) rfl ?_); refine box_event ?hg (N := 1) ?hd (cs := #[.int .i64 s.f0, .string s.f1, .int .i64 s.f2.f0, .int .i64 s.f2.f1, .int .i64 s.f2.f2, .string s.f2.f3, .slice p.A6 s.f2.f4.length p.c6, .int .i64 s.f3.f0, .int .i64 s.f3.f1, .int .i64 s.f3.f2, .string s.f3.f3, .slice p.A11 s.f3.f4.length p.c11, .int .i64 s.f4.f0, .int .i64 s.f4.f1, .slice p.A14 s.f4.f2.length p.c14, .slice p.A15 s.f4.f3.length p.c15, .slice p.A16 s.f5.length p.c16, .slice p.A17 s.f6.length p.c17]) (t := 54) ?hr ?_; (case hd => rfl); (case hg => rfl); (case hr => first | (go_simp; done) | (go_simp; rfl)); intro ge hgg w1 hlit hb; have HG := Aside0.mk hlit; have HB1 := Aside0.mk hb; have hy0 : w1.cell? ⟨ge, 0, none⟩ = some (.int .i64 s.f0) := (blk_cell hlit 0).trans rfl; clear hlit hb hgg))
  go_ret
  exact ⟨rfl, HB1.out⟩
set_option maxHeartbeats 8000000 in
set_option maxRecDepth 100000 in
theorem rstmt_none (n : Nat) (s : S54) (p : At54) (w : World) (hin : StIn w s p) (hk : ¬ (1 ≤ s.f0 ∧ s.f0 ≤ 8)) (hsz : (stmtF (n + 1) s).length ≤ 140737488355328) :
    Calls Tryd.prog 46 #[stmtV s p] w fun e w' => e = .returned (.string (tx (stmtF (n + 1) s))) ∧ Below w.heap.size w w' := by
  have hv : tx (stmtF (n + 1) s) = (⟨#[63, 10]⟩ : ByteArray) := by
    refine ba_of _ ?_
    simp only [stmtF]
    rw [if_neg (by omega), if_neg (by omega), if_neg (by omega), if_neg (by omega), if_neg (by omega), if_neg (by omega), if_neg (by omega), if_neg (by omega)]
    simp only [by_app, by_lit, lineL, catL, List.flatMap_cons, List.flatMap_nil, List.append_assoc, List.cons_append, List.nil_append, List.append_nil]
  rw [← tx_size, hv] at hsz
  rw [hv]
  simp only [ByteArray.size_append, szl14, List.size_toArray, List.length_cons, List.length_nil, Nat.zero_add, Nat.reduceAdd] at hsz
  have kb1 : (s.f0 == 1) = false := beq_eq_false_iff_ne.mpr (by omega)
  have kb2 : (s.f0 == 2) = false := beq_eq_false_iff_ne.mpr (by omega)
  have kb3 : (s.f0 == 3) = false := beq_eq_false_iff_ne.mpr (by omega)
  have kb4 : (s.f0 == 4) = false := beq_eq_false_iff_ne.mpr (by omega)
  have kb5 : (s.f0 == 5) = false := beq_eq_false_iff_ne.mpr (by omega)
  have kb6 : (s.f0 == 6) = false := beq_eq_false_iff_ne.mpr (by omega)
  have kb7 : (s.f0 == 7) = false := beq_eq_false_iff_ne.mpr (by omega)
  have kb8 : (s.f0 == 8) = false := beq_eq_false_iff_ne.mpr (by omega)
  clear hin hv hk
  unfold stmtV stmtC
  go_enter Tryd.func46, Tryd.ntmps46
  go_wp2_with (first | ((with_reducible refine gate_dst (N := 1) rfl ?_); refine box_event ?hg (N := 1) ?hd (cs := #[.int .i64 s.f0, .string s.f1, .int .i64 s.f2.f0, .int .i64 s.f2.f1, .int .i64 s.f2.f2, .string s.f2.f3, .slice p.A6 s.f2.f4.length p.c6, .int .i64 s.f3.f0, .int .i64 s.f3.f1, .int .i64 s.f3.f2, .string s.f3.f3, .slice p.A11 s.f3.f4.length p.c11, .int .i64 s.f4.f0, .int .i64 s.f4.f1, .slice p.A14 s.f4.f2.length p.c14, .slice p.A15 s.f4.f3.length p.c15, .slice p.A16 s.f5.length p.c16, .slice p.A17 s.f6.length p.c17]) (t := 54) ?hr ?_; (case hd => rfl); (case hg => rfl); (case hr => first | (go_simp; done) | (go_simp; rfl)); intro ge hgg w1 hlit hb; have HG := Aside0.mk hlit; have HB1 := Aside0.mk hb; have hy0 : w1.cell? ⟨ge, 0, none⟩ = some (.int .i64 s.f0) := (blk_cell hlit 0).trans rfl; clear hlit hb hgg))
  go_ret
  exact ⟨rfl, HB1.out⟩
set_option maxHeartbeats 8000000 in
set_option maxRecDepth 100000 in
theorem rstmt_assert (n : Nat) (s : S54) (p : At54) (w : World) (hin : StIn w s p) (hok : okSt (n + 1) s) (hk : s.f0 = 7) (hsz : (stmtF (n + 1) s).length ≤ 140737488355328) :
    Calls Tryd.prog 46 #[stmtV s p] w fun e w' => e = .returned (.string (tx (stmtF (n + 1) s))) ∧ Below w.heap.size w w' := by
  have hv : tx (stmtF (n + 1) s) = (((⟨#[97, 115, 115, 101, 114, 116, 32]⟩ : ByteArray) ++ condS s.f4) ++ (⟨#[59, 10]⟩ : ByteArray)) := by
    refine ba_of _ ?_
    simp only [stmtF]
    rw [if_neg (by omega), if_neg (by omega), if_neg (by omega), if_neg (by omega), if_neg (by omega), if_neg (by omega), if_pos hk]
    simp only [by_app, by_lit, lineL, catL, List.flatMap_cons, List.flatMap_nil, List.append_assoc, List.cons_append, List.nil_append, List.append_nil]
  rw [← tx_size, hv] at hsz
  rw [hv]
  simp only [ByteArray.size_append, szl14, List.size_toArray, List.length_cons, List.length_nil, Nat.zero_add, Nat.reduceAdd] at hsz
  have HO : Aside0 (∀ (W : World), Below w.heap.size w W → Calls Tryd.prog 16 #[.agg #[.int .i64 s.f4.f0, .int .i64 s.f4.f1, .slice p.A14 s.f4.f2.length p.c14, .slice p.A15 s.f4.f3.length p.c15]] W fun r w' => r = .returned (.string (condS s.f4)) ∧ Below W.heap.size W w') :=
    ⟨fun W hb => rcond_calls s.f4 p.A14 p.A15 p.c14 p.c15 W (Kd.C_below hin.g14 hb) hin.l14 (Kd.C_below hin.g15 hb) hin.l15 hok.2.2.1 (by omega)⟩
  obtain ⟨tc, htc⟩ : ∃ t, condS s.f4 = t := ⟨_, rfl⟩
  rw [htc] at HO hsz ⊢
  clear htc hok
  have kb1 : (s.f0 == 1) = false := beq_eq_false_iff_ne.mpr (by omega)
  have kb2 : (s.f0 == 2) = false := beq_eq_false_iff_ne.mpr (by omega)
  have kb3 : (s.f0 == 3) = false := beq_eq_false_iff_ne.mpr (by omega)
  have kb4 : (s.f0 == 4) = false := beq_eq_false_iff_ne.mpr (by omega)
  have kb5 : (s.f0 == 5) = false := beq_eq_false_iff_ne.mpr (by omega)
  have kb6 : (s.f0 == 6) = false := beq_eq_false_iff_ne.mpr (by omega)
  have kb7 : (s.f0 == 7) = true := beq_iff_eq.mpr hk
  have kb8 : (s.f0 == 8) = false := beq_eq_false_iff_ne.mpr (by omega)
  have hq1 : 7 + tc.size ≤ 9223372036854775807 := by omega
  have hq2 : 7 + tc.size + 2 ≤ 9223372036854775807 := by omega
  clear hin hv hk
  unfold stmtV stmtC
  go_enter Tryd.func46, Tryd.ntmps46
  go_wp2_with (first | ((with_reducible refine gate_dst (N := 1) rfl ?_); refine box_event ?hg (N := 1) ?hd (cs := #[.int .i64 s.f0, .string s.f1, .int .i64 s.f2.f0, .int .i64 s.f2.f1, .int .i64 s.f2.f2, .string s.f2.f3, .slice p.A6 s.f2.f4.length p.c6, .int .i64 s.f3.f0, .int .i64 s.f3.f1, .int .i64 s.f3.f2, .string s.f3.f3, .slice p.A11 s.f3.f4.length p.c11, .int .i64 s.f4.f0, .int .i64 s.f4.f1, .slice p.A14 s.f4.f2.length p.c14, .slice p.A15 s.f4.f3.length p.c15, .slice p.A16 s.f5.length p.c16, .slice p.A17 s.f6.length p.c17]) (t := 54) ?hr ?_; (case hd => rfl); (case hg => rfl); (case hr => first | (go_simp; done) | (go_simp; rfl)); intro ge hgg w1 hlit hb; have HG := Aside0.mk hlit; have HB1 := Aside0.mk hb; have hy0 : w1.cell? ⟨ge, 0, none⟩ = some (.int .i64 s.f0) := (blk_cell hlit 0).trans rfl; have hy12 : w1.cell? ⟨ge, 12, none⟩ = some (.int .i64 s.f4.f0) := (blk_cell hlit 12).trans rfl; have hy13 : w1.cell? ⟨ge, 13, none⟩ = some (.int .i64 s.f4.f1) := (blk_cell hlit 13).trans rfl; have hy14 : w1.cell? ⟨ge, 14, none⟩ = some (.slice p.A14 s.f4.f2.length p.c14) := (blk_cell hlit 14).trans rfl; have hy15 : w1.cell? ⟨ge, 15, none⟩ = some (.slice p.A15 s.f4.f3.length p.c15) := (blk_cell hlit 15).trans rfl; clear hlit hb hgg) | (go_at_call 16; (with_reducible refine (HO.out _ HB1.out).mono ?_); rintro e1 w2 ⟨rfl, hb⟩; have HB2 := Aside0.mk (below_then HB1.out HB1.out.size hb); clear hb))
  go_ret
  exact ⟨rfl, HB2.out⟩
set_option maxHeartbeats 8000000 in
set_option maxRecDepth 100000 in
theorem rstmt_set (n : Nat) (s : S54) (p : At54) (w : World) (hin : StIn w s p) (hok : okSt (n + 1) s) (hk : s.f0 = 1) (hsz : (stmtF (n + 1) s).length ≤ 140737488355328) :
    Calls Tryd.prog 46 #[stmtV s p] w fun e w' => e = .returned (.string (tx (stmtF (n + 1) s))) ∧ Below w.heap.size w w' := by
  have hv : tx (stmtF (n + 1) s) = (((s.f1 ++ (⟨#[32, 61, 32]⟩ : ByteArray)) ++ exprS s.f3) ++ (⟨#[59, 10]⟩ : ByteArray)) := by
    refine ba_of _ ?_
    simp only [stmtF]
    rw [if_pos hk]
    simp only [by_app, by_lit, lineL, catL, List.flatMap_cons, List.flatMap_nil, List.append_assoc, List.cons_append, List.nil_append, List.append_nil]
  rw [← tx_size, hv] at hsz
  rw [hv]
  simp only [ByteArray.size_append, szl14, List.size_toArray, List.length_cons, List.length_nil, Nat.zero_add, Nat.reduceAdd] at hsz
  have HOa : Aside0 (∀ (W : World), Below w.heap.size w W → Calls Tryd.prog 14 #[.agg #[.int .i64 s.f3.f0, .int .i64 s.f3.f1, .int .i64 s.f3.f2, .string s.f3.f3, .slice p.A11 s.f3.f4.length p.c11]] W fun r w' => r = .returned (.string (exprS s.f3)) ∧ Below W.heap.size W w') :=
    ⟨fun W hb => rexpr_calls s.f3 p.A11 p.c11 W (Kd.C_below hin.g11 hb) hin.l11 hok.2.1 (by omega)⟩
  obtain ⟨ta, hta⟩ : ∃ t, exprS s.f3 = t := ⟨_, rfl⟩
  rw [hta] at HOa hsz ⊢
  clear hta
  clear hok
  have kb1 : (s.f0 == 1) = true := beq_iff_eq.mpr hk
  have kb2 : (s.f0 == 2) = false := beq_eq_false_iff_ne.mpr (by omega)
  have kb3 : (s.f0 == 3) = false := beq_eq_false_iff_ne.mpr (by omega)
  have kb4 : (s.f0 == 4) = false := beq_eq_false_iff_ne.mpr (by omega)
  have kb5 : (s.f0 == 5) = false := beq_eq_false_iff_ne.mpr (by omega)
  have kb6 : (s.f0 == 6) = false := beq_eq_false_iff_ne.mpr (by omega)
  have kb7 : (s.f0 == 7) = false := beq_eq_false_iff_ne.mpr (by omega)
  have kb8 : (s.f0 == 8) = false := beq_eq_false_iff_ne.mpr (by omega)
  clear hin hv hk
  unfold stmtV stmtC
  go_enter Tryd.func46, Tryd.ntmps46
  go_upto_region 3 with (first | ((with_reducible refine gate_dst (N := 1) rfl ?_); refine box_event ?hg (N := 1) ?hd (cs := #[.int .i64 s.f0, .string s.f1, .int .i64 s.f2.f0, .int .i64 s.f2.f1, .int .i64 s.f2.f2, .string s.f2.f3, .slice p.A6 s.f2.f4.length p.c6, .int .i64 s.f3.f0, .int .i64 s.f3.f1, .int .i64 s.f3.f2, .string s.f3.f3, .slice p.A11 s.f3.f4.length p.c11, .int .i64 s.f4.f0, .int .i64 s.f4.f1, .slice p.A14 s.f4.f2.length p.c14, .slice p.A15 s.f4.f3.length p.c15, .slice p.A16 s.f5.length p.c16, .slice p.A17 s.f6.length p.c17]) (t := 54) ?hr ?_; (case hd => rfl); (case hg => rfl); (case hr => first | (go_simp; done) | (go_simp; rfl)); intro ge hgg w1 hlit hb; have HG := Aside0.mk hlit; have HB1 := Aside0.mk hb; have hy0 : w1.cell? ⟨ge, 0, none⟩ = some (.int .i64 s.f0) := (blk_cell hlit 0).trans rfl; have hy1 : w1.cell? ⟨ge, 1, none⟩ = some (.string s.f1) := (blk_cell hlit 1).trans rfl; have hy7 : w1.cell? ⟨ge, 7, none⟩ = some (.int .i64 s.f3.f0) := (blk_cell hlit 7).trans rfl; have hy8 : w1.cell? ⟨ge, 8, none⟩ = some (.int .i64 s.f3.f1) := (blk_cell hlit 8).trans rfl; have hy9 : w1.cell? ⟨ge, 9, none⟩ = some (.int .i64 s.f3.f2) := (blk_cell hlit 9).trans rfl; have hy10 : w1.cell? ⟨ge, 10, none⟩ = some (.string s.f3.f3) := (blk_cell hlit 10).trans rfl; have hy11 : w1.cell? ⟨ge, 11, none⟩ = some (.slice p.A11 s.f3.f4.length p.c11) := (blk_cell hlit 11).trans rfl; clear hlit hb hgg))
  refine start_ (n := 9) (S := fun w' => w'.cell? ⟨ge, 1, none⟩ = some (.string s.f1) ∧ w'.cell? ⟨ge, 7, none⟩ = some (.int .i64 s.f3.f0) ∧ w'.cell? ⟨ge, 8, none⟩ = some (.int .i64 s.f3.f1) ∧ w'.cell? ⟨ge, 9, none⟩ = some (.int .i64 s.f3.f2) ∧ w'.cell? ⟨ge, 10, none⟩ = some (.string s.f3.f3) ∧ w'.cell? ⟨ge, 11, none⟩ = some (.slice p.A11 s.f3.f4.length p.c11) ∧ Aside0 (Below w.heap.size w w')) (ds := []) #[false, false, false, false, false, false, false, false, false] (by kernel_rfl) rfl rfl ⟨hy1, hy7, hy8, hy9, hy10, hy11, ⟨below_drew HB1.out⟩⟩ (fun hHeld => ?_)
  refine pure_ (i := 0) (N := some 8) (v := ?_) (a' := ?_) #[true, false, false, false, false, false, false, false, false] rfl rfl (by kernel_rfl) (fun _ _ _ h => h) (Or.inl ⟨by rfl, ?_⟩) ?_ ?_
  rotate_left
  · intro w'
    go_simp
    first | with_reducible rfl | (rw [if_neg (by omega)]; try with_reducible rfl)
  rotate_left
  · simp only [Act.put, List.setIfInBounds_toArray, List.set_cons_zero, List.set_cons_succ, i64_w, i32_w]
    rfl
  refine pure_ (i := 3) (N := some 11) (v := ?_) (a' := ?_) #[true, false, false, true, false, false, false, false, false] rfl rfl (by kernel_rfl) (fun _ _ _ h => h) (Or.inl ⟨by rfl, ?_⟩) ?_ ?_
  rotate_left
  · intro w'
    go_simp
    first | with_reducible rfl | (rw [if_neg (by omega)]; try with_reducible rfl)
  rotate_left
  · simp only [Act.put, List.setIfInBounds_toArray, List.set_cons_zero, List.set_cons_succ, i64_w, i32_w]
    rfl
  refine take_ (i := 1) (N := some 9) (v := ?_) (a' := ?_) #[true, true, false, true, false, false, false, false, false] rfl rfl (by kernel_rfl) (fun _ _ _ h => h) (Or.inl ⟨by rfl, ?_⟩) hHeld ?_ ?_
  rotate_left
  · rintro w' ⟨s0, s1, s2, s3, s4, s5, s6⟩
    go_simp
    first | with_reducible rfl | (rw [if_neg (by omega)]; try with_reducible rfl)
  rotate_left
  · simp only [Act.put, List.setIfInBounds_toArray, List.set_cons_zero, List.set_cons_succ, i64_w, i32_w]
    rfl
  refine pure_ (i := 2) (N := some 10) (v := ?_) (a' := ?_) #[true, true, true, true, false, false, false, false, false] rfl rfl (by kernel_rfl) (fun _ _ _ h => h) (Or.inl ⟨by rfl, ?_⟩) ?_ ?_
  rotate_left
  · intro w'
    go_simp
    first | with_reducible rfl | (rw [if_neg (by omega)]; try with_reducible rfl)
  rotate_left
  · simp only [Act.put, List.setIfInBounds_toArray, List.set_cons_zero, List.set_cons_succ, i64_w, i32_w]
    rfl
  refine take_ (i := 4) (N := some 12) (v := ?_) (a' := ?_) #[true, true, true, true, true, false, false, false, false] rfl rfl (by kernel_rfl) (fun _ _ _ h => h) (Or.inl ⟨by rfl, ?_⟩) hHeld ?_ ?_
  rotate_left
  · rintro w' ⟨s0, s1, s2, s3, s4, s5, s6⟩
    go_simp
    first | with_reducible rfl | (rw [if_neg (by omega)]; try with_reducible rfl)
  rotate_left
  · simp only [Act.put, List.setIfInBounds_toArray, List.set_cons_zero, List.set_cons_succ, i64_w, i32_w]
    rfl
  refine one_ (i := 5) (N := some 13) #[true, true, true, true, true, true, false, false, false] rfl rfl (by kernel_rfl) (by decide) (fun K hK => ?_)
  refine goes_ Tryd.func14 (by kernel_rfl) rfl #[.agg #[.int .i64 s.f3.f0, .int .i64 s.f3.f1, .int .i64 s.f3.f2, .string s.f3.f3, .slice p.A11 s.f3.f4.length p.c11]] (by rfl) rfl rfl (by simp only [List.map_toArray, List.map_cons, List.map_nil, Act.eval]; rfl) ?_
  refine (HOa.out _ hHeld.2.2.2.2.2.2.out).mono ?_
  rintro e1 v5 ⟨rfl, hb⟩
  refine ⟨_, rfl, ?_⟩
  refine hK.out _ _ ⟨pw_cell_below hb hHeld.1, pw_cell_below hb hHeld.2.1, pw_cell_below hb hHeld.2.2.1, pw_cell_below hb hHeld.2.2.2.1, pw_cell_below hb hHeld.2.2.2.2.1, pw_cell_below hb hHeld.2.2.2.2.2.1, ⟨below_then hHeld.2.2.2.2.2.2.out hHeld.2.2.2.2.2.2.out.size hb⟩⟩ (fun hHeld => ?_)
  clear hK K
  refine norm_ (a' := ?_) ?_ ?_
  rotate_left
  · show Act.put _ (some 13) _ = _
    simp only [Act.put, List.setIfInBounds_toArray, List.set_cons_zero, List.set_cons_succ, i64_w, i32_w]
    rfl
  refine pure_ (i := 6) (N := some 14) (v := ?_) (a' := ?_) #[true, true, true, true, true, true, true, false, false] rfl rfl (by kernel_rfl) (fun _ _ _ h => h) (Or.inl ⟨by rfl, ?_⟩) ?_ ?_
  rotate_left
  · intro w'
    go_simp
    first | with_reducible rfl | (rw [if_neg (by omega)]; try with_reducible rfl)
  rotate_left
  · simp only [Act.put, List.setIfInBounds_toArray, List.set_cons_zero, List.set_cons_succ, i64_w, i32_w]
    rfl
  refine pure_ (i := 7) (N := some 15) (v := ?_) (a' := ?_) #[true, true, true, true, true, true, true, true, false] rfl rfl (by kernel_rfl) (fun _ _ _ h => h) (Or.inl ⟨by rfl, ?_⟩) ?_ ?_
  rotate_left
  · intro w'
    go_simp
    first | with_reducible rfl | (rw [if_neg (by omega)]; try with_reducible rfl)
  rotate_left
  · simp only [Act.put, List.setIfInBounds_toArray, List.set_cons_zero, List.set_cons_succ, i64_w, i32_w]
    rfl
  refine pure_ (i := 8) (N := some 2) (v := ?_) (a' := ?_) #[true, true, true, true, true, true, true, true, true] rfl rfl (by kernel_rfl) (fun _ _ _ h => h) (Or.inl ⟨by rfl, ?_⟩) ?_ ?_
  rotate_left
  · intro w'
    go_simp
    first | with_reducible rfl | (rw [if_neg (by omega)]; try with_reducible rfl)
  rotate_left
  · simp only [Act.put, List.setIfInBounds_toArray, List.set_cons_zero, List.set_cons_succ, i64_w, i32_w]
    rfl
  refine done_ (by kernel_rfl) ?_
  go_wp2
  go_ret
  exact ⟨rfl, hHeld.2.2.2.2.2.2.out⟩
set_option maxHeartbeats 8000000 in
set_option maxRecDepth 100000 in
theorem rstmt_elem (n : Nat) (s : S54) (p : At54) (w : World) (hin : StIn w s p) (hok : okSt (n + 1) s) (hk : s.f0 = 2) (hsz : (stmtF (n + 1) s).length ≤ 140737488355328) :
    Calls Tryd.prog 46 #[stmtV s p] w fun e w' => e = .returned (.string (tx (stmtF (n + 1) s))) ∧ Below w.heap.size w w' := by
  have hv : tx (stmtF (n + 1) s) = (((((s.f1 ++ (⟨#[91]⟩ : ByteArray)) ++ exprS s.f2) ++ (⟨#[93, 32, 61, 32]⟩ : ByteArray)) ++ exprS s.f3) ++ (⟨#[59, 10]⟩ : ByteArray)) := by
    refine ba_of _ ?_
    simp only [stmtF]
    rw [if_neg (by omega), if_pos hk]
    simp only [by_app, by_lit, lineL, catL, List.flatMap_cons, List.flatMap_nil, List.append_assoc, List.cons_append, List.nil_append, List.append_nil]
  rw [← tx_size, hv] at hsz
  rw [hv]
  simp only [ByteArray.size_append, szl14, List.size_toArray, List.length_cons, List.length_nil, Nat.zero_add, Nat.reduceAdd] at hsz
  have HOa : Aside0 (∀ (W : World), Below w.heap.size w W → Calls Tryd.prog 14 #[.agg #[.int .i64 s.f2.f0, .int .i64 s.f2.f1, .int .i64 s.f2.f2, .string s.f2.f3, .slice p.A6 s.f2.f4.length p.c6]] W fun r w' => r = .returned (.string (exprS s.f2)) ∧ Below W.heap.size W w') :=
    ⟨fun W hb => rexpr_calls s.f2 p.A6 p.c6 W (Kd.C_below hin.g6 hb) hin.l6 hok.1 (by omega)⟩
  obtain ⟨ta, hta⟩ : ∃ t, exprS s.f2 = t := ⟨_, rfl⟩
  rw [hta] at HOa hsz ⊢
  clear hta
  have HOb : Aside0 (∀ (W : World), Below w.heap.size w W → Calls Tryd.prog 14 #[.agg #[.int .i64 s.f3.f0, .int .i64 s.f3.f1, .int .i64 s.f3.f2, .string s.f3.f3, .slice p.A11 s.f3.f4.length p.c11]] W fun r w' => r = .returned (.string (exprS s.f3)) ∧ Below W.heap.size W w') :=
    ⟨fun W hb => rexpr_calls s.f3 p.A11 p.c11 W (Kd.C_below hin.g11 hb) hin.l11 hok.2.1 (by omega)⟩
  obtain ⟨tb, htb⟩ : ∃ t, exprS s.f3 = t := ⟨_, rfl⟩
  rw [htb] at HOb hsz ⊢
  clear htb
  clear hok
  have kb1 : (s.f0 == 1) = false := beq_eq_false_iff_ne.mpr (by omega)
  have kb2 : (s.f0 == 2) = true := beq_iff_eq.mpr hk
  have kb3 : (s.f0 == 3) = false := beq_eq_false_iff_ne.mpr (by omega)
  have kb4 : (s.f0 == 4) = false := beq_eq_false_iff_ne.mpr (by omega)
  have kb5 : (s.f0 == 5) = false := beq_eq_false_iff_ne.mpr (by omega)
  have kb6 : (s.f0 == 6) = false := beq_eq_false_iff_ne.mpr (by omega)
  have kb7 : (s.f0 == 7) = false := beq_eq_false_iff_ne.mpr (by omega)
  have kb8 : (s.f0 == 8) = false := beq_eq_false_iff_ne.mpr (by omega)
  clear hin hv hk
  unfold stmtV stmtC
  go_enter Tryd.func46, Tryd.ntmps46
  go_upto_region 5 with (first | ((with_reducible refine gate_dst (N := 1) rfl ?_); refine box_event ?hg (N := 1) ?hd (cs := #[.int .i64 s.f0, .string s.f1, .int .i64 s.f2.f0, .int .i64 s.f2.f1, .int .i64 s.f2.f2, .string s.f2.f3, .slice p.A6 s.f2.f4.length p.c6, .int .i64 s.f3.f0, .int .i64 s.f3.f1, .int .i64 s.f3.f2, .string s.f3.f3, .slice p.A11 s.f3.f4.length p.c11, .int .i64 s.f4.f0, .int .i64 s.f4.f1, .slice p.A14 s.f4.f2.length p.c14, .slice p.A15 s.f4.f3.length p.c15, .slice p.A16 s.f5.length p.c16, .slice p.A17 s.f6.length p.c17]) (t := 54) ?hr ?_; (case hd => rfl); (case hg => rfl); (case hr => first | (go_simp; done) | (go_simp; rfl)); intro ge hgg w1 hlit hb; have HG := Aside0.mk hlit; have HB1 := Aside0.mk hb; have hy0 : w1.cell? ⟨ge, 0, none⟩ = some (.int .i64 s.f0) := (blk_cell hlit 0).trans rfl; have hy1 : w1.cell? ⟨ge, 1, none⟩ = some (.string s.f1) := (blk_cell hlit 1).trans rfl; have hy2 : w1.cell? ⟨ge, 2, none⟩ = some (.int .i64 s.f2.f0) := (blk_cell hlit 2).trans rfl; have hy3 : w1.cell? ⟨ge, 3, none⟩ = some (.int .i64 s.f2.f1) := (blk_cell hlit 3).trans rfl; have hy4 : w1.cell? ⟨ge, 4, none⟩ = some (.int .i64 s.f2.f2) := (blk_cell hlit 4).trans rfl; have hy5 : w1.cell? ⟨ge, 5, none⟩ = some (.string s.f2.f3) := (blk_cell hlit 5).trans rfl; have hy6 : w1.cell? ⟨ge, 6, none⟩ = some (.slice p.A6 s.f2.f4.length p.c6) := (blk_cell hlit 6).trans rfl; have hy7 : w1.cell? ⟨ge, 7, none⟩ = some (.int .i64 s.f3.f0) := (blk_cell hlit 7).trans rfl; have hy8 : w1.cell? ⟨ge, 8, none⟩ = some (.int .i64 s.f3.f1) := (blk_cell hlit 8).trans rfl; have hy9 : w1.cell? ⟨ge, 9, none⟩ = some (.int .i64 s.f3.f2) := (blk_cell hlit 9).trans rfl; have hy10 : w1.cell? ⟨ge, 10, none⟩ = some (.string s.f3.f3) := (blk_cell hlit 10).trans rfl; have hy11 : w1.cell? ⟨ge, 11, none⟩ = some (.slice p.A11 s.f3.f4.length p.c11) := (blk_cell hlit 11).trans rfl; clear hlit hb hgg))
  refine start_ (n := 14) (S := fun w' => w'.cell? ⟨ge, 1, none⟩ = some (.string s.f1) ∧ w'.cell? ⟨ge, 2, none⟩ = some (.int .i64 s.f2.f0) ∧ w'.cell? ⟨ge, 3, none⟩ = some (.int .i64 s.f2.f1) ∧ w'.cell? ⟨ge, 4, none⟩ = some (.int .i64 s.f2.f2) ∧ w'.cell? ⟨ge, 5, none⟩ = some (.string s.f2.f3) ∧ w'.cell? ⟨ge, 6, none⟩ = some (.slice p.A6 s.f2.f4.length p.c6) ∧ w'.cell? ⟨ge, 7, none⟩ = some (.int .i64 s.f3.f0) ∧ w'.cell? ⟨ge, 8, none⟩ = some (.int .i64 s.f3.f1) ∧ w'.cell? ⟨ge, 9, none⟩ = some (.int .i64 s.f3.f2) ∧ w'.cell? ⟨ge, 10, none⟩ = some (.string s.f3.f3) ∧ w'.cell? ⟨ge, 11, none⟩ = some (.slice p.A11 s.f3.f4.length p.c11) ∧ Aside0 (Below w.heap.size w w')) (ds := []) #[false, false, false, false, false, false, false, false, false, false, false, false, false, false] (by kernel_rfl) rfl rfl ⟨hy1, hy2, hy3, hy4, hy5, hy6, hy7, hy8, hy9, hy10, hy11, ⟨below_drew HB1.out⟩⟩ (fun hHeld => ?_)
  refine pure_ (i := 0) (N := some 18) (v := ?_) (a' := ?_) #[true, false, false, false, false, false, false, false, false, false, false, false, false, false] rfl rfl (by kernel_rfl) (fun _ _ _ h => h) (Or.inl ⟨by rfl, ?_⟩) ?_ ?_
  rotate_left
  · intro w'
    go_simp
    first | with_reducible rfl | (rw [if_neg (by omega)]; try with_reducible rfl)
  rotate_left
  · simp only [Act.put, List.setIfInBounds_toArray, List.set_cons_zero, List.set_cons_succ, i64_w, i32_w]
    rfl
  refine pure_ (i := 3) (N := some 21) (v := ?_) (a' := ?_) #[true, false, false, true, false, false, false, false, false, false, false, false, false, false] rfl rfl (by kernel_rfl) (fun _ _ _ h => h) (Or.inl ⟨by rfl, ?_⟩) ?_ ?_
  rotate_left
  · intro w'
    go_simp
    first | with_reducible rfl | (rw [if_neg (by omega)]; try with_reducible rfl)
  rotate_left
  · simp only [Act.put, List.setIfInBounds_toArray, List.set_cons_zero, List.set_cons_succ, i64_w, i32_w]
    rfl
  refine pure_ (i := 8) (N := some 26) (v := ?_) (a' := ?_) #[true, false, false, true, false, false, false, false, true, false, false, false, false, false] rfl rfl (by kernel_rfl) (fun _ _ _ h => h) (Or.inl ⟨by rfl, ?_⟩) ?_ ?_
  rotate_left
  · intro w'
    go_simp
    first | with_reducible rfl | (rw [if_neg (by omega)]; try with_reducible rfl)
  rotate_left
  · simp only [Act.put, List.setIfInBounds_toArray, List.set_cons_zero, List.set_cons_succ, i64_w, i32_w]
    rfl
  refine take_ (i := 1) (N := some 19) (v := ?_) (a' := ?_) #[true, true, false, true, false, false, false, false, true, false, false, false, false, false] rfl rfl (by kernel_rfl) (fun _ _ _ h => h) (Or.inl ⟨by rfl, ?_⟩) hHeld ?_ ?_
  rotate_left
  · rintro w' ⟨s0, s1, s2, s3, s4, s5, s6, s7, s8, s9, s10, s11⟩
    go_simp
    first | with_reducible rfl | (rw [if_neg (by omega)]; try with_reducible rfl)
  rotate_left
  · simp only [Act.put, List.setIfInBounds_toArray, List.set_cons_zero, List.set_cons_succ, i64_w, i32_w]
    rfl
  refine pure_ (i := 2) (N := some 20) (v := ?_) (a' := ?_) #[true, true, true, true, false, false, false, false, true, false, false, false, false, false] rfl rfl (by kernel_rfl) (fun _ _ _ h => h) (Or.inl ⟨by rfl, ?_⟩) ?_ ?_
  rotate_left
  · intro w'
    go_simp
    first | with_reducible rfl | (rw [if_neg (by omega)]; try with_reducible rfl)
  rotate_left
  · simp only [Act.put, List.setIfInBounds_toArray, List.set_cons_zero, List.set_cons_succ, i64_w, i32_w]
    rfl
  refine take_ (i := 4) (N := some 22) (v := ?_) (a' := ?_) #[true, true, true, true, true, false, false, false, true, false, false, false, false, false] rfl rfl (by kernel_rfl) (fun _ _ _ h => h) (Or.inl ⟨by rfl, ?_⟩) hHeld ?_ ?_
  rotate_left
  · rintro w' ⟨s0, s1, s2, s3, s4, s5, s6, s7, s8, s9, s10, s11⟩
    go_simp
    first | with_reducible rfl | (rw [if_neg (by omega)]; try with_reducible rfl)
  rotate_left
  · simp only [Act.put, List.setIfInBounds_toArray, List.set_cons_zero, List.set_cons_succ, i64_w, i32_w]
    rfl
  refine take_ (i := 9) (N := some 27) (v := ?_) (a' := ?_) #[true, true, true, true, true, false, false, false, true, true, false, false, false, false] rfl rfl (by kernel_rfl) (fun _ _ _ h => h) (Or.inl ⟨by rfl, ?_⟩) hHeld ?_ ?_
  rotate_left
  · rintro w' ⟨s0, s1, s2, s3, s4, s5, s6, s7, s8, s9, s10, s11⟩
    go_simp
    first | with_reducible rfl | (rw [if_neg (by omega)]; try with_reducible rfl)
  rotate_left
  · simp only [Act.put, List.setIfInBounds_toArray, List.set_cons_zero, List.set_cons_succ, i64_w, i32_w]
    rfl
  refine one_ (i := 5) (N := some 23) #[true, true, true, true, true, true, false, false, true, true, false, false, false, false] rfl rfl (by kernel_rfl) (by decide) (fun K hK => ?_)
  refine goes_ Tryd.func14 (by kernel_rfl) rfl #[.agg #[.int .i64 s.f2.f0, .int .i64 s.f2.f1, .int .i64 s.f2.f2, .string s.f2.f3, .slice p.A6 s.f2.f4.length p.c6]] (by rfl) rfl rfl (by simp only [List.map_toArray, List.map_cons, List.map_nil, Act.eval]; rfl) ?_
  refine (HOa.out _ hHeld.2.2.2.2.2.2.2.2.2.2.2.out).mono ?_
  rintro e1 v5 ⟨rfl, hb⟩
  refine ⟨_, rfl, ?_⟩
  refine hK.out _ _ ⟨pw_cell_below hb hHeld.1, pw_cell_below hb hHeld.2.1, pw_cell_below hb hHeld.2.2.1, pw_cell_below hb hHeld.2.2.2.1, pw_cell_below hb hHeld.2.2.2.2.1, pw_cell_below hb hHeld.2.2.2.2.2.1, pw_cell_below hb hHeld.2.2.2.2.2.2.1, pw_cell_below hb hHeld.2.2.2.2.2.2.2.1, pw_cell_below hb hHeld.2.2.2.2.2.2.2.2.1, pw_cell_below hb hHeld.2.2.2.2.2.2.2.2.2.1, pw_cell_below hb hHeld.2.2.2.2.2.2.2.2.2.2.1, ⟨below_then hHeld.2.2.2.2.2.2.2.2.2.2.2.out hHeld.2.2.2.2.2.2.2.2.2.2.2.out.size hb⟩⟩ (fun hHeld => ?_)
  clear hK K
  refine norm_ (a' := ?_) ?_ ?_
  rotate_left
  · show Act.put _ (some 23) _ = _
    simp only [Act.put, List.setIfInBounds_toArray, List.set_cons_zero, List.set_cons_succ, i64_w, i32_w]
    rfl
  refine pure_ (i := 6) (N := some 24) (v := ?_) (a' := ?_) #[true, true, true, true, true, true, true, false, true, true, false, false, false, false] rfl rfl (by kernel_rfl) (fun _ _ _ h => h) (Or.inl ⟨by rfl, ?_⟩) ?_ ?_
  rotate_left
  · intro w'
    go_simp
    first | with_reducible rfl | (rw [if_neg (by omega)]; try with_reducible rfl)
  rotate_left
  · simp only [Act.put, List.setIfInBounds_toArray, List.set_cons_zero, List.set_cons_succ, i64_w, i32_w]
    rfl
  refine pure_ (i := 7) (N := some 25) (v := ?_) (a' := ?_) #[true, true, true, true, true, true, true, true, true, true, false, false, false, false] rfl rfl (by kernel_rfl) (fun _ _ _ h => h) (Or.inl ⟨by rfl, ?_⟩) ?_ ?_
  rotate_left
  · intro w'
    go_simp
    first | with_reducible rfl | (rw [if_neg (by omega)]; try with_reducible rfl)
  rotate_left
  · simp only [Act.put, List.setIfInBounds_toArray, List.set_cons_zero, List.set_cons_succ, i64_w, i32_w]
    rfl
  refine one_ (i := 10) (N := some 28) #[true, true, true, true, true, true, true, true, true, true, true, false, false, false] rfl rfl (by kernel_rfl) (by decide) (fun K hK => ?_)
  refine goes_ Tryd.func14 (by kernel_rfl) rfl #[.agg #[.int .i64 s.f3.f0, .int .i64 s.f3.f1, .int .i64 s.f3.f2, .string s.f3.f3, .slice p.A11 s.f3.f4.length p.c11]] (by rfl) rfl rfl (by simp only [List.map_toArray, List.map_cons, List.map_nil, Act.eval]; rfl) ?_
  refine (HOb.out _ hHeld.2.2.2.2.2.2.2.2.2.2.2.out).mono ?_
  rintro e1 v10 ⟨rfl, hb⟩
  refine ⟨_, rfl, ?_⟩
  refine hK.out _ _ ⟨pw_cell_below hb hHeld.1, pw_cell_below hb hHeld.2.1, pw_cell_below hb hHeld.2.2.1, pw_cell_below hb hHeld.2.2.2.1, pw_cell_below hb hHeld.2.2.2.2.1, pw_cell_below hb hHeld.2.2.2.2.2.1, pw_cell_below hb hHeld.2.2.2.2.2.2.1, pw_cell_below hb hHeld.2.2.2.2.2.2.2.1, pw_cell_below hb hHeld.2.2.2.2.2.2.2.2.1, pw_cell_below hb hHeld.2.2.2.2.2.2.2.2.2.1, pw_cell_below hb hHeld.2.2.2.2.2.2.2.2.2.2.1, ⟨below_then hHeld.2.2.2.2.2.2.2.2.2.2.2.out hHeld.2.2.2.2.2.2.2.2.2.2.2.out.size hb⟩⟩ (fun hHeld => ?_)
  clear hK K
  refine norm_ (a' := ?_) ?_ ?_
  rotate_left
  · show Act.put _ (some 28) _ = _
    simp only [Act.put, List.setIfInBounds_toArray, List.set_cons_zero, List.set_cons_succ, i64_w, i32_w]
    rfl
  refine pure_ (i := 11) (N := some 29) (v := ?_) (a' := ?_) #[true, true, true, true, true, true, true, true, true, true, true, true, false, false] rfl rfl (by kernel_rfl) (fun _ _ _ h => h) (Or.inl ⟨by rfl, ?_⟩) ?_ ?_
  rotate_left
  · intro w'
    go_simp
    first | with_reducible rfl | (rw [if_neg (by omega)]; try with_reducible rfl)
  rotate_left
  · simp only [Act.put, List.setIfInBounds_toArray, List.set_cons_zero, List.set_cons_succ, i64_w, i32_w]
    rfl
  refine pure_ (i := 12) (N := some 30) (v := ?_) (a' := ?_) #[true, true, true, true, true, true, true, true, true, true, true, true, true, false] rfl rfl (by kernel_rfl) (fun _ _ _ h => h) (Or.inl ⟨by rfl, ?_⟩) ?_ ?_
  rotate_left
  · intro w'
    go_simp
    first | with_reducible rfl | (rw [if_neg (by omega)]; try with_reducible rfl)
  rotate_left
  · simp only [Act.put, List.setIfInBounds_toArray, List.set_cons_zero, List.set_cons_succ, i64_w, i32_w]
    rfl
  refine pure_ (i := 13) (N := some 2) (v := ?_) (a' := ?_) #[true, true, true, true, true, true, true, true, true, true, true, true, true, true] rfl rfl (by kernel_rfl) (fun _ _ _ h => h) (Or.inl ⟨by rfl, ?_⟩) ?_ ?_
  rotate_left
  · intro w'
    go_simp
    first | with_reducible rfl | (rw [if_neg (by omega)]; try with_reducible rfl)
  rotate_left
  · simp only [Act.put, List.setIfInBounds_toArray, List.set_cons_zero, List.set_cons_succ, i64_w, i32_w]
    rfl
  refine done_ (by kernel_rfl) ?_
  go_wp2
  go_ret
  exact ⟨rfl, hHeld.2.2.2.2.2.2.2.2.2.2.2.out⟩
set_option maxHeartbeats 8000000 in
set_option maxRecDepth 100000 in
theorem rstmts_calls (n : Nat) (ih : IHr n) (xs : List S54) (hz : ∀ x ∈ xs, SizeOf.sizeOf x ≤ n) (ok : ∀ x ∈ xs, okSt n x) (A : Option Addr) (c : Nat) (w : World) (hC : k54.C w A xs.length xs) (hsz : (xs.flatMap (stmtF n)).length ≤ 140737488355328) :
    Calls Tryd.prog 28 #[.slice A xs.length c] w fun e w' => e = .returned (.string (tx (xs.flatMap (stmtF n)))) ∧ Below w.heap.size w w' := by
  have HC := Aside0.mk hC
  have HIH := Aside0.mk ih
  have HZ := Aside0.mk hz
  have HOK := Aside0.mk ok
  have HX := Aside0.mk hsz
  have HB := Aside0.mk (Below.refl w.heap.size w)
  have hml : xs.length ≤ 9223372036854775807 := hC.2.1
  clear hC ih hz ok hsz
  go_enter Tryd.func28, Tryd.ntmps28
  go_wp2_with fail
  go_loopg [3, 4] xs.length (fun gg s3 s4 wr => ∃ i : Nat, i ≤ xs.length ∧ xs.length - i ≤ gg ∧ s4 = .int .i64 i ∧ s3 = .string (tx ((xs.take i).flatMap (stmtF n))) ∧ Aside0 (Below w.heap.size w wr))
  case atStart => exact ⟨0, Nat.zero_le _, by omega, rfl, rfl, HB⟩
  case round =>
    obtain ⟨i, hi, hgg, rfl, rfl, HL⟩ := hrel
    generalize wr = wo at *
    by_cases hlt : i < xs.length
    · have hltz : (i : Int) < (xs.length : Int) := by omega
      obtain ⟨ad, cc, rfl, _, hK, hc0⟩ := Kd.C_get HC.out z54 (i : Int) (by omega) hltz
      have hx : xs.getD (i : Int).toNat z54 = xs[i] := by simp [hlt]
      rw [hx] at hK
      have hc1 : ∀ j v, cc[j]? = some v → wo.cell? ((ad.add (i * 18)).add j) = some v := fun j v hj => by
        have h := hc0 j v hj
        rw [Int.toNat_natCast] at h
        rw [add_add_]
        exact pw_cell_below HL.out h
      have HFT := Aside0.mk (flat_take n xs i hlt)
      have HFL := Aside0.mk (flat_le n xs (i + 1))
      have hm := List.getElem_mem hlt
      have HSZ := Aside0.mk (HZ.out _ hm)
      have HSO := Aside0.mk (HOK.out _ hm)
      obtain ⟨x, hxx⟩ : ∃ x, xs[i] = x := ⟨_, rfl⟩
      rw [hxx] at hK HFT HSZ HSO
      obtain ⟨A6, c6, A11, c11, A14, c14, A15, c15, A16, c16, A17, c17, rfl, l6, g6, l11, g11, l14, g14, l15, g15, l16, g16, l17, g17⟩ := k54_open hK
      have HIN := Aside0.mk ((⟨l6, g6, l11, g11, l14, g14, l15, g15, l16, g16, l17, g17⟩ : StIn w x ⟨A6, A11, A14, A15, A16, A17, c6, c11, c14, c15, c16, c17⟩).below HL.out)
      have HCC := Aside0.mk hc1
      have h1 := HX.out
      have h2 := HFL.out
      rw [HFT.out, List.length_append] at h2
      have HLX := Aside0.mk (show (stmtF n x).length ≤ 140737488355328 by omega)
      obtain ⟨acc, hacc⟩ : ∃ t, tx ((xs.take i).flatMap (stmtF n)) = t := ⟨_, rfl⟩
      obtain ⟨t, ht⟩ : ∃ t, tx (stmtF n x) = t := ⟨_, rfl⟩
      have hq : acc.size + t.size ≤ 9223372036854775807 := by rw [← hacc, ← ht, tx_size, tx_size]; omega
      have HE := Aside0.mk (show acc ++ t = tx ((xs.take (i + 1)).flatMap (stmtF n)) by rw [HFT.out, ← hacc, ← ht, tx_app])
      have HCL := Aside0.mk (HIH.out x ⟨A6, A11, A14, A15, A16, A17, c6, c11, c14, c15, c16, c17⟩ wo HIN.out HSZ.out HSO.out HLX.out)
      rw [ht] at HCL
      rw [hacc]
      clear hc0 hc1 hK hx hxx hm l6 g6 l11 g11 l14 g14 l15 g15 l16 g16 l17 g17 hlt h1 h2 hacc ht HFT HFL
      go_wp2_with (first | ((with_reducible refine gate_dst (N := 15) rfl ?_); refine load_any ?hg 54 (.tmp 14) ?ho (ad.add (i * 18)) ?hx [.int .i64 x.f0, .string x.f1, .int .i64 x.f2.f0, .int .i64 x.f2.f1, .int .i64 x.f2.f2, .string x.f2.f3, .slice A6 x.f2.f4.length c6, .int .i64 x.f3.f0, .int .i64 x.f3.f1, .int .i64 x.f3.f2, .string x.f3.f3, .slice A11 x.f3.f4.length c11, .int .i64 x.f4.f0, .int .i64 x.f4.f1, .slice A14 x.f4.f2.length c14, .slice A15 x.f4.f3.length c15, .slice A16 x.f5.length c16, .slice A17 x.f6.length c17] _ Tryd.underlying54 ?hd ?hi HCC.out ?_; (case hg => rfl); (case ho => rfl); (case hx => rfl); (case hd => rfl); (case hi => kernel_rfl)))
      refine HCL.out.mono ?_
      rintro e1 w3 ⟨rfl, hb⟩
      have HB3 := Aside0.mk (below_then HL.out HL.out.size hb)
      clear hb
      go_wp2_with fail
      go_roundg (xs.length - (i + 1))
      case measure => omega
      case rel => exact ⟨i + 1, by omega, by omega, by go_num, by rw [HE.out], HB3⟩
    · have hltz : ¬ (i : Int) < (xs.length : Int) := by omega
      have he : xs.take i = xs := List.take_of_length_le (by omega)
      rw [he]
      clear hlt he
      go_wp2_with fail
      go_ret
      exact ⟨rfl, HL.out⟩
set_option maxHeartbeats 8000000 in
set_option maxRecDepth 100000 in
theorem rstmt_while (n : Nat) (s : S54) (p : At54) (w : World) (hin : StIn w s p) (ih : IHr n) (hs : SizeOf.sizeOf s ≤ n + 1) (hok : okSt (n + 1) s) (hk : s.f0 = 6) (hsz : (stmtF (n + 1) s).length ≤ 140737488355328) :
    Calls Tryd.prog 46 #[stmtV s p] w fun e w' => e = .returned (.string (tx (stmtF (n + 1) s))) ∧ Below w.heap.size w w' := by
  have hv : tx (stmtF (n + 1) s) = (((((⟨#[119, 104, 105, 108, 101, 32, 40]⟩ : ByteArray) ++ condS s.f4) ++ (⟨#[41, 32, 123, 10]⟩ : ByteArray)) ++ tx (s.f5.flatMap (stmtF n))) ++ (⟨#[125, 10]⟩ : ByteArray)) := by
    refine ba_of _ ?_
    simp only [stmtF]
    rw [if_neg (by omega), if_neg (by omega), if_neg (by omega), if_neg (by omega), if_neg (by omega), if_pos hk]
    simp only [by_app, by_lit, lineL, catL, List.flatMap_cons, List.flatMap_nil, List.append_assoc, List.cons_append, List.nil_append, List.append_nil]
  rw [← tx_size, hv] at hsz
  rw [hv]
  simp only [ByteArray.size_append, szl14, List.size_toArray, List.length_cons, List.length_nil, Nat.zero_add, Nat.reduceAdd] at hsz
  have HO : Aside0 (∀ (W : World), Below w.heap.size w W → Calls Tryd.prog 16 #[.agg #[.int .i64 s.f4.f0, .int .i64 s.f4.f1, .slice p.A14 s.f4.f2.length p.c14, .slice p.A15 s.f4.f3.length p.c15]] W fun r w' => r = .returned (.string (condS s.f4)) ∧ Below W.heap.size W w') :=
    ⟨fun W hb => rcond_calls s.f4 p.A14 p.A15 p.c14 p.c15 W (Kd.C_below hin.g14 hb) hin.l14 (Kd.C_below hin.g15 hb) hin.l15 hok.2.2.1 (by omega)⟩
  obtain ⟨tc, htc⟩ : ∃ t, condS s.f4 = t := ⟨_, rfl⟩
  rw [htc] at HO hsz ⊢
  clear htc
  have HSb : Aside0 (∀ (W : World), Below w.heap.size w W → Calls Tryd.prog 28 #[.slice p.A16 s.f5.length p.c16] W fun r w' => r = .returned (.string (tx (s.f5.flatMap (stmtF n)))) ∧ Below W.heap.size W w') :=
    ⟨fun W hb => rstmts_calls n ih s.f5 (fun x hx => Nat.le_of_lt_succ (Nat.lt_of_lt_of_le (body_size s hx) hs)) hok.2.2.2.1 p.A16 p.c16 W (Kd.C_below hin.g16 hb) (by omega)⟩
  obtain ⟨tb, htb⟩ : ∃ t, tx (s.f5.flatMap (stmtF n)) = t := ⟨_, rfl⟩
  rw [← tx_size (s.f5.flatMap (stmtF n)), htb] at hsz
  rw [htb] at HSb ⊢
  clear htb
  clear hok ih hs
  have kb1 : (s.f0 == 1) = false := beq_eq_false_iff_ne.mpr (by omega)
  have kb2 : (s.f0 == 2) = false := beq_eq_false_iff_ne.mpr (by omega)
  have kb3 : (s.f0 == 3) = false := beq_eq_false_iff_ne.mpr (by omega)
  have kb4 : (s.f0 == 4) = false := beq_eq_false_iff_ne.mpr (by omega)
  have kb5 : (s.f0 == 5) = false := beq_eq_false_iff_ne.mpr (by omega)
  have kb6 : (s.f0 == 6) = true := beq_iff_eq.mpr hk
  have kb7 : (s.f0 == 7) = false := beq_eq_false_iff_ne.mpr (by omega)
  have kb8 : (s.f0 == 8) = false := beq_eq_false_iff_ne.mpr (by omega)
  clear hin hv hk
  unfold stmtV stmtC
  go_enter Tryd.func46, Tryd.ntmps46
  go_upto_region 16 with (first | ((with_reducible refine gate_dst (N := 1) rfl ?_); refine box_event ?hg (N := 1) ?hd (cs := #[.int .i64 s.f0, .string s.f1, .int .i64 s.f2.f0, .int .i64 s.f2.f1, .int .i64 s.f2.f2, .string s.f2.f3, .slice p.A6 s.f2.f4.length p.c6, .int .i64 s.f3.f0, .int .i64 s.f3.f1, .int .i64 s.f3.f2, .string s.f3.f3, .slice p.A11 s.f3.f4.length p.c11, .int .i64 s.f4.f0, .int .i64 s.f4.f1, .slice p.A14 s.f4.f2.length p.c14, .slice p.A15 s.f4.f3.length p.c15, .slice p.A16 s.f5.length p.c16, .slice p.A17 s.f6.length p.c17]) (t := 54) ?hr ?_; (case hd => rfl); (case hg => rfl); (case hr => first | (go_simp; done) | (go_simp; rfl)); intro ge hgg w1 hlit hb; have HG := Aside0.mk hlit; have HB1 := Aside0.mk hb; have hy0 : w1.cell? ⟨ge, 0, none⟩ = some (.int .i64 s.f0) := (blk_cell hlit 0).trans rfl; have hy12 : w1.cell? ⟨ge, 12, none⟩ = some (.int .i64 s.f4.f0) := (blk_cell hlit 12).trans rfl; have hy13 : w1.cell? ⟨ge, 13, none⟩ = some (.int .i64 s.f4.f1) := (blk_cell hlit 13).trans rfl; have hy14 : w1.cell? ⟨ge, 14, none⟩ = some (.slice p.A14 s.f4.f2.length p.c14) := (blk_cell hlit 14).trans rfl; have hy15 : w1.cell? ⟨ge, 15, none⟩ = some (.slice p.A15 s.f4.f3.length p.c15) := (blk_cell hlit 15).trans rfl; have hy16 : w1.cell? ⟨ge, 16, none⟩ = some (.slice p.A16 s.f5.length p.c16) := (blk_cell hlit 16).trans rfl; clear hlit hb hgg))
  refine start_ (n := 11) (S := fun w' => w'.cell? ⟨ge, 12, none⟩ = some (.int .i64 s.f4.f0) ∧ w'.cell? ⟨ge, 13, none⟩ = some (.int .i64 s.f4.f1) ∧ w'.cell? ⟨ge, 14, none⟩ = some (.slice p.A14 s.f4.f2.length p.c14) ∧ w'.cell? ⟨ge, 15, none⟩ = some (.slice p.A15 s.f4.f3.length p.c15) ∧ w'.cell? ⟨ge, 16, none⟩ = some (.slice p.A16 s.f5.length p.c16) ∧ Aside0 (Below w.heap.size w w')) (ds := []) #[false, false, false, false, false, false, false, false, false, false, false] (by kernel_rfl) rfl rfl ⟨hy12, hy13, hy14, hy15, hy16, ⟨below_drew HB1.out⟩⟩ (fun hHeld => ?_)
  refine pure_ (i := 0) (N := some 68) (v := ?_) (a' := ?_) #[true, false, false, false, false, false, false, false, false, false, false] rfl rfl (by kernel_rfl) (fun _ _ _ h => h) (Or.inl ⟨by rfl, ?_⟩) ?_ ?_
  rotate_left
  · intro w'
    go_simp
    first | with_reducible rfl | (rw [if_neg (by omega)]; try with_reducible rfl)
  rotate_left
  · simp only [Act.put, List.setIfInBounds_toArray, List.set_cons_zero, List.set_cons_succ, i64_w, i32_w]
    rfl
  refine pure_ (i := 5) (N := some 73) (v := ?_) (a' := ?_) #[true, false, false, false, false, true, false, false, false, false, false] rfl rfl (by kernel_rfl) (fun _ _ _ h => h) (Or.inl ⟨by rfl, ?_⟩) ?_ ?_
  rotate_left
  · intro w'
    go_simp
    first | with_reducible rfl | (rw [if_neg (by omega)]; try with_reducible rfl)
  rotate_left
  · simp only [Act.put, List.setIfInBounds_toArray, List.set_cons_zero, List.set_cons_succ, i64_w, i32_w]
    rfl
  refine take_ (i := 1) (N := some 69) (v := ?_) (a' := ?_) #[true, true, false, false, false, true, false, false, false, false, false] rfl rfl (by kernel_rfl) (fun _ _ _ h => h) (Or.inl ⟨by rfl, ?_⟩) hHeld ?_ ?_
  rotate_left
  · rintro w' ⟨s0, s1, s2, s3, s4, s5⟩
    go_simp
    first | with_reducible rfl | (rw [if_neg (by omega)]; try with_reducible rfl)
  rotate_left
  · simp only [Act.put, List.setIfInBounds_toArray, List.set_cons_zero, List.set_cons_succ, i64_w, i32_w]
    rfl
  refine take_ (i := 6) (N := some 74) (v := ?_) (a' := ?_) #[true, true, false, false, false, true, true, false, false, false, false] rfl rfl (by kernel_rfl) (fun _ _ _ h => h) (Or.inl ⟨by rfl, ?_⟩) hHeld ?_ ?_
  rotate_left
  · rintro w' ⟨s0, s1, s2, s3, s4, s5⟩
    go_simp
    first | with_reducible rfl | (rw [if_neg (by omega)]; try with_reducible rfl)
  rotate_left
  · simp only [Act.put, List.setIfInBounds_toArray, List.set_cons_zero, List.set_cons_succ, i64_w, i32_w]
    rfl
  refine one_ (i := 2) (N := some 70) #[true, true, true, false, false, true, true, false, false, false, false] rfl rfl (by kernel_rfl) (by decide) (fun K hK => ?_)
  refine goes_ Tryd.func16 (by kernel_rfl) rfl #[.agg #[.int .i64 s.f4.f0, .int .i64 s.f4.f1, .slice p.A14 s.f4.f2.length p.c14, .slice p.A15 s.f4.f3.length p.c15]] (by rfl) rfl rfl (by simp only [List.map_toArray, List.map_cons, List.map_nil, Act.eval]; rfl) ?_
  refine (HO.out _ hHeld.2.2.2.2.2.out).mono ?_
  rintro e1 v2 ⟨rfl, hb⟩
  refine ⟨_, rfl, ?_⟩
  refine hK.out _ _ ⟨pw_cell_below hb hHeld.1, pw_cell_below hb hHeld.2.1, pw_cell_below hb hHeld.2.2.1, pw_cell_below hb hHeld.2.2.2.1, pw_cell_below hb hHeld.2.2.2.2.1, ⟨below_then hHeld.2.2.2.2.2.out hHeld.2.2.2.2.2.out.size hb⟩⟩ (fun hHeld => ?_)
  clear hK K
  refine norm_ (a' := ?_) ?_ ?_
  rotate_left
  · show Act.put _ (some 70) _ = _
    simp only [Act.put, List.setIfInBounds_toArray, List.set_cons_zero, List.set_cons_succ, i64_w, i32_w]
    rfl
  refine pure_ (i := 3) (N := some 71) (v := ?_) (a' := ?_) #[true, true, true, true, false, true, true, false, false, false, false] rfl rfl (by kernel_rfl) (fun _ _ _ h => h) (Or.inl ⟨by rfl, ?_⟩) ?_ ?_
  rotate_left
  · intro w'
    go_simp
    first | with_reducible rfl | (rw [if_neg (by omega)]; try with_reducible rfl)
  rotate_left
  · simp only [Act.put, List.setIfInBounds_toArray, List.set_cons_zero, List.set_cons_succ, i64_w, i32_w]
    rfl
  refine pure_ (i := 4) (N := some 72) (v := ?_) (a' := ?_) #[true, true, true, true, true, true, true, false, false, false, false] rfl rfl (by kernel_rfl) (fun _ _ _ h => h) (Or.inl ⟨by rfl, ?_⟩) ?_ ?_
  rotate_left
  · intro w'
    go_simp
    first | with_reducible rfl | (rw [if_neg (by omega)]; try with_reducible rfl)
  rotate_left
  · simp only [Act.put, List.setIfInBounds_toArray, List.set_cons_zero, List.set_cons_succ, i64_w, i32_w]
    rfl
  refine one_ (i := 7) (N := some 75) #[true, true, true, true, true, true, true, true, false, false, false] rfl rfl (by kernel_rfl) (by decide) (fun K hK => ?_)
  refine goes_ Tryd.func28 (by kernel_rfl) rfl #[.slice p.A16 s.f5.length p.c16] (by rfl) rfl rfl (by simp only [List.map_toArray, List.map_cons, List.map_nil, Act.eval]; rfl) ?_
  refine (HSb.out _ hHeld.2.2.2.2.2.out).mono ?_
  rintro e1 v7 ⟨rfl, hb⟩
  refine ⟨_, rfl, ?_⟩
  refine hK.out _ _ ⟨pw_cell_below hb hHeld.1, pw_cell_below hb hHeld.2.1, pw_cell_below hb hHeld.2.2.1, pw_cell_below hb hHeld.2.2.2.1, pw_cell_below hb hHeld.2.2.2.2.1, ⟨below_then hHeld.2.2.2.2.2.out hHeld.2.2.2.2.2.out.size hb⟩⟩ (fun hHeld => ?_)
  clear hK K
  refine norm_ (a' := ?_) ?_ ?_
  rotate_left
  · show Act.put _ (some 75) _ = _
    simp only [Act.put, List.setIfInBounds_toArray, List.set_cons_zero, List.set_cons_succ, i64_w, i32_w]
    rfl
  refine pure_ (i := 8) (N := some 76) (v := ?_) (a' := ?_) #[true, true, true, true, true, true, true, true, true, false, false] rfl rfl (by kernel_rfl) (fun _ _ _ h => h) (Or.inl ⟨by rfl, ?_⟩) ?_ ?_
  rotate_left
  · intro w'
    go_simp
    first | with_reducible rfl | (rw [if_neg (by omega)]; try with_reducible rfl)
  rotate_left
  · simp only [Act.put, List.setIfInBounds_toArray, List.set_cons_zero, List.set_cons_succ, i64_w, i32_w]
    rfl
  refine pure_ (i := 9) (N := some 77) (v := ?_) (a' := ?_) #[true, true, true, true, true, true, true, true, true, true, false] rfl rfl (by kernel_rfl) (fun _ _ _ h => h) (Or.inl ⟨by rfl, ?_⟩) ?_ ?_
  rotate_left
  · intro w'
    go_simp
    first | with_reducible rfl | (rw [if_neg (by omega)]; try with_reducible rfl)
  rotate_left
  · simp only [Act.put, List.setIfInBounds_toArray, List.set_cons_zero, List.set_cons_succ, i64_w, i32_w]
    rfl
  refine pure_ (i := 10) (N := some 2) (v := ?_) (a' := ?_) #[true, true, true, true, true, true, true, true, true, true, true] rfl rfl (by kernel_rfl) (fun _ _ _ h => h) (Or.inl ⟨by rfl, ?_⟩) ?_ ?_
  rotate_left
  · intro w'
    go_simp
    first | with_reducible rfl | (rw [if_neg (by omega)]; try with_reducible rfl)
  rotate_left
  · simp only [Act.put, List.setIfInBounds_toArray, List.set_cons_zero, List.set_cons_succ, i64_w, i32_w]
    rfl
  refine done_ (by kernel_rfl) ?_
  go_wp2
  go_ret
  exact ⟨rfl, hHeld.2.2.2.2.2.out⟩
set_option maxHeartbeats 8000000 in
set_option maxRecDepth 100000 in
theorem rstmt_if (n : Nat) (s : S54) (p : At54) (w : World) (hin : StIn w s p) (ih : IHr n) (hs : SizeOf.sizeOf s ≤ n + 1) (hok : okSt (n + 1) s) (hk : s.f0 = 5 ∧ s.f6.length = 0) (hsz : (stmtF (n + 1) s).length ≤ 140737488355328) :
    Calls Tryd.prog 46 #[stmtV s p] w fun e w' => e = .returned (.string (tx (stmtF (n + 1) s))) ∧ Below w.heap.size w w' := by
  have hv : tx (stmtF (n + 1) s) = (((((⟨#[105, 102, 32, 40]⟩ : ByteArray) ++ condS s.f4) ++ (⟨#[41, 32, 123, 10]⟩ : ByteArray)) ++ tx (s.f5.flatMap (stmtF n))) ++ (⟨#[125, 10]⟩ : ByteArray)) := by
    refine ba_of _ ?_
    simp only [stmtF]
    rw [if_neg (by omega), if_neg (by omega), if_neg (by omega), if_neg (by omega), if_pos hk.1, if_pos hk.2]
    simp only [by_app, by_lit, lineL, catL, List.flatMap_cons, List.flatMap_nil, List.append_assoc, List.cons_append, List.nil_append, List.append_nil]
  rw [← tx_size, hv] at hsz
  rw [hv]
  simp only [ByteArray.size_append, szl14, List.size_toArray, List.length_cons, List.length_nil, Nat.zero_add, Nat.reduceAdd] at hsz
  have HO : Aside0 (∀ (W : World), Below w.heap.size w W → Calls Tryd.prog 16 #[.agg #[.int .i64 s.f4.f0, .int .i64 s.f4.f1, .slice p.A14 s.f4.f2.length p.c14, .slice p.A15 s.f4.f3.length p.c15]] W fun r w' => r = .returned (.string (condS s.f4)) ∧ Below W.heap.size W w') :=
    ⟨fun W hb => rcond_calls s.f4 p.A14 p.A15 p.c14 p.c15 W (Kd.C_below hin.g14 hb) hin.l14 (Kd.C_below hin.g15 hb) hin.l15 hok.2.2.1 (by omega)⟩
  obtain ⟨tc, htc⟩ : ∃ t, condS s.f4 = t := ⟨_, rfl⟩
  rw [htc] at HO hsz ⊢
  clear htc
  have HSb : Aside0 (∀ (W : World), Below w.heap.size w W → Calls Tryd.prog 28 #[.slice p.A16 s.f5.length p.c16] W fun r w' => r = .returned (.string (tx (s.f5.flatMap (stmtF n)))) ∧ Below W.heap.size W w') :=
    ⟨fun W hb => rstmts_calls n ih s.f5 (fun x hx => Nat.le_of_lt_succ (Nat.lt_of_lt_of_le (body_size s hx) hs)) hok.2.2.2.1 p.A16 p.c16 W (Kd.C_below hin.g16 hb) (by omega)⟩
  obtain ⟨tb, htb⟩ : ∃ t, tx (s.f5.flatMap (stmtF n)) = t := ⟨_, rfl⟩
  rw [← tx_size (s.f5.flatMap (stmtF n)), htb] at hsz
  rw [htb] at HSb ⊢
  clear htb
  have hn6 := hk.2
  clear hok ih hs
  have kb1 : (s.f0 == 1) = false := beq_eq_false_iff_ne.mpr (by omega)
  have kb2 : (s.f0 == 2) = false := beq_eq_false_iff_ne.mpr (by omega)
  have kb3 : (s.f0 == 3) = false := beq_eq_false_iff_ne.mpr (by omega)
  have kb4 : (s.f0 == 4) = false := beq_eq_false_iff_ne.mpr (by omega)
  have kb5 : (s.f0 == 5) = true := beq_iff_eq.mpr hk.1
  have kb6 : (s.f0 == 6) = false := beq_eq_false_iff_ne.mpr (by omega)
  have kb7 : (s.f0 == 7) = false := beq_eq_false_iff_ne.mpr (by omega)
  have kb8 : (s.f0 == 8) = false := beq_eq_false_iff_ne.mpr (by omega)
  have hq1 : 4 + tc.size ≤ 9223372036854775807 := by omega
  have hq2 : 4 + tc.size + 4 ≤ 9223372036854775807 := by omega
  have hq3 : 4 + tc.size + 4 + tb.size ≤ 9223372036854775807 := by omega
  have hq4 : 4 + tc.size + 4 + tb.size + 2 ≤ 9223372036854775807 := by omega
  clear hin hv hk
  unfold stmtV stmtC
  go_enter Tryd.func46, Tryd.ntmps46
  go_upto_region 11 with (first | ((with_reducible refine gate_dst (N := 1) rfl ?_); refine box_event ?hg (N := 1) ?hd (cs := #[.int .i64 s.f0, .string s.f1, .int .i64 s.f2.f0, .int .i64 s.f2.f1, .int .i64 s.f2.f2, .string s.f2.f3, .slice p.A6 s.f2.f4.length p.c6, .int .i64 s.f3.f0, .int .i64 s.f3.f1, .int .i64 s.f3.f2, .string s.f3.f3, .slice p.A11 s.f3.f4.length p.c11, .int .i64 s.f4.f0, .int .i64 s.f4.f1, .slice p.A14 s.f4.f2.length p.c14, .slice p.A15 s.f4.f3.length p.c15, .slice p.A16 s.f5.length p.c16, .slice p.A17 s.f6.length p.c17]) (t := 54) ?hr ?_; (case hd => rfl); (case hg => rfl); (case hr => first | (go_simp; done) | (go_simp; rfl)); intro ge hgg w1 hlit hb; have HG := Aside0.mk hlit; have HB1 := Aside0.mk hb; have hy0 : w1.cell? ⟨ge, 0, none⟩ = some (.int .i64 s.f0) := (blk_cell hlit 0).trans rfl; have hy12 : w1.cell? ⟨ge, 12, none⟩ = some (.int .i64 s.f4.f0) := (blk_cell hlit 12).trans rfl; have hy13 : w1.cell? ⟨ge, 13, none⟩ = some (.int .i64 s.f4.f1) := (blk_cell hlit 13).trans rfl; have hy14 : w1.cell? ⟨ge, 14, none⟩ = some (.slice p.A14 s.f4.f2.length p.c14) := (blk_cell hlit 14).trans rfl; have hy15 : w1.cell? ⟨ge, 15, none⟩ = some (.slice p.A15 s.f4.f3.length p.c15) := (blk_cell hlit 15).trans rfl; have hy16 : w1.cell? ⟨ge, 16, none⟩ = some (.slice p.A16 s.f5.length p.c16) := (blk_cell hlit 16).trans rfl; have hy17 : w1.cell? ⟨ge, 17, none⟩ = some (.slice p.A17 s.f6.length p.c17) := (blk_cell hlit 17).trans rfl; clear hlit hb hgg))
  refine start_ (n := 10) (S := fun w' => w'.cell? ⟨ge, 12, none⟩ = some (.int .i64 s.f4.f0) ∧ w'.cell? ⟨ge, 13, none⟩ = some (.int .i64 s.f4.f1) ∧ w'.cell? ⟨ge, 14, none⟩ = some (.slice p.A14 s.f4.f2.length p.c14) ∧ w'.cell? ⟨ge, 15, none⟩ = some (.slice p.A15 s.f4.f3.length p.c15) ∧ w'.cell? ⟨ge, 16, none⟩ = some (.slice p.A16 s.f5.length p.c16) ∧ w'.cell? ⟨ge, 17, none⟩ = some (.slice p.A17 s.f6.length p.c17) ∧ Aside0 (Below w.heap.size w w')) (ds := []) #[false, false, false, false, false, false, false, false, false, false] (by kernel_rfl) rfl rfl ⟨hy12, hy13, hy14, hy15, hy16, hy17, ⟨below_drew HB1.out⟩⟩ (fun hHeld => ?_)
  refine pure_ (i := 0) (N := some 45) (v := ?_) (a' := ?_) #[true, false, false, false, false, false, false, false, false, false] rfl rfl (by kernel_rfl) (fun _ _ _ h => h) (Or.inl ⟨by rfl, ?_⟩) ?_ ?_
  rotate_left
  · intro w'
    go_simp
    first | with_reducible rfl | (rw [if_neg (by omega)]; try with_reducible rfl)
  rotate_left
  · simp only [Act.put, List.setIfInBounds_toArray, List.set_cons_zero, List.set_cons_succ, i64_w, i32_w]
    rfl
  refine pure_ (i := 5) (N := some 50) (v := ?_) (a' := ?_) #[true, false, false, false, false, true, false, false, false, false] rfl rfl (by kernel_rfl) (fun _ _ _ h => h) (Or.inl ⟨by rfl, ?_⟩) ?_ ?_
  rotate_left
  · intro w'
    go_simp
    first | with_reducible rfl | (rw [if_neg (by omega)]; try with_reducible rfl)
  rotate_left
  · simp only [Act.put, List.setIfInBounds_toArray, List.set_cons_zero, List.set_cons_succ, i64_w, i32_w]
    rfl
  refine take_ (i := 1) (N := some 46) (v := ?_) (a' := ?_) #[true, true, false, false, false, true, false, false, false, false] rfl rfl (by kernel_rfl) (fun _ _ _ h => h) (Or.inl ⟨by rfl, ?_⟩) hHeld ?_ ?_
  rotate_left
  · rintro w' ⟨s0, s1, s2, s3, s4, s5, s6⟩
    go_simp
    first | with_reducible rfl | (rw [if_neg (by omega)]; try with_reducible rfl)
  rotate_left
  · simp only [Act.put, List.setIfInBounds_toArray, List.set_cons_zero, List.set_cons_succ, i64_w, i32_w]
    rfl
  refine take_ (i := 6) (N := some 51) (v := ?_) (a' := ?_) #[true, true, false, false, false, true, true, false, false, false] rfl rfl (by kernel_rfl) (fun _ _ _ h => h) (Or.inl ⟨by rfl, ?_⟩) hHeld ?_ ?_
  rotate_left
  · rintro w' ⟨s0, s1, s2, s3, s4, s5, s6⟩
    go_simp
    first | with_reducible rfl | (rw [if_neg (by omega)]; try with_reducible rfl)
  rotate_left
  · simp only [Act.put, List.setIfInBounds_toArray, List.set_cons_zero, List.set_cons_succ, i64_w, i32_w]
    rfl
  refine one_ (i := 2) (N := some 47) #[true, true, true, false, false, true, true, false, false, false] rfl rfl (by kernel_rfl) (by decide) (fun K hK => ?_)
  refine goes_ Tryd.func16 (by kernel_rfl) rfl #[.agg #[.int .i64 s.f4.f0, .int .i64 s.f4.f1, .slice p.A14 s.f4.f2.length p.c14, .slice p.A15 s.f4.f3.length p.c15]] (by rfl) rfl rfl (by simp only [List.map_toArray, List.map_cons, List.map_nil, Act.eval]; rfl) ?_
  refine (HO.out _ hHeld.2.2.2.2.2.2.out).mono ?_
  rintro e1 v2 ⟨rfl, hb⟩
  refine ⟨_, rfl, ?_⟩
  refine hK.out _ _ ⟨pw_cell_below hb hHeld.1, pw_cell_below hb hHeld.2.1, pw_cell_below hb hHeld.2.2.1, pw_cell_below hb hHeld.2.2.2.1, pw_cell_below hb hHeld.2.2.2.2.1, pw_cell_below hb hHeld.2.2.2.2.2.1, ⟨below_then hHeld.2.2.2.2.2.2.out hHeld.2.2.2.2.2.2.out.size hb⟩⟩ (fun hHeld => ?_)
  clear hK K
  refine norm_ (a' := ?_) ?_ ?_
  rotate_left
  · show Act.put _ (some 47) _ = _
    simp only [Act.put, List.setIfInBounds_toArray, List.set_cons_zero, List.set_cons_succ, i64_w, i32_w]
    rfl
  refine pure_ (i := 3) (N := some 48) (v := ?_) (a' := ?_) #[true, true, true, true, false, true, true, false, false, false] rfl rfl (by kernel_rfl) (fun _ _ _ h => h) (Or.inl ⟨by rfl, ?_⟩) ?_ ?_
  rotate_left
  · intro w'
    go_simp
    first | with_reducible rfl | (rw [if_neg (by omega)]; try with_reducible rfl)
  rotate_left
  · simp only [Act.put, List.setIfInBounds_toArray, List.set_cons_zero, List.set_cons_succ, i64_w, i32_w]
    rfl
  refine pure_ (i := 4) (N := some 49) (v := ?_) (a' := ?_) #[true, true, true, true, true, true, true, false, false, false] rfl rfl (by kernel_rfl) (fun _ _ _ h => h) (Or.inl ⟨by rfl, ?_⟩) ?_ ?_
  rotate_left
  · intro w'
    go_simp
    first | with_reducible rfl | (rw [if_neg (by omega)]; try with_reducible rfl)
  rotate_left
  · simp only [Act.put, List.setIfInBounds_toArray, List.set_cons_zero, List.set_cons_succ, i64_w, i32_w]
    rfl
  refine one_ (i := 7) (N := some 52) #[true, true, true, true, true, true, true, true, false, false] rfl rfl (by kernel_rfl) (by decide) (fun K hK => ?_)
  refine goes_ Tryd.func28 (by kernel_rfl) rfl #[.slice p.A16 s.f5.length p.c16] (by rfl) rfl rfl (by simp only [List.map_toArray, List.map_cons, List.map_nil, Act.eval]; rfl) ?_
  refine (HSb.out _ hHeld.2.2.2.2.2.2.out).mono ?_
  rintro e1 v7 ⟨rfl, hb⟩
  refine ⟨_, rfl, ?_⟩
  refine hK.out _ _ ⟨pw_cell_below hb hHeld.1, pw_cell_below hb hHeld.2.1, pw_cell_below hb hHeld.2.2.1, pw_cell_below hb hHeld.2.2.2.1, pw_cell_below hb hHeld.2.2.2.2.1, pw_cell_below hb hHeld.2.2.2.2.2.1, ⟨below_then hHeld.2.2.2.2.2.2.out hHeld.2.2.2.2.2.2.out.size hb⟩⟩ (fun hHeld => ?_)
  clear hK K
  refine norm_ (a' := ?_) ?_ ?_
  rotate_left
  · show Act.put _ (some 52) _ = _
    simp only [Act.put, List.setIfInBounds_toArray, List.set_cons_zero, List.set_cons_succ, i64_w, i32_w]
    rfl
  refine pure_ (i := 8) (N := some 53) (v := ?_) (a' := ?_) #[true, true, true, true, true, true, true, true, true, false] rfl rfl (by kernel_rfl) (fun _ _ _ h => h) (Or.inl ⟨by rfl, ?_⟩) ?_ ?_
  rotate_left
  · intro w'
    go_simp
    first | with_reducible rfl | (rw [if_neg (by omega)]; try with_reducible rfl)
  rotate_left
  · simp only [Act.put, List.setIfInBounds_toArray, List.set_cons_zero, List.set_cons_succ, i64_w, i32_w]
    rfl
  refine pure_ (i := 9) (N := some 3) (v := ?_) (a' := ?_) #[true, true, true, true, true, true, true, true, true, true] rfl rfl (by kernel_rfl) (fun _ _ _ h => h) (Or.inl ⟨by rfl, ?_⟩) ?_ ?_
  rotate_left
  · intro w'
    go_simp
    first | with_reducible rfl | (rw [if_neg (by omega)]; try with_reducible rfl)
  rotate_left
  · simp only [Act.put, List.setIfInBounds_toArray, List.set_cons_zero, List.set_cons_succ, i64_w, i32_w]
    rfl
  refine done_ (by kernel_rfl) ?_
  have HBX := Aside0.mk hHeld.2.2.2.2.2.2.out
  go_wp2_with (first | fail)
  go_ret
  exact ⟨rfl, HBX.out⟩
set_option maxHeartbeats 8000000 in
set_option maxRecDepth 100000 in
theorem rstmt_ife (n : Nat) (s : S54) (p : At54) (w : World) (hin : StIn w s p) (ih : IHr n) (hs : SizeOf.sizeOf s ≤ n + 1) (hok : okSt (n + 1) s) (hk : s.f0 = 5 ∧ 0 < s.f6.length) (hsz : (stmtF (n + 1) s).length ≤ 140737488355328) :
    Calls Tryd.prog 46 #[stmtV s p] w fun e w' => e = .returned (.string (tx (stmtF (n + 1) s))) ∧ Below w.heap.size w w' := by
  have hv : tx (stmtF (n + 1) s) = (((((((⟨#[105, 102, 32, 40]⟩ : ByteArray) ++ condS s.f4) ++ (⟨#[41, 32, 123, 10]⟩ : ByteArray)) ++ tx (s.f5.flatMap (stmtF n))) ++ (⟨#[125, 32, 101, 108, 115, 101, 32, 123, 10]⟩ : ByteArray)) ++ tx (s.f6.flatMap (stmtF n))) ++ (⟨#[125, 10]⟩ : ByteArray)) := by
    refine ba_of _ ?_
    simp only [stmtF]
    rw [if_neg (by omega), if_neg (by omega), if_neg (by omega), if_neg (by omega), if_pos hk.1, if_neg (by omega)]
    simp only [by_app, by_lit, lineL, catL, List.flatMap_cons, List.flatMap_nil, List.append_assoc, List.cons_append, List.nil_append, List.append_nil]
  rw [← tx_size, hv] at hsz
  rw [hv]
  simp only [ByteArray.size_append, szl14, List.size_toArray, List.length_cons, List.length_nil, Nat.zero_add, Nat.reduceAdd] at hsz
  have HO : Aside0 (∀ (W : World), Below w.heap.size w W → Calls Tryd.prog 16 #[.agg #[.int .i64 s.f4.f0, .int .i64 s.f4.f1, .slice p.A14 s.f4.f2.length p.c14, .slice p.A15 s.f4.f3.length p.c15]] W fun r w' => r = .returned (.string (condS s.f4)) ∧ Below W.heap.size W w') :=
    ⟨fun W hb => rcond_calls s.f4 p.A14 p.A15 p.c14 p.c15 W (Kd.C_below hin.g14 hb) hin.l14 (Kd.C_below hin.g15 hb) hin.l15 hok.2.2.1 (by omega)⟩
  obtain ⟨tc, htc⟩ : ∃ t, condS s.f4 = t := ⟨_, rfl⟩
  rw [htc] at HO hsz ⊢
  clear htc
  have HSb : Aside0 (∀ (W : World), Below w.heap.size w W → Calls Tryd.prog 28 #[.slice p.A16 s.f5.length p.c16] W fun r w' => r = .returned (.string (tx (s.f5.flatMap (stmtF n)))) ∧ Below W.heap.size W w') :=
    ⟨fun W hb => rstmts_calls n ih s.f5 (fun x hx => Nat.le_of_lt_succ (Nat.lt_of_lt_of_le (body_size s hx) hs)) hok.2.2.2.1 p.A16 p.c16 W (Kd.C_below hin.g16 hb) (by omega)⟩
  obtain ⟨tb, htb⟩ : ∃ t, tx (s.f5.flatMap (stmtF n)) = t := ⟨_, rfl⟩
  rw [← tx_size (s.f5.flatMap (stmtF n)), htb] at hsz
  rw [htb] at HSb ⊢
  clear htb
  have HSe : Aside0 (∀ (W : World), Below w.heap.size w W → Calls Tryd.prog 28 #[.slice p.A17 s.f6.length p.c17] W fun r w' => r = .returned (.string (tx (s.f6.flatMap (stmtF n)))) ∧ Below W.heap.size W w') :=
    ⟨fun W hb => rstmts_calls n ih s.f6 (fun x hx => Nat.le_of_lt_succ (Nat.lt_of_lt_of_le (else_size s hx) hs)) hok.2.2.2.2 p.A17 p.c17 W (Kd.C_below hin.g17 hb) (by omega)⟩
  obtain ⟨te, hte⟩ : ∃ t, tx (s.f6.flatMap (stmtF n)) = t := ⟨_, rfl⟩
  rw [← tx_size (s.f6.flatMap (stmtF n)), hte] at hsz
  rw [hte] at HSe ⊢
  clear hte
  have hn6 := hk.2
  clear hok ih hs
  have kb1 : (s.f0 == 1) = false := beq_eq_false_iff_ne.mpr (by omega)
  have kb2 : (s.f0 == 2) = false := beq_eq_false_iff_ne.mpr (by omega)
  have kb3 : (s.f0 == 3) = false := beq_eq_false_iff_ne.mpr (by omega)
  have kb4 : (s.f0 == 4) = false := beq_eq_false_iff_ne.mpr (by omega)
  have kb5 : (s.f0 == 5) = true := beq_iff_eq.mpr hk.1
  have kb6 : (s.f0 == 6) = false := beq_eq_false_iff_ne.mpr (by omega)
  have kb7 : (s.f0 == 7) = false := beq_eq_false_iff_ne.mpr (by omega)
  have kb8 : (s.f0 == 8) = false := beq_eq_false_iff_ne.mpr (by omega)
  have hq1 : 4 + tc.size ≤ 9223372036854775807 := by omega
  have hq2 : 4 + tc.size + 4 ≤ 9223372036854775807 := by omega
  have hq3 : 4 + tc.size + 4 + tb.size ≤ 9223372036854775807 := by omega
  have hq4 : 4 + tc.size + 4 + tb.size + 9 ≤ 9223372036854775807 := by omega
  have hq5 : 4 + tc.size + 4 + tb.size + 9 + te.size ≤ 9223372036854775807 := by omega
  have hq6 : 4 + tc.size + 4 + tb.size + 9 + te.size + 2 ≤ 9223372036854775807 := by omega
  clear hin hv hk
  unfold stmtV stmtC
  go_enter Tryd.func46, Tryd.ntmps46
  go_upto_region 11 with (first | ((with_reducible refine gate_dst (N := 1) rfl ?_); refine box_event ?hg (N := 1) ?hd (cs := #[.int .i64 s.f0, .string s.f1, .int .i64 s.f2.f0, .int .i64 s.f2.f1, .int .i64 s.f2.f2, .string s.f2.f3, .slice p.A6 s.f2.f4.length p.c6, .int .i64 s.f3.f0, .int .i64 s.f3.f1, .int .i64 s.f3.f2, .string s.f3.f3, .slice p.A11 s.f3.f4.length p.c11, .int .i64 s.f4.f0, .int .i64 s.f4.f1, .slice p.A14 s.f4.f2.length p.c14, .slice p.A15 s.f4.f3.length p.c15, .slice p.A16 s.f5.length p.c16, .slice p.A17 s.f6.length p.c17]) (t := 54) ?hr ?_; (case hd => rfl); (case hg => rfl); (case hr => first | (go_simp; done) | (go_simp; rfl)); intro ge hgg w1 hlit hb; have HG := Aside0.mk hlit; have HB1 := Aside0.mk hb; have hy0 : w1.cell? ⟨ge, 0, none⟩ = some (.int .i64 s.f0) := (blk_cell hlit 0).trans rfl; have hy12 : w1.cell? ⟨ge, 12, none⟩ = some (.int .i64 s.f4.f0) := (blk_cell hlit 12).trans rfl; have hy13 : w1.cell? ⟨ge, 13, none⟩ = some (.int .i64 s.f4.f1) := (blk_cell hlit 13).trans rfl; have hy14 : w1.cell? ⟨ge, 14, none⟩ = some (.slice p.A14 s.f4.f2.length p.c14) := (blk_cell hlit 14).trans rfl; have hy15 : w1.cell? ⟨ge, 15, none⟩ = some (.slice p.A15 s.f4.f3.length p.c15) := (blk_cell hlit 15).trans rfl; have hy16 : w1.cell? ⟨ge, 16, none⟩ = some (.slice p.A16 s.f5.length p.c16) := (blk_cell hlit 16).trans rfl; have hy17 : w1.cell? ⟨ge, 17, none⟩ = some (.slice p.A17 s.f6.length p.c17) := (blk_cell hlit 17).trans rfl; clear hlit hb hgg))
  refine start_ (n := 10) (S := fun w' => w'.cell? ⟨ge, 12, none⟩ = some (.int .i64 s.f4.f0) ∧ w'.cell? ⟨ge, 13, none⟩ = some (.int .i64 s.f4.f1) ∧ w'.cell? ⟨ge, 14, none⟩ = some (.slice p.A14 s.f4.f2.length p.c14) ∧ w'.cell? ⟨ge, 15, none⟩ = some (.slice p.A15 s.f4.f3.length p.c15) ∧ w'.cell? ⟨ge, 16, none⟩ = some (.slice p.A16 s.f5.length p.c16) ∧ w'.cell? ⟨ge, 17, none⟩ = some (.slice p.A17 s.f6.length p.c17) ∧ Aside0 (Below w.heap.size w w')) (ds := []) #[false, false, false, false, false, false, false, false, false, false] (by kernel_rfl) rfl rfl ⟨hy12, hy13, hy14, hy15, hy16, hy17, ⟨below_drew HB1.out⟩⟩ (fun hHeld => ?_)
  refine pure_ (i := 0) (N := some 45) (v := ?_) (a' := ?_) #[true, false, false, false, false, false, false, false, false, false] rfl rfl (by kernel_rfl) (fun _ _ _ h => h) (Or.inl ⟨by rfl, ?_⟩) ?_ ?_
  rotate_left
  · intro w'
    go_simp
    first | with_reducible rfl | (rw [if_neg (by omega)]; try with_reducible rfl)
  rotate_left
  · simp only [Act.put, List.setIfInBounds_toArray, List.set_cons_zero, List.set_cons_succ, i64_w, i32_w]
    rfl
  refine pure_ (i := 5) (N := some 50) (v := ?_) (a' := ?_) #[true, false, false, false, false, true, false, false, false, false] rfl rfl (by kernel_rfl) (fun _ _ _ h => h) (Or.inl ⟨by rfl, ?_⟩) ?_ ?_
  rotate_left
  · intro w'
    go_simp
    first | with_reducible rfl | (rw [if_neg (by omega)]; try with_reducible rfl)
  rotate_left
  · simp only [Act.put, List.setIfInBounds_toArray, List.set_cons_zero, List.set_cons_succ, i64_w, i32_w]
    rfl
  refine take_ (i := 1) (N := some 46) (v := ?_) (a' := ?_) #[true, true, false, false, false, true, false, false, false, false] rfl rfl (by kernel_rfl) (fun _ _ _ h => h) (Or.inl ⟨by rfl, ?_⟩) hHeld ?_ ?_
  rotate_left
  · rintro w' ⟨s0, s1, s2, s3, s4, s5, s6⟩
    go_simp
    first | with_reducible rfl | (rw [if_neg (by omega)]; try with_reducible rfl)
  rotate_left
  · simp only [Act.put, List.setIfInBounds_toArray, List.set_cons_zero, List.set_cons_succ, i64_w, i32_w]
    rfl
  refine take_ (i := 6) (N := some 51) (v := ?_) (a' := ?_) #[true, true, false, false, false, true, true, false, false, false] rfl rfl (by kernel_rfl) (fun _ _ _ h => h) (Or.inl ⟨by rfl, ?_⟩) hHeld ?_ ?_
  rotate_left
  · rintro w' ⟨s0, s1, s2, s3, s4, s5, s6⟩
    go_simp
    first | with_reducible rfl | (rw [if_neg (by omega)]; try with_reducible rfl)
  rotate_left
  · simp only [Act.put, List.setIfInBounds_toArray, List.set_cons_zero, List.set_cons_succ, i64_w, i32_w]
    rfl
  refine one_ (i := 2) (N := some 47) #[true, true, true, false, false, true, true, false, false, false] rfl rfl (by kernel_rfl) (by decide) (fun K hK => ?_)
  refine goes_ Tryd.func16 (by kernel_rfl) rfl #[.agg #[.int .i64 s.f4.f0, .int .i64 s.f4.f1, .slice p.A14 s.f4.f2.length p.c14, .slice p.A15 s.f4.f3.length p.c15]] (by rfl) rfl rfl (by simp only [List.map_toArray, List.map_cons, List.map_nil, Act.eval]; rfl) ?_
  refine (HO.out _ hHeld.2.2.2.2.2.2.out).mono ?_
  rintro e1 v2 ⟨rfl, hb⟩
  refine ⟨_, rfl, ?_⟩
  refine hK.out _ _ ⟨pw_cell_below hb hHeld.1, pw_cell_below hb hHeld.2.1, pw_cell_below hb hHeld.2.2.1, pw_cell_below hb hHeld.2.2.2.1, pw_cell_below hb hHeld.2.2.2.2.1, pw_cell_below hb hHeld.2.2.2.2.2.1, ⟨below_then hHeld.2.2.2.2.2.2.out hHeld.2.2.2.2.2.2.out.size hb⟩⟩ (fun hHeld => ?_)
  clear hK K
  refine norm_ (a' := ?_) ?_ ?_
  rotate_left
  · show Act.put _ (some 47) _ = _
    simp only [Act.put, List.setIfInBounds_toArray, List.set_cons_zero, List.set_cons_succ, i64_w, i32_w]
    rfl
  refine pure_ (i := 3) (N := some 48) (v := ?_) (a' := ?_) #[true, true, true, true, false, true, true, false, false, false] rfl rfl (by kernel_rfl) (fun _ _ _ h => h) (Or.inl ⟨by rfl, ?_⟩) ?_ ?_
  rotate_left
  · intro w'
    go_simp
    first | with_reducible rfl | (rw [if_neg (by omega)]; try with_reducible rfl)
  rotate_left
  · simp only [Act.put, List.setIfInBounds_toArray, List.set_cons_zero, List.set_cons_succ, i64_w, i32_w]
    rfl
  refine pure_ (i := 4) (N := some 49) (v := ?_) (a' := ?_) #[true, true, true, true, true, true, true, false, false, false] rfl rfl (by kernel_rfl) (fun _ _ _ h => h) (Or.inl ⟨by rfl, ?_⟩) ?_ ?_
  rotate_left
  · intro w'
    go_simp
    first | with_reducible rfl | (rw [if_neg (by omega)]; try with_reducible rfl)
  rotate_left
  · simp only [Act.put, List.setIfInBounds_toArray, List.set_cons_zero, List.set_cons_succ, i64_w, i32_w]
    rfl
  refine one_ (i := 7) (N := some 52) #[true, true, true, true, true, true, true, true, false, false] rfl rfl (by kernel_rfl) (by decide) (fun K hK => ?_)
  refine goes_ Tryd.func28 (by kernel_rfl) rfl #[.slice p.A16 s.f5.length p.c16] (by rfl) rfl rfl (by simp only [List.map_toArray, List.map_cons, List.map_nil, Act.eval]; rfl) ?_
  refine (HSb.out _ hHeld.2.2.2.2.2.2.out).mono ?_
  rintro e1 v7 ⟨rfl, hb⟩
  refine ⟨_, rfl, ?_⟩
  refine hK.out _ _ ⟨pw_cell_below hb hHeld.1, pw_cell_below hb hHeld.2.1, pw_cell_below hb hHeld.2.2.1, pw_cell_below hb hHeld.2.2.2.1, pw_cell_below hb hHeld.2.2.2.2.1, pw_cell_below hb hHeld.2.2.2.2.2.1, ⟨below_then hHeld.2.2.2.2.2.2.out hHeld.2.2.2.2.2.2.out.size hb⟩⟩ (fun hHeld => ?_)
  clear hK K
  refine norm_ (a' := ?_) ?_ ?_
  rotate_left
  · show Act.put _ (some 52) _ = _
    simp only [Act.put, List.setIfInBounds_toArray, List.set_cons_zero, List.set_cons_succ, i64_w, i32_w]
    rfl
  refine pure_ (i := 8) (N := some 53) (v := ?_) (a' := ?_) #[true, true, true, true, true, true, true, true, true, false] rfl rfl (by kernel_rfl) (fun _ _ _ h => h) (Or.inl ⟨by rfl, ?_⟩) ?_ ?_
  rotate_left
  · intro w'
    go_simp
    first | with_reducible rfl | (rw [if_neg (by omega)]; try with_reducible rfl)
  rotate_left
  · simp only [Act.put, List.setIfInBounds_toArray, List.set_cons_zero, List.set_cons_succ, i64_w, i32_w]
    rfl
  refine pure_ (i := 9) (N := some 3) (v := ?_) (a' := ?_) #[true, true, true, true, true, true, true, true, true, true] rfl rfl (by kernel_rfl) (fun _ _ _ h => h) (Or.inl ⟨by rfl, ?_⟩) ?_ ?_
  rotate_left
  · intro w'
    go_simp
    first | with_reducible rfl | (rw [if_neg (by omega)]; try with_reducible rfl)
  rotate_left
  · simp only [Act.put, List.setIfInBounds_toArray, List.set_cons_zero, List.set_cons_succ, i64_w, i32_w]
    rfl
  refine done_ (by kernel_rfl) ?_
  have HBX := Aside0.mk hHeld.2.2.2.2.2.2.out
  go_wp2_with (first | fail | (go_at_call 28; (with_reducible refine (HSe.out _ HBX.out).mono ?_); rintro e1 w2 ⟨rfl, hb⟩; have HB2 := Aside0.mk (below_then HBX.out HBX.out.size hb); clear hb))
  go_ret
  exact ⟨rfl, HB2.out⟩
/-- meddlerref6.stmt answers stmtF, with as much fuel as the statement is large. -/
theorem rstmt_calls : ∀ (n : Nat), IHr n
  | 0, s, p, w, hin, hs, hok, hp => by
    obtain ⟨a, b, c, d, e, f, g⟩ := s
    simp only [S54.mk.sizeOf_spec] at hs
    omega
  | n + 1, s, p, w, hin, hs, hok, hp => by
    have ih := rstmt_calls n
    by_cases k1 : s.f0 = 1
    · exact rstmt_set n s p w hin hok k1 hp
    by_cases k2 : s.f0 = 2
    · exact rstmt_elem n s p w hin hok k2 hp
    by_cases k3 : s.f0 = 3
    · exact rstmt_lock n s p w hin k3 hp
    by_cases k4 : s.f0 = 4
    · exact rstmt_unlock n s p w hin k4 hp
    by_cases k5 : s.f0 = 5
    · rcases Nat.eq_zero_or_pos s.f6.length with h | h
      · exact rstmt_if n s p w hin ih hs hok ⟨k5, h⟩ hp
      · exact rstmt_ife n s p w hin ih hs hok ⟨k5, h⟩ hp
    by_cases k6 : s.f0 = 6
    · exact rstmt_while n s p w hin ih hs hok k6 hp
    by_cases k7 : s.f0 = 7
    · exact rstmt_assert n s p w hin hok k7 hp
    by_cases k8 : s.f0 = 8
    · exact rstmt_skip n s p w hin k8 hp
    exact rstmt_none n s p w hin (by omega) hp
end Go.Proofs.YtfeaekdhpkdljaaDoor.Sh
