/- show.printer.stmt: every kind. -/
import Derived.Test.YtfeaekdhpkdljaaDoorShStmt
namespace Go.Proofs.YtfeaekdhpkdljaaDoor.Sh
open Go.RowKit Go.Proofs.YtfeaekdhpkdljaaDoorW.PrintWords Go.Proofs.YtfeaekdhpkdljaaDoorW.PrintLast
set_option linter.unusedVariables false
set_option linter.unusedSimpArgs false
theorem below_read {w w' : World} {g : Nat} {o : Obj} (h : Below w.heap.size w w') (hg : w.heap[g]? = some o) : w'.heap[g]? = some o := (h.block g (blk_lt hg)).trans hg
set_option maxHeartbeats 8000000 in
set_option maxRecDepth 100000 in
theorem stmt_assert (n : Nat) (w0 : World) (s : S54) (p : At54) (b : Nat) (l : List UInt8) (w : World) (hin : StIn w0 s p) (hok : okSt (n + 1) s) (hp : Pre w0 b l w (stmtF (n + 1) s)) (hk : s.f0 = 7) :
    Calls Tryd.prog 45 #[.pointer (some ⟨b, 0, none⟩), stmtV s p] w fun e w' => Post b l w (stmtF (n + 1) s) e w' := by
  have hv : stmtF (n + 1) s = lineL [(⟨#[97, 115, 115, 101, 114, 116, 32]⟩ : ByteArray), condS s.f4, (⟨#[59]⟩ : ByteArray)] := by
    simp only [stmtF]
    rw [if_neg (by omega), if_neg (by omega), if_neg (by omega), if_neg (by omega), if_neg (by omega), if_neg (by omega), if_pos hk]
  rw [hv] at hp ⊢
  obtain ⟨hB, hw, hb0, ht, hsz⟩ := hp
  have HB0 := Aside0.mk hB
  have HLT := Aside0.mk hB.lt
  have HW0 := Aside0.mk hw
  have HBB := Aside0.mk hb0
  have HT := Aside0.mk ht
  have HSZ := Aside0.mk hsz
  have HIN := Aside0.mk hin
  have HOK := Aside0.mk hok
  have HO : Aside0 (∀ (W : World), Below w0.heap.size w0 W → Calls Tryd.prog 15 #[.agg #[.int .i64 s.f4.f0, .int .i64 s.f4.f1, .slice p.A14 s.f4.f2.length p.c14, .slice p.A15 s.f4.f3.length p.c15]] W fun r w' => r = .returned (.string (condS s.f4)) ∧ Below W.heap.size W w') :=
    ⟨fun W hb => cond_calls (SizeOf.sizeOf s.f4) s.f4 p.A14 p.A15 p.c14 p.c15 W (Kd.C_below hin.g14 hb) hin.l14 (Kd.C_below hin.g15 hb) hin.l15 (tab_on ht hb) (Nat.le_refl _) hok.2.2.1 (by have h := hsz; simp only [List.length_append, List.length_cons, List.length_nil, catL, List.flatMap_cons, List.flatMap_nil] at h; have h2 : (by_ (condS s.f4)).length = (condS s.f4).size := rfl; show (condS s.f4).size ≤ _; omega)⟩
  obtain ⟨tc, htc⟩ : ∃ t, condS s.f4 = t := ⟨_, rfl⟩
  rw [htc] at HO HSZ ⊢
  clear htc
  have HL : Aside0 (∀ (W : World) (g : Nat), Bu b (l) W → W.heap[g]? = some (.cells (strV [(⟨#[97, 115, 115, 101, 114, 116, 32]⟩ : ByteArray), tc, (⟨#[59]⟩ : ByteArray)]) 9 (0, 0)) → g ≠ b → Calls Tryd.prog 23 #[.pointer (some ⟨b, 0, none⟩), .slice (some ⟨g, 0, none⟩) 3 3] W fun e w' => e = .returned (.tuple #[]) ∧ Bu b (l ++ lineL [(⟨#[97, 115, 115, 101, 114, 116, 32]⟩ : ByteArray), tc, (⟨#[59]⟩ : ByteArray)]) w' ∧ Fr b W w') := ⟨fun W g h1 h2 h3 => line_calls b (l) [(⟨#[97, 115, 115, 101, 114, 116, 32]⟩ : ByteArray), tc, (⟨#[59]⟩ : ByteArray)] g W h1 h2 h3 (by simp) (by have h := HSZ.out; simp only [List.length_append, List.length_cons, List.length_nil] at h ⊢; omega)⟩
  have kb1 : (s.f0 == 1) = false := beq_eq_false_iff_ne.mpr (by omega)
  have kb2 : (s.f0 == 2) = false := beq_eq_false_iff_ne.mpr (by omega)
  have kb3 : (s.f0 == 3) = false := beq_eq_false_iff_ne.mpr (by omega)
  have kb4 : (s.f0 == 4) = false := beq_eq_false_iff_ne.mpr (by omega)
  have kb5 : (s.f0 == 5) = false := beq_eq_false_iff_ne.mpr (by omega)
  have kb6 : (s.f0 == 6) = false := beq_eq_false_iff_ne.mpr (by omega)
  have kb7 : (s.f0 == 7) = true := beq_iff_eq.mpr hk
  have kb8 : (s.f0 == 8) = false := beq_eq_false_iff_ne.mpr (by omega)
  clear hB hw hb0 ht hsz hv hin hok hk
  unfold stmtV stmtC
  go_enter Tryd.func45, Tryd.ntmps45
  go_wp2_with (first | ((with_reducible refine gate_dst (N := 3) rfl ?_); refine box_event ?hg (N := 3) ?hd (cs := #[.int .i64 s.f0, .string s.f1, .int .i64 s.f2.f0, .int .i64 s.f2.f1, .int .i64 s.f2.f2, .string s.f2.f3, .slice p.A6 s.f2.f4.length p.c6, .int .i64 s.f3.f0, .int .i64 s.f3.f1, .int .i64 s.f3.f2, .string s.f3.f3, .slice p.A11 s.f3.f4.length p.c11, .int .i64 s.f4.f0, .int .i64 s.f4.f1, .slice p.A14 s.f4.f2.length p.c14, .slice p.A15 s.f4.f3.length p.c15, .slice p.A16 s.f5.length p.c16, .slice p.A17 s.f6.length p.c17]) (t := 54) ?hr ?_; (case hd => rfl); (case hg => rfl); (case hr => first | (go_simp; done) | (go_simp; rfl)); intro ge hgg w1 hlit hb; have HW1 := Aside0.mk (below_then HW0.out HW0.out.size hb); have HB1 := Aside0.mk (HB0.out.below hb); have HF1 := Aside0.mk (Fr.of (Nat.le_of_lt HLT.out) hb); have HG1 := Aside0.mk hlit; have HNE := Aside0.mk (show ge ≠ b by rw [hgg]; exact Nat.ne_of_gt HLT.out); have hy0 : w1.cell? ⟨ge, 0, none⟩ = some (.int .i64 s.f0) := (blk_cell hlit 0).trans rfl; have hy12 : w1.cell? ⟨ge, 12, none⟩ = some (.int .i64 s.f4.f0) := (blk_cell hlit 12).trans rfl; have hy13 : w1.cell? ⟨ge, 13, none⟩ = some (.int .i64 s.f4.f1) := (blk_cell hlit 13).trans rfl; have hy14 : w1.cell? ⟨ge, 14, none⟩ = some (.slice p.A14 s.f4.f2.length p.c14) := (blk_cell hlit 14).trans rfl; have hy15 : w1.cell? ⟨ge, 15, none⟩ = some (.slice p.A15 s.f4.f3.length p.c15) := (blk_cell hlit 15).trans rfl; clear hlit hb hgg) | (go_at_call 15; (with_reducible refine (HO.out _ HW1.out).mono ?_); rintro e1 w2 ⟨rfl, hb⟩; have HW2 := Aside0.mk (below_then HW1.out HW1.out.size hb); have HB2 := Aside0.mk (HB1.out.below hb); have HF2 := Aside0.mk (HF1.out.trans (Fr.of (Nat.le_of_lt HB1.out.lt) hb)); have HG2 := Aside0.mk (below_read hb HG1.out); clear hb) | ((with_reducible refine gate_dst (N := 93) rfl ?_); refine lit_ev2 (n := 3) ?hg (N := 93) ?hd (cs := #[.string (⟨#[97, 115, 115, 101, 114, 116, 32]⟩ : ByteArray), .string tc, .string (⟨#[59]⟩ : ByteArray)]) (t := 9) ?hr ?_; (case hd => rfl); (case hg => rfl); (case hr => first | (go_simp; done) | (go_simp; rfl)); intro g3 hgg w3 hlit hb; have HS3 := Aside0.mk (show w3.heap[g3]? = some (.cells (strV [(⟨#[97, 115, 115, 101, 114, 116, 32]⟩ : ByteArray), tc, (⟨#[59]⟩ : ByteArray)]) 9 (0, 0)) from hlit); have HN3 := Aside0.mk (show g3 ≠ b by rw [hgg]; exact Nat.ne_of_gt HB2.out.lt); have HW3 := Aside0.mk (below_then HW2.out HW2.out.size hb); have HB3 := Aside0.mk (HB2.out.below hb); have HF3 := Aside0.mk (HF2.out.trans (Fr.of (Nat.le_of_lt HB2.out.lt) hb)); have HG3 := Aside0.mk (below_read hb HG2.out); clear hlit hb hgg))
  refine (HL.out _ g3 HB3.out HS3.out HN3.out).mono ?_
  rintro e1 w4 ⟨rfl, hb, hf⟩
  have HB4 := Aside0.mk hb
  have HF4 := Aside0.mk (HF3.out.trans hf)
  have HW4 := Aside0.mk (Fr.base HW3.out HBB.out hf)
  have HG4 := Aside0.mk (hf.read HG3.out HNE.out (by decide))
  clear hb hf
  go_wp2_with fail
  go_end0
  exact ⟨rfl, HB4.out, HF4.out⟩
set_option maxHeartbeats 8000000 in
set_option maxRecDepth 100000 in
theorem stmt_while (n : Nat) (w0 : World) (s : S54) (p : At54) (b : Nat) (l : List UInt8) (w : World) (hin : StIn w0 s p) (ih : IHs w0 n) (hs : SizeOf.sizeOf s ≤ n + 1) (hok : okSt (n + 1) s) (hp : Pre w0 b l w (stmtF (n + 1) s)) (hk : s.f0 = 6) :
    Calls Tryd.prog 45 #[.pointer (some ⟨b, 0, none⟩), stmtV s p] w fun e w' => Post b l w (stmtF (n + 1) s) e w' := by
  have hv : stmtF (n + 1) s = lineL [(⟨#[119, 104, 105, 108, 101, 32, 40]⟩ : ByteArray), condS s.f4, (⟨#[41, 32, 123]⟩ : ByteArray)] ++ (s.f5.flatMap (stmtF n) ++ lineL [(⟨#[125]⟩ : ByteArray)]) := by
    simp only [stmtF]
    rw [if_neg (by omega), if_neg (by omega), if_neg (by omega), if_neg (by omega), if_neg (by omega), if_pos hk]
  rw [hv] at hp ⊢
  obtain ⟨hB, hw, hb0, ht, hsz⟩ := hp
  have HB0 := Aside0.mk hB
  have HLT := Aside0.mk hB.lt
  have HW0 := Aside0.mk hw
  have HBB := Aside0.mk hb0
  have HT := Aside0.mk ht
  have HSZ := Aside0.mk hsz
  have HIN := Aside0.mk hin
  have HOK := Aside0.mk hok
  have HO : Aside0 (∀ (W : World), Below w0.heap.size w0 W → Calls Tryd.prog 15 #[.agg #[.int .i64 s.f4.f0, .int .i64 s.f4.f1, .slice p.A14 s.f4.f2.length p.c14, .slice p.A15 s.f4.f3.length p.c15]] W fun r w' => r = .returned (.string (condS s.f4)) ∧ Below W.heap.size W w') :=
    ⟨fun W hb => cond_calls (SizeOf.sizeOf s.f4) s.f4 p.A14 p.A15 p.c14 p.c15 W (Kd.C_below hin.g14 hb) hin.l14 (Kd.C_below hin.g15 hb) hin.l15 (tab_on ht hb) (Nat.le_refl _) hok.2.2.1 (by have h := hsz; simp only [List.length_append, List.length_cons, List.length_nil, catL, List.flatMap_cons, List.flatMap_nil] at h; have h2 : (by_ (condS s.f4)).length = (condS s.f4).size := rfl; show (condS s.f4).size ≤ _; omega)⟩
  obtain ⟨tc, htc⟩ : ∃ t, condS s.f4 = t := ⟨_, rfl⟩
  rw [htc] at HO HSZ ⊢
  clear htc
  have HIH := Aside0.mk ih
  have HSS := Aside0.mk hs
  clear ih hs
  have HL : Aside0 (∀ (W : World) (g : Nat), Bu b (l) W → W.heap[g]? = some (.cells (strV [(⟨#[119, 104, 105, 108, 101, 32, 40]⟩ : ByteArray), tc, (⟨#[41, 32, 123]⟩ : ByteArray)]) 9 (0, 0)) → g ≠ b → Calls Tryd.prog 23 #[.pointer (some ⟨b, 0, none⟩), .slice (some ⟨g, 0, none⟩) 3 3] W fun e w' => e = .returned (.tuple #[]) ∧ Bu b (l ++ lineL [(⟨#[119, 104, 105, 108, 101, 32, 40]⟩ : ByteArray), tc, (⟨#[41, 32, 123]⟩ : ByteArray)]) w' ∧ Fr b W w') := ⟨fun W g h1 h2 h3 => line_calls b (l) [(⟨#[119, 104, 105, 108, 101, 32, 40]⟩ : ByteArray), tc, (⟨#[41, 32, 123]⟩ : ByteArray)] g W h1 h2 h3 (by simp) (by have h := HSZ.out; simp only [List.length_append, List.length_cons, List.length_nil] at h ⊢; omega)⟩
  have HM : Aside0 (∀ (W : World) (g : Nat), Bu b ((l ++ lineL [(⟨#[119, 104, 105, 108, 101, 32, 40]⟩ : ByteArray), tc, (⟨#[41, 32, 123]⟩ : ByteArray)]) ++ s.f5.flatMap (stmtF n)) W → W.heap[g]? = some (.cells (strV [(⟨#[125]⟩ : ByteArray)]) 9 (0, 0)) → g ≠ b → Calls Tryd.prog 23 #[.pointer (some ⟨b, 0, none⟩), .slice (some ⟨g, 0, none⟩) 1 1] W fun e w' => e = .returned (.tuple #[]) ∧ Bu b ((l ++ lineL [(⟨#[119, 104, 105, 108, 101, 32, 40]⟩ : ByteArray), tc, (⟨#[41, 32, 123]⟩ : ByteArray)]) ++ s.f5.flatMap (stmtF n) ++ lineL [(⟨#[125]⟩ : ByteArray)]) w' ∧ Fr b W w') := ⟨fun W g h1 h2 h3 => line_calls b ((l ++ lineL [(⟨#[119, 104, 105, 108, 101, 32, 40]⟩ : ByteArray), tc, (⟨#[41, 32, 123]⟩ : ByteArray)]) ++ s.f5.flatMap (stmtF n)) [(⟨#[125]⟩ : ByteArray)] g W h1 h2 h3 (by simp) (by have h := HSZ.out; simp only [List.length_append, List.length_cons, List.length_nil] at h ⊢; omega)⟩
  have kb1 : (s.f0 == 1) = false := beq_eq_false_iff_ne.mpr (by omega)
  have kb2 : (s.f0 == 2) = false := beq_eq_false_iff_ne.mpr (by omega)
  have kb3 : (s.f0 == 3) = false := beq_eq_false_iff_ne.mpr (by omega)
  have kb4 : (s.f0 == 4) = false := beq_eq_false_iff_ne.mpr (by omega)
  have kb5 : (s.f0 == 5) = false := beq_eq_false_iff_ne.mpr (by omega)
  have kb6 : (s.f0 == 6) = true := beq_iff_eq.mpr hk
  have kb7 : (s.f0 == 7) = false := beq_eq_false_iff_ne.mpr (by omega)
  have kb8 : (s.f0 == 8) = false := beq_eq_false_iff_ne.mpr (by omega)
  clear hB hw hb0 ht hsz hv hin hok hk
  unfold stmtV stmtC
  go_enter Tryd.func45, Tryd.ntmps45
  go_wp2_with (first | ((with_reducible refine gate_dst (N := 3) rfl ?_); refine box_event ?hg (N := 3) ?hd (cs := #[.int .i64 s.f0, .string s.f1, .int .i64 s.f2.f0, .int .i64 s.f2.f1, .int .i64 s.f2.f2, .string s.f2.f3, .slice p.A6 s.f2.f4.length p.c6, .int .i64 s.f3.f0, .int .i64 s.f3.f1, .int .i64 s.f3.f2, .string s.f3.f3, .slice p.A11 s.f3.f4.length p.c11, .int .i64 s.f4.f0, .int .i64 s.f4.f1, .slice p.A14 s.f4.f2.length p.c14, .slice p.A15 s.f4.f3.length p.c15, .slice p.A16 s.f5.length p.c16, .slice p.A17 s.f6.length p.c17]) (t := 54) ?hr ?_; (case hd => rfl); (case hg => rfl); (case hr => first | (go_simp; done) | (go_simp; rfl)); intro ge hgg w1 hlit hb; have HW1 := Aside0.mk (below_then HW0.out HW0.out.size hb); have HB1 := Aside0.mk (HB0.out.below hb); have HF1 := Aside0.mk (Fr.of (Nat.le_of_lt HLT.out) hb); have HG1 := Aside0.mk hlit; have HNE := Aside0.mk (show ge ≠ b by rw [hgg]; exact Nat.ne_of_gt HLT.out); have hy0 : w1.cell? ⟨ge, 0, none⟩ = some (.int .i64 s.f0) := (blk_cell hlit 0).trans rfl; have hy12 : w1.cell? ⟨ge, 12, none⟩ = some (.int .i64 s.f4.f0) := (blk_cell hlit 12).trans rfl; have hy13 : w1.cell? ⟨ge, 13, none⟩ = some (.int .i64 s.f4.f1) := (blk_cell hlit 13).trans rfl; have hy14 : w1.cell? ⟨ge, 14, none⟩ = some (.slice p.A14 s.f4.f2.length p.c14) := (blk_cell hlit 14).trans rfl; have hy15 : w1.cell? ⟨ge, 15, none⟩ = some (.slice p.A15 s.f4.f3.length p.c15) := (blk_cell hlit 15).trans rfl; clear hlit hb hgg) | (go_at_call 15; (with_reducible refine (HO.out _ HW1.out).mono ?_); rintro e1 w2 ⟨rfl, hb⟩; have HW2 := Aside0.mk (below_then HW1.out HW1.out.size hb); have HB2 := Aside0.mk (HB1.out.below hb); have HF2 := Aside0.mk (HF1.out.trans (Fr.of (Nat.le_of_lt HB1.out.lt) hb)); have HG2 := Aside0.mk (below_read hb HG1.out); clear hb) | ((with_reducible refine gate_dst (N := 78) rfl ?_); refine lit_ev2 (n := 3) ?hg (N := 78) ?hd (cs := #[.string (⟨#[119, 104, 105, 108, 101, 32, 40]⟩ : ByteArray), .string tc, .string (⟨#[41, 32, 123]⟩ : ByteArray)]) (t := 9) ?hr ?_; (case hd => rfl); (case hg => rfl); (case hr => first | (go_simp; done) | (go_simp; rfl)); intro g3 hgg w3 hlit hb; have HS3 := Aside0.mk (show w3.heap[g3]? = some (.cells (strV [(⟨#[119, 104, 105, 108, 101, 32, 40]⟩ : ByteArray), tc, (⟨#[41, 32, 123]⟩ : ByteArray)]) 9 (0, 0)) from hlit); have HN3 := Aside0.mk (show g3 ≠ b by rw [hgg]; exact Nat.ne_of_gt HB2.out.lt); have HW3 := Aside0.mk (below_then HW2.out HW2.out.size hb); have HB3 := Aside0.mk (HB2.out.below hb); have HF3 := Aside0.mk (HF2.out.trans (Fr.of (Nat.le_of_lt HB2.out.lt) hb)); have HG3 := Aside0.mk (below_read hb HG2.out); clear hlit hb hgg))
  refine (HL.out _ g3 HB3.out HS3.out HN3.out).mono ?_
  rintro e1 w4 ⟨rfl, hb, hf⟩
  have HB4 := Aside0.mk hb
  have HF4 := Aside0.mk (HF3.out.trans hf)
  have HW4 := Aside0.mk (Fr.base HW3.out HBB.out hf)
  have HG4 := Aside0.mk (hf.read HG3.out HNE.out (by decide))
  clear hb hf
  have hy4_16 : w4.cell? ⟨ge, 16, none⟩ = some (.slice p.A16 s.f5.length p.c16) := (blk_cell HG4.out 16).trans rfl
  go_wp2_with fail
  refine (stmts_calls w0 n HIH.out s.f5 (fun x hx => Nat.le_of_lt_succ (Nat.lt_of_lt_of_le (body_size s hx) HSS.out)) HOK.out.2.2.2.1 p.A16 p.c16 HIN.out.g16 b _ w4 ⟨HB4.out, HW4.out, HBB.out, HT.out, (by have h := HSZ.out; simp only [List.length_append, List.length_cons, List.length_nil] at h ⊢; omega)⟩).mono ?_
  rintro e1 w5 ⟨rfl, hb, hf⟩
  have HB5 := Aside0.mk hb
  have HF5 := Aside0.mk (HF4.out.trans hf)
  have HW5 := Aside0.mk (Fr.base HW4.out HBB.out hf)
  have HG5 := Aside0.mk (hf.read HG4.out HNE.out (by decide))
  clear hb hf
  go_wp2_with (first | ((with_reducible refine gate_dst (N := 85) rfl ?_); refine lit_ev2 (n := 1) ?hg (N := 85) ?hd (cs := #[.string (⟨#[125]⟩ : ByteArray)]) (t := 9) ?hr ?_; (case hd => rfl); (case hg => rfl); (case hr => first | (go_simp; done) | (go_simp; rfl)); intro g6 hgg w6 hlit hb; have HS6 := Aside0.mk (show w6.heap[g6]? = some (.cells (strV [(⟨#[125]⟩ : ByteArray)]) 9 (0, 0)) from hlit); have HN6 := Aside0.mk (show g6 ≠ b by rw [hgg]; exact Nat.ne_of_gt HB5.out.lt); have HW6 := Aside0.mk (below_then HW5.out HW5.out.size hb); have HB6 := Aside0.mk (HB5.out.below hb); have HF6 := Aside0.mk (HF5.out.trans (Fr.of (Nat.le_of_lt HB5.out.lt) hb)); have HG6 := Aside0.mk (below_read hb HG5.out); clear hlit hb hgg))
  refine (HM.out _ g6 HB6.out HS6.out HN6.out).mono ?_
  rintro e1 w7 ⟨rfl, hb, hf⟩
  have HB7 := Aside0.mk hb
  have HF7 := Aside0.mk (HF6.out.trans hf)
  have HW7 := Aside0.mk (Fr.base HW6.out HBB.out hf)
  have HG7 := Aside0.mk (hf.read HG6.out HNE.out (by decide))
  clear hb hf
  go_wp2_with fail
  go_end0
  exact ⟨rfl, by have h := HB7.out; simp only [List.append_assoc] at h ⊢; exact h, HF7.out⟩
set_option maxHeartbeats 8000000 in
set_option maxRecDepth 100000 in
theorem stmt_if (n : Nat) (w0 : World) (s : S54) (p : At54) (b : Nat) (l : List UInt8) (w : World) (hin : StIn w0 s p) (ih : IHs w0 n) (hs : SizeOf.sizeOf s ≤ n + 1) (hok : okSt (n + 1) s) (hp : Pre w0 b l w (stmtF (n + 1) s)) (hk : s.f0 = 5 ∧ s.f6.length = 0) :
    Calls Tryd.prog 45 #[.pointer (some ⟨b, 0, none⟩), stmtV s p] w fun e w' => Post b l w (stmtF (n + 1) s) e w' := by
  have hv : stmtF (n + 1) s = lineL [(⟨#[105, 102, 32, 40]⟩ : ByteArray), condS s.f4, (⟨#[41, 32, 123]⟩ : ByteArray)] ++ (s.f5.flatMap (stmtF n) ++ ([] ++ lineL [(⟨#[125]⟩ : ByteArray)])) := by
    simp only [stmtF]
    rw [if_neg (by omega), if_neg (by omega), if_neg (by omega), if_neg (by omega), if_pos hk.1, if_pos hk.2]
  rw [hv] at hp ⊢
  obtain ⟨hB, hw, hb0, ht, hsz⟩ := hp
  have HB0 := Aside0.mk hB
  have HLT := Aside0.mk hB.lt
  have HW0 := Aside0.mk hw
  have HBB := Aside0.mk hb0
  have HT := Aside0.mk ht
  have HSZ := Aside0.mk hsz
  have HIN := Aside0.mk hin
  have HOK := Aside0.mk hok
  have HO : Aside0 (∀ (W : World), Below w0.heap.size w0 W → Calls Tryd.prog 15 #[.agg #[.int .i64 s.f4.f0, .int .i64 s.f4.f1, .slice p.A14 s.f4.f2.length p.c14, .slice p.A15 s.f4.f3.length p.c15]] W fun r w' => r = .returned (.string (condS s.f4)) ∧ Below W.heap.size W w') :=
    ⟨fun W hb => cond_calls (SizeOf.sizeOf s.f4) s.f4 p.A14 p.A15 p.c14 p.c15 W (Kd.C_below hin.g14 hb) hin.l14 (Kd.C_below hin.g15 hb) hin.l15 (tab_on ht hb) (Nat.le_refl _) hok.2.2.1 (by have h := hsz; simp only [List.length_append, List.length_cons, List.length_nil, catL, List.flatMap_cons, List.flatMap_nil] at h; have h2 : (by_ (condS s.f4)).length = (condS s.f4).size := rfl; show (condS s.f4).size ≤ _; omega)⟩
  obtain ⟨tc, htc⟩ : ∃ t, condS s.f4 = t := ⟨_, rfl⟩
  rw [htc] at HO HSZ ⊢
  clear htc
  have HIH := Aside0.mk ih
  have HSS := Aside0.mk hs
  clear ih hs
  have HL : Aside0 (∀ (W : World) (g : Nat), Bu b (l) W → W.heap[g]? = some (.cells (strV [(⟨#[105, 102, 32, 40]⟩ : ByteArray), tc, (⟨#[41, 32, 123]⟩ : ByteArray)]) 9 (0, 0)) → g ≠ b → Calls Tryd.prog 23 #[.pointer (some ⟨b, 0, none⟩), .slice (some ⟨g, 0, none⟩) 3 3] W fun e w' => e = .returned (.tuple #[]) ∧ Bu b (l ++ lineL [(⟨#[105, 102, 32, 40]⟩ : ByteArray), tc, (⟨#[41, 32, 123]⟩ : ByteArray)]) w' ∧ Fr b W w') := ⟨fun W g h1 h2 h3 => line_calls b (l) [(⟨#[105, 102, 32, 40]⟩ : ByteArray), tc, (⟨#[41, 32, 123]⟩ : ByteArray)] g W h1 h2 h3 (by simp) (by have h := HSZ.out; simp only [List.length_append, List.length_cons, List.length_nil] at h ⊢; omega)⟩
  have HM : Aside0 (∀ (W : World) (g : Nat), Bu b ((l ++ lineL [(⟨#[105, 102, 32, 40]⟩ : ByteArray), tc, (⟨#[41, 32, 123]⟩ : ByteArray)]) ++ s.f5.flatMap (stmtF n)) W → W.heap[g]? = some (.cells (strV [(⟨#[125]⟩ : ByteArray)]) 9 (0, 0)) → g ≠ b → Calls Tryd.prog 23 #[.pointer (some ⟨b, 0, none⟩), .slice (some ⟨g, 0, none⟩) 1 1] W fun e w' => e = .returned (.tuple #[]) ∧ Bu b ((l ++ lineL [(⟨#[105, 102, 32, 40]⟩ : ByteArray), tc, (⟨#[41, 32, 123]⟩ : ByteArray)]) ++ s.f5.flatMap (stmtF n) ++ lineL [(⟨#[125]⟩ : ByteArray)]) w' ∧ Fr b W w') := ⟨fun W g h1 h2 h3 => line_calls b ((l ++ lineL [(⟨#[105, 102, 32, 40]⟩ : ByteArray), tc, (⟨#[41, 32, 123]⟩ : ByteArray)]) ++ s.f5.flatMap (stmtF n)) [(⟨#[125]⟩ : ByteArray)] g W h1 h2 h3 (by simp) (by have h := HSZ.out; simp only [List.length_append, List.length_cons, List.length_nil] at h ⊢; omega)⟩
  have kb1 : (s.f0 == 1) = false := beq_eq_false_iff_ne.mpr (by omega)
  have kb2 : (s.f0 == 2) = false := beq_eq_false_iff_ne.mpr (by omega)
  have kb3 : (s.f0 == 3) = false := beq_eq_false_iff_ne.mpr (by omega)
  have kb4 : (s.f0 == 4) = false := beq_eq_false_iff_ne.mpr (by omega)
  have kb5 : (s.f0 == 5) = true := beq_iff_eq.mpr hk.1
  have kb6 : (s.f0 == 6) = false := beq_eq_false_iff_ne.mpr (by omega)
  have kb7 : (s.f0 == 7) = false := beq_eq_false_iff_ne.mpr (by omega)
  have kb8 : (s.f0 == 8) = false := beq_eq_false_iff_ne.mpr (by omega)
  have hn6 := hk.2
  clear hB hw hb0 ht hsz hv hin hok hk
  unfold stmtV stmtC
  go_enter Tryd.func45, Tryd.ntmps45
  go_wp2_with (first | ((with_reducible refine gate_dst (N := 3) rfl ?_); refine box_event ?hg (N := 3) ?hd (cs := #[.int .i64 s.f0, .string s.f1, .int .i64 s.f2.f0, .int .i64 s.f2.f1, .int .i64 s.f2.f2, .string s.f2.f3, .slice p.A6 s.f2.f4.length p.c6, .int .i64 s.f3.f0, .int .i64 s.f3.f1, .int .i64 s.f3.f2, .string s.f3.f3, .slice p.A11 s.f3.f4.length p.c11, .int .i64 s.f4.f0, .int .i64 s.f4.f1, .slice p.A14 s.f4.f2.length p.c14, .slice p.A15 s.f4.f3.length p.c15, .slice p.A16 s.f5.length p.c16, .slice p.A17 s.f6.length p.c17]) (t := 54) ?hr ?_; (case hd => rfl); (case hg => rfl); (case hr => first | (go_simp; done) | (go_simp; rfl)); intro ge hgg w1 hlit hb; have HW1 := Aside0.mk (below_then HW0.out HW0.out.size hb); have HB1 := Aside0.mk (HB0.out.below hb); have HF1 := Aside0.mk (Fr.of (Nat.le_of_lt HLT.out) hb); have HG1 := Aside0.mk hlit; have HNE := Aside0.mk (show ge ≠ b by rw [hgg]; exact Nat.ne_of_gt HLT.out); have hy0 : w1.cell? ⟨ge, 0, none⟩ = some (.int .i64 s.f0) := (blk_cell hlit 0).trans rfl; have hy12 : w1.cell? ⟨ge, 12, none⟩ = some (.int .i64 s.f4.f0) := (blk_cell hlit 12).trans rfl; have hy13 : w1.cell? ⟨ge, 13, none⟩ = some (.int .i64 s.f4.f1) := (blk_cell hlit 13).trans rfl; have hy14 : w1.cell? ⟨ge, 14, none⟩ = some (.slice p.A14 s.f4.f2.length p.c14) := (blk_cell hlit 14).trans rfl; have hy15 : w1.cell? ⟨ge, 15, none⟩ = some (.slice p.A15 s.f4.f3.length p.c15) := (blk_cell hlit 15).trans rfl; clear hlit hb hgg) | (go_at_call 15; (with_reducible refine (HO.out _ HW1.out).mono ?_); rintro e1 w2 ⟨rfl, hb⟩; have HW2 := Aside0.mk (below_then HW1.out HW1.out.size hb); have HB2 := Aside0.mk (HB1.out.below hb); have HF2 := Aside0.mk (HF1.out.trans (Fr.of (Nat.le_of_lt HB1.out.lt) hb)); have HG2 := Aside0.mk (below_read hb HG1.out); clear hb) | ((with_reducible refine gate_dst (N := 52) rfl ?_); refine lit_ev2 (n := 3) ?hg (N := 52) ?hd (cs := #[.string (⟨#[105, 102, 32, 40]⟩ : ByteArray), .string tc, .string (⟨#[41, 32, 123]⟩ : ByteArray)]) (t := 9) ?hr ?_; (case hd => rfl); (case hg => rfl); (case hr => first | (go_simp; done) | (go_simp; rfl)); intro g3 hgg w3 hlit hb; have HS3 := Aside0.mk (show w3.heap[g3]? = some (.cells (strV [(⟨#[105, 102, 32, 40]⟩ : ByteArray), tc, (⟨#[41, 32, 123]⟩ : ByteArray)]) 9 (0, 0)) from hlit); have HN3 := Aside0.mk (show g3 ≠ b by rw [hgg]; exact Nat.ne_of_gt HB2.out.lt); have HW3 := Aside0.mk (below_then HW2.out HW2.out.size hb); have HB3 := Aside0.mk (HB2.out.below hb); have HF3 := Aside0.mk (HF2.out.trans (Fr.of (Nat.le_of_lt HB2.out.lt) hb)); have HG3 := Aside0.mk (below_read hb HG2.out); clear hlit hb hgg))
  refine (HL.out _ g3 HB3.out HS3.out HN3.out).mono ?_
  rintro e1 w4 ⟨rfl, hb, hf⟩
  have HB4 := Aside0.mk hb
  have HF4 := Aside0.mk (HF3.out.trans hf)
  have HW4 := Aside0.mk (Fr.base HW3.out HBB.out hf)
  have HG4 := Aside0.mk (hf.read HG3.out HNE.out (by decide))
  clear hb hf
  have hy4_16 : w4.cell? ⟨ge, 16, none⟩ = some (.slice p.A16 s.f5.length p.c16) := (blk_cell HG4.out 16).trans rfl
  go_wp2_with fail
  refine (stmts_calls w0 n HIH.out s.f5 (fun x hx => Nat.le_of_lt_succ (Nat.lt_of_lt_of_le (body_size s hx) HSS.out)) HOK.out.2.2.2.1 p.A16 p.c16 HIN.out.g16 b _ w4 ⟨HB4.out, HW4.out, HBB.out, HT.out, (by have h := HSZ.out; simp only [List.length_append, List.length_cons, List.length_nil] at h ⊢; omega)⟩).mono ?_
  rintro e1 w5 ⟨rfl, hb, hf⟩
  have HB5 := Aside0.mk hb
  have HF5 := Aside0.mk (HF4.out.trans hf)
  have HW5 := Aside0.mk (Fr.base HW4.out HBB.out hf)
  have HG5 := Aside0.mk (hf.read HG4.out HNE.out (by decide))
  clear hb hf
  have hy5_17 : w5.cell? ⟨ge, 17, none⟩ = some (.slice p.A17 s.f6.length p.c17) := (blk_cell HG5.out 17).trans rfl
  go_wp2_with (first | ((with_reducible refine gate_dst (N := 70) rfl ?_); refine lit_ev2 (n := 1) ?hg (N := 70) ?hd (cs := #[.string (⟨#[125]⟩ : ByteArray)]) (t := 9) ?hr ?_; (case hd => rfl); (case hg => rfl); (case hr => first | (go_simp; done) | (go_simp; rfl)); intro g6 hgg w6 hlit hb; have HS6 := Aside0.mk (show w6.heap[g6]? = some (.cells (strV [(⟨#[125]⟩ : ByteArray)]) 9 (0, 0)) from hlit); have HN6 := Aside0.mk (show g6 ≠ b by rw [hgg]; exact Nat.ne_of_gt HB5.out.lt); have HW6 := Aside0.mk (below_then HW5.out HW5.out.size hb); have HB6 := Aside0.mk (HB5.out.below hb); have HF6 := Aside0.mk (HF5.out.trans (Fr.of (Nat.le_of_lt HB5.out.lt) hb)); have HG6 := Aside0.mk (below_read hb HG5.out); clear hlit hb hgg))
  refine (HM.out _ g6 HB6.out HS6.out HN6.out).mono ?_
  rintro e1 w7 ⟨rfl, hb, hf⟩
  have HB7 := Aside0.mk hb
  have HF7 := Aside0.mk (HF6.out.trans hf)
  have HW7 := Aside0.mk (Fr.base HW6.out HBB.out hf)
  have HG7 := Aside0.mk (hf.read HG6.out HNE.out (by decide))
  clear hb hf
  go_wp2_with fail
  go_end0
  exact ⟨rfl, by have h := HB7.out; simp only [List.append_assoc, List.nil_append] at h ⊢; exact h, HF7.out⟩
set_option maxHeartbeats 8000000 in
set_option maxRecDepth 100000 in
theorem stmt_ife (n : Nat) (w0 : World) (s : S54) (p : At54) (b : Nat) (l : List UInt8) (w : World) (hin : StIn w0 s p) (ih : IHs w0 n) (hs : SizeOf.sizeOf s ≤ n + 1) (hok : okSt (n + 1) s) (hp : Pre w0 b l w (stmtF (n + 1) s)) (hk : s.f0 = 5 ∧ 0 < s.f6.length) :
    Calls Tryd.prog 45 #[.pointer (some ⟨b, 0, none⟩), stmtV s p] w fun e w' => Post b l w (stmtF (n + 1) s) e w' := by
  have hv : stmtF (n + 1) s = lineL [(⟨#[105, 102, 32, 40]⟩ : ByteArray), condS s.f4, (⟨#[41, 32, 123]⟩ : ByteArray)] ++ (s.f5.flatMap (stmtF n) ++ ((lineL [(⟨#[125, 32, 101, 108, 115, 101, 32, 123]⟩ : ByteArray)] ++ s.f6.flatMap (stmtF n)) ++ lineL [(⟨#[125]⟩ : ByteArray)])) := by
    simp only [stmtF]
    rw [if_neg (by omega), if_neg (by omega), if_neg (by omega), if_neg (by omega), if_pos hk.1, if_neg (by omega)]
  rw [hv] at hp ⊢
  obtain ⟨hB, hw, hb0, ht, hsz⟩ := hp
  have HB0 := Aside0.mk hB
  have HLT := Aside0.mk hB.lt
  have HW0 := Aside0.mk hw
  have HBB := Aside0.mk hb0
  have HT := Aside0.mk ht
  have HSZ := Aside0.mk hsz
  have HIN := Aside0.mk hin
  have HOK := Aside0.mk hok
  have HO : Aside0 (∀ (W : World), Below w0.heap.size w0 W → Calls Tryd.prog 15 #[.agg #[.int .i64 s.f4.f0, .int .i64 s.f4.f1, .slice p.A14 s.f4.f2.length p.c14, .slice p.A15 s.f4.f3.length p.c15]] W fun r w' => r = .returned (.string (condS s.f4)) ∧ Below W.heap.size W w') :=
    ⟨fun W hb => cond_calls (SizeOf.sizeOf s.f4) s.f4 p.A14 p.A15 p.c14 p.c15 W (Kd.C_below hin.g14 hb) hin.l14 (Kd.C_below hin.g15 hb) hin.l15 (tab_on ht hb) (Nat.le_refl _) hok.2.2.1 (by have h := hsz; simp only [List.length_append, List.length_cons, List.length_nil, catL, List.flatMap_cons, List.flatMap_nil] at h; have h2 : (by_ (condS s.f4)).length = (condS s.f4).size := rfl; show (condS s.f4).size ≤ _; omega)⟩
  obtain ⟨tc, htc⟩ : ∃ t, condS s.f4 = t := ⟨_, rfl⟩
  rw [htc] at HO HSZ ⊢
  clear htc
  have HIH := Aside0.mk ih
  have HSS := Aside0.mk hs
  clear ih hs
  have HL : Aside0 (∀ (W : World) (g : Nat), Bu b (l) W → W.heap[g]? = some (.cells (strV [(⟨#[105, 102, 32, 40]⟩ : ByteArray), tc, (⟨#[41, 32, 123]⟩ : ByteArray)]) 9 (0, 0)) → g ≠ b → Calls Tryd.prog 23 #[.pointer (some ⟨b, 0, none⟩), .slice (some ⟨g, 0, none⟩) 3 3] W fun e w' => e = .returned (.tuple #[]) ∧ Bu b (l ++ lineL [(⟨#[105, 102, 32, 40]⟩ : ByteArray), tc, (⟨#[41, 32, 123]⟩ : ByteArray)]) w' ∧ Fr b W w') := ⟨fun W g h1 h2 h3 => line_calls b (l) [(⟨#[105, 102, 32, 40]⟩ : ByteArray), tc, (⟨#[41, 32, 123]⟩ : ByteArray)] g W h1 h2 h3 (by simp) (by have h := HSZ.out; simp only [List.length_append, List.length_cons, List.length_nil] at h ⊢; omega)⟩
  have HE : Aside0 (∀ (W : World) (g : Nat), Bu b ((l ++ lineL [(⟨#[105, 102, 32, 40]⟩ : ByteArray), tc, (⟨#[41, 32, 123]⟩ : ByteArray)]) ++ s.f5.flatMap (stmtF n)) W → W.heap[g]? = some (.cells (strV [(⟨#[125, 32, 101, 108, 115, 101, 32, 123]⟩ : ByteArray)]) 9 (0, 0)) → g ≠ b → Calls Tryd.prog 23 #[.pointer (some ⟨b, 0, none⟩), .slice (some ⟨g, 0, none⟩) 1 1] W fun e w' => e = .returned (.tuple #[]) ∧ Bu b ((l ++ lineL [(⟨#[105, 102, 32, 40]⟩ : ByteArray), tc, (⟨#[41, 32, 123]⟩ : ByteArray)]) ++ s.f5.flatMap (stmtF n) ++ lineL [(⟨#[125, 32, 101, 108, 115, 101, 32, 123]⟩ : ByteArray)]) w' ∧ Fr b W w') := ⟨fun W g h1 h2 h3 => line_calls b ((l ++ lineL [(⟨#[105, 102, 32, 40]⟩ : ByteArray), tc, (⟨#[41, 32, 123]⟩ : ByteArray)]) ++ s.f5.flatMap (stmtF n)) [(⟨#[125, 32, 101, 108, 115, 101, 32, 123]⟩ : ByteArray)] g W h1 h2 h3 (by simp) (by have h := HSZ.out; simp only [List.length_append, List.length_cons, List.length_nil] at h ⊢; omega)⟩
  have HM : Aside0 (∀ (W : World) (g : Nat), Bu b ((((l ++ lineL [(⟨#[105, 102, 32, 40]⟩ : ByteArray), tc, (⟨#[41, 32, 123]⟩ : ByteArray)]) ++ s.f5.flatMap (stmtF n)) ++ lineL [(⟨#[125, 32, 101, 108, 115, 101, 32, 123]⟩ : ByteArray)]) ++ s.f6.flatMap (stmtF n)) W → W.heap[g]? = some (.cells (strV [(⟨#[125]⟩ : ByteArray)]) 9 (0, 0)) → g ≠ b → Calls Tryd.prog 23 #[.pointer (some ⟨b, 0, none⟩), .slice (some ⟨g, 0, none⟩) 1 1] W fun e w' => e = .returned (.tuple #[]) ∧ Bu b ((((l ++ lineL [(⟨#[105, 102, 32, 40]⟩ : ByteArray), tc, (⟨#[41, 32, 123]⟩ : ByteArray)]) ++ s.f5.flatMap (stmtF n)) ++ lineL [(⟨#[125, 32, 101, 108, 115, 101, 32, 123]⟩ : ByteArray)]) ++ s.f6.flatMap (stmtF n) ++ lineL [(⟨#[125]⟩ : ByteArray)]) w' ∧ Fr b W w') := ⟨fun W g h1 h2 h3 => line_calls b ((((l ++ lineL [(⟨#[105, 102, 32, 40]⟩ : ByteArray), tc, (⟨#[41, 32, 123]⟩ : ByteArray)]) ++ s.f5.flatMap (stmtF n)) ++ lineL [(⟨#[125, 32, 101, 108, 115, 101, 32, 123]⟩ : ByteArray)]) ++ s.f6.flatMap (stmtF n)) [(⟨#[125]⟩ : ByteArray)] g W h1 h2 h3 (by simp) (by have h := HSZ.out; simp only [List.length_append, List.length_cons, List.length_nil] at h ⊢; omega)⟩
  have kb1 : (s.f0 == 1) = false := beq_eq_false_iff_ne.mpr (by omega)
  have kb2 : (s.f0 == 2) = false := beq_eq_false_iff_ne.mpr (by omega)
  have kb3 : (s.f0 == 3) = false := beq_eq_false_iff_ne.mpr (by omega)
  have kb4 : (s.f0 == 4) = false := beq_eq_false_iff_ne.mpr (by omega)
  have kb5 : (s.f0 == 5) = true := beq_iff_eq.mpr hk.1
  have kb6 : (s.f0 == 6) = false := beq_eq_false_iff_ne.mpr (by omega)
  have kb7 : (s.f0 == 7) = false := beq_eq_false_iff_ne.mpr (by omega)
  have kb8 : (s.f0 == 8) = false := beq_eq_false_iff_ne.mpr (by omega)
  have hn6 := hk.2
  clear hB hw hb0 ht hsz hv hin hok hk
  unfold stmtV stmtC
  go_enter Tryd.func45, Tryd.ntmps45
  go_wp2_with (first | ((with_reducible refine gate_dst (N := 3) rfl ?_); refine box_event ?hg (N := 3) ?hd (cs := #[.int .i64 s.f0, .string s.f1, .int .i64 s.f2.f0, .int .i64 s.f2.f1, .int .i64 s.f2.f2, .string s.f2.f3, .slice p.A6 s.f2.f4.length p.c6, .int .i64 s.f3.f0, .int .i64 s.f3.f1, .int .i64 s.f3.f2, .string s.f3.f3, .slice p.A11 s.f3.f4.length p.c11, .int .i64 s.f4.f0, .int .i64 s.f4.f1, .slice p.A14 s.f4.f2.length p.c14, .slice p.A15 s.f4.f3.length p.c15, .slice p.A16 s.f5.length p.c16, .slice p.A17 s.f6.length p.c17]) (t := 54) ?hr ?_; (case hd => rfl); (case hg => rfl); (case hr => first | (go_simp; done) | (go_simp; rfl)); intro ge hgg w1 hlit hb; have HW1 := Aside0.mk (below_then HW0.out HW0.out.size hb); have HB1 := Aside0.mk (HB0.out.below hb); have HF1 := Aside0.mk (Fr.of (Nat.le_of_lt HLT.out) hb); have HG1 := Aside0.mk hlit; have HNE := Aside0.mk (show ge ≠ b by rw [hgg]; exact Nat.ne_of_gt HLT.out); have hy0 : w1.cell? ⟨ge, 0, none⟩ = some (.int .i64 s.f0) := (blk_cell hlit 0).trans rfl; have hy12 : w1.cell? ⟨ge, 12, none⟩ = some (.int .i64 s.f4.f0) := (blk_cell hlit 12).trans rfl; have hy13 : w1.cell? ⟨ge, 13, none⟩ = some (.int .i64 s.f4.f1) := (blk_cell hlit 13).trans rfl; have hy14 : w1.cell? ⟨ge, 14, none⟩ = some (.slice p.A14 s.f4.f2.length p.c14) := (blk_cell hlit 14).trans rfl; have hy15 : w1.cell? ⟨ge, 15, none⟩ = some (.slice p.A15 s.f4.f3.length p.c15) := (blk_cell hlit 15).trans rfl; clear hlit hb hgg) | (go_at_call 15; (with_reducible refine (HO.out _ HW1.out).mono ?_); rintro e1 w2 ⟨rfl, hb⟩; have HW2 := Aside0.mk (below_then HW1.out HW1.out.size hb); have HB2 := Aside0.mk (HB1.out.below hb); have HF2 := Aside0.mk (HF1.out.trans (Fr.of (Nat.le_of_lt HB1.out.lt) hb)); have HG2 := Aside0.mk (below_read hb HG1.out); clear hb) | ((with_reducible refine gate_dst (N := 52) rfl ?_); refine lit_ev2 (n := 3) ?hg (N := 52) ?hd (cs := #[.string (⟨#[105, 102, 32, 40]⟩ : ByteArray), .string tc, .string (⟨#[41, 32, 123]⟩ : ByteArray)]) (t := 9) ?hr ?_; (case hd => rfl); (case hg => rfl); (case hr => first | (go_simp; done) | (go_simp; rfl)); intro g3 hgg w3 hlit hb; have HS3 := Aside0.mk (show w3.heap[g3]? = some (.cells (strV [(⟨#[105, 102, 32, 40]⟩ : ByteArray), tc, (⟨#[41, 32, 123]⟩ : ByteArray)]) 9 (0, 0)) from hlit); have HN3 := Aside0.mk (show g3 ≠ b by rw [hgg]; exact Nat.ne_of_gt HB2.out.lt); have HW3 := Aside0.mk (below_then HW2.out HW2.out.size hb); have HB3 := Aside0.mk (HB2.out.below hb); have HF3 := Aside0.mk (HF2.out.trans (Fr.of (Nat.le_of_lt HB2.out.lt) hb)); have HG3 := Aside0.mk (below_read hb HG2.out); clear hlit hb hgg))
  refine (HL.out _ g3 HB3.out HS3.out HN3.out).mono ?_
  rintro e1 w4 ⟨rfl, hb, hf⟩
  have HB4 := Aside0.mk hb
  have HF4 := Aside0.mk (HF3.out.trans hf)
  have HW4 := Aside0.mk (Fr.base HW3.out HBB.out hf)
  have HG4 := Aside0.mk (hf.read HG3.out HNE.out (by decide))
  clear hb hf
  have hy4_16 : w4.cell? ⟨ge, 16, none⟩ = some (.slice p.A16 s.f5.length p.c16) := (blk_cell HG4.out 16).trans rfl
  go_wp2_with fail
  refine (stmts_calls w0 n HIH.out s.f5 (fun x hx => Nat.le_of_lt_succ (Nat.lt_of_lt_of_le (body_size s hx) HSS.out)) HOK.out.2.2.2.1 p.A16 p.c16 HIN.out.g16 b _ w4 ⟨HB4.out, HW4.out, HBB.out, HT.out, (by have h := HSZ.out; simp only [List.length_append, List.length_cons, List.length_nil] at h ⊢; omega)⟩).mono ?_
  rintro e1 w5 ⟨rfl, hb, hf⟩
  have HB5 := Aside0.mk hb
  have HF5 := Aside0.mk (HF4.out.trans hf)
  have HW5 := Aside0.mk (Fr.base HW4.out HBB.out hf)
  have HG5 := Aside0.mk (hf.read HG4.out HNE.out (by decide))
  clear hb hf
  have hy5_17 : w5.cell? ⟨ge, 17, none⟩ = some (.slice p.A17 s.f6.length p.c17) := (blk_cell HG5.out 17).trans rfl
  go_wp2_with (first | ((with_reducible refine gate_dst (N := 63) rfl ?_); refine lit_ev2 (n := 1) ?hg (N := 63) ?hd (cs := #[.string (⟨#[125, 32, 101, 108, 115, 101, 32, 123]⟩ : ByteArray)]) (t := 9) ?hr ?_; (case hd => rfl); (case hg => rfl); (case hr => first | (go_simp; done) | (go_simp; rfl)); intro g6 hgg w6 hlit hb; have HS6 := Aside0.mk (show w6.heap[g6]? = some (.cells (strV [(⟨#[125, 32, 101, 108, 115, 101, 32, 123]⟩ : ByteArray)]) 9 (0, 0)) from hlit); have HN6 := Aside0.mk (show g6 ≠ b by rw [hgg]; exact Nat.ne_of_gt HB5.out.lt); have HW6 := Aside0.mk (below_then HW5.out HW5.out.size hb); have HB6 := Aside0.mk (HB5.out.below hb); have HF6 := Aside0.mk (HF5.out.trans (Fr.of (Nat.le_of_lt HB5.out.lt) hb)); have HG6 := Aside0.mk (below_read hb HG5.out); clear hlit hb hgg))
  refine (HE.out _ g6 HB6.out HS6.out HN6.out).mono ?_
  rintro e1 w7 ⟨rfl, hb, hf⟩
  have HB7 := Aside0.mk hb
  have HF7 := Aside0.mk (HF6.out.trans hf)
  have HW7 := Aside0.mk (Fr.base HW6.out HBB.out hf)
  have HG7 := Aside0.mk (hf.read HG6.out HNE.out (by decide))
  clear hb hf
  have hy7_17 : w7.cell? ⟨ge, 17, none⟩ = some (.slice p.A17 s.f6.length p.c17) := (blk_cell HG7.out 17).trans rfl
  go_wp2_with fail
  refine (stmts_calls w0 n HIH.out s.f6 (fun x hx => Nat.le_of_lt_succ (Nat.lt_of_lt_of_le (else_size s hx) HSS.out)) HOK.out.2.2.2.2 p.A17 p.c17 HIN.out.g17 b _ w7 ⟨HB7.out, HW7.out, HBB.out, HT.out, (by have h := HSZ.out; simp only [List.length_append, List.length_cons, List.length_nil] at h ⊢; omega)⟩).mono ?_
  rintro e1 w8 ⟨rfl, hb, hf⟩
  have HB8 := Aside0.mk hb
  have HF8 := Aside0.mk (HF7.out.trans hf)
  have HW8 := Aside0.mk (Fr.base HW7.out HBB.out hf)
  have HG8 := Aside0.mk (hf.read HG7.out HNE.out (by decide))
  clear hb hf
  go_wp2_with (first | ((with_reducible refine gate_dst (N := 70) rfl ?_); refine lit_ev2 (n := 1) ?hg (N := 70) ?hd (cs := #[.string (⟨#[125]⟩ : ByteArray)]) (t := 9) ?hr ?_; (case hd => rfl); (case hg => rfl); (case hr => first | (go_simp; done) | (go_simp; rfl)); intro g9 hgg w9 hlit hb; have HS9 := Aside0.mk (show w9.heap[g9]? = some (.cells (strV [(⟨#[125]⟩ : ByteArray)]) 9 (0, 0)) from hlit); have HN9 := Aside0.mk (show g9 ≠ b by rw [hgg]; exact Nat.ne_of_gt HB8.out.lt); have HW9 := Aside0.mk (below_then HW8.out HW8.out.size hb); have HB9 := Aside0.mk (HB8.out.below hb); have HF9 := Aside0.mk (HF8.out.trans (Fr.of (Nat.le_of_lt HB8.out.lt) hb)); have HG9 := Aside0.mk (below_read hb HG8.out); clear hlit hb hgg))
  refine (HM.out _ g9 HB9.out HS9.out HN9.out).mono ?_
  rintro e1 w10 ⟨rfl, hb, hf⟩
  have HB10 := Aside0.mk hb
  have HF10 := Aside0.mk (HF9.out.trans hf)
  have HW10 := Aside0.mk (Fr.base HW9.out HBB.out hf)
  have HG10 := Aside0.mk (hf.read HG9.out HNE.out (by decide))
  clear hb hf
  go_wp2_with fail
  go_end0
  exact ⟨rfl, by have h := HB10.out; simp only [List.append_assoc] at h ⊢; exact h, HF10.out⟩
set_option maxHeartbeats 8000000 in
set_option maxRecDepth 100000 in
theorem stmt_set (n : Nat) (w0 : World) (s : S54) (p : At54) (b : Nat) (l : List UInt8) (w : World) (hin : StIn w0 s p) (hok : okSt (n + 1) s) (hp : Pre w0 b l w (stmtF (n + 1) s)) (hk : s.f0 = 1) :
    Calls Tryd.prog 45 #[.pointer (some ⟨b, 0, none⟩), stmtV s p] w fun e w' => Post b l w (stmtF (n + 1) s) e w' := by
  have hv : stmtF (n + 1) s = lineL [s.f1, (⟨#[32, 61, 32]⟩ : ByteArray), exprS s.f3, (⟨#[59]⟩ : ByteArray)] := by
    simp only [stmtF]
    rw [if_pos hk]
  rw [hv] at hp ⊢
  obtain ⟨hB, hw, hb0, ht, hsz⟩ := hp
  have HB0 := Aside0.mk hB
  have HLT := Aside0.mk hB.lt
  have HW0 := Aside0.mk hw
  have HBB := Aside0.mk hb0
  have HT := Aside0.mk ht
  have HSZ := Aside0.mk hsz
  have HIN := Aside0.mk hin
  have HOK := Aside0.mk hok
  have HOa : Aside0 (∀ (W : World), Below w0.heap.size w0 W → Calls Tryd.prog 13 #[.agg #[.int .i64 s.f3.f0, .int .i64 s.f3.f1, .int .i64 s.f3.f2, .string s.f3.f3, .slice p.A11 s.f3.f4.length p.c11]] W fun r w' => r = .returned (.string (exprS s.f3)) ∧ Below W.heap.size W w') :=
    ⟨fun W hb => expr_calls (SizeOf.sizeOf s.f3) s.f3 p.A11 p.c11 W (Kd.C_below hin.g11 hb) hin.l11 (tab_on ht hb) (Nat.le_refl _) hok.2.1 (by have h := hsz; simp only [List.length_append, List.length_cons, List.length_nil, catL, List.flatMap_cons, List.flatMap_nil] at h; have h2 : (by_ (exprS s.f3)).length = (exprS s.f3).size := rfl; show (exprS s.f3).size ≤ _; omega)⟩
  obtain ⟨ta, hta⟩ : ∃ t, exprS s.f3 = t := ⟨_, rfl⟩
  rw [hta] at HOa HSZ ⊢
  clear hta
  have HL : Aside0 (∀ (W : World) (g : Nat), Bu b (l) W → W.heap[g]? = some (.cells (strV [s.f1, (⟨#[32, 61, 32]⟩ : ByteArray), ta, (⟨#[59]⟩ : ByteArray)]) 9 (0, 0)) → g ≠ b → Calls Tryd.prog 23 #[.pointer (some ⟨b, 0, none⟩), .slice (some ⟨g, 0, none⟩) 4 4] W fun e w' => e = .returned (.tuple #[]) ∧ Bu b (l ++ lineL [s.f1, (⟨#[32, 61, 32]⟩ : ByteArray), ta, (⟨#[59]⟩ : ByteArray)]) w' ∧ Fr b W w') := ⟨fun W g h1 h2 h3 => line_calls b (l) [s.f1, (⟨#[32, 61, 32]⟩ : ByteArray), ta, (⟨#[59]⟩ : ByteArray)] g W h1 h2 h3 (by simp) (by have h := HSZ.out; simp only [List.length_append, List.length_cons, List.length_nil] at h ⊢; omega)⟩
  have kb1 : (s.f0 == 1) = true := beq_iff_eq.mpr hk
  have kb2 : (s.f0 == 2) = false := beq_eq_false_iff_ne.mpr (by omega)
  have kb3 : (s.f0 == 3) = false := beq_eq_false_iff_ne.mpr (by omega)
  have kb4 : (s.f0 == 4) = false := beq_eq_false_iff_ne.mpr (by omega)
  have kb5 : (s.f0 == 5) = false := beq_eq_false_iff_ne.mpr (by omega)
  have kb6 : (s.f0 == 6) = false := beq_eq_false_iff_ne.mpr (by omega)
  have kb7 : (s.f0 == 7) = false := beq_eq_false_iff_ne.mpr (by omega)
  have kb8 : (s.f0 == 8) = false := beq_eq_false_iff_ne.mpr (by omega)
  clear hB hw hb0 ht hsz hv hin hok hk
  unfold stmtV stmtC
  go_enter Tryd.func45, Tryd.ntmps45
  go_upto_region 4 with (first | ((with_reducible refine gate_dst (N := 3) rfl ?_); refine box_event ?hg (N := 3) ?hd (cs := #[.int .i64 s.f0, .string s.f1, .int .i64 s.f2.f0, .int .i64 s.f2.f1, .int .i64 s.f2.f2, .string s.f2.f3, .slice p.A6 s.f2.f4.length p.c6, .int .i64 s.f3.f0, .int .i64 s.f3.f1, .int .i64 s.f3.f2, .string s.f3.f3, .slice p.A11 s.f3.f4.length p.c11, .int .i64 s.f4.f0, .int .i64 s.f4.f1, .slice p.A14 s.f4.f2.length p.c14, .slice p.A15 s.f4.f3.length p.c15, .slice p.A16 s.f5.length p.c16, .slice p.A17 s.f6.length p.c17]) (t := 54) ?hr ?_; (case hd => rfl); (case hg => rfl); (case hr => first | (go_simp; done) | (go_simp; rfl)); intro ge hgg w1 hlit hb; have HW1 := Aside0.mk (below_then HW0.out HW0.out.size hb); have HB1 := Aside0.mk (HB0.out.below hb); have HF1 := Aside0.mk (Fr.of (Nat.le_of_lt HLT.out) hb); have HG1 := Aside0.mk hlit; have HNE := Aside0.mk (show ge ≠ b by rw [hgg]; exact Nat.ne_of_gt HLT.out); have hy0 : w1.cell? ⟨ge, 0, none⟩ = some (.int .i64 s.f0) := (blk_cell hlit 0).trans rfl; have hy1 : w1.cell? ⟨ge, 1, none⟩ = some (.string s.f1) := (blk_cell hlit 1).trans rfl; have hy7 : w1.cell? ⟨ge, 7, none⟩ = some (.int .i64 s.f3.f0) := (blk_cell hlit 7).trans rfl; have hy8 : w1.cell? ⟨ge, 8, none⟩ = some (.int .i64 s.f3.f1) := (blk_cell hlit 8).trans rfl; have hy9 : w1.cell? ⟨ge, 9, none⟩ = some (.int .i64 s.f3.f2) := (blk_cell hlit 9).trans rfl; have hy10 : w1.cell? ⟨ge, 10, none⟩ = some (.string s.f3.f3) := (blk_cell hlit 10).trans rfl; have hy11 : w1.cell? ⟨ge, 11, none⟩ = some (.slice p.A11 s.f3.f4.length p.c11) := (blk_cell hlit 11).trans rfl; clear hlit hb hgg))
  refine start_ (n := 8) (S := fun w' => w'.cell? ⟨ge, 1, none⟩ = some (.string s.f1) ∧ w'.cell? ⟨ge, 7, none⟩ = some (.int .i64 s.f3.f0) ∧ w'.cell? ⟨ge, 8, none⟩ = some (.int .i64 s.f3.f1) ∧ w'.cell? ⟨ge, 9, none⟩ = some (.int .i64 s.f3.f2) ∧ w'.cell? ⟨ge, 10, none⟩ = some (.string s.f3.f3) ∧ w'.cell? ⟨ge, 11, none⟩ = some (.slice p.A11 s.f3.f4.length p.c11) ∧ Aside0 (Below w1.heap.size w1 w')) (ds := [7]) #[false, false, false, false, false, false, false, false] (by kernel_rfl) rfl rfl ⟨hy1, hy7, hy8, hy9, hy10, hy11, ⟨below_drew (Below.refl _ _)⟩⟩ (fun hHeld => ?_)
  refine pure_ (i := 0) (N := some 11) (v := ?_) (a' := ?_) #[true, false, false, false, false, false, false, false] rfl rfl (by kernel_rfl) (fun _ _ _ h => h) (Or.inl ⟨by rfl, ?_⟩) ?_ ?_
  rotate_left
  · intro w'
    go_simp
    with_reducible rfl
  rotate_left
  · simp only [Act.put, List.setIfInBounds_toArray, List.set_cons_zero, List.set_cons_succ, i64_w, i32_w]
    rfl
  refine pure_ (i := 1) (N := some 12) (v := ?_) (a' := ?_) #[true, true, false, false, false, false, false, false] rfl rfl (by kernel_rfl) (fun _ _ _ h => h) (Or.inl ⟨by rfl, ?_⟩) ?_ ?_
  rotate_left
  · intro w'
    go_simp
    with_reducible rfl
  rotate_left
  · simp only [Act.put, List.setIfInBounds_toArray, List.set_cons_zero, List.set_cons_succ, i64_w, i32_w]
    rfl
  refine pure_ (i := 3) (N := some 14) (v := ?_) (a' := ?_) #[true, true, false, true, false, false, false, false] rfl rfl (by kernel_rfl) (fun _ _ _ h => h) (Or.inl ⟨by rfl, ?_⟩) ?_ ?_
  rotate_left
  · intro w'
    go_simp
    with_reducible rfl
  rotate_left
  · simp only [Act.put, List.setIfInBounds_toArray, List.set_cons_zero, List.set_cons_succ, i64_w, i32_w]
    rfl
  refine take_ (i := 2) (N := some 13) (v := ?_) (a' := ?_) #[true, true, true, true, false, false, false, false] rfl rfl (by kernel_rfl) (fun _ _ _ h => h) (Or.inl ⟨by rfl, ?_⟩) hHeld ?_ ?_
  rotate_left
  · rintro w' ⟨s0, s1, s2, s3, s4, s5, s6⟩
    go_simp
    with_reducible rfl
  rotate_left
  · simp only [Act.put, List.setIfInBounds_toArray, List.set_cons_zero, List.set_cons_succ, i64_w, i32_w]
    rfl
  refine take_ (i := 4) (N := some 15) (v := ?_) (a' := ?_) #[true, true, true, true, true, false, false, false] rfl rfl (by kernel_rfl) (fun _ _ _ h => h) (Or.inl ⟨by rfl, ?_⟩) hHeld ?_ ?_
  rotate_left
  · rintro w' ⟨s0, s1, s2, s3, s4, s5, s6⟩
    go_simp
    with_reducible rfl
  rotate_left
  · simp only [Act.put, List.setIfInBounds_toArray, List.set_cons_zero, List.set_cons_succ, i64_w, i32_w]
    rfl
  refine one_ (i := 5) (N := some 16) #[true, true, true, true, true, true, false, false] rfl rfl (by kernel_rfl) (by decide) (fun K hK => ?_)
  refine goes_ Tryd.func13 (by kernel_rfl) rfl #[.agg #[.int .i64 s.f3.f0, .int .i64 s.f3.f1, .int .i64 s.f3.f2, .string s.f3.f3, .slice p.A11 s.f3.f4.length p.c11]] (by rfl) rfl rfl (by simp only [List.map_toArray, List.map_cons, List.map_nil, Act.eval]; rfl) ?_
  refine (HOa.out _ (below_then HW1.out HW1.out.size hHeld.2.2.2.2.2.2.out)).mono ?_
  rintro e1 va ⟨rfl, hb⟩
  refine ⟨_, rfl, ?_⟩
  refine hK.out _ _ ⟨pw_cell_below hb hHeld.1, pw_cell_below hb hHeld.2.1, pw_cell_below hb hHeld.2.2.1, pw_cell_below hb hHeld.2.2.2.1, pw_cell_below hb hHeld.2.2.2.2.1, pw_cell_below hb hHeld.2.2.2.2.2.1, ⟨below_then hHeld.2.2.2.2.2.2.out hHeld.2.2.2.2.2.2.out.size hb⟩⟩ (fun hHeld => ?_)
  clear hK K
  refine norm_ (a' := ?_) ?_ ?_
  rotate_left
  · show Act.put _ (some 16) _ = _
    simp only [Act.put, List.setIfInBounds_toArray, List.set_cons_zero, List.set_cons_succ, i64_w, i32_w]
    rfl
  refine one_ (i := 6) (N := some 17) #[true, true, true, true, true, true, true, false] rfl rfl (by kernel_rfl) (by decide) (fun K hK => ?_)
  refine lit_step (n := 4) (by rfl) (N := 17) rfl (cs := #[.string s.f1, .string (⟨#[32, 61, 32]⟩ : ByteArray), .string ta, .string (⟨#[59]⟩ : ByteArray)]) (t := 9) ?hr ?_
  case hr => first | (go_simp; done) | (go_simp; rfl)
  intro g2 hgg w3 hlit hb
  have HS3 := Aside0.mk (show w3.heap[g2]? = some (.cells (strV [s.f1, (⟨#[32, 61, 32]⟩ : ByteArray), ta, (⟨#[59]⟩ : ByteArray)]) 9 (0, 0)) from hlit)
  have HN3 := Aside0.mk (show g2 ≠ b by rw [hgg]; exact Nat.ne_of_gt (HB1.out.below hHeld.2.2.2.2.2.2.out).lt)
  refine hK.out _ _ ⟨pw_cell_below hb hHeld.1, pw_cell_below hb hHeld.2.1, pw_cell_below hb hHeld.2.2.1, pw_cell_below hb hHeld.2.2.2.1, pw_cell_below hb hHeld.2.2.2.2.1, pw_cell_below hb hHeld.2.2.2.2.2.1, ⟨below_then hHeld.2.2.2.2.2.2.out hHeld.2.2.2.2.2.2.out.size hb⟩⟩ (fun hHeld => ?_)
  clear hK K
  refine norm_ (a' := ?_) ?_ ?_
  rotate_left
  · show Act.put _ (some 17) _ = _
    simp only [Act.put, List.setIfInBounds_toArray, List.set_cons_zero, List.set_cons_succ, i64_w, i32_w]
    rfl
  refine last_ (i := 7) (N := some 18) #[true, true, true, true, true, true, true, true] rfl rfl (by kernel_rfl) (by decide) (fun K hK => ?_)
  refine goes_ Tryd.func23 (by kernel_rfl) rfl #[.pointer (some ⟨b, 0, none⟩), .slice (some ⟨g2, 0, none⟩) 4 4] (by rfl) rfl rfl (by simp only [List.map_toArray, List.map_cons, List.map_nil, Act.eval]; rfl) ?_
  refine (HL.out _ g2 (HB1.out.below hHeld.2.2.2.2.2.2.out) HS3.out HN3.out).mono ?_
  rintro e1 w4 ⟨rfl, hb, hf⟩
  have HB4 := Aside0.mk hb
  have HF4 := Aside0.mk ((HF1.out.trans (Fr.of (Nat.le_of_lt HB1.out.lt) hHeld.2.2.2.2.2.2.out)).trans hf)
  refine ⟨_, rfl, ?_⟩
  refine hK.out _ _ ?_
  clear hK K
  refine norm_ (a' := ?_) ?_ ?_
  rotate_left
  · show Act.put _ (some 18) _ = _
    simp only [Act.put, List.setIfInBounds_toArray, List.set_cons_zero, List.set_cons_succ, i64_w, i32_w]
    rfl
  refine done_ (by kernel_rfl) ?_
  go_wp2
  go_end0
  exact ⟨rfl, HB4.out, HF4.out⟩
set_option maxHeartbeats 8000000 in
set_option maxRecDepth 100000 in
theorem stmt_elem (n : Nat) (w0 : World) (s : S54) (p : At54) (b : Nat) (l : List UInt8) (w : World) (hin : StIn w0 s p) (hok : okSt (n + 1) s) (hp : Pre w0 b l w (stmtF (n + 1) s)) (hk : s.f0 = 2) :
    Calls Tryd.prog 45 #[.pointer (some ⟨b, 0, none⟩), stmtV s p] w fun e w' => Post b l w (stmtF (n + 1) s) e w' := by
  have hv : stmtF (n + 1) s = lineL [s.f1, (⟨#[91]⟩ : ByteArray), exprS s.f2, (⟨#[93, 32, 61, 32]⟩ : ByteArray), exprS s.f3, (⟨#[59]⟩ : ByteArray)] := by
    simp only [stmtF]
    rw [if_neg (by omega), if_pos hk]
  rw [hv] at hp ⊢
  obtain ⟨hB, hw, hb0, ht, hsz⟩ := hp
  have HB0 := Aside0.mk hB
  have HLT := Aside0.mk hB.lt
  have HW0 := Aside0.mk hw
  have HBB := Aside0.mk hb0
  have HT := Aside0.mk ht
  have HSZ := Aside0.mk hsz
  have HIN := Aside0.mk hin
  have HOK := Aside0.mk hok
  have HOa : Aside0 (∀ (W : World), Below w0.heap.size w0 W → Calls Tryd.prog 13 #[.agg #[.int .i64 s.f2.f0, .int .i64 s.f2.f1, .int .i64 s.f2.f2, .string s.f2.f3, .slice p.A6 s.f2.f4.length p.c6]] W fun r w' => r = .returned (.string (exprS s.f2)) ∧ Below W.heap.size W w') :=
    ⟨fun W hb => expr_calls (SizeOf.sizeOf s.f2) s.f2 p.A6 p.c6 W (Kd.C_below hin.g6 hb) hin.l6 (tab_on ht hb) (Nat.le_refl _) hok.1 (by have h := hsz; simp only [List.length_append, List.length_cons, List.length_nil, catL, List.flatMap_cons, List.flatMap_nil] at h; have h2 : (by_ (exprS s.f2)).length = (exprS s.f2).size := rfl; show (exprS s.f2).size ≤ _; omega)⟩
  have HOb : Aside0 (∀ (W : World), Below w0.heap.size w0 W → Calls Tryd.prog 13 #[.agg #[.int .i64 s.f3.f0, .int .i64 s.f3.f1, .int .i64 s.f3.f2, .string s.f3.f3, .slice p.A11 s.f3.f4.length p.c11]] W fun r w' => r = .returned (.string (exprS s.f3)) ∧ Below W.heap.size W w') :=
    ⟨fun W hb => expr_calls (SizeOf.sizeOf s.f3) s.f3 p.A11 p.c11 W (Kd.C_below hin.g11 hb) hin.l11 (tab_on ht hb) (Nat.le_refl _) hok.2.1 (by have h := hsz; simp only [List.length_append, List.length_cons, List.length_nil, catL, List.flatMap_cons, List.flatMap_nil] at h; have h2 : (by_ (exprS s.f3)).length = (exprS s.f3).size := rfl; show (exprS s.f3).size ≤ _; omega)⟩
  obtain ⟨ta, hta⟩ : ∃ t, exprS s.f2 = t := ⟨_, rfl⟩
  rw [hta] at HOa HSZ ⊢
  clear hta
  obtain ⟨tb, htb⟩ : ∃ t, exprS s.f3 = t := ⟨_, rfl⟩
  rw [htb] at HOb HSZ ⊢
  clear htb
  have HL : Aside0 (∀ (W : World) (g : Nat), Bu b (l) W → W.heap[g]? = some (.cells (strV [s.f1, (⟨#[91]⟩ : ByteArray), ta, (⟨#[93, 32, 61, 32]⟩ : ByteArray), tb, (⟨#[59]⟩ : ByteArray)]) 9 (0, 0)) → g ≠ b → Calls Tryd.prog 23 #[.pointer (some ⟨b, 0, none⟩), .slice (some ⟨g, 0, none⟩) 6 6] W fun e w' => e = .returned (.tuple #[]) ∧ Bu b (l ++ lineL [s.f1, (⟨#[91]⟩ : ByteArray), ta, (⟨#[93, 32, 61, 32]⟩ : ByteArray), tb, (⟨#[59]⟩ : ByteArray)]) w' ∧ Fr b W w') := ⟨fun W g h1 h2 h3 => line_calls b (l) [s.f1, (⟨#[91]⟩ : ByteArray), ta, (⟨#[93, 32, 61, 32]⟩ : ByteArray), tb, (⟨#[59]⟩ : ByteArray)] g W h1 h2 h3 (by simp) (by have h := HSZ.out; simp only [List.length_append, List.length_cons, List.length_nil] at h ⊢; omega)⟩
  have kb1 : (s.f0 == 1) = false := beq_eq_false_iff_ne.mpr (by omega)
  have kb2 : (s.f0 == 2) = true := beq_iff_eq.mpr hk
  have kb3 : (s.f0 == 3) = false := beq_eq_false_iff_ne.mpr (by omega)
  have kb4 : (s.f0 == 4) = false := beq_eq_false_iff_ne.mpr (by omega)
  have kb5 : (s.f0 == 5) = false := beq_eq_false_iff_ne.mpr (by omega)
  have kb6 : (s.f0 == 6) = false := beq_eq_false_iff_ne.mpr (by omega)
  have kb7 : (s.f0 == 7) = false := beq_eq_false_iff_ne.mpr (by omega)
  have kb8 : (s.f0 == 8) = false := beq_eq_false_iff_ne.mpr (by omega)
  clear hB hw hb0 ht hsz hv hin hok hk
  unfold stmtV stmtC
  go_enter Tryd.func45, Tryd.ntmps45
  go_upto_region 6 with (first | ((with_reducible refine gate_dst (N := 3) rfl ?_); refine box_event ?hg (N := 3) ?hd (cs := #[.int .i64 s.f0, .string s.f1, .int .i64 s.f2.f0, .int .i64 s.f2.f1, .int .i64 s.f2.f2, .string s.f2.f3, .slice p.A6 s.f2.f4.length p.c6, .int .i64 s.f3.f0, .int .i64 s.f3.f1, .int .i64 s.f3.f2, .string s.f3.f3, .slice p.A11 s.f3.f4.length p.c11, .int .i64 s.f4.f0, .int .i64 s.f4.f1, .slice p.A14 s.f4.f2.length p.c14, .slice p.A15 s.f4.f3.length p.c15, .slice p.A16 s.f5.length p.c16, .slice p.A17 s.f6.length p.c17]) (t := 54) ?hr ?_; (case hd => rfl); (case hg => rfl); (case hr => first | (go_simp; done) | (go_simp; rfl)); intro ge hgg w1 hlit hb; have HW1 := Aside0.mk (below_then HW0.out HW0.out.size hb); have HB1 := Aside0.mk (HB0.out.below hb); have HF1 := Aside0.mk (Fr.of (Nat.le_of_lt HLT.out) hb); have HG1 := Aside0.mk hlit; have HNE := Aside0.mk (show ge ≠ b by rw [hgg]; exact Nat.ne_of_gt HLT.out); have hy0 : w1.cell? ⟨ge, 0, none⟩ = some (.int .i64 s.f0) := (blk_cell hlit 0).trans rfl; have hy1 : w1.cell? ⟨ge, 1, none⟩ = some (.string s.f1) := (blk_cell hlit 1).trans rfl; have hy2 : w1.cell? ⟨ge, 2, none⟩ = some (.int .i64 s.f2.f0) := (blk_cell hlit 2).trans rfl; have hy3 : w1.cell? ⟨ge, 3, none⟩ = some (.int .i64 s.f2.f1) := (blk_cell hlit 3).trans rfl; have hy4 : w1.cell? ⟨ge, 4, none⟩ = some (.int .i64 s.f2.f2) := (blk_cell hlit 4).trans rfl; have hy5 : w1.cell? ⟨ge, 5, none⟩ = some (.string s.f2.f3) := (blk_cell hlit 5).trans rfl; have hy6 : w1.cell? ⟨ge, 6, none⟩ = some (.slice p.A6 s.f2.f4.length p.c6) := (blk_cell hlit 6).trans rfl; have hy7 : w1.cell? ⟨ge, 7, none⟩ = some (.int .i64 s.f3.f0) := (blk_cell hlit 7).trans rfl; have hy8 : w1.cell? ⟨ge, 8, none⟩ = some (.int .i64 s.f3.f1) := (blk_cell hlit 8).trans rfl; have hy9 : w1.cell? ⟨ge, 9, none⟩ = some (.int .i64 s.f3.f2) := (blk_cell hlit 9).trans rfl; have hy10 : w1.cell? ⟨ge, 10, none⟩ = some (.string s.f3.f3) := (blk_cell hlit 10).trans rfl; have hy11 : w1.cell? ⟨ge, 11, none⟩ = some (.slice p.A11 s.f3.f4.length p.c11) := (blk_cell hlit 11).trans rfl; clear hlit hb hgg))
  refine start_ (n := 11) (S := fun w' => w'.cell? ⟨ge, 1, none⟩ = some (.string s.f1) ∧ w'.cell? ⟨ge, 2, none⟩ = some (.int .i64 s.f2.f0) ∧ w'.cell? ⟨ge, 3, none⟩ = some (.int .i64 s.f2.f1) ∧ w'.cell? ⟨ge, 4, none⟩ = some (.int .i64 s.f2.f2) ∧ w'.cell? ⟨ge, 5, none⟩ = some (.string s.f2.f3) ∧ w'.cell? ⟨ge, 6, none⟩ = some (.slice p.A6 s.f2.f4.length p.c6) ∧ w'.cell? ⟨ge, 7, none⟩ = some (.int .i64 s.f3.f0) ∧ w'.cell? ⟨ge, 8, none⟩ = some (.int .i64 s.f3.f1) ∧ w'.cell? ⟨ge, 9, none⟩ = some (.int .i64 s.f3.f2) ∧ w'.cell? ⟨ge, 10, none⟩ = some (.string s.f3.f3) ∧ w'.cell? ⟨ge, 11, none⟩ = some (.slice p.A11 s.f3.f4.length p.c11) ∧ Aside0 (Below w1.heap.size w1 w')) (ds := [10]) #[false, false, false, false, false, false, false, false, false, false, false] (by kernel_rfl) rfl rfl ⟨hy1, hy2, hy3, hy4, hy5, hy6, hy7, hy8, hy9, hy10, hy11, ⟨below_drew (Below.refl _ _)⟩⟩ (fun hHeld => ?_)
  refine pure_ (i := 0) (N := some 21) (v := ?_) (a' := ?_) #[true, false, false, false, false, false, false, false, false, false, false] rfl rfl (by kernel_rfl) (fun _ _ _ h => h) (Or.inl ⟨by rfl, ?_⟩) ?_ ?_
  rotate_left
  · intro w'
    go_simp
    with_reducible rfl
  rotate_left
  · simp only [Act.put, List.setIfInBounds_toArray, List.set_cons_zero, List.set_cons_succ, i64_w, i32_w]
    rfl
  refine pure_ (i := 1) (N := some 22) (v := ?_) (a' := ?_) #[true, true, false, false, false, false, false, false, false, false, false] rfl rfl (by kernel_rfl) (fun _ _ _ h => h) (Or.inl ⟨by rfl, ?_⟩) ?_ ?_
  rotate_left
  · intro w'
    go_simp
    with_reducible rfl
  rotate_left
  · simp only [Act.put, List.setIfInBounds_toArray, List.set_cons_zero, List.set_cons_succ, i64_w, i32_w]
    rfl
  refine pure_ (i := 3) (N := some 24) (v := ?_) (a' := ?_) #[true, true, false, true, false, false, false, false, false, false, false] rfl rfl (by kernel_rfl) (fun _ _ _ h => h) (Or.inl ⟨by rfl, ?_⟩) ?_ ?_
  rotate_left
  · intro w'
    go_simp
    with_reducible rfl
  rotate_left
  · simp only [Act.put, List.setIfInBounds_toArray, List.set_cons_zero, List.set_cons_succ, i64_w, i32_w]
    rfl
  refine pure_ (i := 6) (N := some 27) (v := ?_) (a' := ?_) #[true, true, false, true, false, false, true, false, false, false, false] rfl rfl (by kernel_rfl) (fun _ _ _ h => h) (Or.inl ⟨by rfl, ?_⟩) ?_ ?_
  rotate_left
  · intro w'
    go_simp
    with_reducible rfl
  rotate_left
  · simp only [Act.put, List.setIfInBounds_toArray, List.set_cons_zero, List.set_cons_succ, i64_w, i32_w]
    rfl
  refine take_ (i := 2) (N := some 23) (v := ?_) (a' := ?_) #[true, true, true, true, false, false, true, false, false, false, false] rfl rfl (by kernel_rfl) (fun _ _ _ h => h) (Or.inl ⟨by rfl, ?_⟩) hHeld ?_ ?_
  rotate_left
  · rintro w' ⟨s0, s1, s2, s3, s4, s5, s6, s7, s8, s9, s10, s11⟩
    go_simp
    with_reducible rfl
  rotate_left
  · simp only [Act.put, List.setIfInBounds_toArray, List.set_cons_zero, List.set_cons_succ, i64_w, i32_w]
    rfl
  refine take_ (i := 4) (N := some 25) (v := ?_) (a' := ?_) #[true, true, true, true, true, false, true, false, false, false, false] rfl rfl (by kernel_rfl) (fun _ _ _ h => h) (Or.inl ⟨by rfl, ?_⟩) hHeld ?_ ?_
  rotate_left
  · rintro w' ⟨s0, s1, s2, s3, s4, s5, s6, s7, s8, s9, s10, s11⟩
    go_simp
    with_reducible rfl
  rotate_left
  · simp only [Act.put, List.setIfInBounds_toArray, List.set_cons_zero, List.set_cons_succ, i64_w, i32_w]
    rfl
  refine take_ (i := 7) (N := some 28) (v := ?_) (a' := ?_) #[true, true, true, true, true, false, true, true, false, false, false] rfl rfl (by kernel_rfl) (fun _ _ _ h => h) (Or.inl ⟨by rfl, ?_⟩) hHeld ?_ ?_
  rotate_left
  · rintro w' ⟨s0, s1, s2, s3, s4, s5, s6, s7, s8, s9, s10, s11⟩
    go_simp
    with_reducible rfl
  rotate_left
  · simp only [Act.put, List.setIfInBounds_toArray, List.set_cons_zero, List.set_cons_succ, i64_w, i32_w]
    rfl
  refine one_ (i := 5) (N := some 26) #[true, true, true, true, true, true, true, true, false, false, false] rfl rfl (by kernel_rfl) (by decide) (fun K hK => ?_)
  refine goes_ Tryd.func13 (by kernel_rfl) rfl #[.agg #[.int .i64 s.f2.f0, .int .i64 s.f2.f1, .int .i64 s.f2.f2, .string s.f2.f3, .slice p.A6 s.f2.f4.length p.c6]] (by rfl) rfl rfl (by simp only [List.map_toArray, List.map_cons, List.map_nil, Act.eval]; rfl) ?_
  refine (HOa.out _ (below_then HW1.out HW1.out.size hHeld.2.2.2.2.2.2.2.2.2.2.2.out)).mono ?_
  rintro e1 va ⟨rfl, hb⟩
  refine ⟨_, rfl, ?_⟩
  refine hK.out _ _ ⟨pw_cell_below hb hHeld.1, pw_cell_below hb hHeld.2.1, pw_cell_below hb hHeld.2.2.1, pw_cell_below hb hHeld.2.2.2.1, pw_cell_below hb hHeld.2.2.2.2.1, pw_cell_below hb hHeld.2.2.2.2.2.1, pw_cell_below hb hHeld.2.2.2.2.2.2.1, pw_cell_below hb hHeld.2.2.2.2.2.2.2.1, pw_cell_below hb hHeld.2.2.2.2.2.2.2.2.1, pw_cell_below hb hHeld.2.2.2.2.2.2.2.2.2.1, pw_cell_below hb hHeld.2.2.2.2.2.2.2.2.2.2.1, ⟨below_then hHeld.2.2.2.2.2.2.2.2.2.2.2.out hHeld.2.2.2.2.2.2.2.2.2.2.2.out.size hb⟩⟩ (fun hHeld => ?_)
  clear hK K
  refine norm_ (a' := ?_) ?_ ?_
  rotate_left
  · show Act.put _ (some 26) _ = _
    simp only [Act.put, List.setIfInBounds_toArray, List.set_cons_zero, List.set_cons_succ, i64_w, i32_w]
    rfl
  refine one_ (i := 8) (N := some 29) #[true, true, true, true, true, true, true, true, true, false, false] rfl rfl (by kernel_rfl) (by decide) (fun K hK => ?_)
  refine goes_ Tryd.func13 (by kernel_rfl) rfl #[.agg #[.int .i64 s.f3.f0, .int .i64 s.f3.f1, .int .i64 s.f3.f2, .string s.f3.f3, .slice p.A11 s.f3.f4.length p.c11]] (by rfl) rfl rfl (by simp only [List.map_toArray, List.map_cons, List.map_nil, Act.eval]; rfl) ?_
  refine (HOb.out _ (below_then HW1.out HW1.out.size hHeld.2.2.2.2.2.2.2.2.2.2.2.out)).mono ?_
  rintro e1 vb ⟨rfl, hb⟩
  refine ⟨_, rfl, ?_⟩
  refine hK.out _ _ ⟨pw_cell_below hb hHeld.1, pw_cell_below hb hHeld.2.1, pw_cell_below hb hHeld.2.2.1, pw_cell_below hb hHeld.2.2.2.1, pw_cell_below hb hHeld.2.2.2.2.1, pw_cell_below hb hHeld.2.2.2.2.2.1, pw_cell_below hb hHeld.2.2.2.2.2.2.1, pw_cell_below hb hHeld.2.2.2.2.2.2.2.1, pw_cell_below hb hHeld.2.2.2.2.2.2.2.2.1, pw_cell_below hb hHeld.2.2.2.2.2.2.2.2.2.1, pw_cell_below hb hHeld.2.2.2.2.2.2.2.2.2.2.1, ⟨below_then hHeld.2.2.2.2.2.2.2.2.2.2.2.out hHeld.2.2.2.2.2.2.2.2.2.2.2.out.size hb⟩⟩ (fun hHeld => ?_)
  clear hK K
  refine norm_ (a' := ?_) ?_ ?_
  rotate_left
  · show Act.put _ (some 29) _ = _
    simp only [Act.put, List.setIfInBounds_toArray, List.set_cons_zero, List.set_cons_succ, i64_w, i32_w]
    rfl
  refine one_ (i := 9) (N := some 30) #[true, true, true, true, true, true, true, true, true, true, false] rfl rfl (by kernel_rfl) (by decide) (fun K hK => ?_)
  refine lit_step (n := 6) (by rfl) (N := 30) rfl (cs := #[.string s.f1, .string (⟨#[91]⟩ : ByteArray), .string ta, .string (⟨#[93, 32, 61, 32]⟩ : ByteArray), .string tb, .string (⟨#[59]⟩ : ByteArray)]) (t := 9) ?hr ?_
  case hr => first | (go_simp; done) | (go_simp; rfl)
  intro g2 hgg w3 hlit hb
  have HS3 := Aside0.mk (show w3.heap[g2]? = some (.cells (strV [s.f1, (⟨#[91]⟩ : ByteArray), ta, (⟨#[93, 32, 61, 32]⟩ : ByteArray), tb, (⟨#[59]⟩ : ByteArray)]) 9 (0, 0)) from hlit)
  have HN3 := Aside0.mk (show g2 ≠ b by rw [hgg]; exact Nat.ne_of_gt (HB1.out.below hHeld.2.2.2.2.2.2.2.2.2.2.2.out).lt)
  refine hK.out _ _ ⟨pw_cell_below hb hHeld.1, pw_cell_below hb hHeld.2.1, pw_cell_below hb hHeld.2.2.1, pw_cell_below hb hHeld.2.2.2.1, pw_cell_below hb hHeld.2.2.2.2.1, pw_cell_below hb hHeld.2.2.2.2.2.1, pw_cell_below hb hHeld.2.2.2.2.2.2.1, pw_cell_below hb hHeld.2.2.2.2.2.2.2.1, pw_cell_below hb hHeld.2.2.2.2.2.2.2.2.1, pw_cell_below hb hHeld.2.2.2.2.2.2.2.2.2.1, pw_cell_below hb hHeld.2.2.2.2.2.2.2.2.2.2.1, ⟨below_then hHeld.2.2.2.2.2.2.2.2.2.2.2.out hHeld.2.2.2.2.2.2.2.2.2.2.2.out.size hb⟩⟩ (fun hHeld => ?_)
  clear hK K
  refine norm_ (a' := ?_) ?_ ?_
  rotate_left
  · show Act.put _ (some 30) _ = _
    simp only [Act.put, List.setIfInBounds_toArray, List.set_cons_zero, List.set_cons_succ, i64_w, i32_w]
    rfl
  refine last_ (i := 10) (N := some 31) #[true, true, true, true, true, true, true, true, true, true, true] rfl rfl (by kernel_rfl) (by decide) (fun K hK => ?_)
  refine goes_ Tryd.func23 (by kernel_rfl) rfl #[.pointer (some ⟨b, 0, none⟩), .slice (some ⟨g2, 0, none⟩) 6 6] (by rfl) rfl rfl (by simp only [List.map_toArray, List.map_cons, List.map_nil, Act.eval]; rfl) ?_
  refine (HL.out _ g2 (HB1.out.below hHeld.2.2.2.2.2.2.2.2.2.2.2.out) HS3.out HN3.out).mono ?_
  rintro e1 w4 ⟨rfl, hb, hf⟩
  have HB4 := Aside0.mk hb
  have HF4 := Aside0.mk ((HF1.out.trans (Fr.of (Nat.le_of_lt HB1.out.lt) hHeld.2.2.2.2.2.2.2.2.2.2.2.out)).trans hf)
  refine ⟨_, rfl, ?_⟩
  refine hK.out _ _ ?_
  clear hK K
  refine norm_ (a' := ?_) ?_ ?_
  rotate_left
  · show Act.put _ (some 31) _ = _
    simp only [Act.put, List.setIfInBounds_toArray, List.set_cons_zero, List.set_cons_succ, i64_w, i32_w]
    rfl
  refine done_ (by kernel_rfl) ?_
  go_wp2
  go_end0
  exact ⟨rfl, HB4.out, HF4.out⟩
/-- stmt lays stmtF, with as much fuel as the statement is large. -/
theorem stmt_calls (w0 : World) : ∀ (n : Nat), IHs w0 n
  | 0, s, p, b, l, w, hin, hs, hok, hp => by
    obtain ⟨a, b, c, d, e, f, g⟩ := s
    simp only [S54.mk.sizeOf_spec] at hs
    omega
  | n + 1, s, p, b, l, w, hin, hs, hok, hp => by
    have ih := stmt_calls w0 n
    by_cases k1 : s.f0 = 1
    · exact stmt_set n w0 s p b l w hin hok hp k1
    by_cases k2 : s.f0 = 2
    · exact stmt_elem n w0 s p b l w hin hok hp k2
    by_cases k3 : s.f0 = 3
    · exact stmt_lock n w0 s p b l w hin hp k3
    by_cases k4 : s.f0 = 4
    · exact stmt_unlock n w0 s p b l w hin hp k4
    by_cases k5 : s.f0 = 5
    · rcases Nat.eq_zero_or_pos s.f6.length with h | h
      · exact stmt_if n w0 s p b l w hin ih hs hok hp ⟨k5, h⟩
      · exact stmt_ife n w0 s p b l w hin ih hs hok hp ⟨k5, h⟩
    by_cases k6 : s.f0 = 6
    · exact stmt_while n w0 s p b l w hin ih hs hok hp k6
    by_cases k7 : s.f0 = 7
    · exact stmt_assert n w0 s p b l w hin hok hp k7
    by_cases k8 : s.f0 = 8
    · exact stmt_skip n w0 s p b l w hin hp k8
    exact stmt_none n w0 s p b l w hin hp (by omega)
end Go.Proofs.YtfeaekdhpkdljaaDoor.Sh
