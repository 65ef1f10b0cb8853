/- show.Print: a program as a text. -/
import Derived.Test.YtfeaekdhpkdljaaDoorShStmt2
import Derived.Deep.DeepCutAuto
import Derived.Deep.CutBlock
namespace Go.Proofs.YtfeaekdhpkdljaaDoor.Sh
open Go.RowKit Go.Proofs.YtfeaekdhpkdljaaDoorW.PrintWords Go.Proofs.YtfeaekdhpkdljaaDoorW.PrintLast
set_option linter.unusedVariables false
set_option linter.unusedSimpArgs false
def globF (g : S59) : List UInt8 := lineL [(⟨#[103, 108, 111, 98, 97, 108, 32]⟩ : ByteArray), g.f0, (⟨#[32, 61, 32]⟩ : ByteArray), itoaB g.f1, (⟨#[59]⟩ : ByteArray)]
def arrF (g : S61) : List UInt8 := lineL [(⟨#[97, 114, 114, 97, 121, 32]⟩ : ByteArray), g.f0, (⟨#[91]⟩ : ByteArray), itoaB g.f1, (⟨#[93, 59]⟩ : ByteArray)]
def mutF (m : ByteArray) : List UInt8 := lineL [(⟨#[109, 117, 116, 101, 120, 32]⟩ : ByteArray), m, (⟨#[59]⟩ : ByteArray)]
def locF (m : ByteArray) : List UInt8 := lineL [(⟨#[108, 111, 99, 97, 108, 32]⟩ : ByteArray), m, (⟨#[59]⟩ : ByteArray)]
noncomputable def thrF (t : S52) : List UInt8 := lineL [(⟨#[116, 104, 114, 101, 97, 100, 32]⟩ : ByteArray), t.f0, (⟨#[32, 123]⟩ : ByteArray)] ++ (t.f1.flatMap locF ++ (t.f2.flatMap (stmtF (SizeOf.sizeOf t.f2)) ++ lineL [(⟨#[125]⟩ : ByteArray)]))
noncomputable def printF (G : List S59) (As : List S61) (Ms : List ByteArray) (Ts : List S52) : List UInt8 := G.flatMap globF ++ (As.flatMap arrF ++ (Ms.flatMap mutF ++ Ts.flatMap thrF))
theorem thrF_eq (t : S52) : thrF t = (catL [(⟨#[116, 104, 114, 101, 97, 100, 32]⟩ : ByteArray), t.f0, (⟨#[32, 123]⟩ : ByteArray)] ++ [10]) ++ (t.f1.flatMap locF ++ (t.f2.flatMap (stmtF (SizeOf.sizeOf t.f2)) ++ (catL [(⟨#[125]⟩ : ByteArray)] ++ [10]))) := rfl
theorem fm_take {α : Type} (f : α → List UInt8) (xs : List α) (i : Nat) (h : i < xs.length) : (xs.take (i + 1)).flatMap f = (xs.take i).flatMap f ++ f xs[i] := by
  rw [List.take_succ_eq_append_getElem h, List.flatMap_append]
  simp
theorem fm_le {α : Type} (f : α → List UInt8) (xs : List α) (i : Nat) : ((xs.take i).flatMap f).length ≤ (xs.flatMap f).length := by
  have h : xs.flatMap f = (xs.take i).flatMap f ++ (xs.drop i).flatMap f := by
    rw [← List.flatMap_append, List.take_append_drop]
  rw [h, List.length_append]
  omega
/-- A builder that is fresh where nothing was written. -/
def BuN (b : Nat) (l : List UInt8) (w : World) : Prop := Bu b l w ∧ (l ≠ [] ∨ w.heap[b]? = some (.cells #[.pointer none, .slice none 0 0] 70 (0, 0)))
theorem BuN.line {b : Nat} {l ss : List UInt8} {w : World} (h : Bu b (l ++ (ss ++ [10])) w) : BuN b (l ++ (ss ++ [10])) w := ⟨h, .inl (by simp)⟩
theorem BuN.string {b : Nat} {l : List UInt8} {w : World} (h : BuN b l w) : Calls Tryd.prog 26 #[.pointer (some ⟨b, 0, none⟩)] w fun e w' => e = .returned (.string ⟨l.toArray⟩) ∧ Below b w w' := by
  by_cases hl : l = []
  · subst hl
    exact str_none b _ w (h.2.resolve_left (by simp))
  · exact str_calls b l w h.1 hl
/-- What stands all through Print. -/
def Pn (w0 : World) (b gp : Nat) (pc : Array Value) (acc : List UInt8) (w : World) : Prop := BuN b acc w ∧ Below w0.heap.size w0 w ∧ w.heap[gp]? = some (.cells pc 27 (0, 0))
theorem bu_fresh {w w' : World} {g : Nat} (e : g = w.heap.size) (h : w'.heap[g]? = some (.cells #[.pointer none, .slice none 0 0] 70 (0, 0))) : BuN g [] w' :=
  ⟨Lib.IsBuilderF.of (.inl ⟨Nat.le_refl _, .slice none 0 0, h, World.ownsRow_nil _ _ _ _, by simp [Value.ownBlock]⟩), .inr h⟩
theorem one2 (s : ByteArray) (n : Int) : ∀ q ∈ (#[.string s, .int .i64 n] : Array Value).toList, q.oneCell' = true := by
  intro q hq
  simp only [List.mem_cons, List.not_mem_nil, or_false] at hq
  rcases hq with h | h <;> subst h <;> rfl
theorem one3 (s : ByteArray) (a c : Option Addr) (x1 x2 y1 y2 : Nat) : ∀ q ∈ (#[.string s, .slice a x1 x2, .slice c y1 y2] : Array Value).toList, q.oneCell' = true := by
  intro q hq
  simp only [List.mem_cons, List.not_mem_nil, or_false] at hq
  rcases hq with h | h | h <;> subst h <;> rfl
set_option maxHeartbeats 8000000 in
set_option maxRecDepth 100000 in
theorem print_calls (w0 : World) (G : List S59) (As : List S61) (Ms : List ByteArray) (Ts : List S52) (AG AA AM AT : Option Addr) (cG cA cM cT : Nat) (hG : k59.C w0 AG G.length G) (hA : k61.C w0 AA As.length As) (hM : Kd.string.C w0 AM Ms.length Ms) (hT : k52.C w0 AT Ts.length Ts) (ht : Tab w0)
    (rG : ∀ g ∈ G, -9223372036854775808 ≤ g.f1 ∧ g.f1 ≤ 9223372036854775807) (rA : ∀ g ∈ As, -9223372036854775808 ≤ g.f1 ∧ g.f1 ≤ 9223372036854775807) (rT : ∀ t ∈ Ts, ∀ s ∈ t.f2, okSt (SizeOf.sizeOf t.f2) s) (hsz : (printF G As Ms Ts).length ≤ 140737488355328) :
    Calls Tryd.prog 11 #[.agg #[.slice AG G.length cG, .slice AA As.length cA, .slice AM Ms.length cM, .slice AT Ts.length cT]] w0 fun e w' => e = .returned (.string ⟨(printF G As Ms Ts).toArray⟩) ∧ Below w0.heap.size w0 w' := by
  have HCG := Aside0.mk hG
  have HCA := Aside0.mk hA
  have HCM := Aside0.mk hM
  have HCT := Aside0.mk hT
  have HTB := Aside0.mk ht
  have HRG := Aside0.mk rG
  have HRA := Aside0.mk rA
  have HRT := Aside0.mk rT
  have HSZ := Aside0.mk hsz
  have hlG : G.length ≤ 9223372036854775807 := hG.2.1
  have hlA : As.length ≤ 9223372036854775807 := hA.2.1
  have hlM : Ms.length ≤ 9223372036854775807 := hM.2.1
  have hlT : Ts.length ≤ 9223372036854775807 := hT.2.1
  clear hG hA hM hT ht rG rA rT hsz
  go_enter Tryd.func11, Tryd.ntmps11
  go_upto_block 0 with (first | ((with_reducible refine gate_dst (N := 1) rfl ?_); refine box_event ?hg (N := 1) ?hd (cs := #[.slice AG G.length cG, .slice AA As.length cA, .slice AM Ms.length cM, .slice AT Ts.length cT]) (t := 27) ?hr ?_; (case hd => rfl); (case hg => rfl); (case hr => first | (go_simp; done) | (go_simp; rfl)); intro gp hgg wa hlit hb; have HG1 := Aside0.mk hlit; have HBA := Aside0.mk hb; have HGP := Aside0.mk hgg; have hy0 : wa.cell? ⟨gp, 0, none⟩ = some (.slice AG G.length cG) := (blk_cell hlit 0).trans rfl; have hy1 : wa.cell? ⟨gp, 1, none⟩ = some (.slice AA As.length cA) := (blk_cell hlit 1).trans rfl; have hy2 : wa.cell? ⟨gp, 2, none⟩ = some (.slice AM Ms.length cM) := (blk_cell hlit 2).trans rfl; have hy3 : wa.cell? ⟨gp, 3, none⟩ = some (.slice AT Ts.length cT) := (blk_cell hlit 3).trans rfl; clear hlit hb hgg) | ((with_reducible refine gate_dst (N := 15) rfl ?_); refine box_event ?hg (N := 15) ?hd (cs := #[.pointer none, .slice none 0 0]) (t := 70) ?hr ?_; (case hd => rfl); (case hg => rfl); (case hr => first | (go_simp; done) | (go_simp; rfl)); intro b hgg wb hlit hb; have HBB := Aside0.mk (show w0.heap.size ≤ b by rw [hgg]; exact HBA.out.size); have HNE := Aside0.mk (show gp ≠ b by rw [hgg]; exact Nat.ne_of_lt (blk_lt HG1.out)); have HP := Aside0.mk (show Pn w0 b gp #[.slice AG G.length cG, .slice AA As.length cA, .slice AM Ms.length cM, .slice AT Ts.length cT] [] wb from ⟨bu_fresh hgg hlit, below_then HBA.out HBA.out.size hb, below_read hb HG1.out⟩); have hb0 := pw_cell_below hb hy0; clear hlit hb hgg))
  go_upto_block 0 with fail
  go_cut [19] (fun sx wx => Aside0 (Pn w0 b gp #[.slice AG G.length cG, .slice AA As.length cA, .slice AM Ms.length cM, .slice AT Ts.length cT] (G.flatMap globF) wx))
  case first =>
    go_wp2_with fail
    go_loopg [19] G.length (fun gg sx wr => ∃ i : Nat, i ≤ G.length ∧ G.length - i ≤ gg ∧ sx = .int .i64 i ∧ Aside0 (Pn w0 b gp #[.slice AG G.length cG, .slice AA As.length cA, .slice AM Ms.length cM, .slice AT Ts.length cT] ([] ++ (G.take i).flatMap globF) wr))
    case atStart => exact ⟨0, Nat.zero_le _, by omega, rfl, ⟨by have h := HP.out; simpa using h⟩⟩
    case round =>
      obtain ⟨i, hi, hgg, rfl, HL⟩ := hrel
      generalize wr = wo at *
      by_cases hlt : i < G.length
      · have hltz : (i : Int) < (G.length : Int) := by omega
        have HLT := Aside0.mk HL.out.1.1.lt
        obtain ⟨ad, rfl, p0, p1⟩ := at_T59 (Kd.C_below HCG.out HL.out.2.1) (i : Int) (by omega) hltz
        have hx : rd_T59 G (i : Int) = G[i] := by simp [rd_T59, hlt]
        rw [Int.toNat_natCast, hx] at p0 p1
        have HFT := Aside0.mk (fm_take globF G i hlt)
        have HFL := Aside0.mk (fm_le globF G (i + 1))
        have HR := Aside0.mk (HRG.out _ (List.getElem_mem hlt))
        obtain ⟨g, hg⟩ : ∃ g, G[i] = g := ⟨_, rfl⟩
        rw [hg] at p0 p1 HFT HR
        clear hx hg hlt
        go_upto_region 5 with (first | ((with_reducible refine gate_dst (N := 5) rfl ?_); refine box_event ?hg (N := 5) ?hd (cs := #[.string ⟨#[]⟩, .int .i64 0]) (t := 59) ?hr ?_; (case hd => rfl); (case hg => rfl); (case hr => first | (go_simp; done) | (go_simp; rfl)); intro ga hgg w1 hlit hb; have HZZ := Aside0.mk hlit; have HGA := Aside0.mk hgg; have HB1 := Aside0.mk hb; have p0 := pw_cell_below hb p0; have p1 := pw_cell_below hb p1; clear hlit hb hgg) | ((with_reducible refine gate_store (t := 59) (p := 5) rfl ?_); refine put_val ?hg ?hn 59 (.tmp 5) (.tmp 22) ?ho ga 59 _ (#[.string g.f0, .int .i64 g.f1]) (.agg #[.string g.f0, .int .i64 g.f1]) ?hp ?hx ?hu HZZ.out ?ht ?hs ?h1 ?_; (case hg => rfl); (case hn => rfl); (case ho => rfl); (case hp => rfl); (case hx => rfl); (case hu => rfl); (case ht => kernel_rfl); (case hs => rfl); (case h1 => exact one2 g.f0 g.f1); intro w2 hlit hg; have HGX := Aside0.mk hlit; have HBW := Aside0.mk (HB1.out.grown hg HB1.out.size (fun q hq => by injection hq with hq; rw [← hq, HGA.out]; exact Nat.le_refl _)); clear hlit hg))
        have hq0 : w2.cell? ⟨ga, 0, none⟩ = some (.string g.f0) := (blk_cell HGX.out 0).trans rfl
        have hq1 : w2.cell? ⟨ga, 1, none⟩ = some (.int .i64 g.f1) := (blk_cell HGX.out 1).trans rfl
        refine start_ (n := 8) (S := fun w' => w'.cell? ⟨ga, 0, none⟩ = some (.string g.f0) ∧ w'.cell? ⟨ga, 1, none⟩ = some (.int .i64 g.f1) ∧ Aside0 (Below wo.heap.size wo w')) (ds := [7]) #[false, false, false, false, false, false, false, false] (by kernel_rfl) rfl rfl ⟨hq0, hq1, ⟨below_drew HBW.out⟩⟩ (fun hHeld => ?_)
        refine pure_ (i := 0) (N := some 23) (v := ?_) (a' := ?_) #[true, false, false, false, false, false, false, false] rfl rfl (by kernel_rfl) (fun _ _ _ h => h) (Or.inl ⟨by rfl, ?_⟩) ?_ ?_
        rotate_left
        · intro w'
          go_simp
          with_reducible rfl
        rotate_left
        · simp only [Act.put, List.setIfInBounds_toArray, List.set_cons_zero, List.set_cons_succ, i64_w, i32_w]
          rfl
        refine pure_ (i := 1) (N := some 24) (v := ?_) (a' := ?_) #[true, true, false, false, false, false, false, false] rfl rfl (by kernel_rfl) (fun _ _ _ h => h) (Or.inl ⟨by rfl, ?_⟩) ?_ ?_
        rotate_left
        · intro w'
          go_simp
          with_reducible rfl
        rotate_left
        · simp only [Act.put, List.setIfInBounds_toArray, List.set_cons_zero, List.set_cons_succ, i64_w, i32_w]
          rfl
        refine pure_ (i := 3) (N := some 26) (v := ?_) (a' := ?_) #[true, true, false, true, false, false, false, false] rfl rfl (by kernel_rfl) (fun _ _ _ h => h) (Or.inl ⟨by rfl, ?_⟩) ?_ ?_
        rotate_left
        · intro w'
          go_simp
          with_reducible rfl
        rotate_left
        · simp only [Act.put, List.setIfInBounds_toArray, List.set_cons_zero, List.set_cons_succ, i64_w, i32_w]
          rfl
        refine take_ (i := 2) (N := some 25) (v := ?_) (a' := ?_) #[true, true, true, true, false, false, false, false] rfl rfl (by kernel_rfl) (fun _ _ _ h => h) (Or.inl ⟨by rfl, ?_⟩) hHeld ?_ ?_
        rotate_left
        · rintro w' ⟨s0, s1, s2⟩
          go_simp
          with_reducible rfl
        rotate_left
        · simp only [Act.put, List.setIfInBounds_toArray, List.set_cons_zero, List.set_cons_succ, i64_w, i32_w]
          rfl
        refine take_ (i := 4) (N := some 27) (v := ?_) (a' := ?_) #[true, true, true, true, true, false, false, false] rfl rfl (by kernel_rfl) (fun _ _ _ h => h) (Or.inl ⟨by rfl, ?_⟩) hHeld ?_ ?_
        rotate_left
        · rintro w' ⟨s0, s1, s2⟩
          go_simp
          with_reducible rfl
        rotate_left
        · simp only [Act.put, List.setIfInBounds_toArray, List.set_cons_zero, List.set_cons_succ, i64_w, i32_w]
          rfl
        refine one_ (i := 5) (N := some 28) #[true, true, true, true, true, true, false, false] rfl rfl (by kernel_rfl) (by decide) (fun K hK => ?_)
        refine goes_ Tryd.func24 (by kernel_rfl) rfl #[.int .i64 g.f1] (by rfl) rfl rfl (by simp only [List.map_toArray, List.map_cons, List.map_nil, Act.eval]; rfl) ?_
        refine (itoa_calls g.f1 HR.out.1 HR.out.2 _ (tab_on HTB.out (below_then HL.out.2.1 HL.out.2.1.size hHeld.2.2.out))).mono ?_
        rintro e1 w3 ⟨rfl, hb⟩
        refine ⟨_, rfl, ?_⟩
        refine hK.out _ _ ⟨pw_cell_below hb hHeld.1, pw_cell_below hb hHeld.2.1, ⟨below_then hHeld.2.2.out hHeld.2.2.out.size hb⟩⟩ (fun hHeld => ?_)
        clear hK K
        refine norm_ (a' := ?_) ?_ ?_
        rotate_left
        · show Act.put _ (some 28) _ = _
          simp only [Act.put, List.setIfInBounds_toArray, List.set_cons_zero, List.set_cons_succ, i64_w, i32_w]
          rfl
        refine one_ (i := 6) (N := some 29) #[true, true, true, true, true, true, true, false] rfl rfl (by kernel_rfl) (by decide) (fun K hK => ?_)
        refine lit_step (n := 5) (by rfl) (N := 29) rfl (cs := #[.string (⟨#[103, 108, 111, 98, 97, 108, 32]⟩ : ByteArray), .string g.f0, .string (⟨#[32, 61, 32]⟩ : ByteArray), .string (itoaB g.f1), .string (⟨#[59]⟩ : ByteArray)]) (t := 9) ?hr ?_
        case hr => first | (go_simp; done) | (go_simp; rfl)
        intro g2 hgg w4 hlit hb
        have HS := Aside0.mk (show w4.heap[g2]? = some (.cells (strV [(⟨#[103, 108, 111, 98, 97, 108, 32]⟩ : ByteArray), g.f0, (⟨#[32, 61, 32]⟩ : ByteArray), itoaB g.f1, (⟨#[59]⟩ : ByteArray)]) 9 (0, 0)) from hlit)
        have HN := Aside0.mk (show g2 ≠ b by rw [hgg]; exact Nat.ne_of_gt (Nat.lt_of_lt_of_le HLT.out hHeld.2.2.out.size))
        refine hK.out _ _ ⟨pw_cell_below hb hHeld.1, pw_cell_below hb hHeld.2.1, ⟨below_then hHeld.2.2.out hHeld.2.2.out.size hb⟩⟩ (fun hHeld => ?_)
        clear hK K
        refine norm_ (a' := ?_) ?_ ?_
        rotate_left
        · show Act.put _ (some 29) _ = _
          simp only [Act.put, List.setIfInBounds_toArray, List.set_cons_zero, List.set_cons_succ, i64_w, i32_w]
          rfl
        refine last_ (i := 7) (N := some 30) #[true, true, true, true, true, true, true, true] rfl rfl (by kernel_rfl) (by decide) (fun K hK => ?_)
        refine goes_ Tryd.func23 (by kernel_rfl) rfl #[.pointer (some ⟨b, 0, none⟩), .slice (some ⟨g2, 0, none⟩) 5 5] (by rfl) rfl rfl (by simp only [List.map_toArray, List.map_cons, List.map_nil, Act.eval]; rfl) ?_
        refine (line_calls b ([] ++ (G.take i).flatMap globF) [(⟨#[103, 108, 111, 98, 97, 108, 32]⟩ : ByteArray), g.f0, (⟨#[32, 61, 32]⟩ : ByteArray), itoaB g.f1, (⟨#[59]⟩ : ByteArray)] g2 _ (HL.out.1.1.below hHeld.2.2.out) HS.out HN.out (by simp) (by have h := HSZ.out; have h2 := HFL.out; rw [HFT.out] at h2; simp only [printF, globF, arrF, mutF, locF, thrF, List.length_append, List.length_cons, List.length_nil] at h h2 ⊢; omega)).mono ?_
        rintro e1 w5 ⟨rfl, hb, hf⟩
        have HB5 := Aside0.mk (BuN.line hb)
        have HF5 := Aside0.mk ((Fr.of (Nat.le_of_lt HLT.out) hHeld.2.2.out).trans hf)
        refine ⟨_, rfl, ?_⟩
        refine hK.out _ _ ?_
        clear hK K
        refine norm_ (a' := ?_) ?_ ?_
        rotate_left
        · show Act.put _ (some 30) _ = _
          simp only [Act.put, List.setIfInBounds_toArray, List.set_cons_zero, List.set_cons_succ, i64_w, i32_w]
          rfl
        refine done_ (by kernel_rfl) ?_
        go_wp2_with fail
        go_roundg (G.length - (i + 1))
        case measure => omega
        case rel => exact ⟨i + 1, by omega, by omega, by go_num, ⟨by have h := HB5.out; rw [HFT.out, ← List.append_assoc]; exact h, Fr.base HL.out.2.1 HBB.out HF5.out, HF5.out.read HL.out.2.2 HNE.out (by decide)⟩⟩
      · have hltz : ¬ (i : Int) < (G.length : Int) := by omega
        have he : G.take i = G := List.take_of_length_le (by omega)
        rw [he] at HL
        clear hlt he
        go_wp2_with fail
        go_meet
        exact HL
  case rest =>
    clear HP
    have HP := hcut
    clear hcut
    generalize wc = wk1 at *
    have hy1 : wk1.cell? ⟨gp, 1, none⟩ = some (.slice AA As.length cA) := (blk_cell HP.out.2.2 1).trans rfl
    go_upto_block 2 with fail
    go_cut [35] (fun sx wx => Aside0 (Pn w0 b gp #[.slice AG G.length cG, .slice AA As.length cA, .slice AM Ms.length cM, .slice AT Ts.length cT] (G.flatMap globF ++ As.flatMap arrF) wx))
    case first =>
      go_wp2_with fail
      go_loopg [35] As.length (fun gg sx wr => ∃ i : Nat, i ≤ As.length ∧ As.length - i ≤ gg ∧ sx = .int .i64 i ∧ Aside0 (Pn w0 b gp #[.slice AG G.length cG, .slice AA As.length cA, .slice AM Ms.length cM, .slice AT Ts.length cT] (G.flatMap globF ++ (As.take i).flatMap arrF) wr))
      case atStart => exact ⟨0, Nat.zero_le _, by omega, rfl, ⟨by have h := HP.out; simpa using h⟩⟩
      case round =>
        obtain ⟨i, hi, hgg, rfl, HL⟩ := hrel
        generalize wr = wo at *
        by_cases hlt : i < As.length
        · have hltz : (i : Int) < (As.length : Int) := by omega
          have HLT := Aside0.mk HL.out.1.1.lt
          obtain ⟨ad, rfl, p0, p1⟩ := at_T61 (Kd.C_below HCA.out HL.out.2.1) (i : Int) (by omega) hltz
          have hx : rd_T61 As (i : Int) = As[i] := by simp [rd_T61, hlt]
          rw [Int.toNat_natCast, hx] at p0 p1
          have HFT := Aside0.mk (fm_take arrF As i hlt)
          have HFL := Aside0.mk (fm_le arrF As (i + 1))
          have HR := Aside0.mk (HRA.out _ (List.getElem_mem hlt))
          obtain ⟨g, hg⟩ : ∃ g, As[i] = g := ⟨_, rfl⟩
          rw [hg] at p0 p1 HFT HR
          clear hx hg hlt
          go_upto_region 10 with (first | ((with_reducible refine gate_dst (N := 7) rfl ?_); refine box_event ?hg (N := 7) ?hd (cs := #[.string ⟨#[]⟩, .int .i64 0]) (t := 61) ?hr ?_; (case hd => rfl); (case hg => rfl); (case hr => first | (go_simp; done) | (go_simp; rfl)); intro ga hgg w1 hlit hb; have HZZ := Aside0.mk hlit; have HGA := Aside0.mk hgg; have HB1 := Aside0.mk hb; have p0 := pw_cell_below hb p0; have p1 := pw_cell_below hb p1; clear hlit hb hgg) | ((with_reducible refine gate_store (t := 61) (p := 7) rfl ?_); refine put_val ?hg ?hn 61 (.tmp 7) (.tmp 38) ?ho ga 61 _ (#[.string g.f0, .int .i64 g.f1]) (.agg #[.string g.f0, .int .i64 g.f1]) ?hp ?hx ?hu HZZ.out ?ht ?hs ?h1 ?_; (case hg => rfl); (case hn => rfl); (case ho => rfl); (case hp => rfl); (case hx => rfl); (case hu => rfl); (case ht => kernel_rfl); (case hs => rfl); (case h1 => exact one2 g.f0 g.f1); intro w2 hlit hg; have HGX := Aside0.mk hlit; have HBW := Aside0.mk (HB1.out.grown hg HB1.out.size (fun q hq => by injection hq with hq; rw [← hq, HGA.out]; exact Nat.le_refl _)); clear hlit hg))
          have hq0 : w2.cell? ⟨ga, 0, none⟩ = some (.string g.f0) := (blk_cell HGX.out 0).trans rfl
          have hq1 : w2.cell? ⟨ga, 1, none⟩ = some (.int .i64 g.f1) := (blk_cell HGX.out 1).trans rfl
          refine start_ (n := 8) (S := fun w' => w'.cell? ⟨ga, 0, none⟩ = some (.string g.f0) ∧ w'.cell? ⟨ga, 1, none⟩ = some (.int .i64 g.f1) ∧ Aside0 (Below wo.heap.size wo w')) (ds := [7]) #[false, false, false, false, false, false, false, false] (by kernel_rfl) rfl rfl ⟨hq0, hq1, ⟨below_drew HBW.out⟩⟩ (fun hHeld => ?_)
          refine pure_ (i := 0) (N := some 39) (v := ?_) (a' := ?_) #[true, false, false, false, false, false, false, false] rfl rfl (by kernel_rfl) (fun _ _ _ h => h) (Or.inl ⟨by rfl, ?_⟩) ?_ ?_
          rotate_left
          · intro w'
            go_simp
            with_reducible rfl
          rotate_left
          · simp only [Act.put, List.setIfInBounds_toArray, List.set_cons_zero, List.set_cons_succ, i64_w, i32_w]
            rfl
          refine pure_ (i := 1) (N := some 40) (v := ?_) (a' := ?_) #[true, true, false, false, false, false, false, false] rfl rfl (by kernel_rfl) (fun _ _ _ h => h) (Or.inl ⟨by rfl, ?_⟩) ?_ ?_
          rotate_left
          · intro w'
            go_simp
            with_reducible rfl
          rotate_left
          · simp only [Act.put, List.setIfInBounds_toArray, List.set_cons_zero, List.set_cons_succ, i64_w, i32_w]
            rfl
          refine pure_ (i := 3) (N := some 42) (v := ?_) (a' := ?_) #[true, true, false, true, false, false, false, false] rfl rfl (by kernel_rfl) (fun _ _ _ h => h) (Or.inl ⟨by rfl, ?_⟩) ?_ ?_
          rotate_left
          · intro w'
            go_simp
            with_reducible rfl
          rotate_left
          · simp only [Act.put, List.setIfInBounds_toArray, List.set_cons_zero, List.set_cons_succ, i64_w, i32_w]
            rfl
          refine take_ (i := 2) (N := some 41) (v := ?_) (a' := ?_) #[true, true, true, true, false, false, false, false] rfl rfl (by kernel_rfl) (fun _ _ _ h => h) (Or.inl ⟨by rfl, ?_⟩) hHeld ?_ ?_
          rotate_left
          · rintro w' ⟨s0, s1, s2⟩
            go_simp
            with_reducible rfl
          rotate_left
          · simp only [Act.put, List.setIfInBounds_toArray, List.set_cons_zero, List.set_cons_succ, i64_w, i32_w]
            rfl
          refine take_ (i := 4) (N := some 43) (v := ?_) (a' := ?_) #[true, true, true, true, true, false, false, false] rfl rfl (by kernel_rfl) (fun _ _ _ h => h) (Or.inl ⟨by rfl, ?_⟩) hHeld ?_ ?_
          rotate_left
          · rintro w' ⟨s0, s1, s2⟩
            go_simp
            with_reducible rfl
          rotate_left
          · simp only [Act.put, List.setIfInBounds_toArray, List.set_cons_zero, List.set_cons_succ, i64_w, i32_w]
            rfl
          refine one_ (i := 5) (N := some 44) #[true, true, true, true, true, true, false, false] rfl rfl (by kernel_rfl) (by decide) (fun K hK => ?_)
          refine goes_ Tryd.func24 (by kernel_rfl) rfl #[.int .i64 g.f1] (by rfl) rfl rfl (by simp only [List.map_toArray, List.map_cons, List.map_nil, Act.eval]; rfl) ?_
          refine (itoa_calls g.f1 HR.out.1 HR.out.2 _ (tab_on HTB.out (below_then HL.out.2.1 HL.out.2.1.size hHeld.2.2.out))).mono ?_
          rintro e1 w3 ⟨rfl, hb⟩
          refine ⟨_, rfl, ?_⟩
          refine hK.out _ _ ⟨pw_cell_below hb hHeld.1, pw_cell_below hb hHeld.2.1, ⟨below_then hHeld.2.2.out hHeld.2.2.out.size hb⟩⟩ (fun hHeld => ?_)
          clear hK K
          refine norm_ (a' := ?_) ?_ ?_
          rotate_left
          · show Act.put _ (some 44) _ = _
            simp only [Act.put, List.setIfInBounds_toArray, List.set_cons_zero, List.set_cons_succ, i64_w, i32_w]
            rfl
          refine one_ (i := 6) (N := some 45) #[true, true, true, true, true, true, true, false] rfl rfl (by kernel_rfl) (by decide) (fun K hK => ?_)
          refine lit_step (n := 5) (by rfl) (N := 45) rfl (cs := #[.string (⟨#[97, 114, 114, 97, 121, 32]⟩ : ByteArray), .string g.f0, .string (⟨#[91]⟩ : ByteArray), .string (itoaB g.f1), .string (⟨#[93, 59]⟩ : ByteArray)]) (t := 9) ?hr ?_
          case hr => first | (go_simp; done) | (go_simp; rfl)
          intro g2 hgg w4 hlit hb
          have HS := Aside0.mk (show w4.heap[g2]? = some (.cells (strV [(⟨#[97, 114, 114, 97, 121, 32]⟩ : ByteArray), g.f0, (⟨#[91]⟩ : ByteArray), itoaB g.f1, (⟨#[93, 59]⟩ : ByteArray)]) 9 (0, 0)) from hlit)
          have HN := Aside0.mk (show g2 ≠ b by rw [hgg]; exact Nat.ne_of_gt (Nat.lt_of_lt_of_le HLT.out hHeld.2.2.out.size))
          refine hK.out _ _ ⟨pw_cell_below hb hHeld.1, pw_cell_below hb hHeld.2.1, ⟨below_then hHeld.2.2.out hHeld.2.2.out.size hb⟩⟩ (fun hHeld => ?_)
          clear hK K
          refine norm_ (a' := ?_) ?_ ?_
          rotate_left
          · show Act.put _ (some 45) _ = _
            simp only [Act.put, List.setIfInBounds_toArray, List.set_cons_zero, List.set_cons_succ, i64_w, i32_w]
            rfl
          refine last_ (i := 7) (N := some 46) #[true, true, true, true, true, true, true, true] rfl rfl (by kernel_rfl) (by decide) (fun K hK => ?_)
          refine goes_ Tryd.func23 (by kernel_rfl) rfl #[.pointer (some ⟨b, 0, none⟩), .slice (some ⟨g2, 0, none⟩) 5 5] (by rfl) rfl rfl (by simp only [List.map_toArray, List.map_cons, List.map_nil, Act.eval]; rfl) ?_
          refine (line_calls b (G.flatMap globF ++ (As.take i).flatMap arrF) [(⟨#[97, 114, 114, 97, 121, 32]⟩ : ByteArray), g.f0, (⟨#[91]⟩ : ByteArray), itoaB g.f1, (⟨#[93, 59]⟩ : ByteArray)] g2 _ (HL.out.1.1.below hHeld.2.2.out) HS.out HN.out (by simp) (by have h := HSZ.out; have h2 := HFL.out; rw [HFT.out] at h2; simp only [printF, globF, arrF, mutF, locF, thrF, List.length_append, List.length_cons, List.length_nil] at h h2 ⊢; omega)).mono ?_
          rintro e1 w5 ⟨rfl, hb, hf⟩
          have HB5 := Aside0.mk (BuN.line hb)
          have HF5 := Aside0.mk ((Fr.of (Nat.le_of_lt HLT.out) hHeld.2.2.out).trans hf)
          refine ⟨_, rfl, ?_⟩
          refine hK.out _ _ ?_
          clear hK K
          refine norm_ (a' := ?_) ?_ ?_
          rotate_left
          · show Act.put _ (some 46) _ = _
            simp only [Act.put, List.setIfInBounds_toArray, List.set_cons_zero, List.set_cons_succ, i64_w, i32_w]
            rfl
          refine done_ (by kernel_rfl) ?_
          go_wp2_with fail
          go_roundg (As.length - (i + 1))
          case measure => omega
          case rel => exact ⟨i + 1, by omega, by omega, by go_num, ⟨by have h := HB5.out; rw [HFT.out, ← List.append_assoc]; exact h, Fr.base HL.out.2.1 HBB.out HF5.out, HF5.out.read HL.out.2.2 HNE.out (by decide)⟩⟩
        · have hltz : ¬ (i : Int) < (As.length : Int) := by omega
          have he : As.take i = As := List.take_of_length_le (by omega)
          rw [he] at HL
          clear hlt he
          go_wp2_with fail
          go_meet
          exact HL
    case rest =>
      clear HP
      have HP := hcut
      clear hcut
      generalize wc = wk2 at *
      have hy2 : wk2.cell? ⟨gp, 2, none⟩ = some (.slice AM Ms.length cM) := (blk_cell HP.out.2.2 2).trans rfl
      go_upto_block 4 with fail
      go_cut [51] (fun sx wx => Aside0 (Pn w0 b gp #[.slice AG G.length cG, .slice AA As.length cA, .slice AM Ms.length cM, .slice AT Ts.length cT] ((G.flatMap globF ++ As.flatMap arrF) ++ Ms.flatMap mutF) wx))
      case first =>
        go_wp2_with fail
        go_loopg [51] Ms.length (fun gg sx wr => ∃ i : Nat, i ≤ Ms.length ∧ Ms.length - i ≤ gg ∧ sx = .int .i64 i ∧ Aside0 (Pn w0 b gp #[.slice AG G.length cG, .slice AA As.length cA, .slice AM Ms.length cM, .slice AT Ts.length cT] (G.flatMap globF ++ As.flatMap arrF ++ (Ms.take i).flatMap mutF) wr))
        case atStart => exact ⟨0, Nat.zero_le _, by omega, rfl, ⟨by have h := HP.out; simpa using h⟩⟩
        case round =>
          obtain ⟨i, hi, hgg, rfl, HL⟩ := hrel
          generalize wr = wo at *
          by_cases hlt : i < Ms.length
          · have hltz : (i : Int) < (Ms.length : Int) := by omega
            have HLT := Aside0.mk HL.out.1.1.lt
            obtain ⟨ad, rfl, p0⟩ := Kd.at_string (Kd.C_below HCM.out HL.out.2.1) (i : Int) (by omega) hltz
            have hx : rdOf ByteArray.empty Ms (i : Int) = Ms[i] := by simp [rdOf, hlt]
            rw [Int.toNat_natCast, hx] at p0
            have HFT := Aside0.mk (fm_take mutF Ms i hlt)
            have HFL := Aside0.mk (fm_le mutF Ms (i + 1))
            obtain ⟨m, hg⟩ : ∃ m, Ms[i] = m := ⟨_, rfl⟩
            rw [hg] at p0 HFT
            clear hx hg hlt
            go_wp2_with (first | ((with_reducible refine gate_dst (N := 57) rfl ?_); refine lit_ev2 (n := 3) ?hg (N := 57) ?hd (cs := #[.string (⟨#[109, 117, 116, 101, 120, 32]⟩ : ByteArray), .string m, .string (⟨#[59]⟩ : ByteArray)]) (t := 9) ?hr ?_; (case hd => rfl); (case hg => rfl); (case hr => first | (go_simp; done) | (go_simp; rfl)); intro g2 hgg w2 hlit hb; have HS2 := Aside0.mk (show w2.heap[g2]? = some (.cells (strV [(⟨#[109, 117, 116, 101, 120, 32]⟩ : ByteArray), m, (⟨#[59]⟩ : ByteArray)]) 9 (0, 0)) from hlit); have HK2 := Aside0.mk hb; have HN2 := Aside0.mk hgg; clear hlit hb hgg))
            refine (line_calls b (G.flatMap globF ++ As.flatMap arrF ++ (Ms.take i).flatMap mutF) [(⟨#[109, 117, 116, 101, 120, 32]⟩ : ByteArray), m, (⟨#[59]⟩ : ByteArray)] g2 w2 (HL.out.1.1.below HK2.out) HS2.out (by rw [HN2.out]; exact Nat.ne_of_gt HLT.out) (by simp) (by have h := HSZ.out; have h2 := HFL.out; rw [HFT.out] at h2; simp only [printF, globF, arrF, mutF, locF, thrF, List.length_append, List.length_cons, List.length_nil] at h h2 ⊢; omega)).mono ?_
            rintro e1 w5 ⟨rfl, hb, hf⟩
            have HB5 := Aside0.mk (BuN.line hb)
            have HF5 := Aside0.mk ((Fr.of (Nat.le_of_lt HLT.out) HK2.out).trans hf)
            clear hb hf
            go_wp2_with fail
            go_roundg (Ms.length - (i + 1))
            case measure => omega
            case rel => exact ⟨i + 1, by omega, by omega, by go_num, ⟨by have h := HB5.out; rw [HFT.out, ← List.append_assoc]; exact h, Fr.base HL.out.2.1 HBB.out HF5.out, HF5.out.read HL.out.2.2 HNE.out (by decide)⟩⟩
          · have hltz : ¬ (i : Int) < (Ms.length : Int) := by omega
            have he : Ms.take i = Ms := List.take_of_length_le (by omega)
            rw [he] at HL
            clear hlt he
            go_wp2_with fail
            go_meet
            exact HL
      case rest =>
        clear HP
        have HP := hcut
        clear hcut
        generalize wc = wk3 at *
        have hy3 : wk3.cell? ⟨gp, 3, none⟩ = some (.slice AT Ts.length cT) := (blk_cell HP.out.2.2 3).trans rfl
        go_upto_block 6 with fail
        go_cut [63] (fun sx wx => Aside0 (Pn w0 b gp #[.slice AG G.length cG, .slice AA As.length cA, .slice AM Ms.length cM, .slice AT Ts.length cT] (((G.flatMap globF ++ As.flatMap arrF) ++ Ms.flatMap mutF) ++ Ts.flatMap thrF) wx))
        case first =>
          go_wp2_with fail
          go_loopg [63] Ts.length (fun gg sx wr => ∃ i : Nat, i ≤ Ts.length ∧ Ts.length - i ≤ gg ∧ sx = .int .i64 i ∧ Aside0 (Pn w0 b gp #[.slice AG G.length cG, .slice AA As.length cA, .slice AM Ms.length cM, .slice AT Ts.length cT] (((G.flatMap globF ++ As.flatMap arrF) ++ Ms.flatMap mutF) ++ (Ts.take i).flatMap thrF) wr))
          case atStart => exact ⟨0, Nat.zero_le _, by omega, rfl, ⟨by have h := HP.out; simpa using h⟩⟩
          case round =>
            obtain ⟨i, hi, hgg, rfl, HL⟩ := hrel
            generalize wr = wo at *
            by_cases hlt : i < Ts.length
            · have hltz : (i : Int) < (Ts.length : Int) := by omega
              have HLT := Aside0.mk HL.out.1.1.lt
              obtain ⟨ad, cc, rfl, _, hK, hc0⟩ := Kd.C_get HCT.out z52 (i : Int) (by omega) hltz
              have hx : Ts.getD (i : Int).toNat z52 = Ts[i] := by simp [hlt]
              rw [hx] at hK
              have hc1 : ∀ j v, cc[j]? = some v → wo.cell? ((ad.add (i * 3)).add j) = some v := fun j v hj => by
                have h := hc0 j v hj
                rw [Int.toNat_natCast] at h
                rw [add_add_]
                exact pw_cell_below HL.out.2.1 h
              have HFT := Aside0.mk (fm_take thrF Ts i hlt)
              have HFL := Aside0.mk (fm_le thrF Ts (i + 1))
              have HR := Aside0.mk (HRT.out _ (List.getElem_mem hlt))
              obtain ⟨t, hg⟩ : ∃ t, Ts[i] = t := ⟨_, rfl⟩
              rw [hg] at hK HFT HR
              obtain ⟨K1, d1, K2, d2, rfl, l1, g1, l2, g2⟩ := k52_open hK
              have HC1 := Aside0.mk g1
              have HC2 := Aside0.mk g2
              have hl1 : t.f1.length ≤ 9223372036854775807 := g1.2.1
              have HCC := Aside0.mk hc1
              clear hc0 hc1 hK hx hg hlt g1 g2 l1 l2
              go_wp2_with (first | ((with_reducible refine gate_dst (N := 66) rfl ?_); refine load_any ?hg 52 (.tmp 65) ?ho (ad.add (i * 3)) ?hx [.string t.f0, .slice K1 t.f1.length d1, .slice K2 t.f2.length d2] _ Tryd.underlying52 ?hd ?hi HCC.out ?_; (case hg => rfl); (case ho => rfl); (case hx => rfl); (case hd => rfl); (case hi => kernel_rfl)) | ((with_reducible refine gate_dst (N := 11) rfl ?_); refine box_event ?hg (N := 11) ?hd (cs := #[.string ⟨#[]⟩, .slice none 0 0, .slice none 0 0]) (t := 52) ?hr ?_; (case hd => rfl); (case hg => rfl); (case hr => first | (go_simp; done) | (go_simp; rfl)); intro ga hgg w1 hlit hb; have HZZ := Aside0.mk hlit; have HGA := Aside0.mk hgg; have HB1 := Aside0.mk hb; clear hlit hb hgg) | ((with_reducible refine gate_store (t := 52) (p := 11) rfl ?_); refine put_val ?hg ?hn 52 (.tmp 11) (.tmp 66) ?ho ga 52 _ (#[.string t.f0, .slice K1 t.f1.length d1, .slice K2 t.f2.length d2]) (.agg #[.string t.f0, .slice K1 t.f1.length d1, .slice K2 t.f2.length d2]) ?hp ?hx ?hu HZZ.out ?ht ?hs ?h1 ?_; (case hg => rfl); (case hn => rfl); (case ho => rfl); (case hp => rfl); (case hx => rfl); (case hu => rfl); (case ht => kernel_rfl); (case hs => rfl); (case h1 => exact one3 t.f0 K1 K2 _ _ _ _); intro w2 hlit hg; have HGX := Aside0.mk hlit; have HBW := Aside0.mk (HB1.out.grown hg HB1.out.size (fun q hq => by injection hq with hq; rw [← hq, HGA.out]; exact Nat.le_refl _)); have hz0 : w2.cell? ⟨ga, 0, none⟩ = some (.string t.f0) := (blk_cell hlit 0).trans rfl; clear hlit hg) | ((with_reducible refine gate_dst (N := 70) rfl ?_); refine lit_ev2 (n := 3) ?hg (N := 70) ?hd (cs := #[.string (⟨#[116, 104, 114, 101, 97, 100, 32]⟩ : ByteArray), .string t.f0, .string (⟨#[32, 123]⟩ : ByteArray)]) (t := 9) ?hr ?_; (case hd => rfl); (case hg => rfl); (case hr => first | (go_simp; done) | (go_simp; rfl)); intro g3 hgg w3 hlit hb; have HS3 := Aside0.mk (show w3.heap[g3]? = some (.cells (strV [(⟨#[116, 104, 114, 101, 97, 100, 32]⟩ : ByteArray), t.f0, (⟨#[32, 123]⟩ : ByteArray)]) 9 (0, 0)) from hlit); have HK3 := Aside0.mk hb; have HN3 := Aside0.mk hgg; clear hlit hb hgg))
              have HF0 := Aside0.mk (Fr.of (Nat.le_of_lt HLT.out) (below_then HBW.out HBW.out.size HK3.out))
              refine (line_calls b (((G.flatMap globF ++ As.flatMap arrF) ++ Ms.flatMap mutF) ++ (Ts.take i).flatMap thrF) [(⟨#[116, 104, 114, 101, 97, 100, 32]⟩ : ByteArray), t.f0, (⟨#[32, 123]⟩ : ByteArray)] g3 w3 ((HL.out.1.1.below HBW.out).below HK3.out) HS3.out (by rw [HN3.out]; exact Nat.ne_of_gt (Nat.lt_of_lt_of_le HLT.out HBW.out.size)) (by simp) (by have h := HSZ.out; have h2 := HFL.out; rw [HFT.out] at h2; simp only [printF, globF, arrF, mutF, locF, thrF, List.length_append, List.length_cons, List.length_nil] at h h2 ⊢; omega)).mono ?_
              rintro e1 w4 ⟨rfl, hb, hf⟩
              have HB4 := Aside0.mk (BuN.line hb)
              have HF4 := Aside0.mk (HF0.out.trans hf)
              have HNA := Aside0.mk (show ga ≠ b by rw [HGA.out]; exact Nat.ne_of_gt HLT.out)
              have HA4 := Aside0.mk (hf.read (below_read HK3.out HGX.out) HNA.out (by decide))
              have hz1 : w4.cell? ⟨ga, 1, none⟩ = some (.slice K1 t.f1.length d1) := (blk_cell HA4.out 1).trans rfl
              clear hb hf
              go_wp2_with fail
              go_loopg [75] t.f1.length (fun gg sx wr => ∃ k : Nat, k ≤ t.f1.length ∧ t.f1.length - k ≤ gg ∧ sx = .int .i64 k ∧ Aside0 (BuN b (((((G.flatMap globF ++ As.flatMap arrF) ++ Ms.flatMap mutF) ++ (Ts.take i).flatMap thrF) ++ lineL [(⟨#[116, 104, 114, 101, 97, 100, 32]⟩ : ByteArray), t.f0, (⟨#[32, 123]⟩ : ByteArray)]) ++ (t.f1.take k).flatMap locF) wr ∧ Fr b wo wr ∧ wr.heap[ga]? = some (.cells #[.string t.f0, .slice K1 t.f1.length d1, .slice K2 t.f2.length d2] 52 (0, 0))))
              case atStart => exact ⟨0, Nat.zero_le _, by omega, rfl, ⟨by have h := HB4.out; simpa using h, HF4.out, HA4.out⟩⟩
              case round =>
                clear hz1
                obtain ⟨k, hk, hkg, rfl, HM⟩ := hrel
                generalize wr = wq at *
                have HLM := Aside0.mk HM.out.1.1.lt
                have HWM := Aside0.mk (Fr.base HL.out.2.1 HBB.out HM.out.2.1)
                by_cases hlt : k < t.f1.length
                · have hltz : (k : Int) < (t.f1.length : Int) := by omega
                  obtain ⟨ad2, rfl, p0⟩ := Kd.at_string (Kd.C_below HC1.out HWM.out) (k : Int) (by omega) hltz
                  have hx : rdOf ByteArray.empty t.f1 (k : Int) = t.f1[k] := by simp [rdOf, hlt]
                  rw [Int.toNat_natCast, hx] at p0
                  have HGT := Aside0.mk (fm_take locF t.f1 k hlt)
                  have HGL := Aside0.mk (fm_le locF t.f1 (k + 1))
                  obtain ⟨m, hg⟩ : ∃ m, t.f1[k] = m := ⟨_, rfl⟩
                  rw [hg] at p0 HGT
                  clear hx hg hlt
                  go_wp2_with (first | ((with_reducible refine gate_dst (N := 81) rfl ?_); refine lit_ev2 (n := 3) ?hg (N := 81) ?hd (cs := #[.string (⟨#[108, 111, 99, 97, 108, 32]⟩ : ByteArray), .string m, .string (⟨#[59]⟩ : ByteArray)]) (t := 9) ?hr ?_; (case hd => rfl); (case hg => rfl); (case hr => first | (go_simp; done) | (go_simp; rfl)); intro g5 hgg w5 hlit hb; have HS5 := Aside0.mk (show w5.heap[g5]? = some (.cells (strV [(⟨#[108, 111, 99, 97, 108, 32]⟩ : ByteArray), m, (⟨#[59]⟩ : ByteArray)]) 9 (0, 0)) from hlit); have HK5 := Aside0.mk hb; have HN5 := Aside0.mk hgg; clear hlit hb hgg))
                  refine (line_calls b (((((G.flatMap globF ++ As.flatMap arrF) ++ Ms.flatMap mutF) ++ (Ts.take i).flatMap thrF) ++ lineL [(⟨#[116, 104, 114, 101, 97, 100, 32]⟩ : ByteArray), t.f0, (⟨#[32, 123]⟩ : ByteArray)]) ++ (t.f1.take k).flatMap locF) [(⟨#[108, 111, 99, 97, 108, 32]⟩ : ByteArray), m, (⟨#[59]⟩ : ByteArray)] g5 w5 (HM.out.1.1.below HK5.out) HS5.out (by rw [HN5.out]; exact Nat.ne_of_gt HLM.out) (by simp) (by have h := HSZ.out; have h2 := HFL.out; have h3 := HGL.out; rw [HFT.out] at h2; rw [HGT.out] at h3; simp only [printF, globF, arrF, mutF, locF, thrF, List.length_append, List.length_cons, List.length_nil] at h h2 h3 ⊢; omega)).mono ?_
                  rintro e1 w6 ⟨rfl, hb, hf⟩
                  have HB6 := Aside0.mk (BuN.line hb)
                  have HF6 := Aside0.mk (HM.out.2.1.trans ((Fr.of (Nat.le_of_lt HLM.out) HK5.out).trans hf))
                  have HA6 := Aside0.mk (hf.read (below_read HK5.out HM.out.2.2) HNA.out (by decide))
                  clear hb hf
                  go_wp2_with fail
                  go_roundg (t.f1.length - (k + 1))
                  case measure => omega
                  case rel => exact ⟨k + 1, by omega, by omega, by go_num, ⟨by have h := HB6.out; rw [HGT.out, ← List.append_assoc]; exact h, HF6.out, HA6.out⟩⟩
                · have hltz2 : ¬ (k : Int) < (t.f1.length : Int) := by omega
                  have he : t.f1.take k = t.f1 := List.take_of_length_le (by omega)
                  rw [he] at HM
                  have hz2 : wq.cell? ⟨ga, 2, none⟩ = some (.slice K2 t.f2.length d2) := (blk_cell HM.out.2.2 2).trans rfl
                  clear hlt he
                  go_wp2_with fail
                  refine (stmts_calls w0 (SizeOf.sizeOf t.f2) (stmt_calls w0 _) t.f2 (fun x hx => Nat.le_of_lt (List.sizeOf_lt_of_mem hx)) HR.out K2 d2 HC2.out b _ wq ⟨HM.out.1.1, HWM.out, HBB.out, HTB.out, (by have h := HSZ.out; have h2 := HFL.out; rw [HFT.out] at h2; simp only [printF, globF, arrF, mutF, locF, thrF, List.length_append, List.length_cons, List.length_nil] at h h2 ⊢; omega)⟩).mono ?_
                  rintro e1 w7 ⟨rfl, hb, hf⟩
                  have HB7 := Aside0.mk hb
                  have HF7 := Aside0.mk (HM.out.2.1.trans hf)
                  have HL7 := Aside0.mk hb.lt
                  clear hb hf
                  go_wp2_with (first | ((with_reducible refine gate_dst (N := 89) rfl ?_); refine lit_ev2 (n := 1) ?hg (N := 89) ?hd (cs := #[.string (⟨#[125]⟩ : ByteArray)]) (t := 9) ?hr ?_; (case hd => rfl); (case hg => rfl); (case hr => first | (go_simp; done) | (go_simp; rfl)); intro g8 hgg w8 hlit hb; have HS8 := Aside0.mk (show w8.heap[g8]? = some (.cells (strV [(⟨#[125]⟩ : ByteArray)]) 9 (0, 0)) from hlit); have HK8 := Aside0.mk hb; have HN8 := Aside0.mk hgg; clear hlit hb hgg))
                  refine (line_calls b _ [(⟨#[125]⟩ : ByteArray)] g8 w8 (HB7.out.below HK8.out) HS8.out (by rw [HN8.out]; exact Nat.ne_of_gt HL7.out) (by simp) (by have h := HSZ.out; have h2 := HFL.out; rw [HFT.out] at h2; simp only [printF, globF, arrF, mutF, locF, thrF, List.length_append, List.length_cons, List.length_nil] at h h2 ⊢; omega)).mono ?_
                  rintro e1 w9 ⟨rfl, hb, hf⟩
                  have HB9 := Aside0.mk (BuN.line hb)
                  have HF9 := Aside0.mk (HF7.out.trans ((Fr.of (Nat.le_of_lt HL7.out) HK8.out).trans hf))
                  clear hb hf
                  go_wp2_with fail
                  go_roundg (Ts.length - (i + 1))
                  case measure => omega
                  case rel => exact ⟨i + 1, by omega, by omega, by go_num, ⟨by have h := HB9.out; rw [HFT.out, thrF_eq]; simp only [List.append_assoc] at h ⊢; exact h, Fr.base HL.out.2.1 HBB.out HF9.out, HF9.out.read HL.out.2.2 HNE.out (by decide)⟩⟩
            · have hltz : ¬ (i : Int) < (Ts.length : Int) := by omega
              have he : Ts.take i = Ts := List.take_of_length_le (by omega)
              rw [he] at HL
              clear hlt he
              go_wp2_with fail
              go_meet
              exact HL
        case rest =>
          clear HP
          have HP := hcut
          clear hcut
          generalize wc = wk4 at *
          have e : ((G.flatMap globF ++ As.flatMap arrF) ++ Ms.flatMap mutF) ++ Ts.flatMap thrF = printF G As Ms Ts := by simp only [printF, List.append_assoc]
          rw [e] at HP
          clear e
          go_wp2_with fail
          refine (BuN.string HP.out.1).mono ?_
          rintro e1 wz ⟨rfl, hb⟩
          have HBZ := Aside0.mk hb
          clear hb
          go_wp2_with fail
          go_ret
          exact ⟨rfl, HP.out.2.1.trans ⟨HBZ.out.os, HBZ.out.tape, HBZ.out.output, HBZ.out.size, fun k hk => HBZ.out.block k (Nat.lt_of_lt_of_le hk HBB.out)⟩⟩
end Go.Proofs.YtfeaekdhpkdljaaDoor.Sh
