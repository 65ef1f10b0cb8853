/- meddlerref6.Print: it answers what show.Print answers. -/
import Derived.Test.YtfeaekdhpkdljaaDoorShRefS
import Derived.Test.YtfeaekdhpkdljaaDoorShPrint
namespace Go.Proofs.YtfeaekdhpkdljaaDoor.Sh
open Go.RowKit Go.Proofs.YtfeaekdhpkdljaaDoorW.PrintWords Go.Proofs.YtfeaekdhpkdljaaDoorW.PrintLast
set_option linter.unusedVariables false
set_option linter.unusedSimpArgs false
theorem tx_glob (l : List UInt8) (g : S59) : (((((tx l ++ (⟨#[103, 108, 111, 98, 97, 108, 32]⟩ : ByteArray)) ++ g.f0) ++ (⟨#[32, 61, 32]⟩ : ByteArray)) ++ itoaB g.f1) ++ (⟨#[59, 10]⟩ : ByteArray)) = tx (l ++ globF g) := by
  refine (ba_of _ ?_).symm
  simp only [globF, arrF, mutF, locF, by_app, by_lit, lineL, catL, List.flatMap_cons, List.flatMap_nil, List.append_assoc, List.cons_append, List.nil_append, List.append_nil]
theorem tx_arr (l : List UInt8) (g : S61) : (((((tx l ++ (⟨#[97, 114, 114, 97, 121, 32]⟩ : ByteArray)) ++ g.f0) ++ (⟨#[91]⟩ : ByteArray)) ++ itoaB g.f1) ++ (⟨#[93, 59, 10]⟩ : ByteArray)) = tx (l ++ arrF g) := by
  refine (ba_of _ ?_).symm
  simp only [globF, arrF, mutF, locF, by_app, by_lit, lineL, catL, List.flatMap_cons, List.flatMap_nil, List.append_assoc, List.cons_append, List.nil_append, List.append_nil]
theorem tx_mut (l : List UInt8) (m : ByteArray) : (((tx l ++ (⟨#[109, 117, 116, 101, 120, 32]⟩ : ByteArray)) ++ m) ++ (⟨#[59, 10]⟩ : ByteArray)) = tx (l ++ mutF m) := by
  refine (ba_of _ ?_).symm
  simp only [globF, arrF, mutF, locF, by_app, by_lit, lineL, catL, List.flatMap_cons, List.flatMap_nil, List.append_assoc, List.cons_append, List.nil_append, List.append_nil]
theorem tx_loc (l : List UInt8) (m : ByteArray) : (((tx l ++ (⟨#[108, 111, 99, 97, 108, 32]⟩ : ByteArray)) ++ m) ++ (⟨#[59, 10]⟩ : ByteArray)) = tx (l ++ locF m) := by
  refine (ba_of _ ?_).symm
  simp only [globF, arrF, mutF, locF, by_app, by_lit, lineL, catL, List.flatMap_cons, List.flatMap_nil, List.append_assoc, List.cons_append, List.nil_append, List.append_nil]
theorem tx_hdr (l : List UInt8) (t : S52) : (((tx l ++ (⟨#[116, 104, 114, 101, 97, 100, 32]⟩ : ByteArray)) ++ t.f0) ++ (⟨#[32, 123, 10]⟩ : ByteArray)) = tx (l ++ lineL [(⟨#[116, 104, 114, 101, 97, 100, 32]⟩ : ByteArray), t.f0, (⟨#[32, 123]⟩ : ByteArray)]) := by
  refine (ba_of _ ?_).symm
  simp only [globF, arrF, mutF, locF, by_app, by_lit, lineL, catL, List.flatMap_cons, List.flatMap_nil, List.append_assoc, List.cons_append, List.nil_append, List.append_nil]
theorem tx_end (l : List UInt8) (b : List UInt8) : ((tx l ++ tx b) ++ (⟨#[125, 10]⟩ : ByteArray)) = tx (l ++ (b ++ lineL [(⟨#[125]⟩ : ByteArray)])) := by
  refine (ba_of _ ?_).symm
  simp only [globF, arrF, mutF, locF, by_app, by_lit, lineL, catL, List.flatMap_cons, List.flatMap_nil, List.append_assoc, List.cons_append, List.nil_append, List.append_nil]
/-- What stands all through Print. -/
def Pr (w0 : World) (gp : Nat) (pc : Array Value) (w : World) : Prop := Below w0.heap.size w0 w ∧ w.heap[gp]? = some (.cells pc 27 (0, 0))
theorem Pr.on {w0 w w' : World} {gp : Nat} {pc : Array Value} (h : Pr w0 gp pc w) (hb : Below w.heap.size w w') : Pr w0 gp pc w' := ⟨below_then h.1 h.1.size hb, (hb.block gp (blk_lt h.2)).trans h.2⟩
set_option maxHeartbeats 8000000 in
set_option maxRecDepth 100000 in
theorem rprint_calls (w0 : World) (G : List S59) (As : List S61) (Ms : List ByteArray) (Ts : List S52) (AG AA AM AT : Option Addr) (cG cA cM cT : Nat) (hG : k59.C w0 AG G.length G) (hA : k61.C w0 AA As.length As) (hM : Kd.string.C w0 AM Ms.length Ms) (hT : k52.C w0 AT Ts.length Ts)
    (rG : ∀ g ∈ G, -9223372036854775808 ≤ g.f1 ∧ g.f1 ≤ 9223372036854775807) (rA : ∀ g ∈ As, -9223372036854775808 ≤ g.f1 ∧ g.f1 ≤ 9223372036854775807) (rT : ∀ t ∈ Ts, ∀ s ∈ t.f2, okSt (SizeOf.sizeOf t.f2) s) (hsz : (printF G As Ms Ts).length ≤ 140737488355328) :
    Calls Tryd.prog 12 #[.agg #[.slice AG G.length cG, .slice AA As.length cA, .slice AM Ms.length cM, .slice AT Ts.length cT]] w0 fun e w' => e = .returned (.string ⟨(printF G As Ms Ts).toArray⟩) ∧ Below w0.heap.size w0 w' := by
  have HCG := Aside0.mk hG
  have HCA := Aside0.mk hA
  have HCM := Aside0.mk hM
  have HCT := Aside0.mk hT
  have HRG := Aside0.mk rG
  have HRA := Aside0.mk rA
  have HRT := Aside0.mk rT
  have HSZ := Aside0.mk hsz
  have hlG : G.length ≤ 9223372036854775807 := hG.2.1
  have hlA : As.length ≤ 9223372036854775807 := hA.2.1
  have hlM : Ms.length ≤ 9223372036854775807 := hM.2.1
  have hlT : Ts.length ≤ 9223372036854775807 := hT.2.1
  clear hG hA hM hT rG rA rT hsz
  go_enter Tryd.func12, Tryd.ntmps12
  go_upto_block 0 with (first | ((with_reducible refine gate_dst (N := 1) rfl ?_); refine box_event ?hg (N := 1) ?hd (cs := #[.slice AG G.length cG, .slice AA As.length cA, .slice AM Ms.length cM, .slice AT Ts.length cT]) (t := 27) ?hr ?_; (case hd => rfl); (case hg => rfl); (case hr => first | (go_simp; done) | (go_simp; rfl)); intro gp hgg wa hlit hb; have HP := Aside0.mk (show Pr w0 gp #[.slice AG G.length cG, .slice AA As.length cA, .slice AM Ms.length cM, .slice AT Ts.length cT] wa from ⟨hb, hlit⟩); have hy0 : wa.cell? ⟨gp, 0, none⟩ = some (.slice AG G.length cG) := (blk_cell hlit 0).trans rfl; have hy1 : wa.cell? ⟨gp, 1, none⟩ = some (.slice AA As.length cA) := (blk_cell hlit 1).trans rfl; have hy2 : wa.cell? ⟨gp, 2, none⟩ = some (.slice AM Ms.length cM) := (blk_cell hlit 2).trans rfl; have hy3 : wa.cell? ⟨gp, 3, none⟩ = some (.slice AT Ts.length cT) := (blk_cell hlit 3).trans rfl; clear hlit hb hgg))
  go_cut [3, 4] (fun s3 sx wx => s3 = .string (tx (G.flatMap globF)) ∧ Aside0 (Pr w0 gp #[.slice AG G.length cG, .slice AA As.length cA, .slice AM Ms.length cM, .slice AT Ts.length cT] wx))
  case first =>
    go_wp2_with fail
    go_loopg [3, 4] G.length (fun gg s3 sx wr => ∃ i : Nat, i ≤ G.length ∧ G.length - i ≤ gg ∧ sx = .int .i64 i ∧ s3 = .string (tx ([] ++ (G.take i).flatMap globF)) ∧ Aside0 (Pr w0 gp #[.slice AG G.length cG, .slice AA As.length cA, .slice AM Ms.length cM, .slice AT Ts.length cT] wr))
    case atStart => exact ⟨0, Nat.zero_le _, by omega, rfl, by simp, HP⟩
    case round =>
      obtain ⟨i, hi, hgg, rfl, rfl, HL⟩ := hrel
      generalize wr = wo at *
      have hcp : wo.cell? ⟨gp, 0, none⟩ = some (.slice AG G.length cG) := (blk_cell HL.out.2 0).trans rfl
      by_cases hlt : i < G.length
      · have hltz : (i : Int) < (G.length : Int) := by omega
        obtain ⟨ad, rfl, p0, p1⟩ := at_T59 (Kd.C_below HCG.out HL.out.1) (i : Int) (by omega) hltz
        have hx : rd_T59 G (i : Int) = G[i] := by simp [rd_T59, hlt]
        rw [Int.toNat_natCast, hx] at p0 p1
        have HFT := Aside0.mk (fm_take globF G i hlt)
        have HFL := Aside0.mk (fm_le globF G (i + 1))
        have HR := Aside0.mk (HRG.out _ (List.getElem_mem hlt))
        obtain ⟨g, hg⟩ : ∃ g, G[i] = g := ⟨_, rfl⟩
        rw [hg] at p0 p1 HFT HR
        have HDE : Aside0 (∀ W : World, Calls Tryd.prog 27 #[.int .i64 g.f1] W fun e w' => e = .returned (.string (itoaB g.f1)) ∧ Below W.heap.size W w') := ⟨fun W => dec_calls g.f1 HR.out.1 HR.out.2 W⟩
        have HV := Aside0.mk (tx_glob ([] ++ (G.take i).flatMap globF) g)
        have hq : (([] ++ (G.take i).flatMap globF) ++ globF g).length ≤ 140737488355328 := (by have h := HSZ.out; have h2 := HFL.out; rw [HFT.out] at h2; simp only [printF, thrF_eq, List.length_append, List.length_cons, List.length_nil] at h h2 ⊢; omega)
        rw [← tx_size, ← HV.out] at hq
        obtain ⟨a, ha⟩ : ∃ z_, tx ([] ++ (G.take i).flatMap globF) = z_ := ⟨_, rfl⟩
        rw [ha] at HV hq ⊢
        obtain ⟨ti, hti⟩ : ∃ z_, itoaB g.f1 = z_ := ⟨_, rfl⟩
        rw [hti] at HV hq HDE
        simp only [ByteArray.size_append, szl14, List.size_toArray, List.length_cons, List.length_nil, Nat.zero_add, Nat.reduceAdd] at hq
        have hq0 : a.size + 7 ≤ 9223372036854775807 := by omega
        have hq1 : a.size + 7 + g.f0.size ≤ 9223372036854775807 := by omega
        have hq2 : a.size + 7 + g.f0.size + 3 ≤ 9223372036854775807 := by omega
        have hq3 : a.size + 7 + g.f0.size + 3 + ti.size ≤ 9223372036854775807 := by omega
        have hq4 : a.size + 7 + g.f0.size + 3 + ti.size + 2 ≤ 9223372036854775807 := by omega
        clear hx hg hlt ha hti
        go_upto_region 5 with fail
        refine start_ (n := 20) (S := fun w' => w'.cell? ⟨gp, 0, none⟩ = some (.slice (some ad) G.length cG) ∧ w'.cell? (ad.add (i * 2)) = some (.string g.f0) ∧ w'.cell? ⟨(ad.add (i * 2)).block, (ad.add (i * 2)).off + 1, none⟩ = some (.int .i64 g.f1) ∧ Aside0 (Below wo.heap.size wo w')) (ds := []) #[false, false, false, false, false, false, false, false, false, false, false, false, false, false, false, false, false, false, false, false] (by kernel_rfl) rfl rfl ⟨hcp, p0, p1, ⟨below_drew (Below.refl _ _)⟩⟩ (fun hHeld => ?_)
        refine pure_ (i := 0) (N := some 17) (v := ?_) (a' := ?_) #[true, false, false, false, false, false, false, false, false, false, false, false, false, false, false, false, false, false, false, false] rfl rfl (by kernel_rfl) (fun _ _ _ h => h) (Or.inl ⟨by rfl, ?_⟩) ?_ ?_
        rotate_left
        · intro w'
          go_simp
          first | with_reducible rfl | (rw [if_neg (by omega)]; try with_reducible rfl)
        rotate_left
        · simp only [Act.put, List.setIfInBounds_toArray, List.set_cons_zero, List.set_cons_succ, i64_w, i32_w]
          rfl
        refine pure_ (i := 1) (N := some 18) (v := ?_) (a' := ?_) #[true, true, false, false, false, false, false, false, false, false, false, false, false, false, false, false, false, false, false, false] rfl rfl (by kernel_rfl) (fun _ _ _ h => h) (Or.inl ⟨by rfl, ?_⟩) ?_ ?_
        rotate_left
        · intro w'
          go_simp
          first | with_reducible rfl | (rw [if_neg (by omega)]; try with_reducible rfl)
        rotate_left
        · simp only [Act.put, List.setIfInBounds_toArray, List.set_cons_zero, List.set_cons_succ, i64_w, i32_w]
          rfl
        refine pure_ (i := 2) (N := some 19) (v := ?_) (a' := ?_) #[true, true, true, false, false, false, false, false, false, false, false, false, false, false, false, false, false, false, false, false] rfl rfl (by kernel_rfl) (fun _ _ _ h => h) (Or.inl ⟨by rfl, ?_⟩) ?_ ?_
        rotate_left
        · intro w'
          go_simp
          first | with_reducible rfl | (rw [if_neg (by omega)]; try with_reducible rfl)
        rotate_left
        · simp only [Act.put, List.setIfInBounds_toArray, List.set_cons_zero, List.set_cons_succ, i64_w, i32_w]
          rfl
        refine pure_ (i := 4) (N := some 21) (v := ?_) (a' := ?_) #[true, true, true, false, true, false, false, false, false, false, false, false, false, false, false, false, false, false, false, false] rfl rfl (by kernel_rfl) (fun _ _ _ h => h) (Or.inl ⟨by rfl, ?_⟩) ?_ ?_
        rotate_left
        · intro w'
          go_simp
          first | with_reducible rfl | (rw [if_neg (by omega)]; try with_reducible rfl)
        rotate_left
        · simp only [Act.put, List.setIfInBounds_toArray, List.set_cons_zero, List.set_cons_succ, i64_w, i32_w]
          rfl
        refine pure_ (i := 10) (N := some 27) (v := ?_) (a' := ?_) #[true, true, true, false, true, false, false, false, false, false, true, false, false, false, false, false, false, false, false, false] rfl rfl (by kernel_rfl) (fun _ _ _ h => h) (Or.inl ⟨by rfl, ?_⟩) ?_ ?_
        rotate_left
        · intro w'
          go_simp
          first | with_reducible rfl | (rw [if_neg (by omega)]; try with_reducible rfl)
        rotate_left
        · simp only [Act.put, List.setIfInBounds_toArray, List.set_cons_zero, List.set_cons_succ, i64_w, i32_w]
          rfl
        refine pure_ (i := 12) (N := some 29) (v := ?_) (a' := ?_) #[true, true, true, false, true, false, false, false, false, false, true, false, true, false, false, false, false, false, false, false] rfl rfl (by kernel_rfl) (fun _ _ _ h => h) (Or.inl ⟨by rfl, ?_⟩) ?_ ?_
        rotate_left
        · intro w'
          go_simp
          first | with_reducible rfl | (rw [if_neg (by omega)]; try with_reducible rfl)
        rotate_left
        · simp only [Act.put, List.setIfInBounds_toArray, List.set_cons_zero, List.set_cons_succ, i64_w, i32_w]
          rfl
        refine take_ (i := 3) (N := some 20) (v := ?_) (a' := ?_) #[true, true, true, true, true, false, false, false, false, false, true, false, true, false, false, false, false, false, false, false] rfl rfl (by kernel_rfl) (fun _ _ _ h => h) (Or.inl ⟨by rfl, ?_⟩) hHeld ?_ ?_
        rotate_left
        · rintro w' ⟨s0, s1, s2, s3⟩
          go_simp
          first | with_reducible rfl | (rw [if_neg (by omega)]; try with_reducible rfl)
        rotate_left
        · simp only [Act.put, List.setIfInBounds_toArray, List.set_cons_zero, List.set_cons_succ, i64_w, i32_w]
          rfl
        refine pure_ (i := 5) (N := some 22) (v := ?_) (a' := ?_) #[true, true, true, true, true, true, false, false, false, false, true, false, true, false, false, false, false, false, false, false] rfl rfl (by kernel_rfl) (fun _ _ _ h => h) (Or.inl ⟨by rfl, ?_⟩) ?_ ?_
        rotate_left
        · intro w'
          go_simp
          first | with_reducible rfl | (rw [if_neg (by omega)]; try with_reducible rfl)
        rotate_left
        · simp only [Act.put, List.setIfInBounds_toArray, List.set_cons_zero, List.set_cons_succ, i64_w, i32_w]
          rfl
        refine pure_ (i := 6) (N := some 23) (v := ?_) (a' := ?_) #[true, true, true, true, true, true, true, false, false, false, true, false, true, false, false, false, false, false, false, false] rfl rfl (by kernel_rfl) (fun _ _ _ h => h) (Or.inl ⟨by rfl, ?_⟩) ?_ ?_
        rotate_left
        · intro w'
          go_simp
          first | with_reducible rfl | (rw [if_neg (by omega)]; try with_reducible rfl)
        rotate_left
        · simp only [Act.put, List.setIfInBounds_toArray, List.set_cons_zero, List.set_cons_succ, i64_w, i32_w]
          rfl
        refine take_ (i := 7) (N := some 24) (v := ?_) (a' := ?_) #[true, true, true, true, true, true, true, true, false, false, true, false, true, false, false, false, false, false, false, false] rfl rfl (by kernel_rfl) (fun _ _ _ h => h) (Or.inl ⟨by rfl, ?_⟩) hHeld ?_ ?_
        rotate_left
        · rintro w' ⟨s0, s1, s2, s3⟩
          go_simp
          first | with_reducible rfl | (rw [if_neg (by omega)]; try with_reducible rfl)
        rotate_left
        · simp only [Act.put, List.setIfInBounds_toArray, List.set_cons_zero, List.set_cons_succ, i64_w, i32_w]
          rfl
        refine pure_ (i := 8) (N := some 25) (v := ?_) (a' := ?_) #[true, true, true, true, true, true, true, true, true, false, true, false, true, false, false, false, false, false, false, false] rfl rfl (by kernel_rfl) (fun _ _ _ h => h) (Or.inl ⟨by rfl, ?_⟩) ?_ ?_
        rotate_left
        · intro w'
          go_simp
          first | with_reducible rfl | (rw [if_neg (by omega)]; try with_reducible rfl)
        rotate_left
        · simp only [Act.put, List.setIfInBounds_toArray, List.set_cons_zero, List.set_cons_succ, i64_w, i32_w]
          rfl
        refine pure_ (i := 9) (N := some 26) (v := ?_) (a' := ?_) #[true, true, true, true, true, true, true, true, true, true, true, false, true, false, false, false, false, false, false, false] rfl rfl (by kernel_rfl) (fun _ _ _ h => h) (Or.inl ⟨by rfl, ?_⟩) ?_ ?_
        rotate_left
        · intro w'
          go_simp
          first | with_reducible rfl | (rw [if_neg (by omega)]; try with_reducible rfl)
        rotate_left
        · simp only [Act.put, List.setIfInBounds_toArray, List.set_cons_zero, List.set_cons_succ, i64_w, i32_w]
          rfl
        refine take_ (i := 11) (N := some 28) (v := ?_) (a' := ?_) #[true, true, true, true, true, true, true, true, true, true, true, true, true, false, false, false, false, false, false, false] rfl rfl (by kernel_rfl) (fun _ _ _ h => h) (Or.inl ⟨by rfl, ?_⟩) hHeld ?_ ?_
        rotate_left
        · rintro w' ⟨s0, s1, s2, s3⟩
          go_simp
          first | with_reducible rfl | (rw [if_neg (by omega)]; try with_reducible rfl)
        rotate_left
        · simp only [Act.put, List.setIfInBounds_toArray, List.set_cons_zero, List.set_cons_succ, i64_w, i32_w]
          rfl
        refine pure_ (i := 13) (N := some 30) (v := ?_) (a' := ?_) #[true, true, true, true, true, true, true, true, true, true, true, true, true, true, false, false, false, false, false, false] rfl rfl (by kernel_rfl) (fun _ _ _ h => h) (Or.inl ⟨by rfl, ?_⟩) ?_ ?_
        rotate_left
        · intro w'
          go_simp
          first | with_reducible rfl | (rw [if_neg (by omega)]; try with_reducible rfl)
        rotate_left
        · simp only [Act.put, List.setIfInBounds_toArray, List.set_cons_zero, List.set_cons_succ, i64_w, i32_w]
          rfl
        refine pure_ (i := 14) (N := some 31) (v := ?_) (a' := ?_) #[true, true, true, true, true, true, true, true, true, true, true, true, true, true, true, false, false, false, false, false] rfl rfl (by kernel_rfl) (fun _ _ _ h => h) (Or.inl ⟨by rfl, ?_⟩) ?_ ?_
        rotate_left
        · intro w'
          go_simp
          first | with_reducible rfl | (rw [if_neg (by omega)]; try with_reducible rfl)
        rotate_left
        · simp only [Act.put, List.setIfInBounds_toArray, List.set_cons_zero, List.set_cons_succ, i64_w, i32_w]
          rfl
        refine take_ (i := 15) (N := some 32) (v := ?_) (a' := ?_) #[true, true, true, true, true, true, true, true, true, true, true, true, true, true, true, true, false, false, false, false] rfl rfl (by kernel_rfl) (fun _ _ _ h => h) (Or.inl ⟨by rfl, ?_⟩) hHeld ?_ ?_
        rotate_left
        · rintro w' ⟨s0, s1, s2, s3⟩
          go_simp
          first | with_reducible rfl | (rw [if_neg (by omega)]; try with_reducible rfl)
        rotate_left
        · simp only [Act.put, List.setIfInBounds_toArray, List.set_cons_zero, List.set_cons_succ, i64_w, i32_w]
          rfl
        refine one_ (i := 16) (N := some 33) #[true, true, true, true, true, true, true, true, true, true, true, true, true, true, true, true, true, false, false, false] rfl rfl (by kernel_rfl) (by decide) (fun K hK => ?_)
        refine goes_ Tryd.func27 (by kernel_rfl) rfl #[.int .i64 g.f1] (by rfl) rfl rfl (by simp only [List.map_toArray, List.map_cons, List.map_nil, Act.eval]; rfl) ?_
        refine (HDE.out _).mono ?_
        rintro e1 w3 ⟨rfl, hb⟩
        refine ⟨_, rfl, ?_⟩
        refine hK.out _ _ ⟨pw_cell_below hb hHeld.1, pw_cell_below hb hHeld.2.1, pw_cell_below hb hHeld.2.2.1, ⟨below_then hHeld.2.2.2.out hHeld.2.2.2.out.size hb⟩⟩ (fun hHeld => ?_)
        clear hK K
        refine norm_ (a' := ?_) ?_ ?_
        rotate_left
        · show Act.put _ (some 33) _ = _
          simp only [Act.put, List.setIfInBounds_toArray, List.set_cons_zero, List.set_cons_succ, i64_w, i32_w]
          rfl
        refine pure_ (i := 17) (N := some 34) (v := ?_) (a' := ?_) #[true, true, true, true, true, true, true, true, true, true, true, true, true, true, true, true, true, true, false, false] rfl rfl (by kernel_rfl) (fun _ _ _ h => h) (Or.inl ⟨by rfl, ?_⟩) ?_ ?_
        rotate_left
        · intro w'
          go_simp
          first | with_reducible rfl | (rw [if_neg (by omega)]; try with_reducible rfl)
        rotate_left
        · simp only [Act.put, List.setIfInBounds_toArray, List.set_cons_zero, List.set_cons_succ, i64_w, i32_w]
          rfl
        refine pure_ (i := 18) (N := some 35) (v := ?_) (a' := ?_) #[true, true, true, true, true, true, true, true, true, true, true, true, true, true, true, true, true, true, true, false] rfl rfl (by kernel_rfl) (fun _ _ _ h => h) (Or.inl ⟨by rfl, ?_⟩) ?_ ?_
        rotate_left
        · intro w'
          go_simp
          first | with_reducible rfl | (rw [if_neg (by omega)]; try with_reducible rfl)
        rotate_left
        · simp only [Act.put, List.setIfInBounds_toArray, List.set_cons_zero, List.set_cons_succ, i64_w, i32_w]
          rfl
        refine pure_ (i := 19) (N := some 3) (v := ?_) (a' := ?_) #[true, true, true, true, true, true, true, true, true, true, true, true, true, true, true, true, true, true, true, true] rfl rfl (by kernel_rfl) (fun _ _ _ h => h) (Or.inl ⟨by rfl, ?_⟩) ?_ ?_
        rotate_left
        · intro w'
          go_simp
          first | with_reducible rfl | (rw [if_neg (by omega)]; try with_reducible rfl)
        rotate_left
        · simp only [Act.put, List.setIfInBounds_toArray, List.set_cons_zero, List.set_cons_succ, i64_w, i32_w]
          rfl
        refine done_ (by kernel_rfl) ?_
        have HBX := Aside0.mk hHeld.2.2.2.out
        go_wp2_with fail
        go_roundg (G.length - (i + 1))
        case measure => omega
        case rel => exact ⟨i + 1, by omega, by omega, by go_num, by rw [HV.out, HFT.out, List.append_assoc], ⟨HL.out.on HBX.out⟩⟩
      · have hltz : ¬ (i : Int) < (G.length : Int) := by omega
        have he : G.take i = G := List.take_of_length_le (by omega)
        rw [he]
        obtain ⟨z, hz⟩ : ∃ z, tx ([] ++ G.flatMap globF) = z := ⟨_, rfl⟩
        rw [hz]
        have HZ := Aside0.mk hz
        clear hlt he hz
        go_wp2_with fail
        go_meet
        exact ⟨congrArg Value.string HZ.out.symm, HL⟩
  case rest =>
    clear HP
    have HC := hcut
    clear hcut
    obtain ⟨rfl, HP⟩ := HC
    generalize wc = wk0 at *
    go_upto_block 2 with fail
    go_cut [3, 5] (fun s3 sx wx => s3 = .string (tx (G.flatMap globF ++ As.flatMap arrF)) ∧ Aside0 (Pr w0 gp #[.slice AG G.length cG, .slice AA As.length cA, .slice AM Ms.length cM, .slice AT Ts.length cT] wx))
    case first =>
      go_wp2_with fail
      go_loopg [3, 5] As.length (fun gg s3 sx wr => ∃ i : Nat, i ≤ As.length ∧ As.length - i ≤ gg ∧ sx = .int .i64 i ∧ s3 = .string (tx (G.flatMap globF ++ (As.take i).flatMap arrF)) ∧ Aside0 (Pr w0 gp #[.slice AG G.length cG, .slice AA As.length cA, .slice AM Ms.length cM, .slice AT Ts.length cT] wr))
      case atStart => exact ⟨0, Nat.zero_le _, by omega, rfl, by simp, HP⟩
      case round =>
        obtain ⟨i, hi, hgg, rfl, rfl, HL⟩ := hrel
        generalize wr = wo at *
        have hcp : wo.cell? ⟨gp, 1, none⟩ = some (.slice AA As.length cA) := (blk_cell HL.out.2 1).trans rfl
        by_cases hlt : i < As.length
        · have hltz : (i : Int) < (As.length : Int) := by omega
          obtain ⟨ad, rfl, p0, p1⟩ := at_T61 (Kd.C_below HCA.out HL.out.1) (i : Int) (by omega) hltz
          have hx : rd_T61 As (i : Int) = As[i] := by simp [rd_T61, hlt]
          rw [Int.toNat_natCast, hx] at p0 p1
          have HFT := Aside0.mk (fm_take arrF As i hlt)
          have HFL := Aside0.mk (fm_le arrF As (i + 1))
          have HR := Aside0.mk (HRA.out _ (List.getElem_mem hlt))
          obtain ⟨g, hg⟩ : ∃ g, As[i] = g := ⟨_, rfl⟩
          rw [hg] at p0 p1 HFT HR
          have HDE : Aside0 (∀ W : World, Calls Tryd.prog 27 #[.int .i64 g.f1] W fun e w' => e = .returned (.string (itoaB g.f1)) ∧ Below W.heap.size W w') := ⟨fun W => dec_calls g.f1 HR.out.1 HR.out.2 W⟩
          have HV := Aside0.mk (tx_arr (G.flatMap globF ++ (As.take i).flatMap arrF) g)
          have hq : ((G.flatMap globF ++ (As.take i).flatMap arrF) ++ arrF g).length ≤ 140737488355328 := (by have h := HSZ.out; have h2 := HFL.out; rw [HFT.out] at h2; simp only [printF, thrF_eq, List.length_append, List.length_cons, List.length_nil] at h h2 ⊢; omega)
          rw [← tx_size, ← HV.out] at hq
          obtain ⟨a, ha⟩ : ∃ z_, tx (G.flatMap globF ++ (As.take i).flatMap arrF) = z_ := ⟨_, rfl⟩
          rw [ha] at HV hq ⊢
          obtain ⟨ti, hti⟩ : ∃ z_, itoaB g.f1 = z_ := ⟨_, rfl⟩
          rw [hti] at HV hq HDE
          simp only [ByteArray.size_append, szl14, List.size_toArray, List.length_cons, List.length_nil, Nat.zero_add, Nat.reduceAdd] at hq
          have hq0 : a.size + 6 ≤ 9223372036854775807 := by omega
          have hq1 : a.size + 6 + g.f0.size ≤ 9223372036854775807 := by omega
          have hq2 : a.size + 6 + g.f0.size + 1 ≤ 9223372036854775807 := by omega
          have hq3 : a.size + 6 + g.f0.size + 1 + ti.size ≤ 9223372036854775807 := by omega
          have hq4 : a.size + 6 + g.f0.size + 1 + ti.size + 3 ≤ 9223372036854775807 := by omega
          clear hx hg hlt ha hti
          go_upto_region 9 with fail
          refine start_ (n := 20) (S := fun w' => w'.cell? ⟨gp, 1, none⟩ = some (.slice (some ad) As.length cA) ∧ w'.cell? (ad.add (i * 2)) = some (.string g.f0) ∧ w'.cell? ⟨(ad.add (i * 2)).block, (ad.add (i * 2)).off + 1, none⟩ = some (.int .i64 g.f1) ∧ Aside0 (Below wo.heap.size wo w')) (ds := []) #[false, false, false, false, false, false, false, false, false, false, false, false, false, false, false, false, false, false, false, false] (by kernel_rfl) rfl rfl ⟨hcp, p0, p1, ⟨below_drew (Below.refl _ _)⟩⟩ (fun hHeld => ?_)
          refine pure_ (i := 0) (N := some 43) (v := ?_) (a' := ?_) #[true, false, false, false, false, false, false, false, false, false, false, false, false, false, false, false, false, false, false, false] rfl rfl (by kernel_rfl) (fun _ _ _ h => h) (Or.inl ⟨by rfl, ?_⟩) ?_ ?_
          rotate_left
          · intro w'
            go_simp
            first | with_reducible rfl | (rw [if_neg (by omega)]; try with_reducible rfl)
          rotate_left
          · simp only [Act.put, List.setIfInBounds_toArray, List.set_cons_zero, List.set_cons_succ, i64_w, i32_w]
            rfl
          refine pure_ (i := 1) (N := some 44) (v := ?_) (a' := ?_) #[true, true, false, false, false, false, false, false, false, false, false, false, false, false, false, false, false, false, false, false] rfl rfl (by kernel_rfl) (fun _ _ _ h => h) (Or.inl ⟨by rfl, ?_⟩) ?_ ?_
          rotate_left
          · intro w'
            go_simp
            first | with_reducible rfl | (rw [if_neg (by omega)]; try with_reducible rfl)
          rotate_left
          · simp only [Act.put, List.setIfInBounds_toArray, List.set_cons_zero, List.set_cons_succ, i64_w, i32_w]
            rfl
          refine pure_ (i := 2) (N := some 45) (v := ?_) (a' := ?_) #[true, true, true, false, false, false, false, false, false, false, false, false, false, false, false, false, false, false, false, false] rfl rfl (by kernel_rfl) (fun _ _ _ h => h) (Or.inl ⟨by rfl, ?_⟩) ?_ ?_
          rotate_left
          · intro w'
            go_simp
            first | with_reducible rfl | (rw [if_neg (by omega)]; try with_reducible rfl)
          rotate_left
          · simp only [Act.put, List.setIfInBounds_toArray, List.set_cons_zero, List.set_cons_succ, i64_w, i32_w]
            rfl
          refine pure_ (i := 4) (N := some 47) (v := ?_) (a' := ?_) #[true, true, true, false, true, false, false, false, false, false, false, false, false, false, false, false, false, false, false, false] rfl rfl (by kernel_rfl) (fun _ _ _ h => h) (Or.inl ⟨by rfl, ?_⟩) ?_ ?_
          rotate_left
          · intro w'
            go_simp
            first | with_reducible rfl | (rw [if_neg (by omega)]; try with_reducible rfl)
          rotate_left
          · simp only [Act.put, List.setIfInBounds_toArray, List.set_cons_zero, List.set_cons_succ, i64_w, i32_w]
            rfl
          refine pure_ (i := 10) (N := some 53) (v := ?_) (a' := ?_) #[true, true, true, false, true, false, false, false, false, false, true, false, false, false, false, false, false, false, false, false] rfl rfl (by kernel_rfl) (fun _ _ _ h => h) (Or.inl ⟨by rfl, ?_⟩) ?_ ?_
          rotate_left
          · intro w'
            go_simp
            first | with_reducible rfl | (rw [if_neg (by omega)]; try with_reducible rfl)
          rotate_left
          · simp only [Act.put, List.setIfInBounds_toArray, List.set_cons_zero, List.set_cons_succ, i64_w, i32_w]
            rfl
          refine pure_ (i := 12) (N := some 55) (v := ?_) (a' := ?_) #[true, true, true, false, true, false, false, false, false, false, true, false, true, false, false, false, false, false, false, false] rfl rfl (by kernel_rfl) (fun _ _ _ h => h) (Or.inl ⟨by rfl, ?_⟩) ?_ ?_
          rotate_left
          · intro w'
            go_simp
            first | with_reducible rfl | (rw [if_neg (by omega)]; try with_reducible rfl)
          rotate_left
          · simp only [Act.put, List.setIfInBounds_toArray, List.set_cons_zero, List.set_cons_succ, i64_w, i32_w]
            rfl
          refine take_ (i := 3) (N := some 46) (v := ?_) (a' := ?_) #[true, true, true, true, true, false, false, false, false, false, true, false, true, false, false, false, false, false, false, false] rfl rfl (by kernel_rfl) (fun _ _ _ h => h) (Or.inl ⟨by rfl, ?_⟩) hHeld ?_ ?_
          rotate_left
          · rintro w' ⟨s0, s1, s2, s3⟩
            go_simp
            first | with_reducible rfl | (rw [if_neg (by omega)]; try with_reducible rfl)
          rotate_left
          · simp only [Act.put, List.setIfInBounds_toArray, List.set_cons_zero, List.set_cons_succ, i64_w, i32_w]
            rfl
          refine pure_ (i := 5) (N := some 48) (v := ?_) (a' := ?_) #[true, true, true, true, true, true, false, false, false, false, true, false, true, false, false, false, false, false, false, false] rfl rfl (by kernel_rfl) (fun _ _ _ h => h) (Or.inl ⟨by rfl, ?_⟩) ?_ ?_
          rotate_left
          · intro w'
            go_simp
            first | with_reducible rfl | (rw [if_neg (by omega)]; try with_reducible rfl)
          rotate_left
          · simp only [Act.put, List.setIfInBounds_toArray, List.set_cons_zero, List.set_cons_succ, i64_w, i32_w]
            rfl
          refine pure_ (i := 6) (N := some 49) (v := ?_) (a' := ?_) #[true, true, true, true, true, true, true, false, false, false, true, false, true, false, false, false, false, false, false, false] rfl rfl (by kernel_rfl) (fun _ _ _ h => h) (Or.inl ⟨by rfl, ?_⟩) ?_ ?_
          rotate_left
          · intro w'
            go_simp
            first | with_reducible rfl | (rw [if_neg (by omega)]; try with_reducible rfl)
          rotate_left
          · simp only [Act.put, List.setIfInBounds_toArray, List.set_cons_zero, List.set_cons_succ, i64_w, i32_w]
            rfl
          refine take_ (i := 7) (N := some 50) (v := ?_) (a' := ?_) #[true, true, true, true, true, true, true, true, false, false, true, false, true, false, false, false, false, false, false, false] rfl rfl (by kernel_rfl) (fun _ _ _ h => h) (Or.inl ⟨by rfl, ?_⟩) hHeld ?_ ?_
          rotate_left
          · rintro w' ⟨s0, s1, s2, s3⟩
            go_simp
            first | with_reducible rfl | (rw [if_neg (by omega)]; try with_reducible rfl)
          rotate_left
          · simp only [Act.put, List.setIfInBounds_toArray, List.set_cons_zero, List.set_cons_succ, i64_w, i32_w]
            rfl
          refine pure_ (i := 8) (N := some 51) (v := ?_) (a' := ?_) #[true, true, true, true, true, true, true, true, true, false, true, false, true, false, false, false, false, false, false, false] rfl rfl (by kernel_rfl) (fun _ _ _ h => h) (Or.inl ⟨by rfl, ?_⟩) ?_ ?_
          rotate_left
          · intro w'
            go_simp
            first | with_reducible rfl | (rw [if_neg (by omega)]; try with_reducible rfl)
          rotate_left
          · simp only [Act.put, List.setIfInBounds_toArray, List.set_cons_zero, List.set_cons_succ, i64_w, i32_w]
            rfl
          refine pure_ (i := 9) (N := some 52) (v := ?_) (a' := ?_) #[true, true, true, true, true, true, true, true, true, true, true, false, true, false, false, false, false, false, false, false] rfl rfl (by kernel_rfl) (fun _ _ _ h => h) (Or.inl ⟨by rfl, ?_⟩) ?_ ?_
          rotate_left
          · intro w'
            go_simp
            first | with_reducible rfl | (rw [if_neg (by omega)]; try with_reducible rfl)
          rotate_left
          · simp only [Act.put, List.setIfInBounds_toArray, List.set_cons_zero, List.set_cons_succ, i64_w, i32_w]
            rfl
          refine take_ (i := 11) (N := some 54) (v := ?_) (a' := ?_) #[true, true, true, true, true, true, true, true, true, true, true, true, true, false, false, false, false, false, false, false] rfl rfl (by kernel_rfl) (fun _ _ _ h => h) (Or.inl ⟨by rfl, ?_⟩) hHeld ?_ ?_
          rotate_left
          · rintro w' ⟨s0, s1, s2, s3⟩
            go_simp
            first | with_reducible rfl | (rw [if_neg (by omega)]; try with_reducible rfl)
          rotate_left
          · simp only [Act.put, List.setIfInBounds_toArray, List.set_cons_zero, List.set_cons_succ, i64_w, i32_w]
            rfl
          refine pure_ (i := 13) (N := some 56) (v := ?_) (a' := ?_) #[true, true, true, true, true, true, true, true, true, true, true, true, true, true, false, false, false, false, false, false] rfl rfl (by kernel_rfl) (fun _ _ _ h => h) (Or.inl ⟨by rfl, ?_⟩) ?_ ?_
          rotate_left
          · intro w'
            go_simp
            first | with_reducible rfl | (rw [if_neg (by omega)]; try with_reducible rfl)
          rotate_left
          · simp only [Act.put, List.setIfInBounds_toArray, List.set_cons_zero, List.set_cons_succ, i64_w, i32_w]
            rfl
          refine pure_ (i := 14) (N := some 57) (v := ?_) (a' := ?_) #[true, true, true, true, true, true, true, true, true, true, true, true, true, true, true, false, false, false, false, false] rfl rfl (by kernel_rfl) (fun _ _ _ h => h) (Or.inl ⟨by rfl, ?_⟩) ?_ ?_
          rotate_left
          · intro w'
            go_simp
            first | with_reducible rfl | (rw [if_neg (by omega)]; try with_reducible rfl)
          rotate_left
          · simp only [Act.put, List.setIfInBounds_toArray, List.set_cons_zero, List.set_cons_succ, i64_w, i32_w]
            rfl
          refine take_ (i := 15) (N := some 58) (v := ?_) (a' := ?_) #[true, true, true, true, true, true, true, true, true, true, true, true, true, true, true, true, false, false, false, false] rfl rfl (by kernel_rfl) (fun _ _ _ h => h) (Or.inl ⟨by rfl, ?_⟩) hHeld ?_ ?_
          rotate_left
          · rintro w' ⟨s0, s1, s2, s3⟩
            go_simp
            first | with_reducible rfl | (rw [if_neg (by omega)]; try with_reducible rfl)
          rotate_left
          · simp only [Act.put, List.setIfInBounds_toArray, List.set_cons_zero, List.set_cons_succ, i64_w, i32_w]
            rfl
          refine one_ (i := 16) (N := some 59) #[true, true, true, true, true, true, true, true, true, true, true, true, true, true, true, true, true, false, false, false] rfl rfl (by kernel_rfl) (by decide) (fun K hK => ?_)
          refine goes_ Tryd.func27 (by kernel_rfl) rfl #[.int .i64 g.f1] (by rfl) rfl rfl (by simp only [List.map_toArray, List.map_cons, List.map_nil, Act.eval]; rfl) ?_
          refine (HDE.out _).mono ?_
          rintro e1 w3 ⟨rfl, hb⟩
          refine ⟨_, rfl, ?_⟩
          refine hK.out _ _ ⟨pw_cell_below hb hHeld.1, pw_cell_below hb hHeld.2.1, pw_cell_below hb hHeld.2.2.1, ⟨below_then hHeld.2.2.2.out hHeld.2.2.2.out.size hb⟩⟩ (fun hHeld => ?_)
          clear hK K
          refine norm_ (a' := ?_) ?_ ?_
          rotate_left
          · show Act.put _ (some 59) _ = _
            simp only [Act.put, List.setIfInBounds_toArray, List.set_cons_zero, List.set_cons_succ, i64_w, i32_w]
            rfl
          refine pure_ (i := 17) (N := some 60) (v := ?_) (a' := ?_) #[true, true, true, true, true, true, true, true, true, true, true, true, true, true, true, true, true, true, false, false] rfl rfl (by kernel_rfl) (fun _ _ _ h => h) (Or.inl ⟨by rfl, ?_⟩) ?_ ?_
          rotate_left
          · intro w'
            go_simp
            first | with_reducible rfl | (rw [if_neg (by omega)]; try with_reducible rfl)
          rotate_left
          · simp only [Act.put, List.setIfInBounds_toArray, List.set_cons_zero, List.set_cons_succ, i64_w, i32_w]
            rfl
          refine pure_ (i := 18) (N := some 61) (v := ?_) (a' := ?_) #[true, true, true, true, true, true, true, true, true, true, true, true, true, true, true, true, true, true, true, false] rfl rfl (by kernel_rfl) (fun _ _ _ h => h) (Or.inl ⟨by rfl, ?_⟩) ?_ ?_
          rotate_left
          · intro w'
            go_simp
            first | with_reducible rfl | (rw [if_neg (by omega)]; try with_reducible rfl)
          rotate_left
          · simp only [Act.put, List.setIfInBounds_toArray, List.set_cons_zero, List.set_cons_succ, i64_w, i32_w]
            rfl
          refine pure_ (i := 19) (N := some 3) (v := ?_) (a' := ?_) #[true, true, true, true, true, true, true, true, true, true, true, true, true, true, true, true, true, true, true, true] rfl rfl (by kernel_rfl) (fun _ _ _ h => h) (Or.inl ⟨by rfl, ?_⟩) ?_ ?_
          rotate_left
          · intro w'
            go_simp
            first | with_reducible rfl | (rw [if_neg (by omega)]; try with_reducible rfl)
          rotate_left
          · simp only [Act.put, List.setIfInBounds_toArray, List.set_cons_zero, List.set_cons_succ, i64_w, i32_w]
            rfl
          refine done_ (by kernel_rfl) ?_
          have HBX := Aside0.mk hHeld.2.2.2.out
          go_wp2_with fail
          go_roundg (As.length - (i + 1))
          case measure => omega
          case rel => exact ⟨i + 1, by omega, by omega, by go_num, by rw [HV.out, HFT.out, List.append_assoc], ⟨HL.out.on HBX.out⟩⟩
        · have hltz : ¬ (i : Int) < (As.length : Int) := by omega
          have he : As.take i = As := List.take_of_length_le (by omega)
          rw [he]
          obtain ⟨z, hz⟩ : ∃ z, tx (G.flatMap globF ++ As.flatMap arrF) = z := ⟨_, rfl⟩
          rw [hz]
          have HZ := Aside0.mk hz
          clear hlt he hz
          go_wp2_with fail
          go_meet
          exact ⟨congrArg Value.string HZ.out.symm, HL⟩
    case rest =>
      clear HP
      have HC := hcut
      clear hcut
      obtain ⟨rfl, HP⟩ := HC
      generalize wc = wk1 at *
      go_upto_block 4 with fail
      go_cut [3, 6] (fun s3 sx wx => s3 = .string (tx ((G.flatMap globF ++ As.flatMap arrF) ++ Ms.flatMap mutF)) ∧ Aside0 (Pr w0 gp #[.slice AG G.length cG, .slice AA As.length cA, .slice AM Ms.length cM, .slice AT Ts.length cT] wx))
      case first =>
        go_wp2_with fail
        go_loopg [3, 6] Ms.length (fun gg s3 sx wr => ∃ i : Nat, i ≤ Ms.length ∧ Ms.length - i ≤ gg ∧ sx = .int .i64 i ∧ s3 = .string (tx (G.flatMap globF ++ As.flatMap arrF ++ (Ms.take i).flatMap mutF)) ∧ Aside0 (Pr w0 gp #[.slice AG G.length cG, .slice AA As.length cA, .slice AM Ms.length cM, .slice AT Ts.length cT] wr))
        case atStart => exact ⟨0, Nat.zero_le _, by omega, rfl, by simp, HP⟩
        case round =>
          obtain ⟨i, hi, hgg, rfl, rfl, HL⟩ := hrel
          generalize wr = wo at *
          have hcp : wo.cell? ⟨gp, 2, none⟩ = some (.slice AM Ms.length cM) := (blk_cell HL.out.2 2).trans rfl
          by_cases hlt : i < Ms.length
          · have hltz : (i : Int) < (Ms.length : Int) := by omega
            obtain ⟨ad, rfl, p0⟩ := Kd.at_string (Kd.C_below HCM.out HL.out.1) (i : Int) (by omega) hltz
            have hx : rdOf ByteArray.empty Ms (i : Int) = Ms[i] := by simp [rdOf, hlt]
            rw [Int.toNat_natCast, hx] at p0
            have HFT := Aside0.mk (fm_take mutF Ms i hlt)
            have HFL := Aside0.mk (fm_le mutF Ms (i + 1))
            obtain ⟨m, hg⟩ : ∃ m, Ms[i] = m := ⟨_, rfl⟩
            rw [hg] at p0 HFT
            have HV := Aside0.mk (tx_mut (G.flatMap globF ++ As.flatMap arrF ++ (Ms.take i).flatMap mutF) m)
            have hq : ((G.flatMap globF ++ As.flatMap arrF ++ (Ms.take i).flatMap mutF) ++ mutF m).length ≤ 140737488355328 := (by have h := HSZ.out; have h2 := HFL.out; rw [HFT.out] at h2; simp only [printF, thrF_eq, List.length_append, List.length_cons, List.length_nil] at h h2 ⊢; omega)
            rw [← tx_size, ← HV.out] at hq
            obtain ⟨a, ha⟩ : ∃ z_, tx (G.flatMap globF ++ As.flatMap arrF ++ (Ms.take i).flatMap mutF) = z_ := ⟨_, rfl⟩
            rw [ha] at HV hq ⊢
            simp only [ByteArray.size_append, szl14, List.size_toArray, List.length_cons, List.length_nil, Nat.zero_add, Nat.reduceAdd] at hq
            have hq0 : a.size + 6 ≤ 9223372036854775807 := by omega
            have hq1 : a.size + 6 + m.size ≤ 9223372036854775807 := by omega
            have hq2 : a.size + 6 + m.size + 2 ≤ 9223372036854775807 := by omega
            clear hx hg hlt ha
            go_wp2_with fail
            go_roundg (Ms.length - (i + 1))
            case measure => omega
            case rel => exact ⟨i + 1, by omega, by omega, by go_num, by rw [HV.out, HFT.out, List.append_assoc], HL⟩
          · have hltz : ¬ (i : Int) < (Ms.length : Int) := by omega
            have he : Ms.take i = Ms := List.take_of_length_le (by omega)
            rw [he]
            obtain ⟨z, hz⟩ : ∃ z, tx (G.flatMap globF ++ As.flatMap arrF ++ Ms.flatMap mutF) = z := ⟨_, rfl⟩
            rw [hz]
            have HZ := Aside0.mk hz
            clear hlt he hz
            go_wp2_with fail
            go_meet
            exact ⟨congrArg Value.string HZ.out.symm, HL⟩
      case rest =>
        clear HP
        have HC := hcut
        clear hcut
        obtain ⟨rfl, HP⟩ := HC
        generalize wc = wk2 at *
        go_upto_block 6 with fail
        go_cut [3, 7] (fun s3 sx wx => s3 = .string (tx (((G.flatMap globF ++ As.flatMap arrF) ++ Ms.flatMap mutF) ++ Ts.flatMap thrF)) ∧ Aside0 (Pr w0 gp #[.slice AG G.length cG, .slice AA As.length cA, .slice AM Ms.length cM, .slice AT Ts.length cT] wx))
        case first =>
          go_wp2_with fail
          go_loopg [3, 7] Ts.length (fun gg s3 sx wr => ∃ i : Nat, i ≤ Ts.length ∧ Ts.length - i ≤ gg ∧ sx = .int .i64 i ∧ s3 = .string (tx ((G.flatMap globF ++ As.flatMap arrF) ++ Ms.flatMap mutF ++ (Ts.take i).flatMap thrF)) ∧ Aside0 (Pr w0 gp #[.slice AG G.length cG, .slice AA As.length cA, .slice AM Ms.length cM, .slice AT Ts.length cT] wr))
          case atStart => exact ⟨0, Nat.zero_le _, by omega, rfl, by simp, HP⟩
          case round =>
            obtain ⟨i, hi, hgg, rfl, rfl, HL⟩ := hrel
            generalize wr = wo at *
            have hcp : wo.cell? ⟨gp, 3, none⟩ = some (.slice AT Ts.length cT) := (blk_cell HL.out.2 3).trans rfl
            by_cases hlt : i < Ts.length
            · have hltz : (i : Int) < (Ts.length : Int) := by omega
              obtain ⟨ad, cc, rfl, _, hK, hc0⟩ := Kd.C_get HCT.out z52 (i : Int) (by omega) hltz
              have hx : Ts.getD (i : Int).toNat z52 = Ts[i] := by simp [hlt]
              rw [hx] at hK
              have hc1 : ∀ j v, cc[j]? = some v → wo.cell? ((ad.add (i * 3)).add j) = some v := fun j v hj => by
                have h := hc0 j v hj
                rw [Int.toNat_natCast] at h
                rw [add_add_]
                exact pw_cell_below HL.out.1 h
              have HFT := Aside0.mk (fm_take thrF Ts i hlt)
              have HFL := Aside0.mk (fm_le thrF Ts (i + 1))
              have HR := Aside0.mk (HRT.out _ (List.getElem_mem hlt))
              obtain ⟨t, hg⟩ : ∃ t, Ts[i] = t := ⟨_, rfl⟩
              rw [hg] at hK HFT HR
              obtain ⟨K1, d1, K2, d2, rfl, l1, g1, l2, g2⟩ := k52_open hK
              have HC1 := Aside0.mk g1
              have HC2 := Aside0.mk g2
              have hl1 : t.f1.length ≤ 9223372036854775807 := g1.2.1
              have HCC := Aside0.mk hc1
              have HV := Aside0.mk (tx_hdr (((G.flatMap globF ++ As.flatMap arrF) ++ Ms.flatMap mutF) ++ (Ts.take i).flatMap thrF) t)
              have hq : ((((G.flatMap globF ++ As.flatMap arrF) ++ Ms.flatMap mutF) ++ (Ts.take i).flatMap thrF) ++ lineL [(⟨#[116, 104, 114, 101, 97, 100, 32]⟩ : ByteArray), t.f0, (⟨#[32, 123]⟩ : ByteArray)]).length ≤ 140737488355328 := (by have h := HSZ.out; have h2 := HFL.out; rw [HFT.out] at h2; simp only [printF, thrF_eq, List.length_append, List.length_cons, List.length_nil] at h h2 ⊢; omega)
              rw [← tx_size, ← HV.out] at hq
              obtain ⟨a, ha⟩ : ∃ z_, tx (((G.flatMap globF ++ As.flatMap arrF) ++ Ms.flatMap mutF) ++ (Ts.take i).flatMap thrF) = z_ := ⟨_, rfl⟩
              rw [ha] at HV hq ⊢
              simp only [ByteArray.size_append, szl14, List.size_toArray, List.length_cons, List.length_nil, Nat.zero_add, Nat.reduceAdd] at hq
              have hq0 : a.size + 7 ≤ 9223372036854775807 := by omega
              have hq1 : a.size + 7 + t.f0.size ≤ 9223372036854775807 := by omega
              have hq2 : a.size + 7 + t.f0.size + 3 ≤ 9223372036854775807 := by omega
              clear hc0 hc1 hK hx hg hlt g1 g2 l1 l2 ha
              go_upto_block 8 with (first | ((with_reducible refine gate_dst (N := 89) rfl ?_); refine load_any ?hg 52 (.tmp 88) ?ho (ad.add (i * 3)) ?hx [.string t.f0, .slice K1 t.f1.length d1, .slice K2 t.f2.length d2] _ Tryd.underlying52 ?hd ?hi HCC.out ?_; (case hg => rfl); (case ho => rfl); (case hx => rfl); (case hd => rfl); (case hi => kernel_rfl)) | ((with_reducible refine gate_dst (N := 8) rfl ?_); refine box_event ?hg (N := 8) ?hd (cs := #[.string ⟨#[]⟩, .slice none 0 0, .slice none 0 0]) (t := 52) ?hr ?_; (case hd => rfl); (case hg => rfl); (case hr => first | (go_simp; done) | (go_simp; rfl)); intro ga hgg w1 hlit hb; have HZZ := Aside0.mk hlit; have HGA := Aside0.mk hgg; have HB1 := Aside0.mk hb; clear hlit hb hgg) | ((with_reducible refine gate_store (t := 52) (p := 8) rfl ?_); refine put_val ?hg ?hn 52 (.tmp 8) (.tmp 89) ?ho ga 52 _ (#[.string t.f0, .slice K1 t.f1.length d1, .slice K2 t.f2.length d2]) (.agg #[.string t.f0, .slice K1 t.f1.length d1, .slice K2 t.f2.length d2]) ?hp ?hx ?hu HZZ.out ?ht ?hs ?h1 ?_; (case hg => rfl); (case hn => rfl); (case ho => rfl); (case hp => rfl); (case hx => rfl); (case hu => rfl); (case ht => kernel_rfl); (case hs => rfl); (case h1 => exact one3 t.f0 K1 K2 _ _ _ _); intro w2 hlit hg; have HGX := Aside0.mk hlit; have HBW := Aside0.mk (HB1.out.grown hg HB1.out.size (fun q hq => by injection hq with hq; rw [← hq, HGA.out]; exact Nat.le_refl _)); have hz0 : w2.cell? ⟨ga, 0, none⟩ = some (.string t.f0) := (blk_cell hlit 0).trans rfl; clear hlit hg))
              have HW2 := Aside0.mk (HL.out.on HBW.out)
              have HVH := HV
              clear hq0 hq1 hq2 hq HV
              go_cut [3, 9] (fun s3 sx wx => s3 = .string (tx (((((G.flatMap globF ++ As.flatMap arrF) ++ Ms.flatMap mutF) ++ (Ts.take i).flatMap thrF) ++ lineL [(⟨#[116, 104, 114, 101, 97, 100, 32]⟩ : ByteArray), t.f0, (⟨#[32, 123]⟩ : ByteArray)]) ++ t.f1.flatMap locF)) ∧ Aside0 (Pr w0 gp #[.slice AG G.length cG, .slice AA As.length cA, .slice AM Ms.length cM, .slice (some ad) Ts.length cT] wx ∧ wx.heap[ga]? = some (.cells #[.string t.f0, .slice K1 t.f1.length d1, .slice K2 t.f2.length d2] 52 (0, 0))))
              case first =>
                go_wp2_with fail
                go_loopg [3, 9] t.f1.length (fun gg s3 sx wr => ∃ k : Nat, k ≤ t.f1.length ∧ t.f1.length - k ≤ gg ∧ sx = .int .i64 k ∧ s3 = .string (tx (((((G.flatMap globF ++ As.flatMap arrF) ++ Ms.flatMap mutF) ++ (Ts.take i).flatMap thrF) ++ lineL [(⟨#[116, 104, 114, 101, 97, 100, 32]⟩ : ByteArray), t.f0, (⟨#[32, 123]⟩ : ByteArray)]) ++ (t.f1.take k).flatMap locF)) ∧ Aside0 (Pr w0 gp #[.slice AG G.length cG, .slice AA As.length cA, .slice AM Ms.length cM, .slice (some ad) Ts.length cT] wr ∧ wr.heap[ga]? = some (.cells #[.string t.f0, .slice K1 t.f1.length d1, .slice K2 t.f2.length d2] 52 (0, 0))))
                case atStart => exact ⟨0, Nat.zero_le _, by omega, rfl, by rw [HVH.out]; simp, ⟨HW2.out, HGX.out⟩⟩
                case round =>
                  clear hz0
                  obtain ⟨k, hk, hkg, rfl, rfl, HM⟩ := hrel
                  generalize wr = wq at *
                  have hz1 : wq.cell? ⟨ga, 1, none⟩ = some (.slice K1 t.f1.length d1) := (blk_cell HM.out.2 1).trans rfl
                  by_cases hlt : k < t.f1.length
                  · have hltz : (k : Int) < (t.f1.length : Int) := by omega
                    obtain ⟨ad2, rfl, p0⟩ := Kd.at_string (Kd.C_below HC1.out HM.out.1.1) (k : Int) (by omega) hltz
                    have hx : rdOf ByteArray.empty t.f1 (k : Int) = t.f1[k] := by simp [rdOf, hlt]
                    rw [Int.toNat_natCast, hx] at p0
                    have HGT := Aside0.mk (fm_take locF t.f1 k hlt)
                    have HGL := Aside0.mk (fm_le locF t.f1 (k + 1))
                    obtain ⟨m, hg⟩ : ∃ m, t.f1[k] = m := ⟨_, rfl⟩
                    rw [hg] at p0 HGT
                    have HV := Aside0.mk (tx_loc (((((G.flatMap globF ++ As.flatMap arrF) ++ Ms.flatMap mutF) ++ (Ts.take i).flatMap thrF) ++ lineL [(⟨#[116, 104, 114, 101, 97, 100, 32]⟩ : ByteArray), t.f0, (⟨#[32, 123]⟩ : ByteArray)]) ++ (t.f1.take k).flatMap locF) m)
                    have hq : ((((((G.flatMap globF ++ As.flatMap arrF) ++ Ms.flatMap mutF) ++ (Ts.take i).flatMap thrF) ++ lineL [(⟨#[116, 104, 114, 101, 97, 100, 32]⟩ : ByteArray), t.f0, (⟨#[32, 123]⟩ : ByteArray)]) ++ (t.f1.take k).flatMap locF) ++ locF m).length ≤ 140737488355328 := (by have h := HSZ.out; have h2 := HFL.out; have h3 := HGL.out; rw [HFT.out] at h2; rw [HGT.out] at h3; simp only [printF, thrF_eq, List.length_append, List.length_cons, List.length_nil] at h h2 h3 ⊢; omega)
                    rw [← tx_size, ← HV.out] at hq
                    obtain ⟨a, ha⟩ : ∃ z_, tx (((((G.flatMap globF ++ As.flatMap arrF) ++ Ms.flatMap mutF) ++ (Ts.take i).flatMap thrF) ++ lineL [(⟨#[116, 104, 114, 101, 97, 100, 32]⟩ : ByteArray), t.f0, (⟨#[32, 123]⟩ : ByteArray)]) ++ (t.f1.take k).flatMap locF) = z_ := ⟨_, rfl⟩
                    rw [ha] at HV hq ⊢
                    simp only [ByteArray.size_append, szl14, List.size_toArray, List.length_cons, List.length_nil, Nat.zero_add, Nat.reduceAdd] at hq
                    have hq0 : a.size + 6 ≤ 9223372036854775807 := by omega
                    have hq1 : a.size + 6 + m.size ≤ 9223372036854775807 := by omega
                    have hq2 : a.size + 6 + m.size + 2 ≤ 9223372036854775807 := by omega
                    clear hx hg hlt ha
                    go_wp2_with fail
                    go_roundg (t.f1.length - (k + 1))
                    case measure => omega
                    case rel => exact ⟨k + 1, by omega, by omega, by go_num, by rw [HV.out, HGT.out, List.append_assoc ((((G.flatMap globF ++ As.flatMap arrF) ++ Ms.flatMap mutF) ++ (Ts.take i).flatMap thrF) ++ lineL [(⟨#[116, 104, 114, 101, 97, 100, 32]⟩ : ByteArray), t.f0, (⟨#[32, 123]⟩ : ByteArray)])], HM⟩
                  · have hltz2 : ¬ (k : Int) < (t.f1.length : Int) := by omega
                    have he : t.f1.take k = t.f1 := List.take_of_length_le (by omega)
                    rw [he]
                    obtain ⟨z, hz⟩ : ∃ z, tx (((((G.flatMap globF ++ As.flatMap arrF) ++ Ms.flatMap mutF) ++ (Ts.take i).flatMap thrF) ++ lineL [(⟨#[116, 104, 114, 101, 97, 100, 32]⟩ : ByteArray), t.f0, (⟨#[32, 123]⟩ : ByteArray)]) ++ t.f1.flatMap locF) = z := ⟨_, rfl⟩
                    rw [hz]
                    have HZ := Aside0.mk hz
                    clear hlt he hz
                    go_wp2_with fail
                    go_meet
                    exact ⟨congrArg Value.string HZ.out.symm, HM⟩
              case rest =>
                have HC := hcut
                clear hcut hz0
                obtain ⟨rfl, HM⟩ := HC
                generalize wc = wq at *
                have hz2 : wq.cell? ⟨ga, 2, none⟩ = some (.slice K2 t.f2.length d2) := (blk_cell HM.out.2 2).trans rfl
                have HBO := Aside0.mk (rstmts_calls (SizeOf.sizeOf t.f2) (rstmt_calls _) t.f2 (fun x hx => Nat.le_of_lt (List.sizeOf_lt_of_mem hx)) HR.out K2 d2 wq (Kd.C_below HC2.out HM.out.1.1) (by have h := HSZ.out; have h2 := HFL.out; rw [HFT.out] at h2; simp only [printF, thrF_eq, List.length_append, List.length_cons, List.length_nil] at h h2 ⊢; omega))
                have HV := Aside0.mk (tx_end (((((G.flatMap globF ++ As.flatMap arrF) ++ Ms.flatMap mutF) ++ (Ts.take i).flatMap thrF) ++ lineL [(⟨#[116, 104, 114, 101, 97, 100, 32]⟩ : ByteArray), t.f0, (⟨#[32, 123]⟩ : ByteArray)]) ++ t.f1.flatMap locF) (t.f2.flatMap (stmtF (SizeOf.sizeOf t.f2))))
                have hq : ((((((G.flatMap globF ++ As.flatMap arrF) ++ Ms.flatMap mutF) ++ (Ts.take i).flatMap thrF) ++ lineL [(⟨#[116, 104, 114, 101, 97, 100, 32]⟩ : ByteArray), t.f0, (⟨#[32, 123]⟩ : ByteArray)]) ++ t.f1.flatMap locF) ++ (t.f2.flatMap (stmtF (SizeOf.sizeOf t.f2)) ++ lineL [(⟨#[125]⟩ : ByteArray)])).length ≤ 140737488355328 := (by have h := HSZ.out; have h2 := HFL.out; rw [HFT.out] at h2; simp only [printF, thrF_eq, List.length_append, List.length_cons, List.length_nil] at h h2 ⊢; omega)
                rw [← tx_size, ← HV.out] at hq
                obtain ⟨a, ha⟩ : ∃ z_, tx (((((G.flatMap globF ++ As.flatMap arrF) ++ Ms.flatMap mutF) ++ (Ts.take i).flatMap thrF) ++ lineL [(⟨#[116, 104, 114, 101, 97, 100, 32]⟩ : ByteArray), t.f0, (⟨#[32, 123]⟩ : ByteArray)]) ++ t.f1.flatMap locF) = z_ := ⟨_, rfl⟩
                rw [ha] at HV hq ⊢
                obtain ⟨tb, htb⟩ : ∃ z_, tx (t.f2.flatMap (stmtF (SizeOf.sizeOf t.f2))) = z_ := ⟨_, rfl⟩
                rw [htb] at HV hq HBO
                simp only [ByteArray.size_append, szl14, List.size_toArray, List.length_cons, List.length_nil, Nat.zero_add, Nat.reduceAdd] at hq
                have hq0 : a.size + tb.size ≤ 9223372036854775807 := by omega
                have hq1 : a.size + tb.size + 2 ≤ 9223372036854775807 := by omega
                clear ha htb
                go_wp2_with fail
                refine HBO.out.mono ?_
                rintro e1 w7 ⟨rfl, hb⟩
                have HB7 := Aside0.mk hb
                clear hb
                go_wp2_with fail
                go_roundg (Ts.length - (i + 1))
                case measure => omega
                case rel => exact ⟨i + 1, by omega, by omega, by go_num, by rw [HV.out, HFT.out, thrF_eq]; simp only [List.append_assoc], ⟨HM.out.1.on HB7.out⟩⟩
            · have hltz : ¬ (i : Int) < (Ts.length : Int) := by omega
              have he : Ts.take i = Ts := List.take_of_length_le (by omega)
              rw [he]
              obtain ⟨z, hz⟩ : ∃ z, tx ((G.flatMap globF ++ As.flatMap arrF) ++ Ms.flatMap mutF ++ Ts.flatMap thrF) = z := ⟨_, rfl⟩
              rw [hz]
              have HZ := Aside0.mk hz
              clear hlt he hz
              go_wp2_with fail
              go_meet
              exact ⟨congrArg Value.string HZ.out.symm, HL⟩
        case rest =>
          clear HP
          have HC := hcut
          clear hcut
          obtain ⟨rfl, HP⟩ := HC
          generalize wc = wk3 at *
          have e : tx (((G.flatMap globF ++ As.flatMap arrF) ++ Ms.flatMap mutF) ++ Ts.flatMap thrF) = tx (printF G As Ms Ts) := by simp only [printF, List.append_assoc]
          obtain ⟨z, hz⟩ : ∃ z, tx (printF G As Ms Ts) = z := ⟨_, rfl⟩
          rw [e, hz]
          have HZ := Aside0.mk hz
          clear e hz
          go_wp2_with fail
          go_ret
          exact ⟨congrArg (fun x => Ending.returned (.string x)) HZ.out.symm, HP.out.1⟩
end Go.Proofs.YtfeaekdhpkdljaaDoor.Sh
