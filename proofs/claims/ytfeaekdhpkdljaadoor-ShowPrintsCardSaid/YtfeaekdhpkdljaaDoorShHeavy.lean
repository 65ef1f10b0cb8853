/- meddlerlaw6.heavy: what is not heavy is small. -/
import Derived.Test.YtfeaekdhpkdljaaDoorShWeighS
namespace Go.Proofs.YtfeaekdhpkdljaaDoor.Sh
open Go.RowKit Go.Proofs.YtfeaekdhpkdljaaDoorW.PrintWords Go.Proofs.YtfeaekdhpkdljaaDoorW.PrintLast
set_option linter.unusedVariables false
set_option linter.unusedSimpArgs false
noncomputable def wT (t : S52) : Nat := t.f0.size + t.f1.length + (t.f1.map ByteArray.size).sum + (t.f2.length + (t.f2.map (wS (SizeOf.sizeOf t.f2))).sum)
def wfT (t : S52) : Prop := t.f0.size ≤ 140737488355328 ∧ t.f1.length ≤ 140737488355328 ∧ (∀ m ∈ t.f1, m.size ≤ 140737488355328) ∧ t.f2.length ≤ 140737488355328 ∧ ∀ s ∈ t.f2, wfS (SizeOf.sizeOf t.f2) s
noncomputable def wP (G : List S59) (As : List S61) (Ms : List ByteArray) (Ts : List S52) : Nat := G.length + As.length + Ms.length + Ts.length + (G.map fun g => g.f0.size).sum + (As.map fun g => g.f0.size).sum + (Ms.map ByteArray.size).sum + (Ts.map wT).sum
/-- What stands all through heavy. -/
def Pv (w0 : World) (gp : Nat) (pc : Array Value) (w : World) : Prop := Below w0.heap.size w0 w ∧ w.heap[gp]? = some (.cells pc 27 (0, 0))
theorem Pv.on {w0 w w' : World} {gp : Nat} {pc : Array Value} (h : Pv w0 gp pc w) (hb : Below w.heap.size w w') : Pv w0 gp pc w' := ⟨below_then h.1 h.1.size hb, (hb.block gp (blk_lt h.2)).trans h.2⟩
set_option maxHeartbeats 8000000 in
set_option maxRecDepth 100000 in
theorem heavy_calls (w0 : World) (G : List S59) (As : List S61) (Ms : List ByteArray) (Ts : List S52) (AG AA AM AT : Option Addr) (cG cA cM cT : Nat) (hG : k59.C w0 AG G.length G) (hA : k61.C w0 AA As.length As) (hM : Kd.string.C w0 AM Ms.length Ms) (hT : k52.C w0 AT Ts.length Ts)
    (lG : G.length ≤ 140737488355328) (lA : As.length ≤ 140737488355328) (lM : Ms.length ≤ 140737488355328) (lT : Ts.length ≤ 140737488355328) (rG : ∀ g ∈ G, g.f0.size ≤ 140737488355328) (rA : ∀ g ∈ As, g.f0.size ≤ 140737488355328) (rM : ∀ m ∈ Ms, m.size ≤ 140737488355328) (rT : ∀ t ∈ Ts, wfT t) :
    Calls Tryd.prog 8 #[.agg #[.slice AG G.length cG, .slice AA As.length cA, .slice AM Ms.length cM, .slice AT Ts.length cT]] w0 fun e w' => (e = .returned (.bool true) ∧ Below w0.heap.size w0 w') ∨ (e = .returned (.bool false) ∧ wP G As Ms Ts ≤ 1500 ∧ Below w0.heap.size w0 w') := by
  have HCG := Aside0.mk hG
  have HCA := Aside0.mk hA
  have HCM := Aside0.mk hM
  have HCT := Aside0.mk hT
  have HRG := Aside0.mk rG
  have HRA := Aside0.mk rA
  have HRM := Aside0.mk rM
  have HRT := Aside0.mk rT
  clear hG hA hM hT rG rA rM rT
  go_enter Tryd.func8, Tryd.ntmps8
  go_upto_block 0 with (first | ((with_reducible refine gate_dst (N := 1) rfl ?_); refine box_event ?hg (N := 1) ?hd (cs := #[.slice AG G.length cG, .slice AA As.length cA, .slice AM Ms.length cM, .slice AT Ts.length cT]) (t := 27) ?hr ?_; (case hd => rfl); (case hg => rfl); (case hr => first | (go_simp; done) | (go_simp; rfl)); intro gp hgg wa hlit hb; have HP := Aside0.mk (show Pv w0 gp #[.slice AG G.length cG, .slice AA As.length cA, .slice AM Ms.length cM, .slice AT Ts.length cT] wa from ⟨hb, hlit⟩); have hy0 : wa.cell? ⟨gp, 0, none⟩ = some (.slice AG G.length cG) := (blk_cell hlit 0).trans rfl; have hy1 : wa.cell? ⟨gp, 1, none⟩ = some (.slice AA As.length cA) := (blk_cell hlit 1).trans rfl; have hy2 : wa.cell? ⟨gp, 2, none⟩ = some (.slice AM Ms.length cM) := (blk_cell hlit 2).trans rfl; have hy3 : wa.cell? ⟨gp, 3, none⟩ = some (.slice AT Ts.length cT) := (blk_cell hlit 3).trans rfl; clear hlit hb hgg))
  obtain ⟨x0, hx0⟩ : ∃ x : Int, 1500 - (G.length : Int) - (As.length : Int) - (Ms.length : Int) - (Ts.length : Int) = x := ⟨_, rfl⟩
  have h2 : x0 ≤ 1500 := by omega
  have h3 : -300000000000000000 ≤ x0 := by omega
  have h5 : 0 < x0 → ((G.length + As.length + Ms.length + Ts.length : Nat) : Int) ≤ 1500 - x0 := by omega
  rw [hx0]
  clear hx0
  go_cut [3, 4] (fun s3 sx wx => ∃ x : Int, s3 = .int .i64 x ∧ x ≤ 1500 ∧ -300000000000000000 ≤ x ∧ (0 < x → ((G.length + As.length + Ms.length + Ts.length + (G.map fun g => g.f0.size).sum : Nat) : Int) ≤ 1500 - x) ∧ Aside0 (Pv w0 gp #[.slice AG G.length cG, .slice AA As.length cA, .slice AM Ms.length cM, .slice AT Ts.length cT] wx))
  case first =>
    go_wp2_with fail
    go_loopg [3, 4] G.length (fun gg s3 sx wr => ∃ (i : Nat) (x : Int), i ≤ G.length ∧ G.length - i ≤ gg ∧ sx = .int .i64 i ∧ s3 = .int .i64 x ∧ x ≤ 1500 ∧ -300000000000000000 ≤ x ∧ (0 < x → ((G.length + As.length + Ms.length + Ts.length + ((G.take i).map (fun g : S59 => g.f0.size)).sum : Nat) : Int) ≤ 1500 - x) ∧ Aside0 (Pv w0 gp #[.slice AG G.length cG, .slice AA As.length cA, .slice AM Ms.length cM, .slice AT Ts.length cT] wr))
    case atStart => exact ⟨0, x0, Nat.zero_le _, by omega, rfl, rfl, h2, h3, by simpa using h5, HP⟩
    case round =>
      obtain ⟨i, x, hi, hgg, rfl, rfl, hx1, hx2, hx4, HL⟩ := hrel
      generalize wr = wo at *
      have hcp : wo.cell? ⟨gp, 0, none⟩ = some (.slice AG G.length cG) := (blk_cell HL.out.2 0).trans rfl
      have done : (i = G.length ∨ x ≤ 0) → (0 < x → ((G.length + As.length + Ms.length + Ts.length + (G.map fun g => g.f0.size).sum : Nat) : Int) ≤ 1500 - x) := by
        intro hd hp
        have he : G.take i = G := List.take_of_length_le (by omega)
        rw [he] at hx4
        exact hx4 hp
      have HD := Aside0.mk done
      clear done
      by_cases hlt : i < G.length
      · have hltz : (i : Int) < (G.length : Int) := by omega
        by_cases hpx : 0 < x
        · obtain ⟨ad, rfl, p0, p1⟩ := at_T59 (Kd.C_below HCG.out HL.out.1) (i : Int) (by omega) hltz
          have hx : rd_T59 G (i : Int) = G[i] := by simp [rd_T59, hlt]
          rw [Int.toNat_natCast, hx] at p0 p1
          have hsz := HRG.out _ (List.getElem_mem hlt)
          have hsm := sum_take (fun g : S59 => g.f0.size) G i hlt
          obtain ⟨g, hg⟩ : ∃ g, G[i] = g := ⟨_, rfl⟩
          rw [hg] at p0 p1 hsz hsm
          have HSM := Aside0.mk (show ((G.take (i + 1)).map (fun g : S59 => g.f0.size)).sum = ((G.take i).map (fun g : S59 => g.f0.size)).sum + g.f0.size from hsm)
          clear hx hg hlt hsm
          go_wp2_with fail
          go_roundg (G.length - (i + 1))
          case measure => omega
          case rel => exact ⟨i + 1, _, by omega, by omega, by go_num, by go_num, by omega, by omega, by have h := HSM.out; rw [h]; omega, HL⟩
        · have hqw := HD.out (.inr (by omega))
          clear hlt
          go_wp2_with fail
          go_meet
          exact ⟨x, rfl, hx1, hx2, hqw, HL⟩
      · have hltz : ¬ (i : Int) < (G.length : Int) := by omega
        have hqw := HD.out (.inl (by omega))
        clear hlt
        go_wp2_with fail
        go_meet
        exact ⟨x, rfl, hx1, hx2, hqw, HL⟩
  case rest =>
    clear HP h2 h3 h5
    have HC := hcut
    clear hcut
    obtain ⟨x0, rfl, h2, h3, h5, HP⟩ := HC
    generalize wc = wk0 at *
    have hcp0 : wk0.cell? ⟨gp, 1, none⟩ = some (.slice AA As.length cA) := (blk_cell HP.out.2 1).trans rfl
    go_upto_block 2 with fail
    go_cut [3, 5] (fun s3 sx wx => ∃ x : Int, s3 = .int .i64 x ∧ x ≤ 1500 ∧ -300000000000000000 ≤ x ∧ (0 < x → ((G.length + As.length + Ms.length + Ts.length + (G.map fun g => g.f0.size).sum + (As.map fun g => g.f0.size).sum : Nat) : Int) ≤ 1500 - x) ∧ Aside0 (Pv w0 gp #[.slice AG G.length cG, .slice AA As.length cA, .slice AM Ms.length cM, .slice AT Ts.length cT] wx))
    case first =>
      go_wp2_with fail
      go_loopg [3, 5] As.length (fun gg s3 sx wr => ∃ (i : Nat) (x : Int), i ≤ As.length ∧ As.length - i ≤ gg ∧ sx = .int .i64 i ∧ s3 = .int .i64 x ∧ x ≤ 1500 ∧ -300000000000000000 ≤ x ∧ (0 < x → ((G.length + As.length + Ms.length + Ts.length + (G.map fun g => g.f0.size).sum + ((As.take i).map (fun g : S61 => g.f0.size)).sum : Nat) : Int) ≤ 1500 - x) ∧ Aside0 (Pv w0 gp #[.slice AG G.length cG, .slice AA As.length cA, .slice AM Ms.length cM, .slice AT Ts.length cT] wr))
      case atStart => exact ⟨0, x0, Nat.zero_le _, by omega, rfl, rfl, h2, h3, by simpa using h5, HP⟩
      case round =>
        obtain ⟨i, x, hi, hgg, rfl, rfl, hx1, hx2, hx4, HL⟩ := hrel
        generalize wr = wo at *
        have hcp : wo.cell? ⟨gp, 1, none⟩ = some (.slice AA As.length cA) := (blk_cell HL.out.2 1).trans rfl
        have done : (i = As.length ∨ x ≤ 0) → (0 < x → ((G.length + As.length + Ms.length + Ts.length + (G.map fun g => g.f0.size).sum + (As.map fun g => g.f0.size).sum : Nat) : Int) ≤ 1500 - x) := by
          intro hd hp
          have he : As.take i = As := List.take_of_length_le (by omega)
          rw [he] at hx4
          exact hx4 hp
        have HD := Aside0.mk done
        clear done
        by_cases hlt : i < As.length
        · have hltz : (i : Int) < (As.length : Int) := by omega
          by_cases hpx : 0 < x
          · obtain ⟨ad, rfl, p0, p1⟩ := at_T61 (Kd.C_below HCA.out HL.out.1) (i : Int) (by omega) hltz
            have hx : rd_T61 As (i : Int) = As[i] := by simp [rd_T61, hlt]
            rw [Int.toNat_natCast, hx] at p0 p1
            have hsz := HRA.out _ (List.getElem_mem hlt)
            have hsm := sum_take (fun g : S61 => g.f0.size) As i hlt
            obtain ⟨g, hg⟩ : ∃ g, As[i] = g := ⟨_, rfl⟩
            rw [hg] at p0 p1 hsz hsm
            have HSM := Aside0.mk (show ((As.take (i + 1)).map (fun g : S61 => g.f0.size)).sum = ((As.take i).map (fun g : S61 => g.f0.size)).sum + g.f0.size from hsm)
            clear hx hg hlt hsm
            go_wp2_with fail
            go_roundg (As.length - (i + 1))
            case measure => omega
            case rel => exact ⟨i + 1, _, by omega, by omega, by go_num, by go_num, by omega, by omega, by have h := HSM.out; rw [h]; omega, HL⟩
          · have hqw := HD.out (.inr (by omega))
            clear hlt
            go_wp2_with fail
            go_meet
            exact ⟨x, rfl, hx1, hx2, hqw, HL⟩
        · have hltz : ¬ (i : Int) < (As.length : Int) := by omega
          have hqw := HD.out (.inl (by omega))
          clear hlt
          go_wp2_with fail
          go_meet
          exact ⟨x, rfl, hx1, hx2, hqw, HL⟩
    case rest =>
      clear HP h2 h3 h5
      have HC := hcut
      clear hcut
      obtain ⟨x0, rfl, h2, h3, h5, HP⟩ := HC
      generalize wc = wk1 at *
      have hcp1 : wk1.cell? ⟨gp, 2, none⟩ = some (.slice AM Ms.length cM) := (blk_cell HP.out.2 2).trans rfl
      go_upto_block 4 with fail
      go_cut [3, 6] (fun s3 sx wx => ∃ x : Int, s3 = .int .i64 x ∧ x ≤ 1500 ∧ -300000000000000000 ≤ x ∧ (0 < x → ((G.length + As.length + Ms.length + Ts.length + (G.map fun g => g.f0.size).sum + (As.map fun g => g.f0.size).sum + (Ms.map ByteArray.size).sum : Nat) : Int) ≤ 1500 - x) ∧ Aside0 (Pv w0 gp #[.slice AG G.length cG, .slice AA As.length cA, .slice AM Ms.length cM, .slice AT Ts.length cT] wx))
      case first =>
        go_wp2_with fail
        go_loopg [3, 6] Ms.length (fun gg s3 sx wr => ∃ (i : Nat) (x : Int), i ≤ Ms.length ∧ Ms.length - i ≤ gg ∧ sx = .int .i64 i ∧ s3 = .int .i64 x ∧ x ≤ 1500 ∧ -300000000000000000 ≤ x ∧ (0 < x → ((G.length + As.length + Ms.length + Ts.length + (G.map fun g => g.f0.size).sum + (As.map fun g => g.f0.size).sum + ((Ms.take i).map ByteArray.size).sum : Nat) : Int) ≤ 1500 - x) ∧ Aside0 (Pv w0 gp #[.slice AG G.length cG, .slice AA As.length cA, .slice AM Ms.length cM, .slice AT Ts.length cT] wr))
        case atStart => exact ⟨0, x0, Nat.zero_le _, by omega, rfl, rfl, h2, h3, by simpa using h5, HP⟩
        case round =>
          obtain ⟨i, x, hi, hgg, rfl, rfl, hx1, hx2, hx4, HL⟩ := hrel
          generalize wr = wo at *
          have hcp : wo.cell? ⟨gp, 2, none⟩ = some (.slice AM Ms.length cM) := (blk_cell HL.out.2 2).trans rfl
          have done : (i = Ms.length ∨ x ≤ 0) → (0 < x → ((G.length + As.length + Ms.length + Ts.length + (G.map fun g => g.f0.size).sum + (As.map fun g => g.f0.size).sum + (Ms.map ByteArray.size).sum : Nat) : Int) ≤ 1500 - x) := by
            intro hd hp
            have he : Ms.take i = Ms := List.take_of_length_le (by omega)
            rw [he] at hx4
            exact hx4 hp
          have HD := Aside0.mk done
          clear done
          by_cases hlt : i < Ms.length
          · have hltz : (i : Int) < (Ms.length : Int) := by omega
            by_cases hpx : 0 < x
            · obtain ⟨ad, rfl, p0⟩ := Kd.at_string (Kd.C_below HCM.out HL.out.1) (i : Int) (by omega) hltz
              have hx : rdOf ByteArray.empty Ms (i : Int) = Ms[i] := by simp [rdOf, hlt]
              rw [Int.toNat_natCast, hx] at p0
              have hsz := HRM.out _ (List.getElem_mem hlt)
              have hsm := sum_take ByteArray.size Ms i hlt
              obtain ⟨m, hg⟩ : ∃ m, Ms[i] = m := ⟨_, rfl⟩
              rw [hg] at p0 hsz hsm
              have HSM := Aside0.mk hsm
              clear hx hg hlt hsm
              go_wp2_with fail
              go_roundg (Ms.length - (i + 1))
              case measure => omega
              case rel => exact ⟨i + 1, _, by omega, by omega, by go_num, by go_num, by omega, by omega, by have h := HSM.out; rw [h]; omega, HL⟩
            · have hqw := HD.out (.inr (by omega))
              clear hlt
              go_wp2_with fail
              go_meet
              exact ⟨x, rfl, hx1, hx2, hqw, HL⟩
          · have hltz : ¬ (i : Int) < (Ms.length : Int) := by omega
            have hqw := HD.out (.inl (by omega))
            clear hlt
            go_wp2_with fail
            go_meet
            exact ⟨x, rfl, hx1, hx2, hqw, HL⟩
      case rest =>
        clear HP h2 h3 h5
        have HC := hcut
        clear hcut
        obtain ⟨x0, rfl, h2, h3, h5, HP⟩ := HC
        generalize wc = wk2 at *
        have hcp2 : wk2.cell? ⟨gp, 3, none⟩ = some (.slice AT Ts.length cT) := (blk_cell HP.out.2 3).trans rfl
        go_upto_block 6 with fail
        go_cut [3, 7] (fun s3 sx wx => ∃ x : Int, s3 = .int .i64 x ∧ x ≤ 1500 ∧ -300000000000000000 ≤ x ∧ (0 < x → ((G.length + As.length + Ms.length + Ts.length + (G.map fun g => g.f0.size).sum + (As.map fun g => g.f0.size).sum + (Ms.map ByteArray.size).sum + (Ts.map wT).sum : Nat) : Int) ≤ 1500 - x) ∧ Aside0 (Pv w0 gp #[.slice AG G.length cG, .slice AA As.length cA, .slice AM Ms.length cM, .slice AT Ts.length cT] wx))
        case first =>
          go_wp2_with fail
          go_loopg [3, 7] Ts.length (fun gg s3 sx wr => ∃ (i : Nat) (x : Int), i ≤ Ts.length ∧ Ts.length - i ≤ gg ∧ sx = .int .i64 i ∧ s3 = .int .i64 x ∧ x ≤ 1500 ∧ -300000000000000000 ≤ x ∧ (0 < x → ((G.length + As.length + Ms.length + Ts.length + (G.map fun g => g.f0.size).sum + (As.map fun g => g.f0.size).sum + (Ms.map ByteArray.size).sum + ((Ts.take i).map wT).sum : Nat) : Int) ≤ 1500 - x) ∧ Aside0 (Pv w0 gp #[.slice AG G.length cG, .slice AA As.length cA, .slice AM Ms.length cM, .slice AT Ts.length cT] wr))
          case atStart => exact ⟨0, x0, Nat.zero_le _, by omega, rfl, rfl, h2, h3, by simpa using h5, HP⟩
          case round =>
            obtain ⟨i, x, hi, hgg, rfl, rfl, hx1, hx2, hx4, HL⟩ := hrel
            generalize wr = wo at *
            have hcp : wo.cell? ⟨gp, 3, none⟩ = some (.slice AT Ts.length cT) := (blk_cell HL.out.2 3).trans rfl
            have done : (i = Ts.length ∨ x ≤ 0) → (0 < x → ((G.length + As.length + Ms.length + Ts.length + (G.map fun g => g.f0.size).sum + (As.map fun g => g.f0.size).sum + (Ms.map ByteArray.size).sum + (Ts.map wT).sum : Nat) : Int) ≤ 1500 - x) := by
              intro hd hp
              have he : Ts.take i = Ts := List.take_of_length_le (by omega)
              rw [he] at hx4
              exact hx4 hp
            have HD := Aside0.mk done
            clear done
            by_cases hlt : i < Ts.length
            · have hltz : (i : Int) < (Ts.length : Int) := by omega
              by_cases hpx : 0 < x
              · obtain ⟨ad, cc, rfl, _, hK, hc0⟩ := Kd.C_get HCT.out z52 (i : Int) (by omega) hltz
                have hx : Ts.getD (i : Int).toNat z52 = Ts[i] := by simp [hlt]
                rw [hx] at hK
                have hsm := sum_take wT Ts i hlt
                have hwf := HRT.out _ (List.getElem_mem hlt)
                obtain ⟨t, hg⟩ : ∃ t, Ts[i] = t := ⟨_, rfl⟩
                rw [hg] at hK hsm hwf
                obtain ⟨K1, d1, K2, d2, rfl, l1, g1, l2, g2⟩ := k52_open hK
                have hat : ∀ j v, ([.string t.f0, .slice K1 t.f1.length d1, .slice K2 t.f2.length d2] : List Value)[j]? = some v → w0.cell? (if j = 0 then (ad.add (i * 3)) else ⟨(ad.add (i * 3)).block, (ad.add (i * 3)).off + j, none⟩) = some v := fun j v hj => by
                  have h : w0.cell? (ad.add (i * 3 + j)) = some v := by
                    have h := hc0 j v hj
                    rw [Int.toNat_natCast] at h
                    exact h
                  by_cases hj0 : j = 0
                  · subst hj0; rw [if_pos rfl]; exact h
                  · rw [if_neg hj0]
                    rw [add_field _ _ j (by omega)] at h
                    exact h
                have HAT := Aside0.mk hat
                have HC1 := Aside0.mk g1
                have HC2 := Aside0.mk g2
                have HLD := Aside0.mk l2
                have hz0 : t.f0.size ≤ 140737488355328 := hwf.1
                have hz1 : t.f1.length ≤ 140737488355328 := hwf.2.1
                have HWF := Aside0.mk hwf
                have HSM := Aside0.mk (show ((Ts.take (i + 1)).map wT).sum = ((Ts.take i).map wT).sum + (t.f0.size + t.f1.length + (t.f1.map ByteArray.size).sum + (t.f2.length + (t.f2.map (wS (SizeOf.sizeOf t.f2))).sum)) from hsm)
                have p0 : wo.cell? (ad.add (i * 3)) = some (.string t.f0) := pw_cell_below HL.out.1 (hat 0 _ rfl)
                have p1 : wo.cell? ⟨(ad.add (i * 3)).block, (ad.add (i * 3)).off + 1, none⟩ = some (.slice K1 t.f1.length d1) := pw_cell_below HL.out.1 (hat 1 _ rfl)
                clear hat hc0 hK hx hg hlt g1 g2 l1 l2 hsm hwf
                go_upto_region 17 with fail
                go_quiet (fail)
                go_upto_block 8 with fail
                obtain ⟨x1, hx1e⟩ : ∃ z : Int, x - (t.f0.size : Int) - (t.f1.length : Int) = z := ⟨_, rfl⟩
                rw [hx1e]
                go_cut [3, 8] (fun s3 sx wx => ∃ z : Int, s3 = .int .i64 z ∧ z ≤ x1 ∧ -1000000000000000 ≤ z ∧ (0 < z → (((t.f1.map ByteArray.size).sum : Nat) : Int) ≤ x1 - z) ∧ Aside0 (Pv w0 gp #[.slice AG G.length cG, .slice AA As.length cA, .slice AM Ms.length cM, .slice (some ad) Ts.length cT] wx))
                case first =>
                  go_wp2_with fail
                  go_loopg [3, 8] t.f1.length (fun gg s3 sx wr => ∃ (k : Nat) (z : Int), k ≤ t.f1.length ∧ t.f1.length - k ≤ gg ∧ sx = .int .i64 k ∧ s3 = .int .i64 z ∧ z ≤ x1 ∧ -1000000000000000 ≤ z ∧ (0 < z → ((((t.f1.take k).map ByteArray.size).sum : Nat) : Int) ≤ x1 - z) ∧ Aside0 (Pv w0 gp #[.slice AG G.length cG, .slice AA As.length cA, .slice AM Ms.length cM, .slice (some ad) Ts.length cT] wr))
                  case atStart => exact ⟨0, x1, Nat.zero_le _, by omega, rfl, rfl, by omega, by omega, by intro _; simp, ⟨HL.out.on (pw_below_drewN (Below.refl _ _) nq)⟩⟩
                  case round =>
                    obtain ⟨k, z, hk, hkg, rfl, rfl, hz2, hz3, hz4, HM⟩ := hrel
                    generalize wr = wq at *
                    have hcq : wq.cell? ⟨gp, 3, none⟩ = some (.slice (some ad) Ts.length cT) := (blk_cell HM.out.2 3).trans rfl
                    have q1 : wq.cell? ⟨(ad.add (i * 3)).block, (ad.add (i * 3)).off + 1, none⟩ = some (.slice K1 t.f1.length d1) := pw_cell_below HM.out.1 (HAT.out 1 _ rfl)
                    have done : (k = t.f1.length ∨ z ≤ 0) → (0 < z → (((t.f1.map ByteArray.size).sum : Nat) : Int) ≤ x1 - z) := by
                      intro hd hp
                      have he : t.f1.take k = t.f1 := List.take_of_length_le (by omega)
                      rw [he] at hz4
                      exact hz4 hp
                    have HDK := Aside0.mk done
                    clear done
                    by_cases hlt : k < t.f1.length
                    · have hltk : (k : Int) < (t.f1.length : Int) := by omega
                      by_cases hpz : 0 < z
                      · obtain ⟨ad2, rfl, p9⟩ := Kd.at_string (Kd.C_below HC1.out HM.out.1) (k : Int) (by omega) hltk
                        have hx : rdOf ByteArray.empty t.f1 (k : Int) = t.f1[k] := by simp [rdOf, hlt]
                        rw [Int.toNat_natCast, hx] at p9
                        have hsz := HWF.out.2.2.1 _ (List.getElem_mem hlt)
                        have hsm := sum_take ByteArray.size t.f1 k hlt
                        obtain ⟨m, hg⟩ : ∃ m, t.f1[k] = m := ⟨_, rfl⟩
                        rw [hg] at p9 hsz hsm
                        have HSK := Aside0.mk hsm
                        clear hx hg hlt hsm
                        go_wp2_with fail
                        go_roundg (t.f1.length - (k + 1))
                        case measure => omega
                        case rel => exact ⟨k + 1, _, by omega, by omega, by go_num, by go_num, by omega, by omega, by have h := HSK.out; rw [h]; omega, HM⟩
                      · have hqz := HDK.out (.inr (by omega))
                        clear hlt
                        go_wp2_with fail
                        go_meet
                        exact ⟨z, rfl, hz2, hz3, hqz, HM⟩
                    · have hltk : ¬ (k : Int) < (t.f1.length : Int) := by omega
                      have hqz := HDK.out (.inl (by omega))
                      clear hlt
                      go_wp2_with fail
                      go_meet
                      exact ⟨z, rfl, hz2, hz3, hqz, HM⟩
                case rest =>
                  have HC := hcut
                  clear hcut
                  obtain ⟨z, rfl, hz2, hz3, hz4, HM⟩ := HC
                  generalize wc = wq at *
                  have hcq : wq.cell? ⟨gp, 3, none⟩ = some (.slice (some ad) Ts.length cT) := (blk_cell HM.out.2 3).trans rfl
                  have q2 : wq.cell? ⟨(ad.add (i * 3)).block, (ad.add (i * 3)).off + 2, none⟩ = some (.slice K2 t.f2.length d2) := pw_cell_below HM.out.1 (HAT.out 2 _ rfl)
                  have HBO := Aside0.mk (weighStmts_calls (SizeOf.sizeOf t.f2) t.f2 K2 d2 z wq (Kd.C_below HC2.out HM.out.1) (fun s hs => Nat.le_of_lt (List.sizeOf_lt_of_mem hs)) HWF.out.2.2.2.2 HWF.out.2.2.2.1 (by omega) (by omega))
                  go_wp2_with fail
                  refine HBO.out.mono ?_
                  rintro q w7 ⟨r, rfl, ⟨d1, d2, d3, d4⟩, hb⟩
                  have HW7 := Aside0.mk (HM.out.on hb)
                  clear hb
                  go_wp2_with fail
                  go_roundg (Ts.length - (i + 1))
                  case measure => omega
                  case rel => exact ⟨i + 1, r, by omega, by omega, by go_num, rfl, by omega, by omega, by have h := HSM.out; rw [h]; omega, HW7⟩
              · have hqw := HD.out (.inr (by omega))
                clear hlt
                go_wp2_with fail
                go_meet
                exact ⟨x, rfl, hx1, hx2, hqw, HL⟩
            · have hltz : ¬ (i : Int) < (Ts.length : Int) := by omega
              have hqw := HD.out (.inl (by omega))
              clear hlt
              go_wp2_with fail
              go_meet
              exact ⟨x, rfl, hx1, hx2, hqw, HL⟩
        case rest =>
          clear HP h2 h3 h5
          have HC := hcut
          clear hcut
          obtain ⟨x0, rfl, h2, h3, h5, HP⟩ := HC
          generalize wc = wk3 at *
          have hcp3 : wk3.cell? ⟨gp, 3, none⟩ = some (.slice AT Ts.length cT) := (blk_cell HP.out.2 3).trans rfl
          by_cases hz : x0 ≤ 0
          · go_wp2_with fail
            go_ret
            exact .inl ⟨rfl, HP.out.1⟩
          · go_wp2_with fail
            go_ret
            exact .inr ⟨rfl, (by have h := h5 (by omega); simp only [wP]; omega), HP.out.1⟩
end Go.Proofs.YtfeaekdhpkdljaaDoor.Sh
