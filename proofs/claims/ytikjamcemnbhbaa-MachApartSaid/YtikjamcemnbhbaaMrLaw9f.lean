/- meddlerlaw9: a step of one thread changes no other thread. -/
import Derived.Test.YtikjamcemnbhbaaMrInts
import Derived.Test.YtikjamcemnbhbaaMrPkF
import Derived.Test.YtikjamcemnbhbaaMrOp
namespace Go.Proofs.Ytikjamcemnbhbaa.Mr
open Go.RowKit Go.Proofs.YtikjamcemnbhbaaW.PrintWords Go.Proofs.YtikjamcemnbhbaaW.PrintLast Go.Proofs.YtikjamcemnbhbaaW.PrintMore
set_option linter.unusedVariables false
set_option linter.unusedSimpArgs false
/-- What the law keeps of the threads. -/
def keepC (z : Value) (f : Nat → Value) (k : Nat) : Array Value := ((List.range 4).map fun j => if j < k then f j else z).toArray
theorem keepC_size (z : Value) (f : Nat → Value) (k : Nat) : (keepC z f k).size = 4 := by simp [keepC]
theorem keepC_get (z : Value) (f : Nat → Value) (k j : Nat) (h : j < k) (h6 : j < 4) : (keepC z f k)[j]? = some (f j) := by simp [keepC, h, h6]
theorem keepC_not (z : Value) (f : Nat → Value) (k : Nat) (h : k < 4) : (keepC z f k)[k]? = some z := by simp [keepC, h]
theorem keepC_put (z : Value) (f : Nat → Value) (k : Nat) (h : k < 4) (v : Value) : (keepC z f k).setIfInBounds k v = keepC z (fun j => if j = k then v else f j) (k + 1) := by
  apply Array.ext_getElem?
  intro j
  rw [Array.getElem?_setIfInBounds, keepC_size]
  unfold keepC
  by_cases e : k = j
  · subst e
    simp [h]
  · rw [if_neg e]
    by_cases hj : j < 4
    · by_cases hk : j < k
      · have h1 : j < k + 1 := by omega
        have h2 : ¬ j = k := by omega
        simp [hj, hk, h1, h2]
      · have : ¬ j < k + 1 := by omega
        simp [hj, hk, this]
    · simp [hj]
def atF (cs : List S49) (s : St) (j : Nat) : Value := .int .i64 (atOf cs s j)
theorem keepC_at (cs : List S49) (s : St) (k : Nat) (h : k < 4) : (keepC (.int .i64 0) (atF cs s) k).setIfInBounds k (.int .i64 (atOf cs s k)) = keepC (.int .i64 0) (atF cs s) (k + 1) := by
  rw [keepC_put _ _ _ h]
  have : (fun j => if j = k then Value.int .i64 (atOf cs s k) else atF cs s j) = atF cs s := by
    funext j
    by_cases e : j = k
    · subst e; simp [atF]
    · simp [e]
  rw [this]
set_option maxHeartbeats 8000000 in
set_option maxRecDepth 100000 in
theorem apart_main (w : World) (Ag : Option Addr) (cg : Nat) (G : List Int) (Aa : Option Addr) (ca : Nat) (A : List Int) (m : Int) (At : Option Addr) (ct : Nat) (cs : List S49) (hg : Kd.C (Kd.int .i64) w Ag G.length G) (hcg : G.length ≤ cg) (ha : Kd.C (Kd.int .i64) w Aa A.length A) (hca : A.length ≤ ca) (ht : Kd.C k49 w At cs.length cs) (hct : cs.length ≤ ct) (Al : Option Addr) (cl : Nat) (l : List S37) (hC : Kd.C k37 w Al l.length l) (hl : l.length ≤ 10000) (ok : OkUnit G A m cs) (hbig : ∀ (w : World) (Ag : Option Addr) (cg : Nat) (Aa : Option Addr) (ca : Nat) (At : Option Addr) (ct : Nat), Kd.C (Kd.int .i64) w Ag G.length G → G.length ≤ cg → Kd.C (Kd.int .i64) w Aa A.length A → A.length ≤ ca → Kd.C k49 w At cs.length cs → cs.length ≤ ct → Calls Try.prog 18 #[.agg #[.slice Ag G.length cg, .slice Aa A.length ca, .int .i64 m, .slice At cs.length ct]] w fun e w' => e = .returned (.bool false) ∧ Below w.heap.size w w') :
    Calls Try.prog 4 #[.agg #[.slice Ag G.length cg, .slice Aa A.length ca, .int .i64 m, .slice At cs.length ct], .slice Al l.length cl] w fun e w' => e = .returned (.bool true) ∧ Below w.heap.size w w' := by
  have hcs := ok.tl
  have hlz : ¬ (10000 : Int) < (l.length : Int) := by omega
  have HG := Aside0.mk hg
  have HA := Aside0.mk ha
  have HT := Aside0.mk ht
  have HCG := Aside0.mk hcg
  have HCA := Aside0.mk hca
  have HCT := Aside0.mk hct
  have HC := Aside0.mk hC
  have HBG := Aside0.mk hbig
  have OK := Aside0.mk ok
  clear hg ha ht hcg hca hct hC hbig ok
  go_enter Try.func4, Try.ntmps4
  go_wp2_with (first | ((with_reducible refine gate_dst (N := 2) rfl ?_); refine box_event ?hg (N := 2) ?hd (cs := #[.slice Ag G.length cg, .slice Aa A.length ca, .int .i64 m, .slice At cs.length ct]) (t := 25) ?hr ?_; (case hd => rfl); (case hg => rfl); (case hr => first | (go_simp; done) | (go_simp; rfl)); intro gu hgg w1 hlit hb; have HLw1 := Aside0.mk hlit; have HKw1 := Aside0.mk hb; have HGw1 := Aside0.mk hgg; have HB1 := Aside0.mk hb; have HU1 := Aside0.mk hlit; have hu0 : w1.cell? ⟨gu, 0, none⟩ = some (.slice Ag G.length cg) := (blk_cell HU1.out 0).trans rfl; have hu1 : w1.cell? ⟨gu, 1, none⟩ = some (.slice Aa A.length ca) := (blk_cell HU1.out 1).trans rfl; have hu2 : w1.cell? ⟨gu, 2, none⟩ = some (.int .i64 m) := (blk_cell HU1.out 2).trans rfl; have hu3 : w1.cell? ⟨gu, 3, none⟩ = some (.slice At cs.length ct) := (blk_cell HU1.out 3).trans rfl; clear hlit hb hgg))
  refine (HBG.out w1 Ag cg Aa ca At ct (Kd.C_below HG.out HB1.out) HCG.out (Kd.C_below HA.out HB1.out) HCA.out (Kd.C_below HT.out HB1.out) HCT.out).mono ?_
  rintro e w2 ⟨rfl, hb⟩
  have HB2 := Aside0.mk (below_on HB1.out hb)
  have HU2 := Aside0.mk (below_read hb HU1.out)
  clear hb
  clear hu0 hu1 hu2 hu3
  have hu0 : w2.cell? ⟨gu, 0, none⟩ = some (.slice Ag G.length cg) := (blk_cell HU2.out 0).trans rfl
  have hu1 : w2.cell? ⟨gu, 1, none⟩ = some (.slice Aa A.length ca) := (blk_cell HU2.out 1).trans rfl
  have hu2 : w2.cell? ⟨gu, 2, none⟩ = some (.int .i64 m) := (blk_cell HU2.out 2).trans rfl
  have hu3 : w2.cell? ⟨gu, 3, none⟩ = some (.slice At cs.length ct) := (blk_cell HU2.out 3).trans rfl
  go_wp2_with fail
  refine (new_live w2 Ag cg G Aa ca A m At ct cs (Kd.C_below HG.out HB2.out) HCG.out (Kd.C_below HA.out HB2.out) HCA.out (Kd.C_below HT.out HB2.out) HCT.out OK.out).mono ?_
  rintro e w3 ⟨ph, rfl, hL, hb⟩
  have H3 := Aside0.mk (Lv.of hL (sm_new OK.out) rfl (Nat.le_refl _) (Nat.le_refl _))
  have HB3 := Aside0.mk (below_on HB2.out hb)
  have HU3 := Aside0.mk (below_read hb HU2.out)
  have HGU := Aside0.mk (show gu < w2.heap.size from blk_lt HU2.out)
  have HW2 := Aside0.mk (show w.heap.size ≤ w2.heap.size from HB2.out.size)
  have HW3 := Aside0.mk (show w2.heap.size ≤ w3.heap.size from hb.size)
  clear hL hb
  clear hu0 hu1 hu2 hu3
  have hu0 : w3.cell? ⟨gu, 0, none⟩ = some (.slice Ag G.length cg) := (blk_cell HU3.out 0).trans rfl
  have hu1 : w3.cell? ⟨gu, 1, none⟩ = some (.slice Aa A.length ca) := (blk_cell HU3.out 1).trans rfl
  have hu2 : w3.cell? ⟨gu, 2, none⟩ = some (.int .i64 m) := (blk_cell HU3.out 2).trans rfl
  have hu3 : w3.cell? ⟨gu, 3, none⟩ = some (.slice At cs.length ct) := (blk_cell HU3.out 3).trans rfl
  go_wp2_with fail
  go_loopg [7] l.length (fun gg s7 wr => ∃ (i : Nat) (s : St), i ≤ l.length ∧ l.length - i ≤ gg ∧ s7 = .int .i64 i ∧ Aside0 (Lv w2.heap.size w3.heap.size w3.heap.size wr ph cs A.length s ∧ wr.heap[gu]? = some (.cells #[.slice Ag G.length cg, .slice Aa A.length ca, .int .i64 m, .slice At cs.length ct] 25 (0, 0)) ∧ Below w.heap.size w wr))
  case atStart => exact ⟨0, _, Nat.zero_le _, by omega, rfl, ⟨H3.out, HU3.out, HB3.out⟩⟩
  case round =>
    clear H3 HB3 HU3 hu0 hu1 hu2 hu3
    obtain ⟨i, s, hi, hgg, rfl, HL⟩ := hrel
    generalize wr = wo at *
    by_cases hlt : i < l.length
    · by_cases h300 : i < 300
      · have hltz : (i : Int) < (l.length : Int) := by omega
        have h3z : (i : Int) < 300 := by omega
        obtain ⟨ad, rfl, hp0, hp1⟩ := at_T37 HC.out (i : Int) (by omega) hltz
        rw [Int.toNat_natCast] at hp0 hp1
        generalize rd_T37 l (i : Int) = p at hp0 hp1
        obtain ⟨t, inp⟩ := p
        simp only at hp0 hp1
        have HP0 := Aside0.mk hp0
        have HP1 := Aside0.mk hp1
        clear hp0 hp1
        go_wp2_with (first | ((with_reducible refine gate_dst (N := 8) rfl ?_); refine box_event ?hg (N := 8) ?hd (cs := #[.int .i64 0, .int .i64 0, .int .i64 0, .int .i64 0]) (t := 43) ?hr ?_; (case hd => rfl); (case hg => rfl); (case hr => first | (go_simp; done) | (go_simp; rfl)); intro g8 hgg w6 hlit hb; have HLw6 := Aside0.mk hlit; have HKw6 := Aside0.mk hb; have HGw6 := Aside0.mk hgg; have HK6 := Aside0.mk hb; clear hlit hb hgg) | ((with_reducible refine gate_dst (N := 9) rfl ?_); refine box_event ?hg (N := 9) ?hd (cs := #[.slice none 0 0, .slice none 0 0, .slice none 0 0, .slice none 0 0]) (t := 44) ?hr ?_; (case hd => rfl); (case hg => rfl); (case hr => first | (go_simp; done) | (go_simp; rfl)); intro g9 hgg w7 hlit hb; have HLw7 := Aside0.mk hlit; have HKw7 := Aside0.mk hb; have HGw7 := Aside0.mk hgg; have HK7 := Aside0.mk (below_on HK6.out hb); have HL7 := Aside0.mk (below_read hb HLw6.out); clear hlit hb hgg))
        have HW7 := Aside0.mk (show wo.heap.size ≤ w7.heap.size ∧ wo.heap.size ≤ g8 ∧ wo.heap.size ≤ g9 ∧ g8 ≠ g9 ∧ g8 < w7.heap.size ∧ g9 < w7.heap.size from ⟨HK7.out.size, by rw [HGw6.out]; exact Nat.le_refl _, by rw [HGw7.out]; exact HK6.out.size, by rw [HGw7.out]; have := blk_lt HLw6.out; omega, blk_lt HL7.out, blk_lt HLw7.out⟩)
        go_loopg [10] cs.length (fun gg s10 wr => ∃ (k : Nat) (f : Nat → Value), k ≤ cs.length ∧ cs.length - k ≤ gg ∧ s10 = .int .i64 k ∧ Aside0 (Below wo.heap.size wo wr ∧ w7.heap.size ≤ wr.heap.size ∧ wr.heap[g8]? = some (.cells (keepC (.int .i64 0) (atF cs s) k) 43 (0, 0)) ∧ wr.heap[g9]? = some (.cells (keepC (.slice none 0 0) f k) 44 (0, 0)) ∧ ∀ j, j < k → wr.ownsRow w7.heap.size 3 1 (f j) (varsOf cs s j).length (nums .i64 (varsOf cs s j))))
        case atStart => exact ⟨0, fun _ => .slice none 0 0, Nat.zero_le _, by omega, rfl, ⟨HK7.out, Nat.le_refl _, HL7.out, HLw7.out, fun j hj => absurd hj (Nat.not_lt_zero _)⟩⟩
        case round =>
          clear HK7 HLw7 HL7
          obtain ⟨k, f, hk, hgk, rfl, HK⟩ := hrel
          generalize wr = wq at *
          have HU := Aside0.mk (below_read HK.out.1 HL.out.2.1)
          have hu3 : wq.cell? ⟨gu, 3, none⟩ = some (.slice At cs.length ct) := (blk_cell HU.out 3).trans rfl
          by_cases hkm : k < cs.length
          · have hkz : (k : Int) < (cs.length : Int) := by omega
            have hk6 : (k : Int) < 4 := by omega
            have hk0 : (0 : Int) ≤ (k : Int) := by omega
            go_wp2_with fail
            refine start_ (n := 12) (S := fun w' => True) (ds := []) #[false, false, false, false, false, false, false, false, false, false, false, false] (by kernel_rfl) rfl rfl trivial (fun hHeld => ?_)
            refine pure_ (i := 0) (N := some 47) (v := ?_) (a' := ?_) #[true, false, false, false, false, false, false, false, false, false, false, false] rfl rfl (by kernel_rfl) (fun _ _ _ h => h) (Or.inl ⟨by rfl, ?_⟩) ?_ ?_
            rotate_left
            · intro w'
              go_simp
              with_reducible rfl
            rotate_left
            · simp only [Act.put, List.setIfInBounds_toArray, List.set_cons_zero, List.set_cons_succ, i64_w, i32_w]
              rfl
            refine pure_ (i := 1) (N := some 48) (v := ?_) (a' := ?_) #[true, true, false, false, false, false, false, false, false, false, false, false] rfl rfl (by kernel_rfl) (fun _ _ _ h => h) (Or.inl ⟨by rfl, ?_⟩) ?_ ?_
            rotate_left
            · intro w'
              go_simp
              with_reducible rfl
            rotate_left
            · simp only [Act.put, List.setIfInBounds_toArray, List.set_cons_zero, List.set_cons_succ, i64_w, i32_w]
              rfl
            refine pure_ (i := 2) (N := some 49) (v := ?_) (a' := ?_) #[true, true, true, false, false, false, false, false, false, false, false, false] rfl rfl (by kernel_rfl) (fun _ _ _ h => h) (Or.inl ⟨by rfl, ?_⟩) ?_ ?_
            rotate_left
            · intro w'
              go_simp
              with_reducible rfl
            rotate_left
            · simp only [Act.put, List.setIfInBounds_toArray, List.set_cons_zero, List.set_cons_succ, i64_w, i32_w]
              rfl
            refine pure_ (i := 3) (N := some 50) (v := ?_) (a' := ?_) #[true, true, true, true, false, false, false, false, false, false, false, false] rfl rfl (by kernel_rfl) (fun _ _ _ h => h) (Or.inl ⟨by rfl, ?_⟩) ?_ ?_
            rotate_left
            · intro w'
              go_simp
              with_reducible rfl
            rotate_left
            · simp only [Act.put, List.setIfInBounds_toArray, List.set_cons_zero, List.set_cons_succ, i64_w, i32_w]
              rfl
            refine pure_ (i := 5) (N := some 52) (v := ?_) (a' := ?_) #[true, true, true, true, false, true, false, false, false, false, false, false] rfl rfl (by kernel_rfl) (fun _ _ _ h => h) (Or.inl ⟨by rfl, ?_⟩) ?_ ?_
            rotate_left
            · intro w'
              go_simp
              with_reducible rfl
            rotate_left
            · simp only [Act.put, List.setIfInBounds_toArray, List.set_cons_zero, List.set_cons_succ, i64_w, i32_w]
              rfl
            refine pure_ (i := 6) (N := some 53) (v := ?_) (a' := ?_) #[true, true, true, true, false, true, true, false, false, false, false, false] rfl rfl (by kernel_rfl) (fun _ _ _ h => h) (Or.inl ⟨by rfl, ?_⟩) ?_ ?_
            rotate_left
            · intro w'
              go_simp
              with_reducible rfl
            rotate_left
            · simp only [Act.put, List.setIfInBounds_toArray, List.set_cons_zero, List.set_cons_succ, i64_w, i32_w]
              rfl
            refine one_ (i := 4) (N := some 51) #[true, true, true, true, true, true, true, false, false, false, false, false] rfl rfl (by kernel_rfl) (by decide) (fun K hK => ?_)
            refine goes_ Try.func24 (by kernel_rfl) rfl #[.pointer (some ⟨ph.bm, 0, none⟩), .int .i64 k] (by rfl) rfl rfl (by simp only [List.map_toArray, List.map_cons, List.map_nil, Act.eval]; rfl) ?_
            refine ((HL.out.1.below (below_drew HK.out.1)).at_ (k : Int) rfl).mono ?_
            rintro e w8 ⟨rfl, hb⟩
            have HB8 := Aside0.mk (below_on (below_drew HK.out.1) hb)
            have HG8 := Aside0.mk (below_read hb (HK.out.2.2.1 : wq.drew.heap[g8]? = _))
            have HG9 := Aside0.mk (below_read hb (HK.out.2.2.2.1 : wq.drew.heap[g9]? = _))
            have HF8 := Aside0.mk (fun j hj => own_below (w := wq.drew) (HK.out.2.2.2.2 j hj) hb)
            have HS8 := Aside0.mk (show w7.heap.size ≤ w8.heap.size from Nat.le_trans HK.out.2.1 hb.size)
            clear hb
            refine ⟨_, rfl, ?_⟩
            refine hK.out _ _ trivial (fun hHeld => ?_)
            clear hK K
            refine norm_ (a' := ?_) ?_ ?_
            rotate_left
            · show Act.put _ (some 51) _ = _
              simp only [Act.put, List.setIfInBounds_toArray, List.set_cons_zero, List.set_cons_succ, i64_w, i32_w]
              rfl
            refine pure_ (i := 8) (N := some 55) (v := ?_) (a' := ?_) #[true, true, true, true, true, true, true, false, true, false, false, false] rfl rfl (by kernel_rfl) (fun _ _ _ h => h) (Or.inl ⟨by rfl, ?_⟩) ?_ ?_
            rotate_left
            · intro w'
              go_simp
              with_reducible rfl
            rotate_left
            · simp only [Act.put, List.setIfInBounds_toArray, List.set_cons_zero, List.set_cons_succ, i64_w, i32_w]
              rfl
            refine one_ (i := 7) (N := some 54) #[true, true, true, true, true, true, true, true, true, false, false, false] rfl rfl (by kernel_rfl) (by decide) (fun K hK => ?_)
            refine goes_ Try.func25 (by kernel_rfl) rfl #[.pointer (some ⟨ph.bm, 0, none⟩), .int .i64 k] (by rfl) rfl rfl (by simp only [List.map_toArray, List.map_cons, List.map_nil, Act.eval]; rfl) ?_
            refine ((HL.out.1.below HB8.out).varsO (k : Int)).mono ?_
            rintro e w9 ⟨Av, cv, rfl, hv, hb⟩
            have HB9 := Aside0.mk (below_on HB8.out hb)
            have HG8 := Aside0.mk (below_read hb HG8.out)
            have HG9 := Aside0.mk (below_read hb HG9.out)
            have HF9 := Aside0.mk (fun j hj => own_below (HF8.out j hj) hb)
            have HS9 := Aside0.mk hb.size
            have HV9 := Aside0.mk (own_lower hv.out HS8.out)
            have hq8 : w9.cell? ⟨g8, k, none⟩ = some (.int .i64 0) := (blk_cell HG8.out k).trans (keepC_not _ _ k (by omega))
            have hf8 : w9.frozen? ⟨g8, k, none⟩ = false := blk_frozen HG8.out k
            have HX9 := Aside0.mk (blk_far HG9.out (show g9 ≠ (⟨g8, k, none⟩ : Addr).block from fun e => HW7.out.2.2.2.1 e.symm) (.int .i64 (atOf cs s k)))
            have hq9 := (blk_cell HX9.out k).trans (keepC_not _ _ k (by omega))
            have hf9 := blk_frozen HX9.out k
            clear hb hv
            refine ⟨_, rfl, ?_⟩
            refine hK.out _ _ trivial (fun hHeld => ?_)
            clear hK K
            refine norm_ (a' := ?_) ?_ ?_
            rotate_left
            · show Act.put _ (some 54) _ = _
              simp only [Act.put, List.setIfInBounds_toArray, List.set_cons_zero, List.set_cons_succ, i64_w, i32_w]
              rfl
            refine one_ (i := 9) (N := none) #[true, true, true, true, true, true, true, true, true, true, false, false] rfl rfl (by kernel_rfl) (by decide) (fun K hK => ?_)
            refine skip_ (w1 := ?_) (by rfl) rfl ?_ ?_
            rotate_left
            · go_simp
              rfl
            refine hK.out _ _ trivial (fun hHeld => ?_)
            clear hK K
            refine pure_ (i := 10) (N := some 56) (v := ?_) (a' := ?_) #[true, true, true, true, true, true, true, true, true, true, true, false] rfl rfl (by kernel_rfl) (fun _ _ _ h => h) (Or.inl ⟨by rfl, ?_⟩) ?_ ?_
            rotate_left
            · intro w'
              go_simp
              with_reducible rfl
            rotate_left
            · simp only [Act.put, List.setIfInBounds_toArray, List.set_cons_zero, List.set_cons_succ, i64_w, i32_w]
              rfl
            refine one_ (i := 11) (N := none) #[true, true, true, true, true, true, true, true, true, true, true, true] rfl rfl (by kernel_rfl) (by decide) (fun K hK => ?_)
            refine skip_ (w1 := ?_) (by rfl) rfl ?_ ?_
            rotate_left
            · go_simp
              rfl
            refine hK.out _ _ trivial (fun hHeld => ?_)
            clear hK K
            refine done_ (by kernel_rfl) ?_
            go_wp2_with fail
            go_roundg (cs.length - (k + 1))
            case measure => omega
            case rel =>
              refine ⟨k + 1, fun j => if j = k then .slice Av (varsOf cs s k).length cv else f j, by omega, by omega, by go_num, ⟨(HB9.out.setCell (show wo.heap.size ≤ (⟨g8, k, none⟩ : Addr).block from HW7.out.2.1) _).setCell (show wo.heap.size ≤ (⟨g9, k, none⟩ : Addr).block from HW7.out.2.2.1) _, ?_, blk_far (blk_put HG8.out k _ (keepC_at cs s k (by omega))) (show g8 ≠ (⟨g9, k, none⟩ : Addr).block from HW7.out.2.2.2.1) _, blk_put HX9.out k _ (keepC_put _ _ k (by omega) _), fun j hj => ?_⟩⟩
              · rw [setCell_size, setCell_size]; exact Nat.le_trans HS8.out HS9.out
              · show World.ownsRow _ w7.heap.size 3 1 (if j = k then Value.slice Av (varsOf cs s k).length cv else f j) _ _
                by_cases e : j = k
                · subst e
                  rw [if_pos rfl]
                  exact own_setc (own_setc HV9.out (show (⟨g8, j, none⟩ : Addr).block < w7.heap.size from HW7.out.2.2.2.2.1) _) (show (⟨g9, j, none⟩ : Addr).block < w7.heap.size from HW7.out.2.2.2.2.2) _
                · rw [if_neg e]
                  exact own_setc (own_setc (HF9.out j (by omega)) (show (⟨g8, k, none⟩ : Addr).block < w7.heap.size from HW7.out.2.2.2.2.1) _) (show (⟨g9, k, none⟩ : Addr).block < w7.heap.size from HW7.out.2.2.2.2.2) _
          · have hkz : ¬ (k : Int) < (cs.length : Int) := by omega
            obtain rfl : k = cs.length := by omega
            have hp0 := pw_cell_below (below_on HL.out.2.2 HK.out.1) HP0.out
            have hp1 := pw_cell_below (below_on HL.out.2.2 HK.out.1) HP1.out
            go_wp2_with fail
            go_still_tail 11, (by kernel_rfl)
            change wpList _ _ _ _ _ wq.drew
            go_wp2_with fail
            go_at_call 22
            refine ((HL.out.1.below (below_drew HK.out.1)).step t inp rfl).mono ?_
            rintro e w9 ⟨rfl, hs⟩
            have H9 := Aside0.mk hs.1
            have HB9 := Aside0.mk (Chg.below (below_on HL.out.2.2 (below_drew HK.out.1)) (below_on HL.out.2.2 (below_drew HK.out.1)).size HW2.out hs.2)
            have HG8 := Aside0.mk (hs.2.keep (HK.out.2.2.1 : wq.drew.heap[g8]? = _) (.inr (Nat.le_trans HL.out.1.sz HW7.out.2.1)))
            have HG9 := Aside0.mk (hs.2.keep (HK.out.2.2.2.1 : wq.drew.heap[g9]? = _) (.inr (Nat.le_trans HL.out.1.sz HW7.out.2.2.1)))
            have HF9 := Aside0.mk (fun j hj => own_chg (w := wq.drew) (HK.out.2.2.2.2 j hj) hs.2 (Nat.le_trans HL.out.1.sz HW7.out.1))
            have HU9 := Aside0.mk (hs.2.keep (HU.out : wq.drew.heap[gu]? = _) (.inl HGU.out))
            clear hs hp0 hp1 hu3 HU HK hkz hkm hk hgk
            go_wp2_with fail
            go_loopg [11] cs.length (fun gg s11 wr => ∃ k : Nat, k ≤ cs.length ∧ cs.length - k ≤ gg ∧ s11 = .int .i64 k ∧ Aside0 (Below w9.heap.size w9 wr))
            case atStart => exact ⟨0, Nat.zero_le _, by omega, rfl, ⟨Below.refl _ _⟩⟩
            case round =>
              obtain ⟨k, hk, hgk, rfl, HK⟩ := hrel
              generalize wr = wz at *
              have hu3 : wz.cell? ⟨gu, 3, none⟩ = some (.slice At cs.length ct) := (blk_cell (below_read HK.out HU9.out) 3).trans rfl
              by_cases hkm : k < cs.length
              · have hkz : (k : Int) < (cs.length : Int) := by omega
                have hk6 : (k : Int) < 4 := by omega
                have hk0 : (0 : Int) ≤ (k : Int) := by omega
                have hp0 := pw_cell_below (below_on HB9.out HK.out) HP0.out
                by_cases heq : (k : Int) = t
                · have hne : ((k : Int) != t) = false := by rw [heq]; exact bne_self_eq_false t
                  clear heq
                  go_wp2_with fail
                  go_quiet (fail)
                  go_wp2_with fail
                  go_roundg (cs.length - (k + 1))
                  case measure => omega
                  case rel => exact ⟨k + 1, by omega, by omega, by go_num, ⟨pw_below_drewN HK.out nq⟩⟩
                · have hne : ((k : Int) != t) = true := bne_iff_ne.mpr heq
                  have HAT := Aside0.mk (apart_at (cs := cs) (nA := A.length) (s := s) t inp (k : Int) heq)
                  have HVV := Aside0.mk (apart_vars (cs := cs) (nA := A.length) (s := s) t inp (k : Int) heq)
                  clear heq
                  obtain ⟨Af, cf, hf⟩ := own_slice (HF9.out k hkm)
                  have HFK := Aside0.mk (hf ▸ HF9.out k hkm)
                  have hq8 : wz.cell? ⟨g8, k, none⟩ = some (.int .i64 (atOf cs s k)) := (blk_cell (below_read HK.out HG8.out) k).trans (keepC_get _ _ _ k hkm (by omega))
                  have hq9 : wz.cell? ⟨g9, k, none⟩ = some (.slice Af (varsOf cs s k).length cf) := (blk_cell (below_read HK.out HG9.out) k).trans ((keepC_get _ _ _ k hkm (by omega)).trans (by rw [hf]))
                  clear hf
                  generalize hxx : atOf cs s (k : Int) = x at hq8 HAT
                  clear hxx
                  go_wp2_with fail
                  refine start_ (n := 26) (S := fun w' => w'.cell? (ad.add (i * 2)) = some (.int .i64 t) ∧ w'.cell? ⟨g8, k, none⟩ = some (.int .i64 x) ∧ w'.cell? ⟨g9, k, none⟩ = some (.slice Af (varsOf cs s k).length cf) ∧ Aside0 (Below w9.heap.size w9 w')) (ds := []) #[false, false, false, false, false, false, false, false, false, false, false, false, false, false, false, false, false, false, false, false, false, false, false, false, false, false] (by kernel_rfl) rfl rfl ⟨hp0, hq8, hq9, ⟨below_drew HK.out⟩⟩ (fun hHeld => ?_)
                  refine pure_ (i := 0) (N := some 76) (v := ?_) (a' := ?_) #[true, false, false, false, false, false, false, false, false, false, false, false, false, false, false, false, false, false, false, false, false, false, false, false, false, false] rfl rfl (by kernel_rfl) (fun _ _ _ h => h) (Or.inl ⟨by rfl, ?_⟩) ?_ ?_
                  rotate_left
                  · intro w'
                    go_simp
                    with_reducible rfl
                  rotate_left
                  · simp only [Act.put, List.setIfInBounds_toArray, List.set_cons_zero, List.set_cons_succ, i64_w, i32_w]
                    rfl
                  refine pure_ (i := 1) (N := some 77) (v := ?_) (a' := ?_) #[true, true, false, false, false, false, false, false, false, false, false, false, false, false, false, false, false, false, false, false, false, false, false, false, false, false] rfl rfl (by kernel_rfl) (fun _ _ _ h => h) (Or.inl ⟨by rfl, ?_⟩) ?_ ?_
                  rotate_left
                  · intro w'
                    go_simp
                    with_reducible rfl
                  rotate_left
                  · simp only [Act.put, List.setIfInBounds_toArray, List.set_cons_zero, List.set_cons_succ, i64_w, i32_w]
                    rfl
                  refine pure_ (i := 2) (N := some 78) (v := ?_) (a' := ?_) #[true, true, true, false, false, false, false, false, false, false, false, false, false, false, false, false, false, false, false, false, false, false, false, false, false, false] rfl rfl (by kernel_rfl) (fun _ _ _ h => h) (Or.inl ⟨by rfl, ?_⟩) ?_ ?_
                  rotate_left
                  · intro w'
                    go_simp
                    with_reducible rfl
                  rotate_left
                  · simp only [Act.put, List.setIfInBounds_toArray, List.set_cons_zero, List.set_cons_succ, i64_w, i32_w]
                    rfl
                  refine pure_ (i := 3) (N := some 79) (v := ?_) (a' := ?_) #[true, true, true, true, false, false, false, false, false, false, false, false, false, false, false, false, false, false, false, false, false, false, false, false, false, false] rfl rfl (by kernel_rfl) (fun _ _ _ h => h) (Or.inl ⟨by rfl, ?_⟩) ?_ ?_
                  rotate_left
                  · intro w'
                    go_simp
                    with_reducible rfl
                  rotate_left
                  · simp only [Act.put, List.setIfInBounds_toArray, List.set_cons_zero, List.set_cons_succ, i64_w, i32_w]
                    rfl
                  refine pure_ (i := 4) (N := some 80) (v := ?_) (a' := ?_) #[true, true, true, true, true, false, false, false, false, false, false, false, false, false, false, false, false, false, false, false, false, false, false, false, false, false] rfl rfl (by kernel_rfl) (fun _ _ _ h => h) (Or.inl ⟨by rfl, ?_⟩) ?_ ?_
                  rotate_left
                  · intro w'
                    go_simp
                    with_reducible rfl
                  rotate_left
                  · simp only [Act.put, List.setIfInBounds_toArray, List.set_cons_zero, List.set_cons_succ, i64_w, i32_w]
                    rfl
                  refine take_ (i := 5) (N := some 81) (v := ?_) (a' := ?_) #[true, true, true, true, true, true, false, false, false, false, false, false, false, false, false, false, false, false, false, false, false, false, false, false, false, false] rfl rfl (by kernel_rfl) (fun _ _ _ h => h) (Or.inl ⟨by rfl, ?_⟩) hHeld ?_ ?_
                  rotate_left
                  · rintro w' ⟨s0, s1, s2, s3⟩
                    go_simp
                    with_reducible rfl
                  rotate_left
                  · simp only [Act.put, List.setIfInBounds_toArray, List.set_cons_zero, List.set_cons_succ, i64_w, i32_w]
                    rfl
                  refine pure_ (i := 6) (N := some 82) (v := ?_) (a' := ?_) #[true, true, true, true, true, true, true, false, false, false, false, false, false, false, false, false, false, false, false, false, false, false, false, false, false, false] rfl rfl (by kernel_rfl) (fun _ _ _ h => h) (Or.inl ⟨by rfl, ?_⟩) ?_ ?_
                  rotate_left
                  · intro w'
                    go_simp
                    with_reducible rfl
                  rotate_left
                  · simp only [Act.put, List.setIfInBounds_toArray, List.set_cons_zero, List.set_cons_succ, i64_w, i32_w]
                    rfl
                  refine pure_ (i := 7) (N := some 83) (v := ?_) (a' := ?_) #[true, true, true, true, true, true, true, true, false, false, false, false, false, false, false, false, false, false, false, false, false, false, false, false, false, false] rfl rfl (by kernel_rfl) (fun _ _ _ h => h) (Or.inl ⟨by rfl, ?_⟩) ?_ ?_
                  rotate_left
                  · intro w'
                    go_simp
                    with_reducible rfl
                  rotate_left
                  · simp only [Act.put, List.setIfInBounds_toArray, List.set_cons_zero, List.set_cons_succ, i64_w, i32_w]
                    rfl
                  refine pure_ (i := 8) (N := some 84) (v := ?_) (a' := ?_) #[true, true, true, true, true, true, true, true, true, false, false, false, false, false, false, false, false, false, false, false, false, false, false, false, false, false] rfl rfl (by kernel_rfl) (fun _ _ _ h => h) (Or.inl ⟨by rfl, ?_⟩) ?_ ?_
                  rotate_left
                  · intro w'
                    go_simp
                    with_reducible rfl
                  rotate_left
                  · simp only [Act.put, List.setIfInBounds_toArray, List.set_cons_zero, List.set_cons_succ, i64_w, i32_w]
                    rfl
                  refine pure_ (i := 9) (N := some 85) (v := ?_) (a' := ?_) #[true, true, true, true, true, true, true, true, true, true, false, false, false, false, false, false, false, false, false, false, false, false, false, false, false, false] rfl rfl (by kernel_rfl) (fun _ _ _ h => h) (Or.inl ⟨by rfl, ?_⟩) ?_ ?_
                  rotate_left
                  · intro w'
                    go_simp
                    with_reducible rfl
                  rotate_left
                  · simp only [Act.put, List.setIfInBounds_toArray, List.set_cons_zero, List.set_cons_succ, i64_w, i32_w]
                    rfl
                  refine pure_ (i := 11) (N := some 87) (v := ?_) (a' := ?_) #[true, true, true, true, true, true, true, true, true, true, false, true, false, false, false, false, false, false, false, false, false, false, false, false, false, false] rfl rfl (by kernel_rfl) (fun _ _ _ h => h) (Or.inl ⟨by rfl, ?_⟩) ?_ ?_
                  rotate_left
                  · intro w'
                    go_simp
                    with_reducible rfl
                  rotate_left
                  · simp only [Act.put, List.setIfInBounds_toArray, List.set_cons_zero, List.set_cons_succ, i64_w, i32_w]
                    rfl
                  refine pure_ (i := 12) (N := some 88) (v := ?_) (a' := ?_) #[true, true, true, true, true, true, true, true, true, true, false, true, true, false, false, false, false, false, false, false, false, false, false, false, false, false] rfl rfl (by kernel_rfl) (fun _ _ _ h => h) (Or.inl ⟨by rfl, ?_⟩) ?_ ?_
                  rotate_left
                  · intro w'
                    go_simp
                    with_reducible rfl
                  rotate_left
                  · simp only [Act.put, List.setIfInBounds_toArray, List.set_cons_zero, List.set_cons_succ, i64_w, i32_w]
                    rfl
                  refine take_ (i := 13) (N := some 89) (v := ?_) (a' := ?_) #[true, true, true, true, true, true, true, true, true, true, false, true, true, true, false, false, false, false, false, false, false, false, false, false, false, false] rfl rfl (by kernel_rfl) (fun _ _ _ h => h) (Or.inl ⟨by rfl, ?_⟩) hHeld ?_ ?_
                  rotate_left
                  · rintro w' ⟨s0, s1, s2, s3⟩
                    go_simp
                    with_reducible rfl
                  rotate_left
                  · simp only [Act.put, List.setIfInBounds_toArray, List.set_cons_zero, List.set_cons_succ, i64_w, i32_w]
                    rfl
                  refine one_ (i := 10) (N := some 86) #[true, true, true, true, true, true, true, true, true, true, true, true, true, true, false, false, false, false, false, false, false, false, false, false, false, false] rfl rfl (by kernel_rfl) (by decide) (fun K hK => ?_)
                  refine goes_ Try.func24 (by kernel_rfl) rfl #[.pointer (some ⟨ph.bm, 0, none⟩), .int .i64 k] (by rfl) rfl rfl (by simp only [List.map_toArray, List.map_cons, List.map_nil, Act.eval]; rfl) ?_
                  refine ((H9.out.below hHeld.2.2.2.out).at_ (k : Int) HAT.out).mono ?_
                  rintro e w10 ⟨rfl, hb⟩
                  refine ⟨_, rfl, ?_⟩
                  refine hK.out _ _ ⟨pw_cell_below hb hHeld.1, pw_cell_below hb hHeld.2.1, pw_cell_below hb hHeld.2.2.1, ⟨below_on hHeld.2.2.2.out hb⟩⟩ (fun hHeld => ?_)
                  clear hK K
                  refine norm_ (a' := ?_) ?_ ?_
                  rotate_left
                  · show Act.put _ (some 86) _ = _
                    simp only [Act.put, List.setIfInBounds_toArray, List.set_cons_zero, List.set_cons_succ, i64_w, i32_w]
                    rfl
                  refine pure_ (i := 14) (N := some 90) (v := ?_) (a' := ?_) #[true, true, true, true, true, true, true, true, true, true, true, true, true, true, true, false, false, false, false, false, false, false, false, false, false, false] rfl rfl (by kernel_rfl) (fun _ _ _ h => h) (Or.inl ⟨by rfl, ?_⟩) ?_ ?_
                  rotate_left
                  · intro w'
                    go_simp
                    with_reducible rfl
                  rotate_left
                  · simp only [Act.put, List.setIfInBounds_toArray, List.set_cons_zero, List.set_cons_succ, i64_w, i32_w]
                    rfl
                  refine pure_ (i := 15) (N := some 91) (v := ?_) (a' := ?_) #[true, true, true, true, true, true, true, true, true, true, true, true, true, true, true, true, false, false, false, false, false, false, false, false, false, false] rfl rfl (by kernel_rfl) (fun _ _ _ h => h) (Or.inl ⟨by rfl, ?_⟩) ?_ ?_
                  rotate_left
                  · intro w'
                    go_simp
                    with_reducible rfl
                  rotate_left
                  · simp only [Act.put, List.setIfInBounds_toArray, List.set_cons_zero, List.set_cons_succ, i64_w, i32_w]
                    rfl
                  refine pure_ (i := 16) (N := some 92) (v := ?_) (a' := ?_) #[true, true, true, true, true, true, true, true, true, true, true, true, true, true, true, true, true, false, false, false, false, false, false, false, false, false] rfl rfl (by kernel_rfl) (fun _ _ _ h => h) (Or.inl ⟨by rfl, ?_⟩) ?_ ?_
                  rotate_left
                  · intro w'
                    go_simp
                    with_reducible rfl
                  rotate_left
                  · simp only [Act.put, List.setIfInBounds_toArray, List.set_cons_zero, List.set_cons_succ, i64_w, i32_w]
                    rfl
                  refine pure_ (i := 17) (N := some 93) (v := ?_) (a' := ?_) #[true, true, true, true, true, true, true, true, true, true, true, true, true, true, true, true, true, true, false, false, false, false, false, false, false, false] rfl rfl (by kernel_rfl) (fun _ _ _ h => h) (Or.inl ⟨by rfl, ?_⟩) ?_ ?_
                  rotate_left
                  · intro w'
                    go_simp
                    with_reducible rfl
                  rotate_left
                  · simp only [Act.put, List.setIfInBounds_toArray, List.set_cons_zero, List.set_cons_succ, i64_w, i32_w]
                    rfl
                  refine pure_ (i := 19) (N := some 95) (v := ?_) (a' := ?_) #[true, true, true, true, true, true, true, true, true, true, true, true, true, true, true, true, true, true, false, true, false, false, false, false, false, false] rfl rfl (by kernel_rfl) (fun _ _ _ h => h) (Or.inl ⟨by rfl, ?_⟩) ?_ ?_
                  rotate_left
                  · intro w'
                    go_simp
                    with_reducible rfl
                  rotate_left
                  · simp only [Act.put, List.setIfInBounds_toArray, List.set_cons_zero, List.set_cons_succ, i64_w, i32_w]
                    rfl
                  refine pure_ (i := 20) (N := some 96) (v := ?_) (a' := ?_) #[true, true, true, true, true, true, true, true, true, true, true, true, true, true, true, true, true, true, false, true, true, false, false, false, false, false] rfl rfl (by kernel_rfl) (fun _ _ _ h => h) (Or.inl ⟨by rfl, ?_⟩) ?_ ?_
                  rotate_left
                  · intro w'
                    go_simp
                    with_reducible rfl
                  rotate_left
                  · simp only [Act.put, List.setIfInBounds_toArray, List.set_cons_zero, List.set_cons_succ, i64_w, i32_w]
                    rfl
                  refine take_ (i := 21) (N := some 97) (v := ?_) (a' := ?_) #[true, true, true, true, true, true, true, true, true, true, true, true, true, true, true, true, true, true, false, true, true, true, false, false, false, false] rfl rfl (by kernel_rfl) (fun _ _ _ h => h) (Or.inl ⟨by rfl, ?_⟩) hHeld ?_ ?_
                  rotate_left
                  · rintro w' ⟨s0, s1, s2, s3⟩
                    go_simp
                    with_reducible rfl
                  rotate_left
                  · simp only [Act.put, List.setIfInBounds_toArray, List.set_cons_zero, List.set_cons_succ, i64_w, i32_w]
                    rfl
                  refine one_ (i := 18) (N := some 94) #[true, true, true, true, true, true, true, true, true, true, true, true, true, true, true, true, true, true, true, true, true, true, false, false, false, false] rfl rfl (by kernel_rfl) (by decide) (fun K hK => ?_)
                  refine goes_ Try.func25 (by kernel_rfl) rfl #[.pointer (some ⟨ph.bm, 0, none⟩), .int .i64 k] (by rfl) rfl rfl (by simp only [List.map_toArray, List.map_cons, List.map_nil, Act.eval]; rfl) ?_
                  refine ((H9.out.below hHeld.2.2.2.out).vars (k : Int) HVV.out).mono ?_
                  rintro e w11 ⟨Av, cv, rfl, hcv, HV, hb⟩
                  refine ⟨_, rfl, ?_⟩
                  refine hK.out _ _ ⟨pw_cell_below hb hHeld.1, pw_cell_below hb hHeld.2.1, pw_cell_below hb hHeld.2.2.1, ⟨below_on hHeld.2.2.2.out hb⟩⟩ (fun hHeld => ?_)
                  clear hK K
                  refine norm_ (a' := ?_) ?_ ?_
                  rotate_left
                  · show Act.put _ (some 94) _ = _
                    simp only [Act.put, List.setIfInBounds_toArray, List.set_cons_zero, List.set_cons_succ, i64_w, i32_w]
                    rfl
                  refine one_ (i := 22) (N := some 98) #[true, true, true, true, true, true, true, true, true, true, true, true, true, true, true, true, true, true, true, true, true, true, true, false, false, false] rfl rfl (by kernel_rfl) (by decide) (fun K hK => ?_)
                  refine goes_ Try.func26 (by kernel_rfl) rfl #[.slice Av (varsOf cs s k).length cv, .slice Af (varsOf cs s k).length cf] (by rfl) rfl rfl (by simp only [List.map_toArray, List.map_cons, List.map_nil, Act.eval]; rfl) ?_
                  obtain ⟨Ae, ce, he, hle, hCe⟩ := C_of_own (own_below HFK.out hHeld.2.2.2.out)
                  cases he
                  refine (ints_same _ (varsOf cs s k) (varsOf cs s k) rfl (Nat.le_trans (varsOf_sm HL.out.1.sm _) (by decide)) Av cv _ _ HV.out hcv hCe hle).mono ?_
                  rintro e w12 ⟨rfl, hb⟩
                  refine ⟨_, rfl, ?_⟩
                  refine hK.out _ _ ⟨pw_cell_below hb hHeld.1, pw_cell_below hb hHeld.2.1, pw_cell_below hb hHeld.2.2.1, ⟨below_on hHeld.2.2.2.out hb⟩⟩ (fun hHeld => ?_)
                  clear hK K
                  refine norm_ (a' := ?_) ?_ ?_
                  rotate_left
                  · show Act.put _ (some 98) _ = _
                    simp only [Act.put, List.setIfInBounds_toArray, List.set_cons_zero, List.set_cons_succ, i64_w, i32_w]
                    rfl
                  refine pure_ (i := 23) (N := some 99) (v := ?_) (a' := ?_) #[true, true, true, true, true, true, true, true, true, true, true, true, true, true, true, true, true, true, true, true, true, true, true, true, false, false] rfl rfl (by kernel_rfl) (fun _ _ _ h => h) (Or.inl ⟨by rfl, ?_⟩) ?_ ?_
                  rotate_left
                  · intro w'
                    go_simp
                    with_reducible rfl
                  rotate_left
                  · simp only [Act.put, List.setIfInBounds_toArray, List.set_cons_zero, List.set_cons_succ, i64_w, i32_w]
                    rfl
                  refine pure_ (i := 24) (N := some 100) (v := ?_) (a' := ?_) #[true, true, true, true, true, true, true, true, true, true, true, true, true, true, true, true, true, true, true, true, true, true, true, true, true, false] rfl rfl (by kernel_rfl) (fun _ _ _ h => h) (Or.inl ⟨by rfl, ?_⟩) ?_ ?_
                  rotate_left
                  · intro w'
                    go_simp
                    with_reducible rfl
                  rotate_left
                  · simp only [Act.put, List.setIfInBounds_toArray, List.set_cons_zero, List.set_cons_succ, i64_w, i32_w]
                    rfl
                  refine pure_ (i := 25) (N := some 101) (v := ?_) (a' := ?_) #[true, true, true, true, true, true, true, true, true, true, true, true, true, true, true, true, true, true, true, true, true, true, true, true, true, true] rfl rfl (by kernel_rfl) (fun _ _ _ h => h) (Or.inl ⟨by rfl, ?_⟩) ?_ ?_
                  rotate_left
                  · intro w'
                    go_simp
                    with_reducible rfl
                  rotate_left
                  · simp only [Act.put, List.setIfInBounds_toArray, List.set_cons_zero, List.set_cons_succ, i64_w, i32_w]
                    rfl
                  refine done_ (by kernel_rfl) ?_
                  go_wp2_with fail
                  go_roundg (cs.length - (k + 1))
                  case measure => omega
                  case rel => exact ⟨k + 1, by omega, by omega, by go_num, hHeld.2.2.2⟩
              · have hkz : ¬ (k : Int) < (cs.length : Int) := by omega
                go_wp2_with fail
                go_roundg (l.length - (i + 1))
                case measure => omega
                case rel => exact ⟨i + 1, _, by omega, by omega, by go_num, ⟨H9.out.below HK.out, below_read HK.out HU9.out, below_on HB9.out HK.out⟩⟩
      · have h3z : ¬ (i : Int) < 300 := by omega
        have hltz : (i : Int) < (l.length : Int) := by omega
        go_wp2_with (go_at_call 23; refine (known_calls _).mono ?_; rintro e w10 ⟨rfl, hb⟩)
        go_ret
        exact ⟨rfl, below_on HL.out.2.2 hb⟩
    · have hltz : ¬ (i : Int) < (l.length : Int) := by omega
      go_wp2_with (go_at_call 23; refine (known_calls _).mono ?_; rintro e w10 ⟨rfl, hb⟩)
      go_ret
      exact ⟨rfl, below_on HL.out.2.2 hb⟩
set_option maxHeartbeats 8000000 in
set_option maxRecDepth 100000 in
theorem MachApart_calls (w : World) (Ag : Option Addr) (cg : Nat) (G : List Int) (Aa : Option Addr) (ca : Nat) (A : List Int) (m : Int) (At : Option Addr) (ct : Nat) (cs : List S49) (hg : Kd.C (Kd.int .i64) w Ag G.length G) (hcg : G.length ≤ cg) (ha : Kd.C (Kd.int .i64) w Aa A.length A) (hca : A.length ≤ ca) (ht : Kd.C k49 w At cs.length cs) (hct : cs.length ≤ ct) (hw : W25 ⟨G, A, m, cs⟩) (Al : Option Addr) (cl : Nat) (l : List S37) (hC : Kd.C k37 w Al l.length l) (hcl : l.length ≤ cl) (hml : l.length ≤ maxLen) :
    Calls Try.prog 4 #[.agg #[.slice Ag G.length cg, .slice Aa A.length ca, .int .i64 m, .slice At cs.length ct], .slice Al l.length cl] w fun e w' => e = .returned (.bool true) ∧ Below w.heap.size w w' := by
  have hlens : ∀ c ∈ cs, c.f1.length ≤ 1000000000000000 := fun c hc => by
    have h := (hw.2.2.2.2.2 c hc).2.2.1
    rw [show Try.prog.bytesOf 33 = 72 by kernel_rfl] at h
    omega
  obtain ⟨b, hb, hbig⟩ := big9 G A m cs hlens
  cases b with
  | true =>
    have HG := Aside0.mk hg
    have HA := Aside0.mk ha
    have HT := Aside0.mk ht
    have HCG := Aside0.mk hcg
    have HCA := Aside0.mk hca
    have HCT := Aside0.mk hct
    have HBG := Aside0.mk hbig
    clear hg ha ht hcg hca hct hC hbig hb hw hcl hml
    go_enter Try.func4, Try.ntmps4
    go_wp2_with (first | ((with_reducible refine gate_dst (N := 2) rfl ?_); refine box_event ?hg (N := 2) ?hd (cs := #[.slice Ag G.length cg, .slice Aa A.length ca, .int .i64 m, .slice At cs.length ct]) (t := 25) ?hr ?_; (case hd => rfl); (case hg => rfl); (case hr => first | (go_simp; done) | (go_simp; rfl)); intro gu hgg w1 hlit hb; have HLw1 := Aside0.mk hlit; have HKw1 := Aside0.mk hb; have HGw1 := Aside0.mk hgg; have HB1 := Aside0.mk hb; have HU1 := Aside0.mk hlit; have hu0 : w1.cell? ⟨gu, 0, none⟩ = some (.slice Ag G.length cg) := (blk_cell HU1.out 0).trans rfl; have hu1 : w1.cell? ⟨gu, 1, none⟩ = some (.slice Aa A.length ca) := (blk_cell HU1.out 1).trans rfl; have hu2 : w1.cell? ⟨gu, 2, none⟩ = some (.int .i64 m) := (blk_cell HU1.out 2).trans rfl; have hu3 : w1.cell? ⟨gu, 3, none⟩ = some (.slice At cs.length ct) := (blk_cell HU1.out 3).trans rfl; clear hlit hb hgg) | (go_at_call 18; (with_reducible refine (HBG.out w1 Ag cg Aa ca At ct (Kd.C_below HG.out HB1.out) HCG.out (Kd.C_below HA.out HB1.out) HCA.out (Kd.C_below HT.out HB1.out) HCT.out).mono ?_); rintro e w2 ⟨rfl, hb⟩; have HB2 := Aside0.mk (below_on HB1.out hb); clear hb))
    go_ret
    exact ⟨rfl, HB2.out⟩
  | false =>
    have ok := (hb.1 rfl).2
    by_cases hl : l.length ≤ 10000
    · exact apart_main w Ag cg G Aa ca A m At ct cs hg hcg ha hca ht hct Al cl l hC hl ok hbig
    have hlz : (10000 : Int) < (l.length : Int) := by omega
    clear ok hl
    have HG := Aside0.mk hg
    have HA := Aside0.mk ha
    have HT := Aside0.mk ht
    have HCG := Aside0.mk hcg
    have HCA := Aside0.mk hca
    have HCT := Aside0.mk hct
    have HBG := Aside0.mk hbig
    clear hg ha ht hcg hca hct hC hbig hb hw hcl hml
    go_enter Try.func4, Try.ntmps4
    go_wp2_with (first | ((with_reducible refine gate_dst (N := 2) rfl ?_); refine box_event ?hg (N := 2) ?hd (cs := #[.slice Ag G.length cg, .slice Aa A.length ca, .int .i64 m, .slice At cs.length ct]) (t := 25) ?hr ?_; (case hd => rfl); (case hg => rfl); (case hr => first | (go_simp; done) | (go_simp; rfl)); intro gu hgg w1 hlit hb; have HLw1 := Aside0.mk hlit; have HKw1 := Aside0.mk hb; have HGw1 := Aside0.mk hgg; have HB1 := Aside0.mk hb; have HU1 := Aside0.mk hlit; have hu0 : w1.cell? ⟨gu, 0, none⟩ = some (.slice Ag G.length cg) := (blk_cell HU1.out 0).trans rfl; have hu1 : w1.cell? ⟨gu, 1, none⟩ = some (.slice Aa A.length ca) := (blk_cell HU1.out 1).trans rfl; have hu2 : w1.cell? ⟨gu, 2, none⟩ = some (.int .i64 m) := (blk_cell HU1.out 2).trans rfl; have hu3 : w1.cell? ⟨gu, 3, none⟩ = some (.slice At cs.length ct) := (blk_cell HU1.out 3).trans rfl; clear hlit hb hgg) | (go_at_call 18; (with_reducible refine (HBG.out w1 Ag cg Aa ca At ct (Kd.C_below HG.out HB1.out) HCG.out (Kd.C_below HA.out HB1.out) HCA.out (Kd.C_below HT.out HB1.out) HCT.out).mono ?_); rintro e w2 ⟨rfl, hb⟩; have HB2 := Aside0.mk (below_on HB1.out hb); clear hb))
    go_ret
    exact ⟨rfl, HB2.out⟩
end Go.Proofs.Ytikjamcemnbhbaa.Mr
