/- meddlerlaw9: the law of the errors that come where they must. -/
import Derived.Test.YtikjamcemnbhbaaMrLaw9a
namespace Go.Proofs.Ytikjamcemnbhbaa.Mr
open Go.RowKit Go.Proofs.YtikjamcemnbhbaaW.PrintWords Go.Proofs.YtikjamcemnbhbaaW.PrintLast Go.Proofs.YtikjamcemnbhbaaW.PrintMore
set_option linter.unusedVariables false
set_option linter.unusedSimpArgs false
def fCs (a b op : Int) : List S49 := [⟨3, [⟨1, 0, 0, 0, 0, a, 0, 1, 0⟩, ⟨1, 1, 0, 0, 0, b, 0, 2, 0⟩, ⟨4, 2, 0, 1, 0, 0, op, 3, 0⟩, ⟨14, 0, 0, 0, 0, 0, 0, 3, 0⟩]⟩]
def fS0 (a b op : Int) : St := newSt [] [] (fCs a b op) 0 0 1
def fIt (a b op : Int) : Nat → St
  | 0 => fS0 a b op
  | k + 1 => stepP (fCs a b op) 0 (fIt a b op k) 0 0
theorem ok_f (a b op : Int) (ha : -2147483648 ≤ a ∧ a ≤ 2147483647) (hb : -2147483648 ≤ b ∧ b ≤ 2147483647) (ho : 1 ≤ op ∧ op ≤ 5) : OkUnit [] [] 0 (fCs a b op) := by
  have fa : fitsB a = true := decide_eq_true ha
  have fb : fitsB b = true := decide_eq_true hb
  refine ⟨by decide, by simp, by decide, by simp, by decide, by simp [fCs], fun c hc => ?_⟩
  have hc : c = _ := List.mem_singleton.1 hc
  subst hc
  refine ⟨⟨by simp, by simp⟩, by simp, rfl, fun x hx => ?_⟩
  simp only [List.mem_cons, List.not_mem_nil, or_false] at hx
  rcases hx with rfl | rfl | rfl | rfl
  · exact ⟨⟨by simp, by simp⟩, rfl, by simp, by simp, fa, by simp [opMax], by simp [sharedN], by simp [varsP]⟩
  · exact ⟨⟨by simp, by simp⟩, rfl, by simp, by simp, fb, by simp [opMax], by simp [sharedN], by simp [varsP]⟩
  · exact ⟨⟨by simp, by simp⟩, rfl, by simp, by simp, (by decide : fitsB 0 = true), by simp [opMax]; omega, by simp [sharedN], by simp [varsP]⟩
  · exact ⟨⟨by simp, by simp⟩, rfl, by simp, by simp, (by decide : fitsB 0 = true), by simp [opMax], by simp [sharedN], by simp [varsP]⟩
def fA (op : Int) : S33 := ⟨4, 2, 0, 1, 0, 0, op, 3, 0⟩
theorem f_nx2 (a b op : Int) : nxt (fCs a b op) (fIt a b op 2) 0 = some (fA op) := rfl
theorem f_row2 (a b op : Int) : (fIt a b op 2).row 4 = [a, b, 0] := rfl
theorem f_reck (a b op : Int) : reck ((fIt a b op 2).row (4 + 2 * (0 : Int).toNat)) (fA op) 0 = if (doP op a b).2 = 0 then ([a, b, (doP op a b).1], 0) else ([a, b, 0], (doP op a b).2) := by
  show reck ((fIt a b op 2).row 4) (fA op) 0 = _
  rw [f_row2]
  unfold reck
  rw [if_neg (by simp [fA]), if_neg (by simp [fA]), if_neg (by simp [fA]), if_pos (by simp [fA])]
  rfl
theorem f_it3 (a b op : Int) : fIt a b op 3 = doneP 0 (fIt a b op 2) 0 (fA op) 0 := by
  show stepP _ _ _ _ _ = _
  unfold stepP
  rw [f_nx2]
theorem f_still {a b op : Int} (h : nxt (fCs a b op) (fIt a b op 3) 0 = none) : fIt a b op 6 = fIt a b op 3 := by
  have e : ∀ s, nxt (fCs a b op) s 0 = none → stepP (fCs a b op) 0 s 0 0 = s := fun s hs => by unfold stepP; rw [hs]
  show stepP _ _ (stepP _ _ (stepP _ _ (fIt a b op 3) _ _) _ _) _ _ = _
  rw [e _ h, e _ h, e _ h]
theorem doP_good {op a b n : Int} (ha : -2147483648 ≤ a ∧ a ≤ 2147483647) (hb : -2147483648 ≤ b ∧ b ≤ 2147483647) (ho : 1 ≤ op ∧ op ≤ 5) (hn : opN op a b = n) (hz : ¬ (op ≥ 4 ∧ b = 0)) (hf : -2147483648 ≤ n ∧ n ≤ 2147483647) : doP op a b = (n, 0) := by
  have f1 : fitsB a = true := decide_eq_true ha
  have f2 : fitsB b = true := decide_eq_true hb
  have f3 : fitsB n = true := decide_eq_true hf
  unfold doP
  rw [f1, f2, hn, f3]
  rw [if_pos (by rfl), if_neg (by omega), if_neg (by omega), if_neg hz, if_pos rfl]
theorem doP_over {op a b n : Int} (ha : -2147483648 ≤ a ∧ a ≤ 2147483647) (hb : -2147483648 ≤ b ∧ b ≤ 2147483647) (ho : 1 ≤ op ∧ op ≤ 5) (hn : opN op a b = n) (hz : ¬ (op ≥ 4 ∧ b = 0)) (hf : n < -2147483648 ∨ 2147483647 < n) : doP op a b = (0, 7) := by
  have f1 : fitsB a = true := decide_eq_true ha
  have f2 : fitsB b = true := decide_eq_true hb
  have f3 : fitsB n = false := decide_eq_false (by omega)
  unfold doP
  rw [f1, f2, hn, f3]
  rw [if_pos (by rfl), if_neg (by omega), if_neg (by omega), if_neg hz, if_neg (by decide)]
theorem doP_zero {op a : Int} (ha : -2147483648 ≤ a ∧ a ≤ 2147483647) (ho : 4 ≤ op ∧ op ≤ 5) : doP op a 0 = (0, 8) := by
  have f1 : fitsB a = true := decide_eq_true ha
  have f2 : fitsB 0 = true := by decide
  unfold doP
  rw [f1, f2]
  rw [if_pos (by rfl), if_neg (by omega), if_neg (by omega), if_pos ⟨by omega, rfl⟩]
theorem mul_bd {a b : Int} (ha : -2147483648 ≤ a ∧ a ≤ 2147483647) (hb : -2147483648 ≤ b ∧ b ≤ 2147483647) : -4611686018427387904 ≤ a * b ∧ a * b ≤ 4611686018427387904 := by
  have h1 : a.natAbs ≤ 2147483648 := by omega
  have h2 : b.natAbs ≤ 2147483648 := by omega
  have h3 : (a * b).natAbs ≤ 2147483648 * 2147483648 := by rw [Int.natAbs_mul]; exact Nat.mul_le_mul h1 h2
  omega
theorem tdiv_bd {a b : Int} (ha : -2147483648 ≤ a ∧ a ≤ 2147483647) : -2147483648 ≤ a.tdiv b ∧ a.tdiv b ≤ 2147483648 := by
  have h3 : (a.tdiv b).natAbs ≤ a.natAbs := by rw [Int.natAbs_tdiv]; exact Nat.div_le_self _ _
  omega
theorem tmod_bd {a b : Int} (ha : -2147483648 ≤ a ∧ a ≤ 2147483647) : -2147483648 ≤ a.tmod b ∧ a.tmod b ≤ 2147483647 := by
  have h3 : (a.tmod b).natAbs ≤ a.natAbs := by rw [Int.natAbs_tmod]; exact Nat.mod_le _ _
  by_cases h : 0 ≤ a
  · have := Int.tmod_nonneg b h
    omega
  · have h4 := Int.tmod_nonneg b (show 0 ≤ -a by omega)
    rw [Int.neg_tmod] at h4
    omega
theorem wrap_id {n : Int} (h : -4611686018427387904 ≤ n ∧ n ≤ 4611686018427387904) : wrap64 n = n := by unfold wrap64; omega
theorem Live.fault_no {L R : Nat} {w : World} {ph : Ph} {cs : List S49} {nA : Nat} {s : St} (H : Live L R w ph cs nA s) (h : s.bad = none) :
    Calls Try.prog 27 #[.pointer (some ⟨ph.bm, 0, none⟩)] w fun e w' => e = .returned (.tuple #[.agg #[.int .i64 0, .int .i64 0, .int .i64 0], .bool false]) ∧ Below w.heap.size w w' := by
  have h1 := H.fault
  rw [h] at h1
  exact h1
theorem Live.fault_yes {L R : Nat} {w : World} {ph : Ph} {cs : List S49} {nA : Nat} {s : St} (H : Live L R w ph cs nA s) {i p e : Int} (h : s.bad = some (i, p, e)) :
    Calls Try.prog 27 #[.pointer (some ⟨ph.bm, 0, none⟩)] w fun e' w' => e' = .returned (.tuple #[.agg #[.int .i64 i, .int .i64 p, .int .i64 e], .bool true]) ∧ Below w.heap.size w w' := by
  have h1 := H.fault
  rw [h] at h1
  exact h1
theorem add_lit (ad : Addr) (j : Nat) (hj : 0 < j) : ad.add j = ⟨ad.block, ad.off + j, none⟩ := by
  have h := add_field ad 0 j hj
  rwa [Nat.zero_add, Addr.add_zero'] at h
theorem eqA52 (d : Nat) (w : World) (x0 y0 x1 y1 x2 y2 : Int) :
    (Op.equalIn (d + 2) 52 (.agg #[.int .i64 x0, .int .i64 x1, .int .i64 x2]) (.agg #[.int .i64 y0, .int .i64 y1, .int .i64 y2])).run Try.prog w = .ok (x0 == y0 && (x1 == y1 && (x2 == y2))) w := by
  refine eqA_of Try.underlying52 (by kernel_rfl) ?_
  refine eqf_cons (by rfl) (by go_simp; rfl) (by go_simp; rfl) (by go_simp) ?_
  refine eqf_cons (by rfl) (by go_simp; rfl) (by go_simp; rfl) (by go_simp) ?_
  exact eqf_last (by rfl) (by go_simp; rfl) (by go_simp; rfl) (by go_simp)
attribute [local go_sem high] eqA52
structure FGood (a b op n : Int) : Prop where
  bad : (fIt a b op 6).bad = none
  pc : atOf (fCs a b op) (fIt a b op 6) 0 = 3
  vs : varsOf (fCs a b op) (fIt a b op 6) 0 = [a, b, n]
structure FBad (a b op e : Int) : Prop where
  bad : (fIt a b op 6).bad = some (0, 2, e)
  pc : atOf (fCs a b op) (fIt a b op 6) 0 = 2
theorem f_good {a b op n : Int} (h : doP op a b = (n, 0)) : FGood a b op n := by
  have h1 : after1 0 (fIt a b op 2) 0 (fA op) 0 = ((fIt a b op 2).setRow 4 [a, b, n], 0) := by
    unfold after1
    rw [f_reck, h, if_pos rfl, if_pos rfl]
    unfold shr
    rw [if_neg (by simp [fA]), if_neg (by simp [fA]), if_neg (by simp [fA]), if_neg (by simp [fA]), if_neg (by simp [fA])]
    rfl
  have h3 : fIt a b op 3 = ((fIt a b op 2).setRow 4 [a, b, n]).setPc 0 3 := by
    rw [f_it3]
    unfold doneP
    rw [h1, if_pos rfl, if_neg (by simp [fA])]
    rfl
  have h6 : fIt a b op 6 = ((fIt a b op 2).setRow 4 [a, b, n]).setPc 0 3 := by
    rw [f_still, h3]
    rw [h3]
    rfl
  refine ⟨?_, ?_, ?_⟩ <;> rw [h6] <;> rfl
theorem f_bad {a b op n e : Int} (h : doP op a b = (n, e)) (he : e ≠ 0) : FBad a b op e := by
  have h1 : after1 0 (fIt a b op 2) 0 (fA op) 0 = ((fIt a b op 2).setRow 4 [a, b, 0], e) := by
    unfold after1
    rw [f_reck, h, if_neg he, if_neg he]
    rfl
  have h3 : fIt a b op 3 = ((fIt a b op 2).setRow 4 [a, b, 0]).setBad (0, 2, e) := by
    rw [f_it3]
    unfold doneP
    rw [h1, if_neg he]
    rfl
  have h6 : fIt a b op 6 = ((fIt a b op 2).setRow 4 [a, b, 0]).setBad (0, 2, e) := by
    rw [f_still, h3]
    rw [h3]
    rfl
  refine ⟨?_, ?_⟩ <;> rw [h6] <;> rfl
set_option maxHeartbeats 16000000 in
set_option maxRecDepth 100000 in
theorem MachFaults_calls (a b op : Int) (w : World) : Calls Try.prog 7 #[.int .i64 a, .int .i64 b, .int .i64 op] w fun e w' => e = .returned (.bool true) ∧ Below w.heap.size w w' := by
  have H9 : True := trivial
  by_cases g0 : a < -2147483648
  · clear H9
    go_enter Try.func7, Try.ntmps7
    go_wp2
    go_ret
    exact ⟨rfl, Below.refl _ _⟩
  by_cases g1 : 2147483647 < a
  · clear H9
    go_enter Try.func7, Try.ntmps7
    go_wp2
    go_ret
    exact ⟨rfl, Below.refl _ _⟩
  by_cases g2 : b < -2147483648
  · clear H9
    go_enter Try.func7, Try.ntmps7
    go_wp2
    go_ret
    exact ⟨rfl, Below.refl _ _⟩
  by_cases g3 : 2147483647 < b
  · clear H9
    go_enter Try.func7, Try.ntmps7
    go_wp2
    go_ret
    exact ⟨rfl, Below.refl _ _⟩
  by_cases g4 : op < 1
  · clear H9
    go_enter Try.func7, Try.ntmps7
    go_wp2
    go_ret
    exact ⟨rfl, Below.refl _ _⟩
  by_cases g5 : 5 < op
  · clear H9
    go_enter Try.func7, Try.ntmps7
    go_wp2
    go_ret
    exact ⟨rfl, Below.refl _ _⟩
  have HR := Aside0.mk (show (-2147483648 ≤ a ∧ a ≤ 2147483647) ∧ (-2147483648 ≤ b ∧ b ≤ 2147483647) by omega)
  have HOK := Aside0.mk (ok_f a b op (by omega) (by omega) (by omega))
  clear H9
  go_enter Try.func7, Try.ntmps7
  go_wp2_with (first | ((with_reducible refine gate_dst (N := 45) rfl ?_); refine lit_event (n := 4) ?hg (N := 45) ?hd (cs := #[.int .i64 1, .int .i64 0, .int .i64 0, .int .i64 0, .int .i64 0, .int .i64 a, .int .i64 0, .int .i64 1, .int .i64 0, .int .i64 1, .int .i64 1, .int .i64 0, .int .i64 0, .int .i64 0, .int .i64 b, .int .i64 0, .int .i64 2, .int .i64 0, .int .i64 4, .int .i64 2, .int .i64 0, .int .i64 1, .int .i64 0, .int .i64 0, .int .i64 op, .int .i64 3, .int .i64 0, .int .i64 14, .int .i64 0, .int .i64 0, .int .i64 0, .int .i64 0, .int .i64 0, .int .i64 0, .int .i64 3, .int .i64 0]) (t := 33) ?hr ?_; (case hd => rfl); (case hg => rfl); (case hr => first | (go_simp; done) | (go_simp; rfl)); intro ga w1 hlit hb; have HLw1 := Aside0.mk hlit; have HBw1 := Aside0.mk (hb); clear hlit hb) | ((with_reducible refine gate_dst (N := 47) rfl ?_); refine lit_event (n := 1) ?hg (N := 47) ?hd (cs := #[.int .i64 3, .slice (some ⟨ga, 0, none⟩) 4 4]) (t := 49) ?hr ?_; (case hd => rfl); (case hg => rfl); (case hr => first | (go_simp; done) | (go_simp; rfl)); intro gc w2 hlit hb; have HLw2 := Aside0.mk hlit; have HBw2 := Aside0.mk (below_on HBw1.out hb); have HLb := Aside0.mk (below_read hb HLw1.out); clear hlit hb) | ((with_reducible refine gate_dst (N := 7) rfl ?_); refine box_event ?hg (N := 7) ?hd (cs := #[.slice none 0 0, .slice none 0 0, .int .i64 0, .slice none 0 0]) (t := 25) ?hr ?_; (case hd => rfl); (case hg => rfl); (case hr => first | (go_simp; done) | (go_simp; rfl)); intro gv hgg w3 hbx hb; have HXw3 := Aside0.mk hbx; have HGw3 := Aside0.mk hgg; have HBw3 := Aside0.mk (below_on HBw2.out hb); have HLc := Aside0.mk (below_read hb HLb.out); have HLd := Aside0.mk (below_read hb HLw2.out); clear hbx hgg hb) | ((with_reducible refine gate_store (t := 25) (p := 7) rfl ?_); refine put_row ?hg ?hn 25 (.tmp 7) (.tmp 48) ?ho gv 25 _ (#[.slice none 0 0, .slice none 0 0, .int .i64 0, .slice (some ⟨gc, 0, none⟩) 1 1]) ?hp ?hx ?hu HXw3.out ?ht ?hs ?h1 ?_; (case hg => rfl); (case hn => rfl); (case ho => rfl); (case hp => rfl); (case hx => rfl); (case hu => rfl); (case ht => kernel_rfl); (case hs => rfl); (case h1 => exact unit_one _ _ _ _); intro w4 hbx hg; have HXw4 := Aside0.mk hbx; have HGRw4 := Aside0.mk hg; have hu0 := (blk_cell hbx 0).trans rfl; have hu1 := (blk_cell hbx 1).trans rfl; have hu2 := (blk_cell hbx 2).trans rfl; have hu3 := (blk_cell hbx 3).trans rfl; have HB4 := Aside0.mk (HBw3.out.grown hg HBw3.out.size (fun q hq => by injection hq with hq; rw [← hq, HGw3.out]; exact HBw2.out.size)); have HL4 := Aside0.mk (blk_keep HLc.out hg (fun e => by injection e with e; subst e; have h1 := HXw3.out; rw [HLc.out] at h1; injection h1 with h1; injection h1 with _ h1 _; exact absurd h1 (by decide))); have HM4 := Aside0.mk (blk_keep HLd.out hg (fun e => by injection e with e; subst e; have h1 := HXw3.out; rw [HLd.out] at h1; injection h1 with h1; injection h1 with _ h1 _; exact absurd h1 (by decide))); clear hbx hg))
  go_at_call 19
  refine (new_live w4 none 0 [] none 0 [] 0 (some ⟨gc, 0, none⟩) 1 (fCs a b op) (C_none _ _) (Nat.le_refl _) (C_none _ _) (Nat.le_refl _) (C49_one w4 gc ⟨3, _⟩ (some ⟨ga, 0, none⟩) 4 (Nat.le_refl _) (C33_lit w4 ga [⟨1, 0, 0, 0, 0, a, 0, 1, 0⟩, ⟨1, 1, 0, 0, 0, b, 0, 2, 0⟩, ⟨4, 2, 0, 1, 0, 0, op, 3, 0⟩, ⟨14, 0, 0, 0, 0, 0, 0, 3, 0⟩] HL4.out (by simp)) HM4.out) (Nat.le_refl _) HOK.out).mono ?_
  rintro e w5 ⟨ph, rfl, hL, hb5⟩
  have H5 := Aside0.mk hL
  have HB5 := Aside0.mk (below_on HB4.out hb5)
  clear hu0 hu1 hu2 hu3 hL hb5
  go_wp2_with fail
  go_loopg [10] 6 (fun gg s10 wr => ∃ k : Nat, k ≤ 6 ∧ 6 - k ≤ gg ∧ s10 = .int .i64 k ∧ Aside0 (Live w4.heap.size w5.heap.size wr ph (fCs a b op) 0 (fIt a b op k) ∧ Below w.heap.size w wr))
  case atStart => exact ⟨0, Nat.zero_le _, by omega, rfl, ⟨H5.out, HB5.out⟩⟩
  case round =>
    obtain ⟨k, hk, hgg, rfl, HL⟩ := hrel
    clear H5 HB5
    by_cases hlt : k < 6
    · have hltz : (k : Int) < 6 := by omega
      go_wp2_with fail
      go_at_call 22
      refine (HL.out.1.step 0 0 rfl).mono ?_
      rintro e w6 ⟨rfl, hs⟩
      have H6 := Aside0.mk hs.1
      have HB6 := Aside0.mk (Chg.below HL.out.2 HL.out.2.size HB4.out.size hs.2)
      clear hs
      go_wp2_with fail
      go_roundg (6 - (k + 1))
      case measure => omega
      case rel => exact ⟨k + 1, by omega, by omega, by go_num, ⟨H6.out, HB6.out⟩⟩
    · obtain rfl : k = 6 := by omega
      clear hgg hk hlt
      rcases (by omega : op = 1 ∨ op = 2 ∨ op = 3 ∨ op = 4 ∨ op = 5) with rfl | rfl | rfl | rfl | rfl
      · skip
        have hbd : -4611686018427387904 ≤ a + b ∧ a + b ≤ 4611686018427387904 := by omega
        have HOP : Aside0 (opN 1 a b = a + b) := ⟨by unfold opN; (rw [if_pos rfl]; exact wrap_id hbd)⟩
        rcases (by omega : a + b < -2147483648 ∨ 2147483647 < a + b ∨ (-2147483648 ≤ a + b ∧ a + b ≤ 2147483647)) with hc | hc | ⟨hc, hc2⟩
        · skip
          have HF := Aside0.mk (f_bad (doP_over HR.out.1 HR.out.2 (by omega) HOP.out (by omega) (by omega)) (by decide))
          go_wp2_with (first | (go_at_call 27; (with_reducible refine (HL.out.1.fault_yes HF.out.bad).mono ?_); rintro e w7 ⟨rfl, hb⟩; have HB7 := Aside0.mk (below_on HL.out.2 hb); have H7 := Aside0.mk (HL.out.1.below hb); clear hb) | ((with_reducible refine gate_dst (N := 13) rfl ?_); refine box_event ?hg (N := 13) ?hd (cs := #[.int .i64 0, .int .i64 0, .int .i64 0]) (t := 52) ?hr ?_; (case hd => rfl); (case hg => rfl); (case hr => first | (go_simp; done) | (go_simp; rfl)); intro g13 hgg w8 hbx hb; have HXw8 := Aside0.mk hbx; have HGw8 := Aside0.mk hgg; have HBw8 := Aside0.mk (below_on HB7.out hb); have HK8 := Aside0.mk hb; clear hbx hgg hb) | ((with_reducible refine gate_store (t := 52) (p := 13) rfl ?_); refine put_row ?hg ?hn 52 (.tmp 13) (.tmp 103) ?ho g13 52 _ (#[.int .i64 0, .int .i64 2, .int .i64 7]) ?hp ?hx ?hu HXw8.out ?ht ?hs ?h1 ?_; (case hg => rfl); (case hn => rfl); (case ho => rfl); (case hp => rfl); (case hx => rfl); (case hu => rfl); (case ht => kernel_rfl); (case hs => rfl); (case h1 => exact f52_one 0 2 7); intro w9 hbx hg; have HXw9 := Aside0.mk hbx; have HGRw9 := Aside0.mk hg; have HK9 := Aside0.mk (HK8.out.grown hg HK8.out.size (fun q hq => by injection hq with hq; rw [← hq, HGw8.out]; exact Nat.le_refl _)); have HB9 := Aside0.mk (below_on HB7.out HK9.out); have H9 := Aside0.mk (H7.out.below HK9.out); have hf0 := (blk_cell hbx 0).trans rfl; have hf1 := (blk_cell hbx 1).trans rfl; have hf2 := (blk_cell hbx 2).trans rfl; clear hbx hg) | (go_at_call 24; (with_reducible refine (H9.out.at_ 0 HF.out.pc).mono ?_); rintro e w10 ⟨rfl, hb⟩; have HB10 := Aside0.mk (below_on HB9.out hb); clear hb) | (go_at_call 23; (with_reducible refine (known_calls _).mono ?_); rintro e w11 ⟨rfl, hb⟩; have HB11 := Aside0.mk (below_on HB10.out hb); clear hb))
          go_ret
          exact ⟨rfl, HB11.out⟩
        · skip
          have HF := Aside0.mk (f_bad (doP_over HR.out.1 HR.out.2 (by omega) HOP.out (by omega) (by omega)) (by decide))
          go_wp2_with (first | (go_at_call 27; (with_reducible refine (HL.out.1.fault_yes HF.out.bad).mono ?_); rintro e w7 ⟨rfl, hb⟩; have HB7 := Aside0.mk (below_on HL.out.2 hb); have H7 := Aside0.mk (HL.out.1.below hb); clear hb) | ((with_reducible refine gate_dst (N := 13) rfl ?_); refine box_event ?hg (N := 13) ?hd (cs := #[.int .i64 0, .int .i64 0, .int .i64 0]) (t := 52) ?hr ?_; (case hd => rfl); (case hg => rfl); (case hr => first | (go_simp; done) | (go_simp; rfl)); intro g13 hgg w8 hbx hb; have HXw8 := Aside0.mk hbx; have HGw8 := Aside0.mk hgg; have HBw8 := Aside0.mk (below_on HB7.out hb); have HK8 := Aside0.mk hb; clear hbx hgg hb) | ((with_reducible refine gate_store (t := 52) (p := 13) rfl ?_); refine put_row ?hg ?hn 52 (.tmp 13) (.tmp 103) ?ho g13 52 _ (#[.int .i64 0, .int .i64 2, .int .i64 7]) ?hp ?hx ?hu HXw8.out ?ht ?hs ?h1 ?_; (case hg => rfl); (case hn => rfl); (case ho => rfl); (case hp => rfl); (case hx => rfl); (case hu => rfl); (case ht => kernel_rfl); (case hs => rfl); (case h1 => exact f52_one 0 2 7); intro w9 hbx hg; have HXw9 := Aside0.mk hbx; have HGRw9 := Aside0.mk hg; have HK9 := Aside0.mk (HK8.out.grown hg HK8.out.size (fun q hq => by injection hq with hq; rw [← hq, HGw8.out]; exact Nat.le_refl _)); have HB9 := Aside0.mk (below_on HB7.out HK9.out); have H9 := Aside0.mk (H7.out.below HK9.out); have hf0 := (blk_cell hbx 0).trans rfl; have hf1 := (blk_cell hbx 1).trans rfl; have hf2 := (blk_cell hbx 2).trans rfl; clear hbx hg) | (go_at_call 24; (with_reducible refine (H9.out.at_ 0 HF.out.pc).mono ?_); rintro e w10 ⟨rfl, hb⟩; have HB10 := Aside0.mk (below_on HB9.out hb); clear hb) | (go_at_call 23; (with_reducible refine (known_calls _).mono ?_); rintro e w11 ⟨rfl, hb⟩; have HB11 := Aside0.mk (below_on HB10.out hb); clear hb))
          go_ret
          exact ⟨rfl, HB11.out⟩
        · skip
          have HF := Aside0.mk (f_good (doP_good HR.out.1 HR.out.2 (by omega) HOP.out (by omega) ⟨hc, hc2⟩))
          go_wp2_with (first | (go_at_call 27; (with_reducible refine (HL.out.1.fault_no HF.out.bad).mono ?_); rintro e w7 ⟨rfl, hb⟩; have HB7 := Aside0.mk (below_on HL.out.2 hb); have H7 := Aside0.mk (HL.out.1.below hb); clear hb) | ((with_reducible refine gate_dst (N := 13) rfl ?_); refine box_event ?hg (N := 13) ?hd (cs := #[.int .i64 0, .int .i64 0, .int .i64 0]) (t := 52) ?hr ?_; (case hd => rfl); (case hg => rfl); (case hr => first | (go_simp; done) | (go_simp; rfl)); intro g13 hgg w8 hbx hb; have HXw8 := Aside0.mk hbx; have HGw8 := Aside0.mk hgg; have HBw8 := Aside0.mk (below_on HB7.out hb); have HK8 := Aside0.mk hb; clear hbx hgg hb) | ((with_reducible refine gate_store (t := 52) (p := 13) rfl ?_); refine put_row ?hg ?hn 52 (.tmp 13) (.tmp 103) ?ho g13 52 _ (#[.int .i64 0, .int .i64 0, .int .i64 0]) ?hp ?hx ?hu HXw8.out ?ht ?hs ?h1 ?_; (case hg => rfl); (case hn => rfl); (case ho => rfl); (case hp => rfl); (case hx => rfl); (case hu => rfl); (case ht => kernel_rfl); (case hs => rfl); (case h1 => exact f52_one 0 0 0); intro w9 hbx hg; have HXw9 := Aside0.mk hbx; have HGRw9 := Aside0.mk hg; have HK9 := Aside0.mk (HK8.out.grown hg HK8.out.size (fun q hq => by injection hq with hq; rw [← hq, HGw8.out]; exact Nat.le_refl _)); have HB9 := Aside0.mk (below_on HB7.out HK9.out); have H9 := Aside0.mk (H7.out.below HK9.out); clear hbx hg) | (go_at_call 25; (with_reducible refine (H9.out.vars 0 HF.out.vs (by simp)).mono ?_); rintro e w10 ⟨Av, cv, rfl, hcv, hC, hb⟩; have HB10 := Aside0.mk (below_on HB9.out hb); have H10 := Aside0.mk (H9.out.below hb); obtain ⟨ad, rfl, hcell⟩ := Kd.at_int hC.out 2 (by decide) (by simp); have HCV : Aside0 (w10.cell? ⟨ad.block, ad.off + 2, none⟩ = some (.int .i64 (a + b))) := ⟨(add_lit ad 2 (by decide)) ▸ hcell⟩; clear hb hC hcv hcell) | (go_at_call 24; (with_reducible refine (H10.out.at_ 0 HF.out.pc).mono ?_); rintro e w11 ⟨rfl, hb⟩; have HB11 := Aside0.mk (below_on HB10.out hb); have hcell := pw_cell_below hb HCV.out; clear hb) | (go_at_call 23; (with_reducible refine (known_calls _).mono ?_); rintro e w12 ⟨rfl, hb⟩; have HB12 := Aside0.mk (below_on HB11.out hb); clear hb))
          go_ret
          exact ⟨rfl, HB12.out⟩
      · skip
        have hbd : -4611686018427387904 ≤ a - b ∧ a - b ≤ 4611686018427387904 := by omega
        have HOP : Aside0 (opN 2 a b = a - b) := ⟨by unfold opN; (rw [if_neg (by decide)]; rw [if_pos rfl]; exact wrap_id hbd)⟩
        rcases (by omega : a - b < -2147483648 ∨ 2147483647 < a - b ∨ (-2147483648 ≤ a - b ∧ a - b ≤ 2147483647)) with hc | hc | ⟨hc, hc2⟩
        · skip
          have HF := Aside0.mk (f_bad (doP_over HR.out.1 HR.out.2 (by omega) HOP.out (by omega) (by omega)) (by decide))
          go_wp2_with (first | (go_at_call 27; (with_reducible refine (HL.out.1.fault_yes HF.out.bad).mono ?_); rintro e w7 ⟨rfl, hb⟩; have HB7 := Aside0.mk (below_on HL.out.2 hb); have H7 := Aside0.mk (HL.out.1.below hb); clear hb) | ((with_reducible refine gate_dst (N := 13) rfl ?_); refine box_event ?hg (N := 13) ?hd (cs := #[.int .i64 0, .int .i64 0, .int .i64 0]) (t := 52) ?hr ?_; (case hd => rfl); (case hg => rfl); (case hr => first | (go_simp; done) | (go_simp; rfl)); intro g13 hgg w8 hbx hb; have HXw8 := Aside0.mk hbx; have HGw8 := Aside0.mk hgg; have HBw8 := Aside0.mk (below_on HB7.out hb); have HK8 := Aside0.mk hb; clear hbx hgg hb) | ((with_reducible refine gate_store (t := 52) (p := 13) rfl ?_); refine put_row ?hg ?hn 52 (.tmp 13) (.tmp 103) ?ho g13 52 _ (#[.int .i64 0, .int .i64 2, .int .i64 7]) ?hp ?hx ?hu HXw8.out ?ht ?hs ?h1 ?_; (case hg => rfl); (case hn => rfl); (case ho => rfl); (case hp => rfl); (case hx => rfl); (case hu => rfl); (case ht => kernel_rfl); (case hs => rfl); (case h1 => exact f52_one 0 2 7); intro w9 hbx hg; have HXw9 := Aside0.mk hbx; have HGRw9 := Aside0.mk hg; have HK9 := Aside0.mk (HK8.out.grown hg HK8.out.size (fun q hq => by injection hq with hq; rw [← hq, HGw8.out]; exact Nat.le_refl _)); have HB9 := Aside0.mk (below_on HB7.out HK9.out); have H9 := Aside0.mk (H7.out.below HK9.out); have hf0 := (blk_cell hbx 0).trans rfl; have hf1 := (blk_cell hbx 1).trans rfl; have hf2 := (blk_cell hbx 2).trans rfl; clear hbx hg) | (go_at_call 24; (with_reducible refine (H9.out.at_ 0 HF.out.pc).mono ?_); rintro e w10 ⟨rfl, hb⟩; have HB10 := Aside0.mk (below_on HB9.out hb); clear hb) | (go_at_call 23; (with_reducible refine (known_calls _).mono ?_); rintro e w11 ⟨rfl, hb⟩; have HB11 := Aside0.mk (below_on HB10.out hb); clear hb))
          go_ret
          exact ⟨rfl, HB11.out⟩
        · skip
          have HF := Aside0.mk (f_bad (doP_over HR.out.1 HR.out.2 (by omega) HOP.out (by omega) (by omega)) (by decide))
          go_wp2_with (first | (go_at_call 27; (with_reducible refine (HL.out.1.fault_yes HF.out.bad).mono ?_); rintro e w7 ⟨rfl, hb⟩; have HB7 := Aside0.mk (below_on HL.out.2 hb); have H7 := Aside0.mk (HL.out.1.below hb); clear hb) | ((with_reducible refine gate_dst (N := 13) rfl ?_); refine box_event ?hg (N := 13) ?hd (cs := #[.int .i64 0, .int .i64 0, .int .i64 0]) (t := 52) ?hr ?_; (case hd => rfl); (case hg => rfl); (case hr => first | (go_simp; done) | (go_simp; rfl)); intro g13 hgg w8 hbx hb; have HXw8 := Aside0.mk hbx; have HGw8 := Aside0.mk hgg; have HBw8 := Aside0.mk (below_on HB7.out hb); have HK8 := Aside0.mk hb; clear hbx hgg hb) | ((with_reducible refine gate_store (t := 52) (p := 13) rfl ?_); refine put_row ?hg ?hn 52 (.tmp 13) (.tmp 103) ?ho g13 52 _ (#[.int .i64 0, .int .i64 2, .int .i64 7]) ?hp ?hx ?hu HXw8.out ?ht ?hs ?h1 ?_; (case hg => rfl); (case hn => rfl); (case ho => rfl); (case hp => rfl); (case hx => rfl); (case hu => rfl); (case ht => kernel_rfl); (case hs => rfl); (case h1 => exact f52_one 0 2 7); intro w9 hbx hg; have HXw9 := Aside0.mk hbx; have HGRw9 := Aside0.mk hg; have HK9 := Aside0.mk (HK8.out.grown hg HK8.out.size (fun q hq => by injection hq with hq; rw [← hq, HGw8.out]; exact Nat.le_refl _)); have HB9 := Aside0.mk (below_on HB7.out HK9.out); have H9 := Aside0.mk (H7.out.below HK9.out); have hf0 := (blk_cell hbx 0).trans rfl; have hf1 := (blk_cell hbx 1).trans rfl; have hf2 := (blk_cell hbx 2).trans rfl; clear hbx hg) | (go_at_call 24; (with_reducible refine (H9.out.at_ 0 HF.out.pc).mono ?_); rintro e w10 ⟨rfl, hb⟩; have HB10 := Aside0.mk (below_on HB9.out hb); clear hb) | (go_at_call 23; (with_reducible refine (known_calls _).mono ?_); rintro e w11 ⟨rfl, hb⟩; have HB11 := Aside0.mk (below_on HB10.out hb); clear hb))
          go_ret
          exact ⟨rfl, HB11.out⟩
        · skip
          have HF := Aside0.mk (f_good (doP_good HR.out.1 HR.out.2 (by omega) HOP.out (by omega) ⟨hc, hc2⟩))
          go_wp2_with (first | (go_at_call 27; (with_reducible refine (HL.out.1.fault_no HF.out.bad).mono ?_); rintro e w7 ⟨rfl, hb⟩; have HB7 := Aside0.mk (below_on HL.out.2 hb); have H7 := Aside0.mk (HL.out.1.below hb); clear hb) | ((with_reducible refine gate_dst (N := 13) rfl ?_); refine box_event ?hg (N := 13) ?hd (cs := #[.int .i64 0, .int .i64 0, .int .i64 0]) (t := 52) ?hr ?_; (case hd => rfl); (case hg => rfl); (case hr => first | (go_simp; done) | (go_simp; rfl)); intro g13 hgg w8 hbx hb; have HXw8 := Aside0.mk hbx; have HGw8 := Aside0.mk hgg; have HBw8 := Aside0.mk (below_on HB7.out hb); have HK8 := Aside0.mk hb; clear hbx hgg hb) | ((with_reducible refine gate_store (t := 52) (p := 13) rfl ?_); refine put_row ?hg ?hn 52 (.tmp 13) (.tmp 103) ?ho g13 52 _ (#[.int .i64 0, .int .i64 0, .int .i64 0]) ?hp ?hx ?hu HXw8.out ?ht ?hs ?h1 ?_; (case hg => rfl); (case hn => rfl); (case ho => rfl); (case hp => rfl); (case hx => rfl); (case hu => rfl); (case ht => kernel_rfl); (case hs => rfl); (case h1 => exact f52_one 0 0 0); intro w9 hbx hg; have HXw9 := Aside0.mk hbx; have HGRw9 := Aside0.mk hg; have HK9 := Aside0.mk (HK8.out.grown hg HK8.out.size (fun q hq => by injection hq with hq; rw [← hq, HGw8.out]; exact Nat.le_refl _)); have HB9 := Aside0.mk (below_on HB7.out HK9.out); have H9 := Aside0.mk (H7.out.below HK9.out); clear hbx hg) | (go_at_call 25; (with_reducible refine (H9.out.vars 0 HF.out.vs (by simp)).mono ?_); rintro e w10 ⟨Av, cv, rfl, hcv, hC, hb⟩; have HB10 := Aside0.mk (below_on HB9.out hb); have H10 := Aside0.mk (H9.out.below hb); obtain ⟨ad, rfl, hcell⟩ := Kd.at_int hC.out 2 (by decide) (by simp); have HCV : Aside0 (w10.cell? ⟨ad.block, ad.off + 2, none⟩ = some (.int .i64 (a - b))) := ⟨(add_lit ad 2 (by decide)) ▸ hcell⟩; clear hb hC hcv hcell) | (go_at_call 24; (with_reducible refine (H10.out.at_ 0 HF.out.pc).mono ?_); rintro e w11 ⟨rfl, hb⟩; have HB11 := Aside0.mk (below_on HB10.out hb); have hcell := pw_cell_below hb HCV.out; clear hb) | (go_at_call 23; (with_reducible refine (known_calls _).mono ?_); rintro e w12 ⟨rfl, hb⟩; have HB12 := Aside0.mk (below_on HB11.out hb); clear hb))
          go_ret
          exact ⟨rfl, HB12.out⟩
      · skip
        have hbd : -4611686018427387904 ≤ a * b ∧ a * b ≤ 4611686018427387904 := mul_bd HR.out.1 HR.out.2
        have HOP : Aside0 (opN 3 a b = a * b) := ⟨by unfold opN; (rw [if_neg (by decide)]; rw [if_neg (by decide)]; rw [if_pos rfl]; exact wrap_id hbd)⟩
        rcases (by omega : a * b < -2147483648 ∨ 2147483647 < a * b ∨ (-2147483648 ≤ a * b ∧ a * b ≤ 2147483647)) with hc | hc | ⟨hc, hc2⟩
        · skip
          have HF := Aside0.mk (f_bad (doP_over HR.out.1 HR.out.2 (by omega) HOP.out (by omega) (by omega)) (by decide))
          go_wp2_with (first | (go_at_call 27; (with_reducible refine (HL.out.1.fault_yes HF.out.bad).mono ?_); rintro e w7 ⟨rfl, hb⟩; have HB7 := Aside0.mk (below_on HL.out.2 hb); have H7 := Aside0.mk (HL.out.1.below hb); clear hb) | ((with_reducible refine gate_dst (N := 13) rfl ?_); refine box_event ?hg (N := 13) ?hd (cs := #[.int .i64 0, .int .i64 0, .int .i64 0]) (t := 52) ?hr ?_; (case hd => rfl); (case hg => rfl); (case hr => first | (go_simp; done) | (go_simp; rfl)); intro g13 hgg w8 hbx hb; have HXw8 := Aside0.mk hbx; have HGw8 := Aside0.mk hgg; have HBw8 := Aside0.mk (below_on HB7.out hb); have HK8 := Aside0.mk hb; clear hbx hgg hb) | ((with_reducible refine gate_store (t := 52) (p := 13) rfl ?_); refine put_row ?hg ?hn 52 (.tmp 13) (.tmp 103) ?ho g13 52 _ (#[.int .i64 0, .int .i64 2, .int .i64 7]) ?hp ?hx ?hu HXw8.out ?ht ?hs ?h1 ?_; (case hg => rfl); (case hn => rfl); (case ho => rfl); (case hp => rfl); (case hx => rfl); (case hu => rfl); (case ht => kernel_rfl); (case hs => rfl); (case h1 => exact f52_one 0 2 7); intro w9 hbx hg; have HXw9 := Aside0.mk hbx; have HGRw9 := Aside0.mk hg; have HK9 := Aside0.mk (HK8.out.grown hg HK8.out.size (fun q hq => by injection hq with hq; rw [← hq, HGw8.out]; exact Nat.le_refl _)); have HB9 := Aside0.mk (below_on HB7.out HK9.out); have H9 := Aside0.mk (H7.out.below HK9.out); have hf0 := (blk_cell hbx 0).trans rfl; have hf1 := (blk_cell hbx 1).trans rfl; have hf2 := (blk_cell hbx 2).trans rfl; clear hbx hg) | (go_at_call 24; (with_reducible refine (H9.out.at_ 0 HF.out.pc).mono ?_); rintro e w10 ⟨rfl, hb⟩; have HB10 := Aside0.mk (below_on HB9.out hb); clear hb) | (go_at_call 23; (with_reducible refine (known_calls _).mono ?_); rintro e w11 ⟨rfl, hb⟩; have HB11 := Aside0.mk (below_on HB10.out hb); clear hb))
          go_ret
          exact ⟨rfl, HB11.out⟩
        · skip
          have HF := Aside0.mk (f_bad (doP_over HR.out.1 HR.out.2 (by omega) HOP.out (by omega) (by omega)) (by decide))
          go_wp2_with (first | (go_at_call 27; (with_reducible refine (HL.out.1.fault_yes HF.out.bad).mono ?_); rintro e w7 ⟨rfl, hb⟩; have HB7 := Aside0.mk (below_on HL.out.2 hb); have H7 := Aside0.mk (HL.out.1.below hb); clear hb) | ((with_reducible refine gate_dst (N := 13) rfl ?_); refine box_event ?hg (N := 13) ?hd (cs := #[.int .i64 0, .int .i64 0, .int .i64 0]) (t := 52) ?hr ?_; (case hd => rfl); (case hg => rfl); (case hr => first | (go_simp; done) | (go_simp; rfl)); intro g13 hgg w8 hbx hb; have HXw8 := Aside0.mk hbx; have HGw8 := Aside0.mk hgg; have HBw8 := Aside0.mk (below_on HB7.out hb); have HK8 := Aside0.mk hb; clear hbx hgg hb) | ((with_reducible refine gate_store (t := 52) (p := 13) rfl ?_); refine put_row ?hg ?hn 52 (.tmp 13) (.tmp 103) ?ho g13 52 _ (#[.int .i64 0, .int .i64 2, .int .i64 7]) ?hp ?hx ?hu HXw8.out ?ht ?hs ?h1 ?_; (case hg => rfl); (case hn => rfl); (case ho => rfl); (case hp => rfl); (case hx => rfl); (case hu => rfl); (case ht => kernel_rfl); (case hs => rfl); (case h1 => exact f52_one 0 2 7); intro w9 hbx hg; have HXw9 := Aside0.mk hbx; have HGRw9 := Aside0.mk hg; have HK9 := Aside0.mk (HK8.out.grown hg HK8.out.size (fun q hq => by injection hq with hq; rw [← hq, HGw8.out]; exact Nat.le_refl _)); have HB9 := Aside0.mk (below_on HB7.out HK9.out); have H9 := Aside0.mk (H7.out.below HK9.out); have hf0 := (blk_cell hbx 0).trans rfl; have hf1 := (blk_cell hbx 1).trans rfl; have hf2 := (blk_cell hbx 2).trans rfl; clear hbx hg) | (go_at_call 24; (with_reducible refine (H9.out.at_ 0 HF.out.pc).mono ?_); rintro e w10 ⟨rfl, hb⟩; have HB10 := Aside0.mk (below_on HB9.out hb); clear hb) | (go_at_call 23; (with_reducible refine (known_calls _).mono ?_); rintro e w11 ⟨rfl, hb⟩; have HB11 := Aside0.mk (below_on HB10.out hb); clear hb))
          go_ret
          exact ⟨rfl, HB11.out⟩
        · skip
          have HF := Aside0.mk (f_good (doP_good HR.out.1 HR.out.2 (by omega) HOP.out (by omega) ⟨hc, hc2⟩))
          go_wp2_with (first | (go_at_call 27; (with_reducible refine (HL.out.1.fault_no HF.out.bad).mono ?_); rintro e w7 ⟨rfl, hb⟩; have HB7 := Aside0.mk (below_on HL.out.2 hb); have H7 := Aside0.mk (HL.out.1.below hb); clear hb) | ((with_reducible refine gate_dst (N := 13) rfl ?_); refine box_event ?hg (N := 13) ?hd (cs := #[.int .i64 0, .int .i64 0, .int .i64 0]) (t := 52) ?hr ?_; (case hd => rfl); (case hg => rfl); (case hr => first | (go_simp; done) | (go_simp; rfl)); intro g13 hgg w8 hbx hb; have HXw8 := Aside0.mk hbx; have HGw8 := Aside0.mk hgg; have HBw8 := Aside0.mk (below_on HB7.out hb); have HK8 := Aside0.mk hb; clear hbx hgg hb) | ((with_reducible refine gate_store (t := 52) (p := 13) rfl ?_); refine put_row ?hg ?hn 52 (.tmp 13) (.tmp 103) ?ho g13 52 _ (#[.int .i64 0, .int .i64 0, .int .i64 0]) ?hp ?hx ?hu HXw8.out ?ht ?hs ?h1 ?_; (case hg => rfl); (case hn => rfl); (case ho => rfl); (case hp => rfl); (case hx => rfl); (case hu => rfl); (case ht => kernel_rfl); (case hs => rfl); (case h1 => exact f52_one 0 0 0); intro w9 hbx hg; have HXw9 := Aside0.mk hbx; have HGRw9 := Aside0.mk hg; have HK9 := Aside0.mk (HK8.out.grown hg HK8.out.size (fun q hq => by injection hq with hq; rw [← hq, HGw8.out]; exact Nat.le_refl _)); have HB9 := Aside0.mk (below_on HB7.out HK9.out); have H9 := Aside0.mk (H7.out.below HK9.out); clear hbx hg) | (go_at_call 25; (with_reducible refine (H9.out.vars 0 HF.out.vs (by simp)).mono ?_); rintro e w10 ⟨Av, cv, rfl, hcv, hC, hb⟩; have HB10 := Aside0.mk (below_on HB9.out hb); have H10 := Aside0.mk (H9.out.below hb); obtain ⟨ad, rfl, hcell⟩ := Kd.at_int hC.out 2 (by decide) (by simp); have HCV : Aside0 (w10.cell? ⟨ad.block, ad.off + 2, none⟩ = some (.int .i64 (a * b))) := ⟨(add_lit ad 2 (by decide)) ▸ hcell⟩; clear hb hC hcv hcell) | (go_at_call 24; (with_reducible refine (H10.out.at_ 0 HF.out.pc).mono ?_); rintro e w11 ⟨rfl, hb⟩; have HB11 := Aside0.mk (below_on HB10.out hb); have hcell := pw_cell_below hb HCV.out; clear hb) | (go_at_call 23; (with_reducible refine (known_calls _).mono ?_); rintro e w12 ⟨rfl, hb⟩; have HB12 := Aside0.mk (below_on HB11.out hb); clear hb))
          go_ret
          exact ⟨rfl, HB12.out⟩
      · by_cases hb0 : b = 0
        · subst hb0
          have HF := Aside0.mk (f_bad (doP_zero (op := 4) HR.out.1 (by omega)) (by decide))
          go_wp2_with (first | (go_at_call 27; (with_reducible refine (HL.out.1.fault_yes HF.out.bad).mono ?_); rintro e w7 ⟨rfl, hb⟩; have HB7 := Aside0.mk (below_on HL.out.2 hb); have H7 := Aside0.mk (HL.out.1.below hb); clear hb) | ((with_reducible refine gate_dst (N := 13) rfl ?_); refine box_event ?hg (N := 13) ?hd (cs := #[.int .i64 0, .int .i64 0, .int .i64 0]) (t := 52) ?hr ?_; (case hd => rfl); (case hg => rfl); (case hr => first | (go_simp; done) | (go_simp; rfl)); intro g13 hgg w8 hbx hb; have HXw8 := Aside0.mk hbx; have HGw8 := Aside0.mk hgg; have HBw8 := Aside0.mk (below_on HB7.out hb); have HK8 := Aside0.mk hb; clear hbx hgg hb) | ((with_reducible refine gate_store (t := 52) (p := 13) rfl ?_); refine put_row ?hg ?hn 52 (.tmp 13) (.tmp 103) ?ho g13 52 _ (#[.int .i64 0, .int .i64 2, .int .i64 8]) ?hp ?hx ?hu HXw8.out ?ht ?hs ?h1 ?_; (case hg => rfl); (case hn => rfl); (case ho => rfl); (case hp => rfl); (case hx => rfl); (case hu => rfl); (case ht => kernel_rfl); (case hs => rfl); (case h1 => exact f52_one 0 2 8); intro w9 hbx hg; have HXw9 := Aside0.mk hbx; have HGRw9 := Aside0.mk hg; have HK9 := Aside0.mk (HK8.out.grown hg HK8.out.size (fun q hq => by injection hq with hq; rw [← hq, HGw8.out]; exact Nat.le_refl _)); have HB9 := Aside0.mk (below_on HB7.out HK9.out); have H9 := Aside0.mk (H7.out.below HK9.out); have hf0 := (blk_cell hbx 0).trans rfl; have hf1 := (blk_cell hbx 1).trans rfl; have hf2 := (blk_cell hbx 2).trans rfl; clear hbx hg) | (go_at_call 24; (with_reducible refine (H9.out.at_ 0 HF.out.pc).mono ?_); rintro e w10 ⟨rfl, hb⟩; have HB10 := Aside0.mk (below_on HB9.out hb); clear hb) | (go_at_call 23; (with_reducible refine (known_calls _).mono ?_); rintro e w11 ⟨rfl, hb⟩; have HB11 := Aside0.mk (below_on HB10.out hb); clear hb))
          go_ret
          exact ⟨rfl, HB11.out⟩
        have hb1 : (b == 0) = false := beq_eq_false_iff_ne.mpr hb0
        have hbd : -4611686018427387904 ≤ a.tdiv b ∧ a.tdiv b ≤ 4611686018427387904 := by have := tdiv_bd (b := b) HR.out.1; omega
        have HOP : Aside0 (opN 4 a b = a.tdiv b) := ⟨by unfold opN; (rw [if_neg (by decide)]; rw [if_neg (by decide)]; rw [if_neg (by decide)]; rw [if_pos rfl]; exact wrap_id hbd)⟩
        rcases (by omega : a.tdiv b < -2147483648 ∨ 2147483647 < a.tdiv b ∨ (-2147483648 ≤ a.tdiv b ∧ a.tdiv b ≤ 2147483647)) with hc | hc | ⟨hc, hc2⟩
        · skip
          have HF := Aside0.mk (f_bad (doP_over HR.out.1 HR.out.2 (by omega) HOP.out (by omega) (by omega)) (by decide))
          go_wp2_with (first | (go_at_call 27; (with_reducible refine (HL.out.1.fault_yes HF.out.bad).mono ?_); rintro e w7 ⟨rfl, hb⟩; have HB7 := Aside0.mk (below_on HL.out.2 hb); have H7 := Aside0.mk (HL.out.1.below hb); clear hb) | ((with_reducible refine gate_dst (N := 13) rfl ?_); refine box_event ?hg (N := 13) ?hd (cs := #[.int .i64 0, .int .i64 0, .int .i64 0]) (t := 52) ?hr ?_; (case hd => rfl); (case hg => rfl); (case hr => first | (go_simp; done) | (go_simp; rfl)); intro g13 hgg w8 hbx hb; have HXw8 := Aside0.mk hbx; have HGw8 := Aside0.mk hgg; have HBw8 := Aside0.mk (below_on HB7.out hb); have HK8 := Aside0.mk hb; clear hbx hgg hb) | ((with_reducible refine gate_store (t := 52) (p := 13) rfl ?_); refine put_row ?hg ?hn 52 (.tmp 13) (.tmp 103) ?ho g13 52 _ (#[.int .i64 0, .int .i64 2, .int .i64 7]) ?hp ?hx ?hu HXw8.out ?ht ?hs ?h1 ?_; (case hg => rfl); (case hn => rfl); (case ho => rfl); (case hp => rfl); (case hx => rfl); (case hu => rfl); (case ht => kernel_rfl); (case hs => rfl); (case h1 => exact f52_one 0 2 7); intro w9 hbx hg; have HXw9 := Aside0.mk hbx; have HGRw9 := Aside0.mk hg; have HK9 := Aside0.mk (HK8.out.grown hg HK8.out.size (fun q hq => by injection hq with hq; rw [← hq, HGw8.out]; exact Nat.le_refl _)); have HB9 := Aside0.mk (below_on HB7.out HK9.out); have H9 := Aside0.mk (H7.out.below HK9.out); have hf0 := (blk_cell hbx 0).trans rfl; have hf1 := (blk_cell hbx 1).trans rfl; have hf2 := (blk_cell hbx 2).trans rfl; clear hbx hg) | (go_at_call 24; (with_reducible refine (H9.out.at_ 0 HF.out.pc).mono ?_); rintro e w10 ⟨rfl, hb⟩; have HB10 := Aside0.mk (below_on HB9.out hb); clear hb) | (go_at_call 23; (with_reducible refine (known_calls _).mono ?_); rintro e w11 ⟨rfl, hb⟩; have HB11 := Aside0.mk (below_on HB10.out hb); clear hb))
          go_ret
          exact ⟨rfl, HB11.out⟩
        · skip
          have HF := Aside0.mk (f_bad (doP_over HR.out.1 HR.out.2 (by omega) HOP.out (by omega) (by omega)) (by decide))
          go_wp2_with (first | (go_at_call 27; (with_reducible refine (HL.out.1.fault_yes HF.out.bad).mono ?_); rintro e w7 ⟨rfl, hb⟩; have HB7 := Aside0.mk (below_on HL.out.2 hb); have H7 := Aside0.mk (HL.out.1.below hb); clear hb) | ((with_reducible refine gate_dst (N := 13) rfl ?_); refine box_event ?hg (N := 13) ?hd (cs := #[.int .i64 0, .int .i64 0, .int .i64 0]) (t := 52) ?hr ?_; (case hd => rfl); (case hg => rfl); (case hr => first | (go_simp; done) | (go_simp; rfl)); intro g13 hgg w8 hbx hb; have HXw8 := Aside0.mk hbx; have HGw8 := Aside0.mk hgg; have HBw8 := Aside0.mk (below_on HB7.out hb); have HK8 := Aside0.mk hb; clear hbx hgg hb) | ((with_reducible refine gate_store (t := 52) (p := 13) rfl ?_); refine put_row ?hg ?hn 52 (.tmp 13) (.tmp 103) ?ho g13 52 _ (#[.int .i64 0, .int .i64 2, .int .i64 7]) ?hp ?hx ?hu HXw8.out ?ht ?hs ?h1 ?_; (case hg => rfl); (case hn => rfl); (case ho => rfl); (case hp => rfl); (case hx => rfl); (case hu => rfl); (case ht => kernel_rfl); (case hs => rfl); (case h1 => exact f52_one 0 2 7); intro w9 hbx hg; have HXw9 := Aside0.mk hbx; have HGRw9 := Aside0.mk hg; have HK9 := Aside0.mk (HK8.out.grown hg HK8.out.size (fun q hq => by injection hq with hq; rw [← hq, HGw8.out]; exact Nat.le_refl _)); have HB9 := Aside0.mk (below_on HB7.out HK9.out); have H9 := Aside0.mk (H7.out.below HK9.out); have hf0 := (blk_cell hbx 0).trans rfl; have hf1 := (blk_cell hbx 1).trans rfl; have hf2 := (blk_cell hbx 2).trans rfl; clear hbx hg) | (go_at_call 24; (with_reducible refine (H9.out.at_ 0 HF.out.pc).mono ?_); rintro e w10 ⟨rfl, hb⟩; have HB10 := Aside0.mk (below_on HB9.out hb); clear hb) | (go_at_call 23; (with_reducible refine (known_calls _).mono ?_); rintro e w11 ⟨rfl, hb⟩; have HB11 := Aside0.mk (below_on HB10.out hb); clear hb))
          go_ret
          exact ⟨rfl, HB11.out⟩
        · skip
          have HF := Aside0.mk (f_good (doP_good HR.out.1 HR.out.2 (by omega) HOP.out (by omega) ⟨hc, hc2⟩))
          go_wp2_with (first | (go_at_call 27; (with_reducible refine (HL.out.1.fault_no HF.out.bad).mono ?_); rintro e w7 ⟨rfl, hb⟩; have HB7 := Aside0.mk (below_on HL.out.2 hb); have H7 := Aside0.mk (HL.out.1.below hb); clear hb) | ((with_reducible refine gate_dst (N := 13) rfl ?_); refine box_event ?hg (N := 13) ?hd (cs := #[.int .i64 0, .int .i64 0, .int .i64 0]) (t := 52) ?hr ?_; (case hd => rfl); (case hg => rfl); (case hr => first | (go_simp; done) | (go_simp; rfl)); intro g13 hgg w8 hbx hb; have HXw8 := Aside0.mk hbx; have HGw8 := Aside0.mk hgg; have HBw8 := Aside0.mk (below_on HB7.out hb); have HK8 := Aside0.mk hb; clear hbx hgg hb) | ((with_reducible refine gate_store (t := 52) (p := 13) rfl ?_); refine put_row ?hg ?hn 52 (.tmp 13) (.tmp 103) ?ho g13 52 _ (#[.int .i64 0, .int .i64 0, .int .i64 0]) ?hp ?hx ?hu HXw8.out ?ht ?hs ?h1 ?_; (case hg => rfl); (case hn => rfl); (case ho => rfl); (case hp => rfl); (case hx => rfl); (case hu => rfl); (case ht => kernel_rfl); (case hs => rfl); (case h1 => exact f52_one 0 0 0); intro w9 hbx hg; have HXw9 := Aside0.mk hbx; have HGRw9 := Aside0.mk hg; have HK9 := Aside0.mk (HK8.out.grown hg HK8.out.size (fun q hq => by injection hq with hq; rw [← hq, HGw8.out]; exact Nat.le_refl _)); have HB9 := Aside0.mk (below_on HB7.out HK9.out); have H9 := Aside0.mk (H7.out.below HK9.out); clear hbx hg) | (go_at_call 25; (with_reducible refine (H9.out.vars 0 HF.out.vs (by simp)).mono ?_); rintro e w10 ⟨Av, cv, rfl, hcv, hC, hb⟩; have HB10 := Aside0.mk (below_on HB9.out hb); have H10 := Aside0.mk (H9.out.below hb); obtain ⟨ad, rfl, hcell⟩ := Kd.at_int hC.out 2 (by decide) (by simp); have HCV : Aside0 (w10.cell? ⟨ad.block, ad.off + 2, none⟩ = some (.int .i64 (a.tdiv b))) := ⟨(add_lit ad 2 (by decide)) ▸ hcell⟩; clear hb hC hcv hcell) | (go_at_call 24; (with_reducible refine (H10.out.at_ 0 HF.out.pc).mono ?_); rintro e w11 ⟨rfl, hb⟩; have HB11 := Aside0.mk (below_on HB10.out hb); have hcell := pw_cell_below hb HCV.out; clear hb) | (go_at_call 23; (with_reducible refine (known_calls _).mono ?_); rintro e w12 ⟨rfl, hb⟩; have HB12 := Aside0.mk (below_on HB11.out hb); clear hb))
          go_ret
          exact ⟨rfl, HB12.out⟩
      · by_cases hb0 : b = 0
        · subst hb0
          have HF := Aside0.mk (f_bad (doP_zero (op := 5) HR.out.1 (by omega)) (by decide))
          go_wp2_with (first | (go_at_call 27; (with_reducible refine (HL.out.1.fault_yes HF.out.bad).mono ?_); rintro e w7 ⟨rfl, hb⟩; have HB7 := Aside0.mk (below_on HL.out.2 hb); have H7 := Aside0.mk (HL.out.1.below hb); clear hb) | ((with_reducible refine gate_dst (N := 13) rfl ?_); refine box_event ?hg (N := 13) ?hd (cs := #[.int .i64 0, .int .i64 0, .int .i64 0]) (t := 52) ?hr ?_; (case hd => rfl); (case hg => rfl); (case hr => first | (go_simp; done) | (go_simp; rfl)); intro g13 hgg w8 hbx hb; have HXw8 := Aside0.mk hbx; have HGw8 := Aside0.mk hgg; have HBw8 := Aside0.mk (below_on HB7.out hb); have HK8 := Aside0.mk hb; clear hbx hgg hb) | ((with_reducible refine gate_store (t := 52) (p := 13) rfl ?_); refine put_row ?hg ?hn 52 (.tmp 13) (.tmp 103) ?ho g13 52 _ (#[.int .i64 0, .int .i64 2, .int .i64 8]) ?hp ?hx ?hu HXw8.out ?ht ?hs ?h1 ?_; (case hg => rfl); (case hn => rfl); (case ho => rfl); (case hp => rfl); (case hx => rfl); (case hu => rfl); (case ht => kernel_rfl); (case hs => rfl); (case h1 => exact f52_one 0 2 8); intro w9 hbx hg; have HXw9 := Aside0.mk hbx; have HGRw9 := Aside0.mk hg; have HK9 := Aside0.mk (HK8.out.grown hg HK8.out.size (fun q hq => by injection hq with hq; rw [← hq, HGw8.out]; exact Nat.le_refl _)); have HB9 := Aside0.mk (below_on HB7.out HK9.out); have H9 := Aside0.mk (H7.out.below HK9.out); have hf0 := (blk_cell hbx 0).trans rfl; have hf1 := (blk_cell hbx 1).trans rfl; have hf2 := (blk_cell hbx 2).trans rfl; clear hbx hg) | (go_at_call 24; (with_reducible refine (H9.out.at_ 0 HF.out.pc).mono ?_); rintro e w10 ⟨rfl, hb⟩; have HB10 := Aside0.mk (below_on HB9.out hb); clear hb) | (go_at_call 23; (with_reducible refine (known_calls _).mono ?_); rintro e w11 ⟨rfl, hb⟩; have HB11 := Aside0.mk (below_on HB10.out hb); clear hb))
          go_ret
          exact ⟨rfl, HB11.out⟩
        have hb1 : (b == 0) = false := beq_eq_false_iff_ne.mpr hb0
        have hbd : -4611686018427387904 ≤ a.tmod b ∧ a.tmod b ≤ 4611686018427387904 := by have := tmod_bd (b := b) HR.out.1; omega
        have HOP : Aside0 (opN 5 a b = a.tmod b) := ⟨by unfold opN; (rw [if_neg (by decide)]; rw [if_neg (by decide)]; rw [if_neg (by decide)]; rw [if_neg (by decide)]; skip)⟩
        rcases (by omega : a.tmod b < -2147483648 ∨ 2147483647 < a.tmod b ∨ (-2147483648 ≤ a.tmod b ∧ a.tmod b ≤ 2147483647)) with hc | hc | ⟨hc, hc2⟩
        · skip
          have HF := Aside0.mk (f_bad (doP_over HR.out.1 HR.out.2 (by omega) HOP.out (by omega) (by omega)) (by decide))
          go_wp2_with (first | (go_at_call 27; (with_reducible refine (HL.out.1.fault_yes HF.out.bad).mono ?_); rintro e w7 ⟨rfl, hb⟩; have HB7 := Aside0.mk (below_on HL.out.2 hb); have H7 := Aside0.mk (HL.out.1.below hb); clear hb) | ((with_reducible refine gate_dst (N := 13) rfl ?_); refine box_event ?hg (N := 13) ?hd (cs := #[.int .i64 0, .int .i64 0, .int .i64 0]) (t := 52) ?hr ?_; (case hd => rfl); (case hg => rfl); (case hr => first | (go_simp; done) | (go_simp; rfl)); intro g13 hgg w8 hbx hb; have HXw8 := Aside0.mk hbx; have HGw8 := Aside0.mk hgg; have HBw8 := Aside0.mk (below_on HB7.out hb); have HK8 := Aside0.mk hb; clear hbx hgg hb) | ((with_reducible refine gate_store (t := 52) (p := 13) rfl ?_); refine put_row ?hg ?hn 52 (.tmp 13) (.tmp 103) ?ho g13 52 _ (#[.int .i64 0, .int .i64 2, .int .i64 7]) ?hp ?hx ?hu HXw8.out ?ht ?hs ?h1 ?_; (case hg => rfl); (case hn => rfl); (case ho => rfl); (case hp => rfl); (case hx => rfl); (case hu => rfl); (case ht => kernel_rfl); (case hs => rfl); (case h1 => exact f52_one 0 2 7); intro w9 hbx hg; have HXw9 := Aside0.mk hbx; have HGRw9 := Aside0.mk hg; have HK9 := Aside0.mk (HK8.out.grown hg HK8.out.size (fun q hq => by injection hq with hq; rw [← hq, HGw8.out]; exact Nat.le_refl _)); have HB9 := Aside0.mk (below_on HB7.out HK9.out); have H9 := Aside0.mk (H7.out.below HK9.out); have hf0 := (blk_cell hbx 0).trans rfl; have hf1 := (blk_cell hbx 1).trans rfl; have hf2 := (blk_cell hbx 2).trans rfl; clear hbx hg) | (go_at_call 24; (with_reducible refine (H9.out.at_ 0 HF.out.pc).mono ?_); rintro e w10 ⟨rfl, hb⟩; have HB10 := Aside0.mk (below_on HB9.out hb); clear hb) | (go_at_call 23; (with_reducible refine (known_calls _).mono ?_); rintro e w11 ⟨rfl, hb⟩; have HB11 := Aside0.mk (below_on HB10.out hb); clear hb))
          go_ret
          exact ⟨rfl, HB11.out⟩
        · skip
          have HF := Aside0.mk (f_bad (doP_over HR.out.1 HR.out.2 (by omega) HOP.out (by omega) (by omega)) (by decide))
          go_wp2_with (first | (go_at_call 27; (with_reducible refine (HL.out.1.fault_yes HF.out.bad).mono ?_); rintro e w7 ⟨rfl, hb⟩; have HB7 := Aside0.mk (below_on HL.out.2 hb); have H7 := Aside0.mk (HL.out.1.below hb); clear hb) | ((with_reducible refine gate_dst (N := 13) rfl ?_); refine box_event ?hg (N := 13) ?hd (cs := #[.int .i64 0, .int .i64 0, .int .i64 0]) (t := 52) ?hr ?_; (case hd => rfl); (case hg => rfl); (case hr => first | (go_simp; done) | (go_simp; rfl)); intro g13 hgg w8 hbx hb; have HXw8 := Aside0.mk hbx; have HGw8 := Aside0.mk hgg; have HBw8 := Aside0.mk (below_on HB7.out hb); have HK8 := Aside0.mk hb; clear hbx hgg hb) | ((with_reducible refine gate_store (t := 52) (p := 13) rfl ?_); refine put_row ?hg ?hn 52 (.tmp 13) (.tmp 103) ?ho g13 52 _ (#[.int .i64 0, .int .i64 2, .int .i64 7]) ?hp ?hx ?hu HXw8.out ?ht ?hs ?h1 ?_; (case hg => rfl); (case hn => rfl); (case ho => rfl); (case hp => rfl); (case hx => rfl); (case hu => rfl); (case ht => kernel_rfl); (case hs => rfl); (case h1 => exact f52_one 0 2 7); intro w9 hbx hg; have HXw9 := Aside0.mk hbx; have HGRw9 := Aside0.mk hg; have HK9 := Aside0.mk (HK8.out.grown hg HK8.out.size (fun q hq => by injection hq with hq; rw [← hq, HGw8.out]; exact Nat.le_refl _)); have HB9 := Aside0.mk (below_on HB7.out HK9.out); have H9 := Aside0.mk (H7.out.below HK9.out); have hf0 := (blk_cell hbx 0).trans rfl; have hf1 := (blk_cell hbx 1).trans rfl; have hf2 := (blk_cell hbx 2).trans rfl; clear hbx hg) | (go_at_call 24; (with_reducible refine (H9.out.at_ 0 HF.out.pc).mono ?_); rintro e w10 ⟨rfl, hb⟩; have HB10 := Aside0.mk (below_on HB9.out hb); clear hb) | (go_at_call 23; (with_reducible refine (known_calls _).mono ?_); rintro e w11 ⟨rfl, hb⟩; have HB11 := Aside0.mk (below_on HB10.out hb); clear hb))
          go_ret
          exact ⟨rfl, HB11.out⟩
        · skip
          have HF := Aside0.mk (f_good (doP_good HR.out.1 HR.out.2 (by omega) HOP.out (by omega) ⟨hc, hc2⟩))
          go_wp2_with (first | (go_at_call 27; (with_reducible refine (HL.out.1.fault_no HF.out.bad).mono ?_); rintro e w7 ⟨rfl, hb⟩; have HB7 := Aside0.mk (below_on HL.out.2 hb); have H7 := Aside0.mk (HL.out.1.below hb); clear hb) | ((with_reducible refine gate_dst (N := 13) rfl ?_); refine box_event ?hg (N := 13) ?hd (cs := #[.int .i64 0, .int .i64 0, .int .i64 0]) (t := 52) ?hr ?_; (case hd => rfl); (case hg => rfl); (case hr => first | (go_simp; done) | (go_simp; rfl)); intro g13 hgg w8 hbx hb; have HXw8 := Aside0.mk hbx; have HGw8 := Aside0.mk hgg; have HBw8 := Aside0.mk (below_on HB7.out hb); have HK8 := Aside0.mk hb; clear hbx hgg hb) | ((with_reducible refine gate_store (t := 52) (p := 13) rfl ?_); refine put_row ?hg ?hn 52 (.tmp 13) (.tmp 103) ?ho g13 52 _ (#[.int .i64 0, .int .i64 0, .int .i64 0]) ?hp ?hx ?hu HXw8.out ?ht ?hs ?h1 ?_; (case hg => rfl); (case hn => rfl); (case ho => rfl); (case hp => rfl); (case hx => rfl); (case hu => rfl); (case ht => kernel_rfl); (case hs => rfl); (case h1 => exact f52_one 0 0 0); intro w9 hbx hg; have HXw9 := Aside0.mk hbx; have HGRw9 := Aside0.mk hg; have HK9 := Aside0.mk (HK8.out.grown hg HK8.out.size (fun q hq => by injection hq with hq; rw [← hq, HGw8.out]; exact Nat.le_refl _)); have HB9 := Aside0.mk (below_on HB7.out HK9.out); have H9 := Aside0.mk (H7.out.below HK9.out); clear hbx hg) | (go_at_call 25; (with_reducible refine (H9.out.vars 0 HF.out.vs (by simp)).mono ?_); rintro e w10 ⟨Av, cv, rfl, hcv, hC, hb⟩; have HB10 := Aside0.mk (below_on HB9.out hb); have H10 := Aside0.mk (H9.out.below hb); obtain ⟨ad, rfl, hcell⟩ := Kd.at_int hC.out 2 (by decide) (by simp); have HCV : Aside0 (w10.cell? ⟨ad.block, ad.off + 2, none⟩ = some (.int .i64 (a.tmod b))) := ⟨(add_lit ad 2 (by decide)) ▸ hcell⟩; clear hb hC hcv hcell) | (go_at_call 24; (with_reducible refine (H10.out.at_ 0 HF.out.pc).mono ?_); rintro e w11 ⟨rfl, hb⟩; have HB11 := Aside0.mk (below_on HB10.out hb); have hcell := pw_cell_below hb HCV.out; clear hb) | (go_at_call 23; (with_reducible refine (known_calls _).mono ?_); rintro e w12 ⟨rfl, hb⟩; have HB12 := Aside0.mk (below_on HB11.out hb); clear hb))
          go_ret
          exact ⟨rfl, HB12.out⟩
end Go.Proofs.Ytikjamcemnbhbaa.Mr
