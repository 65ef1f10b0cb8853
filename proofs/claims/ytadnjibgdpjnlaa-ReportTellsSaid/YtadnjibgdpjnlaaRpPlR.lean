/- What the reference's Meet and All come to, as rows. Nothing of a walk stands here. -/
import Derived.Test.YtadnjibgdpjnlaaRpPlC
import Derived.Test.YtadnjibgdpjnlaaRpPlL
import Derived.Test.YtadnjibgdpjnlaaHeldPlain
import Derived.Test.YtadnjibgdpjnlaaRpF31
import Derived.Test.YtadnjibgdpjnlaaRpF21
namespace Go.Proofs.Ytadnjibgdpjnlaa.Plain
open Go.RowKit Go.Proofs.Ytadnjibgdpjnlaa.Rp Go.Proofs.YtadnjibgdpjnlaaW.PrintWords
theorem ref_apart {v w : BitVec 64} (hv : isSet v) : meddlerref3_Apart.f v.toInt w.toInt = some (((listV (v &&& w)).length : Int) == 0) := by
  unfold meddlerref3_Apart.f
  rw [show (2147483647 : Int) = (2147483647#64).toInt by decide, andV, andV]
  congr 1
  rw [zeroV, Bool.eq_iff_iff, beq_iff_eq, beq_iff_eq, inj, ← zeroV]
  rw [show (((listV (v &&& w)).length : Int) = 0 ↔ listV (v &&& w) = []) by rw [← List.length_eq_zero_iff]; omega, list_nil]
  have mask : ∀ i, i < 31 → (2147483647#64).getLsbD i = true := by
    have : ∀ i : Fin 31, (2147483647#64).getLsbD i.val = true := by decide
    exact fun i hi => this ⟨i, hi⟩
  constructor
  · intro h m
    have e := fun i => congrArg (fun y : BitVec 64 => y.getLsbD i) h
    unfold hasB
    by_cases hm : 0 ≤ m ∧ m < 31
    · have := e m.toNat
      simp only [BitVec.getLsbD_and, mask m.toNat (by omega), BitVec.getLsbD_zero, Bool.and_true] at this
      simp [hm, this]
    · simp [hm]
  · intro h
    apply BitVec.eq_of_getLsbD_eq
    intro i hi
    by_cases h31 : i < 31
    · have := h (i : Int)
      rw [hasB_nat] at this
      simp only [h31, decide_true, Bool.true_and] at this
      rw [BitVec.getLsbD_and, this]; simp
    · rw [BitVec.getLsbD_and, BitVec.getLsbD_and, set_bit hv i (by omega)]; simp
end Go.Proofs.Ytadnjibgdpjnlaa.Plain
namespace Go.Proofs.Ytadnjibgdpjnlaa.Rp
open Go.RowKit Go.Proofs.YtadnjibgdpjnlaaW.PrintWords Go.Proofs.YtadnjibgdpjnlaaW.PrintLast Go.Sort Go.Lib
theorem ref_apart {a b : Int} (ha : setI a) (hwa : wfI a) (hb : wfI b) : meddlerref3_Apart.f a b = some (apartB a b) := by
  have := @Plain.ref_apart (bv a) (bv b) (by rw [Plain.isSet, bv_wf hwa]; exact ha)
  rwa [bv_wf hwa, bv_wf hb] at this
theorem ref_meet (a b : S31) (hs : setI a.f5) (ha : wfI a.f5) (hb : wfI b.f5) : meddlerref15_Meet.f a.f0 a.f1 a.f2 a.f3 a.f4 a.f5 b.f0 b.f1 b.f2 b.f3 b.f4 b.f5 = some (meetB a b) := by
  unfold meddlerref15_Meet.f meetB
  rw [ref_apart hs ha hb]
  by_cases h0 : a.f0 = b.f0
  · rw [if_pos h0]; simp [h0]
  · rw [if_neg h0]
    by_cases h1 : (a.f2 == b.f2) = true
    · rw [if_pos h1]
      by_cases h2 : a.f3 = b.f3
      · rw [if_pos h2]
        by_cases h3 : a.f4 = true
        · rw [if_pos h3]; simp [h0, h1, h2, h3]
        · rw [if_neg h3]
          by_cases h4 : b.f4 = true
          · rw [if_pos h4]; simp [h0, h1, h2, h4]
          · rw [if_neg h4]; simp [h3, h4]
      · rw [if_neg h2]; simp [h2]
    · rw [if_neg h1]; simp [Bool.eq_false_iff.2 h1]
theorem ref_all1 (l : List S31) (hs : ∀ b ∈ l, setI b.f5) (hw : ∀ b ∈ l, wfI b.f5) (hn : l.length ≤ 900) (i : Nat) (hi : i < l.length) (R : List S24) :
    ∀ (d j : Nat) (acc : List S24), j + d = l.length → acc.length ≤ i * l.length + j → Ev (fun k => meddlerref15_All.l0 k l ((pairsL l[i] (l.drop j)).foldl ins acc) ((i + 1 : Nat) : Int)) R → Ev (fun k => meddlerref15_All.l1 k l acc (i : Int) (j : Int)) R := by
  intro d
  induction d with
  | zero =>
    intro j acc hj hl h
    refine Ev_shift ?_
    simp only [meddlerref15_All.l1]
    rw [wrap_succ hi (by omega)]
    refine Ev_neg (by omega) ?_
    rw [List.drop_eq_nil_of_le (by omega)] at h
    exact h
  | succ d ih =>
    intro j acc hj hl h
    have hlt : j < l.length := by omega
    have hmul : i * l.length ≤ 900 * 900 := Nat.mul_le_mul (by omega) (by omega)
    have hd : l.drop j = l[j] :: l.drop (j + 1) := List.drop_eq_getElem_cons hlt
    refine Ev_shift ?_
    simp only [meddlerref15_All.l1]
    refine Ev_pos (by omega) (Ev_pos (by omega) (Ev_pos (by omega) (Ev_pos (by omega) ?_)))
    rw [rd31_at l i hi, rd31_at l j hlt, wrap_succ hlt (by omega)]
    by_cases h0 : l[i].f0 < l[j].f0
    · refine Ev_pos h0 ?_
      rw [ref_meet l[i] l[j] (hs _ (List.getElem_mem hi)) (hw _ (List.getElem_mem hi)) (hw _ (List.getElem_mem hlt))]
      simp only [Option.bind_some]
      by_cases hm : meetB l[i] l[j] = true
      · refine Ev_pos hm (Ev.bind (lay_ev acc (raceA l[i] l[j]) (by omega)) ?_)
        refine ih (j + 1) _ (by omega) (by have := ins_len acc (raceA l[i] l[j]); omega) ?_
        rw [hd, pairsL_hit _ (by simp [hitB, h0, hm])] at h
        exact h
      · refine Ev_neg hm ?_
        refine ih (j + 1) acc (by omega) (by omega) ?_
        rw [hd, pairsL_miss _ (by simp [hitB, hm])] at h
        exact h
    · refine Ev_neg h0 ?_
      refine ih (j + 1) acc (by omega) (by omega) ?_
      rw [hd, pairsL_miss _ (by simp [hitB, h0])] at h
      exact h
theorem foldl_ins_len (m : List S24) : ∀ acc : List S24, (m.foldl ins acc).length ≤ acc.length + m.length := by
  induction m with
  | nil => intro acc; simp
  | cons a m ih => intro acc; rw [List.foldl_cons, List.length_cons]; have := ih (ins acc a); have := ins_len acc a; omega
theorem ref_all0 (l : List S31) (hs : ∀ b ∈ l, setI b.f5) (hw : ∀ b ∈ l, wfI b.f5) (hn : l.length ≤ 900) : ∀ (d i : Nat) (acc : List S24), i + d = l.length → acc.length ≤ i * l.length →
    Ev (fun k => meddlerref15_All.l0 k l acc (i : Int)) (((l.drop i).flatMap fun a => pairsL a l).foldl ins acc) := by
  intro d
  induction d with
  | zero =>
    intro i acc hi _
    refine Ev_shift ?_
    simp only [meddlerref15_All.l0]
    refine Ev_neg (by omega) ?_
    rw [List.drop_eq_nil_of_le (by omega)]
    exact Ev.now _
  | succ d ih =>
    intro i acc hi hl
    have hlt : i < l.length := by omega
    refine Ev_shift ?_
    simp only [meddlerref15_All.l0]
    refine Ev_pos (by omega) ?_
    refine ref_all1 l hs hw hn i hlt _ l.length 0 acc (by omega) (by omega) ?_
    rw [List.drop_eq_getElem_cons hlt, List.flatMap_cons, List.foldl_append]
    refine ih (i + 1) _ (by omega) ?_
    have := foldl_ins_len (pairsL l[i] (l.drop 0)) acc
    have := pairsL_len l[i] (l.drop 0)
    rw [Nat.succ_mul]
    simp only [List.drop_zero] at *
    omega
theorem ref_all_ev (l : List S31) (hs : ∀ b ∈ l, setI b.f5) (hw : ∀ b ∈ l, wfI b.f5) (hn : l.length ≤ 900) : ∃ r, Ev (fun k => meddlerref15_All.f k l) r ∧ SS r ∧ (∀ x, x ∈ r ↔ x ∈ allL l) := by
  have h := ref_all0 l hs hw hn l.length 0 [] (by omega) (by simp)
  obtain ⟨h1, h2⟩ := foldl_ins (allL l) [] List.Pairwise.nil
  exact ⟨_, by simpa [meddlerref15_All.f, allL] using h, h1, fun x => (h2 x).trans (by simp)⟩
end Go.Proofs.Ytadnjibgdpjnlaa.Rp
