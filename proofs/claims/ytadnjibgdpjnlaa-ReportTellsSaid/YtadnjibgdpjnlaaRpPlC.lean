/- What clash.Meet, pairs and All come to, as rows. Nothing of a walk stands here. -/
import Derived.Test.YtadnjibgdpjnlaaRpPlA
import Derived.Test.YtadnjibgdpjnlaaRpHeld
import Derived.Test.YtadnjibgdpjnlaaRpF20
namespace Go.Proofs.Ytadnjibgdpjnlaa.Rp
open Go.RowKit Go.Proofs.YtadnjibgdpjnlaaW.PrintWords Go.Proofs.YtadnjibgdpjnlaaW.PrintLast Go.Sort Go.Lib
abbrev wfI (a : Int) : Prop := (Lit.int .i64 a).wf = true
def bv (a : Int) : BitVec 64 := BitVec.ofInt 64 a
theorem bv_wf {a : Int} (h : wfI a) : (bv a).toInt = a := by
  obtain ⟨v, rfl⟩ := Plain.ofV a h
  unfold bv
  rw [BitVec.ofInt_toInt]
def apartB (a b : Int) : Bool := ((Plain.listV (bv a &&& bv b)).length : Int) == 0
theorem apart_ev {a b : Int} (ha : wfI a) (hb : wfI b) : Ev (fun k => held_Apart.f k a b) (apartB a b) := by
  have := Plain.apart_ev (bv a) (bv b)
  rwa [bv_wf ha, bv_wf hb] at this
def setI (a : Int) : Prop := 0 ≤ a ∧ a < 2147483648
def meetB (a b : S31) : Bool := decide (a.f0 ≠ b.f0) && (a.f2 == b.f2 && (decide (a.f3 = b.f3) && ((a.f4 || b.f4) && apartB a.f5 b.f5)))
theorem meet_ev (a b : S31) (ha : wfI a.f5) (hb : wfI b.f5) : Ev (fun k => clash_Meet.f k a.f0 a.f1 a.f2 a.f3 a.f4 a.f5 b.f0 b.f1 b.f2 b.f3 b.f4 b.f5) (meetB a b) := by
  unfold clash_Meet.f meetB
  by_cases h0 : a.f0 = b.f0
  · exact Ev_pos h0 (Ev_as (Ev.now _) (by simp [h0]))
  · refine Ev_neg h0 ?_
    by_cases h1 : (a.f2 == b.f2) = true
    · refine Ev_pos h1 ?_
      by_cases h2 : a.f3 = b.f3
      · refine Ev_pos h2 ?_
        by_cases h3 : a.f4 = true
        · refine Ev_pos h3 (Ev.bind (apart_ev ha hb) (Ev_as (Ev.now _) ?_))
          simp [h0, h1, h2, h3]
        · refine Ev_neg h3 ?_
          by_cases h4 : b.f4 = true
          · refine Ev_pos h4 (Ev.bind (apart_ev ha hb) (Ev_as (Ev.now _) ?_))
            simp [h0, h1, h2, h4]
          · exact Ev_neg h4 (Ev_as (Ev.now _) (by simp [h3, h4]))
      · exact Ev_neg h2 (Ev_as (Ev.now _) (by simp [h2]))
    · exact Ev_neg h1 (Ev_as (Ev.now _) (by simp [Bool.eq_false_iff.2 h1]))
def raceA (a b : S31) : S24 := ⟨2, a.f0, a.f1, 0, b.f0, b.f1⟩
def hitB (a b : S31) : Bool := decide (a.f0 < b.f0) && meetB a b
def pairsL (a : S31) (l : List S31) : List S24 := (l.filter (hitB a)).map (raceA a)
theorem pairsL_len (a : S31) (l : List S31) : (pairsL a l).length ≤ l.length := by unfold pairsL; rw [List.length_map]; exact List.length_filter_le _ _
theorem pairsL_hit {a b : S31} (l : List S31) (h : hitB a b = true) : pairsL a (b :: l) = raceA a b :: pairsL a l := by unfold pairsL; rw [List.filter_cons_of_pos h]; rfl
theorem pairsL_miss {a b : S31} (l : List S31) (h : hitB a b = false) : pairsL a (b :: l) = pairsL a l := by unfold pairsL; rw [List.filter_cons_of_neg (by rw [h]; simp)]
theorem pairs_loop (a : S31) (l : List S31) (ha : wfI a.f5) (hw : ∀ b ∈ l, wfI b.f5) (hn : l.length ≤ 1000000) : ∀ (d i : Nat) (acc : List S24), i + d = l.length → acc.length ≤ i →
    Ev (fun k => clash_pairs.l0 k acc l (l.length : Int) (i : Int) a.f0 a.f1 a.f2 a.f3 a.f4 a.f5) (acc ++ pairsL a (l.drop i)) := by
  intro d
  induction d with
  | zero =>
    intro i acc hi _
    refine Ev_shift ?_
    simp only [clash_pairs.l0]
    refine Ev_neg (by omega) (Ev_as (Ev.now _) ?_)
    rw [List.drop_eq_nil_of_le (by omega)]; simp [pairsL]
  | succ d ih =>
    intro i acc hi hl
    have hlt : i < l.length := by omega
    refine Ev_shift ?_
    simp only [clash_pairs.l0]
    refine Ev_pos (by omega) (Ev_pos (by omega) (Ev_pos (by omega) ?_))
    rw [rd31_at l i hlt, wrap_succ hlt (by omega)]
    have hd : l.drop i = l[i] :: l.drop (i + 1) := List.drop_eq_getElem_cons hlt
    by_cases h : a.f0 < l[i].f0
    · refine Ev_pos h (Ev.bind (meet_ev a l[i] ha (hw _ (List.getElem_mem hlt))) ?_)
      by_cases hm : meetB a l[i] = true
      · refine Ev_pos hm (Ev_pos (by omega) (Ev_as (ih (i + 1) _ (by omega) (by simp; omega)) ?_))
        rw [hd, pairsL_hit _ (by simp [hitB, h, hm]), List.append_assoc]; rfl
      · refine Ev_neg hm (Ev_as (ih (i + 1) acc (by omega) (by omega)) ?_)
        rw [hd, pairsL_miss _ (by simp [hitB, hm])]
    · refine Ev_neg h (Ev_as (ih (i + 1) acc (by omega) (by omega)) ?_)
      rw [hd, pairsL_miss _ (by simp [hitB, h])]
theorem pairs_ev (a : S31) (l : List S31) (ha : wfI a.f5) (hw : ∀ b ∈ l, wfI b.f5) (hn : l.length ≤ 1000000) : Ev (fun k => clash_pairs.f k a.f0 a.f1 a.f2 a.f3 a.f4 a.f5 l) (pairsL a l) := by
  have := pairs_loop a l ha hw hn l.length 0 [] (by omega) (by simp)
  simpa [clash_pairs.f] using this
def allL (l : List S31) : List S24 := l.flatMap fun a => pairsL a l
theorem mem_allL (l : List S31) (x : S24) : x ∈ allL l ↔ ∃ a ∈ l, ∃ b ∈ l, hitB a b = true ∧ raceA a b = x := by
  simp only [allL, pairsL, List.mem_flatMap, List.mem_map, List.mem_filter]
  constructor
  · rintro ⟨a, ha, b, ⟨hb, h⟩, e⟩; exact ⟨a, ha, b, hb, h, e⟩
  · rintro ⟨a, ha, b, hb, h, e⟩; exact ⟨a, ha, b, ⟨hb, h⟩, e⟩
theorem flat_le (l : List S31) : ∀ m : List S31, (m.flatMap fun a => pairsL a l).length ≤ m.length * l.length
  | [] => by simp
  | a :: m => by
    rw [List.flatMap_cons, List.length_append, List.length_cons, Nat.succ_mul]
    have := flat_le l m
    have := pairsL_len a l
    omega
theorem allL_len (l : List S31) : (allL l).length ≤ l.length * l.length := flat_le l l
theorem cmp_race (x y : S24) (h : x.f0 = y.f0) (h' : x.f3 = y.f3) : cmpR x y = cmpC x y := by
  have e : ∀ a b : Int, a = b → cmpV a b = 0 := fun a b e => by subst e; simp [cmpV]
  simp only [cmpR, cmpC, e _ _ h, e _ _ h', orV, if_true]
theorem all_loop (l : List S31) (hw : ∀ b ∈ l, wfI b.f5) (hn : l.length ≤ 1000) : ∀ (d i : Nat) (acc : List S24), i + d = l.length → acc.length ≤ i * l.length →
    Ev (fun k => clash_All.l0 k l acc l (l.length : Int) (i : Int)) (let m := acc ++ (l.drop i).flatMap (fun a => pairsL a l); compactUpTo (pdqL cmpC m).toArray (pdqL cmpC m).length) := by
  intro d
  induction d with
  | zero =>
    intro i acc hi hl
    have hmul : i * l.length ≤ 1000 * 1000 := Nat.mul_le_mul (by omega) (by omega)
    refine Ev_shift ?_
    simp only [clash_All.l0]
    refine Ev_neg (by omega) ?_
    rw [List.drop_eq_nil_of_le (by omega)]
    refine Ev.congr (fun k => ?_) (Ev.now _)
    have hlen := (pdqL_spec cmpC swoC acc).1
    unfold api_Alarm_25.f api_Alarm_27.f
    rw [if_pos (by omega), if_neg (by decide), if_pos rfl, Option.bind_some, if_pos (by omega), Option.bind_some]
    simp
  | succ d ih =>
    intro i acc hi hl
    have hlt : i < l.length := by omega
    have hmul : i * l.length ≤ 1000 * 1000 := Nat.mul_le_mul (by omega) (by omega)
    refine Ev_shift ?_
    simp only [clash_All.l0]
    refine Ev_pos (by omega) (Ev_pos (by omega) (Ev_pos (by omega) ?_))
    rw [rd31_at l i hlt, wrap_succ hlt (by omega)]
    have hp := pairsL_len l[i] l
    refine Ev.bind (pairs_ev l[i] l (hw _ (List.getElem_mem hlt)) hw (by omega)) (Ev_pos (by omega) ?_)
    refine Ev_as (ih (i + 1) _ (by omega) (by rw [List.length_append, Nat.succ_mul]; omega)) ?_
    rw [List.drop_eq_getElem_cons hlt, List.flatMap_cons, List.append_assoc]
theorem clash_all_ev (l : List S31) (hw : ∀ b ∈ l, wfI b.f5) (hn : l.length ≤ 1000) : ∃ r, Ev (fun k => clash_All.f k l) r ∧ SS r ∧ (∀ x, x ∈ r ↔ x ∈ allL l) ∧ r.length ≤ l.length * l.length := by
  have h := all_loop l hw hn l.length 0 [] (by omega) (by simp)
  obtain ⟨h1, h2, h3⟩ := compact_row cmpC swoC (allL l) (fun x hx y hy => by
    obtain ⟨a, _, b, _, _, rfl⟩ := (mem_allL l x).1 hx
    obtain ⟨a', _, b', _, _, rfl⟩ := (mem_allL l y).1 hy
    show decide (cmpC (raceA a b) (raceA a' b') < 0) = decide (cmpR (raceA a b) (raceA a' b') < 0)
    rw [cmp_race (raceA a b) (raceA a' b') rfl rfl])
  have := allL_len l
  refine ⟨_, ?_, h1, h2, by omega⟩
  simpa [clash_All.f, allL] using h
end Go.Proofs.Ytadnjibgdpjnlaa.Rp
