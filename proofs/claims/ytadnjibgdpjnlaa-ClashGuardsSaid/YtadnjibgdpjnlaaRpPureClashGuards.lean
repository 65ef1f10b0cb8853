/- Proved: for every input, Go function ClashGuards returns true and leaves its arguments as they were. No condition beyond what the given row says. -/
import Derived.Test.YtadnjibgdpjnlaaRpPlC
import Derived.Test.YtadnjibgdpjnlaaRpF11
import Derived.Test.YtadnjibgdpjnlaaRpOp
namespace Go.Proofs.Ytadnjibgdpjnlaa.Pure
set_option linter.unusedVariables false
open Go.RowKit Go.Proofs.Ytadnjibgdpjnlaa.Rp Go.Proofs.YtadnjibgdpjnlaaW.PrintWords
theorem wfI_toInt (v : BitVec 64) : wfI v.toInt := by
  have h1 := v.toInt_lt
  have h2 := v.le_toInt
  unfold wfI
  simp [Lit.wf, IntKind.min, IntKind.max, IntKind.bits, IntKind.signed] at *
  omega
/-- What a way makes of an access. -/
def turned (way m : Int) (a : S31) : S31 :=
  if way = 0 then ⟨a.f0, a.f1, a.f2, a.f3, a.f4, (bv a.f5 ||| Plain.one m).toInt⟩ else if way = 1 then ⟨a.f0, a.f1, a.f2, a.f3, false, a.f5⟩ else ⟨m, a.f1, a.f2, a.f3, a.f4, a.f5⟩
theorem turned_wf (way m : Int) (a : S31) (h : wfI a.f5) : wfI (turned way m a).f5 := by
  unfold turned
  split
  · exact wfI_toInt _
  · split <;> exact h
theorem bv_toInt (v : BitVec 64) : bv v.toInt = v := BitVec.ofInt_toInt
theorem turned_apart (way m : Int) (h0 : 0 ≤ m) (h1 : m < 31) (a b : S31) : hitB (turned way m a) (turned way m b) = false := by
  unfold turned
  by_cases e0 : way = 0
  · rw [if_pos e0, if_pos e0]
    have hl : Plain.hasB ((bv a.f5 ||| Plain.one m) &&& (bv b.f5 ||| Plain.one m)) m = true := by
      have ho : Plain.hasB (Plain.one m) m = true := by
        unfold Plain.hasB
        rw [Plain.one_bit]
        simp; omega
      rw [Plain.hasB_and, Plain.hasB_or, Plain.hasB_or, ho]
      simp
    have hm := (Plain.mem_list _ m).2 hl
    have hp : apartB (bv a.f5 ||| Plain.one m).toInt (bv b.f5 ||| Plain.one m).toInt = false := by
      unfold apartB
      rw [bv_toInt, bv_toInt]
      have := List.length_pos_of_mem hm
      simp
      intro e
      rw [e] at this
      simp at this
    simp only [hitB, meetB, hp, Bool.and_false]
  · rw [if_neg e0, if_neg e0]
    by_cases e1 : way = 1
    · rw [if_pos e1, if_pos e1]; simp [hitB, meetB]
    · rw [if_neg e1, if_neg e1]; simp [hitB]
theorem guards_loop (way m : Int) (h0 : 0 ≤ m) (h1 : m < 31) (l : List S31) (hw : ∀ a ∈ l, wfI a.f5) (hn : l.length ≤ 1000) : ∀ (d i : Nat) (acc : List S31), i + d = l.length → acc = (l.take i).map (turned way m) ++ l.drop i → Ev (fun k => meddlerlaw15_ClashGuards.l0 k way m acc (i : Int)) true := by
  intro d
  induction d with
  | zero =>
    intro i acc hi ha
    have hal : acc.length = l.length := by rw [ha]; simp; omega
    refine Ev_shift ?_
    simp only [meddlerlaw15_ClashGuards.l0]
    refine Ev_neg (by omega) ?_
    have hacc : acc = l.map (turned way m) := by rw [ha, List.drop_eq_nil_of_le (by omega), List.take_of_length_le (by omega), List.append_nil]
    obtain ⟨r, h2, h3, h4, h5⟩ := clash_all_ev acc (by rw [hacc]; intro b hb; obtain ⟨a, ha, rfl⟩ := List.mem_map.1 hb; exact turned_wf way m a (hw a ha)) (by omega)
    have hr : r = [] := by
      apply List.eq_nil_iff_forall_not_mem.2
      intro z hz
      obtain ⟨a, ha, b, hb, hh, _⟩ := (mem_allL acc z).1 ((h4 z).1 hz)
      rw [hacc] at ha hb
      obtain ⟨a', _, rfl⟩ := List.mem_map.1 ha
      obtain ⟨b', _, rfl⟩ := List.mem_map.1 hb
      rw [turned_apart way m h0 h1] at hh
      cases hh
    subst hr
    exact Ev.bind h2 (Ev_pos rfl (Ev.bind known15_ev (Ev.now _)))
  | succ d ih =>
    intro i acc hi ha
    have hlt : i < l.length := by omega
    have hal : acc.length = l.length := by rw [ha]; simp; omega
    have hge : acc[i]? = some l[i] := by
      rw [ha, List.getElem?_append_right (by rw [List.length_map, List.length_take]; omega), List.length_map, List.length_take, Nat.min_eq_left (by omega), Nat.sub_self, List.getElem?_drop]
      simp [hlt]
    have hai : acc[i]'(by omega) = l[i] := by
      rw [List.getElem?_eq_getElem (by omega)] at hge
      exact Option.some.inj hge
    have hset : ∀ z, z = turned way m l[i] → acc.set ((i : Int)).toNat z = (l.take (i + 1)).map (turned way m) ++ l.drop (i + 1) := by
      intro z hz
      rw [Int.toNat_natCast, hz, ha, List.set_append_right _ _ (by rw [List.length_map, List.length_take]; omega), List.length_map, List.length_take, Nat.min_eq_left (by omega), Nat.sub_self, List.drop_eq_getElem_cons hlt, List.set_cons_zero, List.take_succ_eq_append_getElem hlt, List.map_append, List.append_assoc]
      rfl
    refine Ev_shift ?_
    simp only [meddlerlaw15_ClashGuards.l0]
    refine Ev_pos (by omega) ?_
    rw [rd31_at acc i (by omega), hai, wrap_succ hlt (by omega), Plain.u64_small m h0 h1, Plain.shlV m h0 h1]
    have hbv := bv_wf (hw _ (List.getElem_mem hlt))
    by_cases e0 : way = 0
    · refine Ev_pos e0 (Ev_pos (by omega) (Ev_pos h0 (ih (i + 1) _ (by omega) (hset _ ?_))))
      have ho : Plain.one m = 1#64 <<< m.toNat := by unfold Plain.one; rw [if_pos ⟨h0, h1⟩]
      have hor : Go.bits .or .i64 l[i].f5 (1#64 <<< m.toNat).toInt = (bv l[i].f5 ||| 1#64 <<< m.toNat).toInt := by
        have := Plain.orV (bv l[i].f5) (1#64 <<< m.toNat)
        rwa [hbv] at this
      rw [hor]
      unfold turned
      rw [if_pos e0, ho]
    · refine Ev_neg e0 ?_
      by_cases e1 : way = 1
      · refine Ev_pos e1 (Ev_pos (by omega) (ih (i + 1) _ (by omega) (hset _ ?_)))
        unfold turned
        rw [if_neg e0, if_pos e1]
      · refine Ev_neg e1 (Ev_pos (by omega) (ih (i + 1) _ (by omega) (hset _ ?_)))
        unfold turned
        rw [if_neg e0, if_neg e1]
theorem ClashGuards (l0 : List S31) (hm0 : l0.length ≤ maxLen) (y0 : l0.length * Try.prog.bytesOf 31 ≤ 140737488351232) (hw0 : ∀ x ∈ l0, W31 x) (a1 : Int) (w1 : (Lit.int .i64 a1).wf = true) (a2 : Int) (w2 : (Lit.int .i64 a2).wf = true) : ∃ k, meddlerlaw15_ClashGuards.f k l0 a1 a2 = some true := by
  refine Ev.rounds ?_
  unfold meddlerlaw15_ClashGuards.f
  have hw : ∀ b ∈ l0, wfI b.f5 := fun b hb => (hw0 b hb).2.2.2.2.2
  have hj : Ev (fun k => meddlerlaw15_ClashGuards.j0 k l0 a1 a2 true) true := by
    refine Ev_shift ?_
    simp only [meddlerlaw15_ClashGuards.j0]
    exact Ev_pos (by simp) (Ev.now _)
  by_cases hc : (l0.length : Int) > 30
  · exact Ev_pos hc hj
  · refine Ev_neg hc (Ev.bind (may_ev l0 (by omega)) ?_)
    by_cases hm : mayB l0 = true
    · refine Ev_pos hm ?_
      by_cases c1 : a1 < 0
      · exact Ev_pos c1 hj
      · refine Ev_neg c1 ?_
        by_cases c2 : a1 > 2
        · exact Ev_pos c2 hj
        · refine Ev_neg c2 ?_
          by_cases c3 : a2 < 0
          · exact Ev_pos c3 hj
          · refine Ev_neg c3 ?_
            by_cases c4 : a2 > 30
            · rw [decide_eq_true c4]; exact hj
            · rw [decide_eq_false c4]
              refine Ev_shift ?_
              simp only [meddlerlaw15_ClashGuards.j0, Option.bind_some, List.nil_append]
              refine Ev_neg (by simp) (Ev_pos (by simp; omega) ?_)
              exact guards_loop a1 a2 (by omega) (by omega) l0 hw (by omega) l0.length 0 l0 (by omega) (by simp)
    · exact Ev_neg hm hj
end Go.Proofs.Ytadnjibgdpjnlaa.Pure
