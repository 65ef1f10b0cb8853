/- Proved: for every input, Go function ClashOrder returns true and leaves its arguments as they were. No condition beyond what the given row says. -/
import Derived.Test.YtadnjibgdpjnlaaRpPlC
import Derived.Test.YtadnjibgdpjnlaaRpPlO
import Derived.Test.YtadnjibgdpjnlaaRpF9
import Derived.Test.YtadnjibgdpjnlaaRpOp
namespace Go.Proofs.Ytadnjibgdpjnlaa.Pure
set_option linter.unusedVariables false
open Go.RowKit Go.Proofs.Ytadnjibgdpjnlaa.Rp Go.Proofs.YtadnjibgdpjnlaaW.PrintWords
theorem order15_loop (r : List S24) (hs : SS r) (hr : ∀ x ∈ r, x.f1 < x.f4) (hn : r.length ≤ 10000) : ∀ (d i : Nat), i + d = r.length → Ev (fun k => meddlerlaw15_ClashOrder.l0 k r r (i : Int)) true := by
  intro d
  induction d with
  | zero =>
    intro i hi
    refine Ev_shift ?_
    simp only [meddlerlaw15_ClashOrder.l0]
    refine Ev_neg (by omega) ?_
    exact Ev.bind known15_ev (Ev.now _)
  | succ d ih =>
    intro i hi
    have hlt : i < r.length := by omega
    have hx := hr _ (List.getElem_mem hlt)
    refine Ev_shift ?_
    simp only [meddlerlaw15_ClashOrder.l0]
    refine Ev_pos (by omega) (Ev_pos (by omega) (Ev_pos (by omega) (Ev_neg (by simp) ?_)))
    rw [wrap_succ hlt (by omega), rd24_at r i hlt]
    refine Ev_neg (by omega) ?_
    by_cases h0 : (i : Int) > 0
    · refine Ev_pos h0 ?_
      have hw : wrap64 ((i : Int) - 1) = ((i - 1 : Nat) : Int) := by unfold wrap64; omega
      rw [hw, rd24_at r (i - 1) (by omega)]
      refine Ev_pos (by omega) (Ev_pos (by omega) ?_)
      refine Ev.bind (order_ev r[i - 1] r[i]) ?_
      have := List.pairwise_iff_getElem.1 hs (i - 1) i (by omega) hlt (by omega)
      have := (cmpR_neg _ _).2 this
      exact Ev_neg (by omega) (ih (i + 1) (by omega))
    · exact Ev_neg h0 (ih (i + 1) (by omega))
theorem and1023 (a : Int) (h : wfI a) : 0 ≤ Go.bits .and .i64 a 1023 := by
  have h1 := Plain.andV (bv a) 1023#64
  rw [bv_wf h] at h1
  have e : (1023#64 : BitVec 64).toInt = 1023 := by decide
  rw [e] at h1
  rw [h1]
  have hle : (bv a &&& 1023#64).toNat ≤ 1023 := by
    rw [BitVec.toNat_and]
    exact Nat.and_le_right
  rw [BitVec.toInt_eq_toNat_of_lt (by omega)]
  omega
theorem ClashOrder (l0 : List S31) (hm0 : l0.length ≤ maxLen) (y0 : l0.length * Try.prog.bytesOf 31 ≤ 140737488351232) (hw0 : ∀ x ∈ l0, W31 x) (a1 : Int) (w1 : (Lit.int .i64 a1).wf = true) : ∃ k, meddlerlaw15_ClashOrder.f k l0 a1 = some true := by
  refine Ev.rounds ?_
  unfold meddlerlaw15_ClashOrder.f
  have hw : ∀ b ∈ l0, wfI b.f5 := fun b hb => (hw0 b hb).2.2.2.2.2
  have hj : Ev (fun k => meddlerlaw15_ClashOrder.j0 k l0 a1 true) true := by
    refine Ev_shift ?_
    simp only [meddlerlaw15_ClashOrder.j0]
    exact Ev_pos (by simp) (Ev.now _)
  by_cases hc : (l0.length : Int) > 30
  · exact Ev_pos hc hj
  · refine Ev_neg hc ?_
    by_cases hz : (l0.length : Int) = 0
    · exact Ev_pos hz hj
    · refine Ev_neg hz (Ev.bind (may_ev l0 (by omega)) ?_)
      by_cases hm : mayB l0 = true
      · rw [hm]
        refine Ev_shift ?_
        simp only [meddlerlaw15_ClashOrder.j0, Option.bind_some, List.nil_append, Bool.not_true]
        refine Ev_neg (by simp) (Ev_neg hz ?_)
        have hpos : 0 < l0.length := by omega
        have hb := and1023 a1 w1
        obtain ⟨m, hmm⟩ := Int.eq_ofNat_of_zero_le hb
        have ht : Int.tmod (Go.bits .and .i64 a1 1023) (l0.length : Int) = ((m % l0.length : Nat) : Int) := by rw [hmm]; rfl
        have hlt := Nat.mod_lt m hpos
        rw [ht]
        generalize m % l0.length = n at hlt
        refine Ev_pos (by omega) (Ev_pos (by omega) ?_)
        rw [Int.toNat_natCast]
        have hd : (l0.drop n).length = l0.length - n := List.length_drop
        have htk : (l0.take n).length = n := by rw [List.length_take]; omega
        refine Ev_pos (by simp; omega) (Ev_pos (by rw [htk, hd]; omega) (Ev_pos (by omega) (Ev_pos (by simp; omega) ?_)))
        have hr0 : rd_T31 l0 0 = l0[0] := rd31_at l0 0 hpos
        rw [hr0]
        have hmem : ∀ x, x ∈ l0.drop n ++ l0.take n ++ [(⟨l0[0].f0, l0[0].f1, l0[0].f2, l0[0].f3, l0[0].f4, l0[0].f5⟩ : S31)] ↔ x ∈ l0 := by
          intro x
          have e0 : (⟨l0[0].f0, l0[0].f1, l0[0].f2, l0[0].f3, l0[0].f4, l0[0].f5⟩ : S31) = l0[0] := rfl
          rw [e0, List.mem_append, List.mem_append, List.mem_singleton]
          constructor
          · rintro ((h | h) | rfl)
            · exact List.mem_of_mem_drop h
            · exact List.mem_of_mem_take h
            · exact List.getElem_mem hpos
          · intro h
            rw [← List.take_append_drop n l0] at h
            rcases List.mem_append.1 h with h | h
            · exact .inl (.inr h)
            · exact .inl (.inl h)
        obtain ⟨r, h1, h2, h3, h4⟩ := clash_all_ev l0 hw (by omega)
        obtain ⟨r', h1', h2', h3', h4'⟩ := clash_all_ev (l0.drop n ++ l0.take n ++ [(⟨l0[0].f0, l0[0].f1, l0[0].f2, l0[0].f3, l0[0].f4, l0[0].f5⟩ : S31)]) (fun b hb => hw b ((hmem b).1 hb)) (by simp; omega)
        obtain rfl : r = r' := SS_unique r r' h2 h2' fun x => by
          rw [h3, h3', mem_allL, mem_allL]
          constructor
          · rintro ⟨a, ha, b, hb, h⟩; exact ⟨a, (hmem a).2 ha, b, (hmem b).2 hb, h⟩
          · rintro ⟨a, ha, b, hb, h⟩; exact ⟨a, (hmem a).1 ha, b, (hmem b).1 hb, h⟩
        have hmul : l0.length * l0.length ≤ 30 * 30 := Nat.mul_le_mul (by omega) (by omega)
        refine Ev.bind h1 (Ev.bind h1' (Ev_pos rfl (order15_loop r h2 (fun x hx => ?_) (by omega) r.length 0 (by omega))))
        obtain ⟨a, _, b, _, hh, rfl⟩ := (mem_allL l0 x).1 ((h3 x).1 hx)
        unfold hitB at hh
        simp only [Bool.and_eq_true, decide_eq_true_eq] at hh
        exact hh.1
      · have e : mayB l0 = false := Bool.eq_false_iff.2 hm
        rw [e]
        exact hj
end Go.Proofs.Ytadnjibgdpjnlaa.Pure
