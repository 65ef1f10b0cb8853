/- meddlerlaw9.big: which units are looked at. -/
import Derived.Test.YtikjamcemnbhbaaMrPkF
import Derived.Test.YtikjamcemnbhbaaMrF18
namespace Go.Proofs.Ytikjamcemnbhbaa.Mr
open Go.RowKit Go.Proofs.YtikjamcemnbhbaaW.PrintWords Go.Proofs.YtikjamcemnbhbaaW.PrintLast
set_option linter.unusedVariables false
set_option linter.unusedSimpArgs false
theorem big9_l0 (G A : List Int) (m : Int) (cs : List S49) (hn : cs.length ≤ 4) (hl : ∀ c ∈ cs, c.f1.length ≤ 1000000000000000) :
    ∀ d i, cs.length - i = d → ∀ n : Nat, n ≤ 100 → ∃ b, Ev (fun k => meddlerlaw9_big.l0 k n (i : Nat) G A m cs) b ∧ (b = false ↔ n + actsN (cs.drop i) ≤ 100 ∧ OkUnit G A m cs) := by
  intro d
  induction d with
  | zero =>
    intro i hi n hn
    obtain ⟨b, e, hb⟩ := is8_ev G A m cs
    have e0 : actsN (cs.drop i) = 0 := by rw [List.drop_eq_nil_of_le (by omega)]; rfl
    refine ⟨!b, Ev_shift ?_, ?_⟩
    · simp only [meddlerlaw9_big.l0]
      exact Ev_neg (by omega) (Ev.bind e (Ev.now _))
    · rw [e0, ← hb]
      cases b
      · simp
      · simp; omega
  | succ d ih =>
    intro i hi n hn
    have hlt : i < cs.length := by omega
    have ew := wrap_succ hlt (by omega)
    have er : rd_T49 cs (i : Int) = cs[i] := rd49_get cs i hlt
    have hc := hl _ (List.getElem_mem hlt)
    have es : wrap64 ((n : Int) + (cs[i].f1.length : Int)) = ((n + cs[i].f1.length : Nat) : Int) := by unfold wrap64; omega
    have ed := actsN_drop cs i hlt
    by_cases h1 : ((n + cs[i].f1.length : Nat) : Int) > 100
    · refine ⟨true, Ev_shift ?_, ⟨fun h => (by cases h), fun h => by omega⟩⟩
      simp only [meddlerlaw9_big.l0, er]
      rw [es]
      exact Ev_pos (by omega) (Ev_pos (by omega) (Ev_pos h1 (Ev.now _)))
    · obtain ⟨b1, e1, i1⟩ := ih (i + 1) (by omega) (n + cs[i].f1.length) (by omega)
      refine ⟨b1, Ev_shift ?_, ?_⟩
      · simp only [meddlerlaw9_big.l0, er]
        rw [es, ew]
        exact Ev_pos (by omega) (Ev_pos (by omega) (Ev_neg h1 e1))
      · rw [i1, ed, Nat.add_assoc]
theorem big9_ev (G A : List Int) (m : Int) (cs : List S49) (hl : ∀ c ∈ cs, c.f1.length ≤ 1000000000000000) : ∃ b, Ev (fun k => meddlerlaw9_big.f k G A m cs) b ∧ (b = false ↔ actsN cs ≤ 100 ∧ OkUnit G A m cs) := by
  have stop : Ev (fun k => meddlerlaw9_big.j0 k true G A m cs) true := Ev_shift (by simp only [meddlerlaw9_big.j0]; exact Ev_pos (by trivial) (Ev.now _))
  simp only [meddlerlaw9_big.f]
  by_cases h1 : (cs.length : Int) > 4
  · exact ⟨true, Ev_pos h1 stop, ⟨fun h => (by cases h), fun h => by have := h.2.tl; omega⟩⟩
  · by_cases h2 : (G.length : Int) > 10
    · exact ⟨true, Ev_neg h1 (Ev_pos h2 stop), ⟨fun h => (by cases h), fun h => by have := h.2.gl; omega⟩⟩
    · by_cases h3 : (A.length : Int) > 10
      · exact ⟨true, Ev_neg h1 (Ev_neg h2 (by rw [decide_eq_true h3]; exact stop)), ⟨fun h => (by cases h), fun h => by have := h.2.al; omega⟩⟩
      · obtain ⟨b, e, hb⟩ := big9_l0 G A m cs (by omega) hl cs.length 0 rfl 0 (by omega)
        refine ⟨b, Ev_neg h1 (Ev_neg h2 (by rw [decide_eq_false h3]; exact Ev_shift (by simp only [meddlerlaw9_big.j0]; exact Ev_neg (by simp) e))), ?_⟩
        rw [hb, Nat.zero_add, List.drop_zero]
/-- What big answers, wherever the unit is read. -/
theorem big9 (G A : List Int) (m : Int) (cs : List S49) (hl : ∀ c ∈ cs, c.f1.length ≤ 1000000000000000) : ∃ b, (b = false ↔ actsN cs ≤ 100 ∧ OkUnit G A m cs) ∧ ∀ (w : World) (Ag : Option Addr) (cg : Nat) (Aa : Option Addr) (ca : Nat) (At : Option Addr) (ct : Nat),
    Kd.C (Kd.int .i64) w Ag G.length G → G.length ≤ cg → Kd.C (Kd.int .i64) w Aa A.length A → A.length ≤ ca → Kd.C k49 w At cs.length cs → cs.length ≤ ct →
    Calls Try.prog 18 #[.agg #[.slice Ag G.length cg, .slice Aa A.length ca, .int .i64 m, .slice At cs.length ct]] w fun e w' => e = .returned (.bool b) ∧ Below w.heap.size w w' := by
  obtain ⟨b, e, hb⟩ := big9_ev G A m cs hl
  obtain ⟨k, hk⟩ := e.rounds
  exact ⟨b, hb, fun w Ag cg Aa ca At ct h1 h2 h3 h4 h5 h6 => meddlerlaw9_big.calls k Ag cg G Aa ca A m At ct cs b w h1 h2 h3 h4 h5 h6 hk⟩
end Go.Proofs.Ytikjamcemnbhbaa.Mr
