/- show.printer.line: a line of some texts. -/
import Derived.Test.YtfeaekdhpkdljaaDoorShBld
namespace Go.Proofs.YtfeaekdhpkdljaaDoor.Sh
open Go.RowKit Go.Proofs.YtfeaekdhpkdljaaDoorW.PrintWords Go.Proofs.YtfeaekdhpkdljaaDoorW.PrintLast
set_option linter.unusedVariables false
set_option linter.unusedSimpArgs false
abbrev by_ (s : ByteArray) : List UInt8 := s.data.toList
def catL (ss : List ByteArray) : List UInt8 := ss.flatMap by_
def strV (ss : List ByteArray) : Array Value := (ss.map Value.string).toArray
theorem catL_take (ss : List ByteArray) (i : Nat) (h : i < ss.length) : catL (ss.take (i + 1)) = catL (ss.take i) ++ by_ ss[i] := by
  unfold catL
  rw [List.take_succ_eq_append_getElem h, List.flatMap_append]
  simp
theorem catL_le (ss : List ByteArray) (i : Nat) : (catL (ss.take i)).length ≤ (catL ss).length := by
  have h : catL ss = catL (ss.take i) ++ catL (ss.drop i) := by
    unfold catL
    rw [← List.flatMap_append, List.take_append_drop]
  rw [h, List.length_append]
  omega
theorem strV_cell {w : World} {g : Nat} {ss : List ByteArray} (h : w.heap[g]? = some (.cells (strV ss) 9 (0, 0))) (i : Nat) (hi : i < ss.length) : w.cell? ⟨g, i, none⟩ = some (.string ss[i]) := by
  rw [Lib.cell_of_heap h]
  simp [strV, hi]
set_option maxHeartbeats 8000000 in
set_option maxRecDepth 100000 in
theorem line_calls (b : Nat) (l : List UInt8) (ss : List ByteArray) (g : Nat) (w : World) (hB : Bu b l w) (hg : w.heap[g]? = some (.cells (strV ss) 9 (0, 0))) (hne : g ≠ b) (hn : ss.length ≤ 1000) (hsz : l.length + (catL ss).length + 1 ≤ 140737488355328) :
    Calls Tryd.prog 23 #[.pointer (some ⟨b, 0, none⟩), .slice (some ⟨g, 0, none⟩) ss.length ss.length] w fun e w' => e = .returned (.tuple #[]) ∧ Bu b (l ++ (catL ss ++ [10])) w' ∧ Fr b w w' := by
  have HG := Aside0.mk hg
  have HB := Aside0.mk hB
  clear hg hB
  go_enter Tryd.func23, Tryd.ntmps23
  go_wp2_with fail
  go_loopg [8] ss.length (fun gg s8 wr => ∃ i : Nat, i ≤ ss.length ∧ ss.length - i ≤ gg ∧ s8 = .int .i64 i ∧ Aside0 (Bu b (l ++ catL (ss.take i)) wr ∧ Fr b w wr))
  case atStart => exact ⟨0, Nat.zero_le _, by omega, rfl, ⟨by simpa [catL] using HB.out, Fr.refl b w⟩⟩
  case round =>
    obtain ⟨i, hi, hgg, rfl, HL⟩ := hrel
    generalize wr = wo at *
    by_cases hlt : i < ss.length
    · have hltz : (i : Int) < (ss.length : Int) := by omega
      have hc := strV_cell (HL.out.2.read HG.out hne (by decide)) i hlt
      have HT := Aside0.mk (catL_take ss i hlt)
      have HLE := Aside0.mk (catL_le ss (i + 1))
      obtain ⟨s, hs⟩ : ∃ s, ss[i] = s := ⟨_, rfl⟩
      rw [hs] at hc HT
      have HW := Aside0.mk (ws_calls b (l ++ catL (ss.take i)) s wo HL.out.1 (by
        have h1 := HT.out
        have h2 := HLE.out
        rw [h1, List.length_append] at h2
        have h3 : (by_ s).length = s.size := rfl
        rw [List.length_append]
        omega))
      clear hs hlt
      go_wp2_with (go_at_call 43; (with_reducible refine HW.out.mono ?_); rintro e1 w2 ⟨rfl, hb2, hf2⟩; have HB2 := Aside0.mk hb2; have HF2 := Aside0.mk (HL.out.2.trans hf2); clear hb2 hf2)
      go_roundg (ss.length - (i + 1))
      case measure => omega
      case rel => exact ⟨i + 1, by omega, by omega, by go_num, ⟨by have h := HB2.out; rw [HT.out, ← List.append_assoc]; exact h, HF2.out⟩⟩
    · have hltz : ¬ (i : Int) < (ss.length : Int) := by omega
      have he : ss.take i = ss := List.take_of_length_le (by omega)
      rw [he] at HL
      have HW := Aside0.mk (ws_calls b (l ++ catL ss) (⟨#[10]⟩ : ByteArray) wo HL.out.1 (by
        have h3 : (⟨#[10]⟩ : ByteArray).size = 1 := rfl
        rw [h3, List.length_append]; omega))
      clear hlt he
      go_wp2_with (go_at_call 43; (with_reducible refine HW.out.mono ?_); rintro e1 w2 ⟨rfl, hb2, hf2⟩; have HB2 := Aside0.mk hb2; have HF2 := Aside0.mk (HL.out.2.trans hf2); clear hb2 hf2)
      go_end0
      exact ⟨rfl, by rw [← List.append_assoc]; exact HB2.out, HF2.out⟩
end Go.Proofs.YtfeaekdhpkdljaaDoor.Sh
