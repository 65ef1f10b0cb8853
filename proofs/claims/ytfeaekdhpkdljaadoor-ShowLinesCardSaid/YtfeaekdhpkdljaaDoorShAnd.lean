/- ShowLines: how many statements a thread gets (l[i] & 15), and the threads. Plain Lean. -/
import Derived.Test.YtfeaekdhpkdljaaDoorShPl
import Derived.Laws.Bits64b
namespace Go.Proofs.YtfeaekdhpkdljaaDoor.Sh
open Go.RowKit Go.Proofs.YtfeaekdhpkdljaaDoorW.PrintWords Go.Proofs.YtfeaekdhpkdljaaDoorW.PrintLast
def k15 (x : Int) : Nat := (BitVec.ofInt 64 x &&& 15#64).toNat
theorem k15_le (x : Int) : k15 x ≤ 15 := by
  unfold k15
  rw [BitVec.toNat_and]
  exact Nat.le_trans Nat.and_le_right (by decide)
theorem k15_eq (x : Int) : bits .and .i64 x 15 = (k15 x : Int) := by
  have h := k15_le x
  have h2 : bits .and .i64 x 15 = IntKind.i64.wrap (k15 x : Int) := rfl
  rw [h2]
  rw [IntKind.wrap_i64]
  omega
def sumK (l : List Int) : Nat := ((l.map k15).map (3 + ·)).sum
theorem sumK_snoc (l : List Int) (x : Int) : sumK (l ++ [x]) = sumK l + (3 + k15 x) := by
  simp [sumK]
theorem sumK_le (l : List Int) : sumK l ≤ l.length * 18 := by
  induction l with
  | nil => simp [sumK]
  | cons x l ih =>
    have h : sumK (x :: l) = (3 + k15 x) + sumK l := by simp [sumK]
    have h2 := k15_le x
    rw [h, List.length_cons]
    omega
def thrs (l : List Int) : List S52 := (l.map k15).map tL
theorem thrs_snoc (l : List Int) (x : Int) : thrs (l ++ [x]) = thrs l ++ [tL (k15 x)] := by simp [thrs]
theorem thrs_length (l : List Int) : (thrs l).length = l.length := by simp [thrs]
theorem all_nl (g a m : Nat) (l : List Int) : nl (printF (List.replicate g gL) (List.replicate a aL) (List.replicate m mL) (thrs l)) = g + a + m + sumK l := lines_nl g a m (l.map k15)
theorem all_len (g a m : Nat) (l : List Int) (hg : g ≤ 6) (ha : a ≤ 3) (hm : m ≤ 6) (hl : l.length ≤ 4) : (printF (List.replicate g gL) (List.replicate a aL) (List.replicate m mL) (thrs l)).length ≤ 1000 :=
  lines_len g a m (l.map k15) hg ha hm (by rw [List.length_map]; exact hl) (fun k hk => by
    obtain ⟨x, _, rfl⟩ := List.mem_map.1 hk
    exact k15_le x)
theorem ok_thrs (l : List Int) : ∀ t ∈ thrs l, ∀ s ∈ t.f2, okSt (SizeOf.sizeOf t.f2) s := by
  intro t ht s hs
  obtain ⟨k, _, rfl⟩ := List.mem_map.1 ht
  have : s = skL := List.eq_of_mem_replicate hs
  rw [this]
  exact ok_skip _
/-- The count of bytes 10, a byte more. -/
theorem nl_take (s : List UInt8) (i : Nat) (h : i < s.length) : nl (s.take (i + 1)) = nl (s.take i) + if s[i] = 10 then 1 else 0 := by
  rw [List.take_succ_eq_append_getElem h, nl_app]
  simp only [nl, List.countP_singleton, beq_iff_eq]
theorem nl_le (s : List UInt8) (i : Nat) : nl (s.take i) ≤ s.length := Nat.le_trans List.countP_le_length (by rw [List.length_take]; omega)
end Go.Proofs.YtfeaekdhpkdljaaDoor.Sh
