/- ShowLines: how many lines show.Print writes of a program without blocks. Plain Lean. -/
import Derived.Test.YtfeaekdhpkdljaaDoorShPrint
namespace Go.Proofs.YtfeaekdhpkdljaaDoor.Sh
open Go.RowKit Go.Proofs.YtfeaekdhpkdljaaDoorW.PrintWords Go.Proofs.YtfeaekdhpkdljaaDoorW.PrintLast
set_option linter.unusedVariables false
def gL : S59 := ⟨⟨#[103]⟩, 0⟩
def aL : S61 := ⟨⟨#[97]⟩, 0⟩
def mL : ByteArray := ⟨#[109]⟩
def skL : S54 := ⟨8, ⟨#[]⟩, z30, z30, z33, [], []⟩
def tL (k : Nat) : S52 := ⟨⟨#[116]⟩, [⟨#[118]⟩], List.replicate k skL⟩
def nl (l : List UInt8) : Nat := l.countP (· == 10)
theorem nl_app (l m : List UInt8) : nl (l ++ m) = nl l + nl m := List.countP_append ..
theorem nl_rep {α : Type} (f : α → List UInt8) (x : α) (c : Nat) (h : nl (f x) = c) (k : Nat) : nl ((List.replicate k x).flatMap f) = k * c := by
  induction k with
  | zero => simp [nl]
  | succ k ih => rw [List.replicate_succ, List.flatMap_cons, nl_app, h, ih, Nat.succ_mul]; omega
theorem len_rep {α : Type} (f : α → List UInt8) (x : α) (c : Nat) (h : (f x).length = c) (k : Nat) : ((List.replicate k x).flatMap f).length = k * c := by
  induction k with
  | zero => simp
  | succ k ih => rw [List.replicate_succ, List.flatMap_cons, List.length_append, h, ih, Nat.succ_mul]; omega
theorem glob_nl : nl (globF gL) = 1 := by decide +kernel
theorem glob_len : (globF gL).length = 14 := by decide +kernel
theorem arr_nl : nl (arrF aL) = 1 := by decide +kernel
theorem arr_len : (arrF aL).length = 12 := by decide +kernel
theorem mut_nl : nl (mutF mL) = 1 := by decide +kernel
theorem mut_len : (mutF mL).length = 9 := by decide +kernel
theorem skip_eq (n : Nat) : stmtF (n + 1) skL = lineL [(⟨#[115, 107, 105, 112, 59]⟩ : ByteArray)] := by
  simp [stmtF, skL]
theorem skip_nl (n : Nat) : nl (stmtF (n + 1) skL) = 1 := by rw [skip_eq]; decide +kernel
theorem skip_len (n : Nat) : (stmtF (n + 1) skL).length = 6 := by rw [skip_eq]; decide +kernel
theorem size_pos (l : List S54) : ∃ n, SizeOf.sizeOf l = n + 1 := by
  cases l with
  | nil => exact ⟨0, by simp⟩
  | cons a l => exact ⟨SizeOf.sizeOf a + SizeOf.sizeOf l, by simp; omega⟩
def hdL : List UInt8 := lineL [(⟨#[116, 104, 114, 101, 97, 100, 32]⟩ : ByteArray), ⟨#[116]⟩, (⟨#[32, 123]⟩ : ByteArray)]
def lcL : List UInt8 := ([⟨#[118]⟩] : List ByteArray).flatMap locF
def enL : List UInt8 := lineL [(⟨#[125]⟩ : ByteArray)]
theorem thr_eq (k : Nat) : ∃ n, thrF (tL k) = hdL ++ (lcL ++ ((List.replicate k skL).flatMap (stmtF (n + 1)) ++ enL)) := by
  obtain ⟨n, hn⟩ := size_pos (List.replicate k skL)
  refine ⟨n, ?_⟩
  rw [← hn]
  rfl
theorem thr_nl (k : Nat) : nl (thrF (tL k)) = 3 + k := by
  obtain ⟨n, hn⟩ := thr_eq k
  rw [hn, nl_app, nl_app, nl_app, nl_rep _ _ 1 (skip_nl n) k]
  have h1 : nl hdL = 1 := by decide +kernel
  have h2 : nl lcL = 1 := by decide +kernel
  have h3 : nl enL = 1 := by decide +kernel
  rw [h1, h2, h3]
  omega
theorem thr_len (k : Nat) : (thrF (tL k)).length = 22 + 6 * k := by
  obtain ⟨n, hn⟩ := thr_eq k
  rw [hn, List.length_append, List.length_append, List.length_append, len_rep _ _ 6 (skip_len n) k]
  have h1 : hdL.length = 11 := by decide +kernel
  have h2 : lcL.length = 9 := by decide +kernel
  have h3 : enL.length = 2 := by decide +kernel
  rw [h1, h2, h3]
  omega
theorem thrs_nl (ks : List Nat) : nl ((ks.map tL).flatMap thrF) = (ks.map (3 + ·)).sum := by
  induction ks with
  | nil => simp [nl]
  | cons k ks ih => rw [List.map_cons, List.flatMap_cons, nl_app, thr_nl, ih, List.map_cons, List.sum_cons]
theorem thrs_len (ks : List Nat) (h : ∀ k ∈ ks, k ≤ 15) : ((ks.map tL).flatMap thrF).length ≤ ks.length * 112 := by
  induction ks with
  | nil => simp
  | cons k ks ih =>
    have h1 := ih (fun x hx => h x (List.mem_cons_of_mem _ hx))
    have h2 := h k (List.mem_cons_self ..)
    rw [List.map_cons, List.flatMap_cons, List.length_append, thr_len, List.length_cons]
    omega
/-- The lines of the program that ShowLines builds. -/
theorem lines_nl (g a m : Nat) (ks : List Nat) : nl (printF (List.replicate g gL) (List.replicate a aL) (List.replicate m mL) (ks.map tL)) = g + a + m + (ks.map (3 + ·)).sum := by
  unfold printF
  rw [nl_app, nl_app, nl_app, nl_rep _ _ 1 glob_nl, nl_rep _ _ 1 arr_nl, nl_rep _ _ 1 mut_nl, thrs_nl]
  omega
theorem lines_len (g a m : Nat) (ks : List Nat) (hg : g ≤ 6) (ha : a ≤ 3) (hm : m ≤ 6) (hl : ks.length ≤ 4) (hk : ∀ k ∈ ks, k ≤ 15) : (printF (List.replicate g gL) (List.replicate a aL) (List.replicate m mL) (ks.map tL)).length ≤ 1000 := by
  unfold printF
  have h1 := thrs_len ks hk
  rw [List.length_append, List.length_append, List.length_append, len_rep _ _ 14 glob_len, len_rep _ _ 12 arr_len, len_rep _ _ 9 mut_len]
  omega
theorem okF_z (n : Nat) : okF n z30 := by
  cases n with
  | zero => trivial
  | succ n => exact ⟨⟨by decide, by decide⟩, (fun x hx => (by cases hx))⟩
theorem okC_z (n : Nat) : okC n z33 := by
  cases n with
  | zero => trivial
  | succ n => exact ⟨(fun x hx => (by cases hx)), (fun x hx => (by cases hx))⟩
theorem ok_skip (n : Nat) : okSt n skL := by
  cases n with
  | zero => trivial
  | succ n => exact ⟨okF_z _, okF_z _, okC_z _, (fun x hx => (by cases hx)), (fun x hx => (by cases hx))⟩
end Go.Proofs.YtfeaekdhpkdljaaDoor.Sh
