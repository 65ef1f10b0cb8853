/- Plain laws of numbers that can be held: nothing of the program stands here. -/
import Derived.Test.YteekfgemkjeklaaWMore
import Derived.Test.YteekfgemkjeklaaWSized
import Derived.RowKit
namespace Go.Proofs.Yteekfgemkjeklaa.Plain
open Go.RowKit Go.Proofs.YteekfgemkjeklaaW.PrintWords

theorem Ev_shift {α : Type} {g : Nat → Option α} {r : α} (h : Ev (fun k => g (k + 1)) r) : Ev g r := Ev.step (fun _ => rfl) h
theorem Ev_pos {α : Type} {c : Prop} [Decidable c] {a b : Nat → Option α} {r : α} (h : c) (H : Ev a r) : Ev (fun k => if c then a k else b k) r := Ev.congr (fun _ => if_pos h) H
theorem Ev_neg {α : Type} {c : Prop} [Decidable c] {a b : Nat → Option α} {r : α} (h : ¬ c) (H : Ev b r) : Ev (fun k => if c then a k else b k) r := Ev.congr (fun _ => if_neg h) H
theorem Ev_as {α : Type} {g : Nat → Option α} {r r' : α} (h : Ev g r) (e : r = r') : Ev g r' := e ▸ h
theorem wrap_succ {i n : Nat} (h : i < n) (hn : n ≤ 17592186044416) : wrap64 ((i : Int) + 1) = ((i + 1 : Nat) : Int) := by
  unfold wrap64; omega
theorem rd_at (l : List Int) (i : Nat) (h : i < l.length) : rd l (i : Int) = l[i] := by simp [rd, h]
theorem drop_rd (l : List Int) (i : Nat) (h : i < l.length) : l.drop i = rd l (i : Int) :: l.drop (i + 1) := by
  rw [rd_at l i h, List.drop_eq_getElem_cons h]
theorem small64 {n : Int} (h0 : -9223372036854775808 ≤ n) (h1 : n ≤ 9223372036854775807) : wrap64 n = n := by unfold wrap64; omega

/-- Can it be held? -/
def fitB (n : Int) : Bool := decide (-2147483648 ≤ n ∧ n ≤ 2147483647)
theorem fit_iff (n : Int) : fitB n = true ↔ -2147483648 ≤ n ∧ n ≤ 2147483647 := by simp [fitB]
theorem mul_small {a b : Int} (ha : fitB a = true) (hb : fitB b = true) : wrap64 (a * b) = a * b := by
  rw [fit_iff] at ha hb
  have h : (a * b).natAbs ≤ 2147483648 * 2147483648 := by
    rw [Int.natAbs_mul]; exact Nat.mul_le_mul (by omega) (by omega)
  exact small64 (by omega) (by omega)
/-- What two numbers make, ahead of the look whether it fits. -/
def rawV (op a b : Int) : Int :=
  if op = 1 then wrap64 (a + b) else if op = 2 then wrap64 (a - b) else if op = 3 then wrap64 (a * b) else if op = 4 then wrap64 (Int.tdiv a b) else Int.tmod a b
theorem raw_1 {op : Int} (a b : Int) (h : op = 1) : rawV op a b = wrap64 (a + b) := by subst h; rfl
theorem raw_2 {op : Int} (a b : Int) (h : op = 2) : rawV op a b = wrap64 (a - b) := by subst h; rfl
theorem raw_3 {op : Int} (a b : Int) (h : op = 3) : rawV op a b = wrap64 (a * b) := by subst h; rfl
theorem raw_4 {op : Int} (a b : Int) (h : op = 4) : rawV op a b = wrap64 (Int.tdiv a b) := by subst h; rfl
theorem raw_5 {op : Int} (a b : Int) (h : op = 5) : rawV op a b = Int.tmod a b := by subst h; rfl
/-- What an operation tells. -/
def doV (op a b : Int) : Int × Int :=
  if fitB a = false ∨ fitB b = false ∨ op < 1 ∨ op > 5 then (0, 1) else if op ≥ 4 ∧ b = 0 then (0, 8) else if fitB (rawV op a b) = true then (rawV op a b, 0) else (0, 7)
theorem do_arg {op a b : Int} (h : fitB a = false ∨ fitB b = false ∨ op < 1 ∨ op > 5) : doV op a b = (0, 1) := if_pos h
theorem do_in {op a b : Int} (ha : fitB a = true) (hb : fitB b = true) (h1 : 1 ≤ op) (h5 : op ≤ 5) :
    doV op a b = if op ≥ 4 ∧ b = 0 then (0, 8) else if fitB (rawV op a b) = true then (rawV op a b, 0) else (0, 7) := by
  rw [doV, if_neg]; simp [ha, hb]; omega
/-- Does a relation hold? -/
def relV (r a b : Int) : Bool :=
  if r = 1 then decide (a < b) else if r = 2 then decide (a ≤ b) else if r = 3 then a == b else if r = 4 then a != b else if r = 5 then decide (a ≥ b) else if r = 6 then decide (a > b) else false
def turnV (r : Int) : Int := if r = 1 then 6 else if r = 2 then 5 else if r = 5 then 2 else if r = 6 then 1 else r
def notV (r : Int) : Int := if r = 1 then 5 else if r = 2 then 6 else if r = 3 then 4 else if r = 4 then 3 else if r = 5 then 1 else if r = 6 then 2 else r
theorem tdiv_abs (a b : Int) : (Int.tdiv a b).natAbs = a.natAbs / b.natAbs := Int.natAbs_tdiv a b
theorem tmod_abs (a b : Int) : (Int.tmod a b).natAbs = a.natAbs % b.natAbs := Int.natAbs_tmod a b
theorem tmod_fit {a b : Int} (hb : fitB b = true) (h0 : b ≠ 0) : fitB (Int.tmod a b) = true := by
  rw [fit_iff] at *
  have h1 := tmod_abs a b
  have h2 := Nat.mod_lt a.natAbs (show b.natAbs > 0 by omega)
  omega
theorem tdiv_fit {a b : Int} (ha : fitB a = true) (hb : fitB b = true) (h0 : b ≠ 0) (h1 : ¬ (a = -2147483648 ∧ b = -1)) : fitB (Int.tdiv a b) = true := by
  rw [fit_iff] at *
  have h := tdiv_abs a b
  by_cases e1 : b = 1
  · subst e1; rw [Int.tdiv_one]; exact ha
  · by_cases e2 : b = -1
    · subst e2
      rw [show (-1 : Int) = -(1) by rfl, Int.tdiv_neg, Int.tdiv_one]; omega
    · have h2 : a.natAbs / b.natAbs ≤ a.natAbs / 2 := Nat.div_le_div_left (by omega) (by omega)
      omega
theorem tdiv_tmod (a b : Int) : Int.tdiv a b * b + Int.tmod a b = a := by
  have := Int.tmod_add_mul_tdiv a b
  rw [Int.mul_comm (Int.tdiv a b) b]; omega
theorem tmod_sign (a b : Int) (h : Int.tmod a b ≠ 0) : (Int.tmod a b < 0) ↔ (a < 0) := by
  by_cases ha : 0 ≤ a
  · have := Int.tmod_nonneg b ha; omega
  · have h1 : 0 ≤ Int.tmod (-a) b := Int.tmod_nonneg b (by omega)
    rw [Int.neg_tmod] at h1; omega
end Go.Proofs.Yteekfgemkjeklaa.Plain

/-! A printed row names this law without its seat's name in front: it stands here under that name. -/
namespace Go.Proofs.Yteekfgemkjeklaa.PrintWords
open Go Go.ChangeShapes Go.WideShapes
theorem sized_ints {H : Type} {enc : TypeId × Value → H} {P : Program} {W : World} {base : Nat} {spare : Nat → Bool} {held : Bool} {t e : TypeId} {k : IntKind} {a : Option Addr} {len cap : Nat} {d : DataW H} {ps : List MemPlace} {ts : List TypeId} {ds : List (DataW H)} {j : Nat}
    (hsz : (DataW.weightsEach P ts ds).all (· ≤ reachBytes) = true) (ht : ts[j]? = some t) (hd : ds[j]? = some d) (hu : P.underlying t = some (.slice e)) (he : P.underlying e = some (.int k)) (hc : P.cellsOf e = 1) {B : Nat} (hB : P.bytesOf e = B)
    (h : DataW.Trod enc P W base spare held t (.slice a len cap) d ps) : len * B ≤ 140737488351232 :=
  Go.Proofs.YteekfgemkjeklaaW.PrintWords.sized_ints hsz ht hd hu he hc hB h
end Go.Proofs.Yteekfgemkjeklaa.PrintWords
