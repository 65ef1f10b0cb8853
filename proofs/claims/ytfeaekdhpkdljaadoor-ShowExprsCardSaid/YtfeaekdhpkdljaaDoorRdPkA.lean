/- meddlerref4.Lex in plain words; digit, letter, number, sign. meddlerref4.sign answers signS. meddlerref4.Lex answers lexF. -/
import Derived.Test.YtfeaekdhpkdljaaDoorRdName
import Derived.Test.YtfeaekdhpkdljaaDoorShF36
import Derived.Test.YtfeaekdhpkdljaaDoorShF38
import Derived.Test.YtfeaekdhpkdljaaDoorShF37
import Derived.Deep.DeepCutAuto
import Derived.Test.YtfeaekdhpkdljaaDoorRdExpr
namespace Go.Proofs.YtfeaekdhpkdljaaDoor.Rd
open Go.RowKit Go.Proofs.YtfeaekdhpkdljaaDoorW.PrintWords Go.Proofs.YtfeaekdhpkdljaaDoorW.PrintLast Go.Proofs.YtfeaekdhpkdljaaDoor.Sh
set_option linter.unusedVariables false
set_option linter.unusedSimpArgs false
def digB (a : Int) : Bool := decide (48 ≤ a) && decide (a ≤ 57)
def letB (a : Int) : Bool := decide (97 ≤ a) && decide (a ≤ 122)
def blankB (a : Int) : Bool := decide (a = 32) || (decide (a = 9) || (decide (a = 13) || decide (a = 10)))
/-- The number that begins here, and its length. -/
def numN : List Int → Int → Int × Nat
  | [], n => (n, 0)
  | c :: t, n => if digB c = true then ((numN t (if n ≤ 2147483647 then 10 * n + c - 48 else n)).1, (numN t (if n ≤ 2147483647 then 10 * n + c - 48 else n)).2 + 1) else (n, 0)
def nameN : List Int → Nat
  | [] => 0
  | c :: t => if (digB c || letB c) = true then nameN t + 1 else 0
def ones : List Int := [43, 45, 42, 47, 37, 60, 62, 33, 61, 40, 41, 91, 93, 123, 125, 59]
def twos : List ByteArray := [⟨#[60, 61]⟩, ⟨#[62, 61]⟩, ⟨#[61, 61]⟩, ⟨#[33, 61]⟩, ⟨#[38, 38]⟩, ⟨#[124, 124]⟩]
def sign1 : List Int → ByteArray
  | [] => ⟨#[]⟩
  | a :: _ => if a ∈ ones then strOfNums [a] else ⟨#[]⟩
def signS : List Int → ByteArray
  | a :: b :: t => if twos.any (fun v => decide (strOfNums [a, b] = v)) = true then strOfNums [a, b] else sign1 (a :: b :: t)
  | r => sign1 r
def numR (n : Int) : Int := if n > 2147483647 then -1 else n
/-- The token that begins here, its length, its error. -/
def tokL (at_ : Int) : List Int → S86 × Nat × Int
  | [] => (⟨0, ⟨#[]⟩, 0, at_⟩, 0, 2)
  | c :: t => if digB c = true then (⟨1, ⟨#[]⟩, numR (numN (c :: t) 0).1, at_⟩, (numN (c :: t) 0).2, if numR (numN (c :: t) 0).1 < 0 then 7 else 0)
    else if letB c = true then (⟨2, strOfNums ((c :: t).take (nameN (c :: t))), 0, at_⟩, nameN (c :: t), if 8 < nameN (c :: t) ∧ wordB (strOfNums ((c :: t).take (nameN (c :: t)))) = false then 4 else 0)
    else (⟨3, signS (c :: t), 0, at_⟩, (signS (c :: t)).size, if (signS (c :: t)).size = 0 then 2 else 0)
def errL (n : Nat) (e : Int) : Int := if e ≠ 2 ∧ 600 ≤ n then 4 else e
def lexG (l : List Int) : Nat → Nat → List S86 → List S86 × Int × Int
  | 0, _, _ => ([], 0, 99)
  | k + 1, at_, acc => if at_ < l.length then (if blankB (l.getD at_ 0) = true then lexG l k (at_ + 1) acc else
      if errL acc.length (tokL at_ (l.drop at_)).2.2 = 0 then lexG l k (at_ + (tokL at_ (l.drop at_)).2.1) (acc ++ [(tokL at_ (l.drop at_)).1]) else ([], (at_ : Int), errL acc.length (tokL at_ (l.drop at_)).2.2)) else (acc, (l.length : Int), 0)
def lexF (l : List Int) : List S86 × Int × Int := if 2000 < l.length then ([], 0, 4) else lexG l (l.length + 1) 0 []
theorem digit_f (a : Int) : meddlerref4_digit.f a = some (digB a) := by
  unfold meddlerref4_digit.f digB
  by_cases h : a ≥ 48
  · rw [if_pos h, decide_eq_true h, Bool.true_and]
  · rw [if_neg h, decide_eq_false h, Bool.false_and]
theorem letter_f (a : Int) : meddlerref4_letter.f a = some (letB a) := by
  unfold meddlerref4_letter.f letB
  by_cases h : a ≥ 97
  · rw [if_pos h, decide_eq_true h, Bool.true_and]
  · rw [if_neg h, decide_eq_false h, Bool.false_and]
theorem rd_at {l : List Int} {i : Nat} (h : i < l.length) : rd l (i : Int) = l[i] := by simp [rd, h]
theorem w64 {x : Int} (h0 : 0 ≤ x) (h1 : x < 9223372036854775808) : wrap64 x = x := IntWalk.wrap64_in _ (by omega)
theorem num_l (l : List Int) (hl : l.length ≤ 1000000000) : ∀ (m at_ k : Nat) (n : Int), at_ + m = l.length → 2 * m + 2 ≤ k → 0 ≤ n → n ≤ 21474836479 →
    meddlerref4_number.l0 k l (at_ : Int) n = some (numR (numN (l.drop at_) n).1, (at_ : Int) + ((numN (l.drop at_) n).2 : Int)) := by
  intro m
  induction m with
  | zero =>
    intro at_ k n ha hk h0 h1
    obtain ⟨k, rfl⟩ : ∃ q, k = q + 2 := ⟨k - 2, by omega⟩
    simp only [meddlerref4_number.l0, meddlerref4_number.j1]
    rw [if_neg (by omega), if_neg (by decide), List.drop_eq_nil_of_le (by omega)]
    simp only [numN, numR]
    by_cases h : n > 2147483647
    · rw [if_pos h]; simp [h]
    · rw [if_neg h]; simp [h]
  | succ m ih =>
    intro at_ k n ha hk h0 h1
    obtain ⟨k, rfl⟩ : ∃ q, k = q + 2 := ⟨k - 2, by omega⟩
    have hi : at_ < l.length := by omega
    have hd : l.drop at_ = l[at_] :: l.drop (at_ + 1) := List.drop_eq_getElem_cons hi
    simp only [meddlerref4_number.l0, meddlerref4_number.j1]
    rw [if_pos (by omega), if_pos (by omega), rd_at hi, digit_f, hd]
    obtain ⟨c, hc⟩ : ∃ c, l[at_] = c := ⟨_, rfl⟩
    rw [hc]
    simp only [Option.bind_some, numN]
    by_cases hg : digB c = true
    · have hcr : 48 ≤ c ∧ c ≤ 57 := by unfold digB at hg; simpa using hg
      have e1 : wrap64 ((at_ : Int) + 1) = ((at_ + 1 : Nat) : Int) := by rw [w64 (by omega) (by omega)]; omega
      rw [if_pos hg, if_pos hg]
      by_cases hn : n ≤ 2147483647
      · rw [if_pos hn, if_pos (by omega), if_pos (by omega), if_pos hn, e1, w64 (x := c) (by omega) (by omega), w64 (x := 10 * n) (by omega) (by omega), w64 (x := 10 * n + c) (by omega) (by omega), w64 (by omega) (by omega), ih (at_ + 1) k _ (by omega) (by omega) (by omega) (by omega)]
        simp only [Option.some.injEq, Prod.mk.injEq, true_and]
        omega
      · rw [if_neg hn, if_neg hn, e1, ih (at_ + 1) k _ (by omega) (by omega) (by omega) (by omega)]
        simp only [Option.some.injEq, Prod.mk.injEq, true_and]
        omega
    · rw [if_neg hg, if_neg hg]
      simp only [numR]
      by_cases h : n > 2147483647
      · rw [if_pos h, if_pos h]; simp
      · rw [if_neg h, if_neg h]; simp
theorem toL_eq (s : ByteArray) (a b : UInt8) : (s.toList = [a, b]) = (s = ⟨#[a, b]⟩) := by
  rw [ByteArray.toList_eq]
  apply propext
  constructor
  · intro h
    exact ByteArray.ext (Array.toList_inj.1 h)
  · intro h
    rw [h]
theorem cut1 {l : List Int} {i : Nat} (h : i < l.length) : (l.take (i + 1)).drop i = [l[i]] := by
  rw [List.drop_take, show i + 1 - i = 1 by omega, List.drop_eq_getElem_cons h]
  rfl
theorem cut2 {l : List Int} {i : Nat} (h : i + 1 < l.length) : (l.take (i + 2)).drop i = [l[i], l[i + 1]] := by
  rw [List.drop_take, show i + 2 - i = 2 by omega, List.drop_eq_getElem_cons (show i < l.length by omega), List.drop_eq_getElem_cons h]
  rfl
theorem digit_calls (a : Int) (w : World) : Calls Tryd.prog 36 #[.int .u8 a] w fun q w' => q = .returned (.bool (digB a)) ∧ Below w.heap.size w w' :=
  (meddlerref4_digit.calls a (digB a) w (digit_f a)).mono fun q w' h => ⟨h.1, h.2.below⟩
theorem letter_calls (a : Int) (w : World) : Calls Tryd.prog 38 #[.int .u8 a] w fun q w' => q = .returned (.bool (letB a)) ∧ Below w.heap.size w w' :=
  (meddlerref4_letter.calls a (letB a) w (letter_f a)).mono fun q w' h => ⟨h.1, h.2.below⟩
theorem number_calls (A : Option Addr) (c : Nat) (l : List Int) (i : Nat) (w : World) (hr : Kd.C (Kd.int .u8) w A l.length l) (hc : l.length ≤ c) (hl : l.length ≤ 1000000000) (hi : i ≤ l.length) :
    Calls Tryd.prog 37 #[.slice A l.length c, .int .i64 i] w fun q w' => q = .returned (.tuple #[.int .i64 (numR (numN (l.drop i) 0).1), .int .i64 ((i : Int) + ((numN (l.drop i) 0).2 : Int))]) ∧ Below w.heap.size w w' :=
  (meddlerref4_number.calls (2 * (l.length - i) + 2) A c l i _ _ w hr hc (num_l l hl (l.length - i) i _ 0 (by omega) (Nat.le_refl _) (by decide) (by decide))).mono fun q w' h => ⟨h.1, h.2.below⟩
theorem numN_le : ∀ (l : List Int) (n : Int), (numN l n).2 ≤ l.length
  | [], _ => Nat.le_refl _
  | c :: t, n => by
    simp only [numN]
    split
    · have := numN_le t (if n ≤ 2147483647 then 10 * n + c - 48 else n)
      simp only [List.length_cons]; omega
    · simp
theorem nameN_le : ∀ (l : List Int), nameN l ≤ l.length
  | [] => Nat.le_refl _
  | c :: t => by
    simp only [nameN]
    split
    · have := nameN_le t
      simp only [List.length_cons]; omega
    · simp
theorem signS_le (l : List Int) : (signS l).size ≤ l.length := by
  match l with
  | [] => exact Nat.le_refl _
  | [a] => simp only [signS, sign1]; split <;> simp [strOfNums, ByteArray.size]
  | a :: b :: t => simp only [signS, sign1]; split <;> (try split) <;> simp [strOfNums, ByteArray.size] <;> omega
theorem tokL_le (at_ : Int) (l : List Int) : (tokL at_ l).2.1 ≤ l.length := by
  cases l with
  | nil => exact Nat.le_refl _
  | cons c t =>
    simp only [tokL]
    split
    · exact numN_le _ _
    · split
      · exact nameN_le _
      · exact signS_le _
/-- A token without an error is not empty. -/
theorem tokL_pos (at_ : Int) (l : List Int) (h : (tokL at_ l).2.2 = 0) : 0 < (tokL at_ l).2.1 := by
  cases l with
  | nil => simp [tokL] at h
  | cons c t =>
    simp only [tokL] at h ⊢
    by_cases h1 : digB c = true
    · rw [if_pos h1]; simp only [numN]; rw [if_pos h1]; exact Nat.succ_pos _
    · rw [if_neg h1] at h ⊢
      by_cases h2 : letB c = true
      · rw [if_pos h2]; simp only [nameN]; rw [if_pos (by rw [h2, Bool.or_true])]; exact Nat.succ_pos _
      · rw [if_neg h2] at h ⊢
        by_cases h3 : (signS (c :: t)).size = 0
        · rw [if_pos h3] at h; exact absurd (show (2 : Int) = 0 from h) (by decide)
        · exact Nat.pos_of_ne_zero h3
theorem errL_zero {n : Nat} {e : Int} (h : errL n e = 0) : e = 0 := by
  unfold errL at h
  split at h
  · exact absurd h (by decide)
  · exact h
end Go.Proofs.YtfeaekdhpkdljaaDoor.Rd
namespace Go.Proofs.YtfeaekdhpkdljaaDoor.Rd
open Go.RowKit Go.Proofs.YtfeaekdhpkdljaaDoorW.PrintWords Go.Proofs.YtfeaekdhpkdljaaDoorW.PrintLast Go.Proofs.YtfeaekdhpkdljaaDoor.Sh
set_option linter.unusedVariables false
set_option linter.unusedSimpArgs false
set_option maxHeartbeats 8000000 in
set_option maxRecDepth 100000 in
theorem sign_calls (A : Option Addr) (c : Nat) (l : List Int) (i : Nat) (w : World) (hr : Kd.C (Kd.int .u8) w A l.length l) (hc : l.length ≤ c) (hl : l.length ≤ 1000000000) (hi : i < l.length) :
    Calls Tryd.prog 40 #[.slice A l.length c, .int .i64 i] w fun q w' => q = .returned (.string (signS (l.drop i))) ∧ Below w.heap.size w w' := by
  have HR := Aside0.mk hr
  have HC := Aside0.mk hc
  clear hr hc
  obtain ⟨r, hr⟩ : ∃ z, signS (l.drop i) = z := ⟨_, rfl⟩
  rw [hr]
  have HRR := Aside0.mk hr
  clear hr
  obtain ⟨ad, e, hx⟩ := Kd.at_int HR.out (i : Int) (by omega) (by omega)
  cases e
  rw [rd_at hi, Int.toNat_natCast] at hx
  have hp0 : (0 ≤ (i : Int)) = True := eq_true (by omega)
  go_enter Tryd.func40, Tryd.ntmps40
  go_upto_if 10 with fail
  go_cut [] (fun wx => Aside0 (Below w.heap.size w wx) ∧ Aside0 (sign1 (l.drop i) = r))
  case first =>
    by_cases h1 : i + 1 < l.length
    · have b1 : decide ((i : Int) + 1 < (l.length : Int)) = true := decide_eq_true (by omega)
      have b2 : decide (i + 1 < l.length) = true := decide_eq_true h1
      have hd : l.drop i = l[i] :: l[i + 1] :: l.drop (i + 2) := by rw [List.drop_eq_getElem_cons hi, List.drop_eq_getElem_cons h1]
      have hE := HRR.out
      rw [hd] at hE
      simp only [signS] at hE
      obtain ⟨i09, hi09, _, hsz9, _⟩ := info_parts info5
      obtain ⟨A9, hcut9, hA9, hC9⟩ := print_mid_of (P := Tryd.prog) (Value.int .u8) 0 42 5 .i64 .i64 Tryd.underlying42 hi09 hsz9 (some ad) c l (i : Int) ((i : Int) + 2) (by omega) (by omega) (by omega) HC.out
      have hRS := Kd.C_of_reads (h1 := fun _ => rfl) (hA9 _ (Kd.reads_of_C HR.out))
      have hcv := Kd.C_string (P := Tryd.prog) (A := A9) (c := (c - i)) Tryd.underlying42 Tryd.underlying5 Tryd.underlying9 hRS
      rw [show ((i : Int) + 2).toNat = i + 2 by omega, Int.toNat_natCast, cut2 h1] at hcut9 hcv
      rw [show ([l[i], l[i + 1]] : List Int).length = 2 from rfl] at hcut9 hcv
      clear hA9 hC9 hi09 hsz9 hRS
      obtain ⟨s, hs⟩ : ∃ z, strOfNums [l[i], l[i + 1]] = z := ⟨_, rfl⟩
      rw [hs] at hcv hE
      clear hs
      by_cases h0 : s.toList = ([60, 61] : List UInt8)
      · have hk := h0
        have f0 : (s.toList == ([60, 61] : List UInt8)) = true := by rw [hk]; rfl
        have f1 : (s.toList == ([62, 61] : List UInt8)) = false := by rw [hk]; rfl
        have f2 : (s.toList == ([61, 61] : List UInt8)) = false := by rw [hk]; rfl
        have f3 : (s.toList == ([33, 61] : List UInt8)) = false := by rw [hk]; rfl
        have f4 : (s.toList == ([38, 38] : List UInt8)) = false := by rw [hk]; rfl
        have f5 : (s.toList == ([124, 124] : List UInt8)) = false := by rw [hk]; rfl
        have ht : twos.any (fun v => decide (s = v)) = true := by rw [toL_eq] at h0; rw [h0]; decide
        rw [if_pos ht] at hE
        subst hE
        clear ht hk h0
        go_wp2_with fail
        go_ret
        exact ⟨rfl, Below.refl _ _⟩
      by_cases h1' : s.toList = ([62, 61] : List UInt8)
      · have hk := h1'
        have f0 : (s.toList == ([60, 61] : List UInt8)) = false := by rw [hk]; rfl
        have f1 : (s.toList == ([62, 61] : List UInt8)) = true := by rw [hk]; rfl
        have f2 : (s.toList == ([61, 61] : List UInt8)) = false := by rw [hk]; rfl
        have f3 : (s.toList == ([33, 61] : List UInt8)) = false := by rw [hk]; rfl
        have f4 : (s.toList == ([38, 38] : List UInt8)) = false := by rw [hk]; rfl
        have f5 : (s.toList == ([124, 124] : List UInt8)) = false := by rw [hk]; rfl
        have ht : twos.any (fun v => decide (s = v)) = true := by rw [toL_eq] at h1'; rw [h1']; decide
        rw [if_pos ht] at hE
        subst hE
        clear ht hk h0 h1'
        go_wp2_with fail
        go_ret
        exact ⟨rfl, Below.refl _ _⟩
      by_cases h2 : s.toList = ([61, 61] : List UInt8)
      · have hk := h2
        have f0 : (s.toList == ([60, 61] : List UInt8)) = false := by rw [hk]; rfl
        have f1 : (s.toList == ([62, 61] : List UInt8)) = false := by rw [hk]; rfl
        have f2 : (s.toList == ([61, 61] : List UInt8)) = true := by rw [hk]; rfl
        have f3 : (s.toList == ([33, 61] : List UInt8)) = false := by rw [hk]; rfl
        have f4 : (s.toList == ([38, 38] : List UInt8)) = false := by rw [hk]; rfl
        have f5 : (s.toList == ([124, 124] : List UInt8)) = false := by rw [hk]; rfl
        have ht : twos.any (fun v => decide (s = v)) = true := by rw [toL_eq] at h2; rw [h2]; decide
        rw [if_pos ht] at hE
        subst hE
        clear ht hk h0 h1' h2
        go_wp2_with fail
        go_ret
        exact ⟨rfl, Below.refl _ _⟩
      by_cases h3 : s.toList = ([33, 61] : List UInt8)
      · have hk := h3
        have f0 : (s.toList == ([60, 61] : List UInt8)) = false := by rw [hk]; rfl
        have f1 : (s.toList == ([62, 61] : List UInt8)) = false := by rw [hk]; rfl
        have f2 : (s.toList == ([61, 61] : List UInt8)) = false := by rw [hk]; rfl
        have f3 : (s.toList == ([33, 61] : List UInt8)) = true := by rw [hk]; rfl
        have f4 : (s.toList == ([38, 38] : List UInt8)) = false := by rw [hk]; rfl
        have f5 : (s.toList == ([124, 124] : List UInt8)) = false := by rw [hk]; rfl
        have ht : twos.any (fun v => decide (s = v)) = true := by rw [toL_eq] at h3; rw [h3]; decide
        rw [if_pos ht] at hE
        subst hE
        clear ht hk h0 h1' h2 h3
        go_wp2_with fail
        go_ret
        exact ⟨rfl, Below.refl _ _⟩
      by_cases h4 : s.toList = ([38, 38] : List UInt8)
      · have hk := h4
        have f0 : (s.toList == ([60, 61] : List UInt8)) = false := by rw [hk]; rfl
        have f1 : (s.toList == ([62, 61] : List UInt8)) = false := by rw [hk]; rfl
        have f2 : (s.toList == ([61, 61] : List UInt8)) = false := by rw [hk]; rfl
        have f3 : (s.toList == ([33, 61] : List UInt8)) = false := by rw [hk]; rfl
        have f4 : (s.toList == ([38, 38] : List UInt8)) = true := by rw [hk]; rfl
        have f5 : (s.toList == ([124, 124] : List UInt8)) = false := by rw [hk]; rfl
        have ht : twos.any (fun v => decide (s = v)) = true := by rw [toL_eq] at h4; rw [h4]; decide
        rw [if_pos ht] at hE
        subst hE
        clear ht hk h0 h1' h2 h3 h4
        go_wp2_with fail
        go_ret
        exact ⟨rfl, Below.refl _ _⟩
      by_cases h5 : s.toList = ([124, 124] : List UInt8)
      · have hk := h5
        have f0 : (s.toList == ([60, 61] : List UInt8)) = false := by rw [hk]; rfl
        have f1 : (s.toList == ([62, 61] : List UInt8)) = false := by rw [hk]; rfl
        have f2 : (s.toList == ([61, 61] : List UInt8)) = false := by rw [hk]; rfl
        have f3 : (s.toList == ([33, 61] : List UInt8)) = false := by rw [hk]; rfl
        have f4 : (s.toList == ([38, 38] : List UInt8)) = false := by rw [hk]; rfl
        have f5 : (s.toList == ([124, 124] : List UInt8)) = true := by rw [hk]; rfl
        have ht : twos.any (fun v => decide (s = v)) = true := by rw [toL_eq] at h5; rw [h5]; decide
        rw [if_pos ht] at hE
        subst hE
        clear ht hk h0 h1' h2 h3 h4 h5
        go_wp2_with fail
        go_ret
        exact ⟨rfl, Below.refl _ _⟩
      have f0 : (s.toList == ([60, 61] : List UInt8)) = false := beq_eq_false_iff_ne.mpr h0
      have f1 : (s.toList == ([62, 61] : List UInt8)) = false := beq_eq_false_iff_ne.mpr h1'
      have f2 : (s.toList == ([61, 61] : List UInt8)) = false := beq_eq_false_iff_ne.mpr h2
      have f3 : (s.toList == ([33, 61] : List UInt8)) = false := beq_eq_false_iff_ne.mpr h3
      have f4 : (s.toList == ([38, 38] : List UInt8)) = false := beq_eq_false_iff_ne.mpr h4
      have f5 : (s.toList == ([124, 124] : List UInt8)) = false := beq_eq_false_iff_ne.mpr h5
      have ht : ¬ twos.any (fun v => decide (s = v)) = true := by
        unfold twos
        rw [toL_eq] at h0 h1' h2 h3 h4 h5
        simp [h0, h1', h2, h3, h4, h5]
      rw [if_neg ht] at hE
      rw [← hd] at hE
      have HE := Aside0.mk hE
      clear ht hE hd
      go_wp2_with fail
      go_meet
      case rel => exact ⟨⟨Below.refl _ _⟩, HE⟩
    · have b1 : decide ((i : Int) + 1 < (l.length : Int)) = false := decide_eq_false (by omega)
      have b2 : decide (i + 1 < l.length) = false := decide_eq_false h1
      have HE := Aside0.mk (show sign1 (l.drop i) = r by have := HRR.out; rw [List.drop_eq_getElem_cons hi, List.drop_eq_nil_of_le (show l.length ≤ i + 1 by omega)] at this ⊢; exact this)
      go_wp2_with fail
      go_meet
      case rel => exact ⟨⟨Below.refl _ _⟩, HE⟩
  case rest =>
    obtain ⟨HB, HE⟩ := hcut
    have hE := HE.out
    generalize wc = w1 at *
    have hx1 := (HB.out.cell (World.block_lt_of_cell? w _ hx)).trans hx
    have hd : l.drop i = l[i] :: l.drop (i + 1) := List.drop_eq_getElem_cons hi
    rw [hd] at hE
    simp only [sign1] at hE
    obtain ⟨i09, hi09, _, hsz9, _⟩ := info_parts info5
    obtain ⟨A9, hcut9, hA9, hC9⟩ := print_mid_of (P := Tryd.prog) (Value.int .u8) 0 42 5 .i64 .i64 Tryd.underlying42 hi09 hsz9 (some ad) c l (i : Int) ((i : Int) + 1) (by omega) (by omega) (by omega) HC.out
    have hRS := Kd.C_of_reads (h1 := fun _ => rfl) (hA9 _ (Kd.reads_of_C (Kd.C_below HR.out HB.out)))
    have hcv := Kd.C_string (P := Tryd.prog) (A := A9) (c := (c - i)) Tryd.underlying42 Tryd.underlying5 Tryd.underlying9 hRS
    rw [show ((i : Int) + 1).toNat = i + 1 by omega, Int.toNat_natCast, cut1 hi] at hcut9 hcv
    rw [show ([l[i]] : List Int).length = 1 from rfl] at hcut9 hcv
    clear hA9 hC9 hi09 hsz9 hRS
    obtain ⟨v, hv⟩ : ∃ z, l[i] = z := ⟨_, rfl⟩
    rw [hv] at hx1 hcv hE
    clear hx HE hd hv
    by_cases hm : v ∈ ones
    · rw [if_pos hm] at hE
      subst hE
      unfold ones at hm
      simp only [List.mem_cons, List.not_mem_nil, or_false] at hm
      rcases hm with rfl | rfl | rfl | rfl | rfl | rfl | rfl | rfl | rfl | rfl | rfl | rfl | rfl | rfl | rfl | rfl <;> (go_wp2_with fail; go_ret; exact ⟨rfl, HB.out⟩)
    · rw [if_neg hm] at hE
      subst hE
      unfold ones at hm
      simp only [List.mem_cons, List.not_mem_nil, or_false, not_or] at hm
      obtain ⟨h0, h1, h2, h3, h4, h5, h6, h7, h8, h9, h10, h11, h12, h13, h14, h15⟩ := hm
      have g0 : (v == 43) = false := beq_eq_false_iff_ne.mpr h0
      have g1 : (v == 45) = false := beq_eq_false_iff_ne.mpr h1
      have g2 : (v == 42) = false := beq_eq_false_iff_ne.mpr h2
      have g3 : (v == 47) = false := beq_eq_false_iff_ne.mpr h3
      have g4 : (v == 37) = false := beq_eq_false_iff_ne.mpr h4
      have g5 : (v == 60) = false := beq_eq_false_iff_ne.mpr h5
      have g6 : (v == 62) = false := beq_eq_false_iff_ne.mpr h6
      have g7 : (v == 33) = false := beq_eq_false_iff_ne.mpr h7
      have g8 : (v == 61) = false := beq_eq_false_iff_ne.mpr h8
      have g9 : (v == 40) = false := beq_eq_false_iff_ne.mpr h9
      have g10 : (v == 41) = false := beq_eq_false_iff_ne.mpr h10
      have g11 : (v == 91) = false := beq_eq_false_iff_ne.mpr h11
      have g12 : (v == 93) = false := beq_eq_false_iff_ne.mpr h12
      have g13 : (v == 123) = false := beq_eq_false_iff_ne.mpr h13
      have g14 : (v == 125) = false := beq_eq_false_iff_ne.mpr h14
      have g15 : (v == 59) = false := beq_eq_false_iff_ne.mpr h15
      clear h0 h1 h2 h3 h4 h5 h6 h7 h8 h9 h10 h11 h12 h13 h14 h15
      go_wp2_with fail
      go_ret
      exact ⟨rfl, HB.out⟩
end Go.Proofs.YtfeaekdhpkdljaaDoor.Rd
namespace Go.Proofs.YtfeaekdhpkdljaaDoor.Rd
open Go.RowKit Go.Proofs.YtfeaekdhpkdljaaDoorW.PrintWords Go.Proofs.YtfeaekdhpkdljaaDoorW.PrintLast Go.Proofs.YtfeaekdhpkdljaaDoor.Sh
set_option linter.unusedVariables false
set_option linter.unusedSimpArgs false
/-- The token under construction lies in block g, those read in v. -/
structure Lw (w0 wr : World) (g : Nat) (t : S86) (v : Value) (acc : List S86) : Prop where
  blk : wr.heap[g]? = some (.cells (tokC t) 86 (0, 0))
  own : w0.heap.size ≤ g
  bel : Below w0.heap.size w0 wr
  row : Kd.N k86 86 wr w0.heap.size (fun k => k ≠ g) v acc
section
variable {w0 wr w1 : World} {g : Nat} {t t' : S86} {v : Value} {acc : List S86}
theorem Lw.on (h : Lw w0 wr g t v acc) (hb : Below wr.heap.size wr w1) : Lw w0 w1 g t v acc := ⟨below_read hb h.blk, h.own, below_then h.bel h.bel.size hb, Kd.N_below h.row hb⟩
theorem Lw.set (h : Lw w0 wr g t v acc) (i : Nat) (u : Value) (hc : (tokC t).setIfInBounds i u = tokC t') : Lw w0 (wr.setCell ⟨g, i, none⟩ u) g t' v acc :=
  ⟨by have := blk_set h.blk i u; rw [hc] at this; exact this, h.own, h.bel.grown (grow_set wr g i u) h.bel.size (fun k hk => by injection hk with hk; rw [← hk]; exact h.own), Kd.N_far h.row (fun k hk => hk) u⟩
end
theorem drop_cut {l : List Int} {i n e : Nat} (h : i + n = e) : (l.take e).drop i = (l.drop i).take n := by rw [List.drop_take, ← h, Nat.add_sub_cancel_left]
set_option maxHeartbeats 8000000 in
set_option maxRecDepth 100000 in
theorem lex_calls (A : Option Addr) (c0 : Nat) (l : List Int) (w : World) (hr : Kd.C (Kd.int .u8) w A l.length l) (hc : l.length ≤ c0) (hl : l.length ≤ 1000000000) :
    Calls Tryd.prog 19 #[.slice A l.length c0] w fun q w' => ∃ v, q = .returned (.tuple #[v, .int .i64 (lexF l).2.1, .int .i64 (lexF l).2.2]) ∧ Kd.N k86 86 w' w.heap.size (fun _ => True) v (lexF l).1 ∧ Below w.heap.size w w' := by
  have HR0 := Aside0.mk hr
  have HC0 := Aside0.mk hc
  have HLL := Aside0.mk hl
  clear hr hc
  unfold lexF
  by_cases h2 : 2000 < l.length
  · rw [if_pos h2]
    have b0 : decide (2000 < (l.length : Int)) = true := decide_eq_true (by omega)
    have b1 : decide (2000 < l.length) = true := decide_eq_true h2
    clear h2
    go_enter Tryd.func19, Tryd.ntmps19
    go_wp2_with fail
    go_ret3
    exact ⟨_, rfl, Kd.N_nil .., Below.refl _ _⟩
  · rw [if_neg h2]
    have b0 : decide (2000 < (l.length : Int)) = false := decide_eq_false (by omega)
    have b2 : decide (2000 < l.length) = false := decide_eq_false h2
    obtain ⟨r, hF⟩ : ∃ r, lexG l (l.length + 1) 0 [] = r := ⟨_, rfl⟩
    rw [hF]
    go_enter Tryd.func19, Tryd.ntmps19
    go_wp2_with fail
    go_loopg [5, 6] (l.length + 1) (fun gg v5 v6 wr => ∃ (k at_ : Nat) (acc : List S86), v6 = .int .i64 (at_ : Int) ∧ k ≤ gg ∧ at_ ≤ l.length ∧ l.length < at_ + k ∧ acc.length ≤ 600 ∧ Aside0 (lexG l k at_ acc = r) ∧ Aside0 (Kd.N k86 86 wr w.heap.size (fun _ => True) v5 acc) ∧ Aside0 (Below w.heap.size w wr))
    case atStart => exact ⟨l.length + 1, 0, [], rfl, Nat.le_refl _, Nat.zero_le _, by omega, by decide, ⟨hF⟩, ⟨Kd.N_nil ..⟩, ⟨Below.refl _ _⟩⟩
    case round =>
      clear hF
      obtain ⟨k, at_, acc, rfl, hkg, hat, hkl, hac, HKF, HN, HB⟩ := hrel
      generalize wr = w10 at *
      obtain ⟨AV, cV, rfl⟩ := Kd.N_slice HN.out
      have hk := HKF.out
      clear HKF
      cases k with
      | zero => omega
      | succ k =>
      simp only [lexG] at hk
      by_cases hin : at_ < l.length
      · rw [if_pos hin] at hk
        have b1 : decide ((at_ : Int) < (l.length : Int)) = true := decide_eq_true (by omega)
        have b12 : decide (at_ < l.length) = true := decide_eq_true hin
        obtain ⟨ad, e, hx⟩ := Kd.at_int HR0.out (at_ : Int) (by omega) (by omega)
        cases e
        have HXW := Aside0.mk hx
        have hx0 := (HB.out.cell (World.block_lt_of_cell? w _ hx)).trans hx
        rw [rd_at hin, Int.toNat_natCast] at hx0
        have hg : l.getD at_ 0 = l[at_] := by simp [hin]
        rw [hg] at hk
        have hd : l.drop at_ = l[at_] :: l.drop (at_ + 1) := List.drop_eq_getElem_cons hin
        obtain ⟨c, hc⟩ : ∃ z, l[at_] = z := ⟨_, rfl⟩
        rw [hc] at hx0 hk hd
        clear hx hg hc HXW
        have hp0 : (0 ≤ (at_ : Int)) = True := eq_true (by omega)
        by_cases h0 : c = 32
        · have b0 : (c == 32) = true := beq_iff_eq.mpr h0
          have hbl : blankB c = true := by unfold blankB; rw [decide_eq_true h0]; simp
          rw [if_pos hbl] at hk
          have HK := Aside0.mk hk
          clear hk hbl h0
          go_wp2_with fail
          go_roundg k
          case measure => omega
          case rel => exact ⟨k, at_ + 1, acc, rfl, by omega, by omega, by omega, hac, HK, HN, HB⟩
        · have b0 : (c == 32) = false := beq_eq_false_iff_ne.mpr h0
          by_cases h1 : c = 9
          · have b1 : (c == 9) = true := beq_iff_eq.mpr h1
            have hbl : blankB c = true := by unfold blankB; rw [decide_eq_true h1]; simp
            rw [if_pos hbl] at hk
            have HK := Aside0.mk hk
            clear hk hbl h0 h1
            go_wp2_with fail
            go_roundg k
            case measure => omega
            case rel => exact ⟨k, at_ + 1, acc, rfl, by omega, by omega, by omega, hac, HK, HN, HB⟩
          · have b1 : (c == 9) = false := beq_eq_false_iff_ne.mpr h1
            by_cases h2 : c = 13
            · have b2 : (c == 13) = true := beq_iff_eq.mpr h2
              have hbl : blankB c = true := by unfold blankB; rw [decide_eq_true h2]; simp
              rw [if_pos hbl] at hk
              have HK := Aside0.mk hk
              clear hk hbl h0 h1 h2
              go_wp2_with fail
              go_roundg k
              case measure => omega
              case rel => exact ⟨k, at_ + 1, acc, rfl, by omega, by omega, by omega, hac, HK, HN, HB⟩
            · have b2 : (c == 13) = false := beq_eq_false_iff_ne.mpr h2
              by_cases h3 : c = 10
              · have b3 : (c == 10) = true := beq_iff_eq.mpr h3
                have hbl : blankB c = true := by unfold blankB; rw [decide_eq_true h3]; simp
                rw [if_pos hbl] at hk
                have HK := Aside0.mk hk
                clear hk hbl h0 h1 h2 h3
                go_wp2_with fail
                go_roundg k
                case measure => omega
                case rel => exact ⟨k, at_ + 1, acc, rfl, by omega, by omega, by omega, hac, HK, HN, HB⟩
              · have b3 : (c == 10) = false := beq_eq_false_iff_ne.mpr h3
                have hbl : blankB c = false := by unfold blankB; simp [h0, h1, h2, h3]
                rw [if_neg (by rw [hbl]; decide)] at hk
                clear hbl h0 h1 h2 h3
                have HK := Aside0.mk hk
                have HTK := Aside0.mk (tokL_le (at_ : Int) (l.drop at_))
                have HPO := Aside0.mk (tokL_pos (at_ : Int) (l.drop at_))
                clear hk
                go_upto_block 2 with (first | ((with_reducible refine gate_dst (N := 8) rfl ?_); refine box_event ?hg (N := 8) ?hd (cs := #[.int .i64 0, .string ⟨#[]⟩, .int .i64 0, .int .i64 0]) (t := 86) ?hr ?_; (case hd => rfl); (case hg => rfl); (case hr => first | (go_simp; done) | (go_simp; rfl)); intro gt hgg w1 hlit hb; have HZ := Aside0.mk hlit; have HB1 := Aside0.mk hb; have HGT := Aside0.mk hgg; clear hlit hb hgg) | ((with_reducible refine gate_store (t := 86) (p := 8) rfl ?_); refine put_val ?hg ?hn 86 (.tmp 8) (.tmp 39) ?ho gt 86 _ (#[.int .i64 0, .string ⟨#[]⟩, .int .i64 0, .int .i64 (at_ : Int)]) (.agg (#[.int .i64 0, .string ⟨#[]⟩, .int .i64 0, .int .i64 (at_ : Int)])) ?hp ?hx ?hu HZ.out ?ht ?hs ?h1 ?_; (case hg => rfl); (case hn => rfl); (case ho => rfl); (case hp => rfl); (case hx => rfl); (case hu => rfl); (case ht => kernel_rfl); (case hs => rfl); (case h1 => exact tokC_one (⟨0, ⟨#[]⟩, 0, (at_ : Int)⟩)); intro w2 hlit hg; have HL2 := Aside0.mk (show Lw w w2 gt ⟨0, ⟨#[]⟩, 0, (at_ : Int)⟩ (.slice AV acc.length cV) acc from ⟨hlit, by have := HB.out.size; rw [HGT.out]; exact this, below_then HB.out HB.out.size (HB1.out.grown hg HB1.out.size (fun q hq => by injection hq with hq; rw [← hq, HGT.out]; exact Nat.le_refl _)), Kd.N_below (Kd.N_mono (Kd.N_elderB HN.out gt (by rw [HGT.out]; exact Nat.le_refl _)) (fun k hk => hk.2)) (HB1.out.grown hg HB1.out.size (fun q hq => by injection hq with hq; rw [← hq, HGT.out]; exact Nat.le_refl _))⟩); clear HZ HB1; clear hlit hg))
                (try simp only [Act.put, List.setIfInBounds_toArray, List.set_cons_zero, List.set_cons_succ])
                obtain ⟨tq, htq⟩ : ∃ z, tokL (at_ : Int) (l.drop at_) = z := ⟨_, rfl⟩
                rw [htq] at HK HTK HPO
                have HTQ := Aside0.mk htq
                clear htq
                go_cut [9, 10] (fun v9 v10 wc => ∃ (e : Nat), v9 = .int .i64 (e : Int) ∧ v10 = .int .i64 tq.2.2 ∧ e = at_ + tq.2.1 ∧ Aside0 (Lw w wc gt tq.1 (.slice AV acc.length cV) acc))
                case first =>
                  clear HK HTK HPO
                  have HC := Aside0.mk hd
                  clear hd
                  have HD := Aside0.mk (digit_calls c w2)
                  by_cases hdg : digB c = true
                  · rw [hdg] at HD
                    have HDG := Aside0.mk hdg
                    clear hdg
                    go_wp2_with fail
                    refine HD.out.mono ?_
                    rintro q w3 ⟨rfl, hb⟩
                    have HL3 := Aside0.mk (HL2.out.on hb)
                    clear hb HD
                    have ca0 : w3.cell? ⟨gt, 0, none⟩ = some (.int .i64 0) := (blk_cell HL3.out.blk 0).trans rfl
                    have fa0 : w3.frozen? ⟨gt, 0, none⟩ = false := blk_frozen HL3.out.blk 0
                    have HL4 := Aside0.mk (HL3.out.set (t' := ⟨1, ⟨#[]⟩, 0, (at_ : Int)⟩) 0 (.int .i64 1) rfl)
                    go_wp2_with fail
                    refine (number_calls (some ad) c0 l at_ (w3.setCell ⟨gt, 0, none⟩ (.int .i64 1)) (Kd.C_below HR0.out HL4.out.bel) HC0.out HLL.out (by omega)).mono ?_
                    rintro q w5 ⟨rfl, hb⟩
                    have HL5 := Aside0.mk (HL4.out.on hb)
                    clear hb HL4 HL3
                    have HQ := Aside0.mk (show tq = (⟨1, ⟨#[]⟩, numR (numN (l.drop at_) 0).1, (at_ : Int)⟩, (numN (l.drop at_) 0).2, if numR (numN (l.drop at_) 0).1 < 0 then 7 else 0) by rw [← HTQ.out, HC.out]; simp only [tokL]; rw [if_pos HDG.out])
                    obtain ⟨nv, hnv⟩ : ∃ z, numR (numN (l.drop at_) 0).1 = z := ⟨_, rfl⟩
                    obtain ⟨nn, hnn⟩ : ∃ z, (numN (l.drop at_) 0).2 = z := ⟨_, rfl⟩
                    rw [hnv, hnn] at HQ ⊢
                    have cb2 : w5.cell? ⟨gt, 2, none⟩ = some (.int .i64 0) := (blk_cell HL5.out.blk 2).trans rfl
                    have fb2 : w5.frozen? ⟨gt, 2, none⟩ = false := blk_frozen HL5.out.blk 2
                    have HL6 := Aside0.mk (HL5.out.set (t' := ⟨1, ⟨#[]⟩, nv, (at_ : Int)⟩) 2 (.int .i64 nv) rfl)
                    have cd2 : (w5.setCell ⟨gt, 2, none⟩ (.int .i64 nv)).cell? ⟨gt, 2, none⟩ = some (.int .i64 nv) := (blk_cell HL6.out.blk 2).trans rfl
                    by_cases hn : nv < 0
                    · have bn : decide (nv < 0) = true := decide_eq_true hn
                      rw [if_pos hn] at HQ
                      clear hn
                      go_wp2_with fail
                      go_meet
                      case rel => exact ⟨at_ + nn, by push_cast; rfl, by rw [HQ.out], by rw [HQ.out], by rw [HQ.out]; exact HL6⟩
                    · have bn : decide (nv < 0) = false := decide_eq_false hn
                      rw [if_neg hn] at HQ
                      clear hn
                      go_wp2_with fail
                      go_meet
                      case rel => exact ⟨at_ + nn, by push_cast; rfl, by rw [HQ.out], by rw [HQ.out], by rw [HQ.out]; exact HL6⟩
                  · have hdg := Bool.eq_false_iff.2 hdg
                    rw [hdg] at HD
                    have HDG := Aside0.mk hdg
                    clear hdg
                    go_wp2_with fail
                    refine HD.out.mono ?_
                    rintro q w3 ⟨rfl, hb⟩
                    have HL3 := Aside0.mk (HL2.out.on hb)
                    clear hb HD
                    have HD := Aside0.mk (letter_calls c w3)
                    by_cases hlt : letB c = true
                    · rw [hlt] at HD
                      have HLT := Aside0.mk hlt
                      clear hlt
                      go_wp2_with fail
                      refine HD.out.mono ?_
                      rintro q w4 ⟨rfl, hb⟩
                      have HL4 := Aside0.mk (HL3.out.on hb)
                      clear hb HD HL3
                      go_upto_block 3 with fail
                      go_cut [9] (fun v9 wx => ∃ (e : Nat), v9 = .int .i64 (e : Int) ∧ at_ + nameN (l.drop at_) = e ∧ e ≤ l.length ∧ Aside0 (Lw w wx gt ⟨0, ⟨#[]⟩, 0, (at_ : Int)⟩ (.slice AV acc.length cV) acc))
                      case first =>
                        go_wp2_with fail
                        go_loopg [9] (l.length + 1) (fun gg v9 wn => ∃ (e : Nat), v9 = .int .i64 (e : Int) ∧ at_ ≤ e ∧ e ≤ l.length ∧ l.length < e + gg ∧ at_ + nameN (l.drop at_) = e + nameN (l.drop e) ∧ Aside0 (Lw w wn gt ⟨0, ⟨#[]⟩, 0, (at_ : Int)⟩ (.slice AV acc.length cV) acc))
                        case atStart => exact ⟨at_, rfl, Nat.le_refl _, by omega, by omega, rfl, HL4⟩
                        case round =>
                          clear HL4
                          obtain ⟨e, rfl, he0, he1, he2, he3, HL5⟩ := hrel
                          generalize wr = w5 at *
                          by_cases hel : e < l.length
                          · have be : decide ((e : Int) < (l.length : Int)) = true := decide_eq_true (by omega)
                            have be2 : decide (e < l.length) = true := decide_eq_true hel
                            obtain ⟨ad2, e2, hx2⟩ := Kd.at_int HR0.out (e : Int) (by omega) (by omega)
                            obtain rfl : ad = ad2 := by injection e2
                            have hx5 := (HL5.out.bel.cell (World.block_lt_of_cell? w _ hx2)).trans hx2
                            rw [rd_at hel, Int.toNat_natCast] at hx5
                            have hx2 := hx2
                            rw [rd_at hel, Int.toNat_natCast] at hx2
                            have hde : l.drop e = l[e] :: l.drop (e + 1) := List.drop_eq_getElem_cons hel
                            obtain ⟨c2, hc2⟩ : ∃ z, l[e] = z := ⟨_, rfl⟩
                            rw [hc2] at hx5 hde hx2
                            have HXW := Aside0.mk hx2
                            rw [hde] at he3
                            simp only [nameN] at he3
                            clear hx2 e2 hc2 hde
                            have hp0 : (0 ≤ (e : Int)) = True := eq_true (by omega)
                            have HDE := Aside0.mk (digit_calls c2 w5)
                            by_cases hd2 : digB c2 = true
                            · rw [if_pos (by rw [hd2]; rfl)] at he3
                              rw [hd2] at HDE
                              clear hd2
                              go_wp2_with fail
                              refine HDE.out.mono ?_
                              rintro q w6 ⟨rfl, hb⟩
                              have HL6 := Aside0.mk (HL5.out.on hb)
                              clear hb HDE
                              go_wp2_with fail
                              go_roundg (l.length - e)
                              case measure => omega
                              case rel => exact ⟨e + 1, by push_cast; rfl, by omega, by omega, by omega, by omega, HL6⟩
                            · have hd2 := Bool.eq_false_iff.2 hd2
                              rw [hd2] at HDE
                              rw [hd2, Bool.false_or] at he3
                              clear hd2
                              go_wp2_with fail
                              refine HDE.out.mono ?_
                              rintro q w6 ⟨rfl, hb⟩
                              have HL6 := Aside0.mk (HL5.out.on hb)
                              clear hb HDE
                              have hx6 := (HL6.out.bel.cell (World.block_lt_of_cell? w _ HXW.out)).trans HXW.out
                              have HLE := Aside0.mk (letter_calls c2 w6)
                              by_cases hl2 : letB c2 = true
                              · rw [if_pos hl2] at he3
                                rw [hl2] at HLE
                                clear hl2
                                go_wp2_with fail
                                refine HLE.out.mono ?_
                                rintro q w7 ⟨rfl, hb⟩
                                have HL7 := Aside0.mk (HL6.out.on hb)
                                clear hb HLE
                                go_wp2_with fail
                                go_roundg (l.length - e)
                                case measure => omega
                                case rel => exact ⟨e + 1, by push_cast; rfl, by omega, by omega, by omega, by omega, HL7⟩
                              · have hl2 := Bool.eq_false_iff.2 hl2
                                rw [hl2] at HLE
                                rw [hl2, if_neg (by decide)] at he3
                                clear hl2
                                go_wp2_with fail
                                refine HLE.out.mono ?_
                                rintro q w7 ⟨rfl, hb⟩
                                have HL7 := Aside0.mk (HL6.out.on hb)
                                clear hb HLE
                                go_wp2_with fail
                                go_meet
                                case rel => exact ⟨e, rfl, he3, by omega, HL7⟩
                          · have be : decide ((e : Int) < (l.length : Int)) = false := decide_eq_false (by omega)
                            have be2 : decide (e < l.length) = false := decide_eq_false hel
                            rw [List.drop_eq_nil_of_le (show l.length ≤ e by omega)] at he3
                            go_wp2_with fail
                            go_meet
                            case rel => exact ⟨e, rfl, he3, by omega, HL5⟩
                      case rest =>
                        clear HL4
                        obtain ⟨e, rfl, he, hel, HL8⟩ := hcut
                        obtain ⟨n, hn⟩ : ∃ z, nameN (l.drop at_) = z := ⟨_, rfl⟩
                        rw [hn] at he
                        obtain ⟨s, hs⟩ : ∃ z, strOfNums ((l.drop at_).take n) = z := ⟨_, rfl⟩
                        have HSZ := Aside0.mk (show s.size = n by rw [← hs, strOfNums_size, List.length_take, List.length_drop]; omega)
                        have HQ := Aside0.mk (show tq = (⟨2, s, 0, (at_ : Int)⟩, n, if 8 < n ∧ wordB s = false then 4 else 0) by rw [← HTQ.out]; rw [HC.out] at hn hs ⊢; simp only [tokL]; rw [if_neg (by rw [HDG.out]; decide), if_pos HLT.out, hn, hs])
                        obtain ⟨i09, hi09, _, hsz9, _⟩ := info_parts info5
                        obtain ⟨A9, hcut9, hA9, hC9⟩ := print_mid_of (P := Tryd.prog) (Value.int .u8) 0 42 5 .i64 .i64 Tryd.underlying42 hi09 hsz9 (some ad) c0 l (at_ : Int) (e : Int) (by omega) (by omega) (by omega) HC0.out
                        have hRS := Kd.C_of_reads (h1 := fun _ => rfl) (hA9 _ (Kd.reads_of_C HR0.out))
                        rw [Int.toNat_natCast, Int.toNat_natCast, drop_cut he] at hRS hcut9
                        have hln : ((l.drop at_).take n).length = n := by rw [List.length_take, List.length_drop]; omega
                        have HRS := Aside0.mk hRS
                        have HLN := Aside0.mk hs
                        clear hA9 hC9 hi09 hsz9 hRS hs hn
                        go_upto_region 24 with fail
                        have HL9 := Aside0.mk (show Lw w wc.drew gt _ _ _ from HL8.out.on (below_drew (Below.refl _ _)))
                        clear HL8
                        refine start_ (n := 9) (S := fun w' => Below w.heap.size w w') (ds := []) #[false, false, false, false, false, false, false, false, false] (by kernel_rfl) rfl rfl (HL9.out.bel) (fun hHeld => ?_)
                        generalize wc.drew = w9 at HL9 hHeld ⊢
                        refine pure_ (i := 0) (N := some 91) (v := ?_) (a' := ?_) #[true, false, false, false, false, false, false, false, false] rfl rfl (by kernel_rfl) (fun _ _ _ h => h) (Or.inl ⟨by rfl, ?_⟩) ?_ ?_
                        rotate_left
                        · intro w'
                          go_simp
                          with_reducible rfl
                        rotate_left
                        · simp only [Act.put, List.setIfInBounds_toArray, List.set_cons_zero, List.set_cons_succ, i64_w, i32_w]
                          rfl
                        refine pure_ (i := 1) (N := some 92) (v := ?_) (a' := ?_) #[true, true, false, false, false, false, false, false, false] rfl rfl (by kernel_rfl) (fun _ _ _ h => h) (Or.inl ⟨by rfl, ?_⟩) ?_ ?_
                        rotate_left
                        · intro w'
                          go_simp
                          with_reducible rfl
                        rotate_left
                        · simp only [Act.put, List.setIfInBounds_toArray, List.set_cons_zero, List.set_cons_succ, i64_w, i32_w]
                          rfl
                        refine pure_ (i := 2) (N := some 93) (v := ?_) (a' := ?_) #[true, true, true, false, false, false, false, false, false] rfl rfl (by kernel_rfl) (fun _ _ _ h => h) (Or.inl ⟨by rfl, ?_⟩) ?_ ?_
                        rotate_left
                        · intro w'
                          go_simp
                          with_reducible rfl
                        rotate_left
                        · simp only [Act.put, List.setIfInBounds_toArray, List.set_cons_zero, List.set_cons_succ, i64_w, i32_w]
                          rfl
                        refine pure_ (i := 3) (N := some 94) (v := ?_) (a' := ?_) #[true, true, true, true, false, false, false, false, false] rfl rfl (by kernel_rfl) (fun _ _ _ h => h) (Or.inl ⟨by rfl, ?_⟩) ?_ ?_
                        rotate_left
                        · intro w'
                          go_simp
                          with_reducible rfl
                        rotate_left
                        · simp only [Act.put, List.setIfInBounds_toArray, List.set_cons_zero, List.set_cons_succ, i64_w, i32_w]
                          rfl
                        refine pure_ (i := 5) (N := some 96) (v := ?_) (a' := ?_) #[true, true, true, true, false, true, false, false, false] rfl rfl (by kernel_rfl) (fun _ _ _ h => h) (Or.inl ⟨by rfl, ?_⟩) ?_ ?_
                        rotate_left
                        · intro w'
                          go_simp
                          with_reducible rfl
                        rotate_left
                        · simp only [Act.put, List.setIfInBounds_toArray, List.set_cons_zero, List.set_cons_succ, i64_w, i32_w]
                          rfl
                        refine take_ (i := 4) (N := some 95) (v := ?_) (a' := ?_) #[true, true, true, true, true, true, false, false, false] rfl rfl (by kernel_rfl) (fun _ _ _ h => h) (Or.inl ⟨by rfl, ?_⟩) hHeld ?_ ?_
                        rotate_left
                        · intro w' s0
                          have hcv := Kd.C_string (P := Tryd.prog) (A := A9) (c := (c0 - at_)) Tryd.underlying42 Tryd.underlying5 Tryd.underlying9 (Kd.C_below HRS.out s0)
                          rw [hln, HLN.out] at hcv
                          go_simp
                          with_reducible rfl
                        rotate_left
                        · simp only [Act.put, List.setIfInBounds_toArray, List.set_cons_zero, List.set_cons_succ, i64_w, i32_w]
                          rfl
                        refine one_ (i := 6) (N := none) #[true, true, true, true, true, true, true, false, false] rfl rfl (by kernel_rfl) (by decide) (fun K hK => ?_)
                        have h90 : w9.cell? ⟨gt, 0, none⟩ = some (.int .i64 0) := (blk_cell HL9.out.blk 0).trans rfl
                        have f90 : w9.frozen? ⟨gt, 0, none⟩ = false := blk_frozen HL9.out.blk 0
                        have HL10 := Aside0.mk (HL9.out.set (t' := ⟨2, ⟨#[]⟩, 0, (at_ : Int)⟩) 0 (.int .i64 2) rfl)
                        refine skip_ (w1 := ?_) (by rfl) rfl ?_ ?_
                        rotate_left
                        · go_simp
                          rfl
                        refine hK.out _ _ ((HL10.out.bel)) (fun hHeld => ?_)
                        clear hK K
                        refine pure_ (i := 7) (N := some 97) (v := ?_) (a' := ?_) #[true, true, true, true, true, true, true, true, false] rfl rfl (by kernel_rfl) (fun _ _ _ h => h) (Or.inl ⟨by rfl, ?_⟩) ?_ ?_
                        rotate_left
                        · intro w'
                          go_simp
                          with_reducible rfl
                        rotate_left
                        · simp only [Act.put, List.setIfInBounds_toArray, List.set_cons_zero, List.set_cons_succ, i64_w, i32_w]
                          rfl
                        refine one_ (i := 8) (N := none) #[true, true, true, true, true, true, true, true, true] rfl rfl (by kernel_rfl) (by decide) (fun K hK => ?_)
                        have h91 : (w9.setCell ⟨gt, 0, none⟩ (.int .i64 2)).cell? ⟨gt, 1, none⟩ = some (.string (⟨#[]⟩ : ByteArray)) := (blk_cell HL10.out.blk 1).trans rfl
                        have f91 : (w9.setCell ⟨gt, 0, none⟩ (.int .i64 2)).frozen? ⟨gt, 1, none⟩ = false := blk_frozen HL10.out.blk 1
                        have HL11 := Aside0.mk (HL10.out.set (t' := ⟨2, s, 0, (at_ : Int)⟩) 1 (.string s) rfl)
                        refine skip_ (w1 := ?_) (by rfl) rfl ?_ ?_
                        rotate_left
                        · go_simp
                          rfl
                        refine hK.out _ _ ((HL11.out.bel)) (fun hHeld => ?_)
                        clear hK K
                        refine done_ (by kernel_rfl) ?_
                        have h12 : ((w9.setCell ⟨gt, 0, none⟩ (.int .i64 2)).setCell ⟨gt, 1, none⟩ (.string s)).cell? ⟨gt, 1, none⟩ = some (.string s) := (blk_cell HL11.out.blk 1).trans rfl
                        have HWD := Aside0.mk (word_calls s ((w9.setCell ⟨gt, 0, none⟩ (.int .i64 2)).setCell ⟨gt, 1, none⟩ (.string s)))
                        by_cases h8 : 8 < n
                        · have b8 : decide (8 < (s.size : Int)) = true := decide_eq_true (by have := HSZ.out; omega)
                          have b82 : decide (8 < s.size) = true := decide_eq_true (by have := HSZ.out; omega)
                          by_cases hwd : wordB s = true
                          · rw [hwd] at HWD HQ
                            rw [if_neg (by simp)] at HQ
                            clear hwd h8
                            go_wp2_with fail
                            refine HWD.out.mono ?_
                            rintro q w12 ⟨rfl, hb⟩
                            have HL12 := Aside0.mk (HL11.out.on hb)
                            clear hb HWD
                            go_wp2_with fail
                            go_meet
                            case rel => exact ⟨e, rfl, by rw [HQ.out], by rw [HQ.out]; exact he.symm, by rw [HQ.out]; exact HL12⟩
                          · have hwd := Bool.eq_false_iff.2 hwd
                            rw [hwd] at HWD HQ
                            rw [if_pos ⟨h8, rfl⟩] at HQ
                            clear hwd h8
                            go_wp2_with fail
                            refine HWD.out.mono ?_
                            rintro q w12 ⟨rfl, hb⟩
                            have HL12 := Aside0.mk (HL11.out.on hb)
                            clear hb HWD
                            go_wp2_with fail
                            go_meet
                            case rel => exact ⟨e, rfl, by rw [HQ.out], by rw [HQ.out]; exact he.symm, by rw [HQ.out]; exact HL12⟩
                        · have b8 : decide (8 < (s.size : Int)) = false := decide_eq_false (by have := HSZ.out; omega)
                          have b82 : decide (8 < s.size) = false := decide_eq_false (by have := HSZ.out; omega)
                          rw [if_neg (fun h => h8 h.1)] at HQ
                          clear h8
                          go_wp2_with fail
                          go_meet
                          case rel => exact ⟨e, rfl, by rw [HQ.out], by rw [HQ.out]; exact he.symm, by rw [HQ.out]; exact HL11⟩
                    · have hlt := Bool.eq_false_iff.2 hlt
                      rw [hlt] at HD
                      have HLT := Aside0.mk hlt
                      clear hlt
                      go_wp2_with fail
                      refine HD.out.mono ?_
                      rintro q w4 ⟨rfl, hb⟩
                      have HL4 := Aside0.mk (HL3.out.on hb)
                      clear hb HD HL3
                      go_wp2_with fail
                      refine (sign_calls (some ad) c0 l at_ w4 (Kd.C_below HR0.out HL4.out.bel) HC0.out HLL.out hin).mono ?_
                      rintro q w5 ⟨rfl, hb⟩
                      have HL5 := Aside0.mk (HL4.out.on hb)
                      clear hb HL4
                      have HQ := Aside0.mk (show tq = (⟨3, signS (l.drop at_), 0, (at_ : Int)⟩, (signS (l.drop at_)).size, if (signS (l.drop at_)).size = 0 then 2 else 0) by rw [← HTQ.out, HC.out]; simp only [tokL]; rw [if_neg (by rw [HDG.out]; decide), if_neg (by rw [HLT.out]; decide)])
                      have HSL := Aside0.mk (signS_le (l.drop at_))
                      obtain ⟨s, hs⟩ : ∃ z, signS (l.drop at_) = z := ⟨_, rfl⟩
                      rw [hs] at HQ HSL ⊢
                      clear hs
                      have hsl : s.size + at_ ≤ l.length := by have := HSL.out; rw [List.length_drop] at this; omega
                      have ca0 : w5.cell? ⟨gt, 0, none⟩ = some (.int .i64 0) := (blk_cell HL5.out.blk 0).trans rfl
                      have fa0 : w5.frozen? ⟨gt, 0, none⟩ = false := blk_frozen HL5.out.blk 0
                      have HL6 := Aside0.mk (HL5.out.set (t' := ⟨3, ⟨#[]⟩, 0, (at_ : Int)⟩) 0 (.int .i64 3) rfl)
                      have cb1 : (w5.setCell ⟨gt, 0, none⟩ (.int .i64 3)).cell? ⟨gt, 1, none⟩ = some (.string (⟨#[]⟩ : ByteArray)) := (blk_cell HL6.out.blk 1).trans rfl
                      have fb1 : (w5.setCell ⟨gt, 0, none⟩ (.int .i64 3)).frozen? ⟨gt, 1, none⟩ = false := blk_frozen HL6.out.blk 1
                      have HL7 := Aside0.mk (HL6.out.set (t' := ⟨3, s, 0, (at_ : Int)⟩) 1 (.string s) rfl)
                      have cd1 : ((w5.setCell ⟨gt, 0, none⟩ (.int .i64 3)).setCell ⟨gt, 1, none⟩ (.string s)).cell? ⟨gt, 1, none⟩ = some (.string s) := (blk_cell HL7.out.blk 1).trans rfl
                      by_cases hz : s.size = 0
                      · have bz : (s.toList == ([] : List UInt8)) = true := beq_iff_eq.mpr (by rw [ByteArray.toList_eq]; exact List.eq_nil_of_length_eq_zero (show s.data.toList.length = 0 by rw [Array.length_toList]; exact hz))
                        rw [if_pos hz] at HQ
                        clear hz
                        go_wp2_with fail
                        go_meet
                        case rel => exact ⟨at_ + s.size, by push_cast; rfl, by rw [HQ.out], by rw [HQ.out], by rw [HQ.out]; exact HL7⟩
                      · have bz : (s.toList == ([] : List UInt8)) = false := beq_eq_false_iff_ne.mpr (fun h => hz (by rw [ByteArray.toList_eq] at h; have h := congrArg List.length h; rw [Array.length_toList] at h; exact h))
                        rw [if_neg hz] at HQ
                        clear hz
                        go_wp2_with fail
                        go_meet
                        case rel => exact ⟨at_ + s.size, by push_cast; rfl, by rw [HQ.out], by rw [HQ.out], by rw [HQ.out]; exact HL7⟩
                case rest =>
                  clear HTQ HL2
                  obtain ⟨e, rfl, rfl, he, HL9⟩ := hcut
                  generalize wc = w9 at *
                  obtain ⟨⟨q0, q1, q2, q3⟩, tn, te⟩ := tq
                  replace he : e = at_ + tn := he
                  have HTK' : tn ≤ (l.drop at_).length := HTK.out
                  rw [List.length_drop] at HTK'
                  have HPO' : te = 0 → 0 < tn := HPO.out
                  clear HTK HPO hd
                  replace HL9 : Aside0 (Lw w w9 gt ⟨q0, q1, q2, q3⟩ (.slice AV acc.length cV) acc) := HL9
                  have hk := HK.out
                  clear HK
                  replace hk : (if errL acc.length te = 0 then lexG l k (at_ + tn) (acc ++ [⟨q0, q1, q2, q3⟩]) else ([], (at_ : Int), errL acc.length te)) = r := hk
                  rw [← he] at hk
                  have HE := Aside0.mk he
                  clear he
                  (try dsimp only)
                  by_cases h6 : 600 ≤ acc.length
                  · have b6 : decide (600 ≤ (acc.length : Int)) = true := decide_eq_true (by omega)
                    have b62 : decide (600 ≤ acc.length) = true := decide_eq_true h6
                    by_cases h2 : te = 2
                    · have b2 : (te != 2) = false := bne_eq_false_iff_eq.mpr h2
                      have b0 : (te != 0) = true := bne_iff_ne.mpr (by omega)
                      have hE : errL acc.length te = te := if_neg (fun h => h.1 h2)
                      rw [hE, if_neg (by omega)] at hk
                      subst hk
                      clear hE h2 h6
                      go_wp2_with fail
                      (try simp only [Exit.inBlock, Exit.then])
                      go_ret3
                      exact ⟨_, rfl, Kd.N_nil .., HL9.out.bel⟩
                    · have b2 : (te != 2) = true := bne_iff_ne.mpr h2
                      have hE : errL acc.length te = 4 := if_pos ⟨h2, h6⟩
                      rw [hE, if_neg (by decide)] at hk
                      subst hk
                      clear hE h2 h6
                      go_wp2_with fail
                      (try simp only [Exit.inBlock, Exit.then])
                      go_ret3
                      exact ⟨_, rfl, Kd.N_nil .., HL9.out.bel⟩
                  · have b6 : decide (600 ≤ (acc.length : Int)) = false := decide_eq_false (by omega)
                    have b62 : decide (600 ≤ acc.length) = false := decide_eq_false h6
                    have hE : errL acc.length te = te := if_neg (fun h => h6 h.2)
                    rw [hE] at hk
                    clear hE
                    by_cases h0 : te = 0
                    · have b2 : (te != 2) = true := bne_iff_ne.mpr (by omega)
                      have b0 : (te != 0) = false := bne_eq_false_iff_eq.mpr h0
                      have hpo := HPO' h0
                      rw [if_pos h0] at hk
                      have HK := Aside0.mk hk
                      clear hk h0 HPO'
                      have cq0 : w9.cell? ⟨gt, 0, none⟩ = some (.int .i64 q0) := (blk_cell HL9.out.blk 0).trans rfl
                      have cq1 : w9.cell? ⟨gt, 1, none⟩ = some (.string q1) := (blk_cell HL9.out.blk 1).trans rfl
                      have cq2 : w9.cell? ⟨gt, 2, none⟩ = some (.int .i64 q2) := (blk_cell HL9.out.blk 2).trans rfl
                      have cq3 : w9.cell? ⟨gt, 3, none⟩ = some (.int .i64 q3) := (blk_cell HL9.out.blk 3).trans rfl
                      go_wp2_with (first | ((with_reducible refine gate_builtin (b := .append) (xs := #[.tmp 119, .tmp 121]) rfl ?_); (try (refine gate_guard (by rfl) ?_; dsimp only)); at_builtin; refine Kd.N_append k86 (w0 := w) w.heap.size rfl (.tmp 119) (.tmp 121) 45 86 (.agg #[(.int .i64 0), (.string ⟨#[]⟩), (.int .i64 0), (.int .i64 0)]) 40 rfl Tryd.underlying45 info86 rfl (by decide) (by omega) (.slice AV acc.length cV) acc (⟨q0, q1, q2, q3⟩ : S86) [.int .i64 q0, .string q1, .int .i64 q2, .int .i64 q3] (fun k_ => k_ ≠ gt) (fun _ => False) rfl rfl (k86_mkF _ _ (⟨q0, q1, q2, q3⟩ : S86)) (fun _ hk => hk.elim) (fun k_ hk e => by have := blk_lt HL9.out.blk; omega) HL9.out.row HL9.out.bel HL9.out.bel.size (by omega) ?_; intro v1 w20 ho hb hg hat; have HN2 := Aside0.mk (Kd.N_mono ho (fun _ _ => trivial)); have HB2 := Aside0.mk hb; clear ho hb hg hat))
                      go_roundg k
                      case measure => omega
                      case rel => exact ⟨k, e, _, rfl, by omega, by have := HE.out; omega, by have := HE.out; omega, by simp only [List.length_append, List.length_singleton]; omega, HK, HN2, HB2⟩
                    · have b0 : (te != 0) = true := bne_iff_ne.mpr h0
                      rw [if_neg h0] at hk
                      subst hk
                      clear h0
                      by_cases h2 : te = 2
                      · have b2 : (te != 2) = false := bne_eq_false_iff_eq.mpr h2
                        clear h2
                        go_wp2_with fail
                        (try simp only [Exit.inBlock, Exit.then])
                        go_ret3
                        exact ⟨_, rfl, Kd.N_nil .., HL9.out.bel⟩
                      · have b2 : (te != 2) = true := bne_iff_ne.mpr h2
                        clear h2
                        go_wp2_with fail
                        (try simp only [Exit.inBlock, Exit.then])
                        go_ret3
                        exact ⟨_, rfl, Kd.N_nil .., HL9.out.bel⟩
      · rw [if_neg hin] at hk
        have b1 : decide ((at_ : Int) < (l.length : Int)) = false := decide_eq_false (by omega)
        have b12 : decide (at_ < l.length) = false := decide_eq_false hin
        subst hk
        clear hin
        go_wp2_with fail
        go_ret3
        exact ⟨_, rfl, HN.out, HB.out⟩
end Go.Proofs.YtfeaekdhpkdljaaDoor.Rd
