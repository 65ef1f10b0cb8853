/- Plain laws of sets of bits, as 64-bit vectors: nothing of the program stands here. -/
import Derived.Test.YtadnjibgdpjnlaaWMore
import Derived.Test.YtadnjibgdpjnlaaWSized
import Derived.Laws.BitsLemmas
import Derived.RowKit
namespace Go.Proofs.Ytadnjibgdpjnlaa.Plain
open Go.RowKit Go.Proofs.YtadnjibgdpjnlaaW.PrintWords

theorem ofV (a : Int) (h : (Lit.int .i64 a).wf = true) : ∃ v : BitVec 64, a = v.toInt := by
  simp [Lit.wf, IntKind.min, IntKind.max, IntKind.bits, IntKind.signed] at h
  refine ⟨BitVec.ofInt 64 a, ?_⟩
  rw [BitVec.toInt_ofInt, Int.bmod_eq_of_le] <;> omega
theorem wrapV (v : BitVec 64) : IntKind.i64.wrap (v.toNat : Int) = v.toInt := by
  rw [IntKind.wrap_i64, BitVec.toInt_eq_toNat_cond]
  have := v.isLt
  split <;> omega
theorem ofInt_toInt (v : BitVec 64) : BitVec.ofInt 64 v.toInt = v := BitVec.ofInt_toInt
theorem andV (v w : BitVec 64) : Go.bits .and .i64 v.toInt w.toInt = (v &&& w).toInt := by
  simp only [Go.bits, IntKind.bits, ofInt_toInt]; exact wrapV _
theorem orV (v w : BitVec 64) : Go.bits .or .i64 v.toInt w.toInt = (v ||| w).toInt := by
  simp only [Go.bits, IntKind.bits, ofInt_toInt]; exact wrapV _
theorem andNotV (v w : BitVec 64) : Go.bits .andNot .i64 v.toInt w.toInt = (v &&& ~~~w).toInt := by
  simp only [Go.bits, IntKind.bits, ofInt_toInt]; exact wrapV _
theorem one_shl : ∀ m : Fin 31, shl .i64 1 (m.val : Int) = (1#64 <<< m.val).toInt := by decide +kernel
theorem shlV (m : Int) (h0 : 0 ≤ m) (h1 : m < 31) : shl .i64 1 m = (1#64 <<< m.toNat).toInt := by
  have := one_shl ⟨m.toNat, by omega⟩
  simp only [Int.toNat_of_nonneg h0] at this
  exact this
theorem u64_small (m : Int) (h0 : 0 ≤ m) (h1 : m < 31) : IntKind.u64.wrap m = m := by
  simp [IntKind.wrap, IntKind.bits, IntKind.signed]; omega
theorem inj (v w : BitVec 64) : v.toInt = w.toInt ↔ v = w := BitVec.toInt_inj
theorem zeroV : (0 : Int) = (0#64).toInt := by decide
theorem wrap_succ {i n : Nat} (h : i < n) (hn : n ≤ 17592186044416) : wrap64 ((i : Int) + 1) = ((i + 1 : Nat) : Int) := by
  unfold wrap64; omega
theorem rd_at (l : List Int) (i : Nat) (h : i < l.length) : rd l (i : Int) = l[i] := by simp [rd, h]
theorem drop_rd (l : List Int) (i : Nat) (h : i < l.length) : l.drop i = rd l (i : Int) :: l.drop (i + 1) := by
  rw [rd_at l i h, List.drop_eq_getElem_cons h]

theorem Ev_shift {α : Type} {g : Nat → Option α} {r : α} (h : Ev (fun k => g (k + 1)) r) : Ev g r := Ev.step (fun _ => rfl) h
theorem Ev_pos {α : Type} {c : Prop} [Decidable c] {a b : Nat → Option α} {r : α} (h : c) (H : Ev a r) : Ev (fun k => if c then a k else b k) r := Ev.congr (fun _ => if_pos h) H
theorem Ev_neg {α : Type} {c : Prop} [Decidable c] {a b : Nat → Option α} {r : α} (h : ¬ c) (H : Ev b r) : Ev (fun k => if c then a k else b k) r := Ev.congr (fun _ => if_neg h) H
theorem Ev_as {α : Type} {g : Nat → Option α} {r r' : α} (h : Ev g r) (e : r = r') : Ev g r' := e ▸ h

/-- The bit of one mutex. -/
def one (m : Int) : BitVec 64 := if 0 ≤ m ∧ m < 31 then 1#64 <<< m.toNat else 0#64
/-- The bits of mutexes. -/
def add (s : BitVec 64) (l : List Int) : BitVec 64 := l.foldl (fun s m => s ||| one m) s
def sub (s : BitVec 64) (l : List Int) : BitVec 64 := l.foldl (fun s m => s &&& ~~~ one m) s
theorem add_cons (s : BitVec 64) (m : Int) (l : List Int) : add s (m :: l) = add (s ||| one m) l := rfl
theorem add_nil (s : BitVec 64) : add s [] = s := rfl
theorem sub_cons (s : BitVec 64) (m : Int) (l : List Int) : sub s (m :: l) = sub (s &&& ~~~ one m) l := rfl
theorem one_bit (m : Int) (i : Nat) : (one m).getLsbD i = decide ((i : Int) = m ∧ i < 31) := by
  unfold one
  by_cases h : 0 ≤ m ∧ m < 31
  · rw [if_pos h, ← BitVec.twoPow_eq, BitVec.getLsbD_twoPow, Bool.eq_iff_iff]
    simp
    omega
  · rw [if_neg h]
    simp
    omega
theorem add_bit (l : List Int) : ∀ (s : BitVec 64) (i : Nat), (add s l).getLsbD i = (s.getLsbD i || decide ((i : Int) ∈ l ∧ i < 31)) := by
  induction l with
  | nil => intro s i; simp [add]
  | cons m l ih =>
    intro s i
    rw [add_cons, ih, BitVec.getLsbD_or, one_bit]
    grind
theorem sub_bit (l : List Int) : ∀ (s : BitVec 64) (i : Nat), (sub s l).getLsbD i = (s.getLsbD i && !decide ((i : Int) ∈ l ∧ i < 31)) := by
  induction l with
  | nil => intro s i; simp [sub]
  | cons m l ih =>
    intro s i
    rw [sub_cons, ih, BitVec.getLsbD_and, BitVec.getLsbD_not, one_bit]
    by_cases hi : i < 64
    · grind
    · have h1 : s.getLsbD i = false := BitVec.getLsbD_of_ge s i (by omega)
      simp [hi, h1]
/-- All bits of mutexes. -/
def bitsV (l : List Int) : BitVec 64 := add 0#64 l
theorem bitsV_bit (l : List Int) (i : Nat) : (bitsV l).getLsbD i = decide ((i : Int) ∈ l ∧ i < 31) := by
  rw [bitsV, add_bit]; simp
theorem add_eq (s : BitVec 64) (l : List Int) : add s l = s ||| bitsV l := by
  apply BitVec.eq_of_getLsbD_eq
  intro i hi
  rw [add_bit, BitVec.getLsbD_or, bitsV_bit]
theorem sub_eq (s : BitVec 64) (l : List Int) : sub s l = s &&& ~~~ bitsV l := by
  apply BitVec.eq_of_getLsbD_eq
  intro i hi
  rw [sub_bit, BitVec.getLsbD_and, BitVec.getLsbD_not, bitsV_bit]
  simp [hi]
/-- Is a mutex in a set? -/
def hasB (v : BitVec 64) (m : Int) : Bool := decide (0 ≤ m ∧ m < 31) && v.getLsbD m.toNat
theorem has_eq (v : BitVec 64) (m : Int) : ((v &&& bitsV [m]).toInt != 0) = hasB v m := by
  rw [zeroV]
  rw [Bool.eq_iff_iff, bne_iff_ne, ne_eq, inj]
  unfold hasB
  by_cases h : 0 ≤ m ∧ m < 31
  · simp only [h, and_self, decide_true, Bool.true_and]
    constructor
    · intro hn
      cases hv : v.getLsbD m.toNat with
      | true => rfl
      | false =>
        exfalso; apply hn
        apply BitVec.eq_of_getLsbD_eq
        intro i hi
        rw [BitVec.getLsbD_and, bitsV_bit]
        simp only [List.mem_singleton, BitVec.getLsbD_zero]
        by_cases e : (i : Int) = m
        · have : i = m.toNat := by omega
          rw [this, hv]; rfl
        · simp [e]
    · intro hv e
      have := congrArg (fun x : BitVec 64 => x.getLsbD m.toNat) e
      simp only [BitVec.getLsbD_and, hv, bitsV_bit] at this
      simp at this
      omega
  · simp only [h, decide_false, Bool.false_and]
    simp only [Bool.false_eq_true, iff_false, Classical.not_not]
    apply BitVec.eq_of_getLsbD_eq
    intro i hi
    rw [BitVec.getLsbD_and, bitsV_bit]
    simp
    intro _ e
    omega
theorem hasB_nat (v : BitVec 64) (i : Nat) : hasB v (i : Int) = (decide (i < 31) && v.getLsbD i) := by
  simp only [hasB, Int.toNat_natCast]
  congr 1
  rw [Bool.eq_iff_iff]; simp; omega
/-- The mutexes of a set, from i on, n of them. -/
def from_ (v : BitVec 64) : Nat → Nat → List Int
  | _, 0 => []
  | i, n + 1 => if hasB v (i : Int) = true then (i : Int) :: from_ v (i + 1) n else from_ v (i + 1) n
theorem from_length (v : BitVec 64) : ∀ n i, (from_ v i n).length ≤ n
  | 0, _ => by simp [from_]
  | n + 1, i => by
    have := from_length v n (i + 1)
    unfold from_
    split <;> simp <;> omega
theorem mem_from (v : BitVec 64) (m : Int) : ∀ n i, m ∈ from_ v i n ↔ ((i : Int) ≤ m ∧ m < i + n ∧ hasB v m = true)
  | 0, i => by simp [from_]; omega
  | n + 1, i => by
    have ih := mem_from v m n (i + 1)
    unfold from_
    by_cases h : hasB v (i : Int) = true
    · rw [if_pos h, List.mem_cons, ih]
      constructor
      · rintro (rfl | h1)
        · exact ⟨by omega, by omega, h⟩
        · exact ⟨by omega, by omega, h1.2.2⟩
      · rintro ⟨h1, h2, h3⟩
        by_cases e : m = i
        · exact .inl e
        · exact .inr ⟨by omega, by omega, h3⟩
    · rw [if_neg h, ih]
      constructor
      · rintro h1; exact ⟨by omega, by omega, h1.2.2⟩
      · rintro ⟨h1, h2, h3⟩
        by_cases e : m = i
        · subst e; exact absurd h3 h
        · exact ⟨by omega, by omega, h3⟩
def listV (v : BitVec 64) : List Int := from_ v 0 31
theorem mem_list (v : BitVec 64) (m : Int) : m ∈ listV v ↔ hasB v m = true := by
  rw [listV, mem_from]
  constructor
  · exact fun h => h.2.2
  · intro h
    refine ⟨?_, ?_, h⟩ <;> (simp [hasB] at h; omega)
theorem list_nil (v : BitVec 64) : listV v = [] ↔ ∀ m, hasB v m = false := by
  rw [List.eq_nil_iff_forall_not_mem]
  simp [mem_list]
theorem hasB_and (v w : BitVec 64) (m : Int) : hasB (v &&& w) m = (hasB v m && hasB w m) := by
  simp only [hasB, BitVec.getLsbD_and]
  cases decide (0 ≤ m ∧ m < 31) <;> simp
theorem hasB_or (v w : BitVec 64) (m : Int) : hasB (v ||| w) m = (hasB v m || hasB w m) := by
  simp only [hasB, BitVec.getLsbD_or]
  cases decide (0 ≤ m ∧ m < 31) <;> simp
theorem hasB_bits (l : List Int) (m : Int) : hasB (bitsV l) m = decide (0 ≤ m ∧ m < 31 ∧ m ∈ l) := by
  simp only [hasB, bitsV_bit]
  by_cases h : 0 ≤ m ∧ m < 31
  · rw [Int.toNat_of_nonneg h.1]
    have : m.toNat < 31 := by omega
    simp [h, this]
  · simp [h]
    intro h0 h1; exact absurd ⟨h0, h1⟩ h
theorem hasB_without (v w : BitVec 64) (m : Int) : hasB (v &&& ~~~w) m = (hasB v m && !hasB w m) := by
  simp only [hasB, BitVec.getLsbD_and, BitVec.getLsbD_not]
  by_cases h : 0 ≤ m ∧ m < 31
  · have : m.toNat < 64 := by omega
    simp [h, this]
  · simp [h]
/-- A set: no bit beyond mutex 30. -/
def isSet (v : BitVec 64) : Prop := 0 ≤ v.toInt ∧ v.toInt < 2147483648
theorem set_bit {v : BitVec 64} (h : isSet v) (i : Nat) (hi : 31 ≤ i) : v.getLsbD i = false := by
  have h1 : v.toNat < 2 ^ 31 := by
    have := h.1; have := h.2
    rw [BitVec.toInt_eq_toNat_cond] at *
    have := v.isLt
    split at * <;> omega
  exact Nat.testBit_lt_two_pow (Nat.lt_of_lt_of_le h1 (Nat.pow_le_pow_right (by decide) hi))
theorem set_ext {v w : BitVec 64} (hv : isSet v) (hw : isSet w) (h : ∀ m, hasB v m = hasB w m) : v = w := by
  apply BitVec.eq_of_getLsbD_eq
  intro i _
  by_cases hi : i < 31
  · have := h (i : Int)
    rw [hasB_nat, hasB_nat] at this
    simpa [hi] using this
  · rw [set_bit hv i (by omega), set_bit hw i (by omega)]
theorem bits_list {v : BitVec 64} (h : isSet v) : bitsV (listV v) = v := by
  apply BitVec.eq_of_getLsbD_eq
  intro i _
  rw [bitsV_bit, Bool.eq_iff_iff]
  simp only [mem_list, hasB_nat, decide_eq_true_eq, Bool.and_eq_true]
  constructor
  · exact fun h => h.1.2
  · intro h1
    have : i < 31 := by
      apply Classical.byContradiction; intro hn
      rw [set_bit h i (by omega)] at h1; cases h1
    exact ⟨⟨this, h1⟩, this⟩
theorem bits_ext {l l' : List Int} (h : ∀ m : Int, m ∈ l ↔ m ∈ l') : bitsV l = bitsV l' := by
  apply BitVec.eq_of_getLsbD_eq
  intro i _
  rw [bitsV_bit, bitsV_bit]
  simp only [h]
/-- What all have, what some have. -/
def meetV (v : BitVec 64) (l : List (BitVec 64)) : BitVec 64 := l.foldl (· &&& ·) v
def joinV (v : BitVec 64) (l : List (BitVec 64)) : BitVec 64 := l.foldl (· ||| ·) v
theorem meet_join : ∀ (l : List (BitVec 64)) (v w : BitVec 64), v &&& ~~~w = 0#64 → meetV v l &&& ~~~(joinV w l) = 0#64
  | [], v, w, h => h
  | x :: l, v, w, h => by
    have : meetV (v &&& x) l &&& ~~~(joinV (w ||| x) l) = 0#64 := by
      apply meet_join l
      apply BitVec.eq_of_getLsbD_eq
      intro i hi
      have := congrArg (fun y : BitVec 64 => y.getLsbD i) h
      simp only [BitVec.getLsbD_and, BitVec.getLsbD_not, BitVec.getLsbD_or, BitVec.getLsbD_zero, hi] at this ⊢
      revert this
      cases v.getLsbD i <;> cases w.getLsbD i <;> cases x.getLsbD i <;> simp
    exact this
theorem ofVs : ∀ (l : List Int), (∀ x ∈ l, (Lit.int .i64 x).wf = true) → ∃ vs : List (BitVec 64), l = vs.map BitVec.toInt
  | [], _ => ⟨[], rfl⟩
  | x :: l, h => by
    obtain ⟨v, rfl⟩ := ofV x (h x (by simp))
    obtain ⟨vs, rfl⟩ := ofVs l (fun y hy => h y (by simp [hy]))
    exact ⟨v :: vs, rfl⟩
/-- May these be? -/
def setsB (l : List Int) : Bool := l.all fun x => decide (0 ≤ x ∧ x < 2147483648)
end Go.Proofs.Ytadnjibgdpjnlaa.Plain

/-! A printed row names this law without its seat's name in front: it stands here under that name. -/
namespace Go.Proofs.Ytadnjibgdpjnlaa.PrintWords
open Go Go.ChangeShapes Go.WideShapes
theorem sized_ints {H : Type} {enc : TypeId × Value → H} {P : Program} {W : World} {base : Nat} {spare : Nat → Bool} {held : Bool} {t e : TypeId} {k : IntKind} {a : Option Addr} {len cap : Nat} {d : DataW H} {ps : List MemPlace} {ts : List TypeId} {ds : List (DataW H)} {j : Nat}
    (hsz : (DataW.weightsEach P ts ds).all (· ≤ reachBytes) = true) (ht : ts[j]? = some t) (hd : ds[j]? = some d) (hu : P.underlying t = some (.slice e)) (he : P.underlying e = some (.int k)) (hc : P.cellsOf e = 1) {B : Nat} (hB : P.bytesOf e = B)
    (h : DataW.Trod enc P W base spare held t (.slice a len cap) d ps) : len * B ≤ 140737488351232 :=
  Go.Proofs.YtadnjibgdpjnlaaW.PrintWords.sized_ints hsz ht hd hu he hc hB h
end Go.Proofs.Ytadnjibgdpjnlaa.PrintWords
