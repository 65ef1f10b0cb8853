/- How long the texts are, next to what weigh counts. Plain Lean. -/
import Derived.Test.YtfeaekdhpkdljaaDoorShHeavy
import Derived.Test.YtfeaekdhpkdljaaDoorShPrint
import Derived.Test.YtfeaekdhpkdljaaDoorShRefE
namespace Go.Proofs.YtfeaekdhpkdljaaDoor.Sh
open Go.RowKit Go.Proofs.YtfeaekdhpkdljaaDoorW.PrintWords Go.Proofs.YtfeaekdhpkdljaaDoorW.PrintLast
set_option linter.unusedVariables false
set_option linter.unusedSimpArgs false
theorem sum_one {α : Type} (f : α → Nat) (l : List α) (z : α) (h : 1 ≤ l.length) : f (l.getD 0 z) ≤ (l.map f).sum := by
  cases l with
  | nil => simp at h
  | cons a l => simp
theorem sum_both {α : Type} (f : α → Nat) (l : List α) (z : α) (h : 2 ≤ l.length) : f (l.getD 0 z) + f (l.getD 1 z) ≤ (l.map f).sum := by
  cases l with
  | nil => simp at h
  | cons a l => cases l with
    | nil => simp at h
    | cons b l => simp
theorem exprF_size : ∀ (n : Nat) (e : S30), SizeOf.sizeOf e ≤ n → okF n e → (exprF n e).size ≤ 24 * wE n e
  | 0, e, hs, ok => by
    obtain ⟨a, b, c, d, l⟩ := e
    simp only [S30.mk.sizeOf_spec] at hs
    omega
  | n + 1, e, hs, ok => by
    have hw : wE (n + 1) e = 1 + e.f3.size + e.f4.length + (e.f4.map (wE n)).sum := rfl
    rw [hw]
    have kid : ∀ i : Nat, i < e.f4.length → (exprF n (rd_T30 e.f4 (i : Int))).size ≤ 24 * wE n (rd_T30 e.f4 (i : Int)) :=
      fun i hi => exprF_size n _ (Nat.le_of_lt_succ (Nat.lt_of_lt_of_le (kid_size e i hi) hs)) (kid_ok ok i hi)
    simp only [exprF]
    split
    · have := itoaB_size e.f1 ok.1.1 ok.1.2
      omega
    split
    · omega
    split
    · rename_i h
      have k0 := kid 0 (by omega)
      have s0 : wE n (rd_T30 e.f4 0) ≤ _ := sum_one (wE n) e.f4 z30 (by omega)
      rw [show (((0 : Nat) : Int)) = 0 from rfl] at k0
      simp only [ByteArray.size_append, sz1]
      omega
    split
    · show 5 ≤ _
      omega
    split
    · rename_i h
      have k0 := kid 0 (by omega)
      have k1 := kid 1 (by omega)
      have s0 : wE n (rd_T30 e.f4 0) + wE n (rd_T30 e.f4 1) ≤ _ := sum_both (wE n) e.f4 z30 (by omega)
      rw [show (((0 : Nat) : Int)) = 0 from rfl] at k0
      rw [show (((1 : Nat) : Int)) = 1 from rfl] at k1
      simp only [ByteArray.size_append, sz1, opB_size]
      omega
    split
    · rename_i h
      have k0 := kid 0 (by omega)
      have s0 : wE n (rd_T30 e.f4 0) ≤ _ := sum_one (wE n) e.f4 z30 (by omega)
      rw [show (((0 : Nat) : Int)) = 0 from rfl] at k0
      simp only [ByteArray.size_append, sz1]
      omega
    · show 1 ≤ _
      omega
theorem condF_size : ∀ (n : Nat) (e : S33), SizeOf.sizeOf e ≤ n → okC n e → (condF n e).size ≤ 24 * wC n e
  | 0, e, hs, ok => by
    obtain ⟨a, b, c, d⟩ := e
    simp only [S33.mk.sizeOf_spec] at hs
    omega
  | n + 1, e, hs, ok => by
    have hw : wC (n + 1) e = 1 + e.f2.length + e.f3.length + (e.f2.map wES).sum + (e.f3.map (wC n)).sum := rfl
    rw [hw]
    have side : ∀ i : Nat, i < e.f2.length → (exprS (rd_T30 e.f2 (i : Int))).size ≤ 24 * wES (rd_T30 e.f2 (i : Int)) := fun i hi => by
      have hm : rd_T30 e.f2 (i : Int) = e.f2[i] := by simp [rd_T30, hi]
      exact exprF_size _ _ (Nat.le_refl _) (by rw [hm]; exact ok.1 _ (List.getElem_mem hi))
    have kid : ∀ i : Nat, i < e.f3.length → (condF n (rd_T33 e.f3 (i : Int))).size ≤ 24 * wC n (rd_T33 e.f3 (i : Int)) := fun i hi => by
      have hm : rd_T33 e.f3 (i : Int) = e.f3[i] := by simp [rd_T33, hi]
      exact condF_size n _ (Nat.le_of_lt_succ (Nat.lt_of_lt_of_le (ckid_size e i hi) hs)) (by rw [hm]; exact ok.2 _ (List.getElem_mem hi))
    simp only [condF]
    split
    · rename_i h
      have k0 := side 0 (by omega)
      have k1 := side 1 (by omega)
      have s0 : wES (rd_T30 e.f2 0) + wES (rd_T30 e.f2 1) ≤ _ := sum_both wES e.f2 z30 (by omega)
      rw [show (((0 : Nat) : Int)) = 0 from rfl] at k0
      rw [show (((1 : Nat) : Int)) = 1 from rfl] at k1
      have hr := relB_size e.f1
      simp only [ByteArray.size_append, sz1]
      generalize (exprS (rd_T30 e.f2 0)).size = a0 at *
      generalize (exprS (rd_T30 e.f2 1)).size = a1 at *
      generalize wES (rd_T30 e.f2 0) = b0 at *
      generalize wES (rd_T30 e.f2 1) = b1 at *
      omega
    have one : 1 ≤ e.f3.length → (condF n (rd_T33 e.f3 0)).size ≤ 24 * (e.f3.map (wC n)).sum := fun h => by
      have k0 := kid 0 (by omega)
      have s0 : wC n (rd_T33 e.f3 0) ≤ _ := sum_one (wC n) e.f3 z33 h
      rw [show (((0 : Nat) : Int)) = 0 from rfl] at k0
      omega
    have two : 2 ≤ e.f3.length → (condF n (rd_T33 e.f3 0)).size + (condF n (rd_T33 e.f3 1)).size ≤ 24 * (e.f3.map (wC n)).sum := fun h => by
      have k0 := kid 0 (by omega)
      have k1 := kid 1 (by omega)
      have s0 : wC n (rd_T33 e.f3 0) + wC n (rd_T33 e.f3 1) ≤ _ := sum_both (wC n) e.f3 z33 h
      rw [show (((0 : Nat) : Int)) = 0 from rfl] at k0
      rw [show (((1 : Nat) : Int)) = 1 from rfl] at k1
      omega
    split
    · rename_i h
      have := one h.2.1
      simp only [ByteArray.size_append, sz1, sz2]
      omega
    split
    · rename_i h
      have := one h.2
      simp only [ByteArray.size_append, sz1, sz2]
      omega
    split
    · rename_i h
      have := two h.2
      simp only [ByteArray.size_append, sz1, sz2]
      omega
    split
    · rename_i h
      have := two h.2
      simp only [ByteArray.size_append, sz1, sz2]
      omega
    · show 1 ≤ _
      omega
theorem fm_size {α : Type} (f : α → List UInt8) (g : α → Nat) (c : Nat) : ∀ (l : List α), (∀ x ∈ l, (f x).length ≤ c * g x) → (l.flatMap f).length ≤ c * (l.map g).sum
  | [], _ => by simp
  | x :: l, h => by
    have h1 := h x (List.mem_cons_self ..)
    have h2 := fm_size f g c l (fun y hy => h y (List.mem_cons_of_mem _ hy))
    rw [List.flatMap_cons, List.length_append, List.map_cons, List.sum_cons, Nat.mul_add]
    omega
theorem wE_pos : ∀ e : S30, 1 ≤ wES e := fun e => by
  obtain ⟨n, hn⟩ : ∃ n, SizeOf.sizeOf e = n + 1 := ⟨SizeOf.sizeOf e - 1, by
    have : 0 < SizeOf.sizeOf e := by obtain ⟨a, b, c, d, l⟩ := e; simp only [S30.mk.sizeOf_spec]; omega
    omega⟩
  show 1 ≤ wE (SizeOf.sizeOf e) e
  rw [hn]
  show 1 ≤ 1 + e.f3.size + e.f4.length + (e.f4.map (wE n)).sum
  omega
theorem by_len (x : ByteArray) : (by_ x).length = x.size := rfl
theorem stmtF_size : ∀ (n : Nat) (s : S54), SizeOf.sizeOf s ≤ n → okSt n s → (stmtF n s).length ≤ 40 * wS n s
  | 0, s, hs, ok => by
    obtain ⟨a, b, c, d, e, f, g⟩ := s
    simp only [S54.mk.sizeOf_spec] at hs
    omega
  | n + 1, s, hs, ok => by
    have hw : wS (n + 1) s = s.f1.size + wES s.f3 + wES s.f2 + wCS s.f4 + (s.f5.length + (s.f5.map (wS n)).sum) + (s.f6.length + (s.f6.map (wS n)).sum) := rfl
    rw [hw]
    have p2 := wE_pos s.f2
    have p3 := wE_pos s.f3
    have x2 := exprF_size _ s.f2 (Nat.le_refl _) ok.1
    have x3 := exprF_size _ s.f3 (Nat.le_refl _) ok.2.1
    have x4 := condF_size _ s.f4 (Nat.le_refl _) ok.2.2.1
    have y5 := fm_size (stmtF n) (wS n) 40 s.f5 (fun x hx => stmtF_size n x (Nat.le_of_lt_succ (Nat.lt_of_lt_of_le (body_size s hx) hs)) (ok.2.2.2.1 x hx))
    have y6 := fm_size (stmtF n) (wS n) 40 s.f6 (fun x hx => stmtF_size n x (Nat.le_of_lt_succ (Nat.lt_of_lt_of_le (else_size s hx) hs)) (ok.2.2.2.2 x hx))
    have z2 : (exprS s.f2).size ≤ 24 * wES s.f2 := x2
    have z3 : (exprS s.f3).size ≤ 24 * wES s.f3 := x3
    have z4 : (condS s.f4).size ≤ 24 * wCS s.f4 := x4
    simp only [stmtF]
    generalize (exprS s.f2) = a2 at *
    generalize (exprS s.f3) = a3 at *
    generalize (condS s.f4) = a4 at *
    clear x2 x3 x4
    generalize wES s.f2 = b2 at *
    generalize wES s.f3 = b3 at *
    generalize wCS s.f4 = b4 at *
    repeat' split
    all_goals
      simp only [lineL, catL, List.flatMap_cons, List.flatMap_nil, List.length_append, List.length_cons, List.length_nil, by_len, szl14, List.size_toArray]
      omega
theorem printF_size (G : List S59) (As : List S61) (Ms : List ByteArray) (Ts : List S52) (iG : ∀ g ∈ G, -9223372036854775808 ≤ g.f1 ∧ g.f1 ≤ 9223372036854775807) (iA : ∀ g ∈ As, -9223372036854775808 ≤ g.f1 ∧ g.f1 ≤ 9223372036854775807) (iT : ∀ t ∈ Ts, ∀ s ∈ t.f2, okSt (SizeOf.sizeOf t.f2) s) :
    (printF G As Ms Ts).length ≤ 60 * wP G As Ms Ts := by
  have sum_add : ∀ {α : Type} (f : α → Nat) (l : List α), (l.map (fun x => 1 + f x)).sum = l.length + (l.map f).sum := by
    intro α f l
    induction l with
    | nil => rfl
    | cons x l ih => simp only [List.map_cons, List.sum_cons, List.length_cons, ih]; omega
  have h1 := fm_size globF (fun g => 1 + g.f0.size) 60 G (fun g hg => by
    have := itoaB_size g.f1 (iG g hg).1 (iG g hg).2
    simp only [globF, lineL, catL, List.flatMap_cons, List.flatMap_nil, List.length_append, List.length_cons, List.length_nil, by_len, szl14, List.size_toArray]
    omega)
  have h2 := fm_size arrF (fun g => 1 + g.f0.size) 60 As (fun g hg => by
    have := itoaB_size g.f1 (iA g hg).1 (iA g hg).2
    simp only [arrF, lineL, catL, List.flatMap_cons, List.flatMap_nil, List.length_append, List.length_cons, List.length_nil, by_len, szl14, List.size_toArray]
    omega)
  have h3 := fm_size mutF (fun m => 1 + m.size) 60 Ms (fun m hm => by
    simp only [mutF, lineL, catL, List.flatMap_cons, List.flatMap_nil, List.length_append, List.length_cons, List.length_nil, by_len, szl14, List.size_toArray]
    omega)
  have h4 := fm_size thrF (fun t => 1 + wT t) 60 Ts (fun t ht => by
    have l1 := fm_size locF (fun m => 1 + m.size) 40 t.f1 (fun m hm => by
      simp only [locF, lineL, catL, List.flatMap_cons, List.flatMap_nil, List.length_append, List.length_cons, List.length_nil, by_len, szl14, List.size_toArray]
      omega)
    have l2 := fm_size (stmtF (SizeOf.sizeOf t.f2)) (wS (SizeOf.sizeOf t.f2)) 40 t.f2 (fun s hs => stmtF_size _ s (Nat.le_of_lt (List.sizeOf_lt_of_mem hs)) (iT t ht s hs))
    rw [sum_add] at l1
    have hw : wT t = t.f0.size + t.f1.length + (t.f1.map ByteArray.size).sum + (t.f2.length + (t.f2.map (wS (SizeOf.sizeOf t.f2))).sum) := rfl
    rw [hw]
    simp only [thrF, lineL, catL, List.flatMap_cons, List.flatMap_nil, List.length_append, List.length_cons, List.length_nil, by_len, szl14, List.size_toArray]
    omega)
  rw [sum_add] at h1 h2 h3 h4
  have hw : wP G As Ms Ts = G.length + As.length + Ms.length + Ts.length + (G.map fun g => g.f0.size).sum + (As.map fun g => g.f0.size).sum + (Ms.map ByteArray.size).sum + (Ts.map wT).sum := rfl
  rw [hw]
  simp only [printF, List.length_append]
  have e3 : (Ms.map fun m => m.size).sum = (Ms.map ByteArray.size).sum := rfl
  rw [e3] at h3
  have e4 : (Ts.map fun t => wT t).sum = (Ts.map wT).sum := rfl
  omega
end Go.Proofs.YtfeaekdhpkdljaaDoor.Sh
