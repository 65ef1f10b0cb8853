/- meddlerref6's Dec, Expr, Cond: what they answer is what show's texts are. -/
import Derived.Test.YtfeaekdhpkdljaaDoorShF16
import Derived.Test.YtfeaekdhpkdljaaDoorShCond
import Derived.Lib.ItoaLen
namespace Go.Proofs.YtfeaekdhpkdljaaDoor.Sh
open Go.RowKit Go.Proofs.YtfeaekdhpkdljaaDoorW.PrintWords Go.Proofs.YtfeaekdhpkdljaaDoorW.PrintLast
set_option linter.unusedVariables false
set_option linter.unusedSimpArgs false
theorem ba_app (l m : List UInt8) : (⟨l.toArray⟩ : ByteArray) ++ ⟨m.toArray⟩ = ⟨(l ++ m).toArray⟩ := by
  apply ByteArray.ext
  rw [ByteArray.data_append]
  simp
theorem itoaB_size (n : Int) (h0 : -9223372036854775808 ≤ n) (h1 : n ≤ 9223372036854775807) : (itoaB n).size ≤ 21 := by
  have h := Lib.itoa_length_le n h0 h1
  show (Lib.itoa n).toArray.size ≤ 21
  simpa using h
theorem digits_more (u : Nat) (h : 10 ≤ u) : Lib.decDigits u = Lib.decDigits (u / 10) ++ [UInt8.ofNat (48 + u % 10)] := by
  rw [Lib.decDigits, dif_neg (by omega)]
theorem num_one (x : Int) (d : Nat) (hd : d < 10) (h : x = 48 + (d : Int)) : strOfNums [(wrap64 x) % 256] = ⟨[UInt8.ofNat (48 + d)].toArray⟩ := by
  subst h
  rw [IntWalk.wrap64_in _ (by omega)]
  unfold strOfNums
  have : ((48 + (d : Int)) % 256).toNat = 48 + d := by omega
  simp only [List.map_cons, List.map_nil, this]
theorem dec_f : ∀ (m : Nat) (n : Int), n.natAbs < 10 ^ m → -9223372036854775808 ≤ n → n ≤ 9223372036854775807 → meddlerref6_Dec.f (m + 1) n = some (itoaB n)
  | m, n, hm, h0, h1 => by
    simp only [meddlerref6_Dec.f]
    by_cases hn : n < 0
    · rw [if_pos hn]
      obtain ⟨u, hu⟩ : ∃ u : Nat, n = -(u : Int) := ⟨n.natAbs, by omega⟩
      subst hu
      have hua : (-(u : Int)).natAbs = u := by omega
      rw [hua] at hm
      by_cases h9 : -(u : Int) < -9
      · rw [if_pos h9]
        have ht : wrap64 (Int.tdiv (-(u : Int)) 10) = -((u / 10 : Nat) : Int) := by
          rw [Int.neg_tdiv, Int.tdiv_eq_ediv_of_nonneg (by omega), IntWalk.wrap64_in _ (by omega)]
          omega
        have hr : Int.tmod (-(u : Int)) 10 = -((u % 10 : Nat) : Int) := by
          rw [Int.neg_tmod, Int.tmod_eq_emod_of_nonneg (by omega)]
          omega
        obtain ⟨m, rfl⟩ : ∃ j, m = j + 1 := ⟨m - 1, by cases m with
          | zero => simp at hm; omega
          | succ j => rfl⟩
        have ih := dec_f m (-((u / 10 : Nat) : Int)) (by rw [Nat.pow_succ] at hm; omega) (by omega) (by omega)
        have hz := itoaB_size (-((u / 10 : Nat) : Int)) (by omega) (by omega)
        rw [ht, ih, hr]
        simp only [Option.bind_some]
        rw [num_one (48 - -((u % 10 : Nat) : Int)) (u % 10) (by omega) (by omega), if_pos (by show _ + 1 ≤ _; omega)]
        have e1 : itoaB (-((u / 10 : Nat) : Int)) = ⟨(45 :: Lib.decDigits (u / 10)).toArray⟩ := by unfold itoaB; rw [Lib.itoa_neg _ (by omega)]
        have e2 : itoaB (-(u : Int)) = ⟨(45 :: Lib.decDigits u).toArray⟩ := by unfold itoaB; rw [Lib.itoa_neg _ (by omega)]
        rw [e1, e2, ba_app, digits_more u (by omega)]
        rfl
      · rw [if_neg h9]
        simp only [Option.bind_some]
        rw [num_one (48 - -(u : Int)) u (by omega) (by omega), if_pos (by show 1 + 1 ≤ _; omega)]
        have e2 : itoaB (-(u : Int)) = ⟨(45 :: Lib.decDigits u).toArray⟩ := by unfold itoaB; rw [Lib.itoa_neg _ (by omega)]
        rw [e2, Lib.decDigits_one (by omega), show (⟨#[45]⟩ : ByteArray) = ⟨[45].toArray⟩ from rfl, ba_app]
        rfl
    · rw [if_neg hn]
      obtain ⟨u, hu⟩ : ∃ u : Nat, n = (u : Int) := ⟨n.natAbs, by omega⟩
      subst hu
      have hua : ((u : Int)).natAbs = u := by omega
      rw [hua] at hm
      have e2 : itoaB (u : Int) = ⟨(Lib.decDigits u).toArray⟩ := by unfold itoaB; rw [Lib.itoa_nonneg]
      by_cases h9 : (u : Int) < 10
      · rw [if_pos h9, num_one _ u (by omega) rfl, e2, Lib.decDigits_one (by omega)]
      · rw [if_neg h9]
        have ht : wrap64 (Int.tdiv (u : Int) 10) = ((u / 10 : Nat) : Int) := by
          rw [Int.tdiv_eq_ediv_of_nonneg (by omega), IntWalk.wrap64_in _ (by omega)]
          omega
        have hr : Int.tmod (u : Int) 10 = ((u % 10 : Nat) : Int) := by
          rw [Int.tmod_eq_emod_of_nonneg (by omega)]
          omega
        obtain ⟨m, rfl⟩ : ∃ j, m = j + 1 := ⟨m - 1, by cases m with
          | zero => simp at hm; omega
          | succ j => rfl⟩
        have ih := dec_f m ((u / 10 : Nat) : Int) (by rw [Nat.pow_succ] at hm; omega) (by omega) (by omega)
        have hz := itoaB_size ((u / 10 : Nat) : Int) (by omega) (by omega)
        rw [ht, ih, hr]
        simp only [Option.bind_some]
        rw [num_one (48 + ((u % 10 : Nat) : Int)) (u % 10) (by omega) rfl, if_pos (by show _ + 1 ≤ _; omega)]
        have e1 : itoaB ((u / 10 : Nat) : Int) = ⟨(Lib.decDigits (u / 10)).toArray⟩ := by unfold itoaB; rw [Lib.itoa_nonneg]
        rw [e1, e2, ba_app, digits_more u (by omega)]
  termination_by m => m
theorem nat19 (n : Int) (h0 : -9223372036854775808 ≤ n) (h1 : n ≤ 9223372036854775807) : n.natAbs < 10 ^ 19 := by
  have : n.natAbs ≤ 9223372036854775808 := by omega
  exact Nat.lt_of_le_of_lt this (by decide)
theorem dec_calls (n : Int) (h0 : -9223372036854775808 ≤ n) (h1 : n ≤ 9223372036854775807) (w : World) :
    Calls Tryd.prog 27 #[.int .i64 n] w fun e w' => e = .returned (.string (itoaB n)) ∧ Below w.heap.size w w' :=
  meddlerref6_Dec.calls 20 n (itoaB n) w (dec_f 19 n (nat19 n h0 h1) h0 h1)
theorem sl5 (c : Int) (h : 1 ≤ c ∧ c ≤ 5) : (⟨#[43, 45, 42, 47, 37]⟩ : ByteArray).extract (wrap64 (c - 1)).toNat c.toNat = opB c := by
  rcases (by omega : c = 1 ∨ c = 2 ∨ c = 3 ∨ c = 4 ∨ c = 5) with h | h | h | h | h <;> subst h <;> kernel_rfl
theorem rexpr_f : ∀ (n : Nat) (e : S30), SizeOf.sizeOf e ≤ n → okF n e → (exprF n e).size ≤ 4611686018427387904 → ∃ k, ∀ j, k ≤ j → meddlerref6_Expr.f j e.f0 e.f1 e.f2 e.f3 e.f4 = some (exprF n e)
  | 0, e, hs, ok, hz => by
    obtain ⟨a, b, c, d, l⟩ := e
    simp only [S30.mk.sizeOf_spec] at hs
    omega
  | n + 1, e, hs, ok, hz => by
    suffices h : ∃ k, meddlerref6_Expr.f k e.f0 e.f1 e.f2 e.f3 e.f4 = some (exprF (n + 1) e) by
      obtain ⟨k, hk⟩ := h
      exact ⟨k, fun j hj => at_rounds (g := fun k => meddlerref6_Expr.f k e.f0 e.f1 e.f2 e.f3 e.f4) (fun k => meddlerref6_Expr.mono _ _ _ _ _ k) hj hk⟩
    have kid : ∀ i : Nat, i < e.f4.length → (exprF n (rd_T30 e.f4 (i : Int))).size ≤ 4611686018427387904 → ∃ k, ∀ j, k ≤ j → meddlerref6_Expr.f j (rd_T30 e.f4 (i : Int)).f0 (rd_T30 e.f4 (i : Int)).f1 (rd_T30 e.f4 (i : Int)).f2 (rd_T30 e.f4 (i : Int)).f3 (rd_T30 e.f4 (i : Int)).f4 = some (exprF n (rd_T30 e.f4 (i : Int))) :=
      fun i hi h => rexpr_f n _ (Nat.le_of_lt_succ (Nat.lt_of_lt_of_le (kid_size e i hi) hs)) (kid_ok ok i hi) h
    by_cases k1 : e.f0 = 1
    · refine ⟨21, ?_⟩
      have hv : exprF (n + 1) e = itoaB e.f1 := by simp only [exprF]; rw [if_pos k1]
      rw [hv]
      have hd := dec_f 19 e.f1 (nat19 _ ok.1.1 ok.1.2) ok.1.1 ok.1.2
      simp only [meddlerref6_Expr.f]
      rw [if_pos k1, hd]
      rfl
    by_cases k2 : e.f0 = 2
    · refine ⟨1, ?_⟩
      have hv : exprF (n + 1) e = e.f3 := by simp only [exprF]; rw [if_neg k1, if_pos k2]
      rw [hv]
      simp only [meddlerref6_Expr.f]
      rw [if_neg k1, if_pos k2]
    by_cases k3 : e.f0 = 3 ∧ (1 : Int) ≤ (e.f4.length : Int)
    · have hv : exprF (n + 1) e = ((e.f3 ++ (⟨#[91]⟩ : ByteArray)) ++ exprF n (rd_T30 e.f4 0)) ++ (⟨#[93]⟩ : ByteArray) := by simp only [exprF]; rw [if_neg k1, if_neg k2, if_pos k3]
      rw [hv] at hz ⊢
      simp only [ByteArray.size_append, sz1] at hz
      obtain ⟨k, hk⟩ := kid 0 (by omega) (by have h : (((0 : Nat) : Int)) = 0 := rfl
                                             rw [h]; omega)
      refine ⟨k + 2, ?_⟩
      have hk := hk k (Nat.le_refl _)
      rw [show (((0 : Nat) : Int)) = 0 from rfl] at hk
      simp only [meddlerref6_Expr.f]
      rw [if_neg k1, if_neg k2, if_pos k3.1, show decide ((e.f4.length : Int) > 0) = true from decide_eq_true (by omega)]
      simp only [meddlerref6_Expr.j0]
      rw [if_pos trivial, if_pos (by omega), if_pos (by omega), hk]
      show (if _ then _ else _) = _
      rw [if_pos (by simp only [ByteArray.size_append, sz1]; omega), if_pos (by simp only [ByteArray.size_append, sz1]; omega)]
    by_cases k4 : e.f0 = 4
    · have hv : exprF (n + 1) e = (⟨#[105, 110, 112, 117, 116]⟩ : ByteArray) := by simp only [exprF]; rw [if_neg k1, if_neg k2, if_neg k3, if_pos k4]
      rw [hv]
      refine ⟨2, ?_⟩
      simp only [meddlerref6_Expr.f]
      rw [if_neg k1, if_neg k2, if_neg (by omega)]
      simp only [meddlerref6_Expr.j0]
      rw [if_neg (by decide), if_pos k4]
    have toj1 : ∀ (k : Nat) (x : Bool), (e.f0 = 5 ∧ (e.f4.length : Int) > 1 ∧ e.f2 ≥ 1 → x = decide (e.f2 ≤ 5)) → (¬ (e.f0 = 5 ∧ (e.f4.length : Int) > 1 ∧ e.f2 ≥ 1) → x = false) → meddlerref6_Expr.f (k + 2) e.f0 e.f1 e.f2 e.f3 e.f4 = meddlerref6_Expr.j1 k x e.f0 e.f1 e.f2 e.f3 e.f4 := by
      intro k x hx hy
      have hf : meddlerref6_Expr.f (k + 2) e.f0 e.f1 e.f2 e.f3 e.f4 = meddlerref6_Expr.j0 (k + 1) false e.f0 e.f1 e.f2 e.f3 e.f4 := by
        simp only [meddlerref6_Expr.f]
        rw [if_neg k1, if_neg k2]
        by_cases h3 : e.f0 = 3
        · rw [if_pos h3, show decide ((e.f4.length : Int) > 0) = false from decide_eq_false (by omega)]
        · rw [if_neg h3]
      rw [hf]
      simp only [meddlerref6_Expr.j0]
      rw [if_neg (by decide), if_neg k4]
      by_cases h5 : e.f0 = 5
      · rw [if_pos h5]
        by_cases hl : (e.f4.length : Int) > 1
        · rw [if_pos hl]
          by_cases ho : e.f2 ≥ 1
          · rw [if_pos ho, hx ⟨h5, hl, ho⟩]
          · rw [if_neg ho, hy (by omega)]
        · rw [if_neg hl, hy (by omega)]
      · rw [if_neg h5, hy (by omega)]
    by_cases k5 : e.f0 = 5 ∧ (2 : Int) ≤ (e.f4.length : Int) ∧ 1 ≤ e.f2 ∧ e.f2 ≤ 5
    · have hv : exprF (n + 1) e = ((((((⟨#[40]⟩ : ByteArray) ++ exprF n (rd_T30 e.f4 0)) ++ (⟨#[32]⟩ : ByteArray)) ++ opB e.f2) ++ (⟨#[32]⟩ : ByteArray)) ++ exprF n (rd_T30 e.f4 1)) ++ (⟨#[41]⟩ : ByteArray) := by simp only [exprF]; rw [if_neg k1, if_neg k2, if_neg k3, if_neg k4, if_pos k5]
      rw [hv] at hz ⊢
      simp only [ByteArray.size_append, sz1, opB_size] at hz
      obtain ⟨k, hk⟩ := kid 0 (by omega) (by rw [show (((0 : Nat) : Int)) = 0 from rfl]; omega)
      obtain ⟨k', hk'⟩ := kid 1 (by omega) (by rw [show (((1 : Nat) : Int)) = 1 from rfl]; omega)
      have hk := hk (k + k') (by omega)
      have hk' := hk' (k + k') (by omega)
      rw [show (((0 : Nat) : Int)) = 0 from rfl] at hk
      rw [show (((1 : Nat) : Int)) = 1 from rfl] at hk'
      refine ⟨(k + k') + 1 + 2, ?_⟩
      rw [toj1 (k + k' + 1) true (fun _ => (decide_eq_true k5.2.2.2).symm) (fun h => absurd ⟨k5.1, by omega, by omega⟩ h)]
      simp only [meddlerref6_Expr.j1]
      have hw : wrap64 (e.f2 - 1) = e.f2 - 1 := IntWalk.wrap64_in _ (by omega)
      rw [sl5 e.f2 k5.2.2, hw]
      rw [if_pos trivial, if_pos (by omega), hk]
      show (if _ then _ else _) = _
      rw [if_pos (by omega), if_pos (by simp only [ByteArray.size_append, sz1, opB_size]; omega), if_pos (by omega), if_pos (by omega), if_pos k5.2.2.2, if_pos (by simp only [ByteArray.size_append, sz1, opB_size]; omega), if_pos (by simp only [ByteArray.size_append, sz1, opB_size]; omega), if_pos (by omega), hk']
      show (if _ then _ else _) = _
      rw [if_pos (by simp only [ByteArray.size_append, sz1, opB_size]; omega), if_pos (by simp only [ByteArray.size_append, sz1, opB_size]; omega)]
    have tof : ∀ k, meddlerref6_Expr.f (k + 2) e.f0 e.f1 e.f2 e.f3 e.f4 = meddlerref6_Expr.j1 k false e.f0 e.f1 e.f2 e.f3 e.f4 := fun k => toj1 k false (fun h => (decide_eq_false (by omega)).symm) (fun _ => rfl)
    by_cases k6 : e.f0 = 6 ∧ (1 : Int) ≤ (e.f4.length : Int)
    · have hv : exprF (n + 1) e = (⟨#[45]⟩ : ByteArray) ++ exprF n (rd_T30 e.f4 0) := by simp only [exprF]; rw [if_neg k1, if_neg k2, if_neg k3, if_neg k4, if_neg k5, if_pos k6]
      rw [hv] at hz ⊢
      simp only [ByteArray.size_append, sz1] at hz
      obtain ⟨k, hk⟩ := kid 0 (by omega) (by rw [show (((0 : Nat) : Int)) = 0 from rfl]; omega)
      have hk := hk k (Nat.le_refl _)
      rw [show (((0 : Nat) : Int)) = 0 from rfl] at hk
      refine ⟨k + 1 + 2, ?_⟩
      rw [tof]
      simp only [meddlerref6_Expr.j1]
      rw [if_neg (by decide), if_pos k6.1, if_pos (by omega), if_pos (by omega), hk]
      show (if _ then _ else _) = _
      rw [if_pos (by omega)]
    · have hv : exprF (n + 1) e = (⟨#[63]⟩ : ByteArray) := by simp only [exprF]; rw [if_neg k1, if_neg k2, if_neg k3, if_neg k4, if_neg k5, if_neg k6]
      rw [hv]
      refine ⟨1 + 2, ?_⟩
      rw [tof]
      simp only [meddlerref6_Expr.j1]
      rw [if_neg (by decide)]
      by_cases h6 : e.f0 = 6
      · rw [if_pos h6, if_neg (by omega)]
      · rw [if_neg h6]
theorem rexpr_calls (e : S30) (A : Option Addr) (c : Nat) (w : World) (hC : k30.C w A e.f4.length e.f4) (hc : e.f4.length ≤ c) (ok : okE e) (hz : (exprS e).size ≤ 4611686018427387904) :
    Calls Tryd.prog 14 #[.agg #[.int .i64 e.f0, .int .i64 e.f1, .int .i64 e.f2, .string e.f3, .slice A e.f4.length c]] w fun r w' => r = .returned (.string (exprS e)) ∧ Below w.heap.size w w' := by
  obtain ⟨k, hk⟩ := rexpr_f (SizeOf.sizeOf e) e (Nat.le_refl _) ok hz
  exact meddlerref6_Expr.calls k e.f0 e.f1 e.f2 e.f3 A c e.f4 _ w hC hc (hk k (Nat.le_refl _))
theorem rl6 (c : Int) (h : 1 ≤ c ∧ c ≤ 6) : rdOf ByteArray.empty [(⟨#[60]⟩ : ByteArray), (⟨#[60, 61]⟩ : ByteArray), (⟨#[61, 61]⟩ : ByteArray), (⟨#[33, 61]⟩ : ByteArray), (⟨#[62, 61]⟩ : ByteArray), (⟨#[62]⟩ : ByteArray)] (c - 1) = relB c := by
  rcases (by omega : c = 1 ∨ c = 2 ∨ c = 3 ∨ c = 4 ∨ c = 5 ∨ c = 6) with h | h | h | h | h | h <;> subst h <;> kernel_rfl
theorem and3 (x : ByteArray) : ((x ++ (⟨#[32]⟩ : ByteArray)) ++ (⟨#[38, 38]⟩ : ByteArray)) ++ (⟨#[32]⟩ : ByteArray) = x ++ (⟨#[32, 38, 38, 32]⟩ : ByteArray) := by
  rw [ByteArray.append_assoc, ByteArray.append_assoc]; rfl
theorem or3 (x : ByteArray) : ((x ++ (⟨#[32]⟩ : ByteArray)) ++ (⟨#[124, 124]⟩ : ByteArray)) ++ (⟨#[32]⟩ : ByteArray) = x ++ (⟨#[32, 124, 124, 32]⟩ : ByteArray) := by
  rw [ByteArray.append_assoc, ByteArray.append_assoc]; rfl
theorem sz4 (a b c d : UInt8) : (⟨#[a, b, c, d]⟩ : ByteArray).size = 4 := rfl
theorem rcond_f : ∀ (n : Nat) (e : S33), SizeOf.sizeOf e ≤ n → okC n e → (condF n e).size ≤ 4611686018427387904 → ∃ k, ∀ j, k ≤ j → meddlerref6_Cond.f j e.f0 e.f1 e.f2 e.f3 = some (condF n e)
  | 0, e, hs, ok, hz => by
    obtain ⟨a, b, c, d⟩ := e
    simp only [S33.mk.sizeOf_spec] at hs
    omega
  | n + 1, e, hs, ok, hz => by
    suffices h : ∃ k, meddlerref6_Cond.f k e.f0 e.f1 e.f2 e.f3 = some (condF (n + 1) e) by
      obtain ⟨k, hk⟩ := h
      exact ⟨k, fun j hj => at_rounds (g := fun k => meddlerref6_Cond.f k e.f0 e.f1 e.f2 e.f3) (fun k => meddlerref6_Cond.mono _ _ _ _ k) hj hk⟩
    have side : ∀ i : Nat, i < e.f2.length → (exprS (rd_T30 e.f2 (i : Int))).size ≤ 4611686018427387904 → ∃ k, ∀ j, k ≤ j → meddlerref6_Expr.f j (rd_T30 e.f2 (i : Int)).f0 (rd_T30 e.f2 (i : Int)).f1 (rd_T30 e.f2 (i : Int)).f2 (rd_T30 e.f2 (i : Int)).f3 (rd_T30 e.f2 (i : Int)).f4 = some (exprS (rd_T30 e.f2 (i : Int))) := fun i hi h => by
      have hm : rd_T30 e.f2 (i : Int) = e.f2[i] := by simp [rd_T30, hi]
      exact rexpr_f _ _ (Nat.le_refl _) (by rw [hm]; exact ok.1 _ (List.getElem_mem hi)) h
    have kid : ∀ i : Nat, i < e.f3.length → (condF n (rd_T33 e.f3 (i : Int))).size ≤ 4611686018427387904 → ∃ k, ∀ j, k ≤ j → meddlerref6_Cond.f j (rd_T33 e.f3 (i : Int)).f0 (rd_T33 e.f3 (i : Int)).f1 (rd_T33 e.f3 (i : Int)).f2 (rd_T33 e.f3 (i : Int)).f3 = some (condF n (rd_T33 e.f3 (i : Int))) := fun i hi h => by
      have hm : rd_T33 e.f3 (i : Int) = e.f3[i] := by simp [rd_T33, hi]
      exact rcond_f n _ (Nat.le_of_lt_succ (Nat.lt_of_lt_of_le (ckid_size e i hi) hs)) (by rw [hm]; exact ok.2 _ (List.getElem_mem hi)) h
    by_cases k1 : e.f0 = 1 ∧ 2 ≤ e.f2.length ∧ 1 ≤ e.f1 ∧ e.f1 ≤ 6
    · have hv : condF (n + 1) e = (((exprS (rd_T30 e.f2 0) ++ (⟨#[32]⟩ : ByteArray)) ++ relB e.f1) ++ (⟨#[32]⟩ : ByteArray)) ++ exprS (rd_T30 e.f2 1) := by simp only [condF]; rw [if_pos k1]
      rw [hv] at hz ⊢
      simp only [ByteArray.size_append, sz1] at hz
      have hrs := relB_size e.f1
      obtain ⟨k, hk⟩ := side 0 (by omega) (by rw [show (((0 : Nat) : Int)) = 0 from rfl]; omega)
      obtain ⟨k', hk'⟩ := side 1 (by omega) (by rw [show (((1 : Nat) : Int)) = 1 from rfl]; omega)
      have hk := hk (k + k') (by omega)
      have hk' := hk' (k + k') (by omega)
      rw [show (((0 : Nat) : Int)) = 0 from rfl] at hk
      rw [show (((1 : Nat) : Int)) = 1 from rfl] at hk'
      refine ⟨(k + k') + 2, ?_⟩
      have hw : wrap64 (e.f1 - 1) = e.f1 - 1 := IntWalk.wrap64_in _ (by omega)
      simp only [meddlerref6_Cond.f]
      rw [if_pos k1.1, if_pos (by omega), if_pos k1.2.2.1, show decide (e.f1 ≤ 6) = true from decide_eq_true k1.2.2.2]
      simp only [meddlerref6_Cond.j0]
      rw [if_pos trivial, if_pos (by omega), hk, hw]
      simp only [Option.bind_some]
      rw [rl6 _ k1.2.2, if_pos (by omega), if_pos (by omega), if_pos (by show e.f1 - 1 < 6; omega), if_pos (by simp only [ByteArray.size_append, sz1]; omega), if_pos (by simp only [ByteArray.size_append, sz1]; omega), if_pos (by omega), hk']
      simp only [Option.bind_some]
      rw [if_pos (by simp only [ByteArray.size_append, sz1]; omega)]
    have toj0 : ∀ k, meddlerref6_Cond.f (k + 1) e.f0 e.f1 e.f2 e.f3 = meddlerref6_Cond.j0 k false e.f0 e.f1 e.f2 e.f3 := by
      intro k
      simp only [meddlerref6_Cond.f]
      by_cases h1 : e.f0 = 1
      · rw [if_pos h1]
        by_cases hl : (e.f2.length : Int) > 1
        · rw [if_pos hl]
          by_cases ho : e.f1 ≥ 1
          · rw [if_pos ho, show decide (e.f1 ≤ 6) = false from decide_eq_false (by omega)]
          · rw [if_neg ho]
        · rw [if_neg hl]
      · rw [if_neg h1]
    by_cases k2 : e.f0 = 2 ∧ 1 ≤ e.f3.length
    · by_cases k2' : (rd_T33 e.f3 0).f0 = 1
      · have hv : condF (n + 1) e = ((⟨#[33, 91]⟩ : ByteArray) ++ condF n (rd_T33 e.f3 0)) ++ (⟨#[93]⟩ : ByteArray) := by simp only [condF]; rw [if_neg k1, if_pos ⟨k2.1, k2.2, k2'⟩]
        rw [hv] at hz ⊢
        simp only [ByteArray.size_append, sz1, sz2] at hz
        obtain ⟨k, hk⟩ := kid 0 (by omega) (by rw [show (((0 : Nat) : Int)) = 0 from rfl]; omega)
        have hk := hk k (Nat.le_refl _)
        rw [show (((0 : Nat) : Int)) = 0 from rfl] at hk
        refine ⟨k + 3, ?_⟩
        rw [toj0]
        simp only [meddlerref6_Cond.j0]
        rw [if_neg (by decide), if_pos k2.1, show decide ((e.f3.length : Int) > 0) = true from decide_eq_true (by omega)]
        simp only [meddlerref6_Cond.j1]
        rw [if_pos trivial, if_pos (by omega), if_pos k2', hk]
        simp only [Option.bind_some]
        rw [if_pos (by omega), if_pos (by simp only [ByteArray.size_append, sz1, sz2]; omega)]
      · have hv : condF (n + 1) e = (⟨#[33]⟩ : ByteArray) ++ condF n (rd_T33 e.f3 0) := by simp only [condF]; rw [if_neg k1, if_neg (by omega), if_pos k2]
        rw [hv] at hz ⊢
        simp only [ByteArray.size_append, sz1, sz2] at hz
        obtain ⟨k, hk⟩ := kid 0 (by omega) (by rw [show (((0 : Nat) : Int)) = 0 from rfl]; omega)
        have hk := hk k (Nat.le_refl _)
        rw [show (((0 : Nat) : Int)) = 0 from rfl] at hk
        refine ⟨k + 3, ?_⟩
        rw [toj0]
        simp only [meddlerref6_Cond.j0]
        rw [if_neg (by decide), if_pos k2.1, show decide ((e.f3.length : Int) > 0) = true from decide_eq_true (by omega)]
        simp only [meddlerref6_Cond.j1]
        rw [if_pos trivial, if_pos (by omega), if_neg k2', hk]
        simp only [Option.bind_some]
        rw [if_pos (by omega)]
    have toj1 : ∀ k, meddlerref6_Cond.f (k + 2) e.f0 e.f1 e.f2 e.f3 = meddlerref6_Cond.j1 k false e.f0 e.f1 e.f2 e.f3 := by
      intro k
      rw [toj0]
      simp only [meddlerref6_Cond.j0]
      rw [if_neg (by decide)]
      by_cases h2 : e.f0 = 2
      · rw [if_pos h2, show decide ((e.f3.length : Int) > 0) = false from decide_eq_false (by omega)]
      · rw [if_neg h2]
    by_cases k3 : e.f0 = 3 ∧ 2 ≤ e.f3.length
    · have hv : condF (n + 1) e = ((((⟨#[91]⟩ : ByteArray) ++ condF n (rd_T33 e.f3 0)) ++ (⟨#[32, 38, 38, 32]⟩ : ByteArray)) ++ condF n (rd_T33 e.f3 1)) ++ (⟨#[93]⟩ : ByteArray) := by
        simp only [condF]
        rw [if_neg k1, if_neg (by omega), if_neg k2, if_pos k3, and3]
      rw [hv] at hz ⊢
      simp only [ByteArray.size_append, sz1, sz4] at hz
      obtain ⟨k, hk⟩ := kid 0 (by omega) (by rw [show (((0 : Nat) : Int)) = 0 from rfl]; omega)
      obtain ⟨k', hk'⟩ := kid 1 (by omega) (by rw [show (((1 : Nat) : Int)) = 1 from rfl]; omega)
      have hk := hk (k + k') (by omega)
      have hk' := hk' (k + k') (by omega)
      rw [show (((0 : Nat) : Int)) = 0 from rfl] at hk
      rw [show (((1 : Nat) : Int)) = 1 from rfl] at hk'
      refine ⟨(k + k') + 2 + 2, ?_⟩
      rw [toj1]
      simp only [meddlerref6_Cond.j1]
      rw [if_neg (by decide), if_pos k3.1, show decide ((e.f3.length : Int) > 1) = true from decide_eq_true (by omega)]
      simp only [meddlerref6_Cond.j2]
      rw [if_pos trivial, if_pos (by omega), hk]
      simp only [Option.bind_some]
      rw [if_pos (by omega), if_pos (by simp only [ByteArray.size_append, sz1, sz4]; omega), if_pos (by omega), hk']
      simp only [Option.bind_some]
      rw [if_pos (by simp only [ByteArray.size_append, sz1, sz4]; omega), if_pos (by simp only [ByteArray.size_append, sz1, sz4]; omega)]
    have toj2 : ∀ k, meddlerref6_Cond.f (k + 3) e.f0 e.f1 e.f2 e.f3 = meddlerref6_Cond.j2 k false e.f0 e.f1 e.f2 e.f3 := by
      intro k
      rw [show k + 3 = (k + 1) + 2 from rfl, toj1]
      simp only [meddlerref6_Cond.j1]
      rw [if_neg (by decide)]
      by_cases h3 : e.f0 = 3
      · rw [if_pos h3, show decide ((e.f3.length : Int) > 1) = false from decide_eq_false (by omega)]
      · rw [if_neg h3]
    by_cases k4 : e.f0 = 4 ∧ 2 ≤ e.f3.length
    · have hv : condF (n + 1) e = ((((⟨#[91]⟩ : ByteArray) ++ condF n (rd_T33 e.f3 0)) ++ (⟨#[32, 124, 124, 32]⟩ : ByteArray)) ++ condF n (rd_T33 e.f3 1)) ++ (⟨#[93]⟩ : ByteArray) := by
        simp only [condF]
        rw [if_neg k1, if_neg (by omega), if_neg k2, if_neg k3, if_pos k4, or3]
      rw [hv] at hz ⊢
      simp only [ByteArray.size_append, sz1, sz4] at hz
      obtain ⟨k, hk⟩ := kid 0 (by omega) (by rw [show (((0 : Nat) : Int)) = 0 from rfl]; omega)
      obtain ⟨k', hk'⟩ := kid 1 (by omega) (by rw [show (((1 : Nat) : Int)) = 1 from rfl]; omega)
      have hk := hk (k + k') (by omega)
      have hk' := hk' (k + k') (by omega)
      rw [show (((0 : Nat) : Int)) = 0 from rfl] at hk
      rw [show (((1 : Nat) : Int)) = 1 from rfl] at hk'
      refine ⟨(k + k') + 2 + 3, ?_⟩
      rw [toj2]
      simp only [meddlerref6_Cond.j2]
      rw [if_neg (by decide), if_pos k4.1, show decide ((e.f3.length : Int) > 1) = true from decide_eq_true (by omega)]
      simp only [meddlerref6_Cond.j3]
      rw [if_pos trivial, if_pos (by omega), hk]
      simp only [Option.bind_some]
      rw [if_pos (by omega), if_pos (by simp only [ByteArray.size_append, sz1, sz4]; omega), if_pos (by omega), hk']
      simp only [Option.bind_some]
      rw [if_pos (by simp only [ByteArray.size_append, sz1, sz4]; omega), if_pos (by simp only [ByteArray.size_append, sz1, sz4]; omega)]
    · have hv : condF (n + 1) e = (⟨#[63]⟩ : ByteArray) := by
        simp only [condF]
        rw [if_neg k1, if_neg (by omega), if_neg k2, if_neg k3, if_neg k4]
      rw [hv]
      refine ⟨2 + 3, ?_⟩
      rw [toj2]
      simp only [meddlerref6_Cond.j2]
      rw [if_neg (by decide)]
      by_cases h4 : e.f0 = 4
      · rw [if_pos h4, show decide ((e.f3.length : Int) > 1) = false from decide_eq_false (by omega)]
        simp only [meddlerref6_Cond.j3]
        rw [if_neg (by decide)]
      · rw [if_neg h4]
        simp only [meddlerref6_Cond.j3]
        rw [if_neg (by decide)]
theorem rcond_calls (e : S33) (A2 A3 : Option Addr) (c2 c3 : Nat) (w : World) (h2 : k30.C w A2 e.f2.length e.f2) (l2 : e.f2.length ≤ c2) (h3 : k33.C w A3 e.f3.length e.f3) (l3 : e.f3.length ≤ c3) (ok : okCs e) (hz : (condS e).size ≤ 4611686018427387904) :
    Calls Tryd.prog 16 #[.agg #[.int .i64 e.f0, .int .i64 e.f1, .slice A2 e.f2.length c2, .slice A3 e.f3.length c3]] w fun r w' => r = .returned (.string (condS e)) ∧ Below w.heap.size w w' := by
  obtain ⟨k, hk⟩ := rcond_f (SizeOf.sizeOf e) e (Nat.le_refl _) ok hz
  exact meddlerref6_Cond.calls k e.f0 e.f1 A2 c2 e.f2 A3 c3 e.f3 _ w h2 l2 h3 l3 (hk k (Nat.le_refl _))
end Go.Proofs.YtfeaekdhpkdljaaDoor.Sh
