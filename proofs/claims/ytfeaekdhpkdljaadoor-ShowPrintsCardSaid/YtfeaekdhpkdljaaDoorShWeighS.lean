/- meddlerlaw6.weighStmts: a positive answer bounds what was weighed. -/
import Derived.Test.YtfeaekdhpkdljaaDoorShWeigh
namespace Go.Proofs.YtfeaekdhpkdljaaDoor.Sh
open Go.RowKit Go.Proofs.YtfeaekdhpkdljaaDoorW.PrintWords Go.Proofs.YtfeaekdhpkdljaaDoorW.PrintLast
set_option linter.unusedVariables false
set_option linter.unusedSimpArgs false
theorem add_off (b o k j : Nat) : (⟨b, o + k, none⟩ : Addr).add j = ⟨b, o + (k + j), none⟩ := by
  unfold Addr.add
  by_cases hj : j = 0
  · subst hj; simp
  · simp [hj, Nat.add_assoc]
theorem pos54 (s : S54) : 0 < SizeOf.sizeOf s := by
  obtain ⟨a, b, c, d, e, f, g⟩ := s
  simp only [S54.mk.sizeOf_spec]
  omega
abbrev IH22 (n : Nat) : Prop := ∀ (xs : List S54) (A : Option Addr) (c : Nat) (left : Int) (w : World), k54.C w A xs.length xs → (∀ x ∈ xs, SizeOf.sizeOf x ≤ n) → (∀ x ∈ xs, wfS n x) → xs.length ≤ 140737488355328 → -1152921504606846976 ≤ left - 1000000000000000 → left ≤ 1500 → Calls Tryd.prog 22 #[.slice A xs.length c, .int .i64 left] w fun q w' => ∃ r, q = .returned (.int .i64 r) ∧ WT left (xs.length + (xs.map (wS n)).sum) r ∧ Below w.heap.size w w'
set_option maxHeartbeats 8000000 in
set_option maxRecDepth 100000 in
theorem weighStmts_step (n : Nat) (ih : ∀ m, n = m + 1 → IH22 m) : IH22 n := by
  intro xs A c left w hC hs hw hln h0 h1
  have HC := Aside0.mk hC
  have HIH := Aside0.mk ih
  have HS := Aside0.mk hs
  have HW := Aside0.mk hw
  have HB := Aside0.mk (Below.refl w.heap.size w)
  clear hC ih hs hw
  go_enter Tryd.func22, Tryd.ntmps22
  have hwl : wrap64 (left - (xs.length : Int)) = left - (xs.length : Int) := wrap_in (by omega)
  go_wp2_with fail
  go_loopg [1, 5] xs.length (fun gg s1 s5 wr => ∃ (i : Nat) (x : Int), i ≤ xs.length ∧ xs.length - i ≤ gg ∧ s5 = .int .i64 i ∧ s1 = .int .i64 x ∧ x ≤ left - (xs.length : Int) ∧ (left ≤ 0 → left - 140737488355328 ≤ x) ∧ (0 < left → -2251799813685248 - left * 140737488355328 ≤ x) ∧ (0 < x → ((xs.length + ((xs.take i).map (wS n)).sum : Nat) : Int) ≤ left - x) ∧ Aside0 (Below w.heap.size w wr))
  case atStart => exact ⟨0, _, Nat.zero_le _, by omega, rfl, rfl, by omega, by omega, by omega, by intro _; simp; omega, HB⟩
  case round =>
    obtain ⟨i, x, hi, hgg, rfl, rfl, hx1, hx2, hx3, hx4, HL⟩ := hrel
    generalize wr = wo at *
    clear hwl
    have done : (i = xs.length ∨ x ≤ 0) → WT left (xs.length + (xs.map (wS n)).sum) x := by
      intro hd
      refine ⟨by omega, hx2, hx3, fun hp => ?_⟩
      have he : xs.take i = xs := List.take_of_length_le (by omega)
      rw [he] at hx4
      exact hx4 hp
    have HD := Aside0.mk done
    clear done
    by_cases hlt : i < xs.length
    · have hltz : (i : Int) < (xs.length : Int) := by omega
      by_cases hpx : 0 < x
      · obtain ⟨ad, cc, rfl, _, hK, hc0⟩ := Kd.C_get HC.out z54 (i : Int) (by omega) hltz
        have hx : xs.getD (i : Int).toNat z54 = xs[i] := by simp [hlt]
        rw [hx] at hK
        have hc1 : ∀ j v, cc[j]? = some v → wo.cell? ((ad.add (i * 18)).add j) = some v := fun j v hj => by
          have h := hc0 j v hj
          rw [Int.toNat_natCast] at h
          rw [add_add_]
          exact pw_cell_below HL.out h
        have hm := List.getElem_mem hlt
        have hsm := sum_take (wS n) xs i hlt
        have hst := HS.out _ hm
        have hwk := HW.out _ hm
        obtain ⟨m, rfl⟩ : ∃ m, n = m + 1 := ⟨n - 1, by have := pos54 xs[i]; omega⟩
        obtain ⟨y, hy⟩ : ∃ y, xs[i] = y := ⟨_, rfl⟩
        rw [hy] at hK hst hwk hsm
        obtain ⟨A6, c6, A11, c11, A14, c14, A15, c15, A16, c16, A17, c17, rfl, l6, g6, l11, g11, l14, g14, l15, g15, l16, g16, l17, g17⟩ := k54_open hK
        have hz1 : y.f1.size ≤ 140737488355328 := hwk.1
        have hsum : wS (m + 1) y = y.f1.size + wES y.f3 + wES y.f2 + wCS y.f4 + (y.f5.length + (y.f5.map (wS m)).sum) + (y.f6.length + (y.f6.map (wS m)).sum) := rfl
        rw [hsum] at hsm
        have HSM := Aside0.mk hsm
        have HI : Aside0 (∀ W : World, Below w.heap.size w W → Calls Tryd.prog 9 #[.agg #[.int .i64 y.f2.f0, .int .i64 y.f2.f1, .int .i64 y.f2.f2, .string y.f2.f3, .slice A6 y.f2.f4.length c6], .int .i64 (wrap64 (x - (y.f1.size : Int)))] W fun q w' => ∃ r, q = .returned (.int .i64 r) ∧ WR (x - (y.f1.size : Int)) (wES y.f2) r ∧ Below W.heap.size W w') := ⟨fun W hb => by rw [show wrap64 (x - (y.f1.size : Int)) = x - (y.f1.size : Int) from wrap_in (by omega)]; exact weigh_calls _ y.f2 A6 c6 _ W (Kd.C_below g6 hb) l6 (Nat.le_refl _) hwk.2.1 (by omega) (by omega)⟩
        have HE : Aside0 (∀ (k : Int) (W : World), Below w.heap.size w W → -1152921504606846976 ≤ k - 1000000000000000 → k ≤ 1500 → Calls Tryd.prog 9 #[.agg #[.int .i64 y.f3.f0, .int .i64 y.f3.f1, .int .i64 y.f3.f2, .string y.f3.f3, .slice A11 y.f3.f4.length c11], .int .i64 k] W fun q w' => ∃ r, q = .returned (.int .i64 r) ∧ WR k (wES y.f3) r ∧ Below W.heap.size W w') := ⟨fun k W hb k0 k1 => weigh_calls _ y.f3 A11 c11 k W (Kd.C_below g11 hb) l11 (Nat.le_refl _) hwk.2.2.1 k0 k1⟩
        have HCO : Aside0 (∀ (k : Int) (W : World), Below w.heap.size w W → -1152921504606846976 ≤ k - 1000000000000000 → k ≤ 1500 → Calls Tryd.prog 10 #[.agg #[.int .i64 y.f4.f0, .int .i64 y.f4.f1, .slice A14 y.f4.f2.length c14, .slice A15 y.f4.f3.length c15], .int .i64 k] W fun q w' => ∃ r, q = .returned (.int .i64 r) ∧ WR k (wCS y.f4) r ∧ Below W.heap.size W w') := ⟨fun k W hb k0 k1 => weighCond_calls _ y.f4 A14 A15 c14 c15 k W (Kd.C_below g14 hb) l14 (Kd.C_below g15 hb) l15 (Nat.le_refl _) hwk.2.2.2.1 k0 k1⟩
        have HB5 : Aside0 (∀ (k : Int) (W : World), Below w.heap.size w W → -1152921504606846976 ≤ k - 1000000000000000 → k ≤ 1500 → Calls Tryd.prog 22 #[.slice A16 y.f5.length c16, .int .i64 k] W fun q w' => ∃ r, q = .returned (.int .i64 r) ∧ WT k (y.f5.length + (y.f5.map (wS m)).sum) r ∧ Below W.heap.size W w') := ⟨fun k W hb k0 k1 => HIH.out m rfl y.f5 A16 c16 k W (Kd.C_below g16 hb) (fun z hz => Nat.le_of_lt_succ (Nat.lt_of_lt_of_le (body_size y hz) hst)) hwk.2.2.2.2.1.2 hwk.2.2.2.2.1.1 k0 k1⟩
        have HB6 : Aside0 (∀ (k : Int) (W : World), Below w.heap.size w W → -1152921504606846976 ≤ k - 1000000000000000 → k ≤ 1500 → Calls Tryd.prog 22 #[.slice A17 y.f6.length c17, .int .i64 k] W fun q w' => ∃ r, q = .returned (.int .i64 r) ∧ WT k (y.f6.length + (y.f6.map (wS m)).sum) r ∧ Below W.heap.size W w') := ⟨fun k W hb k0 k1 => HIH.out m rfl y.f6 A17 c17 k W (Kd.C_below g17 hb) (fun z hz => Nat.le_of_lt_succ (Nat.lt_of_lt_of_le (else_size y hz) hst)) hwk.2.2.2.2.2.2 hwk.2.2.2.2.2.1 k0 k1⟩
        have HCC := Aside0.mk hc1
        have hat : ∀ j v, 0 < j → ([.int .i64 y.f0, .string y.f1, .int .i64 y.f2.f0, .int .i64 y.f2.f1, .int .i64 y.f2.f2, .string y.f2.f3, .slice A6 y.f2.f4.length c6, .int .i64 y.f3.f0, .int .i64 y.f3.f1, .int .i64 y.f3.f2, .string y.f3.f3, .slice A11 y.f3.f4.length c11, .int .i64 y.f4.f0, .int .i64 y.f4.f1, .slice A14 y.f4.f2.length c14, .slice A15 y.f4.f3.length c15, .slice A16 y.f5.length c16, .slice A17 y.f6.length c17] : List Value)[j]? = some v → wo.cell? ⟨(ad.add (i * 18)).block, (ad.add (i * 18)).off + j, none⟩ = some v := fun j v hj h => by
          have h2 := hc1 j v h
          rw [add_add_, add_field _ _ j hj] at h2
          exact h2
        have HAT := Aside0.mk hat
        have p1 : wo.cell? ⟨(ad.add (i * 18)).block, (ad.add (i * 18)).off + 1, none⟩ = some (.string y.f1) := hat 1 _ (by decide) rfl
        have p20 : wo.cell? ⟨(ad.add (i * 18)).block, (ad.add (i * 18)).off + 2, none⟩ = some (.int .i64 y.f2.f0) := hat 2 _ (by decide) rfl
        have p21 : wo.cell? ⟨(ad.add (i * 18)).block, (ad.add (i * 18)).off + 2 + 1, none⟩ = some (.int .i64 y.f2.f1) := hat 3 _ (by decide) rfl
        have p22 : wo.cell? ⟨(ad.add (i * 18)).block, (ad.add (i * 18)).off + 2 + 2, none⟩ = some (.int .i64 y.f2.f2) := hat 4 _ (by decide) rfl
        have p23 : wo.cell? ⟨(ad.add (i * 18)).block, (ad.add (i * 18)).off + 2 + 3, none⟩ = some (.string y.f2.f3) := hat 5 _ (by decide) rfl
        have p24 : wo.cell? ⟨(ad.add (i * 18)).block, (ad.add (i * 18)).off + 2 + 4, none⟩ = some (.slice A6 y.f2.f4.length c6) := hat 6 _ (by decide) rfl
        have p70 : wo.cell? ⟨(ad.add (i * 18)).block, (ad.add (i * 18)).off + 7, none⟩ = some (.int .i64 y.f3.f0) := hat 7 _ (by decide) rfl
        have p71 : wo.cell? ⟨(ad.add (i * 18)).block, (ad.add (i * 18)).off + 7 + 1, none⟩ = some (.int .i64 y.f3.f1) := hat 8 _ (by decide) rfl
        have p72 : wo.cell? ⟨(ad.add (i * 18)).block, (ad.add (i * 18)).off + 7 + 2, none⟩ = some (.int .i64 y.f3.f2) := hat 9 _ (by decide) rfl
        have p73 : wo.cell? ⟨(ad.add (i * 18)).block, (ad.add (i * 18)).off + 7 + 3, none⟩ = some (.string y.f3.f3) := hat 10 _ (by decide) rfl
        have p74 : wo.cell? ⟨(ad.add (i * 18)).block, (ad.add (i * 18)).off + 7 + 4, none⟩ = some (.slice A11 y.f3.f4.length c11) := hat 11 _ (by decide) rfl
        clear hat hc0 hc1 hK hx hm l6 g6 l11 g11 l14 g14 l15 g15 l16 g16 l17 g17 hwk hsm hst hy hsum hlt
        go_upto_region 5 with fail
        refine start_ (n := 21) (S := fun w' => w'.cell? ⟨(ad.add (i * 18)).block, (ad.add (i * 18)).off + 1, none⟩ = some (.string y.f1) ∧ w'.cell? ⟨(ad.add (i * 18)).block, (ad.add (i * 18)).off + 2, none⟩ = some (.int .i64 y.f2.f0) ∧ w'.cell? ⟨(ad.add (i * 18)).block, (ad.add (i * 18)).off + 2 + 1, none⟩ = some (.int .i64 y.f2.f1) ∧ w'.cell? ⟨(ad.add (i * 18)).block, (ad.add (i * 18)).off + 2 + 2, none⟩ = some (.int .i64 y.f2.f2) ∧ w'.cell? ⟨(ad.add (i * 18)).block, (ad.add (i * 18)).off + 2 + 3, none⟩ = some (.string y.f2.f3) ∧ w'.cell? ⟨(ad.add (i * 18)).block, (ad.add (i * 18)).off + 2 + 4, none⟩ = some (.slice A6 y.f2.f4.length c6) ∧ w'.cell? ⟨(ad.add (i * 18)).block, (ad.add (i * 18)).off + 7, none⟩ = some (.int .i64 y.f3.f0) ∧ w'.cell? ⟨(ad.add (i * 18)).block, (ad.add (i * 18)).off + 7 + 1, none⟩ = some (.int .i64 y.f3.f1) ∧ w'.cell? ⟨(ad.add (i * 18)).block, (ad.add (i * 18)).off + 7 + 2, none⟩ = some (.int .i64 y.f3.f2) ∧ w'.cell? ⟨(ad.add (i * 18)).block, (ad.add (i * 18)).off + 7 + 3, none⟩ = some (.string y.f3.f3) ∧ w'.cell? ⟨(ad.add (i * 18)).block, (ad.add (i * 18)).off + 7 + 4, none⟩ = some (.slice A11 y.f3.f4.length c11) ∧ Aside0 (Below w.heap.size w w' ∧ Below wo.heap.size wo w')) (ds := []) #[false, false, false, false, false, false, false, false, false, false, false, false, false, false, false, false, false, false, false, false, false] (by kernel_rfl) rfl rfl ⟨p1, p20, p21, p22, p23, p24, p70, p71, p72, p73, p74, ⟨below_drew HL.out, below_drew (Below.refl _ _)⟩⟩ (fun hHeld => ?_)
        refine pure_ (i := 0) (N := some 20) (v := ?_) (a' := ?_) #[true, false, false, false, false, false, false, false, false, false, false, false, false, false, false, false, false, false, false, false, false] rfl rfl (by kernel_rfl) (fun _ _ _ h => h) (Or.inl ⟨by rfl, ?_⟩) ?_ ?_
        rotate_left
        · intro w'
          go_simp
          with_reducible rfl
        rotate_left
        · simp only [Act.put, List.setIfInBounds_toArray, List.set_cons_zero, List.set_cons_succ, i64_w, i32_w]
          rfl
        refine pure_ (i := 1) (N := some 21) (v := ?_) (a' := ?_) #[true, true, false, false, false, false, false, false, false, false, false, false, false, false, false, false, false, false, false, false, false] rfl rfl (by kernel_rfl) (fun _ _ _ h => h) (Or.inl ⟨by rfl, ?_⟩) ?_ ?_
        rotate_left
        · intro w'
          go_simp
          with_reducible rfl
        rotate_left
        · simp only [Act.put, List.setIfInBounds_toArray, List.set_cons_zero, List.set_cons_succ, i64_w, i32_w]
          rfl
        refine pure_ (i := 2) (N := some 22) (v := ?_) (a' := ?_) #[true, true, true, false, false, false, false, false, false, false, false, false, false, false, false, false, false, false, false, false, false] rfl rfl (by kernel_rfl) (fun _ _ _ h => h) (Or.inl ⟨by rfl, ?_⟩) ?_ ?_
        rotate_left
        · intro w'
          go_simp
          with_reducible rfl
        rotate_left
        · simp only [Act.put, List.setIfInBounds_toArray, List.set_cons_zero, List.set_cons_succ, i64_w, i32_w]
          rfl
        refine pure_ (i := 3) (N := some 23) (v := ?_) (a' := ?_) #[true, true, true, true, false, false, false, false, false, false, false, false, false, false, false, false, false, false, false, false, false] rfl rfl (by kernel_rfl) (fun _ _ _ h => h) (Or.inl ⟨by rfl, ?_⟩) ?_ ?_
        rotate_left
        · intro w'
          go_simp
          with_reducible rfl
        rotate_left
        · simp only [Act.put, List.setIfInBounds_toArray, List.set_cons_zero, List.set_cons_succ, i64_w, i32_w]
          rfl
        refine pure_ (i := 5) (N := some 25) (v := ?_) (a' := ?_) #[true, true, true, true, false, true, false, false, false, false, false, false, false, false, false, false, false, false, false, false, false] rfl rfl (by kernel_rfl) (fun _ _ _ h => h) (Or.inl ⟨by rfl, ?_⟩) ?_ ?_
        rotate_left
        · intro w'
          go_simp
          with_reducible rfl
        rotate_left
        · simp only [Act.put, List.setIfInBounds_toArray, List.set_cons_zero, List.set_cons_succ, i64_w, i32_w]
          rfl
        refine pure_ (i := 6) (N := some 26) (v := ?_) (a' := ?_) #[true, true, true, true, false, true, true, false, false, false, false, false, false, false, false, false, false, false, false, false, false] rfl rfl (by kernel_rfl) (fun _ _ _ h => h) (Or.inl ⟨by rfl, ?_⟩) ?_ ?_
        rotate_left
        · intro w'
          go_simp
          with_reducible rfl
        rotate_left
        · simp only [Act.put, List.setIfInBounds_toArray, List.set_cons_zero, List.set_cons_succ, i64_w, i32_w]
          rfl
        refine pure_ (i := 7) (N := some 27) (v := ?_) (a' := ?_) #[true, true, true, true, false, true, true, true, false, false, false, false, false, false, false, false, false, false, false, false, false] rfl rfl (by kernel_rfl) (fun _ _ _ h => h) (Or.inl ⟨by rfl, ?_⟩) ?_ ?_
        rotate_left
        · intro w'
          go_simp
          with_reducible rfl
        rotate_left
        · simp only [Act.put, List.setIfInBounds_toArray, List.set_cons_zero, List.set_cons_succ, i64_w, i32_w]
          rfl
        refine pure_ (i := 8) (N := some 28) (v := ?_) (a' := ?_) #[true, true, true, true, false, true, true, true, true, false, false, false, false, false, false, false, false, false, false, false, false] rfl rfl (by kernel_rfl) (fun _ _ _ h => h) (Or.inl ⟨by rfl, ?_⟩) ?_ ?_
        rotate_left
        · intro w'
          go_simp
          with_reducible rfl
        rotate_left
        · simp only [Act.put, List.setIfInBounds_toArray, List.set_cons_zero, List.set_cons_succ, i64_w, i32_w]
          rfl
        refine pure_ (i := 10) (N := some 30) (v := ?_) (a' := ?_) #[true, true, true, true, false, true, true, true, true, false, true, false, false, false, false, false, false, false, false, false, false] rfl rfl (by kernel_rfl) (fun _ _ _ h => h) (Or.inl ⟨by rfl, ?_⟩) ?_ ?_
        rotate_left
        · intro w'
          go_simp
          with_reducible rfl
        rotate_left
        · simp only [Act.put, List.setIfInBounds_toArray, List.set_cons_zero, List.set_cons_succ, i64_w, i32_w]
          rfl
        refine pure_ (i := 11) (N := some 31) (v := ?_) (a' := ?_) #[true, true, true, true, false, true, true, true, true, false, true, true, false, false, false, false, false, false, false, false, false] rfl rfl (by kernel_rfl) (fun _ _ _ h => h) (Or.inl ⟨by rfl, ?_⟩) ?_ ?_
        rotate_left
        · intro w'
          go_simp
          with_reducible rfl
        rotate_left
        · simp only [Act.put, List.setIfInBounds_toArray, List.set_cons_zero, List.set_cons_succ, i64_w, i32_w]
          rfl
        refine pure_ (i := 12) (N := some 32) (v := ?_) (a' := ?_) #[true, true, true, true, false, true, true, true, true, false, true, true, true, false, false, false, false, false, false, false, false] rfl rfl (by kernel_rfl) (fun _ _ _ h => h) (Or.inl ⟨by rfl, ?_⟩) ?_ ?_
        rotate_left
        · intro w'
          go_simp
          with_reducible rfl
        rotate_left
        · simp only [Act.put, List.setIfInBounds_toArray, List.set_cons_zero, List.set_cons_succ, i64_w, i32_w]
          rfl
        refine pure_ (i := 13) (N := some 33) (v := ?_) (a' := ?_) #[true, true, true, true, false, true, true, true, true, false, true, true, true, true, false, false, false, false, false, false, false] rfl rfl (by kernel_rfl) (fun _ _ _ h => h) (Or.inl ⟨by rfl, ?_⟩) ?_ ?_
        rotate_left
        · intro w'
          go_simp
          with_reducible rfl
        rotate_left
        · simp only [Act.put, List.setIfInBounds_toArray, List.set_cons_zero, List.set_cons_succ, i64_w, i32_w]
          rfl
        refine pure_ (i := 14) (N := some 34) (v := ?_) (a' := ?_) #[true, true, true, true, false, true, true, true, true, false, true, true, true, true, true, false, false, false, false, false, false] rfl rfl (by kernel_rfl) (fun _ _ _ h => h) (Or.inl ⟨by rfl, ?_⟩) ?_ ?_
        rotate_left
        · intro w'
          go_simp
          with_reducible rfl
        rotate_left
        · simp only [Act.put, List.setIfInBounds_toArray, List.set_cons_zero, List.set_cons_succ, i64_w, i32_w]
          rfl
        refine take_ (i := 4) (N := some 24) (v := ?_) (a' := ?_) #[true, true, true, true, true, true, true, true, true, false, true, true, true, true, true, false, false, false, false, false, false] rfl rfl (by kernel_rfl) (fun _ _ _ h => h) (Or.inl ⟨by rfl, ?_⟩) hHeld ?_ ?_
        rotate_left
        · rintro w' ⟨s0, s1, s2, s3, s4, s5, s6, s7, s8, s9, s10, s11⟩
          go_simp
          with_reducible rfl
        rotate_left
        · simp only [Act.put, List.setIfInBounds_toArray, List.set_cons_zero, List.set_cons_succ, i64_w, i32_w]
          rfl
        refine take_ (i := 9) (N := some 29) (v := ?_) (a' := ?_) #[true, true, true, true, true, true, true, true, true, true, true, true, true, true, true, false, false, false, false, false, false] rfl rfl (by kernel_rfl) (fun _ _ _ h => h) (Or.inl ⟨by rfl, ?_⟩) hHeld ?_ ?_
        rotate_left
        · rintro w' ⟨s0, s1, s2, s3, s4, s5, s6, s7, s8, s9, s10, s11⟩
          go_simp
          with_reducible rfl
        rotate_left
        · simp only [Act.put, List.setIfInBounds_toArray, List.set_cons_zero, List.set_cons_succ, i64_w, i32_w]
          rfl
        refine take_ (i := 15) (N := some 35) (v := ?_) (a' := ?_) #[true, true, true, true, true, true, true, true, true, true, true, true, true, true, true, true, false, false, false, false, false] rfl rfl (by kernel_rfl) (fun _ _ _ h => h) (Or.inl ⟨by rfl, ?_⟩) hHeld ?_ ?_
        rotate_left
        · rintro w' ⟨s0, s1, s2, s3, s4, s5, s6, s7, s8, s9, s10, s11⟩
          go_simp
          with_reducible rfl
        rotate_left
        · simp only [Act.put, List.setIfInBounds_toArray, List.set_cons_zero, List.set_cons_succ, i64_w, i32_w]
          rfl
        refine pure_ (i := 16) (N := some 36) (v := ?_) (a' := ?_) #[true, true, true, true, true, true, true, true, true, true, true, true, true, true, true, true, true, false, false, false, false] rfl rfl (by kernel_rfl) (fun _ _ _ h => h) (Or.inl ⟨by rfl, ?_⟩) ?_ ?_
        rotate_left
        · intro w'
          go_simp
          with_reducible rfl
        rotate_left
        · simp only [Act.put, List.setIfInBounds_toArray, List.set_cons_zero, List.set_cons_succ, i64_w, i32_w]
          rfl
        refine pure_ (i := 17) (N := some 37) (v := ?_) (a' := ?_) #[true, true, true, true, true, true, true, true, true, true, true, true, true, true, true, true, true, true, false, false, false] rfl rfl (by kernel_rfl) (fun _ _ _ h => h) (Or.inl ⟨by rfl, ?_⟩) ?_ ?_
        rotate_left
        · intro w'
          go_simp
          with_reducible rfl
        rotate_left
        · simp only [Act.put, List.setIfInBounds_toArray, List.set_cons_zero, List.set_cons_succ, i64_w, i32_w]
          rfl
        refine one_ (i := 18) (N := some 38) #[true, true, true, true, true, true, true, true, true, true, true, true, true, true, true, true, true, true, true, false, false] rfl rfl (by kernel_rfl) (by decide) (fun K hK => ?_)
        refine goes_ Tryd.func9 (by kernel_rfl) rfl #[.agg #[.int .i64 y.f2.f0, .int .i64 y.f2.f1, .int .i64 y.f2.f2, .string y.f2.f3, .slice A6 y.f2.f4.length c6], .int .i64 (wrap64 (x - (y.f1.size : Int)))] (by rfl) rfl rfl (by simp only [List.map_toArray, List.map_cons, List.map_nil, Act.eval]; rfl) ?_
        refine (HI.out _ hHeld.2.2.2.2.2.2.2.2.2.2.2.out.1).mono ?_
        rintro q w3 ⟨r1, rfl, ⟨a1, a2, a3, a4⟩, hb⟩
        refine ⟨_, rfl, ?_⟩
        refine hK.out _ _ ⟨pw_cell_below hb hHeld.1, pw_cell_below hb hHeld.2.1, pw_cell_below hb hHeld.2.2.1, pw_cell_below hb hHeld.2.2.2.1, pw_cell_below hb hHeld.2.2.2.2.1, pw_cell_below hb hHeld.2.2.2.2.2.1, pw_cell_below hb hHeld.2.2.2.2.2.2.1, pw_cell_below hb hHeld.2.2.2.2.2.2.2.1, pw_cell_below hb hHeld.2.2.2.2.2.2.2.2.1, pw_cell_below hb hHeld.2.2.2.2.2.2.2.2.2.1, pw_cell_below hb hHeld.2.2.2.2.2.2.2.2.2.2.1, ⟨below_then hHeld.2.2.2.2.2.2.2.2.2.2.2.out.1 hHeld.2.2.2.2.2.2.2.2.2.2.2.out.1.size hb, below_then hHeld.2.2.2.2.2.2.2.2.2.2.2.out.2 hHeld.2.2.2.2.2.2.2.2.2.2.2.out.2.size hb⟩⟩ (fun hHeld => ?_)
        clear hK K
        refine norm_ (a' := ?_) ?_ ?_
        rotate_left
        · show Act.put _ (some 38) _ = _
          simp only [Act.put, List.setIfInBounds_toArray, List.set_cons_zero, List.set_cons_succ, i64_w, i32_w]
          rfl
        refine one_ (i := 19) (N := some 39) #[true, true, true, true, true, true, true, true, true, true, true, true, true, true, true, true, true, true, true, true, false] rfl rfl (by kernel_rfl) (by decide) (fun K hK => ?_)
        refine goes_ Tryd.func9 (by kernel_rfl) rfl #[.agg #[.int .i64 y.f3.f0, .int .i64 y.f3.f1, .int .i64 y.f3.f2, .string y.f3.f3, .slice A11 y.f3.f4.length c11], .int .i64 r1] (by rfl) rfl rfl (by simp only [List.map_toArray, List.map_cons, List.map_nil, Act.eval]; rfl) ?_
        refine (HE.out r1 _ hHeld.2.2.2.2.2.2.2.2.2.2.2.out.1 (by omega) (by omega)).mono ?_
        rintro q w4 ⟨r2, rfl, ⟨b1, b2, b3, b4⟩, hb⟩
        refine ⟨_, rfl, ?_⟩
        refine hK.out _ _ ⟨pw_cell_below hb hHeld.1, pw_cell_below hb hHeld.2.1, pw_cell_below hb hHeld.2.2.1, pw_cell_below hb hHeld.2.2.2.1, pw_cell_below hb hHeld.2.2.2.2.1, pw_cell_below hb hHeld.2.2.2.2.2.1, pw_cell_below hb hHeld.2.2.2.2.2.2.1, pw_cell_below hb hHeld.2.2.2.2.2.2.2.1, pw_cell_below hb hHeld.2.2.2.2.2.2.2.2.1, pw_cell_below hb hHeld.2.2.2.2.2.2.2.2.2.1, pw_cell_below hb hHeld.2.2.2.2.2.2.2.2.2.2.1, ⟨below_then hHeld.2.2.2.2.2.2.2.2.2.2.2.out.1 hHeld.2.2.2.2.2.2.2.2.2.2.2.out.1.size hb, below_then hHeld.2.2.2.2.2.2.2.2.2.2.2.out.2 hHeld.2.2.2.2.2.2.2.2.2.2.2.out.2.size hb⟩⟩ (fun hHeld => ?_)
        clear hK K
        refine norm_ (a' := ?_) ?_ ?_
        rotate_left
        · show Act.put _ (some 39) _ = _
          simp only [Act.put, List.setIfInBounds_toArray, List.set_cons_zero, List.set_cons_succ, i64_w, i32_w]
          rfl
        refine pure_ (i := 20) (N := some 1) (v := ?_) (a' := ?_) #[true, true, true, true, true, true, true, true, true, true, true, true, true, true, true, true, true, true, true, true, true] rfl rfl (by kernel_rfl) (fun _ _ _ h => h) (Or.inl ⟨by rfl, ?_⟩) ?_ ?_
        rotate_left
        · intro w'
          go_simp
          with_reducible rfl
        rotate_left
        · simp only [Act.put, List.setIfInBounds_toArray, List.set_cons_zero, List.set_cons_succ, i64_w, i32_w]
          rfl
        refine done_ (by kernel_rfl) ?_
        have HW4 := Aside0.mk hHeld.2.2.2.2.2.2.2.2.2.2.2.out.1
        have HX4 := Aside0.mk hHeld.2.2.2.2.2.2.2.2.2.2.2.out.2
        clear hHeld
        have HC4 : Aside0 (∀ j v, ([.int .i64 y.f4.f0, .int .i64 y.f4.f1, .slice A14 y.f4.f2.length c14, .slice A15 y.f4.f3.length c15] : List Value)[j]? = some v → w4.cell? ((⟨(ad.add (i * 18)).block, (ad.add (i * 18)).off + 12, none⟩ : Addr).add j) = some v) := ⟨fun j v hj => by
          have hj4 : j < 4 := (List.getElem?_eq_some_iff.1 hj).1
          have h2 := HAT.out (12 + j) v (by omega) (by rw [← hj]; rcases (by omega : j = 0 ∨ j = 1 ∨ j = 2 ∨ j = 3) with h | h | h | h <;> subst h <;> rfl)
          have h3 := pw_cell_below HX4.out h2
          rw [add_off]; exact h3⟩
        go_wp2_with (first | ((with_reducible refine gate_dst (N := 44) rfl ?_); (try (refine gate_guard (by rfl) ?_; dsimp only)); refine load_any ?hg 33 (.tmp 43) ?ho ⟨(ad.add (i * 18)).block, (ad.add (i * 18)).off + 12, none⟩ ?hx [.int .i64 y.f4.f0, .int .i64 y.f4.f1, .slice A14 y.f4.f2.length c14, .slice A15 y.f4.f3.length c15] _ Tryd.underlying33 ?hd ?hi HC4.out ?_; (case hg => rfl); (case ho => rfl); (case hx => rfl); (case hd => rfl); (case hi => kernel_rfl)))
        refine (HCO.out r2 w4 HW4.out (by omega) (by omega)).mono ?_
        rintro q w5 ⟨r3, rfl, ⟨c1, c2, c3, c4⟩, hb⟩
        have HW5 := Aside0.mk (below_then HW4.out HW4.out.size hb)
        have HX5 := Aside0.mk (below_then HX4.out HX4.out.size hb)
        have u16 := pw_cell_below HX5.out (HAT.out 16 _ (by decide) rfl)
        have u17 := pw_cell_below HX5.out (HAT.out 17 _ (by decide) rfl)
        clear hb
        go_upto_region 7 with fail
        refine start_ (n := 14) (S := fun w' => w'.cell? ⟨(ad.add (i * 18)).block, (ad.add (i * 18)).off + 17, none⟩ = some (.slice A17 y.f6.length c17) ∧ w'.cell? ⟨(ad.add (i * 18)).block, (ad.add (i * 18)).off + 16, none⟩ = some (.slice A16 y.f5.length c16) ∧ Aside0 (Below w.heap.size w w' ∧ Below wo.heap.size wo w')) (ds := []) #[false, false, false, false, false, false, false, false, false, false, false, false, false, false] (by kernel_rfl) rfl rfl ⟨u17, u16, ⟨below_drew HW5.out, below_drew HX5.out⟩⟩ (fun hHeld => ?_)
        refine pure_ (i := 0) (N := some 47) (v := ?_) (a' := ?_) #[true, false, false, false, false, false, false, false, false, false, false, false, false, false] rfl rfl (by kernel_rfl) (fun _ _ _ h => h) (Or.inl ⟨by rfl, ?_⟩) ?_ ?_
        rotate_left
        · intro w'
          go_simp
          with_reducible rfl
        rotate_left
        · simp only [Act.put, List.setIfInBounds_toArray, List.set_cons_zero, List.set_cons_succ, i64_w, i32_w]
          rfl
        refine pure_ (i := 1) (N := some 48) (v := ?_) (a' := ?_) #[true, true, false, false, false, false, false, false, false, false, false, false, false, false] rfl rfl (by kernel_rfl) (fun _ _ _ h => h) (Or.inl ⟨by rfl, ?_⟩) ?_ ?_
        rotate_left
        · intro w'
          go_simp
          with_reducible rfl
        rotate_left
        · simp only [Act.put, List.setIfInBounds_toArray, List.set_cons_zero, List.set_cons_succ, i64_w, i32_w]
          rfl
        refine pure_ (i := 2) (N := some 49) (v := ?_) (a' := ?_) #[true, true, true, false, false, false, false, false, false, false, false, false, false, false] rfl rfl (by kernel_rfl) (fun _ _ _ h => h) (Or.inl ⟨by rfl, ?_⟩) ?_ ?_
        rotate_left
        · intro w'
          go_simp
          with_reducible rfl
        rotate_left
        · simp only [Act.put, List.setIfInBounds_toArray, List.set_cons_zero, List.set_cons_succ, i64_w, i32_w]
          rfl
        refine pure_ (i := 3) (N := some 50) (v := ?_) (a' := ?_) #[true, true, true, true, false, false, false, false, false, false, false, false, false, false] rfl rfl (by kernel_rfl) (fun _ _ _ h => h) (Or.inl ⟨by rfl, ?_⟩) ?_ ?_
        rotate_left
        · intro w'
          go_simp
          with_reducible rfl
        rotate_left
        · simp only [Act.put, List.setIfInBounds_toArray, List.set_cons_zero, List.set_cons_succ, i64_w, i32_w]
          rfl
        refine pure_ (i := 5) (N := some 52) (v := ?_) (a' := ?_) #[true, true, true, true, false, true, false, false, false, false, false, false, false, false] rfl rfl (by kernel_rfl) (fun _ _ _ h => h) (Or.inl ⟨by rfl, ?_⟩) ?_ ?_
        rotate_left
        · intro w'
          go_simp
          with_reducible rfl
        rotate_left
        · simp only [Act.put, List.setIfInBounds_toArray, List.set_cons_zero, List.set_cons_succ, i64_w, i32_w]
          rfl
        refine pure_ (i := 6) (N := some 53) (v := ?_) (a' := ?_) #[true, true, true, true, false, true, true, false, false, false, false, false, false, false] rfl rfl (by kernel_rfl) (fun _ _ _ h => h) (Or.inl ⟨by rfl, ?_⟩) ?_ ?_
        rotate_left
        · intro w'
          go_simp
          with_reducible rfl
        rotate_left
        · simp only [Act.put, List.setIfInBounds_toArray, List.set_cons_zero, List.set_cons_succ, i64_w, i32_w]
          rfl
        refine pure_ (i := 7) (N := some 54) (v := ?_) (a' := ?_) #[true, true, true, true, false, true, true, true, false, false, false, false, false, false] rfl rfl (by kernel_rfl) (fun _ _ _ h => h) (Or.inl ⟨by rfl, ?_⟩) ?_ ?_
        rotate_left
        · intro w'
          go_simp
          with_reducible rfl
        rotate_left
        · simp only [Act.put, List.setIfInBounds_toArray, List.set_cons_zero, List.set_cons_succ, i64_w, i32_w]
          rfl
        refine pure_ (i := 8) (N := some 55) (v := ?_) (a' := ?_) #[true, true, true, true, false, true, true, true, true, false, false, false, false, false] rfl rfl (by kernel_rfl) (fun _ _ _ h => h) (Or.inl ⟨by rfl, ?_⟩) ?_ ?_
        rotate_left
        · intro w'
          go_simp
          with_reducible rfl
        rotate_left
        · simp only [Act.put, List.setIfInBounds_toArray, List.set_cons_zero, List.set_cons_succ, i64_w, i32_w]
          rfl
        refine pure_ (i := 10) (N := some 57) (v := ?_) (a' := ?_) #[true, true, true, true, false, true, true, true, true, false, true, false, false, false] rfl rfl (by kernel_rfl) (fun _ _ _ h => h) (Or.inl ⟨by rfl, ?_⟩) ?_ ?_
        rotate_left
        · intro w'
          go_simp
          with_reducible rfl
        rotate_left
        · simp only [Act.put, List.setIfInBounds_toArray, List.set_cons_zero, List.set_cons_succ, i64_w, i32_w]
          rfl
        refine take_ (i := 4) (N := some 51) (v := ?_) (a' := ?_) #[true, true, true, true, true, true, true, true, true, false, true, false, false, false] rfl rfl (by kernel_rfl) (fun _ _ _ h => h) (Or.inl ⟨by rfl, ?_⟩) hHeld ?_ ?_
        rotate_left
        · rintro w' ⟨s0, s1, s2⟩
          go_simp
          with_reducible rfl
        rotate_left
        · simp only [Act.put, List.setIfInBounds_toArray, List.set_cons_zero, List.set_cons_succ, i64_w, i32_w]
          rfl
        refine take_ (i := 9) (N := some 56) (v := ?_) (a' := ?_) #[true, true, true, true, true, true, true, true, true, true, true, false, false, false] rfl rfl (by kernel_rfl) (fun _ _ _ h => h) (Or.inl ⟨by rfl, ?_⟩) hHeld ?_ ?_
        rotate_left
        · rintro w' ⟨s0, s1, s2⟩
          go_simp
          with_reducible rfl
        rotate_left
        · simp only [Act.put, List.setIfInBounds_toArray, List.set_cons_zero, List.set_cons_succ, i64_w, i32_w]
          rfl
        refine one_ (i := 11) (N := some 58) #[true, true, true, true, true, true, true, true, true, true, true, true, false, false] rfl rfl (by kernel_rfl) (by decide) (fun K hK => ?_)
        refine goes_ Tryd.func22 (by kernel_rfl) rfl #[.slice A16 y.f5.length c16, .int .i64 r3] (by rfl) rfl rfl (by simp only [List.map_toArray, List.map_cons, List.map_nil, Act.eval]; rfl) ?_
        refine (HB5.out r3 _ hHeld.2.2.out.1 (by omega) (by omega)).mono ?_
        rintro q w6 ⟨r4, rfl, ⟨d1, d2, d3, d4⟩, hb⟩
        refine ⟨_, rfl, ?_⟩
        refine hK.out _ _ ⟨pw_cell_below hb hHeld.1, pw_cell_below hb hHeld.2.1, ⟨below_then hHeld.2.2.out.1 hHeld.2.2.out.1.size hb, below_then hHeld.2.2.out.2 hHeld.2.2.out.2.size hb⟩⟩ (fun hHeld => ?_)
        clear hK K
        refine norm_ (a' := ?_) ?_ ?_
        rotate_left
        · show Act.put _ (some 58) _ = _
          simp only [Act.put, List.setIfInBounds_toArray, List.set_cons_zero, List.set_cons_succ, i64_w, i32_w]
          rfl
        refine one_ (i := 12) (N := some 59) #[true, true, true, true, true, true, true, true, true, true, true, true, true, false] rfl rfl (by kernel_rfl) (by decide) (fun K hK => ?_)
        refine goes_ Tryd.func22 (by kernel_rfl) rfl #[.slice A17 y.f6.length c17, .int .i64 r4] (by rfl) rfl rfl (by simp only [List.map_toArray, List.map_cons, List.map_nil, Act.eval]; rfl) ?_
        refine (HB6.out r4 _ hHeld.2.2.out.1 (by omega) (by omega)).mono ?_
        rintro q w7 ⟨r5, rfl, ⟨e1, e2, e3, e4⟩, hb⟩
        refine ⟨_, rfl, ?_⟩
        refine hK.out _ _ ⟨pw_cell_below hb hHeld.1, pw_cell_below hb hHeld.2.1, ⟨below_then hHeld.2.2.out.1 hHeld.2.2.out.1.size hb, below_then hHeld.2.2.out.2 hHeld.2.2.out.2.size hb⟩⟩ (fun hHeld => ?_)
        clear hK K
        refine norm_ (a' := ?_) ?_ ?_
        rotate_left
        · show Act.put _ (some 59) _ = _
          simp only [Act.put, List.setIfInBounds_toArray, List.set_cons_zero, List.set_cons_succ, i64_w, i32_w]
          rfl
        refine pure_ (i := 13) (N := some 1) (v := ?_) (a' := ?_) #[true, true, true, true, true, true, true, true, true, true, true, true, true, true] rfl rfl (by kernel_rfl) (fun _ _ _ h => h) (Or.inl ⟨by rfl, ?_⟩) ?_ ?_
        rotate_left
        · intro w'
          go_simp
          with_reducible rfl
        rotate_left
        · simp only [Act.put, List.setIfInBounds_toArray, List.set_cons_zero, List.set_cons_succ, i64_w, i32_w]
          rfl
        refine done_ (by kernel_rfl) ?_
        have HW7 := Aside0.mk hHeld.2.2.out.1
        go_wp2_with fail
        go_roundg (xs.length - (i + 1))
        case measure => omega
        case rel => exact ⟨i + 1, r5, by omega, by omega, by go_num, rfl, by omega, by omega, by omega, by have h := HSM.out; rw [h]; omega, HW7⟩
      · have HWR := Aside0.mk (HD.out (.inr (by omega)))
        clear hlt
        go_wp2_with fail
        go_ret
        exact ⟨x, rfl, HWR.out, HL.out⟩
    · have hltz : ¬ (i : Int) < (xs.length : Int) := by omega
      have HWR := Aside0.mk (HD.out (.inl (by omega)))
      clear hlt
      go_wp2_with fail
      go_ret
      exact ⟨x, rfl, HWR.out, HL.out⟩
theorem weighStmts_calls : ∀ n, IH22 n
  | 0 => weighStmts_step 0 (fun m h => by omega)
  | n + 1 => weighStmts_step (n + 1) (fun m h => by
    obtain rfl : n = m := by omega
    exact weighStmts_calls n)
end Go.Proofs.YtfeaekdhpkdljaaDoor.Sh
