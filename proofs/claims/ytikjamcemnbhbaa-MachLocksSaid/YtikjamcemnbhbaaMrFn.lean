/- slices.IndexFunc and ContainsFunc at whole numbers, threads and actions: whatever function value answers one bool at each element, in every later world. -/
import Derived.Test.YtikjamcemnbhbaaMrMach
import Derived.Outline
namespace Go.Proofs.Ytikjamcemnbhbaa.Mr
open Go.RowKit Go.Proofs.YtikjamcemnbhbaaW.PrintWords Go.Proofs.YtikjamcemnbhbaaW.PrintLast Go.Proofs.YtikjamcemnbhbaaW.PrintMore
set_option linter.unusedVariables false
set_option linter.unusedSimpArgs false
theorem drop_any {α : Type} (p : α → Bool) (xs : List α) (i : Nat) (h : i < xs.length) : (xs.drop i).any p = (p xs[i] || (xs.drop (i + 1)).any p) := by
  rw [List.drop_eq_getElem_cons h, List.any_cons]
/-- The first index at which p holds; -1. -/
def IdxOf {α : Type} (p : α → Bool) (xs : List α) (e : Ending) : Prop := ∃ n : Int, e = .returned (.int .i64 n) ∧ decide (n ≥ 0) = xs.any p
theorem any_pos {α : Type} (p : α → Bool) (xs : List α) (i : Nat) (h : i < xs.length) (hp : p xs[i] = true) : xs.any p = true := List.any_eq_true.2 ⟨xs[i], List.getElem_mem h, hp⟩
theorem any_neg {α : Type} (p : α → Bool) (xs : List α) (hp : ∀ j, (h : j < xs.length) → p xs[j] = false) : xs.any p = false := by
  rw [List.any_eq_false]
  intro x hx
  obtain ⟨j, hj, rfl⟩ := List.mem_iff_getElem.1 hx
  rw [hp j hj]; simp
def AskI (p : Int → Bool) (g : Nat) (lb : Array Value) (xs : List Int) (w : World) : Prop := ∀ W x, x ∈ xs → Below w.heap.size w W → Calls Try.prog g (#[.int .i64 x] ++ lb) W fun e w' => e = .returned (.bool (p x)) ∧ Below W.heap.size W w'
def AskC (p : S49 → Bool) (g : Nat) (lb : Array Value) (xs : List S49) (w : World) : Prop := ∀ W x A c, x ∈ xs → Below w.heap.size w W → x.f1.length ≤ c → k33.C W A x.f1.length x.f1 → Calls Try.prog g (#[.agg #[.int .i64 x.f0, .slice A x.f1.length c]] ++ lb) W fun e w' => e = .returned (.bool (p x)) ∧ Below W.heap.size W w'
def AskA (p : S33 → Bool) (g : Nat) (lb : Array Value) (xs : List S33) (w : World) : Prop := ∀ W x, x ∈ xs → Below w.heap.size w W → Calls Try.prog g (#[.agg #[.int .i64 x.f0, .int .i64 x.f1, .int .i64 x.f2, .int .i64 x.f3, .int .i64 x.f4, .int .i64 x.f5, .int .i64 x.f6, .int .i64 x.f7, .int .i64 x.f8]] ++ lb) W fun e w' => e = .returned (.bool (p x)) ∧ Below W.heap.size W w'
set_option maxHeartbeats 2000000 in
set_option maxRecDepth 100000 in
theorem idx69 (p : Int → Bool) (g : Nat) (lb : Array Value) (eg : ∀ args w, (callFunc g args).run Try.prog w = .ok (.enter g args) w) (xs : List Int) (A : Option Addr) (c : Nat) (w : World) (hC : Kd.C (Kd.int .i64) w A xs.length xs) (hp : AskI p g lb xs w) :
    Calls Try.prog 69 #[.slice A xs.length c, .func (.func g) #[] lb] w fun e w' => IdxOf p xs e ∧ Below w.heap.size w w' := by
  have HC := Aside0.mk hC
  have HP := Aside0.mk hp
  have hm : xs.length ≤ 9223372036854775807 := hC.2.1
  clear hC hp
  go_enter Try.func69, Try.ntmps69
  go_wp2
  go_loopg [5, 8] xs.length (fun gg _ s8 wr => ∃ kk : Nat, kk ≤ xs.length ∧ xs.length - kk ≤ gg ∧ s8 = .int .i64 kk ∧ Aside0 (Below w.heap.size w wr) ∧ Aside0 (∀ j, (h : j < xs.length) → j < kk → p xs[j] = false))
  case atStart => exact ⟨0, Nat.zero_le _, by omega, rfl, ⟨Below.refl _ w⟩, ⟨fun j _ hj => absurd hj (Nat.not_lt_zero _)⟩⟩
  case round =>
    obtain ⟨kk, hkk, hg, rfl, BW, NN⟩ := hrel
    by_cases hlt : kk < xs.length
    · have hltz : (kk : Int) < (xs.length : Int) := by omega
      obtain ⟨ad, rfl, hcell⟩ := Kd.at_int (Kd.C_below HC.out BW.out) (kk : Int) (by omega) hltz
      have hr : rd xs (kk : Int) = xs[kk] := by simp [rd, hlt]
      rw [hr, Int.toNat_natCast] at hcell
      have hcall := HP.out wr xs[kk] (List.getElem_mem hlt) BW.out
      have HL := Aside0.mk hlt
      have HY := Aside0.mk (any_pos p xs kk hlt)
      have HE : Aside0 (∀ v, p xs[kk] = v → ∀ j, (h : j < xs.length) → j < kk + 1 → v = false → p xs[j] = false) := ⟨fun v hv j h hj hf => by
        by_cases e : j = kk
        · subst e; rw [hv]; exact hf
        · exact NN.out j h (by omega)⟩
      clear hr NN
      generalize xs[kk] = y at hcell hcall HY HE
      cases hq : p y with
      | true =>
        have HQ := Aside0.mk (HY.out hq)
        rw [hq] at hcall
        clear hq HE HY
        go_wp2_with fail
        refine hcall.mono ?_
        rintro e w' ⟨rfl, hb'⟩
        clear hcall eg hcell hltz hlt
        go_wp2
        go_ret
        exact ⟨⟨kk, rfl, by rw [HQ.out]; simp⟩, below_on BW.out hb'⟩
      | false =>
        have HQ := Aside0.mk (fun j h hj => HE.out false hq j h hj rfl)
        rw [hq] at hcall
        clear hq HE HY
        go_wp2_with fail
        refine hcall.mono ?_
        rintro e w' ⟨rfl, hb'⟩
        clear hcall eg hcell hltz
        go_wp2
        go_roundg (xs.length - (kk + 1))
        case measure => omega
        case rel => exact ⟨kk + 1, by omega, by omega, by go_num, ⟨below_on BW.out hb'⟩, HQ⟩
    · have hltz : ¬ (kk : Int) < (xs.length : Int) := by omega
      have hke : kk = xs.length := by omega
      have HQ := Aside0.mk (any_neg p xs (fun j h => NN.out j h (by omega)))
      clear hke
      go_wp2
      go_ret
      exact ⟨⟨-1, rfl, by rw [HQ.out]; simp⟩, BW.out⟩
theorem has57 (p : Int → Bool) (g : Nat) (lb : Array Value) (eg : ∀ args w, (callFunc g args).run Try.prog w = .ok (.enter g args) w) (xs : List Int) (A : Option Addr) (c : Nat) (w : World) (hC : Kd.C (Kd.int .i64) w A xs.length xs) (hp : AskI p g lb xs w) :
    Calls Try.prog 57 #[.slice A xs.length c, .func (.func g) #[] lb] w fun e w' => e = .returned (.bool (xs.any p)) ∧ Below w.heap.size w w' := by
  have HC := Aside0.mk hC
  have HP := Aside0.mk hp
  clear hC hp
  go_enter Try.func57, Try.ntmps57
  go_wp2_with (go_at_call 69; refine (idx69 p g lb eg xs A c _ HC.out HP.out).mono ?_; rintro e w' ⟨⟨n, rfl, hn⟩, hb'⟩; have HN := Aside0.mk hn; clear hn)
  go_ret
  exact ⟨by rw [← HN.out]; rfl, hb'⟩
set_option maxHeartbeats 2000000 in
set_option maxRecDepth 100000 in
theorem idx76 (p : S33 → Bool) (g : Nat) (lb : Array Value) (eg : ∀ args w, (callFunc g args).run Try.prog w = .ok (.enter g args) w) (xs : List S33) (A : Option Addr) (c : Nat) (w : World) (hC : Kd.C k33 w A xs.length xs) (hp : AskA p g lb xs w) :
    Calls Try.prog 76 #[.slice A xs.length c, .func (.func g) #[] lb] w fun e w' => IdxOf p xs e ∧ Below w.heap.size w w' := by
  have HC := Aside0.mk hC
  have HP := Aside0.mk hp
  have hm : xs.length ≤ 9223372036854775807 := hC.2.1
  clear hC hp
  go_enter Try.func76, Try.ntmps76
  go_wp2
  go_loopg [5, 8] xs.length (fun gg _ s8 wr => ∃ kk : Nat, kk ≤ xs.length ∧ xs.length - kk ≤ gg ∧ s8 = .int .i64 kk ∧ Aside0 (Below w.heap.size w wr) ∧ Aside0 (∀ j, (h : j < xs.length) → j < kk → p xs[j] = false))
  case atStart => exact ⟨0, Nat.zero_le _, by omega, rfl, ⟨Below.refl _ w⟩, ⟨fun j _ hj => absurd hj (Nat.not_lt_zero _)⟩⟩
  case round =>
    obtain ⟨kk, hkk, hg, rfl, BW, NN⟩ := hrel
    by_cases hlt : kk < xs.length
    · have hltz : (kk : Int) < (xs.length : Int) := by omega
      obtain ⟨ad, rfl, hcell, hc1, hc2, hc3, hc4, hc5, hc6, hc7, hc8⟩ := at_T33 (Kd.C_below HC.out BW.out) (kk : Int) (by omega) hltz
      have hr : rd_T33 xs (kk : Int) = xs[kk] := by simp [rd_T33, hlt]
      rw [hr, Int.toNat_natCast] at hcell hc1 hc2 hc3 hc4 hc5 hc6 hc7 hc8
      have hcall := HP.out wr xs[kk] (List.getElem_mem hlt) BW.out
      have HL := Aside0.mk hlt
      have HY := Aside0.mk (any_pos p xs kk hlt)
      have HE : Aside0 (∀ v, p xs[kk] = v → ∀ j, (h : j < xs.length) → j < kk + 1 → v = false → p xs[j] = false) := ⟨fun v hv j h hj hf => by
        by_cases e : j = kk
        · subst e; rw [hv]; exact hf
        · exact NN.out j h (by omega)⟩
      clear hr NN
      generalize xs[kk] = y at hcell hc1 hc2 hc3 hc4 hc5 hc6 hc7 hc8 hcall HY HE
      cases hq : p y with
      | true =>
        have HQ := Aside0.mk (HY.out hq)
        rw [hq] at hcall
        clear hq HE HY
        go_wp2_with fail
        refine hcall.mono ?_
        rintro e w' ⟨rfl, hb'⟩
        clear hcall eg hcell hc1 hc2 hc3 hc4 hc5 hc6 hc7 hc8 hltz hlt
        go_wp2
        go_ret
        exact ⟨⟨kk, rfl, by rw [HQ.out]; simp⟩, below_on BW.out hb'⟩
      | false =>
        have HQ := Aside0.mk (fun j h hj => HE.out false hq j h hj rfl)
        rw [hq] at hcall
        clear hq HE HY
        go_wp2_with fail
        refine hcall.mono ?_
        rintro e w' ⟨rfl, hb'⟩
        clear hcall eg hcell hc1 hc2 hc3 hc4 hc5 hc6 hc7 hc8 hltz
        go_wp2
        go_roundg (xs.length - (kk + 1))
        case measure => omega
        case rel => exact ⟨kk + 1, by omega, by omega, by go_num, ⟨below_on BW.out hb'⟩, HQ⟩
    · have hltz : ¬ (kk : Int) < (xs.length : Int) := by omega
      have hke : kk = xs.length := by omega
      have HQ := Aside0.mk (any_neg p xs (fun j h => NN.out j h (by omega)))
      clear hke
      go_wp2
      go_ret
      exact ⟨⟨-1, rfl, by rw [HQ.out]; simp⟩, BW.out⟩
theorem has71 (p : S33 → Bool) (g : Nat) (lb : Array Value) (eg : ∀ args w, (callFunc g args).run Try.prog w = .ok (.enter g args) w) (xs : List S33) (A : Option Addr) (c : Nat) (w : World) (hC : Kd.C k33 w A xs.length xs) (hp : AskA p g lb xs w) :
    Calls Try.prog 71 #[.slice A xs.length c, .func (.func g) #[] lb] w fun e w' => e = .returned (.bool (xs.any p)) ∧ Below w.heap.size w w' := by
  have HC := Aside0.mk hC
  have HP := Aside0.mk hp
  clear hC hp
  go_enter Try.func71, Try.ntmps71
  go_wp2_with (go_at_call 76; refine (idx76 p g lb eg xs A c _ HC.out HP.out).mono ?_; rintro e w' ⟨⟨n, rfl, hn⟩, hb'⟩; have HN := Aside0.mk hn; clear hn)
  go_ret
  exact ⟨by rw [← HN.out]; rfl, hb'⟩
set_option maxHeartbeats 2000000 in
set_option maxRecDepth 100000 in
theorem idx70 (p : S49 → Bool) (g : Nat) (lb : Array Value) (eg : ∀ args w, (callFunc g args).run Try.prog w = .ok (.enter g args) w) (xs : List S49) (A : Option Addr) (c : Nat) (w : World) (hC : Kd.C k49 w A xs.length xs) (hp : AskC p g lb xs w) :
    Calls Try.prog 70 #[.slice A xs.length c, .func (.func g) #[] lb] w fun e w' => IdxOf p xs e ∧ Below w.heap.size w w' := by
  have HC := Aside0.mk hC
  have HP := Aside0.mk hp
  have hm : xs.length ≤ 9223372036854775807 := hC.2.1
  clear hC hp
  go_enter Try.func70, Try.ntmps70
  go_wp2
  go_loopg [5, 8] xs.length (fun gg _ s8 wr => ∃ kk : Nat, kk ≤ xs.length ∧ xs.length - kk ≤ gg ∧ s8 = .int .i64 kk ∧ Aside0 (Below w.heap.size w wr) ∧ Aside0 (∀ j, (h : j < xs.length) → j < kk → p xs[j] = false))
  case atStart => exact ⟨0, Nat.zero_le _, by omega, rfl, ⟨Below.refl _ w⟩, ⟨fun j _ hj => absurd hj (Nat.not_lt_zero _)⟩⟩
  case round =>
    obtain ⟨kk, hkk, hg, rfl, BW, NN⟩ := hrel
    by_cases hlt : kk < xs.length
    · have hltz : (kk : Int) < (xs.length : Int) := by omega
      obtain ⟨ad, A1, c1, rfl, hcell, hc1, hl1, hk1⟩ := at_T49 (Kd.C_below HC.out BW.out) (kk : Int) (by omega) hltz
      have hr : rd_T49 xs (kk : Int) = xs[kk] := by simp [rd_T49, hlt]
      rw [hr, Int.toNat_natCast] at hcell hc1; rw [hr] at hl1 hk1
      have hcall := HP.out wr xs[kk] A1 c1 (List.getElem_mem hlt) BW.out hl1 hk1
      clear hl1 hk1
      have HL := Aside0.mk hlt
      have HY := Aside0.mk (any_pos p xs kk hlt)
      have HE : Aside0 (∀ v, p xs[kk] = v → ∀ j, (h : j < xs.length) → j < kk + 1 → v = false → p xs[j] = false) := ⟨fun v hv j h hj hf => by
        by_cases e : j = kk
        · subst e; rw [hv]; exact hf
        · exact NN.out j h (by omega)⟩
      clear hr NN
      generalize xs[kk] = y at hcell hc1 hcall HY HE
      cases hq : p y with
      | true =>
        have HQ := Aside0.mk (HY.out hq)
        rw [hq] at hcall
        clear hq HE HY
        go_wp2_with fail
        refine hcall.mono ?_
        rintro e w' ⟨rfl, hb'⟩
        clear hcall eg hcell hc1 hltz hlt
        go_wp2
        go_ret
        exact ⟨⟨kk, rfl, by rw [HQ.out]; simp⟩, below_on BW.out hb'⟩
      | false =>
        have HQ := Aside0.mk (fun j h hj => HE.out false hq j h hj rfl)
        rw [hq] at hcall
        clear hq HE HY
        go_wp2_with fail
        refine hcall.mono ?_
        rintro e w' ⟨rfl, hb'⟩
        clear hcall eg hcell hc1 hltz
        go_wp2
        go_roundg (xs.length - (kk + 1))
        case measure => omega
        case rel => exact ⟨kk + 1, by omega, by omega, by go_num, ⟨below_on BW.out hb'⟩, HQ⟩
    · have hltz : ¬ (kk : Int) < (xs.length : Int) := by omega
      have hke : kk = xs.length := by omega
      have HQ := Aside0.mk (any_neg p xs (fun j h => NN.out j h (by omega)))
      clear hke
      go_wp2
      go_ret
      exact ⟨⟨-1, rfl, by rw [HQ.out]; simp⟩, BW.out⟩
theorem has59 (p : S49 → Bool) (g : Nat) (lb : Array Value) (eg : ∀ args w, (callFunc g args).run Try.prog w = .ok (.enter g args) w) (xs : List S49) (A : Option Addr) (c : Nat) (w : World) (hC : Kd.C k49 w A xs.length xs) (hp : AskC p g lb xs w) :
    Calls Try.prog 59 #[.slice A xs.length c, .func (.func g) #[] lb] w fun e w' => e = .returned (.bool (xs.any p)) ∧ Below w.heap.size w w' := by
  have HC := Aside0.mk hC
  have HP := Aside0.mk hp
  clear hC hp
  go_enter Try.func59, Try.ntmps59
  go_wp2_with (go_at_call 70; refine (idx70 p g lb eg xs A c _ HC.out HP.out).mono ?_; rintro e w' ⟨⟨n, rfl, hn⟩, hb'⟩; have HN := Aside0.mk hn; clear hn)
  go_ret
  exact ⟨by rw [← HN.out]; rfl, hb'⟩
end Go.Proofs.Ytikjamcemnbhbaa.Mr
