/- A machine in memory with all that its methods ask (Live); New, Step and the methods at it; nil; units that are typed in the text. -/
import Derived.Test.YtikjamcemnbhbaaMrNew
import Derived.Test.YtikjamcemnbhbaaMrWf
namespace Go.Proofs.Ytikjamcemnbhbaa.Mr
open Go.RowKit Go.Proofs.YtikjamcemnbhbaaW.PrintWords Go.Proofs.YtikjamcemnbhbaaW.PrintLast Go.Proofs.YtikjamcemnbhbaaW.PrintMore
set_option linter.unusedVariables false
set_option linter.unusedSimpArgs false
theorem okA_of {ng na nm nv nl : Int} {a : S33} (h : OkAct ng na nm nv nl a) : okA nv ng na nm nl a := by
  obtain ⟨hk, -, hn, he, -, ho, hg, hv⟩ := h
  have k14 : a.f0 = 1 ∨ a.f0 = 2 ∨ a.f0 = 3 ∨ a.f0 = 4 ∨ a.f0 = 5 ∨ a.f0 = 6 ∨ a.f0 = 7 ∨ a.f0 = 8 ∨ a.f0 = 9 ∨ a.f0 = 10 ∨ a.f0 = 11 ∨ a.f0 = 12 ∨ a.f0 = 13 ∨ a.f0 = 14 := by omega
  refine ⟨hk, by omega, by omega, ?_, ?_, ?_, ?_, ?_, ?_, ?_, ?_⟩
  · intro h
    have : a.f1 ∈ varsP a := by
      unfold varsP
      rcases h with h | h | h | h | h | h <;> simp [h]
    have := hv _ this
    omega
  · intro h
    have : a.f2 ∈ varsP a := by
      unfold varsP
      rcases h with h | h | h | h | h | h <;> simp [h]
    have := hv _ this
    omega
  · intro h
    have : a.f3 ∈ varsP a := by
      unfold varsP
      rcases h with h | h | h <;> simp [h]
    have := hv _ this
    omega
  · intro h
    unfold sharedN at hg
    rw [if_pos h] at hg
    omega
  · intro h
    unfold sharedN at hg
    rw [if_neg (by omega), if_pos h] at hg
    omega
  · intro h
    unfold sharedN at hg
    rw [if_neg (by omega), if_neg (by omega), if_pos h] at hg
    omega
  · intro h
    have e : opMax a.f0 = 5 := by unfold opMax; rw [if_pos h]
    rw [e, if_neg (by decide)] at ho
    exact ho
  · intro h
    have e : opMax a.f0 = 6 := by unfold opMax; rw [if_neg (by omega), if_pos h]
    rw [e, if_neg (by decide)] at ho
    exact ho
theorem newRow_var (G A : List Int) (cs : List S49) (o i : Nat) (h : i < cs.length) : newRow G A cs A.length o cs.length (4 + 2 * i) = List.replicate (rd_T49 cs (i : Int)).f0.toNat 0 := by
  have e : (4 + 2 * i - 4) / 2 = i := by omega
  unfold newRow
  rw [if_neg (by omega), if_neg (by omega), if_neg (by omega), if_pos (by omega), e]
theorem newRow_arr (G A : List Int) (cs : List S49) (o n i : Nat) (h : i < A.length) : newRow G A cs A.length o n (3 + 2 * i) = List.replicate (rd A (i : Int)).toNat 0 := by
  have e : (3 + 2 * i - 3) / 2 = i := by omega
  unfold newRow
  rw [if_neg (by omega), if_neg (by omega), if_pos (by omega), if_pos (by omega), e]
theorem Wf.new {G A : List Int} {m : Int} {cs : List S49} (ok : OkUnit G A m cs) : Wf cs A.length (newSt G A cs A.length m.toNat cs.length) := by
  have hc : ∀ i, (h : i < cs.length) → OkCode G.length A.length m cs[i] := fun i h => ok.ts _ (List.getElem_mem h)
  refine ⟨fun i h => ⟨Int.le_refl _, by have := (hc i h).len.1; show (0 : Int) < _; omega⟩, fun i h a ha => ?_⟩
  have e1 : rd_T49 cs (i : Int) = cs[i] := by simp [rd_T49, h]
  have hv := (hc i h).vars
  have r1 : ((newSt G A cs A.length m.toNat cs.length).row (4 + 2 * i)).length = cs[i].f0.toNat := by
    show (newRow G A cs A.length m.toNat cs.length (4 + 2 * i)).length = _
    rw [newRow_var _ _ _ _ i h, e1, List.length_replicate]
  have r2 : ((newSt G A cs A.length m.toNat cs.length).row 1).length = m.toNat := by
    show (newRow G A cs A.length m.toNat cs.length 1).length = _
    rw [newRow_own, List.length_replicate]
  have r3 : (newSt G A cs A.length m.toNat cs.length).row 0 = G := by
    show newRow G A cs A.length m.toNat cs.length 0 = _
    unfold newRow; rw [if_pos rfl]
  have hm := ok.ms
  rw [r1, r2, r3, Int.toNat_of_nonneg hv.1, Int.toNat_of_nonneg hm.1]
  exact okA_of ((hc i h).acts a ha)
structure Live (L R : Nat) (w : World) (ph : Ph) (cs : List S49) (nA : Nat) (s : St) : Prop where
  m : MachIn w L R R ph cs nA s
  wf : Wf cs nA s
  sz : R ≤ w.heap.size
theorem Live.below {L R : Nat} {w w' : World} {ph : Ph} {cs : List S49} {nA : Nat} {s : St} (H : Live L R w ph cs nA s) (h : Below w.heap.size w w') : Live L R w' ph cs nA s := ⟨H.m.below h, H.wf, Nat.le_trans H.sz h.size⟩
def NewLive (w : World) (G A : List Int) (m : Int) (cs : List S49) (e : Ending) (w' : World) : Prop :=
  ∃ ph : Ph, e = .returned (.tuple #[.pointer (some ⟨ph.bm, 0, none⟩), .int .i64 0]) ∧ Live w.heap.size w'.heap.size w' ph cs A.length (newSt G A cs A.length m.toNat cs.length) ∧ Below w.heap.size w w'
theorem new_live (w : World) (Ag : Option Addr) (cg : Nat) (G : List Int) (Aa : Option Addr) (ca : Nat) (A : List Int) (m : Int) (At : Option Addr) (ct : Nat) (cs : List S49) (hg : Kd.C (Kd.int .i64) w Ag G.length G) (hcg : G.length ≤ cg) (ha : Kd.C (Kd.int .i64) w Aa A.length A) (hca : A.length ≤ ca) (ht : Kd.C k49 w At cs.length cs) (hct : cs.length ≤ ct) (ok : OkUnit G A m cs) :
    Calls Try.prog 19 #[.agg #[.slice Ag G.length cg, .slice Aa A.length ca, .int .i64 m, .slice At cs.length ct]] w fun e w' => NewLive w G A m cs e w' :=
  (new_calls w Ag cg G Aa ca A m At ct cs hg hcg ha hca ht hct ok).mono fun e w' ⟨ph, he, H, hb⟩ => ⟨ph, he, ⟨H, Wf.new ok, Nat.le_refl _⟩, hb⟩
def StepOut (L R : Nat) (w : World) (ph : Ph) (cs : List S49) (nA : Nat) (s : St) (i inp : Int) (w' : World) : Prop := Live L R w' ph cs nA (stepP cs nA s i inp) ∧ Chg L R w w'
theorem Live.step {L R : Nat} {w : World} {ph : Ph} {cs : List S49} {nA : Nat} {s : St} (H : Live L R w ph cs nA s) (i inp : Int) {b : Bool} (hb : (nxt cs s i).isSome = b) :
    Calls Try.prog 22 #[.pointer (some ⟨ph.bm, 0, none⟩), .int .i64 i, .int .i64 inp] w fun e w' => e = .returned (.bool b) ∧ StepOut L R w ph cs nA s i inp w' := by
  subst hb
  exact (step_calls w H.m H.wf H.sz i inp).mono fun e w' ⟨he, hl⟩ => ⟨he, ⟨hl.1, H.wf.step i inp, Nat.le_trans H.sz hl.2.size⟩, hl.2⟩
theorem Live.at_ {L R : Nat} {w : World} {ph : Ph} {cs : List S49} {nA : Nat} {s : St} (H : Live L R w ph cs nA s) (i : Int) {n : Int} (hn : atOf cs s i = n) :
    Calls Try.prog 24 #[.pointer (some ⟨ph.bm, 0, none⟩), .int .i64 i] w fun e w' => e = .returned (.int .i64 n) ∧ Below w.heap.size w w' := by
  subst hn
  exact at_calls w H.m i
theorem Live.owner {L R : Nat} {w : World} {ph : Ph} {cs : List S49} {nA : Nat} {s : St} (H : Live L R w ph cs nA s) (i : Int) {n : Int} (hn : ownOf s i = n) :
    Calls Try.prog 21 #[.pointer (some ⟨ph.bm, 0, none⟩), .int .i64 i] w fun e w' => e = .returned (.int .i64 n) ∧ Below w.heap.size w w' := by
  subst hn
  exact owner_calls w H.m i
theorem Live.next {L R : Nat} {w : World} {ph : Ph} {cs : List S49} {nA : Nat} {s : St} (H : Live L R w ph cs nA s) (i : Int) :
    Calls Try.prog 20 #[.pointer (some ⟨ph.bm, 0, none⟩), .int .i64 i] w fun e w' => e = .returned (nxtV (nxt cs s i)) ∧ Below w.heap.size w w' := next_calls w H.m H.wf i
/-- A row that is handed out: a slice, read and owned. -/
def Handed2 (xs : List Int) (w : World) (e : Ending) (w' : World) : Prop := ∃ A c, e = .returned (.slice A xs.length c) ∧ xs.length ≤ c ∧ Aside0 (Kd.C (Kd.int .i64) w' A xs.length xs) ∧ Below w.heap.size w w'
theorem C_of_own {w : World} {base : Nat} {v : Value} {xs : List Int} (h : w.ownsRow base 3 1 v xs.length (nums .i64 xs)) : ∃ A c, v = .slice A xs.length c ∧ xs.length ≤ c ∧ Kd.C (Kd.int .i64) w A xs.length xs :=
  Kd.R_reads (Kd.R_of_own (ok := fun _ => True) h (fun _ _ => trivial) : (Kd.int .i64).R 3 w base (fun _ => True) v xs)
theorem rowOut_handed {xs : List Int} {w w' : World} {e : Ending} (h : rowOut xs w e w') : Handed2 xs w e w' := by
  obtain ⟨v, he, ho, hb⟩ := h
  obtain ⟨A, c, rfl, hc, hC⟩ := C_of_own ho
  exact ⟨A, c, he, hc, ⟨hC⟩, hb⟩
theorem Live.vars {L R : Nat} {w : World} {ph : Ph} {cs : List S49} {nA : Nat} {s : St} (H : Live L R w ph cs nA s) (i : Int) {xs : List Int} (hx : varsOf cs s i = xs) (hl : xs.length ≤ 1000) :
    Calls Try.prog 25 #[.pointer (some ⟨ph.bm, 0, none⟩), .int .i64 i] w fun e w' => Handed2 xs w e w' := by
  subst hx
  exact (vars_calls w H.m i hl).mono fun e w' h => rowOut_handed h
theorem Live.globals {L R : Nat} {w : World} {ph : Ph} {cs : List S49} {nA : Nat} {s : St} (H : Live L R w ph cs nA s) {xs : List Int} (hx : s.row 0 = xs) (hl : xs.length ≤ 1000) :
    Calls Try.prog 28 #[.pointer (some ⟨ph.bm, 0, none⟩)] w fun e w' => Handed2 xs w e w' := by
  subst hx
  exact (globals_calls w H.m hl).mono fun e w' h => rowOut_handed h
theorem Live.fault {L R : Nat} {w : World} {ph : Ph} {cs : List S49} {nA : Nat} {s : St} (H : Live L R w ph cs nA s) :
    Calls Try.prog 27 #[.pointer (some ⟨ph.bm, 0, none⟩)] w fun e w' => e = .returned (badV s.bad) ∧ Below w.heap.size w w' := fault_calls w H.m
/-! ### nil -/
set_option maxHeartbeats 2000000 in
theorem next_nil (w : World) (i : Int) :
    Calls Try.prog 20 #[.pointer none, .int .i64 i] w fun e w' => e = .returned (nxtV none) ∧ Below w.heap.size w w' := by
  have HT := Aside0.mk (fun W' (_ : Below w.heap.size w W') => thread_nil W' i)
  have HB := Aside0.mk (Below.refl w.heap.size w)
  go_enter Try.func20, Try.ntmps20
  go_wp2_with fail
  go_at_call 43
  refine (HT.out _ (below_alloc HB.out _)).mono ?_
  rintro e w1 ⟨rfl, hb⟩
  have BW := Aside0.mk (below_on (below_alloc HB.out _) hb)
  have hR := blk_after hb
  clear HT HB hb
  go_wp2_with (first | ((with_reducible refine gate_store (t := 33) (p := 4) rfl ?_); refine put_row ?hg ?hn 33 (.tmp 4) (.tmp 20) ?ho w.heap.size 33 _ #[.int .i64 0, .int .i64 0, .int .i64 0, .int .i64 0, .int .i64 0, .int .i64 0, .int .i64 0, .int .i64 0, .int .i64 0] ?hp ?hx ?hu hR ?ht ?hs ?h1 ?_; (case hg => rfl); (case hn => rfl); (case ho => rfl); (case hp => rfl); (case hx => rfl); (case hu => rfl); (case ht => kernel_rfl); (case hs => rfl); (case h1 => exact actC_one z33); intro w2 hR2 hG))
  refine bodyPost_ret (results_ct rfl _ _ w.heap.size 33 _ (0, 0) _ rfl hR2 Try.underlying33 rfl (by kernel_rfl)) rfl ?_
  exact ⟨rfl, BW.out.grown hG BW.out.size (fun k hk => by injection hk with hk; omega)⟩
set_option maxHeartbeats 2000000 in
theorem step_nil (w : World) (i inp : Int) :
    Calls Try.prog 22 #[.pointer none, .int .i64 i, .int .i64 inp] w fun e w' => e = .returned (.bool false) ∧ Below w.heap.size w w' := by
  have HN := Aside0.mk (next_nil w i)
  go_enter Try.func22, Try.ntmps22
  go_wp2_with fail
  go_at_call 20
  refine HN.out.mono ?_
  rintro e w1 ⟨rfl, hb⟩
  have HB := Aside0.mk hb
  clear hb HN
  simp only [nxtV, actV]
  go_wp2
  go_ret
  exact ⟨rfl, below_alloc HB.out _⟩
/-! ### units in the text -/
def flat33 : List S33 → List Value
  | [] => []
  | a :: l => (.int .i64 a.f0) :: (.int .i64 a.f1) :: (.int .i64 a.f2) :: (.int .i64 a.f3) :: (.int .i64 a.f4) :: (.int .i64 a.f5) :: (.int .i64 a.f6) :: (.int .i64 a.f7) :: (.int .i64 a.f8) :: flat33 l
theorem flat33_get : ∀ (l : List S33) (j : Nat) (p : S33), l[j]? = some p → ∀ i u, (actC p).toList[i]? = some u → (flat33 l)[j * 9 + i]? = some u
  | [], j, p, h => by simp at h
  | a :: l, 0, p, h => fun i u hu => by
    have : a = p := by simpa using h
    subst this
    have hi := (List.getElem?_eq_some_iff.1 hu).1
    have hi : i < 9 := by simpa [actC] using hi
    have k : i = 0 ∨ i = 1 ∨ i = 2 ∨ i = 3 ∨ i = 4 ∨ i = 5 ∨ i = 6 ∨ i = 7 ∨ i = 8 := by omega
    rcases k with rfl | rfl | rfl | rfl | rfl | rfl | rfl | rfl | rfl <;> simpa [actC, flat33] using hu
  | a :: l, j + 1, p, h => fun i u hu => by
    have h2 := flat33_get l j p (by simpa using h) i u hu
    have e : (j + 1) * 9 + i = (j * 9 + i) + 9 := by omega
    rw [e]
    simpa [flat33] using h2
theorem C33_lit (w : World) (g : Nat) (xs : List S33) (h : w.heap[g]? = some (.cells (flat33 xs).toArray 33 (0, 0))) (hl : xs.length ≤ 1000) : Kd.C k33 w (some ⟨g, 0, none⟩) xs.length xs := by
  refine ⟨rfl, Nat.le_trans hl (by decide), fun _ => ⟨_, rfl, fun j p hp => ⟨(actC p).toList, rfl, k33_mk w p, fun i u hu => ?_⟩⟩⟩
  have hs : k33.sz = 9 := rfl
  rw [hs, add_plain]
  refine (blk_cell h _).trans ?_
  simpa using flat33_get xs j p hp i u hu
theorem C49_one (w : World) (g : Nat) (c : S49) (Ac : Option Addr) (cc : Nat) (hcc : c.f1.length ≤ cc) (hC : Kd.C k33 w Ac c.f1.length c.f1) (h : w.heap[g]? = some (.cells #[.int .i64 c.f0, .slice Ac c.f1.length cc] 49 (0, 0))) : Kd.C k49 w (some ⟨g, 0, none⟩) 1 [c] := by
  refine ⟨rfl, by decide, fun _ => ⟨_, rfl, fun j p hp => ⟨[.int .i64 c.f0, .slice Ac c.f1.length cc], rfl, ?_, fun i u hu => ?_⟩⟩⟩
  · have hj : j = 0 := by
      have := (List.getElem?_eq_some_iff.1 hp).1
      simp at this; omega
    subst hj
    have : c = p := by simpa using hp
    subst this
    exact k49_mk w c hcc hC
  · have hj : j = 0 := by
      have := (List.getElem?_eq_some_iff.1 hp).1
      simp at this; omega
    subst hj
    have hs : k49.sz = 2 := rfl
    rw [add_plain]
    refine (blk_cell h _).trans ?_
    simpa using hu
theorem C49_two (w : World) (g : Nat) (c d : S49) (Ac : Option Addr) (cc : Nat) (hcc : c.f1.length ≤ cc) (hC : Kd.C k33 w Ac c.f1.length c.f1) (Ad : Option Addr) (cd : Nat) (hcd : d.f1.length ≤ cd) (hD : Kd.C k33 w Ad d.f1.length d.f1)
    (h : w.heap[g]? = some (.cells #[.int .i64 c.f0, .slice Ac c.f1.length cc, .int .i64 d.f0, .slice Ad d.f1.length cd] 49 (0, 0))) : Kd.C k49 w (some ⟨g, 0, none⟩) 2 [c, d] := by
  refine ⟨rfl, by decide, fun _ => ⟨_, rfl, fun j p hp => ?_⟩⟩
  have hj : j = 0 ∨ j = 1 := by
    have := (List.getElem?_eq_some_iff.1 hp).1
    simp at this; omega
  have hs : k49.sz = 2 := rfl
  rcases hj with rfl | rfl
  · have : c = p := by simpa using hp
    subst this
    refine ⟨[.int .i64 c.f0, .slice Ac c.f1.length cc], rfl, k49_mk w c hcc hC, fun i u hu => ?_⟩
    rw [hs, add_plain]
    refine (blk_cell h _).trans ?_
    have hi := (List.getElem?_eq_some_iff.1 hu).1
    have k : i = 0 ∨ i = 1 := by simp at hi; omega
    rcases k with rfl | rfl <;> simpa using hu
  · have : d = p := by simpa using hp
    subst this
    refine ⟨[.int .i64 d.f0, .slice Ad d.f1.length cd], rfl, k49_mk w d hcd hD, fun i u hu => ?_⟩
    rw [hs, add_plain]
    refine (blk_cell h _).trans ?_
    have hi := (List.getElem?_eq_some_iff.1 hu).1
    have k : i = 0 ∨ i = 1 := by simp at hi; omega
    rcases k with rfl | rfl <;> simpa using hu
theorem C_none {α : Type} (d : Kd α) (w : World) : Kd.C d w none 0 [] := ⟨rfl, by decide, fun h => absurd h (by decide)⟩
end Go.Proofs.Ytikjamcemnbhbaa.Mr
