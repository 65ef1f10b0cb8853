/- From what ShowPrints' row reads to what the walk asks: expressions, conditions, statements (types that hold rows of themselves), programs. -/
import Derived.Test.YtfeaekdhpkdljaaDoorOpens
import Derived.Test.YtfeaekdhpkdljaaDoorShHeavy
import Derived.OpenShut
namespace Go.Proofs.YtfeaekdhpkdljaaDoor.Sh
open Go.RowKit Go.ChangeShapes Go.WideShapes Go.Proofs.YtfeaekdhpkdljaaDoorW.PrintWords Go.Proofs.YtfeaekdhpkdljaaDoor.Opens
set_option linter.unusedVariables false
/-- As Opens, where no more than N levels are read. -/
def OpensN {α : Type} (P : Program) (w : World) (d : Kd α) (t : TypeId) (W : α → Prop) (N : Nat) : Prop :=
  ∀ (H : Type) (enc : TypeId × Value → H) (base : Nat) (spare : Nat → Bool) (held : Bool) (fuel : Nat) (cs : List Value) (x : DataW H × List MemPlace), fuel ≤ N → DataW.trod enc P w base spare held fuel t cs = some x → (∀ n ∈ x.1.weights P t, n ≤ reachBytes) → ∃ y : α, d.K w y cs ∧ W y
section
variable {P : Program} {w : World} {α β : Type} {N : Nat}
theorem OpensN.of {d : Kd α} {t : TypeId} {W : α → Prop} (h : Opens P w d t W) : OpensN P w d t W N := fun H enc base spare held fuel cs x _ => h H enc base spare held fuel cs x
theorem OpensN.all {d : Kd α} {t : TypeId} {W : α → Prop} (h : ∀ N, OpensN P w d t W N) : Opens P w d t W := fun H enc base spare held fuel cs x => h fuel H enc base spare held fuel cs x (Nat.le_refl _)
theorem OpensN.less {d : Kd α} {t : TypeId} {W : α → Prop} {M : Nat} (h : OpensN P w d t W N) (hm : M ≤ N) : OpensN P w d t W M := fun H enc base spare held fuel cs x hf => h H enc base spare held fuel cs x (Nat.le_trans hf hm)
theorem OpensN.zero {d : Kd α} {t : TypeId} {W : α → Prop} : OpensN P w d t W 0 := fun H enc base spare held fuel cs x hf h => by
  obtain rfl : fuel = 0 := Nat.le_zero.1 hf
  simp [DataW.trod] at h
theorem OpensN.map {d : Kd β} {d' : Kd α} {t : TypeId} {W : β → Prop} {W' : α → Prop} (h : OpensN P w d t W N) (g : β → α) (hk : ∀ y cs, d.K w y cs → d'.K w (g y) cs) (hw : ∀ y, W y → W' (g y)) : OpensN P w d' t W' N := fun H enc base spare held fuel cs x hf hx hr => by
  obtain ⟨y, hK, hW⟩ := h H enc base spare held fuel cs x hf hx hr
  exact ⟨g y, hk y cs hK, hw y hW⟩
theorem opensN_slice {t e : TypeId} {d : Kd α} {W : α → Prop} (ht : P.underlying t = some (.slice e)) (hc : P.cellsOf e = d.sz) (he : OpensN P w d e W N) : OpensN P w (Kd.slice e d) t (fun l => l.length ≤ maxLen ∧ l.length * P.bytesOf e ≤ 140737488351232 ∧ ∀ x ∈ l, W x) (N + 1) := by
  intro H enc base spare held fuel cs x hf h hr
  rcases DataW.trod_slice ht h with ⟨rfl, _⟩ | ⟨a, len, cap, elems, rest, n, rfl, rfl, hx0, hb, hl, hm, hlen, hel, _⟩
  · exact ⟨[], ⟨none, 0, rfl, Nat.le_refl _, rfl, by simp, fun h => absurd h (by simp)⟩, by simp, by simp, by simp⟩
  · have hex : ∀ i, i < len → ∃ y : α, (∃ c, c.length = d.sz ∧ d.K w y c ∧ ∀ j u, c[j]? = some u → w.cell? (a.add (i * d.sz + j)) = some u) ∧ W y := by
      intro i hi
      have h1 := hel i hi
      rw [List.getElem?_eq_getElem (by omega)] at h1
      obtain ⟨c, hc1, hc2⟩ := Option.bind_eq_some_iff.1 h1
      obtain ⟨y, hK, hW⟩ := he _ enc base spare held n c _ (Nat.le_of_succ_le_succ hf) hc2 (fun m hm => hr m (by
        rw [hx0]
        simp only [DataW.weights, ht]
        refine List.mem_cons_of_mem _ (List.mem_append_left _ (mem_weightsAll (i := i) ?_ hm))
        rw [List.getElem?_map, List.getElem?_eq_getElem (by omega)]; rfl))
      obtain ⟨h3, h4⟩ := Go.Proofs.YtfeaekdhpkdljaaDoor.Opens.mapM_cells hc1
      refine ⟨y, ⟨c, by rw [h3, hc], hK, fun j u hj => ?_⟩, hW⟩
      have := h4 j u hj
      rw [Deep.add_add, hc] at this
      exact this
    obtain ⟨l, hl1, hl2⟩ := list_of len hex
    have hmx : maxLen = 9223372036854775807 := rfl
    refine ⟨l, ⟨some a, cap, by rw [hl1], by omega, rfl, by omega, fun hp => ⟨a, rfl, fun j p hj => (hl2 j p hj).1⟩⟩, by omega, ?_, fun x hx => ?_⟩
    · have := hr ((elems.length + rest.length) * P.bytesOf e) (by rw [hx0]; simp [DataW.weights, ht])
      rw [hl1, ← hlen]
      exact Nat.le_trans (Nat.mul_le_mul_right _ (Nat.le_add_right _ _)) this
    obtain ⟨i, hi, rfl⟩ := List.mem_iff_getElem.1 hx
    exact (hl2 i _ (List.getElem?_eq_getElem hi)).2
def OpensFN {α : Type} (P : Program) (w : World) (d : Kd α) (fs : List Field) (off : Nat) (W : α → Prop) (N : Nat) : Prop :=
  ∀ (H : Type) (enc : TypeId × Value → H) (base : Nat) (spare : Nat → Bool) (held : Bool) (fuel : Nat) (cs : List Value) (xs : List (DataW H × List MemPlace)), fuel ≤ N → cs.length = off + d.sz →
    fs.mapM (fun f => DataW.trod enc P w base spare held fuel f.type ((cs.drop f.offset).take (P.cellsOf f.type))) = some xs → (∀ n ∈ DataW.weightsEach P (fs.map (·.type)) (xs.map (·.1)), n ≤ reachBytes) → ∃ y : α, d.K w y (cs.drop off) ∧ W y
theorem opensFN_last {d : Kd α} {f : Field} {off : Nat} {W : α → Prop} (ho : f.offset = off) (hc : P.cellsOf f.type = d.sz) (h : OpensN P w d f.type W N) : OpensFN P w d [f] off W N := by
  intro H enc base spare held fuel cs xs hf hl hm hr
  have h0 := mapM_some_get hm 0 f rfl
  have hlen := mapM_some_length hm
  obtain ⟨x, rfl⟩ : ∃ x, xs = [x] := by
    cases xs with
    | nil => simp at hlen
    | cons x l => cases l with
      | nil => exact ⟨x, rfl⟩
      | cons y l => simp at hlen
  obtain ⟨y, hK, hW⟩ := h _ enc base spare held fuel _ _ hf h0 (fun n hn => hr n (by simpa [DataW.weightsEach] using hn))
  rw [ho, hc, List.take_of_length_le (by rw [List.length_drop]; omega)] at hK
  exact ⟨y, hK, hW⟩
theorem opensFN_cons {d : Kd α} {d' : Kd β} {f : Field} {fs : List Field} {off : Nat} {W : α → Prop} {W' : β → Prop} (ho : f.offset = off) (hc : P.cellsOf f.type = d.sz) (h : OpensN P w d f.type W N) (h' : OpensFN P w d' fs (off + d.sz) W' N) :
    OpensFN P w (Kd.pair d d') (f :: fs) off (fun x => W x.1 ∧ W' x.2) N := by
  intro H enc base spare held fuel cs xs hf hl hm hr
  have hl' : cs.length = off + (d.sz + d'.sz) := hl
  simp only [List.mapM_cons, Option.bind_eq_bind, Option.bind_eq_some_iff, Option.pure_def, Option.some.injEq] at hm
  obtain ⟨x, hx, xs', hxs, rfl⟩ := hm
  obtain ⟨y, hK, hW⟩ := h _ enc base spare held fuel _ _ hf hx (fun n hn => hr n (by simp only [List.map_cons, DataW.weightsEach]; exact List.mem_append_left _ hn))
  obtain ⟨z, hK', hW'⟩ := h' _ enc base spare held fuel cs xs' hf (by omega) hxs (fun n hn => hr n (by simp only [List.map_cons, DataW.weightsEach]; exact List.mem_append_right _ hn))
  rw [ho, hc] at hK
  refine ⟨(y, z), ⟨_, _, ?_, hK, hK'⟩, hW, hW'⟩
  rw [← List.drop_drop, List.take_append_drop]
theorem opensN_struct {t : TypeId} {fs : Array Field} {d : Kd β} {W : β → Prop} (ht : P.underlying t = some (.struct fs)) (hc : P.cellsOf t = d.sz) (hf : OpensFN P w d fs.toList 0 W N) : OpensN P w d t W (N + 1) := by
  intro H enc base spare held fuel cs x hfu h hr
  cases fuel with
  | zero => simp [DataW.trod] at h
  | succ n =>
    unfold DataW.trod at h
    rw [ht] at h
    have h2 : ∃ xs, cs.length = P.cellsOf t ∧ fs.toList.mapM (fun f => DataW.trod enc P w base spare held n f.type ((cs.drop f.offset).take (P.cellsOf f.type))) = some xs ∧ x.1 = .agg (xs.map (·.1)) := by
      split at h <;> simp_all
      obtain ⟨hl, xs, hx, he⟩ := h
      exact ⟨xs, hx, by rw [← he]⟩
    obtain ⟨xs, hl, hx, he⟩ := h2
    exact hf _ enc base spare held n cs xs (Nat.le_of_succ_le_succ hfu) (by omega) hx (fun m hm => hr m (by rw [he]; simp only [DataW.weights, ht]; exact hm))
end
/-! ### The kinds of this program -/
def V30 (e : S30) : Prop := ∀ n, wfE n e ∧ okF n e
def V33 (e : S33) : Prop := ∀ n, wfC n e ∧ okC n e
def V54 (s : S54) : Prop := ∀ n, wfS n s ∧ okSt n s
theorem rng {x : Int} (h : (Lit.int .i64 x).wf = true) : -9223372036854775808 ≤ x ∧ x ≤ 9223372036854775807 := bounds_i64 h
abbrev sl (l n : Nat) : Prop := l ≤ maxLen ∧ l * n ≤ 140737488351232
theorem v30_of {a b c : Int} {s : ByteArray} {l : List S30} (hb : -9223372036854775808 ≤ b ∧ b ≤ 9223372036854775807) (hs : s.size ≤ 140737488355328) (hl : l.length ≤ 140737488355328) (hx : ∀ x ∈ l, V30 x) : V30 ⟨a, b, c, s, l⟩ := fun n => by
  cases n with
  | zero => exact ⟨trivial, trivial⟩
  | succ n => exact ⟨⟨hs, hl, fun x h => (hx x h n).1⟩, hb, fun x h => (hx x h n).2⟩
theorem v33_of {a b : Int} {l : List S30} {m : List S33} (hl : l.length ≤ 140737488355328) (hm : m.length ≤ 140737488355328) (hx : ∀ x ∈ l, V30 x) (hy : ∀ x ∈ m, V33 x) : V33 ⟨a, b, l, m⟩ := fun n => by
  cases n with
  | zero => exact ⟨trivial, trivial⟩
  | succ n => exact ⟨⟨hl, hm, fun x h => (hx x h _).1, fun x h => (hy x h n).1⟩, fun x h => (hx x h _).2, fun x h => (hy x h n).2⟩
theorem v54_of {a : Int} {s : ByteArray} {e f : S30} {c : S33} {l m : List S54} (hs : s.size ≤ 140737488355328) (he : V30 e) (hf : V30 f) (hc : V33 c) (hl : l.length ≤ 140737488355328) (hm : m.length ≤ 140737488355328) (hx : ∀ x ∈ l, V54 x) (hy : ∀ x ∈ m, V54 x) : V54 ⟨a, s, e, f, c, l, m⟩ := fun n => by
  cases n with
  | zero => exact ⟨trivial, trivial⟩
  | succ n => exact ⟨⟨hs, (he _).1, (hf _).1, (hc _).1, ⟨hl, fun x h => (hx x h n).1⟩, hm, fun x h => (hy x h n).1⟩, (he _).2, (hf _).2, (hc _).2, fun x h => (hx x h n).2, fun x h => (hy x h n).2⟩
theorem b30 : Tryd.prog.bytesOf 30 = 64 := by kernel_rfl
theorem b33 : Tryd.prog.bytesOf 33 = 64 := by kernel_rfl
theorem b54 : Tryd.prog.bytesOf 54 = 264 := by kernel_rfl
theorem i3 {w : World} {N : Nat} : OpensN Tryd.prog w (Kd.int .i64) 3 (fun x => (Lit.int .i64 x).wf = true) N := OpensN.of (opens_int Tryd.underlying3)
theorem s9 {w : World} {N : Nat} : OpensN Tryd.prog w Kd.string 9 (fun s => s.size ≤ 140737488351232) N := OpensN.of (opens_string Tryd.underlying9)
theorem opens30N {w : World} : ∀ N, OpensN Tryd.prog w k30 30 V30 N
  | 0 => OpensN.zero
  | N + 1 => by
    have ih := opens30N (w := w) N
    have h := opensN_struct (P := Tryd.prog) (w := w) (N := N) (t := 30) Tryd.underlying30 (by kernel_rfl) (opensFN_cons rfl (by kernel_rfl) i3 (opensFN_cons rfl (by kernel_rfl) i3 (opensFN_cons rfl (by kernel_rfl) i3 (opensFN_cons rfl (by kernel_rfl) s9 (opensFN_last rfl (by kernel_rfl) ((opensN_slice Tryd.underlying28 (by kernel_rfl) ih).less (Nat.le_succ N)))))))
    refine h.map (fun y => ⟨y.1, y.2.1, y.2.2.1, y.2.2.2.1, y.2.2.2.2⟩) (fun y cs hk => ?_) (fun y hw => ?_)
    · obtain ⟨y1, y2, y3, y4, y5⟩ := y
      obtain ⟨_, _, rfl, rfl, ⟨_, _, rfl, rfl, ⟨_, _, rfl, rfl, ⟨_, _, rfl, rfl, ⟨A, c, rfl, l, g⟩⟩⟩⟩⟩ := hk
      exact k30_mk w ⟨y1, y2, y3, y4, y5⟩ l g
    · obtain ⟨_, h2, _, h4, h5, h6, h7⟩ := hw
      rw [b30] at h6
      exact v30_of (rng h2) (by omega) (by omega) h7
theorem opens30 {w : World} : Opens Tryd.prog w k30 30 V30 := OpensN.all opens30N
theorem opens33N {w : World} : ∀ N, OpensN Tryd.prog w k33 33 V33 N
  | 0 => OpensN.zero
  | N + 1 => by
    have ih := opens33N (w := w) N
    have h := opensN_struct (P := Tryd.prog) (w := w) (N := N) (t := 33) Tryd.underlying33 (by kernel_rfl) (opensFN_cons rfl (by kernel_rfl) i3 (opensFN_cons rfl (by kernel_rfl) i3 (opensFN_cons rfl (by kernel_rfl) (OpensN.of (opens_slice Tryd.underlying28 (by kernel_rfl) opens30)) (opensFN_last rfl (by kernel_rfl) ((opensN_slice Tryd.underlying31 (by kernel_rfl) ih).less (Nat.le_succ N))))))
    refine h.map (fun y => ⟨y.1, y.2.1, y.2.2.1, y.2.2.2⟩) (fun y cs hk => ?_) (fun y hw => ?_)
    · obtain ⟨y1, y2, y3, y4⟩ := y
      obtain ⟨_, _, rfl, rfl, ⟨_, _, rfl, rfl, ⟨_, _, rfl, ⟨A, c, rfl, l, g⟩, ⟨A', c', rfl, l', g'⟩⟩⟩⟩ := hk
      exact k33_mk w ⟨y1, y2, y3, y4⟩ l g l' g'
    · obtain ⟨_, _, ⟨_, h4, h5⟩, _, h6, h7⟩ := hw
      rw [b30] at h4
      rw [b33] at h6
      exact v33_of (by omega) (by omega) h5 h7
theorem opens33 {w : World} : Opens Tryd.prog w k33 33 V33 := OpensN.all opens33N
theorem opens54N {w : World} : ∀ N, OpensN Tryd.prog w k54 54 V54 N
  | 0 => OpensN.zero
  | N + 1 => by
    have ih := opens54N (w := w) N
    have hb := (opensN_slice Tryd.underlying50 (by kernel_rfl) ih).less (Nat.le_succ N)
    have h := opensN_struct (P := Tryd.prog) (w := w) (N := N) (t := 54) Tryd.underlying54 (by kernel_rfl) (opensFN_cons rfl (by kernel_rfl) i3 (opensFN_cons rfl (by kernel_rfl) s9 (opensFN_cons rfl (by kernel_rfl) (OpensN.of opens30) (opensFN_cons rfl (by kernel_rfl) (OpensN.of opens30) (opensFN_cons rfl (by kernel_rfl) (OpensN.of opens33) (opensFN_cons rfl (by kernel_rfl) hb (opensFN_last rfl (by kernel_rfl) hb)))))))
    refine h.map (fun y => ⟨y.1, y.2.1, y.2.2.1, y.2.2.2.1, y.2.2.2.2.1, y.2.2.2.2.2.1, y.2.2.2.2.2.2⟩) (fun y cs hk => ?_) (fun y hw => ?_)
    · obtain ⟨y1, y2, y3, y4, y5, y6, y7⟩ := y
      obtain ⟨_, _, rfl, rfl, ⟨_, _, rfl, rfl, ⟨_, _, rfl, k3, ⟨_, _, rfl, k4, ⟨_, _, rfl, k5, ⟨_, _, rfl, ⟨A6, c6, rfl, l6, g6⟩, ⟨A7, c7, rfl, l7, g7⟩⟩⟩⟩⟩⟩⟩ := hk
      obtain ⟨A3, c3, rfl, l3, g3⟩ := k30_open k3
      obtain ⟨A4, c4, rfl, l4, g4⟩ := k30_open k4
      obtain ⟨A5, c5, B5, d5, rfl, l5, g5, m5, n5⟩ := k33_open k5
      exact k54_mk w ⟨y1, y2, y3, y4, y5, y6, y7⟩ l3 g3 l4 g4 l5 g5 m5 n5 l6 g6 l7 g7
    · obtain ⟨_, h2, h3, h4, h5, ⟨_, h6, h6'⟩, _, h7, h7'⟩ := hw
      rw [b54] at h6 h7
      exact v54_of (by omega) h3 h4 h5 (by omega) (by omega) h6' h7'
theorem opens54 {w : World} : Opens Tryd.prog w k54 54 V54 := OpensN.all opens54N
/-! ### programs -/
def V59 (g : S59) : Prop := g.f0.size ≤ 140737488351232 ∧ (Lit.int .i64 g.f1).wf = true
def V61 (g : S61) : Prop := g.f0.size ≤ 140737488351232 ∧ (Lit.int .i64 g.f1).wf = true
def V52 (t : S52) : Prop := t.f0.size ≤ 140737488351232 ∧ (t.f1.length ≤ maxLen ∧ t.f1.length * Tryd.prog.bytesOf 9 ≤ 140737488351232 ∧ ∀ x ∈ t.f1, x.size ≤ 140737488351232) ∧ (t.f2.length ≤ maxLen ∧ t.f2.length * Tryd.prog.bytesOf 54 ≤ 140737488351232 ∧ ∀ x ∈ t.f2, V54 x)
theorem opens59 {w : World} : Opens Tryd.prog w k59 59 V59 := by
  have h := opens_struct (P := Tryd.prog) (w := w) (t := 59) (d := Kd.pair Kd.string (Kd.int .i64)) Tryd.underlying59 (by kernel_rfl) (opensF_cons rfl (by kernel_rfl) (opens_string Tryd.underlying9) (opensF_last rfl (by kernel_rfl) (opens_int Tryd.underlying3))) (fun x : S59 => (x.f0, x.f1)) (fun y => (⟨y.1, y.2⟩ : S59)) (fun _ => rfl)
  exact h
theorem opens61 {w : World} : Opens Tryd.prog w k61 61 V61 := by
  have h := opens_struct (P := Tryd.prog) (w := w) (t := 61) (d := Kd.pair Kd.string (Kd.int .i64)) Tryd.underlying61 (by kernel_rfl) (opensF_cons rfl (by kernel_rfl) (opens_string Tryd.underlying9) (opensF_last rfl (by kernel_rfl) (opens_int Tryd.underlying3))) (fun x : S61 => (x.f0, x.f1)) (fun y => (⟨y.1, y.2⟩ : S61)) (fun _ => rfl)
  exact h
theorem opens52 {w : World} : Opens Tryd.prog w k52 52 V52 := by
  have h := opens_struct (P := Tryd.prog) (w := w) (t := 52) (d := Kd.pair Kd.string (Kd.pair (Kd.slice 9 Kd.string) (Kd.slice 54 k54))) Tryd.underlying52 (by kernel_rfl) (opensF_cons rfl (by kernel_rfl) (opens_string Tryd.underlying9) (opensF_cons rfl (by kernel_rfl) (opens_slice Tryd.underlying24 (by kernel_rfl) (opens_string Tryd.underlying9)) (opensF_last rfl (by kernel_rfl) (opens_slice Tryd.underlying50 (by kernel_rfl) opens54)))) (fun x : S52 => (x.f0, x.f1, x.f2)) (fun y => (⟨y.1, y.2.1, y.2.2⟩ : S52)) (fun _ => rfl)
  exact h
structure S27 where
  f0 : List S59
  f1 : List S61
  f2 : List ByteArray
  f3 : List S52
def k27 : Kd S27 := Kd.iso (Kd.pair (Kd.slice 59 k59) (Kd.pair (Kd.slice 61 k61) (Kd.pair (Kd.slice 9 Kd.string) (Kd.slice 52 k52)))) (fun x : S27 => (x.f0, x.f1, x.f2, x.f3))
def V27 (p : S27) : Prop := (p.f0.length ≤ maxLen ∧ p.f0.length * Tryd.prog.bytesOf 59 ≤ 140737488351232 ∧ ∀ x ∈ p.f0, V59 x) ∧ (p.f1.length ≤ maxLen ∧ p.f1.length * Tryd.prog.bytesOf 61 ≤ 140737488351232 ∧ ∀ x ∈ p.f1, V61 x) ∧ (p.f2.length ≤ maxLen ∧ p.f2.length * Tryd.prog.bytesOf 9 ≤ 140737488351232 ∧ ∀ x ∈ p.f2, x.size ≤ 140737488351232) ∧ (p.f3.length ≤ maxLen ∧ p.f3.length * Tryd.prog.bytesOf 52 ≤ 140737488351232 ∧ ∀ x ∈ p.f3, V52 x)
theorem opens27 {w : World} : Opens Tryd.prog w k27 27 V27 := by
  have h := opens_struct (P := Tryd.prog) (w := w) (t := 27) (d := Kd.pair (Kd.slice 59 k59) (Kd.pair (Kd.slice 61 k61) (Kd.pair (Kd.slice 9 Kd.string) (Kd.slice 52 k52)))) Tryd.underlying27 (by kernel_rfl) (opensF_cons rfl (by kernel_rfl) (opens_slice Tryd.underlying22 (by kernel_rfl) opens59) (opensF_cons rfl (by kernel_rfl) (opens_slice Tryd.underlying23 (by kernel_rfl) opens61) (opensF_cons rfl (by kernel_rfl) (opens_slice Tryd.underlying24 (by kernel_rfl) (opens_string Tryd.underlying9)) (opensF_last rfl (by kernel_rfl) (opens_slice Tryd.underlying25 (by kernel_rfl) opens52))))) (fun x : S27 => (x.f0, x.f1, x.f2, x.f3)) (fun y => (⟨y.1, y.2.1, y.2.2.1, y.2.2.2⟩ : S27)) (fun _ => rfl)
  exact h
theorem b59 : Tryd.prog.bytesOf 59 = 24 := by kernel_rfl
theorem b61 : Tryd.prog.bytesOf 61 = 24 := by kernel_rfl
theorem b9 : Tryd.prog.bytesOf 9 = 16 := by kernel_rfl
theorem b52 : Tryd.prog.bytesOf 52 = 64 := by kernel_rfl
theorem wf_thread {t : S52} (h : V52 t) : wfT t := by
  obtain ⟨h0, ⟨_, h1, h1'⟩, _, h2, h2'⟩ := h
  rw [b9] at h1
  rw [b54] at h2
  exact ⟨by omega, by omega, fun m hm => by have := h1' m hm; omega, by omega, fun s hs => (h2' s hs _).1⟩
end Go.Proofs.YtfeaekdhpkdljaaDoor.Sh
