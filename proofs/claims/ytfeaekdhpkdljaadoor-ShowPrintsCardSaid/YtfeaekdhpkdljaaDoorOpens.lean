/- From what a row reads (a value that can be read as data) to what a contract asks (kinds): scalars, slices, structs, and slices of these. -/
import Derived.Test.YtfeaekdhpkdljaaDoorWMore
import Derived.Test.YtfeaekdhpkdljaaDoorWSized
import Derived.ChangeArms
import Derived.ChangeSame
import Derived.WideShapes
import Derived.Deep.Slices
import Derived.SizedLaws
namespace Go.Proofs.YtfeaekdhpkdljaaDoor.Opens
open Go.RowKit Go.ChangeShapes Go.WideShapes Go.Proofs.YtfeaekdhpkdljaaDoorW.PrintWords
/-- What reads as data of type t is of this kind, and W holds of it. -/
def Opens {α : Type} (P : Program) (w : World) (d : Kd α) (t : TypeId) (W : α → Prop) : Prop :=
  ∀ (H : Type) (enc : TypeId × Value → H) (base : Nat) (spare : Nat → Bool) (held : Bool) (fuel : Nat) (cs : List Value) (x : DataW H × List MemPlace), DataW.trod enc P w base spare held fuel t cs = some x → (∀ n ∈ x.1.weights P t, n ≤ reachBytes) → ∃ y : α, d.K w y cs ∧ W y
section
variable {P : Program} {w : World} {α β : Type}
theorem opens_int {t : TypeId} {k : IntKind} (ht : P.underlying t = some (.int k)) : Opens P w (Kd.int k) t (fun x => (Lit.int k x).wf = true) := by
  intro H enc base spare held fuel cs x h _
  obtain ⟨n, rfl, _, hw⟩ := DataW.trod_int ht h
  exact ⟨n, rfl, hw⟩
theorem opens_string {t : TypeId} (ht : P.underlying t = some .string) : Opens P w Kd.string t (fun s => s.size ≤ 140737488351232) := by
  intro H enc base spare held fuel cs x h hr
  obtain ⟨s, rfl, hx, hs⟩ := DataW.trod_string ht h
  refine ⟨s, rfl, ?_⟩
  have := hr s.data.toList.length (by rw [hx]; simp [DataW.weights])
  have e : s.data.toList.length = s.size := Array.length_toList
  rw [e] at this
  exact this
theorem list_of {α : Type} {p : Nat → α → Prop} : ∀ n, (∀ i, i < n → ∃ y, p i y) → ∃ l : List α, l.length = n ∧ ∀ i y, l[i]? = some y → p i y
  | 0, _ => ⟨[], rfl, fun i y h => by simp at h⟩
  | m + 1, h => by
    obtain ⟨l, hl1, hl2⟩ := list_of m (fun i hi => h i (by omega))
    obtain ⟨y, hy⟩ := h m (by omega)
    refine ⟨l ++ [y], by simp [hl1], fun i z hz => ?_⟩
    have hlt : i < m + 1 := by have := (List.getElem?_eq_some_iff.1 hz).1; simp [hl1] at this; exact this
    by_cases hi : i < m
    · rw [List.getElem?_append_left (by omega)] at hz; exact hl2 i z hz
    · obtain rfl : i = m := by omega
      rw [List.getElem?_append_right (by omega), hl1, Nat.sub_self] at hz
      obtain rfl := Option.some.inj hz
      exact hy
theorem mapM_cells {w : World} {a : Addr} {n : Nat} {base : Nat} {c : List Value} (h : w.cells? base a n = some c) : c.length = n ∧ ∀ j u, c[j]? = some u → w.cell? (a.add j) = some u := by
  unfold World.cells? at h
  split at h
  · have h1 := mapM_some_length h
    have h2 : c.length = n := by rw [h1]; simp
    refine ⟨h2, fun j u hj => ?_⟩
    have hlt : j < n := by have := (List.getElem?_eq_some_iff.1 hj).1; omega
    have h3 := mapM_some_get h j j (by simp [hlt])
    rw [hj] at h3
    exact h3
  · cases h
theorem mem_weightsAll {H : Type} {P : Program} {e : TypeId} : ∀ {ds : List (DataW H)} {i : Nat} {d : DataW H}, ds[i]? = some d → ∀ {n : Nat}, n ∈ d.weights P e → n ∈ DataW.weightsAll P e ds
  | [], _, _, h, _, _ => by simp at h
  | d0 :: ds, 0, d, h, n, hn => by
    simp only [List.getElem?_cons_zero, Option.some.injEq] at h
    subst h
    exact List.mem_append_left _ hn
  | d0 :: ds, i + 1, d, h, n, hn => by
    simp only [List.getElem?_cons_succ] at h
    exact List.mem_append_right _ (mem_weightsAll h hn)
theorem opens_slice {t e : TypeId} {d : Kd α} {W : α → Prop} (ht : P.underlying t = some (.slice e)) (hc : P.cellsOf e = d.sz) (he : Opens P w d e W) : Opens P w (Kd.slice e d) t (fun l => l.length ≤ maxLen ∧ l.length * P.bytesOf e ≤ 140737488351232 ∧ ∀ x ∈ l, W x) := by
  intro H enc base spare held fuel cs x h hr
  rcases DataW.trod_slice ht h with ⟨rfl, _⟩ | ⟨a, len, cap, elems, rest, n, rfl, rfl, hx0, hb, hl, hm, hlen, hel, _⟩
  · exact ⟨[], ⟨none, 0, rfl, Nat.le_refl _, rfl, by simp, fun h => absurd h (by simp)⟩, by simp, by simp, by simp⟩
  · have hex : ∀ i, i < len → ∃ y : α, (∃ c, c.length = d.sz ∧ d.K w y c ∧ ∀ j u, c[j]? = some u → w.cell? (a.add (i * d.sz + j)) = some u) ∧ W y := by
      intro i hi
      have h1 := hel i hi
      rw [List.getElem?_eq_getElem (by omega)] at h1
      obtain ⟨c, hc1, hc2⟩ := Option.bind_eq_some_iff.1 h1
      obtain ⟨y, hK, hW⟩ := he _ enc base spare held n c _ hc2 (fun m hm => hr m (by
        rw [hx0]
        simp only [DataW.weights, ht]
        refine List.mem_cons_of_mem _ (List.mem_append_left _ (mem_weightsAll (i := i) ?_ hm))
        rw [List.getElem?_map, List.getElem?_eq_getElem (by omega)]; rfl))
      obtain ⟨h3, h4⟩ := mapM_cells hc1
      refine ⟨y, ⟨c, by rw [h3, hc], hK, fun j u hj => ?_⟩, hW⟩
      have := h4 j u hj
      rw [Deep.add_add, hc] at this
      exact this
    obtain ⟨l, hl1, hl2⟩ := list_of len hex
    have hmx : maxLen = 9223372036854775807 := rfl
    refine ⟨l, ⟨some a, cap, by rw [hl1], by omega, rfl, by omega, fun hp => ⟨a, rfl, fun j p hj => (hl2 j p hj).1⟩⟩, by omega, ?_, fun x hx => ?_⟩
    · have := hr ((elems.length + rest.length) * P.bytesOf e) (by rw [hx0]; simp [DataW.weights, ht])
      rw [hl1, ← hlen]
      exact Nat.le_trans (Nat.mul_le_mul_right _ (Nat.le_add_right _ _)) this
    obtain ⟨i, hi, rfl⟩ := List.mem_iff_getElem.1 hx
    exact (hl2 i _ (List.getElem?_eq_getElem hi)).2
/-- The fields of a struct, from the one at 'off' on. -/
def OpensF {α : Type} (P : Program) (w : World) (d : Kd α) (fs : List Field) (off : Nat) (W : α → Prop) : Prop :=
  ∀ (H : Type) (enc : TypeId × Value → H) (base : Nat) (spare : Nat → Bool) (held : Bool) (fuel : Nat) (cs : List Value) (xs : List (DataW H × List MemPlace)), cs.length = off + d.sz →
    fs.mapM (fun f => DataW.trod enc P w base spare held fuel f.type ((cs.drop f.offset).take (P.cellsOf f.type))) = some xs → (∀ n ∈ DataW.weightsEach P (fs.map (·.type)) (xs.map (·.1)), n ≤ reachBytes) → ∃ y : α, d.K w y (cs.drop off) ∧ W y
theorem opensF_last {d : Kd α} {f : Field} {off : Nat} {W : α → Prop} (ho : f.offset = off) (hc : P.cellsOf f.type = d.sz) (h : Opens P w d f.type W) : OpensF P w d [f] off W := by
  intro H enc base spare held fuel cs xs hl hm hr
  have h0 := mapM_some_get hm 0 f rfl
  have hlen := mapM_some_length hm
  obtain ⟨x, rfl⟩ : ∃ x, xs = [x] := by
    cases xs with
    | nil => simp at hlen
    | cons x l => cases l with
      | nil => exact ⟨x, rfl⟩
      | cons y l => simp at hlen
  obtain ⟨y, hK, hW⟩ := h _ enc base spare held fuel _ _ h0 (fun n hn => hr n (by simpa [DataW.weightsEach] using hn))
  rw [ho, hc, List.take_of_length_le (by rw [List.length_drop]; omega)] at hK
  exact ⟨y, hK, hW⟩
theorem opensF_cons {d : Kd α} {d' : Kd β} {f : Field} {fs : List Field} {off : Nat} {W : α → Prop} {W' : β → Prop} (ho : f.offset = off) (hc : P.cellsOf f.type = d.sz) (h : Opens P w d f.type W) (h' : OpensF P w d' fs (off + d.sz) W') :
    OpensF P w (Kd.pair d d') (f :: fs) off (fun x => W x.1 ∧ W' x.2) := by
  intro H enc base spare held fuel cs xs hl hm hr
  have hl' : cs.length = off + (d.sz + d'.sz) := hl
  simp only [List.mapM_cons, Option.bind_eq_bind, Option.bind_eq_some_iff, Option.pure_def, Option.some.injEq] at hm
  obtain ⟨x, hx, xs', hxs, rfl⟩ := hm
  obtain ⟨y, hK, hW⟩ := h _ enc base spare held fuel _ _ hx (fun n hn => hr n (by simp only [List.map_cons, DataW.weightsEach]; exact List.mem_append_left _ hn))
  obtain ⟨z, hK', hW'⟩ := h' _ enc base spare held fuel cs xs' (by omega) hxs (fun n hn => hr n (by simp only [List.map_cons, DataW.weightsEach]; exact List.mem_append_right _ hn))
  rw [ho, hc] at hK
  refine ⟨(y, z), ⟨_, _, ?_, hK, hK'⟩, hW, hW'⟩
  rw [← List.drop_drop, List.take_append_drop]
theorem opens_struct {t : TypeId} {fs : Array Field} {d : Kd β} {W : β → Prop} (ht : P.underlying t = some (.struct fs)) (hc : P.cellsOf t = d.sz) (hf : OpensF P w d fs.toList 0 W) {α : Type} (f : α → β) (g : β → α) (hfg : ∀ x, f (g x) = x) : Opens P w (Kd.iso d f) t (fun x => W (f x)) := by
  intro H enc base spare held fuel cs x h hr
  cases fuel with
  | zero => simp [DataW.trod] at h
  | succ n =>
    unfold DataW.trod at h
    rw [ht] at h
    have h2 : ∃ xs, cs.length = P.cellsOf t ∧ fs.toList.mapM (fun f => DataW.trod enc P w base spare held n f.type ((cs.drop f.offset).take (P.cellsOf f.type))) = some xs ∧ x.1 = .agg (xs.map (·.1)) := by
      split at h <;> simp_all
      obtain ⟨hl, xs, hx, he⟩ := h
      exact ⟨xs, hx, by rw [← he]⟩
    obtain ⟨xs, hl, hx, he⟩ := h2
    obtain ⟨y, hK, hW⟩ := hf _ enc base spare held n cs xs (by omega) hx (fun m hm => hr m (by rw [he]; simp only [DataW.weights, ht]; exact hm))
    refine ⟨g y, ?_, ?_⟩
    · show d.K w (f (g y)) cs
      rw [hfg]; exact hK
    · show W (f (g y))
      rw [hfg]; exact hW
/-- An argument that is a struct. -/
theorem arg_struct {H : Type} {enc : TypeId × Value → H} {base : Nat} {spare : Nat → Bool} {held : Bool} {t : TypeId} {d : Kd α} {W : α → Prop} {cs : Array Value} {x : DataW H} {p : List MemPlace} (he : Opens P w d t W)
    (h : DataW.Trod enc P w base spare held t (.agg cs) x p) (hr : ∀ n ∈ x.weights P t, n ≤ reachBytes) : ∃ y : α, d.K w y cs.toList ∧ W y := by
  obtain ⟨fuel, hf⟩ := h
  exact he _ enc base spare held fuel _ _ hf hr
theorem wts {H : Type} {P : Program} {ts : List TypeId} {ds : List (DataW H)} (hsz : (DataW.weightsEach P ts ds).all (· ≤ reachBytes) = true) {j : Nat} {t : TypeId} {d : DataW H} (ht : ts[j]? = some t) (hd : ds[j]? = some d) : ∀ n ∈ d.weights P t, n ≤ reachBytes := fun n hn => by
  have := List.all_eq_true.1 hsz _ (DataW.weights_mem_each ht hd n hn)
  simpa using this
end
end Go.Proofs.YtfeaekdhpkdljaaDoor.Opens
