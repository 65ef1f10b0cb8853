/- slices.SortFunc at alarms, by either order: the row holds what the library's sort makes of it. -/
import Derived.Test.YtadnjibgdpjnlaaRpExtB
import Derived.Shelf.SlLaysF0
import Derived.Shelf.SlSortCmp.WholeK
import Derived.Shelf.SlSortCmp.NoneTotal
namespace Go.Proofs.Ytadnjibgdpjnlaa.Rp
open Go.RowKit Go.Proofs.YtadnjibgdpjnlaaW.PrintWords Go.Proofs.YtadnjibgdpjnlaaW.PrintLast Go.Proofs.YtadnjibgdpjnlaaW.PrintMore Go.Sort Go.Shelf
set_option linter.unusedVariables false
set_option linter.unusedSimpArgs false
def sortAl_ren : Go.Shelf.Ren := ⟨fun | 6 => 25 | 15 => 34 | 14 => 33 | 28 => 48 | 29 => 49 | 20 => 40 | 21 => 41 | 22 => 42 | 23 => 43 | 24 => 44 | 25 => 45 | 26 => 46 | 27 => 47 | 46 => 53 | 47 => 54 | 48 => 55 | 49 => 56 | 50 => 57 | 57 => 59 | n => n, fun | 22 => 33 | 24 => 24 | 25 => 44 | 3 => 3 | 39 => 61 | 0 => 0 | 53 => 83 | 55 => 85 | 4 => 4 | 46 => 76 | 45 => 75 | 50 => 80 | 5 => 5 | 9 => 9 | 66 => 88 | 70 => 92 | 76 => 94 | 77 => 95 | n => n, fun | n => n⟩
theorem sortAl : Go.Proofs.SlLaysF0.n6 Try.prog sortAl_ren := {
  mixed := by kernel_rfl,
  f6 := ⟨Try.f25.name, by decide, Try.func25.trans (congrArg some (by kernel_rfl))⟩,
  f14 := ⟨Try.f33.name, by decide, Try.func33.trans (congrArg some (by kernel_rfl))⟩,
  f15 := Try.func34.trans (congrArg some (by kernel_rfl)),
  f20 := ⟨Try.f40.name, by decide, Try.func40.trans (congrArg some (by kernel_rfl))⟩,
  f21 := ⟨Try.f41.name, by decide, Try.func41.trans (congrArg some (by kernel_rfl))⟩,
  f22 := ⟨Try.f42.name, by decide, Try.func42.trans (congrArg some (by kernel_rfl))⟩,
  f23 := ⟨Try.f43.name, by decide, Try.func43.trans (congrArg some (by kernel_rfl))⟩,
  f24 := ⟨Try.f44.name, by decide, Try.func44.trans (congrArg some (by kernel_rfl))⟩,
  f25 := ⟨Try.f45.name, by decide, Try.func45.trans (congrArg some (by kernel_rfl))⟩,
  f26 := ⟨Try.f46.name, by decide, Try.func46.trans (congrArg some (by kernel_rfl))⟩,
  f27 := ⟨Try.f47.name, by decide, Try.func47.trans (congrArg some (by kernel_rfl))⟩,
  f28 := Try.func48.trans (congrArg some (by kernel_rfl)),
  f29 := Try.func49.trans (congrArg some (by kernel_rfl)),
  f46 := ⟨Try.f53.name, by decide, Try.func53.trans (congrArg some (by kernel_rfl))⟩,
  f47 := Try.func54.trans (congrArg some (by kernel_rfl)),
  f48 := Try.func55.trans (congrArg some (by kernel_rfl)),
  f49 := ⟨Try.f56.name, by decide, Try.func56.trans (congrArg some (by kernel_rfl))⟩,
  f50 := ⟨Try.f57.name, by decide, Try.func57.trans (congrArg some (by kernel_rfl))⟩,
  f57 := ⟨Try.f59.name, by decide, Try.func59.trans (congrArg some (by kernel_rfl))⟩,
  t0 := Try.underlying0,
  a0 := Try.isAgg0,
  z0 := Try.sizeOf0,
  v0 := Try.zeroValue0,
  t3 := Try.underlying3,
  a3 := Try.isAgg3,
  z3 := Try.sizeOf3,
  v3 := Try.zeroValue3,
  t4 := Try.underlying4,
  a4 := Try.isAgg4,
  z4 := Try.sizeOf4,
  v4 := Try.zeroValue4,
  t5 := Try.underlying5,
  a5 := Try.isAgg5,
  z5 := Try.sizeOf5,
  v5 := Try.zeroValue5,
  t9 := Try.underlying9,
  a9 := Try.isAgg9,
  z9 := Try.sizeOf9,
  v9 := Try.zeroValue9,
  t22 := Try.underlying33,
  a22 := Try.isAgg33,
  z22 := Try.sizeOf33,
  v22 := Try.zeroValue33,
  t25 := Try.underlying44,
  a25 := Try.isAgg44,
  z25 := Try.sizeOf44,
  v25 := Try.zeroValue44,
  t39 := Try.underlying61,
  a39 := Try.isAgg61,
  z39 := Try.sizeOf61,
  v39 := Try.zeroValue61,
  t45 := Try.underlying75,
  a45 := Try.isAgg75,
  z45 := Try.sizeOf75,
  v45 := Try.zeroValue75,
  t46 := Try.underlying76,
  a46 := Try.isAgg76,
  z46 := Try.sizeOf76,
  v46 := Try.zeroValue76,
  t50 := Try.underlying80,
  a50 := Try.isAgg80,
  z50 := Try.sizeOf80,
  v50 := Try.zeroValue80,
  t53 := Try.underlying83,
  a53 := Try.isAgg83,
  z53 := Try.sizeOf83,
  v53 := Try.zeroValue83,
  t55 := Try.underlying85,
  a55 := Try.isAgg85,
  z55 := Try.sizeOf85,
  v55 := Try.zeroValue85,
  t66 := Try.underlying88,
  a66 := Try.isAgg88,
  z66 := Try.sizeOf88,
  v66 := Try.zeroValue88,
  t70 := Try.underlying92,
  a70 := Try.isAgg92,
  z70 := Try.sizeOf92,
  v70 := Try.zeroValue92,
  t76 := Try.underlying94,
  a76 := Try.isAgg94,
  z76 := Try.sizeOf94,
  v76 := Try.zeroValue94,
  t77 := Try.underlying95,
  a77 := Try.isAgg95,
  z77 := Try.sizeOf95,
  v77 := Try.zeroValue95 }

/-! ### The orders are strict weak orders -/
def negL (a b : List Int) : Bool := decide (orV (List.zipWith cmpV a b) < 0)
theorem negL_cons (a b : Int) (us vs : List Int) : negL (a :: us) (b :: vs) = (decide (a < b) || (decide (a = b) && negL us vs)) := by
  unfold negL
  simp only [List.zipWith_cons_cons, orV]
  by_cases h1 : a < b
  · have h : cmpV a b = -1 := by unfold cmpV; rw [if_pos h1]
    rw [h]; simp [h1]
  · by_cases h2 : b < a
    · have h : cmpV a b = 1 := by unfold cmpV; rw [if_neg h1, if_pos h2]
      rw [h]; have : a ≠ b := by omega
      simp [h1, this]
    · have h : cmpV a b = 0 := by unfold cmpV; rw [if_neg h1, if_neg h2]
      rw [h]; have : a = b := by omega
      simp [this]
theorem negL_irrefl : ∀ a, negL a a = false
  | [] => by simp [negL, orV]
  | a :: us => by rw [negL_cons, negL_irrefl us]; simp
theorem negL_trans : ∀ a b c : List Int, a.length = b.length → b.length = c.length → negL a b = true → negL b c = true → negL a c = true
  | [], _, _, _, _, h, _ => by simp [negL, orV] at h
  | a :: us, b :: vs, c :: cs, h1, h2, hab, hbc => by
    rw [negL_cons] at *
    have ih := negL_trans us vs cs (by simpa using h1) (by simpa using h2)
    simp only [Bool.or_eq_true, Bool.and_eq_true, decide_eq_true_eq] at *
    rcases hab with hab | ⟨rfl, hab⟩ <;> rcases hbc with hbc | ⟨rfl, hbc⟩
    · exact .inl (by omega)
    · exact .inl hab
    · exact .inl hbc
    · exact .inr ⟨rfl, ih hab hbc⟩
theorem negL_ntrans : ∀ a b c : List Int, a.length = b.length → b.length = c.length → negL a b = false → negL b c = false → negL a c = false
  | [], [], [], _, _, _, _ => by simp [negL, orV]
  | a :: us, b :: vs, c :: cs, h1, h2, hab, hbc => by
    rw [negL_cons] at *
    have ih := negL_ntrans us vs cs (by simpa using h1) (by simpa using h2)
    simp only [Bool.or_eq_false_iff, Bool.and_eq_false_iff, decide_eq_false_iff_not] at *
    refine ⟨by omega, ?_⟩
    by_cases e : a = c
    · right
      subst e
      have e2 : a = b := by omega
      subst e2
      exact ih (hab.2.resolve_left (fun h => h rfl)) (hbc.2.resolve_left (fun h => h rfl))
    · exact .inl e
def keyR (x : S24) : List Int := [x.f0, x.f1, x.f2, x.f3, x.f4, x.f5]
def keyC (x : S24) : List Int := [x.f1, x.f2, x.f4, x.f5]
theorem ltR (x y : S24) : ltOf cmpR x y = negL (keyR x) (keyR y) := rfl
theorem ltC (x y : S24) : ltOf cmpC x y = negL (keyC x) (keyC y) := rfl
theorem swoR : SWO (ltOf cmpR) where
  irrefl x := by rw [ltR, negL_irrefl]
  trans x y z h1 h2 := by rw [ltR] at *; exact negL_trans (keyR x) (keyR y) (keyR z) rfl rfl h1 h2
  ntrans x y z h1 h2 := by rw [ltR] at *; exact negL_ntrans (keyR x) (keyR y) (keyR z) rfl rfl h1 h2
theorem swoC : SWO (ltOf cmpC) where
  irrefl x := by rw [ltC, negL_irrefl]
  trans x y z h1 h2 := by rw [ltC] at *; exact negL_trans (keyC x) (keyC y) (keyC z) rfl rfl h1 h2
  ntrans x y z h1 h2 := by rw [ltC] at *; exact negL_ntrans (keyC x) (keyC y) (keyC z) rfl rfl h1 h2

/-! ### A row of alarms, flat -/
instance : Inhabited S24 := ⟨z24⟩
theorem flat_get (l : List S24) : ∀ t, (l.flatMap enc24)[t]? = (l[t / 6]?).bind fun x => (enc24 x)[t % 6]? := by
  induction l with
  | nil => intro t; simp
  | cons x l ih =>
    intro t
    rw [List.flatMap_cons]
    by_cases h : t < 6
    · rw [List.getElem?_append_left (by simpa [enc24] using h), show t / 6 = 0 by omega, show t % 6 = t by omega]; rfl
    · rw [List.getElem?_append_right (by simp [enc24]; omega), show (enc24 x).length = 6 from rfl, ih, show t / 6 = (t - 6) / 6 + 1 by omega, show t % 6 = (t - 6) % 6 by omega]; rfl
theorem flat_len (l : List S24) : (l.flatMap enc24).length = l.length * 6 := by
  induction l with
  | nil => rfl
  | cons x l ih => rw [List.flatMap_cons, List.length_append, ih, List.length_cons]; simp [enc24]; omega
theorem flatK_eq (l : List S24) : flatK enc24 6 l.toArray = (l.flatMap enc24).toArray := by
  refine ext_get! (by rw [size_flatK, List.size_toArray, List.size_toArray, flat_len]) fun t ht => ?_
  have ht' : t < l.length * 6 := by simpa using ht
  rw [get_flatK _ _ _ _ (by simpa using ht')]
  have h1 : t / 6 < l.length := by omega
  have h2 : t < (l.flatMap enc24).length := by rw [flat_len]; exact ht'
  have h3 := flat_get l t
  rw [List.getElem?_eq_getElem h2, List.getElem?_eq_getElem h1] at h3
  rw [getElem!_pos _ t (by simpa using h2)]
  rw [show (l.toArray)[t / 6]! = l[t / 6] by rw [getElem!_pos _ _ (by simpa using h1)]; simp]
  simp only [Option.bind_some] at h3
  have h4 : t % 6 < (enc24 l[t / 6]).length := by simp [enc24]; omega
  rw [List.getElem?_eq_getElem h4] at h3
  rw [getElem!_pos (enc24 l[t / 6]) (t % 6) h4]
  exact (Option.some.inj h3).symm
theorem reps_flat {Rr : S24 → List Value → Prop} (hR : ∀ x c, Rr x c → c = enc24 x) : ∀ (l : List S24) (cs : List Value), Reps Rr 6 l cs → cs = l.flatMap enc24
  | [], cs, h => by have := h.1; simp at this; rw [this]; rfl
  | x :: l, cs, h => by
    have h0 := hR _ _ (h.2 0 x rfl)
    simp only [Nat.zero_mul, List.drop_zero] at h0
    have h1 : Reps Rr 6 l (cs.drop 6) := by
      refine ⟨by have := h.1; simp at this ⊢; omega, fun j p hj => ?_⟩
      have := h.2 (j + 1) p (by simpa using hj)
      rw [List.drop_drop, show 6 + j * 6 = (j + 1) * 6 by omega]; exact this
    have := reps_flat hR l _ h1
    rw [List.flatMap_cons, ← this, ← h0, List.take_append_drop]
theorem flat_reps {Rr : S24 → List Value → Prop} (hR : ∀ x, Rr x (enc24 x)) : ∀ (l : List S24), Reps Rr 6 l (l.flatMap enc24)
  | [] => Reps.none _ _
  | x :: l => by
    have ih := flat_reps hR l
    refine ⟨by rw [flat_len], fun j p hj => ?_⟩
    cases j with
    | zero =>
      simp at hj; subst hj
      rw [List.flatMap_cons]; simp [enc24]; exact hR x
    | succ j =>
      have := ih.2 j p (by simpa using hj)
      rw [List.flatMap_cons, show (j + 1) * 6 = (enc24 x).length + j * 6 by simp [enc24]; omega, ← List.drop_drop, List.drop_left]
      exact this
theorem R_flat {w : World} {base : Nat} {ok : Nat → Prop} {u : Value} {l : List S24} (h : Kd.R k24 24 w base ok u l) :
    (u = .slice none 0 0 ∧ l = []) ∨ ∃ g cap cur, u = .slice (some ⟨g, 0, none⟩) l.length cap ∧ base ≤ g ∧ w.heap[g]? = some (.cells cur 24 (0, 0)) ∧ l.length ≤ cap ∧ cap ≤ maxLen ∧ cur.size = cap * 6 ∧ cur.toList.take (l.length * 6) = l.flatMap enc24 ∧ ok g := by
  obtain ⟨h0, inner, ⟨h1, h2⟩, hr⟩ := h
  rcases h2 with ⟨rfl, hn⟩ | ⟨g, cap, cur, rfl, hb, hg, hc, hm, hs, ht⟩
  · exact .inl ⟨rfl, List.eq_nil_of_length_eq_zero hn⟩
  · refine .inr ⟨g, cap, cur, rfl, hb, hg, hc, hm, hs, ?_, h0 g rfl⟩
    exact ht.trans (reps_flat (fun x c hx => k24_openM hx) l inner hr)
theorem R_of_flat {w : World} {base : Nat} {ok : Nat → Prop} {g cap : Nat} {cur : Array Value} {l : List S24} (hb : base ≤ g) (hg : w.heap[g]? = some (.cells cur 24 (0, 0))) (hc : l.length ≤ cap) (hm : cap ≤ maxLen) (hs : cur.size = cap * 6) (ht : cur.toList.take (l.length * 6) = l.flatMap enc24) (ho : ok g) :
    Kd.R k24 24 w base ok (.slice (some ⟨g, 0, none⟩) l.length cap) l := by
  refine ⟨fun k hk => ?_, l.flatMap enc24, ⟨flat_len l, .inr ⟨g, cap, cur, rfl, hb, hg, hc, hm, hs, ht⟩⟩, flat_reps (fun x => k24_mkM _ _ _ _) l⟩
  have : g = k := by simpa [Value.ownBlock] using hk
  exact this ▸ ho
theorem holds_flat {w : World} {g cap : Nat} {cur : Array Value} {l : List S24} (hg : w.heap[g]? = some (.cells cur 24 (0, 0))) (hc : l.length ≤ cap) (hs : cur.size = cap * 6) (ht : cur.toList.take (l.length * 6) = l.flatMap enc24) : HoldsK enc24 6 w g 0 l.toArray := by
  intro j hj
  have hj' : j < l.length * 6 := by simpa using hj
  rw [Nat.zero_add, cell_of_row w g j cur 24 (0, 0) hg]
  refine ⟨?_, blk_frozen hg j⟩
  rw [flatK_eq, getElem!_pos _ j (by rw [List.size_toArray, flat_len]; exact hj')]
  have h1 : (cur.toList.take (l.length * 6))[j]? = (l.flatMap enc24)[j]? := by rw [ht]
  rw [List.getElem?_take, if_pos hj'] at h1
  rw [Array.getElem?_toList] at h1
  rw [h1, List.getElem?_eq_getElem (by rw [flat_len]; exact hj')]
  simp
theorem put_flat (cur : Array Value) (l : List S24) (h : l.length * 6 ≤ cur.size) : (putCells id 0 (flatK enc24 6 l.toArray) cur).size = cur.size ∧ (putCells id 0 (flatK enc24 6 l.toArray) cur).toList.take (l.length * 6) = l.flatMap enc24 := by
  refine ⟨by simp [putCells], ?_⟩
  apply List.ext_getElem?
  intro j
  rw [List.getElem?_take]
  by_cases hj : j < l.length * 6
  · rw [if_pos hj, Array.getElem?_toList, putCells, Array.getElem?_mapIdx, Array.getElem?_eq_getElem (by omega), Option.map_some, if_pos ⟨Nat.zero_le _, by simpa using hj⟩, flatK_eq, Nat.sub_zero, getElem!_pos _ j (by rw [List.size_toArray, flat_len]; exact hj)]
    rw [List.getElem?_eq_getElem (by rw [flat_len]; exact hj)]
    simp
  · rw [if_neg hj, List.getElem?_eq_none (by rw [flat_len]; omega)]
theorem sorted_heap {w : World} {g : Nat} {cur : Array Value} (hg : w.heap[g]? = some (.cells cur 24 (0, 0))) (n : Nat) (d : Array S24) (os : Array Obj) : (sortWorldK enc24 6 w g 0 n d os).heap[g]? = some (.cells (putCells id 0 (flatK enc24 6 d) cur) 24 (0, 0)) ∧ (∀ k, k < w.heap.size → k ≠ g → (sortWorldK enc24 6 w g 0 n d os).heap[k]? = w.heap[k]?) ∧ w.heap.size ≤ (sortWorldK enc24 6 w g 0 n d os).heap.size := by
  have hlt : g < w.heap.size := blk_lt hg
  have hm : ∀ k, k < w.heap.size → (sortWorldK enc24 6 w g 0 n d os).heap[k]? = (w.heap.modify g (onCells (putCells id 0 (flatK enc24 6 d))))[k]? := by
    intro k hk
    show ((w.heap.modify g (onCells (putCells id 0 (flatK enc24 6 d)))) ++ os)[k]? = _
    rw [Array.getElem?_append_left (by simpa using hk)]
  refine ⟨?_, ?_, ?_⟩
  · rw [hm g hlt, Array.getElem?_modify, if_pos rfl, hg]; rfl
  · intro k hk hne
    rw [hm k hk, Array.getElem?_modify, if_neg (Ne.symm hne)]
  · show w.heap.size ≤ ((w.heap.modify g (onCells (putCells id 0 (flatK enc24 6 d)))) ++ os).size
    simp

/-! ### The contract -/
def pdqL (cf : S24 → S24 → Int) (l : List S24) : List S24 := (pdq (ltOf cf) l.toArray 0 l.length (Lib.bitLen l.length) true true).toList
theorem pdqL_spec (cf : S24 → S24 → Int) (hO : SWO (ltOf cf)) (l : List S24) : (pdqL cf l).length = l.length ∧ (pdqL cf l).Perm l ∧ SortedIn (ltOf cf) 0 l.length (pdqL cf l).toArray := by
  have h := pdq_sorts (ltOf cf) hO l.toArray 0 l.length (Lib.bitLen l.length) true true (Nat.zero_le _) (by simp) (Or.inl rfl)
  have hs : (pdq (ltOf cf) l.toArray 0 l.length (Lib.bitLen l.length) true true).size = l.length := by have := h.1.1; simpa using this
  refine ⟨by unfold pdqL; simpa using hs, ?_, ?_⟩
  · have := h.1.2.2
    rw [Array.extract_eq_self_of_le (by omega), Array.extract_eq_self_of_le (by simp)] at this
    simpa [pdqL] using this
  · unfold pdqL; simpa using h.2
def api_Alarm_25.f (_k : Nat) (l0 : List S24) (a1 : Nat) : Option (List S24) :=
  if l0.length < 4611686018427387904 then (if a1 = 26 then some (pdqL cmpR l0) else if a1 = 30 then some (pdqL cmpC l0) else none) else none
theorem api_Alarm_25.mono : ∀ a0 a1 k, LeO (api_Alarm_25.f k a0 a1) (api_Alarm_25.f (k + 1) a0 a1) := fun _ _ _ => LeO.refl _
theorem sort_any (cf : S24 → S24 → Int) (hO : SWO (ltOf cf)) (a1 : Nat) (eg : ∀ args w, (callFunc a1 args).run Try.prog w = .ok (.enter a1 args) w) (hcf : ∀ x y w, Calls Try.prog a1 #[.agg (enc24 x).toArray, .agg (enc24 y).toArray] w fun e w' => e = .returned (.int .i64 (cf x y)) ∧ ∃ q os', w' = grow (w.drewN q) os')
    (P0_ : Nat → Prop) (u9000_ : Value) (l0 : List S24) (w0 w : World) (hB : Below w0.heap.size w0 w) (ho0 : Kd.R k24 24 w w0.heap.size P0_ u9000_ l0) (hl : l0.length < 4611686018427387904) :
    Calls Try.prog 25 #[u9000_, .func (.func a1) #[] #[]] w fun e w' => e = .returned (.tuple #[]) ∧ Kd.R k24 24 w' w0.heap.size P0_ u9000_ (pdqL cf l0) ∧ Below w0.heap.size w0 w' ∧ Kept w w' P0_ := by
  rcases R_flat ho0 with ⟨rfl, rfl⟩ | ⟨g, cap, cur, rfl, hb, hg, hc, hm, hs, ht, hok⟩
  · have h := AnyF.slices_SortFunc_none sortAl none 0 (.func (.func a1) #[] #[]) w
    refine h.mono fun e w' ⟨he, hw⟩ => ?_
    subst hw
    have hp : pdqL cf [] = [] := List.eq_nil_of_length_eq_zero (pdqL_spec cf hO []).1
    rw [hp]
    exact ⟨he, ho0, hB, Kept.refl _ _⟩
  · have h := AnyQ.slices_SortFunc_eq sortAl 6 Try.isAgg24 Try.sizeOf24 enc24 (fun _ => rfl) (fun x v hv => by simp [enc24] at hv; rcases hv with rfl | rfl | rfl | rfl | rfl | rfl <;> rfl) cf hO a1 #[] g 0 cap l0.toArray w eg (fun m os dk _ x y => hcf x y _) (holds_flat hg hc hs ht) (blk_lt hg) (by simpa using hl)
    refine h.mono fun e w' ⟨he, n, os, hw⟩ => ?_
    subst hw
    have hlen := (pdqL_spec cf hO l0).1
    obtain ⟨h1, h2, h3⟩ := sorted_heap hg n (pdqL cf l0).toArray os
    have hd : (pdq (ltOf cf) l0.toArray 0 l0.toArray.size (Lib.bitLen l0.toArray.size) true true) = (pdqL cf l0).toArray := by simp [pdqL]
    rw [hd]
    obtain ⟨p1, p2⟩ := put_flat cur (pdqL cf l0) (by rw [hlen, hs]; exact Nat.mul_le_mul_right _ hc)
    refine ⟨he, ?_, ?_, ?_⟩
    · have := R_of_flat (ok := P0_) hb h1 (l := pdqL cf l0) (cap := cap) (by omega) hm (by rw [p1, hs]) p2 hok
      rwa [hlen] at this
    · exact ⟨hB.os, hB.tape, hB.output, Nat.le_trans hB.size h3, fun k hk => (h2 k (Nat.lt_of_lt_of_le hk hB.size) (by omega)).trans (hB.block k hk)⟩
    · exact ⟨h3, fun k hk hn => h2 k hk (fun e => hn (e ▸ hok))⟩
theorem api_Alarm_25.calls (k : Nat) (P0_ : Nat → Prop) (u9000_ : Value) (l0 : List S24) (a1 : Nat) (r : List S24) (w0 w : World) (hB : Below w0.heap.size w0 w) (ho0 : Kd.R k24 24 w w0.heap.size P0_ u9000_ l0) (h : api_Alarm_25.f k l0 a1 = some r) :
    Calls Try.prog 25 #[u9000_, .func (.func a1) #[] #[]] w fun e w' => e = .returned (.tuple #[]) ∧ Kd.R k24 24 w' w0.heap.size P0_ u9000_ r ∧ Below w0.heap.size w0 w' ∧ Kept w w' P0_ := by
  unfold api_Alarm_25.f at h
  by_cases hl : l0.length < 4611686018427387904
  · rw [if_pos hl] at h
    by_cases h26 : a1 = 26
    · subst h26
      rw [if_pos rfl] at h
      obtain rfl := Option.some.inj h
      exact sort_any cmpR swoR 26 (enters_of Try.func26 (by kernel_rfl) rfl) report_order_grow P0_ u9000_ l0 w0 w hB ho0 hl
    · rw [if_neg h26] at h
      by_cases h30 : a1 = 30
      · subst h30
        rw [if_pos rfl] at h
        obtain rfl := Option.some.inj h
        exact sort_any cmpC swoC 30 (enters_of Try.func30 (by kernel_rfl) rfl) clash_order_grow P0_ u9000_ l0 w0 w hB ho0 hl
      · rw [if_neg h30] at h; cases h
  · rw [if_neg hl] at h; cases h
end Go.Proofs.Ytadnjibgdpjnlaa.Rp
