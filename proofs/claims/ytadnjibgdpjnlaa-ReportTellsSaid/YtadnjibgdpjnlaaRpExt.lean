/- The library's Clone, SortFunc and Compact at alarms. -/
import Derived.Test.YtadnjibgdpjnlaaRpx0
import Derived.Lib.BufferMore
import Derived.Outline
import Derived.Test.YtadnjibgdpjnlaaRpExtB
import Derived.Shelf.SlLaysF0
import Derived.Shelf.SlSortCmp.WholeK
import Derived.Shelf.SlSortCmp.NoneTotal
import Derived.Test.YtadnjibgdpjnlaaRpx1
import Derived.Lib.SlicesCompact
import Derived.Lib.SliceRun
import Derived.Shelf.RegionOpenPlain
namespace Go.Proofs.Ytadnjibgdpjnlaa.Rp
open Go.RowKit Go.Proofs.YtadnjibgdpjnlaaW.PrintWords Go.Proofs.YtadnjibgdpjnlaaW.PrintLast Go.Proofs.YtadnjibgdpjnlaaW.PrintMore
set_option linter.unusedVariables false
set_option linter.unusedSimpArgs false

def api_Alarm_24.f (_k : Nat) (l0 : List S24) : Option (List S24) := if l0.length < 2932031007402 then some l0 else none
theorem api_Alarm_24.mono : ∀ a0 k, LeO (api_Alarm_24.f k a0) (api_Alarm_24.f (k + 1) a0) := fun _ _ => LeO.refl _
set_option maxHeartbeats 1000000 in
set_option maxRecDepth 100000 in
theorem api_Alarm_24.calls (k : Nat) (A0 : Option Addr) (c0 : Nat) (l0 : List S24) (r : List S24) (w : World) (hr0 : Kd.C k24 w A0 l0.length l0) (hc0 : l0.length ≤ c0) (h : api_Alarm_24.f k l0 = some r) :
    Calls Try.prog 24 #[.slice A0 l0.length c0] w fun e w' => ∃ v0_ : Value, e = .returned (v0_) ∧ Kd.R k24 24 w' w.heap.size (fun _ => True) v0_ r ∧ Below w.heap.size w w' := by
  unfold api_Alarm_24.f at h
  by_cases hl : l0.length < 2932031007402
  · rw [if_pos hl] at h
    obtain rfl := Option.some.inj h
    clear h
    have HR0 := Aside0.mk hr0
    have HC0 := Aside0.mk hc0
    have HL := Aside0.mk hl
    cases A0 with
    | none =>
      have hz : l0 = [] := by
        cases l0 with
        | nil => rfl
        | cons x l => obtain ⟨ad, h, _⟩ := hr0.2.2 (by simp); cases h
      subst hz
      clear hr0 hc0 hl
      have q : ∀ (W : World) (n c : Nat), (binOp .eql 33 (.slice none n c) (.slice none 0 0)).run Try.prog W = .ok (.bool true) W := fun W n c => Go.Lib.run_eql_slice_nil_nil W _ _ Try.underlying33
      go_enter Try.func24, Try.ntmps24
      go_wp2
      go_ret
      exact ⟨_, rfl, Kd.R_nil _ _ _ _ _, Below.refl _ _⟩
    | some ad =>
      clear hr0 hc0 hl
      have q : ∀ (W : World) (n c : Nat), (binOp .eql 33 (.slice (some ad) n c) (.slice none 0 0)).run Try.prog W = .ok (.bool false) W := fun W n c => Go.Lib.run_eql_slice_some_nil W _ _ _ Try.underlying33
      go_enter Try.func24, Try.ntmps24
      go_wp2_with (first
        | ((with_reducible refine gate_dst (N := 5) rfl ?_); refine Kd.R_lit k24 (w0 := w) w.heap.size 24 ?hg (N := 5) ?hd (xs := ([] : List S24)) (inner := []) (ok := fun _ => True) (okp := fun _ => True) ?hr ?hp (fun _ _ => trivial) trivial (Below.refl _ _) (Nat.le_refl _) (by simp) ?_; (case hd => rfl); (case hg => rfl); (case hr => first | (go_simp; done) | (go_simp; rfl)); (case hp => exact Reps.none _ _); rintro v1 w1 HO hb hg _; have HO1 := Aside0.mk HO; have HB1 := Aside0.mk hb; clear HO hb hg)
        | (at_builtin; go_loud (refine Kd.R_append_rows k24 (w0 := w) (Rr := k24.K w1) w.heap.size ?hg2 (.tmp 5) (.tmp 6) 33 24 _ 48 ?ho2 Try.underlying33 info24 ?hz2 ?hs2 ?hb2 v1 [] l0 (some ad) l0.length c0 (fun _ => True) (fun k => some k ≠ v1.ownBlock) ?e1 ?e2 HO1.out ?hr2 ?hk2 ?ok2 (fun _ _ => trivial) HB1.out HB1.out.size ?hl2 ?_); (case hg2 => rfl); (case ho2 => rfl); (case hz2 => rfl); (case hs2 => decide); (case hb2 => decide); (case e1 => rfl); (case e2 => rfl); (case hr2 => exact Kd.C_below HR0.out HB1.out); (case hk2 => exact fun x cs hx => by rw [k24_open hx]; exact k24_mkM _ _ _ _); (case ok2 => exact fun k hk => ⟨trivial, hk⟩); (case hl2 => have := HL.out; simp only [List.length_nil]; omega); rintro v2 w2 HO2 hb2 _ _; have HO3 := Aside0.mk HO2; have HB3 := Aside0.mk hb2; clear HO2 hb2))
      go_ret
      exact ⟨_, rfl, HO3.out, HB3.out⟩
  · rw [if_neg hl] at h; cases h
end Go.Proofs.Ytadnjibgdpjnlaa.Rp

namespace Go.Proofs.Ytadnjibgdpjnlaa.Rp
open Go.RowKit Go.Proofs.YtadnjibgdpjnlaaW.PrintWords Go.Proofs.YtadnjibgdpjnlaaW.PrintLast Go.Proofs.YtadnjibgdpjnlaaW.PrintMore Go.Sort Go.Shelf
set_option linter.unusedVariables false
set_option linter.unusedSimpArgs false
def sortAl_ren : Go.Shelf.Ren := ⟨fun | 6 => 25 | 15 => 34 | 14 => 33 | 28 => 48 | 29 => 49 | 20 => 40 | 21 => 41 | 22 => 42 | 23 => 43 | 24 => 44 | 25 => 45 | 26 => 46 | 27 => 47 | 46 => 53 | 47 => 54 | 48 => 55 | 49 => 56 | 50 => 57 | 57 => 59 | n => n, fun | 22 => 33 | 24 => 24 | 25 => 44 | 3 => 3 | 39 => 61 | 0 => 0 | 53 => 83 | 55 => 85 | 4 => 4 | 46 => 76 | 45 => 75 | 50 => 80 | 5 => 5 | 9 => 9 | 66 => 88 | 70 => 92 | 76 => 94 | 77 => 95 | n => n, fun | n => n⟩
theorem sortAl : Go.Proofs.SlLaysF0.n6 Try.prog sortAl_ren := {
  mixed := by kernel_rfl,
  f6 := ⟨Try.f25.name, by decide, Try.func25.trans (congrArg some (by kernel_rfl))⟩,
  f14 := ⟨Try.f33.name, by decide, Try.func33.trans (congrArg some (by kernel_rfl))⟩,
  f15 := Try.func34.trans (congrArg some (by kernel_rfl)),
  f20 := ⟨Try.f40.name, by decide, Try.func40.trans (congrArg some (by kernel_rfl))⟩,
  f21 := ⟨Try.f41.name, by decide, Try.func41.trans (congrArg some (by kernel_rfl))⟩,
  f22 := ⟨Try.f42.name, by decide, Try.func42.trans (congrArg some (by kernel_rfl))⟩,
  f23 := ⟨Try.f43.name, by decide, Try.func43.trans (congrArg some (by kernel_rfl))⟩,
  f24 := ⟨Try.f44.name, by decide, Try.func44.trans (congrArg some (by kernel_rfl))⟩,
  f25 := ⟨Try.f45.name, by decide, Try.func45.trans (congrArg some (by kernel_rfl))⟩,
  f26 := ⟨Try.f46.name, by decide, Try.func46.trans (congrArg some (by kernel_rfl))⟩,
  f27 := ⟨Try.f47.name, by decide, Try.func47.trans (congrArg some (by kernel_rfl))⟩,
  f28 := Try.func48.trans (congrArg some (by kernel_rfl)),
  f29 := Try.func49.trans (congrArg some (by kernel_rfl)),
  f46 := ⟨Try.f53.name, by decide, Try.func53.trans (congrArg some (by kernel_rfl))⟩,
  f47 := Try.func54.trans (congrArg some (by kernel_rfl)),
  f48 := Try.func55.trans (congrArg some (by kernel_rfl)),
  f49 := ⟨Try.f56.name, by decide, Try.func56.trans (congrArg some (by kernel_rfl))⟩,
  f50 := ⟨Try.f57.name, by decide, Try.func57.trans (congrArg some (by kernel_rfl))⟩,
  f57 := ⟨Try.f59.name, by decide, Try.func59.trans (congrArg some (by kernel_rfl))⟩,
  t0 := Try.underlying0,
  a0 := Try.isAgg0,
  z0 := Try.sizeOf0,
  v0 := Try.zeroValue0,
  t3 := Try.underlying3,
  a3 := Try.isAgg3,
  z3 := Try.sizeOf3,
  v3 := Try.zeroValue3,
  t4 := Try.underlying4,
  a4 := Try.isAgg4,
  z4 := Try.sizeOf4,
  v4 := Try.zeroValue4,
  t5 := Try.underlying5,
  a5 := Try.isAgg5,
  z5 := Try.sizeOf5,
  v5 := Try.zeroValue5,
  t9 := Try.underlying9,
  a9 := Try.isAgg9,
  z9 := Try.sizeOf9,
  v9 := Try.zeroValue9,
  t22 := Try.underlying33,
  a22 := Try.isAgg33,
  z22 := Try.sizeOf33,
  v22 := Try.zeroValue33,
  t25 := Try.underlying44,
  a25 := Try.isAgg44,
  z25 := Try.sizeOf44,
  v25 := Try.zeroValue44,
  t39 := Try.underlying61,
  a39 := Try.isAgg61,
  z39 := Try.sizeOf61,
  v39 := Try.zeroValue61,
  t45 := Try.underlying75,
  a45 := Try.isAgg75,
  z45 := Try.sizeOf75,
  v45 := Try.zeroValue75,
  t46 := Try.underlying76,
  a46 := Try.isAgg76,
  z46 := Try.sizeOf76,
  v46 := Try.zeroValue76,
  t50 := Try.underlying80,
  a50 := Try.isAgg80,
  z50 := Try.sizeOf80,
  v50 := Try.zeroValue80,
  t53 := Try.underlying83,
  a53 := Try.isAgg83,
  z53 := Try.sizeOf83,
  v53 := Try.zeroValue83,
  t55 := Try.underlying85,
  a55 := Try.isAgg85,
  z55 := Try.sizeOf85,
  v55 := Try.zeroValue85,
  t66 := Try.underlying88,
  a66 := Try.isAgg88,
  z66 := Try.sizeOf88,
  v66 := Try.zeroValue88,
  t70 := Try.underlying92,
  a70 := Try.isAgg92,
  z70 := Try.sizeOf92,
  v70 := Try.zeroValue92,
  t76 := Try.underlying94,
  a76 := Try.isAgg94,
  z76 := Try.sizeOf94,
  v76 := Try.zeroValue94,
  t77 := Try.underlying95,
  a77 := Try.isAgg95,
  z77 := Try.sizeOf95,
  v77 := Try.zeroValue95 }

/-! ### The orders are strict weak orders -/
def negL (a b : List Int) : Bool := decide (orV (List.zipWith cmpV a b) < 0)
theorem negL_cons (a b : Int) (us vs : List Int) : negL (a :: us) (b :: vs) = (decide (a < b) || (decide (a = b) && negL us vs)) := by
  unfold negL
  simp only [List.zipWith_cons_cons, orV]
  by_cases h1 : a < b
  · have h : cmpV a b = -1 := by unfold cmpV; rw [if_pos h1]
    rw [h]; simp [h1]
  · by_cases h2 : b < a
    · have h : cmpV a b = 1 := by unfold cmpV; rw [if_neg h1, if_pos h2]
      rw [h]; have : a ≠ b := by omega
      simp [h1, this]
    · have h : cmpV a b = 0 := by unfold cmpV; rw [if_neg h1, if_neg h2]
      rw [h]; have : a = b := by omega
      simp [this]
theorem negL_irrefl : ∀ a, negL a a = false
  | [] => by simp [negL, orV]
  | a :: us => by rw [negL_cons, negL_irrefl us]; simp
theorem negL_trans : ∀ a b c : List Int, a.length = b.length → b.length = c.length → negL a b = true → negL b c = true → negL a c = true
  | [], _, _, _, _, h, _ => by simp [negL, orV] at h
  | a :: us, b :: vs, c :: cs, h1, h2, hab, hbc => by
    rw [negL_cons] at *
    have ih := negL_trans us vs cs (by simpa using h1) (by simpa using h2)
    simp only [Bool.or_eq_true, Bool.and_eq_true, decide_eq_true_eq] at *
    rcases hab with hab | ⟨rfl, hab⟩ <;> rcases hbc with hbc | ⟨rfl, hbc⟩
    · exact .inl (by omega)
    · exact .inl hab
    · exact .inl hbc
    · exact .inr ⟨rfl, ih hab hbc⟩
theorem negL_ntrans : ∀ a b c : List Int, a.length = b.length → b.length = c.length → negL a b = false → negL b c = false → negL a c = false
  | [], [], [], _, _, _, _ => by simp [negL, orV]
  | a :: us, b :: vs, c :: cs, h1, h2, hab, hbc => by
    rw [negL_cons] at *
    have ih := negL_ntrans us vs cs (by simpa using h1) (by simpa using h2)
    simp only [Bool.or_eq_false_iff, Bool.and_eq_false_iff, decide_eq_false_iff_not] at *
    refine ⟨by omega, ?_⟩
    by_cases e : a = c
    · right
      subst e
      have e2 : a = b := by omega
      subst e2
      exact ih (hab.2.resolve_left (fun h => h rfl)) (hbc.2.resolve_left (fun h => h rfl))
    · exact .inl e
def keyR (x : S24) : List Int := [x.f0, x.f1, x.f2, x.f3, x.f4, x.f5]
def keyC (x : S24) : List Int := [x.f1, x.f2, x.f4, x.f5]
theorem ltR (x y : S24) : ltOf cmpR x y = negL (keyR x) (keyR y) := rfl
theorem ltC (x y : S24) : ltOf cmpC x y = negL (keyC x) (keyC y) := rfl
theorem swoR : SWO (ltOf cmpR) where
  irrefl x := by rw [ltR, negL_irrefl]
  trans x y z h1 h2 := by rw [ltR] at *; exact negL_trans (keyR x) (keyR y) (keyR z) rfl rfl h1 h2
  ntrans x y z h1 h2 := by rw [ltR] at *; exact negL_ntrans (keyR x) (keyR y) (keyR z) rfl rfl h1 h2
theorem swoC : SWO (ltOf cmpC) where
  irrefl x := by rw [ltC, negL_irrefl]
  trans x y z h1 h2 := by rw [ltC] at *; exact negL_trans (keyC x) (keyC y) (keyC z) rfl rfl h1 h2
  ntrans x y z h1 h2 := by rw [ltC] at *; exact negL_ntrans (keyC x) (keyC y) (keyC z) rfl rfl h1 h2

/-! ### A row of alarms, flat -/
instance : Inhabited S24 := ⟨z24⟩
theorem flat_get (l : List S24) : ∀ t, (l.flatMap enc24)[t]? = (l[t / 6]?).bind fun x => (enc24 x)[t % 6]? := by
  induction l with
  | nil => intro t; simp
  | cons x l ih =>
    intro t
    rw [List.flatMap_cons]
    by_cases h : t < 6
    · rw [List.getElem?_append_left (by simpa [enc24] using h), show t / 6 = 0 by omega, show t % 6 = t by omega]; rfl
    · rw [List.getElem?_append_right (by simp [enc24]; omega), show (enc24 x).length = 6 from rfl, ih, show t / 6 = (t - 6) / 6 + 1 by omega, show t % 6 = (t - 6) % 6 by omega]; rfl
theorem flat_len (l : List S24) : (l.flatMap enc24).length = l.length * 6 := by
  induction l with
  | nil => rfl
  | cons x l ih => rw [List.flatMap_cons, List.length_append, ih, List.length_cons]; simp [enc24]; omega
theorem flatK_eq (l : List S24) : flatK enc24 6 l.toArray = (l.flatMap enc24).toArray := by
  refine ext_get! (by rw [size_flatK, List.size_toArray, List.size_toArray, flat_len]) fun t ht => ?_
  have ht' : t < l.length * 6 := by simpa using ht
  rw [get_flatK _ _ _ _ (by simpa using ht')]
  have h1 : t / 6 < l.length := by omega
  have h2 : t < (l.flatMap enc24).length := by rw [flat_len]; exact ht'
  have h3 := flat_get l t
  rw [List.getElem?_eq_getElem h2, List.getElem?_eq_getElem h1] at h3
  rw [getElem!_pos _ t (by simpa using h2)]
  rw [show (l.toArray)[t / 6]! = l[t / 6] by rw [getElem!_pos _ _ (by simpa using h1)]; simp]
  simp only [Option.bind_some] at h3
  have h4 : t % 6 < (enc24 l[t / 6]).length := by simp [enc24]; omega
  rw [List.getElem?_eq_getElem h4] at h3
  rw [getElem!_pos (enc24 l[t / 6]) (t % 6) h4]
  exact (Option.some.inj h3).symm
theorem reps_flat {Rr : S24 → List Value → Prop} (hR : ∀ x c, Rr x c → c = enc24 x) : ∀ (l : List S24) (cs : List Value), Reps Rr 6 l cs → cs = l.flatMap enc24
  | [], cs, h => by have := h.1; simp at this; rw [this]; rfl
  | x :: l, cs, h => by
    have h0 := hR _ _ (h.2 0 x rfl)
    simp only [Nat.zero_mul, List.drop_zero] at h0
    have h1 : Reps Rr 6 l (cs.drop 6) := by
      refine ⟨by have := h.1; simp at this ⊢; omega, fun j p hj => ?_⟩
      have := h.2 (j + 1) p (by simpa using hj)
      rw [List.drop_drop, show 6 + j * 6 = (j + 1) * 6 by omega]; exact this
    have := reps_flat hR l _ h1
    rw [List.flatMap_cons, ← this, ← h0, List.take_append_drop]
theorem flat_reps {Rr : S24 → List Value → Prop} (hR : ∀ x, Rr x (enc24 x)) : ∀ (l : List S24), Reps Rr 6 l (l.flatMap enc24)
  | [] => Reps.none _ _
  | x :: l => by
    have ih := flat_reps hR l
    refine ⟨by rw [flat_len], fun j p hj => ?_⟩
    cases j with
    | zero =>
      simp at hj; subst hj
      rw [List.flatMap_cons]; simp [enc24]; exact hR x
    | succ j =>
      have := ih.2 j p (by simpa using hj)
      rw [List.flatMap_cons, show (j + 1) * 6 = (enc24 x).length + j * 6 by simp [enc24]; omega, ← List.drop_drop, List.drop_left]
      exact this
theorem R_flat {w : World} {base : Nat} {ok : Nat → Prop} {u : Value} {l : List S24} (h : Kd.R k24 24 w base ok u l) :
    (u = .slice none 0 0 ∧ l = []) ∨ ∃ g cap cur, u = .slice (some ⟨g, 0, none⟩) l.length cap ∧ base ≤ g ∧ w.heap[g]? = some (.cells cur 24 (0, 0)) ∧ l.length ≤ cap ∧ cap ≤ maxLen ∧ cur.size = cap * 6 ∧ cur.toList.take (l.length * 6) = l.flatMap enc24 ∧ ok g := by
  obtain ⟨h0, inner, ⟨h1, h2⟩, hr⟩ := h
  rcases h2 with ⟨rfl, hn⟩ | ⟨g, cap, cur, rfl, hb, hg, hc, hm, hs, ht⟩
  · exact .inl ⟨rfl, List.eq_nil_of_length_eq_zero hn⟩
  · refine .inr ⟨g, cap, cur, rfl, hb, hg, hc, hm, hs, ?_, h0 g rfl⟩
    exact ht.trans (reps_flat (fun x c hx => k24_openM hx) l inner hr)
theorem R_of_flat {w : World} {base : Nat} {ok : Nat → Prop} {g cap : Nat} {cur : Array Value} {l : List S24} (hb : base ≤ g) (hg : w.heap[g]? = some (.cells cur 24 (0, 0))) (hc : l.length ≤ cap) (hm : cap ≤ maxLen) (hs : cur.size = cap * 6) (ht : cur.toList.take (l.length * 6) = l.flatMap enc24) (ho : ok g) :
    Kd.R k24 24 w base ok (.slice (some ⟨g, 0, none⟩) l.length cap) l := by
  refine ⟨fun k hk => ?_, l.flatMap enc24, ⟨flat_len l, .inr ⟨g, cap, cur, rfl, hb, hg, hc, hm, hs, ht⟩⟩, flat_reps (fun x => k24_mkM _ _ _ _) l⟩
  have : g = k := by simpa [Value.ownBlock] using hk
  exact this ▸ ho
theorem holds_flat {w : World} {g cap : Nat} {cur : Array Value} {l : List S24} (hg : w.heap[g]? = some (.cells cur 24 (0, 0))) (hc : l.length ≤ cap) (hs : cur.size = cap * 6) (ht : cur.toList.take (l.length * 6) = l.flatMap enc24) : HoldsK enc24 6 w g 0 l.toArray := by
  intro j hj
  have hj' : j < l.length * 6 := by simpa using hj
  rw [Nat.zero_add, cell_of_row w g j cur 24 (0, 0) hg]
  refine ⟨?_, blk_frozen hg j⟩
  rw [flatK_eq, getElem!_pos _ j (by rw [List.size_toArray, flat_len]; exact hj')]
  have h1 : (cur.toList.take (l.length * 6))[j]? = (l.flatMap enc24)[j]? := by rw [ht]
  rw [List.getElem?_take, if_pos hj'] at h1
  rw [Array.getElem?_toList] at h1
  rw [h1, List.getElem?_eq_getElem (by rw [flat_len]; exact hj')]
  simp
theorem put_flat (cur : Array Value) (l : List S24) (h : l.length * 6 ≤ cur.size) : (putCells id 0 (flatK enc24 6 l.toArray) cur).size = cur.size ∧ (putCells id 0 (flatK enc24 6 l.toArray) cur).toList.take (l.length * 6) = l.flatMap enc24 := by
  refine ⟨by simp [putCells], ?_⟩
  apply List.ext_getElem?
  intro j
  rw [List.getElem?_take]
  by_cases hj : j < l.length * 6
  · rw [if_pos hj, Array.getElem?_toList, putCells, Array.getElem?_mapIdx, Array.getElem?_eq_getElem (by omega), Option.map_some, if_pos ⟨Nat.zero_le _, by simpa using hj⟩, flatK_eq, Nat.sub_zero, getElem!_pos _ j (by rw [List.size_toArray, flat_len]; exact hj)]
    rw [List.getElem?_eq_getElem (by rw [flat_len]; exact hj)]
    simp
  · rw [if_neg hj, List.getElem?_eq_none (by rw [flat_len]; omega)]
theorem sorted_heap {w : World} {g : Nat} {cur : Array Value} (hg : w.heap[g]? = some (.cells cur 24 (0, 0))) (n : Nat) (d : Array S24) (os : Array Obj) : (sortWorldK enc24 6 w g 0 n d os).heap[g]? = some (.cells (putCells id 0 (flatK enc24 6 d) cur) 24 (0, 0)) ∧ (∀ k, k < w.heap.size → k ≠ g → (sortWorldK enc24 6 w g 0 n d os).heap[k]? = w.heap[k]?) ∧ w.heap.size ≤ (sortWorldK enc24 6 w g 0 n d os).heap.size := by
  have hlt : g < w.heap.size := blk_lt hg
  have hm : ∀ k, k < w.heap.size → (sortWorldK enc24 6 w g 0 n d os).heap[k]? = (w.heap.modify g (onCells (putCells id 0 (flatK enc24 6 d))))[k]? := by
    intro k hk
    show ((w.heap.modify g (onCells (putCells id 0 (flatK enc24 6 d)))) ++ os)[k]? = _
    rw [Array.getElem?_append_left (by simpa using hk)]
  refine ⟨?_, ?_, ?_⟩
  · rw [hm g hlt, Array.getElem?_modify, if_pos rfl, hg]; rfl
  · intro k hk hne
    rw [hm k hk, Array.getElem?_modify, if_neg (Ne.symm hne)]
  · show w.heap.size ≤ ((w.heap.modify g (onCells (putCells id 0 (flatK enc24 6 d)))) ++ os).size
    simp

/-! ### The contract -/
def pdqL (cf : S24 → S24 → Int) (l : List S24) : List S24 := (pdq (ltOf cf) l.toArray 0 l.length (Lib.bitLen l.length) true true).toList
theorem pdqL_spec (cf : S24 → S24 → Int) (hO : SWO (ltOf cf)) (l : List S24) : (pdqL cf l).length = l.length ∧ (pdqL cf l).Perm l ∧ SortedIn (ltOf cf) 0 l.length (pdqL cf l).toArray := by
  have h := pdq_sorts (ltOf cf) hO l.toArray 0 l.length (Lib.bitLen l.length) true true (Nat.zero_le _) (by simp) (Or.inl rfl)
  have hs : (pdq (ltOf cf) l.toArray 0 l.length (Lib.bitLen l.length) true true).size = l.length := by have := h.1.1; simpa using this
  refine ⟨by unfold pdqL; simpa using hs, ?_, ?_⟩
  · have := h.1.2.2
    rw [Array.extract_eq_self_of_le (by omega), Array.extract_eq_self_of_le (by simp)] at this
    simpa [pdqL] using this
  · unfold pdqL; simpa using h.2
def api_Alarm_25.f (_k : Nat) (l0 : List S24) (a1 : Nat) : Option (List S24) :=
  if l0.length < 4611686018427387904 then (if a1 = 26 then some (pdqL cmpR l0) else if a1 = 30 then some (pdqL cmpC l0) else none) else none
theorem api_Alarm_25.mono : ∀ a0 a1 k, LeO (api_Alarm_25.f k a0 a1) (api_Alarm_25.f (k + 1) a0 a1) := fun _ _ _ => LeO.refl _
theorem sort_any (cf : S24 → S24 → Int) (hO : SWO (ltOf cf)) (a1 : Nat) (eg : ∀ args w, (callFunc a1 args).run Try.prog w = .ok (.enter a1 args) w) (hcf : ∀ x y w, Calls Try.prog a1 #[.agg (enc24 x).toArray, .agg (enc24 y).toArray] w fun e w' => e = .returned (.int .i64 (cf x y)) ∧ ∃ q os', w' = grow (w.drewN q) os')
    (P0_ : Nat → Prop) (u9000_ : Value) (l0 : List S24) (w0 w : World) (hB : Below w0.heap.size w0 w) (ho0 : Kd.R k24 24 w w0.heap.size P0_ u9000_ l0) (hl : l0.length < 4611686018427387904) :
    Calls Try.prog 25 #[u9000_, .func (.func a1) #[] #[]] w fun e w' => e = .returned (.tuple #[]) ∧ Kd.R k24 24 w' w0.heap.size P0_ u9000_ (pdqL cf l0) ∧ Below w0.heap.size w0 w' ∧ Kept w w' P0_ := by
  rcases R_flat ho0 with ⟨rfl, rfl⟩ | ⟨g, cap, cur, rfl, hb, hg, hc, hm, hs, ht, hok⟩
  · have h := AnyF.slices_SortFunc_none sortAl none 0 (.func (.func a1) #[] #[]) w
    refine h.mono fun e w' ⟨he, hw⟩ => ?_
    subst hw
    have hp : pdqL cf [] = [] := List.eq_nil_of_length_eq_zero (pdqL_spec cf hO []).1
    rw [hp]
    exact ⟨he, ho0, hB, Kept.refl _ _⟩
  · have h := AnyQ.slices_SortFunc_eq sortAl 6 Try.isAgg24 Try.sizeOf24 enc24 (fun _ => rfl) (fun x v hv => by simp [enc24] at hv; rcases hv with rfl | rfl | rfl | rfl | rfl | rfl <;> rfl) cf hO a1 #[] g 0 cap l0.toArray w eg (fun m os dk _ x y => hcf x y _) (holds_flat hg hc hs ht) (blk_lt hg) (by simpa using hl)
    refine h.mono fun e w' ⟨he, n, os, hw⟩ => ?_
    subst hw
    have hlen := (pdqL_spec cf hO l0).1
    obtain ⟨h1, h2, h3⟩ := sorted_heap hg n (pdqL cf l0).toArray os
    have hd : (pdq (ltOf cf) l0.toArray 0 l0.toArray.size (Lib.bitLen l0.toArray.size) true true) = (pdqL cf l0).toArray := by simp [pdqL]
    rw [hd]
    obtain ⟨p1, p2⟩ := put_flat cur (pdqL cf l0) (by rw [hlen, hs]; exact Nat.mul_le_mul_right _ hc)
    refine ⟨he, ?_, ?_, ?_⟩
    · have := R_of_flat (ok := P0_) hb h1 (l := pdqL cf l0) (cap := cap) (by omega) hm (by rw [p1, hs]) p2 hok
      rwa [hlen] at this
    · exact ⟨hB.os, hB.tape, hB.output, Nat.le_trans hB.size h3, fun k hk => (h2 k (Nat.lt_of_lt_of_le hk hB.size) (by omega)).trans (hB.block k hk)⟩
    · exact ⟨h3, fun k hk hn => h2 k hk (fun e => hn (e ▸ hok))⟩
theorem api_Alarm_25.calls (k : Nat) (P0_ : Nat → Prop) (u9000_ : Value) (l0 : List S24) (a1 : Nat) (r : List S24) (w0 w : World) (hB : Below w0.heap.size w0 w) (ho0 : Kd.R k24 24 w w0.heap.size P0_ u9000_ l0) (h : api_Alarm_25.f k l0 a1 = some r) :
    Calls Try.prog 25 #[u9000_, .func (.func a1) #[] #[]] w fun e w' => e = .returned (.tuple #[]) ∧ Kd.R k24 24 w' w0.heap.size P0_ u9000_ r ∧ Below w0.heap.size w0 w' ∧ Kept w w' P0_ := by
  unfold api_Alarm_25.f at h
  by_cases hl : l0.length < 4611686018427387904
  · rw [if_pos hl] at h
    by_cases h26 : a1 = 26
    · subst h26
      rw [if_pos rfl] at h
      obtain rfl := Option.some.inj h
      exact sort_any cmpR swoR 26 (enters_of Try.func26 (by kernel_rfl) rfl) report_order_grow P0_ u9000_ l0 w0 w hB ho0 hl
    · rw [if_neg h26] at h
      by_cases h30 : a1 = 30
      · subst h30
        rw [if_pos rfl] at h
        obtain rfl := Option.some.inj h
        exact sort_any cmpC swoC 30 (enters_of Try.func30 (by kernel_rfl) rfl) clash_order_grow P0_ u9000_ l0 w0 w hB ho0 hl
      · rw [if_neg h30] at h; cases h
  · rw [if_neg hl] at h; cases h
end Go.Proofs.Ytadnjibgdpjnlaa.Rp

namespace Go.Proofs.Ytadnjibgdpjnlaa.Rp
open Go.RowKit Go.Proofs.YtadnjibgdpjnlaaW.PrintWords Go.Proofs.YtadnjibgdpjnlaaW.PrintLast Go.Proofs.YtadnjibgdpjnlaaW.PrintMore Go.Sort Go.Lib
attribute [local go_sem high] eqA24
set_option linter.unusedVariables false
set_option linter.unusedSimpArgs false
instance : DecidableEq S24 := fun x y => decidable_of_iff (x.f0 = y.f0 ∧ x.f1 = y.f1 ∧ x.f2 = y.f2 ∧ x.f3 = y.f3 ∧ x.f4 = y.f4 ∧ x.f5 = y.f5) (by cases x; cases y; simp)
/-- '==' of two alarms, as the walk spells it. -/
theorem eqb_false {x y : S24} (h : ¬ x = y) : (x.f0 == y.f0 && (x.f1 == y.f1 && (x.f2 == y.f2 && (x.f3 == y.f3 && (x.f4 == y.f4 && x.f5 == y.f5))))) = false := by
  rw [Bool.eq_false_iff]
  intro e
  simp only [Bool.and_eq_true, beq_iff_eq] at e
  exact h (by cases x; cases y; simpa using e)
/-- Element i's cells. -/
theorem elem_cells {W : World} {g : Nat} {d : Array S24} (h : HoldsK enc24 6 W g 0 d) (i : Nat) (hi : i < d.size) :
    (W.cell? ⟨g, i * 6, none⟩ = some (.int .i64 d[i]!.f0) ∧ W.cell? ⟨g, i * 6 + 1, none⟩ = some (.int .i64 d[i]!.f1) ∧ W.cell? ⟨g, i * 6 + 2, none⟩ = some (.int .i64 d[i]!.f2) ∧ W.cell? ⟨g, i * 6 + 3, none⟩ = some (.int .i64 d[i]!.f3) ∧ W.cell? ⟨g, i * 6 + 4, none⟩ = some (.int .i64 d[i]!.f4) ∧ W.cell? ⟨g, i * 6 + 5, none⟩ = some (.int .i64 d[i]!.f5)) ∧
    (W.frozen? ⟨g, i * 6, none⟩ = false ∧ W.frozen? ⟨g, i * 6 + 1, none⟩ = false ∧ W.frozen? ⟨g, i * 6 + 2, none⟩ = false ∧ W.frozen? ⟨g, i * 6 + 3, none⟩ = false ∧ W.frozen? ⟨g, i * 6 + 4, none⟩ = false ∧ W.frozen? ⟨g, i * 6 + 5, none⟩ = false) := by
  have key : ∀ j, j < 6 → W.cell? ⟨g, i * 6 + j, none⟩ = some (enc24 d[i]!)[j]! ∧ W.frozen? ⟨g, i * 6 + j, none⟩ = false := by
    intro j hj
    have hlt : i * 6 + j < d.size * 6 := by omega
    have := h (i * 6 + j) (by rw [size_flatK]; exact hlt)
    rw [get_flatK _ _ _ _ hlt, show (i * 6 + j) / 6 = i by omega, show (i * 6 + j) % 6 = j by omega, Nat.zero_add] at this
    exact this
  exact ⟨⟨(key 0 (by omega)).1, (key 1 (by omega)).1, (key 2 (by omega)).1, (key 3 (by omega)).1, (key 4 (by omega)).1, (key 5 (by omega)).1⟩, ⟨(key 0 (by omega)).2, (key 1 (by omega)).2, (key 2 (by omega)).2, (key 3 (by omega)).2, (key 4 (by omega)).2, (key 5 (by omega)).2⟩⟩
theorem put_drewN (w : World) (q nq g : Nat) (dk : Array S24) : (putRowK enc24 6 (Sort.ahead w q) g 0 dk).drewN nq = putRowK enc24 6 (Sort.ahead w (q + nq)) g 0 dk := by
  simp [putRowK, putRow, mapBlock, Sort.ahead, World.drewN, Nat.add_assoc]
theorem setMany_one (d : Array S24) (i : Nat) (x : S24) (hi : i < d.size) : setMany (flatK enc24 6 d) (i * 6) (enc24 x) = flatK enc24 6 (d.setIfInBounds i x) := by
  refine ext_get! (by simp) fun t ht => ?_
  have ht' : t < d.size * 6 := by simpa using ht
  rw [get_setMany _ _ _ t (by simpa using ht'), get_flatK _ _ _ t ht', get_flatK _ _ _ t (by simpa using ht'), show (enc24 x).length = 6 from rfl]
  by_cases a : t / 6 = i
  · rw [if_pos (by omega), a, getElem!_set_same d i x hi, show t - i * 6 = t % 6 by omega]
  · rw [if_neg (by omega), getElem!_set_other d i (t / 6) x a]
theorem put_store (W : World) (g : Nat) (d : Array S24) (i : Nat) (x : S24) (hi : i < d.size) : (putRowK enc24 6 W g 0 d).setCells g (i * 6) (enc24 x) = putRowK enc24 6 W g 0 (d.setIfInBounds i x) := by
  have h := setCells_putRow W g 0 (enc24 x) (i * 6) (flatK enc24 6 d) (by simp [enc24]; omega)
  rw [Nat.zero_add] at h
  rw [putRowK, h, setMany_one d i x hi]
  rfl
/-- 'clear' of n > 0 alarms. -/
theorem run_clear24 (w : World) (ty : TypeId) (b o n c : Nat) (hn : 0 < n) (hc : ∀ j, j < n * 6 → (w.cell? ⟨b, o + j, none⟩).isSome = true) (hf : ∀ j, j < n * 6 → w.frozen? ⟨b, o + j, none⟩ = false) :
    (Builtin.clear_ #[33] ty #[.slice (some ⟨b, o, none⟩) n c]).run Try.prog w = .ok (.tuple #[]) (w.setCells b o ((List.replicate n z24).flatMap enc24)) := by
  have hzc : (Builtin.zeroCells (Value.agg #[.int .i64 0, .int .i64 0, .int .i64 0, .int .i64 0, .int .i64 0, .int .i64 0]).cells n).toList = (List.replicate n z24).flatMap enc24 := by
    apply List.ext_getElem?
    intro t
    rw [flat_get]
    simp only [Builtin.zeroCells, Value.cells]
    by_cases ht : t < n * 6
    · rw [Array.getElem?_toList, Array.getElem?_map, Array.getElem?_range, if_pos (by simpa using ht), List.getElem?_replicate, if_pos (by omega)]
      have h6 : ∀ j, j < 6 → (some (#[Value.int .i64 0, .int .i64 0, .int .i64 0, .int .i64 0, .int .i64 0, .int .i64 0])[j]!) = (enc24 z24)[j]? := by
        intro j hj
        match j, hj with
        | 0, _ => rfl
        | 1, _ => rfl
        | 2, _ => rfl
        | 3, _ => rfl
        | 4, _ => rfl
        | 5, _ => rfl
      exact h6 (t % 6) (by omega)
    · rw [Array.getElem?_toList, Array.getElem?_map, Array.getElem?_range, if_neg (by simpa using ht), List.getElem?_replicate, if_neg (by omega)]
      rfl
  have hl : ((List.replicate n z24).flatMap enc24).length = n * 6 := by rw [flat_len, List.length_replicate]
  have h1 : ∀ v ∈ (List.replicate n z24).flatMap enc24, v.oneCell' = true := by
    intro v hv
    obtain ⟨x, _, hx⟩ := List.mem_flatMap.1 hv
    simp [enc24] at hx
    rcases hx with rfl | rfl | rfl | rfl | rfl | rfl <;> rfl
  have hst := run_storeCells_cells (P := Try.prog) b o ((List.replicate n z24).flatMap enc24) 0 w (by rw [hl]; simpa using hc) (by rw [hl]; simpa using hf) h1
  simp only [Nat.add_zero] at hst
  obtain ⟨m, rfl⟩ : ∃ m, n = m + 1 := ⟨n - 1, by omega⟩
  simp only [Value.cells] at hzc
  simp [Builtin.clear_, run_underlying Try.underlying33, Try.zeroValue24, Value.cells, hzc, hst]
theorem clear_flat {d dk : Array S24} {kk : Nat} (h : CompInv d d.size kk dk) : setMany (flatK enc24 6 dk) (kk * 6) ((List.replicate (d.size - kk) z24).flatMap enc24) = flatK enc24 6 (compactUpTo d d.size ++ List.replicate (d.size - kk) z24).toArray := by
  have hk := h.lt
  have hs := h.size
  have hl := h.len
  refine ext_get! (by simp [hs, hl]; omega) fun t ht => ?_
  have ht' : t < dk.size * 6 := by simpa using ht
  have hfl : ((List.replicate (d.size - kk) z24).flatMap enc24).length = (d.size - kk) * 6 := by rw [flat_len, List.length_replicate]
  have hsz : (compactUpTo d d.size ++ List.replicate (d.size - kk) z24).toArray.size = d.size := by simp [hl]; omega
  rw [get_setMany _ _ _ t (by simpa using ht'), get_flatK _ _ _ t ht', get_flatK _ _ _ t (by rw [hsz, ← hs]; exact ht'), hfl]
  have hget : ∀ j, j < d.size → (compactUpTo d d.size ++ List.replicate (d.size - kk) z24).toArray[j]! = if j < kk then dk[j]! else z24 := by
    intro j hj
    rw [getElem!_pos _ j (by rw [hsz]; exact hj)]
    have e : (compactUpTo d d.size ++ List.replicate (d.size - kk) z24)[j]? = some (if j < kk then dk[j]! else z24) := by
      by_cases hjk : j < kk
      · rw [List.getElem?_append_left (by omega), h.low j hjk, if_pos hjk]
      · rw [List.getElem?_append_right (by omega), List.getElem?_replicate, if_pos (by omega), if_neg hjk]
    rw [List.getElem?_eq_some_iff] at e
    obtain ⟨_, e⟩ := e
    simpa using e
  rw [hget (t / 6) (by omega)]
  by_cases a : t / 6 < kk
  · rw [if_neg (by omega), if_pos a]
  · rw [if_pos (by omega), if_neg a]
    have e := flat_get (List.replicate (d.size - kk) z24) (t - kk * 6)
    rw [List.getElem?_replicate, if_pos (by omega), show (t - kk * 6) % 6 = t % 6 by omega] at e
    rw [List.getElem!_eq_getElem?_getD, List.getElem!_eq_getElem?_getD, e]
    rfl
set_option maxHeartbeats 4000000 in
set_option maxRecDepth 1000000 in
theorem compact_walk (g cap : Nat) (d : Array S24) (w : World) (hH : HoldsK enc24 6 w g 0 d) (hsz : d.size ≤ 9223372036854775807) (hcap : d.size ≤ cap) :
    Calls Try.prog 27 #[.slice (some ⟨g, 0, none⟩) d.size cap] w fun e w' => e = .returned (.slice (some ⟨g, 0, none⟩) (compactUpTo d d.size).length cap) ∧ ∃ q, w' = putRowK enc24 6 (Sort.ahead w q) g 0 (compactUpTo d d.size ++ List.replicate (d.size - (compactUpTo d d.size).length) z24).toArray := by
  have hu24 := Try.underlying24
  have HS : Aside0 (∀ q, (∀ j, j < d.size → keeps d j = true) → (compactUpTo d d.size).length = d.size ∧ w.drewN q = putRowK enc24 6 (Sort.ahead w q) g 0 (compactUpTo d d.size ++ List.replicate (d.size - (compactUpTo d d.size).length) z24).toArray) := ⟨by
    intro q hall
    have e : compactUpTo d d.size = d.toList := by rw [compactUpTo_all d _ hall, range_map_get]
    rw [e]
    refine ⟨by simp, ?_⟩
    simp only [Array.length_toList, Nat.sub_self, List.replicate_zero, List.append_nil, Array.toArray_toList]
    exact (putRow_self id (Sort.ahead w q) g 0 (flatK enc24 6 d) (holds_ahead id w q g 0 (flatK enc24 6 d) hH)).symm⟩
  by_cases h2 : d.size < 2
  · clear hH
    go_enter Try.func27, Try.ntmps27
    go_wp2
    go_ret
    obtain ⟨e1, e2⟩ := HS.out 0 (fun j hj => keeps_lt_one d j (by omega))
    exact ⟨by rw [e1]; rfl, 0, e2⟩
  · go_enter Try.func27, Try.ntmps27
    go_wp2
    go_loopg [3] d.size (fun gg s3 wr => ∃ k q : Nat, 1 ≤ k ∧ k ≤ d.size ∧ d.size - k ≤ gg ∧ s3 = .int .i64 k ∧ wr = w.drewN q ∧ Aside0 (∀ j, j < k → keeps d j = true))
    case atStart => exact ⟨1, 0, Nat.le_refl _, by omega, by omega, rfl, rfl, ⟨keeps_lt_one d⟩⟩
    case round =>
      obtain ⟨k, q, hk1, hk, hg, rfl, rfl, A⟩ := hrel
      by_cases hlt : k < d.size
      · obtain ⟨⟨a0, a1, a2, a3, a4, a5⟩, _⟩ := elem_cells hH k hlt
        obtain ⟨⟨b0, b1, b2, b3, b4, b5⟩, _⟩ := elem_cells hH (k - 1) (by omega)
        have HH := Aside0.mk hH
        clear hH
        generalize hx : d[k]! = x at a0 a1 a2 a3 a4 a5
        generalize hy : d[k - 1]! = y at b0 b1 b2 b3 b4 b5
        have B := Aside0.mk (And.intro hx hy)
        clear hx hy
        by_cases hdup : x = y
        · subst hdup
          go_wp2_with fail
          go_quiet (fail)
          clear a0 a1 a2 a3 a4 a5 b0 b1 b2 b3 b4 b5
          go_wp2
          go_loopg [3, 5] d.size (fun gg s3 s5 wr => ∃ (kk k2 q2 : Nat) (dk : Array S24), s3 = .int .i64 kk ∧ s5 = .int .i64 k2 ∧ 1 ≤ k2 ∧ k + k2 ≤ d.size ∧ d.size - (k + k2) ≤ gg ∧ Aside0 (wr = putRowK enc24 6 (Sort.ahead w q2) g 0 dk) ∧ Aside0 (CompInv d (k + k2) kk dk))
          case atStart => exact ⟨k, 1, q + nq, d, rfl, rfl, Nat.le_refl _, by omega, by omega, ⟨(putRow_self id (Sort.ahead w (q + nq)) g 0 (flatK enc24 6 d) (holds_ahead id w (q + nq) g 0 (flatK enc24 6 d) HH.out)).symm⟩, ⟨CompInv.start A.out (keeps_neg (by omega) (by rw [B.out.1, B.out.2]))⟩⟩
          case round =>
            obtain ⟨kk, k2, q2, dk, rfl, rfl, h1, hle, hg2, W2, I2⟩ := hrel
            have hkk := I2.out.lt
            have hds := I2.out.size
            have hHk : HoldsK enc24 6 wr g 0 dk := by rw [W2.out]; exact holds_putRow id _ g 0 (flatK enc24 6 d) (flatK enc24 6 dk) (holds_ahead id w q2 g 0 _ HH.out) (by simp [hds])
            by_cases hlt2 : k + k2 < d.size
            · obtain ⟨⟨m0, m1, m2, m3, m4, m5⟩, _⟩ := elem_cells hHk (k + k2) (by omega)
              obtain ⟨⟨n0, n1, n2, n3, n4, n5⟩, _⟩ := elem_cells hHk (k + k2 - 1) (by omega)
              obtain ⟨⟨c0, c1, c2, c3, c4, c5⟩, ⟨f0, f1, f2, f3, f4, f5⟩⟩ := elem_cells hHk kk (by omega)
              rw [I2.out.high (k + k2) (by omega), show (k + k2) * 6 = k * 6 + k2 * 6 by omega] at m0 m1 m2 m3 m4 m5
              rw [I2.out.high (k + k2 - 1) (by omega), show (k + k2 - 1) * 6 = k * 6 + (k2 - 1) * 6 by omega] at n0 n1 n2 n3 n4 n5
              clear hHk
              generalize hu : d[k + k2]! = u at m0 m1 m2 m3 m4 m5
              generalize hv : d[k + k2 - 1]! = v at n0 n1 n2 n3 n4 n5
              generalize dk[kk]! = old at c0 c1 c2 c3 c4 c5
              have C := Aside0.mk (And.intro hu hv)
              clear hu hv
              by_cases huv : u = v
              · subst huv
                go_wp2_with fail
                go_quiet (fail)
                go_wp2
                go_roundg (d.size - (k + (k2 + 1)))
                case measure => omega
                case rel => exact ⟨kk, k2 + 1, q2 + nq, dk, rfl, by go_num, by omega, by omega, Nat.le_refl _, ⟨by rw [W2.out, put_drewN]⟩, ⟨I2.out.skip (keeps_neg (by omega) (by rw [C.out.1, C.out.2]))⟩⟩
              · have hne := eqb_false huv
                go_wp2_with fail
                go_quiet (fail)
                go_wp2
                go_roundg (d.size - (k + (k2 + 1)))
                case measure => omega
                case rel => exact ⟨kk + 1, k2 + 1, q2 + nq, dk.setIfInBounds kk u, by go_num, by go_num, by omega, by omega, Nat.le_refl _, ⟨by rw [← put_store _ g dk kk u (by omega), ← put_drewN, ← W2.out]; rfl⟩, ⟨by have := I2.out.keep hlt2 (keeps_pos (by rw [C.out.1, C.out.2]; exact huv)); rwa [C.out.1] at this⟩⟩
            · have hend : k + k2 = d.size := by omega
              have hcl : ∀ ty, (Builtin.clear_ #[33] ty #[.slice (some ⟨g, kk * 6, none⟩) (d.size - kk) (cap - kk)]).run Try.prog wr = .ok (.tuple #[]) (wr.setCells g (kk * 6) ((List.replicate (d.size - kk) z24).flatMap enc24)) :=
                fun ty => run_clear24 wr ty g (kk * 6) _ _ (by omega) (fun j hj => by have := (hHk (kk * 6 + j) (by rw [size_flatK]; omega)).1; rw [Nat.zero_add] at this; rw [this]; rfl) (fun j hj => by have := (hHk (kk * 6 + j) (by rw [size_flatK]; omega)).2; rwa [Nat.zero_add] at this)
              clear hHk
              go_wp2
              go_ret
              have hI := I2.out
              rw [hend] at hI
              refine ⟨by rw [hI.len]; rfl, q2, ?_⟩
              have hs := setCells_putRow (Sort.ahead w q2) g 0 ((List.replicate (d.size - kk) z24).flatMap enc24) (kk * 6) (flatK enc24 6 dk) (by rw [flat_len, List.length_replicate, size_flatK]; omega)
              rw [Nat.zero_add, clear_flat hI] at hs
              rw [hI.len, W2.out]
              exact hs
        · have hne := eqb_false hdup
          go_wp2_with fail
          go_quiet (fail)
          go_wp2
          go_roundg (d.size - (k + 1))
          case measure => omega
          case rel =>
            refine ⟨k + 1, q + nq, by omega, by omega, Nat.le_refl _, by go_num, rfl, ⟨fun j hj => ?_⟩⟩
            by_cases e : j = k
            · subst e
              exact keeps_pos (by rw [B.out.1, B.out.2]; exact hdup)
            · exact A.out j (by omega)
      · have : k = d.size := by omega
        subst this
        have HH := Aside0.mk hH
        clear hH
        go_wp2
        go_ret
        obtain ⟨e1, e2⟩ := HS.out q A.out
        exact ⟨by rw [e1]; rfl, q, e2⟩
def api_Alarm_27.f (_k : Nat) (l0 : List S24) : Option (List S24) := if l0.length ≤ 9223372036854775807 then some (compactUpTo l0.toArray l0.length) else none
theorem api_Alarm_27.mono : ∀ a0 k, LeO (api_Alarm_27.f k a0) (api_Alarm_27.f (k + 1) a0) := fun _ _ => LeO.refl _
theorem api_Alarm_27.calls (k : Nat) (P0_ : Nat → Prop) (u9000_ : Value) (l0 : List S24) (r : List S24) (w0 w : World) (hB : Below w0.heap.size w0 w) (ho0 : Kd.R k24 24 w w0.heap.size P0_ u9000_ l0) (h : api_Alarm_27.f k l0 = some r) :
    Calls Try.prog 27 #[u9000_] w fun e w' => ∃ v0_ : Value, e = .returned (v0_) ∧ Kd.R k24 24 w' w0.heap.size (fun k_ => (P0_ k_ ∨ w.heap.size ≤ k_)) v0_ r ∧ Below w0.heap.size w0 w' ∧ Kept w w' (fun k_ => P0_ k_) := by
  unfold api_Alarm_27.f at h
  by_cases hl : l0.length ≤ 9223372036854775807
  · rw [if_pos hl] at h
    obtain rfl := Option.some.inj h
    rcases R_flat ho0 with ⟨rfl, rfl⟩ | ⟨g, cap, cur, rfl, hb, hg, hc, hm, hs, ht, hok⟩
    · clear h hl
      have hB1 := Aside0.mk hB
      clear hB ho0
      go_enter Try.func27, Try.ntmps27
      go_wp2
      go_ret
      exact ⟨_, rfl, Kd.R_nil _ _ _ _ _, hB1.out, Kept.refl _ _⟩
    · have hw := compact_walk g cap l0.toArray w (holds_flat hg hc hs ht) (by simpa using hl) (by simpa using hc)
      rw [List.size_toArray] at hw
      refine hw.mono fun e w' ⟨he, q, e2⟩ => ?_
      subst e2
      have hle : (compactUpTo l0.toArray l0.length).length ≤ l0.length := by
        unfold compactUpTo
        rw [List.length_map]
        exact Nat.le_trans (List.length_filter_le _ _) (by simp)
      obtain ⟨h1, h2, h3⟩ := sorted_heap hg q (compactUpTo l0.toArray l0.length ++ List.replicate (l0.length - (compactUpTo l0.toArray l0.length).length) z24).toArray #[]
      have hsw : sortWorldK enc24 6 w g 0 q (compactUpTo l0.toArray l0.length ++ List.replicate (l0.length - (compactUpTo l0.toArray l0.length).length) z24).toArray #[] = putRowK enc24 6 (Sort.ahead w q) g 0 (compactUpTo l0.toArray l0.length ++ List.replicate (l0.length - (compactUpTo l0.toArray l0.length).length) z24).toArray := by
        simp [sortWorldK]
      rw [hsw] at h1 h2 h3
      have hlen : (compactUpTo l0.toArray l0.length ++ List.replicate (l0.length - (compactUpTo l0.toArray l0.length).length) z24).length = l0.length := by simp; omega
      obtain ⟨p1, p2⟩ := put_flat cur (compactUpTo l0.toArray l0.length ++ List.replicate (l0.length - (compactUpTo l0.toArray l0.length).length) z24) (by rw [hlen, hs]; exact Nat.mul_le_mul_right _ hc)
      refine ⟨_, he, ?_, ?_, ?_⟩
      · refine R_of_flat hb h1 (by omega) hm (by rw [p1, hs]) ?_ (.inl hok)
        have e3 := congrArg (List.take ((compactUpTo l0.toArray l0.length).length * 6)) p2
        rw [List.take_take, hlen, Nat.min_eq_left (Nat.mul_le_mul_right _ hle), List.flatMap_append] at e3
        rw [e3, ← flat_len, List.take_left]
      · exact ⟨hB.os, hB.tape, hB.output, Nat.le_trans hB.size h3, fun k hk => (h2 k (Nat.lt_of_lt_of_le hk hB.size) (by omega)).trans (hB.block k hk)⟩
      · exact ⟨h3, fun k hk hn => h2 k hk (fun e => hn (e ▸ hok))⟩
  · rw [if_neg hl] at h; cases h
end Go.Proofs.Ytadnjibgdpjnlaa.Rp

