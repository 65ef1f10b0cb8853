/- meddlerlaw10: elements meet, if their indices are one number. -/
import Derived.Test.YtikjamcemnbhbaaMrLaw10a
namespace Go.Proofs.Ytikjamcemnbhbaa.Mr
open Go.RowKit Go.Proofs.YtikjamcemnbhbaaW.PrintWords Go.Proofs.YtikjamcemnbhbaaW.PrintLast Go.Proofs.YtikjamcemnbhbaaW.PrintMore
set_option linter.unusedVariables false
set_option linter.unusedSimpArgs false
def xB (put : Bool) : S33 := if put then ⟨8, 0, 0, 1, 0, 0, 0, 2, 0⟩ else ⟨7, 1, 0, 0, 0, 0, 0, 2, 0⟩
def xC (n : Int) (b : S33) : S49 := ⟨2, [⟨1, 0, 0, 0, 0, n, 0, 1, 0⟩, b, ⟨14, 0, 0, 0, 0, 0, 0, 2, 0⟩]⟩
def xCs (i k : Int) (put : Bool) : List S49 := [xC i (xB true), xC k (xB put)]
def xS0 (i k : Int) (put : Bool) : St := newSt [] [4] (xCs i k put) 1 0 2
theorem ok_x (i k : Int) (put : Bool) (hi : 0 ≤ i ∧ i ≤ 3) (hk : 0 ≤ k ∧ k ≤ 3) : OkUnit [] [4] 0 (xCs i k put) := by
  have key : ∀ (x : Int) (p : Bool), 0 ≤ x ∧ x ≤ 3 → OkCode 0 1 0 (xC x (xB p)) := fun x p hx => by
    cases p <;> rcases (by omega : x = 0 ∨ x = 1 ∨ x = 2 ∨ x = 3) with rfl | rfl | rfl | rfl <;> exact ⟨by decide, by decide, by decide, fun a ha => by
      simp only [xC, List.mem_cons, List.not_mem_nil, or_false] at ha
      rcases ha with rfl | rfl | rfl <;> exact ok_acts (by decide)⟩
  refine ⟨by decide, by decide, by decide, by decide, by decide, by simp [xCs], fun c hc => ?_⟩
  simp only [xCs, List.mem_cons, List.not_mem_nil, or_false] at hc
  rcases hc with rfl | rfl
  · exact key i true hi
  · exact key k put hk
def xS1 (i k : Int) (put : Bool) : St := stepP (xCs i k put) 1 (xS0 i k put) 0 0
def xS2 (i k : Int) (put : Bool) : St := stepP (xCs i k put) 1 (xS1 i k put) 1 0
theorem x_one (i k : Int) (put : Bool) (hi : 0 ≤ i ∧ i ≤ 3) (hk : 0 ≤ k ∧ k ≤ 3) : decide (0 < (pairsL (mtP (xCs i k put) (xS1 i k put)) (bnd 2)).length) = false := by
  rcases (by omega : i = 0 ∨ i = 1 ∨ i = 2 ∨ i = 3) with rfl | rfl | rfl | rfl <;> rcases (by omega : k = 0 ∨ k = 1 ∨ k = 2 ∨ k = 3) with rfl | rfl | rfl | rfl <;> cases put <;> decide
theorem x_two (i k : Int) (put : Bool) (hi : 0 ≤ i ∧ i ≤ 3) (hk : 0 ≤ k ∧ k ≤ 3) : decide (0 < (pairsL (mtP (xCs i k put) (xS2 i k put)) (bnd 2)).length) = (i == k) := by
  rcases (by omega : i = 0 ∨ i = 1 ∨ i = 2 ∨ i = 3) with rfl | rfl | rfl | rfl <;> rcases (by omega : k = 0 ∨ k = 1 ∨ k = 2 ∨ k = 3) with rfl | rfl | rfl | rfl <;> cases put <;> decide
theorem keep_ty {W w1 : World} {gv g : Nat} {cv c : Array Value} {t t' : TypeId} (hv : W.heap[gv]? = some (.cells cv t (0, 0))) (h : W.heap[g]? = some (.cells c t' (0, 0))) (ht : t ≠ t') (hg : W.grownBy w1 (some gv)) : w1.heap[g]? = some (.cells c t' (0, 0)) :=
  blk_keep h hg (fun e => by
    injection e with e
    subst e
    rw [hv] at h
    injection h with h
    injection h with _ h _
    exact ht h)
theorem own_keep {W w1 : World} {gv : Nat} {cv : Array Value} {t e : TypeId} {base size n : Nat} {v : Value} {xs : List Value} (hv : W.heap[gv]? = some (.cells cv t (0, 0))) (h : W.ownsRow base e size v n xs) (ht : t ≠ e) (hg : W.grownBy w1 (some gv)) : w1.ownsRow base e size v n xs :=
  own_move h (fun q hq => by
    obtain ⟨c, hc⟩ := own_typed h q hq
    exact (keep_ty hv hc ht hg).trans hc.symm)
theorem C49_own2 {w : World} {base : Nat} {c d : S49} {Ac : Option Addr} {cc : Nat} (hcc : c.f1.length ≤ cc) (hC : Kd.C k33 w Ac c.f1.length c.f1) {Ad : Option Addr} {cd : Nat} (hcd : d.f1.length ≤ cd) (hD : Kd.C k33 w Ad d.f1.length d.f1) {g cap : Nat}
    (h : w.ownsRow base 49 2 (.slice (some ⟨g, 0, none⟩) 2 cap) 2 [.int .i64 c.f0, .slice Ac c.f1.length cc, .int .i64 d.f0, .slice Ad d.f1.length cd]) : Kd.C k49 w (some ⟨g, 0, none⟩) 2 [c, d] := by
  have hcell : ∀ j u, [Value.int .i64 c.f0, .slice Ac c.f1.length cc, .int .i64 d.f0, .slice Ad d.f1.length cd][j]? = some u → w.cell? ⟨g, j, none⟩ = some u := fun j u hj => by
    have hl := (List.getElem?_eq_some_iff.1 hj).1
    rcases h.2 with ⟨he, _⟩ | ⟨g', cap', cur, he, _, hh, _, _, hsz, htake⟩
    · cases he
    · injection he with h1 h2 h3
      injection h1 with h1
      injection h1 with h1 _ _
      subst h1
      refine (blk_cell hh j).trans ?_
      rw [← htake] at hj
      rw [List.getElem?_take] at hj
      split at hj
      · simpa using hj
      · cases hj
  refine ⟨rfl, by decide, fun _ => ⟨_, rfl, fun j p hp => ?_⟩⟩
  have hj : j = 0 ∨ j = 1 := by
    have := (List.getElem?_eq_some_iff.1 hp).1
    simp at this; omega
  have hs : k49.sz = 2 := rfl
  rcases hj with rfl | rfl
  · have : c = p := by simpa using hp
    subst this
    refine ⟨[.int .i64 c.f0, .slice Ac c.f1.length cc], rfl, k49_mk w c hcc hC, fun i u hu => ?_⟩
    rw [hs, add_plain]
    have hi := (List.getElem?_eq_some_iff.1 hu).1
    have k : i = 0 ∨ i = 1 := by simp at hi; omega
    rcases k with rfl | rfl <;> exact hcell _ u (by simpa using hu)
  · have : d = p := by simpa using hp
    subst this
    refine ⟨[.int .i64 d.f0, .slice Ad d.f1.length cd], rfl, k49_mk w d hcd hD, fun i u hu => ?_⟩
    rw [hs, add_plain]
    have hi := (List.getElem?_eq_some_iff.1 hu).1
    have k : i = 0 ∨ i = 1 := by simp at hi; omega
    rcases k with rfl | rfl <;> exact hcell _ u (by simpa using hu)
theorem row_ne2 {w : World} {base n g : Nat} {e t : TypeId} {v : Value} {xs : List Value} {cs : Array Value} (h : w.ownsRow base e 2 v n xs) (hg : w.heap[g]? = some (.cells cs t (0, 0))) (hne : e ≠ t) : v.ownBlock ≠ some g := by
  intro hv
  obtain ⟨cells, hc⟩ := own_typed h g hv
  rw [hg] at hc
  injection hc with hc
  injection hc with _ hc _
  exact hne hc.symm
theorem own2_cap {w : World} {base g n cap : Nat} {xs : List Value} (h : w.ownsRow base 49 2 (.slice (some ⟨g, 0, none⟩) n cap) n xs) : n ≤ cap := by
  rcases h.2 with ⟨he, _⟩ | ⟨g', cap', cur, he, _, _, hc, _⟩
  · cases he
  · injection he with _ _ h3
    omega
section
variable {P : Program} {ops : Array Oper} {rest : List Oper} {o : Oper} {a : Act} {Q : Exit → Act → World → Prop}
theorem cell_ev3 {W : World} (hgd : o.guard = none) {t : TypeId} {p : Tmp} {v : Operand} (_ho : o.op = .store t (.tmp p) v) (hN : o.dst = none) {g j : Nat} {u : Value} {cs cs' : Array Value} {ty : TypeId}
    (hrun : (execOp a.eval o).run P W = .ok .skip (W.setCell ⟨g, j, none⟩ u)) (hh : W.heap[g]? = some (.cells cs ty (0, 0))) (e : cs.setIfInBounds j u = cs')
    (h : ∀ w1, w1.heap[g]? = some (.cells cs' ty (0, 0)) → W.grownBy w1 (some g) → wpList P ops Q rest a w1) : wpList P ops Q (o :: rest) a W :=
  store_event hgd _ho hN hrun (fun w' e' => by subst e'; exact h _ (blk_put hh j u e) (set_grown W g j u))
end
set_option maxHeartbeats 16000000 in
set_option maxRecDepth 100000 in
theorem indices_false (i k : Int) (hi : 0 ≤ i ∧ i ≤ 3) (hk : 0 ≤ k ∧ k ≤ 3) (w : World) : Calls Try.prog 15 #[.int .i64 i, .int .i64 k, .bool false] w fun e w' => e = .returned (.bool true) ∧ Below w.heap.size w w' := by
  have HI := Aside0.mk hi
  have HK := Aside0.mk hk
  have hi0 := hi.1
  have hi1 := hi.2
  have hk0 := hk.1
  have hk1 := hk.2
  clear hi hk
  go_enter Try.func15, Try.ntmps15
  go_wp2_with (first | ((with_reducible refine gate_dst (N := 26) rfl ?_); refine lit_ev2 (n := 1) ?hg (N := 26) ?hd (cs := #[.int .i64 4]) (t := 3) ?hr ?_; (case hd => rfl); (case hg => rfl); (case hr => first | (go_simp; done) | (go_simp; rfl)); intro gA hgg w1 hlit hb; have HLw1 := Aside0.mk hlit; have HKw1 := Aside0.mk hb; have HGw1 := Aside0.mk hgg; have HB1 := Aside0.mk hb; have HA1 := Aside0.mk hlit; clear hlit hb hgg) | ((with_reducible refine gate_dst (N := 7) rfl ?_); refine box_event ?hg (N := 7) ?hd (cs := #[.slice none 0 0, .slice none 0 0, .int .i64 0, .slice none 0 0]) (t := 25) ?hr ?_; (case hd => rfl); (case hg => rfl); (case hr => first | (go_simp; done) | (go_simp; rfl)); intro gv hgg w2 hlit hb; have HLw2 := Aside0.mk hlit; have HKw2 := Aside0.mk hb; have HGw2 := Aside0.mk hgg; skip; clear hlit hb hgg) | ((with_reducible refine gate_store (t := 25) (p := 7) rfl ?_); refine put_row ?hg ?hn 25 (.tmp 7) (.tmp 27) ?ho gv 25 _ (#[.slice none 0 0, .slice (some ⟨gA, 0, none⟩) 1 1, .int .i64 0, .slice none 0 0]) ?hp ?hx ?hu HLw2.out ?ht ?hs ?h1 ?_; (case hg => rfl); (case hn => rfl); (case ho => rfl); (case hp => rfl); (case hx => rfl); (case hu => rfl); (case ht => kernel_rfl); (case hs => rfl); (case h1 => exact unit_one _ _ _ _); intro w3 hlit hg; have HLw3 := Aside0.mk hlit; have HK3 := Aside0.mk (put_below2 HKw2.out HGw2.out hg); have HGV := Aside0.mk (show w.heap.size ≤ gv by rw [HGw2.out]; exact HB1.out.size); have HB3 := Aside0.mk (below_on HB1.out HK3.out); have HA3 := Aside0.mk (below_read HK3.out HA1.out); have HV3 := Aside0.mk hlit; have hu3 := (blk_cell hlit 3).trans rfl; clear hlit hg) | ((with_reducible refine gate_dst (N := 34) rfl ?_); refine lit_ev2 (n := 3) ?hg (N := 34) ?hd (cs := #[.int .i64 1, .int .i64 0, .int .i64 0, .int .i64 0, .int .i64 0, .int .i64 i, .int .i64 0, .int .i64 1, .int .i64 0, .int .i64 8, .int .i64 0, .int .i64 0, .int .i64 1, .int .i64 0, .int .i64 0, .int .i64 0, .int .i64 2, .int .i64 0, .int .i64 14, .int .i64 0, .int .i64 0, .int .i64 0, .int .i64 0, .int .i64 0, .int .i64 0, .int .i64 2, .int .i64 0]) (t := 33) ?hr ?_; (case hd => rfl); (case hg => rfl); (case hr => first | (go_simp; done) | (go_simp; rfl)); intro ga hgg w4 hlit hb; have HLw4 := Aside0.mk hlit; have HKw4 := Aside0.mk hb; have HGw4 := Aside0.mk hgg; have HB4 := Aside0.mk (below_on HB3.out hb); have HA4 := Aside0.mk (below_read hb HA3.out); have HV4 := Aside0.mk (below_read hb HV3.out); have HT4 := Aside0.mk hlit; replace hu3 := pw_cell_below hb hu3; clear hlit hb hgg) | ((with_reducible refine gate_dst (N := 36) rfl ?_); refine lit_ev2 (n := 1) ?hg (N := 36) ?hd (cs := #[.int .i64 2, .slice (some ⟨ga, 0, none⟩) 3 3]) (t := 49) ?hr ?_; (case hd => rfl); (case hg => rfl); (case hr => first | (go_simp; done) | (go_simp; rfl)); intro gc hgg w5 hlit hb; have HLw5 := Aside0.mk hlit; have HKw5 := Aside0.mk hb; have HGw5 := Aside0.mk hgg; have HB5 := Aside0.mk (below_on HB4.out hb); have HA5 := Aside0.mk (below_read hb HA4.out); have HV5 := Aside0.mk (below_read hb HV4.out); have HT5 := Aside0.mk (below_read hb HT4.out); replace hu3 := pw_cell_below hb hu3; clear hlit hb hgg) | ((with_reducible refine gate_dst (N := 37) rfl ?_); refine app2_event ?hg (.tmp 29) (.tmp 36) 23 49 (.agg #[.int .i64 0, .slice none 0 0]) 32 rfl Try.underlying23 info49 rfl w5.heap.size (.slice none 0 0) 0 [] rfl ⟨rfl, .inl ⟨rfl, rfl⟩⟩ gc 1 (.int .i64 2) (.slice (some ⟨ga, 0, none⟩) 3 3) rfl ((blk_cell HLw5.out 0).trans rfl) ((blk_cell HLw5.out 1).trans rfl) rfl rfl (by decide) (by decide) (Nat.le_refl _) ?_; (case hg => rfl); intro gt cap6 w6 ho6 hg6; have HO6 := Aside0.mk ho6; have hb6 : Below w5.heap.size w5 w6 := Below.grown (Below.refl _ _) hg6 (Nat.le_refl _) (fun q hq => by cases hq); have HB6 := Aside0.mk (below_on HB5.out hb6); have HA6 := Aside0.mk (below_read hb6 HA5.out); have HV6 := Aside0.mk (below_read hb6 HV5.out); have HT6 := Aside0.mk (below_read hb6 HT5.out); clear hu3; clear ho6 hg6 hb6) | ((with_reducible refine gate_store (t := 23) (p := 38) rfl ?_); have hz : w6.cell? ⟨gv, 3, none⟩ = some (.slice none 0 0) := (blk_cell HV6.out 3).trans rfl; have hq : w6.frozen? ⟨gv, 3, none⟩ = false := blk_frozen HV6.out 3; refine cell_ev3 ?hg (t := 23) (p := 38) (v := .tmp 37) ?ho ?hn (g := gv) (j := 3) (u := .slice (some ⟨gt, 0, none⟩) 1 cap6) (cs' := #[.slice none 0 0, .slice (some ⟨gA, 0, none⟩) 1 1, .int .i64 0, .slice (some ⟨gt, 0, none⟩) 1 cap6]) ?hr HV6.out ?he ?_; (case hg => rfl); (case ho => rfl); (case hn => rfl); (case hr => first | (go_simp; done) | (go_simp; rfl)); (case he => rfl); clear hz hq; intro w7 hlit hg; have HB7 := Aside0.mk (HB6.out.grown hg HB6.out.size (fun q hq => by injection hq with hq; rw [← hq]; exact HGV.out)); have HA7 := Aside0.mk (keep_ty HV6.out HA6.out (by decide) hg); have HT7 := Aside0.mk (keep_ty HV6.out HT6.out (by decide) hg); have HO7 := Aside0.mk (own_keep HV6.out HO6.out (by decide) hg); have HV7 := Aside0.mk hlit; have hu3 := (blk_cell hlit 3).trans rfl; clear hlit hg) | ((with_reducible refine gate_dst (N := 8) rfl ?_); refine box_event ?hg (N := 8) ?hd (cs := #[.int .i64 0, .int .i64 0, .int .i64 0, .int .i64 0, .int .i64 0, .int .i64 0, .int .i64 0, .int .i64 0, .int .i64 0]) (t := 33) ?hr ?_; (case hd => rfl); (case hg => rfl); (case hr => first | (go_simp; done) | (go_simp; rfl)); intro g8 hgg w8 hlit hb; have HLw8 := Aside0.mk hlit; have HKw8 := Aside0.mk hb; have HGw8 := Aside0.mk hgg; skip; clear hlit hb hgg) | ((with_reducible refine gate_store (t := 33) (p := 8) rfl ?_); refine put_row ?hg ?hn 33 (.tmp 8) (.tmp 39) ?ho g8 33 _ (#[.int .i64 7, .int .i64 1, .int .i64 0, .int .i64 0, .int .i64 0, .int .i64 0, .int .i64 0, .int .i64 2, .int .i64 0]) ?hp ?hx ?hu HLw8.out ?ht ?hs ?h1 ?_; (case hg => rfl); (case hn => rfl); (case ho => rfl); (case hp => rfl); (case hx => rfl); (case hu => rfl); (case ht => kernel_rfl); (case hs => rfl); (case h1 => exact actC_one (⟨7, 1, 0, 0, 0, 0, 0, 2, 0⟩ : S33)); intro w9 hlit hg; have HLw9 := Aside0.mk hlit; have HK9 := Aside0.mk (put_below2 HKw8.out HGw8.out hg); replace hu3 := pw_cell_below HK9.out hu3; have HB9 := Aside0.mk (below_on HB7.out HK9.out); have HA9 := Aside0.mk (below_read HK9.out HA7.out); have HV9 := Aside0.mk (below_read HK9.out HV7.out); have HT9 := Aside0.mk (below_read HK9.out HT7.out); have HO9 := Aside0.mk (own_move HO7.out (fun q hq => HK9.out.block q (HO7.out.lt q hq).2)); have hb9_0 := (blk_cell hlit 0).trans rfl; have hb9_1 := (blk_cell hlit 1).trans rfl; have hb9_2 := (blk_cell hlit 2).trans rfl; have hb9_3 := (blk_cell hlit 3).trans rfl; have hb9_4 := (blk_cell hlit 4).trans rfl; have hb9_5 := (blk_cell hlit 5).trans rfl; have hb9_6 := (blk_cell hlit 6).trans rfl; have hb9_7 := (blk_cell hlit 7).trans rfl; have hb9_8 := (blk_cell hlit 8).trans rfl; clear hlit hg) | ((with_reducible refine gate_dst (N := 48) rfl ?_); refine lit_ev2 (n := 3) ?hg (N := 48) ?hd (cs := #[.int .i64 1, .int .i64 0, .int .i64 0, .int .i64 0, .int .i64 0, .int .i64 k, .int .i64 0, .int .i64 1, .int .i64 0, .int .i64 7, .int .i64 1, .int .i64 0, .int .i64 0, .int .i64 0, .int .i64 0, .int .i64 0, .int .i64 2, .int .i64 0, .int .i64 14, .int .i64 0, .int .i64 0, .int .i64 0, .int .i64 0, .int .i64 0, .int .i64 0, .int .i64 2, .int .i64 0]) (t := 33) ?hr ?_; (case hd => rfl); (case hg => rfl); (case hr => first | (go_simp; done) | (go_simp; rfl)); intro gb hgg w11 hlit hb; have HLw11 := Aside0.mk hlit; have HKw11 := Aside0.mk hb; have HGw11 := Aside0.mk hgg; have HB11 := Aside0.mk (below_on HB9.out hb); have HA11 := Aside0.mk (below_read hb HA9.out); have HV11 := Aside0.mk (below_read hb HV9.out); have HT11 := Aside0.mk (below_read hb HT9.out); have HO11 := Aside0.mk (own_move HO9.out (fun q hq => hb.block q (HO9.out.lt q hq).2)); have HU11 := Aside0.mk hlit; replace hu3 := pw_cell_below hb hu3; clear hlit hb hgg) | ((with_reducible refine gate_dst (N := 50) rfl ?_); refine lit_ev2 (n := 1) ?hg (N := 50) ?hd (cs := #[.int .i64 2, .slice (some ⟨gb, 0, none⟩) 3 3]) (t := 49) ?hr ?_; (case hd => rfl); (case hg => rfl); (case hr => first | (go_simp; done) | (go_simp; rfl)); intro gd hgg w12 hlit hb; have HLw12 := Aside0.mk hlit; have HKw12 := Aside0.mk hb; have HGw12 := Aside0.mk hgg; have HB12 := Aside0.mk (below_on HB11.out hb); have HA12 := Aside0.mk (below_read hb HA11.out); have HV12 := Aside0.mk (below_read hb HV11.out); have HT12 := Aside0.mk (below_read hb HT11.out); have HO12 := Aside0.mk (own_move HO11.out (fun q hq => hb.block q (HO11.out.lt q hq).2)); have HU12 := Aside0.mk (below_read hb HU11.out); replace hu3 := pw_cell_below hb hu3; clear hlit hb hgg) | ((with_reducible refine gate_dst (N := 51) rfl ?_); refine app2_event ?hg (.tmp 43) (.tmp 50) 23 49 (.agg #[.int .i64 0, .slice none 0 0]) 32 rfl Try.underlying23 info49 rfl w5.heap.size (.slice (some ⟨gt, 0, none⟩) 1 cap6) 1 _ rfl HO12.out gd 1 (.int .i64 2) (.slice (some ⟨gb, 0, none⟩) 3 3) rfl ((blk_cell HLw12.out 0).trans rfl) ((blk_cell HLw12.out 1).trans rfl) rfl rfl (by decide) (by decide) (Nat.le_trans (HO12.out.lt gt rfl).1 (Nat.le_of_lt (HO12.out.lt gt rfl).2)) ?_; (case hg => rfl); intro gx cap13 w13 ho13 hg13; have HP13 := Aside0.mk ho13; have HB13 := Aside0.mk (HB12.out.grown hg13 HB12.out.size (fun q hq => Nat.le_trans HB5.out.size (HO12.out.lt q hq).1)); have HA13 := Aside0.mk (blk_keep HA12.out hg13 (row_ne2 HO12.out HA12.out (by decide))); have HV13 := Aside0.mk (blk_keep HV12.out hg13 (row_ne2 HO12.out HV12.out (by decide))); have HT13 := Aside0.mk (blk_keep HT12.out hg13 (row_ne2 HO12.out HT12.out (by decide))); have HU13 := Aside0.mk (blk_keep HU12.out hg13 (row_ne2 HO12.out HU12.out (by decide))); clear hu3; clear ho13 hg13) | ((with_reducible refine gate_store (t := 23) (p := 52) rfl ?_); have hz : w13.cell? ⟨gv, 3, none⟩ = some (.slice (some ⟨gt, 0, none⟩) 1 cap6) := (blk_cell HV13.out 3).trans rfl; have hq : w13.frozen? ⟨gv, 3, none⟩ = false := blk_frozen HV13.out 3; refine cell_ev3 ?hg (t := 23) (p := 52) (v := .tmp 51) ?ho ?hn (g := gv) (j := 3) (u := .slice (some ⟨gx, 0, none⟩) 2 cap13) (cs' := #[.slice none 0 0, .slice (some ⟨gA, 0, none⟩) 1 1, .int .i64 0, .slice (some ⟨gx, 0, none⟩) 2 cap13]) ?hr HV13.out ?he ?_; (case hg => rfl); (case ho => rfl); (case hn => rfl); (case hr => first | (go_simp; done) | (go_simp; rfl)); (case he => rfl); clear hz hq; intro w14 hlit hg; have HB14 := Aside0.mk (HB13.out.grown hg HB13.out.size (fun q hq => by injection hq with hq; rw [← hq]; exact HGV.out)); have HA14 := Aside0.mk (keep_ty HV13.out HA13.out (by decide) hg); have HT14 := Aside0.mk (keep_ty HV13.out HT13.out (by decide) hg); have HU14 := Aside0.mk (keep_ty HV13.out HU13.out (by decide) hg); have HP14 := Aside0.mk (own_keep HV13.out HP13.out (by decide) hg); have HV14 := Aside0.mk hlit; have hu0 := (blk_cell hlit 0).trans rfl; have hu1 := (blk_cell hlit 1).trans rfl; have hu2 := (blk_cell hlit 2).trans rfl; have hu3 := (blk_cell hlit 3).trans rfl; clear hlit hg))
  go_at_call 19
  refine (new_live w14 none 0 [] (some ⟨gA, 0, none⟩) 1 [4] 0 (some ⟨gx, 0, none⟩) cap13 (xCs i k false) (C_none _ _) (Nat.le_refl _) (C_lit w14 gA [4] HA14.out) (Nat.le_refl _) (C49_own2 (c := xC i (xB true)) (d := xC k (xB false)) (Nat.le_refl 3) (C33_lit w14 ga [⟨1, 0, 0, 0, 0, i, 0, 1, 0⟩, ⟨8, 0, 0, 1, 0, 0, 0, 2, 0⟩, ⟨14, 0, 0, 0, 0, 0, 0, 2, 0⟩] HT14.out (by simp)) (Nat.le_refl 3) (C33_lit w14 gb [⟨1, 0, 0, 0, 0, k, 0, 1, 0⟩, ⟨7, 1, 0, 0, 0, 0, 0, 2, 0⟩, ⟨14, 0, 0, 0, 0, 0, 0, 2, 0⟩] HU14.out (by simp)) HP14.out) (own2_cap HP14.out) (ok_x i k false HI.out HK.out)).mono ?_
  rintro e w15 ⟨ph, rfl, hL, hb⟩
  have H15 := Aside0.mk hL
  have HB15 := Aside0.mk (below_on HB14.out hb)
  clear hu0 hu1 hu2 hu3 hL hb
  go_wp2_with fail
  go_at_call 22
  refine (H15.out.step 0 0 rfl).mono ?_
  rintro e w16 ⟨rfl, hs⟩
  have H16 : Aside0 (Live _ _ w16 ph (xCs i k false) 1 (xS1 i k false)) := ⟨hs.1⟩
  have HB16 := Aside0.mk (Chg.below HB15.out HB15.out.size HB14.out.size hs.2)
  clear hs
  go_wp2_with fail
  go_at_call 34
  refine (H16.out.racing (small_step (small_new (ok_x i k false HI.out HK.out)) 0 0) 2 (x_one i k false HI.out HK.out)).mono ?_
  rintro e w17 ⟨rfl, hb⟩
  have H17 := Aside0.mk (H16.out.below hb)
  have HB17 := Aside0.mk (below_on HB16.out hb)
  clear hb
  go_wp2_with fail
  go_at_call 22
  refine (H17.out.step 1 0 rfl).mono ?_
  rintro e w18 ⟨rfl, hs⟩
  have H18 : Aside0 (Live _ _ w18 ph (xCs i k false) 1 (xS2 i k false)) := ⟨hs.1⟩
  have HB18 := Aside0.mk (Chg.below HB17.out HB17.out.size HB14.out.size hs.2)
  clear hs
  go_wp2_with fail
  go_at_call 34
  refine (H18.out.racing (small_step (small_step (small_new (ok_x i k false HI.out HK.out)) 0 0) 1 0) 2 (x_two i k false HI.out HK.out)).mono ?_
  rintro e w19 ⟨rfl, hb⟩
  have HB19 := Aside0.mk (below_on HB18.out hb)
  clear hb
  go_wp2_with (go_at_call 36; refine (known10_calls _).mono ?_; rintro e w20 ⟨rfl, hb⟩; have HB20 := Aside0.mk (below_on HB19.out hb); clear hb)
  go_ret
  exact ⟨rfl, HB20.out⟩
set_option maxHeartbeats 16000000 in
set_option maxRecDepth 100000 in
theorem indices_true (i k : Int) (hi : 0 ≤ i ∧ i ≤ 3) (hk : 0 ≤ k ∧ k ≤ 3) (w : World) : Calls Try.prog 15 #[.int .i64 i, .int .i64 k, .bool true] w fun e w' => e = .returned (.bool true) ∧ Below w.heap.size w w' := by
  have HI := Aside0.mk hi
  have HK := Aside0.mk hk
  have hi0 := hi.1
  have hi1 := hi.2
  have hk0 := hk.1
  have hk1 := hk.2
  clear hi hk
  go_enter Try.func15, Try.ntmps15
  go_wp2_with (first | ((with_reducible refine gate_dst (N := 26) rfl ?_); refine lit_ev2 (n := 1) ?hg (N := 26) ?hd (cs := #[.int .i64 4]) (t := 3) ?hr ?_; (case hd => rfl); (case hg => rfl); (case hr => first | (go_simp; done) | (go_simp; rfl)); intro gA hgg w1 hlit hb; have HLw1 := Aside0.mk hlit; have HKw1 := Aside0.mk hb; have HGw1 := Aside0.mk hgg; have HB1 := Aside0.mk hb; have HA1 := Aside0.mk hlit; clear hlit hb hgg) | ((with_reducible refine gate_dst (N := 7) rfl ?_); refine box_event ?hg (N := 7) ?hd (cs := #[.slice none 0 0, .slice none 0 0, .int .i64 0, .slice none 0 0]) (t := 25) ?hr ?_; (case hd => rfl); (case hg => rfl); (case hr => first | (go_simp; done) | (go_simp; rfl)); intro gv hgg w2 hlit hb; have HLw2 := Aside0.mk hlit; have HKw2 := Aside0.mk hb; have HGw2 := Aside0.mk hgg; skip; clear hlit hb hgg) | ((with_reducible refine gate_store (t := 25) (p := 7) rfl ?_); refine put_row ?hg ?hn 25 (.tmp 7) (.tmp 27) ?ho gv 25 _ (#[.slice none 0 0, .slice (some ⟨gA, 0, none⟩) 1 1, .int .i64 0, .slice none 0 0]) ?hp ?hx ?hu HLw2.out ?ht ?hs ?h1 ?_; (case hg => rfl); (case hn => rfl); (case ho => rfl); (case hp => rfl); (case hx => rfl); (case hu => rfl); (case ht => kernel_rfl); (case hs => rfl); (case h1 => exact unit_one _ _ _ _); intro w3 hlit hg; have HLw3 := Aside0.mk hlit; have HK3 := Aside0.mk (put_below2 HKw2.out HGw2.out hg); have HGV := Aside0.mk (show w.heap.size ≤ gv by rw [HGw2.out]; exact HB1.out.size); have HB3 := Aside0.mk (below_on HB1.out HK3.out); have HA3 := Aside0.mk (below_read HK3.out HA1.out); have HV3 := Aside0.mk hlit; have hu3 := (blk_cell hlit 3).trans rfl; clear hlit hg) | ((with_reducible refine gate_dst (N := 34) rfl ?_); refine lit_ev2 (n := 3) ?hg (N := 34) ?hd (cs := #[.int .i64 1, .int .i64 0, .int .i64 0, .int .i64 0, .int .i64 0, .int .i64 i, .int .i64 0, .int .i64 1, .int .i64 0, .int .i64 8, .int .i64 0, .int .i64 0, .int .i64 1, .int .i64 0, .int .i64 0, .int .i64 0, .int .i64 2, .int .i64 0, .int .i64 14, .int .i64 0, .int .i64 0, .int .i64 0, .int .i64 0, .int .i64 0, .int .i64 0, .int .i64 2, .int .i64 0]) (t := 33) ?hr ?_; (case hd => rfl); (case hg => rfl); (case hr => first | (go_simp; done) | (go_simp; rfl)); intro ga hgg w4 hlit hb; have HLw4 := Aside0.mk hlit; have HKw4 := Aside0.mk hb; have HGw4 := Aside0.mk hgg; have HB4 := Aside0.mk (below_on HB3.out hb); have HA4 := Aside0.mk (below_read hb HA3.out); have HV4 := Aside0.mk (below_read hb HV3.out); have HT4 := Aside0.mk hlit; replace hu3 := pw_cell_below hb hu3; clear hlit hb hgg) | ((with_reducible refine gate_dst (N := 36) rfl ?_); refine lit_ev2 (n := 1) ?hg (N := 36) ?hd (cs := #[.int .i64 2, .slice (some ⟨ga, 0, none⟩) 3 3]) (t := 49) ?hr ?_; (case hd => rfl); (case hg => rfl); (case hr => first | (go_simp; done) | (go_simp; rfl)); intro gc hgg w5 hlit hb; have HLw5 := Aside0.mk hlit; have HKw5 := Aside0.mk hb; have HGw5 := Aside0.mk hgg; have HB5 := Aside0.mk (below_on HB4.out hb); have HA5 := Aside0.mk (below_read hb HA4.out); have HV5 := Aside0.mk (below_read hb HV4.out); have HT5 := Aside0.mk (below_read hb HT4.out); replace hu3 := pw_cell_below hb hu3; clear hlit hb hgg) | ((with_reducible refine gate_dst (N := 37) rfl ?_); refine app2_event ?hg (.tmp 29) (.tmp 36) 23 49 (.agg #[.int .i64 0, .slice none 0 0]) 32 rfl Try.underlying23 info49 rfl w5.heap.size (.slice none 0 0) 0 [] rfl ⟨rfl, .inl ⟨rfl, rfl⟩⟩ gc 1 (.int .i64 2) (.slice (some ⟨ga, 0, none⟩) 3 3) rfl ((blk_cell HLw5.out 0).trans rfl) ((blk_cell HLw5.out 1).trans rfl) rfl rfl (by decide) (by decide) (Nat.le_refl _) ?_; (case hg => rfl); intro gt cap6 w6 ho6 hg6; have HO6 := Aside0.mk ho6; have hb6 : Below w5.heap.size w5 w6 := Below.grown (Below.refl _ _) hg6 (Nat.le_refl _) (fun q hq => by cases hq); have HB6 := Aside0.mk (below_on HB5.out hb6); have HA6 := Aside0.mk (below_read hb6 HA5.out); have HV6 := Aside0.mk (below_read hb6 HV5.out); have HT6 := Aside0.mk (below_read hb6 HT5.out); clear hu3; clear ho6 hg6 hb6) | ((with_reducible refine gate_store (t := 23) (p := 38) rfl ?_); have hz : w6.cell? ⟨gv, 3, none⟩ = some (.slice none 0 0) := (blk_cell HV6.out 3).trans rfl; have hq : w6.frozen? ⟨gv, 3, none⟩ = false := blk_frozen HV6.out 3; refine cell_ev3 ?hg (t := 23) (p := 38) (v := .tmp 37) ?ho ?hn (g := gv) (j := 3) (u := .slice (some ⟨gt, 0, none⟩) 1 cap6) (cs' := #[.slice none 0 0, .slice (some ⟨gA, 0, none⟩) 1 1, .int .i64 0, .slice (some ⟨gt, 0, none⟩) 1 cap6]) ?hr HV6.out ?he ?_; (case hg => rfl); (case ho => rfl); (case hn => rfl); (case hr => first | (go_simp; done) | (go_simp; rfl)); (case he => rfl); clear hz hq; intro w7 hlit hg; have HB7 := Aside0.mk (HB6.out.grown hg HB6.out.size (fun q hq => by injection hq with hq; rw [← hq]; exact HGV.out)); have HA7 := Aside0.mk (keep_ty HV6.out HA6.out (by decide) hg); have HT7 := Aside0.mk (keep_ty HV6.out HT6.out (by decide) hg); have HO7 := Aside0.mk (own_keep HV6.out HO6.out (by decide) hg); have HV7 := Aside0.mk hlit; have hu3 := (blk_cell hlit 3).trans rfl; clear hlit hg) | ((with_reducible refine gate_dst (N := 8) rfl ?_); refine box_event ?hg (N := 8) ?hd (cs := #[.int .i64 0, .int .i64 0, .int .i64 0, .int .i64 0, .int .i64 0, .int .i64 0, .int .i64 0, .int .i64 0, .int .i64 0]) (t := 33) ?hr ?_; (case hd => rfl); (case hg => rfl); (case hr => first | (go_simp; done) | (go_simp; rfl)); intro g8 hgg w8 hlit hb; have HLw8 := Aside0.mk hlit; have HKw8 := Aside0.mk hb; have HGw8 := Aside0.mk hgg; skip; clear hlit hb hgg) | ((with_reducible refine gate_store (t := 33) (p := 8) rfl ?_); refine put_row ?hg ?hn 33 (.tmp 8) (.tmp 39) ?ho g8 33 _ (#[.int .i64 7, .int .i64 1, .int .i64 0, .int .i64 0, .int .i64 0, .int .i64 0, .int .i64 0, .int .i64 2, .int .i64 0]) ?hp ?hx ?hu HLw8.out ?ht ?hs ?h1 ?_; (case hg => rfl); (case hn => rfl); (case ho => rfl); (case hp => rfl); (case hx => rfl); (case hu => rfl); (case ht => kernel_rfl); (case hs => rfl); (case h1 => exact actC_one (⟨7, 1, 0, 0, 0, 0, 0, 2, 0⟩ : S33)); intro w9 hlit hg; have HLw9 := Aside0.mk hlit; have HK9 := Aside0.mk (put_below2 HKw8.out HGw8.out hg); clear hlit hg) | ((with_reducible refine gate_store (t := 33) (p := 8) rfl ?_); refine put_row ?hg ?hn 33 (.tmp 8) (.tmp 41) ?ho g8 33 _ (#[.int .i64 8, .int .i64 0, .int .i64 0, .int .i64 1, .int .i64 0, .int .i64 0, .int .i64 0, .int .i64 2, .int .i64 0]) ?hp ?hx ?hu HLw9.out ?ht ?hs ?h1 ?_; (case hg => rfl); (case hn => rfl); (case ho => rfl); (case hp => rfl); (case hx => rfl); (case hu => rfl); (case ht => kernel_rfl); (case hs => rfl); (case h1 => exact actC_one (⟨8, 0, 0, 1, 0, 0, 0, 2, 0⟩ : S33)); intro w10 hlit hg; have HLw10 := Aside0.mk hlit; have HK10 := Aside0.mk (put_below2 HK9.out HGw8.out hg); replace hu3 := pw_cell_below HK10.out hu3; have HB10 := Aside0.mk (below_on HB7.out HK10.out); have HA10 := Aside0.mk (below_read HK10.out HA7.out); have HV10 := Aside0.mk (below_read HK10.out HV7.out); have HT10 := Aside0.mk (below_read HK10.out HT7.out); have HO10 := Aside0.mk (own_move HO7.out (fun q hq => HK10.out.block q (HO7.out.lt q hq).2)); have hb10_0 := (blk_cell hlit 0).trans rfl; have hb10_1 := (blk_cell hlit 1).trans rfl; have hb10_2 := (blk_cell hlit 2).trans rfl; have hb10_3 := (blk_cell hlit 3).trans rfl; have hb10_4 := (blk_cell hlit 4).trans rfl; have hb10_5 := (blk_cell hlit 5).trans rfl; have hb10_6 := (blk_cell hlit 6).trans rfl; have hb10_7 := (blk_cell hlit 7).trans rfl; have hb10_8 := (blk_cell hlit 8).trans rfl; clear hlit hg) | ((with_reducible refine gate_dst (N := 48) rfl ?_); refine lit_ev2 (n := 3) ?hg (N := 48) ?hd (cs := #[.int .i64 1, .int .i64 0, .int .i64 0, .int .i64 0, .int .i64 0, .int .i64 k, .int .i64 0, .int .i64 1, .int .i64 0, .int .i64 8, .int .i64 0, .int .i64 0, .int .i64 1, .int .i64 0, .int .i64 0, .int .i64 0, .int .i64 2, .int .i64 0, .int .i64 14, .int .i64 0, .int .i64 0, .int .i64 0, .int .i64 0, .int .i64 0, .int .i64 0, .int .i64 2, .int .i64 0]) (t := 33) ?hr ?_; (case hd => rfl); (case hg => rfl); (case hr => first | (go_simp; done) | (go_simp; rfl)); intro gb hgg w11 hlit hb; have HLw11 := Aside0.mk hlit; have HKw11 := Aside0.mk hb; have HGw11 := Aside0.mk hgg; have HB11 := Aside0.mk (below_on HB10.out hb); have HA11 := Aside0.mk (below_read hb HA10.out); have HV11 := Aside0.mk (below_read hb HV10.out); have HT11 := Aside0.mk (below_read hb HT10.out); have HO11 := Aside0.mk (own_move HO10.out (fun q hq => hb.block q (HO10.out.lt q hq).2)); have HU11 := Aside0.mk hlit; replace hu3 := pw_cell_below hb hu3; clear hlit hb hgg) | ((with_reducible refine gate_dst (N := 50) rfl ?_); refine lit_ev2 (n := 1) ?hg (N := 50) ?hd (cs := #[.int .i64 2, .slice (some ⟨gb, 0, none⟩) 3 3]) (t := 49) ?hr ?_; (case hd => rfl); (case hg => rfl); (case hr => first | (go_simp; done) | (go_simp; rfl)); intro gd hgg w12 hlit hb; have HLw12 := Aside0.mk hlit; have HKw12 := Aside0.mk hb; have HGw12 := Aside0.mk hgg; have HB12 := Aside0.mk (below_on HB11.out hb); have HA12 := Aside0.mk (below_read hb HA11.out); have HV12 := Aside0.mk (below_read hb HV11.out); have HT12 := Aside0.mk (below_read hb HT11.out); have HO12 := Aside0.mk (own_move HO11.out (fun q hq => hb.block q (HO11.out.lt q hq).2)); have HU12 := Aside0.mk (below_read hb HU11.out); replace hu3 := pw_cell_below hb hu3; clear hlit hb hgg) | ((with_reducible refine gate_dst (N := 51) rfl ?_); refine app2_event ?hg (.tmp 43) (.tmp 50) 23 49 (.agg #[.int .i64 0, .slice none 0 0]) 32 rfl Try.underlying23 info49 rfl w5.heap.size (.slice (some ⟨gt, 0, none⟩) 1 cap6) 1 _ rfl HO12.out gd 1 (.int .i64 2) (.slice (some ⟨gb, 0, none⟩) 3 3) rfl ((blk_cell HLw12.out 0).trans rfl) ((blk_cell HLw12.out 1).trans rfl) rfl rfl (by decide) (by decide) (Nat.le_trans (HO12.out.lt gt rfl).1 (Nat.le_of_lt (HO12.out.lt gt rfl).2)) ?_; (case hg => rfl); intro gx cap13 w13 ho13 hg13; have HP13 := Aside0.mk ho13; have HB13 := Aside0.mk (HB12.out.grown hg13 HB12.out.size (fun q hq => Nat.le_trans HB5.out.size (HO12.out.lt q hq).1)); have HA13 := Aside0.mk (blk_keep HA12.out hg13 (row_ne2 HO12.out HA12.out (by decide))); have HV13 := Aside0.mk (blk_keep HV12.out hg13 (row_ne2 HO12.out HV12.out (by decide))); have HT13 := Aside0.mk (blk_keep HT12.out hg13 (row_ne2 HO12.out HT12.out (by decide))); have HU13 := Aside0.mk (blk_keep HU12.out hg13 (row_ne2 HO12.out HU12.out (by decide))); clear hu3; clear ho13 hg13) | ((with_reducible refine gate_store (t := 23) (p := 52) rfl ?_); have hz : w13.cell? ⟨gv, 3, none⟩ = some (.slice (some ⟨gt, 0, none⟩) 1 cap6) := (blk_cell HV13.out 3).trans rfl; have hq : w13.frozen? ⟨gv, 3, none⟩ = false := blk_frozen HV13.out 3; refine cell_ev3 ?hg (t := 23) (p := 52) (v := .tmp 51) ?ho ?hn (g := gv) (j := 3) (u := .slice (some ⟨gx, 0, none⟩) 2 cap13) (cs' := #[.slice none 0 0, .slice (some ⟨gA, 0, none⟩) 1 1, .int .i64 0, .slice (some ⟨gx, 0, none⟩) 2 cap13]) ?hr HV13.out ?he ?_; (case hg => rfl); (case ho => rfl); (case hn => rfl); (case hr => first | (go_simp; done) | (go_simp; rfl)); (case he => rfl); clear hz hq; intro w14 hlit hg; have HB14 := Aside0.mk (HB13.out.grown hg HB13.out.size (fun q hq => by injection hq with hq; rw [← hq]; exact HGV.out)); have HA14 := Aside0.mk (keep_ty HV13.out HA13.out (by decide) hg); have HT14 := Aside0.mk (keep_ty HV13.out HT13.out (by decide) hg); have HU14 := Aside0.mk (keep_ty HV13.out HU13.out (by decide) hg); have HP14 := Aside0.mk (own_keep HV13.out HP13.out (by decide) hg); have HV14 := Aside0.mk hlit; have hu0 := (blk_cell hlit 0).trans rfl; have hu1 := (blk_cell hlit 1).trans rfl; have hu2 := (blk_cell hlit 2).trans rfl; have hu3 := (blk_cell hlit 3).trans rfl; clear hlit hg))
  go_at_call 19
  refine (new_live w14 none 0 [] (some ⟨gA, 0, none⟩) 1 [4] 0 (some ⟨gx, 0, none⟩) cap13 (xCs i k true) (C_none _ _) (Nat.le_refl _) (C_lit w14 gA [4] HA14.out) (Nat.le_refl _) (C49_own2 (c := xC i (xB true)) (d := xC k (xB true)) (Nat.le_refl 3) (C33_lit w14 ga [⟨1, 0, 0, 0, 0, i, 0, 1, 0⟩, ⟨8, 0, 0, 1, 0, 0, 0, 2, 0⟩, ⟨14, 0, 0, 0, 0, 0, 0, 2, 0⟩] HT14.out (by simp)) (Nat.le_refl 3) (C33_lit w14 gb [⟨1, 0, 0, 0, 0, k, 0, 1, 0⟩, ⟨8, 0, 0, 1, 0, 0, 0, 2, 0⟩, ⟨14, 0, 0, 0, 0, 0, 0, 2, 0⟩] HU14.out (by simp)) HP14.out) (own2_cap HP14.out) (ok_x i k true HI.out HK.out)).mono ?_
  rintro e w15 ⟨ph, rfl, hL, hb⟩
  have H15 := Aside0.mk hL
  have HB15 := Aside0.mk (below_on HB14.out hb)
  clear hu0 hu1 hu2 hu3 hL hb
  go_wp2_with fail
  go_at_call 22
  refine (H15.out.step 0 0 rfl).mono ?_
  rintro e w16 ⟨rfl, hs⟩
  have H16 : Aside0 (Live _ _ w16 ph (xCs i k true) 1 (xS1 i k true)) := ⟨hs.1⟩
  have HB16 := Aside0.mk (Chg.below HB15.out HB15.out.size HB14.out.size hs.2)
  clear hs
  go_wp2_with fail
  go_at_call 34
  refine (H16.out.racing (small_step (small_new (ok_x i k true HI.out HK.out)) 0 0) 2 (x_one i k true HI.out HK.out)).mono ?_
  rintro e w17 ⟨rfl, hb⟩
  have H17 := Aside0.mk (H16.out.below hb)
  have HB17 := Aside0.mk (below_on HB16.out hb)
  clear hb
  go_wp2_with fail
  go_at_call 22
  refine (H17.out.step 1 0 rfl).mono ?_
  rintro e w18 ⟨rfl, hs⟩
  have H18 : Aside0 (Live _ _ w18 ph (xCs i k true) 1 (xS2 i k true)) := ⟨hs.1⟩
  have HB18 := Aside0.mk (Chg.below HB17.out HB17.out.size HB14.out.size hs.2)
  clear hs
  go_wp2_with fail
  go_at_call 34
  refine (H18.out.racing (small_step (small_step (small_new (ok_x i k true HI.out HK.out)) 0 0) 1 0) 2 (x_two i k true HI.out HK.out)).mono ?_
  rintro e w19 ⟨rfl, hb⟩
  have HB19 := Aside0.mk (below_on HB18.out hb)
  clear hb
  go_wp2_with (go_at_call 36; refine (known10_calls _).mono ?_; rintro e w20 ⟨rfl, hb⟩; have HB20 := Aside0.mk (below_on HB19.out hb); clear hb)
  go_ret
  exact ⟨rfl, HB20.out⟩
set_option maxHeartbeats 4000000 in
theorem RaceIndices_calls (i k : Int) (put : Bool) (w : World) : Calls Try.prog 15 #[.int .i64 i, .int .i64 k, .bool put] w fun e w' => e = .returned (.bool true) ∧ Below w.heap.size w w' := by
  by_cases hi : 0 ≤ i ∧ i ≤ 3
  · by_cases hk : 0 ≤ k ∧ k ≤ 3
    · cases put
      · exact indices_false i k hi hk w
      · exact indices_true i k hi hk w
    · have h0 := hi.1
      have h1 := hi.2
      rcases (by omega : k < 0 ∨ 3 < k) with h | h
      · go_enter Try.func15, Try.ntmps15
        go_wp2
        go_ret
        exact ⟨rfl, Below.refl _ _⟩
      · have h2 : ¬ k < 0 := by omega
        go_enter Try.func15, Try.ntmps15
        go_wp2
        go_ret
        exact ⟨rfl, Below.refl _ _⟩
  · rcases (by omega : i < 0 ∨ 3 < i) with h | h
    · go_enter Try.func15, Try.ntmps15
      go_wp2
      go_ret
      exact ⟨rfl, Below.refl _ _⟩
    · have h2 : ¬ i < 0 := by omega
      go_enter Try.func15, Try.ntmps15
      go_wp2
      go_ret
      exact ⟨rfl, Below.refl _ _⟩
end Go.Proofs.Ytikjamcemnbhbaa.Mr
