/- meddlerlaw10: two that load do not meet; one that stores meets any that loads or stores the same. -/
import Derived.Test.YtikjamcemnbhbaaMrLaw10a
namespace Go.Proofs.Ytikjamcemnbhbaa.Mr
open Go.RowKit Go.Proofs.YtikjamcemnbhbaaW.PrintWords Go.Proofs.YtikjamcemnbhbaaW.PrintLast Go.Proofs.YtikjamcemnbhbaaW.PrintMore
set_option linter.unusedVariables false
set_option linter.unusedSimpArgs false
def ldA (x : Int) : S33 := ⟨5, 0, 0, 0, x, 0, 0, 1, 0⟩
def qC (ld : Bool) (x : Int) : S49 := if ld then ⟨1, [ldA x, ⟨14, 0, 0, 0, 0, 0, 0, 1, 0⟩]⟩ else stC x
def qCs (a b : Bool) (g h : Int) : List S49 := [qC a g, qC b h]
def qS0 (a b : Bool) (g h : Int) : St := newSt [0, 0] [] (qCs a b g h) 0 0 2
theorem ok_q (a b : Bool) (g h : Int) (hg : 0 ≤ g ∧ g ≤ 1) (hh : 0 ≤ h ∧ h ≤ 1) : OkUnit [0, 0] [] 0 (qCs a b g h) := by
  have key : ∀ (x : Int) (p : Bool), 0 ≤ x ∧ x ≤ 1 → OkCode 2 0 0 (qC p x) := fun x p hx => by
    cases p <;> rcases (by omega : x = 0 ∨ x = 1) with rfl | rfl <;> exact ⟨by decide, by decide, by decide, fun a ha => by
      simp only [qC, stC, ldA, if_true, if_false, Bool.false_eq_true, List.mem_cons, List.not_mem_nil, or_false] at ha
      rcases ha with rfl | rfl <;> exact ok_acts (by decide)⟩
  refine ⟨by decide, by decide, by decide, by simp, by decide, by simp [qCs], fun c hc => ?_⟩
  simp only [qCs, List.mem_cons, List.not_mem_nil, or_false] at hc
  rcases hc with rfl | rfl
  · exact key g a hg
  · exact key h b hh
theorem q_race (a b : Bool) (g h : Int) (hg : 0 ≤ g ∧ g ≤ 1) (hh : 0 ≤ h ∧ h ≤ 1) : decide (0 < (pairsL (mtP (qCs a b g h) (qS0 a b g h)) (bnd 2)).length) = ((g == h) && !(a && b)) := by
  rcases (by omega : g = 0 ∨ g = 1) with rfl | rfl <;> rcases (by omega : h = 0 ∨ h = 1) with rfl | rfl <;> cases a <;> cases b <;> decide
theorem q_pairs (a b : Bool) (g h : Int) (hg : 0 ≤ g ∧ g ≤ 1) (hh : 0 ≤ h ∧ h ≤ 1) : (pairsL (mtP (qCs a b g h) (qS0 a b g h)) (bnd 1)).length = 0 := by
  rcases (by omega : g = 0 ∨ g = 1) with rfl | rfl <;> rcases (by omega : h = 0 ∨ h = 1) with rfl | rfl <;> cases a <;> cases b <;> decide
theorem pairs_nought {L R : Nat} {w : World} {ph : Ph} {cs : List S49} {nA : Nat} {s : St} (H : Live L R w ph cs nA s) (hsm : ∀ k, (s.row k).length ≤ 1000) (n : Int) (hz : (pairsL (mtP cs s) (bnd n)).length = 0) :
    Calls Try.prog 35 #[.pointer (some ⟨ph.bm, 0, none⟩), .int .i64 n] w fun e w' => ∃ A c, e = .returned (.slice A 0 c) ∧ Below w.heap.size w w' :=
  (H.pairs hsm n).mono fun e w' ⟨v, he, ho, hb⟩ => by
    obtain ⟨A, c, rfl⟩ := own2_slice ho
    rw [hz] at he
    exact ⟨A, c, he, hb⟩
theorem stores_own (w : World) (A : Option Addr) (c : Nat) (a b : Int) (hC : Kd.C (Kd.int .i64) w A 2 [a, b]) (hc : 2 ≤ c) : Calls Try.prog 33 #[.slice A 2 c] w fun e w' => ∃ A0 c0 A1 c1 g3 c3 ok0 ok1, e = .returned (.agg #[.slice A0 2 c0, .slice A1 0 c1, .int .i64 0, .slice (some ⟨g3, 0, none⟩) 2 c3]) ∧
      Kd.R (Kd.int .i64) 3 w' w.heap.size ok0 (.slice A0 2 c0) [0, 0] ∧ Kd.R (Kd.int .i64) 3 w' w.heap.size ok1 (.slice A1 0 c1) [] ∧ Kd.S k49 49 w' w.heap.size (fun _ => True) (.slice (some ⟨g3, 0, none⟩) 2 c3) [stC a, stC b] ∧ Below w.heap.size w w' :=
  (meddlerlaw10_stores.calls 5 A c [a, b] [0, 0] [] 0 [stC a, stC b] w hC hc (stores_ok a b)).mono fun e w' h => by
    obtain ⟨v0, v1, v3, rfl, h0, h1, h3, hb⟩ := h
    obtain ⟨A0, c0, rfl, l0, C0⟩ := Kd.R_reads h0
    obtain ⟨A1, c1, rfl, l1, C1⟩ := Kd.R_reads h1
    obtain ⟨g3, c3, rfl, _⟩ := Kd.S_form h3 (Nat.succ_pos 1)
    exact ⟨A0, c0, A1, c1, g3, c3, _, _, rfl, h0, h1, h3, hb⟩
theorem lend0 {W : World} {base g cap : Nat} {x y : S49} (hx : x.f1.length = 2) (h : Kd.S k49 49 W base (fun _ => True) (.slice (some ⟨g, 0, none⟩) 2 cap) [x, y]) : ∃ oki ga ca, W.cell? ⟨g, 1, none⟩ = some (.slice (some ⟨ga, 0, none⟩) 2 ca) ∧ Kd.R k33 33 W base oki (.slice (some ⟨ga, 0, none⟩) 2 ca) x.f1 ∧
      (∃ cells, W.heap[ga]? = some (.cells cells 33 (0, 0))) ∧ base ≤ ga ∧ ∀ w1 l, W.grownBy w1 (some ga) → Kd.R k33 33 w1 base oki (.slice (some ⟨ga, 0, none⟩) 2 ca) l → Kd.S k49 49 w1 base (fun _ => True) (.slice (some ⟨g, 0, none⟩) 2 cap) [⟨x.f0, l⟩, y] := by
  obtain ⟨oki, c, hcl, hM, hcc, hok, hback⟩ := Kd.S_borrow h x 0 (by decide) (by decide)
  obtain ⟨v, rfl, hR⟩ := k49_openM hM
  have hR : Kd.R k33 33 W base oki v x.f1 := hR
  obtain ⟨ga, ca, rfl, hb, hlt, hty⟩ := Kd.R_form hR (by omega)
  rw [hx] at *
  exact ⟨oki, ga, ca, hcc 1 _ rfl, hR, hty, hb, fun w1 l hg hl => hback (x' := ⟨x.f0, l⟩) hg (fun k hk => hR.1 k hk) (k49_mkM w1 base oki ⟨x.f0, l⟩ hl)⟩
theorem lend1 {W : World} {base g cap : Nat} {x y : S49} (hy : y.f1.length = 2) (h : Kd.S k49 49 W base (fun _ => True) (.slice (some ⟨g, 0, none⟩) 2 cap) [x, y]) : ∃ oki ga ca, W.cell? ⟨g, 3, none⟩ = some (.slice (some ⟨ga, 0, none⟩) 2 ca) ∧ Kd.R k33 33 W base oki (.slice (some ⟨ga, 0, none⟩) 2 ca) y.f1 ∧
      (∃ cells, W.heap[ga]? = some (.cells cells 33 (0, 0))) ∧ base ≤ ga ∧ ∀ w1 l, W.grownBy w1 (some ga) → Kd.R k33 33 w1 base oki (.slice (some ⟨ga, 0, none⟩) 2 ca) l → Kd.S k49 49 w1 base (fun _ => True) (.slice (some ⟨g, 0, none⟩) 2 cap) [x, ⟨y.f0, l⟩] := by
  obtain ⟨oki, c, hcl, hM, hcc, hok, hback⟩ := Kd.S_borrow h y 1 (by decide) (by decide)
  obtain ⟨v, rfl, hR⟩ := k49_openM hM
  have hR : Kd.R k33 33 W base oki v y.f1 := hR
  obtain ⟨ga, ca, rfl, hb, hlt, hty⟩ := Kd.R_form hR (by omega)
  rw [hy] at *
  exact ⟨oki, ga, ca, hcc 1 _ rfl, hR, hty, hb, fun w1 l hg hl => hback (x' := ⟨y.f0, l⟩) hg (fun k hk => hR.1 k hk) (k49_mkM w1 base oki ⟨y.f0, l⟩ hl)⟩
theorem int_keep {W w1 : World} {base ga : Nat} {ok : Nat → Prop} {v : Value} {xs : List Int} (h : Kd.R (Kd.int .i64) 3 W base ok v xs) (hty : ∃ cells, W.heap[ga]? = some (.cells cells 33 (0, 0))) (hg : W.grownBy w1 (some ga)) : Kd.R (Kd.int .i64) 3 w1 base ok v xs :=
  Kd.R_over' (v := .slice (some ⟨ga, 0, none⟩) 2 2) (e' := 33) h (fun k hk => by
    have : ga = k := by simpa [Value.ownBlock] using hk
    subst this
    exact hty) (by decide) hg
theorem box_keep {W w1 : World} {ga gv : Nat} {cv : Array Value} (h : W.heap[gv]? = some (.cells cv 25 (0, 0))) (hty : ∃ cells, W.heap[ga]? = some (.cells cells 33 (0, 0))) (hg : W.grownBy w1 (some ga)) : w1.heap[gv]? = some (.cells cv 25 (0, 0)) :=
  blk_keep h hg (fun e => by
    injection e with e
    subst e
    obtain ⟨c, hc⟩ := hty
    rw [h] at hc
    injection hc with hc
    injection hc with _ hc _
    exact absurd hc (by decide))
section
variable {ops : Array Oper} {rest : List Oper} {o : Oper} {a : Act} {Q : Exit → Act → World → Prop}
theorem act_store {W : World} (hgd : o.guard = none) (p x : Tmp) (ho : o.op = .store 33 (.tmp p) (.tmp x)) (hN : o.dst = none) {ga ca base : Nat} {oki : Nat → Prop} {acts : List S33} (b : S33) (haddr : a.eval (.tmp p) = .pointer (some ⟨ga, 0, none⟩)) (hx : a.eval (.tmp x) = .agg #[.int .i64 b.f0, .int .i64 b.f1, .int .i64 b.f2, .int .i64 b.f3, .int .i64 b.f4, .int .i64 b.f5, .int .i64 b.f6, .int .i64 b.f7, .int .i64 b.f8])
    (hinfo : (Try.prog.info? 33).map (·.size) = some 9) (HO : Kd.R k33 33 W base oki (.slice (some ⟨ga, 0, none⟩) 2 ca) acts)
    (h : ∀ w1, Kd.R k33 33 w1 base oki (.slice (some ⟨ga, 0, none⟩) 2 ca) (acts.set 0 b) → W.grownBy w1 (some ga) → wpList Try.prog ops Q rest a w1) : wpList Try.prog ops Q (o :: rest) a W := by
  obtain ⟨c, hcl, _, hcc, _⟩ := Kd.R_elem HO b 0 (by decide) (by decide)
  have hcl9 : c.length = 9 := hcl
  refine Kd.R_store k33 (w0 := W) base hN hgd 33 (.tmp p) (.tmp x) ho 33 0 0 acts b _ [.int .i64 b.f0, .int .i64 b.f1, .int .i64 b.f2, .int .i64 b.f3, .int .i64 b.f4, .int .i64 b.f5, .int .i64 b.f6, .int .i64 b.f7, .int .i64 b.f8] c oki (fun _ => False) haddr rfl hx rfl hinfo ?_ HO (by decide) (by decide) hcl hcc (Nat.le_refl 9) ?_ (fun k hk => hk.elim) (Below.refl _ _) (fun w1 h1 _ h2 => h w1 h1 h2)
  · intro q hq
    simp only [List.mem_cons, List.not_mem_nil, or_false] at hq
    rcases hq with rfl | rfl | rfl | rfl | rfl | rfl | rfl | rfl | rfl <;> rfl
  · have : c.drop (0 + 9) = [] := List.drop_eq_nil_of_le (by omega)
    show k33.M W base _ b (c.take 0 ++ _ ++ c.drop (0 + 9))
    rw [this, List.take_zero, List.nil_append, List.append_nil]
    exact k33_mkM _ _ _ b
end
set_option maxHeartbeats 16000000 in
set_option maxRecDepth 100000 in
theorem kinds_ff (g h : Int) (hg : 0 ≤ g ∧ g ≤ 1) (hh : 0 ≤ h ∧ h ≤ 1) (w : World) : Calls Try.prog 12 #[.bool false, .bool false, .int .i64 g, .int .i64 h] w fun e w' => e = .returned (.bool true) ∧ Below w.heap.size w w' := by
  have HG := Aside0.mk hg
  have HH := Aside0.mk hh
  have hi0 := hg.1
  have hi1 := hg.2
  have hk0 := hh.1
  have hk1 := hh.2
  clear hg hh
  go_enter Try.func12, Try.ntmps12
  go_wp2_with (first | ((with_reducible refine gate_dst (N := 28) rfl ?_); refine lit_ev2 (n := 2) ?hg (N := 28) ?hd (cs := #[.int .i64 g, .int .i64 h]) (t := 3) ?hr ?_; (case hd => rfl); (case hg => rfl); (case hr => first | (go_simp; done) | (go_simp; rfl)); intro gl hgg w1 hlit hb; have HLw1 := Aside0.mk hlit; have HKw1 := Aside0.mk hb; have HGw1 := Aside0.mk hgg; have HB1 := Aside0.mk hb; have HC1 := Aside0.mk (C_lit w1 gl [g, h] hlit); clear hlit hb hgg))
  go_at_call 33
  refine (stores_own w1 (some ⟨gl, 0, none⟩) 2 g h HC1.out (Nat.le_refl _)).mono ?_
  rintro e w2 ⟨A0, c0, A1, c1, g3, c3, ok0, ok1, rfl, hR, hE, hS, hb⟩
  have HR2 := Aside0.mk hR
  have HE2 := Aside0.mk hE
  have HS2 := Aside0.mk hS
  have HB2 := Aside0.mk (below_on HB1.out hb)
  clear hR hE hS hb hi0 hi1 hk0 hk1
  go_wp2_with (first | ((with_reducible refine gate_dst (N := 9) rfl ?_); refine box_event ?hg (N := 9) ?hd (cs := #[.slice none 0 0, .slice none 0 0, .int .i64 0, .slice none 0 0]) (t := 25) ?hr ?_; (case hd => rfl); (case hg => rfl); (case hr => first | (go_simp; done) | (go_simp; rfl)); intro gv hgg w3 hlit hb; have HLw3 := Aside0.mk hlit; have HKw3 := Aside0.mk hb; have HGw3 := Aside0.mk hgg; skip; clear hlit hb hgg) | ((with_reducible refine gate_store (t := 25) (p := 9) rfl ?_); refine put_row ?hg ?hn 25 (.tmp 9) (.tmp 29) ?ho gv 25 _ (#[.slice A0 2 c0, .slice A1 0 c1, .int .i64 0, .slice (some ⟨g3, 0, none⟩) 2 c3]) ?hp ?hx ?hu HLw3.out ?ht ?hs ?h1 ?_; (case hg => rfl); (case hn => rfl); (case ho => rfl); (case hp => rfl); (case hx => rfl); (case hu => rfl); (case ht => kernel_rfl); (case hs => rfl); (case h1 => exact unit_one _ _ _ _); intro w4 hlit hg; have HLw4 := Aside0.mk hlit; have HK4 := Aside0.mk (put_below2 HKw3.out HGw3.out hg); have HR4 := Aside0.mk (Kd.R_below HR2.out HK4.out); have HE4 := Aside0.mk (Kd.R_below HE2.out HK4.out); have HS4 := Aside0.mk (Kd.S_below HS2.out HK4.out); have HB4 := Aside0.mk (below_on HB2.out HK4.out); have hu0 := (blk_cell hlit 0).trans rfl; have hu1 := (blk_cell hlit 1).trans rfl; have hu2 := (blk_cell hlit 2).trans rfl; have hu3 := (blk_cell hlit 3).trans rfl; clear hlit hg))
  go_at_call 19
  refine (new_live w4 A0 c0 [0, 0] A1 c1 [] 0 (some ⟨g3, 0, none⟩) c3 (qCs false false g h) (Kd.R_reads' HR4.out).2.2 (Kd.R_reads' HR4.out).2.1 (Kd.R_reads' HE4.out).2.2 (Nat.zero_le _) (Kd.S_reads' HS4.out).2.2 (Kd.S_reads' HS4.out).2.1 (ok_q false false g h HG.out HH.out)).mono ?_
  rintro e w7 ⟨ph, rfl, hL, hb⟩
  have H7 := Aside0.mk hL
  have HB7 := Aside0.mk (below_on HB4.out hb)
  clear hu0 hu1 hu2 hu3 hL hb
  go_wp2_with fail
  cases hgh : (g == h) with
  | false =>
    go_at_call 34
    refine (H7.out.racing (small_new (ok_q false false g h HG.out HH.out)) 2 (b := false) ((q_race false false g h HG.out HH.out).trans (by rw [hgh]; rfl))).mono ?_
    rintro e w8 ⟨rfl, hb⟩
    have H8 := Aside0.mk (H7.out.below hb)
    have HB8 := Aside0.mk (below_on HB7.out hb)
    clear hb
    go_wp2_with fail
    go_at_call 35
    refine (pairs_nought H8.out (small_new (ok_q false false g h HG.out HH.out)) 1 (q_pairs false false g h HG.out HH.out)).mono ?_
    rintro e w9 ⟨Ap, cp, rfl, hb⟩
    have HB9 := Aside0.mk (below_on HB8.out hb)
    clear hb
    go_wp2_with (go_at_call 36; refine (known10_calls _).mono ?_; rintro e w10 ⟨rfl, hb⟩; have HB10 := Aside0.mk (below_on HB9.out hb); clear hb)
    go_ret
    exact ⟨rfl, HB10.out⟩
  | true =>
    go_at_call 34
    refine (H7.out.racing (small_new (ok_q false false g h HG.out HH.out)) 2 (b := true) ((q_race false false g h HG.out HH.out).trans (by rw [hgh]; rfl))).mono ?_
    rintro e w8 ⟨rfl, hb⟩
    have H8 := Aside0.mk (H7.out.below hb)
    have HB8 := Aside0.mk (below_on HB7.out hb)
    clear hb
    go_wp2_with fail
    go_at_call 35
    refine (pairs_nought H8.out (small_new (ok_q false false g h HG.out HH.out)) 1 (q_pairs false false g h HG.out HH.out)).mono ?_
    rintro e w9 ⟨Ap, cp, rfl, hb⟩
    have HB9 := Aside0.mk (below_on HB8.out hb)
    clear hb
    go_wp2_with (go_at_call 36; refine (known10_calls _).mono ?_; rintro e w10 ⟨rfl, hb⟩; have HB10 := Aside0.mk (below_on HB9.out hb); clear hb)
    go_ret
    exact ⟨rfl, HB10.out⟩
set_option maxHeartbeats 16000000 in
set_option maxRecDepth 100000 in
theorem kinds_ft (g h : Int) (hg : 0 ≤ g ∧ g ≤ 1) (hh : 0 ≤ h ∧ h ≤ 1) (w : World) : Calls Try.prog 12 #[.bool false, .bool true, .int .i64 g, .int .i64 h] w fun e w' => e = .returned (.bool true) ∧ Below w.heap.size w w' := by
  have HG := Aside0.mk hg
  have HH := Aside0.mk hh
  have hi0 := hg.1
  have hi1 := hg.2
  have hk0 := hh.1
  have hk1 := hh.2
  clear hg hh
  go_enter Try.func12, Try.ntmps12
  go_wp2_with (first | ((with_reducible refine gate_dst (N := 28) rfl ?_); refine lit_ev2 (n := 2) ?hg (N := 28) ?hd (cs := #[.int .i64 g, .int .i64 h]) (t := 3) ?hr ?_; (case hd => rfl); (case hg => rfl); (case hr => first | (go_simp; done) | (go_simp; rfl)); intro gl hgg w1 hlit hb; have HLw1 := Aside0.mk hlit; have HKw1 := Aside0.mk hb; have HGw1 := Aside0.mk hgg; have HB1 := Aside0.mk hb; have HC1 := Aside0.mk (C_lit w1 gl [g, h] hlit); clear hlit hb hgg))
  go_at_call 33
  refine (stores_own w1 (some ⟨gl, 0, none⟩) 2 g h HC1.out (Nat.le_refl _)).mono ?_
  rintro e w2 ⟨A0, c0, A1, c1, g3, c3, ok0, ok1, rfl, hR, hE, hS, hb⟩
  have HR2 := Aside0.mk hR
  have HE2 := Aside0.mk hE
  have HS2 := Aside0.mk hS
  have HB2 := Aside0.mk (below_on HB1.out hb)
  clear hR hE hS hb hi0 hi1 hk0 hk1
  go_wp2_with (first | ((with_reducible refine gate_dst (N := 9) rfl ?_); refine box_event ?hg (N := 9) ?hd (cs := #[.slice none 0 0, .slice none 0 0, .int .i64 0, .slice none 0 0]) (t := 25) ?hr ?_; (case hd => rfl); (case hg => rfl); (case hr => first | (go_simp; done) | (go_simp; rfl)); intro gv hgg w3 hlit hb; have HLw3 := Aside0.mk hlit; have HKw3 := Aside0.mk hb; have HGw3 := Aside0.mk hgg; skip; clear hlit hb hgg) | ((with_reducible refine gate_store (t := 25) (p := 9) rfl ?_); refine put_row ?hg ?hn 25 (.tmp 9) (.tmp 29) ?ho gv 25 _ (#[.slice A0 2 c0, .slice A1 0 c1, .int .i64 0, .slice (some ⟨g3, 0, none⟩) 2 c3]) ?hp ?hx ?hu HLw3.out ?ht ?hs ?h1 ?_; (case hg => rfl); (case hn => rfl); (case ho => rfl); (case hp => rfl); (case hx => rfl); (case hu => rfl); (case ht => kernel_rfl); (case hs => rfl); (case h1 => exact unit_one _ _ _ _); intro w4 hlit hg; have HLw4 := Aside0.mk hlit; have HK4 := Aside0.mk (put_below2 HKw3.out HGw3.out hg); have HR4 := Aside0.mk (Kd.R_below HR2.out HK4.out); have HE4 := Aside0.mk (Kd.R_below HE2.out HK4.out); have HS4 := Aside0.mk (Kd.S_below HS2.out HK4.out); have HB4 := Aside0.mk (below_on HB2.out HK4.out); have hu0 := (blk_cell hlit 0).trans rfl; have hu1 := (blk_cell hlit 1).trans rfl; have hu2 := (blk_cell hlit 2).trans rfl; have hu3 := (blk_cell hlit 3).trans rfl; obtain ⟨ok1, ga1, ca1, hi1, hR1, ht1, hq1, hback1⟩ := lend1 rfl HS4.out; have HI1 := Aside0.mk hR1; have HT1 := Aside0.mk ht1; have HQ1 := Aside0.mk hq1; have HX1 := Aside0.mk hback1; clear hR1 ht1 hq1 hback1; clear hlit hg) | ((with_reducible refine gate_store (t := 33) (p := 47) rfl ?_); refine act_store ?hg 47 46 ?ho ?hn (ldA h) ?hp ?hx ?hi HI1.out ?_; (case hg => rfl); (case ho => rfl); (case hn => rfl); (case hp => rfl); (case hx => rfl); (case hi => kernel_rfl); intro w6 hl hg; have HS6 : Aside0 (Kd.S k49 49 w6 _ _ _ [qC false g, qC true h]) := ⟨HX1.out _ _ hg hl⟩; have HR6 := Aside0.mk (int_keep HR4.out HT1.out hg); have HE6 := Aside0.mk (int_keep HE4.out HT1.out hg); have HLw6 := Aside0.mk (box_keep HLw4.out HT1.out hg); have HB6 := Aside0.mk (HB4.out.grown hg HB4.out.size (fun q hq => by injection hq with hq; rw [← hq]; exact Nat.le_trans HB1.out.size HQ1.out)); clear hu0 hu1 hu2 hu3 hi1 hl hg; have hu0 := (blk_cell HLw6.out 0).trans rfl; have hu1 := (blk_cell HLw6.out 1).trans rfl; have hu2 := (blk_cell HLw6.out 2).trans rfl; have hu3 := (blk_cell HLw6.out 3).trans rfl; skip))
  go_at_call 19
  refine (new_live w6 A0 c0 [0, 0] A1 c1 [] 0 (some ⟨g3, 0, none⟩) c3 (qCs false true g h) (Kd.R_reads' HR6.out).2.2 (Kd.R_reads' HR6.out).2.1 (Kd.R_reads' HE6.out).2.2 (Nat.zero_le _) (Kd.S_reads' HS6.out).2.2 (Kd.S_reads' HS6.out).2.1 (ok_q false true g h HG.out HH.out)).mono ?_
  rintro e w7 ⟨ph, rfl, hL, hb⟩
  have H7 := Aside0.mk hL
  have HB7 := Aside0.mk (below_on HB6.out hb)
  clear hu0 hu1 hu2 hu3 hL hb
  go_wp2_with fail
  cases hgh : (g == h) with
  | false =>
    go_at_call 34
    refine (H7.out.racing (small_new (ok_q false true g h HG.out HH.out)) 2 (b := false) ((q_race false true g h HG.out HH.out).trans (by rw [hgh]; rfl))).mono ?_
    rintro e w8 ⟨rfl, hb⟩
    have H8 := Aside0.mk (H7.out.below hb)
    have HB8 := Aside0.mk (below_on HB7.out hb)
    clear hb
    go_wp2_with fail
    go_at_call 35
    refine (pairs_nought H8.out (small_new (ok_q false true g h HG.out HH.out)) 1 (q_pairs false true g h HG.out HH.out)).mono ?_
    rintro e w9 ⟨Ap, cp, rfl, hb⟩
    have HB9 := Aside0.mk (below_on HB8.out hb)
    clear hb
    go_wp2_with (go_at_call 36; refine (known10_calls _).mono ?_; rintro e w10 ⟨rfl, hb⟩; have HB10 := Aside0.mk (below_on HB9.out hb); clear hb)
    go_ret
    exact ⟨rfl, HB10.out⟩
  | true =>
    go_at_call 34
    refine (H7.out.racing (small_new (ok_q false true g h HG.out HH.out)) 2 (b := true) ((q_race false true g h HG.out HH.out).trans (by rw [hgh]; rfl))).mono ?_
    rintro e w8 ⟨rfl, hb⟩
    have H8 := Aside0.mk (H7.out.below hb)
    have HB8 := Aside0.mk (below_on HB7.out hb)
    clear hb
    go_wp2_with fail
    go_at_call 35
    refine (pairs_nought H8.out (small_new (ok_q false true g h HG.out HH.out)) 1 (q_pairs false true g h HG.out HH.out)).mono ?_
    rintro e w9 ⟨Ap, cp, rfl, hb⟩
    have HB9 := Aside0.mk (below_on HB8.out hb)
    clear hb
    go_wp2_with (go_at_call 36; refine (known10_calls _).mono ?_; rintro e w10 ⟨rfl, hb⟩; have HB10 := Aside0.mk (below_on HB9.out hb); clear hb)
    go_ret
    exact ⟨rfl, HB10.out⟩
set_option maxHeartbeats 16000000 in
set_option maxRecDepth 100000 in
theorem kinds_tf (g h : Int) (hg : 0 ≤ g ∧ g ≤ 1) (hh : 0 ≤ h ∧ h ≤ 1) (w : World) : Calls Try.prog 12 #[.bool true, .bool false, .int .i64 g, .int .i64 h] w fun e w' => e = .returned (.bool true) ∧ Below w.heap.size w w' := by
  have HG := Aside0.mk hg
  have HH := Aside0.mk hh
  have hi0 := hg.1
  have hi1 := hg.2
  have hk0 := hh.1
  have hk1 := hh.2
  clear hg hh
  go_enter Try.func12, Try.ntmps12
  go_wp2_with (first | ((with_reducible refine gate_dst (N := 28) rfl ?_); refine lit_ev2 (n := 2) ?hg (N := 28) ?hd (cs := #[.int .i64 g, .int .i64 h]) (t := 3) ?hr ?_; (case hd => rfl); (case hg => rfl); (case hr => first | (go_simp; done) | (go_simp; rfl)); intro gl hgg w1 hlit hb; have HLw1 := Aside0.mk hlit; have HKw1 := Aside0.mk hb; have HGw1 := Aside0.mk hgg; have HB1 := Aside0.mk hb; have HC1 := Aside0.mk (C_lit w1 gl [g, h] hlit); clear hlit hb hgg))
  go_at_call 33
  refine (stores_own w1 (some ⟨gl, 0, none⟩) 2 g h HC1.out (Nat.le_refl _)).mono ?_
  rintro e w2 ⟨A0, c0, A1, c1, g3, c3, ok0, ok1, rfl, hR, hE, hS, hb⟩
  have HR2 := Aside0.mk hR
  have HE2 := Aside0.mk hE
  have HS2 := Aside0.mk hS
  have HB2 := Aside0.mk (below_on HB1.out hb)
  clear hR hE hS hb hi0 hi1 hk0 hk1
  go_wp2_with (first | ((with_reducible refine gate_dst (N := 9) rfl ?_); refine box_event ?hg (N := 9) ?hd (cs := #[.slice none 0 0, .slice none 0 0, .int .i64 0, .slice none 0 0]) (t := 25) ?hr ?_; (case hd => rfl); (case hg => rfl); (case hr => first | (go_simp; done) | (go_simp; rfl)); intro gv hgg w3 hlit hb; have HLw3 := Aside0.mk hlit; have HKw3 := Aside0.mk hb; have HGw3 := Aside0.mk hgg; skip; clear hlit hb hgg) | ((with_reducible refine gate_store (t := 25) (p := 9) rfl ?_); refine put_row ?hg ?hn 25 (.tmp 9) (.tmp 29) ?ho gv 25 _ (#[.slice A0 2 c0, .slice A1 0 c1, .int .i64 0, .slice (some ⟨g3, 0, none⟩) 2 c3]) ?hp ?hx ?hu HLw3.out ?ht ?hs ?h1 ?_; (case hg => rfl); (case hn => rfl); (case ho => rfl); (case hp => rfl); (case hx => rfl); (case hu => rfl); (case ht => kernel_rfl); (case hs => rfl); (case h1 => exact unit_one _ _ _ _); intro w4 hlit hg; have HLw4 := Aside0.mk hlit; have HK4 := Aside0.mk (put_below2 HKw3.out HGw3.out hg); have HR4 := Aside0.mk (Kd.R_below HR2.out HK4.out); have HE4 := Aside0.mk (Kd.R_below HE2.out HK4.out); have HS4 := Aside0.mk (Kd.S_below HS2.out HK4.out); have HB4 := Aside0.mk (below_on HB2.out HK4.out); have hu0 := (blk_cell hlit 0).trans rfl; have hu1 := (blk_cell hlit 1).trans rfl; have hu2 := (blk_cell hlit 2).trans rfl; have hu3 := (blk_cell hlit 3).trans rfl; obtain ⟨ok0, ga0, ca0, hi0, hR0, ht0, hq0, hback0⟩ := lend0 rfl HS4.out; have HI0 := Aside0.mk hR0; have HT0 := Aside0.mk ht0; have HQ0 := Aside0.mk hq0; have HX0 := Aside0.mk hback0; clear hR0 ht0 hq0 hback0; clear hlit hg) | ((with_reducible refine gate_store (t := 33) (p := 38) rfl ?_); refine act_store ?hg 38 37 ?ho ?hn (ldA g) ?hp ?hx ?hi HI0.out ?_; (case hg => rfl); (case ho => rfl); (case hn => rfl); (case hp => rfl); (case hx => rfl); (case hi => kernel_rfl); intro w5 hl hg; have HS5 : Aside0 (Kd.S k49 49 w5 _ _ _ [qC true g, stC h]) := ⟨HX0.out _ _ hg hl⟩; have HR5 := Aside0.mk (int_keep HR4.out HT0.out hg); have HE5 := Aside0.mk (int_keep HE4.out HT0.out hg); have HLw5 := Aside0.mk (box_keep HLw4.out HT0.out hg); have HB5 := Aside0.mk (HB4.out.grown hg HB4.out.size (fun q hq => by injection hq with hq; rw [← hq]; exact Nat.le_trans HB1.out.size HQ0.out)); clear hu0 hu1 hu2 hu3 hi0 hl hg; have hu0 := (blk_cell HLw5.out 0).trans rfl; have hu1 := (blk_cell HLw5.out 1).trans rfl; have hu2 := (blk_cell HLw5.out 2).trans rfl; have hu3 := (blk_cell HLw5.out 3).trans rfl; skip))
  go_at_call 19
  refine (new_live w5 A0 c0 [0, 0] A1 c1 [] 0 (some ⟨g3, 0, none⟩) c3 (qCs true false g h) (Kd.R_reads' HR5.out).2.2 (Kd.R_reads' HR5.out).2.1 (Kd.R_reads' HE5.out).2.2 (Nat.zero_le _) (Kd.S_reads' HS5.out).2.2 (Kd.S_reads' HS5.out).2.1 (ok_q true false g h HG.out HH.out)).mono ?_
  rintro e w7 ⟨ph, rfl, hL, hb⟩
  have H7 := Aside0.mk hL
  have HB7 := Aside0.mk (below_on HB5.out hb)
  clear hu0 hu1 hu2 hu3 hL hb
  go_wp2_with fail
  cases hgh : (g == h) with
  | false =>
    go_at_call 34
    refine (H7.out.racing (small_new (ok_q true false g h HG.out HH.out)) 2 (b := false) ((q_race true false g h HG.out HH.out).trans (by rw [hgh]; rfl))).mono ?_
    rintro e w8 ⟨rfl, hb⟩
    have H8 := Aside0.mk (H7.out.below hb)
    have HB8 := Aside0.mk (below_on HB7.out hb)
    clear hb
    go_wp2_with fail
    go_at_call 35
    refine (pairs_nought H8.out (small_new (ok_q true false g h HG.out HH.out)) 1 (q_pairs true false g h HG.out HH.out)).mono ?_
    rintro e w9 ⟨Ap, cp, rfl, hb⟩
    have HB9 := Aside0.mk (below_on HB8.out hb)
    clear hb
    go_wp2_with (go_at_call 36; refine (known10_calls _).mono ?_; rintro e w10 ⟨rfl, hb⟩; have HB10 := Aside0.mk (below_on HB9.out hb); clear hb)
    go_ret
    exact ⟨rfl, HB10.out⟩
  | true =>
    go_at_call 34
    refine (H7.out.racing (small_new (ok_q true false g h HG.out HH.out)) 2 (b := true) ((q_race true false g h HG.out HH.out).trans (by rw [hgh]; rfl))).mono ?_
    rintro e w8 ⟨rfl, hb⟩
    have H8 := Aside0.mk (H7.out.below hb)
    have HB8 := Aside0.mk (below_on HB7.out hb)
    clear hb
    go_wp2_with fail
    go_at_call 35
    refine (pairs_nought H8.out (small_new (ok_q true false g h HG.out HH.out)) 1 (q_pairs true false g h HG.out HH.out)).mono ?_
    rintro e w9 ⟨Ap, cp, rfl, hb⟩
    have HB9 := Aside0.mk (below_on HB8.out hb)
    clear hb
    go_wp2_with (go_at_call 36; refine (known10_calls _).mono ?_; rintro e w10 ⟨rfl, hb⟩; have HB10 := Aside0.mk (below_on HB9.out hb); clear hb)
    go_ret
    exact ⟨rfl, HB10.out⟩
set_option maxHeartbeats 16000000 in
set_option maxRecDepth 100000 in
theorem kinds_tt (g h : Int) (hg : 0 ≤ g ∧ g ≤ 1) (hh : 0 ≤ h ∧ h ≤ 1) (w : World) : Calls Try.prog 12 #[.bool true, .bool true, .int .i64 g, .int .i64 h] w fun e w' => e = .returned (.bool true) ∧ Below w.heap.size w w' := by
  have HG := Aside0.mk hg
  have HH := Aside0.mk hh
  have hi0 := hg.1
  have hi1 := hg.2
  have hk0 := hh.1
  have hk1 := hh.2
  clear hg hh
  go_enter Try.func12, Try.ntmps12
  go_wp2_with (first | ((with_reducible refine gate_dst (N := 28) rfl ?_); refine lit_ev2 (n := 2) ?hg (N := 28) ?hd (cs := #[.int .i64 g, .int .i64 h]) (t := 3) ?hr ?_; (case hd => rfl); (case hg => rfl); (case hr => first | (go_simp; done) | (go_simp; rfl)); intro gl hgg w1 hlit hb; have HLw1 := Aside0.mk hlit; have HKw1 := Aside0.mk hb; have HGw1 := Aside0.mk hgg; have HB1 := Aside0.mk hb; have HC1 := Aside0.mk (C_lit w1 gl [g, h] hlit); clear hlit hb hgg))
  go_at_call 33
  refine (stores_own w1 (some ⟨gl, 0, none⟩) 2 g h HC1.out (Nat.le_refl _)).mono ?_
  rintro e w2 ⟨A0, c0, A1, c1, g3, c3, ok0, ok1, rfl, hR, hE, hS, hb⟩
  have HR2 := Aside0.mk hR
  have HE2 := Aside0.mk hE
  have HS2 := Aside0.mk hS
  have HB2 := Aside0.mk (below_on HB1.out hb)
  clear hR hE hS hb hi0 hi1 hk0 hk1
  go_wp2_with (first | ((with_reducible refine gate_dst (N := 9) rfl ?_); refine box_event ?hg (N := 9) ?hd (cs := #[.slice none 0 0, .slice none 0 0, .int .i64 0, .slice none 0 0]) (t := 25) ?hr ?_; (case hd => rfl); (case hg => rfl); (case hr => first | (go_simp; done) | (go_simp; rfl)); intro gv hgg w3 hlit hb; have HLw3 := Aside0.mk hlit; have HKw3 := Aside0.mk hb; have HGw3 := Aside0.mk hgg; skip; clear hlit hb hgg) | ((with_reducible refine gate_store (t := 25) (p := 9) rfl ?_); refine put_row ?hg ?hn 25 (.tmp 9) (.tmp 29) ?ho gv 25 _ (#[.slice A0 2 c0, .slice A1 0 c1, .int .i64 0, .slice (some ⟨g3, 0, none⟩) 2 c3]) ?hp ?hx ?hu HLw3.out ?ht ?hs ?h1 ?_; (case hg => rfl); (case hn => rfl); (case ho => rfl); (case hp => rfl); (case hx => rfl); (case hu => rfl); (case ht => kernel_rfl); (case hs => rfl); (case h1 => exact unit_one _ _ _ _); intro w4 hlit hg; have HLw4 := Aside0.mk hlit; have HK4 := Aside0.mk (put_below2 HKw3.out HGw3.out hg); have HR4 := Aside0.mk (Kd.R_below HR2.out HK4.out); have HE4 := Aside0.mk (Kd.R_below HE2.out HK4.out); have HS4 := Aside0.mk (Kd.S_below HS2.out HK4.out); have HB4 := Aside0.mk (below_on HB2.out HK4.out); have hu0 := (blk_cell hlit 0).trans rfl; have hu1 := (blk_cell hlit 1).trans rfl; have hu2 := (blk_cell hlit 2).trans rfl; have hu3 := (blk_cell hlit 3).trans rfl; obtain ⟨ok0, ga0, ca0, hi0, hR0, ht0, hq0, hback0⟩ := lend0 rfl HS4.out; have HI0 := Aside0.mk hR0; have HT0 := Aside0.mk ht0; have HQ0 := Aside0.mk hq0; have HX0 := Aside0.mk hback0; clear hR0 ht0 hq0 hback0; clear hlit hg) | ((with_reducible refine gate_store (t := 33) (p := 38) rfl ?_); refine act_store ?hg 38 37 ?ho ?hn (ldA g) ?hp ?hx ?hi HI0.out ?_; (case hg => rfl); (case ho => rfl); (case hn => rfl); (case hp => rfl); (case hx => rfl); (case hi => kernel_rfl); intro w5 hl hg; have HS5 : Aside0 (Kd.S k49 49 w5 _ _ _ [qC true g, stC h]) := ⟨HX0.out _ _ hg hl⟩; have HR5 := Aside0.mk (int_keep HR4.out HT0.out hg); have HE5 := Aside0.mk (int_keep HE4.out HT0.out hg); have HLw5 := Aside0.mk (box_keep HLw4.out HT0.out hg); have HB5 := Aside0.mk (HB4.out.grown hg HB4.out.size (fun q hq => by injection hq with hq; rw [← hq]; exact Nat.le_trans HB1.out.size HQ0.out)); clear hu0 hu1 hu2 hu3 hi0 hl hg; have hu0 := (blk_cell HLw5.out 0).trans rfl; have hu1 := (blk_cell HLw5.out 1).trans rfl; have hu2 := (blk_cell HLw5.out 2).trans rfl; have hu3 := (blk_cell HLw5.out 3).trans rfl; obtain ⟨ok1, ga1, ca1, hi1, hR1, ht1, hq1, hback1⟩ := lend1 rfl HS5.out; have HI1 := Aside0.mk hR1; have HT1 := Aside0.mk ht1; have HQ1 := Aside0.mk hq1; have HX1 := Aside0.mk hback1; clear hR1 ht1 hq1 hback1) | ((with_reducible refine gate_store (t := 33) (p := 47) rfl ?_); refine act_store ?hg 47 46 ?ho ?hn (ldA h) ?hp ?hx ?hi HI1.out ?_; (case hg => rfl); (case ho => rfl); (case hn => rfl); (case hp => rfl); (case hx => rfl); (case hi => kernel_rfl); intro w6 hl hg; have HS6 : Aside0 (Kd.S k49 49 w6 _ _ _ [qC true g, qC true h]) := ⟨HX1.out _ _ hg hl⟩; have HR6 := Aside0.mk (int_keep HR5.out HT1.out hg); have HE6 := Aside0.mk (int_keep HE5.out HT1.out hg); have HLw6 := Aside0.mk (box_keep HLw5.out HT1.out hg); have HB6 := Aside0.mk (HB5.out.grown hg HB5.out.size (fun q hq => by injection hq with hq; rw [← hq]; exact Nat.le_trans HB1.out.size HQ1.out)); clear hu0 hu1 hu2 hu3 hi1 hl hg; have hu0 := (blk_cell HLw6.out 0).trans rfl; have hu1 := (blk_cell HLw6.out 1).trans rfl; have hu2 := (blk_cell HLw6.out 2).trans rfl; have hu3 := (blk_cell HLw6.out 3).trans rfl; skip))
  go_at_call 19
  refine (new_live w6 A0 c0 [0, 0] A1 c1 [] 0 (some ⟨g3, 0, none⟩) c3 (qCs true true g h) (Kd.R_reads' HR6.out).2.2 (Kd.R_reads' HR6.out).2.1 (Kd.R_reads' HE6.out).2.2 (Nat.zero_le _) (Kd.S_reads' HS6.out).2.2 (Kd.S_reads' HS6.out).2.1 (ok_q true true g h HG.out HH.out)).mono ?_
  rintro e w7 ⟨ph, rfl, hL, hb⟩
  have H7 := Aside0.mk hL
  have HB7 := Aside0.mk (below_on HB6.out hb)
  clear hu0 hu1 hu2 hu3 hL hb
  go_wp2_with fail
  cases hgh : (g == h) with
  | false =>
    go_at_call 34
    refine (H7.out.racing (small_new (ok_q true true g h HG.out HH.out)) 2 (b := false) ((q_race true true g h HG.out HH.out).trans (by rw [hgh]; rfl))).mono ?_
    rintro e w8 ⟨rfl, hb⟩
    have H8 := Aside0.mk (H7.out.below hb)
    have HB8 := Aside0.mk (below_on HB7.out hb)
    clear hb
    go_wp2_with fail
    go_at_call 35
    refine (pairs_nought H8.out (small_new (ok_q true true g h HG.out HH.out)) 1 (q_pairs true true g h HG.out HH.out)).mono ?_
    rintro e w9 ⟨Ap, cp, rfl, hb⟩
    have HB9 := Aside0.mk (below_on HB8.out hb)
    clear hb
    go_wp2_with (go_at_call 36; refine (known10_calls _).mono ?_; rintro e w10 ⟨rfl, hb⟩; have HB10 := Aside0.mk (below_on HB9.out hb); clear hb)
    go_ret
    exact ⟨rfl, HB10.out⟩
  | true =>
    go_at_call 34
    refine (H7.out.racing (small_new (ok_q true true g h HG.out HH.out)) 2 (b := false) ((q_race true true g h HG.out HH.out).trans (by rw [hgh]; rfl))).mono ?_
    rintro e w8 ⟨rfl, hb⟩
    have H8 := Aside0.mk (H7.out.below hb)
    have HB8 := Aside0.mk (below_on HB7.out hb)
    clear hb
    go_wp2_with fail
    go_at_call 35
    refine (pairs_nought H8.out (small_new (ok_q true true g h HG.out HH.out)) 1 (q_pairs true true g h HG.out HH.out)).mono ?_
    rintro e w9 ⟨Ap, cp, rfl, hb⟩
    have HB9 := Aside0.mk (below_on HB8.out hb)
    clear hb
    go_wp2_with (go_at_call 36; refine (known10_calls _).mono ?_; rintro e w10 ⟨rfl, hb⟩; have HB10 := Aside0.mk (below_on HB9.out hb); clear hb)
    go_ret
    exact ⟨rfl, HB10.out⟩
set_option maxHeartbeats 4000000 in
theorem RaceKinds_calls (a b : Bool) (g h : Int) (w : World) : Calls Try.prog 12 #[.bool a, .bool b, .int .i64 g, .int .i64 h] w fun e w' => e = .returned (.bool true) ∧ Below w.heap.size w w' := by
  by_cases hg : 0 ≤ g ∧ g ≤ 1
  · by_cases hh : 0 ≤ h ∧ h ≤ 1
    · cases a <;> cases b
      · exact kinds_ff g h hg hh w
      · exact kinds_ft g h hg hh w
      · exact kinds_tf g h hg hh w
      · exact kinds_tt g h hg hh w
    · have h0 := hg.1
      have h1 := hg.2
      rcases (by omega : h < 0 ∨ 1 < h) with h2 | h2
      · go_enter Try.func12, Try.ntmps12
        go_wp2
        go_ret
        exact ⟨rfl, Below.refl _ _⟩
      · have h3 : ¬ h < 0 := by omega
        go_enter Try.func12, Try.ntmps12
        go_wp2
        go_ret
        exact ⟨rfl, Below.refl _ _⟩
  · rcases (by omega : g < 0 ∨ 1 < g) with h2 | h2
    · go_enter Try.func12, Try.ntmps12
      go_wp2
      go_ret
      exact ⟨rfl, Below.refl _ _⟩
    · have h3 : ¬ g < 0 := by omega
      go_enter Try.func12, Try.ntmps12
      go_wp2
      go_ret
      exact ⟨rfl, Below.refl _ _⟩
end Go.Proofs.Ytikjamcemnbhbaa.Mr
