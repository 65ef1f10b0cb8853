/- cfg.isCode and cfg.Is: what they answer. -/
import Derived.Test.YtikjamcemnbhbaaMrIsAny
import Derived.Test.YtikjamcemnbhbaaMrPkC
namespace Go.Proofs.Ytikjamcemnbhbaa.Mr
open Go.RowKit Go.Proofs.YtikjamcemnbhbaaW.PrintWords Go.Proofs.YtikjamcemnbhbaaW.PrintLast
set_option linter.unusedVariables false
set_option linter.unusedSimpArgs false
theorem fits_row : ∀ (d : Nat) (l : List Int) (i : Nat) (k : Nat), l.length - i = d → i ≤ l.length → l.length ≤ 1000000 → d < k → num_Fits.l0 k l (l.length : Int) (i : Int) = some ((l.drop i).all fitsB) := by
  intro d
  induction d with
  | zero =>
    intro l i k hd hi hl hk
    obtain ⟨k, rfl⟩ : ∃ m, k = m + 1 := ⟨k - 1, by omega⟩
    simp only [num_Fits.l0]
    rw [if_neg (by omega), List.drop_eq_nil_of_le (by omega)]
    rfl
  | succ d ih =>
    intro l i k hd hi hl hk
    obtain ⟨k, rfl⟩ : ∃ m, k = m + 1 := ⟨k - 1, by omega⟩
    have hil : i < l.length := by omega
    have hr : rd l (i : Int) = l[i] := by show l.getD (i : Int).toNat 0 = _; simp [hil]
    rw [List.drop_eq_getElem_cons hil, List.all_cons]
    simp only [num_Fits.l0]
    rw [hr, if_pos (by omega), if_pos (by omega), if_pos (by omega)]
    have hf : fitsB l[i] = decide (-2147483648 ≤ l[i] ∧ l[i] ≤ 2147483647) := rfl
    by_cases h1 : l[i] < -2147483648
    · rw [if_pos h1, hf, decide_eq_false (by omega)]; rfl
    · by_cases h2 : 2147483647 < l[i]
      · rw [if_neg h1, if_pos h2, hf, decide_eq_false (by omega)]; rfl
      · have hw : wrap64 ((i : Int) + 1) = ((i + 1 : Nat) : Int) := by unfold wrap64; omega
        rw [if_neg h1, if_neg h2, hf, decide_eq_true (by omega), hw, Bool.true_and]
        exact ih l (i + 1) k (by omega) (by omega) hl (by omega)
theorem fits_all (w : World) (Ap : Option Addr) (c : Nat) (l : List Int) {b : Bool} (hb : l.all fitsB = b) (hr : Kd.C (Kd.int .i64) w Ap l.length l) (hc : l.length ≤ c) (hl : l.length ≤ 1000000) :
    Calls Try.prog 55 #[.slice Ap l.length c] w fun e w' => e = .returned (.bool b) ∧ Below w.heap.size w w' :=
  (num_Fits.calls (l.length + 1) Ap c l b w hr hc (by
    have h := fits_row l.length l 0 (l.length + 1) (by omega) (by omega) hl (by omega)
    rw [List.drop_zero, hb] at h
    exact h)).mono fun e w' h => ⟨h.1, h.2.below⟩
set_option maxHeartbeats 8000000 in
set_option maxRecDepth 100000 in
theorem lit72_calls (w : World) (Ag : Option Addr) (cg : Nat) (G : List Int) (Aa : Option Addr) (ca : Nat) (A : List Int) (m : Int) (At : Option Addr) (ct : Nat) (cs : List S49) (hg : Kd.C (Kd.int .i64) w Ag G.length G) (hcg : G.length ≤ cg) (ha : Kd.C (Kd.int .i64) w Aa A.length A) (hca : A.length ≤ ca) (ht : Kd.C k49 w At cs.length cs) (hct : cs.length ≤ ct)
    (hm : 0 ≤ m ∧ m ≤ 6) (hGl : G.length ≤ 6) (hAl : A.length ≤ 3) (nv : Int) (hnv : 0 ≤ nv ∧ nv ≤ 40) (Ac : Option Addr) (cc : Nat) (acts : List S33) (hn1 : 1 ≤ acts.length) (hn60 : acts.length ≤ 60) (a : S33)
    (gu gc : Nat) (bu : w.heap[gu]? = some (.cells #[.slice Ag G.length cg, .slice Aa A.length ca, .int .i64 m, .slice At cs.length ct] 25 (0, 0))) (bc : w.heap[gc]? = some (.cells #[.int .i64 nv, .slice Ac acts.length cc] 49 (0, 0))) :
    Calls Try.prog 72 #[.agg #[.int .i64 a.f0, .int .i64 a.f1, .int .i64 a.f2, .int .i64 a.f3, .int .i64 a.f4, .int .i64 a.f5, .int .i64 a.f6, .int .i64 a.f7, .int .i64 a.f8], .pointer (some ⟨gu, 0, none⟩), .pointer (some ⟨gc, 0, none⟩)] w fun e w' => e = .returned (.bool (!actQ G.length A.length m nv acts.length a)) ∧ Below w.heap.size w w' := by
  have HI := Aside0.mk (fun (W : World) (hb : Below w.heap.size w W) => isAct_calls W Ag cg G Aa ca A m At ct cs (Kd.C_below hg hb) hcg (Kd.C_below ha hb) hca (Kd.C_below ht hb) hct hm hGl hAl nv hnv Ac cc acts hn1 hn60 a)
  obtain ⟨q, hq⟩ : ∃ q, actQ G.length A.length m nv acts.length a = q := ⟨_, rfl⟩
  rw [hq] at HI ⊢
  have HU := Aside0.mk bu
  have HC := Aside0.mk bc
  clear hg hcg ha hca ht hct hm hGl hAl hnv hn1 hn60 bu bc hq
  go_enter Try.func72, Try.ntmps72
  go_wp2_with (first | ((with_reducible refine gate_dst (N := 3) rfl ?_); refine box_event ?hg (N := 3) ?hd (cs := actC a) (t := 33) ?hr ?_; (case hd => rfl); (case hg => rfl); (case hr => first | (go_simp; done) | (go_simp; rfl)); intro ga hga w1 hbx hb; have HB := Aside0.mk hb; have hy0 : w1.cell? ⟨ga, 0, none⟩ = some (.int .i64 a.f0) := (blk_cell hbx 0).trans rfl; have hy1 : w1.cell? ⟨ga, 1, none⟩ = some (.int .i64 a.f1) := (blk_cell hbx 1).trans rfl; have hy2 : w1.cell? ⟨ga, 2, none⟩ = some (.int .i64 a.f2) := (blk_cell hbx 2).trans rfl; have hy3 : w1.cell? ⟨ga, 3, none⟩ = some (.int .i64 a.f3) := (blk_cell hbx 3).trans rfl; have hy4 : w1.cell? ⟨ga, 4, none⟩ = some (.int .i64 a.f4) := (blk_cell hbx 4).trans rfl; have hy5 : w1.cell? ⟨ga, 5, none⟩ = some (.int .i64 a.f5) := (blk_cell hbx 5).trans rfl; have hy6 : w1.cell? ⟨ga, 6, none⟩ = some (.int .i64 a.f6) := (blk_cell hbx 6).trans rfl; have hy7 : w1.cell? ⟨ga, 7, none⟩ = some (.int .i64 a.f7) := (blk_cell hbx 7).trans rfl; have hy8 : w1.cell? ⟨ga, 8, none⟩ = some (.int .i64 a.f8) := (blk_cell hbx 8).trans rfl; have hu0 : w1.cell? ⟨gu, 0, none⟩ = some (.slice Ag G.length cg) := (blk_cell (below_read hb HU.out) 0).trans rfl; have hu1 : w1.cell? ⟨gu, 1, none⟩ = some (.slice Aa A.length ca) := (blk_cell (below_read hb HU.out) 1).trans rfl; have hu2 : w1.cell? ⟨gu, 2, none⟩ = some (.int .i64 m) := (blk_cell (below_read hb HU.out) 2).trans rfl; have hu3 : w1.cell? ⟨gu, 3, none⟩ = some (.slice At cs.length ct) := (blk_cell (below_read hb HU.out) 3).trans rfl; have hk0 : w1.cell? ⟨gc, 0, none⟩ = some (.int .i64 nv) := (blk_cell (below_read hb HC.out) 0).trans rfl; have hk1 : w1.cell? ⟨gc, 1, none⟩ = some (.slice Ac acts.length cc) := (blk_cell (below_read hb HC.out) 1).trans rfl; clear hga hbx hb) | (go_at_call 73; refine (HI.out _ HB.out).mono ?_; rintro e w2 ⟨rfl, hb2⟩; have HB2 := Aside0.mk (below_on HB.out hb2); clear hb2))
  go_ret
  exact ⟨rfl, HB2.out⟩
def codeQ (ng na m : Int) (c : S49) : Bool := inB c.f0 0 40 && (inB c.f1.length 1 60 && ((rd_T33 c.f1 ((c.f1.length : Int) - 1)).f0 == 14 && !c.f1.any fun a => !actQ ng na m c.f0 c.f1.length a))
set_option maxHeartbeats 8000000 in
set_option maxRecDepth 100000 in
theorem isCode_none (w : World) (Ag : Option Addr) (cg : Nat) (G : List Int) (Aa : Option Addr) (ca : Nat) (A : List Int) (m : Int) (At : Option Addr) (ct : Nat) (cs : List S49) (hg : Kd.C (Kd.int .i64) w Ag G.length G) (hcg : G.length ≤ cg) (ha : Kd.C (Kd.int .i64) w Aa A.length A) (hca : A.length ≤ ca) (ht : Kd.C k49 w At cs.length cs) (hct : cs.length ≤ ct)
    (hm : 0 ≤ m ∧ m ≤ 6) (hGl : G.length ≤ 6) (hAl : A.length ≤ 3) (c : S49) (Ac : Option Addr) (cc : Nat) (hcc : c.f1.length ≤ cc) (hC : Kd.C k33 w Ac c.f1.length c.f1) (hl : ¬ (1 ≤ c.f1.length ∧ c.f1.length ≤ 60)) :
    Calls Try.prog 61 #[.agg #[.slice Ag G.length cg, .slice Aa A.length ca, .int .i64 m, .slice At cs.length ct], .agg #[.int .i64 c.f0, .slice Ac c.f1.length cc]] w fun e w' => e = .returned (.bool (codeQ G.length A.length m c)) ∧ Below w.heap.size w w' := by
  obtain ⟨b0, h0⟩ : ∃ b, inB c.f0 0 40 = b := ⟨_, rfl⟩
  have h1 : inB c.f1.length 1 60 = false := decide_eq_false (by omega)
  have hQ : codeQ G.length A.length m c = false := by
    unfold codeQ
    rw [h0, h1]
    cases b0 <;> rfl
  rw [hQ]
  have H0 := Aside0.mk h0
  have H1 := Aside0.mk h1
  clear hg ha ht hm hGl hAl hC h0 h1 hQ hl
  go_enter Try.func61, Try.ntmps61
  go_wp2_with (first | ((with_reducible refine gate_dst (N := 2) rfl ?_); refine box_event ?hg (N := 2) ?hd (cs := #[.slice Ag G.length cg, .slice Aa A.length ca, .int .i64 m, .slice At cs.length ct]) (t := 25) ?hr ?_; (case hd => rfl); (case hg => rfl); (case hr => first | (go_simp; done) | (go_simp; rfl)); intro gu hgu w1 hbx1 hb1; have HU1 := Aside0.mk hbx1; have HB1 := Aside0.mk hb1; clear hgu hbx1 hb1) | ((with_reducible refine gate_dst (N := 3) rfl ?_); refine box_event ?hg (N := 3) ?hd (cs := #[.int .i64 c.f0, .slice Ac c.f1.length cc]) (t := 49) ?hr ?_; (case hd => rfl); (case hg => rfl); (case hr => first | (go_simp; done) | (go_simp; rfl)); intro gc hgc w2 hbx2 hb2; have HC2 := Aside0.mk hbx2; have HB2 := Aside0.mk (below_on HB1.out hb2); have HU2 := Aside0.mk (below_read hb2 HU1.out); have hk0 : w2.cell? ⟨gc, 0, none⟩ = some (.int .i64 c.f0) := (blk_cell hbx2 0).trans rfl; have hk1 : w2.cell? ⟨gc, 1, none⟩ = some (.slice Ac c.f1.length cc) := (blk_cell hbx2 1).trans rfl; clear hgc hbx2 hb2))
  refine (in_any H0.out w2).mono ?_
  rintro e w3 ⟨rfl, hb3⟩
  have HB3 := Aside0.mk (below_on HB2.out hb3)
  have hk0 := pw_cell_below hb3 hk0
  have hk1 := pw_cell_below hb3 hk1
  have HU3 := Aside0.mk (below_read hb3 HU2.out)
  have HC3 := Aside0.mk (below_read hb3 HC2.out)
  clear hb3
  rcases b0 with _ | _
  · go_wp2_with fail
    go_ret
    exact ⟨rfl, HB3.out⟩
  go_wp2_with fail
  refine (in_any H1.out w3).mono ?_
  rintro e w4 ⟨rfl, hb4⟩
  have HB4 := Aside0.mk (below_on HB3.out hb4)
  have hk0 := pw_cell_below hb4 hk0
  have hk1 := pw_cell_below hb4 hk1
  have HU4 := Aside0.mk (below_read hb4 HU3.out)
  have HC4 := Aside0.mk (below_read hb4 HC3.out)
  clear hb4
  go_wp2_with fail
  go_ret
  exact ⟨rfl, HB4.out⟩
set_option maxHeartbeats 8000000 in
set_option maxRecDepth 100000 in
theorem isCode_some (w : World) (Ag : Option Addr) (cg : Nat) (G : List Int) (Aa : Option Addr) (ca : Nat) (A : List Int) (m : Int) (At : Option Addr) (ct : Nat) (cs : List S49) (hg : Kd.C (Kd.int .i64) w Ag G.length G) (hcg : G.length ≤ cg) (ha : Kd.C (Kd.int .i64) w Aa A.length A) (hca : A.length ≤ ca) (ht : Kd.C k49 w At cs.length cs) (hct : cs.length ≤ ct)
    (hm : 0 ≤ m ∧ m ≤ 6) (hGl : G.length ≤ 6) (hAl : A.length ≤ 3) (c : S49) (Ac : Option Addr) (cc : Nat) (hcc : c.f1.length ≤ cc) (hC : Kd.C k33 w Ac c.f1.length c.f1) (hl : 1 ≤ c.f1.length ∧ c.f1.length ≤ 60) :
    Calls Try.prog 61 #[.agg #[.slice Ag G.length cg, .slice Aa A.length ca, .int .i64 m, .slice At cs.length ct], .agg #[.int .i64 c.f0, .slice Ac c.f1.length cc]] w fun e w' => e = .returned (.bool (codeQ G.length A.length m c)) ∧ Below w.heap.size w w' := by
  obtain ⟨hl1, hl2⟩ := hl
  obtain ⟨b0, h0⟩ : ∃ b, inB c.f0 0 40 = b := ⟨_, rfl⟩
  have h1 : inB c.f1.length 1 60 = true := decide_eq_true (by omega)
  obtain ⟨b2, h2⟩ : ∃ b, ((rd_T33 c.f1 ((c.f1.length : Int) - 1)).f0 == 14) = b := ⟨_, rfl⟩
  obtain ⟨b3, h3⟩ : ∃ b, c.f1.any (fun a => !actQ G.length A.length m c.f0 c.f1.length a) = b := ⟨_, rfl⟩
  have hQ : codeQ G.length A.length m c = (b0 && (b2 && !b3)) := by
    unfold codeQ
    rw [h0, h1, h2, h3]
    rfl
  rw [hQ]
  have H0 := Aside0.mk h0
  have H1 := Aside0.mk h1
  have HA := Aside0.mk (fun (hv : 0 ≤ c.f0 ∧ c.f0 ≤ 40) (W : World) (gu gc : Nat) (hb : Below w.heap.size w W) (bu : W.heap[gu]? = some (.cells #[.slice Ag G.length cg, .slice Aa A.length ca, .int .i64 m, .slice At cs.length ct] 25 (0, 0))) (bc : W.heap[gc]? = some (.cells #[.int .i64 c.f0, .slice Ac c.f1.length cc] 49 (0, 0))) =>
    has71 (fun a => !actQ G.length A.length m c.f0 c.f1.length a) 72 #[.pointer (some ⟨gu, 0, none⟩), .pointer (some ⟨gc, 0, none⟩)] (fun args w => enters_ Try.func72 rfl rfl args w) c.f1 Ac cc W (Kd.C_below hC hb) (fun V x hx hb2 =>
      lit72_calls V Ag cg G Aa ca A m At ct cs (Kd.C_below hg (below_on hb hb2)) hcg (Kd.C_below ha (below_on hb hb2)) hca (Kd.C_below ht (below_on hb hb2)) hct hm hGl hAl c.f0 hv Ac cc c.f1 hl1 hl2 x gu gc (below_read hb2 bu) (below_read hb2 bc)))
  rw [h3] at HA
  obtain ⟨ad, rfl, ha0, ha1, ha2, ha3, ha4, ha5, ha6, ha7, ha8⟩ := at_T33 hC (c.f1.length - 1) (by omega) (by omega)
  obtain ⟨k14, hk14⟩ : ∃ k, (rd_T33 c.f1 ((c.f1.length : Int) - 1)).f0 = k := ⟨_, rfl⟩
  rw [hk14] at h2 ha0
  rw [(by omega : ((c.f1.length : Int) - 1).toNat = c.f1.length - 1)] at ha0
  have hl3 : (1 : Int) ≤ (c.f1.length : Int) := by omega
  have hl4 : (c.f1.length : Int) ≤ 60 := by omega
  have HP := Aside0.mk ha0
  have H2 := Aside0.mk h2
  clear hg ha ht hm hGl hAl hC h0 h1 h2 h3 hQ hk14 hl1 hl2 ha0 ha1 ha2 ha3 ha4 ha5 ha6 ha7 ha8
  go_enter Try.func61, Try.ntmps61
  go_wp2_with (first | ((with_reducible refine gate_dst (N := 2) rfl ?_); refine box_event ?hg (N := 2) ?hd (cs := #[.slice Ag G.length cg, .slice Aa A.length ca, .int .i64 m, .slice At cs.length ct]) (t := 25) ?hr ?_; (case hd => rfl); (case hg => rfl); (case hr => first | (go_simp; done) | (go_simp; rfl)); intro gu hgu w1 hbx1 hb1; have HU1 := Aside0.mk hbx1; have HB1 := Aside0.mk hb1; clear hgu hbx1 hb1) | ((with_reducible refine gate_dst (N := 3) rfl ?_); refine box_event ?hg (N := 3) ?hd (cs := #[.int .i64 c.f0, .slice (some ad) c.f1.length cc]) (t := 49) ?hr ?_; (case hd => rfl); (case hg => rfl); (case hr => first | (go_simp; done) | (go_simp; rfl)); intro gc hgc w2 hbx2 hb2; have HC2 := Aside0.mk hbx2; have HB2 := Aside0.mk (below_on HB1.out hb2); have HU2 := Aside0.mk (below_read hb2 HU1.out); have hk0 : w2.cell? ⟨gc, 0, none⟩ = some (.int .i64 c.f0) := (blk_cell hbx2 0).trans rfl; have hk1 : w2.cell? ⟨gc, 1, none⟩ = some (.slice (some ad) c.f1.length cc) := (blk_cell hbx2 1).trans rfl; have hp0 := pw_cell_below HB2.out HP.out; clear hgc hbx2 hb2))
  refine (in_any H0.out w2).mono ?_
  rintro e w3 ⟨rfl, hb3⟩
  have HB3 := Aside0.mk (below_on HB2.out hb3)
  have hk0 := pw_cell_below hb3 hk0
  have hk1 := pw_cell_below hb3 hk1
  have hp0 := pw_cell_below hb3 hp0
  have HU3 := Aside0.mk (below_read hb3 HU2.out)
  have HC3 := Aside0.mk (below_read hb3 HC2.out)
  clear hb3
  rcases b0 with _ | _
  · go_wp2_with fail
    go_ret
    exact ⟨rfl, HB3.out⟩
  go_wp2_with fail
  refine (in_any H1.out w3).mono ?_
  rintro e w4 ⟨rfl, hb4⟩
  have HB4 := Aside0.mk (below_on HB3.out hb4)
  have hk0 := pw_cell_below hb4 hk0
  have hk1 := pw_cell_below hb4 hk1
  have hp0 := pw_cell_below hb4 hp0
  have HU4 := Aside0.mk (below_read hb4 HU3.out)
  have HC4 := Aside0.mk (below_read hb4 HC3.out)
  clear hb4
  have hv : 0 ≤ c.f0 ∧ c.f0 ≤ 40 := of_decide_eq_true H0.out
  have HV := Aside0.mk hv
  clear hv
  rcases b2 with _ | _
  · have k2 := H2.out
    go_wp2_with fail
    go_ret
    exact ⟨rfl, HB4.out⟩
  have k2 := H2.out
  go_wp2_with fail
  refine (HA.out HV.out w4 gu gc HB4.out HU4.out HC4.out).mono ?_
  rintro e w5 ⟨rfl, hb5⟩
  have HB5 := Aside0.mk (below_on HB4.out hb5)
  clear hb5
  go_wp2_with fail
  go_ret
  exact ⟨rfl, HB5.out⟩
set_option maxHeartbeats 8000000 in
set_option maxRecDepth 100000 in
theorem lit60_calls (w : World) (Ag : Option Addr) (cg : Nat) (G : List Int) (Aa : Option Addr) (ca : Nat) (A : List Int) (m : Int) (At : Option Addr) (ct : Nat) (cs : List S49) (hg : Kd.C (Kd.int .i64) w Ag G.length G) (hcg : G.length ≤ cg) (ha : Kd.C (Kd.int .i64) w Aa A.length A) (hca : A.length ≤ ca) (ht : Kd.C k49 w At cs.length cs) (hct : cs.length ≤ ct)
    (hm : 0 ≤ m ∧ m ≤ 6) (hGl : G.length ≤ 6) (hAl : A.length ≤ 3) (c : S49) (Ac : Option Addr) (cc : Nat) (hcc : c.f1.length ≤ cc) (hC : Kd.C k33 w Ac c.f1.length c.f1)
    (gu : Nat) (bu : w.heap[gu]? = some (.cells #[.slice Ag G.length cg, .slice Aa A.length ca, .int .i64 m, .slice At cs.length ct] 25 (0, 0))) :
    Calls Try.prog 60 #[.agg #[.int .i64 c.f0, .slice Ac c.f1.length cc], .pointer (some ⟨gu, 0, none⟩)] w fun e w' => e = .returned (.bool (!codeQ G.length A.length m c)) ∧ Below w.heap.size w w' := by
  have HI := Aside0.mk (fun (W : World) (hb : Below w.heap.size w W) => if hl : 1 ≤ c.f1.length ∧ c.f1.length ≤ 60 then isCode_some W Ag cg G Aa ca A m At ct cs (Kd.C_below hg hb) hcg (Kd.C_below ha hb) hca (Kd.C_below ht hb) hct hm hGl hAl c Ac cc hcc (Kd.C_below hC hb) hl else isCode_none W Ag cg G Aa ca A m At ct cs (Kd.C_below hg hb) hcg (Kd.C_below ha hb) hca (Kd.C_below ht hb) hct hm hGl hAl c Ac cc hcc (Kd.C_below hC hb) hl)
  obtain ⟨q, hq⟩ : ∃ q, codeQ G.length A.length m c = q := ⟨_, rfl⟩
  rw [hq] at HI ⊢
  have HU := Aside0.mk bu
  clear hg hcg ha hca ht hct hm hGl hAl hC bu hq
  go_enter Try.func60, Try.ntmps60
  go_wp2_with (first | ((with_reducible refine gate_dst (N := 2) rfl ?_); refine box_event ?hg (N := 2) ?hd (cs := #[.int .i64 c.f0, .slice Ac c.f1.length cc]) (t := 49) ?hr ?_; (case hd => rfl); (case hg => rfl); (case hr => first | (go_simp; done) | (go_simp; rfl)); intro gc hgc w1 hbx hb; have HB := Aside0.mk hb; have hk0 : w1.cell? ⟨gc, 0, none⟩ = some (.int .i64 c.f0) := (blk_cell hbx 0).trans rfl; have hk1 : w1.cell? ⟨gc, 1, none⟩ = some (.slice Ac c.f1.length cc) := (blk_cell hbx 1).trans rfl; have hu0 : w1.cell? ⟨gu, 0, none⟩ = some (.slice Ag G.length cg) := (blk_cell (below_read hb HU.out) 0).trans rfl; have hu1 : w1.cell? ⟨gu, 1, none⟩ = some (.slice Aa A.length ca) := (blk_cell (below_read hb HU.out) 1).trans rfl; have hu2 : w1.cell? ⟨gu, 2, none⟩ = some (.int .i64 m) := (blk_cell (below_read hb HU.out) 2).trans rfl; have hu3 : w1.cell? ⟨gu, 3, none⟩ = some (.slice At cs.length ct) := (blk_cell (below_read hb HU.out) 3).trans rfl; clear hgc hbx hb) | (go_at_call 61; refine (HI.out _ HB.out).mono ?_; rintro e w2 ⟨rfl, hb2⟩; have HB2 := Aside0.mk (below_on HB.out hb2); clear hb2))
  go_ret
  exact ⟨rfl, HB2.out⟩
def unitQ (G A : List Int) (m : Int) (cs : List S49) : Bool := decide ((G.length : Int) ≤ 6) && (G.all fitsB && (decide ((A.length : Int) ≤ 3) && (inB m 0 6 && (inB cs.length 1 4 && (!(A.any fun n => !inB n 1 16) && !cs.any fun c => !codeQ G.length A.length m c)))))
set_option maxHeartbeats 8000000 in
set_option maxRecDepth 100000 in
theorem is_calls (w : World) (Ag : Option Addr) (cg : Nat) (G : List Int) (Aa : Option Addr) (ca : Nat) (A : List Int) (m : Int) (At : Option Addr) (ct : Nat) (cs : List S49) (hg : Kd.C (Kd.int .i64) w Ag G.length G) (hcg : G.length ≤ cg) (ha : Kd.C (Kd.int .i64) w Aa A.length A) (hca : A.length ≤ ca) (ht : Kd.C k49 w At cs.length cs) (hct : cs.length ≤ ct) :
    Calls Try.prog 40 #[.agg #[.slice Ag G.length cg, .slice Aa A.length ca, .int .i64 m, .slice At cs.length ct]] w fun e w' => e = .returned (.bool (unitQ G A m cs)) ∧ Below w.heap.size w w' := by
  obtain ⟨b0, h0⟩ : ∃ b, decide ((G.length : Int) ≤ 6) = b := ⟨_, rfl⟩
  obtain ⟨b1, h1⟩ : ∃ b, G.all fitsB = b := ⟨_, rfl⟩
  obtain ⟨b2, h2⟩ : ∃ b, decide ((A.length : Int) ≤ 3) = b := ⟨_, rfl⟩
  obtain ⟨b3, h3⟩ : ∃ b, inB m 0 6 = b := ⟨_, rfl⟩
  obtain ⟨b4, h4⟩ : ∃ b, inB cs.length 1 4 = b := ⟨_, rfl⟩
  obtain ⟨b5, h5⟩ : ∃ b, (A.any fun n => !inB n 1 16) = b := ⟨_, rfl⟩
  obtain ⟨b6, h6⟩ : ∃ b, (cs.any fun c => !codeQ G.length A.length m c) = b := ⟨_, rfl⟩
  have hQ : unitQ G A m cs = (b0 && (b1 && (b2 && (b3 && (b4 && (!b5 && !b6)))))) := by
    unfold unitQ
    rw [h0, h1, h2, h3, h4, h5, h6]
  rw [hQ]
  have HF := Aside0.mk (fun (hG : G.length ≤ 6) (W : World) (hb : Below w.heap.size w W) => fits_all W Ag cg G h1 (Kd.C_below hg hb) hcg (by omega))
  have HA := Aside0.mk (fun (W : World) (hb : Below w.heap.size w W) => has57 (fun n => !inB n 1 16) 58 #[] (fun args w => enters_ Try.func58 rfl rfl args w) A Aa ca W (Kd.C_below ha hb) (fun V x hx hb2 => lit58 x V))
  rw [h5] at HA
  have HT := Aside0.mk (fun (hm : 0 ≤ m ∧ m ≤ 6) (hGl : G.length ≤ 6) (hAl : A.length ≤ 3) (W : World) (gu : Nat) (hb : Below w.heap.size w W) (bu : W.heap[gu]? = some (.cells #[.slice Ag G.length cg, .slice Aa A.length ca, .int .i64 m, .slice At cs.length ct] 25 (0, 0))) =>
    has59 (fun c => !codeQ G.length A.length m c) 60 #[.pointer (some ⟨gu, 0, none⟩)] (fun args w => enters_ Try.func60 rfl rfl args w) cs At ct W (Kd.C_below ht hb) (fun V x Ax cx hx hb2 hcx hCx =>
      lit60_calls V Ag cg G Aa ca A m At ct cs (Kd.C_below hg (below_on hb hb2)) hcg (Kd.C_below ha (below_on hb hb2)) hca (Kd.C_below ht (below_on hb hb2)) hct hm hGl hAl x Ax cx hcx hCx gu (below_read hb2 bu)))
  rw [h6] at HT
  have H0 := Aside0.mk h0
  have H2 := Aside0.mk h2
  have H3 := Aside0.mk h3
  have H4 := Aside0.mk h4
  clear hg ha ht h1 h2 h3 h4 h5 h6 hQ
  go_enter Try.func40, Try.ntmps40
  rcases b0 with _ | _
  · go_wp2_with (first | ((with_reducible refine gate_dst (N := 1) rfl ?_); refine box_event ?hg (N := 1) ?hd (cs := #[.slice Ag G.length cg, .slice Aa A.length ca, .int .i64 m, .slice At cs.length ct]) (t := 25) ?hr ?_; (case hd => rfl); (case hg => rfl); (case hr => first | (go_simp; done) | (go_simp; rfl)); intro gu hgu w1 hbx hb; have HB1 := Aside0.mk hb; have HU1 := Aside0.mk hbx; have hu0 : w1.cell? ⟨gu, 0, none⟩ = some (.slice Ag G.length cg) := (blk_cell hbx 0).trans rfl; have hu1 : w1.cell? ⟨gu, 1, none⟩ = some (.slice Aa A.length ca) := (blk_cell hbx 1).trans rfl; have hu2 : w1.cell? ⟨gu, 2, none⟩ = some (.int .i64 m) := (blk_cell hbx 2).trans rfl; have hu3 : w1.cell? ⟨gu, 3, none⟩ = some (.slice At cs.length ct) := (blk_cell hbx 3).trans rfl; clear hgu hbx hb))
    go_ret
    exact ⟨rfl, HB1.out⟩
  have hG6 : G.length ≤ 6 := by have := of_decide_eq_true h0; omega
  have HG6 := Aside0.mk hG6
  clear hG6
  go_wp2_with (first | ((with_reducible refine gate_dst (N := 1) rfl ?_); refine box_event ?hg (N := 1) ?hd (cs := #[.slice Ag G.length cg, .slice Aa A.length ca, .int .i64 m, .slice At cs.length ct]) (t := 25) ?hr ?_; (case hd => rfl); (case hg => rfl); (case hr => first | (go_simp; done) | (go_simp; rfl)); intro gu hgu w1 hbx hb; have HB1 := Aside0.mk hb; have HU1 := Aside0.mk hbx; have hu0 : w1.cell? ⟨gu, 0, none⟩ = some (.slice Ag G.length cg) := (blk_cell hbx 0).trans rfl; have hu1 : w1.cell? ⟨gu, 1, none⟩ = some (.slice Aa A.length ca) := (blk_cell hbx 1).trans rfl; have hu2 : w1.cell? ⟨gu, 2, none⟩ = some (.int .i64 m) := (blk_cell hbx 2).trans rfl; have hu3 : w1.cell? ⟨gu, 3, none⟩ = some (.slice At cs.length ct) := (blk_cell hbx 3).trans rfl; clear hgu hbx hb))
  refine (HF.out HG6.out w1 HB1.out).mono ?_
  rintro e w2 ⟨rfl, hb2⟩
  have HB2 := Aside0.mk (below_on HB1.out hb2)
  replace hu0 := pw_cell_below hb2 hu0
  replace hu1 := pw_cell_below hb2 hu1
  replace hu2 := pw_cell_below hb2 hu2
  replace hu3 := pw_cell_below hb2 hu3
  have HU2 := Aside0.mk (below_read hb2 HU1.out)
  clear hb2
  rcases b1 with _ | _
  · go_wp2_with fail
    go_ret
    exact ⟨rfl, HB2.out⟩
  rcases b2 with _ | _
  · have k2 := H2.out
    go_wp2_with fail
    go_ret
    exact ⟨rfl, HB2.out⟩
  have k2 := H2.out
  have hA3 : A.length ≤ 3 := by have := of_decide_eq_true k2; omega
  have HA3 := Aside0.mk hA3
  clear hA3
  go_wp2_with fail
  refine (in_any H3.out w2).mono ?_
  rintro e w3 ⟨rfl, hb3⟩
  have HB3 := Aside0.mk (below_on HB2.out hb3)
  replace hu0 := pw_cell_below hb3 hu0
  replace hu1 := pw_cell_below hb3 hu1
  replace hu2 := pw_cell_below hb3 hu2
  replace hu3 := pw_cell_below hb3 hu3
  have HU3 := Aside0.mk (below_read hb3 HU2.out)
  clear hb3
  rcases b3 with _ | _
  · go_wp2_with fail
    go_ret
    exact ⟨rfl, HB3.out⟩
  have HM := Aside0.mk (show 0 ≤ m ∧ m ≤ 6 from of_decide_eq_true H3.out)
  go_wp2_with fail
  refine (in_any H4.out w3).mono ?_
  rintro e w4 ⟨rfl, hb4⟩
  have HB4 := Aside0.mk (below_on HB3.out hb4)
  replace hu0 := pw_cell_below hb4 hu0
  replace hu1 := pw_cell_below hb4 hu1
  replace hu2 := pw_cell_below hb4 hu2
  replace hu3 := pw_cell_below hb4 hu3
  have HU4 := Aside0.mk (below_read hb4 HU3.out)
  clear hb4
  rcases b4 with _ | _
  · go_wp2_with fail
    go_ret
    exact ⟨rfl, HB4.out⟩
  go_wp2_with fail
  refine (HA.out w4 HB4.out).mono ?_
  rintro e w5 ⟨rfl, hb5⟩
  have HB5 := Aside0.mk (below_on HB4.out hb5)
  replace hu0 := pw_cell_below hb5 hu0
  replace hu1 := pw_cell_below hb5 hu1
  replace hu2 := pw_cell_below hb5 hu2
  replace hu3 := pw_cell_below hb5 hu3
  have HU5 := Aside0.mk (below_read hb5 HU4.out)
  clear hb5
  rcases b5 with _ | _
  rotate_left
  · go_wp2_with fail
    go_ret
    exact ⟨rfl, HB5.out⟩
  go_wp2_with fail
  refine (HT.out HM.out HG6.out HA3.out w5 gu HB5.out HU5.out).mono ?_
  rintro e w6 ⟨rfl, hb6⟩
  have HB6 := Aside0.mk (below_on HB5.out hb6)
  replace hu0 := pw_cell_below hb6 hu0
  replace hu1 := pw_cell_below hb6 hu1
  replace hu2 := pw_cell_below hb6 hu2
  replace hu3 := pw_cell_below hb6 hu3
  have HU6 := Aside0.mk (below_read hb6 HU5.out)
  clear hb6
  go_wp2_with fail
  go_ret
  exact ⟨rfl, HB6.out⟩
theorem actQ_iff {ng na m nv nl : Int} {a : S33} : actQ ng na m nv nl a = true ↔ OkAct ng na m nv nl a := by
  unfold actQ
  simp only [Bool.and_eq_true]
  have hv : (!varB a nv) = true ↔ ∀ v ∈ varsP a, 0 ≤ v ∧ v ≤ nv - 1 := by
    unfold varB inB
    simp
  rw [hv, sameB_iff]
  unfold inB loOf
  simp only [decide_eq_true_eq]
  exact ⟨fun ⟨a, b, c, d, e, f, g, h⟩ => ⟨a, b, c, d, e, f, g, h⟩, fun ⟨a, b, c, d, e, f, g, h⟩ => ⟨a, b, c, d, e, f, g, h⟩⟩
theorem codeQ_iff {ng na m : Int} {c : S49} : codeQ ng na m c = true ↔ OkCode ng na m c := by
  unfold codeQ
  simp only [Bool.and_eq_true]
  have hv : (!c.f1.any fun a => !actQ ng na m c.f0 c.f1.length a) = true ↔ ∀ a ∈ c.f1, OkAct ng na m c.f0 c.f1.length a := by
    rw [Bool.not_eq_true', List.any_eq_false]
    exact ⟨fun h a ha => actQ_iff.1 (by have := h a ha; simpa using this), fun h a ha => by rw [actQ_iff.2 (h a ha)]; simp⟩
  rw [hv]
  unfold inB
  simp only [decide_eq_true_eq, beq_iff_eq]
  exact ⟨fun ⟨a, b, c, d⟩ => ⟨a, by omega, c, d⟩, fun ⟨a, b, c, d⟩ => ⟨a, by omega, c, d⟩⟩
theorem unitQ_iff {G A : List Int} {m : Int} {cs : List S49} : unitQ G A m cs = true ↔ OkUnit G A m cs := by
  unfold unitQ
  simp only [Bool.and_eq_true]
  have hv : (!cs.any fun c => !codeQ G.length A.length m c) = true ↔ ∀ c ∈ cs, OkCode G.length A.length m c := by
    rw [Bool.not_eq_true', List.any_eq_false]
    exact ⟨fun h a ha => codeQ_iff.1 (by have := h a ha; simpa using this), fun h a ha => by rw [codeQ_iff.2 (h a ha)]; simp⟩
  have ha : (!A.any fun n => !inB n 1 16) = true ↔ ∀ x ∈ A, 1 ≤ x ∧ x ≤ 16 := by
    unfold inB
    simp
  rw [hv, ha, List.all_eq_true]
  unfold inB
  simp only [decide_eq_true_eq]
  exact ⟨fun ⟨a, b, c, d, e, f, g⟩ => ⟨by omega, b, by omega, f, d, by omega, g⟩, fun ⟨a, b, c, d, e, f, g⟩ => ⟨by omega, b, by omega, e, by omega, d, g⟩⟩
end Go.Proofs.Ytikjamcemnbhbaa.Mr
