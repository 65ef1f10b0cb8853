/- cfg.isCode and cfg.Is: what may be, is told so. -/
import Derived.Test.YtikjamcemnbhbaaMrIsAct
namespace Go.Proofs.Ytikjamcemnbhbaa.Mr
open Go.RowKit Go.Proofs.YtikjamcemnbhbaaW.PrintWords Go.Proofs.YtikjamcemnbhbaaW.PrintLast Go.Proofs.YtikjamcemnbhbaaW.PrintMore
set_option linter.unusedVariables false
set_option linter.unusedSimpArgs false
theorem isAct_true (w : World) (Ag : Option Addr) (cg : Nat) (G : List Int) (Aa : Option Addr) (ca : Nat) (A : List Int) (m : Int) (At : Option Addr) (ct : Nat) (cs : List S49) (hg : Kd.C (Kd.int .i64) w Ag G.length G) (hcg : G.length ≤ cg) (ha : Kd.C (Kd.int .i64) w Aa A.length A) (hca : A.length ≤ ca) (ht : Kd.C k49 w At cs.length cs) (hct : cs.length ≤ ct)
    (hm : 0 ≤ m ∧ m ≤ 6) (hGl : G.length ≤ 6) (hAl : A.length ≤ 3) (nv : Int) (hnv : 0 ≤ nv ∧ nv ≤ 40) (Ac : Option Addr) (cc : Nat) (acts : List S33) (hn1 : 1 ≤ acts.length) (hn60 : acts.length ≤ 60) (a : S33) (ok : OkAct G.length A.length m nv acts.length a) :
    Calls Try.prog 73 #[.agg #[.slice Ag G.length cg, .slice Aa A.length ca, .int .i64 m, .slice At cs.length ct], .agg #[.int .i64 nv, .slice Ac acts.length cc], .agg #[.int .i64 a.f0, .int .i64 a.f1, .int .i64 a.f2, .int .i64 a.f3, .int .i64 a.f4, .int .i64 a.f5, .int .i64 a.f6, .int .i64 a.f7, .int .i64 a.f8]] w fun e w' => e = .returned (.bool true) ∧ Below w.heap.size w w' := by
  by_cases h4 : a.f0 = 4
  · exact isAct_op w Ag cg G Aa ca A m At ct cs hg hcg ha hca ht hct hm hGl hAl nv hnv Ac cc acts hn1 hn60 a ok h4
  · by_cases h11 : a.f0 = 11
    · exact isAct_br w Ag cg G Aa ca A m At ct cs hg hcg ha hca ht hct hm hGl hAl nv hnv Ac cc acts hn1 hn60 a ok h11
    · exact isAct_no w Ag cg G Aa ca A m At ct cs hg hcg ha hca ht hct hm hGl hAl nv hnv Ac cc acts hn1 hn60 a ok ⟨h4, h11⟩
structure OkCode (ng na nm : Int) (c : S49) : Prop where
  vars : 0 ≤ c.f0 ∧ c.f0 ≤ 40
  len : 1 ≤ c.f1.length ∧ c.f1.length ≤ 60
  last : (rd_T33 c.f1 (c.f1.length - 1)).f0 = 14
  acts : ∀ a ∈ c.f1, OkAct ng na nm c.f0 c.f1.length a
structure OkUnit (G A : List Int) (m : Int) (cs : List S49) : Prop where
  gl : G.length ≤ 6
  gs : ∀ x ∈ G, fitsB x = true
  al : A.length ≤ 3
  az : ∀ x ∈ A, 1 ≤ x ∧ x ≤ 16
  ms : 0 ≤ m ∧ m ≤ 6
  tl : 1 ≤ cs.length ∧ cs.length ≤ 4
  ts : ∀ c ∈ cs, OkCode G.length A.length m c
set_option maxHeartbeats 4000000 in
set_option maxRecDepth 100000 in
theorem lit72 (w : World) (Ag : Option Addr) (cg : Nat) (G : List Int) (Aa : Option Addr) (ca : Nat) (A : List Int) (m : Int) (At : Option Addr) (ct : Nat) (cs : List S49) (hg : Kd.C (Kd.int .i64) w Ag G.length G) (hcg : G.length ≤ cg) (ha : Kd.C (Kd.int .i64) w Aa A.length A) (hca : A.length ≤ ca) (ht : Kd.C k49 w At cs.length cs) (hct : cs.length ≤ ct)
    (hm : 0 ≤ m ∧ m ≤ 6) (hGl : G.length ≤ 6) (hAl : A.length ≤ 3) (nv : Int) (hnv : 0 ≤ nv ∧ nv ≤ 40) (Ac : Option Addr) (cc : Nat) (acts : List S33) (hn1 : 1 ≤ acts.length) (hn60 : acts.length ≤ 60) (a : S33) (ok : OkAct G.length A.length m nv acts.length a)
    (gu gc : Nat) (bu : w.heap[gu]? = some (.cells #[.slice Ag G.length cg, .slice Aa A.length ca, .int .i64 m, .slice At cs.length ct] 25 (0, 0))) (bc : w.heap[gc]? = some (.cells #[.int .i64 nv, .slice Ac acts.length cc] 49 (0, 0))) :
    Calls Try.prog 72 #[.agg #[.int .i64 a.f0, .int .i64 a.f1, .int .i64 a.f2, .int .i64 a.f3, .int .i64 a.f4, .int .i64 a.f5, .int .i64 a.f6, .int .i64 a.f7, .int .i64 a.f8], .pointer (some ⟨gu, 0, none⟩), .pointer (some ⟨gc, 0, none⟩)] w fun e w' => e = .returned (.bool false) ∧ Below w.heap.size w w' := by
  have HI := Aside0.mk (fun (W : World) (hb : Below w.heap.size w W) => isAct_true W Ag cg G Aa ca A m At ct cs (Kd.C_below hg hb) hcg (Kd.C_below ha hb) hca (Kd.C_below ht hb) hct hm hGl hAl nv hnv Ac cc acts hn1 hn60 a ok)
  have HU := Aside0.mk bu
  have HC := Aside0.mk bc
  clear ok hg hcg ha hca ht hct hm hGl hAl hnv hn1 hn60 bu bc
  go_enter Try.func72, Try.ntmps72
  go_wp2_with (first | ((with_reducible refine gate_dst (N := 3) rfl ?_); refine box_event ?hg (N := 3) ?hd (cs := actC a) (t := 33) ?hr ?_; (case hd => rfl); (case hg => rfl); (case hr => first | (go_simp; done) | (go_simp; rfl)); intro ga hga w1 hbx hb; have HB := Aside0.mk hb; have hy0 : w1.cell? ⟨ga, 0, none⟩ = some (.int .i64 a.f0) := (blk_cell hbx 0).trans rfl; have hy1 : w1.cell? ⟨ga, 1, none⟩ = some (.int .i64 a.f1) := (blk_cell hbx 1).trans rfl; have hy2 : w1.cell? ⟨ga, 2, none⟩ = some (.int .i64 a.f2) := (blk_cell hbx 2).trans rfl; have hy3 : w1.cell? ⟨ga, 3, none⟩ = some (.int .i64 a.f3) := (blk_cell hbx 3).trans rfl; have hy4 : w1.cell? ⟨ga, 4, none⟩ = some (.int .i64 a.f4) := (blk_cell hbx 4).trans rfl; have hy5 : w1.cell? ⟨ga, 5, none⟩ = some (.int .i64 a.f5) := (blk_cell hbx 5).trans rfl; have hy6 : w1.cell? ⟨ga, 6, none⟩ = some (.int .i64 a.f6) := (blk_cell hbx 6).trans rfl; have hy7 : w1.cell? ⟨ga, 7, none⟩ = some (.int .i64 a.f7) := (blk_cell hbx 7).trans rfl; have hy8 : w1.cell? ⟨ga, 8, none⟩ = some (.int .i64 a.f8) := (blk_cell hbx 8).trans rfl; have hu0 : w1.cell? ⟨gu, 0, none⟩ = some (.slice Ag G.length cg) := (blk_cell (below_read hb HU.out) 0).trans rfl; have hu1 : w1.cell? ⟨gu, 1, none⟩ = some (.slice Aa A.length ca) := (blk_cell (below_read hb HU.out) 1).trans rfl; have hu2 : w1.cell? ⟨gu, 2, none⟩ = some (.int .i64 m) := (blk_cell (below_read hb HU.out) 2).trans rfl; have hu3 : w1.cell? ⟨gu, 3, none⟩ = some (.slice At cs.length ct) := (blk_cell (below_read hb HU.out) 3).trans rfl; have hk0 : w1.cell? ⟨gc, 0, none⟩ = some (.int .i64 nv) := (blk_cell (below_read hb HC.out) 0).trans rfl; have hk1 : w1.cell? ⟨gc, 1, none⟩ = some (.slice Ac acts.length cc) := (blk_cell (below_read hb HC.out) 1).trans rfl; clear hga hbx hb) | (go_at_call 73; refine (HI.out _ HB.out).mono ?_; rintro e w2 ⟨rfl, hb2⟩; have HB2 := Aside0.mk (below_on HB.out hb2); clear hb2))
  go_ret
  exact ⟨rfl, HB2.out⟩
set_option maxHeartbeats 4000000 in
set_option maxRecDepth 100000 in
theorem isCode_true (w : World) (Ag : Option Addr) (cg : Nat) (G : List Int) (Aa : Option Addr) (ca : Nat) (A : List Int) (m : Int) (At : Option Addr) (ct : Nat) (cs : List S49) (hg : Kd.C (Kd.int .i64) w Ag G.length G) (hcg : G.length ≤ cg) (ha : Kd.C (Kd.int .i64) w Aa A.length A) (hca : A.length ≤ ca) (ht : Kd.C k49 w At cs.length cs) (hct : cs.length ≤ ct)
    (hm : 0 ≤ m ∧ m ≤ 6) (hGl : G.length ≤ 6) (hAl : A.length ≤ 3) (c : S49) (Ac : Option Addr) (cc : Nat) (hcc : c.f1.length ≤ cc) (hC : Kd.C k33 w Ac c.f1.length c.f1) (ok : OkCode G.length A.length m c) :
    Calls Try.prog 61 #[.agg #[.slice Ag G.length cg, .slice Aa A.length ca, .int .i64 m, .slice At cs.length ct], .agg #[.int .i64 c.f0, .slice Ac c.f1.length cc]] w fun e w' => e = .returned (.bool true) ∧ Below w.heap.size w w' := by
  obtain ⟨hv, ⟨hl1, hl2⟩, hlast, hacts⟩ := ok
  have HV := Aside0.mk hv
  have HA := Aside0.mk (fun (W : World) (gu gc : Nat) (hb : Below w.heap.size w W) (bu : W.heap[gu]? = some (.cells #[.slice Ag G.length cg, .slice Aa A.length ca, .int .i64 m, .slice At cs.length ct] 25 (0, 0))) (bc : W.heap[gc]? = some (.cells #[.int .i64 c.f0, .slice Ac c.f1.length cc] 49 (0, 0))) =>
    has71 (fun _ => false) 72 #[.pointer (some ⟨gu, 0, none⟩), .pointer (some ⟨gc, 0, none⟩)] (fun args w => enters_ Try.func72 rfl rfl args w) c.f1 Ac cc W (Kd.C_below hC hb) (fun V x hx hb2 =>
      lit72 V Ag cg G Aa ca A m At ct cs (Kd.C_below hg (below_on hb hb2)) hcg (Kd.C_below ha (below_on hb hb2)) hca (Kd.C_below ht (below_on hb hb2)) hct hm hGl hAl c.f0 hv Ac cc c.f1 hl1 hl2 x (hacts x hx) gu gc (below_read hb2 bu) (below_read hb2 bc)))
  have hANY : c.f1.any (fun _ => false) = false := by simp
  rw [hANY] at HA
  obtain ⟨ad, rfl, ha0, ha1, ha2, ha3, ha4, ha5, ha6, ha7, ha8⟩ := at_T33 hC (c.f1.length - 1) (by omega) (by omega)
  rw [hlast, (by omega : ((c.f1.length : Int) - 1).toNat = c.f1.length - 1)] at ha0
  have HL := Aside0.mk (show (1 : Int) ≤ c.f1.length ∧ (c.f1.length : Int) ≤ 60 by omega)
  have hl3 : (1 : Int) ≤ (c.f1.length : Int) := HL.out.1
  have hl4 : (c.f1.length : Int) ≤ 60 := HL.out.2
  have HP := Aside0.mk ha0
  clear hg ha ht hm hGl hAl hv hlast hacts hC ha0 ha1 ha2 ha3 ha4 ha5 ha6 ha7 ha8 hANY
  go_enter Try.func61, Try.ntmps61
  go_wp2_with (first | ((with_reducible refine gate_dst (N := 2) rfl ?_); refine box_event ?hg (N := 2) ?hd (cs := #[.slice Ag G.length cg, .slice Aa A.length ca, .int .i64 m, .slice At cs.length ct]) (t := 25) ?hr ?_; (case hd => rfl); (case hg => rfl); (case hr => first | (go_simp; done) | (go_simp; rfl)); intro gu hgu w1 hbx1 hb1; have HU1 := Aside0.mk hbx1; have HB1 := Aside0.mk hb1; clear hgu hbx1 hb1) | ((with_reducible refine gate_dst (N := 3) rfl ?_); refine box_event ?hg (N := 3) ?hd (cs := #[.int .i64 c.f0, .slice (some ad) c.f1.length cc]) (t := 49) ?hr ?_; (case hd => rfl); (case hg => rfl); (case hr => first | (go_simp; done) | (go_simp; rfl)); intro gc hgc w2 hbx2 hb2; have HC2 := Aside0.mk hbx2; have HB2 := Aside0.mk (below_on HB1.out hb2); have HU2 := Aside0.mk (below_read hb2 HU1.out); have hk0 : w2.cell? ⟨gc, 0, none⟩ = some (.int .i64 c.f0) := (blk_cell hbx2 0).trans rfl; have hk1 : w2.cell? ⟨gc, 1, none⟩ = some (.slice (some ad) c.f1.length cc) := (blk_cell hbx2 1).trans rfl; have hp0 := pw_cell_below HB2.out HP.out; clear hgc hbx2 hb2))
  refine (in_true c.f0 0 40 w2 HV.out.1 HV.out.2).mono ?_
  rintro e w3 ⟨rfl, hb3⟩
  have HB3 := Aside0.mk (below_on HB2.out hb3)
  have hk0 := pw_cell_below hb3 hk0
  have hk1 := pw_cell_below hb3 hk1
  have hp0 := pw_cell_below hb3 hp0
  have HU3 := Aside0.mk (below_read hb3 HU2.out)
  have HC3 := Aside0.mk (below_read hb3 HC2.out)
  clear hb3
  go_wp2_with fail
  refine (in_true c.f1.length 1 60 w3 HL.out.1 HL.out.2).mono ?_
  rintro e w4 ⟨rfl, hb4⟩
  have HB4 := Aside0.mk (below_on HB3.out hb4)
  have hk0 := pw_cell_below hb4 hk0
  have hk1 := pw_cell_below hb4 hk1
  have hp0 := pw_cell_below hb4 hp0
  have HU4 := Aside0.mk (below_read hb4 HU3.out)
  have HC4 := Aside0.mk (below_read hb4 HC3.out)
  clear hb4
  go_wp2_with fail
  refine (HA.out w4 gu gc HB4.out HU4.out HC4.out).mono ?_
  rintro e w5 ⟨rfl, hb5⟩
  have HB5 := Aside0.mk (below_on HB4.out hb5)
  clear hb5
  go_wp2_with fail
  go_ret
  exact ⟨rfl, HB5.out⟩
set_option maxHeartbeats 4000000 in
set_option maxRecDepth 100000 in
theorem lit60 (w : World) (Ag : Option Addr) (cg : Nat) (G : List Int) (Aa : Option Addr) (ca : Nat) (A : List Int) (m : Int) (At : Option Addr) (ct : Nat) (cs : List S49) (hg : Kd.C (Kd.int .i64) w Ag G.length G) (hcg : G.length ≤ cg) (ha : Kd.C (Kd.int .i64) w Aa A.length A) (hca : A.length ≤ ca) (ht : Kd.C k49 w At cs.length cs) (hct : cs.length ≤ ct)
    (hm : 0 ≤ m ∧ m ≤ 6) (hGl : G.length ≤ 6) (hAl : A.length ≤ 3) (c : S49) (Ac : Option Addr) (cc : Nat) (hcc : c.f1.length ≤ cc) (hC : Kd.C k33 w Ac c.f1.length c.f1) (ok : OkCode G.length A.length m c)
    (gu : Nat) (bu : w.heap[gu]? = some (.cells #[.slice Ag G.length cg, .slice Aa A.length ca, .int .i64 m, .slice At cs.length ct] 25 (0, 0))) :
    Calls Try.prog 60 #[.agg #[.int .i64 c.f0, .slice Ac c.f1.length cc], .pointer (some ⟨gu, 0, none⟩)] w fun e w' => e = .returned (.bool false) ∧ Below w.heap.size w w' := by
  have HI := Aside0.mk (fun (W : World) (hb : Below w.heap.size w W) => isCode_true W Ag cg G Aa ca A m At ct cs (Kd.C_below hg hb) hcg (Kd.C_below ha hb) hca (Kd.C_below ht hb) hct hm hGl hAl c Ac cc hcc (Kd.C_below hC hb) ok)
  have HU := Aside0.mk bu
  clear ok hg hcg ha hca ht hct hm hGl hAl hC bu
  go_enter Try.func60, Try.ntmps60
  go_wp2_with (first | ((with_reducible refine gate_dst (N := 2) rfl ?_); refine box_event ?hg (N := 2) ?hd (cs := #[.int .i64 c.f0, .slice Ac c.f1.length cc]) (t := 49) ?hr ?_; (case hd => rfl); (case hg => rfl); (case hr => first | (go_simp; done) | (go_simp; rfl)); intro gc hgc w1 hbx hb; have HB := Aside0.mk hb; have hk0 : w1.cell? ⟨gc, 0, none⟩ = some (.int .i64 c.f0) := (blk_cell hbx 0).trans rfl; have hk1 : w1.cell? ⟨gc, 1, none⟩ = some (.slice Ac c.f1.length cc) := (blk_cell hbx 1).trans rfl; have hu0 : w1.cell? ⟨gu, 0, none⟩ = some (.slice Ag G.length cg) := (blk_cell (below_read hb HU.out) 0).trans rfl; have hu1 : w1.cell? ⟨gu, 1, none⟩ = some (.slice Aa A.length ca) := (blk_cell (below_read hb HU.out) 1).trans rfl; have hu2 : w1.cell? ⟨gu, 2, none⟩ = some (.int .i64 m) := (blk_cell (below_read hb HU.out) 2).trans rfl; have hu3 : w1.cell? ⟨gu, 3, none⟩ = some (.slice At cs.length ct) := (blk_cell (below_read hb HU.out) 3).trans rfl; clear hgc hbx hb) | (go_at_call 61; refine (HI.out _ HB.out).mono ?_; rintro e w2 ⟨rfl, hb2⟩; have HB2 := Aside0.mk (below_on HB.out hb2); clear hb2))
  go_ret
  exact ⟨rfl, HB2.out⟩
set_option maxHeartbeats 4000000 in
set_option maxRecDepth 100000 in
theorem is_true (w : World) (Ag : Option Addr) (cg : Nat) (G : List Int) (Aa : Option Addr) (ca : Nat) (A : List Int) (m : Int) (At : Option Addr) (ct : Nat) (cs : List S49) (hg : Kd.C (Kd.int .i64) w Ag G.length G) (hcg : G.length ≤ cg) (ha : Kd.C (Kd.int .i64) w Aa A.length A) (hca : A.length ≤ ca) (ht : Kd.C k49 w At cs.length cs) (hct : cs.length ≤ ct) (ok : OkUnit G A m cs) :
    Calls Try.prog 40 #[.agg #[.slice Ag G.length cg, .slice Aa A.length ca, .int .i64 m, .slice At cs.length ct]] w fun e w' => e = .returned (.bool true) ∧ Below w.heap.size w w' := by
  obtain ⟨hGl, hGs, hAl, hAs, hm, ⟨hl1, hl2⟩, hts⟩ := ok
  have HM := Aside0.mk hm
  have HF := Aside0.mk (fun (W : World) (hb : Below w.heap.size w W) => fits_calls W Ag cg G (Kd.C_below hg hb) hcg (by omega) hGs)
  have HA := Aside0.mk (fun (W : World) (hb : Below w.heap.size w W) => has57 (fun n => !inB n 1 16) 58 #[] (fun args w => enters_ Try.func58 rfl rfl args w) A Aa ca W (Kd.C_below ha hb) (fun V x hx hb2 => lit58 x V))
  have hANY : A.any (fun n => !inB n 1 16) = false := by
    rw [List.any_eq_false]
    intro x hx
    have := hAs x hx
    unfold inB
    simp; omega
  rw [hANY] at HA
  have HT := Aside0.mk (fun (W : World) (gu : Nat) (hb : Below w.heap.size w W) (bu : W.heap[gu]? = some (.cells #[.slice Ag G.length cg, .slice Aa A.length ca, .int .i64 m, .slice At cs.length ct] 25 (0, 0))) =>
    has59 (fun _ => false) 60 #[.pointer (some ⟨gu, 0, none⟩)] (fun args w => enters_ Try.func60 rfl rfl args w) cs At ct W (Kd.C_below ht hb) (fun V x Ax cx hx hb2 hcx hCx =>
      lit60 V Ag cg G Aa ca A m At ct cs (Kd.C_below hg (below_on hb hb2)) hcg (Kd.C_below ha (below_on hb hb2)) hca (Kd.C_below ht (below_on hb hb2)) hct hm hGl hAl x Ax cx hcx hCx (hts x hx) gu (below_read hb2 bu)))
  have hANY2 : cs.any (fun _ => false) = false := by simp
  rw [hANY2] at HT
  have HL := Aside0.mk (show (1 : Int) ≤ cs.length ∧ (cs.length : Int) ≤ 4 by omega)
  have hg6 : (decide ((G.length : Int) ≤ 6)) = true := by simp; omega
  have ha3 : (decide ((A.length : Int) ≤ 3)) = true := by simp; omega
  clear hg ha ht hm hGl hAl hGs hAs hl1 hl2 hts hANY hANY2
  go_enter Try.func40, Try.ntmps40
  go_wp2_with (first | ((with_reducible refine gate_dst (N := 1) rfl ?_); refine box_event ?hg (N := 1) ?hd (cs := #[.slice Ag G.length cg, .slice Aa A.length ca, .int .i64 m, .slice At cs.length ct]) (t := 25) ?hr ?_; (case hd => rfl); (case hg => rfl); (case hr => first | (go_simp; done) | (go_simp; rfl)); intro gu hgu w1 hbx hb; have HB1 := Aside0.mk hb; have HU1 := Aside0.mk hbx; have hu0 : w1.cell? ⟨gu, 0, none⟩ = some (.slice Ag G.length cg) := (blk_cell hbx 0).trans rfl; have hu1 : w1.cell? ⟨gu, 1, none⟩ = some (.slice Aa A.length ca) := (blk_cell hbx 1).trans rfl; have hu2 : w1.cell? ⟨gu, 2, none⟩ = some (.int .i64 m) := (blk_cell hbx 2).trans rfl; have hu3 : w1.cell? ⟨gu, 3, none⟩ = some (.slice At cs.length ct) := (blk_cell hbx 3).trans rfl; clear hgu hbx hb))
  refine (HF.out w1 HB1.out).mono ?_
  rintro e w2 ⟨rfl, hb2⟩
  have HB2 := Aside0.mk (below_on HB1.out hb2)
  replace hu0 := pw_cell_below hb2 hu0
  replace hu1 := pw_cell_below hb2 hu1
  replace hu2 := pw_cell_below hb2 hu2
  replace hu3 := pw_cell_below hb2 hu3
  have HU2 := Aside0.mk (below_read hb2 HU1.out)
  clear hb2
  go_wp2_with fail
  refine (in_true m 0 6 w2 HM.out.1 HM.out.2).mono ?_
  rintro e w3 ⟨rfl, hb3⟩
  have HB3 := Aside0.mk (below_on HB2.out hb3)
  replace hu0 := pw_cell_below hb3 hu0
  replace hu1 := pw_cell_below hb3 hu1
  replace hu2 := pw_cell_below hb3 hu2
  replace hu3 := pw_cell_below hb3 hu3
  have HU3 := Aside0.mk (below_read hb3 HU2.out)
  clear hb3
  go_wp2_with fail
  refine (in_true cs.length 1 4 w3 HL.out.1 HL.out.2).mono ?_
  rintro e w4 ⟨rfl, hb4⟩
  have HB4 := Aside0.mk (below_on HB3.out hb4)
  replace hu0 := pw_cell_below hb4 hu0
  replace hu1 := pw_cell_below hb4 hu1
  replace hu2 := pw_cell_below hb4 hu2
  replace hu3 := pw_cell_below hb4 hu3
  have HU4 := Aside0.mk (below_read hb4 HU3.out)
  clear hb4
  go_wp2_with fail
  refine (HA.out w4 HB4.out).mono ?_
  rintro e w5 ⟨rfl, hb5⟩
  have HB5 := Aside0.mk (below_on HB4.out hb5)
  replace hu0 := pw_cell_below hb5 hu0
  replace hu1 := pw_cell_below hb5 hu1
  replace hu2 := pw_cell_below hb5 hu2
  replace hu3 := pw_cell_below hb5 hu3
  have HU5 := Aside0.mk (below_read hb5 HU4.out)
  clear hb5
  go_wp2_with fail
  refine (HT.out w5 gu HB5.out HU5.out).mono ?_
  rintro e w6 ⟨rfl, hb6⟩
  have HB6 := Aside0.mk (below_on HB5.out hb6)
  clear hb6
  go_wp2_with fail
  go_ret
  exact ⟨rfl, HB6.out⟩
end Go.Proofs.Ytikjamcemnbhbaa.Mr
