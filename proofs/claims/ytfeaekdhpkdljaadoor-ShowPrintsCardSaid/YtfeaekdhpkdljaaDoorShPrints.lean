/- meddlerlaw6.ShowPrints: any program, expression and condition as a text. -/
import Derived.Test.YtfeaekdhpkdljaaDoorShHeavy
import Derived.Test.YtfeaekdhpkdljaaDoorShRefP
import Derived.Test.YtfeaekdhpkdljaaDoorShKnown
import Derived.Test.YtfeaekdhpkdljaaDoorShSizes
namespace Go.Proofs.YtfeaekdhpkdljaaDoor.Sh
open Go.RowKit Go.Proofs.YtfeaekdhpkdljaaDoorW.PrintWords Go.Proofs.YtfeaekdhpkdljaaDoorW.PrintLast
set_option linter.unusedVariables false
set_option linter.unusedSimpArgs false
/-- What stands all through: the three arguments' blocks. -/
def P3 (w0 : World) (gp ge gc : Nat) (pc ec cc : Array Value) (w : World) : Prop := Below w0.heap.size w0 w ∧ w.heap[gp]? = some (.cells pc 27 (0, 0)) ∧ w.heap[ge]? = some (.cells ec 30 (0, 0)) ∧ w.heap[gc]? = some (.cells cc 33 (0, 0))
theorem P3.on {w0 w w' : World} {gp ge gc : Nat} {pc ec cc : Array Value} (h : P3 w0 gp ge gc pc ec cc w) (hb : Below w.heap.size w w') : P3 w0 gp ge gc pc ec cc w' :=
  ⟨below_then h.1 h.1.size hb, (hb.block gp (blk_lt h.2.1)).trans h.2.1, (hb.block ge (blk_lt h.2.2.1)).trans h.2.2.1, (hb.block gc (blk_lt h.2.2.2)).trans h.2.2.2⟩
set_option maxHeartbeats 8000000 in
set_option maxRecDepth 100000 in
theorem prints_calls (w0 : World) (G : List S59) (As : List S61) (Ms : List ByteArray) (Ts : List S52) (AG AA AM AT : Option Addr) (cG cA cM cT : Nat) (hG : k59.C w0 AG G.length G) (hA : k61.C w0 AA As.length As) (hM : Kd.string.C w0 AM Ms.length Ms) (hT : k52.C w0 AT Ts.length Ts)
    (lG : G.length ≤ 140737488355328) (lA : As.length ≤ 140737488355328) (lM : Ms.length ≤ 140737488355328) (lT : Ts.length ≤ 140737488355328) (rG : ∀ g ∈ G, g.f0.size ≤ 140737488355328) (rA : ∀ g ∈ As, g.f0.size ≤ 140737488355328) (rM : ∀ m ∈ Ms, m.size ≤ 140737488355328) (rT : ∀ t ∈ Ts, wfT t)
    (iG : ∀ g ∈ G, -9223372036854775808 ≤ g.f1 ∧ g.f1 ≤ 9223372036854775807) (iA : ∀ g ∈ As, -9223372036854775808 ≤ g.f1 ∧ g.f1 ≤ 9223372036854775807) (iT : ∀ t ∈ Ts, ∀ s ∈ t.f2, okSt (SizeOf.sizeOf t.f2) s)
    (e : S30) (A : Option Addr) (c : Nat) (hE : k30.C w0 A e.f4.length e.f4) (hce : e.f4.length ≤ c) (okE : okE e) (wfE_ : wfES e)
    (d : S33) (A2 A3 : Option Addr) (c2 c3 : Nat) (hD2 : k30.C w0 A2 d.f2.length d.f2) (hc2 : d.f2.length ≤ c2) (hD3 : k33.C w0 A3 d.f3.length d.f3) (hc3 : d.f3.length ≤ c3) (okD : okCs d) (wfD : wfCS d) (ht : Tab w0) :
    Calls Tryd.prog 3 #[.agg #[.slice AG G.length cG, .slice AA As.length cA, .slice AM Ms.length cM, .slice AT Ts.length cT], .agg #[.int .i64 e.f0, .int .i64 e.f1, .int .i64 e.f2, .string e.f3, .slice A e.f4.length c], .agg #[.int .i64 d.f0, .int .i64 d.f1, .slice A2 d.f2.length c2, .slice A3 d.f3.length c3]] w0 fun r w' => r = .returned (.bool true) ∧ Below w0.heap.size w0 w' := by
  have H8 : Aside0 (∀ W : World, Below w0.heap.size w0 W → Calls Tryd.prog 8 #[.agg #[.slice AG G.length cG, .slice AA As.length cA, .slice AM Ms.length cM, .slice AT Ts.length cT]] W fun e w' => (e = .returned (.bool true) ∧ Below W.heap.size W w') ∨ (e = .returned (.bool false) ∧ wP G As Ms Ts ≤ 1500 ∧ Below W.heap.size W w')) :=
    ⟨fun W hb => heavy_calls W G As Ms Ts AG AA AM AT cG cA cM cT (Kd.C_below hG hb) (Kd.C_below hA hb) (Kd.C_below hM hb) (Kd.C_below hT hb) lG lA lM lT rG rA rM rT⟩
  have H9 : Aside0 (∀ W : World, Below w0.heap.size w0 W → Calls Tryd.prog 9 #[.agg #[.int .i64 e.f0, .int .i64 e.f1, .int .i64 e.f2, .string e.f3, .slice A e.f4.length c], .int .i64 500] W fun q w' => ∃ r, q = .returned (.int .i64 r) ∧ WR 500 (wES e) r ∧ Below W.heap.size W w') :=
    ⟨fun W hb => weigh_calls _ e A c 500 W (Kd.C_below hE hb) hce (Nat.le_refl _) wfE_ (by decide) (by decide)⟩
  have H10 : Aside0 (∀ W : World, Below w0.heap.size w0 W → Calls Tryd.prog 10 #[.agg #[.int .i64 d.f0, .int .i64 d.f1, .slice A2 d.f2.length c2, .slice A3 d.f3.length c3], .int .i64 500] W fun q w' => ∃ r, q = .returned (.int .i64 r) ∧ WR 500 (wCS d) r ∧ Below W.heap.size W w') :=
    ⟨fun W hb => weighCond_calls _ d A2 A3 c2 c3 500 W (Kd.C_below hD2 hb) hc2 (Kd.C_below hD3 hb) hc3 (Nat.le_refl _) wfD (by decide) (by decide)⟩
  have H11 : Aside0 (wP G As Ms Ts ≤ 1500 → ∀ W : World, Below w0.heap.size w0 W → Calls Tryd.prog 11 #[.agg #[.slice AG G.length cG, .slice AA As.length cA, .slice AM Ms.length cM, .slice AT Ts.length cT]] W fun e w' => e = .returned (.string (tx (printF G As Ms Ts))) ∧ Below W.heap.size W w') :=
    ⟨fun hz W hb => print_calls W G As Ms Ts AG AA AM AT cG cA cM cT (Kd.C_below hG hb) (Kd.C_below hA hb) (Kd.C_below hM hb) (Kd.C_below hT hb) (tab_on ht hb) iG iA iT (Nat.le_trans (printF_size G As Ms Ts iG iA iT) (by omega))⟩
  have H12 : Aside0 (wP G As Ms Ts ≤ 1500 → ∀ W : World, Below w0.heap.size w0 W → Calls Tryd.prog 12 #[.agg #[.slice AG G.length cG, .slice AA As.length cA, .slice AM Ms.length cM, .slice AT Ts.length cT]] W fun e w' => e = .returned (.string (tx (printF G As Ms Ts))) ∧ Below W.heap.size W w') :=
    ⟨fun hz W hb => rprint_calls W G As Ms Ts AG AA AM AT cG cA cM cT (Kd.C_below hG hb) (Kd.C_below hA hb) (Kd.C_below hM hb) (Kd.C_below hT hb) iG iA iT (Nat.le_trans (printF_size G As Ms Ts iG iA iT) (by omega))⟩
  have H13 : Aside0 (wES e ≤ 500 → ∀ W : World, Below w0.heap.size w0 W → Calls Tryd.prog 13 #[.agg #[.int .i64 e.f0, .int .i64 e.f1, .int .i64 e.f2, .string e.f3, .slice A e.f4.length c]] W fun r w' => r = .returned (.string (exprS e)) ∧ Below W.heap.size W w') :=
    ⟨fun hz W hb => expr_calls _ e A c W (Kd.C_below hE hb) hce (tab_on ht hb) (Nat.le_refl _) okE (Nat.le_trans (exprF_size _ e (Nat.le_refl _) okE) (Nat.le_trans (Nat.mul_le_mul_left 24 hz) (by decide)))⟩
  have H14 : Aside0 (wES e ≤ 500 → ∀ W : World, Below w0.heap.size w0 W → Calls Tryd.prog 14 #[.agg #[.int .i64 e.f0, .int .i64 e.f1, .int .i64 e.f2, .string e.f3, .slice A e.f4.length c]] W fun r w' => r = .returned (.string (exprS e)) ∧ Below W.heap.size W w') :=
    ⟨fun hz W hb => rexpr_calls e A c W (Kd.C_below hE hb) hce okE (Nat.le_trans (exprF_size _ e (Nat.le_refl _) okE) (Nat.le_trans (Nat.mul_le_mul_left 24 hz) (by decide)))⟩
  have H15 : Aside0 (wCS d ≤ 500 → ∀ W : World, Below w0.heap.size w0 W → Calls Tryd.prog 15 #[.agg #[.int .i64 d.f0, .int .i64 d.f1, .slice A2 d.f2.length c2, .slice A3 d.f3.length c3]] W fun r w' => r = .returned (.string (condS d)) ∧ Below W.heap.size W w') :=
    ⟨fun hz W hb => cond_calls _ d A2 A3 c2 c3 W (Kd.C_below hD2 hb) hc2 (Kd.C_below hD3 hb) hc3 (tab_on ht hb) (Nat.le_refl _) okD (Nat.le_trans (condF_size _ d (Nat.le_refl _) okD) (Nat.le_trans (Nat.mul_le_mul_left 24 hz) (by decide)))⟩
  have H16 : Aside0 (wCS d ≤ 500 → ∀ W : World, Below w0.heap.size w0 W → Calls Tryd.prog 16 #[.agg #[.int .i64 d.f0, .int .i64 d.f1, .slice A2 d.f2.length c2, .slice A3 d.f3.length c3]] W fun r w' => r = .returned (.string (condS d)) ∧ Below W.heap.size W w') :=
    ⟨fun hz W hb => rcond_calls d A2 A3 c2 c3 W (Kd.C_below hD2 hb) hc2 (Kd.C_below hD3 hb) hc3 okD (Nat.le_trans (condF_size _ d (Nat.le_refl _) okD) (Nat.le_trans (Nat.mul_le_mul_left 24 hz) (by decide)))⟩
  have H17 : Aside0 (∀ W : World, Below w0.heap.size w0 W → Calls Tryd.prog 17 #[] W fun e w' => e = .returned (.bool true) ∧ Below W.heap.size W w') :=
    ⟨fun W hb => known17_calls W (tab_on ht hb)⟩
  clear hG hA hM hT lG lA lM lT rG rA rM rT iG iA iT hE hce okE wfE_ hD2 hc2 hD3 hc3 okD wfD ht
  go_enter Tryd.func3, Tryd.ntmps3
  go_upto_region 1 with (first | ((with_reducible refine gate_dst (N := 3) rfl ?_); refine box_event ?hg (N := 3) ?hd (cs := #[.slice AG G.length cG, .slice AA As.length cA, .slice AM Ms.length cM, .slice AT Ts.length cT]) (t := 27) ?hr ?_; (case hd => rfl); (case hg => rfl); (case hr => first | (go_simp; done) | (go_simp; rfl)); intro gp hgg w1 hlit hb; have Hgp := Aside0.mk hlit; have HB_w1 := Aside0.mk hb; clear hlit hb hgg) | ((with_reducible refine gate_dst (N := 4) rfl ?_); refine box_event ?hg (N := 4) ?hd (cs := #[.int .i64 e.f0, .int .i64 e.f1, .int .i64 e.f2, .string e.f3, .slice A e.f4.length c]) (t := 30) ?hr ?_; (case hd => rfl); (case hg => rfl); (case hr => first | (go_simp; done) | (go_simp; rfl)); intro ge hgg w2 hlit hb; have Hge := Aside0.mk hlit; have HB_w2 := Aside0.mk hb; clear hlit hb hgg) | ((with_reducible refine gate_dst (N := 5) rfl ?_); refine box_event ?hg (N := 5) ?hd (cs := #[.int .i64 d.f0, .int .i64 d.f1, .slice A2 d.f2.length c2, .slice A3 d.f3.length c3]) (t := 33) ?hr ?_; (case hd => rfl); (case hg => rfl); (case hr => first | (go_simp; done) | (go_simp; rfl)); intro gc hgg w3 hlit hb; have Hgc := Aside0.mk hlit; have HB_w3 := Aside0.mk hb; clear hlit hb hgg))
  have HP := Aside0.mk (show P3 w0 gp ge gc #[.slice AG G.length cG, .slice AA As.length cA, .slice AM Ms.length cM, .slice AT Ts.length cT] #[.int .i64 e.f0, .int .i64 e.f1, .int .i64 e.f2, .string e.f3, .slice A e.f4.length c] #[.int .i64 d.f0, .int .i64 d.f1, .slice A2 d.f2.length c2, .slice A3 d.f3.length c3] w3 from ⟨below_then (below_then HB_w1.out HB_w1.out.size HB_w2.out) (below_then HB_w1.out HB_w1.out.size HB_w2.out).size HB_w3.out, below_read HB_w3.out (below_read HB_w2.out Hgp.out), below_read HB_w3.out Hge.out, Hgc.out⟩)
  clear Hgp Hge Hgc HB_w1 HB_w2 HB_w3
  go_wp2_with (first | ((with_reducible refine gate_dst (N := 7) rfl ?_); (try (refine gate_guard (by rfl) ?_; dsimp only)); refine wpList_load_row ?hg 27 (.tmp 3) ?ho gp ?hx 27 _ (0, 0) _ HP.out.2.1 Tryd.underlying27 ?hd ?hi ?_; (case hg => rfl); (case ho => rfl); (case hx => rfl); (case hd => rfl); (case hi => kernel_rfl)))
  refine (H8.out w3 HP.out.1).mono ?_
  rintro q w4 (⟨rfl, hb⟩ | ⟨rfl, hz, hb⟩)
  · have HQ := Aside0.mk (HP.out.on hb)
    clear hb
    go_wp2_with fail
    go_ret
    exact ⟨rfl, HQ.out.1⟩
  have HQ := Aside0.mk (HP.out.on hb)
  have K11 := Aside0.mk (H11.out hz)
  have K12 := Aside0.mk (H12.out hz)
  clear hb hz H8 HP H11 H12
  go_wp2_with (first | ((with_reducible refine gate_dst (N := 10) rfl ?_); (try (refine gate_guard (by rfl) ?_; dsimp only)); refine wpList_load_row ?hg 30 (.tmp 4) ?ho ge ?hx 30 _ (0, 0) _ HQ.out.2.2.1 Tryd.underlying30 ?hd ?hi ?_; (case hg => rfl); (case ho => rfl); (case hx => rfl); (case hd => rfl); (case hi => kernel_rfl)))
  refine (H9.out w4 HQ.out.1).mono ?_
  rintro q w5 ⟨r, rfl, hwr, hb⟩
  have HP := Aside0.mk (HQ.out.on hb)
  by_cases hr : r ≤ 0
  · clear hb hwr
    have hrb : decide (r ≤ 0) = true := decide_eq_true hr
    go_wp2_with fail
    go_ret
    exact ⟨rfl, HP.out.1⟩
  have hrb : decide (r ≤ 0) = false := decide_eq_false hr
  have K13 := Aside0.mk (H13.out (by have h := hwr.2.2.2 (by omega); omega))
  have K14 := Aside0.mk (H14.out (by have h := hwr.2.2.2 (by omega); omega))
  clear hb hwr H9 HQ H13 H14
  go_wp2_with (first | ((with_reducible refine gate_dst (N := 15) rfl ?_); (try (refine gate_guard (by rfl) ?_; dsimp only)); refine wpList_load_row ?hg 33 (.tmp 5) ?ho gc ?hx 33 _ (0, 0) _ HP.out.2.2.2 Tryd.underlying33 ?hd ?hi ?_; (case hg => rfl); (case ho => rfl); (case hx => rfl); (case hd => rfl); (case hi => kernel_rfl)))
  refine (H10.out w5 HP.out.1).mono ?_
  rintro q w6 ⟨r2, rfl, hwr, hb⟩
  have HQ := Aside0.mk (HP.out.on hb)
  by_cases hr2 : r2 ≤ 0
  · clear hb hwr
    have hrb2 : decide (r2 ≤ 0) = true := decide_eq_true hr2
    go_wp2_with fail
    go_ret
    exact ⟨rfl, HQ.out.1⟩
  have hrb2 : decide (r2 ≤ 0) = false := decide_eq_false hr2
  have K15 := Aside0.mk (H15.out (by have h := hwr.2.2.2 (by omega); omega))
  have K16 := Aside0.mk (H16.out (by have h := hwr.2.2.2 (by omega); omega))
  clear hb hwr H10 HP H15 H16
  have HP := HQ
  have zgp0 : w6.cell? ⟨gp, 0, none⟩ = some (.slice AG G.length cG) := (blk_cell HP.out.2.1 0).trans rfl
  have zgp1 : w6.cell? ⟨gp, 1, none⟩ = some (.slice AA As.length cA) := (blk_cell HP.out.2.1 1).trans rfl
  have zgp2 : w6.cell? ⟨gp, 2, none⟩ = some (.slice AM Ms.length cM) := (blk_cell HP.out.2.1 2).trans rfl
  have zgp3 : w6.cell? ⟨gp, 3, none⟩ = some (.slice AT Ts.length cT) := (blk_cell HP.out.2.1 3).trans rfl
  have zge0 : w6.cell? ⟨ge, 0, none⟩ = some (.int .i64 e.f0) := (blk_cell HP.out.2.2.1 0).trans rfl
  have zge1 : w6.cell? ⟨ge, 1, none⟩ = some (.int .i64 e.f1) := (blk_cell HP.out.2.2.1 1).trans rfl
  have zge2 : w6.cell? ⟨ge, 2, none⟩ = some (.int .i64 e.f2) := (blk_cell HP.out.2.2.1 2).trans rfl
  have zge3 : w6.cell? ⟨ge, 3, none⟩ = some (.string e.f3) := (blk_cell HP.out.2.2.1 3).trans rfl
  have zge4 : w6.cell? ⟨ge, 4, none⟩ = some (.slice A e.f4.length c) := (blk_cell HP.out.2.2.1 4).trans rfl
  have zgc0 : w6.cell? ⟨gc, 0, none⟩ = some (.int .i64 d.f0) := (blk_cell HP.out.2.2.2 0).trans rfl
  have zgc1 : w6.cell? ⟨gc, 1, none⟩ = some (.int .i64 d.f1) := (blk_cell HP.out.2.2.2 1).trans rfl
  have zgc2 : w6.cell? ⟨gc, 2, none⟩ = some (.slice A2 d.f2.length c2) := (blk_cell HP.out.2.2.2 2).trans rfl
  have zgc3 : w6.cell? ⟨gc, 3, none⟩ = some (.slice A3 d.f3.length c3) := (blk_cell HP.out.2.2.2 3).trans rfl
  obtain ⟨tp, htp⟩ : ∃ z_, tx (printF G As Ms Ts) = z_ := ⟨_, rfl⟩
  obtain ⟨te, hte⟩ : ∃ z_, exprS e = z_ := ⟨_, rfl⟩
  obtain ⟨td, htd⟩ : ∃ z_, condS d = z_ := ⟨_, rfl⟩
  rw [htp] at K11 K12
  rw [hte] at K13 K14
  rw [htd] at K15 K16
  clear htp hte htd
  go_upto_region 3 with fail
  refine start_ (n := 23) (S := fun w' => w'.cell? ⟨gp, 0, none⟩ = some (.slice AG G.length cG) ∧ w'.cell? ⟨gp, 1, none⟩ = some (.slice AA As.length cA) ∧ w'.cell? ⟨gp, 2, none⟩ = some (.slice AM Ms.length cM) ∧ w'.cell? ⟨gp, 3, none⟩ = some (.slice AT Ts.length cT) ∧ w'.cell? ⟨ge, 0, none⟩ = some (.int .i64 e.f0) ∧ w'.cell? ⟨ge, 1, none⟩ = some (.int .i64 e.f1) ∧ w'.cell? ⟨ge, 2, none⟩ = some (.int .i64 e.f2) ∧ w'.cell? ⟨ge, 3, none⟩ = some (.string e.f3) ∧ w'.cell? ⟨ge, 4, none⟩ = some (.slice A e.f4.length c) ∧ w'.cell? ⟨gc, 0, none⟩ = some (.int .i64 d.f0) ∧ w'.cell? ⟨gc, 1, none⟩ = some (.int .i64 d.f1) ∧ w'.cell? ⟨gc, 2, none⟩ = some (.slice A2 d.f2.length c2) ∧ w'.cell? ⟨gc, 3, none⟩ = some (.slice A3 d.f3.length c3) ∧ Aside0 (Below w0.heap.size w0 w')) (ds := []) #[false, false, false, false, false, false, false, false, false, false, false, false, false, false, false, false, false, false, false, false, false, false, false] (by kernel_rfl) rfl rfl ⟨zgp0, zgp1, zgp2, zgp3, zge0, zge1, zge2, zge3, zge4, zgc0, zgc1, zgc2, zgc3, ⟨below_drew HP.out.1⟩⟩ (fun hHeld => ?_)
  refine take_ (i := 0) (N := some 19) (v := ?_) (a' := ?_) #[true, false, false, false, false, false, false, false, false, false, false, false, false, false, false, false, false, false, false, false, false, false, false] rfl rfl (by kernel_rfl) (fun _ _ _ h => h) (Or.inl ⟨by rfl, ?_⟩) hHeld ?_ ?_
  rotate_left
  · rintro w' ⟨s0, s1, s2, s3, s4, s5, s6, s7, s8, s9, s10, s11, s12, s13⟩
    go_simp
    with_reducible rfl
  rotate_left
  · simp only [Act.put, List.setIfInBounds_toArray, List.set_cons_zero, List.set_cons_succ, i64_w, i32_w]
    rfl
  refine take_ (i := 2) (N := some 21) (v := ?_) (a' := ?_) #[true, false, true, false, false, false, false, false, false, false, false, false, false, false, false, false, false, false, false, false, false, false, false] rfl rfl (by kernel_rfl) (fun _ _ _ h => h) (Or.inl ⟨by rfl, ?_⟩) hHeld ?_ ?_
  rotate_left
  · rintro w' ⟨s0, s1, s2, s3, s4, s5, s6, s7, s8, s9, s10, s11, s12, s13⟩
    go_simp
    with_reducible rfl
  rotate_left
  · simp only [Act.put, List.setIfInBounds_toArray, List.set_cons_zero, List.set_cons_succ, i64_w, i32_w]
    rfl
  refine one_ (i := 1) (N := some 20) #[true, true, true, false, false, false, false, false, false, false, false, false, false, false, false, false, false, false, false, false, false, false, false] rfl rfl (by kernel_rfl) (by decide) (fun K hK => ?_)
  refine goes_ Tryd.func11 (by kernel_rfl) rfl #[.agg #[.slice AG G.length cG, .slice AA As.length cA, .slice AM Ms.length cM, .slice AT Ts.length cT]] (by rfl) rfl rfl (by simp only [List.map_toArray, List.map_cons, List.map_nil, Act.eval]; rfl) ?_
  refine (K11.out _ hHeld.2.2.2.2.2.2.2.2.2.2.2.2.2.out).mono ?_
  rintro q v1 ⟨rfl, hb⟩
  refine ⟨_, rfl, ?_⟩
  refine hK.out _ _ ⟨pw_cell_below hb hHeld.1, pw_cell_below hb hHeld.2.1, pw_cell_below hb hHeld.2.2.1, pw_cell_below hb hHeld.2.2.2.1, pw_cell_below hb hHeld.2.2.2.2.1, pw_cell_below hb hHeld.2.2.2.2.2.1, pw_cell_below hb hHeld.2.2.2.2.2.2.1, pw_cell_below hb hHeld.2.2.2.2.2.2.2.1, pw_cell_below hb hHeld.2.2.2.2.2.2.2.2.1, pw_cell_below hb hHeld.2.2.2.2.2.2.2.2.2.1, pw_cell_below hb hHeld.2.2.2.2.2.2.2.2.2.2.1, pw_cell_below hb hHeld.2.2.2.2.2.2.2.2.2.2.2.1, pw_cell_below hb hHeld.2.2.2.2.2.2.2.2.2.2.2.2.1, ⟨below_then hHeld.2.2.2.2.2.2.2.2.2.2.2.2.2.out hHeld.2.2.2.2.2.2.2.2.2.2.2.2.2.out.size hb⟩⟩ (fun hHeld => ?_)
  clear hK K
  refine norm_ (a' := ?_) ?_ ?_
  rotate_left
  · show Act.put _ (some 20) _ = _
    simp only [Act.put, List.setIfInBounds_toArray, List.set_cons_zero, List.set_cons_succ, i64_w, i32_w]
    rfl
  refine one_ (i := 3) (N := some 22) #[true, true, true, true, false, false, false, false, false, false, false, false, false, false, false, false, false, false, false, false, false, false, false] rfl rfl (by kernel_rfl) (by decide) (fun K hK => ?_)
  refine goes_ Tryd.func12 (by kernel_rfl) rfl #[.agg #[.slice AG G.length cG, .slice AA As.length cA, .slice AM Ms.length cM, .slice AT Ts.length cT]] (by rfl) rfl rfl (by simp only [List.map_toArray, List.map_cons, List.map_nil, Act.eval]; rfl) ?_
  refine (K12.out _ hHeld.2.2.2.2.2.2.2.2.2.2.2.2.2.out).mono ?_
  rintro q v2 ⟨rfl, hb⟩
  refine ⟨_, rfl, ?_⟩
  refine hK.out _ _ ⟨pw_cell_below hb hHeld.1, pw_cell_below hb hHeld.2.1, pw_cell_below hb hHeld.2.2.1, pw_cell_below hb hHeld.2.2.2.1, pw_cell_below hb hHeld.2.2.2.2.1, pw_cell_below hb hHeld.2.2.2.2.2.1, pw_cell_below hb hHeld.2.2.2.2.2.2.1, pw_cell_below hb hHeld.2.2.2.2.2.2.2.1, pw_cell_below hb hHeld.2.2.2.2.2.2.2.2.1, pw_cell_below hb hHeld.2.2.2.2.2.2.2.2.2.1, pw_cell_below hb hHeld.2.2.2.2.2.2.2.2.2.2.1, pw_cell_below hb hHeld.2.2.2.2.2.2.2.2.2.2.2.1, pw_cell_below hb hHeld.2.2.2.2.2.2.2.2.2.2.2.2.1, ⟨below_then hHeld.2.2.2.2.2.2.2.2.2.2.2.2.2.out hHeld.2.2.2.2.2.2.2.2.2.2.2.2.2.out.size hb⟩⟩ (fun hHeld => ?_)
  clear hK K
  refine norm_ (a' := ?_) ?_ ?_
  rotate_left
  · show Act.put _ (some 22) _ = _
    simp only [Act.put, List.setIfInBounds_toArray, List.set_cons_zero, List.set_cons_succ, i64_w, i32_w]
    rfl
  refine pure_ (i := 4) (N := some 23) (v := ?_) (a' := ?_) #[true, true, true, true, true, false, false, false, false, false, false, false, false, false, false, false, false, false, false, false, false, false, false] rfl rfl (by kernel_rfl) (fun _ _ _ h => h) (Or.inl ⟨by rfl, ?_⟩) ?_ ?_
  rotate_left
  · intro w'
    go_simp
    with_reducible rfl
  rotate_left
  · simp only [Act.put, List.setIfInBounds_toArray, List.set_cons_zero, List.set_cons_succ, i64_w, i32_w]
    rfl
  refine pure_ (i := 5) (N := some 24) (v := ?_) (a' := ?_) #[true, true, true, true, true, true, false, false, false, false, false, false, false, false, false, false, false, false, false, false, false, false, false] rfl rfl (by kernel_rfl) (fun _ _ _ h => h) (Or.inl ⟨by rfl, ?_⟩) ?_ ?_
  rotate_left
  · intro w'
    go_simp
    with_reducible rfl
  rotate_left
  · simp only [Act.put, List.setIfInBounds_toArray, List.set_cons_zero, List.set_cons_succ, i64_w, i32_w]
    rfl
  refine take_ (i := 6) (N := some 25) (v := ?_) (a' := ?_) #[true, true, true, true, true, true, true, false, false, false, false, false, false, false, false, false, false, false, false, false, false, false, false] rfl rfl (by kernel_rfl) (fun _ _ _ h => h) (Or.inl ⟨by rfl, ?_⟩) hHeld ?_ ?_
  rotate_left
  · rintro w' ⟨s0, s1, s2, s3, s4, s5, s6, s7, s8, s9, s10, s11, s12, s13⟩
    go_simp
    with_reducible rfl
  rotate_left
  · simp only [Act.put, List.setIfInBounds_toArray, List.set_cons_zero, List.set_cons_succ, i64_w, i32_w]
    rfl
  refine take_ (i := 8) (N := some 27) (v := ?_) (a' := ?_) #[true, true, true, true, true, true, true, false, true, false, false, false, false, false, false, false, false, false, false, false, false, false, false] rfl rfl (by kernel_rfl) (fun _ _ _ h => h) (Or.inl ⟨by rfl, ?_⟩) hHeld ?_ ?_
  rotate_left
  · rintro w' ⟨s0, s1, s2, s3, s4, s5, s6, s7, s8, s9, s10, s11, s12, s13⟩
    go_simp
    with_reducible rfl
  rotate_left
  · simp only [Act.put, List.setIfInBounds_toArray, List.set_cons_zero, List.set_cons_succ, i64_w, i32_w]
    rfl
  refine one_ (i := 7) (N := some 26) #[true, true, true, true, true, true, true, true, true, false, false, false, false, false, false, false, false, false, false, false, false, false, false] rfl rfl (by kernel_rfl) (by decide) (fun K hK => ?_)
  refine goes_ Tryd.func13 (by kernel_rfl) rfl #[.agg #[.int .i64 e.f0, .int .i64 e.f1, .int .i64 e.f2, .string e.f3, .slice A e.f4.length c]] (by rfl) rfl rfl (by simp only [List.map_toArray, List.map_cons, List.map_nil, Act.eval]; rfl) ?_
  refine (K13.out _ hHeld.2.2.2.2.2.2.2.2.2.2.2.2.2.out).mono ?_
  rintro q v3 ⟨rfl, hb⟩
  refine ⟨_, rfl, ?_⟩
  refine hK.out _ _ ⟨pw_cell_below hb hHeld.1, pw_cell_below hb hHeld.2.1, pw_cell_below hb hHeld.2.2.1, pw_cell_below hb hHeld.2.2.2.1, pw_cell_below hb hHeld.2.2.2.2.1, pw_cell_below hb hHeld.2.2.2.2.2.1, pw_cell_below hb hHeld.2.2.2.2.2.2.1, pw_cell_below hb hHeld.2.2.2.2.2.2.2.1, pw_cell_below hb hHeld.2.2.2.2.2.2.2.2.1, pw_cell_below hb hHeld.2.2.2.2.2.2.2.2.2.1, pw_cell_below hb hHeld.2.2.2.2.2.2.2.2.2.2.1, pw_cell_below hb hHeld.2.2.2.2.2.2.2.2.2.2.2.1, pw_cell_below hb hHeld.2.2.2.2.2.2.2.2.2.2.2.2.1, ⟨below_then hHeld.2.2.2.2.2.2.2.2.2.2.2.2.2.out hHeld.2.2.2.2.2.2.2.2.2.2.2.2.2.out.size hb⟩⟩ (fun hHeld => ?_)
  clear hK K
  refine norm_ (a' := ?_) ?_ ?_
  rotate_left
  · show Act.put _ (some 26) _ = _
    simp only [Act.put, List.setIfInBounds_toArray, List.set_cons_zero, List.set_cons_succ, i64_w, i32_w]
    rfl
  refine one_ (i := 9) (N := some 28) #[true, true, true, true, true, true, true, true, true, true, false, false, false, false, false, false, false, false, false, false, false, false, false] rfl rfl (by kernel_rfl) (by decide) (fun K hK => ?_)
  refine goes_ Tryd.func14 (by kernel_rfl) rfl #[.agg #[.int .i64 e.f0, .int .i64 e.f1, .int .i64 e.f2, .string e.f3, .slice A e.f4.length c]] (by rfl) rfl rfl (by simp only [List.map_toArray, List.map_cons, List.map_nil, Act.eval]; rfl) ?_
  refine (K14.out _ hHeld.2.2.2.2.2.2.2.2.2.2.2.2.2.out).mono ?_
  rintro q v4 ⟨rfl, hb⟩
  refine ⟨_, rfl, ?_⟩
  refine hK.out _ _ ⟨pw_cell_below hb hHeld.1, pw_cell_below hb hHeld.2.1, pw_cell_below hb hHeld.2.2.1, pw_cell_below hb hHeld.2.2.2.1, pw_cell_below hb hHeld.2.2.2.2.1, pw_cell_below hb hHeld.2.2.2.2.2.1, pw_cell_below hb hHeld.2.2.2.2.2.2.1, pw_cell_below hb hHeld.2.2.2.2.2.2.2.1, pw_cell_below hb hHeld.2.2.2.2.2.2.2.2.1, pw_cell_below hb hHeld.2.2.2.2.2.2.2.2.2.1, pw_cell_below hb hHeld.2.2.2.2.2.2.2.2.2.2.1, pw_cell_below hb hHeld.2.2.2.2.2.2.2.2.2.2.2.1, pw_cell_below hb hHeld.2.2.2.2.2.2.2.2.2.2.2.2.1, ⟨below_then hHeld.2.2.2.2.2.2.2.2.2.2.2.2.2.out hHeld.2.2.2.2.2.2.2.2.2.2.2.2.2.out.size hb⟩⟩ (fun hHeld => ?_)
  clear hK K
  refine norm_ (a' := ?_) ?_ ?_
  rotate_left
  · show Act.put _ (some 28) _ = _
    simp only [Act.put, List.setIfInBounds_toArray, List.set_cons_zero, List.set_cons_succ, i64_w, i32_w]
    rfl
  refine pure_ (i := 10) (N := some 29) (v := ?_) (a' := ?_) #[true, true, true, true, true, true, true, true, true, true, true, false, false, false, false, false, false, false, false, false, false, false, false] rfl rfl (by kernel_rfl) (fun _ _ _ h => h) (Or.inl ⟨by rfl, ?_⟩) ?_ ?_
  rotate_left
  · intro w'
    go_simp
    with_reducible rfl
  rotate_left
  · simp only [Act.put, List.setIfInBounds_toArray, List.set_cons_zero, List.set_cons_succ, i64_w, i32_w]
    rfl
  refine pure_ (i := 11) (N := some 30) (v := ?_) (a' := ?_) #[true, true, true, true, true, true, true, true, true, true, true, true, false, false, false, false, false, false, false, false, false, false, false] rfl rfl (by kernel_rfl) (fun _ _ _ h => h) (Or.inl ⟨by rfl, ?_⟩) ?_ ?_
  rotate_left
  · intro w'
    go_simp
    with_reducible rfl
  rotate_left
  · simp only [Act.put, List.setIfInBounds_toArray, List.set_cons_zero, List.set_cons_succ, i64_w, i32_w]
    rfl
  refine pure_ (i := 12) (N := some 31) (v := ?_) (a' := ?_) #[true, true, true, true, true, true, true, true, true, true, true, true, true, false, false, false, false, false, false, false, false, false, false] rfl rfl (by kernel_rfl) (fun _ _ _ h => h) (Or.inl ⟨by rfl, ?_⟩) ?_ ?_
  rotate_left
  · intro w'
    go_simp
    with_reducible rfl
  rotate_left
  · simp only [Act.put, List.setIfInBounds_toArray, List.set_cons_zero, List.set_cons_succ, i64_w, i32_w]
    rfl
  refine take_ (i := 13) (N := some 32) (v := ?_) (a' := ?_) #[true, true, true, true, true, true, true, true, true, true, true, true, true, true, false, false, false, false, false, false, false, false, false] rfl rfl (by kernel_rfl) (fun _ _ _ h => h) (Or.inl ⟨by rfl, ?_⟩) hHeld ?_ ?_
  rotate_left
  · rintro w' ⟨s0, s1, s2, s3, s4, s5, s6, s7, s8, s9, s10, s11, s12, s13⟩
    go_simp
    with_reducible rfl
  rotate_left
  · simp only [Act.put, List.setIfInBounds_toArray, List.set_cons_zero, List.set_cons_succ, i64_w, i32_w]
    rfl
  refine take_ (i := 15) (N := some 34) (v := ?_) (a' := ?_) #[true, true, true, true, true, true, true, true, true, true, true, true, true, true, false, true, false, false, false, false, false, false, false] rfl rfl (by kernel_rfl) (fun _ _ _ h => h) (Or.inl ⟨by rfl, ?_⟩) hHeld ?_ ?_
  rotate_left
  · rintro w' ⟨s0, s1, s2, s3, s4, s5, s6, s7, s8, s9, s10, s11, s12, s13⟩
    go_simp
    with_reducible rfl
  rotate_left
  · simp only [Act.put, List.setIfInBounds_toArray, List.set_cons_zero, List.set_cons_succ, i64_w, i32_w]
    rfl
  refine one_ (i := 14) (N := some 33) #[true, true, true, true, true, true, true, true, true, true, true, true, true, true, true, true, false, false, false, false, false, false, false] rfl rfl (by kernel_rfl) (by decide) (fun K hK => ?_)
  refine goes_ Tryd.func15 (by kernel_rfl) rfl #[.agg #[.int .i64 d.f0, .int .i64 d.f1, .slice A2 d.f2.length c2, .slice A3 d.f3.length c3]] (by rfl) rfl rfl (by simp only [List.map_toArray, List.map_cons, List.map_nil, Act.eval]; rfl) ?_
  refine (K15.out _ hHeld.2.2.2.2.2.2.2.2.2.2.2.2.2.out).mono ?_
  rintro q v5 ⟨rfl, hb⟩
  refine ⟨_, rfl, ?_⟩
  refine hK.out _ _ ⟨pw_cell_below hb hHeld.1, pw_cell_below hb hHeld.2.1, pw_cell_below hb hHeld.2.2.1, pw_cell_below hb hHeld.2.2.2.1, pw_cell_below hb hHeld.2.2.2.2.1, pw_cell_below hb hHeld.2.2.2.2.2.1, pw_cell_below hb hHeld.2.2.2.2.2.2.1, pw_cell_below hb hHeld.2.2.2.2.2.2.2.1, pw_cell_below hb hHeld.2.2.2.2.2.2.2.2.1, pw_cell_below hb hHeld.2.2.2.2.2.2.2.2.2.1, pw_cell_below hb hHeld.2.2.2.2.2.2.2.2.2.2.1, pw_cell_below hb hHeld.2.2.2.2.2.2.2.2.2.2.2.1, pw_cell_below hb hHeld.2.2.2.2.2.2.2.2.2.2.2.2.1, ⟨below_then hHeld.2.2.2.2.2.2.2.2.2.2.2.2.2.out hHeld.2.2.2.2.2.2.2.2.2.2.2.2.2.out.size hb⟩⟩ (fun hHeld => ?_)
  clear hK K
  refine norm_ (a' := ?_) ?_ ?_
  rotate_left
  · show Act.put _ (some 33) _ = _
    simp only [Act.put, List.setIfInBounds_toArray, List.set_cons_zero, List.set_cons_succ, i64_w, i32_w]
    rfl
  refine one_ (i := 16) (N := some 35) #[true, true, true, true, true, true, true, true, true, true, true, true, true, true, true, true, true, false, false, false, false, false, false] rfl rfl (by kernel_rfl) (by decide) (fun K hK => ?_)
  refine goes_ Tryd.func16 (by kernel_rfl) rfl #[.agg #[.int .i64 d.f0, .int .i64 d.f1, .slice A2 d.f2.length c2, .slice A3 d.f3.length c3]] (by rfl) rfl rfl (by simp only [List.map_toArray, List.map_cons, List.map_nil, Act.eval]; rfl) ?_
  refine (K16.out _ hHeld.2.2.2.2.2.2.2.2.2.2.2.2.2.out).mono ?_
  rintro q v6 ⟨rfl, hb⟩
  refine ⟨_, rfl, ?_⟩
  refine hK.out _ _ ⟨pw_cell_below hb hHeld.1, pw_cell_below hb hHeld.2.1, pw_cell_below hb hHeld.2.2.1, pw_cell_below hb hHeld.2.2.2.1, pw_cell_below hb hHeld.2.2.2.2.1, pw_cell_below hb hHeld.2.2.2.2.2.1, pw_cell_below hb hHeld.2.2.2.2.2.2.1, pw_cell_below hb hHeld.2.2.2.2.2.2.2.1, pw_cell_below hb hHeld.2.2.2.2.2.2.2.2.1, pw_cell_below hb hHeld.2.2.2.2.2.2.2.2.2.1, pw_cell_below hb hHeld.2.2.2.2.2.2.2.2.2.2.1, pw_cell_below hb hHeld.2.2.2.2.2.2.2.2.2.2.2.1, pw_cell_below hb hHeld.2.2.2.2.2.2.2.2.2.2.2.2.1, ⟨below_then hHeld.2.2.2.2.2.2.2.2.2.2.2.2.2.out hHeld.2.2.2.2.2.2.2.2.2.2.2.2.2.out.size hb⟩⟩ (fun hHeld => ?_)
  clear hK K
  refine norm_ (a' := ?_) ?_ ?_
  rotate_left
  · show Act.put _ (some 35) _ = _
    simp only [Act.put, List.setIfInBounds_toArray, List.set_cons_zero, List.set_cons_succ, i64_w, i32_w]
    rfl
  refine pure_ (i := 17) (N := some 36) (v := ?_) (a' := ?_) #[true, true, true, true, true, true, true, true, true, true, true, true, true, true, true, true, true, true, false, false, false, false, false] rfl rfl (by kernel_rfl) (fun _ _ _ h => h) (Or.inl ⟨by rfl, ?_⟩) ?_ ?_
  rotate_left
  · intro w'
    go_simp
    with_reducible rfl
  rotate_left
  · simp only [Act.put, List.setIfInBounds_toArray, List.set_cons_zero, List.set_cons_succ, i64_w, i32_w]
    rfl
  refine pure_ (i := 18) (N := some 37) (v := ?_) (a' := ?_) #[true, true, true, true, true, true, true, true, true, true, true, true, true, true, true, true, true, true, true, false, false, false, false] rfl rfl (by kernel_rfl) (fun _ _ _ h => h) (Or.inl ⟨by rfl, ?_⟩) ?_ ?_
  rotate_left
  · intro w'
    go_simp
    with_reducible rfl
  rotate_left
  · simp only [Act.put, List.setIfInBounds_toArray, List.set_cons_zero, List.set_cons_succ, i64_w, i32_w]
    rfl
  refine pure_ (i := 19) (N := some 38) (v := ?_) (a' := ?_) #[true, true, true, true, true, true, true, true, true, true, true, true, true, true, true, true, true, true, true, true, false, false, false] rfl rfl (by kernel_rfl) (fun _ _ _ h => h) (Or.inl ⟨by rfl, ?_⟩) ?_ ?_
  rotate_left
  · intro w'
    go_simp
    with_reducible rfl
  rotate_left
  · simp only [Act.put, List.setIfInBounds_toArray, List.set_cons_zero, List.set_cons_succ, i64_w, i32_w]
    rfl
  refine one_ (i := 20) (N := some 39) #[true, true, true, true, true, true, true, true, true, true, true, true, true, true, true, true, true, true, true, true, true, false, false] rfl rfl (by kernel_rfl) (by decide) (fun K hK => ?_)
  refine goes_ Tryd.func17 (by kernel_rfl) rfl #[] (by rfl) rfl rfl (by simp only [List.map_toArray, List.map_cons, List.map_nil, Act.eval]) ?_
  refine (H17.out _ hHeld.2.2.2.2.2.2.2.2.2.2.2.2.2.out).mono ?_
  rintro q v7 ⟨rfl, hb⟩
  refine ⟨_, rfl, ?_⟩
  refine hK.out _ _ ⟨pw_cell_below hb hHeld.1, pw_cell_below hb hHeld.2.1, pw_cell_below hb hHeld.2.2.1, pw_cell_below hb hHeld.2.2.2.1, pw_cell_below hb hHeld.2.2.2.2.1, pw_cell_below hb hHeld.2.2.2.2.2.1, pw_cell_below hb hHeld.2.2.2.2.2.2.1, pw_cell_below hb hHeld.2.2.2.2.2.2.2.1, pw_cell_below hb hHeld.2.2.2.2.2.2.2.2.1, pw_cell_below hb hHeld.2.2.2.2.2.2.2.2.2.1, pw_cell_below hb hHeld.2.2.2.2.2.2.2.2.2.2.1, pw_cell_below hb hHeld.2.2.2.2.2.2.2.2.2.2.2.1, pw_cell_below hb hHeld.2.2.2.2.2.2.2.2.2.2.2.2.1, ⟨below_then hHeld.2.2.2.2.2.2.2.2.2.2.2.2.2.out hHeld.2.2.2.2.2.2.2.2.2.2.2.2.2.out.size hb⟩⟩ (fun hHeld => ?_)
  clear hK K
  refine norm_ (a' := ?_) ?_ ?_
  rotate_left
  · show Act.put _ (some 39) _ = _
    simp only [Act.put, List.setIfInBounds_toArray, List.set_cons_zero, List.set_cons_succ, i64_w, i32_w]
    rfl
  refine pure_ (i := 21) (N := some 40) (v := ?_) (a' := ?_) #[true, true, true, true, true, true, true, true, true, true, true, true, true, true, true, true, true, true, true, true, true, true, false] rfl rfl (by kernel_rfl) (fun _ _ _ h => h) (Or.inl ⟨by rfl, ?_⟩) ?_ ?_
  rotate_left
  · intro w'
    go_simp
    with_reducible rfl
  rotate_left
  · simp only [Act.put, List.setIfInBounds_toArray, List.set_cons_zero, List.set_cons_succ, i64_w, i32_w]
    rfl
  refine pure_ (i := 22) (N := some 6) (v := ?_) (a' := ?_) #[true, true, true, true, true, true, true, true, true, true, true, true, true, true, true, true, true, true, true, true, true, true, true] rfl rfl (by kernel_rfl) (fun _ _ _ h => h) (Or.inl ⟨by rfl, ?_⟩) ?_ ?_
  rotate_left
  · intro w'
    go_simp
    with_reducible rfl
  rotate_left
  · simp only [Act.put, List.setIfInBounds_toArray, List.set_cons_zero, List.set_cons_succ, i64_w, i32_w]
    rfl
  refine done_ (by kernel_rfl) ?_
  go_wp2
  go_ret
  exact ⟨rfl, hHeld.2.2.2.2.2.2.2.2.2.2.2.2.2.out⟩
end Go.Proofs.YtfeaekdhpkdljaaDoor.Sh
