/- meddlerlaw6: what is no kind is told so. -/
import Derived.Test.YtfeaekdhpkdljaaDoorShKnown
namespace Go.Proofs.YtfeaekdhpkdljaaDoor.Sh
open Go.RowKit Go.Proofs.YtfeaekdhpkdljaaDoorW.PrintWords Go.Proofs.YtfeaekdhpkdljaaDoorW.PrintLast
set_option linter.unusedVariables false
set_option linter.unusedSimpArgs false
theorem expr_at (e : S30) (A : Option Addr) (c : Nat) (w : World) (hC : k30.C w A e.f4.length e.f4) (hc : e.f4.length ≤ c) (ht : Tab w) (ok : okE e) {s : ByteArray} (hs : exprS e = s) (hz : s.size ≤ 100) :
    Calls Tryd.prog 13 #[exprV e A c] w fun r w' => r = .returned (.string s) ∧ Below w.heap.size w w' := by
  subst hs
  exact expr_calls (SizeOf.sizeOf e) e A c w hC hc ht (Nat.le_refl _) ok (Nat.le_trans hz (by decide))
theorem cond_at (e : S33) (A2 A3 : Option Addr) (c2 c3 : Nat) (w : World) (hC2 : k30.C w A2 e.f2.length e.f2) (hc2 : e.f2.length ≤ c2) (hC3 : k33.C w A3 e.f3.length e.f3) (hc3 : e.f3.length ≤ c3) (ht : Tab w) (ok : okCs e) {s : ByteArray} (hs : condS e = s) (hz : s.size ≤ 100) :
    Calls Tryd.prog 15 #[condV e A2 c2 A3 c3] w fun r w' => r = .returned (.string s) ∧ Below w.heap.size w w' := by
  subst hs
  exact cond_calls (SizeOf.sizeOf e) e A2 A3 c2 c3 w hC2 hc2 hC3 hc3 ht (Nat.le_refl _) ok (Nat.le_trans hz (by decide))
def x1 : S30 := ⟨1, 0, 0, ⟨#[]⟩, []⟩
theorem okF_x1 : ∀ n, okF n x1
  | 0 => trivial
  | n + 1 => ⟨by decide, fun x hx => by cases hx⟩
theorem okF_two (k op : Int) : ∀ n, okF n ⟨k, 0, op, ⟨#[]⟩, [x1, x1]⟩
  | 0 => trivial
  | n + 1 => ⟨⟨by show (-9223372036854775808 : Int) ≤ 0; decide, by show (0 : Int) ≤ 9223372036854775807; decide⟩, fun x hx => by
    have : x = x1 := by simpa using hx
    rw [this]; exact okF_x1 n⟩
theorem itoa0 : itoaB 0 = ⟨#[48]⟩ := by
  first
    | rfl
    | (unfold itoaB Lib.itoa; rfl)
    | (simp [itoaB, Lib.itoa, Lib.decDigits]; done)
    | kernel_rfl
theorem exprF_x1 (n : Nat) : exprF (n + 1) x1 = ⟨#[48]⟩ := by
  rw [← itoa0]
  simp [exprF, x1]
theorem q_list : (⟨#[63]⟩ : ByteArray).toList = [63] := by first | rfl | (simp; done) | kernel_rfl
theorem okF_neg : ∀ n, okF n ⟨6, 0, 0, ⟨#[]⟩, []⟩
  | 0 => trivial
  | n + 1 => ⟨by decide, fun x hx => by cases hx⟩
theorem neg_none : exprS ⟨6, 0, 0, ⟨#[]⟩, []⟩ = (⟨#[63]⟩ : ByteArray) := by
  obtain ⟨m, hm⟩ := pos30 ⟨6, 0, 0, ⟨#[]⟩, []⟩
  unfold exprS
  rw [hm]
  simp [exprF]
theorem and_none : condS ⟨3, 0, [], [z33]⟩ = (⟨#[63]⟩ : ByteArray) := by
  obtain ⟨m, hm⟩ := pos33 ⟨3, 0, [], [z33]⟩
  unfold condS
  rw [hm]
  simp [condF]
theorem okC_and : ∀ n, okC n ⟨3, 0, [], [z33]⟩
  | 0 => trivial
  | n + 1 => ⟨fun x hx => (by cases hx), fun x hx => by
    have : x = z33 := by simpa using hx
    rw [this]; exact okC_z33 n⟩
theorem kind_none (k : Int) (h : ¬ (1 ≤ k ∧ k ≤ 8)) : exprS ⟨k, 0, 0, ⟨#[]⟩, [x1, x1]⟩ = (⟨#[63]⟩ : ByteArray) := by
  obtain ⟨m, hm⟩ := pos30 ⟨k, 0, 0, ⟨#[]⟩, [x1, x1]⟩
  unfold exprS
  rw [hm]
  simp only [exprF]
  rw [if_neg (by omega), if_neg (by omega), if_neg (by omega), if_neg (by omega), if_neg (by omega), if_neg (by omega)]
theorem cond_none (k : Int) (h : ¬ (1 ≤ k ∧ k ≤ 8)) : condS ⟨k, 0, [x1, x1], []⟩ = (⟨#[63]⟩ : ByteArray) := by
  obtain ⟨m, hm⟩ := pos33 ⟨k, 0, [x1, x1], []⟩
  unfold condS
  rw [hm]
  simp only [condF]
  rw [if_neg (by omega), if_neg (by omega), if_neg (by omega), if_neg (by omega), if_neg (by omega)]
theorem okC_two (k : Int) : ∀ n, okC n ⟨k, 0, [x1, x1], []⟩
  | 0 => trivial
  | n + 1 => ⟨fun x hx => by
    have : x = x1 := by simpa using hx
    rw [this]; exact okF_x1 _, fun x hx => by cases hx⟩
theorem bin_yes (op : Int) (h : 1 ≤ op ∧ op ≤ 5) : ∃ s, exprS ⟨5, 0, op, ⟨#[]⟩, [x1, x1]⟩ = s ∧ s.size ≤ 100 ∧ (s.toList == [63]) = false := by
  obtain ⟨m, hm⟩ := pos30 ⟨5, 0, op, ⟨#[]⟩, [x1, x1]⟩
  have hm2 : ∃ q, m = q + 1 := by
    simp only [S30.mk.sizeOf_spec, List.cons.sizeOf_spec] at hm
    exact ⟨m - 1, by omega⟩
  obtain ⟨q, rfl⟩ := hm2
  refine ⟨_, rfl, ?_⟩
  have he : exprS ⟨5, 0, op, ⟨#[]⟩, [x1, x1]⟩ = (((((⟨#[40]⟩ ++ (⟨#[48]⟩ : ByteArray)) ++ ⟨#[32]⟩) ++ opB op) ++ ⟨#[32]⟩) ++ (⟨#[48]⟩ : ByteArray)) ++ ⟨#[41]⟩ := by
    unfold exprS
    rw [hm]
    have e0 : rd_T30 [x1, x1] 0 = x1 := rfl
    have e1 : rd_T30 [x1, x1] 1 = x1 := rfl
    rw [show exprF (q + 1 + 1) ⟨5, 0, op, ⟨#[]⟩, [x1, x1]⟩ = (((((⟨#[40]⟩ ++ exprF (q + 1) (rd_T30 [x1, x1] 0)) ++ ⟨#[32]⟩) ++ opB op) ++ ⟨#[32]⟩) ++ exprF (q + 1) (rd_T30 [x1, x1] 1)) ++ ⟨#[41]⟩ from by
      conv => lhs; unfold exprF
      rw [if_neg (by simp), if_neg (by simp), if_neg (by simp), if_neg (by simp), if_pos ⟨rfl, by simp, h⟩]]
    rw [e0, e1, exprF_x1]
  rw [he]
  rcases (by omega : op = 1 ∨ op = 2 ∨ op = 3 ∨ op = 4 ∨ op = 5) with h | h | h | h | h <;> subst h <;> exact ⟨by decide, by rw [← q_list, ← beq_toListBytes]; decide⟩
theorem bin_no (op : Int) (h : ¬ (1 ≤ op ∧ op ≤ 5)) : exprS ⟨5, 0, op, ⟨#[]⟩, [x1, x1]⟩ = (⟨#[63]⟩ : ByteArray) := by
  obtain ⟨m, hm⟩ := pos30 ⟨5, 0, op, ⟨#[]⟩, [x1, x1]⟩
  unfold exprS
  rw [hm]
  simp only [exprF]
  rw [if_neg (by simp), if_neg (by simp), if_neg (by simp), if_neg (by simp), if_neg (fun hh => h hh.2.2), if_neg (by simp)]
theorem x1_one : ∀ q ∈ (#[.int .i64 1, .int .i64 0, .int .i64 0, .string ⟨#[]⟩, .slice none 0 0] : Array Value).toList, q.oneCell' = true := by
  intro q hq
  simp only [List.mem_cons, List.not_mem_nil, or_false] at hq
  rcases hq with h | h | h | h | h <;> subst h <;> rfl
theorem x1_K (w : World) : k30.K w x1 [.int .i64 1, .int .i64 0, .int .i64 0, .string ⟨#[]⟩, .slice none 0 0] := k30_mk w x1 (A4 := none) (c4 := 0) (Nat.le_refl _) (Kd.C_nil k30 w)
theorem x1_two (w : World) (g : Nat) (h : w.heap[g]? = some (.cells #[.int .i64 1, .int .i64 0, .int .i64 0, .string ⟨#[]⟩, .slice none 0 0, .int .i64 1, .int .i64 0, .int .i64 0, .string ⟨#[]⟩, .slice none 0 0] 30 (0, 0))) : k30.C w (some ⟨g, 0, none⟩) 2 [x1, x1] := C_two k30 w g x1 x1 _ _ 30 (x1_K w) rfl (x1_K w) rfl h
set_option maxHeartbeats 8000000 in
set_option maxRecDepth 100000 in
theorem none_kind (kind op : Int) (w : World) (ht : Tab w) (hk1 : (1 : Int) ≤ kind) (hk8 : kind ≤ 8) : Calls Tryd.prog 7 #[.int .i64 kind, .int .i64 op] w fun e w' => e = .returned (.bool true) ∧ Below w.heap.size w w' := by
  have HT := Aside0.mk ht
  clear ht
  go_enter Tryd.func7, Tryd.ntmps7
  go_wp2_with (first | ((with_reducible refine gate_dst (N := 5) rfl ?_); refine box_event ?hg (N := 5) ?hd (cs := #[.int .i64 0, .int .i64 0, .int .i64 0, .string ⟨#[]⟩, .slice none 0 0]) (t := 30) ?hr ?_; (case hd => rfl); (case hg => rfl); (case hr => first | (go_simp; done) | (go_simp; rfl)); intro gx hgg w1 hlit hb; have HB1 := Aside0.mk hb; have HZZ := Aside0.mk hlit; have HGA := Aside0.mk hgg; clear hlit hb hgg) | ((with_reducible refine gate_store (t := 30) (p := 5) rfl ?_); refine put_val ?hg ?hn 30 (.tmp 5) (.tmp 7) ?ho gx 30 _ (#[.int .i64 1, .int .i64 0, .int .i64 0, .string ⟨#[]⟩, .slice none 0 0]) (.agg #[.int .i64 1, .int .i64 0, .int .i64 0, .string ⟨#[]⟩, .slice none 0 0]) ?hp ?hx ?hu HZZ.out ?ht ?hs ?h1 ?_; (case hg => rfl); (case hn => rfl); (case ho => rfl); (case hp => rfl); (case hx => rfl); (case hu => rfl); (case ht => kernel_rfl); (case hs => rfl); (case h1 => exact x1_one); intro w2 hlit hg; have HX2 := Aside0.mk hlit; have HB2 := Aside0.mk (HB1.out.grown hg HB1.out.size (fun q hq => by injection hq with hq; rw [← hq, HGA.out]; exact Nat.le_refl _)); clear hlit hg))
  refine (expr_at ⟨6, 0, 0, ⟨#[]⟩, []⟩ none 0 w2 (Kd.C_nil k30 w2) (Nat.le_refl _) (tab_on HT.out HB2.out) (okF_neg _) neg_none (by decide)).mono ?_
  rintro e w3 ⟨rfl, hb⟩
  have HB3 := Aside0.mk (below_then HB2.out HB2.out.size hb)
  have HX3 := Aside0.mk (below_read hb HX2.out)
  clear hb
  go_wp2_with (first | ((with_reducible refine gate_dst (N := 19) rfl ?_); (try (refine gate_guard (by rfl) ?_; dsimp only)); refine lit_ev2 (n := 1) ?hg (N := 19) ?hd (cs := #[.int .i64 0, .int .i64 0, .slice none 0 0, .slice none 0 0]) (t := 33) ?hr ?_; (case hd => rfl); (case hg => rfl); (case hr => first | (go_simp; done) | (go_simp; rfl)); intro g4 hgg w4 hlit hb; have HB4 := Aside0.mk (below_then HB3.out HB3.out.size hb); have HX4 := Aside0.mk (below_read hb HX3.out); have HL4 := Aside0.mk hlit; clear hlit hb hgg))
  have HC := Aside0.mk (C_one k33 w4 g4 z33 _ 33 (k33_mk w4 z33 (A2 := none) (c2 := 0) (Nat.le_refl _) (Kd.C_nil k30 w4) (A3 := none) (c3 := 0) (Nat.le_refl _) (Kd.C_nil k33 w4)) rfl HL4.out)
  refine (cond_at ⟨3, 0, [], [z33]⟩ none (some ⟨g4, 0, none⟩) 0 1 w4 (Kd.C_nil k30 w4) (Nat.le_refl _) HC.out (Nat.le_refl _) (tab_on HT.out HB4.out) (okC_and _) and_none (by decide)).mono ?_
  rintro e w5 ⟨rfl, hb⟩
  have HB5 := Aside0.mk (below_then HB4.out HB4.out.size hb)
  have HX5 := Aside0.mk (below_read hb HX4.out)
  clear hb
  go_wp2_with fail
  refine (known17_calls w5 (tab_on HT.out HB5.out)).mono ?_
  rintro e w6 ⟨rfl, hb⟩
  have HB6 := Aside0.mk (below_then HB5.out HB5.out.size hb)
  have HX6 := Aside0.mk (below_read hb HX5.out)
  clear hb
  go_wp2_with fail
  go_ret
  exact ⟨rfl, HB6.out⟩
set_option maxHeartbeats 8000000 in
set_option maxRecDepth 100000 in
theorem none_rest (kind op : Int) (w : World) (ht : Tab w) (hk : kind < 1 ∨ 8 < kind) (s : ByteArray) (c : Bool) (hs : exprS ⟨5, 0, op, ⟨#[]⟩, [x1, x1]⟩ = s) (hz : s.size ≤ 100) (hc : (s.toList == [63]) = c) (hop : (c = false ∧ 1 ≤ op ∧ op ≤ 5) ∨ (c = true ∧ (op < 1 ∨ 5 < op))) : Calls Tryd.prog 7 #[.int .i64 kind, .int .i64 op] w fun e w' => e = .returned (.bool true) ∧ Below w.heap.size w w' := by
  have HT := Aside0.mk ht
  have hkk : ¬ (1 ≤ kind ∧ kind ≤ 8) := by omega
  have HKN := Aside0.mk (kind_none kind hkk)
  have HCN := Aside0.mk (cond_none kind hkk)
  have HS := Aside0.mk hs
  have HZ := Aside0.mk hz
  have HOP := Aside0.mk hop
  clear ht hkk hs hz hop
  go_enter Tryd.func7, Tryd.ntmps7
  rcases hk with hk | hk
  all_goals
    first
      | (have hk1 : ¬ (1 : Int) ≤ kind := by omega
         have hk8 : True := trivial)
      | (have hk1 : (1 : Int) ≤ kind := by omega
         have hk8 : ¬ kind ≤ 8 := by omega)
    clear hk
    go_wp2_with (first | ((with_reducible refine gate_dst (N := 5) rfl ?_); refine box_event ?hg (N := 5) ?hd (cs := #[.int .i64 0, .int .i64 0, .int .i64 0, .string ⟨#[]⟩, .slice none 0 0]) (t := 30) ?hr ?_; (case hd => rfl); (case hg => rfl); (case hr => first | (go_simp; done) | (go_simp; rfl)); intro gx hgg w1 hlit hb; have HB1 := Aside0.mk hb; have HZZ := Aside0.mk hlit; have HGA := Aside0.mk hgg; clear hlit hb hgg) | ((with_reducible refine gate_store (t := 30) (p := 5) rfl ?_); refine put_val ?hg ?hn 30 (.tmp 5) (.tmp 7) ?ho gx 30 _ (#[.int .i64 1, .int .i64 0, .int .i64 0, .string ⟨#[]⟩, .slice none 0 0]) (.agg #[.int .i64 1, .int .i64 0, .int .i64 0, .string ⟨#[]⟩, .slice none 0 0]) ?hp ?hx ?hu HZZ.out ?ht ?hs ?h1 ?_; (case hg => rfl); (case hn => rfl); (case ho => rfl); (case hp => rfl); (case hx => rfl); (case hu => rfl); (case ht => kernel_rfl); (case hs => rfl); (case h1 => exact x1_one); intro w2 hlit hg; have HX2 := Aside0.mk hlit; have HB2 := Aside0.mk (HB1.out.grown hg HB1.out.size (fun q hq => by injection hq with hq; rw [← hq, HGA.out]; exact Nat.le_refl _)); clear hlit hg) | ((with_reducible refine gate_dst (N := 28) rfl ?_); (try (refine gate_guard (by rfl) ?_; dsimp only)); refine wpList_load_row ?hg 30 (.tmp 5) ?ho gx ?hx 30 _ (0, 0) _ HX2.out Tryd.underlying30 ?hd ?hi ?_; (case hg => rfl); (case ho => rfl); (case hx => rfl); (case hd => rfl); (case hi => kernel_rfl)) | ((with_reducible refine gate_dst (N := 29) rfl ?_); (try (refine gate_guard (by rfl) ?_; dsimp only)); refine wpList_load_row ?hg 30 (.tmp 5) ?ho gx ?hx 30 _ (0, 0) _ HX2.out Tryd.underlying30 ?hd ?hi ?_; (case hg => rfl); (case ho => rfl); (case hx => rfl); (case hd => rfl); (case hi => kernel_rfl)) | ((with_reducible refine gate_dst (N := 30) rfl ?_); (try (refine gate_guard (by rfl) ?_; dsimp only)); refine lit_ev2 (n := 2) ?hg (N := 30) ?hd (cs := #[.int .i64 1, .int .i64 0, .int .i64 0, .string ⟨#[]⟩, .slice none 0 0, .int .i64 1, .int .i64 0, .int .i64 0, .string ⟨#[]⟩, .slice none 0 0]) (t := 30) ?hr ?_; (case hd => rfl); (case hg => rfl); (case hr => first | (go_simp; done) | (go_simp; rfl)); intro g3 hgg w3 hlit hb; have HB3 := Aside0.mk (below_then HB2.out HB2.out.size hb); have HX3 := Aside0.mk (below_read hb HX2.out); have HL3 := Aside0.mk hlit; clear hlit hb hgg))
    refine (expr_at ⟨5, 0, op, ⟨#[]⟩, [x1, x1]⟩ (some ⟨g3, 0, none⟩) 2 w3 (x1_two w3 g3 HL3.out) (Nat.le_refl _) (tab_on HT.out HB3.out) (okF_two 5 op _) HS.out HZ.out).mono ?_
    rintro e w4 ⟨rfl, hb⟩
    have HB4 := Aside0.mk (below_then HB3.out HB3.out.size hb)
    have HX4 := Aside0.mk (below_read hb HX3.out)
    clear hb
    go_wp2_with (first | ((with_reducible refine gate_dst (N := 34) rfl ?_); (try (refine gate_guard (by rfl) ?_; dsimp only)); refine wpList_load_row ?hg 30 (.tmp 5) ?ho gx ?hx 30 _ (0, 0) _ HX4.out Tryd.underlying30 ?hd ?hi ?_; (case hg => rfl); (case ho => rfl); (case hx => rfl); (case hd => rfl); (case hi => kernel_rfl)) | ((with_reducible refine gate_dst (N := 35) rfl ?_); (try (refine gate_guard (by rfl) ?_; dsimp only)); refine wpList_load_row ?hg 30 (.tmp 5) ?ho gx ?hx 30 _ (0, 0) _ HX4.out Tryd.underlying30 ?hd ?hi ?_; (case hg => rfl); (case ho => rfl); (case hx => rfl); (case hd => rfl); (case hi => kernel_rfl)) | ((with_reducible refine gate_dst (N := 36) rfl ?_); (try (refine gate_guard (by rfl) ?_; dsimp only)); refine lit_ev2 (n := 2) ?hg (N := 36) ?hd (cs := #[.int .i64 1, .int .i64 0, .int .i64 0, .string ⟨#[]⟩, .slice none 0 0, .int .i64 1, .int .i64 0, .int .i64 0, .string ⟨#[]⟩, .slice none 0 0]) (t := 30) ?hr ?_; (case hd => rfl); (case hg => rfl); (case hr => first | (go_simp; done) | (go_simp; rfl)); intro g5 hgg w5 hlit hb; have HB5 := Aside0.mk (below_then HB4.out HB4.out.size hb); have HX5 := Aside0.mk (below_read hb HX4.out); have HL5 := Aside0.mk hlit; clear hlit hb hgg))
    refine (expr_at ⟨kind, 0, 0, ⟨#[]⟩, [x1, x1]⟩ (some ⟨g5, 0, none⟩) 2 w5 (x1_two w5 g5 HL5.out) (Nat.le_refl _) (tab_on HT.out HB5.out) (okF_two kind 0 _) HKN.out (by decide)).mono ?_
    rintro e w6 ⟨rfl, hb⟩
    have HB6 := Aside0.mk (below_then HB5.out HB5.out.size hb)
    have HX6 := Aside0.mk (below_read hb HX5.out)
    clear hb
    go_wp2_with (first | ((with_reducible refine gate_dst (N := 42) rfl ?_); (try (refine gate_guard (by rfl) ?_; dsimp only)); refine wpList_load_row ?hg 30 (.tmp 5) ?ho gx ?hx 30 _ (0, 0) _ HX6.out Tryd.underlying30 ?hd ?hi ?_; (case hg => rfl); (case ho => rfl); (case hx => rfl); (case hd => rfl); (case hi => kernel_rfl)) | ((with_reducible refine gate_dst (N := 43) rfl ?_); (try (refine gate_guard (by rfl) ?_; dsimp only)); refine wpList_load_row ?hg 30 (.tmp 5) ?ho gx ?hx 30 _ (0, 0) _ HX6.out Tryd.underlying30 ?hd ?hi ?_; (case hg => rfl); (case ho => rfl); (case hx => rfl); (case hd => rfl); (case hi => kernel_rfl)) | ((with_reducible refine gate_dst (N := 44) rfl ?_); (try (refine gate_guard (by rfl) ?_; dsimp only)); refine lit_ev2 (n := 2) ?hg (N := 44) ?hd (cs := #[.int .i64 1, .int .i64 0, .int .i64 0, .string ⟨#[]⟩, .slice none 0 0, .int .i64 1, .int .i64 0, .int .i64 0, .string ⟨#[]⟩, .slice none 0 0]) (t := 30) ?hr ?_; (case hd => rfl); (case hg => rfl); (case hr => first | (go_simp; done) | (go_simp; rfl)); intro g7 hgg w7 hlit hb; have HB7 := Aside0.mk (below_then HB6.out HB6.out.size hb); have HX7 := Aside0.mk (below_read hb HX6.out); have HL7 := Aside0.mk hlit; clear hlit hb hgg))
    refine (cond_at ⟨kind, 0, [x1, x1], []⟩ (some ⟨g7, 0, none⟩) none 2 0 w7 (x1_two w7 g7 HL7.out) (Nat.le_refl _) (Kd.C_nil k33 w7) (Nat.le_refl _) (tab_on HT.out HB7.out) (okC_two kind _) HCN.out (by decide)).mono ?_
    rintro e w8 ⟨rfl, hb⟩
    have HB8 := Aside0.mk (below_then HB7.out HB7.out.size hb)
    have HX8 := Aside0.mk (below_read hb HX7.out)
    clear hb
    rcases HOP.out with ⟨rfl, h1, h5⟩ | ⟨rfl, h1 | h5⟩
    all_goals
      first
        | (have ho1 : ¬ op < 1 := by omega
           have ho5 : ¬ 5 < op := by omega)
        | (have ho1 : op < 1 := by omega
           have ho5 : True := trivial)
        | (have ho1 : ¬ op < 1 := by omega
           have ho5 : 5 < op := by omega)
      try clear h1
      try clear h5
      go_wp2_with fail
      refine (known17_calls w8 (tab_on HT.out HB8.out)).mono ?_
      rintro e w9 ⟨rfl, hb⟩
      have HB9 := Aside0.mk (below_then HB8.out HB8.out.size hb)
      have HX9 := Aside0.mk (below_read hb HX8.out)
      clear hb
      go_wp2_with fail
      go_ret
      exact ⟨by first | rfl | (have e : (!decide (op < 1) && !decide (5 < op)) = true := (by (simp; omega)); exact congrArg (fun b => Ending.returned (Value.bool b)) e), HB9.out⟩
theorem ShowNone_calls (kind op : Int) (w : World) (ht : Tab w) : Calls Tryd.prog 7 #[.int .i64 kind, .int .i64 op] w fun e w' => e = .returned (.bool true) ∧ Below w.heap.size w w' := by
  by_cases hk : 1 ≤ kind ∧ kind ≤ 8
  · exact none_kind kind op w ht hk.1 hk.2
  · by_cases ho : 1 ≤ op ∧ op ≤ 5
    · obtain ⟨s, hs, hz, hl⟩ := bin_yes op ho
      exact none_rest kind op w ht (by omega) s false hs hz hl (.inl ⟨rfl, ho⟩)
    · exact none_rest kind op w ht (by omega) (⟨#[63]⟩ : ByteArray) true (bin_no op ho) (by decide) (by rw [q_list]; rfl) (.inr ⟨rfl, by omega⟩)
end Go.Proofs.YtfeaekdhpkdljaaDoor.Sh
