/- meddlerlaw6.known: a thread that skips, printed. -/
import Derived.Test.YtfeaekdhpkdljaaDoorShPrint
import Derived.Laws.StructEq
namespace Go.Proofs.YtfeaekdhpkdljaaDoor.Sh
open Go.RowKit Go.Proofs.YtfeaekdhpkdljaaDoorW.PrintWords Go.Proofs.YtfeaekdhpkdljaaDoorW.PrintLast
set_option linter.unusedVariables false
set_option linter.unusedSimpArgs false
theorem C_one {α : Type} (d : Kd α) (w : World) (g : Nat) (x : α) (cs : List Value) (t : TypeId) (hk : d.K w x cs) (hl : cs.length = d.sz) (h : w.heap[g]? = some (.cells cs.toArray t (0, 0))) : Kd.C d w (some ⟨g, 0, none⟩) 1 [x] := by
  refine ⟨rfl, by decide, fun _ => ⟨_, rfl, fun j p hp => ⟨cs, hl, ?_, fun i u hu => ?_⟩⟩⟩
  · have hj : j = 0 := by
      have := (List.getElem?_eq_some_iff.1 hp).1
      simp at this; omega
    subst hj
    have : x = p := by simpa using hp
    subst this
    exact hk
  · have hj : j = 0 := by
      have := (List.getElem?_eq_some_iff.1 hp).1
      simp at this; omega
    subst hj
    rw [add_plain]
    refine (blk_cell h _).trans ?_
    simpa using hu
theorem C_two {α : Type} (d : Kd α) (w : World) (g : Nat) (x y : α) (cs ds : List Value) (t : TypeId) (hk : d.K w x cs) (hl : cs.length = d.sz) (hk2 : d.K w y ds) (hl2 : ds.length = d.sz) (h : w.heap[g]? = some (.cells (cs ++ ds).toArray t (0, 0))) : Kd.C d w (some ⟨g, 0, none⟩) 2 [x, y] := by
  refine ⟨rfl, by decide, fun _ => ⟨_, rfl, fun j p hp => ?_⟩⟩
  have hj : j < 2 := (List.getElem?_eq_some_iff.1 hp).1
  rcases (by omega : j = 0 ∨ j = 1) with hj | hj <;> subst hj
  · have : x = p := by simpa using hp
    subst this
    refine ⟨cs, hl, hk, fun i u hu => ?_⟩
    rw [add_plain]
    refine (blk_cell h _).trans ?_
    have hi := (List.getElem?_eq_some_iff.1 hu).1
    simp only [Nat.zero_mul, Nat.zero_add, List.getElem?_toArray]
    rw [List.getElem?_append_left hi]
    exact hu
  · have : y = p := by simpa using hp
    subst this
    refine ⟨ds, hl2, hk2, fun i u hu => ?_⟩
    rw [add_plain]
    refine (blk_cell h _).trans ?_
    simp only [Nat.one_mul, List.getElem?_toArray]
    rw [← hl, List.getElem?_append_right (by omega)]
    simpa using hu
theorem pos30 (e : S30) : ∃ m, SizeOf.sizeOf e = m + 1 := by
  obtain ⟨a, b, c, d, l⟩ := e
  exact ⟨_, by simp only [S30.mk.sizeOf_spec]; rw [Nat.add_assoc, Nat.add_assoc, Nat.add_assoc, Nat.add_assoc, Nat.add_comm]⟩
theorem pos33 (e : S33) : ∃ m, SizeOf.sizeOf e = m + 1 := by
  obtain ⟨a, b, c, d⟩ := e
  exact ⟨_, by simp only [S33.mk.sizeOf_spec]; rw [Nat.add_assoc, Nat.add_assoc, Nat.add_assoc, Nat.add_comm]⟩
theorem posL {α : Type} [SizeOf α] (l : List α) : ∃ m, SizeOf.sizeOf l = m + 1 := by
  cases l with
  | nil => exact ⟨0, rfl⟩
  | cons a l => exact ⟨SizeOf.sizeOf a + SizeOf.sizeOf l, by simp only [List.cons.sizeOf_spec]; omega⟩
theorem okF_z30 : ∀ n, okF n z30
  | 0 => trivial
  | n + 1 => ⟨by decide, fun x hx => by cases hx⟩
theorem okC_z33 : ∀ n, okC n z33
  | 0 => trivial
  | n + 1 => ⟨fun x hx => (by cases hx), fun x hx => by cases hx⟩
def skS : S54 := ⟨8, ⟨#[]⟩, z30, z30, z33, [], []⟩
def skT : S52 := ⟨⟨#[116]⟩, [], [skS]⟩
theorem okSt_sk : ∀ n, okSt n skS
  | 0 => trivial
  | n + 1 => ⟨okF_z30 _, okF_z30 _, okC_z33 _, fun x hx => (by cases hx), fun x hx => by cases hx⟩
theorem skT_text : (⟨(printF [] [] [] [skT]).toArray⟩ : ByteArray) = ⟨#[116, 104, 114, 101, 97, 100, 32, 116, 32, 123, 10, 115, 107, 105, 112, 59, 10, 125, 10]⟩ := by
  have h : printF [] [] [] [skT] = [116, 104, 114, 101, 97, 100, 32, 116, 32, 123, 10, 115, 107, 105, 112, 59, 10, 125, 10] := by
    obtain ⟨m, hm⟩ := posL [skS]
    have hs : stmtF (m + 1) skS = lineL [(⟨#[115, 107, 105, 112, 59]⟩ : ByteArray)] := by
      simp only [stmtF]
      rw [if_neg (by decide), if_neg (by decide), if_neg (by decide), if_neg (by decide), if_neg (by decide), if_neg (by decide), if_neg (by decide), if_pos (by decide)]
    have ht : thrF skT = lineL [(⟨#[116, 104, 114, 101, 97, 100, 32]⟩ : ByteArray), ⟨#[116]⟩, (⟨#[32, 123]⟩ : ByteArray)] ++ ([] ++ (([skS].flatMap (stmtF (SizeOf.sizeOf [skS]))) ++ lineL [(⟨#[125]⟩ : ByteArray)])) := rfl
    show ([] : List UInt8) ++ ([] ++ ([] ++ [skT].flatMap thrF)) = _
    simp only [List.flatMap_cons, List.flatMap_nil, List.nil_append, List.append_nil, ht, hm, hs]
    rfl
  rw [h]
set_option maxHeartbeats 8000000 in
set_option maxRecDepth 100000 in
theorem known17_calls (w : World) (ht : Tab w) : Calls Tryd.prog 17 #[] w fun e w' => e = .returned (.bool true) ∧ Below w.heap.size w w' := by
  have HT := Aside0.mk ht
  clear ht
  go_enter Tryd.func17, Tryd.ntmps17
  go_wp2_with (first | ((with_reducible refine gate_dst (N := 2) rfl ?_); refine lit_ev2 (n := 1) ?hg (N := 2) ?hd (cs := #[.int .i64 8, .string ⟨#[]⟩, .int .i64 0, .int .i64 0, .int .i64 0, .string ⟨#[]⟩, .slice none 0 0, .int .i64 0, .int .i64 0, .int .i64 0, .string ⟨#[]⟩, .slice none 0 0, .int .i64 0, .int .i64 0, .slice none 0 0, .slice none 0 0, .slice none 0 0, .slice none 0 0]) (t := 54) ?hr ?_; (case hd => rfl); (case hg => rfl); (case hr => first | (go_simp; done) | (go_simp; rfl)); intro g1 hgg w1 hlit hb; have HL1 := Aside0.mk hlit; have HB1 := Aside0.mk hb; clear hlit hb hgg) | ((with_reducible refine gate_dst (N := 4) rfl ?_); refine lit_ev2 (n := 1) ?hg (N := 4) ?hd (cs := #[.string ⟨#[116]⟩, .slice none 0 0, .slice (some ⟨g1, 0, none⟩) 1 1]) (t := 52) ?hr ?_; (case hd => rfl); (case hg => rfl); (case hr => first | (go_simp; done) | (go_simp; rfl)); intro g2 hgg w2 hlit hb; have HL2 := Aside0.mk hlit; have HB2 := Aside0.mk hb; clear hlit hb hgg))
  have HS := Aside0.mk (C_one k54 w2 g1 skS _ 54 (k54_mk w2 skS (Nat.le_refl _) (Kd.C_nil k30 w2) (Nat.le_refl _) (Kd.C_nil k30 w2) (Nat.le_refl _) (Kd.C_nil k30 w2) (Nat.le_refl _) (Kd.C_nil k33 w2) (Nat.le_refl _) (Kd.C_nil k54 w2) (Nat.le_refl _) (Kd.C_nil k54 w2)) rfl (below_read HB2.out HL1.out))
  have HC := Aside0.mk (C_one k52 w2 g2 skT _ 52 (k52_mk w2 skT (A1 := none) (c1 := 0) (Nat.le_refl _) (Kd.C_nil Kd.string w2) (A2 := some ⟨g1, 0, none⟩) (c2 := 1) (Nat.le_refl _) HS.out) rfl HL2.out)
  have HP := Aside0.mk (print_calls w2 [] [] [] [skT] none none none (some ⟨g2, 0, none⟩) 0 0 0 1 (Kd.C_nil k59 w2) (Kd.C_nil k61 w2) (Kd.C_nil Kd.string w2) HC.out (tab_on HT.out (below_then HB1.out HB1.out.size HB2.out)) (fun g hg => by cases hg) (fun g hg => by cases hg) (fun t ht s hs => by
    obtain rfl := List.mem_singleton.1 ht
    obtain rfl := List.mem_singleton.1 hs
    exact okSt_sk _) (by have h := congrArg (fun b : ByteArray => b.data.size) skT_text; simp at h; rw [h]; decide))
  rw [skT_text] at HP
  refine HP.out.mono ?_
  rintro e w3 ⟨rfl, hb⟩
  have HB3 := Aside0.mk (below_then (below_then HB1.out HB1.out.size HB2.out) (below_then HB1.out HB1.out.size HB2.out).size hb)
  clear hb
  go_wp2_with fail
  go_ret
  exact ⟨rfl, HB3.out⟩
end Go.Proofs.YtfeaekdhpkdljaaDoor.Sh
