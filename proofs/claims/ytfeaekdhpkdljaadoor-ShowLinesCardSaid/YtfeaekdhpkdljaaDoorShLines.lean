/- meddlerlaw6.ShowLines: the program is built. -/
import Derived.Test.YtfeaekdhpkdljaaDoorShTb
import Derived.Deep.DeepCutAuto
import Derived.Deep.CutBlock
namespace Go.Proofs.YtfeaekdhpkdljaaDoor.Sh
open Go.RowKit Go.Proofs.YtfeaekdhpkdljaaDoorW.PrintWords Go.Proofs.YtfeaekdhpkdljaaDoorW.PrintLast
set_option linter.unusedVariables false
set_option linter.unusedSimpArgs false
theorem info59 : (Tryd.prog.info? 59).map (fun i => (i.zero, i.size, i.bytes)) = some (some (.agg #[.string ⟨#[]⟩, .int .i64 0]), 2, 24) := by kernel_rfl
theorem info61 : (Tryd.prog.info? 61).map (fun i => (i.zero, i.size, i.bytes)) = some (some (.agg #[.string ⟨#[]⟩, .int .i64 0]), 2, 24) := by kernel_rfl
theorem rep_snoc {α : Type} (i : Nat) (x : α) : List.replicate i x ++ [x] = List.replicate (i + 1) x := by rw [List.replicate_succ']
theorem three_one (gv : Nat) : ∀ q ∈ (#[.string ⟨#[116]⟩, .slice (some ⟨gv, 0, none⟩) 1 1, .slice none 0 0] : Array Value).toList, q.oneCell' = true := by
  intro q hq
  simp only [List.mem_cons, List.not_mem_nil, or_false] at hq
  rcases hq with h | h | h <;> subst h <;> rfl
theorem fresh_ne {α : Type} {d : Kd α} {e base : Nat} {w w1 : World} {ok : Nat → Prop} {v : Value} {xs : List α} (h : Kd.N d e w base ok v xs) {g : Nat} (hg : g = w.heap.size) : some g ≠ v.ownBlock := fun e1 => by
  have := Kd.N_lt h g e1.symm
  omega
theorem four_one : ∀ q ∈ (#[.slice none 0 0, .slice none 0 0, .slice none 0 0, .slice none 0 0] : Array Value).toList, q.oneCell' = true := by
  intro q hq
  simp only [List.mem_cons, List.not_mem_nil, or_false] at hq
  rcases hq with h | h | h | h <;> subst h <;> rfl
set_option maxHeartbeats 8000000 in
set_option maxRecDepth 100000 in
theorem lines_in (g a m : Nat) (A : Option Addr) (c : Nat) (l : List Int) (w0 : World) (hC : Kd.C (Kd.int .i64) w0 A l.length l) (ht : Tab w0) (hg : g ≤ 6) (ha : a ≤ 3) (hm : m ≤ 6) (hl : l.length ≤ 4) :
    Calls Tryd.prog 6 #[.int .i64 (g : Int), .int .i64 (a : Int), .int .i64 (m : Int), .slice A l.length c] w0 fun e w' => e = .returned (.bool true) ∧ Below w0.heap.size w0 w' := by
  have HCL := Aside0.mk hC
  have HTB := Aside0.mk ht
  clear hC ht
  go_enter Tryd.func6, Tryd.ntmps6
  go_upto_block 0 with (first | ((with_reducible refine gate_dst (N := 9) rfl ?_); refine box_event ?hg (N := 9) ?hd (cs := #[.slice none 0 0, .slice none 0 0, .slice none 0 0, .slice none 0 0]) (t := 27) ?hr ?_; (case hd => rfl); (case hg => rfl); (case hr => first | (go_simp; done) | (go_simp; rfl)); intro b hgg w1 hlit hb; have HZZ := Aside0.mk hlit; have HGA := Aside0.mk hgg; have HB1 := Aside0.mk hb; clear hlit hb hgg) | ((with_reducible refine gate_store (t := 27) (p := 9) rfl ?_); refine put_val ?hg ?hn 27 (.tmp 9) (.tmp 47) ?ho b 27 _ (#[.slice none 0 0, .slice none 0 0, .slice none 0 0, .slice none 0 0]) (.agg #[.slice none 0 0, .slice none 0 0, .slice none 0 0, .slice none 0 0]) ?hp ?hx ?hu HZZ.out ?ht ?hs ?h1 ?_; (case hg => rfl); (case hn => rfl); (case ho => rfl); (case hp => rfl); (case hx => rfl); (case hu => rfl); (case ht => kernel_rfl); (case hs => rfl); (case h1 => exact four_one); intro w2 hlit hg; have HP := Aside0.mk (Pl.start hlit (HB1.out.grown hg HB1.out.size (fun q hq => by injection hq with hq; rw [← hq, HGA.out]; exact Nat.le_refl _)) (by rw [HGA.out]; exact Nat.le_refl _)).1; clear hlit hg))
  go_cut [11] (fun sx wx => ∃ vG, Aside0 (Pl w0 b (List.replicate g gL) [] [] vG (.slice none 0 0) (.slice none 0 0) (.slice none 0 0) wx))
  case first =>
    go_wp2_with fail
    go_loopg [11] g (fun gg sx wr => ∃ i : Nat, i ≤ g ∧ g - i ≤ gg ∧ sx = .int .i64 i ∧ ∃ vG, Aside0 (Pl w0 b (List.replicate i gL) [] [] vG (.slice none 0 0) (.slice none 0 0) (.slice none 0 0) wr))
    case atStart => exact ⟨0, Nat.zero_le _, by omega, rfl, _, HP⟩
    case round =>
      obtain ⟨i, hi, hgg, rfl, vG, HL⟩ := hrel
      generalize wr = wo at *
      by_cases hlt : i < g
      · have hltz : (i : Int) < (g : Int) := by omega
        have hy0 : wo.cell? ⟨b, 0, none⟩ = some vG := (blk_cell HL.out.cells 0).trans rfl
        go_wp2_with (first | ((with_reducible refine gate_dst (N := 61) rfl ?_); refine lit_ev2 (n := 1) ?hg (N := 61) ?hd (cs := #[.string ⟨#[103]⟩, .int .i64 0]) (t := 59) ?hr ?_; (case hd => rfl); (case hg => rfl); (case hr => first | (go_simp; done) | (go_simp; rfl)); intro g1 hgg w1 hlit hb; have HL1 := Aside0.mk hlit; have HQ := Aside0.mk (HL.out.to hb); have HNE := Aside0.mk (fresh_ne (w1 := w1) HL.out.nG hgg); clear hlit hb hgg) | ((with_reducible refine gate_dst (N := 62) rfl ?_); refine Kd.N_append_rows k59 (w0 := w0) w0.heap.size ?hg (.tmp 59) (.tmp 61) 22 59 (.agg #[.string ⟨#[]⟩, .int .i64 0]) 24 ?ho ?ht ?hi ?hz ?h0 ?hb0 vG (List.replicate i gL) [gL] (some ⟨g1, 0, none⟩) 1 1 (fun _ => True) (fun k => False ∨ k = g1) ?hs ?hx ?hN ?hF ?hk ?hf ?hB ?hbase ?hl ?_; (case hg => rfl); (case ho => rfl); (case ht => exact Tryd.underlying22); (case hi => exact info59); (case hz => rfl); (case h0 => decide); (case hb0 => decide); (case hs => rfl); (case hx => rfl); (case hN => exact Kd.N_mono HQ.out.nG (fun _ _ => trivial)); (case hF => exact F_one k59 (k59_mkF w1 _ gL) rfl HL1.out); (case hk => exact fun k hk => ⟨trivial, by rcases hk with hk | hk; exact hk.elim; subst hk; exact HNE.out⟩); (case hf => exact fun _ _ => trivial); (case hB => exact HQ.out.below); (case hbase => exact HQ.out.below.size); (case hl => simp only [List.length_replicate]; omega); intro v1 w2 hn hb2 hg2 hat; obtain ⟨A2, c2, rfl⟩ := Kd.N_slice hn; have hc2 := keep27 HQ.out.cells (fun k hk => Kd.N_typed HQ.out.nG k hk) (by decide) hg2; have HP2 := Aside0.mk (HQ.out.pushG hn hg2); have hz0 : w2.cell? ⟨b, 0, none⟩ = some vG := (blk_cell hc2 0).trans rfl; have hf0 : w2.frozen? ⟨b, 0, none⟩ = false := blk_frozen hc2 0; clear hn hb2 hg2 hat hc2))
        go_roundg (g - (i + 1))
        case measure => omega
        case rel => exact ⟨i + 1, by omega, by omega, by go_num, _, ⟨by have h := HP2.out; rw [rep_snoc] at h; simp only [List.length_replicate] at h; exact h⟩⟩
      · have hltz : ¬ (i : Int) < (g : Int) := by omega
        have he : i = g := by omega
        subst he
        clear hlt
        go_wp2_with fail
        go_meet
        exact ⟨vG, HL⟩
  case rest =>
    clear HP
    have HC := hcut
    clear hcut
    obtain ⟨vG, HP⟩ := HC
    generalize wc = wk0 at *
    go_upto_block 2 with fail
    go_cut [12] (fun sx wx => ∃ vA, Aside0 (Pl w0 b (List.replicate g gL) (List.replicate a aL) [] vG vA (.slice none 0 0) (.slice none 0 0) wx))
    case first =>
      go_wp2_with fail
      go_loopg [12] a (fun gg sx wr => ∃ i : Nat, i ≤ a ∧ a - i ≤ gg ∧ sx = .int .i64 i ∧ ∃ vA, Aside0 (Pl w0 b (List.replicate g gL) (List.replicate i aL) [] vG vA (.slice none 0 0) (.slice none 0 0) wr))
      case atStart => exact ⟨0, Nat.zero_le _, by omega, rfl, _, HP⟩
      case round =>
        obtain ⟨i, hi, hgg, rfl, vA, HL⟩ := hrel
        generalize wr = wo at *
        by_cases hlt : i < a
        · have hltz : (i : Int) < (a : Int) := by omega
          have hy0 : wo.cell? ⟨b, 1, none⟩ = some vA := (blk_cell HL.out.cells 1).trans rfl
          go_wp2_with (first | ((with_reducible refine gate_dst (N := 72) rfl ?_); refine lit_ev2 (n := 1) ?hg (N := 72) ?hd (cs := #[.string ⟨#[97]⟩, .int .i64 0]) (t := 61) ?hr ?_; (case hd => rfl); (case hg => rfl); (case hr => first | (go_simp; done) | (go_simp; rfl)); intro g1 hgg w1 hlit hb; have HL1 := Aside0.mk hlit; have HQ := Aside0.mk (HL.out.to hb); have HNE := Aside0.mk (fresh_ne (w1 := w1) HL.out.nA hgg); clear hlit hb hgg) | ((with_reducible refine gate_dst (N := 73) rfl ?_); refine Kd.N_append_rows k61 (w0 := w0) w0.heap.size ?hg (.tmp 70) (.tmp 72) 23 61 (.agg #[.string ⟨#[]⟩, .int .i64 0]) 24 ?ho ?ht ?hi ?hz ?h0 ?hb0 vA (List.replicate i aL) [aL] (some ⟨g1, 0, none⟩) 1 1 (fun _ => True) (fun k => False ∨ k = g1) ?hs ?hx ?hN ?hF ?hk ?hf ?hB ?hbase ?hl ?_; (case hg => rfl); (case ho => rfl); (case ht => exact Tryd.underlying23); (case hi => exact info61); (case hz => rfl); (case h0 => decide); (case hb0 => decide); (case hs => rfl); (case hx => rfl); (case hN => exact Kd.N_mono HQ.out.nA (fun _ _ => trivial)); (case hF => exact F_one k61 (k61_mkF w1 _ aL) rfl HL1.out); (case hk => exact fun k hk => ⟨trivial, by rcases hk with hk | hk; exact hk.elim; subst hk; exact HNE.out⟩); (case hf => exact fun _ _ => trivial); (case hB => exact HQ.out.below); (case hbase => exact HQ.out.below.size); (case hl => simp only [List.length_replicate]; omega); intro v1 w2 hn hb2 hg2 hat; obtain ⟨A2, c2, rfl⟩ := Kd.N_slice hn; have hc2 := keep27 HQ.out.cells (fun k hk => Kd.N_typed HQ.out.nA k hk) (by decide) hg2; have HP2 := Aside0.mk (HQ.out.pushA hn hg2); have hz0 : w2.cell? ⟨b, 1, none⟩ = some vA := (blk_cell hc2 1).trans rfl; have hf0 : w2.frozen? ⟨b, 1, none⟩ = false := blk_frozen hc2 1; clear hn hb2 hg2 hat hc2))
          go_roundg (a - (i + 1))
          case measure => omega
          case rel => exact ⟨i + 1, by omega, by omega, by go_num, _, ⟨by have h := HP2.out; rw [rep_snoc] at h; simp only [List.length_replicate] at h; exact h⟩⟩
        · have hltz : ¬ (i : Int) < (a : Int) := by omega
          have he : i = a := by omega
          subst he
          clear hlt
          go_wp2_with fail
          go_meet
          exact ⟨vA, HL⟩
    case rest =>
      clear HP
      have HC := hcut
      clear hcut
      obtain ⟨vA, HP⟩ := HC
      generalize wc = wk1 at *
      go_upto_block 4 with fail
      go_cut [13] (fun sx wx => ∃ vM, Aside0 (Pl w0 b (List.replicate g gL) (List.replicate a aL) (List.replicate m mL) vG vA vM (.slice none 0 0) wx))
      case first =>
        go_wp2_with fail
        go_loopg [13] m (fun gg sx wr => ∃ i : Nat, i ≤ m ∧ m - i ≤ gg ∧ sx = .int .i64 i ∧ ∃ vM, Aside0 (Pl w0 b (List.replicate g gL) (List.replicate a aL) (List.replicate i mL) vG vA vM (.slice none 0 0) wr))
        case atStart => exact ⟨0, Nat.zero_le _, by omega, rfl, _, HP⟩
        case round =>
          obtain ⟨i, hi, hgg, rfl, vM, HL⟩ := hrel
          generalize wr = wo at *
          by_cases hlt : i < m
          · have hltz : (i : Int) < (m : Int) := by omega
            have hy0 : wo.cell? ⟨b, 2, none⟩ = some vM := (blk_cell HL.out.cells 2).trans rfl
            go_wp2_with (first | ((with_reducible refine gate_dst (N := 82) rfl ?_); refine lit_ev2 (n := 1) ?hg (N := 82) ?hd (cs := #[.string ⟨#[109]⟩]) (t := 9) ?hr ?_; (case hd => rfl); (case hg => rfl); (case hr => first | (go_simp; done) | (go_simp; rfl)); intro g1 hgg w1 hlit hb; have HL1 := Aside0.mk hlit; have HQ := Aside0.mk (HL.out.to hb); have HNE := Aside0.mk (fresh_ne (w1 := w1) HL.out.nM hgg); clear hlit hb hgg) | ((with_reducible refine gate_dst (N := 83) rfl ?_); refine Kd.N_append_rows Kd.string (w0 := w0) w0.heap.size ?hg (.tmp 81) (.tmp 82) 24 9 (.string ⟨#[]⟩) 16 ?ho ?ht ?hi ?hz ?h0 ?hb0 vM (List.replicate i mL) [mL] (some ⟨g1, 0, none⟩) 1 1 (fun _ => True) (fun k => False ∨ k = g1) ?hs ?hx ?hN ?hF ?hk ?hf ?hB ?hbase ?hl ?_; (case hg => rfl); (case ho => rfl); (case ht => exact Tryd.underlying24); (case hi => exact info9); (case hz => rfl); (case h0 => decide); (case hb0 => decide); (case hs => rfl); (case hx => rfl); (case hN => exact Kd.N_mono HQ.out.nM (fun _ _ => trivial)); (case hF => exact F_one Kd.string (fun _ _ => rfl) rfl HL1.out); (case hk => exact fun k hk => ⟨trivial, by rcases hk with hk | hk; exact hk.elim; subst hk; exact HNE.out⟩); (case hf => exact fun _ _ => trivial); (case hB => exact HQ.out.below); (case hbase => exact HQ.out.below.size); (case hl => simp only [List.length_replicate]; omega); intro v1 w2 hn hb2 hg2 hat; obtain ⟨A2, c2, rfl⟩ := Kd.N_slice hn; have hc2 := keep27 HQ.out.cells (fun k hk => Kd.N_typed HQ.out.nM k hk) (by decide) hg2; have HP2 := Aside0.mk (HQ.out.pushM hn hg2); have hz0 : w2.cell? ⟨b, 2, none⟩ = some vM := (blk_cell hc2 2).trans rfl; have hf0 : w2.frozen? ⟨b, 2, none⟩ = false := blk_frozen hc2 2; clear hn hb2 hg2 hat hc2))
            go_roundg (m - (i + 1))
            case measure => omega
            case rel => exact ⟨i + 1, by omega, by omega, by go_num, _, ⟨by have h := HP2.out; rw [rep_snoc] at h; simp only [List.length_replicate] at h; exact h⟩⟩
          · have hltz : ¬ (i : Int) < (m : Int) := by omega
            have he : i = m := by omega
            subst he
            clear hlt
            go_wp2_with fail
            go_meet
            exact ⟨vM, HL⟩
      case rest =>
        clear HP
        have HC := hcut
        clear hcut
        obtain ⟨vM, HP⟩ := HC
        generalize wc = wk2 at *
        go_upto_block 6 with fail
        go_cut [10, 14] (fun s10 s14 wx => s10 = .int .i64 ((g + a + m + sumK l : Nat) : Int) ∧ ∃ vT, Aside0 (PlT w0 b (List.replicate g gL) (List.replicate a aL) (List.replicate m mL) (thrs l) vG vA vM vT wx))
        case first =>
          go_wp2_with fail
          go_loopg [10, 14] l.length (fun gg s10 s14 wr => ∃ i : Nat, i ≤ l.length ∧ l.length - i ≤ gg ∧ s14 = .int .i64 i ∧ s10 = .int .i64 ((g + a + m + sumK (l.take i) : Nat) : Int) ∧ ∃ vT, Aside0 (PlT w0 b (List.replicate g gL) (List.replicate a aL) (List.replicate m mL) (thrs (l.take i)) vG vA vM vT wr))
          case atStart => exact ⟨0, Nat.zero_le _, by omega, rfl, by simp [sumK], _, ⟨HP.out, Kd.N_nil ..⟩⟩
          case round =>
            obtain ⟨i, hi, hgg, rfl, rfl, vT, HL⟩ := hrel
            generalize wr = wo at *
            by_cases hlt : i < l.length
            · have hltz : (i : Int) < (l.length : Int) := by omega
              obtain ⟨ad, cc, rfl, _, hK, hc0⟩ := Kd.C_get HCL.out 0 (i : Int) (by omega) hltz
              obtain ⟨x, hxx⟩ : ∃ x, l[i] = x := ⟨_, rfl⟩
              have hx0 : w0.cell? (ad.add i) = some (.int .i64 x) := by
                have hx1 : l.getD (i : Int).toNat 0 = x := by simp [hlt, hxx]
                rw [hx1] at hK
                have h := hc0 0 (.int .i64 x) (by rw [hK]; rfl)
                rwa [show (i : Int).toNat * (Kd.int .i64).sz + 0 = i by simp [Kd.int, Kd.scalar]] at h
              have hxo : wo.cell? (ad.add i) = some (.int .i64 x) := pw_cell_below HL.out.1.below hx0
              have HTK := Aside0.mk (show l.take (i + 1) = l.take i ++ [x] by rw [List.take_succ_eq_append_getElem hlt, hxx])
              have hs1 : sumK (l.take i) ≤ 72 := Nat.le_trans (sumK_le _) (by rw [List.length_take]; omega)
              have hk15 : k15 x ≤ 15 := k15_le x
              clear hc0 hK hxx
              go_upto_block 8 with (first | ((with_reducible refine gate_dst (N := 91) rfl ?_); refine lit_ev2 (n := 1) ?hg (N := 91) ?hd (cs := #[.string ⟨#[118]⟩]) (t := 9) ?hr ?_; (case hd => rfl); (case hg => rfl); (case hr => first | (go_simp; done) | (go_simp; rfl)); intro gv hgg w1 hlit hb; have HGV := Aside0.mk hgg; have HL1 := Aside0.mk hlit; have HB1 := Aside0.mk hb; clear hlit hb hgg) | ((with_reducible refine gate_dst (N := 15) rfl ?_); refine box_event ?hg (N := 15) ?hd (cs := #[.string ⟨#[]⟩, .slice none 0 0, .slice none 0 0]) (t := 52) ?hr ?_; (case hd => rfl); (case hg => rfl); (case hr => first | (go_simp; done) | (go_simp; rfl)); intro gt hgg w2 hlit hb; have HZ := Aside0.mk hlit; have HGT := Aside0.mk hgg; have HB2 := Aside0.mk hb; clear hlit hb hgg) | ((with_reducible refine gate_store (t := 52) (p := 15) rfl ?_); refine put_val ?hg ?hn 52 (.tmp 15) (.tmp 92) ?ho gt 52 _ (#[.string ⟨#[116]⟩, .slice (some ⟨gv, 0, none⟩) 1 1, .slice none 0 0]) (.agg #[.string ⟨#[116]⟩, .slice (some ⟨gv, 0, none⟩) 1 1, .slice none 0 0]) ?hp ?hx ?hu HZ.out ?ht ?hs ?h1 ?_; (case hg => rfl); (case hn => rfl); (case ho => rfl); (case hp => rfl); (case hx => rfl); (case hu => rfl); (case ht => kernel_rfl); (case hs => rfl); (case h1 => exact three_one gv); intro w3 hlit hg; have HT := Aside0.mk (Tb.start HGV.out HL1.out HB1.out HGT.out HB2.out hlit hg); clear hlit hg HZ HL1 HB1 HB2 HGT))
              go_cut [16] (fun sx wx => ∃ v, Aside0 (Tb wo gt gv (k15 x) v wx))
              case first =>
                go_wp2_with fail
                go_loopg [16] (k15 x) (fun gg sx wr => ∃ k : Nat, k ≤ k15 x ∧ k15 x - k ≤ gg ∧ sx = .int .i64 k ∧ ∃ v, Aside0 (Tb wo gt gv k v wr))
                case atStart => exact ⟨0, Nat.zero_le _, by omega, rfl, _, HT⟩
                case round =>
                  obtain ⟨k, hk, hgk, rfl, v, HT⟩ := hrel
                  generalize wr = wq at *
                  have hxq : wq.cell? (ad.add i) = some (.int .i64 x) := pw_cell_below HT.out.below hxo
                  by_cases hlk : k < k15 x
                  · have hlkz : (k : Int) < bits .and .i64 x 15 := by rw [k15_eq]; omega
                    have hy0 : wq.cell? ⟨gt, 2, none⟩ = some v := (blk_cell HT.out.cells 2).trans rfl
                    go_wp2_with (first | ((with_reducible refine gate_dst (N := 105) rfl ?_); refine lit_ev2 (n := 1) ?hg (N := 105) ?hd (cs := #[.int .i64 8, .string ⟨#[]⟩, .int .i64 0, .int .i64 0, .int .i64 0, .string ⟨#[]⟩, .slice none 0 0, .int .i64 0, .int .i64 0, .int .i64 0, .string ⟨#[]⟩, .slice none 0 0, .int .i64 0, .int .i64 0, .slice none 0 0, .slice none 0 0, .slice none 0 0, .slice none 0 0]) (t := 54) ?hr ?_; (case hd => rfl); (case hg => rfl); (case hr => first | (go_simp; done) | (go_simp; rfl)); intro g1 hgg w1 hlit hb; have HL1 := Aside0.mk hlit; have HGN := Aside0.mk hgg; have HQ := Aside0.mk (HT.out.to hb); have HNE := Aside0.mk (fresh_ne (w1 := w1) HT.out.n hgg); have HGO := Aside0.mk (show wo.heap.size ≤ g1 by rw [hgg]; exact HT.out.below.size); have HGG := Aside0.mk (show g1 ≠ gt by rw [hgg]; exact Nat.ne_of_gt (blk_lt HT.out.cells)); clear hlit hb hgg) | ((with_reducible refine gate_dst (N := 106) rfl ?_); refine Kd.N_append_rows k54 (w0 := wo) wo.heap.size ?hg (.tmp 103) (.tmp 105) 50 54 ?zz 264 ?ho ?ht ?hi ?hz ?h0 ?hb0 v (List.replicate k skL) [skL] (some ⟨g1, 0, none⟩) 1 1 (fun q => wo.heap.size ≤ q ∧ q ≠ gt) (fun k => False ∨ k = g1) ?hs ?hx ?hN ?hF ?hk ?hf ?hB ?hbase ?hl ?_; (case hg => rfl); (case ho => rfl); (case ht => exact Tryd.underlying50); (case hi => exact info54); (case hz => rfl); (case h0 => decide); (case hb0 => decide); (case hs => rfl); (case hx => rfl); (case hN => exact HQ.out.n); (case hF => exact F_one k54 (skF w1 _) rfl HL1.out); (case hk => exact fun q hq => by rcases hq with hq | hq; exact hq.elim; subst hq; exact ⟨⟨HGO.out, HGG.out⟩, HNE.out⟩); (case hf => exact fun q hq => ⟨Nat.le_trans HQ.out.below.size hq, Nat.ne_of_gt (Nat.lt_of_lt_of_le (blk_lt HQ.out.cells) hq)⟩); (case hB => exact HQ.out.below); (case hbase => exact HQ.out.below.size); (case hl => simp only [List.length_replicate]; omega); intro v1 w2 hn hb2 hg2 hat; obtain ⟨A2, c2, rfl⟩ := Kd.N_slice hn; have hc2 := keepT HQ.out.cells (fun k hk => Kd.N_typed HQ.out.n k hk) (by decide) hg2; have HP2 := Aside0.mk (HQ.out.push (by rw [rep_snoc] at hn; exact hn) hg2); have hz0 : w2.cell? ⟨gt, 2, none⟩ = some v := (blk_cell hc2 2).trans rfl; have hf0 : w2.frozen? ⟨gt, 2, none⟩ = false := blk_frozen hc2 2; clear hn hb2 hg2 hat hc2))
                    go_roundg (k15 x - (k + 1))
                    case measure => omega
                    case rel => exact ⟨k + 1, by omega, by omega, by go_num, _, ⟨by have h := HP2.out; simp only [List.length_replicate] at h; exact h⟩⟩
                  · have hlkz : ¬ (k : Int) < bits .and .i64 x 15 := by rw [k15_eq]; omega
                    have he : k = k15 x := by omega
                    rw [he] at HT
                    clear hlk he
                    go_wp2_with fail
                    go_meet
                    exact ⟨v, HT⟩
              case rest =>
                clear HT
                have HC2 := hcut
                clear hcut
                obtain ⟨v, HTB2⟩ := HC2
                generalize wc = wk3 at *
                have hy3 : wk3.cell? ⟨b, 3, none⟩ = some vT := (blk_cell (HL.out.to HTB2.out.below).1.cells 3).trans rfl
                have HVT := Aside0.mk (Kd.N_slice HL.out.2)
                go_wp2_with (first | ((with_reducible refine gate_dst (N := 110) rfl ?_); (try (refine gate_guard (by rfl) ?_; dsimp only)); refine wpList_load_row ?hg 52 (.tmp 15) ?ho gt ?hx 52 _ (0, 0) _ HTB2.out.cells Tryd.underlying52 ?hd ?hi ?_; (case hg => rfl); (case ho => rfl); (case hx => rfl); (case hd => rfl); (case hi => kernel_rfl)) | ((with_reducible refine gate_dst (N := 111) rfl ?_); refine lit_ev2 (n := 1) ?hg (N := 111) ?hd (cs := #[.string ⟨#[116]⟩, .slice (some ⟨gv, 0, none⟩) 1 1, v]) (t := 52) ?hr ?_; (case hd => rfl); (case hg => rfl); (case hr => first | (go_simp; done) | (go_simp; rfl)); intro g2 hgg w2 hlit hb; have HGO := Aside0.mk (show wo.heap.size ≤ g2 by rw [hgg]; exact HTB2.out.below.size); have HF2 := Aside0.mk (HTB2.out.F hb hlit HGO.out); have HW2 := Aside0.mk (below_then HTB2.out.below HTB2.out.below.size hb); have HQ := Aside0.mk (HL.out.to HW2.out); clear hlit hb hgg) | ((with_reducible refine gate_dst (N := 112) rfl ?_); refine Kd.N_append_rows k52 (w0 := w0) w0.heap.size ?hg (.tmp 109) (.tmp 111) 25 52 ?zy 64 ?ho ?ht ?hi ?hz ?h0 ?hb0 vT (thrs (l.take i)) [tL (k15 x)] (some ⟨g2, 0, none⟩) 1 1 (fun q => w0.heap.size ≤ q ∧ q ≠ b) (fun q => wo.heap.size ≤ q) ?hs ?hx ?hN ?hF ?hk ?hf ?hB ?hbase ?hl ?_; (case hg => rfl); (case ho => rfl); (case ht => exact Tryd.underlying25); (case hi => exact info52); (case hz => rfl); (case h0 => decide); (case hb0 => decide); (case hs => rfl); (case hx => rfl); (case hN => exact HQ.out.2); (case hF => exact HF2.out); (case hk => exact fun q hq => ⟨⟨Nat.le_trans HL.out.1.below.size hq, Nat.ne_of_gt (Nat.lt_of_lt_of_le (blk_lt HL.out.1.cells) hq)⟩, fun e1 => absurd (Kd.N_lt HL.out.2 q e1.symm) (by omega)⟩); (case hf => exact fun q hq => ⟨Nat.le_trans HQ.out.1.below.size hq, Nat.ne_of_gt (Nat.lt_of_lt_of_le (blk_lt HQ.out.1.cells) hq)⟩); (case hB => exact HQ.out.1.below); (case hbase => exact HQ.out.1.below.size); (case hl => rw [thrs_length, List.length_take]; omega); intro v1 w3 hn hb2 hg2 hat; obtain ⟨A2, c2, rfl⟩ := Kd.N_slice hn; have hc2 := keepT HQ.out.1.cells (fun k hk => Kd.N_typed HQ.out.2 k hk) (by decide) hg2; have HP2 := Aside0.mk (HQ.out.push hn hg2); have hz0 : w3.cell? ⟨b, 3, none⟩ = some vT := (blk_cell hc2 3).trans rfl; have hf0 : w3.frozen? ⟨b, 3, none⟩ = false := blk_frozen hc2 3; have hx3 : (w3.setCell ⟨b, 3, none⟩ (.slice A2 ((thrs (l.take i)).length + 1) c2)).cell? (ad.add i) = some (.int .i64 x) := (by have h := pw_cell_below HP2.out.1.below hx0; simp only [List.length_append, List.length_singleton] at h; exact h); clear hn hb2 hg2 hat hc2))
                go_roundg (l.length - (i + 1))
                case measure => omega
                case rel => exact ⟨i + 1, by omega, by omega, by go_num, by rw [HTK.out, sumK_snoc, k15_eq, IntWalk.wrap64_in _ (by omega)]; exact congrArg (Value.int .i64) (by omega), _, ⟨by have h := HP2.out; simp only [List.length_append, List.length_singleton] at h; rw [HTK.out, thrs_snoc]; exact h⟩⟩
            · have hltz : ¬ (i : Int) < (l.length : Int) := by omega
              have he : l.take i = l := List.take_of_length_le (by omega)
              rw [he] at HL ⊢
              clear hlt he
              go_wp2_with fail
              go_meet
              exact ⟨rfl, vT, HL⟩
        case rest =>
          clear HP
          have HC := hcut
          clear hcut
          obtain ⟨rfl, vT, HP⟩ := HC
          generalize wc = wk6 at *
          have HNL := Aside0.mk (all_nl g a m l)
          have HLN := Aside0.mk (all_len g a m l hg ha hm hl)
          have HOK := Aside0.mk (ok_thrs l)
          obtain ⟨G, hG⟩ : ∃ G, G = List.replicate g gL := ⟨_, rfl⟩
          obtain ⟨As, hAs⟩ : ∃ As, As = List.replicate a aL := ⟨_, rfl⟩
          obtain ⟨Ms, hMs⟩ : ∃ Ms, Ms = List.replicate m mL := ⟨_, rfl⟩
          obtain ⟨Ts, hTs⟩ : ∃ Ts, Ts = thrs l := ⟨_, rfl⟩
          have HRG := Aside0.mk (show ∀ x ∈ G, -9223372036854775808 ≤ x.f1 ∧ x.f1 ≤ 9223372036854775807 from fun x hx => by rw [hG] at hx; rw [List.eq_of_mem_replicate hx]; decide)
          have HRA := Aside0.mk (show ∀ x ∈ As, -9223372036854775808 ≤ x.f1 ∧ x.f1 ≤ 9223372036854775807 from fun x hx => by rw [hAs] at hx; rw [List.eq_of_mem_replicate hx]; decide)
          rw [← hG, ← hAs, ← hMs, ← hTs] at HP HNL HLN
          rw [← hTs] at HOK
          clear hG hAs hMs hTs
          obtain ⟨AG, cG, rfl, lG, gG⟩ := Kd.N_reads HP.out.1.nG
          obtain ⟨AA, cA, rfl, lA, gA⟩ := Kd.N_reads HP.out.1.nA
          obtain ⟨AM, cM, rfl, lM, gM⟩ := Kd.N_reads HP.out.1.nM
          obtain ⟨AT, cT, rfl, lT, gT⟩ := Kd.N_reads HP.out.2
          have HG := Aside0.mk gG
          have HA := Aside0.mk gA
          have HM := Aside0.mk gM
          have HTh := Aside0.mk gT
          clear gG gA gM gT lG lA lM lT
          go_wp2_with (first | ((with_reducible refine gate_dst (N := 122) rfl ?_); (try (refine gate_guard (by rfl) ?_; dsimp only)); refine wpList_load_row ?hg 27 (.tmp 9) ?ho b ?hx 27 _ (0, 0) _ HP.out.1.cells Tryd.underlying27 ?hd ?hi ?_; (case hg => rfl); (case ho => rfl); (case hx => rfl); (case hd => rfl); (case hi => kernel_rfl)))
          refine (print_calls wk6 G As Ms Ts AG AA AM AT cG cA cM cT HG.out HA.out HM.out HTh.out (tab_on HTB.out HP.out.1.below) HRG.out HRA.out HOK.out (Nat.le_trans HLN.out (by decide))).mono ?_
          rintro e w3 ⟨rfl, hb⟩
          have HB3 := Aside0.mk (below_then HP.out.1.below HP.out.1.below.size hb)
          clear hb
          generalize printF G As Ms Ts = s at *
          have hsl : s.length ≤ 1000 := HLN.out
          go_upto_block 10 with fail
          go_cut [18, 19] (fun s18 s19 wx => s18 = .int .i64 ((nl s : Nat) : Int) ∧ Aside0 (Below w0.heap.size w0 wx))
          case first =>
            go_wp2_with fail
            go_loopg [18, 19] s.length (fun gg s18 s19 wr => ∃ i : Nat, i ≤ s.length ∧ s.length - i ≤ gg ∧ s19 = .int .i64 i ∧ s18 = .int .i64 ((nl (s.take i) : Nat) : Int) ∧ Aside0 (Below w0.heap.size w0 wr))
            case atStart => exact ⟨0, Nat.zero_le _, by omega, rfl, rfl, HB3⟩
            case round =>
              obtain ⟨i, hi, hgg, rfl, rfl, HL⟩ := hrel
              generalize wr = wo at *
              by_cases hlt : i < s.length
              · have hltz : (i : Int) < (s.length : Int) := by omega
                have HNT := Aside0.mk (nl_take s i hlt)
                have hle : nl (s.take i) ≤ s.length := nl_le s i
                go_wp2_with fail
                · rename_i hq
                  have h10 : s[i] = 10 := by
                    have h2 : ((s[i].toNat : Nat) : Int) = 10 := beq_iff_eq.1 hq
                    have h3 : s[i].toNat = (10 : UInt8).toNat := by show s[i].toNat = 10; omega
                    exact UInt8.toNat_inj.1 h3
                  go_roundg (s.length - (i + 1))
                  case measure => omega
                  case rel => exact ⟨i + 1, by omega, by omega, by go_num, by rw [HNT.out, if_pos h10]; go_num, HL⟩
                · rename_i hq
                  have h10 : ¬ s[i] = 10 := by
                    intro h2
                    have h3 : ((s[i].toNat : Nat) : Int) = 10 := by rw [h2]; rfl
                    exact absurd (show (((s[i].toNat : Nat) : Int) == 10) = true from beq_iff_eq.2 h3) (by rw [show (((s[i].toNat : Nat) : Int) == 10) = false from hq]; decide)
                  go_roundg (s.length - (i + 1))
                  case measure => omega
                  case rel => exact ⟨i + 1, by omega, by omega, by go_num, by rw [HNT.out, if_neg h10]; rfl, HL⟩
              · have hltz : ¬ (i : Int) < (s.length : Int) := by omega
                have he : s.take i = s := List.take_of_length_le (by omega)
                rw [he]
                clear hlt he
                go_wp2_with fail
                go_meet
                exact ⟨rfl, HL⟩
          case rest =>
            have HC := hcut
            clear hcut
            obtain ⟨rfl, HBK⟩ := HC
            generalize wc = wk7 at *
            have hnl : (nl s : Int) = ((g + a + m + sumK l : Nat) : Int) := by rw [HNL.out]
            rw [hnl]
            go_wp2_with fail
            refine (known17_calls wk7 (tab_on HTB.out HBK.out)).mono ?_
            rintro e w5 ⟨rfl, hb⟩
            have HB5 := Aside0.mk (below_then HBK.out HBK.out.size hb)
            clear hb
            go_wp2_with fail
            go_ret
            exact ⟨rfl, HB5.out⟩
end Go.Proofs.YtfeaekdhpkdljaaDoor.Sh
