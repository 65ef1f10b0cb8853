/- meddlerlaw6.ShowPrints: any program, expression and condition as a text is the document's; no value among them leads back to itself. The table of powers of ten that strconv reads holds what the program's text lays (the card ties it). -/
import Derived.Test.YtfeaekdhpkdljaaDoorRows
import Derived.Test.YtfeaekdhpkdljaaDoorTie
import Derived.Test.YtfeaekdhpkdljaaDoorCards
import Derived.Test.YtfeaekdhpkdljaaDoorShPrints
import Derived.Test.YtfeaekdhpkdljaaDoorShOpens
import Derived.Test.YtfeaekdhpkdljaaDoorOpens
import Derived.ProofKit
import Derived.LaidMore
import Derived.OpenShut
import Derived.Stop.Joined
import Derived.SevenTiedAt
import Derived.Stop.LaidErr
import Derived.ChangeOld
import Derived.Below
import Derived.SizedLaws
import Derived.Test.YtfeaekdhpkdljaaDoorWSized
namespace Go.Proofs.YtfeaekdhpkdljaaDoor.LawPrints
open Go.ChangeShapes Go.WideShapes Go.ChangeAt Go.WideMaps Go.WideElems Go.RowKit
open Go.Proofs.YtfeaekdhpkdljaaDoor.Opens Go.Proofs.YtfeaekdhpkdljaaDoorW.PrintWords
set_option linter.unusedVariables false
theorem own : ownKnob Tryd.prog.godebug = none := by kernel_rfl
theorem laidOut : laidOutB Tryd.prog = true := by kernel_rfl
def laid3 {H : Type} : List (String × DataW H) := [("math/bits.deBruijn32tab", Rows.laid_math_bits_deBruijn32tab), ("math/bits.deBruijn64tab", Rows.laid_math_bits_deBruijn64tab), ("internal/strconv.uint64pow10", Rows.laid_internal_strconv_uint64pow10)]
theorem door_met (os : Os) (args : Array Value) : laidMetH Tryd.prog laid3 ((World.doorLaid Tryd.prog 400 os).forCall (fun _ _ => 0) ⟨#[], args, []⟩).memory :=
  laidMetH_of_parts3 (fuel := 8) (laidMet_of_run' 8 (by kernel_rfl) (by kernel_rfl)) (by kernel_rfl) (by kernel_rfl)
theorem of_laid {W : World} (h : laidMetH Tryd.prog laid3 W) : Sh.Tab W := by
  rw [MakeChecks.laidMetH_plain _ _ _ (by kernel_rfl)] at h
  have h2 : laidMet Tryd.prog [("internal/strconv.uint64pow10", Lib.tabData .u64 Lib.pow10Tab)] W := laidMet.tail (laidMet.tail h)
  exact Lib.tabIs_of_head (g := 0) (t := 123) (e := 115) (n := 20) (by kernel_rfl) (by kernel_rfl) (by kernel_rfl) (by kernel_rfl) (by kernel_rfl) (by kernel_rfl) h2
set_option maxRecDepth 100000 in
theorem lifted (os : Os) (started : os.Started) (H : Type) (enc : TypeId × Value → H) :
    ReturnsInHanded {} Tryd.checked os 3 .any (fun w args => (Rows.showPrintsSpec.pre enc Tryd.prog Tryd.f3 [] false w args ∧ laidMetH Tryd.prog laid3 w) ∧ sizedMet enc Tryd.prog Tryd.f3 (OpenSpec.ofChange Rows.showPrintsSpec) false w args)
      (Rows.showPrintsSpec.post enc Tryd.prog Tryd.f3 false true false false) := by
  refine returnsInHanded_of_change_and (C := Tryd.checked) (X := fun w _ => laidMetH Tryd.prog laid3 w) (fun _ _ _ hh h => h.of_heap hh) own started (by kernel_rfl) Tryd.func3
    (ChangeSpec.witness_shaped (enc := enc) (C := Tryd.checked) (os := os) (X := fun w _ => laidMetH Tryd.prog laid3 w) false (World.doorLaid Tryd.prog 400 os) #[.agg #[.slice none 0 0, .slice none 0 0, .slice none 0 0, .slice none 0 0], .agg #[.int .i64 0, .int .i64 0, .int .i64 0, .string ⟨#[]⟩, .slice none 0 0], .agg #[.int .i64 0, .int .i64 0, .slice none 0 0, .slice none 0 0]] 8 rfl (World.shaped_of_RefB (by kernel_rfl) (by kernel_rfl)) (by kernel_rfl) (by kernel_rfl) (by kernel_rfl) (door_met os _)) ?_
  intro W base args ds gs before hval0 hW _ hsz0 hL _
  have hsz : (DataW.weightsEach Tryd.prog (Tryd.f3.params.toList ++ Rows.showPrintsSpec.plain.varTypes Tryd.prog) (ds ++ gs)).all (· ≤ reachBytes) = true := hsz0
  have hval : ∀ (j : Nat) t v, Tryd.f3.params[j]? = some t → args[j]? = some v → Value.okWide Tryd.prog W .any base t v := hval0
  have hW' := hW
  obtain ⟨p, q, hA0, hV, rfl, hfz, hnd⟩ := hW
  have hA : DataW.TrodAll enc Tryd.prog W 0 (fun _ => true) true Tryd.f3.params.toList args.toList ds p := hA0
  rw [Tryd.params3] at hA hval hsz
  obtain ⟨v0, vs0, d0, ds0, p0, q0, hargs, rfl, rfl, h0, r0⟩ := trodAll_cons hA
  obtain ⟨v1, vs1, d1, ds1, p1, q1, rfl, rfl, rfl, h1, r1⟩ := trodAll_cons r0
  obtain ⟨v2, vs2, d2, ds2, p2, q2, rfl, rfl, rfl, h2, r2⟩ := trodAll_cons r1
  obtain ⟨rfl, rfl, rfl⟩ := trodAll_nil r2
  obtain rfl : args = #[v0, v1, v2] := by cases args; simp_all
  obtain ⟨rfl, rfl⟩ := trodVars_none hV
  obtain ⟨cs0, rfl, _⟩ := okWide_struct Tryd.underlying27 (hval 0 27 v0 rfl rfl)
  obtain ⟨cs1, rfl, _⟩ := okWide_struct Tryd.underlying30 (hval 1 30 v1 rfl rfl)
  obtain ⟨cs2, rfl, _⟩ := okWide_struct Tryd.underlying33 (hval 2 33 v2 rfl rfl)
  have k0 := h0
  have k1 := h1
  have k2 := h2
  have lt0 : ∀ x ∈ p0, x.block < W.heap.size := by obtain ⟨m, hm⟩ := k0; exact DataW.trod_lt m _ _ _ hm
  have lt1 : ∀ x ∈ p1, x.block < W.heap.size := by obtain ⟨m, hm⟩ := k1; exact DataW.trod_lt m _ _ _ hm
  have lt2 : ∀ x ∈ p2, x.block < W.heap.size := by obtain ⟨m, hm⟩ := k2; exact DataW.trod_lt m _ _ _ hm
  obtain ⟨y, hK0, ⟨_, l0, w0⟩, ⟨_, l1, w1⟩, ⟨_, l2, w2⟩, _, l3, w3⟩ := arg_struct (Sh.opens27 (w := W)) h0 (wts hsz (j := 0) (t := 27) rfl rfl)
  obtain ⟨e, hK1, hw1⟩ := arg_struct (Sh.opens30 (w := W)) h1 (wts hsz (j := 1) (t := 30) rfl rfl)
  obtain ⟨d, hK2, hw2⟩ := arg_struct (Sh.opens33 (w := W)) h2 (wts hsz (j := 2) (t := 33) rfl rfl)
  obtain ⟨_, _, e0, ⟨AG, cG, rfl, m0, g0⟩, ⟨_, _, rfl, ⟨AA, cA, rfl, m1, g1⟩, ⟨_, _, rfl, ⟨AM, cM, rfl, m2, g2⟩, ⟨AT, cT, rfl, m3, g3⟩⟩⟩⟩ := hK0
  obtain ⟨A4, c4, e1, l4, g4⟩ := Sh.k30_open hK1
  obtain ⟨A5, c5, A6, c6, e2, l5, g5, l6, g6⟩ := Sh.k33_open hK2
  obtain rfl : cs0 = #[.slice AG y.f0.length cG, .slice AA y.f1.length cA, .slice AM y.f2.length cM, .slice AT y.f3.length cT] := by cases cs0; simpa using e0
  obtain rfl : cs1 = #[.int .i64 e.f0, .int .i64 e.f1, .int .i64 e.f2, .string e.f3, .slice A4 e.f4.length c4] := by cases cs1; simpa using e1
  obtain rfl : cs2 = #[.int .i64 d.f0, .int .i64 d.f1, .slice A5 d.f2.length c5, .slice A6 d.f3.length c6] := by cases cs2; simpa using e2
  rw [Sh.b59] at l0
  rw [Sh.b61] at l1
  rw [Sh.b9] at l2
  rw [Sh.b52] at l3
  clear hA0 hval0 hsz0 hsz
  refine (Sh.prints_calls W y.f0 y.f1 y.f2 y.f3 AG AA AM AT cG cA cM cT g0 g1 g2 g3 (by omega) (by omega) (by omega) (by omega) (fun g hg => by have := (w0 g hg).1; omega) (fun g hg => by have := (w1 g hg).1; omega) (fun g hg => by have := w2 g hg; omega) (fun t ht => Sh.wf_thread (w3 t ht)) (fun g hg => Sh.rng (w0 g hg).2) (fun g hg => Sh.rng (w1 g hg).2) (fun t ht s hs => ((w3 t ht).2.2.2.2 s hs _).2) e A4 c4 g4 l4 (hw1 _).2 (hw1 _).1 d A5 A6 c5 c6 g5 l5 g6 l6 (hw2 _).2 (hw2 _).1 (of_laid hL)).mono fun e W' ⟨he, bel⟩ => ?_
  subst he
  exact ⟨_, rfl, _, _, _, [], _, [], hW', trodAll_mk1 (shut_bool Tryd.underlying4 _), (trodAll_cons_mk (Below.trod laidOut (by kernel_rfl) (of_decide_eq_true (by kernel_rfl)) k0 bel lt0) (trodAll_cons_mk (Below.trod laidOut (by kernel_rfl) (of_decide_eq_true (by kernel_rfl)) k1 bel lt1) (trodAll_cons_mk (Below.trod laidOut (by kernel_rfl) (of_decide_eq_true (by kernel_rfl)) k2 bel lt2) trodAll_mk0))), rfl, bel.frame _, fun h => by cases h⟩
theorem over : Rows.ShowPrintsSaid :=
  OpenClaim.holds_of_wide 3 Tryd.f3 rfl rfl rfl rfl rfl rfl rfl ⟨rfl, rfl, rfl, rfl, rfl⟩ rfl rfl rfl rfl rfl (by kernel_rfl) Tryd.func3 (by kernel_rfl)
    (of_decide_eq_true (by kernel_rfl)) (by unfold Func.isWrapper; first | (rw [if_pos (by decide +kernel)]; kernel_rfl) | (rw [if_neg (by decide +kernel)]; exact ⟨rfl, rfl⟩))
    (fun os started H enc _ => lifted os started H enc)
end Go.Proofs.YtfeaekdhpkdljaaDoor.LawPrints
namespace Go.Proofs.YtfeaekdhpkdljaaDoor
/-- The tied card. -/
theorem showPrints_card : Rows.ShowPrintsCardSaid :=
  Claim7.holds_tied_plain_at .later [] [.data, .data, .data] true (true, "70d407c0eafa0834225c9d5943e7d77421f4a547062622acda458d91db2b39fe") false
    LawPrints.over (fun _ h => by cases h) (by kernel_rfl) (fun _ h => by cases h) showPrints_row_tie rfl ⟨rfl, rfl⟩ (by kernel_rfl) rfl
    (fun f fn hf hfn => by
      obtain rfl : f = 3 := Option.some.inj ((show Tryd.prog.funcNamed "meddler/meddlerlaw6.ShowPrints" = some 3 by kernel_rfl).symm.trans hf) |>.symm
      obtain rfl : fn = Tryd.f3 := (Option.some.inj (Tryd.func3.symm.trans hfn)).symm
      exact ⟨by kernel_rfl, fun j t ht => by
        rw [Tryd.params3] at ht
        have h3 : t = 27 ∨ t = 30 ∨ t = 33 := by
          rcases j with _ | _ | _ | j
          · exact .inl (by simpa using ht.symm)
          · exact .inr (.inl (by simpa using ht.symm))
          · exact .inr (.inr (by simpa using ht.symm))
          · simp at ht
        rcases h3 with rfl | rfl | rfl
        · exact (show Tryd.prog.wantsStandIn 27 = false by kernel_rfl)
        · exact (show Tryd.prog.wantsStandIn 30 = false by kernel_rfl)
        · exact (show Tryd.prog.wantsStandIn 33 = false by kernel_rfl)⟩)
    (by kernel_rfl)
end Go.Proofs.YtfeaekdhpkdljaaDoor
