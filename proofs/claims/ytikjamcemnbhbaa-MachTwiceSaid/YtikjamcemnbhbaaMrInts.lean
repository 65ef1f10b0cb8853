/- meddlerref8.Ints at two equal rows; rows of rows that a law keeps. -/
import Derived.Test.YtikjamcemnbhbaaMrPkG
import Derived.Test.YtikjamcemnbhbaaMrPkF
import Derived.Test.YtikjamcemnbhbaaMrF26
namespace Go.Proofs.Ytikjamcemnbhbaa.Mr
open Go.RowKit Go.Proofs.YtikjamcemnbhbaaW.PrintWords Go.Proofs.YtikjamcemnbhbaaW.PrintLast Go.Proofs.YtikjamcemnbhbaaW.PrintMore
set_option linter.unusedVariables false
set_option linter.unusedSimpArgs false
theorem ints_l0 (a : List Int) (hl : a.length ≤ 1000000) : ∀ d i, a.length - i = d → Ev (fun k => meddlerref8_Ints.l0 k a a (i : Nat)) true := by
  intro d
  induction d with
  | zero =>
    intro i hi
    refine Ev_shift ?_
    simp only [meddlerref8_Ints.l0]
    exact Ev_neg (by omega) (Ev.now _)
  | succ d ih =>
    intro i hi
    refine Ev_shift ?_
    simp only [meddlerref8_Ints.l0]
    refine Ev_pos (by omega) (Ev_pos (by omega) (Ev_pos (by omega) (Ev_pos (by trivial) ?_)))
    rw [wrap_succ (n := a.length) (by omega) (by omega)]
    exact ih (i + 1) (by omega)
theorem ints_same (w : World) (a b : List Int) (hab : a = b) (hl : a.length ≤ 1000000) (A0 : Option Addr) (c0 : Nat) (A1 : Option Addr) (c1 : Nat) (h0 : Kd.C (Kd.int .i64) w A0 a.length a) (hc0 : a.length ≤ c0) (h1 : Kd.C (Kd.int .i64) w A1 b.length b) (hc1 : b.length ≤ c1) :
    Calls Try.prog 26 #[.slice A0 a.length c0, .slice A1 b.length c1] w fun e w' => e = .returned (.bool true) ∧ Below w.heap.size w w' := by
  subst hab
  have he : Ev (fun k => meddlerref8_Ints.f k a a) true := by
    simp only [meddlerref8_Ints.f]
    exact Ev_pos (by trivial) (ints_l0 a hl a.length 0 rfl)
  obtain ⟨k, hk⟩ := he.rounds
  exact (meddlerref8_Ints.calls k A0 c0 a A1 c1 a true w h0 hc0 h1 hc1 hk).mono fun e w' h => ⟨h.1, h.2.below⟩
/-- A row that was handed out, by its value. -/
def OwnOut (xs : List Int) (w : World) (e : Ending) (w' : World) : Prop := ∃ A c, e = .returned (.slice A xs.length c) ∧ Aside0 (w'.ownsRow w.heap.size 3 1 (.slice A xs.length c) xs.length (nums .i64 xs)) ∧ Below w.heap.size w w'
theorem Lv.varsO {L R F : Nat} {w : World} {ph : Ph} {cs : List S49} {nA : Nat} {s : St} (H : Lv L R F w ph cs nA s) (i : Int) :
    Calls Try.prog 25 #[.pointer (some ⟨ph.bm, 0, none⟩), .int .i64 i] w fun e w' => OwnOut (varsOf cs s i) w e w' :=
  (vars_calls w H.m i (varsOf_sm H.sm i)).mono fun e w' ⟨v, h1, h2, h3⟩ => by
    obtain ⟨A, c, rfl⟩ := own_slice h2
    exact ⟨A, c, h1, ⟨h2⟩, h3⟩
theorem own_below {w w' : World} {base n : Nat} {e : TypeId} {v : Value} {xs : List Value} (h : w.ownsRow base e 1 v n xs) (hb : Below w.heap.size w w') : w'.ownsRow base e 1 v n xs :=
  own_move h (fun k hv => hb.block k (h.lt k hv).2)
theorem own_chg {w w' : World} {base n lo hi : Nat} {e : TypeId} {v : Value} {xs : List Value} (h : w.ownsRow base e 1 v n xs) (hc : Chg lo hi w w') (hb : hi ≤ base) : w'.ownsRow base e 1 v n xs :=
  own_move h (fun k hv => hc.block k (h.lt k hv).2 (by have := (h.lt k hv).1; omega))
theorem own_setc {w : World} {base n : Nat} {e : TypeId} {v : Value} {xs : List Value} (h : w.ownsRow base e 1 v n xs) {a : Addr} (ha : a.block < base) (x : Value) : (w.setCell a x).ownsRow base e 1 v n xs :=
  own_move h (fun k hv => Below.heap_setCell w a x k (by have := (h.lt k hv).1; omega))
end Go.Proofs.Ytikjamcemnbhbaa.Mr
