/- What the reference's order comes to. Nothing of a walk stands here. -/
import Derived.Test.YtadnjibgdpjnlaaRpPlA
import Derived.Test.YtadnjibgdpjnlaaRpF16
namespace Go.Proofs.Ytadnjibgdpjnlaa.Rp
open Go.RowKit Go.Proofs.YtadnjibgdpjnlaaW.PrintWords Go.Proofs.YtadnjibgdpjnlaaW.PrintLast Go.Sort Go.Lib
theorem order_loop (xs ys : List Int) (hx : xs.length = 6) (hy : ys.length = 6) : ∀ (d i : Nat), i + d = 6 → Ev (fun k => meddlerref15_Order.l0 k xs ys (i : Int)) (orV (List.zipWith cmpV (xs.drop i) (ys.drop i))) := by
  intro d
  induction d with
  | zero =>
    intro i hi
    refine Ev_shift ?_
    simp only [meddlerref15_Order.l0]
    refine Ev_neg (by omega) ?_
    rw [List.drop_eq_nil_of_le (by omega)]
    exact Ev.now _
  | succ d ih =>
    intro i hi
    refine Ev_shift ?_
    simp only [meddlerref15_Order.l0]
    refine Ev_pos (by omega) (Ev_pos (by omega) (Ev_pos (by omega) (Ev_pos (by omega) ?_)))
    rw [List.drop_eq_getElem_cons (by omega : i < xs.length), List.drop_eq_getElem_cons (by omega : i < ys.length), rd_at xs i (by omega), rd_at ys i (by omega), List.zipWith_cons_cons]
    unfold orV
    by_cases h : xs[i] < ys[i]
    · refine Ev_pos h ?_
      have e : cmpV xs[i] ys[i] = -1 := by unfold cmpV; rw [if_pos h]
      rw [e, if_neg (by decide)]; exact Ev.now _
    · refine Ev_neg h ?_
      by_cases h' : ys[i] < xs[i]
      · refine Ev_pos h' ?_
        have e : cmpV xs[i] ys[i] = 1 := by unfold cmpV; rw [if_neg h, if_pos h']
        rw [e, if_neg (by decide)]; exact Ev.now _
      · refine Ev_neg h' ?_
        have e : cmpV xs[i] ys[i] = 0 := by unfold cmpV; rw [if_neg h, if_neg h']
        rw [e, if_pos rfl, wrap_succ (show i < 6 by omega) (by omega)]
        exact ih (i + 1) (by omega)
theorem order_ev (x y : S24) : Ev (fun k => meddlerref15_Order.f k x.f0 x.f1 x.f2 x.f3 x.f4 x.f5 y.f0 y.f1 y.f2 y.f3 y.f4 y.f5) (cmpR x y) :=
  order_loop [x.f0, x.f1, x.f2, x.f3, x.f4, x.f5] [y.f0, y.f1, y.f2, y.f3, y.f4, y.f5] rfl rfl 6 0 (by omega)
theorem cmpR_neg (x y : S24) : cmpR x y < 0 ↔ Lt x y := by simp [Lt, ltOf]
theorem orV_zero : ∀ a b : List Int, a.length = b.length → orV (List.zipWith cmpV a b) = 0 → a = b
  | [], [], _, _ => rfl
  | a :: us, b :: vs, h, h1 => by
    rw [List.zipWith_cons_cons] at h1
    unfold orV at h1
    have hc : cmpV a b = 0 → a = b := by unfold cmpV; split; · intro h; cases h
                                         split
                                         · intro h; cases h
                                         · intro _; omega
    by_cases e : cmpV a b = 0
    · rw [if_pos e] at h1
      rw [hc e, orV_zero us vs (by simpa using h) h1]
    · rw [if_neg e] at h1; exact absurd h1 e
theorem orV_self : ∀ a : List Int, orV (List.zipWith cmpV a a) = 0
  | [] => rfl
  | a :: us => by
    have e : cmpV a a = 0 := by simp [cmpV]
    rw [List.zipWith_cons_cons]; unfold orV; rw [if_pos e, orV_self us]
theorem cmpR_zero (x y : S24) : cmpR x y = 0 ↔ x = y := by
  constructor
  · intro h
    have := orV_zero (keyR x) (keyR y) rfl h
    obtain ⟨a, b, c, d, e, f⟩ := x
    obtain ⟨a', b', c', d', e', f'⟩ := y
    simpa [keyR] using this
  · rintro rfl; exact orV_self (keyR x)
end Go.Proofs.Ytadnjibgdpjnlaa.Rp
