/- The reader answers, with enough fuel: each function takes tokens, or fails. Texts as pieces: what the lexer makes of them; what its tokens tell. Expressions: what was read is well formed; printed, it is read as it was, or too deep. An expression that was read has no more nodes than tokens; its text is no longer than 30 times that. meddlerref5.SameExpr: a well formed expression is the same as itself. Texts of one thread whose first statement sets x: how they are read; ShowExprs in plain words. -/
import Derived.Test.YtfeaekdhpkdljaaDoorRdParse
import Derived.Test.YtfeaekdhpkdljaaDoorShExpr
import Derived.Lib.ItoaLen
import Derived.StillTailTactics
namespace Go.Proofs.YtfeaekdhpkdljaaDoor.Rd
open Go.RowKit Go.Proofs.YtfeaekdhpkdljaaDoorW.PrintWords Go.Proofs.YtfeaekdhpkdljaaDoorW.PrintLast Go.Proofs.YtfeaekdhpkdljaaDoor.Sh
set_option linter.unusedVariables false
set_option linter.unusedSimpArgs false
def mS (ts : List S86) (s : Rs) : Nat := if s.e = 0 then ts.length - s.at_ + 1 else 0
/-- Behind s' no more is left than behind s; and an error stays. -/
def Le (ts : List S86) (s s' : Rs) : Prop := (s.e ≠ 0 → s' = s) ∧ mS ts s' ≤ mS ts s
def Ok {α : Type} (ts : List S86) (o : Option (α × Rs)) (s : Rs) : Prop := ∃ r, o = some r ∧ Le ts s r.2
section
variable {ts : List S86} {en : Int} {s s' s'' : Rs} {x : ByteArray}
theorem Le.refl (ts : List S86) (s : Rs) : Le ts s s := ⟨fun _ => rfl, Nat.le_refl _⟩
theorem Le.trans (h : Le ts s s') (k : Le ts s' s'') : Le ts s s'' := ⟨fun he => by have := h.1 he; subst this; exact k.1 he, Nat.le_trans k.2 h.2⟩
theorem Ok.here {α : Type} {r : α × Rs} (h : Le ts s r.2) : Ok ts (some r) s := ⟨r, rfl, h⟩
theorem Ok.bind {α β : Type} {o : Option (α × Rs)} {f : α × Rs → Option (β × Rs)} (h : Ok ts o s') (hs : Le ts s s') (hf : ∀ r : α × Rs, Le ts s' r.2 → Ok ts (f r) r.2) : Ok ts (o.bind f) s := by
  obtain ⟨r, rfl, hr⟩ := h
  obtain ⟨q, hq, hl⟩ := hf r hr
  exact ⟨q, hq, hs.trans (hr.trans hl)⟩
theorem Ok.from {α : Type} {o : Option (α × Rs)} (h : Ok ts o s') (hs : Le ts s s') : Ok ts o s := by
  obtain ⟨r, hr, hl⟩ := h
  exact ⟨r, hr, hs.trans hl⟩
theorem mS_pos (h : s.e = 0) : 1 ≤ mS ts s := by unfold mS; rw [if_pos h]; exact Nat.le_add_left _ _
theorem isS_zero (h : isS ts en s x = true) : s.e = 0 := by
  unfold isS at h
  simp only [Bool.and_eq_true, decide_eq_true_eq] at h
  exact h.1
theorem step_mS (h : s.e = 0) (hi : s.at_ < ts.length) : mS ts (stepS s) + 1 = mS ts s := by
  unfold mS
  rw [if_pos h, if_pos (show (stepS s).e = 0 from h)]
  show ts.length - (s.at_ + 1) + 1 + 1 = ts.length - s.at_ + 1
  omega
theorem lt_step (h : isS ts en s x = true) : mS ts (stepS s) + 1 = mS ts s := step_mS (isS_zero h) (isS_in h)
theorem le_step (h : isS ts en s x = true) : Le ts s (stepS s) := ⟨fun he => absurd (isS_zero h) he, by have := lt_step h; omega⟩
theorem fail_mS {e : Int} (he : e ≠ 0) : mS ts (failS ts en s e) = 0 := by
  unfold failS mS
  by_cases h : s.e = 0
  · rw [if_pos h, if_neg (show ¬ e = 0 from he)]
  · rw [if_neg h, if_neg h]
theorem le_fail (e : Int) (he : e ≠ 0) : Le ts s (failS ts en s e) := ⟨fun h => by unfold failS; rw [if_neg h], by rw [fail_mS he]; exact Nat.zero_le _⟩
theorem fail_e {e : Int} (he : e ≠ 0) : (failS ts en s e).e ≠ 0 := by
  unfold failS
  by_cases h : s.e = 0
  · rw [if_pos h]; exact he
  · rw [if_neg h]; exact h
theorem le_need : Le ts s (needS ts en s x) := by
  unfold needS
  split
  · exact le_step (by assumption)
  · exact le_fail 2 (by decide)
theorem lt_need (h : s.e = 0) : mS ts (needS ts en s x) + 1 ≤ mS ts s := by
  unfold needS
  split
  · exact Nat.le_of_eq (lt_step (by assumption))
  · rw [fail_mS (by decide)]; exact mS_pos h
theorem le_name : Le ts s (nameS ts en s).2 := by
  unfold nameS
  by_cases h : s.e = 0 ∧ (tokS ts en s).f0 = 2 ∧ wordB (tokS ts en s).f1 = false
  · rw [if_pos h]
    exact ⟨fun he => absurd h.1 he, by have := step_mS h.1 (tokS_in (ts := ts) (en := en) (s := s) (by rw [h.2.1]; decide)); show mS ts (stepS s) ≤ _; omega⟩
  · rw [if_neg h]; exact le_fail 2 (by decide)
theorem lt_name (he : s.e = 0) : mS ts (nameS ts en s).2 + 1 ≤ mS ts s := by
  unfold nameS
  by_cases h : s.e = 0 ∧ (tokS ts en s).f0 = 2 ∧ wordB (tokS ts en s).f1 = false
  · rw [if_pos h]
    exact Nat.le_of_eq (step_mS h.1 (tokS_in (ts := ts) (en := en) (s := s) (by rw [h.2.1]; decide)))
  · rw [if_neg h]
    show mS ts (failS ts en s 2) + 1 ≤ _
    rw [fail_mS (by decide)]; exact mS_pos he
theorem le_num : Le ts s (numS ts en s).2 := by
  unfold numS
  by_cases h : s.e = 0 ∧ (tokS ts en s).f0 = 1
  · rw [if_pos h]
    exact ⟨fun he => absurd h.1 he, by have := step_mS h.1 (tokS_in (ts := ts) (en := en) (s := s) (by rw [h.2]; decide)); show mS ts (stepS s) ≤ _; omega⟩
  · rw [if_neg h]; exact le_fail 2 (by decide)
theorem le_full (n m : Int) : Le ts s (fullS ts en s n m) := by
  unfold fullS
  split
  · exact le_fail 4 (by decide)
  · exact Le.refl _ _
theorem le_size : Le ts s (sizeS ts en s) := by
  unfold sizeS
  split
  · exact le_fail 2 (by decide)
  · exact Le.refl _ _
theorem le_relL : ∀ (l : List ByteArray) (i : Int), Le ts s (relL ts en s l i).2
  | [], i => le_fail 2 (by decide)
  | v :: l, i => by
    unfold relL
    split
    · exact le_step (by assumption)
    · exact le_relL l _
theorem le_rel : Le ts s (relS ts en s).2 := le_relL _ _
theorem le_glob : Le ts s (globS ts en s).2 := by
  unfold globS
  split
  · exact (le_name.trans le_need).trans ((le_step (by assumption)).trans le_num)
  · exact (le_name.trans le_need).trans le_num
theorem le_arr : Le ts s (arrS ts en s).2 := ((le_name.trans le_need).trans (le_size.trans le_num)).trans le_need
theorem le_deep (deep : Int) : Le ts s (if deep > 10 then failS ts en s 3 else s) := by
  split
  · exact le_fail 3 (by decide)
  · exact Le.refl _ _
end
theorem ex_ok (ts : List S86) (en : Int) : ∀ n : Nat,
    (∀ (s : Rs) (deep : Int), 6 * mS ts s + 1 ≤ n → Ok ts (primF ts en n s deep) s) ∧ (∀ (s : Rs) (deep : Int), 6 * mS ts s + 2 ≤ n → Ok ts (unaryF ts en n s deep) s) ∧
    (∀ (s : Rs) (deep : Int), 6 * mS ts s + 3 ≤ n → Ok ts (termF ts en n s deep) s) ∧ (∀ (a : S30) (s : Rs) (deep : Int), 6 * mS ts s + 1 ≤ n → Ok ts (termL ts en n a s deep) s) ∧
    (∀ (s : Rs) (deep : Int), 6 * mS ts s + 4 ≤ n → Ok ts (exprP ts en n s deep) s) ∧ (∀ (a : S30) (s : Rs) (deep : Int), 6 * mS ts s + 1 ≤ n → Ok ts (exprL ts en n a s deep) s)
  | 0 => ⟨fun _ _ h => absurd h (by omega), fun _ _ h => absurd h (by omega), fun _ _ h => absurd h (by omega), fun _ _ _ h => absurd h (by omega), fun _ _ h => absurd h (by omega), fun _ _ _ h => absurd h (by omega)⟩
  | n + 1 => by
    obtain ⟨ih1, ih2, ih3, ih4, ih5, ih6⟩ := ex_ok ts en n
    refine ⟨fun s deep h => ?_, fun s deep h => ?_, fun s deep h => ?_, fun a s deep h => ?_, fun s deep h => ?_, fun a s deep h => ?_⟩
    · simp only [primF]
      split
      · exact .here (Le.refl _ _)
      · split
        · exact .here le_num
        · split
          · exact .here (le_step (by assumption))
          · split
            · have hi : isS ts en s (⟨#[40]⟩ : ByteArray) = true := by assumption
              exact (ih5 _ _ (by have := lt_step hi; omega)).bind (le_step hi) (fun r _ => .here le_need)
            · split
              · have hi : isS ts en (nameS ts en s).2 (⟨#[91]⟩ : ByteArray) = true := by assumption
                have hn := le_name (ts := ts) (en := en) (s := s)
                exact (ih5 _ _ (by have := lt_step hi; have := hn.2; omega)).bind (hn.trans (le_step hi)) (fun r _ => .here le_need)
              · exact .here le_name
    · simp only [unaryF]
      have hd := le_deep (ts := ts) (en := en) (s := s) deep
      generalize (if deep > 10 then failS ts en s 3 else s) = s' at hd ⊢
      split
      · rename_i hi
        exact (ih2 _ _ (by have := lt_step hi; have := hd.2; omega)).bind (hd.trans (le_step hi)) (fun r _ => .here (Le.refl _ _))
      · exact (ih1 _ _ (by have := hd.2; omega)).from hd
    · simp only [termF]
      exact (ih2 s deep (by omega)).bind (Le.refl _ _) (fun r hr => ih4 _ _ _ (by have := hr.2; omega))
    · simp only [termL]
      split
      · exact .here (Le.refl _ _)
      · have go : ∀ (x : ByteArray) (op : Int), isS ts en s x = true → Ok ts ((unaryF ts en n (stepS s) deep).bind fun r => termL ts en n (binE op a r.1) r.2 deep) s := fun x op hi =>
          (ih2 _ _ (by have := lt_step hi; omega)).bind (le_step hi) (fun r hr => ih4 _ _ _ (by have := lt_step hi; have := hr.2; omega))
        split
        · exact go _ _ (by assumption)
        · split
          · exact go _ _ (by assumption)
          · split
            · exact go _ _ (by assumption)
            · exact .here (Le.refl _ _)
    · simp only [exprP]
      exact (ih3 s deep (by omega)).bind (Le.refl _ _) (fun r hr => ih6 _ _ _ (by have := hr.2; omega))
    · simp only [exprL]
      split
      · exact .here (Le.refl _ _)
      · have go : ∀ (x : ByteArray) (op : Int), isS ts en s x = true → Ok ts ((termF ts en n (stepS s) deep).bind fun r => exprL ts en n (binE op a r.1) r.2 deep) s := fun x op hi =>
          (ih3 _ _ (by have := lt_step hi; omega)).bind (le_step hi) (fun r hr => ih6 _ _ _ (by have := lt_step hi; have := hr.2; omega))
        split
        · exact go _ _ (by assumption)
        · split
          · exact go _ _ (by assumption)
          · exact .here (Le.refl _ _)
theorem cd_ok (ts : List S86) (en : Int) : ∀ n : Nat,
    (∀ (s : Rs) (deep : Int), 6 * mS ts s + 5 ≤ n → Ok ts (atomF ts en n s deep) s) ∧ (∀ (s : Rs) (deep : Int), 6 * mS ts s + 6 ≤ n → Ok ts (conjF ts en n s deep) s) ∧ (∀ (a : S33) (s : Rs) (deep : Int), 6 * mS ts s + 1 ≤ n → Ok ts (conjL ts en n a s deep) s) ∧
    (∀ (s : Rs) (deep : Int), 6 * mS ts s + 7 ≤ n → Ok ts (condP ts en n s deep) s) ∧ (∀ (a : S33) (s : Rs) (deep : Int), 6 * mS ts s + 1 ≤ n → Ok ts (condL ts en n a s deep) s)
  | 0 => ⟨fun _ _ h => absurd h (by omega), fun _ _ h => absurd h (by omega), fun _ _ _ h => absurd h (by omega), fun _ _ h => absurd h (by omega), fun _ _ _ h => absurd h (by omega)⟩
  | n + 1 => by
    obtain ⟨ih1, ih2, ih3, ih4, ih5⟩ := cd_ok ts en n
    have ihE := (ex_ok ts en n).2.2.2.2.1
    refine ⟨fun s deep h => ?_, fun s deep h => ?_, fun a s deep h => ?_, fun s deep h => ?_, fun a s deep h => ?_⟩
    · simp only [atomF]
      have hd := le_deep (ts := ts) (en := en) (s := s) deep
      generalize (if deep > 10 then failS ts en s 3 else s) = s' at hd ⊢
      split
      · have hi : isS ts en s' (⟨#[33]⟩ : ByteArray) = true := by assumption
        exact (ih1 _ _ (by have := lt_step hi; have := hd.2; omega)).bind (hd.trans (le_step hi)) (fun r _ => .here (Le.refl _ _))
      · split
        · have hi : isS ts en s' (⟨#[91]⟩ : ByteArray) = true := by assumption
          exact (ih4 _ _ (by have := lt_step hi; have := hd.2; omega)).bind (hd.trans (le_step hi)) (fun r _ => .here le_need)
        · refine (ihE s' deep (by have := hd.2; omega)).bind hd (fun r hr => ?_)
          have hl := le_rel (ts := ts) (en := en) (s := r.2)
          exact (ihE _ deep (by have := hd.2; have := hr.2; have := hl.2; omega)).bind hl (fun q _ => .here (Le.refl _ _))
    · simp only [conjF]
      exact (ih1 s deep (by omega)).bind (Le.refl _ _) (fun r hr => ih3 _ _ _ (by have := hr.2; omega))
    · simp only [conjL]
      split
      · have hi : isS ts en s (⟨#[38, 38]⟩ : ByteArray) = true := by assumption
        exact (ih1 _ _ (by have := lt_step hi; omega)).bind (le_step hi) (fun r hr => ih3 _ _ _ (by have := lt_step hi; have := hr.2; omega))
      · exact .here (Le.refl _ _)
    · simp only [condP]
      exact (ih2 s deep (by omega)).bind (Le.refl _ _) (fun r hr => ih5 _ _ _ (by have := hr.2; omega))
    · simp only [condL]
      split
      · have hi : isS ts en s (⟨#[124, 124]⟩ : ByteArray) = true := by assumption
        exact (ih2 _ _ (by have := lt_step hi; omega)).bind (le_step hi) (fun r hr => ih5 _ _ _ (by have := lt_step hi; have := hr.2; omega))
      · exact .here (Le.refl _ _)
/-- As Ok; and tokens were taken, if there was no error. -/
def Okt {α : Type} (ts : List S86) (o : Option (α × Rs)) (s : Rs) : Prop := ∃ r, o = some r ∧ Le ts s r.2 ∧ (s.e = 0 → mS ts r.2 + 1 ≤ mS ts s)
theorem Ok.strict {α : Type} {ts : List S86} {o : Option (α × Rs)} {s s' : Rs} (h : Ok ts o s') (hs : Le ts s s') (hm : s.e = 0 → mS ts s' + 1 ≤ mS ts s) : Okt ts o s := by
  obtain ⟨r, hr, hl⟩ := h
  exact ⟨r, hr, hs.trans hl, fun he => by have := hm he; have := hl.2; omega⟩
theorem Okt.ok {α : Type} {ts : List S86} {o : Option (α × Rs)} {s : Rs} (h : Okt ts o s) : Ok ts o s := ⟨h.choose, h.choose_spec.1, h.choose_spec.2.1⟩
theorem Okt.deep {α : Type} {ts : List S86} {en : Int} {o : Option (α × Rs)} {s : Rs} (deep : Int) (h : Okt ts o (if deep > 10 then failS ts en s 3 else s)) : Okt ts o s := by
  obtain ⟨r, hr, hl, hm⟩ := h
  have hd := le_deep (ts := ts) (en := en) (s := s) deep
  refine ⟨r, hr, hd.trans hl, fun he => ?_⟩
  by_cases h10 : deep > 10
  · rw [if_pos h10] at hl
    have := hl.2
    rw [fail_mS (by decide)] at this
    have := mS_pos (ts := ts) he
    omega
  · rw [if_neg h10] at hm
    exact hm he
theorem sm_ok (ts : List S86) (en : Int) : ∀ n : Nat,
    (∀ (s : Rs) (deep : Int), 6 * mS ts s + 6 ≤ n → Okt ts (stmtP ts en n s deep) s) ∧ (∀ (s : Rs) (deep : Int), 6 * mS ts s + 5 ≤ n → Okt ts (stmtG ts en n s deep) s) ∧
    (∀ (s : Rs) (deep : Int), 6 * mS ts s + 8 ≤ n → Ok ts (blockF ts en n s deep) s) ∧ (∀ (l : List S54) (s : Rs) (deep : Int), 6 * mS ts s + 7 ≤ n → Ok ts (blockL ts en n l s deep) s)
  | 0 => ⟨fun _ _ h => absurd h (by omega), fun _ _ h => absurd h (by omega), fun _ _ h => absurd h (by omega), fun _ _ _ h => absurd h (by omega)⟩
  | n + 1 => by
    obtain ⟨ih1, ih2, ih3, ih4⟩ := sm_ok ts en n
    have ihE := (ex_ok ts en n).2.2.2.2.1
    have ihC := (cd_ok ts en n).2.2.2.1
    refine ⟨fun s deep h => ?_, fun s deep h => ?_, fun s deep h => ?_, fun l s deep h => ?_⟩
    · simp only [stmtP]
      have hd := le_deep (ts := ts) (en := en) (s := s) deep
      exact (ih2 _ deep (by have := hd.2; omega)).deep
    · simp only [stmtG]
      have st : ∀ {x : ByteArray}, isS ts en s x = true → (s.e = 0 → mS ts (stepS s) + 1 ≤ mS ts s) := fun hi _ => Nat.le_of_eq (lt_step hi)
      split
      · rename_i hi
        exact (Ok.here (le_name.trans le_need)).strict (le_step hi) (st hi)
      · split
        · rename_i hi
          exact (Ok.here (le_name.trans le_need)).strict (le_step hi) (st hi)
        · split
          · rename_i hi
            have hm := lt_step hi
            refine Ok.strict (s' := stepS s) ?_ (le_step hi) (st hi)
            have hn := le_need (ts := ts) (en := en) (s := stepS s) (x := (⟨#[40]⟩ : ByteArray))
            refine (ihC _ deep (by have := hn.2; omega)).bind hn (fun r hr => ?_)
            have hn2 := le_need (ts := ts) (en := en) (s := r.2) (x := (⟨#[41]⟩ : ByteArray))
            refine (ih3 _ _ (by have := hn.2; have := hr.2; have := hn2.2; omega)).bind hn2 (fun q hq => ?_)
            split
            · rename_i hi2
              exact (ih3 _ _ (by have := lt_step hi2; have := hn.2; have := hr.2; have := hn2.2; have := hq.2; omega)).bind (le_step hi2) (fun _ _ => .here (Le.refl _ _))
            · exact .here (Le.refl _ _)
          · split
            · rename_i hi
              have hm := lt_step hi
              refine Ok.strict (s' := stepS s) ?_ (le_step hi) (st hi)
              have hn := le_need (ts := ts) (en := en) (s := stepS s) (x := (⟨#[40]⟩ : ByteArray))
              refine (ihC _ deep (by have := hn.2; omega)).bind hn (fun r hr => ?_)
              have hn2 := le_need (ts := ts) (en := en) (s := r.2) (x := (⟨#[41]⟩ : ByteArray))
              exact (ih3 _ _ (by have := hn.2; have := hr.2; have := hn2.2; omega)).bind hn2 (fun q hq => .here (Le.refl _ _))
            · split
              · rename_i hi
                have hm := lt_step hi
                refine Ok.strict (s' := stepS s) ?_ (le_step hi) (st hi)
                exact (ihC _ deep (by omega)).bind (Le.refl _ _) (fun r hr => .here le_need)
              · split
                · rename_i hi
                  exact (Ok.here le_need).strict (le_step hi) (st hi)
                · refine Ok.strict (s' := (nameS ts en s).2) ?_ le_name lt_name
                  have hn := le_name (ts := ts) (en := en) (s := s)
                  split
                  · rename_i hi
                    have hm := lt_step hi
                    refine (ihE _ _ (by have := hn.2; omega)).bind (le_step hi) (fun r hr => ?_)
                    have h1 := (le_need (ts := ts) (en := en) (s := r.2) (x := (⟨#[93]⟩ : ByteArray))).trans (le_need (x := (⟨#[61]⟩ : ByteArray)) (en := en))
                    exact (ihE _ _ (by have := hn.2; have := hr.2; have := h1.2; omega)).bind h1 (fun q hq => .here le_need)
                  · have h1 := le_need (ts := ts) (en := en) (s := (nameS ts en s).2) (x := (⟨#[61]⟩ : ByteArray))
                    exact (ihE _ _ (by have := hn.2; have := h1.2; omega)).bind h1 (fun q hq => .here le_need)
    · simp only [blockF]
      have h1 := le_need (ts := ts) (en := en) (s := s) (x := (⟨#[123]⟩ : ByteArray))
      exact (ih4 _ _ _ (by have := h1.2; omega)).bind h1 (fun r hr => .here le_need)
    · simp only [blockL]
      split
      · have he : s.e = 0 := by rename_i h; exact h.1
        obtain ⟨r, hr, hl, hm⟩ := ih1 s deep (by omega)
        rw [hr]
        exact (ih4 _ _ _ (by have := hm he; omega)).from hl
      · exact .here (Le.refl _ _)
theorem loc_ok (ts : List S86) (en : Int) : ∀ (n : Nat) (l : List ByteArray) (s : Rs), mS ts s + 1 ≤ n → Ok ts (locL ts en n l s) s
  | 0, _, _, h => absurd h (by omega)
  | n + 1, l, s, h => by
    simp only [locL]
    split
    · rename_i hi
      have h1 := ((le_full (ts := ts) (en := en) (s := stepS s) (l.length : Int) 6).trans (le_name (en := en))).trans (le_need (en := en) (x := (⟨#[59]⟩ : ByteArray)))
      exact (loc_ok ts en n _ _ (by have := h1.2; have := lt_step hi; omega)).from ((le_step hi).trans h1)
    · exact .here (Le.refl _ _)
theorem thr_ok (ts : List S86) (en : Int) (n : Nat) (s : Rs) (h : 6 * mS ts s + 7 ≤ n) : Ok ts (thrF ts en n s) s := by
  unfold thrF
  have h1 := (le_name (ts := ts) (en := en) (s := s)).trans (le_need (en := en) (x := (⟨#[123]⟩ : ByteArray)))
  refine (loc_ok ts en n _ _ (by have := h1.2; omega)).bind h1 (fun r hr => ?_)
  exact ((sm_ok ts en n).2.2.2 _ _ _ (by have := h1.2; have := hr.2; omega)).bind (Le.refl _ _) (fun q hq => .here le_need)
theorem thrL_ok (ts : List S86) (en : Int) (m : Nat) : ∀ (k : Nat) (T : List S52) (s : Rs), mS ts s + 1 ≤ k → 6 * mS ts s + 7 ≤ m → Ok ts (thrL ts en m k T s) s
  | 0, _, _, h, _ => absurd h (by omega)
  | k + 1, T, s, h, hm => by
    simp only [thrL]
    by_cases hc : s.e = 0 ∧ s.at_ < ts.length
    · rw [if_pos hc]
      have h0 := lt_need (ts := ts) (en := en) (s := s) (x := (⟨#[116, 104, 114, 101, 97, 100]⟩ : ByteArray)) hc.1
      have h1 := (le_need (ts := ts) (en := en) (s := s) (x := (⟨#[116, 104, 114, 101, 97, 100]⟩ : ByteArray))).trans (le_full (en := en) (T.length : Int) 4)
      have h2 := le_full (ts := ts) (en := en) (s := needS ts en s (⟨#[116, 104, 114, 101, 97, 100]⟩ : ByteArray)) (T.length : Int) 4
      exact (thr_ok ts en m _ (by have := h1.2; omega)).bind h1 (fun r hr => thrL_ok ts en m k _ _ (by have := hr.2; have := h2.2; omega) (by have := hr.2; have := h1.2; omega))
    · rw [if_neg hc]
      exact .here (Le.refl _ _)
theorem decl_ok (ts : List S86) (en : Int) : ∀ (n : Nat) (d : Dcl) (s : Rs), mS ts s + 1 ≤ n → Ok ts (declF ts en n d s) s
  | 0, _, _, h => absurd h (by omega)
  | n + 1, d, s, h => by
    simp only [declF]
    have go : ∀ {x : ByteArray} {d' : Dcl} {s' : Rs}, isS ts en s x = true → Le ts (stepS s) s' → Ok ts (declF ts en n d' s') s := fun hi hl =>
      (decl_ok ts en n _ _ (by have := hl.2; have := lt_step hi; omega)).from ((le_step hi).trans hl)
    split
    · split
      · exact go (by assumption) (((le_full _ _).trans le_glob).trans le_need)
      · split
        · exact go (by assumption) (((le_full _ _).trans le_arr).trans le_need)
        · split
          · exact go (by assumption) (((le_full _ _).trans le_name).trans le_need)
          · refine .here ?_
            show Le ts s (if s.at_ < ts.length then failS ts en s 2 else s)
            split
            · exact le_fail 2 (by decide)
            · exact Le.refl _ _
    · exact .here (Le.refl _ _)
theorem pars_ok (ts : List S86) (en : Int) (n : Nat) (h : 6 * ts.length + 13 ≤ n) : ∃ r, parsT ts en n = some r := by
  unfold parsT
  have h0 : mS ts ⟨0, 0, 0⟩ = ts.length + 1 := rfl
  obtain ⟨d, hd, hl⟩ := decl_ok ts en n ([], [], []) ⟨0, 0, 0⟩ (by omega)
  rw [hd]
  obtain ⟨t, ht, _⟩ := thrL_ok ts en n n [] d.2 (by have := hl.2; omega) (by have := hl.2; omega)
  simp only [Option.bind_some, ht]
  exact ⟨_, rfl⟩
theorem lexG_len (l : List Int) : ∀ (k at_ : Nat) (acc : List S86), acc.length ≤ 600 → (lexG l k at_ acc).1.length ≤ 600
  | 0, _, _, _ => by simp [lexG]
  | k + 1, at_, acc, h => by
    simp only [lexG]
    split
    · split
      · exact lexG_len l k _ _ h
      · split
        · rename_i he
          refine lexG_len l k _ _ ?_
          rw [List.length_append, List.length_singleton]
          unfold errL at he
          split at he
          · exact absurd he (by decide)
          · rename_i hc
            have h0 : (tokL (at_ : Int) (l.drop at_)).2.2 = 0 := he
            have : ¬ 600 ≤ acc.length := fun h6 => hc ⟨by rw [h0]; decide, h6⟩
            omega
        · simp
    · exact h
theorem lexF_len (l : List Int) : (lexF l).1.length ≤ 600 := by
  unfold lexF
  split
  · simp
  · exact lexG_len l _ _ _ (by simp)
/-- Parse answers whatever the text is. -/
theorem parse_ok (l : List Int) : ∃ r, parseF l 4000 = some r := by
  unfold parseF
  split
  · exact ⟨_, rfl⟩
  · exact pars_ok _ _ _ (by have := lexF_len l; omega)
end Go.Proofs.YtfeaekdhpkdljaaDoor.Rd
namespace Go.Proofs.YtfeaekdhpkdljaaDoor.Rd
open Go.RowKit Go.Proofs.YtfeaekdhpkdljaaDoorW.PrintWords Go.Proofs.YtfeaekdhpkdljaaDoorW.PrintLast Go.Proofs.YtfeaekdhpkdljaaDoor.Sh
set_option linter.unusedVariables false
set_option linter.unusedSimpArgs false
abbrev TD := Int × ByteArray × Int
def dataT (t : S86) : TD := (t.f0, t.f1, t.f2)
/-- A piece of a text: its bytes; the token that they are, none: blanks. -/
structure Pc where
  w : List Int
  d : Option TD
def pcB : List Pc → List Int
  | [] => []
  | p :: ps => p.w ++ pcB ps
def pcT : List Pc → List TD
  | [] => []
  | p :: ps => match p.d with
    | none => pcT ps
    | some d => d :: pcT ps
def pcP : List Pc → Nat → List S86
  | [], _ => []
  | p :: ps, i => match p.d with
    | none => pcP ps (i + p.w.length)
    | some d => ⟨d.1, d.2.1, d.2.2, (i : Int)⟩ :: pcP ps (i + p.w.length)
/-- Ahead of the bytes r, the piece is what it says. -/
def PcOK (p : Pc) (r : List Int) : Prop := match p.d with
  | none => ∃ c, p.w = [c] ∧ blankB c = true
  | some d => (∃ c t, p.w = c :: t ∧ blankB c = false) ∧ ∀ i : Int, tokL i (p.w ++ r) = (⟨d.1, d.2.1, d.2.2, i⟩, p.w.length, 0)
def Adj : List Pc → List Int → Prop
  | [], _ => True
  | p :: ps, r => PcOK p (pcB ps ++ r) ∧ Adj ps r
theorem pcB_app : ∀ (ps qs : List Pc), pcB (ps ++ qs) = pcB ps ++ pcB qs
  | [], _ => rfl
  | p :: ps, qs => by simp only [List.cons_append, pcB, pcB_app ps qs, List.append_assoc]
theorem pcT_app : ∀ (ps qs : List Pc), pcT (ps ++ qs) = pcT ps ++ pcT qs
  | [], _ => rfl
  | ⟨w, none⟩ :: ps, qs => by simp only [List.cons_append, pcT]; exact pcT_app ps qs
  | ⟨w, some d⟩ :: ps, qs => by simp only [List.cons_append, pcT]; rw [pcT_app ps qs]
theorem adj_app : ∀ (ps qs : List Pc) (r : List Int), Adj ps (pcB qs ++ r) → Adj qs r → Adj (ps ++ qs) r
  | [], _, _, _, h => h
  | p :: ps, qs, r, h, k => ⟨by show PcOK p (pcB (ps ++ qs) ++ r); rw [pcB_app, List.append_assoc]; exact h.1, adj_app ps qs r h.2 k⟩
theorem pcP_data : ∀ (ps : List Pc) (i : Nat), (pcP ps i).map dataT = pcT ps
  | [], _ => rfl
  | ⟨w, none⟩ :: ps, i => by simp only [pcP, pcT]; exact pcP_data ps _
  | ⟨w, some d⟩ :: ps, i => by simp only [pcP, pcT, List.map_cons]; rw [pcP_data ps _]; rfl
theorem pcP_len (ps : List Pc) (i : Nat) : (pcP ps i).length = (pcT ps).length := by rw [← pcP_data ps i, List.length_map]
theorem pc_len : ∀ (ps : List Pc) (r : List Int), Adj ps r → ps.length ≤ (pcB ps).length
  | [], _, _ => Nat.le_refl _
  | ⟨w, none⟩ :: ps, r, h => by
    obtain ⟨c, hw, _⟩ := h.1
    have := pc_len ps r h.2
    simp only [pcB, List.length_append, List.length_cons, show w = [c] from hw, List.length_nil]; omega
  | ⟨w, some d⟩ :: ps, r, h => by
    obtain ⟨⟨c, t, hw, _⟩, _⟩ := h.1
    have := pc_len ps r h.2
    simp only [pcB, List.length_append, List.length_cons, show w = c :: t from hw]; omega
theorem getD_drop {l : List Int} {i : Nat} {c : Int} {t : List Int} (h : l.drop i = c :: t) : l.getD i 0 = c ∧ i < l.length := by
  have hi : i < l.length := by
    rcases Nat.lt_or_ge i l.length with h1 | h1
    · exact h1
    · rw [List.drop_eq_nil_of_le h1] at h; cases h
  rw [List.drop_eq_getElem_cons hi] at h
  injection h with h1 _
  exact ⟨by simp [hi, h1], hi⟩
theorem drop_app {l w r : List Int} {i : Nat} (h : l.drop i = w ++ r) : l.drop (i + w.length) = r := by
  rw [← List.drop_drop, h, List.drop_left]
/-- The lexer over pieces. -/
theorem lex_run (l : List Int) : ∀ (ps : List Pc) (k i : Nat) (acc : List S86) (r : List Int), l.drop i = pcB ps ++ r → Adj ps r → acc.length + (pcT ps).length ≤ 600 →
    lexG l (k + ps.length) i acc = lexG l k (i + (pcB ps).length) (acc ++ pcP ps i)
  | [], k, i, acc, r, _, _, _ => by simp [pcB, pcP]
  | ⟨w, none⟩ :: ps, k, i, acc, r, hd, ha, hn => by
    obtain ⟨c, hw, hb⟩ := ha.1
    replace hw : w = [c] := hw
    subst hw
    have hd' : l.drop i = c :: (pcB ps ++ r) := hd
    obtain ⟨hg, hi⟩ := getD_drop hd'
    have ih := lex_run l ps k (i + 1) acc r (drop_app (w := [c]) hd') ha.2 hn
    rw [List.length_cons, ← Nat.add_assoc]
    simp only [lexG]
    rw [if_pos hi, hg, if_pos hb, ih]
    simp only [pcB, pcP, List.length_append, List.length_singleton]
    rw [Nat.add_assoc]
  | ⟨w, some d⟩ :: ps, k, i, acc, r, hd, ha, hn => by
    obtain ⟨⟨c, t, hw, hb⟩, ht⟩ := ha.1
    have hd1 : l.drop i = w ++ (pcB ps ++ r) := by rw [hd]; simp only [pcB, List.append_assoc]
    have ht' := ht (i : Int)
    replace ht' : tokL (i : Int) (w ++ (pcB ps ++ r)) = (⟨d.1, d.2.1, d.2.2, (i : Int)⟩, w.length, 0) := ht'
    rw [← hd1] at ht'
    have hn' : acc.length + ((pcT ps).length + 1) ≤ 600 := hn
    have ih := lex_run l ps k (i + w.length) (acc ++ [⟨d.1, d.2.1, d.2.2, (i : Int)⟩]) r (drop_app hd1) ha.2 (by rw [List.length_append, List.length_singleton]; omega)
    replace hw : w = c :: t := hw
    have hd2 : l.drop i = c :: (t ++ (pcB ps ++ r)) := by rw [hd1, hw]; rfl
    obtain ⟨hg, hi⟩ := getD_drop hd2
    rw [List.length_cons, ← Nat.add_assoc]
    simp only [lexG]
    rw [if_pos hi, hg, if_neg (by rw [hb]; decide), ht']
    have he : errL acc.length 0 = 0 := by unfold errL; rw [if_neg (by omega)]
    simp only [he, if_true]
    rw [ih]
    simp only [pcB, pcP, List.length_append, List.append_assoc, List.singleton_append]
    rw [Nat.add_assoc]
theorem lex_over (l : List Int) : ∀ (ps : List Pc) (k i : Nat) (acc : List S86) (r : List Int), l.drop i = pcB ps ++ r → Adj ps r → acc.length ≤ 600 → 600 < acc.length + (pcT ps).length → ps.length ≤ k → (lexG l k i acc).2.2 = 4
  | [], k, i, acc, r, _, _, h1, h2, _ => by simp [pcT] at h2; omega
  | ⟨w, none⟩ :: ps, 0, i, acc, r, _, _, _, _, hk => by simp at hk
  | ⟨w, none⟩ :: ps, k + 1, i, acc, r, hd, ha, hn, h2, hk => by
    obtain ⟨c, hw, hb⟩ := ha.1
    replace hw : w = [c] := hw
    subst hw
    have hd' : l.drop i = c :: (pcB ps ++ r) := hd
    obtain ⟨hg, hi⟩ := getD_drop hd'
    simp only [lexG]
    rw [if_pos hi, hg, if_pos hb]
    exact lex_over l ps k (i + 1) acc r (drop_app (w := [c]) hd') ha.2 hn h2 (by simpa using hk)
  | ⟨w, some d⟩ :: ps, 0, i, acc, r, _, _, _, _, hk => by simp at hk
  | ⟨w, some d⟩ :: ps, k + 1, i, acc, r, hd, ha, hn, h2, hk => by
    obtain ⟨⟨c, t, hw, hb⟩, ht⟩ := ha.1
    have hd1 : l.drop i = w ++ (pcB ps ++ r) := by rw [hd]; simp only [pcB, List.append_assoc]
    have ht' : tokL (i : Int) (w ++ (pcB ps ++ r)) = (⟨d.1, d.2.1, d.2.2, (i : Int)⟩, w.length, 0) := ht (i : Int)
    rw [← hd1] at ht'
    have h2' : 600 < acc.length + ((pcT ps).length + 1) := h2
    have hk' : ps.length + 1 ≤ k + 1 := hk
    replace hw : w = c :: t := hw
    have hd2 : l.drop i = c :: (t ++ (pcB ps ++ r)) := by rw [hd1, hw]; rfl
    obtain ⟨hg, hi⟩ := getD_drop hd2
    simp only [lexG]
    rw [if_pos hi, hg, if_neg (by rw [hb]; decide), ht']
    by_cases h6 : 600 ≤ acc.length
    · have he : errL acc.length 0 = 4 := by unfold errL; rw [if_pos ⟨by decide, h6⟩]
      simp only [he]
      rw [if_neg (by decide)]
    · have he : errL acc.length 0 = 0 := by unfold errL; rw [if_neg (fun h => h6 h.2)]
      simp only [he, if_true]
      exact lex_over l ps k (i + w.length) _ r (drop_app hd1) ha.2 (by rw [List.length_append, List.length_singleton]; omega) (by rw [List.length_append, List.length_singleton]; omega) (by omega)
/-- A text that is pieces: its tokens, or the error 4. -/
theorem lex_text (ps : List Pc) (ha : Adj ps []) : ((pcB ps).length ≤ 2000 ∧ (pcT ps).length ≤ 600 ∧ lexF (pcB ps) = (pcP ps 0, ((pcB ps).length : Int), 0)) ∨ (lexF (pcB ps)).2.2 = 4 := by
  unfold lexF
  by_cases h2 : 2000 < (pcB ps).length
  · right; rw [if_pos h2]
  · rw [if_neg h2]
    have hl := pc_len ps [] ha
    by_cases h6 : (pcT ps).length ≤ 600
    · left
      refine ⟨by omega, h6, ?_⟩
      have := lex_run (pcB ps) ps ((pcB ps).length + 1 - ps.length) 0 [] [] (by simp) ha (by simpa using h6)
      rw [show (pcB ps).length + 1 - ps.length + ps.length = (pcB ps).length + 1 by omega] at this
      rw [this]
      obtain ⟨k, hk⟩ : ∃ k, (pcB ps).length + 1 - ps.length = k + 1 := ⟨(pcB ps).length - ps.length, by omega⟩
      rw [hk]
      simp only [lexG]
      rw [if_neg (by omega)]
      simp
    · right
      exact lex_over (pcB ps) ps _ 0 [] [] (by simp) ha (by simp) (by simpa using (by omega : 600 < (pcT ps).length)) (by omega)
/-- What was read stays at the front. -/
theorem lex_front (l : List Int) : ∀ (k i : Nat) (acc : List S86), (lexG l k i acc).2.2 = 0 → ∃ m, (lexG l k i acc).1 = acc ++ m
  | 0, _, _, h => absurd h (by simp [lexG])
  | k + 1, i, acc, h => by
    simp only [lexG] at h ⊢
    split at h
    · rename_i hi
      rw [if_pos hi]
      split at h
      · rename_i hb
        rw [if_pos hb]
        exact lex_front l k _ _ h
      · rename_i hb
        rw [if_neg hb]
        split at h
        · rename_i he
          rw [if_pos he]
          obtain ⟨m, hm⟩ := lex_front l k _ _ h
          exact ⟨[(tokL (i : Int) (l.drop i)).1] ++ m, by rw [hm, List.append_assoc]⟩
        · rename_i he
          exact absurd h he
    · rename_i hi
      rw [if_neg hi]
      exact ⟨[], by simp⟩
/-- A name: a letter, then letters and digits, at most eight. -/
def NameOK (nm : ByteArray) : Prop := ∃ w, nm = strOfNums w ∧ w.length ≤ 8 ∧ (∃ c t, w = c :: t ∧ letB c = true) ∧ ∀ x ∈ w, (digB x || letB x) = true
def TokOK (t : S86) : Prop := (t.f0 = 1 → 0 ≤ t.f2 ∧ t.f2 ≤ 2147483647) ∧ (t.f0 = 2 → wordB t.f1 = false → NameOK t.f1)
theorem nameN_all : ∀ (l : List Int), ∀ x ∈ l.take (nameN l), (digB x || letB x) = true
  | [], x, h => by simp at h
  | c :: t, x, h => by
    simp only [nameN] at h
    split at h
    · rename_i hc
      rw [List.take_succ_cons] at h
      rcases List.mem_cons.1 h with h | h
      · rw [h]; exact hc
      · exact nameN_all t x h
    · simp at h
theorem numR_two (n : Int) (h : ¬ numR n < 0) : 0 ≤ numR n ∧ numR n ≤ 2147483647 := by
  unfold numR at h ⊢
  split at h
  · omega
  · rename_i hc
    rw [if_neg hc]
    omega
theorem tok_ok (i : Int) (l : List Int) (h : (tokL i l).2.2 = 0) : TokOK (tokL i l).1 := by
  cases l with
  | nil => exact absurd (show (2 : Int) = 0 from h) (by decide)
  | cons c t =>
    simp only [tokL] at h ⊢
    by_cases h1 : digB c = true
    · rw [if_pos h1] at h ⊢
      refine ⟨fun _ => numR_two _ (fun hn => ?_), fun h2 => absurd (show (1 : Int) = 2 from h2) (by decide)⟩
      rw [if_pos hn] at h
      exact absurd (show (7 : Int) = 0 from h) (by decide)
    · rw [if_neg h1] at h ⊢
      by_cases h2 : letB c = true
      · rw [if_pos h2] at h ⊢
        refine ⟨fun h3 => absurd (show (2 : Int) = 1 from h3) (by decide), fun _ hw => ⟨_, rfl, ?_, ?_, nameN_all (c :: t)⟩⟩
        · have hn : ¬ 8 < nameN (c :: t) := fun h8 => by
            rw [if_pos ⟨h8, hw⟩] at h
            exact absurd (show (4 : Int) = 0 from h) (by decide)
          rw [List.length_take]
          omega
        · refine ⟨c, t.take (nameN t), ?_, h2⟩
          simp only [nameN]
          rw [if_pos (by rw [h2, Bool.or_true]), List.take_succ_cons]
      · rw [if_neg h2]
        exact ⟨fun h3 => absurd (show (3 : Int) = 1 from h3) (by decide), fun h3 => absurd (show (3 : Int) = 2 from h3) (by decide)⟩
theorem lex_toks (l : List Int) : ∀ (k i : Nat) (acc : List S86), (lexG l k i acc).2.2 = 0 → (∀ t ∈ acc, TokOK t) → ∀ t ∈ (lexG l k i acc).1, TokOK t
  | 0, _, _, h, _ => absurd h (by simp [lexG])
  | k + 1, i, acc, h, ha => by
    simp only [lexG] at h ⊢
    split at h
    · rename_i hi
      rw [if_pos hi]
      split at h
      · rename_i hb
        rw [if_pos hb]
        exact lex_toks l k _ _ h ha
      · rename_i hb
        rw [if_neg hb]
        split at h
        · rename_i he
          rw [if_pos he]
          refine lex_toks l k _ _ h (fun t ht => ?_)
          rcases List.mem_append.1 ht with ht | ht
          · exact ha t ht
          · rw [List.mem_singleton.1 ht]
            exact tok_ok _ _ (errL_zero he)
        · rename_i he
          exact absurd h he
    · rename_i hi
      rw [if_neg hi]
      exact ha
theorem lexF_toks (l : List Int) (h : (lexF l).2.2 = 0) : ∀ t ∈ (lexF l).1, TokOK t := by
  unfold lexF at h ⊢
  split at h
  · exact absurd (show (4 : Int) = 0 from h) (by decide)
  · rename_i hc
    rw [if_neg hc]
    exact lex_toks l _ _ _ h (fun _ ht => by simp at ht)
/-- Bytes as numbers. -/
def bts (b : ByteArray) : List Int := b.data.toList.map (fun c => (c.toNat : Int))
theorem bts_app (a b : ByteArray) : bts (a ++ b) = bts a ++ bts b := by unfold bts; rw [← List.map_append]; simp
theorem bts_nums (w : List Int) (h : ∀ x ∈ w, 0 ≤ x ∧ x < 256) : bts (strOfNums w) = w := by
  unfold bts strOfNums
  simp only [List.map_map]
  conv => rhs; rw [← List.map_id w]
  refine List.map_congr_left (fun x hx => ?_)
  have := h x hx
  simp only [Function.comp, id, UInt8.toNat_ofNat']
  omega
theorem alnum_range {x : Int} (h : (digB x || letB x) = true) : 0 ≤ x ∧ x < 256 := by
  unfold digB letB at h
  simp only [Bool.or_eq_true, Bool.and_eq_true, decide_eq_true_eq] at h
  omega
theorem let_not_dig {x : Int} (h : letB x = true) : digB x = false := by
  unfold letB at h
  unfold digB
  simp only [Bool.and_eq_true, decide_eq_true_eq] at h
  simp only [Bool.and_eq_false_iff, decide_eq_false_iff_not]
  omega
theorem let_not_blank {x : Int} (h : letB x = true) : blankB x = false := by
  unfold letB at h
  unfold blankB
  simp only [Bool.and_eq_true, decide_eq_true_eq] at h
  simp only [Bool.or_eq_false_iff, decide_eq_false_iff_not]
  omega
theorem dig_not_blank {x : Int} (h : digB x = true) : blankB x = false := by
  unfold digB at h
  unfold blankB
  simp only [Bool.and_eq_true, decide_eq_true_eq] at h
  simp only [Bool.or_eq_false_iff, decide_eq_false_iff_not]
  omega
/-- Behind a word or number: no letter, no digit. -/
def HeadOK (r : List Int) : Prop := ∀ c t, r = c :: t → (digB c || letB c) = false
theorem headOK_nil : HeadOK [] := fun _ _ h => by cases h
theorem headOK_cons {c : Int} (h : (digB c || letB c) = false) (t : List Int) : HeadOK (c :: t) := fun d u e => by injection e with e1 _; rw [← e1]; exact h
theorem nameN_run : ∀ (w r : List Int), (∀ x ∈ w, (digB x || letB x) = true) → HeadOK r → nameN (w ++ r) = w.length
  | [], [], _, _ => rfl
  | [], c :: t, _, hr => by simp only [List.nil_append, nameN]; rw [if_neg (by rw [hr c t rfl]; decide)]; rfl
  | c :: w, r, h, hr => by
    simp only [List.cons_append, nameN]
    rw [if_pos (h c List.mem_cons_self), nameN_run w r (fun x hx => h x (List.mem_cons_of_mem _ hx)) hr]
    rfl
theorem name_pc {nm : ByteArray} (h : NameOK nm) (r : List Int) (hr : HeadOK r) : PcOK ⟨bts nm, some (2, nm, 0)⟩ r := by
  obtain ⟨w, rfl, h8, ⟨c, t, rfl, hl⟩, ha⟩ := h
  rw [bts_nums _ (fun x hx => alnum_range (ha x hx))]
  refine ⟨⟨c, t, rfl, let_not_blank hl⟩, fun i => ?_⟩
  have hn := nameN_run (c :: t) r ha hr
  simp only [List.cons_append] at hn
  simp only [List.cons_append, tokL]
  rw [if_neg (by rw [let_not_dig hl]; decide), if_pos hl, hn, if_neg (fun hc => by have := hc.1; omega)]
  rw [show (c :: (t ++ r)).take (c :: t).length = c :: t by rw [← List.cons_append, List.take_left]]
theorem numN_digits (u : Nat) : ∀ (r : List Int), u ≤ 2147483647 → numN ((Lib.decDigits u).map (fun c => (c.toNat : Int)) ++ r) 0 = ((numN r (u : Int)).1, (numN r (u : Int)).2 + (Lib.decDigits u).length) := by
  induction u using Nat.strongRecOn with
  | ind u ih =>
    intro r hu
    rw [Lib.decDigits]
    split
    · rename_i h9
      have e1 : ((UInt8.ofNat (48 + u)).toNat : Int) = 48 + u := by rw [UInt8.toNat_ofNat']; omega
      simp only [List.map_cons, List.map_nil, List.cons_append, List.nil_append, numN, e1, List.length_singleton]
      rw [if_pos (by unfold digB; simp only [Bool.and_eq_true, decide_eq_true_eq]; omega), if_pos (by decide)]
      rw [show (10 : Int) * 0 + (48 + (u : Int)) - 48 = u by omega]
    · rename_i h9
      have e1 : ((UInt8.ofNat (48 + u % 10)).toNat : Int) = 48 + (u % 10 : Nat) := by rw [UInt8.toNat_ofNat']; omega
      rw [List.map_append, List.append_assoc, ih (u / 10) (by omega) _ (by omega)]
      simp only [List.map_cons, List.map_nil, List.cons_append, List.nil_append, numN, e1, List.length_append, List.length_singleton]
      rw [if_pos (by unfold digB; simp only [Bool.and_eq_true, decide_eq_true_eq]; omega), if_pos (by omega)]
      rw [show (10 : Int) * ((u / 10 : Nat) : Int) + (48 + ((u % 10 : Nat) : Int)) - 48 = u by omega]
      simp only [Prod.mk.injEq, true_and]
      omega
theorem dec_head (u : Nat) : ∃ c t, (Lib.decDigits u).map (fun c => (c.toNat : Int)) = c :: t ∧ digB c = true := by
  induction u using Nat.strongRecOn with
  | ind u ih =>
    rw [Lib.decDigits]
    split
    · refine ⟨_, _, rfl, ?_⟩
      show digB ((UInt8.ofNat (48 + u)).toNat : Int) = true
      rw [UInt8.toNat_ofNat']
      unfold digB
      simp only [Bool.and_eq_true, decide_eq_true_eq]
      omega
    · obtain ⟨c, t, h, hd⟩ := ih (u / 10) (by omega)
      rw [List.map_append, h]
      exact ⟨c, _, rfl, hd⟩
theorem itoa_bts (u : Nat) : bts (Sh.itoaB (u : Int)) = (Lib.decDigits u).map (fun c => (c.toNat : Int)) := by
  unfold bts Sh.itoaB
  rw [Lib.itoa_nonneg]
theorem numN_stop (r : List Int) (n : Int) (h : HeadOK r) : numN r n = (n, 0) := by
  cases r with
  | nil => rfl
  | cons c t =>
    have := h c t rfl
    simp only [Bool.or_eq_false_iff] at this
    simp only [numN]
    rw [if_neg (by rw [this.1]; decide)]
theorem num_pc {n : Int} (h0 : 0 ≤ n) (h1 : n ≤ 2147483647) (r : List Int) (hr : HeadOK r) : PcOK ⟨bts (Sh.itoaB n), some (1, ⟨#[]⟩, n)⟩ r := by
  obtain ⟨u, rfl⟩ : ∃ u : Nat, n = (u : Int) := ⟨n.toNat, by omega⟩
  rw [itoa_bts]
  obtain ⟨c, t, hc, hd⟩ := dec_head u
  refine ⟨⟨c, t, hc, dig_not_blank hd⟩, fun i => ?_⟩
  have hn := numN_digits u r (by omega)
  rw [numN_stop r _ hr] at hn
  have hlen : ((Lib.decDigits u).map (fun c => (c.toNat : Int))).length = (Lib.decDigits u).length := List.length_map _
  show tokL i ((Lib.decDigits u).map (fun c => (c.toNat : Int)) ++ r) = (⟨1, ⟨#[]⟩, (u : Int), i⟩, ((Lib.decDigits u).map (fun c => (c.toNat : Int))).length, 0)
  rw [hlen]
  rw [hc] at hn ⊢
  simp only [List.cons_append] at hn ⊢
  simp only [tokL]
  rw [if_pos hd, hn]
  have hR : numR (u : Int) = u := by unfold numR; rw [if_neg (by omega)]
  simp only [hR, Nat.zero_add]
  rw [if_neg (by omega)]
/-- A sign that never begins a longer one. -/
theorem sign_pc (c : Int) (h : c ∈ ones) (h2 : c ≠ 60 ∧ c ≠ 62 ∧ c ≠ 61 ∧ c ≠ 33) (r : List Int) : PcOK ⟨[c], some (3, strOfNums [c], 0)⟩ r := by
  have hc : c = 43 ∨ c = 45 ∨ c = 42 ∨ c = 47 ∨ c = 37 ∨ c = 40 ∨ c = 41 ∨ c = 91 ∨ c = 93 ∨ c = 123 ∨ c = 125 ∨ c = 59 := by
    unfold ones at h
    simp only [List.mem_cons, List.not_mem_nil, or_false] at h
    omega
  refine ⟨⟨c, [], rfl, ?_⟩, fun i => ?_⟩
  · unfold blankB
    simp only [Bool.or_eq_false_iff, decide_eq_false_iff_not]
    omega
  · have hd : digB c = false := by unfold digB; simp only [Bool.and_eq_false_iff, decide_eq_false_iff_not]; omega
    have hl : letB c = false := by unfold letB; simp only [Bool.and_eq_false_iff, decide_eq_false_iff_not]; omega
    have hs : signS (c :: r) = strOfNums [c] := by
      cases r with
      | nil => show (if c ∈ ones then strOfNums [c] else ⟨#[]⟩) = strOfNums [c]; rw [if_pos h]
      | cons b t =>
        show (if twos.any (fun v => decide (strOfNums [c, b] = v)) = true then strOfNums [c, b] else if c ∈ ones then strOfNums [c] else ⟨#[]⟩) = strOfNums [c]
        rw [if_neg ?_]
        · rw [if_pos h]
        · unfold twos
          simp only [List.any_cons, List.any_nil, Bool.or_false, Bool.or_eq_true, decide_eq_true_eq]
          intro hx
          have hne : ∀ (a b' : UInt8), strOfNums [c, b] = ⟨#[a, b']⟩ → UInt8.ofNat c.toNat = a := fun a b' e => by
            have := congrArg (fun z : ByteArray => z.data.toList.head?) e
            simpa [strOfNums] using this
          rcases hx with h | h | h | h | h | h <;> have h := hne _ _ h <;> rcases hc with e | e | e | e | e | e | e | e | e | e | e | e <;> subst e <;> exact absurd h (by decide)
    show tokL i (c :: r) = (⟨3, strOfNums [c], 0, i⟩, 1, 0)
    simp only [tokL]
    rw [if_neg (by rw [hd]; decide), if_neg (by rw [hl]; decide), hs, strOfNums_size]
    rfl
theorem blank_pc (r : List Int) : PcOK ⟨[32], none⟩ r := ⟨32, rfl, by decide⟩
end Go.Proofs.YtfeaekdhpkdljaaDoor.Rd
namespace Go.Proofs.YtfeaekdhpkdljaaDoor.Rd
open Go.RowKit Go.Proofs.YtfeaekdhpkdljaaDoorW.PrintWords Go.Proofs.YtfeaekdhpkdljaaDoorW.PrintLast Go.Proofs.YtfeaekdhpkdljaaDoor.Sh
set_option linter.unusedVariables false
set_option linter.unusedSimpArgs false
inductive WE : S30 → Prop
  | num (n : Int) (h0 : 0 ≤ n) (h1 : n ≤ 2147483647) : WE ⟨1, n, 0, ⟨#[]⟩, []⟩
  | var (nm : ByteArray) (h : NameOK nm) (hw : wordB nm = false) : WE ⟨2, 0, 0, nm, []⟩
  | elem (nm : ByteArray) (i : S30) (h : NameOK nm) (hw : wordB nm = false) (hi : WE i) : WE ⟨3, 0, 0, nm, [i]⟩
  | inp : WE ⟨4, 0, 0, ⟨#[]⟩, []⟩
  | bin (op : Int) (a b : S30) (h1 : 1 ≤ op) (h5 : op ≤ 5) (ha : WE a) (hb : WE b) : WE ⟨5, 0, op, ⟨#[]⟩, [a, b]⟩
  | neg (a : S30) (ha : WE a) : WE ⟨6, 0, 0, ⟨#[]⟩, [a]⟩
theorem Ok.le {α : Type} {ts : List S86} {o : Option (α × Rs)} {s : Rs} {r : α × Rs} (h : Ok ts o s) (ho : o = some r) : Le ts s r.2 := by
  obtain ⟨q, hq, hl⟩ := h
  rw [ho] at hq
  injection hq with hq
  rw [hq]
  exact hl
theorem Le.e {ts : List S86} {s s' : Rs} (h : Le ts s s') (he : s'.e = 0) : s.e = 0 := by
  rcases Decidable.em (s.e = 0) with h1 | h1
  · exact h1
  · rw [← h.1 h1]; exact he
theorem tokS_mem {ts : List S86} {en : Int} {s : Rs} (h : (tokS ts en s).f0 ≠ 0) : tokS ts en s ∈ ts := by
  have hi := tokS_in h
  unfold tokS
  rw [List.getD_eq_getElem?_getD, List.getElem?_eq_getElem hi]
  exact List.getElem_mem hi
theorem name_ok {ts : List S86} {en : Int} {s : Rs} (ht : ∀ t ∈ ts, TokOK t) (h : (nameS ts en s).2.e = 0) : NameOK (nameS ts en s).1 ∧ wordB (nameS ts en s).1 = false := by
  unfold nameS at h ⊢
  by_cases hc : s.e = 0 ∧ (tokS ts en s).f0 = 2 ∧ wordB (tokS ts en s).f1 = false
  · rw [if_pos hc]
    exact ⟨(ht _ (tokS_mem (by rw [hc.2.1]; decide))).2 hc.2.1 hc.2.2, hc.2.2⟩
  · rw [if_neg hc] at h
    exact absurd h (fail_e (by decide))
theorem num_ok {ts : List S86} {en : Int} {s : Rs} (ht : ∀ t ∈ ts, TokOK t) (h : (numS ts en s).2.e = 0) : 0 ≤ (numS ts en s).1 ∧ (numS ts en s).1 ≤ 2147483647 := by
  unfold numS at h ⊢
  by_cases hc : s.e = 0 ∧ (tokS ts en s).f0 = 1
  · rw [if_pos hc]
    exact (ht _ (tokS_mem (by rw [hc.2]; decide))).1 hc.2
  · rw [if_neg hc] at h
    exact absurd h (fail_e (by decide))
/-- From the i-th token on there stand the tokens ds. -/
def Has (ts : List S86) (i : Nat) (ds : List TD) : Prop := ∃ m, (ts.drop i).map dataT = ds ++ m
def tdIs (d : TD) (x : ByteArray) : Bool := decide (d.1 ≠ 0) && (decide (d.1 ≠ 1) && decide (d.2.1 = x))
section
variable {ts : List S86} {en : Int} {i : Nat} {p : Int} {d : TD} {ds es : List TD} {x : ByteArray}
theorem Has.lt (h : Has ts i (d :: ds)) : i < ts.length := by
  obtain ⟨m, hm⟩ := h
  rcases Nat.lt_or_ge i ts.length with h1 | h1
  · exact h1
  · rw [List.drop_eq_nil_of_le h1] at hm; cases hm
theorem Has.tok (h : Has ts i (d :: ds)) (e : Int) : dataT (tokS ts en ⟨i, e, p⟩) = d := by
  have hi := h.lt
  obtain ⟨m, hm⟩ := h
  rw [List.drop_eq_getElem_cons hi] at hm
  injection hm with hm _
  unfold tokS
  rw [List.getD_eq_getElem?_getD, List.getElem?_eq_getElem hi]
  exact hm
theorem Has.next (h : Has ts i (d :: ds)) : Has ts (i + 1) ds := by
  have hi := h.lt
  obtain ⟨m, hm⟩ := h
  rw [List.drop_eq_getElem_cons hi] at hm
  injection hm with _ hm
  exact ⟨m, hm⟩
theorem Has.left (h : Has ts i (ds ++ es)) : Has ts i ds := by
  obtain ⟨m, hm⟩ := h
  exact ⟨es ++ m, by rw [hm, List.append_assoc]⟩
theorem Has.skip : ∀ {ds : List TD} {i : Nat}, Has ts i (ds ++ es) → Has ts (i + ds.length) es
  | [], i, h => h
  | d :: ds, i, h => by
    have := Has.skip (ds := ds) (i := i + 1) (Has.next h)
    rw [List.length_cons, show i + (ds.length + 1) = i + 1 + ds.length by omega]
    exact this
theorem Has.is (h : Has ts i (d :: ds)) (x : ByteArray) : isS ts en ⟨i, 0, p⟩ x = tdIs d x := by
  have ht := h.tok (en := en) (p := p) 0
  unfold dataT at ht
  unfold isS tdIs
  rw [← ht]
  simp
theorem isS_err {s : Rs} (h : s.e ≠ 0) (x : ByteArray) : isS ts en s x = false := by unfold isS; rw [decide_eq_false h, Bool.false_and]
theorem mS_at : mS ts ⟨i, 0, p⟩ = ts.length - i + 1 := rfl
theorem Has.need (h : Has ts i (d :: ds)) (hx : tdIs d x = true) : needS ts en ⟨i, 0, p⟩ x = ⟨i + 1, 0, p⟩ := by
  unfold needS
  rw [h.is, if_pos hx]
  rfl
theorem need_err {s : Rs} (h : s.e ≠ 0) : needS ts en s x = s := le_need.1 h
end
def sg (c : UInt8) : TD := (3, ⟨#[c]⟩, 0)
def nt (nm : ByteArray) : TD := (2, nm, 0)
def opc (op : Int) : UInt8 := if op = 1 then 43 else if op = 2 then 45 else if op = 3 then 42 else if op = 4 then 47 else 37
/-- No operation's sign. -/
def NotOp (d : TD) : Prop := tdIs d (⟨#[42]⟩ : ByteArray) = false ∧ tdIs d (⟨#[47]⟩ : ByteArray) = false ∧ tdIs d (⟨#[37]⟩ : ByteArray) = false ∧ tdIs d (⟨#[43]⟩ : ByteArray) = false ∧ tdIs d (⟨#[45]⟩ : ByteArray) = false ∧ tdIs d (⟨#[91]⟩ : ByteArray) = false
def PU (e : S30) (ds : List TD) : Prop := ∀ (ts : List S86) (en : Int) (n i : Nat) (p deep : Int) (r : S30 × Rs) (d' : TD), Has ts i (ds ++ [d']) → tdIs d' (⟨#[91]⟩ : ByteArray) = false → 6 * (ts.length - i + 1) + 2 ≤ n → unaryF ts en n ⟨i, 0, p⟩ deep = some r → r = (e, ⟨i + ds.length, 0, p⟩) ∨ r.2.e = 3
section
variable {ts : List S86} {en : Int} {i n : Nat} {p deep : Int} {a b e : S30} {s : Rs} {d' : TD} {da db ds : List TD} {r : S30 × Rs}
theorem termL_err (h : s.e ≠ 0) : termL ts en (n + 1) a s deep = some (a, s) := by simp only [termL]; rw [if_pos h]
theorem exprL_err (h : s.e ≠ 0) : exprL ts en (n + 1) a s deep = some (a, s) := by simp only [exprL]; rw [if_pos h]
theorem termL_stop (h : Has ts i (d' :: ds)) (h1 : tdIs d' (⟨#[42]⟩ : ByteArray) = false) (h2 : tdIs d' (⟨#[47]⟩ : ByteArray) = false) (h3 : tdIs d' (⟨#[37]⟩ : ByteArray) = false) : termL ts en (n + 1) a ⟨i, 0, p⟩ deep = some (a, ⟨i, 0, p⟩) := by
  simp only [termL]
  rw [if_neg (by decide), h.is, h.is, h.is, h1, h2, h3]
  rfl
theorem exprL_stop (h : Has ts i (d' :: ds)) (h1 : tdIs d' (⟨#[43]⟩ : ByteArray) = false) (h2 : tdIs d' (⟨#[45]⟩ : ByteArray) = false) : exprL ts en (n + 1) a ⟨i, 0, p⟩ deep = some (a, ⟨i, 0, p⟩) := by
  simp only [exprL]
  rw [if_neg (by decide), h.is, h.is, h1, h2]
  rfl
theorem ne3 {z : Int} (h : z = 3) : z ≠ 0 := by rw [h]; decide
/-- A unary alone between what is no operation. -/
theorem expr_one (hu : PU e ds) (h : Has ts i (ds ++ [d'])) (hd : NotOp d') (hn : 6 * (ts.length - i + 1) + 4 ≤ n) (hr : exprP ts en n ⟨i, 0, p⟩ deep = some r) : r = (e, ⟨i + ds.length, 0, p⟩) ∨ r.2.e = 3 := by
  obtain ⟨n, rfl⟩ : ∃ k, n = k + 3 := ⟨n - 3, by omega⟩
  simp only [exprP, termF] at hr
  obtain ⟨t, ht, hr⟩ := Option.bind_eq_some_iff.1 hr
  obtain ⟨q, hq, ht⟩ := Option.bind_eq_some_iff.1 ht
  rcases hu ts en _ i p deep q d' h hd.2.2.2.2.2 (by omega) hq with rfl | he
  · rw [termL_stop h.skip hd.1 hd.2.1 hd.2.2.1] at ht
    injection ht with ht
    subst ht
    rw [exprL_stop h.skip hd.2.2.2.1 hd.2.2.2.2.1] at hr
    injection hr with hr
    exact .inl hr.symm
  · rw [termL_err (ne3 he)] at ht
    injection ht with ht
    subst ht
    rw [exprL_err (ne3 he)] at hr
    injection hr with hr
    subst hr
    exact .inr he
theorem op_lb {op : Int} (o1 : 1 ≤ op) (o5 : op ≤ 5) : tdIs (sg (opc op)) (⟨#[91]⟩ : ByteArray) = false := by
  rcases (by omega : op = 1 ∨ op = 2 ∨ op = 3 ∨ op = 4 ∨ op = 5) with rfl | rfl | rfl | rfl | rfl <;> decide
theorem expr_two (ha : PU a da) (hb : PU b db) {op : Int} (o1 : 1 ≤ op) (o5 : op ≤ 5) (h : Has ts i (da ++ (sg (opc op) :: (db ++ [d'])))) (hd : NotOp d') (hn : 6 * (ts.length - i + 1) + 4 ≤ n) (hr : exprP ts en n ⟨i, 0, p⟩ deep = some r) :
    r = (binE op a b, ⟨i + da.length + 1 + db.length, 0, p⟩) ∨ r.2.e = 3 := by
  obtain ⟨n, rfl⟩ : ∃ k, n = k + 5 := ⟨n - 5, by omega⟩
  simp only [exprP, termF] at hr
  obtain ⟨t, ht, hr⟩ := Option.bind_eq_some_iff.1 hr
  obtain ⟨q, hq, ht⟩ := Option.bind_eq_some_iff.1 ht
  rcases ha ts en _ i p deep q (sg (opc op)) (by have h' : Has ts i ((da ++ [sg (opc op)]) ++ (db ++ [d'])) := by simpa using h
                                                 exact h'.left) (op_lb o1 o5) (by omega) hq with rfl | he
  · have h1 := h.skip
    have h2 := h1.next
    have hlt := h1.lt
    by_cases hop : op = 1 ∨ op = 2
    · have hs : tdIs (sg (opc op)) (⟨#[42]⟩ : ByteArray) = false ∧ tdIs (sg (opc op)) (⟨#[47]⟩ : ByteArray) = false ∧ tdIs (sg (opc op)) (⟨#[37]⟩ : ByteArray) = false := by
        rcases hop with rfl | rfl <;> exact ⟨by decide, by decide, by decide⟩
      rw [termL_stop h1 hs.1 hs.2.1 hs.2.2] at ht
      injection ht with ht
      subst ht
      have go : ∀ r, ((termF ts en (n + 3) (stepS ⟨i + da.length, 0, p⟩) deep).bind fun r => exprL ts en (n + 3) (binE op a r.1) r.2 deep) = some r → r = (binE op a b, ⟨i + da.length + 1 + db.length, 0, p⟩) ∨ r.2.e = 3 := by
        intro r hr
        simp only [termF] at hr
        obtain ⟨t, ht, hr⟩ := Option.bind_eq_some_iff.1 hr
        obtain ⟨q, hq, ht⟩ := Option.bind_eq_some_iff.1 ht
        rcases hb ts en _ (i + da.length + 1) p deep q d' h2 hd.2.2.2.2.2 (by omega) hq with rfl | he
        · rw [termL_stop h2.skip hd.1 hd.2.1 hd.2.2.1] at ht
          injection ht with ht
          subst ht
          rw [exprL_stop h2.skip hd.2.2.2.1 hd.2.2.2.2.1] at hr
          injection hr with hr
          exact .inl hr.symm
        · rw [termL_err (ne3 he)] at ht
          injection ht with ht
          subst ht
          rw [exprL_err (ne3 he)] at hr
          injection hr with hr
          subst hr
          exact .inr he
      have hr' : exprL ts en (n + 3 + 1) a ⟨i + da.length, 0, p⟩ deep = some r := hr
      simp only [exprL] at hr'
      rw [if_neg (by decide), h1.is, h1.is] at hr'
      rcases hop with rfl | rfl
      · rw [if_pos (by decide)] at hr'
        exact go r hr'
      · rw [if_neg (by decide), if_pos (by decide)] at hr'
        exact go r hr'
    · have go : ((unaryF ts en (n + 2) (stepS ⟨i + da.length, 0, p⟩) deep).bind fun r => termL ts en (n + 2) (binE op a r.1) r.2 deep) = some t → t = (binE op a b, ⟨i + da.length + 1 + db.length, 0, p⟩) ∨ t.2.e = 3 := by
        intro ht
        obtain ⟨q, hq, ht⟩ := Option.bind_eq_some_iff.1 ht
        rcases hb ts en _ (i + da.length + 1) p deep q d' h2 hd.2.2.2.2.2 (by omega) hq with rfl | he
        · rw [termL_stop h2.skip hd.1 hd.2.1 hd.2.2.1] at ht
          injection ht with ht
          exact .inl ht.symm
        · rw [termL_err (ne3 he)] at ht
          injection ht with ht
          subst ht
          exact .inr he
      have ht' : termL ts en (n + 2 + 1) a ⟨i + da.length, 0, p⟩ deep = some t := ht
      simp only [termL] at ht'
      rw [if_neg (by decide), h1.is, h1.is, h1.is] at ht'
      have hg : t = (binE op a b, ⟨i + da.length + 1 + db.length, 0, p⟩) ∨ t.2.e = 3 := by
        rcases (by omega : op = 3 ∨ op = 4 ∨ op = 5) with rfl | rfl | rfl
        · rw [if_pos (by decide)] at ht'
          exact go ht'
        · rw [if_neg (by decide), if_pos (by decide)] at ht'
          exact go ht'
        · rw [if_neg (by decide), if_neg (by decide), if_pos (by decide)] at ht'
          exact go ht'
      rcases hg with rfl | he
      · rw [exprL_stop h2.skip hd.2.2.2.1 hd.2.2.2.2.1] at hr
        injection hr with hr
        exact .inl hr.symm
      · rw [exprL_err (ne3 he)] at hr
        injection hr with hr
        subst hr
        exact .inr he
  · rw [termL_err (ne3 he)] at ht
    injection ht with ht
    subst ht
    rw [exprL_err (ne3 he)] at hr
    injection hr with hr
    subst hr
    exact .inr he
/-- Too deep: the error 3. -/
theorem un_deep (hd : deep > 10) (hn : 2 ≤ n) (hr : unaryF ts en n ⟨i, 0, p⟩ deep = some r) : r.2.e = 3 := by
  obtain ⟨n, rfl⟩ : ∃ k, n = k + 2 := ⟨n - 2, by omega⟩
  simp only [unaryF] at hr
  rw [if_pos hd] at hr
  have he : (failS ts en ⟨i, 0, p⟩ 3).e = 3 := rfl
  rw [isS_err (ne3 he), if_neg (by decide)] at hr
  simp only [primF] at hr
  rw [if_pos (ne3 he)] at hr
  injection hr with hr
  subst hr
  exact he
theorem un_prim (hd : ¬ deep > 10) (h : Has ts i (d' :: ds)) (hm : tdIs d' (⟨#[45]⟩ : ByteArray) = false) (hr : unaryF ts en (n + 1) ⟨i, 0, p⟩ deep = some r) : primF ts en n ⟨i, 0, p⟩ deep = some r := by
  simp only [unaryF] at hr
  rw [if_neg hd, h.is, hm, if_neg (by decide)] at hr
  exact hr
end
/-- A byte array's first byte. -/
def first (b : ByteArray) : Nat := ((b.data.toList.head?).map UInt8.toNat).getD 0
theorem name_first {nm : ByteArray} (h : NameOK nm) : 97 ≤ first nm ∧ first nm ≤ 122 := by
  obtain ⟨w, rfl, _, ⟨c, t, rfl, hl⟩, _⟩ := h
  unfold letB at hl
  simp only [Bool.and_eq_true, decide_eq_true_eq] at hl
  have : first (strOfNums (c :: t)) = c.toNat := by
    show (UInt8.ofNat c.toNat).toNat = c.toNat
    rw [UInt8.toNat_ofNat']
    omega
  omega
theorem name_is {nm : ByteArray} (h : NameOK nm) (x : ByteArray) (hx : first x < 97 ∨ 122 < first x) : tdIs (nt nm) x = false := by
  have hne : nm ≠ x := fun e => by have := name_first h; rw [e] at this; omega
  unfold tdIs nt
  simp [hne]
theorem word_is {nm : ByteArray} (h : wordB nm = false) (x : ByteArray) (hx : wordB x = true) : tdIs (nt nm) x = false := by
  have hne : nm ≠ x := fun e => by rw [e, hx] at h; cases h
  unfold tdIs nt
  simp [hne]
/-- A name token is read as a name. -/
theorem Has.name {ts : List S86} {en : Int} {i : Nat} {p : Int} {nm : ByteArray} {ds : List TD} (h : Has ts i (nt nm :: ds)) (hw : wordB nm = false) : nameS ts en ⟨i, 0, p⟩ = (nm, ⟨i + 1, 0, p⟩) := by
  have ht := h.tok (en := en) (p := p) 0
  unfold dataT nt at ht
  injection ht with h0 ht
  injection ht with h1 _
  unfold nameS
  rw [h0, h1, if_pos ⟨rfl, rfl, hw⟩]
  rfl
theorem Has.num {ts : List S86} {en : Int} {i : Nat} {p : Int} {x : ByteArray} {n : Int} {ds : List TD} (h : Has ts i ((1, x, n) :: ds)) : numS ts en ⟨i, 0, p⟩ = (n, ⟨i + 1, 0, p⟩) := by
  have ht := h.tok (en := en) (p := p) 0
  unfold dataT at ht
  injection ht with h0 ht
  injection ht with _ h2
  unfold numS
  rw [h0, h2, if_pos ⟨rfl, rfl⟩]
  rfl
theorem Has.kind {ts : List S86} {en : Int} {i : Nat} {p : Int} {d : TD} {ds : List TD} (h : Has ts i (d :: ds)) : (tokS ts en ⟨i, 0, p⟩).f0 = d.1 := congrArg Prod.fst (h.tok (en := en) (p := p) 0)
def pcS (c : UInt8) : Pc := ⟨[(c.toNat : Int)], some (sg c)⟩
def pcN (nm : ByteArray) : Pc := ⟨bts nm, some (nt nm)⟩
def pcI (n : Int) : Pc := ⟨bts (Sh.itoaB n), some (1, ⟨#[]⟩, n)⟩
def pcW : Pc := ⟨[32], none⟩
theorem op_pc {op : Int} (o1 : 1 ≤ op) (o5 : op ≤ 5) (r : List Int) : PcOK (pcS (opc op)) r := by
  rcases (by omega : op = 1 ∨ op = 2 ∨ op = 3 ∨ op = 4 ∨ op = 5) with rfl | rfl | rfl | rfl | rfl
  · exact sign_pc 43 (by decide) (by decide) r
  · exact sign_pc 45 (by decide) (by decide) r
  · exact sign_pc 42 (by decide) (by decide) r
  · exact sign_pc 47 (by decide) (by decide) r
  · exact sign_pc 37 (by decide) (by decide) r
theorem op_bts {op : Int} (o1 : 1 ≤ op) (o5 : op ≤ 5) : bts (Sh.opB op) = [((opc op).toNat : Int)] := by
  rcases (by omega : op = 1 ∨ op = 2 ∨ op = 3 ∨ op = 4 ∨ op = 5) with rfl | rfl | rfl | rfl | rfl <;> rfl
theorem input_ok : NameOK (⟨#[105, 110, 112, 117, 116]⟩ : ByteArray) := ⟨[105, 110, 112, 117, 116], rfl, by decide, ⟨105, [110, 112, 117, 116], rfl, by decide⟩, by decide⟩
/-- A well formed expression, printed: its pieces, and how they are read. -/
structure Back (e : S30) (ps : List Pc) : Prop where
  txt : ∀ n, SizeOf.sizeOf e ≤ n → bts (Sh.exprF n e) = pcB ps
  adj : ∀ r, HeadOK r → Adj ps r
  un : PU e (pcT ps)
theorem rd0 (x : S30) (l : List S30) : Sh.rd_T30 (x :: l) 0 = x := rfl
theorem rd1 (x y : S30) (l : List S30) : Sh.rd_T30 (x :: y :: l) 1 = y := rfl
theorem back_all : ∀ e : S30, WE e → ∃ ps, Back e ps := by
  intro e h
  induction h with
  | num n h0 h1 =>
    refine ⟨[pcI n], fun k hk => ?_, fun r hr => ⟨num_pc h0 h1 r hr, trivial⟩, fun ts en k i p deep r d' hh hl hn hr => ?_⟩
    · obtain ⟨k, rfl⟩ : ∃ j, k = j + 1 := ⟨k - 1, by simp only [S30.mk.sizeOf_spec] at hk; omega⟩
      simp only [Sh.exprF, if_true, pcB, pcI, List.append_nil]
    · by_cases hd : deep > 10
      · exact .inr (un_deep hd (by omega) hr)
      · obtain ⟨k, rfl⟩ : ∃ j, k = j + 2 := ⟨k - 2, by omega⟩
        have hh' : Has ts i [((1 : Int), (⟨#[]⟩ : ByteArray), n), d'] := hh
        have hp := un_prim hd hh' (by rfl) hr
        simp only [primF] at hp
        rw [if_neg (by decide), if_pos hh'.kind, hh'.num] at hp
        injection hp with hp
        exact .inl hp.symm
  | var nm h hw =>
    refine ⟨[pcN nm], fun k hk => ?_, fun r hr => ⟨name_pc h r hr, trivial⟩, fun ts en k i p deep r d' hh hl hn hr => ?_⟩
    · obtain ⟨k, rfl⟩ : ∃ j, k = j + 1 := ⟨k - 1, by simp only [S30.mk.sizeOf_spec] at hk; omega⟩
      simp only [Sh.exprF, pcB, pcN, List.append_nil]
      rfl
    · by_cases hd : deep > 10
      · exact .inr (un_deep hd (by omega) hr)
      · obtain ⟨k, rfl⟩ : ∃ j, k = j + 2 := ⟨k - 2, by omega⟩
        have hh' : Has ts i [nt nm, d'] := hh
        have hp := un_prim hd hh' (name_is h _ (by decide)) hr
        simp only [primF] at hp
        rw [if_neg (by decide), if_neg (by rw [hh'.kind]; exact fun h => absurd (show (2 : Int) = 1 from h) (by decide)), hh'.is, word_is hw _ (by decide), if_neg (by decide), hh'.is, name_is h _ (by decide), if_neg (by decide), hh'.name hw, hh'.next.is, hl, if_neg (by decide)] at hp
        injection hp with hp
        exact .inl hp.symm
  | inp =>
    refine ⟨[pcN (⟨#[105, 110, 112, 117, 116]⟩ : ByteArray)], fun k hk => ?_, fun r hr => ⟨name_pc input_ok r hr, trivial⟩, fun ts en k i p deep r d' hh hl hn hr => ?_⟩
    · obtain ⟨k, rfl⟩ : ∃ j, k = j + 1 := ⟨k - 1, by simp only [S30.mk.sizeOf_spec] at hk; omega⟩
      simp only [Sh.exprF, pcB, pcN, List.append_nil]
      rfl
    · by_cases hd : deep > 10
      · exact .inr (un_deep hd (by omega) hr)
      · obtain ⟨k, rfl⟩ : ∃ j, k = j + 2 := ⟨k - 2, by omega⟩
        have hh' : Has ts i [nt (⟨#[105, 110, 112, 117, 116]⟩ : ByteArray), d'] := hh
        have hp := un_prim hd hh' (by decide) hr
        simp only [primF] at hp
        rw [if_neg (by decide), if_neg (by rw [hh'.kind]; decide), hh'.is, if_pos (by decide)] at hp
        injection hp with hp
        exact .inl hp.symm
  | elem nm x h hw hx ih =>
    obtain ⟨px, hb⟩ := ih
    have hT : pcT (pcN nm :: pcS 91 :: (px ++ [pcS 93])) = nt nm :: sg 91 :: (pcT px ++ [sg 93]) := by simp only [pcT, pcN, pcS, pcT_app]
    refine ⟨pcN nm :: pcS 91 :: (px ++ [pcS 93]), fun k hk => ?_, fun r hr => ⟨name_pc h _ (headOK_cons (by decide) _), sign_pc 91 (by decide) (by decide) _, adj_app px [pcS 93] r (hb.adj _ (headOK_cons (by decide) _)) ⟨sign_pc 93 (by decide) (by decide) _, trivial⟩⟩, fun ts en k i p deep r d' hh hl hn hr => ?_⟩
    · obtain ⟨k, rfl⟩ : ∃ j, k = j + 1 := ⟨k - 1, by simp only [S30.mk.sizeOf_spec] at hk; omega⟩
      simp only [S30.mk.sizeOf_spec, List.cons.sizeOf_spec, List.nil.sizeOf_spec] at hk
      have ht := hb.txt k (by omega)
      simp only [Sh.exprF]
      rw [if_neg (by decide), if_neg (by decide), if_pos ⟨trivial, by simp⟩, rd0, bts_app, bts_app, bts_app, ht]
      simp only [pcB, pcN, pcS, pcB_app, List.append_nil, List.append_assoc]
      rfl
    · by_cases hd : deep > 10
      · exact .inr (un_deep hd (by omega) hr)
      · obtain ⟨k, rfl⟩ : ∃ j, k = j + 2 := ⟨k - 2, by omega⟩
        rw [hT] at hh ⊢
        have hh' : Has ts i (nt nm :: sg 91 :: (pcT px ++ ([sg 93] ++ [d']))) := by simpa using hh
        have hp := un_prim hd hh' (name_is h _ (by decide)) hr
        have h2 := hh'.next.next
        have hlt := hh'.next.lt
        simp only [primF] at hp
        rw [if_neg (by decide), if_neg (by rw [hh'.kind]; exact fun h => absurd (show (2 : Int) = 1 from h) (by decide)), hh'.is, word_is hw _ (by decide), if_neg (by decide), hh'.is, name_is h _ (by decide), if_neg (by decide), hh'.name hw, hh'.next.is, if_pos (by decide)] at hp
        obtain ⟨q, hq, hp⟩ := Option.bind_eq_some_iff.1 hp
        injection hp with hp
        subst hp
        have h3 : Has ts (i + 1 + 1) ((pcT px ++ [sg 93]) ++ [d']) := by simpa using h2
        rcases expr_one hb.un h3.left (by exact ⟨by decide, by decide, by decide, by decide, by decide, by decide⟩) (by omega) hq with rfl | he
        · left
          have h4 : Has ts (i + 1 + 1 + (pcT px).length) ([sg 93] ++ [d']) := h2.skip
          simp only
          rw [Has.need (d := sg 93) (ds := [d']) h4 (by decide)]
          simp only [List.length_cons, List.length_append, List.length_nil, Prod.mk.injEq, true_and, Rs.mk.injEq, and_true]
          omega
        · right
          rw [need_err (ne3 he)]
          exact he
  | bin op a b o1 o5 ha hb iha ihb =>
    obtain ⟨pa, ba⟩ := iha
    obtain ⟨pb, bb⟩ := ihb
    have hT : pcT (pcS 40 :: (pa ++ (pcW :: pcS (opc op) :: pcW :: (pb ++ [pcS 41])))) = sg 40 :: (pcT pa ++ (sg (opc op) :: (pcT pb ++ [sg 41]))) := by simp only [pcT, pcS, pcW, pcT_app]
    refine ⟨pcS 40 :: (pa ++ (pcW :: pcS (opc op) :: pcW :: (pb ++ [pcS 41]))), fun k hk => ?_, fun r hr => ⟨sign_pc 40 (by decide) (by decide) _, adj_app pa _ r (ba.adj _ (headOK_cons (by decide) _)) ⟨blank_pc _, op_pc o1 o5 _, blank_pc _, adj_app pb [pcS 41] r (bb.adj _ (headOK_cons (by decide) _)) ⟨sign_pc 41 (by decide) (by decide) _, trivial⟩⟩⟩, fun ts en k i p deep r d' hh hl hn hr => ?_⟩
    · obtain ⟨k, rfl⟩ : ∃ j, k = j + 1 := ⟨k - 1, by simp only [S30.mk.sizeOf_spec] at hk; omega⟩
      simp only [S30.mk.sizeOf_spec, List.cons.sizeOf_spec, List.nil.sizeOf_spec] at hk
      have hta := ba.txt k (by omega)
      have htb := bb.txt k (by omega)
      simp only [Sh.exprF]
      rw [if_neg (by decide), if_neg (by decide), if_neg (fun h => absurd h.1 (by decide)), if_neg (by decide), if_pos ⟨trivial, by simp, o1, o5⟩, rd0, rd1, bts_app, bts_app, bts_app, bts_app, bts_app, bts_app, hta, htb, op_bts o1 o5]
      simp only [pcB, pcS, pcW, pcB_app, List.append_nil, List.append_assoc]
      rfl
    · by_cases hd : deep > 10
      · exact .inr (un_deep hd (by omega) hr)
      · obtain ⟨k, rfl⟩ : ∃ j, k = j + 2 := ⟨k - 2, by omega⟩
        rw [hT] at hh ⊢
        have hh' : Has ts i (sg 40 :: (pcT pa ++ (sg (opc op) :: (pcT pb ++ ([sg 41] ++ [d']))))) := by simpa using hh
        have hp := un_prim hd hh' (by decide) hr
        have h2 := hh'.next
        have hlt := hh'.lt
        simp only [primF] at hp
        rw [if_neg (by decide), if_neg (by rw [hh'.kind]; decide), hh'.is, if_neg (by decide), hh'.is, if_pos (by decide)] at hp
        obtain ⟨q, hq, hp⟩ := Option.bind_eq_some_iff.1 hp
        injection hp with hp
        subst hp
        have h3 : Has ts (i + 1) ((pcT pa ++ (sg (opc op) :: (pcT pb ++ [sg 41]))) ++ [d']) := by simpa using h2
        rcases expr_two ba.un bb.un o1 o5 h3.left (by exact ⟨by decide, by decide, by decide, by decide, by decide, by decide⟩) (by omega) hq with rfl | he
        · left
          have h4 : Has ts (i + 1 + (pcT pa).length + 1 + (pcT pb).length) ([sg 41] ++ [d']) := h2.skip.next.skip
          simp only
          rw [Has.need (d := sg 41) (ds := [d']) h4 (by decide)]
          simp only [List.length_cons, List.length_append, List.length_nil, Prod.mk.injEq, Rs.mk.injEq, and_true]
          exact ⟨rfl, by omega⟩
        · right
          rw [need_err (ne3 he)]
          exact he
  | neg a ha ih =>
    obtain ⟨pa, ba⟩ := ih
    refine ⟨pcS 45 :: pa, fun k hk => ?_, fun r hr => ⟨sign_pc 45 (by decide) (by decide) _, ba.adj r hr⟩, fun ts en k i p deep r d' hh hl hn hr => ?_⟩
    · obtain ⟨k, rfl⟩ : ∃ j, k = j + 1 := ⟨k - 1, by simp only [S30.mk.sizeOf_spec] at hk; omega⟩
      simp only [S30.mk.sizeOf_spec, List.cons.sizeOf_spec, List.nil.sizeOf_spec] at hk
      have hta := ba.txt k (by omega)
      simp only [Sh.exprF]
      rw [if_neg (by decide), if_neg (by decide), if_neg (fun h => absurd h.1 (by decide)), if_neg (by decide), if_neg (fun h => absurd h.1 (by decide)), if_pos ⟨trivial, by simp⟩, rd0, bts_app, hta]
      rfl
    · by_cases hd : deep > 10
      · exact .inr (un_deep hd (by omega) hr)
      · obtain ⟨k, rfl⟩ : ∃ j, k = j + 1 := ⟨k - 1, by omega⟩
        have hh' : Has ts i (sg 45 :: (pcT pa ++ [d'])) := hh
        have hlt := hh'.lt
        simp only [unaryF] at hr
        rw [if_neg hd, hh'.is, if_pos (by decide)] at hr
        obtain ⟨q, hq, hr⟩ := Option.bind_eq_some_iff.1 hr
        injection hr with hr
        subst hr
        rcases ba.un ts en _ (i + 1) p (deep + 1) q d' hh'.next hl (by omega) hq with rfl | he
        · left
          show (_, Rs.mk (i + 1 + (pcT pa).length) 0 p) = (_, Rs.mk (i + ((pcT pa).length + 1)) 0 p)
          rw [show i + 1 + (pcT pa).length = i + ((pcT pa).length + 1) by omega]
        · exact .inr he
end Go.Proofs.YtfeaekdhpkdljaaDoor.Rd
namespace Go.Proofs.YtfeaekdhpkdljaaDoor.Rd
open Go.RowKit Go.Proofs.YtfeaekdhpkdljaaDoorW.PrintWords Go.Proofs.YtfeaekdhpkdljaaDoorW.PrintLast Go.Proofs.YtfeaekdhpkdljaaDoor.Sh
set_option linter.unusedVariables false
set_option linter.unusedSimpArgs false
inductive Wt : S30 → Nat → Prop
  | num (n : Int) (h0 : 0 ≤ n) (h1 : n ≤ 2147483647) : Wt ⟨1, n, 0, ⟨#[]⟩, []⟩ 1
  | var (nm : ByteArray) (h : NameOK nm) (hw : wordB nm = false) : Wt ⟨2, 0, 0, nm, []⟩ 1
  | elem (nm : ByteArray) (i : S30) (k : Nat) (h : NameOK nm) (hw : wordB nm = false) (hi : Wt i k) : Wt ⟨3, 0, 0, nm, [i]⟩ (k + 1)
  | inp : Wt ⟨4, 0, 0, ⟨#[]⟩, []⟩ 1
  | bin (op : Int) (a b : S30) (k m : Nat) (h1 : 1 ≤ op) (h5 : op ≤ 5) (ha : Wt a k) (hb : Wt b m) : Wt ⟨5, 0, op, ⟨#[]⟩, [a, b]⟩ (k + m + 1)
  | neg (a : S30) (k : Nat) (ha : Wt a k) : Wt ⟨6, 0, 0, ⟨#[]⟩, [a]⟩ (k + 1)
theorem Wt.we {e : S30} {k : Nat} (h : Wt e k) : WE e := by
  induction h with
  | num n h0 h1 => exact .num n h0 h1
  | var nm h hw => exact .var nm h hw
  | elem nm i k h hw hi ih => exact .elem nm i h hw ih
  | inp => exact .inp
  | bin op a b k m h1 h5 ha hb iha ihb => exact .bin op a b h1 h5 iha ihb
  | neg a k ha ih => exact .neg a ih
theorem num_lt {ts : List S86} {en : Int} {s : Rs} (h : (numS ts en s).2.e = 0) : mS ts (numS ts en s).2 + 1 ≤ mS ts s := by
  unfold numS at h ⊢
  by_cases hc : s.e = 0 ∧ (tokS ts en s).f0 = 1
  · rw [if_pos hc]
    exact Nat.le_of_eq (step_mS hc.1 (tokS_in (ts := ts) (en := en) (s := s) (by rw [hc.2]; decide)))
  · rw [if_neg hc] at h
    exact absurd h (fail_e (by decide))
/-- An expression of at most so many nodes as tokens were taken (and k0 ahead of it). -/
def Cn (ts : List S86) (k0 : Nat) (s : Rs) (r : S30 × Rs) : Prop := ∃ k, Wt r.1 k ∧ k + mS ts r.2 ≤ mS ts s + k0
theorem wt_all (ts : List S86) (en : Int) (ht : ∀ t ∈ ts, TokOK t) : ∀ n : Nat,
    (∀ (s : Rs) (deep : Int) r, 6 * mS ts s + 1 ≤ n → primF ts en n s deep = some r → r.2.e = 0 → Cn ts 0 s r) ∧ (∀ (s : Rs) (deep : Int) r, 6 * mS ts s + 2 ≤ n → unaryF ts en n s deep = some r → r.2.e = 0 → Cn ts 0 s r) ∧
    (∀ (s : Rs) (deep : Int) r, 6 * mS ts s + 3 ≤ n → termF ts en n s deep = some r → r.2.e = 0 → Cn ts 0 s r) ∧ (∀ (a : S30) (ka : Nat) (s : Rs) (deep : Int) r, 6 * mS ts s + 1 ≤ n → Wt a ka → termL ts en n a s deep = some r → r.2.e = 0 → Cn ts ka s r) ∧
    (∀ (s : Rs) (deep : Int) r, 6 * mS ts s + 4 ≤ n → exprP ts en n s deep = some r → r.2.e = 0 → Cn ts 0 s r) ∧ (∀ (a : S30) (ka : Nat) (s : Rs) (deep : Int) r, 6 * mS ts s + 1 ≤ n → Wt a ka → exprL ts en n a s deep = some r → r.2.e = 0 → Cn ts ka s r)
  | 0 => ⟨fun _ _ _ h => absurd h (by omega), fun _ _ _ h => absurd h (by omega), fun _ _ _ h => absurd h (by omega), fun _ _ _ _ _ h => absurd h (by omega), fun _ _ _ h => absurd h (by omega), fun _ _ _ _ _ h => absurd h (by omega)⟩
  | n + 1 => by
    obtain ⟨ih1, ih2, ih3, ih4, ih5, ih6⟩ := wt_all ts en ht n
    obtain ⟨k1, k2, k3, k4, k5, k6⟩ := ex_ok ts en n
    refine ⟨fun s deep r h hr he => ?_, fun s deep r h hr he => ?_, fun s deep r h hr he => ?_, fun a ka s deep r h ha hr he => ?_, fun s deep r h hr he => ?_, fun a ka s deep r h ha hr he => ?_⟩
    · simp only [primF] at hr
      split at hr
      · rename_i h0
        injection hr with hr
        subst hr
        exact absurd he h0
      · rename_i hs0
        replace hs0 : s.e = 0 := Decidable.not_not.1 hs0
        split at hr
        · injection hr with hr
          subst hr
          have := num_ok ht he
          exact ⟨1, .num _ this.1 this.2, by have := num_lt he; show 1 + mS ts (numS ts en s).2 ≤ _; omega⟩
        · split at hr
          · rename_i hi
            injection hr with hr
            subst hr
            exact ⟨1, .inp, by have := lt_step hi; show 1 + mS ts (stepS s) ≤ _; omega⟩
          · split at hr
            · rename_i hi
              obtain ⟨q, hq, hr⟩ := Option.bind_eq_some_iff.1 hr
              injection hr with hr
              subst hr
              obtain ⟨k, hw, hk⟩ := ih5 _ _ q (by have := lt_step hi; omega) hq (le_need.e he)
              exact ⟨k, hw, by have := lt_step hi; have := (le_need (ts := ts) (en := en) (s := q.2) (x := (⟨#[41]⟩ : ByteArray))).2; show k + mS ts (needS ts en q.2 (⟨#[41]⟩ : ByteArray)) ≤ _; omega⟩
            · split at hr
              · rename_i hi
                obtain ⟨q, hq, hr⟩ := Option.bind_eq_some_iff.1 hr
                injection hr with hr
                subst hr
                have hn := le_name (ts := ts) (en := en) (s := s)
                have hb : 6 * mS ts (stepS (nameS ts en s).2) + 4 ≤ n := by have := lt_step hi; have := hn.2; omega
                have hqe := le_need.e he
                have hne := ((le_step hi).trans ((k5 _ _ hb).le hq)).e hqe
                have := name_ok ht hne
                obtain ⟨k, hw, hk⟩ := ih5 _ _ q hb hq hqe
                exact ⟨k + 1, .elem _ _ _ this.1 this.2 hw, by have := lt_step hi; have := hn.2; have := (le_need (ts := ts) (en := en) (s := q.2) (x := (⟨#[93]⟩ : ByteArray))).2; show k + 1 + mS ts (needS ts en q.2 (⟨#[93]⟩ : ByteArray)) ≤ _; omega⟩
              · injection hr with hr
                subst hr
                have := name_ok ht he
                exact ⟨1, .var _ this.1 this.2, by have := lt_name (ts := ts) (en := en) hs0; show 1 + mS ts (nameS ts en s).2 ≤ _; omega⟩
    · simp only [unaryF] at hr
      have hd := le_deep (ts := ts) (en := en) (s := s) deep
      generalize (if deep > 10 then failS ts en s 3 else s) = s' at hd hr
      split at hr
      · rename_i hi
        obtain ⟨q, hq, hr⟩ := Option.bind_eq_some_iff.1 hr
        injection hr with hr
        subst hr
        obtain ⟨k, hw, hk⟩ := ih2 _ _ q (by have := lt_step hi; have := hd.2; omega) hq he
        exact ⟨k + 1, .neg _ _ hw, by have := lt_step hi; have := hd.2; show k + 1 + mS ts q.2 ≤ _; omega⟩
      · obtain ⟨k, hw, hk⟩ := ih1 _ _ r (by have := hd.2; omega) hr he
        exact ⟨k, hw, by have := hd.2; omega⟩
    · simp only [termF] at hr
      obtain ⟨q, hq, hr⟩ := Option.bind_eq_some_iff.1 hr
      have hl := (k2 s deep (by omega)).le hq
      have hb : 6 * mS ts q.2 + 1 ≤ n := by have := hl.2; omega
      obtain ⟨k, hw, hk⟩ := ih2 _ _ q (by omega) hq (((k4 q.1 q.2 deep hb).le hr).e he)
      obtain ⟨m, hm, hmk⟩ := ih4 _ k _ _ r hb hw hr he
      exact ⟨m, hm, by omega⟩
    · simp only [termL] at hr
      split at hr
      · injection hr with hr
        subst hr
        exact ⟨ka, ha, by show ka + mS ts s ≤ _; omega⟩
      · have go : ∀ (x : ByteArray) (op : Int), 1 ≤ op → op ≤ 5 → isS ts en s x = true → ((unaryF ts en n (stepS s) deep).bind fun r => termL ts en n (binE op a r.1) r.2 deep) = some r → Cn ts ka s r := by
          intro x op o1 o5 hi hr
          obtain ⟨q, hq, hr⟩ := Option.bind_eq_some_iff.1 hr
          have hst := lt_step hi
          have hb0 : 6 * mS ts (stepS s) + 2 ≤ n := by omega
          have hl := (k2 _ deep hb0).le hq
          have hb : 6 * mS ts q.2 + 1 ≤ n := by have := hl.2; omega
          obtain ⟨k, hw, hk⟩ := ih2 _ _ q hb0 hq (((k4 _ q.2 deep hb).le hr).e he)
          obtain ⟨m, hm, hmk⟩ := ih4 _ (ka + k + 1) _ _ r hb (.bin op a q.1 ka k o1 o5 ha hw) hr he
          exact ⟨m, hm, by omega⟩
        split at hr
        · exact go _ _ (by decide) (by decide) (by assumption) hr
        · split at hr
          · exact go _ _ (by decide) (by decide) (by assumption) hr
          · split at hr
            · exact go _ _ (by decide) (by decide) (by assumption) hr
            · injection hr with hr
              subst hr
              exact ⟨ka, ha, by show ka + mS ts s ≤ _; omega⟩
    · simp only [exprP] at hr
      obtain ⟨q, hq, hr⟩ := Option.bind_eq_some_iff.1 hr
      have hl := (k3 s deep (by omega)).le hq
      have hb : 6 * mS ts q.2 + 1 ≤ n := by have := hl.2; omega
      obtain ⟨k, hw, hk⟩ := ih3 _ _ q (by omega) hq (((k6 q.1 q.2 deep hb).le hr).e he)
      obtain ⟨m, hm, hmk⟩ := ih6 _ k _ _ r hb hw hr he
      exact ⟨m, hm, by omega⟩
    · simp only [exprL] at hr
      split at hr
      · injection hr with hr
        subst hr
        exact ⟨ka, ha, by show ka + mS ts s ≤ _; omega⟩
      · have go : ∀ (x : ByteArray) (op : Int), 1 ≤ op → op ≤ 5 → isS ts en s x = true → ((termF ts en n (stepS s) deep).bind fun r => exprL ts en n (binE op a r.1) r.2 deep) = some r → Cn ts ka s r := by
          intro x op o1 o5 hi hr
          obtain ⟨q, hq, hr⟩ := Option.bind_eq_some_iff.1 hr
          have hst := lt_step hi
          have hb0 : 6 * mS ts (stepS s) + 3 ≤ n := by omega
          have hl := (k3 _ deep hb0).le hq
          have hb : 6 * mS ts q.2 + 1 ≤ n := by have := hl.2; omega
          obtain ⟨k, hw, hk⟩ := ih3 _ _ q hb0 hq (((k6 _ q.2 deep hb).le hr).e he)
          obtain ⟨m, hm, hmk⟩ := ih6 _ (ka + k + 1) _ _ r hb (.bin op a q.1 ka k o1 o5 ha hw) hr he
          exact ⟨m, hm, by omega⟩
        split at hr
        · exact go _ _ (by decide) (by decide) (by assumption) hr
        · split at hr
          · exact go _ _ (by decide) (by decide) (by assumption) hr
          · injection hr with hr
            subst hr
            exact ⟨ka, ha, by show ka + mS ts s ≤ _; omega⟩
theorem wt_expr {ts : List S86} {en : Int} (ht : ∀ t ∈ ts, TokOK t) {n : Nat} {s : Rs} {deep : Int} {r : S30 × Rs} (h : 6 * mS ts s + 4 ≤ n) (hr : exprP ts en n s deep = some r) (he : r.2.e = 0) : ∃ k, Wt r.1 k ∧ k + mS ts r.2 ≤ mS ts s := (wt_all ts en ht n).2.2.2.2.1 s deep r h hr he
theorem bts_len (b : ByteArray) : (bts b).length = b.size := by unfold bts; rw [List.length_map, Array.length_toList]; rfl
theorem name_size {nm : ByteArray} (h : NameOK nm) : nm.size ≤ 8 := by
  obtain ⟨w, rfl, h8, _⟩ := h
  rw [strOfNums_size]
  exact h8
theorem ba_size (a b : ByteArray) : (a ++ b).size = a.size + b.size := by rw [ByteArray.size_append]
theorem wt_size {e : S30} {k : Nat} (h : Wt e k) : ∀ n, (Sh.exprF n e).size ≤ 30 * k := by
  induction h with
  | num n h0 h1 =>
    intro m
    cases m with
    | zero => show 1 ≤ _; decide
    | succ m =>
      simp only [Sh.exprF, if_true]
      have := Lib.itoa_length_le n (by omega) (by omega)
      show (Lib.itoa n).toArray.size ≤ _
      simp only [List.size_toArray]
      omega
  | var nm h hw =>
    intro m
    have := name_size h
    cases m with
    | zero => show 1 ≤ _; decide
    | succ m =>
      show nm.size ≤ _
      omega
  | elem nm i k h hw hi ih =>
    intro m
    have := name_size h
    cases m with
    | zero => show 1 ≤ _; omega
    | succ m =>
      simp only [Sh.exprF]
      rw [if_neg (by decide), if_neg (by decide), if_pos ⟨trivial, by simp⟩, rd0, ba_size, ba_size, ba_size]
      have := ih m
      show nm.size + 1 + _ + 1 ≤ _
      omega
  | inp =>
    intro m
    cases m with
    | zero => decide
    | succ m => show 5 ≤ _; omega
  | bin op a b k m o1 o5 ha hb iha ihb =>
    intro j
    cases j with
    | zero => show 1 ≤ _; omega
    | succ j =>
      simp only [Sh.exprF]
      rw [if_neg (by decide), if_neg (by decide), if_neg (fun h => absurd h.1 (by decide)), if_neg (by decide), if_pos ⟨trivial, by simp, o1, o5⟩, rd0, rd1, ba_size, ba_size, ba_size, ba_size, ba_size, ba_size, Sh.opB_size]
      have := iha j
      have := ihb j
      show 1 + _ + 1 + 1 + 1 + _ + 1 ≤ _
      omega
  | neg a k ha ih =>
    intro m
    cases m with
    | zero => show 1 ≤ _; omega
    | succ m =>
      simp only [Sh.exprF]
      rw [if_neg (by decide), if_neg (by decide), if_neg (fun h => absurd h.1 (by decide)), if_neg (by decide), if_neg (fun h => absurd h.1 (by decide)), if_pos ⟨trivial, by simp⟩, rd0, ba_size]
      have := ih m
      show 1 + _ ≤ _
      omega
theorem we_okF {e : S30} (h : WE e) : ∀ n, Sh.okF n e := by
  induction h with
  | num n h0 h1 =>
    intro m
    cases m with
    | zero => trivial
    | succ m => exact ⟨⟨by show -9223372036854775808 ≤ n; omega, by show n ≤ 9223372036854775807; omega⟩, fun x hx => by cases hx⟩
  | var nm h hw =>
    intro m
    cases m with
    | zero => trivial
    | succ m => exact ⟨⟨by show (-9223372036854775808 : Int) ≤ 0; omega, by show (0 : Int) ≤ 9223372036854775807; omega⟩, fun x hx => by cases hx⟩
  | inp =>
    intro m
    cases m with
    | zero => trivial
    | succ m => exact ⟨⟨by show (-9223372036854775808 : Int) ≤ 0; omega, by show (0 : Int) ≤ 9223372036854775807; omega⟩, fun x hx => by cases hx⟩
  | elem nm i h hw hi ih =>
    intro m
    cases m with
    | zero => trivial
    | succ m => exact ⟨⟨by show (-9223372036854775808 : Int) ≤ 0; omega, by show (0 : Int) ≤ 9223372036854775807; omega⟩, fun x hx => by rw [List.mem_singleton.1 hx]; exact ih m⟩
  | neg a ha ih =>
    intro m
    cases m with
    | zero => trivial
    | succ m => exact ⟨⟨by show (-9223372036854775808 : Int) ≤ 0; omega, by show (0 : Int) ≤ 9223372036854775807; omega⟩, fun x hx => by rw [List.mem_singleton.1 hx]; exact ih m⟩
  | bin op a b o1 o5 ha hb iha ihb =>
    intro m
    cases m with
    | zero => trivial
    | succ m =>
      refine ⟨⟨by show (-9223372036854775808 : Int) ≤ 0; omega, by show (0 : Int) ≤ 9223372036854775807; omega⟩, fun x hx => ?_⟩
      have hx : x = a ∨ x = b := by simpa using hx
      rcases hx with rfl | rfl
      · exact iha m
      · exact ihb m
end Go.Proofs.YtfeaekdhpkdljaaDoor.Rd
namespace Go.Proofs.YtfeaekdhpkdljaaDoor.Rd
open Go.RowKit Go.Proofs.YtfeaekdhpkdljaaDoorW.PrintWords Go.Proofs.YtfeaekdhpkdljaaDoorW.PrintLast Go.Proofs.YtfeaekdhpkdljaaDoor.Sh
set_option linter.unusedVariables false
set_option linter.unusedSimpArgs false
/-- SameExpr of e and itself, wherever the two lie, is true. -/
def Sm (e : S30) : Prop := ∀ (A B : Option Addr) (c d : Nat) (w : World), k30.C w A e.f4.length e.f4 → e.f4.length ≤ c → k30.C w B e.f4.length e.f4 → e.f4.length ≤ d →
    Calls Tryd.prog 21 #[.agg #[.int .i64 e.f0, .int .i64 e.f1, .int .i64 e.f2, .string e.f3, .slice A e.f4.length c], .agg #[.int .i64 e.f0, .int .i64 e.f1, .int .i64 e.f2, .string e.f3, .slice B e.f4.length d]] w fun q w' => q = .returned (.bool true) ∧ Below w.heap.size w w'
set_option maxHeartbeats 8000000 in
set_option maxRecDepth 100000 in
theorem same_step (e : S30) (ih : ∀ x ∈ e.f4, Sm x) : Sm e := by
  intro A B c d w hA hc hB hd
  have HRA := Aside0.mk hA
  have HRB := Aside0.mk hB
  have hml : e.f4.length ≤ 9223372036854775807 := hA.2.1
  clear hA hB
  go_enter Tryd.func21, Tryd.ntmps21
  go_upto_region 1 with (first | ((with_reducible refine gate_dst (N := 2) rfl ?_); refine box_event ?hg (N := 2) ?hd (cs := #[.int .i64 e.f0, .int .i64 e.f1, .int .i64 e.f2, .string e.f3, .slice A e.f4.length c]) (t := 30) ?hr ?_; (case hd => rfl); (case hg => rfl); (case hr => first | (go_simp; done) | (go_simp; rfl)); intro ga hgg w1 hlit hb; have HA1 := Aside0.mk hlit; have HB1 := Aside0.mk hb; have HGA := Aside0.mk hgg; clear hlit hb hgg) | ((with_reducible refine gate_dst (N := 3) rfl ?_); refine box_event ?hg (N := 3) ?hd (cs := #[.int .i64 e.f0, .int .i64 e.f1, .int .i64 e.f2, .string e.f3, .slice B e.f4.length d]) (t := 30) ?hr ?_; (case hd => rfl); (case hg => rfl); (case hr => first | (go_simp; done) | (go_simp; rfl)); intro gb hgg w2 hlit hb; have HX2 := Aside0.mk hlit; have HB2 := Aside0.mk hb; have HGB := Aside0.mk hgg; have HA2 := Aside0.mk (below_read hb HA1.out); have HW2 := Aside0.mk (below_then HB1.out HB1.out.size hb); clear hlit hb hgg))
  have ga0 : w2.cell? ⟨ga, 0, none⟩ = some (.int .i64 e.f0) := (blk_cell HA2.out 0).trans rfl
  have ga1 : w2.cell? ⟨ga, 1, none⟩ = some (.int .i64 e.f1) := (blk_cell HA2.out 1).trans rfl
  have ga2 : w2.cell? ⟨ga, 2, none⟩ = some (.int .i64 e.f2) := (blk_cell HA2.out 2).trans rfl
  have ga3 : w2.cell? ⟨ga, 3, none⟩ = some (.string e.f3) := (blk_cell HA2.out 3).trans rfl
  have ga4 : w2.cell? ⟨ga, 4, none⟩ = some (.slice A e.f4.length c) := (blk_cell HA2.out 4).trans rfl
  have gb0 : w2.cell? ⟨gb, 0, none⟩ = some (.int .i64 e.f0) := (blk_cell HX2.out 0).trans rfl
  have gb1 : w2.cell? ⟨gb, 1, none⟩ = some (.int .i64 e.f1) := (blk_cell HX2.out 1).trans rfl
  have gb2 : w2.cell? ⟨gb, 2, none⟩ = some (.int .i64 e.f2) := (blk_cell HX2.out 2).trans rfl
  have gb3 : w2.cell? ⟨gb, 3, none⟩ = some (.string e.f3) := (blk_cell HX2.out 3).trans rfl
  have gb4 : w2.cell? ⟨gb, 4, none⟩ = some (.slice B e.f4.length d) := (blk_cell HX2.out 4).trans rfl
  go_upto_block 0 with fail
  go_cut [] (fun wx => Aside0 (Below w.heap.size w wx))
  case first =>
    go_wp2_with fail
    go_loopg [5] (e.f4.length + 1) (fun gg v5 wr => ∃ i : Nat, v5 = .int .i64 (i : Int) ∧ i ≤ e.f4.length ∧ e.f4.length < i + gg ∧ Aside0 (wr.heap[ga]? = some (.cells (#[.int .i64 e.f0, .int .i64 e.f1, .int .i64 e.f2, .string e.f3, .slice A e.f4.length c]) 30 (0, 0))) ∧ Aside0 (wr.heap[gb]? = some (.cells (#[.int .i64 e.f0, .int .i64 e.f1, .int .i64 e.f2, .string e.f3, .slice B e.f4.length d]) 30 (0, 0))) ∧ Aside0 (Below w.heap.size w wr))
    case atStart => exact ⟨0, rfl, Nat.zero_le _, by omega, HA2, HX2, HW2⟩
    case round =>
      clear HA1 HA2 HX2 HW2 HB1 HB2 HGA HGB ga0 ga1 ga2 ga3 ga4 gb0 gb1 gb2 gb3 gb4
      obtain ⟨i, rfl, hi, hig, HA3, HX3, HW3⟩ := hrel
      generalize wr = w3 at *
      have ga4 : w3.cell? ⟨ga, 4, none⟩ = some (.slice A e.f4.length c) := (blk_cell HA3.out 4).trans rfl
      have gb4 : w3.cell? ⟨gb, 4, none⟩ = some (.slice B e.f4.length d) := (blk_cell HX3.out 4).trans rfl
      by_cases hl : i < e.f4.length
      · have b1 : decide ((i : Int) < (e.f4.length : Int)) = true := decide_eq_true (by omega)
        have b2 : decide (i < e.f4.length) = true := decide_eq_true hl
        obtain ⟨ad, A4, c4, e1, p0, p1, p2, p3, p4, p5, p6⟩ := at_T30 (Kd.C_below HRA.out HW3.out) (i : Int) (by omega) (by omega)
        cases e1
        obtain ⟨ae, B4, d4, e1, q0, q1, q2, q3, q4, q5, q6⟩ := at_T30 (Kd.C_below HRB.out HW3.out) (i : Int) (by omega) (by omega)
        cases e1
        have hx : rd_T30 e.f4 (i : Int) = e.f4[i] := by simp [rd_T30, hl]
        have HIH := Aside0.mk (ih e.f4[i] (List.getElem_mem hl))
        obtain ⟨x, hxx⟩ : ∃ z, e.f4[i] = z := ⟨_, rfl⟩
        rw [hxx] at hx HIH
        rw [Int.toNat_natCast, hx] at p0 p1 p2 p3 p4 q0 q1 q2 q3 q4
        rw [hx] at p5 p6 q5 q6
        have H5 := Aside0.mk p5
        have H6 := Aside0.mk p6
        have J5 := Aside0.mk q5
        have J6 := Aside0.mk q6
        clear hx hxx p5 p6 q5 q6
        go_upto_region 6 with fail
        go_still_tail 10, (by kernel_rfl)
        change wpList _ _ _ _ _ w3.drew
        go_wp2_with fail
        refine (HIH.out A4 B4 c4 d4 w3.drew (Kd.C_below H6.out (below_drew (Below.refl _ _))) H5.out (Kd.C_below J6.out (below_drew (Below.refl _ _))) J5.out).mono ?_
        rintro q w4 ⟨rfl, hb⟩
        have hb4 := below_then (below_drew (Below.refl w3.heap.size w3)) (Nat.le_refl _) hb
        have HA4 := Aside0.mk (below_read hb4 HA3.out)
        have HX4 := Aside0.mk (below_read hb4 HX3.out)
        have HW4 := Aside0.mk (below_then HW3.out HW3.out.size hb4)
        clear hb hb4 HIH
        go_wp2_with fail
        go_roundg (e.f4.length - i)
        case measure => omega
        case rel => exact ⟨i + 1, by push_cast; rfl, by omega, by omega, HA4, HX4, HW4⟩
      · have b1 : decide ((i : Int) < (e.f4.length : Int)) = false := decide_eq_false (by omega)
        have b2 : decide (i < e.f4.length) = false := decide_eq_false hl
        go_wp2_with fail
        go_meet
        case rel => exact HW3
  case rest =>
    go_wp2_with fail
    go_ret
    exact ⟨rfl, hcut.out⟩
theorem same_all {e : S30} (h : WE e) : Sm e := by
  induction h with
  | num n h0 h1 => exact same_step _ (fun x hx => by cases hx)
  | var nm h hw => exact same_step _ (fun x hx => by cases hx)
  | inp => exact same_step _ (fun x hx => by cases hx)
  | elem nm i h hw hi ih => exact same_step _ (fun x hx => by rw [List.mem_singleton.1 hx]; exact ih)
  | neg a ha ih => exact same_step _ (fun x hx => by rw [List.mem_singleton.1 hx]; exact ih)
  | bin op a b o1 o5 ha hb iha ihb =>
    refine same_step _ (fun x hx => ?_)
    have hx : x = a ∨ x = b := by simpa using hx
    rcases hx with rfl | rfl
    · exact iha
    · exact ihb
theorem same_calls {e : S30} (h : WE e) (A B : Option Addr) (c d : Nat) (w : World) (hA : k30.C w A e.f4.length e.f4) (hc : e.f4.length ≤ c) (hB : k30.C w B e.f4.length e.f4) (hd : e.f4.length ≤ d) :
    Calls Tryd.prog 21 #[.agg #[.int .i64 e.f0, .int .i64 e.f1, .int .i64 e.f2, .string e.f3, .slice A e.f4.length c], .agg #[.int .i64 e.f0, .int .i64 e.f1, .int .i64 e.f2, .string e.f3, .slice B e.f4.length d]] w fun q w' => q = .returned (.bool true) ∧ Below w.heap.size w w' := same_all h A B c d w hA hc hB hd
end Go.Proofs.YtfeaekdhpkdljaaDoor.Rd
namespace Go.Proofs.YtfeaekdhpkdljaaDoor.Rd
open Go.RowKit Go.Proofs.YtfeaekdhpkdljaaDoorW.PrintWords Go.Proofs.YtfeaekdhpkdljaaDoorW.PrintLast Go.Proofs.YtfeaekdhpkdljaaDoor.Sh
set_option linter.unusedVariables false
set_option linter.unusedSimpArgs false
def hdB : ByteArray := (⟨#[116, 104, 114, 101, 97, 100, 32, 116, 32, 123, 32, 120, 32, 61, 32]⟩ : ByteArray)
def tlB : ByteArray := (⟨#[59, 32, 125]⟩ : ByteArray)
def thN : ByteArray := (⟨#[116, 104, 114, 101, 97, 100]⟩ : ByteArray)
def tN : ByteArray := ⟨#[116]⟩
def xN : ByteArray := ⟨#[120]⟩
def hdP : List Pc := [pcN thN, pcW, pcN tN, pcW, pcS 123, pcW, pcN xN, pcW, pcS 61, pcW]
def hdT : List TD := [nt thN, nt tN, sg 123, nt xN, sg 61]
theorem hd_bts : bts hdB = pcB hdP := by decide
theorem tl_bts : bts tlB = pcB [pcS 59, pcW, pcS 125] := by decide
theorem hd_T : pcT hdP = hdT := rfl
theorem thN_ok : NameOK thN := ⟨[116, 104, 114, 101, 97, 100], rfl, by decide, ⟨116, [104, 114, 101, 97, 100], rfl, by decide⟩, by decide⟩
theorem tN_ok : NameOK tN := ⟨[116], rfl, by decide, ⟨116, [], rfl, by decide⟩, by decide⟩
theorem xN_ok : NameOK xN := ⟨[120], rfl, by decide, ⟨120, [], rfl, by decide⟩, by decide⟩
theorem eq_pc (r : List Int) : PcOK (pcS 61) (32 :: r) := by
  refine ⟨⟨61, [], rfl, by decide⟩, fun i => ?_⟩
  show tokL i (61 :: 32 :: r) = (⟨3, ⟨#[61]⟩, 0, i⟩, 1, 0)
  have hs : signS (61 :: 32 :: r) = ⟨#[61]⟩ := by
    show (if twos.any (fun v => decide (strOfNums [61, 32] = v)) = true then strOfNums [61, 32] else if (61 : Int) ∈ ones then strOfNums [61] else ⟨#[]⟩) = _
    rw [if_neg (by decide), if_pos (by decide)]
    rfl
  simp only [tokL]
  rw [if_neg (by decide), if_neg (by decide), hs]
  rfl
theorem hd_adj (r : List Int) : Adj hdP r :=
  ⟨name_pc thN_ok _ (headOK_cons (by decide) _), blank_pc _, name_pc tN_ok _ (headOK_cons (by decide) _), blank_pc _, sign_pc 123 (by decide) (by decide) _, blank_pc _, name_pc xN_ok _ (headOK_cons (by decide) _), blank_pc _, eq_pc _, blank_pc _, trivial⟩
theorem tl_adj : Adj [pcS 59, pcW, pcS 125] [] := ⟨sign_pc 59 (by decide) (by decide) _, blank_pc _, sign_pc 125 (by decide) (by decide) _, trivial⟩
theorem has_of_data {ts : List S86} {ds m : List TD} (h : ts.map dataT = ds ++ m) : Has ts 0 ds := ⟨m, h⟩
/-- How such a text is read, up to its first expression. -/
theorem pars_hd {ts : List S86} {en : Int} {j : Nat} (h : Has ts 0 hdT) : parsT ts en (j + 3) = (exprP ts en j ⟨5, 0, 0⟩ 0).bind fun e => (blockL ts en (j + 2) [⟨1, xN, z30, e.1, z33, [], []⟩] (needS ts en e.2 (⟨#[59]⟩ : ByteArray)) 0).bind fun q =>
    (thrL ts en (j + 3) (j + 2) [⟨tN, [], q.1⟩] (needS ts en q.2 (⟨#[125]⟩ : ByteArray))).bind fun t => some (if t.2.e ≠ 0 then (pg0, t.2.pos, t.2.e) else (⟨[], [], [], t.1⟩, en, 0)) := by
  have h0 : Has ts 0 (nt thN :: [nt tN, sg 123, nt xN, sg 61]) := h
  have h1 : Has ts 1 (nt tN :: [sg 123, nt xN, sg 61]) := h0.next
  have h2 : Has ts 2 (sg 123 :: [nt xN, sg 61]) := h1.next
  have h3 : Has ts 3 (nt xN :: [sg 61]) := h2.next
  have h4 : Has ts 4 [sg 61] := h3.next
  have e1 : declF ts en (j + 3) ([], [], []) ⟨0, 0, 0⟩ = some (([], [], []), ⟨0, 0, 0⟩) := by
    simp only [declF]
    rw [if_neg (fun hc => by rw [h0.is] at hc; exact absurd hc.2 (by decide))]
  have e2 : fullS ts en (needS ts en ⟨0, 0, 0⟩ (⟨#[116, 104, 114, 101, 97, 100]⟩ : ByteArray)) ((([] : List S52).length : Nat) : Int) 4 = ⟨1, 0, 0⟩ := by
    rw [h0.need (by decide)]
    unfold fullS
    rw [if_neg (fun hc => absurd hc.1 (by decide))]
  have e3 : needS ts en (nameS ts en ⟨1, 0, 0⟩).2 (⟨#[123]⟩ : ByteArray) = ⟨3, 0, 0⟩ := by
    rw [h1.name (by decide)]
    exact h2.need (by decide)
  have e3' : (nameS ts en ⟨1, 0, 0⟩).1 = tN := by rw [h1.name (by decide)]
  have e4 : locL ts en (j + 3) [] ⟨3, 0, 0⟩ = some ([], ⟨3, 0, 0⟩) := by
    simp only [locL]
    rw [h3.is, if_neg (by decide)]
  have e5 : stmtP ts en (j + 2) ⟨3, 0, 0⟩ 0 = (exprP ts en j ⟨5, 0, 0⟩ 0).bind fun e => some (⟨1, xN, z30, e.1, z33, [], []⟩, needS ts en e.2 (⟨#[59]⟩ : ByteArray)) := by
    have hd : (if (0 : Int) > 10 then failS ts en ⟨3, 0, 0⟩ 3 else (⟨3, 0, 0⟩ : Rs)) = ⟨3, 0, 0⟩ := if_neg (by decide)
    simp only [stmtP, hd, stmtG]
    rw [h3.is, h3.is, h3.is, h3.is, h3.is, h3.is, if_neg (by decide), if_neg (by decide), if_neg (by decide), if_neg (by decide), if_neg (by decide), if_neg (by decide), h3.name (by decide), h4.is, if_neg (by decide), h4.need (by decide)]
  have e6 : blockL ts en (j + 3) [] ⟨3, 0, 0⟩ 0 = (exprP ts en j ⟨5, 0, 0⟩ 0).bind fun e => blockL ts en (j + 2) [⟨1, xN, z30, e.1, z33, [], []⟩] (needS ts en e.2 (⟨#[59]⟩ : ByteArray)) 0 := by
    have : blockL ts en (j + 3) [] ⟨3, 0, 0⟩ 0 = (stmtP ts en (j + 2) ⟨3, 0, 0⟩ 0).bind fun r => blockL ts en (j + 2) [r.1] r.2 0 := by
      show blockL ts en (j + 2 + 1) [] ⟨3, 0, 0⟩ 0 = _
      rw [blockL, if_pos ⟨rfl, by rw [h3.is]; decide⟩]
      rfl
    rw [this, e5, Option.bind_assoc]
    rfl
  have e7 : thrF ts en (j + 3) ⟨1, 0, 0⟩ = (exprP ts en j ⟨5, 0, 0⟩ 0).bind fun e => (blockL ts en (j + 2) [⟨1, xN, z30, e.1, z33, [], []⟩] (needS ts en e.2 (⟨#[59]⟩ : ByteArray)) 0).bind fun q => some (⟨tN, [], q.1⟩, needS ts en q.2 (⟨#[125]⟩ : ByteArray)) := by
    unfold thrF
    rw [e3, e3', e4, Option.bind_some]
    simp only []
    rw [e6, Option.bind_assoc]
  have e8 : thrL ts en (j + 3) (j + 3) [] ⟨0, 0, 0⟩ = (thrF ts en (j + 3) ⟨1, 0, 0⟩).bind fun r => thrL ts en (j + 3) (j + 2) [r.1] r.2 := by
    show thrL ts en (j + 3) (j + 2 + 1) [] ⟨0, 0, 0⟩ = _
    rw [thrL, if_pos ⟨rfl, h0.lt⟩, e2]
    rfl
  unfold parsT
  rw [e1, Option.bind_some, e8, e7]
  simp only [Option.bind_assoc, Option.bind_some]
theorem block_front (ts : List S86) (en : Int) : ∀ (n : Nat) (l : List S54) (s : Rs) (deep : Int) r, blockL ts en n l s deep = some r → ∃ m, r.1 = l ++ m
  | 0, _, _, _, _, h => by simp [blockL] at h
  | n + 1, l, s, deep, r, h => by
    simp only [blockL] at h
    split at h
    · obtain ⟨q, _, h⟩ := Option.bind_eq_some_iff.1 h
      obtain ⟨m, hm⟩ := block_front ts en n _ _ _ _ h
      exact ⟨[q.1] ++ m, by rw [hm, List.append_assoc]⟩
    · injection h with h
      subst h
      exact ⟨[], by simp⟩
theorem thrL_front (ts : List S86) (en : Int) (m : Nat) : ∀ (k : Nat) (T : List S52) (s : Rs) r, thrL ts en m k T s = some r → ∃ U, r.1 = T ++ U
  | 0, _, _, _, h => by simp [thrL] at h
  | k + 1, T, s, r, h => by
    simp only [thrL] at h
    split at h
    · obtain ⟨q, _, h⟩ := Option.bind_eq_some_iff.1 h
      obtain ⟨m, hm⟩ := thrL_front ts en m k _ _ _ h
      exact ⟨[q.1] ++ m, by rw [hm, List.append_assoc]⟩
    · injection h with h
      subst h
      exact ⟨[], by simp⟩
theorem pars_of (l : List Int) (n : Nat) (p : Pg) (z : Int) (h : parseF l n = some (p, z, 0)) : (lexF l).2.2 = 0 ∧ parsT (lexF l).1 (l.length : Int) n = some (p, z, 0) := by
  unfold parseF at h
  by_cases h0 : (lexF l).2.2 = 0
  · rw [if_neg (fun hc => hc h0)] at h
    exact ⟨h0, h⟩
  · rw [if_pos h0] at h
    injection h with h
    injection h with _ h
    injection h with _ h
    exact absurd h h0
/-- What was read of a text that begins so is well formed. -/
theorem exprs_1 (s : List Int) (p : Pg) (z : Int) (t : S52) (st : S54) (h : parseF (bts hdB ++ s) 4000 = some (p, z, 0)) (ht : p.th = [t]) (hs : t.f2 = [st]) : ∃ k, Wt st.f3 k ∧ k ≤ 601 := by
  obtain ⟨h0, hp⟩ := pars_of _ _ _ _ h
  have htok := lexF_toks _ h0
  have hlen := lexF_len (bts hdB ++ s)
  have hhas : Has (lexF (bts hdB ++ s)).1 0 hdT := by
    unfold lexF at h0 ⊢
    split at h0
    · exact absurd (show (4 : Int) = 0 from h0) (by decide)
    · rename_i hc
      rw [if_neg hc]
      have hr := lex_run (bts hdB ++ s) hdP ((bts hdB ++ s).length + 1 - 10) 0 [] s (by rw [hd_bts]; rfl) (hd_adj s) (by decide)
      have hl : 15 ≤ (bts hdB ++ s).length := by rw [List.length_append]; exact Nat.le_trans (by decide) (Nat.le_add_right _ _)
      rw [show (bts hdB ++ s).length + 1 - 10 + hdP.length = (bts hdB ++ s).length + 1 by show _ + 1 - 10 + 10 = _; omega] at hr
      rw [hr] at h0 ⊢
      obtain ⟨m, hm⟩ := lex_front _ _ _ _ h0
      rw [hm]
      refine ⟨m.map dataT, ?_⟩
      simp only [List.nil_append, List.drop_zero, List.map_append, pcP_data, hd_T]
  generalize (lexF (bts hdB ++ s)).1 = ts at hp htok hlen hhas
  rw [pars_hd (j := 3997) hhas] at hp
  obtain ⟨e, he, hp⟩ := Option.bind_eq_some_iff.1 hp
  obtain ⟨q, hq, hp⟩ := Option.bind_eq_some_iff.1 hp
  obtain ⟨u, hu, hp⟩ := Option.bind_eq_some_iff.1 hp
  have hm5 : mS ts ⟨5, 0, 0⟩ ≤ 601 := by rw [mS_at]; omega
  have hle := ((ex_ok ts _ 3997).2.2.2.2.1 ⟨5, 0, 0⟩ 0 (by omega)).le he
  have hn1 := le_need (ts := ts) (en := ((bts hdB ++ s).length : Int)) (s := e.2) (x := (⟨#[59]⟩ : ByteArray))
  have hlq := ((sm_ok ts _ 3999).2.2.2 _ _ 0 (by have := hle.2; have := hn1.2; omega)).le hq
  have hn2 := le_need (ts := ts) (en := ((bts hdB ++ s).length : Int)) (s := q.2) (x := (⟨#[125]⟩ : ByteArray))
  have hb : mS ts (needS ts ((bts hdB ++ s).length : Int) q.2 (⟨#[125]⟩ : ByteArray)) ≤ 601 := by have := hle.2; have := hn1.2; have := hlq.2; have := hn2.2; omega
  have hlu := (thrL_ok ts _ 4000 3999 _ _ (by omega) (by omega)).le hu
  have hue : u.2.e = 0 := by
    rcases Decidable.em (u.2.e = 0) with h1 | h1
    · exact h1
    · rw [if_pos h1] at hp
      injection hp with hp
      injection hp with _ hp
      injection hp with _ hp
      all_goals exact absurd hp h1
  rw [if_neg (fun hc => hc hue)] at hp
  injection hp with hp
  injection hp with hp _
  obtain ⟨k, hwt, hk⟩ := wt_expr htok (by omega) he (hn1.e (hlq.e (hn2.e (hlu.e hue))))
  obtain ⟨U, hU⟩ := thrL_front _ _ _ _ _ _ _ hu
  obtain ⟨M, hM⟩ := block_front _ _ _ _ _ _ _ hq
  have h1 : u.1 = [t] := by rw [← ht, ← hp]
  rw [hU] at h1
  injection h1 with h1 _
  rw [← h1] at hs
  have hs' : q.1 = [st] := hs
  rw [hM] at hs'
  injection hs' with hs' _
  rw [← hs']
  exact ⟨k, hwt, by omega⟩
/-- A well formed expression, printed into such a text, is read as it was; or the error is 3 or 4. -/
theorem exprs_2 (x : S30) (hx : WE x) (m : Nat) (hm : SizeOf.sizeOf x ≤ m) : ∃ p z f, parseF (bts hdB ++ (bts (Sh.exprF m x) ++ bts tlB)) 4000 = some (p, z, f) ∧ (f = 3 ∨ f = 4 ∨ (f = 0 ∧ ∃ t s, p.th = [t] ∧ t.f2 = [s] ∧ s.f3 = x)) := by
  obtain ⟨px, hb⟩ := back_all x hx
  have hbt : bts hdB ++ (bts (Sh.exprF m x) ++ bts tlB) = pcB (hdP ++ (px ++ [pcS 59, pcW, pcS 125])) := by rw [hb.txt m hm, hd_bts, tl_bts, pcB_app, pcB_app]
  have hadj : Adj (hdP ++ (px ++ [pcS 59, pcW, pcS 125])) [] := adj_app _ _ _ (hd_adj _) (adj_app _ _ _ (hb.adj _ (headOK_cons (by decide) _)) tl_adj)
  have hT : pcT (hdP ++ (px ++ [pcS 59, pcW, pcS 125])) = hdT ++ (pcT px ++ [sg 59, sg 125]) := by rw [pcT_app, pcT_app]; rfl
  rw [hbt]
  generalize hdP ++ (px ++ [pcS 59, pcW, pcS 125]) = ps at hadj hT
  rcases lex_text ps hadj with ⟨h2, h6, hl⟩ | h4
  · unfold parseF
    rw [hl]
    simp only []
    rw [if_neg (by decide)]
    have hdat : (pcP ps 0).map dataT = hdT ++ (pcT px ++ [sg 59, sg 125]) := by rw [pcP_data, hT]
    have hlen : (pcP ps 0).length = 5 + ((pcT px).length + 2) := by rw [pcP_len, hT]; simp [hdT]; omega
    have hl6 : (pcP ps 0).length ≤ 600 := by rw [pcP_len]; exact h6
    generalize pcP ps 0 = ts at hdat hlen hl6
    generalize ((pcB ps).length : Int) = en
    have hhas : Has ts 0 hdT := has_of_data hdat
    have hall : Has ts 0 (hdT ++ (pcT px ++ [sg 59, sg 125])) := ⟨[], by simpa using hdat⟩
    have h5 : Has ts 5 (pcT px ++ [sg 59, sg 125]) := hall.skip
    rw [pars_hd (j := 3997) hhas]
    obtain ⟨e, he, hle⟩ := (ex_ok ts en 3997).2.2.2.2.1 ⟨5, 0, 0⟩ 0 (by rw [mS_at]; omega)
    rw [he, Option.bind_some]
    have h5' : Has ts 5 (pcT px ++ [sg 59]) := by
      have : Has ts 5 ((pcT px ++ [sg 59]) ++ [sg 125]) := by simpa using h5
      exact this.left
    rcases expr_one hb.un h5' ⟨by decide, by decide, by decide, by decide, by decide, by decide⟩ (by omega) he with rfl | he3
    · have h7 : Has ts (5 + (pcT px).length) (sg 59 :: [sg 125]) := h5.skip
      have h8 := h7.next
      simp only []
      rw [h7.need (by decide)]
      have e1 : blockL ts en (3997 + 2) [⟨1, xN, z30, x, z33, [], []⟩] ⟨5 + (pcT px).length + 1, 0, 0⟩ 0 = some ([⟨1, xN, z30, x, z33, [], []⟩], ⟨5 + (pcT px).length + 1, 0, 0⟩) := by
        show blockL ts en (3998 + 1) _ _ _ = _
        rw [blockL, if_neg (fun hc => by rw [h8.is] at hc; exact absurd hc.2 (by decide))]
      rw [e1, Option.bind_some]
      simp only []
      rw [h8.need (by decide)]
      have e2 : thrL ts en (3997 + 3) (3997 + 2) [⟨tN, [], [⟨1, xN, z30, x, z33, [], []⟩]⟩] ⟨5 + (pcT px).length + 1 + 1, 0, 0⟩ = some ([⟨tN, [], [⟨1, xN, z30, x, z33, [], []⟩]⟩], ⟨5 + (pcT px).length + 1 + 1, 0, 0⟩) := by
        show thrL ts en _ (3998 + 1) _ _ = _
        rw [thrL, if_neg (fun hc => by have := hc.2; simp only [] at this; omega)]
      rw [e2, Option.bind_some]
      exact ⟨_, _, _, rfl, .inr (.inr ⟨rfl, _, _, rfl, rfl, rfl⟩)⟩
    · have hne := ne3 he3
      rw [need_err hne]
      have e1 : ∀ l, blockL ts en (3997 + 2) l e.2 0 = some (l, e.2) := by
        intro l
        show blockL ts en (3998 + 1) _ _ _ = _
        rw [blockL, if_neg (fun hc => hne hc.1)]
      rw [e1, Option.bind_some]
      simp only []
      rw [need_err hne]
      have e2 : ∀ T, thrL ts en (3997 + 3) (3997 + 2) T e.2 = some (T, e.2) := by
        intro T
        show thrL ts en _ (3998 + 1) _ _ = _
        rw [thrL, if_neg (fun hc => hne hc.1)]
      rw [e2, Option.bind_some]
      simp only []
      rw [if_pos hne]
      exact ⟨_, _, _, rfl, .inl he3⟩
  · unfold parseF
    rw [if_pos (by rw [h4]; decide)]
    exact ⟨_, _, _, rfl, .inr (.inl h4)⟩
end Go.Proofs.YtfeaekdhpkdljaaDoor.Rd
