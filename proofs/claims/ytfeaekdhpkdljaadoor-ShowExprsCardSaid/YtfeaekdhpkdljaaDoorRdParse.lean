/- meddlerref5.Parse answers parseF. -/
import Derived.Test.YtfeaekdhpkdljaaDoorRdPkA
import Derived.Test.YtfeaekdhpkdljaaDoorRdDecls
import Derived.Test.YtfeaekdhpkdljaaDoorRdPkD
namespace Go.Proofs.YtfeaekdhpkdljaaDoor.Rd
open Go.RowKit Go.Proofs.YtfeaekdhpkdljaaDoorW.PrintWords Go.Proofs.YtfeaekdhpkdljaaDoorW.PrintLast Go.Proofs.YtfeaekdhpkdljaaDoor.Sh
set_option linter.unusedVariables false
set_option linter.unusedSimpArgs false
structure Pg where
  gl : List S59
  ar : List S61
  mu : List ByteArray
  th : List S52
def pg0 : Pg := ⟨[], [], [], []⟩
def thrL (ts : List S86) (en : Int) (m : Nat) : Nat → List S52 → Rs → Option (List S52 × Rs)
  | 0, _, _ => none
  | k + 1, T, s => if s.e = 0 ∧ s.at_ < ts.length then (thrF ts en m (fullS ts en (needS ts en s (⟨#[116, 104, 114, 101, 97, 100]⟩ : ByteArray)) (T.length : Int) 4)).bind fun r => thrL ts en m k (T ++ [r.1]) r.2 else some (T, s)
def parsT (ts : List S86) (en : Int) (n : Nat) : Option (Pg × Int × Int) :=
  (declF ts en n ([], [], []) ⟨0, 0, 0⟩).bind fun d => (thrL ts en n n [] d.2).bind fun t => some (if t.2.e ≠ 0 then (pg0, t.2.pos, t.2.e) else (⟨d.1.1, d.1.2.1, d.1.2.2, t.1⟩, en, 0))
def parseF (l : List Int) (n : Nat) : Option (Pg × Int × Int) := if (lexF l).2.2 ≠ 0 then some (pg0, (lexF l).2.1, (lexF l).2.2) else parsT (lexF l).1 (l.length : Int) n
/-- A program's rows, in blocks from 'base' on. -/
structure Px (base : Nat) (x : Pg) (AG : Option Addr) (cG : Nat) (AA : Option Addr) (cA : Nat) (AM : Option Addr) (cM : Nat) (AT : Option Addr) (cT : Nat) (w : World) : Prop where
  lG : x.gl.length ≤ cG
  rG : Kd.F k59 w (fun k => base ≤ k) AG x.gl.length x.gl
  lA : x.ar.length ≤ cA
  rA : Kd.F k61 w (fun k => base ≤ k) AA x.ar.length x.ar
  lM : x.mu.length ≤ cM
  rM : Kd.F Kd.string w (fun k => base ≤ k) AM x.mu.length x.mu
  lT : x.th.length ≤ cT
  rT : Kd.F k52 w (fun k => base ≤ k) AT x.th.length x.th
abbrev pxC (x : Pg) (AG : Option Addr) (cG : Nat) (AA : Option Addr) (cA : Nat) (AM : Option Addr) (cM : Nat) (AT : Option Addr) (cT : Nat) : Array Value := #[.slice AG x.gl.length cG, .slice AA x.ar.length cA, .slice AM x.mu.length cM, .slice AT x.th.length cT]
section
variable {base base' : Nat} {x : Pg} {AG AA AM AT : Option Addr} {cG cA cM cT : Nat} {w w' : World}
theorem Px.on (h : Px base x AG cG AA cA AM cM AT cT w) (hb : Below w.heap.size w w') : Px base x AG cG AA cA AM cM AT cT w' :=
  ⟨h.lG, F_on h.rG (fun k _ hl => hb.block k hl) hb.size, h.lA, F_on h.rA (fun k _ hl => hb.block k hl) hb.size, h.lM, F_on h.rM (fun k _ hl => hb.block k hl) hb.size, h.lT, F_on h.rT (fun k _ hl => hb.block k hl) hb.size⟩
theorem Px.less (h : Px base x AG cG AA cA AM cM AT cT w) (hb : base' ≤ base) : Px base' x AG cG AA cA AM cM AT cT w :=
  ⟨h.lG, F_mono h.rG (fun k hk _ => Nat.le_trans hb hk), h.lA, F_mono h.rA (fun k hk _ => Nat.le_trans hb hk), h.lM, F_mono h.rM (fun k hk _ => Nat.le_trans hb hk), h.lT, F_mono h.rT (fun k hk _ => Nat.le_trans hb hk)⟩
theorem Px.now (h : Px base x AG cG AA cA AM cM AT cT w) : k59.C w AG x.gl.length x.gl ∧ k61.C w AA x.ar.length x.ar ∧ Kd.string.C w AM x.mu.length x.mu ∧ k52.C w AT x.th.length x.th :=
  ⟨h.rG w (fun _ _ _ => rfl), h.rA w (fun _ _ _ => rfl), h.rM w (fun _ _ _ => rfl), h.rT w (fun _ _ _ => rfl)⟩
theorem px0 (base : Nat) (w : World) : Px base pg0 none 0 none 0 none 0 none 0 w := ⟨Nat.le_refl _, F_nil _ _ _, Nat.le_refl _, F_nil _ _ _, Nat.le_refl _, F_nil _ _ _, Nat.le_refl _, F_nil _ _ _⟩
end
theorem slice_one (A : Option Addr) (n m : Nat) : (Value.slice A n m).oneCell' = true := rfl
theorem four_one (A B C D : Option Addr) (a a' b b' c c' d d' : Nat) : ∀ q ∈ (#[.slice A a a', .slice B b b', .slice C c c', .slice D d d'] : Array Value).toList, q.oneCell' = true := by
  intro q hq
  simp only [List.mem_cons, List.not_mem_nil, or_false] at hq
  rcases hq with h | h | h | h <;> subst h <;> rfl
theorem infoTh : (Tryd.prog.info? 52).map (fun i => (i.zero, i.size, i.bytes)) = some (some (.agg #[.string ⟨#[]⟩, .slice none 0 0, .slice none 0 0]), 3, 64) := by kernel_rfl
section
variable {w0 wr w1 w2 : World} {A : Option Addr} {c b gp gr : Nat} {ts : List S86} {en : Int} {s s' : Rs} {d : Dcl} {T : List S52} {AG AA AM AT : Option Addr} {cG cA cM cT : Nat}
/-- The program that was read, behind a store into another block below. -/
theorem Dw.px {base : Nat} (H : Dw w0 A c ts en b gp s d T (.slice AG d.1.length cG) (.slice AA d.2.1.length cA) (.slice AM d.2.2.length cM) (.slice AT T.length cT) wr) (hb : base ≤ w0.heap.size) (hr : gr < w0.heap.size) (hs : wr.grownBy w1 (some gr)) :
    Px base ⟨d.1, d.2.1, d.2.2, T⟩ AG cG AA cA AM cM AT cT w1 := by
  have go : ∀ k, w0.heap.size ≤ k → k < wr.heap.size → w1.heap[k]? = wr.heap[k]? := fun k hk hl => hs.block k hl (fun e => by injection e with e; omega)
  refine ⟨(Kd.N_reads' H.nG).2.1, ?_, (Kd.N_reads' H.nA).2.1, ?_, (Kd.N_reads' H.nM).2.1, ?_, (Kd.N_reads' H.nT).2.1, ?_⟩
  · exact F_mono (F_on (F_mono (ok' := fun k => w0.heap.size ≤ k) (Kd.N_F H.nG) (fun k hk hl => Kd.N_base H.nG k hk.symm)) go hs.size) (fun k hk _ => Nat.le_trans hb hk)
  · exact F_mono (F_on (F_mono (ok' := fun k => w0.heap.size ≤ k) (Kd.N_F H.nA) (fun k hk hl => Kd.N_base H.nA k hk.symm)) go hs.size) (fun k hk _ => Nat.le_trans hb hk)
  · exact F_mono (F_on (F_mono (ok' := fun k => w0.heap.size ≤ k) (Kd.N_F H.nM) (fun k hk hl => Kd.N_base H.nM k hk.symm)) go hs.size) (fun k hk _ => Nat.le_trans hb hk)
  · exact F_mono (F_on (F_mono (ok' := fun k => w0.heap.size ≤ k) (Kd.N_F H.nT) (fun k hk hl => hk.1)) go hs.size) (fun k hk _ => Nat.le_trans hb hk)
end
set_option maxHeartbeats 8000000 in
set_option maxRecDepth 100000 in
theorem parse_calls (A : Option Addr) (c0 : Nat) (l : List Int) (w : World) (hr : Kd.C (Kd.int .u8) w A l.length l) (hc : l.length ≤ c0) (hl : l.length ≤ 1000000000) (n : Nat) (hn : n ≤ 1000000000) (r : Pg × Int × Int) (hF : parseF l n = some r) :
    Calls Tryd.prog 18 #[.slice A l.length c0] w fun q w' => ∃ AG cG AA cA AM cM AT cT, q = .returned (.tuple #[.agg (pxC r.1 AG cG AA cA AM cM AT cT), .int .i64 r.2.1, .int .i64 r.2.2]) ∧ Px w.heap.size r.1 AG cG AA cA AM cM AT cT w' ∧ Below w.heap.size w w' := by
  have HR0 := Aside0.mk hr
  have HC0 := Aside0.mk hc
  have HLL := Aside0.mk hl
  have HN0 := Aside0.mk hn
  have HF := Aside0.mk hF
  clear hr hc hF hn
  go_enter Tryd.func18, Tryd.ntmps18
  go_wp2_with (first | ((with_reducible refine gate_dst (N := 2) rfl ?_); refine box_event ?hg (N := 2) ?hd (cs := #[.slice none 0 0, .slice none 0 0, .slice none 0 0, .slice none 0 0]) (t := 27) ?hr ?_; (case hd => rfl); (case hg => rfl); (case hr => first | (go_simp; done) | (go_simp; rfl)); intro gr hgg w1 hlit hb; have HZ1 := Aside0.mk hlit; have HB1 := Aside0.mk hb; have HGR := Aside0.mk hgg; clear hlit hb hgg))
  have HA1 := Aside0.mk (lex_calls A c0 l w1 (Kd.C_below HR0.out HB1.out) HC0.out HLL.out)
  refine HA1.out.mono ?_
  rintro q w2 ⟨v, rfl, hn, hb⟩
  clear HA1
  obtain ⟨AK, cK, rfl⟩ := Kd.N_slice hn
  have HTS := Aside0.mk (Kd.N_reads' hn)
  have HB2 := Aside0.mk hb
  have HZ2 := Aside0.mk (below_read hb HZ1.out)
  have HB12 := Aside0.mk (fun {wa wb : World} (h : Below w2.heap.size w2 wa) (hg : wa.grownBy wb (some gr)) => show Below w.heap.size w wb from (below_then (below_then HB1.out HB1.out.size hb) (Nat.le_trans HB1.out.size hb.size) h).grown hg (Nat.le_trans HB1.out.size (Nat.le_trans hb.size h.size)) (fun q hq => by injection hq with hq; rw [← hq, HGR.out]; exact Nat.le_refl _))
  have HGR2 := Aside0.mk (show gr < w2.heap.size from blk_lt HZ2.out)
  clear hn hb
  have hF := HF.out
  clear HF
  unfold parseF at hF
  obtain ⟨⟨ts, l2, l3⟩, hlx⟩ : ∃ z, lexF l = z := ⟨_, rfl⟩
  rw [hlx] at hF HTS ⊢
  clear hlx
  dsimp only at hF HTS ⊢
  by_cases h3 : l3 = 0
  · rw [if_neg (fun h => h h3)] at hF
    have e3 : (l3 != 0) = false := bne_eq_false_iff_eq.mpr h3
    have HF := Aside0.mk hF
    clear hF h3
    have hml : ts.length ≤ 9223372036854775807 := HTS.out.2.2.2.1
    go_wp2_with (first | ((with_reducible refine gate_dst (N := 25) rfl ?_); refine box_event ?hg (N := 25) ?hd (cs := #[.slice AK ts.length cK, .int .i64 0, .int .i64 (l.length : Int), .int .i64 0, .int .i64 0]) (t := 79) ?hr ?_; (case hd => rfl); (case hg => rfl); (case hr => first | (go_simp; done) | (go_simp; rfl)); intro b hgg w3 hlit hb; have HRB3 := Aside0.mk hlit; have HB3 := Aside0.mk hb; have HGB := Aside0.mk hgg; clear hlit hb hgg) | ((with_reducible refine gate_dst (N := 9) rfl ?_); refine box_event ?hg (N := 9) ?hd (cs := #[.slice none 0 0, .slice none 0 0, .slice none 0 0, .slice none 0 0]) (t := 27) ?hr ?_; (case hd => rfl); (case hg => rfl); (case hr => first | (go_simp; done) | (go_simp; rfl)); intro gp hgg w4 hlit hb; have HZP := Aside0.mk hlit; have HB4 := Aside0.mk hb; have HGPE := Aside0.mk hgg; clear hlit hb hgg) | ((with_reducible refine gate_store (t := 27) (p := 9) rfl ?_); refine put_val ?hg ?hn 27 (.tmp 9) (.tmp 26) ?ho gp 27 _ (#[.slice none 0 0, .slice none 0 0, .slice none 0 0, .slice none 0 0]) (.agg (#[.slice none 0 0, .slice none 0 0, .slice none 0 0, .slice none 0 0])) ?hp ?hx ?hu HZP.out ?ht ?hs ?h1 ?_; (case hg => rfl); (case hn => rfl); (case ho => rfl); (case hp => rfl); (case hx => rfl); (case hu => rfl); (case ht => kernel_rfl); (case hs => rfl); (case h1 => exact four_one _ _ _ _ _ _ _ _ _ _ _ _); intro w5 hlit hg; have HS5 := Aside0.mk hlit; have HBX := Aside0.mk (made_below HGPE.out HB4.out hg); have HRB5 := Aside0.mk (below_read HBX.out HRB3.out); have HB5 := Aside0.mk (below_then HB3.out HB3.out.size HBX.out); clear hlit hg))
    have HR5 := Aside0.mk (show Rd w2 AK cK ts (l.length : Int) b ⟨0, 0, 0⟩ w5 from ⟨HRB5.out, HB5.out, Nat.zero_le _⟩)
    have HX := Aside0.mk (show Ctx w2 AK cK ts b from ⟨HTS.out.2.2, HTS.out.2.1, by rw [HGB.out]; exact Nat.le_refl _⟩)
    have HGP := Aside0.mk (show w2.heap.size ≤ gp by have h1 := HGPE.out; have h2 := HB3.out.size; omega)
    have HD5 := Aside0.mk (show Dw w2 AK cK ts (l.length : Int) b gp ⟨0, 0, 0⟩ ([], [], []) [] (.slice none 0 0) (.slice none 0 0) (.slice none 0 0) (.slice none 0 0) w5 from ⟨HR5.out, HS5.out, Kd.N_nil .., Kd.N_nil .., Kd.N_nil .., Kd.N_nil ..⟩)
    obtain ⟨en, hen⟩ : ∃ z : Int, (l.length : Int) = z := ⟨_, rfl⟩
    have HEN := Aside0.mk hen
    rw [hen] at HD5 HF
    clear hen HR5 HS5 HRB5
    have hF := HF.out
    clear HF
    unfold parsT at hF
    obtain ⟨⟨dd, s0⟩, hd, hF⟩ := Option.bind_eq_some_iff.mp hF
    obtain ⟨⟨T1, t1⟩, ht, hF⟩ := Option.bind_eq_some_iff.mp hF
    dsimp only at hF ht
    have HT1 := Aside0.mk ht
    have HF := Aside0.mk hF
    have HDC := Aside0.mk (decl_calls w2 AK cK ts en b HX.out n HN0.out gp HGP.out ⟨0, 0, 0⟩ w5 _ HD5.out hd)
    clear hd ht hF
    refine HDC.out.mono ?_
    rintro q w6 ⟨rfl, vG, vA, vM, hD⟩
    have HL6 := Aside0.mk hD
    clear hD HDC HD5
    obtain ⟨AG, cG, rfl⟩ := Kd.N_slice HL6.out.nG
    obtain ⟨AA, cA, rfl⟩ := Kd.N_slice HL6.out.nA
    obtain ⟨AM, cM, rfl⟩ := Kd.N_slice HL6.out.nM
    replace HL6 : Aside0 (Dw w2 AK cK ts en b gp s0 dd [] (.slice AG dd.1.length cG) (.slice AA dd.2.1.length cA) (.slice AM dd.2.2.length cM) (.slice none 0 0) w6) := HL6
    go_upto_block 0 with fail
    go_cut [] (fun wx => ∃ vT, Aside0 (Dw w2 AK cK ts en b gp t1 dd T1 (.slice AG dd.1.length cG) (.slice AA dd.2.1.length cA) (.slice AM dd.2.2.length cM) vT wx))
    case first =>
      go_wp2_with fail
      go_loopg [] n (fun gg wr => ∃ (k : Nat) (T : List S52) (s1 : Rs) (vT : Value), k ≤ gg ∧ T.length + k ≤ n ∧ Aside0 (thrL ts en n k T s1 = some (T1, t1)) ∧ Aside0 (Dw w2 AK cK ts en b gp s1 dd T (.slice AG dd.1.length cG) (.slice AA dd.2.1.length cA) (.slice AM dd.2.2.length cM) vT wr))
      case atStart => exact ⟨n, [], s0, _, Nat.le_refl _, by simp, HT1, HL6⟩
      case round =>
        clear HL6 HT1
        obtain ⟨k, T, s1, vT, hgg, hkn, HKF, HL20⟩ := hrel
        generalize wr = w20 at *
        obtain ⟨AT, cT, rfl⟩ := Kd.N_slice HL20.out.nT
        have hk := HKF.out
        clear HKF
        cases k with
        | zero => simp [thrL] at hk
        | succ k =>
        simp only [thrL] at hk
        have h3 : w20.cell? ⟨b, 3, none⟩ = some (.int .i64 s1.e) := (blk_cell HL20.out.rd.blk 3).trans rfl
        have h1 : w20.cell? ⟨b, 1, none⟩ = some (.int .i64 s1.at_) := (blk_cell HL20.out.rd.blk 1).trans rfl
        have h0 : w20.cell? ⟨b, 0, none⟩ = some (.slice AK ts.length cK) := (blk_cell HL20.out.rd.blk 0).trans rfl
        by_cases ke : s1.e = 0
        · have e1 : (s1.e == 0) = true := beq_iff_eq.mpr ke
          by_cases hlt : s1.at_ < ts.length
          · rw [if_pos ⟨ke, hlt⟩] at hk
            have b1 : decide ((s1.at_ : Int) < (ts.length : Int)) = true := decide_eq_true (by omega)
            have b2 : decide (s1.at_ < ts.length) = true := decide_eq_true hlt
            obtain ⟨r1, hk1, hk⟩ := Option.bind_eq_some_iff.mp hk
            have HK1 := Aside0.mk hk1
            have HK := Aside0.mk hk
            clear hk hk1 ke
            go_upto_region 7 with fail
            go_quiet (fail)
            obtain ⟨w21, hw21⟩ : ∃ z, w20.drewN nq = z := ⟨_, rfl⟩
            rw [hw21]
            have HL21 := Aside0.mk (HL20.out.on (show Below w20.heap.size w20 w21 by rw [← hw21]; exact pw_below_drewN (Below.refl _ _) nq))
            clear hw21 h0 h1 h3 HL20 b1 b2 e1 hlt
            have HN1 := Aside0.mk (need_calls w2 AK cK ts en b HX.out s1 (⟨#[116, 104, 114, 101, 97, 100]⟩ : ByteArray) w21 HL21.out.rd)
            go_wp2_with fail
            refine HN1.out.mono ?_
            rintro q w23 ⟨rfl, hr, hg⟩
            have HL23 := Aside0.mk (HL21.out.call hr hg)
            clear hr hg HN1 HL21
            have hy1 : w23.cell? ⟨gp, 3, none⟩ = some (.slice AT T.length cT) := (blk_cell HL23.out.cs 3).trans rfl
            go_wp2_with fail
            refine (full_calls w2 AK cK ts en b HX.out (needS ts en s1 (⟨#[116, 104, 114, 101, 97, 100]⟩ : ByteArray)) (T.length : Int) 4 w23 HL23.out.rd).mono ?_
            rintro q w22 ⟨rfl, hr, hg⟩
            have HL22 := Aside0.mk (HL23.out.call hr hg)
            have HD := Aside0.mk (HL22.out.on (below_drew (Below.refl _ _)))
            clear hr hg hy1 HL23
            go_upto_region 10 with fail
            refine start_ (n := 8) (S := fun w' => w'.cell? ⟨gp, 3, none⟩ = some (.slice AT T.length cT)) (ds := [7]) #[false, false, false, false, false, false, false, false] (by kernel_rfl) rfl rfl ((blk_cell HD.out.cs 3).trans rfl) (fun hHeld => ?_)
            refine pure_ (i := 0) (N := some 53) (v := ?_) (a' := ?_) #[true, false, false, false, false, false, false, false] rfl rfl (by kernel_rfl) (fun _ _ _ h => h) (Or.inl ⟨by rfl, ?_⟩) ?_ ?_
            rotate_left
            · intro w'
              go_simp
              with_reducible rfl
            rotate_left
            · simp only [Act.put, List.setIfInBounds_toArray, List.set_cons_zero, List.set_cons_succ, i64_w, i32_w]
              rfl
            refine pure_ (i := 2) (N := some 55) (v := ?_) (a' := ?_) #[true, false, true, false, false, false, false, false] rfl rfl (by kernel_rfl) (fun _ _ _ h => h) (Or.inl ⟨by rfl, ?_⟩) ?_ ?_
            rotate_left
            · intro w'
              go_simp
              with_reducible rfl
            rotate_left
            · simp only [Act.put, List.setIfInBounds_toArray, List.set_cons_zero, List.set_cons_succ, i64_w, i32_w]
              rfl
            refine take_ (i := 1) (N := some 54) (v := ?_) (a' := ?_) #[true, true, true, false, false, false, false, false] rfl rfl (by kernel_rfl) (fun _ _ _ h => h) (Or.inl ⟨by rfl, ?_⟩) hHeld ?_ ?_
            rotate_left
            · intro w' s0
              go_simp
              with_reducible rfl
            rotate_left
            · simp only [Act.put, List.setIfInBounds_toArray, List.set_cons_zero, List.set_cons_succ, i64_w, i32_w]
              rfl
            refine one_ (i := 3) (N := some 56) #[true, true, true, true, false, false, false, false] rfl rfl (by kernel_rfl) (by decide) (fun K hK => ?_)
            refine goes_ Tryd.func35 (by kernel_rfl) rfl #[.pointer (some ⟨b, 0, none⟩)] (by rfl) rfl rfl (by simp only [List.map_toArray, List.map_cons, List.map_nil, Act.eval]; rfl) ?_
            refine (thread_calls w2 AK cK ts en b HX.out n HN0.out (fullS ts en (needS ts en s1 (⟨#[116, 104, 114, 101, 97, 100]⟩ : ByteArray)) (T.length : Int) 4) w22.drew r1 HD.out.rd HK1.out).mono ?_
            rintro q v3 ⟨AL, cL, AB, cB, rfl, hx, hr, hg⟩
            have HS3 := Aside0.mk hg.size
            have HL3 := Aside0.mk (HD.out.call hr hg)
            have HE3 := Aside0.mk hx
            clear hr hg hx
            refine ⟨_, rfl, ?_⟩
            refine hK.out _ _ ((blk_cell HL3.out.cs 3).trans rfl) (fun hHeld => ?_)
            clear hK K
            refine norm_ (a' := ?_) ?_ ?_
            rotate_left
            · show Act.put _ (some 56) _ = _
              simp only [Act.put, List.setIfInBounds_toArray, List.set_cons_zero, List.set_cons_succ, i64_w, i32_w]
              rfl
            refine one_ (i := 4) (N := some 57) #[true, true, true, true, true, false, false, false] rfl rfl (by kernel_rfl) (by decide) (fun K hK => ?_)
            refine lit_step (n := 1) (by rfl) (N := 57) rfl (cs := #[.string r1.1.f0, .slice AL r1.1.f1.length cL, .slice AB r1.1.f2.length cB]) (t := 52) ?hr ?_
            case hr => first | (go_simp; done) | (go_simp; rfl)
            intro g hgg v4 hlit hb
            have HGB := Aside0.mk hlit
            have HGE := Aside0.mk (show v3.heap.size ≤ g by rw [hgg]; exact Nat.le_refl _)
            have HNE := Aside0.mk (show ∀ k, Value.ownBlock (.slice AT T.length cT) = some k → k < w22.drew.heap.size from fun k hk => Kd.N_lt HD.out.nT k hk)
            have HE4 := Aside0.mk (HE3.out.on hb)
            have HL4 := Aside0.mk (HL3.out.on hb)
            clear hlit hgg hb
            refine hK.out _ _ ((blk_cell HL4.out.cs 3).trans rfl) (fun hHeld => ?_)
            clear hK K
            refine norm_ (a' := ?_) ?_ ?_
            rotate_left
            · show Act.put _ (some 57) _ = _
              simp only [Act.put, List.setIfInBounds_toArray, List.set_cons_zero, List.set_cons_succ, i64_w, i32_w]
              rfl
            refine one_ (i := 5) (N := some 58) #[true, true, true, true, true, true, false, false] rfl rfl (by kernel_rfl) (by decide) (fun K hK => ?_)
            refine Kd.N_append_rows_step k52 (w0 := v4) w2.heap.size (by rfl) (.tmp 54) (.tmp 57) 25 52 ?zq 64 ?ho ?ht ?hi ?hz ?h0 ?hb0 (.slice AT T.length cT) T [r1.1] (some ⟨g, 0, none⟩) 1 1 (fun k => w2.heap.size ≤ k ∧ k ≠ b ∧ k ≠ gp) (fun k => w22.drew.heap.size ≤ k ∨ k = g) ?hs ?hx ?hN ?hF ?hk ?hf ?hB ?hbase ?hl ?_
            case ho => rfl
            case ht => exact Tryd.underlying25
            case hi => exact infoTh
            case hz => rfl
            case h0 => decide
            case hb0 => decide
            case hs => rfl
            case hx => rfl
            case hN => exact HL4.out.nT
            case hF => exact F_one k52 HE4.out.FK rfl HGB.out
            case hk => exact fun k hk => have hk1 : w22.drew.heap.size ≤ k := hk.elim id (fun e => by rw [e]; exact Nat.le_trans HS3.out HGE.out); ⟨⟨Nat.le_trans HD.out.rd.old.size hk1, Nat.ne_of_gt (Nat.lt_of_lt_of_le (blk_lt HD.out.rd.blk) hk1), Nat.ne_of_gt (Nat.lt_of_lt_of_le (blk_lt HD.out.cs) hk1)⟩, fun e => absurd (HNE.out k e.symm) (Nat.not_lt.2 hk1)⟩
            case hf => exact fun k hk => ⟨Nat.le_trans HL4.out.rd.old.size hk, Nat.ne_of_gt (Nat.lt_of_lt_of_le (blk_lt HL4.out.rd.blk) hk), Nat.ne_of_gt (Nat.lt_of_lt_of_le (blk_lt HL4.out.cs) hk)⟩
            case hB => exact Below.refl _ _
            case hbase => exact HL4.out.rd.old.size
            case hl => have := HN0.out; omega
            intro v1 v5 hn hb2 hg2 hat
            have HC5 := Aside0.mk (HL4.out.keepT hg2)
            have HN5 := Aside0.mk hn
            have HG5 := Aside0.mk hg2
            have HV5 := Aside0.mk (show v1.cells = #[v1] from Array.toList_inj.1 (Kd.N_val hn).1)
            have HO5 := Aside0.mk (show ∀ q ∈ (#[v1] : Array Value).toList, q.oneCell' = true from fun q hq => by simp only [List.mem_cons, List.not_mem_nil, or_false] at hq; rw [hq]; exact (Kd.N_val hn).2)
            clear hn hb2 hg2 hat
            refine hK.out _ _ ((blk_cell HC5.out 3).trans rfl) (fun hHeld => ?_)
            clear hK K
            refine norm_ (a' := ?_) ?_ ?_
            rotate_left
            · show Act.put _ (some 58) _ = _
              simp only [Act.put, List.setIfInBounds_toArray, List.set_cons_zero, List.set_cons_succ, i64_w, i32_w]
              rfl
            refine pure_ (i := 6) (N := some 59) (v := ?_) (a' := ?_) #[true, true, true, true, true, true, true, false] rfl rfl (by kernel_rfl) (fun _ _ _ h => h) (Or.inl ⟨by rfl, ?_⟩) ?_ ?_
            rotate_left
            · intro w'
              go_simp
              with_reducible rfl
            rotate_left
            · simp only [Act.put, List.setIfInBounds_toArray, List.set_cons_zero, List.set_cons_succ, i64_w, i32_w]
              rfl
            refine last_ (i := 7) (N := none) #[true, true, true, true, true, true, true, true] rfl rfl (by kernel_rfl) (by decide) (fun K hK => ?_)
            refine put_at_step (by rfl) rfl 25 (.tmp 59) (.tmp 58) ?ho gp 3 27 _ (#[v1]) (#[.slice AG dd.1.length cG, .slice AA dd.2.1.length cA, .slice AM dd.2.2.length cM, v1]) v1 ?hp ?hx HV5.out HC5.out ?ht ?hs ?hn HO5.out ?_
            case ho => rfl
            case hp => rfl
            case hx => rfl
            case ht => kernel_rfl
            case hs => simp
            case hn => rfl
            intro v6 hlit hg
            have HL6 := Aside0.mk (Dw.pushT HX.out HL4.out HGP.out HN5.out HG5.out hlit hg)
            clear hlit hg
            refine hK.out _ _ ?_
            clear hK K
            refine done_ (by kernel_rfl) ?_
            go_wp2_with fail
            go_roundg k
            case measure => omega
            case rel => exact ⟨k, T ++ [r1.1], r1.2, _, Nat.le_refl _, by simp only [List.length_append, List.length_singleton]; omega, HK, HL6⟩
          · rw [if_neg (fun h => hlt h.2)] at hk
            have b1 : decide ((s1.at_ : Int) < (ts.length : Int)) = false := decide_eq_false (by omega)
            have b2 : decide (s1.at_ < ts.length) = false := decide_eq_false hlt
            have hk := Option.some.inj hk
            obtain ⟨rfl, rfl⟩ := Prod.mk.inj hk
            clear hk ke
            go_upto_region 7 with fail
            go_quiet (fail)
            obtain ⟨w21, hw21⟩ : ∃ z, w20.drewN nq = z := ⟨_, rfl⟩
            rw [hw21]
            have HL21 := Aside0.mk (HL20.out.on (show Below w20.heap.size w20 w21 by rw [← hw21]; exact pw_below_drewN (Below.refl _ _) nq))
            clear hw21 h0 h1 h3 HL20 b1 b2 e1 hlt
            go_wp2_with fail
            go_meet
            case rel => exact ⟨_, HL21⟩
        · rw [if_neg (fun h => ke h.1)] at hk
          have e1 : (s1.e == 0) = false := beq_eq_false_iff_ne.mpr ke
          have hk := Option.some.inj hk
          obtain ⟨rfl, rfl⟩ := Prod.mk.inj hk
          clear hk ke
          go_upto_region 7 with fail
          go_quiet (fail)
          obtain ⟨w21, hw21⟩ : ∃ z, w20.drewN nq = z := ⟨_, rfl⟩
          rw [hw21]
          have HL21 := Aside0.mk (HL20.out.on (show Below w20.heap.size w20 w21 by rw [← hw21]; exact pw_below_drewN (Below.refl _ _) nq))
          clear hw21 h0 h1 h3 HL20 e1
          go_wp2_with fail
          go_meet
          case rel => exact ⟨_, HL21⟩
    case rest =>
      clear HL6 HT1
      obtain ⟨vT, HL8⟩ := hcut
      generalize wc = w8 at *
      obtain ⟨AT, cT, rfl⟩ := Kd.N_slice HL8.out.nT
      have hF := HF.out
      clear HF
      have HBR := Aside0.mk (show some b ≠ some gr from fun e => by injection e with e; have := HX.out.base; have := HGR2.out; omega)
      have HZ8 := Aside0.mk ((HL8.out.rd.old.block gr HGR2.out).trans HZ2.out)
      have h3 : w8.cell? ⟨b, 3, none⟩ = some (.int .i64 t1.e) := (blk_cell HL8.out.rd.blk 3).trans rfl
      by_cases ke : t1.e = 0
      · rw [if_neg (fun h => h ke)] at hF
        have e1 : (t1.e != 0) = false := bne_eq_false_iff_eq.mpr ke
        have hF := Option.some.inj hF
        subst hF
        clear ke
        have g0 : w8.cell? ⟨gp, 0, none⟩ = some (.slice AG dd.1.length cG) := (blk_cell HL8.out.cs 0).trans rfl
        have g1 : w8.cell? ⟨gp, 1, none⟩ = some (.slice AA dd.2.1.length cA) := (blk_cell HL8.out.cs 1).trans rfl
        have g2 : w8.cell? ⟨gp, 2, none⟩ = some (.slice AM dd.2.2.length cM) := (blk_cell HL8.out.cs 2).trans rfl
        have g3 : w8.cell? ⟨gp, 3, none⟩ = some (.slice AT T1.length cT) := (blk_cell HL8.out.cs 3).trans rfl
        go_wp2_with (first | ((with_reducible refine gate_store (t := 27) (p := 2) rfl ?_); refine put_val ?hg ?hn 27 (.tmp 2) (.tmp 74) ?ho gr 27 _ (#[.slice AG dd.1.length cG, .slice AA dd.2.1.length cA, .slice AM dd.2.2.length cM, .slice AT T1.length cT]) (.agg (#[.slice AG dd.1.length cG, .slice AA dd.2.1.length cA, .slice AM dd.2.2.length cM, .slice AT T1.length cT])) ?hp ?hx ?hu HZ8.out ?ht ?hs ?h1 ?_; (case hg => rfl); (case hn => rfl); (case ho => rfl); (case hp => rfl); (case hx => rfl); (case hu => rfl); (case ht => kernel_rfl); (case hs => rfl); (case h1 => exact four_one _ _ _ _ _ _ _ _ _ _ _ _); intro w9 hlit hg; have HS9 := Aside0.mk hlit; have HPX := Aside0.mk (HL8.out.px (base := w.heap.size) (Nat.le_trans HB1.out.size HB2.out.size) HGR2.out hg); have HBW := Aside0.mk (HB12.out HL8.out.rd.old hg); clear hlit hg))
        (try simp only [Exit.inBlock, Exit.then])
        refine bodyPost_ret (results_ctt rfl _ _ gr 27 _ (0, 0) _ rfl HS9.out Tryd.underlying27 rfl (by kernel_rfl)) rfl ?_
        exact ⟨AG, cG, AA, cA, AM, cM, AT, cT, by rw [← HEN.out]; rfl, HPX.out, HBW.out⟩
      · rw [if_pos ke] at hF
        have e1 : (t1.e != 0) = true := bne_iff_ne.mpr ke
        have hF := Option.some.inj hF
        subst hF
        clear ke
        go_upto_region 12 with fail
        have HL9 := Aside0.mk (show Dw w2 AK cK ts en b gp t1 dd T1 (.slice AG dd.1.length cG) (.slice AA dd.2.1.length cA) (.slice AM dd.2.2.length cM) (.slice AT T1.length cT) w8.drew from HL8.out.on (below_drew (Below.refl _ _)))
        have HZ9 := Aside0.mk (below_read (below_drew (Below.refl w8.heap.size w8)) HZ8.out)
        refine start_ (n := 12) (S := fun w' => w'.cell? ⟨b, 4, none⟩ = some (.int .i64 t1.pos) ∧ w'.cell? ⟨b, 3, none⟩ = some (.int .i64 t1.e)) (ds := []) #[false, false, false, false, false, false, false, false, false, false, false, false] (by kernel_rfl) rfl rfl ⟨(blk_cell HL9.out.rd.blk 4).trans rfl, (blk_cell HL9.out.rd.blk 3).trans rfl⟩ (fun hHeld => ?_)
        refine pure_ (i := 0) (N := some 65) (v := ?_) (a' := ?_) #[true, false, false, false, false, false, false, false, false, false, false, false] rfl rfl (by kernel_rfl) (fun _ _ _ h => h) (Or.inl ⟨by rfl, ?_⟩) ?_ ?_
        rotate_left
        · intro w'
          go_simp
          with_reducible rfl
        rotate_left
        · simp only [Act.put, List.setIfInBounds_toArray, List.set_cons_zero, List.set_cons_succ, i64_w, i32_w]
          rfl
        refine pure_ (i := 1) (N := some 66) (v := ?_) (a' := ?_) #[true, true, false, false, false, false, false, false, false, false, false, false] rfl rfl (by kernel_rfl) (fun _ _ _ h => h) (Or.inl ⟨by rfl, ?_⟩) ?_ ?_
        rotate_left
        · intro w'
          go_simp
          with_reducible rfl
        rotate_left
        · simp only [Act.put, List.setIfInBounds_toArray, List.set_cons_zero, List.set_cons_succ, i64_w, i32_w]
          rfl
        refine pure_ (i := 2) (N := some 67) (v := ?_) (a' := ?_) #[true, true, true, false, false, false, false, false, false, false, false, false] rfl rfl (by kernel_rfl) (fun _ _ _ h => h) (Or.inl ⟨by rfl, ?_⟩) ?_ ?_
        rotate_left
        · intro w'
          go_simp
          with_reducible rfl
        rotate_left
        · simp only [Act.put, List.setIfInBounds_toArray, List.set_cons_zero, List.set_cons_succ, i64_w, i32_w]
          rfl
        refine pure_ (i := 3) (N := some 68) (v := ?_) (a' := ?_) #[true, true, true, true, false, false, false, false, false, false, false, false] rfl rfl (by kernel_rfl) (fun _ _ _ h => h) (Or.inl ⟨by rfl, ?_⟩) ?_ ?_
        rotate_left
        · intro w'
          go_simp
          with_reducible rfl
        rotate_left
        · simp only [Act.put, List.setIfInBounds_toArray, List.set_cons_zero, List.set_cons_succ, i64_w, i32_w]
          rfl
        refine pure_ (i := 5) (N := some 70) (v := ?_) (a' := ?_) #[true, true, true, true, false, true, false, false, false, false, false, false] rfl rfl (by kernel_rfl) (fun _ _ _ h => h) (Or.inl ⟨by rfl, ?_⟩) ?_ ?_
        rotate_left
        · intro w'
          go_simp
          with_reducible rfl
        rotate_left
        · simp only [Act.put, List.setIfInBounds_toArray, List.set_cons_zero, List.set_cons_succ, i64_w, i32_w]
          rfl
        refine pure_ (i := 6) (N := some 71) (v := ?_) (a' := ?_) #[true, true, true, true, false, true, true, false, false, false, false, false] rfl rfl (by kernel_rfl) (fun _ _ _ h => h) (Or.inl ⟨by rfl, ?_⟩) ?_ ?_
        rotate_left
        · intro w'
          go_simp
          with_reducible rfl
        rotate_left
        · simp only [Act.put, List.setIfInBounds_toArray, List.set_cons_zero, List.set_cons_succ, i64_w, i32_w]
          rfl
        refine pure_ (i := 7) (N := some 72) (v := ?_) (a' := ?_) #[true, true, true, true, false, true, true, true, false, false, false, false] rfl rfl (by kernel_rfl) (fun _ _ _ h => h) (Or.inl ⟨by rfl, ?_⟩) ?_ ?_
        rotate_left
        · intro w'
          go_simp
          with_reducible rfl
        rotate_left
        · simp only [Act.put, List.setIfInBounds_toArray, List.set_cons_zero, List.set_cons_succ, i64_w, i32_w]
          rfl
        refine take_ (i := 4) (N := some 69) (v := ?_) (a' := ?_) #[true, true, true, true, true, true, true, true, false, false, false, false] rfl rfl (by kernel_rfl) (fun _ _ _ h => h) (Or.inl ⟨by rfl, ?_⟩) hHeld ?_ ?_
        rotate_left
        · rintro w' ⟨s0, s1⟩
          go_simp
          with_reducible rfl
        rotate_left
        · simp only [Act.put, List.setIfInBounds_toArray, List.set_cons_zero, List.set_cons_succ, i64_w, i32_w]
          rfl
        refine take_ (i := 8) (N := some 73) (v := ?_) (a' := ?_) #[true, true, true, true, true, true, true, true, true, false, false, false] rfl rfl (by kernel_rfl) (fun _ _ _ h => h) (Or.inl ⟨by rfl, ?_⟩) hHeld ?_ ?_
        rotate_left
        · rintro w' ⟨s0, s1⟩
          go_simp
          with_reducible rfl
        rotate_left
        · simp only [Act.put, List.setIfInBounds_toArray, List.set_cons_zero, List.set_cons_succ, i64_w, i32_w]
          rfl
        refine one_ (i := 9) (N := none) #[true, true, true, true, true, true, true, true, true, true, false, false] rfl rfl (by kernel_rfl) (by decide) (fun K hK => ?_)
        refine put_at_step (by rfl) rfl 27 (.tmp 2) (.tmp 65) ?ho gr 0 27 _ (#[.slice none 0 0, .slice none 0 0, .slice none 0 0, .slice none 0 0]) (#[.slice none 0 0, .slice none 0 0, .slice none 0 0, .slice none 0 0]) (.agg (#[.slice none 0 0, .slice none 0 0, .slice none 0 0, .slice none 0 0])) ?hp ?hx rfl HZ9.out ?ht ?hs ?hn (four_one _ _ _ _ _ _ _ _ _ _ _ _) ?_
        case ho => rfl
        case hp => rfl
        case hx => rfl
        case ht => kernel_rfl
        case hs => simp
        case hn => rfl
        intro v6 hlit hg
        have HZ10 := Aside0.mk hlit
        have HG10 := Aside0.mk hg
        clear hlit hg
        refine hK.out _ _ ⟨(blk_cell ((HG10.out.block b (blk_lt HL9.out.rd.blk) HBR.out).trans HL9.out.rd.blk) 4).trans rfl, (blk_cell ((HG10.out.block b (blk_lt HL9.out.rd.blk) HBR.out).trans HL9.out.rd.blk) 3).trans rfl⟩ (fun hHeld => ?_)
        clear hK K
        refine pure_ (i := 10) (N := some 3) (v := ?_) (a' := ?_) #[true, true, true, true, true, true, true, true, true, true, true, false] rfl rfl (by kernel_rfl) (fun _ _ _ h => h) (Or.inl ⟨by rfl, ?_⟩) ?_ ?_
        rotate_left
        · intro w'
          go_simp
          with_reducible rfl
        rotate_left
        · simp only [Act.put, List.setIfInBounds_toArray, List.set_cons_zero, List.set_cons_succ, i64_w, i32_w]
          rfl
        refine pure_ (i := 11) (N := some 4) (v := ?_) (a' := ?_) #[true, true, true, true, true, true, true, true, true, true, true, true] rfl rfl (by kernel_rfl) (fun _ _ _ h => h) (Or.inl ⟨by rfl, ?_⟩) ?_ ?_
        rotate_left
        · intro w'
          go_simp
          with_reducible rfl
        rotate_left
        · simp only [Act.put, List.setIfInBounds_toArray, List.set_cons_zero, List.set_cons_succ, i64_w, i32_w]
          rfl
        refine done_ (by kernel_rfl) ?_
        go_wp2_with fail
        have HBW := Aside0.mk (HB12.out HL9.out.rd.old HG10.out)
        (try simp only [Exit.inBlock, Exit.then])
        refine bodyPost_ret (results_ctt rfl _ _ gr 27 _ (0, 0) _ rfl HZ10.out Tryd.underlying27 rfl (by kernel_rfl)) rfl ?_
        exact ⟨none, 0, none, 0, none, 0, none, 0, rfl, px0 _ _, HBW.out⟩
  · rw [if_pos h3] at hF
    have e3 : (l3 != 0) = true := bne_iff_ne.mpr h3
    have hF := Option.some.inj hF
    subst hF
    clear h3
    go_wp2_with (first | ((with_reducible refine gate_store (t := 27) (p := 2) rfl ?_); refine put_val ?hg ?hn 27 (.tmp 2) (.tmp 18) ?ho gr 27 _ (#[.slice none 0 0, .slice none 0 0, .slice none 0 0, .slice none 0 0]) (.agg (#[.slice none 0 0, .slice none 0 0, .slice none 0 0, .slice none 0 0])) ?hp ?hx ?hu HZ2.out ?ht ?hs ?h1 ?_; (case hg => rfl); (case hn => rfl); (case ho => rfl); (case hp => rfl); (case hx => rfl); (case hu => rfl); (case ht => kernel_rfl); (case hs => rfl); (case h1 => exact four_one _ _ _ _ _ _ _ _ _ _ _ _); intro w3 hlit hg; have HS3 := Aside0.mk hlit; have HBW := Aside0.mk (HB12.out (Below.refl _ _) hg); clear hlit hg))
    (try simp only [Exit.inBlock, Exit.then])
    refine bodyPost_ret (results_ctt rfl _ _ gr 27 _ (0, 0) _ rfl HS3.out Tryd.underlying27 rfl (by kernel_rfl)) rfl ?_
    exact ⟨none, 0, none, 0, none, 0, none, 0, rfl, px0 _ _, HBW.out⟩
end Go.Proofs.YtfeaekdhpkdljaaDoor.Rd
