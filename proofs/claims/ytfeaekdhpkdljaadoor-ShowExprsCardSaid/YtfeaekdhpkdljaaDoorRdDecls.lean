/- meddlerref5.reader: decl. -/
import Derived.Test.YtfeaekdhpkdljaaDoorRdPkD
namespace Go.Proofs.YtfeaekdhpkdljaaDoor.Rd
open Go.RowKit Go.Proofs.YtfeaekdhpkdljaaDoorW.PrintWords Go.Proofs.YtfeaekdhpkdljaaDoorW.PrintLast Go.Proofs.YtfeaekdhpkdljaaDoor.Sh
set_option linter.unusedVariables false
set_option linter.unusedSimpArgs false
abbrev Dcl := List S59 × List S61 × List ByteArray
def declF (ts : List S86) (en : Int) : Nat → Dcl → Rs → Option (Dcl × Rs)
  | 0, _, _ => none
  | n + 1, d, s =>
    if s.e = 0 ∧ isS ts en s (⟨#[116, 104, 114, 101, 97, 100]⟩ : ByteArray) = false then
      if isS ts en s (⟨#[103, 108, 111, 98, 97, 108]⟩ : ByteArray) = true then declF ts en n (d.1 ++ [(globS ts en (fullS ts en (stepS s) d.1.length 6)).1], d.2.1, d.2.2) (needS ts en (globS ts en (fullS ts en (stepS s) d.1.length 6)).2 (⟨#[59]⟩ : ByteArray))
      else if isS ts en s (⟨#[97, 114, 114, 97, 121]⟩ : ByteArray) = true then declF ts en n (d.1, d.2.1 ++ [(arrS ts en (fullS ts en (stepS s) d.2.1.length 3)).1], d.2.2) (needS ts en (arrS ts en (fullS ts en (stepS s) d.2.1.length 3)).2 (⟨#[59]⟩ : ByteArray))
      else if isS ts en s (⟨#[109, 117, 116, 101, 120]⟩ : ByteArray) = true then declF ts en n (d.1, d.2.1, d.2.2 ++ [(nameS ts en (fullS ts en (stepS s) d.2.2.length 6)).1]) (needS ts en (nameS ts en (fullS ts en (stepS s) d.2.2.length 6)).2 (⟨#[59]⟩ : ByteArray))
      else some (d, if s.at_ < ts.length then failS ts en s 2 else s)
    else some (d, s)
theorem infoGl : (Tryd.prog.info? 59).map (fun i => (i.zero, i.size, i.bytes)) = some (some (.agg #[.string ⟨#[]⟩, .int .i64 0]), 2, 24) := by kernel_rfl
theorem infoAr : (Tryd.prog.info? 61).map (fun i => (i.zero, i.size, i.bytes)) = some (some (.agg #[.string ⟨#[]⟩, .int .i64 0]), 2, 24) := by kernel_rfl
theorem flatG (w w' : World) (x : S59) (c : List Value) (h : k59.K w x c) : k59.K w' x c := by rw [k59_open h]; exact k59_mk w' x
theorem flatA (w w' : World) (x : S61) (c : List Value) (h : k61.K w x c) : k61.K w' x c := by rw [k61_open h]; exact k61_mk w' x
theorem flatS (w w' : World) (x : ByteArray) (c : List Value) (h : Kd.string.K w x c) : Kd.string.K w' x c := h
theorem rd_row2 {w0 wa wz : World} {A : Option Addr} {c : Nat} {ts : List S86} {en : Int} {b : Nat} {row : Option Nat} {s : Rs} (h : Rd w0 A c ts en b s wa) (hne : ∀ k, row = some k → k ≠ b) (h1 : ∀ k, row = some k → w0.heap.size ≤ k) (hs : wa.grownBy wz row) : Rd w0 A c ts en b s wz :=
  ⟨(hs.block b (blk_lt h.blk) (fun e => hne b e.symm rfl)).trans h.blk, h.old.grown hs h.old.size (fun k hk => h1 k hk), h.le⟩
/-- A flat row beside another one that is appended to, and beside a block that is stored to. -/
theorem N_beside {β : Type} {d : Kd β} {e e' base gp t : Nat} {wa w1 w2 : World} {v v' : Value} {ys : List β} {c : Array Value} (h : Kd.N d e' wa base (fun k => some k = v'.ownBlock) v' ys) (hv : ∀ k, v.ownBlock = some k → ∃ cells, wa.heap[k]? = some (.cells cells e (0, 0))) (he : e ≠ e') (hg : wa.grownBy w1 v.ownBlock)
    (hb : wa.heap[gp]? = some (.cells c t (0, 0))) (ht : e' ≠ t) (hs : w1.grownBy w2 (some gp)) : Kd.N d e' w2 base (fun k => some k = v'.ownBlock) v' ys := by
  refine Kd.N_step h (fun k hk hlt => ?_)
  obtain ⟨c1, h1⟩ := Kd.N_typed h k hk.symm
  rw [hs.block k (Nat.lt_of_lt_of_le hlt hg.size) (fun e => typed_ne h1 hb ht (by injection e))]
  refine hg.block k hlt (fun e1 => ?_)
  obtain ⟨c2, h2⟩ := hv k e1.symm
  exact typed_ne h1 h2 (Ne.symm he) rfl
/-- The reader, and the program under construction in block gp. -/
structure Dw (w0 : World) (A : Option Addr) (c : Nat) (ts : List S86) (en : Int) (b gp : Nat) (s : Rs) (d : Dcl) (T : List S52) (vG vA vM vT : Value) (wr : World) : Prop where
  rd : Rd w0 A c ts en b s wr
  cs : wr.heap[gp]? = some (.cells #[vG, vA, vM, vT] 27 (0, 0))
  nG : Kd.N k59 59 wr w0.heap.size (fun k => some k = vG.ownBlock) vG d.1
  nA : Kd.N k61 61 wr w0.heap.size (fun k => some k = vA.ownBlock) vA d.2.1
  nM : Kd.N Kd.string 9 wr w0.heap.size (fun k => some k = vM.ownBlock) vM d.2.2
  nT : Kd.N k52 52 wr w0.heap.size (fun k => w0.heap.size ≤ k ∧ k ≠ b ∧ k ≠ gp) vT T
section
variable {w0 wr w1 w2 : World} {A : Option Addr} {c b gp : Nat} {ts : List S86} {en : Int} {s s' : Rs} {d : Dcl} {T T' : List S52} {vG vA vM vT v1 : Value}
theorem Dw.ne (H : Dw w0 A c ts en b gp s d T vG vA vM vT wr) : gp ≠ b := typed_ne H.cs H.rd.blk (by decide)
theorem Dw.call (H : Dw w0 A c ts en b gp s d T vG vA vM vT wr) (hr : Rd w0 A c ts en b s' w1) (hg : wr.grownBy w1 (some b)) : Dw w0 A c ts en b gp s' d T vG vA vM vT w1 := by
  refine ⟨hr, (hg.block gp (blk_lt H.cs) (fun e => H.ne (by injection e))).trans H.cs, Kd.N_step H.nG (fun k hk hl => hg.block k hl (fun e => ?_)), Kd.N_step H.nA (fun k hk hl => hg.block k hl (fun e => ?_)), Kd.N_step H.nM (fun k hk hl => hg.block k hl (fun e => ?_)), Kd.N_step H.nT (fun k hk hl => hg.block k hl (fun e => hk.2.1 (by injection e)))⟩
  · obtain ⟨c2, h2⟩ := Kd.N_typed H.nG k hk.symm
    exact typed_ne h2 H.rd.blk (by decide) (by injection e)
  · obtain ⟨c2, h2⟩ := Kd.N_typed H.nA k hk.symm
    exact typed_ne h2 H.rd.blk (by decide) (by injection e)
  · obtain ⟨c2, h2⟩ := Kd.N_typed H.nM k hk.symm
    exact typed_ne h2 H.rd.blk (by decide) (by injection e)
theorem Dw.on (H : Dw w0 A c ts en b gp s d T vG vA vM vT wr) (hb : Below wr.heap.size wr w1) : Dw w0 A c ts en b gp s d T vG vA vM vT w1 :=
  ⟨H.rd.on hb, below_read hb H.cs, Kd.N_below H.nG hb, Kd.N_below H.nA hb, Kd.N_below H.nM hb, Kd.N_below H.nT hb⟩
theorem Dw.keepG (H : Dw w0 A c ts en b gp s d T vG vA vM vT wr) (hg : wr.grownBy w1 vG.ownBlock) : w1.heap[gp]? = some (.cells #[vG, vA, vM, vT] 27 (0, 0)) := keep_typed H.cs (Kd.N_typed H.nG) (by decide) hg
theorem Dw.pushG {l : List S59} (hX : Ctx w0 A c ts b) (H : Dw w0 A c ts en b gp s d [] vG vA vM (.slice none 0 0) wr) (h0 : w0.heap.size ≤ gp) (HN : Kd.N k59 59 w1 w0.heap.size (fun _ => True) v1 l) (hg : wr.grownBy w1 vG.ownBlock)
    (hc : w2.heap[gp]? = some (.cells #[v1, vA, vM, .slice none 0 0] 27 (0, 0))) (hs : w1.grownBy w2 (some gp)) : Dw w0 A c ts en b gp s (l, d.2.1, d.2.2) [] v1 vA vM (.slice none 0 0) w2 := by
  have hF := N_flat flatG HN
  refine ⟨rd_store2 hX (rd_row2 H.rd (fun k hk => ?_) (Kd.N_base H.nG) hg) H.ne h0 hs, hc, ?_, N_beside H.nA (Kd.N_typed H.nG) (by decide) hg H.cs (by decide) hs, N_beside H.nM (Kd.N_typed H.nG) (by decide) hg H.cs (by decide) hs, Kd.N_nil ..⟩
  · obtain ⟨c2, h2⟩ := Kd.N_typed H.nG k hk
    exact typed_ne h2 H.rd.blk (by decide)
  · refine Kd.N_step hF (fun k hk hl => hs.block k hl (fun e => ?_))
    obtain ⟨c2, h2⟩ := Kd.N_typed hF k hk.symm
    exact typed_ne h2 (H.keepG hg) (by decide) (by injection e)
theorem Dw.keepA (H : Dw w0 A c ts en b gp s d T vG vA vM vT wr) (hg : wr.grownBy w1 vA.ownBlock) : w1.heap[gp]? = some (.cells #[vG, vA, vM, vT] 27 (0, 0)) := keep_typed H.cs (Kd.N_typed H.nA) (by decide) hg
theorem Dw.pushA {l : List S61} (hX : Ctx w0 A c ts b) (H : Dw w0 A c ts en b gp s d [] vG vA vM (.slice none 0 0) wr) (h0 : w0.heap.size ≤ gp) (HN : Kd.N k61 61 w1 w0.heap.size (fun _ => True) v1 l) (hg : wr.grownBy w1 vA.ownBlock)
    (hc : w2.heap[gp]? = some (.cells #[vG, v1, vM, .slice none 0 0] 27 (0, 0))) (hs : w1.grownBy w2 (some gp)) : Dw w0 A c ts en b gp s (d.1, l, d.2.2) [] vG v1 vM (.slice none 0 0) w2 := by
  have hF := N_flat flatA HN
  refine ⟨rd_store2 hX (rd_row2 H.rd (fun k hk => ?_) (Kd.N_base H.nA) hg) H.ne h0 hs, hc, N_beside H.nG (Kd.N_typed H.nA) (by decide) hg H.cs (by decide) hs, ?_, N_beside H.nM (Kd.N_typed H.nA) (by decide) hg H.cs (by decide) hs, Kd.N_nil ..⟩
  · obtain ⟨c2, h2⟩ := Kd.N_typed H.nA k hk
    exact typed_ne h2 H.rd.blk (by decide)
  · refine Kd.N_step hF (fun k hk hl => hs.block k hl (fun e => ?_))
    obtain ⟨c2, h2⟩ := Kd.N_typed hF k hk.symm
    exact typed_ne h2 (H.keepA hg) (by decide) (by injection e)
theorem Dw.keepM (H : Dw w0 A c ts en b gp s d T vG vA vM vT wr) (hg : wr.grownBy w1 vM.ownBlock) : w1.heap[gp]? = some (.cells #[vG, vA, vM, vT] 27 (0, 0)) := keep_typed H.cs (Kd.N_typed H.nM) (by decide) hg
theorem Dw.pushM {l : List ByteArray} (hX : Ctx w0 A c ts b) (H : Dw w0 A c ts en b gp s d [] vG vA vM (.slice none 0 0) wr) (h0 : w0.heap.size ≤ gp) (HN : Kd.N Kd.string 9 w1 w0.heap.size (fun _ => True) v1 l) (hg : wr.grownBy w1 vM.ownBlock)
    (hc : w2.heap[gp]? = some (.cells #[vG, vA, v1, .slice none 0 0] 27 (0, 0))) (hs : w1.grownBy w2 (some gp)) : Dw w0 A c ts en b gp s (d.1, d.2.1, l) [] vG vA v1 (.slice none 0 0) w2 := by
  have hF := N_flat flatS HN
  refine ⟨rd_store2 hX (rd_row2 H.rd (fun k hk => ?_) (Kd.N_base H.nM) hg) H.ne h0 hs, hc, N_beside H.nG (Kd.N_typed H.nM) (by decide) hg H.cs (by decide) hs, N_beside H.nA (Kd.N_typed H.nM) (by decide) hg H.cs (by decide) hs, ?_, Kd.N_nil ..⟩
  · obtain ⟨c2, h2⟩ := Kd.N_typed H.nM k hk
    exact typed_ne h2 H.rd.blk (by decide)
  · refine Kd.N_step hF (fun k hk hl => hs.block k hl (fun e => ?_))
    obtain ⟨c2, h2⟩ := Kd.N_typed hF k hk.symm
    exact typed_ne h2 (H.keepM hg) (by decide) (by injection e)
theorem Dw.keepT (H : Dw w0 A c ts en b gp s d T vG vA vM vT wr) (hg : wr.grownBy w1 vT.ownBlock) : w1.heap[gp]? = some (.cells #[vG, vA, vM, vT] 27 (0, 0)) := keep_typed H.cs (Kd.N_typed H.nT) (by decide) hg
theorem Dw.pushT (hX : Ctx w0 A c ts b) (H : Dw w0 A c ts en b gp s d T vG vA vM vT wr) (h0 : w0.heap.size ≤ gp) (HN : Kd.N k52 52 w1 w0.heap.size (fun k => w0.heap.size ≤ k ∧ k ≠ b ∧ k ≠ gp) v1 T') (hg : wr.grownBy w1 vT.ownBlock)
    (hc : w2.heap[gp]? = some (.cells #[vG, vA, vM, v1] 27 (0, 0))) (hs : w1.grownBy w2 (some gp)) : Dw w0 A c ts en b gp s d T' vG vA vM v1 w2 :=
  ⟨rd_store2 hX (rd_row2 H.rd (fun k hk => (H.nT.1 k hk).2.1) (Kd.N_base H.nT) hg) H.ne h0 hs, hc, N_beside H.nG (Kd.N_typed H.nT) (by decide) hg H.cs (by decide) hs, N_beside H.nA (Kd.N_typed H.nT) (by decide) hg H.cs (by decide) hs, N_beside H.nM (Kd.N_typed H.nT) (by decide) hg H.cs (by decide) hs,
   Kd.N_step HN (fun k hk hl => hs.block k hl (fun e => hk.2.2 (by injection e)))⟩
end
set_option maxHeartbeats 8000000 in
set_option maxRecDepth 100000 in
/-- The reader's decl answers declF, with as much fuel as that has. -/
theorem decl_calls (w0 : World) (A : Option Addr) (c : Nat) (ts : List S86) (en : Int) (b : Nat) (hX : Ctx w0 A c ts b) (n : Nat) (hn : n ≤ 1000000000) (gp : Nat) (hgp : w0.heap.size ≤ gp) (s : Rs) (w : World) (r : Dcl × Rs) (h : Dw w0 A c ts en b gp s ([], [], []) [] (.slice none 0 0) (.slice none 0 0) (.slice none 0 0) (.slice none 0 0) w) (hF : declF ts en n ([], [], []) s = some r) :
    Calls Tryd.prog 32 #[.pointer (some ⟨b, 0, none⟩), .pointer (some ⟨gp, 0, none⟩)] w fun q w' => q = .returned (.tuple #[]) ∧ ∃ vG vA vM, Dw w0 A c ts en b gp r.2 r.1 [] vG vA vM (.slice none 0 0) w' := by
  have HX := Aside0.mk hX
  have HGP := Aside0.mk hgp
  have HD0 := Aside0.mk h
  have hml : ts.length ≤ 9223372036854775807 := hX.row.2.1
  clear h hX hgp
  go_enter Tryd.func32, Tryd.ntmps32
  go_wp2_with fail
  go_loopg [] n (fun gg wr => ∃ (k : Nat) (d : Dcl) (s1 : Rs) (vG vA vM : Value), k ≤ gg ∧ d.1.length + k ≤ n ∧ d.2.1.length + k ≤ n ∧ d.2.2.length + k ≤ n ∧ Aside0 (declF ts en k d s1 = some r) ∧ Aside0 (Dw w0 A c ts en b gp s1 d [] vG vA vM (.slice none 0 0) wr))
  case atStart => exact ⟨n, _, _, _, _, _, Nat.le_refl _, by simp, by simp, by simp, ⟨hF⟩, HD0⟩
  case round =>
    clear hF HD0
    obtain ⟨k, d, s1, vG, vA, vM, hgg, hk1, hk2, hk3, HKF, HL10⟩ := hrel
    generalize wr = w10 at *
    obtain ⟨AG, cG, rfl⟩ := Kd.N_slice HL10.out.nG
    obtain ⟨AA, cA, rfl⟩ := Kd.N_slice HL10.out.nA
    obtain ⟨AM, cM, rfl⟩ := Kd.N_slice HL10.out.nM
    have hk := HKF.out
    clear HKF
    cases k with
    | zero => simp [declF] at hk
    | succ k =>
    simp only [declF] at hk
    have h3 : w10.cell? ⟨b, 3, none⟩ = some (.int .i64 s1.e) := (blk_cell HL10.out.rd.blk 3).trans rfl
    by_cases ke : s1.e = 0
    · have e1 : (s1.e == 0) = true := beq_iff_eq.mpr ke
      have HI := Aside0.mk (is_calls w0 A c ts en b HX.out s1 (⟨#[116, 104, 114, 101, 97, 100]⟩ : ByteArray) w10 HL10.out.rd)
      by_cases kt : isS ts en s1 (⟨#[116, 104, 114, 101, 97, 100]⟩ : ByteArray) = false
      · rw [if_pos ⟨ke, kt⟩] at hk
        rw [kt] at HI
        clear ke kt
        go_wp2_with fail
        refine HI.out.mono ?_
        rintro q w11 ⟨rfl, hb⟩
        have HL11 := Aside0.mk (HL10.out.on hb)
        clear hb HI
        go_upto_block 1 with fail
        by_cases k0 : isS ts en s1 (⟨#[103, 108, 111, 98, 97, 108]⟩ : ByteArray) = true
        · rw [if_pos k0] at hk
          have K0 := Aside0.mk k0
          have HK := Aside0.mk hk
          clear hk k0
          have HT12 := Aside0.mk (take_calls w0 A c ts en b HX.out s1 (⟨#[103, 108, 111, 98, 97, 108]⟩ : ByteArray) w11 HL11.out.rd)
          unfold takeS at HT12
          rw [K0.out, if_pos rfl] at HT12
          go_wp2_with fail
          refine HT12.out.mono ?_
          rintro q w12 ⟨rfl, hr, hg⟩
          have HL12 := Aside0.mk (HL11.out.call hr hg)
          clear hr hg HT12
          have hy1 : w12.cell? ⟨gp, 0, none⟩ = some (.slice AG d.1.length cG) := (blk_cell HL12.out.cs 0).trans rfl
          go_wp2_with fail
          refine (full_calls w0 A c ts en b HX.out (stepS s1) (d.1.length : Int) 6 w12 HL12.out.rd).mono ?_
          rintro q w13 ⟨rfl, hr, hg⟩
          have HL13 := Aside0.mk (HL12.out.call hr hg)
          have HD := Aside0.mk (HL13.out.on (below_drew (Below.refl _ _)))
          clear hr hg
          go_upto_region 5 with fail
          refine start_ (n := 12) (S := fun w' => w'.cell? ⟨gp, 0, none⟩ = some (.slice AG d.1.length cG)) (ds := [11]) #[false, false, false, false, false, false, false, false, false, false, false, false] (by kernel_rfl) rfl rfl ((blk_cell HD.out.cs 0).trans rfl) (fun hHeld => ?_)
          refine pure_ (i := 0) (N := some 36) (v := ?_) (a' := ?_) #[true, false, false, false, false, false, false, false, false, false, false, false] rfl rfl (by kernel_rfl) (fun _ _ _ h => h) (Or.inl ⟨by rfl, ?_⟩) ?_ ?_
          rotate_left
          · intro w'
            go_simp
            with_reducible rfl
          rotate_left
          · simp only [Act.put, List.setIfInBounds_toArray, List.set_cons_zero, List.set_cons_succ, i64_w, i32_w]
            rfl
          refine pure_ (i := 1) (N := some 37) (v := ?_) (a' := ?_) #[true, true, false, false, false, false, false, false, false, false, false, false] rfl rfl (by kernel_rfl) (fun _ _ _ h => h) (Or.inl ⟨by rfl, ?_⟩) ?_ ?_
          rotate_left
          · intro w'
            go_simp
            with_reducible rfl
          rotate_left
          · simp only [Act.put, List.setIfInBounds_toArray, List.set_cons_zero, List.set_cons_succ, i64_w, i32_w]
            rfl
          refine pure_ (i := 2) (N := some 38) (v := ?_) (a' := ?_) #[true, true, true, false, false, false, false, false, false, false, false, false] rfl rfl (by kernel_rfl) (fun _ _ _ h => h) (Or.inl ⟨by rfl, ?_⟩) ?_ ?_
          rotate_left
          · intro w'
            go_simp
            with_reducible rfl
          rotate_left
          · simp only [Act.put, List.setIfInBounds_toArray, List.set_cons_zero, List.set_cons_succ, i64_w, i32_w]
            rfl
          refine pure_ (i := 3) (N := some 39) (v := ?_) (a' := ?_) #[true, true, true, true, false, false, false, false, false, false, false, false] rfl rfl (by kernel_rfl) (fun _ _ _ h => h) (Or.inl ⟨by rfl, ?_⟩) ?_ ?_
          rotate_left
          · intro w'
            go_simp
            with_reducible rfl
          rotate_left
          · simp only [Act.put, List.setIfInBounds_toArray, List.set_cons_zero, List.set_cons_succ, i64_w, i32_w]
            rfl
          refine pure_ (i := 5) (N := some 41) (v := ?_) (a' := ?_) #[true, true, true, true, false, true, false, false, false, false, false, false] rfl rfl (by kernel_rfl) (fun _ _ _ h => h) (Or.inl ⟨by rfl, ?_⟩) ?_ ?_
          rotate_left
          · intro w'
            go_simp
            with_reducible rfl
          rotate_left
          · simp only [Act.put, List.setIfInBounds_toArray, List.set_cons_zero, List.set_cons_succ, i64_w, i32_w]
            rfl
          refine take_ (i := 4) (N := some 40) (v := ?_) (a' := ?_) #[true, true, true, true, true, true, false, false, false, false, false, false] rfl rfl (by kernel_rfl) (fun _ _ _ h => h) (Or.inl ⟨by rfl, ?_⟩) hHeld ?_ ?_
          rotate_left
          · intro w' s0
            go_simp
            with_reducible rfl
          rotate_left
          · simp only [Act.put, List.setIfInBounds_toArray, List.set_cons_zero, List.set_cons_succ, i64_w, i32_w]
            rfl
          refine one_ (i := 6) (N := some 42) #[true, true, true, true, true, true, true, false, false, false, false, false] rfl rfl (by kernel_rfl) (by decide) (fun K hK => ?_)
          refine goes_ Tryd.func50 (by kernel_rfl) rfl #[.pointer (some ⟨b, 0, none⟩)] (by rfl) rfl rfl (by simp only [List.map_toArray, List.map_cons, List.map_nil, Act.eval]; rfl) ?_
          refine (global_calls w0 A c ts en b HX.out (fullS ts en (stepS s1) (d.1.length : Int) 6) w13.drew HD.out.rd).mono ?_
          rintro q v3 ⟨rfl, hr, hg⟩
          have HL3 := Aside0.mk (HD.out.call hr hg)
          clear hr hg
          refine ⟨_, rfl, ?_⟩
          refine hK.out _ _ ((blk_cell HL3.out.cs 0).trans rfl) (fun hHeld => ?_)
          clear hK K
          refine norm_ (a' := ?_) ?_ ?_
          rotate_left
          · show Act.put _ (some 42) _ = _
            simp only [Act.put, List.setIfInBounds_toArray, List.set_cons_zero, List.set_cons_succ, i64_w, i32_w]
            rfl
          refine one_ (i := 7) (N := some 43) #[true, true, true, true, true, true, true, true, false, false, false, false] rfl rfl (by kernel_rfl) (by decide) (fun K hK => ?_)
          refine lit_step (n := 1) (by rfl) (N := 43) rfl (cs := #[.string (globS ts en (fullS ts en (stepS s1) (d.1.length : Int) 6)).1.f0, .int .i64 (globS ts en (fullS ts en (stepS s1) (d.1.length : Int) 6)).1.f1]) (t := 59) ?hr ?_
          case hr => first | (go_simp; done) | (go_simp; rfl)
          intro g hgg v4 hlit hb
          have HGB := Aside0.mk hlit
          have HNE := Aside0.mk (show ∀ k, Value.ownBlock (.slice AG d.1.length cG) = some k → g ≠ k from fun k hk => by have := Kd.N_lt HL3.out.nG k hk; omega)
          have HL4 := Aside0.mk (HL3.out.on hb)
          clear hlit hgg hb
          refine hK.out _ _ ((blk_cell HL4.out.cs 0).trans rfl) (fun hHeld => ?_)
          clear hK K
          refine norm_ (a' := ?_) ?_ ?_
          rotate_left
          · show Act.put _ (some 43) _ = _
            simp only [Act.put, List.setIfInBounds_toArray, List.set_cons_zero, List.set_cons_succ, i64_w, i32_w]
            rfl
          refine one_ (i := 8) (N := some 44) #[true, true, true, true, true, true, true, true, true, false, false, false] rfl rfl (by kernel_rfl) (by decide) (fun K hK => ?_)
          refine Kd.N_append_rows_step k59 (w0 := v4) w0.heap.size (by rfl) (.tmp 40) (.tmp 43) 22 59 (.agg #[.string ⟨#[]⟩, .int .i64 0]) 24 ?ho ?ht ?hi ?hz ?h0 ?hb0 (.slice AG d.1.length cG) d.1 [(globS ts en (fullS ts en (stepS s1) (d.1.length : Int) 6)).1] (some ⟨g, 0, none⟩) 1 1 (fun _ => True) (fun k => False ∨ k = g) ?hs ?hx ?hN ?hF ?hk ?hf ?hB ?hbase ?hl ?_
          case ho => rfl
          case ht => exact Tryd.underlying22
          case hi => exact infoGl
          case hz => rfl
          case h0 => decide
          case hb0 => decide
          case hs => rfl
          case hx => rfl
          case hN => exact Kd.N_mono HL4.out.nG (fun _ _ => trivial)
          case hF => exact F_one k59 (k59_mkF _ _ _) rfl HGB.out
          case hk => exact fun k hk => ⟨trivial, fun e => hk.elim id (fun e2 => HNE.out k e.symm e2.symm)⟩
          case hf => exact fun _ _ => trivial
          case hB => exact Below.refl _ _
          case hbase => exact HL4.out.rd.old.size
          case hl => omega
          intro v1 v5 hn hb2 hg2 hat
          have HC5 := Aside0.mk (HL4.out.keepG hg2)
          have HN5 := Aside0.mk hn
          have HG5 := Aside0.mk hg2
          have HV5 := Aside0.mk (show v1.cells = #[v1] from Array.toList_inj.1 (Kd.N_val hn).1)
          have HO5 := Aside0.mk (show ∀ q ∈ (#[v1] : Array Value).toList, q.oneCell' = true from fun q hq => by simp only [List.mem_cons, List.not_mem_nil, or_false] at hq; rw [hq]; exact (Kd.N_val hn).2)
          clear hn hb2 hg2 hat
          refine hK.out _ _ ((blk_cell HC5.out 0).trans rfl) (fun hHeld => ?_)
          clear hK K
          refine norm_ (a' := ?_) ?_ ?_
          rotate_left
          · show Act.put _ (some 44) _ = _
            simp only [Act.put, List.setIfInBounds_toArray, List.set_cons_zero, List.set_cons_succ, i64_w, i32_w]
            rfl
          refine pure_ (i := 9) (N := some 45) (v := ?_) (a' := ?_) #[true, true, true, true, true, true, true, true, true, true, false, false] rfl rfl (by kernel_rfl) (fun _ _ _ h => h) (Or.inl ⟨by rfl, ?_⟩) ?_ ?_
          rotate_left
          · intro w'
            go_simp
            with_reducible rfl
          rotate_left
          · simp only [Act.put, List.setIfInBounds_toArray, List.set_cons_zero, List.set_cons_succ, i64_w, i32_w]
            rfl
          refine pure_ (i := 10) (N := some 46) (v := ?_) (a' := ?_) #[true, true, true, true, true, true, true, true, true, true, true, false] rfl rfl (by kernel_rfl) (fun _ _ _ h => h) (Or.inl ⟨by rfl, ?_⟩) ?_ ?_
          rotate_left
          · intro w'
            go_simp
            with_reducible rfl
          rotate_left
          · simp only [Act.put, List.setIfInBounds_toArray, List.set_cons_zero, List.set_cons_succ, i64_w, i32_w]
            rfl
          refine last_ (i := 11) (N := none) #[true, true, true, true, true, true, true, true, true, true, true, true] rfl rfl (by kernel_rfl) (by decide) (fun K hK => ?_)
          refine put_at_step (by rfl) rfl 22 (.tmp 46) (.tmp 44) ?ho gp 0 27 _ (#[v1]) (#[v1, (.slice AA d.2.1.length cA), (.slice AM d.2.2.length cM), .slice none 0 0]) v1 ?hp ?hx HV5.out HC5.out ?ht ?hs ?hn HO5.out ?_
          case ho => rfl
          case hp => rfl
          case hx => rfl
          case ht => kernel_rfl
          case hs => simp
          case hn => rfl
          intro v6 hlit hg
          have HL6 := Aside0.mk (Dw.pushG HX.out HL4.out HGP.out HN5.out HG5.out hlit hg)
          clear hlit hg
          refine hK.out _ _ ?_
          clear hK K
          refine done_ (by kernel_rfl) ?_
          have HN9 := Aside0.mk (need_calls w0 A c ts en b HX.out _ (⟨#[59]⟩ : ByteArray) v6 HL6.out.rd)
          go_wp2_with fail
          refine HN9.out.mono ?_
          rintro q w40 ⟨rfl, hr, hg⟩
          have HL40 := Aside0.mk (HL6.out.call hr hg)
          clear hr hg
          go_wp2_with fail
          go_roundg k
          case measure => omega
          case rel => exact ⟨k, (d.1 ++ [(globS ts en (fullS ts en (stepS s1) (d.1.length : Int) 6)).1], d.2.1, d.2.2), _, v1, (.slice AA d.2.1.length cA), (.slice AM d.2.2.length cM), Nat.le_refl _, (by simp only [List.length_append, List.length_singleton]; omega), (show d.2.1.length + k ≤ n by omega), (show d.2.2.length + k ≤ n by omega), HK, HL40⟩
        rw [if_neg k0] at hk
        have K0 := Aside0.mk (Bool.eq_false_iff.2 k0)
        clear k0
        have HT12 := Aside0.mk (take_calls w0 A c ts en b HX.out s1 (⟨#[103, 108, 111, 98, 97, 108]⟩ : ByteArray) w11 HL11.out.rd)
        unfold takeS at HT12
        rw [K0.out, if_neg (by decide)] at HT12
        go_wp2_with fail
        refine HT12.out.mono ?_
        rintro q w12 ⟨rfl, hr, hg⟩
        have HL12 := Aside0.mk (HL11.out.call hr hg)
        clear hr hg HT12
        by_cases k1 : isS ts en s1 (⟨#[97, 114, 114, 97, 121]⟩ : ByteArray) = true
        · rw [if_pos k1] at hk
          have K1 := Aside0.mk k1
          have HK := Aside0.mk hk
          clear hk k1
          have HT13 := Aside0.mk (take_calls w0 A c ts en b HX.out s1 (⟨#[97, 114, 114, 97, 121]⟩ : ByteArray) w12 HL12.out.rd)
          unfold takeS at HT13
          rw [K1.out, if_pos rfl] at HT13
          go_wp2_with fail
          refine HT13.out.mono ?_
          rintro q w13 ⟨rfl, hr, hg⟩
          have HL13 := Aside0.mk (HL12.out.call hr hg)
          clear hr hg HT13
          have hy1 : w13.cell? ⟨gp, 1, none⟩ = some (.slice AA d.2.1.length cA) := (blk_cell HL13.out.cs 1).trans rfl
          go_wp2_with fail
          refine (full_calls w0 A c ts en b HX.out (stepS s1) (d.2.1.length : Int) 3 w13 HL13.out.rd).mono ?_
          rintro q w14 ⟨rfl, hr, hg⟩
          have HL14 := Aside0.mk (HL13.out.call hr hg)
          have HD := Aside0.mk (HL14.out.on (below_drew (Below.refl _ _)))
          clear hr hg
          go_upto_region 8 with fail
          refine start_ (n := 12) (S := fun w' => w'.cell? ⟨gp, 1, none⟩ = some (.slice AA d.2.1.length cA)) (ds := [11]) #[false, false, false, false, false, false, false, false, false, false, false, false] (by kernel_rfl) rfl rfl ((blk_cell HD.out.cs 1).trans rfl) (fun hHeld => ?_)
          refine pure_ (i := 0) (N := some 57) (v := ?_) (a' := ?_) #[true, false, false, false, false, false, false, false, false, false, false, false] rfl rfl (by kernel_rfl) (fun _ _ _ h => h) (Or.inl ⟨by rfl, ?_⟩) ?_ ?_
          rotate_left
          · intro w'
            go_simp
            with_reducible rfl
          rotate_left
          · simp only [Act.put, List.setIfInBounds_toArray, List.set_cons_zero, List.set_cons_succ, i64_w, i32_w]
            rfl
          refine pure_ (i := 1) (N := some 58) (v := ?_) (a' := ?_) #[true, true, false, false, false, false, false, false, false, false, false, false] rfl rfl (by kernel_rfl) (fun _ _ _ h => h) (Or.inl ⟨by rfl, ?_⟩) ?_ ?_
          rotate_left
          · intro w'
            go_simp
            with_reducible rfl
          rotate_left
          · simp only [Act.put, List.setIfInBounds_toArray, List.set_cons_zero, List.set_cons_succ, i64_w, i32_w]
            rfl
          refine pure_ (i := 2) (N := some 59) (v := ?_) (a' := ?_) #[true, true, true, false, false, false, false, false, false, false, false, false] rfl rfl (by kernel_rfl) (fun _ _ _ h => h) (Or.inl ⟨by rfl, ?_⟩) ?_ ?_
          rotate_left
          · intro w'
            go_simp
            with_reducible rfl
          rotate_left
          · simp only [Act.put, List.setIfInBounds_toArray, List.set_cons_zero, List.set_cons_succ, i64_w, i32_w]
            rfl
          refine pure_ (i := 3) (N := some 60) (v := ?_) (a' := ?_) #[true, true, true, true, false, false, false, false, false, false, false, false] rfl rfl (by kernel_rfl) (fun _ _ _ h => h) (Or.inl ⟨by rfl, ?_⟩) ?_ ?_
          rotate_left
          · intro w'
            go_simp
            with_reducible rfl
          rotate_left
          · simp only [Act.put, List.setIfInBounds_toArray, List.set_cons_zero, List.set_cons_succ, i64_w, i32_w]
            rfl
          refine pure_ (i := 5) (N := some 62) (v := ?_) (a' := ?_) #[true, true, true, true, false, true, false, false, false, false, false, false] rfl rfl (by kernel_rfl) (fun _ _ _ h => h) (Or.inl ⟨by rfl, ?_⟩) ?_ ?_
          rotate_left
          · intro w'
            go_simp
            with_reducible rfl
          rotate_left
          · simp only [Act.put, List.setIfInBounds_toArray, List.set_cons_zero, List.set_cons_succ, i64_w, i32_w]
            rfl
          refine take_ (i := 4) (N := some 61) (v := ?_) (a' := ?_) #[true, true, true, true, true, true, false, false, false, false, false, false] rfl rfl (by kernel_rfl) (fun _ _ _ h => h) (Or.inl ⟨by rfl, ?_⟩) hHeld ?_ ?_
          rotate_left
          · intro w' s0
            go_simp
            with_reducible rfl
          rotate_left
          · simp only [Act.put, List.setIfInBounds_toArray, List.set_cons_zero, List.set_cons_succ, i64_w, i32_w]
            rfl
          refine one_ (i := 6) (N := some 63) #[true, true, true, true, true, true, true, false, false, false, false, false] rfl rfl (by kernel_rfl) (by decide) (fun K hK => ?_)
          refine goes_ Tryd.func51 (by kernel_rfl) rfl #[.pointer (some ⟨b, 0, none⟩)] (by rfl) rfl rfl (by simp only [List.map_toArray, List.map_cons, List.map_nil, Act.eval]; rfl) ?_
          refine (array_calls w0 A c ts en b HX.out (fullS ts en (stepS s1) (d.2.1.length : Int) 3) w14.drew HD.out.rd).mono ?_
          rintro q v3 ⟨rfl, hr, hg⟩
          have HL3 := Aside0.mk (HD.out.call hr hg)
          clear hr hg
          refine ⟨_, rfl, ?_⟩
          refine hK.out _ _ ((blk_cell HL3.out.cs 1).trans rfl) (fun hHeld => ?_)
          clear hK K
          refine norm_ (a' := ?_) ?_ ?_
          rotate_left
          · show Act.put _ (some 63) _ = _
            simp only [Act.put, List.setIfInBounds_toArray, List.set_cons_zero, List.set_cons_succ, i64_w, i32_w]
            rfl
          refine one_ (i := 7) (N := some 64) #[true, true, true, true, true, true, true, true, false, false, false, false] rfl rfl (by kernel_rfl) (by decide) (fun K hK => ?_)
          refine lit_step (n := 1) (by rfl) (N := 64) rfl (cs := #[.string (arrS ts en (fullS ts en (stepS s1) (d.2.1.length : Int) 3)).1.f0, .int .i64 (arrS ts en (fullS ts en (stepS s1) (d.2.1.length : Int) 3)).1.f1]) (t := 61) ?hr ?_
          case hr => first | (go_simp; done) | (go_simp; rfl)
          intro g hgg v4 hlit hb
          have HGB := Aside0.mk hlit
          have HNE := Aside0.mk (show ∀ k, Value.ownBlock (.slice AA d.2.1.length cA) = some k → g ≠ k from fun k hk => by have := Kd.N_lt HL3.out.nA k hk; omega)
          have HL4 := Aside0.mk (HL3.out.on hb)
          clear hlit hgg hb
          refine hK.out _ _ ((blk_cell HL4.out.cs 1).trans rfl) (fun hHeld => ?_)
          clear hK K
          refine norm_ (a' := ?_) ?_ ?_
          rotate_left
          · show Act.put _ (some 64) _ = _
            simp only [Act.put, List.setIfInBounds_toArray, List.set_cons_zero, List.set_cons_succ, i64_w, i32_w]
            rfl
          refine one_ (i := 8) (N := some 65) #[true, true, true, true, true, true, true, true, true, false, false, false] rfl rfl (by kernel_rfl) (by decide) (fun K hK => ?_)
          refine Kd.N_append_rows_step k61 (w0 := v4) w0.heap.size (by rfl) (.tmp 61) (.tmp 64) 23 61 (.agg #[.string ⟨#[]⟩, .int .i64 0]) 24 ?ho ?ht ?hi ?hz ?h0 ?hb0 (.slice AA d.2.1.length cA) d.2.1 [(arrS ts en (fullS ts en (stepS s1) (d.2.1.length : Int) 3)).1] (some ⟨g, 0, none⟩) 1 1 (fun _ => True) (fun k => False ∨ k = g) ?hs ?hx ?hN ?hF ?hk ?hf ?hB ?hbase ?hl ?_
          case ho => rfl
          case ht => exact Tryd.underlying23
          case hi => exact infoAr
          case hz => rfl
          case h0 => decide
          case hb0 => decide
          case hs => rfl
          case hx => rfl
          case hN => exact Kd.N_mono HL4.out.nA (fun _ _ => trivial)
          case hF => exact F_one k61 (k61_mkF _ _ _) rfl HGB.out
          case hk => exact fun k hk => ⟨trivial, fun e => hk.elim id (fun e2 => HNE.out k e.symm e2.symm)⟩
          case hf => exact fun _ _ => trivial
          case hB => exact Below.refl _ _
          case hbase => exact HL4.out.rd.old.size
          case hl => omega
          intro v1 v5 hn hb2 hg2 hat
          have HC5 := Aside0.mk (HL4.out.keepA hg2)
          have HN5 := Aside0.mk hn
          have HG5 := Aside0.mk hg2
          have HV5 := Aside0.mk (show v1.cells = #[v1] from Array.toList_inj.1 (Kd.N_val hn).1)
          have HO5 := Aside0.mk (show ∀ q ∈ (#[v1] : Array Value).toList, q.oneCell' = true from fun q hq => by simp only [List.mem_cons, List.not_mem_nil, or_false] at hq; rw [hq]; exact (Kd.N_val hn).2)
          clear hn hb2 hg2 hat
          refine hK.out _ _ ((blk_cell HC5.out 1).trans rfl) (fun hHeld => ?_)
          clear hK K
          refine norm_ (a' := ?_) ?_ ?_
          rotate_left
          · show Act.put _ (some 65) _ = _
            simp only [Act.put, List.setIfInBounds_toArray, List.set_cons_zero, List.set_cons_succ, i64_w, i32_w]
            rfl
          refine pure_ (i := 9) (N := some 66) (v := ?_) (a' := ?_) #[true, true, true, true, true, true, true, true, true, true, false, false] rfl rfl (by kernel_rfl) (fun _ _ _ h => h) (Or.inl ⟨by rfl, ?_⟩) ?_ ?_
          rotate_left
          · intro w'
            go_simp
            with_reducible rfl
          rotate_left
          · simp only [Act.put, List.setIfInBounds_toArray, List.set_cons_zero, List.set_cons_succ, i64_w, i32_w]
            rfl
          refine pure_ (i := 10) (N := some 67) (v := ?_) (a' := ?_) #[true, true, true, true, true, true, true, true, true, true, true, false] rfl rfl (by kernel_rfl) (fun _ _ _ h => h) (Or.inl ⟨by rfl, ?_⟩) ?_ ?_
          rotate_left
          · intro w'
            go_simp
            with_reducible rfl
          rotate_left
          · simp only [Act.put, List.setIfInBounds_toArray, List.set_cons_zero, List.set_cons_succ, i64_w, i32_w]
            rfl
          refine last_ (i := 11) (N := none) #[true, true, true, true, true, true, true, true, true, true, true, true] rfl rfl (by kernel_rfl) (by decide) (fun K hK => ?_)
          refine put_at_step (by rfl) rfl 23 (.tmp 67) (.tmp 65) ?ho gp 1 27 _ (#[v1]) (#[(.slice AG d.1.length cG), v1, (.slice AM d.2.2.length cM), .slice none 0 0]) v1 ?hp ?hx HV5.out HC5.out ?ht ?hs ?hn HO5.out ?_
          case ho => rfl
          case hp => rfl
          case hx => rfl
          case ht => kernel_rfl
          case hs => simp
          case hn => rfl
          intro v6 hlit hg
          have HL6 := Aside0.mk (Dw.pushA HX.out HL4.out HGP.out HN5.out HG5.out hlit hg)
          clear hlit hg
          refine hK.out _ _ ?_
          clear hK K
          refine done_ (by kernel_rfl) ?_
          have HN9 := Aside0.mk (need_calls w0 A c ts en b HX.out _ (⟨#[59]⟩ : ByteArray) v6 HL6.out.rd)
          go_wp2_with fail
          refine HN9.out.mono ?_
          rintro q w40 ⟨rfl, hr, hg⟩
          have HL40 := Aside0.mk (HL6.out.call hr hg)
          clear hr hg
          go_wp2_with fail
          go_roundg k
          case measure => omega
          case rel => exact ⟨k, (d.1, d.2.1 ++ [(arrS ts en (fullS ts en (stepS s1) (d.2.1.length : Int) 3)).1], d.2.2), _, (.slice AG d.1.length cG), v1, (.slice AM d.2.2.length cM), Nat.le_refl _, (show d.1.length + k ≤ n by omega), (by simp only [List.length_append, List.length_singleton]; omega), (show d.2.2.length + k ≤ n by omega), HK, HL40⟩
        rw [if_neg k1] at hk
        have K1 := Aside0.mk (Bool.eq_false_iff.2 k1)
        clear k1
        have HT13 := Aside0.mk (take_calls w0 A c ts en b HX.out s1 (⟨#[97, 114, 114, 97, 121]⟩ : ByteArray) w12 HL12.out.rd)
        unfold takeS at HT13
        rw [K1.out, if_neg (by decide)] at HT13
        go_wp2_with fail
        refine HT13.out.mono ?_
        rintro q w13 ⟨rfl, hr, hg⟩
        have HL13 := Aside0.mk (HL12.out.call hr hg)
        clear hr hg HT13
        by_cases k2 : isS ts en s1 (⟨#[109, 117, 116, 101, 120]⟩ : ByteArray) = true
        · rw [if_pos k2] at hk
          have K2 := Aside0.mk k2
          have HK := Aside0.mk hk
          clear hk k2
          have HT14 := Aside0.mk (take_calls w0 A c ts en b HX.out s1 (⟨#[109, 117, 116, 101, 120]⟩ : ByteArray) w13 HL13.out.rd)
          unfold takeS at HT14
          rw [K2.out, if_pos rfl] at HT14
          go_wp2_with fail
          refine HT14.out.mono ?_
          rintro q w14 ⟨rfl, hr, hg⟩
          have HL14 := Aside0.mk (HL13.out.call hr hg)
          clear hr hg HT14
          have hy1 : w14.cell? ⟨gp, 2, none⟩ = some (.slice AM d.2.2.length cM) := (blk_cell HL14.out.cs 2).trans rfl
          go_wp2_with fail
          refine (full_calls w0 A c ts en b HX.out (stepS s1) (d.2.2.length : Int) 6 w14 HL14.out.rd).mono ?_
          rintro q w15 ⟨rfl, hr, hg⟩
          have HL15 := Aside0.mk (HL14.out.call hr hg)
          have HD := Aside0.mk (HL15.out.on (below_drew (Below.refl _ _)))
          clear hr hg
          go_upto_region 11 with fail
          refine start_ (n := 12) (S := fun w' => w'.cell? ⟨gp, 2, none⟩ = some (.slice AM d.2.2.length cM)) (ds := [11]) #[false, false, false, false, false, false, false, false, false, false, false, false] (by kernel_rfl) rfl rfl ((blk_cell HD.out.cs 2).trans rfl) (fun hHeld => ?_)
          refine pure_ (i := 0) (N := some 78) (v := ?_) (a' := ?_) #[true, false, false, false, false, false, false, false, false, false, false, false] rfl rfl (by kernel_rfl) (fun _ _ _ h => h) (Or.inl ⟨by rfl, ?_⟩) ?_ ?_
          rotate_left
          · intro w'
            go_simp
            with_reducible rfl
          rotate_left
          · simp only [Act.put, List.setIfInBounds_toArray, List.set_cons_zero, List.set_cons_succ, i64_w, i32_w]
            rfl
          refine pure_ (i := 1) (N := some 79) (v := ?_) (a' := ?_) #[true, true, false, false, false, false, false, false, false, false, false, false] rfl rfl (by kernel_rfl) (fun _ _ _ h => h) (Or.inl ⟨by rfl, ?_⟩) ?_ ?_
          rotate_left
          · intro w'
            go_simp
            with_reducible rfl
          rotate_left
          · simp only [Act.put, List.setIfInBounds_toArray, List.set_cons_zero, List.set_cons_succ, i64_w, i32_w]
            rfl
          refine pure_ (i := 2) (N := some 80) (v := ?_) (a' := ?_) #[true, true, true, false, false, false, false, false, false, false, false, false] rfl rfl (by kernel_rfl) (fun _ _ _ h => h) (Or.inl ⟨by rfl, ?_⟩) ?_ ?_
          rotate_left
          · intro w'
            go_simp
            with_reducible rfl
          rotate_left
          · simp only [Act.put, List.setIfInBounds_toArray, List.set_cons_zero, List.set_cons_succ, i64_w, i32_w]
            rfl
          refine pure_ (i := 3) (N := some 81) (v := ?_) (a' := ?_) #[true, true, true, true, false, false, false, false, false, false, false, false] rfl rfl (by kernel_rfl) (fun _ _ _ h => h) (Or.inl ⟨by rfl, ?_⟩) ?_ ?_
          rotate_left
          · intro w'
            go_simp
            with_reducible rfl
          rotate_left
          · simp only [Act.put, List.setIfInBounds_toArray, List.set_cons_zero, List.set_cons_succ, i64_w, i32_w]
            rfl
          refine pure_ (i := 5) (N := some 83) (v := ?_) (a' := ?_) #[true, true, true, true, false, true, false, false, false, false, false, false] rfl rfl (by kernel_rfl) (fun _ _ _ h => h) (Or.inl ⟨by rfl, ?_⟩) ?_ ?_
          rotate_left
          · intro w'
            go_simp
            with_reducible rfl
          rotate_left
          · simp only [Act.put, List.setIfInBounds_toArray, List.set_cons_zero, List.set_cons_succ, i64_w, i32_w]
            rfl
          refine take_ (i := 4) (N := some 82) (v := ?_) (a' := ?_) #[true, true, true, true, true, true, false, false, false, false, false, false] rfl rfl (by kernel_rfl) (fun _ _ _ h => h) (Or.inl ⟨by rfl, ?_⟩) hHeld ?_ ?_
          rotate_left
          · intro w' s0
            go_simp
            with_reducible rfl
          rotate_left
          · simp only [Act.put, List.setIfInBounds_toArray, List.set_cons_zero, List.set_cons_succ, i64_w, i32_w]
            rfl
          refine one_ (i := 6) (N := some 84) #[true, true, true, true, true, true, true, false, false, false, false, false] rfl rfl (by kernel_rfl) (by decide) (fun K hK => ?_)
          refine goes_ Tryd.func52 (by kernel_rfl) rfl #[.pointer (some ⟨b, 0, none⟩)] (by rfl) rfl rfl (by simp only [List.map_toArray, List.map_cons, List.map_nil, Act.eval]; rfl) ?_
          refine (name_calls w0 A c ts en b HX.out (fullS ts en (stepS s1) (d.2.2.length : Int) 6) w15.drew HD.out.rd).mono ?_
          rintro q v3 ⟨rfl, hr, hg⟩
          have HL3 := Aside0.mk (HD.out.call hr hg)
          clear hr hg
          refine ⟨_, rfl, ?_⟩
          refine hK.out _ _ ((blk_cell HL3.out.cs 2).trans rfl) (fun hHeld => ?_)
          clear hK K
          refine norm_ (a' := ?_) ?_ ?_
          rotate_left
          · show Act.put _ (some 84) _ = _
            simp only [Act.put, List.setIfInBounds_toArray, List.set_cons_zero, List.set_cons_succ, i64_w, i32_w]
            rfl
          refine one_ (i := 7) (N := some 85) #[true, true, true, true, true, true, true, true, false, false, false, false] rfl rfl (by kernel_rfl) (by decide) (fun K hK => ?_)
          refine lit_step (n := 1) (by rfl) (N := 85) rfl (cs := #[.string (nameS ts en (fullS ts en (stepS s1) (d.2.2.length : Int) 6)).1]) (t := 9) ?hr ?_
          case hr => first | (go_simp; done) | (go_simp; rfl)
          intro g hgg v4 hlit hb
          have HGB := Aside0.mk hlit
          have HNE := Aside0.mk (show ∀ k, Value.ownBlock (.slice AM d.2.2.length cM) = some k → g ≠ k from fun k hk => by have := Kd.N_lt HL3.out.nM k hk; omega)
          have HL4 := Aside0.mk (HL3.out.on hb)
          clear hlit hgg hb
          refine hK.out _ _ ((blk_cell HL4.out.cs 2).trans rfl) (fun hHeld => ?_)
          clear hK K
          refine norm_ (a' := ?_) ?_ ?_
          rotate_left
          · show Act.put _ (some 85) _ = _
            simp only [Act.put, List.setIfInBounds_toArray, List.set_cons_zero, List.set_cons_succ, i64_w, i32_w]
            rfl
          refine one_ (i := 8) (N := some 86) #[true, true, true, true, true, true, true, true, true, false, false, false] rfl rfl (by kernel_rfl) (by decide) (fun K hK => ?_)
          refine Kd.N_append_rows_step Kd.string (w0 := v4) w0.heap.size (by rfl) (.tmp 82) (.tmp 85) 24 9 (.string ⟨#[]⟩) 16 ?ho ?ht ?hi ?hz ?h0 ?hb0 (.slice AM d.2.2.length cM) d.2.2 [(nameS ts en (fullS ts en (stepS s1) (d.2.2.length : Int) 6)).1] (some ⟨g, 0, none⟩) 1 1 (fun _ => True) (fun k => False ∨ k = g) ?hs ?hx ?hN ?hF ?hk ?hf ?hB ?hbase ?hl ?_
          case ho => rfl
          case ht => exact Tryd.underlying24
          case hi => exact infoNm
          case hz => rfl
          case h0 => decide
          case hb0 => decide
          case hs => rfl
          case hx => rfl
          case hN => exact Kd.N_mono HL4.out.nM (fun _ _ => trivial)
          case hF => exact F_one Kd.string (fun _ _ => rfl) rfl HGB.out
          case hk => exact fun k hk => ⟨trivial, fun e => hk.elim id (fun e2 => HNE.out k e.symm e2.symm)⟩
          case hf => exact fun _ _ => trivial
          case hB => exact Below.refl _ _
          case hbase => exact HL4.out.rd.old.size
          case hl => omega
          intro v1 v5 hn hb2 hg2 hat
          have HC5 := Aside0.mk (HL4.out.keepM hg2)
          have HN5 := Aside0.mk hn
          have HG5 := Aside0.mk hg2
          have HV5 := Aside0.mk (show v1.cells = #[v1] from Array.toList_inj.1 (Kd.N_val hn).1)
          have HO5 := Aside0.mk (show ∀ q ∈ (#[v1] : Array Value).toList, q.oneCell' = true from fun q hq => by simp only [List.mem_cons, List.not_mem_nil, or_false] at hq; rw [hq]; exact (Kd.N_val hn).2)
          clear hn hb2 hg2 hat
          refine hK.out _ _ ((blk_cell HC5.out 2).trans rfl) (fun hHeld => ?_)
          clear hK K
          refine norm_ (a' := ?_) ?_ ?_
          rotate_left
          · show Act.put _ (some 86) _ = _
            simp only [Act.put, List.setIfInBounds_toArray, List.set_cons_zero, List.set_cons_succ, i64_w, i32_w]
            rfl
          refine pure_ (i := 9) (N := some 87) (v := ?_) (a' := ?_) #[true, true, true, true, true, true, true, true, true, true, false, false] rfl rfl (by kernel_rfl) (fun _ _ _ h => h) (Or.inl ⟨by rfl, ?_⟩) ?_ ?_
          rotate_left
          · intro w'
            go_simp
            with_reducible rfl
          rotate_left
          · simp only [Act.put, List.setIfInBounds_toArray, List.set_cons_zero, List.set_cons_succ, i64_w, i32_w]
            rfl
          refine pure_ (i := 10) (N := some 88) (v := ?_) (a' := ?_) #[true, true, true, true, true, true, true, true, true, true, true, false] rfl rfl (by kernel_rfl) (fun _ _ _ h => h) (Or.inl ⟨by rfl, ?_⟩) ?_ ?_
          rotate_left
          · intro w'
            go_simp
            with_reducible rfl
          rotate_left
          · simp only [Act.put, List.setIfInBounds_toArray, List.set_cons_zero, List.set_cons_succ, i64_w, i32_w]
            rfl
          refine last_ (i := 11) (N := none) #[true, true, true, true, true, true, true, true, true, true, true, true] rfl rfl (by kernel_rfl) (by decide) (fun K hK => ?_)
          refine put_at_step (by rfl) rfl 24 (.tmp 88) (.tmp 86) ?ho gp 2 27 _ (#[v1]) (#[(.slice AG d.1.length cG), (.slice AA d.2.1.length cA), v1, .slice none 0 0]) v1 ?hp ?hx HV5.out HC5.out ?ht ?hs ?hn HO5.out ?_
          case ho => rfl
          case hp => rfl
          case hx => rfl
          case ht => kernel_rfl
          case hs => simp
          case hn => rfl
          intro v6 hlit hg
          have HL6 := Aside0.mk (Dw.pushM HX.out HL4.out HGP.out HN5.out HG5.out hlit hg)
          clear hlit hg
          refine hK.out _ _ ?_
          clear hK K
          refine done_ (by kernel_rfl) ?_
          have HN9 := Aside0.mk (need_calls w0 A c ts en b HX.out _ (⟨#[59]⟩ : ByteArray) v6 HL6.out.rd)
          go_wp2_with fail
          refine HN9.out.mono ?_
          rintro q w40 ⟨rfl, hr, hg⟩
          have HL40 := Aside0.mk (HL6.out.call hr hg)
          clear hr hg
          go_wp2_with fail
          go_roundg k
          case measure => omega
          case rel => exact ⟨k, (d.1, d.2.1, d.2.2 ++ [(nameS ts en (fullS ts en (stepS s1) (d.2.2.length : Int) 6)).1]), _, (.slice AG d.1.length cG), (.slice AA d.2.1.length cA), v1, Nat.le_refl _, (show d.1.length + k ≤ n by omega), (show d.2.1.length + k ≤ n by omega), (by simp only [List.length_append, List.length_singleton]; omega), HK, HL40⟩
        rw [if_neg k2] at hk
        have K2 := Aside0.mk (Bool.eq_false_iff.2 k2)
        clear k2
        have HT14 := Aside0.mk (take_calls w0 A c ts en b HX.out s1 (⟨#[109, 117, 116, 101, 120]⟩ : ByteArray) w13 HL13.out.rd)
        unfold takeS at HT14
        rw [K2.out, if_neg (by decide)] at HT14
        go_wp2_with fail
        refine HT14.out.mono ?_
        rintro q w14 ⟨rfl, hr, hg⟩
        have HL14 := Aside0.mk (HL13.out.call hr hg)
        clear hr hg HT14
        have hr0 : w14.cell? ⟨b, 0, none⟩ = some (.slice A ts.length c) := (blk_cell HL14.out.rd.blk 0).trans rfl
        have hr1 : w14.cell? ⟨b, 1, none⟩ = some (.int .i64 s1.at_) := (blk_cell HL14.out.rd.blk 1).trans rfl
        by_cases hlt : s1.at_ < ts.length
        · have hltz : (s1.at_ : Int) < (ts.length : Int) := by omega
          rw [if_pos hlt] at hk
          have hk := Option.some.inj hk
          subst hk
          clear hlt
          go_upto_region 1 with fail
          go_quiet (fail)
          obtain ⟨w30, hw30⟩ : ∃ z, w14.drewN nq = z := ⟨_, rfl⟩
          rw [hw30]
          have HL30 := Aside0.mk (HL14.out.on (show Below w14.heap.size w14 w30 by rw [← hw30]; exact pw_below_drewN (Below.refl _ _) nq))
          clear hr0 hr1 hw30
          go_wp2_with fail
          refine (fail_calls w0 A c ts en b HX.out s1 2 w30 HL30.out.rd).mono ?_
          rintro q w31 ⟨rfl, hr, hg⟩
          have HL31 := Aside0.mk (HL30.out.call hr hg)
          clear hr hg
          go_wp2_with fail
          (try simp only [Exit.inBlock, Exit.then])
          refine bodyPost_ret (results_none rfl _ _ _) rfl ?_
          exact ⟨rfl, _, _, _, HL31.out⟩
        · have hltz : ¬ (s1.at_ : Int) < (ts.length : Int) := by omega
          rw [if_neg hlt] at hk
          have hk := Option.some.inj hk
          subst hk
          clear hlt
          go_upto_region 1 with fail
          go_quiet (fail)
          obtain ⟨w30, hw30⟩ : ∃ z, w14.drewN nq = z := ⟨_, rfl⟩
          rw [hw30]
          have HL30 := Aside0.mk (HL14.out.on (show Below w14.heap.size w14 w30 by rw [← hw30]; exact pw_below_drewN (Below.refl _ _) nq))
          clear hr0 hr1 hw30
          go_wp2_with fail
          (try simp only [Exit.inBlock, Exit.then])
          refine bodyPost_ret (results_none rfl _ _ _) rfl ?_
          exact ⟨rfl, _, _, _, HL30.out⟩
      · have kt : isS ts en s1 (⟨#[116, 104, 114, 101, 97, 100]⟩ : ByteArray) = true := by simpa using kt
        rw [if_neg (by rw [kt]; simp)] at hk
        have hk := Option.some.inj hk
        subst hk
        rw [kt] at HI
        clear ke kt
        go_wp2_with fail
        refine HI.out.mono ?_
        rintro q w11 ⟨rfl, hb⟩
        have HL11 := Aside0.mk (HL10.out.on hb)
        clear hb
        go_wp2_with fail
        go_end0
        exact ⟨rfl, _, _, _, HL11.out⟩
    · rw [if_neg (fun hc => ke hc.1)] at hk
      have hk := Option.some.inj hk
      subst hk
      have e1 : (s1.e == 0) = false := beq_eq_false_iff_ne.mpr ke
      clear ke
      go_wp2_with fail
      go_end0
      exact ⟨rfl, _, _, _, HL10.out⟩
end Go.Proofs.YtfeaekdhpkdljaaDoor.Rd
