/- meddlerlaw6.ShowExprs answers true. -/
import Derived.Test.YtfeaekdhpkdljaaDoorRdPkB
import Derived.Test.YtfeaekdhpkdljaaDoorShKnown
namespace Go.Proofs.YtfeaekdhpkdljaaDoor.Rd
open Go.RowKit Go.Proofs.YtfeaekdhpkdljaaDoorW.PrintWords Go.Proofs.YtfeaekdhpkdljaaDoorW.PrintLast Go.Proofs.YtfeaekdhpkdljaaDoor.Sh
set_option linter.unusedVariables false
set_option linter.unusedSimpArgs false
/-- Parse at a text that was made of a string. -/
theorem parse_at (s : ByteArray) (n : Nat) (hsn : s.size = n) (hn : n ≤ 1000000000) (r : Pg × Int × Int) (hF : parseF (bts s) 4000 = some r) (w : World) :
    Calls Tryd.prog 18 #[.slice (some ⟨w.heap.size, 0, none⟩) n (grownCap w n 0 5)] (Lib.bytesWorld w 5 s) fun q w' => ∃ AG cG AA cA AM cM AT cT, q = .returned (.tuple #[.agg (pxC r.1 AG cG AA cA AM cM AT cT), .int .i64 r.2.1, .int .i64 r.2.2]) ∧ Px w.heap.size r.1 AG cG AA cA AM cM AT cT w' ∧ Below w.heap.size w w' := by
  subst hsn
  have hl : s.size = (bts s).length := (bts_len s).symm
  have hC : Kd.C (Kd.int .u8) (Lib.bytesWorld w 5 s) (some ⟨w.heap.size, 0, none⟩) (bts s).length (bts s) := by
    rw [← hl]
    exact Kd.C_of_reads (h1 := fun _ => rfl) (bytes_reads w 5 s (by omega))
  have hc : (bts s).length ≤ grownCap w s.size 0 5 := by rw [← hl]; exact grownCap_ge _ _ _ _
  have hp := parse_calls _ _ (bts s) (Lib.bytesWorld w 5 s) hC hc (by omega) 4000 (by decide) r hF
  rw [← hl] at hp
  refine hp.mono ?_
  rintro q w' ⟨AG, cG, AA, cA, AM, cM, AT, cT, he, hx, hb⟩
  have h0 := bytes_below (Below.refl w.heap.size w) (Nat.le_refl _) 5 s
  exact ⟨AG, cG, AA, cA, AM, cM, AT, cT, he, hx.less h0.size, below_then h0 h0.size hb⟩
theorem bts_hd (s : ByteArray) : bts (((⟨#[116, 104, 114, 101, 97, 100, 32, 116, 32, 123, 32, 120, 32, 61, 32]⟩ : ByteArray) ++ s) ++ (⟨#[59, 32, 125]⟩ : ByteArray)) = bts hdB ++ (bts s ++ bts tlB) := by rw [bts_app, bts_app, List.append_assoc]; rfl
theorem xC_one (a b c : Int) (d : ByteArray) (A : Option Addr) (n m : Nat) : ∀ q ∈ (#[.int .i64 a, .int .i64 b, .int .i64 c, .string d, .slice A n m] : Array Value).toList, q.oneCell' = true := by
  intro q hq
  simp only [List.mem_cons, List.not_mem_nil, or_false] at hq
  rcases hq with h | h | h | h | h <;> subst h <;> rfl
set_option maxHeartbeats 8000000 in
set_option maxRecDepth 100000 in
theorem ShowExprs_calls (s : ByteArray) (w : World) (ht : Tab w) : Calls Tryd.prog 5 #[.string s] w fun q w' => q = .returned (.bool true) ∧ Below w.heap.size w w' := by
  have HT := Aside0.mk ht
  clear ht
  by_cases h3 : s.size > 300
  · have b0 : decide (300 < (s.size : Int)) = true := decide_eq_true (by omega)
    have b1 : decide (300 < s.size) = true := decide_eq_true h3
    clear h3
    go_enter Tryd.func5, Tryd.ntmps5
    go_wp2_with fail
    go_ret
    exact ⟨rfl, Below.refl _ _⟩
  · have b0 : decide (300 < (s.size : Int)) = false := decide_eq_false (by omega)
    have b1 : decide (300 < s.size) = false := decide_eq_false h3
    obtain ⟨⟨p, z, f⟩, hF⟩ := parse_ok (bts (((⟨#[116, 104, 114, 101, 97, 100, 32, 116, 32, 123, 32, 120, 32, 61, 32]⟩ : ByteArray) ++ s) ++ (⟨#[59, 32, 125]⟩ : ByteArray)))
    have hz1 : ((⟨#[116, 104, 114, 101, 97, 100, 32, 116, 32, 123, 32, 120, 32, 61, 32]⟩ : ByteArray) ++ s).size = 15 + s.size := by rw [ba_size]; rfl
    have hz2 : (((⟨#[116, 104, 114, 101, 97, 100, 32, 116, 32, 123, 32, 120, 32, 61, 32]⟩ : ByteArray) ++ s) ++ (⟨#[59, 32, 125]⟩ : ByteArray)).size = 18 + s.size := by rw [ba_size, hz1]; show 15 + s.size + 3 = _; omega
    have hz3 : ((⟨#[116, 104, 114, 101, 97, 100, 32, 116, 32, 123, 32, 120, 32, 61, 32]⟩ : ByteArray) ++ s).size ≤ 4611686018427387904 := by omega
    have hz4 : (((⟨#[116, 104, 114, 101, 97, 100, 32, 116, 32, 123, 32, 120, 32, 61, 32]⟩ : ByteArray) ++ s) ++ (⟨#[59, 32, 125]⟩ : ByteArray)).size ≤ 4611686018427387904 := by omega
    have HPC := Aside0.mk (fun W => parse_at (((⟨#[116, 104, 114, 101, 97, 100, 32, 116, 32, 123, 32, 120, 32, 61, 32]⟩ : ByteArray) ++ s) ++ (⟨#[59, 32, 125]⟩ : ByteArray)) (15 + s.size + 3) (by omega) (by omega) _ hF W)
    clear hz1 hz2
    rw [bts_hd] at hF
    have HF := Aside0.mk hF
    have kb := fun W => print_bytes (P := Tryd.prog) 9 42 5 Tryd.underlying9 Tryd.underlying42 Tryd.underlying5 (((⟨#[116, 104, 114, 101, 97, 100, 32, 116, 32, 123, 32, 120, 32, 61, 32]⟩ : ByteArray) ++ s) ++ (⟨#[59, 32, 125]⟩ : ByteArray)) W
    clear hF
    go_enter Tryd.func5, Tryd.ntmps5
    go_wp2_with fail
    refine (HPC.out _).mono ?_
    rintro q w1 ⟨AG1, cG1, AA1, cA1, AM1, cM1, AT1, cT1, rfl, hx, hb⟩
    have HP1 := Aside0.mk hx
    have HB1 := Aside0.mk hb
    clear hx hb HPC kb b0 b1 hz3 hz4
    go_upto_region 4 with (first | ((with_reducible refine gate_dst (N := 3) rfl ?_); refine box_event ?hg (N := 3) ?hd (cs := #[.slice none 0 0, .slice none 0 0, .slice none 0 0, .slice none 0 0]) (t := 27) ?hr ?_; (case hd => rfl); (case hg => rfl); (case hr => first | (go_simp; done) | (go_simp; rfl)); intro gp hgg w2 hlit hb; have HZ2 := Aside0.mk hlit; have HB2 := Aside0.mk hb; have HGP := Aside0.mk hgg; clear hlit hb hgg) | ((with_reducible refine gate_store (t := 27) (p := 3) rfl ?_); refine put_val ?hg ?hn 27 (.tmp 3) (.tmp 19) ?ho gp 27 _ (#[.slice AG1 p.gl.length cG1, .slice AA1 p.ar.length cA1, .slice AM1 p.mu.length cM1, .slice AT1 p.th.length cT1]) (.agg (#[.slice AG1 p.gl.length cG1, .slice AA1 p.ar.length cA1, .slice AM1 p.mu.length cM1, .slice AT1 p.th.length cT1])) ?hp ?hx ?hu HZ2.out ?ht ?hs ?h1 ?_; (case hg => rfl); (case hn => rfl); (case ho => rfl); (case hp => rfl); (case hx => rfl); (case hu => rfl); (case ht => kernel_rfl); (case hs => rfl); (case h1 => exact four_one _ _ _ _ _ _ _ _ _ _ _ _); intro w3 hlit hg; have HS3 := Aside0.mk hlit; have HBX := Aside0.mk (made_below HGP.out HB2.out hg); have HP3 := Aside0.mk (HP1.out.on HBX.out); have HB3 := Aside0.mk (below_then HB1.out HB1.out.size HBX.out); clear hlit hg))
    obtain ⟨gl, ar, mu, th⟩ := p
    have hy3 : w3.cell? ⟨gp, 3, none⟩ = some (.slice AT1 th.length cT1) := (blk_cell HS3.out 3).trans rfl
    by_cases hf : f = 0
    · have b2 : (f != 0) = false := bne_eq_false_iff_eq.mpr hf
      by_cases h1 : th.length = 1
      · have b3 : ((th.length : Int) != 1) = false := bne_eq_false_iff_eq.mpr (by omega)
        have b4 : (th.length != 1) = false := bne_eq_false_iff_eq.mpr h1
        obtain ⟨t, rfl⟩ := List.length_eq_one_iff.1 h1
        obtain ⟨t0, t1, t2⟩ := t
        obtain ⟨ad1, Al, cl, Ab, cb, e1, q0, q1, q2, l1, g1, l2, g2⟩ := at_T52 HP3.out.now.2.2.2 0 (by decide) (by simp)
        cases e1
        have hT : rd_T52 [(⟨t0, t1, t2⟩ : S52)] 0 = ⟨t0, t1, t2⟩ := rfl
        have ea : ad1.add ((0 : Int).toNat * 3) = ad1 := by simp [Addr.add]
        rw [hT, ea] at q2
        rw [hT] at g2 l2
        clear ea
        clear hT q0 q1 l1 g1 h1
        have HG2 := Aside0.mk g2
        clear g2
        by_cases h2 : t2.length = 1
        · have b5 : ((t2.length : Int) != 1) = false := bne_eq_false_iff_eq.mpr (by omega)
          have b6 : (t2.length != 1) = false := bne_eq_false_iff_eq.mpr h2
          obtain ⟨st, rfl⟩ := List.length_eq_one_iff.1 h2
          subst hf
          obtain ⟨k, hwt, hk⟩ := exprs_1 _ _ _ _ st HF.out rfl rfl
          have hwe := hwt.we
          have hokF := we_okF hwe
          have hsz := wt_size hwt (SizeOf.sizeOf st.f3)
          have HWE := Aside0.mk hwe
          have HOK := Aside0.mk hokF
          have HSZ := Aside0.mk (show (Sh.exprF (SizeOf.sizeOf st.f3) st.f3).size ≤ 18030 by omega)
          clear hwt hk hwe hokF hsz h2
          obtain ⟨ad2, A6, c6, A11, c11, A14, c14, A15, c15, A16, c16, A17, c17, e2, r0, r1, r2, r3, r4, r5, r6, r7, r8, r9, r10, r11, r12, r13, r14, r15, r16, r17, m6, k6, m11, k11, m14, k14, m15, k15, m16, k16, m17, k17⟩ := at_T54 HG2.out 0 (by decide) (by simp)
          cases e2
          have hT : rd_T54 [st] 0 = st := rfl
          have ea : ad2.add ((0 : Int).toNat * 18) = ad2 := by simp [Addr.add]
          rw [hT, ea] at r7 r8 r9 r10 r11
          rw [hT] at m11 k11
          clear ea
          clear hT r0 r1 r2 r3 r4 r5 r6 r12 r13 r14 r15 r16 r17 m6 k6 m14 k14 m15 k15 m16 k16 m17 k17
          have HK11 := Aside0.mk k11
          have HM11 := Aside0.mk m11
          clear k11 m11
          have HBX := Aside0.mk (exprs_2 st.f3 HWE.out (SizeOf.sizeOf st.f3) (Nat.le_refl _))
          obtain ⟨x, hx⟩ : ∃ z, st.f3 = z := ⟨_, rfl⟩
          rw [hx] at r7 r8 r9 r10 r11 HK11 HM11 HOK HSZ HWE HBX
          clear hx
          obtain ⟨sx, hsx⟩ : ∃ z, Sh.exprF (SizeOf.sizeOf x) x = z := ⟨_, rfl⟩
          have HCE := Aside0.mk (fun (W : World) (hb : Below w3.heap.size w3 W) => Sh.expr_calls (SizeOf.sizeOf x) x A11 c11 W (Kd.C_below HK11.out hb) HM11.out (Sh.tab_on HT.out (below_then HB3.out HB3.out.size hb)) (Nat.le_refl _) (HOK.out _) (Nat.le_trans HSZ.out (by decide)))
          rw [hsx] at HSZ HBX HCE
          obtain ⟨p2, z2, f2, hF2, hcs⟩ := HBX.out
          have hz1 : ((⟨#[116, 104, 114, 101, 97, 100, 32, 116, 32, 123, 32, 120, 32, 61, 32]⟩ : ByteArray) ++ sx).size = 15 + sx.size := by rw [ba_size]; rfl
          have hz2 : (((⟨#[116, 104, 114, 101, 97, 100, 32, 116, 32, 123, 32, 120, 32, 61, 32]⟩ : ByteArray) ++ sx) ++ (⟨#[59, 32, 125]⟩ : ByteArray)).size = 18 + sx.size := by rw [ba_size, hz1]; show 15 + sx.size + 3 = _; omega
          have hzx : sx.size ≤ 18030 := HSZ.out
          have hz3 : ((⟨#[116, 104, 114, 101, 97, 100, 32, 116, 32, 123, 32, 120, 32, 61, 32]⟩ : ByteArray) ++ sx).size ≤ 4611686018427387904 := by omega
          have hz4 : (((⟨#[116, 104, 114, 101, 97, 100, 32, 116, 32, 123, 32, 120, 32, 61, 32]⟩ : ByteArray) ++ sx) ++ (⟨#[59, 32, 125]⟩ : ByteArray)).size ≤ 4611686018427387904 := by omega
          have HPC := Aside0.mk (fun W => parse_at (((⟨#[116, 104, 114, 101, 97, 100, 32, 116, 32, 123, 32, 120, 32, 61, 32]⟩ : ByteArray) ++ sx) ++ (⟨#[59, 32, 125]⟩ : ByteArray)) (15 + sx.size + 3) (by omega) (by omega) _ (by rw [bts_hd]; exact hF2) W)
          have kb := fun W => print_bytes (P := Tryd.prog) 9 42 5 Tryd.underlying9 Tryd.underlying42 Tryd.underlying5 (((⟨#[116, 104, 114, 101, 97, 100, 32, 116, 32, 123, 32, 120, 32, 61, 32]⟩ : ByteArray) ++ sx) ++ (⟨#[59, 32, 125]⟩ : ByteArray)) W
          clear hsx HBX hz1 hz2 hF2
          go_upto_region 6 with fail
          go_wp2_with (first | ((with_reducible refine gate_dst (N := 6) rfl ?_); refine box_event ?hg (N := 6) ?hd (cs := #[.int .i64 0, .int .i64 0, .int .i64 0, .string ⟨#[]⟩, .slice none 0 0]) (t := 30) ?hr ?_; (case hd => rfl); (case hg => rfl); (case hr => first | (go_simp; done) | (go_simp; rfl)); intro gx hgg w4 hlit hb; have HZ4 := Aside0.mk hlit; have HB4 := Aside0.mk hb; have HGX := Aside0.mk hgg; clear hlit hb hgg) | ((with_reducible refine gate_store (t := 30) (p := 6) rfl ?_); refine put_val ?hg ?hn 30 (.tmp 6) (.tmp 47) ?ho gx 30 _ (#[.int .i64 x.f0, .int .i64 x.f1, .int .i64 x.f2, .string x.f3, .slice A11 x.f4.length c11]) (.agg (#[.int .i64 x.f0, .int .i64 x.f1, .int .i64 x.f2, .string x.f3, .slice A11 x.f4.length c11])) ?hp ?hx ?hu HZ4.out ?ht ?hs ?h1 ?_; (case hg => rfl); (case hn => rfl); (case ho => rfl); (case hp => rfl); (case hx => rfl); (case hu => rfl); (case ht => kernel_rfl); (case hs => rfl); (case h1 => exact xC_one _ _ _ _ _ _ _); intro w5 hlit hg; have HX5 := Aside0.mk hlit; have HB5 := Aside0.mk (made_below HGX.out HB4.out hg); have hz0 : w5.cell? ⟨gx, 0, none⟩ = some (.int .i64 x.f0) := (blk_cell hlit 0).trans rfl; have hz1 : w5.cell? ⟨gx, 1, none⟩ = some (.int .i64 x.f1) := (blk_cell hlit 1).trans rfl; have hz2 : w5.cell? ⟨gx, 2, none⟩ = some (.int .i64 x.f2) := (blk_cell hlit 2).trans rfl; have hz3 : w5.cell? ⟨gx, 3, none⟩ = some (.string x.f3) := (blk_cell hlit 3).trans rfl; have hz4 : w5.cell? ⟨gx, 4, none⟩ = some (.slice A11 x.f4.length c11) := (blk_cell hlit 4).trans rfl; clear hlit hg))
          refine (HCE.out w5 HB5.out).mono ?_
          rintro q w6 ⟨rfl, hb⟩
          have HB6 := Aside0.mk (below_then HB5.out HB5.out.size hb)
          have HX6 := Aside0.mk (below_read hb HX5.out)
          clear hb HCE HX5
          go_wp2_with fail
          refine (HPC.out w6).mono ?_
          rintro q w7 ⟨AG2, cG2, AA2, cA2, AM2, cM2, AT2, cT2, rfl, hx, hb⟩
          have HP7 := Aside0.mk hx
          have HB7 := Aside0.mk (below_then HB6.out HB6.out.size hb)
          have HX7 := Aside0.mk (below_read hb HX6.out)
          clear hx hb HPC kb hz3 hz4 hzx HX6 hz0 hz1 hz2
          go_upto_region 8 with (first | ((with_reducible refine gate_dst (N := 7) rfl ?_); refine box_event ?hg (N := 7) ?hd (cs := #[.slice none 0 0, .slice none 0 0, .slice none 0 0, .slice none 0 0]) (t := 27) ?hr ?_; (case hd => rfl); (case hg => rfl); (case hr => first | (go_simp; done) | (go_simp; rfl)); intro gq hgg w8 hlit hb; have HZ8 := Aside0.mk hlit; have HB8 := Aside0.mk hb; have HGQ := Aside0.mk hgg; clear hlit hb hgg) | ((with_reducible refine gate_store (t := 27) (p := 7) rfl ?_); refine put_val ?hg ?hn 27 (.tmp 7) (.tmp 55) ?ho gq 27 _ (#[.slice AG2 p2.gl.length cG2, .slice AA2 p2.ar.length cA2, .slice AM2 p2.mu.length cM2, .slice AT2 p2.th.length cT2]) (.agg (#[.slice AG2 p2.gl.length cG2, .slice AA2 p2.ar.length cA2, .slice AM2 p2.mu.length cM2, .slice AT2 p2.th.length cT2])) ?hp ?hx ?hu HZ8.out ?ht ?hs ?h1 ?_; (case hg => rfl); (case hn => rfl); (case ho => rfl); (case hp => rfl); (case hx => rfl); (case hu => rfl); (case ht => kernel_rfl); (case hs => rfl); (case h1 => exact four_one _ _ _ _ _ _ _ _ _ _ _ _); intro w9 hlit hg; have HS9 := Aside0.mk hlit; have HBY := Aside0.mk (made_below HGQ.out HB8.out hg); have HP9 := Aside0.mk (HP7.out.on HBY.out); have HX9 := Aside0.mk (below_read HBY.out HX7.out); have HB9 := Aside0.mk (below_then HB7.out HB7.out.size HBY.out); clear hlit hg))
          have HBW := Aside0.mk (below_then HB3.out HB3.out.size HB9.out)
          clear HZ2 HB2 HGP HBX HP1 HS3 HZ4 HB4 HGX HB5 HB6 HB7 HZ8 HB8 HGQ HP7 HX7
          rcases hcs with rfl | rfl | ⟨rfl, t, s2, h1, h2, h3⟩
          · go_wp2_with fail
            refine (Sh.known17_calls w9 (Sh.tab_on HT.out HBW.out)).mono ?_
            rintro q w13 ⟨rfl, hb⟩
            have HBK := Aside0.mk (below_then HBW.out HBW.out.size hb)
            clear hb
            go_wp2_with fail
            go_ret
            exact ⟨rfl, HBK.out⟩
          · go_wp2_with fail
            refine (Sh.known17_calls w9 (Sh.tab_on HT.out HBW.out)).mono ?_
            rintro q w13 ⟨rfl, hb⟩
            have HBK := Aside0.mk (below_then HBW.out HBW.out.size hb)
            clear hb
            go_wp2_with fail
            go_ret
            exact ⟨rfl, HBK.out⟩
          · obtain ⟨gl2, ar2, mu2, th2⟩ := p2
            obtain rfl : th2 = [t] := h1
            obtain ⟨u0, u1, u2⟩ := t
            obtain rfl : u2 = [s2] := h2
            obtain ⟨ad3, Al3, cl3, Ab3, cb3, e1, q0, q1, q2, l1, g1, l2, g2⟩ := at_T52 HP9.out.now.2.2.2 0 (by decide) (by simp)
            cases e1
            have hT : rd_T52 [(⟨u0, u1, [s2]⟩ : S52)] 0 = ⟨u0, u1, [s2]⟩ := rfl
            have ea : ad3.add ((0 : Int).toNat * 3) = ad3 := by simp [Addr.add]
            rw [hT, ea] at q2
            rw [hT] at g2 l2
            clear ea
            have HG2 := Aside0.mk g2
            clear hT q0 q1 l1 g1 g2
            obtain ⟨ad4, A6, c6, A12, c12, A14, c14, A15, c15, A16, c16, A17, c17, e2, r0, r1, r2, r3, r4, r5, r6, r7, r8, r9, r10, r11, r12, r13, r14, r15, r16, r17, m6, k6, m11, k11, m14, k14, m15, k15, m16, k16, m17, k17⟩ := at_T54 HG2.out 0 (by decide) (by simp)
            cases e2
            have hT : rd_T54 [s2] 0 = s2 := rfl
            have ea : ad4.add ((0 : Int).toNat * 18) = ad4 := by simp [Addr.add]
            rw [hT, ea, h3] at r7 r8 r9 r10 r11
            rw [hT, h3] at m11 k11
            clear ea hT r0 r1 r2 r3 r4 r5 r6 r12 r13 r14 r15 r16 r17 m6 k6 m14 k14 m15 k15 m16 k16 m17 k17 h3
            have HM12 := Aside0.mk m11
            have HK12 := Aside0.mk k11
            have HK9 := Aside0.mk (Kd.C_below HK11.out HB9.out)
            clear m11 k11
            go_upto_region 10 with fail
            refine start_ (n := 29) (S := fun w' => w'.cell? ⟨gq, 3, none⟩ = some (.slice (some ad3) 1 cT2) ∧ w'.cell? ⟨ad3.block, ad3.off + 2, none⟩ = some (.slice (some ad4) 1 cb3) ∧ w'.cell? ⟨ad4.block, ad4.off + 7, none⟩ = some (.int .i64 x.f0) ∧ w'.cell? ⟨ad4.block, ad4.off + 8, none⟩ = some (.int .i64 x.f1) ∧ w'.cell? ⟨ad4.block, ad4.off + 9, none⟩ = some (.int .i64 x.f2) ∧ w'.cell? ⟨ad4.block, ad4.off + 10, none⟩ = some (.string x.f3) ∧ w'.cell? ⟨ad4.block, ad4.off + 11, none⟩ = some (.slice A12 x.f4.length c12) ∧ w'.cell? ⟨gx, 0, none⟩ = some (.int .i64 x.f0) ∧ w'.cell? ⟨gx, 1, none⟩ = some (.int .i64 x.f1) ∧ w'.cell? ⟨gx, 2, none⟩ = some (.int .i64 x.f2) ∧ w'.cell? ⟨gx, 3, none⟩ = some (.string x.f3) ∧ w'.cell? ⟨gx, 4, none⟩ = some (.slice A11 x.f4.length c11)) (ds := []) #[false, false, false, false, false, false, false, false, false, false, false, false, false, false, false, false, false, false, false, false, false, false, false, false, false, false, false, false, false] (by kernel_rfl) rfl rfl ⟨(blk_cell HS9.out 3).trans rfl, q2, r7, r8, r9, r10, r11, (blk_cell HX9.out 0).trans rfl, (blk_cell HX9.out 1).trans rfl, (blk_cell HX9.out 2).trans rfl, (blk_cell HX9.out 3).trans rfl, (blk_cell HX9.out 4).trans rfl⟩ (fun hHeld => ?_)
            refine pure_ (i := 0) (N := some 69) (v := ?_) (a' := ?_) #[true, false, false, false, false, false, false, false, false, false, false, false, false, false, false, false, false, false, false, false, false, false, false, false, false, false, false, false, false] rfl rfl (by kernel_rfl) (fun _ _ _ h => h) (Or.inl ⟨by rfl, ?_⟩) ?_ ?_
            rotate_left
            · intro w'
              go_simp
              with_reducible rfl
            rotate_left
            · simp only [Act.put, List.setIfInBounds_toArray, List.set_cons_zero, List.set_cons_succ, i64_w, i32_w]
              rfl
            refine take_ (i := 1) (N := some 70) (v := ?_) (a' := ?_) #[true, true, false, false, false, false, false, false, false, false, false, false, false, false, false, false, false, false, false, false, false, false, false, false, false, false, false, false, false] rfl rfl (by kernel_rfl) (fun _ _ _ h => h) (Or.inl ⟨by rfl, ?_⟩) hHeld ?_ ?_
            rotate_left
            · rintro w' ⟨s0, s1, s2, s3, s4, s5, s6, s7, s8, s9, s10, s11⟩
              go_simp
              with_reducible rfl
            rotate_left
            · simp only [Act.put, List.setIfInBounds_toArray, List.set_cons_zero, List.set_cons_succ, i64_w, i32_w]
              rfl
            refine pure_ (i := 2) (N := some 71) (v := ?_) (a' := ?_) #[true, true, true, false, false, false, false, false, false, false, false, false, false, false, false, false, false, false, false, false, false, false, false, false, false, false, false, false, false] rfl rfl (by kernel_rfl) (fun _ _ _ h => h) (Or.inl ⟨by rfl, ?_⟩) ?_ ?_
            rotate_left
            · intro w'
              go_simp
              with_reducible rfl
            rotate_left
            · simp only [Act.put, List.setIfInBounds_toArray, List.set_cons_zero, List.set_cons_succ, i64_w, i32_w]
              rfl
            refine pure_ (i := 3) (N := some 72) (v := ?_) (a' := ?_) #[true, true, true, true, false, false, false, false, false, false, false, false, false, false, false, false, false, false, false, false, false, false, false, false, false, false, false, false, false] rfl rfl (by kernel_rfl) (fun _ _ _ h => h) (Or.inl ⟨by rfl, ?_⟩) ?_ ?_
            rotate_left
            · intro w'
              go_simp
              with_reducible rfl
            rotate_left
            · simp only [Act.put, List.setIfInBounds_toArray, List.set_cons_zero, List.set_cons_succ, i64_w, i32_w]
              rfl
            refine pure_ (i := 4) (N := some 73) (v := ?_) (a' := ?_) #[true, true, true, true, true, false, false, false, false, false, false, false, false, false, false, false, false, false, false, false, false, false, false, false, false, false, false, false, false] rfl rfl (by kernel_rfl) (fun _ _ _ h => h) (Or.inl ⟨by rfl, ?_⟩) ?_ ?_
            rotate_left
            · intro w'
              go_simp
              with_reducible rfl
            rotate_left
            · simp only [Act.put, List.setIfInBounds_toArray, List.set_cons_zero, List.set_cons_succ, i64_w, i32_w]
              rfl
            refine pure_ (i := 5) (N := some 74) (v := ?_) (a' := ?_) #[true, true, true, true, true, true, false, false, false, false, false, false, false, false, false, false, false, false, false, false, false, false, false, false, false, false, false, false, false] rfl rfl (by kernel_rfl) (fun _ _ _ h => h) (Or.inl ⟨by rfl, ?_⟩) ?_ ?_
            rotate_left
            · intro w'
              go_simp
              with_reducible rfl
            rotate_left
            · simp only [Act.put, List.setIfInBounds_toArray, List.set_cons_zero, List.set_cons_succ, i64_w, i32_w]
              rfl
            refine take_ (i := 6) (N := some 75) (v := ?_) (a' := ?_) #[true, true, true, true, true, true, true, false, false, false, false, false, false, false, false, false, false, false, false, false, false, false, false, false, false, false, false, false, false] rfl rfl (by kernel_rfl) (fun _ _ _ h => h) (Or.inl ⟨by rfl, ?_⟩) hHeld ?_ ?_
            rotate_left
            · rintro w' ⟨s0, s1, s2, s3, s4, s5, s6, s7, s8, s9, s10, s11⟩
              go_simp
              with_reducible rfl
            rotate_left
            · simp only [Act.put, List.setIfInBounds_toArray, List.set_cons_zero, List.set_cons_succ, i64_w, i32_w]
              rfl
            refine pure_ (i := 7) (N := some 76) (v := ?_) (a' := ?_) #[true, true, true, true, true, true, true, true, false, false, false, false, false, false, false, false, false, false, false, false, false, false, false, false, false, false, false, false, false] rfl rfl (by kernel_rfl) (fun _ _ _ h => h) (Or.inl ⟨by rfl, ?_⟩) ?_ ?_
            rotate_left
            · intro w'
              go_simp
              with_reducible rfl
            rotate_left
            · simp only [Act.put, List.setIfInBounds_toArray, List.set_cons_zero, List.set_cons_succ, i64_w, i32_w]
              rfl
            refine pure_ (i := 8) (N := some 77) (v := ?_) (a' := ?_) #[true, true, true, true, true, true, true, true, true, false, false, false, false, false, false, false, false, false, false, false, false, false, false, false, false, false, false, false, false] rfl rfl (by kernel_rfl) (fun _ _ _ h => h) (Or.inl ⟨by rfl, ?_⟩) ?_ ?_
            rotate_left
            · intro w'
              go_simp
              with_reducible rfl
            rotate_left
            · simp only [Act.put, List.setIfInBounds_toArray, List.set_cons_zero, List.set_cons_succ, i64_w, i32_w]
              rfl
            refine take_ (i := 9) (N := some 78) (v := ?_) (a' := ?_) #[true, true, true, true, true, true, true, true, true, true, false, false, false, false, false, false, false, false, false, false, false, false, false, false, false, false, false, false, false] rfl rfl (by kernel_rfl) (fun _ _ _ h => h) (Or.inl ⟨by rfl, ?_⟩) hHeld ?_ ?_
            rotate_left
            · rintro w' ⟨s0, s1, s2, s3, s4, s5, s6, s7, s8, s9, s10, s11⟩
              go_simp
              with_reducible rfl
            rotate_left
            · simp only [Act.put, List.setIfInBounds_toArray, List.set_cons_zero, List.set_cons_succ, i64_w, i32_w]
              rfl
            refine pure_ (i := 10) (N := some 79) (v := ?_) (a' := ?_) #[true, true, true, true, true, true, true, true, true, true, true, false, false, false, false, false, false, false, false, false, false, false, false, false, false, false, false, false, false] rfl rfl (by kernel_rfl) (fun _ _ _ h => h) (Or.inl ⟨by rfl, ?_⟩) ?_ ?_
            rotate_left
            · intro w'
              go_simp
              with_reducible rfl
            rotate_left
            · simp only [Act.put, List.setIfInBounds_toArray, List.set_cons_zero, List.set_cons_succ, i64_w, i32_w]
              rfl
            refine pure_ (i := 11) (N := some 80) (v := ?_) (a' := ?_) #[true, true, true, true, true, true, true, true, true, true, true, true, false, false, false, false, false, false, false, false, false, false, false, false, false, false, false, false, false] rfl rfl (by kernel_rfl) (fun _ _ _ h => h) (Or.inl ⟨by rfl, ?_⟩) ?_ ?_
            rotate_left
            · intro w'
              go_simp
              with_reducible rfl
            rotate_left
            · simp only [Act.put, List.setIfInBounds_toArray, List.set_cons_zero, List.set_cons_succ, i64_w, i32_w]
              rfl
            refine pure_ (i := 12) (N := some 81) (v := ?_) (a' := ?_) #[true, true, true, true, true, true, true, true, true, true, true, true, true, false, false, false, false, false, false, false, false, false, false, false, false, false, false, false, false] rfl rfl (by kernel_rfl) (fun _ _ _ h => h) (Or.inl ⟨by rfl, ?_⟩) ?_ ?_
            rotate_left
            · intro w'
              go_simp
              with_reducible rfl
            rotate_left
            · simp only [Act.put, List.setIfInBounds_toArray, List.set_cons_zero, List.set_cons_succ, i64_w, i32_w]
              rfl
            refine pure_ (i := 13) (N := some 82) (v := ?_) (a' := ?_) #[true, true, true, true, true, true, true, true, true, true, true, true, true, true, false, false, false, false, false, false, false, false, false, false, false, false, false, false, false] rfl rfl (by kernel_rfl) (fun _ _ _ h => h) (Or.inl ⟨by rfl, ?_⟩) ?_ ?_
            rotate_left
            · intro w'
              go_simp
              with_reducible rfl
            rotate_left
            · simp only [Act.put, List.setIfInBounds_toArray, List.set_cons_zero, List.set_cons_succ, i64_w, i32_w]
              rfl
            refine pure_ (i := 14) (N := some 83) (v := ?_) (a' := ?_) #[true, true, true, true, true, true, true, true, true, true, true, true, true, true, true, false, false, false, false, false, false, false, false, false, false, false, false, false, false] rfl rfl (by kernel_rfl) (fun _ _ _ h => h) (Or.inl ⟨by rfl, ?_⟩) ?_ ?_
            rotate_left
            · intro w'
              go_simp
              with_reducible rfl
            rotate_left
            · simp only [Act.put, List.setIfInBounds_toArray, List.set_cons_zero, List.set_cons_succ, i64_w, i32_w]
              rfl
            refine take_ (i := 15) (N := some 84) (v := ?_) (a' := ?_) #[true, true, true, true, true, true, true, true, true, true, true, true, true, true, true, true, false, false, false, false, false, false, false, false, false, false, false, false, false] rfl rfl (by kernel_rfl) (fun _ _ _ h => h) (Or.inl ⟨by rfl, ?_⟩) hHeld ?_ ?_
            rotate_left
            · rintro w' ⟨s0, s1, s2, s3, s4, s5, s6, s7, s8, s9, s10, s11⟩
              go_simp
              with_reducible rfl
            rotate_left
            · simp only [Act.put, List.setIfInBounds_toArray, List.set_cons_zero, List.set_cons_succ, i64_w, i32_w]
              rfl
            refine pure_ (i := 16) (N := some 85) (v := ?_) (a' := ?_) #[true, true, true, true, true, true, true, true, true, true, true, true, true, true, true, true, true, false, false, false, false, false, false, false, false, false, false, false, false] rfl rfl (by kernel_rfl) (fun _ _ _ h => h) (Or.inl ⟨by rfl, ?_⟩) ?_ ?_
            rotate_left
            · intro w'
              go_simp
              with_reducible rfl
            rotate_left
            · simp only [Act.put, List.setIfInBounds_toArray, List.set_cons_zero, List.set_cons_succ, i64_w, i32_w]
              rfl
            refine pure_ (i := 17) (N := some 86) (v := ?_) (a' := ?_) #[true, true, true, true, true, true, true, true, true, true, true, true, true, true, true, true, true, true, false, false, false, false, false, false, false, false, false, false, false] rfl rfl (by kernel_rfl) (fun _ _ _ h => h) (Or.inl ⟨by rfl, ?_⟩) ?_ ?_
            rotate_left
            · intro w'
              go_simp
              with_reducible rfl
            rotate_left
            · simp only [Act.put, List.setIfInBounds_toArray, List.set_cons_zero, List.set_cons_succ, i64_w, i32_w]
              rfl
            refine take_ (i := 18) (N := some 87) (v := ?_) (a' := ?_) #[true, true, true, true, true, true, true, true, true, true, true, true, true, true, true, true, true, true, true, false, false, false, false, false, false, false, false, false, false] rfl rfl (by kernel_rfl) (fun _ _ _ h => h) (Or.inl ⟨by rfl, ?_⟩) hHeld ?_ ?_
            rotate_left
            · rintro w' ⟨s0, s1, s2, s3, s4, s5, s6, s7, s8, s9, s10, s11⟩
              go_simp
              with_reducible rfl
            rotate_left
            · simp only [Act.put, List.setIfInBounds_toArray, List.set_cons_zero, List.set_cons_succ, i64_w, i32_w]
              rfl
            refine pure_ (i := 19) (N := some 88) (v := ?_) (a' := ?_) #[true, true, true, true, true, true, true, true, true, true, true, true, true, true, true, true, true, true, true, true, false, false, false, false, false, false, false, false, false] rfl rfl (by kernel_rfl) (fun _ _ _ h => h) (Or.inl ⟨by rfl, ?_⟩) ?_ ?_
            rotate_left
            · intro w'
              go_simp
              with_reducible rfl
            rotate_left
            · simp only [Act.put, List.setIfInBounds_toArray, List.set_cons_zero, List.set_cons_succ, i64_w, i32_w]
              rfl
            refine pure_ (i := 20) (N := some 89) (v := ?_) (a' := ?_) #[true, true, true, true, true, true, true, true, true, true, true, true, true, true, true, true, true, true, true, true, true, false, false, false, false, false, false, false, false] rfl rfl (by kernel_rfl) (fun _ _ _ h => h) (Or.inl ⟨by rfl, ?_⟩) ?_ ?_
            rotate_left
            · intro w'
              go_simp
              with_reducible rfl
            rotate_left
            · simp only [Act.put, List.setIfInBounds_toArray, List.set_cons_zero, List.set_cons_succ, i64_w, i32_w]
              rfl
            refine take_ (i := 21) (N := some 90) (v := ?_) (a' := ?_) #[true, true, true, true, true, true, true, true, true, true, true, true, true, true, true, true, true, true, true, true, true, true, false, false, false, false, false, false, false] rfl rfl (by kernel_rfl) (fun _ _ _ h => h) (Or.inl ⟨by rfl, ?_⟩) hHeld ?_ ?_
            rotate_left
            · rintro w' ⟨s0, s1, s2, s3, s4, s5, s6, s7, s8, s9, s10, s11⟩
              go_simp
              with_reducible rfl
            rotate_left
            · simp only [Act.put, List.setIfInBounds_toArray, List.set_cons_zero, List.set_cons_succ, i64_w, i32_w]
              rfl
            refine take_ (i := 22) (N := some 91) (v := ?_) (a' := ?_) #[true, true, true, true, true, true, true, true, true, true, true, true, true, true, true, true, true, true, true, true, true, true, true, false, false, false, false, false, false] rfl rfl (by kernel_rfl) (fun _ _ _ h => h) (Or.inl ⟨by rfl, ?_⟩) hHeld ?_ ?_
            rotate_left
            · rintro w' ⟨s0, s1, s2, s3, s4, s5, s6, s7, s8, s9, s10, s11⟩
              go_simp
              with_reducible rfl
            rotate_left
            · simp only [Act.put, List.setIfInBounds_toArray, List.set_cons_zero, List.set_cons_succ, i64_w, i32_w]
              rfl
            refine one_ (i := 23) (N := some 92) #[true, true, true, true, true, true, true, true, true, true, true, true, true, true, true, true, true, true, true, true, true, true, true, true, false, false, false, false, false] rfl rfl (by kernel_rfl) (by decide) (fun K hK => ?_)
            refine goes_ Tryd.func21 (by kernel_rfl) rfl #[.agg #[.int .i64 x.f0, .int .i64 x.f1, .int .i64 x.f2, .string x.f3, .slice A12 x.f4.length c12], .agg #[.int .i64 x.f0, .int .i64 x.f1, .int .i64 x.f2, .string x.f3, .slice A11 x.f4.length c11]] (by rfl) rfl rfl (by simp only [List.map_toArray, List.map_cons, List.map_nil, Act.eval]; rfl) ?_
            refine (same_calls HWE.out A12 A11 c12 c11 w9.drew (Kd.C_below HK12.out (below_drew (Below.refl _ _))) HM12.out (Kd.C_below HK9.out (below_drew (Below.refl _ _))) HM11.out).mono ?_
            rintro q w11 ⟨rfl, hb⟩
            have HB11 := Aside0.mk hb
            clear hb
            refine ⟨_, rfl, ?_⟩
            refine hK.out _ _ ⟨(HB11.out.cell (World.block_lt_of_cell? _ _ hHeld.1)).trans hHeld.1, (HB11.out.cell (World.block_lt_of_cell? _ _ hHeld.2.1)).trans hHeld.2.1, (HB11.out.cell (World.block_lt_of_cell? _ _ hHeld.2.2.1)).trans hHeld.2.2.1, (HB11.out.cell (World.block_lt_of_cell? _ _ hHeld.2.2.2.1)).trans hHeld.2.2.2.1, (HB11.out.cell (World.block_lt_of_cell? _ _ hHeld.2.2.2.2.1)).trans hHeld.2.2.2.2.1, (HB11.out.cell (World.block_lt_of_cell? _ _ hHeld.2.2.2.2.2.1)).trans hHeld.2.2.2.2.2.1, (HB11.out.cell (World.block_lt_of_cell? _ _ hHeld.2.2.2.2.2.2.1)).trans hHeld.2.2.2.2.2.2.1, (HB11.out.cell (World.block_lt_of_cell? _ _ hHeld.2.2.2.2.2.2.2.1)).trans hHeld.2.2.2.2.2.2.2.1, (HB11.out.cell (World.block_lt_of_cell? _ _ hHeld.2.2.2.2.2.2.2.2.1)).trans hHeld.2.2.2.2.2.2.2.2.1, (HB11.out.cell (World.block_lt_of_cell? _ _ hHeld.2.2.2.2.2.2.2.2.2.1)).trans hHeld.2.2.2.2.2.2.2.2.2.1, (HB11.out.cell (World.block_lt_of_cell? _ _ hHeld.2.2.2.2.2.2.2.2.2.2.1)).trans hHeld.2.2.2.2.2.2.2.2.2.2.1, (HB11.out.cell (World.block_lt_of_cell? _ _ hHeld.2.2.2.2.2.2.2.2.2.2.2)).trans hHeld.2.2.2.2.2.2.2.2.2.2.2⟩ (fun hHeld => ?_)
            clear hK K
            refine norm_ (a' := ?_) ?_ ?_
            rotate_left
            · show Act.put _ (some 92) _ = _
              simp only [Act.put, List.setIfInBounds_toArray, List.set_cons_zero, List.set_cons_succ, i64_w, i32_w]
              rfl
            refine pure_ (i := 24) (N := some 93) (v := ?_) (a' := ?_) #[true, true, true, true, true, true, true, true, true, true, true, true, true, true, true, true, true, true, true, true, true, true, true, true, true, false, false, false, false] rfl rfl (by kernel_rfl) (fun _ _ _ h => h) (Or.inl ⟨by rfl, ?_⟩) ?_ ?_
            rotate_left
            · intro w'
              go_simp
              with_reducible rfl
            rotate_left
            · simp only [Act.put, List.setIfInBounds_toArray, List.set_cons_zero, List.set_cons_succ, i64_w, i32_w]
              rfl
            refine pure_ (i := 25) (N := some 94) (v := ?_) (a' := ?_) #[true, true, true, true, true, true, true, true, true, true, true, true, true, true, true, true, true, true, true, true, true, true, true, true, true, true, false, false, false] rfl rfl (by kernel_rfl) (fun _ _ _ h => h) (Or.inl ⟨by rfl, ?_⟩) ?_ ?_
            rotate_left
            · intro w'
              go_simp
              with_reducible rfl
            rotate_left
            · simp only [Act.put, List.setIfInBounds_toArray, List.set_cons_zero, List.set_cons_succ, i64_w, i32_w]
              rfl
            refine one_ (i := 26) (N := some 95) #[true, true, true, true, true, true, true, true, true, true, true, true, true, true, true, true, true, true, true, true, true, true, true, true, true, true, true, false, false] rfl rfl (by kernel_rfl) (by decide) (fun K hK => ?_)
            refine goes_ Tryd.func17 (by kernel_rfl) rfl #[] (by rfl) rfl rfl (by simp only [List.map_toArray, List.map_cons, List.map_nil, Act.eval]) ?_
            refine (Sh.known17_calls w11 (Sh.tab_on HT.out (below_then HBW.out HBW.out.size (below_then (below_drew (Below.refl w9.heap.size w9)) (Nat.le_refl _) HB11.out)))).mono ?_
            rintro q w12 ⟨rfl, hb⟩
            have HBK := Aside0.mk (below_then (below_then HBW.out HBW.out.size (below_then (below_drew (Below.refl w9.heap.size w9)) (Nat.le_refl _) HB11.out)) (below_then HBW.out HBW.out.size (below_then (below_drew (Below.refl w9.heap.size w9)) (Nat.le_refl _) HB11.out)).size hb)
            have HB12 := Aside0.mk hb
            clear hb
            refine ⟨_, rfl, ?_⟩
            refine hK.out _ _ ⟨(HB12.out.cell (World.block_lt_of_cell? _ _ hHeld.1)).trans hHeld.1, (HB12.out.cell (World.block_lt_of_cell? _ _ hHeld.2.1)).trans hHeld.2.1, (HB12.out.cell (World.block_lt_of_cell? _ _ hHeld.2.2.1)).trans hHeld.2.2.1, (HB12.out.cell (World.block_lt_of_cell? _ _ hHeld.2.2.2.1)).trans hHeld.2.2.2.1, (HB12.out.cell (World.block_lt_of_cell? _ _ hHeld.2.2.2.2.1)).trans hHeld.2.2.2.2.1, (HB12.out.cell (World.block_lt_of_cell? _ _ hHeld.2.2.2.2.2.1)).trans hHeld.2.2.2.2.2.1, (HB12.out.cell (World.block_lt_of_cell? _ _ hHeld.2.2.2.2.2.2.1)).trans hHeld.2.2.2.2.2.2.1, (HB12.out.cell (World.block_lt_of_cell? _ _ hHeld.2.2.2.2.2.2.2.1)).trans hHeld.2.2.2.2.2.2.2.1, (HB12.out.cell (World.block_lt_of_cell? _ _ hHeld.2.2.2.2.2.2.2.2.1)).trans hHeld.2.2.2.2.2.2.2.2.1, (HB12.out.cell (World.block_lt_of_cell? _ _ hHeld.2.2.2.2.2.2.2.2.2.1)).trans hHeld.2.2.2.2.2.2.2.2.2.1, (HB12.out.cell (World.block_lt_of_cell? _ _ hHeld.2.2.2.2.2.2.2.2.2.2.1)).trans hHeld.2.2.2.2.2.2.2.2.2.2.1, (HB12.out.cell (World.block_lt_of_cell? _ _ hHeld.2.2.2.2.2.2.2.2.2.2.2)).trans hHeld.2.2.2.2.2.2.2.2.2.2.2⟩ (fun hHeld => ?_)
            clear hK K
            refine norm_ (a' := ?_) ?_ ?_
            rotate_left
            · show Act.put _ (some 95) _ = _
              simp only [Act.put, List.setIfInBounds_toArray, List.set_cons_zero, List.set_cons_succ, i64_w, i32_w]
              rfl
            refine pure_ (i := 27) (N := some 96) (v := ?_) (a' := ?_) #[true, true, true, true, true, true, true, true, true, true, true, true, true, true, true, true, true, true, true, true, true, true, true, true, true, true, true, true, false] rfl rfl (by kernel_rfl) (fun _ _ _ h => h) (Or.inl ⟨by rfl, ?_⟩) ?_ ?_
            rotate_left
            · intro w'
              go_simp
              with_reducible rfl
            rotate_left
            · simp only [Act.put, List.setIfInBounds_toArray, List.set_cons_zero, List.set_cons_succ, i64_w, i32_w]
              rfl
            refine pure_ (i := 28) (N := some 2) (v := ?_) (a' := ?_) #[true, true, true, true, true, true, true, true, true, true, true, true, true, true, true, true, true, true, true, true, true, true, true, true, true, true, true, true, true] rfl rfl (by kernel_rfl) (fun _ _ _ h => h) (Or.inl ⟨by rfl, ?_⟩) ?_ ?_
            rotate_left
            · intro w'
              go_simp
              with_reducible rfl
            rotate_left
            · simp only [Act.put, List.setIfInBounds_toArray, List.set_cons_zero, List.set_cons_succ, i64_w, i32_w]
              rfl
            refine done_ (by kernel_rfl) ?_
            go_wp2_with fail
            go_ret
            exact ⟨rfl, HBK.out⟩
        · have b5 : ((t2.length : Int) != 1) = true := bne_iff_ne.mpr (by omega)
          have b6 : (t2.length != 1) = true := bne_iff_ne.mpr h2
          clear h2
          go_wp2_with fail
          refine (Sh.known17_calls w3 (Sh.tab_on HT.out HB3.out)).mono ?_
          rintro q w9 ⟨rfl, hb⟩
          have HBK := Aside0.mk (below_then HB3.out HB3.out.size hb)
          clear hb
          go_wp2_with fail
          go_ret
          exact ⟨rfl, HBK.out⟩
      · have b3 : ((th.length : Int) != 1) = true := bne_iff_ne.mpr (by omega)
        have b4 : (th.length != 1) = true := bne_iff_ne.mpr h1
        clear h1
        go_wp2_with fail
        refine (Sh.known17_calls w3 (Sh.tab_on HT.out HB3.out)).mono ?_
        rintro q w9 ⟨rfl, hb⟩
        have HBK := Aside0.mk (below_then HB3.out HB3.out.size hb)
        clear hb
        go_wp2_with fail
        go_ret
        exact ⟨rfl, HBK.out⟩
    · have b2 : (f != 0) = true := bne_iff_ne.mpr hf
      clear hf
      go_wp2_with fail
      refine (Sh.known17_calls w3 (Sh.tab_on HT.out HB3.out)).mono ?_
      rintro q w9 ⟨rfl, hb⟩
      have HBK := Aside0.mk (below_then HB3.out HB3.out.size hb)
      clear hb
      go_wp2_with fail
      go_ret
      exact ⟨rfl, HBK.out⟩
end Go.Proofs.YtfeaekdhpkdljaaDoor.Rd
