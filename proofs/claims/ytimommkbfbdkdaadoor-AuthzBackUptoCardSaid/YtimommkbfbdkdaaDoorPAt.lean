/- The walk of AuthzBack: it comes out true. -/
import Derived.Test.YtimommkbfbdkdaaDoorPAs
namespace Go.Proofs.YtimommkbfbdkdaaDoor.P
open Go.RowKit Go.Proofs.YtimommkbfbdkdaaDoorW.PrintWords Go.Proofs.YtimommkbfbdkdaaDoorW.PrintLast Go.Proofs.YtimommkbfbdkdaaDoorW.PrintMore
set_option linter.unusedVariables false
set_option linter.unusedSimpArgs false

set_option maxHeartbeats 16000000 in
set_option maxRecDepth 100000 in
theorem AuthzBack_calls {a b : Au} {sv ce ot : S29} {A0 B0 A1 B1 As Ac Ao : Option Addr} {c0 d0 c1 d1 cs cc co : Nat} (w0 : World) (hL : Laid w0) (hn_a : nA a ≤ 1100000) (hn_b : nA b ≤ 1100000) (hn_sv : nT sv ≤ 1100000) (hn_ce : nT ce ≤ 1100000) (hn_ot : nT ot ≤ 1100000)
    (h0 : IsA w0 (.agg #[.string a.u, .slice A0 a.g.length c0, .int .i64 a.o, .slice B0 a.tr.length d0, .string a.s, .bool a.fw, .int .i64 a.tm]) a) (h1 : IsT w0 (.agg #[.int .i64 sv.f0, .string sv.f1, .int .i64 sv.f2, .slice As sv.f3.length cs]) sv) (h2 : IsT w0 (.agg #[.int .i64 ce.f0, .string ce.f1, .int .i64 ce.f2, .slice Ac ce.f3.length cc]) ce) (h3 : IsT w0 (.agg #[.int .i64 ot.f0, .string ot.f1, .int .i64 ot.f2, .slice Ao ot.f3.length co]) ot) (h4 : IsA w0 (.agg #[.string b.u, .slice A1 b.g.length c1, .int .i64 b.o, .slice B1 b.tr.length d1, .string b.s, .bool b.fw, .int .i64 b.tm]) b) :
    V_ 6 #[(.agg #[.string a.u, .slice A0 a.g.length c0, .int .i64 a.o, .slice B0 a.tr.length d0, .string a.s, .bool a.fw, .int .i64 a.tm]), (.agg #[.int .i64 sv.f0, .string sv.f1, .int .i64 sv.f2, .slice As sv.f3.length cs]), (.agg #[.int .i64 ce.f0, .string ce.f1, .int .i64 ce.f2, .slice Ac ce.f3.length cc]), (.agg #[.int .i64 ot.f0, .string ot.f1, .int .i64 ot.f2, .slice Ao ot.f3.length co]), (.agg #[.string b.u, .slice A1 b.g.length c1, .int .i64 b.o, .slice B1 b.tr.length d1, .string b.s, .bool b.fw, .int .i64 b.tm])] w0 (.bool true) := by
  have hu25 := Tryd.underlying25
  have hu29 := Tryd.underlying29
  unfold V_
  replace h0 := Aside0.mk h0
  replace h1 := Aside0.mk h1
  replace h2 := Aside0.mk h2
  replace h3 := Aside0.mk h3
  replace h4 := Aside0.mk h4
  have HL_0 := Aside0.mk (hL)
  have H0_0 := Aside0.mk (h0.out)
  have H1_0 := Aside0.mk (h1.out)
  have H2_0 := Aside0.mk (h2.out)
  have H3_0 := Aside0.mk (h3.out)
  have H4_0 := Aside0.mk (h4.out)
  have B_0 := Aside0.mk (Below.refl w0.heap.size w0)
  clear hL
  go_enter Tryd.func6, Tryd.ntmps6
  go_wp2_with fail
  refine (works_calls _ (HL_0.out.below (below_alloc (below_alloc (below_alloc (below_alloc (below_alloc (Below.refl _ _) _) _) _) _) _))).mono ?_
  rintro e w1 ⟨rfl, b1⟩
  obtain ⟨p1, z1, x1_0, x1_1, x1_2, x1_3, x1_4⟩ := five_boxes b1
  have HL_1 := Aside0.mk (HL_0.out.below p1)
  have H0_1 := Aside0.mk (H0_0.out.below p1)
  have H1_1 := Aside0.mk (H1_0.out.below p1)
  have H2_1 := Aside0.mk (H2_0.out.below p1)
  have H3_1 := Aside0.mk (H3_0.out.below p1)
  have H4_1 := Aside0.mk (H4_0.out.below p1)
  have B_1 := Aside0.mk (B_0.out.trans (p1.mono B_0.out.size))
  have X1_1 := Aside0.mk x1_0
  have X2_1 := Aside0.mk x1_1
  have X3_1 := Aside0.mk x1_2
  have X4_1 := Aside0.mk x1_3
  have X5_1 := Aside0.mk x1_4
  clear HL_0 H0_0 H1_0 H2_0 H3_0 H4_0 B_0 b1 p1 z1 x1_0 x1_1 x1_2 x1_3 x1_4
  obtain ⟨hq0_0, hq0_1, hq0_2, hq0_3, hq0_4, hq0_5, hq0_6⟩ := boxA_cells X1_1.out
  go_wp2_with fail
  refine (LargeA_V (a := a) _ (by omega) H0_1.out).mono ?_
  rintro e w2 ⟨rfl, b2⟩
  have H0_2 := Aside0.mk (H0_1.out.below b2)
  have H1_2 := Aside0.mk (H1_1.out.below b2)
  have H2_2 := Aside0.mk (H2_1.out.below b2)
  have H3_2 := Aside0.mk (H3_1.out.below b2)
  have H4_2 := Aside0.mk (H4_1.out.below b2)
  have B_2 := Aside0.mk (B_1.out.trans (b2.mono B_1.out.size))
  have X1_2 := Aside0.mk (blk_below X1_1.out b2)
  have X2_2 := Aside0.mk (blk_below X2_1.out b2)
  have X3_2 := Aside0.mk (blk_below X3_1.out b2)
  have X4_2 := Aside0.mk (blk_below X4_1.out b2)
  have X5_2 := Aside0.mk (blk_below X5_1.out b2)
  clear H0_1 H1_1 H2_1 H3_1 H4_1 B_1 X1_1 X2_1 X3_1 X4_1 X5_1 hq0_0 hq0_1 hq0_2 hq0_3 hq0_4 hq0_5 hq0_6 b2
  cases hg2 : largeA a with
  | true =>
    go_wp2_with fail
    go_ret
    exact ⟨rfl, B_2.out⟩
  | false =>
    obtain ⟨hq1_0, hq1_1, hq1_2, hq1_3, hq1_4, hq1_5, hq1_6⟩ := boxA_cells X5_2.out
    go_wp2_with fail
    refine (LargeA_V (a := b) _ (by omega) H4_2.out).mono ?_
    rintro e w3 ⟨rfl, b3⟩
    have H0_3 := Aside0.mk (H0_2.out.below b3)
    have H1_3 := Aside0.mk (H1_2.out.below b3)
    have H2_3 := Aside0.mk (H2_2.out.below b3)
    have H3_3 := Aside0.mk (H3_2.out.below b3)
    have H4_3 := Aside0.mk (H4_2.out.below b3)
    have B_3 := Aside0.mk (B_2.out.trans (b3.mono B_2.out.size))
    have X1_3 := Aside0.mk (blk_below X1_2.out b3)
    have X2_3 := Aside0.mk (blk_below X2_2.out b3)
    have X3_3 := Aside0.mk (blk_below X3_2.out b3)
    have X4_3 := Aside0.mk (blk_below X4_2.out b3)
    have X5_3 := Aside0.mk (blk_below X5_2.out b3)
    clear H0_2 H1_2 H2_2 H3_2 H4_2 B_2 X1_2 X2_2 X3_2 X4_2 X5_2 hq1_0 hq1_1 hq1_2 hq1_3 hq1_4 hq1_5 hq1_6 b3
    cases hg3 : largeA b with
    | true =>
      go_wp2_with fail
      go_ret
      exact ⟨rfl, B_3.out⟩
    | false =>
      obtain ⟨hq2_0, hq2_1, hq2_2, hq2_3⟩ := box_cells X4_3.out
      go_wp2_with fail
      refine (Large_V _ 20 (by omega) H3_3.out).mono ?_
      rintro e w4 ⟨rfl, b4⟩
      have H0_4 := Aside0.mk (H0_3.out.below b4)
      have H1_4 := Aside0.mk (H1_3.out.below b4)
      have H2_4 := Aside0.mk (H2_3.out.below b4)
      have H3_4 := Aside0.mk (H3_3.out.below b4)
      have H4_4 := Aside0.mk (H4_3.out.below b4)
      have B_4 := Aside0.mk (B_3.out.trans (b4.mono B_3.out.size))
      have X1_4 := Aside0.mk (blk_below X1_3.out b4)
      have X2_4 := Aside0.mk (blk_below X2_3.out b4)
      have X3_4 := Aside0.mk (blk_below X3_3.out b4)
      have X4_4 := Aside0.mk (blk_below X4_3.out b4)
      have X5_4 := Aside0.mk (blk_below X5_3.out b4)
      clear H0_3 H1_3 H2_3 H3_3 H4_3 B_3 X1_3 X2_3 X3_3 X4_3 X5_3 hq2_0 hq2_1 hq2_2 hq2_3 b4
      cases hg4 : decide (((partsT ot).length : Int) > 20) with
      | true =>
        go_wp2_with fail
        go_ret
        exact ⟨rfl, B_4.out⟩
      | false =>
        obtain ⟨hq3_0, hq3_1, hq3_2, hq3_3⟩ := box_cells X2_4.out
        go_wp2_with fail
        refine (Valid_V (t := sv) _ (by omega) H1_4.out).mono ?_
        rintro e w5 ⟨rfl, b5⟩
        have H0_5 := Aside0.mk (H0_4.out.below b5)
        have H1_5 := Aside0.mk (H1_4.out.below b5)
        have H2_5 := Aside0.mk (H2_4.out.below b5)
        have H3_5 := Aside0.mk (H3_4.out.below b5)
        have H4_5 := Aside0.mk (H4_4.out.below b5)
        have B_5 := Aside0.mk (B_4.out.trans (b5.mono B_4.out.size))
        have X1_5 := Aside0.mk (blk_below X1_4.out b5)
        have X2_5 := Aside0.mk (blk_below X2_4.out b5)
        have X3_5 := Aside0.mk (blk_below X3_4.out b5)
        have X4_5 := Aside0.mk (blk_below X4_4.out b5)
        have X5_5 := Aside0.mk (blk_below X5_4.out b5)
        clear H0_4 H1_4 H2_4 H3_4 H4_4 B_4 X1_4 X2_4 X3_4 X4_4 X5_4 hq3_0 hq3_1 hq3_2 hq3_3 b5
        cases hv_sv : vT sv 0 with
        | true =>
          obtain ⟨hq4_0, hq4_1, hq4_2, hq4_3⟩ := box_cells X3_5.out
          go_wp2_with fail
          refine (Valid_V (t := ce) _ (by omega) H2_5.out).mono ?_
          rintro e w6 ⟨rfl, b6⟩
          have H0_6 := Aside0.mk (H0_5.out.below b6)
          have H1_6 := Aside0.mk (H1_5.out.below b6)
          have H2_6 := Aside0.mk (H2_5.out.below b6)
          have H3_6 := Aside0.mk (H3_5.out.below b6)
          have H4_6 := Aside0.mk (H4_5.out.below b6)
          have B_6 := Aside0.mk (B_5.out.trans (b6.mono B_5.out.size))
          have X1_6 := Aside0.mk (blk_below X1_5.out b6)
          have X2_6 := Aside0.mk (blk_below X2_5.out b6)
          have X3_6 := Aside0.mk (blk_below X3_5.out b6)
          have X4_6 := Aside0.mk (blk_below X4_5.out b6)
          have X5_6 := Aside0.mk (blk_below X5_5.out b6)
          clear H0_5 H1_5 H2_5 H3_5 H4_5 B_5 X1_5 X2_5 X3_5 X4_5 X5_5 hq4_0 hq4_1 hq4_2 hq4_3 b6
          cases hv_ce : vT ce 0 with
          | true =>
            obtain ⟨hq5_0, hq5_1, hq5_2, hq5_3⟩ := box_cells X2_6.out
            go_wp2_with fail
            refine (Large_V _ 20 (by omega) H1_6.out).mono ?_
            rintro e w7 ⟨rfl, b7⟩
            have H0_7 := Aside0.mk (H0_6.out.below b7)
            have H1_7 := Aside0.mk (H1_6.out.below b7)
            have H2_7 := Aside0.mk (H2_6.out.below b7)
            have H3_7 := Aside0.mk (H3_6.out.below b7)
            have H4_7 := Aside0.mk (H4_6.out.below b7)
            have B_7 := Aside0.mk (B_6.out.trans (b7.mono B_6.out.size))
            have X1_7 := Aside0.mk (blk_below X1_6.out b7)
            have X2_7 := Aside0.mk (blk_below X2_6.out b7)
            have X3_7 := Aside0.mk (blk_below X3_6.out b7)
            have X4_7 := Aside0.mk (blk_below X4_6.out b7)
            have X5_7 := Aside0.mk (blk_below X5_6.out b7)
            clear H0_6 H1_6 H2_6 H3_6 H4_6 B_6 X1_6 X2_6 X3_6 X4_6 X5_6 hq5_0 hq5_1 hq5_2 hq5_3 b7
            cases hg7 : decide (((partsT sv).length : Int) > 20) with
            | true =>
              go_wp2_with fail
              go_ret
              exact ⟨rfl, B_7.out⟩
            | false =>
              obtain ⟨hq6_0, hq6_1, hq6_2, hq6_3⟩ := box_cells X3_7.out
              go_wp2_with fail
              refine (Large_V _ 20 (by omega) H2_7.out).mono ?_
              rintro e w8 ⟨rfl, b8⟩
              have H0_8 := Aside0.mk (H0_7.out.below b8)
              have H1_8 := Aside0.mk (H1_7.out.below b8)
              have H2_8 := Aside0.mk (H2_7.out.below b8)
              have H3_8 := Aside0.mk (H3_7.out.below b8)
              have H4_8 := Aside0.mk (H4_7.out.below b8)
              have B_8 := Aside0.mk (B_7.out.trans (b8.mono B_7.out.size))
              have X1_8 := Aside0.mk (blk_below X1_7.out b8)
              have X2_8 := Aside0.mk (blk_below X2_7.out b8)
              have X3_8 := Aside0.mk (blk_below X3_7.out b8)
              have X4_8 := Aside0.mk (blk_below X4_7.out b8)
              have X5_8 := Aside0.mk (blk_below X5_7.out b8)
              clear H0_7 H1_7 H2_7 H3_7 H4_7 B_7 X1_7 X2_7 X3_7 X4_7 X5_7 hq6_0 hq6_1 hq6_2 hq6_3 b8
              cases hg8 : decide (((partsT ce).length : Int) > 20) with
              | true =>
                go_wp2_with fail
                go_ret
                exact ⟨rfl, B_8.out⟩
              | false =>
                cases k0 : canA a sv ce with
                | false =>
                  have E1 := Aside0.mk (build_no k0)
                  obtain ⟨hq7_0, hq7_1, hq7_2, hq7_3, hq7_4, hq7_5, hq7_6⟩ := boxA_cells X1_8.out
                  obtain ⟨hq8_0, hq8_1, hq8_2, hq8_3⟩ := box_cells X2_8.out
                  obtain ⟨hq9_0, hq9_1, hq9_2, hq9_3⟩ := box_cells X3_8.out
                  go_wp2_with fail
                  refine (Build_calls (a := a) (sv := sv) (ce := ce) _ (by omega) H0_8.out H1_8.out.F H2_8.out.F (fun _ h => h) (fun _ h => h)).mono ?_
                  rw [E1.out.1, E1.out.2]
                  rintro e w9 ⟨v9, rfl, ⟨A9, c9, rfl, l9, F9⟩, b9⟩
                  have H0_9 := Aside0.mk (H0_8.out.below b9)
                  have H1_9 := Aside0.mk (H1_8.out.below b9)
                  have H2_9 := Aside0.mk (H2_8.out.below b9)
                  have H3_9 := Aside0.mk (H3_8.out.below b9)
                  have H4_9 := Aside0.mk (H4_8.out.below b9)
                  have B_9 := Aside0.mk (B_8.out.trans (b9.mono B_8.out.size))
                  have X1_9 := Aside0.mk (blk_below X1_8.out b9)
                  have X2_9 := Aside0.mk (blk_below X2_8.out b9)
                  have X3_9 := Aside0.mk (blk_below X3_8.out b9)
                  have X4_9 := Aside0.mk (blk_below X4_8.out b9)
                  have X5_9 := Aside0.mk (blk_below X5_8.out b9)
                  clear H0_8 H1_8 H2_8 H3_8 H4_8 B_8 X1_8 X2_8 X3_8 X4_8 X5_8 hq7_0 hq7_1 hq7_2 hq7_3 hq7_4 hq7_5 hq7_6 hq8_0 hq8_1 hq8_2 hq8_3 hq9_0 hq9_1 hq9_2 hq9_3 b9
                  have I9_9 := Aside0.mk ((show IsF w9 _ (.agg #[.int .i64 z29.f0, .string z29.f1, .int .i64 z29.f2, .slice A9 z29.f3.length c9]) z29 from ⟨A9, c9, rfl, l9, F9⟩).now)
                  clear l9 F9
                  obtain ⟨hq10_0, hq10_1, hq10_2, hq10_3, hq10_4, hq10_5, hq10_6⟩ := boxA_cells (blk_alloc X1_9.out (.cells #[.int .i64 z29.f0, .string z29.f1, .int .i64 z29.f2, .slice A9 z29.f3.length c9] 29))
                  go_wp2_with fail
                  refine (Valid_calls (a := a) _ (by omega) (H0_9.out.below (below_alloc (Below.refl _ _) _))).mono ?_
                  rintro e w10 ⟨rfl, b10⟩
                  obtain ⟨p10, z10, x10_0⟩ := one_box b10
                  have H0_10 := Aside0.mk (H0_9.out.below p10)
                  have H1_10 := Aside0.mk (H1_9.out.below p10)
                  have H2_10 := Aside0.mk (H2_9.out.below p10)
                  have H3_10 := Aside0.mk (H3_9.out.below p10)
                  have H4_10 := Aside0.mk (H4_9.out.below p10)
                  have B_10 := Aside0.mk (B_9.out.trans (p10.mono B_9.out.size))
                  have X1_10 := Aside0.mk (blk_below X1_9.out p10)
                  have X2_10 := Aside0.mk (blk_below X2_9.out p10)
                  have X3_10 := Aside0.mk (blk_below X3_9.out p10)
                  have X4_10 := Aside0.mk (blk_below X4_9.out p10)
                  have X5_10 := Aside0.mk (blk_below X5_9.out p10)
                  have I9_10 := Aside0.mk (I9_9.out.below p10)
                  have X6_10 := Aside0.mk x10_0
                  clear H0_9 H1_9 H2_9 H3_9 H4_9 B_9 X1_9 X2_9 X3_9 X4_9 X5_9 I9_9 hq10_0 hq10_1 hq10_2 hq10_3 hq10_4 hq10_5 hq10_6 b10 p10 z10 x10_0
                  cases hva : validA a with
                  | true =>
                    cases e2 : (sv.f0 == 2) with
                    | false =>
                      have e2' : (sv.f0 != 2) = true := by rw [bne, e2]; rfl
                      obtain ⟨hq11_0, hq11_1, hq11_2, hq11_3⟩ := box_cells X2_10.out
                      go_wp2_with fail
                      go_ret
                      exact ⟨rfl, B_10.out⟩
                    | true =>
                      have e2' : (sv.f0 != 2) = false := by rw [bne, e2]; rfl
                      cases e3 : (ce.f0 == 2) with
                      | false =>
                        have e3' : (ce.f0 != 2) = true := by rw [bne, e3]; rfl
                        obtain ⟨hq11_0, hq11_1, hq11_2, hq11_3⟩ := box_cells X2_10.out
                        obtain ⟨hq12_0, hq12_1, hq12_2, hq12_3⟩ := box_cells X3_10.out
                        go_wp2_with fail
                        go_ret
                        exact ⟨rfl, B_10.out⟩
                      | true =>
                        exfalso
                        unfold canA at k0
                        rw [hva, e2, e3] at k0
                        cases k0
                  | false =>
                    go_wp2_with fail
                    go_ret
                    exact ⟨rfl, B_10.out⟩
                | true =>
                  obtain ⟨x, x0, x1, x2, hx, gx, hnx, hvx, ha1, ha2, hot, hop, hob⟩ := back_facts a sv ce hn_a hn_sv hn_ce k0 hv_sv hv_ce
                  have E1 := Aside0.mk (build_yes k0)
                  rw [hx] at E1
                  obtain ⟨f1, z1, u1, v1, y1⟩ := hot ot
                  obtain ⟨f2, z2, u2, v2, y2⟩ := hop ot
                  obtain ⟨y, f3, z3, hy, hny, u3, v3, y3⟩ := hob b hn_b
                  have V0 := Aside0.mk (And.intro ha1 ha2)
                  have V1 := Aside0.mk (And.intro u1 v1)
                  have V2 := Aside0.mk (And.intro u2 v2)
                  have V3 := Aside0.mk (And.intro u3 v3)
                  obtain ⟨q1, hq1⟩ : ∃ q, q = (oT ot sv == 0) := ⟨_, rfl⟩
                  rw [← hq1] at y1
                  have Q1 := Aside0.mk hq1.symm
                  clear hq1
                  obtain ⟨q2, hq2⟩ : ∃ q, q = (oT ot ce == 0) := ⟨_, rfl⟩
                  rw [← hq2] at y2
                  have Q2 := Aside0.mk hq2.symm
                  clear hq2
                  obtain ⟨q3, hq3⟩ : ∃ q, q = (sameA a b) := ⟨_, rfl⟩
                  rw [← hq3] at y3
                  have Q3 := Aside0.mk hq3.symm
                  clear hq3
                  have GX := Aside0.mk gx
                  have VX := Aside0.mk hvx
                  have HY := Aside0.mk hy
                  have LX : Aside0 (x.f3.length = 3) := ⟨by rw [gx]; rfl⟩
                  clear hx gx hvx ha1 ha2 hot hop hob u1 v1 u2 v2 u3 v3 hy k0
                  have hl3 : ((x.f3.length : Int) != 3) = false := by rw [LX.out]; rfl
                  obtain ⟨hq7_0, hq7_1, hq7_2, hq7_3, hq7_4, hq7_5, hq7_6⟩ := boxA_cells X1_8.out
                  obtain ⟨hq8_0, hq8_1, hq8_2, hq8_3⟩ := box_cells X2_8.out
                  obtain ⟨hq9_0, hq9_1, hq9_2, hq9_3⟩ := box_cells X3_8.out
                  go_wp2_with fail
                  refine (Build_calls (a := a) (sv := sv) (ce := ce) _ (by omega) H0_8.out H1_8.out.F H2_8.out.F (fun _ h => h) (fun _ h => h)).mono ?_
                  rw [E1.out.1, E1.out.2]
                  rintro e w9 ⟨v9, rfl, ⟨A9, c9, rfl, l9, F9⟩, b9⟩
                  have H0_9 := Aside0.mk (H0_8.out.below b9)
                  have H1_9 := Aside0.mk (H1_8.out.below b9)
                  have H2_9 := Aside0.mk (H2_8.out.below b9)
                  have H3_9 := Aside0.mk (H3_8.out.below b9)
                  have H4_9 := Aside0.mk (H4_8.out.below b9)
                  have B_9 := Aside0.mk (B_8.out.trans (b9.mono B_8.out.size))
                  have X1_9 := Aside0.mk (blk_below X1_8.out b9)
                  have X2_9 := Aside0.mk (blk_below X2_8.out b9)
                  have X3_9 := Aside0.mk (blk_below X3_8.out b9)
                  have X4_9 := Aside0.mk (blk_below X4_8.out b9)
                  have X5_9 := Aside0.mk (blk_below X5_8.out b9)
                  clear H0_8 H1_8 H2_8 H3_8 H4_8 B_8 X1_8 X2_8 X3_8 X4_8 X5_8 hq7_0 hq7_1 hq7_2 hq7_3 hq7_4 hq7_5 hq7_6 hq8_0 hq8_1 hq8_2 hq8_3 hq9_0 hq9_1 hq9_2 hq9_3 b9
                  have I9_9 := Aside0.mk ((show IsF w9 _ (.agg #[.int .i64 x.f0, .string x.f1, .int .i64 x.f2, .slice A9 x.f3.length c9]) x from ⟨A9, c9, rfl, l9, F9⟩).now)
                  clear l9 F9
                  obtain ⟨hq10_0, hq10_1, hq10_2, hq10_3⟩ := box_cells (blk_alloc X2_9.out (.cells #[.int .i64 x.f0, .string x.f1, .int .i64 x.f2, .slice A9 x.f3.length c9] 29))
                  obtain ⟨hq11_0, hq11_1, hq11_2, hq11_3⟩ := box_cells (blk_alloc X3_9.out (.cells #[.int .i64 x.f0, .string x.f1, .int .i64 x.f2, .slice A9 x.f3.length c9] 29))
                  go_wp2_with fail
                  refine (Verify_calls (t := x) (sv := sv) (ce := ce) _ (by omega) (I9_9.out.below (below_alloc (Below.refl _ _) _)) (H1_9.out.below (below_alloc (Below.refl _ _) _)) (H2_9.out.below (below_alloc (Below.refl _ _) _))).mono ?_
                  rw [V0.out.1, V0.out.2]
                  rintro e w10 ⟨v10, rfl, ⟨A10, c10, B10, d10, rfl, l10, F10, j10, G10⟩, b10⟩
                  obtain ⟨p10, z10, x10_0⟩ := one_box b10
                  have H0_10 := Aside0.mk (H0_9.out.below p10)
                  have H1_10 := Aside0.mk (H1_9.out.below p10)
                  have H2_10 := Aside0.mk (H2_9.out.below p10)
                  have H3_10 := Aside0.mk (H3_9.out.below p10)
                  have H4_10 := Aside0.mk (H4_9.out.below p10)
                  have B_10 := Aside0.mk (B_9.out.trans (p10.mono B_9.out.size))
                  have X1_10 := Aside0.mk (blk_below X1_9.out p10)
                  have X2_10 := Aside0.mk (blk_below X2_9.out p10)
                  have X3_10 := Aside0.mk (blk_below X3_9.out p10)
                  have X4_10 := Aside0.mk (blk_below X4_9.out p10)
                  have X5_10 := Aside0.mk (blk_below X5_9.out p10)
                  have I9_10 := Aside0.mk (I9_9.out.below p10)
                  have X6_10 := Aside0.mk x10_0
                  clear H0_9 H1_9 H2_9 H3_9 H4_9 B_9 X1_9 X2_9 X3_9 X4_9 X5_9 I9_9 hq10_0 hq10_1 hq10_2 hq10_3 hq11_0 hq11_1 hq11_2 hq11_3 b10 p10 z10 x10_0
                  have I10_10 := Aside0.mk ((show IsAF w10 _ (.agg #[.string a.u, .slice A10 a.g.length c10, .int .i64 a.o, .slice B10 a.tr.length d10, .string a.s, .bool a.fw, .int .i64 a.tm]) a from ⟨A10, c10, B10, d10, rfl, l10, F10, j10, G10⟩).now)
                  clear l10 F10 j10 G10
                  obtain ⟨hq12_0, hq12_1, hq12_2, hq12_3, hq12_4, hq12_5, hq12_6⟩ := boxA_cells (blk_alloc X1_10.out (.cells #[.string a.u, .slice A10 a.g.length c10, .int .i64 a.o, .slice B10 a.tr.length d10, .string a.s, .bool a.fw, .int .i64 a.tm] 25))
                  go_wp2_with fail
                  refine (Same_A (a := a) (b := a) _ (by omega) (H0_10.out.below (below_alloc (Below.refl _ _) _)) (I10_10.out.below (below_alloc (Below.refl _ _) _))).mono ?_
                  rw [sameA_self a]
                  rintro e w11 ⟨rfl, b11⟩
                  obtain ⟨p11, z11, x11_0⟩ := one_box b11
                  have H0_11 := Aside0.mk (H0_10.out.below p11)
                  have H1_11 := Aside0.mk (H1_10.out.below p11)
                  have H2_11 := Aside0.mk (H2_10.out.below p11)
                  have H3_11 := Aside0.mk (H3_10.out.below p11)
                  have H4_11 := Aside0.mk (H4_10.out.below p11)
                  have B_11 := Aside0.mk (B_10.out.trans (p11.mono B_10.out.size))
                  have X1_11 := Aside0.mk (blk_below X1_10.out p11)
                  have X2_11 := Aside0.mk (blk_below X2_10.out p11)
                  have X3_11 := Aside0.mk (blk_below X3_10.out p11)
                  have X4_11 := Aside0.mk (blk_below X4_10.out p11)
                  have X5_11 := Aside0.mk (blk_below X5_10.out p11)
                  have I9_11 := Aside0.mk (I9_10.out.below p11)
                  have X6_11 := Aside0.mk (blk_below X6_10.out p11)
                  have I10_11 := Aside0.mk (I10_10.out.below p11)
                  have X7_11 := Aside0.mk x11_0
                  clear H0_10 H1_10 H2_10 H3_10 H4_10 B_10 X1_10 X2_10 X3_10 X4_10 X5_10 I9_10 X6_10 I10_10 hq12_0 hq12_1 hq12_2 hq12_3 hq12_4 hq12_5 hq12_6 b11 p11 z11 x11_0
                  obtain ⟨hq13_0, hq13_1, hq13_2, hq13_3⟩ := box_cells X6_11.out
                  go_wp2_with fail
                  refine (Valid_V (t := x) _ (by omega) I9_11.out).mono ?_
                  rw [VX.out]
                  rintro e w12 ⟨rfl, b12⟩
                  have H0_12 := Aside0.mk (H0_11.out.below b12)
                  have H1_12 := Aside0.mk (H1_11.out.below b12)
                  have H2_12 := Aside0.mk (H2_11.out.below b12)
                  have H3_12 := Aside0.mk (H3_11.out.below b12)
                  have H4_12 := Aside0.mk (H4_11.out.below b12)
                  have B_12 := Aside0.mk (B_11.out.trans (b12.mono B_11.out.size))
                  have X1_12 := Aside0.mk (blk_below X1_11.out b12)
                  have X2_12 := Aside0.mk (blk_below X2_11.out b12)
                  have X3_12 := Aside0.mk (blk_below X3_11.out b12)
                  have X4_12 := Aside0.mk (blk_below X4_11.out b12)
                  have X5_12 := Aside0.mk (blk_below X5_11.out b12)
                  have I9_12 := Aside0.mk (I9_11.out.below b12)
                  have X6_12 := Aside0.mk (blk_below X6_11.out b12)
                  have I10_12 := Aside0.mk (I10_11.out.below b12)
                  have X7_12 := Aside0.mk (blk_below X7_11.out b12)
                  clear H0_11 H1_11 H2_11 H3_11 H4_11 B_11 X1_11 X2_11 X3_11 X4_11 X5_11 I9_11 X6_11 I10_11 X7_11 hq13_0 hq13_1 hq13_2 hq13_3 b12
                  obtain ⟨hq14_0, hq14_1, hq14_2, hq14_3⟩ := box_cells X6_12.out
                  obtain ⟨hq15_0, hq15_1, hq15_2, hq15_3⟩ := box_cells X4_12.out
                  obtain ⟨hq16_0, hq16_1, hq16_2, hq16_3⟩ := box_cells X3_12.out
                  go_wp2_with fail
                  refine (Verify_calls (t := x) (sv := ot) (ce := ce) _ (by omega) I9_12.out H3_12.out H2_12.out).mono ?_
                  rw [V1.out.1, V1.out.2]
                  rintro e w13 ⟨v13, rfl, ⟨A13, c13, B13, d13, rfl, l13, F13, j13, G13⟩, b13⟩
                  have H0_13 := Aside0.mk (H0_12.out.below b13)
                  have H1_13 := Aside0.mk (H1_12.out.below b13)
                  have H2_13 := Aside0.mk (H2_12.out.below b13)
                  have H3_13 := Aside0.mk (H3_12.out.below b13)
                  have H4_13 := Aside0.mk (H4_12.out.below b13)
                  have B_13 := Aside0.mk (B_12.out.trans (b13.mono B_12.out.size))
                  have X1_13 := Aside0.mk (blk_below X1_12.out b13)
                  have X2_13 := Aside0.mk (blk_below X2_12.out b13)
                  have X3_13 := Aside0.mk (blk_below X3_12.out b13)
                  have X4_13 := Aside0.mk (blk_below X4_12.out b13)
                  have X5_13 := Aside0.mk (blk_below X5_12.out b13)
                  have I9_13 := Aside0.mk (I9_12.out.below b13)
                  have X6_13 := Aside0.mk (blk_below X6_12.out b13)
                  have I10_13 := Aside0.mk (I10_12.out.below b13)
                  have X7_13 := Aside0.mk (blk_below X7_12.out b13)
                  clear H0_12 H1_12 H2_12 H3_12 H4_12 B_12 X1_12 X2_12 X3_12 X4_12 X5_12 I9_12 X6_12 I10_12 X7_12 hq14_0 hq14_1 hq14_2 hq14_3 hq15_0 hq15_1 hq15_2 hq15_3 hq16_0 hq16_1 hq16_2 hq16_3 b13
                  have I13_13 := Aside0.mk ((show IsAF w13 _ (.agg #[.string f1.u, .slice A13 f1.g.length c13, .int .i64 f1.o, .slice B13 f1.tr.length d13, .string f1.s, .bool f1.fw, .int .i64 f1.tm]) f1 from ⟨A13, c13, B13, d13, rfl, l13, F13, j13, G13⟩).now)
                  clear l13 F13 j13 G13
                  obtain ⟨hq17_0, hq17_1, hq17_2, hq17_3⟩ := box_cells (blk_alloc X6_13.out (.cells #[.string f1.u, .slice A13 f1.g.length c13, .int .i64 f1.o, .slice B13 f1.tr.length d13, .string f1.s, .bool f1.fw, .int .i64 f1.tm] 25))
                  obtain ⟨hq18_0, hq18_1, hq18_2, hq18_3⟩ := box_cells (blk_alloc X2_13.out (.cells #[.string f1.u, .slice A13 f1.g.length c13, .int .i64 f1.o, .slice B13 f1.tr.length d13, .string f1.s, .bool f1.fw, .int .i64 f1.tm] 25))
                  obtain ⟨hq19_0, hq19_1, hq19_2, hq19_3⟩ := box_cells (blk_alloc X4_13.out (.cells #[.string f1.u, .slice A13 f1.g.length c13, .int .i64 f1.o, .slice B13 f1.tr.length d13, .string f1.s, .bool f1.fw, .int .i64 f1.tm] 25))
                  go_wp2_with fail
                  refine (Verify_calls (t := x) (sv := sv) (ce := ot) _ (by omega) (I9_13.out.below (below_alloc (Below.refl _ _) _)) (H1_13.out.below (below_alloc (Below.refl _ _) _)) (H3_13.out.below (below_alloc (Below.refl _ _) _))).mono ?_
                  rw [V2.out.1, V2.out.2]
                  rintro e w14 ⟨v14, rfl, ⟨A14, c14, B14, d14, rfl, l14, F14, j14, G14⟩, b14⟩
                  obtain ⟨p14, z14, x14_0⟩ := one_box b14
                  have H0_14 := Aside0.mk (H0_13.out.below p14)
                  have H1_14 := Aside0.mk (H1_13.out.below p14)
                  have H2_14 := Aside0.mk (H2_13.out.below p14)
                  have H3_14 := Aside0.mk (H3_13.out.below p14)
                  have H4_14 := Aside0.mk (H4_13.out.below p14)
                  have B_14 := Aside0.mk (B_13.out.trans (p14.mono B_13.out.size))
                  have X1_14 := Aside0.mk (blk_below X1_13.out p14)
                  have X2_14 := Aside0.mk (blk_below X2_13.out p14)
                  have X3_14 := Aside0.mk (blk_below X3_13.out p14)
                  have X4_14 := Aside0.mk (blk_below X4_13.out p14)
                  have X5_14 := Aside0.mk (blk_below X5_13.out p14)
                  have I9_14 := Aside0.mk (I9_13.out.below p14)
                  have X6_14 := Aside0.mk (blk_below X6_13.out p14)
                  have I10_14 := Aside0.mk (I10_13.out.below p14)
                  have X7_14 := Aside0.mk (blk_below X7_13.out p14)
                  have I13_14 := Aside0.mk (I13_13.out.below p14)
                  have X8_14 := Aside0.mk x14_0
                  clear H0_13 H1_13 H2_13 H3_13 H4_13 B_13 X1_13 X2_13 X3_13 X4_13 X5_13 I9_13 X6_13 I10_13 X7_13 I13_13 hq17_0 hq17_1 hq17_2 hq17_3 hq18_0 hq18_1 hq18_2 hq18_3 hq19_0 hq19_1 hq19_2 hq19_3 b14 p14 z14 x14_0
                  have I14_14 := Aside0.mk ((show IsAF w14 _ (.agg #[.string f2.u, .slice A14 f2.g.length c14, .int .i64 f2.o, .slice B14 f2.tr.length d14, .string f2.s, .bool f2.fw, .int .i64 f2.tm]) f2 from ⟨A14, c14, B14, d14, rfl, l14, F14, j14, G14⟩).now)
                  clear l14 F14 j14 G14
                  obtain ⟨hq20_0, hq20_1, hq20_2, hq20_3⟩ := box_cells (blk_alloc X4_14.out (.cells #[.string f2.u, .slice A14 f2.g.length c14, .int .i64 f2.o, .slice B14 f2.tr.length d14, .string f2.s, .bool f2.fw, .int .i64 f2.tm] 25))
                  obtain ⟨hq21_0, hq21_1, hq21_2, hq21_3⟩ := box_cells (blk_alloc X2_14.out (.cells #[.string f2.u, .slice A14 f2.g.length c14, .int .i64 f2.o, .slice B14 f2.tr.length d14, .string f2.s, .bool f2.fw, .int .i64 f2.tm] 25))
                  go_wp2_with fail
                  refine (Same_V (t := ot) (s := sv) _ (H3_14.out.below (below_alloc (Below.refl _ _) _)) (H1_14.out.below (below_alloc (Below.refl _ _) _))).mono ?_
                  rw [Q1.out]
                  rintro e w15 ⟨rfl, b15⟩
                  obtain ⟨p15, z15, x15_0⟩ := one_box b15
                  have H0_15 := Aside0.mk (H0_14.out.below p15)
                  have H1_15 := Aside0.mk (H1_14.out.below p15)
                  have H2_15 := Aside0.mk (H2_14.out.below p15)
                  have H3_15 := Aside0.mk (H3_14.out.below p15)
                  have H4_15 := Aside0.mk (H4_14.out.below p15)
                  have B_15 := Aside0.mk (B_14.out.trans (p15.mono B_14.out.size))
                  have X1_15 := Aside0.mk (blk_below X1_14.out p15)
                  have X2_15 := Aside0.mk (blk_below X2_14.out p15)
                  have X3_15 := Aside0.mk (blk_below X3_14.out p15)
                  have X4_15 := Aside0.mk (blk_below X4_14.out p15)
                  have X5_15 := Aside0.mk (blk_below X5_14.out p15)
                  have I9_15 := Aside0.mk (I9_14.out.below p15)
                  have X6_15 := Aside0.mk (blk_below X6_14.out p15)
                  have I10_15 := Aside0.mk (I10_14.out.below p15)
                  have X7_15 := Aside0.mk (blk_below X7_14.out p15)
                  have I13_15 := Aside0.mk (I13_14.out.below p15)
                  have X8_15 := Aside0.mk (blk_below X8_14.out p15)
                  have I14_15 := Aside0.mk (I14_14.out.below p15)
                  have X9_15 := Aside0.mk x15_0
                  clear H0_14 H1_14 H2_14 H3_14 H4_14 B_14 X1_14 X2_14 X3_14 X4_14 X5_14 I9_14 X6_14 I10_14 X7_14 I13_14 X8_14 I14_14 hq20_0 hq20_1 hq20_2 hq20_3 hq21_0 hq21_1 hq21_2 hq21_3 b15 p15 z15 x15_0
                  obtain ⟨hq22_0, hq22_1, hq22_2, hq22_3⟩ := box_cells X4_15.out
                  obtain ⟨hq23_0, hq23_1, hq23_2, hq23_3⟩ := box_cells X3_15.out
                  go_wp2_with fail
                  refine (Same_V (t := ot) (s := ce) _ H3_15.out H2_15.out).mono ?_
                  rw [Q2.out]
                  rintro e w16 ⟨rfl, b16⟩
                  have H0_16 := Aside0.mk (H0_15.out.below b16)
                  have H1_16 := Aside0.mk (H1_15.out.below b16)
                  have H2_16 := Aside0.mk (H2_15.out.below b16)
                  have H3_16 := Aside0.mk (H3_15.out.below b16)
                  have H4_16 := Aside0.mk (H4_15.out.below b16)
                  have B_16 := Aside0.mk (B_15.out.trans (b16.mono B_15.out.size))
                  have X1_16 := Aside0.mk (blk_below X1_15.out b16)
                  have X2_16 := Aside0.mk (blk_below X2_15.out b16)
                  have X3_16 := Aside0.mk (blk_below X3_15.out b16)
                  have X4_16 := Aside0.mk (blk_below X4_15.out b16)
                  have X5_16 := Aside0.mk (blk_below X5_15.out b16)
                  have I9_16 := Aside0.mk (I9_15.out.below b16)
                  have X6_16 := Aside0.mk (blk_below X6_15.out b16)
                  have I10_16 := Aside0.mk (I10_15.out.below b16)
                  have X7_16 := Aside0.mk (blk_below X7_15.out b16)
                  have I13_16 := Aside0.mk (I13_15.out.below b16)
                  have X8_16 := Aside0.mk (blk_below X8_15.out b16)
                  have I14_16 := Aside0.mk (I14_15.out.below b16)
                  have X9_16 := Aside0.mk (blk_below X9_15.out b16)
                  clear H0_15 H1_15 H2_15 H3_15 H4_15 B_15 X1_15 X2_15 X3_15 X4_15 X5_15 I9_15 X6_15 I10_15 X7_15 I13_15 X8_15 I14_15 X9_15 hq22_0 hq22_1 hq22_2 hq22_3 hq23_0 hq23_1 hq23_2 hq23_3 b16
                  go_upto_region 16 with fail
                  go_cut [20] from 134 to 145 (fun s20 wx => ∃ (gY : Nat) (AY : Option Addr) (cY : Nat), s20 = .pointer (some ⟨gY, 0, none⟩) ∧ Aside0 (Below w0.heap.size w0 wx) ∧ Aside0 (wx.heap[w0.heap.size]? = some (.cells #[.string a.u, .slice A0 a.g.length c0, .int .i64 a.o, .slice B0 a.tr.length d0, .string a.s, .bool a.fw, .int .i64 a.tm] 25 (0, 0))) ∧ Aside0 (wx.heap[w0.heap.size + 1]? = some (.cells #[.int .i64 sv.f0, .string sv.f1, .int .i64 sv.f2, .slice As sv.f3.length cs] 29 (0, 0))) ∧ Aside0 (wx.heap[w0.heap.size + 2]? = some (.cells #[.int .i64 ce.f0, .string ce.f1, .int .i64 ce.f2, .slice Ac ce.f3.length cc] 29 (0, 0))) ∧ Aside0 (wx.heap[w0.heap.size + 4]? = some (.cells #[.string b.u, .slice A1 b.g.length c1, .int .i64 b.o, .slice B1 b.tr.length d1, .string b.s, .bool b.fw, .int .i64 b.tm] 25 (0, 0))) ∧ Aside0 (wx.heap[gY]? = some (.cells #[.int .i64 y.f0, .string y.f1, .int .i64 y.f2, .slice AY y.f3.length cY] 29 (0, 0))) ∧ Aside0 (IsT wx (.agg #[.int .i64 y.f0, .string y.f1, .int .i64 y.f2, .slice AY y.f3.length cY]) y))
                  case first =>
                    obtain ⟨ad1, AX1, cX1, eX1, m10, m11, m12, m13, IX1'⟩ := part1 I9_16.out GX.out
                    have IX1 := Aside0.mk IX1'
                    clear IX1'
                    obtain ⟨ad2, AX2, cX2, eX2, m20, m21, m22, m23, IX2'⟩ := part2 I9_16.out GX.out
                    have IX2 := Aside0.mk IX2'
                    clear IX2'
                    rw [eX1] at eX2
                    obtain rfl : ad1 = ad2 := Option.some.inj eX2
                    obtain ⟨t0, t1, t2, t3⟩ := box_cells X6_16.out
                    rw [LX.out, eX1] at t3
                    clear eX2 eX1
                    obtain ⟨hb0, hb1, hb2, hb3, hb4, hb5, hb6⟩ := boxA_cells X5_16.out
                    have had : ad1.block < w16.heap.size := World.block_lt_of_cell? _ (⟨ad1.block, ad1.off + 4, none⟩ : Addr) m10
                    have htl := blk_lt X6_16.out
                    have hbl := blk_lt X5_16.out
                    have hkl0 := blk_lt X1_16.out
                    have hkl1 := blk_lt X2_16.out
                    have hkl2 := blk_lt X3_16.out
                    have hkl3 := blk_lt X5_16.out
                    have HXW : Aside0 (∀ W, Below w16.heap.size w16 W → W.cell? ⟨w9.heap.size, 0, none⟩ = some (.int .i64 x.f0) ∧ W.cell? ⟨w9.heap.size, 1, none⟩ = some (.string x.f1) ∧ W.cell? ⟨w9.heap.size, 2, none⟩ = some (.int .i64 x.f2) ∧ W.cell? ⟨w9.heap.size, 3, none⟩ = some (.slice (some ad1) 3 c9) ∧ W.cell? ⟨ad1.block, ad1.off + 4, none⟩ = some (.int .i64 x1.f0) ∧ W.cell? ⟨ad1.block, ad1.off + 4 + 1, none⟩ = some (.string x1.f1) ∧ W.cell? ⟨ad1.block, ad1.off + 4 + 2, none⟩ = some (.int .i64 x1.f2) ∧ W.cell? ⟨ad1.block, ad1.off + 4 + 3, none⟩ = some (.slice AX1 x1.f3.length cX1) ∧ W.cell? ⟨ad1.block, ad1.off + 8, none⟩ = some (.int .i64 x2.f0) ∧ W.cell? ⟨ad1.block, ad1.off + 8 + 1, none⟩ = some (.string x2.f1) ∧ W.cell? ⟨ad1.block, ad1.off + 8 + 2, none⟩ = some (.int .i64 x2.f2) ∧ W.cell? ⟨ad1.block, ad1.off + 8 + 3, none⟩ = some (.slice AX2 x2.f3.length cX2) ∧ W.cell? ⟨w0.heap.size + 4, 0, none⟩ = some (.string b.u) ∧ W.cell? ⟨w0.heap.size + 4, 1, none⟩ = some (.slice A1 b.g.length c1) ∧ W.cell? ⟨w0.heap.size + 4, 2, none⟩ = some (.int .i64 b.o) ∧ W.cell? ⟨w0.heap.size + 4, 3, none⟩ = some (.slice B1 b.tr.length d1) ∧ W.cell? ⟨w0.heap.size + 4, 4, none⟩ = some (.string b.s) ∧ W.cell? ⟨w0.heap.size + 4, 5, none⟩ = some (.bool b.fw) ∧ W.cell? ⟨w0.heap.size + 4, 6, none⟩ = some (.int .i64 b.tm)) := ⟨fun W hW => by go_split_ands; exact ⟨pw_cell_below hW (by assumption), pw_cell_below hW (by assumption), pw_cell_below hW (by assumption), pw_cell_below hW (by assumption), pw_cell_below hW (by assumption), pw_cell_below hW (by assumption), pw_cell_below hW (by assumption), pw_cell_below hW (by assumption), pw_cell_below hW (by assumption), pw_cell_below hW (by assumption), pw_cell_below hW (by assumption), pw_cell_below hW (by assumption), pw_cell_below hW (by assumption), pw_cell_below hW (by assumption), pw_cell_below hW (by assumption), pw_cell_below hW (by assumption), pw_cell_below hW (by assumption), pw_cell_below hW (by assumption), pw_cell_below hW (by assumption)⟩⟩
                    have HWc : Aside0 (Below w16.heap.size w16 w16) := ⟨Below.refl _ _⟩
                    go_region_held3 (fun w' => w'.cell? ⟨w9.heap.size, 0, none⟩ = some (.int .i64 x.f0) ∧ w'.cell? ⟨w9.heap.size, 1, none⟩ = some (.string x.f1) ∧ w'.cell? ⟨w9.heap.size, 2, none⟩ = some (.int .i64 x.f2) ∧ w'.cell? ⟨w9.heap.size, 3, none⟩ = some (.slice (some ad1) 3 c9) ∧ w'.cell? ⟨ad1.block, ad1.off + 4, none⟩ = some (.int .i64 x1.f0) ∧ w'.cell? ⟨ad1.block, ad1.off + 4 + 1, none⟩ = some (.string x1.f1) ∧ w'.cell? ⟨ad1.block, ad1.off + 4 + 2, none⟩ = some (.int .i64 x1.f2) ∧ w'.cell? ⟨ad1.block, ad1.off + 4 + 3, none⟩ = some (.slice AX1 x1.f3.length cX1) ∧ w'.cell? ⟨ad1.block, ad1.off + 8, none⟩ = some (.int .i64 x2.f0) ∧ w'.cell? ⟨ad1.block, ad1.off + 8 + 1, none⟩ = some (.string x2.f1) ∧ w'.cell? ⟨ad1.block, ad1.off + 8 + 2, none⟩ = some (.int .i64 x2.f2) ∧ w'.cell? ⟨ad1.block, ad1.off + 8 + 3, none⟩ = some (.slice AX2 x2.f3.length cX2) ∧ w'.cell? ⟨w0.heap.size + 4, 0, none⟩ = some (.string b.u) ∧ w'.cell? ⟨w0.heap.size + 4, 1, none⟩ = some (.slice A1 b.g.length c1) ∧ w'.cell? ⟨w0.heap.size + 4, 2, none⟩ = some (.int .i64 b.o) ∧ w'.cell? ⟨w0.heap.size + 4, 3, none⟩ = some (.slice B1 b.tr.length d1) ∧ w'.cell? ⟨w0.heap.size + 4, 4, none⟩ = some (.string b.s) ∧ w'.cell? ⟨w0.heap.size + 4, 5, none⟩ = some (.bool b.fw) ∧ w'.cell? ⟨w0.heap.size + 4, 6, none⟩ = some (.int .i64 b.tm))
                      (first | (with_reducible (go_split_ands; exact ⟨pw_cell_below hb (by assumption), pw_cell_below hb (by assumption), pw_cell_below hb (by assumption), pw_cell_below hb (by assumption), pw_cell_below hb (by assumption), pw_cell_below hb (by assumption), pw_cell_below hb (by assumption), pw_cell_below hb (by assumption), pw_cell_below hb (by assumption), pw_cell_below hb (by assumption), pw_cell_below hb (by assumption), pw_cell_below hb (by assumption), pw_cell_below hb (by assumption), pw_cell_below hb (by assumption), pw_cell_below hb (by assumption), pw_cell_below hb (by assumption), pw_cell_below hb (by assumption), pw_cell_below hb (by assumption), pw_cell_below hb (by assumption)⟩)) | (with_reducible (go_split_ands; exact ⟨pw_cell_below (below_alloc (Below.refl _ _) _) (by assumption), pw_cell_below (below_alloc (Below.refl _ _) _) (by assumption), pw_cell_below (below_alloc (Below.refl _ _) _) (by assumption), pw_cell_below (below_alloc (Below.refl _ _) _) (by assumption), pw_cell_below (below_alloc (Below.refl _ _) _) (by assumption), pw_cell_below (below_alloc (Below.refl _ _) _) (by assumption), pw_cell_below (below_alloc (Below.refl _ _) _) (by assumption), pw_cell_below (below_alloc (Below.refl _ _) _) (by assumption), pw_cell_below (below_alloc (Below.refl _ _) _) (by assumption), pw_cell_below (below_alloc (Below.refl _ _) _) (by assumption), pw_cell_below (below_alloc (Below.refl _ _) _) (by assumption), pw_cell_below (below_alloc (Below.refl _ _) _) (by assumption), pw_cell_below (below_alloc (Below.refl _ _) _) (by assumption), pw_cell_below (below_alloc (Below.refl _ _) _) (by assumption), pw_cell_below (below_alloc (Below.refl _ _) _) (by assumption), pw_cell_below (below_alloc (Below.refl _ _) _) (by assumption), pw_cell_below (below_alloc (Below.refl _ _) _) (by assumption), pw_cell_below (below_alloc (Below.refl _ _) _) (by assumption), pw_cell_below (below_alloc (Below.refl _ _) _) (by assumption)⟩)) | (with_reducible (go_split_ands; refine ⟨?_, ?_, ?_, ?_, ?_, ?_, ?_, ?_, ?_, ?_, ?_, ?_, ?_, ?_, ?_, ?_, ?_, ?_, ?_⟩ <;> assumption)) | (with_reducible exact HXA.out _) | (with_reducible (go_split_ands; refine ⟨?_, ?_, ?_, ?_, ?_, ?_, ?_, ?_, ?_, ?_, ?_, ?_, ?_, ?_, ?_, ?_, ?_, ?_, ?_⟩ <;> exact cell_set4 (by omega) (by assumption))) | (go_keep; done))
                      (first
                        | (go_simp; go_at_call 13; refine (Data_M (a := b) _ (by omega) (H4_16.out.below (by repeat (first | exact HWc.out | apply below_alloc | apply pw_below_drewN | apply below_drew)))).mono ?_; rintro e wzD ⟨vD, mD, rfl, hmD, hz, hb⟩; (try (have bq := blk_below BQ.out hb; clear BQ; have BQ := Aside0.mk bq; clear bq)); (try (have bq := (one_box (w := w16) (o := (.cells #[.int .i64 0, .string ⟨#[]⟩, .int .i64 0, .slice none 0 0] 29)) hb).2.2; have BQ := Aside0.mk bq; clear bq)); (try (have bq := (one_box (w := w16) (o := (.cells #[.int .i64 0, .string ⟨#[]⟩, .int .i64 0, .slice none 0 0] 29)) ((below_drew (Below.refl (w16.alloc ((.cells #[.int .i64 0, .string ⟨#[]⟩, .int .i64 0, .slice none 0 0] 29))).heap.size (w16.alloc ((.cells #[.int .i64 0, .string ⟨#[]⟩, .int .i64 0, .slice none 0 0] 29))))).trans hb)).2.2; have BQ := Aside0.mk bq; clear bq)); (try simp at hmD); have hszD := hb.size; have HWn := Aside0.mk (below_step (by repeat (first | exact HWc.out | apply below_alloc | apply pw_below_drewN | apply below_drew)) hb); clear HWc; have HWc := HWn; clear HWn; have hszC := HWc.out.size; obtain ⟨AD, cD, hvD, lD, FD⟩ := hz; subst hvD; have ID := Aside0.mk (show IsF wzD (fun k => mD ≤ k ∧ k < wzD.heap.size) _ (dataA b) from ⟨AD, cD, rfl, lD, FD⟩); clear lD FD; have IL := Aside0.mk (show AllF wzD (fun k => k < w16.heap.size ∨ (mD ≤ k ∧ k < wzD.heap.size)) [(.agg #[.int .i64 (dataA b).f0, .string (dataA b).f1, .int .i64 (dataA b).f2, .slice AD (dataA b).f3.length cD]), (.agg #[.int .i64 x1.f0, .string x1.f1, .int .i64 x1.f2, .slice AX1 x1.f3.length cX1]), (.agg #[.int .i64 x2.f0, .string x2.f1, .int .i64 x2.f2, .slice AX2 x2.f3.length cX2])] [dataA b, x1, x2] from ⟨ID.out.mono (fun k hk => .inr hk), (IX1.out.F.mono (fun k hk => .inl hk)).below HWc.out, (IX2.out.F.mono (fun k hk => .inl hk)).below HWc.out, trivial⟩))
                        | (go_simp; go_at_call 24; refine (List_M wzD (fun k => k < w16.heap.size ∨ (mD ≤ k ∧ k < wzD.heap.size)) _ _ [dataA b, x1, x2] _ ?hn ?hb0 ?hL).mono ?_; (case hn => simp); (case hb0 => exact (by repeat (first | exact Below.refl _ _ | apply below_alloc | apply pw_below_drewN | apply below_drew))); (case hL => first | exact lits_row2 wzD _ _ _ _ IL.out (by simp) | (have hrw := lits_row2 wzD (wzD.alloc (.cells #[.int .i64 0, .string ⟨#[]⟩, .int .i64 0, .slice none 0 0] 29)) _ _ _ IL.out (by simp); simp only [World.size_alloc] at hrw; exact hrw) | exact ReadsRow.imp_ (lits_row2 wzD _ _ _ _ IL.out (by simp)) (below_alloc (Below.refl _ _) _) (fun _ _ h => h)); rw [HY.out]; rintro e wz ⟨vz, mL, rfl, hmL, hz, hb⟩; (try (have bq := blk_below BQ.out hb; clear BQ; have BQ := Aside0.mk bq; clear bq)); (try (have bq := (one_box (w := wzD) (o := (.cells #[.int .i64 0, .string ⟨#[]⟩, .int .i64 0, .slice none 0 0] 29)) hb).2.2; have BQ := Aside0.mk bq; clear bq)); (try (have bq := (one_box (w := wzD) (o := (.cells #[.int .i64 0, .string ⟨#[]⟩, .int .i64 0, .slice none 0 0] 29)) ((below_drew (Below.refl (wzD.alloc ((.cells #[.int .i64 0, .string ⟨#[]⟩, .int .i64 0, .slice none 0 0] 29))).heap.size (wzD.alloc ((.cells #[.int .i64 0, .string ⟨#[]⟩, .int .i64 0, .slice none 0 0] 29))))).trans hb)).2.2; have BQ := Aside0.mk bq; clear bq)); (try (have bq := blk_below BQ.out (one_box (w := wzD) (o := (.cells #[.int .i64 (dataA b).f0, .string (dataA b).f1, .int .i64 (dataA b).f2, .slice AD (dataA b).f3.length cD, .int .i64 x1.f0, .string x1.f1, .int .i64 x1.f2, .slice AX1 x1.f3.length cX1, .int .i64 x2.f0, .string x2.f1, .int .i64 x2.f2, .slice AX2 x2.f3.length cX2] 29)) hb).1; clear BQ; have BQ := Aside0.mk bq; clear bq)); (try (have bq := (two_boxes (w := wzD) (o := (.cells #[.int .i64 (dataA b).f0, .string (dataA b).f1, .int .i64 (dataA b).f2, .slice AD (dataA b).f3.length cD, .int .i64 x1.f0, .string x1.f1, .int .i64 x1.f2, .slice AX1 x1.f3.length cX1, .int .i64 x2.f0, .string x2.f1, .int .i64 x2.f2, .slice AX2 x2.f3.length cX2] 29)) (o2 := (.cells #[.int .i64 0, .string ⟨#[]⟩, .int .i64 0, .slice none 0 0] 29)) hb).2.2.2; have BQ := Aside0.mk bq; clear bq)); (try (have bq := (two_boxes (w := wzD) (o := (.cells #[.int .i64 0, .string ⟨#[]⟩, .int .i64 0, .slice none 0 0] 29)) (o2 := (.cells #[.int .i64 (dataA b).f0, .string (dataA b).f1, .int .i64 (dataA b).f2, .slice AD (dataA b).f3.length cD, .int .i64 x1.f0, .string x1.f1, .int .i64 x1.f2, .slice AX1 x1.f3.length cX1, .int .i64 x2.f0, .string x2.f1, .int .i64 x2.f2, .slice AX2 x2.f3.length cX2] 29)) hb).2.2.1; have BQ := Aside0.mk bq; clear bq)); (try simp only [World.size_alloc] at hmL); have hsz := hb.size; have HWn := Aside0.mk (below_step (by repeat (first | exact HWc.out | apply below_alloc | apply pw_below_drewN | apply below_drew)) hb); clear HWc; have HWc := HWn; clear HWn; obtain ⟨AY, cY, hv, lY, FY⟩ := hz; subst hv; have IY := Aside0.mk (show IsF wz (fun k => (k < w16.heap.size ∨ (mD ≤ k ∧ k < wzD.heap.size)) ∨ mL ≤ k) _ y from ⟨AY, cY, rfl, lY, FY⟩); clear lY FY; have HXA := Aside0.mk (fun o => HXW.out (wz.alloc o) (below_alloc HWc.out _)); (try (obtain ⟨hq0, hq1, hq2, hq3⟩ := box_cells BQ.out; have hqf0 := blk_frozen BQ.out 0; have hqf1 := blk_frozen BQ.out 1; have hqf2 := blk_frozen BQ.out 2; have hqf3 := blk_frozen BQ.out 3))))
                    all_goals go_wp2_with fail
                    all_goals go_meet
                    all_goals first
                      | (refine ⟨wz.heap.size, AY, cY, rfl, ?_, ?_, ?_, ?_, ?_, ?_, ?_⟩; exact ⟨B_16.out.trans ((HWc.out.trans ((below_alloc (Below.refl _ _) _).mono HWc.out.size)).mono B_16.out.size)⟩; exact ⟨blk_alloc (blk_below X1_16.out HWc.out) _⟩; exact ⟨blk_alloc (blk_below X2_16.out HWc.out) _⟩; exact ⟨blk_alloc (blk_below X3_16.out HWc.out) _⟩; exact ⟨blk_alloc (blk_below X5_16.out HWc.out) _⟩; exact ⟨box_new wz _⟩; exact ⟨(IY.out.below (below_alloc (Below.refl _ _) _)).now⟩)
                      | (refine ⟨_, AY, cY, rfl, ?_, ?_, ?_, ?_, ?_, ?_, ?_⟩; exact ⟨put4_below (B_16.out.trans (HWc.out.mono B_16.out.size)) (by have := B_16.out.size; omega)⟩; exact ⟨(put4_other (by omega)).trans (blk_below X1_16.out HWc.out)⟩; exact ⟨(put4_other (by omega)).trans (blk_below X2_16.out HWc.out)⟩; exact ⟨(put4_other (by omega)).trans (blk_below X3_16.out HWc.out)⟩; exact ⟨(put4_other (by omega)).trans (blk_below X5_16.out HWc.out)⟩; exact ⟨put4_block BQ.out⟩; exact ⟨(IY.out.step (fun k hk hlt => put4_other (by have hk' := hk; (try dsimp only at hk'); omega))).now⟩)
                  case rest =>
                    obtain ⟨gY, AY, cY, rfl, BY, YX1, YX2, YX3, YX5, XY, IY⟩ := hcut
                    have X1_17 := YX1
                    have X2_17 := YX2
                    have X3_17 := YX3
                    have X5_17 := YX5
                    have B_17 := BY
                    have X99_17 := XY
                    have I99_17 := IY
                    have H0_17 := Aside0.mk (h0.out.below BY.out)
                    have H1_17 := Aside0.mk (h1.out.below BY.out)
                    have H2_17 := Aside0.mk (h2.out.below BY.out)
                    have H4_17 := Aside0.mk (h4.out.below BY.out)
                    clear H0_16 H1_16 H2_16 H3_16 H4_16 B_16 X1_16 X2_16 X3_16 X4_16 X5_16 I9_16 X6_16 I10_16 X7_16 I13_16 X8_16 I14_16 X9_16 BY XY IY YX1 YX2 YX3 YX5
                    obtain ⟨hq24_0, hq24_1, hq24_2, hq24_3⟩ := box_cells X99_17.out
                    obtain ⟨hq25_0, hq25_1, hq25_2, hq25_3⟩ := box_cells X2_17.out
                    obtain ⟨hq26_0, hq26_1, hq26_2, hq26_3⟩ := box_cells X3_17.out
                    go_wp2_with fail
                    refine (Verify_calls (t := y) (sv := sv) (ce := ce) _ (by omega) I99_17.out H1_17.out H2_17.out).mono ?_
                    rw [V3.out.1, V3.out.2]
                    rintro e w18 ⟨v18, rfl, ⟨A18, c18, B18, d18, rfl, l18, F18, j18, G18⟩, b18⟩
                    have X1_18 := Aside0.mk (blk_below X1_17.out b18)
                    have X2_18 := Aside0.mk (blk_below X2_17.out b18)
                    have X3_18 := Aside0.mk (blk_below X3_17.out b18)
                    have X5_18 := Aside0.mk (blk_below X5_17.out b18)
                    have B_18 := Aside0.mk (B_17.out.trans (b18.mono B_17.out.size))
                    have X99_18 := Aside0.mk (blk_below X99_17.out b18)
                    have I99_18 := Aside0.mk (I99_17.out.below b18)
                    have H0_18 := Aside0.mk (H0_17.out.below b18)
                    have H1_18 := Aside0.mk (H1_17.out.below b18)
                    have H2_18 := Aside0.mk (H2_17.out.below b18)
                    have H4_18 := Aside0.mk (H4_17.out.below b18)
                    clear X1_17 X2_17 X3_17 X5_17 B_17 X99_17 I99_17 H0_17 H1_17 H2_17 H4_17 hq24_0 hq24_1 hq24_2 hq24_3 hq25_0 hq25_1 hq25_2 hq25_3 hq26_0 hq26_1 hq26_2 hq26_3 b18
                    have I18_18 := Aside0.mk ((show IsAF w18 _ (.agg #[.string f3.u, .slice A18 f3.g.length c18, .int .i64 f3.o, .slice B18 f3.tr.length d18, .string f3.s, .bool f3.fw, .int .i64 f3.tm]) f3 from ⟨A18, c18, B18, d18, rfl, l18, F18, j18, G18⟩).now)
                    clear l18 F18 j18 G18
                    obtain ⟨hq27_0, hq27_1, hq27_2, hq27_3, hq27_4, hq27_5, hq27_6⟩ := boxA_cells (blk_alloc X1_18.out (.cells #[.string f3.u, .slice A18 f3.g.length c18, .int .i64 f3.o, .slice B18 f3.tr.length d18, .string f3.s, .bool f3.fw, .int .i64 f3.tm] 25))
                    obtain ⟨hq28_0, hq28_1, hq28_2, hq28_3, hq28_4, hq28_5, hq28_6⟩ := boxA_cells (blk_alloc X5_18.out (.cells #[.string f3.u, .slice A18 f3.g.length c18, .int .i64 f3.o, .slice B18 f3.tr.length d18, .string f3.s, .bool f3.fw, .int .i64 f3.tm] 25))
                    go_wp2_with fail
                    refine (Same_A (a := a) (b := b) _ (by omega) (H0_18.out.below (below_alloc (Below.refl _ _) _)) (H4_18.out.below (below_alloc (Below.refl _ _) _))).mono ?_
                    rw [Q3.out]
                    rintro e w19 ⟨rfl, b19⟩
                    obtain ⟨p19, z19, x19_0⟩ := one_box b19
                    have X1_19 := Aside0.mk (blk_below X1_18.out p19)
                    have X2_19 := Aside0.mk (blk_below X2_18.out p19)
                    have X3_19 := Aside0.mk (blk_below X3_18.out p19)
                    have X5_19 := Aside0.mk (blk_below X5_18.out p19)
                    have B_19 := Aside0.mk (B_18.out.trans (p19.mono B_18.out.size))
                    have X99_19 := Aside0.mk (blk_below X99_18.out p19)
                    have I99_19 := Aside0.mk (I99_18.out.below p19)
                    have H0_19 := Aside0.mk (H0_18.out.below p19)
                    have H1_19 := Aside0.mk (H1_18.out.below p19)
                    have H2_19 := Aside0.mk (H2_18.out.below p19)
                    have H4_19 := Aside0.mk (H4_18.out.below p19)
                    have I18_19 := Aside0.mk (I18_18.out.below p19)
                    have X10_19 := Aside0.mk x19_0
                    clear X1_18 X2_18 X3_18 X5_18 B_18 X99_18 I99_18 H0_18 H1_18 H2_18 H4_18 I18_18 hq27_0 hq27_1 hq27_2 hq27_3 hq27_4 hq27_5 hq27_6 hq28_0 hq28_1 hq28_2 hq28_3 hq28_4 hq28_5 hq28_6 b19 p19 z19 x19_0
                    go_wp2_with fail
                    go_ret
                    exact ⟨rfl, B_19.out⟩
          | false =>
            go_wp2_with fail
            go_ret
            exact ⟨rfl, B_6.out⟩
        | false =>
          go_wp2_with fail
          go_ret
          exact ⟨rfl, B_5.out⟩
end Go.Proofs.YtimommkbfbdkdaaDoor.P
