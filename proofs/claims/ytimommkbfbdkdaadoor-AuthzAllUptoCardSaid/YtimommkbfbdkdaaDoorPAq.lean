/- The walk of AuthzAll: it comes out true. -/
import Derived.Test.YtimommkbfbdkdaaDoorPAp
namespace Go.Proofs.YtimommkbfbdkdaaDoor.P
open Go.RowKit Go.Proofs.YtimommkbfbdkdaaDoorW.PrintWords Go.Proofs.YtimommkbfbdkdaaDoorW.PrintLast Go.Proofs.YtimommkbfbdkdaaDoorW.PrintMore
set_option linter.unusedVariables false
set_option linter.unusedSimpArgs false

set_option maxHeartbeats 8000000 in
set_option maxRecDepth 100000 in
theorem AuthzAll_calls {a b : Au} {sv ce : S29} {A0 B0 A1 B1 As Ac : Option Addr} {c0 d0 c1 d1 cs cc : Nat} (w0 : World) (hL : Laid w0) (hn_a : nA a ≤ 10000000) (hn_b : nA b ≤ 10000000) (hn_sv : nT sv ≤ 10000000) (hn_ce : nT ce ≤ 10000000)
    (h0 : IsA w0 (.agg #[.string a.u, .slice A0 a.g.length c0, .int .i64 a.o, .slice B0 a.tr.length d0, .string a.s, .bool a.fw, .int .i64 a.tm]) a) (h1 : IsA w0 (.agg #[.string b.u, .slice A1 b.g.length c1, .int .i64 b.o, .slice B1 b.tr.length d1, .string b.s, .bool b.fw, .int .i64 b.tm]) b) (h2 : IsT w0 (.agg #[.int .i64 sv.f0, .string sv.f1, .int .i64 sv.f2, .slice As sv.f3.length cs]) sv) (h3 : IsT w0 (.agg #[.int .i64 ce.f0, .string ce.f1, .int .i64 ce.f2, .slice Ac ce.f3.length cc]) ce) :
    V_ 5 #[(.agg #[.string a.u, .slice A0 a.g.length c0, .int .i64 a.o, .slice B0 a.tr.length d0, .string a.s, .bool a.fw, .int .i64 a.tm]), (.agg #[.string b.u, .slice A1 b.g.length c1, .int .i64 b.o, .slice B1 b.tr.length d1, .string b.s, .bool b.fw, .int .i64 b.tm]), (.agg #[.int .i64 sv.f0, .string sv.f1, .int .i64 sv.f2, .slice As sv.f3.length cs]), (.agg #[.int .i64 ce.f0, .string ce.f1, .int .i64 ce.f2, .slice Ac ce.f3.length cc])] w0 (.bool true) := by
  have hu25 := Tryd.underlying25
  have hu29 := Tryd.underlying29
  unfold V_
  have HL_0 := Aside0.mk (hL)
  have H0_0 := Aside0.mk (h0)
  have H1_0 := Aside0.mk (h1)
  have H2_0 := Aside0.mk (h2)
  have H3_0 := Aside0.mk (h3)
  have B_0 := Aside0.mk (Below.refl w0.heap.size w0)
  clear hL h0 h1 h2 h3
  go_enter Tryd.func5, Tryd.ntmps5
  go_wp2_with fail
  refine (works_calls _ (HL_0.out.below (below_alloc (below_alloc (below_alloc (below_alloc (Below.refl _ _) _) _) _) _))).mono ?_
  rintro e w1 ⟨rfl, b1⟩
  obtain ⟨p1, z1, x1_0, x1_1, x1_2, x1_3⟩ := four_boxes b1
  have HL_1 := Aside0.mk (HL_0.out.below p1)
  have H0_1 := Aside0.mk (H0_0.out.below p1)
  have H1_1 := Aside0.mk (H1_0.out.below p1)
  have H2_1 := Aside0.mk (H2_0.out.below p1)
  have H3_1 := Aside0.mk (H3_0.out.below p1)
  have B_1 := Aside0.mk (B_0.out.trans (p1.mono B_0.out.size))
  have X1_1 := Aside0.mk x1_0
  have X2_1 := Aside0.mk x1_1
  have X3_1 := Aside0.mk x1_2
  have X4_1 := Aside0.mk x1_3
  clear HL_0 H0_0 H1_0 H2_0 H3_0 B_0 b1 p1 z1 x1_0 x1_1 x1_2 x1_3
  obtain ⟨hq0_0, hq0_1, hq0_2, hq0_3, hq0_4, hq0_5, hq0_6⟩ := boxA_cells X1_1.out
  go_wp2_with fail
  refine (LargeA_V (a := a) _ (by omega) H0_1.out).mono ?_
  rintro e w2 ⟨rfl, b2⟩
  have H0_2 := Aside0.mk (H0_1.out.below b2)
  have H1_2 := Aside0.mk (H1_1.out.below b2)
  have H2_2 := Aside0.mk (H2_1.out.below b2)
  have H3_2 := Aside0.mk (H3_1.out.below b2)
  have B_2 := Aside0.mk (B_1.out.trans (b2.mono B_1.out.size))
  have X1_2 := Aside0.mk (blk_below X1_1.out b2)
  have X2_2 := Aside0.mk (blk_below X2_1.out b2)
  have X3_2 := Aside0.mk (blk_below X3_1.out b2)
  have X4_2 := Aside0.mk (blk_below X4_1.out b2)
  clear H0_1 H1_1 H2_1 H3_1 B_1 X1_1 X2_1 X3_1 X4_1 hq0_0 hq0_1 hq0_2 hq0_3 hq0_4 hq0_5 hq0_6 b2
  cases hg2 : largeA a with
  | true =>
    go_wp2_with fail
    go_ret
    exact ⟨rfl, B_2.out⟩
  | false =>
    obtain ⟨hq1_0, hq1_1, hq1_2, hq1_3, hq1_4, hq1_5, hq1_6⟩ := boxA_cells X2_2.out
    go_wp2_with fail
    refine (LargeA_V (a := b) _ (by omega) H1_2.out).mono ?_
    rintro e w3 ⟨rfl, b3⟩
    have H0_3 := Aside0.mk (H0_2.out.below b3)
    have H1_3 := Aside0.mk (H1_2.out.below b3)
    have H2_3 := Aside0.mk (H2_2.out.below b3)
    have H3_3 := Aside0.mk (H3_2.out.below b3)
    have B_3 := Aside0.mk (B_2.out.trans (b3.mono B_2.out.size))
    have X1_3 := Aside0.mk (blk_below X1_2.out b3)
    have X2_3 := Aside0.mk (blk_below X2_2.out b3)
    have X3_3 := Aside0.mk (blk_below X3_2.out b3)
    have X4_3 := Aside0.mk (blk_below X4_2.out b3)
    clear H0_2 H1_2 H2_2 H3_2 B_2 X1_2 X2_2 X3_2 X4_2 hq1_0 hq1_1 hq1_2 hq1_3 hq1_4 hq1_5 hq1_6 b3
    cases hg3 : largeA b with
    | true =>
      go_wp2_with fail
      go_ret
      exact ⟨rfl, B_3.out⟩
    | false =>
      obtain ⟨hq2_0, hq2_1, hq2_2, hq2_3⟩ := box_cells X3_3.out
      go_wp2_with fail
      refine (Large_V _ 20 (by omega) H2_3.out).mono ?_
      rintro e w4 ⟨rfl, b4⟩
      have H0_4 := Aside0.mk (H0_3.out.below b4)
      have H1_4 := Aside0.mk (H1_3.out.below b4)
      have H2_4 := Aside0.mk (H2_3.out.below b4)
      have H3_4 := Aside0.mk (H3_3.out.below b4)
      have B_4 := Aside0.mk (B_3.out.trans (b4.mono B_3.out.size))
      have X1_4 := Aside0.mk (blk_below X1_3.out b4)
      have X2_4 := Aside0.mk (blk_below X2_3.out b4)
      have X3_4 := Aside0.mk (blk_below X3_3.out b4)
      have X4_4 := Aside0.mk (blk_below X4_3.out b4)
      clear H0_3 H1_3 H2_3 H3_3 B_3 X1_3 X2_3 X3_3 X4_3 hq2_0 hq2_1 hq2_2 hq2_3 b4
      cases hg4 : decide (((partsT sv).length : Int) > 20) with
      | true =>
        go_wp2_with fail
        go_ret
        exact ⟨rfl, B_4.out⟩
      | false =>
        obtain ⟨hq3_0, hq3_1, hq3_2, hq3_3⟩ := box_cells X4_4.out
        go_wp2_with fail
        refine (Large_V _ 20 (by omega) H3_4.out).mono ?_
        rintro e w5 ⟨rfl, b5⟩
        have H0_5 := Aside0.mk (H0_4.out.below b5)
        have H1_5 := Aside0.mk (H1_4.out.below b5)
        have H2_5 := Aside0.mk (H2_4.out.below b5)
        have H3_5 := Aside0.mk (H3_4.out.below b5)
        have B_5 := Aside0.mk (B_4.out.trans (b5.mono B_4.out.size))
        have X1_5 := Aside0.mk (blk_below X1_4.out b5)
        have X2_5 := Aside0.mk (blk_below X2_4.out b5)
        have X3_5 := Aside0.mk (blk_below X3_4.out b5)
        have X4_5 := Aside0.mk (blk_below X4_4.out b5)
        clear H0_4 H1_4 H2_4 H3_4 B_4 X1_4 X2_4 X3_4 X4_4 hq3_0 hq3_1 hq3_2 hq3_3 b5
        cases hg5 : decide (((partsT ce).length : Int) > 20) with
        | true =>
          go_wp2_with fail
          go_ret
          exact ⟨rfl, B_5.out⟩
        | false =>
          cases k1 : canA a sv ce with
          | false =>
            have E1 := Aside0.mk (build_no k1)
            cases k2 : canA b sv ce with
            | false =>
              have E2 := Aside0.mk (build_no k2)
              obtain ⟨hq4_0, hq4_1, hq4_2, hq4_3, hq4_4, hq4_5, hq4_6⟩ := boxA_cells X1_5.out
              obtain ⟨hq5_0, hq5_1, hq5_2, hq5_3⟩ := box_cells X3_5.out
              obtain ⟨hq6_0, hq6_1, hq6_2, hq6_3⟩ := box_cells X4_5.out
              go_wp2_with fail
              refine (Build_calls (a := a) (sv := sv) (ce := ce) _ (by omega) H0_5.out H2_5.out.F H3_5.out.F (fun _ h => h) (fun _ h => h)).mono ?_
              rw [E1.out.1, E1.out.2]
              rintro e w6 ⟨v6, rfl, ⟨A6, c6, rfl, l6, F6⟩, b6⟩
              have H0_6 := Aside0.mk (H0_5.out.below b6)
              have H1_6 := Aside0.mk (H1_5.out.below b6)
              have H2_6 := Aside0.mk (H2_5.out.below b6)
              have H3_6 := Aside0.mk (H3_5.out.below b6)
              have B_6 := Aside0.mk (B_5.out.trans (b6.mono B_5.out.size))
              have X1_6 := Aside0.mk (blk_below X1_5.out b6)
              have X2_6 := Aside0.mk (blk_below X2_5.out b6)
              have X3_6 := Aside0.mk (blk_below X3_5.out b6)
              have X4_6 := Aside0.mk (blk_below X4_5.out b6)
              clear H0_5 H1_5 H2_5 H3_5 B_5 X1_5 X2_5 X3_5 X4_5 hq4_0 hq4_1 hq4_2 hq4_3 hq4_4 hq4_5 hq4_6 hq5_0 hq5_1 hq5_2 hq5_3 hq6_0 hq6_1 hq6_2 hq6_3 b6
              have I6_6 := Aside0.mk ((show IsF w6 _ (.agg #[.int .i64 z29.f0, .string z29.f1, .int .i64 z29.f2, .slice A6 z29.f3.length c6]) z29 from ⟨A6, c6, rfl, l6, F6⟩).now)
              clear l6 F6
              obtain ⟨hq7_0, hq7_1, hq7_2, hq7_3, hq7_4, hq7_5, hq7_6⟩ := boxA_cells (blk_alloc X2_6.out (.cells #[.int .i64 z29.f0, .string z29.f1, .int .i64 z29.f2, .slice A6 z29.f3.length c6] 29))
              obtain ⟨hq8_0, hq8_1, hq8_2, hq8_3⟩ := box_cells (blk_alloc X3_6.out (.cells #[.int .i64 z29.f0, .string z29.f1, .int .i64 z29.f2, .slice A6 z29.f3.length c6] 29))
              obtain ⟨hq9_0, hq9_1, hq9_2, hq9_3⟩ := box_cells (blk_alloc X4_6.out (.cells #[.int .i64 z29.f0, .string z29.f1, .int .i64 z29.f2, .slice A6 z29.f3.length c6] 29))
              go_wp2_with fail
              refine (Build_calls (a := b) (sv := sv) (ce := ce) _ (by omega) (H1_6.out.below (below_alloc (Below.refl _ _) _)) (H2_6.out.below (below_alloc (Below.refl _ _) _)).F (H3_6.out.below (below_alloc (Below.refl _ _) _)).F (fun _ h => h) (fun _ h => h)).mono ?_
              rw [E2.out.1, E2.out.2]
              rintro e w7 ⟨v7, rfl, ⟨A7, c7, rfl, l7, F7⟩, b7⟩
              obtain ⟨p7, z7, x7_0⟩ := one_box b7
              have H0_7 := Aside0.mk (H0_6.out.below p7)
              have H1_7 := Aside0.mk (H1_6.out.below p7)
              have H2_7 := Aside0.mk (H2_6.out.below p7)
              have H3_7 := Aside0.mk (H3_6.out.below p7)
              have B_7 := Aside0.mk (B_6.out.trans (p7.mono B_6.out.size))
              have X1_7 := Aside0.mk (blk_below X1_6.out p7)
              have X2_7 := Aside0.mk (blk_below X2_6.out p7)
              have X3_7 := Aside0.mk (blk_below X3_6.out p7)
              have X4_7 := Aside0.mk (blk_below X4_6.out p7)
              have I6_7 := Aside0.mk (I6_6.out.below p7)
              have X5_7 := Aside0.mk x7_0
              clear H0_6 H1_6 H2_6 H3_6 B_6 X1_6 X2_6 X3_6 X4_6 I6_6 hq7_0 hq7_1 hq7_2 hq7_3 hq7_4 hq7_5 hq7_6 hq8_0 hq8_1 hq8_2 hq8_3 hq9_0 hq9_1 hq9_2 hq9_3 b7 p7 z7 x7_0
              have I7_7 := Aside0.mk ((show IsF w7 _ (.agg #[.int .i64 z29.f0, .string z29.f1, .int .i64 z29.f2, .slice A7 z29.f3.length c7]) z29 from ⟨A7, c7, rfl, l7, F7⟩).now)
              clear l7 F7
              obtain ⟨hq10_0, hq10_1, hq10_2, hq10_3⟩ := box_cells (blk_alloc X5_7.out (.cells #[.int .i64 z29.f0, .string z29.f1, .int .i64 z29.f2, .slice A7 z29.f3.length c7] 29))
              have TZ_7 := Aside0.mk ((show IsT w7 (.agg #[.int .i64 0, .string ⟨#[]⟩, .int .i64 0, .slice none 0 0]) z29 from ⟨none, 0, rfl, Nat.le_refl _, C_nil0 _ none⟩))
              go_wp2_with fail
              refine (Same_V (t := z29) (s := z29) _ (I6_7.out.below (below_alloc (Below.refl _ _) _)) (TZ_7.out.below (below_alloc (Below.refl _ _) _))).mono ?_
              rw [oT_self z29]
              rintro e w8 ⟨rfl, b8⟩
              obtain ⟨p8, z8, x8_0⟩ := one_box b8
              have H0_8 := Aside0.mk (H0_7.out.below p8)
              have H1_8 := Aside0.mk (H1_7.out.below p8)
              have H2_8 := Aside0.mk (H2_7.out.below p8)
              have H3_8 := Aside0.mk (H3_7.out.below p8)
              have B_8 := Aside0.mk (B_7.out.trans (p8.mono B_7.out.size))
              have X1_8 := Aside0.mk (blk_below X1_7.out p8)
              have X2_8 := Aside0.mk (blk_below X2_7.out p8)
              have X3_8 := Aside0.mk (blk_below X3_7.out p8)
              have X4_8 := Aside0.mk (blk_below X4_7.out p8)
              have I6_8 := Aside0.mk (I6_7.out.below p8)
              have X5_8 := Aside0.mk (blk_below X5_7.out p8)
              have I7_8 := Aside0.mk (I7_7.out.below p8)
              have TZ_8 := Aside0.mk (TZ_7.out.below p8)
              have X6_8 := Aside0.mk x8_0
              clear H0_7 H1_7 H2_7 H3_7 B_7 X1_7 X2_7 X3_7 X4_7 I6_7 X5_7 I7_7 TZ_7 hq10_0 hq10_1 hq10_2 hq10_3 b8 p8 z8 x8_0
              go_wp2_with fail
              go_ret
              exact ⟨rfl, B_8.out⟩
            | true =>
              obtain ⟨y, hy⟩ : ∃ y, builtA b sv ce = y := ⟨_, rfl⟩
              have E2 := Aside0.mk (build_yes k2)
              rw [hy] at E2
              obtain ⟨hq4_0, hq4_1, hq4_2, hq4_3, hq4_4, hq4_5, hq4_6⟩ := boxA_cells X1_5.out
              obtain ⟨hq5_0, hq5_1, hq5_2, hq5_3⟩ := box_cells X3_5.out
              obtain ⟨hq6_0, hq6_1, hq6_2, hq6_3⟩ := box_cells X4_5.out
              go_wp2_with fail
              refine (Build_calls (a := a) (sv := sv) (ce := ce) _ (by omega) H0_5.out H2_5.out.F H3_5.out.F (fun _ h => h) (fun _ h => h)).mono ?_
              rw [E1.out.1, E1.out.2]
              rintro e w6 ⟨v6, rfl, ⟨A6, c6, rfl, l6, F6⟩, b6⟩
              have H0_6 := Aside0.mk (H0_5.out.below b6)
              have H1_6 := Aside0.mk (H1_5.out.below b6)
              have H2_6 := Aside0.mk (H2_5.out.below b6)
              have H3_6 := Aside0.mk (H3_5.out.below b6)
              have B_6 := Aside0.mk (B_5.out.trans (b6.mono B_5.out.size))
              have X1_6 := Aside0.mk (blk_below X1_5.out b6)
              have X2_6 := Aside0.mk (blk_below X2_5.out b6)
              have X3_6 := Aside0.mk (blk_below X3_5.out b6)
              have X4_6 := Aside0.mk (blk_below X4_5.out b6)
              clear H0_5 H1_5 H2_5 H3_5 B_5 X1_5 X2_5 X3_5 X4_5 hq4_0 hq4_1 hq4_2 hq4_3 hq4_4 hq4_5 hq4_6 hq5_0 hq5_1 hq5_2 hq5_3 hq6_0 hq6_1 hq6_2 hq6_3 b6
              have I6_6 := Aside0.mk ((show IsF w6 _ (.agg #[.int .i64 z29.f0, .string z29.f1, .int .i64 z29.f2, .slice A6 z29.f3.length c6]) z29 from ⟨A6, c6, rfl, l6, F6⟩).now)
              clear l6 F6
              obtain ⟨hq7_0, hq7_1, hq7_2, hq7_3, hq7_4, hq7_5, hq7_6⟩ := boxA_cells (blk_alloc X2_6.out (.cells #[.int .i64 z29.f0, .string z29.f1, .int .i64 z29.f2, .slice A6 z29.f3.length c6] 29))
              obtain ⟨hq8_0, hq8_1, hq8_2, hq8_3⟩ := box_cells (blk_alloc X3_6.out (.cells #[.int .i64 z29.f0, .string z29.f1, .int .i64 z29.f2, .slice A6 z29.f3.length c6] 29))
              obtain ⟨hq9_0, hq9_1, hq9_2, hq9_3⟩ := box_cells (blk_alloc X4_6.out (.cells #[.int .i64 z29.f0, .string z29.f1, .int .i64 z29.f2, .slice A6 z29.f3.length c6] 29))
              go_wp2_with fail
              refine (Build_calls (a := b) (sv := sv) (ce := ce) _ (by omega) (H1_6.out.below (below_alloc (Below.refl _ _) _)) (H2_6.out.below (below_alloc (Below.refl _ _) _)).F (H3_6.out.below (below_alloc (Below.refl _ _) _)).F (fun _ h => h) (fun _ h => h)).mono ?_
              rw [E2.out.1, E2.out.2]
              rintro e w7 ⟨v7, rfl, ⟨A7, c7, rfl, l7, F7⟩, b7⟩
              obtain ⟨p7, z7, x7_0⟩ := one_box b7
              have H0_7 := Aside0.mk (H0_6.out.below p7)
              have H1_7 := Aside0.mk (H1_6.out.below p7)
              have H2_7 := Aside0.mk (H2_6.out.below p7)
              have H3_7 := Aside0.mk (H3_6.out.below p7)
              have B_7 := Aside0.mk (B_6.out.trans (p7.mono B_6.out.size))
              have X1_7 := Aside0.mk (blk_below X1_6.out p7)
              have X2_7 := Aside0.mk (blk_below X2_6.out p7)
              have X3_7 := Aside0.mk (blk_below X3_6.out p7)
              have X4_7 := Aside0.mk (blk_below X4_6.out p7)
              have I6_7 := Aside0.mk (I6_6.out.below p7)
              have X5_7 := Aside0.mk x7_0
              clear H0_6 H1_6 H2_6 H3_6 B_6 X1_6 X2_6 X3_6 X4_6 I6_6 hq7_0 hq7_1 hq7_2 hq7_3 hq7_4 hq7_5 hq7_6 hq8_0 hq8_1 hq8_2 hq8_3 hq9_0 hq9_1 hq9_2 hq9_3 b7 p7 z7 x7_0
              have I7_7 := Aside0.mk ((show IsF w7 _ (.agg #[.int .i64 y.f0, .string y.f1, .int .i64 y.f2, .slice A7 y.f3.length c7]) y from ⟨A7, c7, rfl, l7, F7⟩).now)
              clear l7 F7
              obtain ⟨hq10_0, hq10_1, hq10_2, hq10_3⟩ := box_cells (blk_alloc X5_7.out (.cells #[.int .i64 y.f0, .string y.f1, .int .i64 y.f2, .slice A7 y.f3.length c7] 29))
              have TZ_7 := Aside0.mk ((show IsT w7 (.agg #[.int .i64 0, .string ⟨#[]⟩, .int .i64 0, .slice none 0 0]) z29 from ⟨none, 0, rfl, Nat.le_refl _, C_nil0 _ none⟩))
              go_wp2_with fail
              refine (Same_V (t := z29) (s := z29) _ (I6_7.out.below (below_alloc (Below.refl _ _) _)) (TZ_7.out.below (below_alloc (Below.refl _ _) _))).mono ?_
              rw [oT_self z29]
              rintro e w8 ⟨rfl, b8⟩
              obtain ⟨p8, z8, x8_0⟩ := one_box b8
              have H0_8 := Aside0.mk (H0_7.out.below p8)
              have H1_8 := Aside0.mk (H1_7.out.below p8)
              have H2_8 := Aside0.mk (H2_7.out.below p8)
              have H3_8 := Aside0.mk (H3_7.out.below p8)
              have B_8 := Aside0.mk (B_7.out.trans (p8.mono B_7.out.size))
              have X1_8 := Aside0.mk (blk_below X1_7.out p8)
              have X2_8 := Aside0.mk (blk_below X2_7.out p8)
              have X3_8 := Aside0.mk (blk_below X3_7.out p8)
              have X4_8 := Aside0.mk (blk_below X4_7.out p8)
              have I6_8 := Aside0.mk (I6_7.out.below p8)
              have X5_8 := Aside0.mk (blk_below X5_7.out p8)
              have I7_8 := Aside0.mk (I7_7.out.below p8)
              have TZ_8 := Aside0.mk (TZ_7.out.below p8)
              have X6_8 := Aside0.mk x8_0
              clear H0_7 H1_7 H2_7 H3_7 B_7 X1_7 X2_7 X3_7 X4_7 I6_7 X5_7 I7_7 TZ_7 hq10_0 hq10_1 hq10_2 hq10_3 b8 p8 z8 x8_0
              go_wp2_with fail
              go_ret
              exact ⟨rfl, B_8.out⟩
          | true =>
            have E1 := Aside0.mk (build_yes k1)
            obtain ⟨x, y, x0, x1, x2, y0, y1, y2, hx, hy, gx, gy, q0, q1, q2⟩ := both_yes a b sv ce
            rw [hx] at E1
            have HQ := Aside0.mk (And.intro q0 (And.intro q1 q2))
            have GX := Aside0.mk gx
            have GY := Aside0.mk gy
            clear q0 q1 q2 gx gy hx
            cases k2 : canA b sv ce with
            | false =>
              have E2 := Aside0.mk (build_no k2)
              obtain ⟨hq4_0, hq4_1, hq4_2, hq4_3, hq4_4, hq4_5, hq4_6⟩ := boxA_cells X1_5.out
              obtain ⟨hq5_0, hq5_1, hq5_2, hq5_3⟩ := box_cells X3_5.out
              obtain ⟨hq6_0, hq6_1, hq6_2, hq6_3⟩ := box_cells X4_5.out
              go_wp2_with fail
              refine (Build_calls (a := a) (sv := sv) (ce := ce) _ (by omega) H0_5.out H2_5.out.F H3_5.out.F (fun _ h => h) (fun _ h => h)).mono ?_
              rw [E1.out.1, E1.out.2]
              rintro e w6 ⟨v6, rfl, ⟨A6, c6, rfl, l6, F6⟩, b6⟩
              have H0_6 := Aside0.mk (H0_5.out.below b6)
              have H1_6 := Aside0.mk (H1_5.out.below b6)
              have H2_6 := Aside0.mk (H2_5.out.below b6)
              have H3_6 := Aside0.mk (H3_5.out.below b6)
              have B_6 := Aside0.mk (B_5.out.trans (b6.mono B_5.out.size))
              have X1_6 := Aside0.mk (blk_below X1_5.out b6)
              have X2_6 := Aside0.mk (blk_below X2_5.out b6)
              have X3_6 := Aside0.mk (blk_below X3_5.out b6)
              have X4_6 := Aside0.mk (blk_below X4_5.out b6)
              clear H0_5 H1_5 H2_5 H3_5 B_5 X1_5 X2_5 X3_5 X4_5 hq4_0 hq4_1 hq4_2 hq4_3 hq4_4 hq4_5 hq4_6 hq5_0 hq5_1 hq5_2 hq5_3 hq6_0 hq6_1 hq6_2 hq6_3 b6
              have I6_6 := Aside0.mk ((show IsF w6 _ (.agg #[.int .i64 x.f0, .string x.f1, .int .i64 x.f2, .slice A6 x.f3.length c6]) x from ⟨A6, c6, rfl, l6, F6⟩).now)
              clear l6 F6
              obtain ⟨hq7_0, hq7_1, hq7_2, hq7_3, hq7_4, hq7_5, hq7_6⟩ := boxA_cells (blk_alloc X2_6.out (.cells #[.int .i64 x.f0, .string x.f1, .int .i64 x.f2, .slice A6 x.f3.length c6] 29))
              obtain ⟨hq8_0, hq8_1, hq8_2, hq8_3⟩ := box_cells (blk_alloc X3_6.out (.cells #[.int .i64 x.f0, .string x.f1, .int .i64 x.f2, .slice A6 x.f3.length c6] 29))
              obtain ⟨hq9_0, hq9_1, hq9_2, hq9_3⟩ := box_cells (blk_alloc X4_6.out (.cells #[.int .i64 x.f0, .string x.f1, .int .i64 x.f2, .slice A6 x.f3.length c6] 29))
              go_wp2_with fail
              refine (Build_calls (a := b) (sv := sv) (ce := ce) _ (by omega) (H1_6.out.below (below_alloc (Below.refl _ _) _)) (H2_6.out.below (below_alloc (Below.refl _ _) _)).F (H3_6.out.below (below_alloc (Below.refl _ _) _)).F (fun _ h => h) (fun _ h => h)).mono ?_
              rw [E2.out.1, E2.out.2]
              rintro e w7 ⟨v7, rfl, ⟨A7, c7, rfl, l7, F7⟩, b7⟩
              obtain ⟨p7, z7, x7_0⟩ := one_box b7
              have H0_7 := Aside0.mk (H0_6.out.below p7)
              have H1_7 := Aside0.mk (H1_6.out.below p7)
              have H2_7 := Aside0.mk (H2_6.out.below p7)
              have H3_7 := Aside0.mk (H3_6.out.below p7)
              have B_7 := Aside0.mk (B_6.out.trans (p7.mono B_6.out.size))
              have X1_7 := Aside0.mk (blk_below X1_6.out p7)
              have X2_7 := Aside0.mk (blk_below X2_6.out p7)
              have X3_7 := Aside0.mk (blk_below X3_6.out p7)
              have X4_7 := Aside0.mk (blk_below X4_6.out p7)
              have I6_7 := Aside0.mk (I6_6.out.below p7)
              have X5_7 := Aside0.mk x7_0
              clear H0_6 H1_6 H2_6 H3_6 B_6 X1_6 X2_6 X3_6 X4_6 I6_6 hq7_0 hq7_1 hq7_2 hq7_3 hq7_4 hq7_5 hq7_6 hq8_0 hq8_1 hq8_2 hq8_3 hq9_0 hq9_1 hq9_2 hq9_3 b7 p7 z7 x7_0
              have I7_7 := Aside0.mk ((show IsF w7 _ (.agg #[.int .i64 z29.f0, .string z29.f1, .int .i64 z29.f2, .slice A7 z29.f3.length c7]) z29 from ⟨A7, c7, rfl, l7, F7⟩).now)
              clear l7 F7
              go_wp2_with fail
              go_ret
              exact ⟨rfl, (below_alloc B_7.out _)⟩
            | true =>
              have E2 := Aside0.mk (build_yes k2)
              rw [hy] at E2
              clear hy
              obtain ⟨hq4_0, hq4_1, hq4_2, hq4_3, hq4_4, hq4_5, hq4_6⟩ := boxA_cells X1_5.out
              obtain ⟨hq5_0, hq5_1, hq5_2, hq5_3⟩ := box_cells X3_5.out
              obtain ⟨hq6_0, hq6_1, hq6_2, hq6_3⟩ := box_cells X4_5.out
              go_wp2_with fail
              refine (Build_calls (a := a) (sv := sv) (ce := ce) _ (by omega) H0_5.out H2_5.out.F H3_5.out.F (fun _ h => h) (fun _ h => h)).mono ?_
              rw [E1.out.1, E1.out.2]
              rintro e w6 ⟨v6, rfl, ⟨A6, c6, rfl, l6, F6⟩, b6⟩
              have H0_6 := Aside0.mk (H0_5.out.below b6)
              have H1_6 := Aside0.mk (H1_5.out.below b6)
              have H2_6 := Aside0.mk (H2_5.out.below b6)
              have H3_6 := Aside0.mk (H3_5.out.below b6)
              have B_6 := Aside0.mk (B_5.out.trans (b6.mono B_5.out.size))
              have X1_6 := Aside0.mk (blk_below X1_5.out b6)
              have X2_6 := Aside0.mk (blk_below X2_5.out b6)
              have X3_6 := Aside0.mk (blk_below X3_5.out b6)
              have X4_6 := Aside0.mk (blk_below X4_5.out b6)
              clear H0_5 H1_5 H2_5 H3_5 B_5 X1_5 X2_5 X3_5 X4_5 hq4_0 hq4_1 hq4_2 hq4_3 hq4_4 hq4_5 hq4_6 hq5_0 hq5_1 hq5_2 hq5_3 hq6_0 hq6_1 hq6_2 hq6_3 b6
              have I6_6 := Aside0.mk ((show IsF w6 _ (.agg #[.int .i64 x.f0, .string x.f1, .int .i64 x.f2, .slice A6 x.f3.length c6]) x from ⟨A6, c6, rfl, l6, F6⟩).now)
              clear l6 F6
              obtain ⟨hq7_0, hq7_1, hq7_2, hq7_3, hq7_4, hq7_5, hq7_6⟩ := boxA_cells (blk_alloc X2_6.out (.cells #[.int .i64 x.f0, .string x.f1, .int .i64 x.f2, .slice A6 x.f3.length c6] 29))
              obtain ⟨hq8_0, hq8_1, hq8_2, hq8_3⟩ := box_cells (blk_alloc X3_6.out (.cells #[.int .i64 x.f0, .string x.f1, .int .i64 x.f2, .slice A6 x.f3.length c6] 29))
              obtain ⟨hq9_0, hq9_1, hq9_2, hq9_3⟩ := box_cells (blk_alloc X4_6.out (.cells #[.int .i64 x.f0, .string x.f1, .int .i64 x.f2, .slice A6 x.f3.length c6] 29))
              go_wp2_with fail
              refine (Build_calls (a := b) (sv := sv) (ce := ce) _ (by omega) (H1_6.out.below (below_alloc (Below.refl _ _) _)) (H2_6.out.below (below_alloc (Below.refl _ _) _)).F (H3_6.out.below (below_alloc (Below.refl _ _) _)).F (fun _ h => h) (fun _ h => h)).mono ?_
              rw [E2.out.1, E2.out.2]
              rintro e w7 ⟨v7, rfl, ⟨A7, c7, rfl, l7, F7⟩, b7⟩
              obtain ⟨p7, z7, x7_0⟩ := one_box b7
              have H0_7 := Aside0.mk (H0_6.out.below p7)
              have H1_7 := Aside0.mk (H1_6.out.below p7)
              have H2_7 := Aside0.mk (H2_6.out.below p7)
              have H3_7 := Aside0.mk (H3_6.out.below p7)
              have B_7 := Aside0.mk (B_6.out.trans (p7.mono B_6.out.size))
              have X1_7 := Aside0.mk (blk_below X1_6.out p7)
              have X2_7 := Aside0.mk (blk_below X2_6.out p7)
              have X3_7 := Aside0.mk (blk_below X3_6.out p7)
              have X4_7 := Aside0.mk (blk_below X4_6.out p7)
              have I6_7 := Aside0.mk (I6_6.out.below p7)
              have X5_7 := Aside0.mk x7_0
              clear H0_6 H1_6 H2_6 H3_6 B_6 X1_6 X2_6 X3_6 X4_6 I6_6 hq7_0 hq7_1 hq7_2 hq7_3 hq7_4 hq7_5 hq7_6 hq8_0 hq8_1 hq8_2 hq8_3 hq9_0 hq9_1 hq9_2 hq9_3 b7 p7 z7 x7_0
              have I7_7 := Aside0.mk ((show IsF w7 _ (.agg #[.int .i64 y.f0, .string y.f1, .int .i64 y.f2, .slice A7 y.f3.length c7]) y from ⟨A7, c7, rfl, l7, F7⟩).now)
              clear l7 F7
              obtain ⟨hq10_0, hq10_1, hq10_2, hq10_3, hq10_4, hq10_5, hq10_6⟩ := boxA_cells (blk_alloc X1_7.out (.cells #[.int .i64 y.f0, .string y.f1, .int .i64 y.f2, .slice A7 y.f3.length c7] 29))
              obtain ⟨hq11_0, hq11_1, hq11_2, hq11_3, hq11_4, hq11_5, hq11_6⟩ := boxA_cells (blk_alloc X2_7.out (.cells #[.int .i64 y.f0, .string y.f1, .int .i64 y.f2, .slice A7 y.f3.length c7] 29))
              go_wp2_with fail
              refine (Same_A (a := a) (b := b) _ (by omega) (H0_7.out.below (below_alloc (Below.refl _ _) _)) (H1_7.out.below (below_alloc (Below.refl _ _) _))).mono ?_
              rintro e w8 ⟨rfl, b8⟩
              obtain ⟨p8, z8, x8_0⟩ := one_box b8
              have H0_8 := Aside0.mk (H0_7.out.below p8)
              have H1_8 := Aside0.mk (H1_7.out.below p8)
              have H2_8 := Aside0.mk (H2_7.out.below p8)
              have H3_8 := Aside0.mk (H3_7.out.below p8)
              have B_8 := Aside0.mk (B_7.out.trans (p8.mono B_7.out.size))
              have X1_8 := Aside0.mk (blk_below X1_7.out p8)
              have X2_8 := Aside0.mk (blk_below X2_7.out p8)
              have X3_8 := Aside0.mk (blk_below X3_7.out p8)
              have X4_8 := Aside0.mk (blk_below X4_7.out p8)
              have I6_8 := Aside0.mk (I6_7.out.below p8)
              have X5_8 := Aside0.mk (blk_below X5_7.out p8)
              have I7_8 := Aside0.mk (I7_7.out.below p8)
              have X6_8 := Aside0.mk x8_0
              clear H0_7 H1_7 H2_7 H3_7 B_7 X1_7 X2_7 X3_7 X4_7 I6_7 X5_7 I7_7 hq10_0 hq10_1 hq10_2 hq10_3 hq10_4 hq10_5 hq10_6 hq11_0 hq11_1 hq11_2 hq11_3 hq11_4 hq11_5 hq11_6 b8 p8 z8 x8_0
              cases hs : sameA a b with
              | true =>
                rw [hs] at HQ
                obtain ⟨adx1, Ax1, cx1, ex1, mx10, mx11, mx12, mx13, Ix1'⟩ := part1 I6_8.out GX.out
                have Ix1 := Aside0.mk Ix1'
                clear Ix1'
                obtain ⟨adx2, Ax2, cx2, ex2, mx20, mx21, mx22, mx23, Ix2'⟩ := part2 I6_8.out GX.out
                have Ix2 := Aside0.mk Ix2'
                clear Ix2'
                rw [ex1] at ex2
                obtain rfl : adx1 = adx2 := Option.some.inj ex2
                obtain ⟨tx0, tx1, tx2, tx3⟩ := box_cells X5_8.out
                have lx : x.f3.length = 3 := by rw [GX.out]; rfl
                rw [lx, ex1] at tx3
                clear ex2
                obtain ⟨ady1, Ay1, cy1, ey1, my10, my11, my12, my13, Iy1'⟩ := part1 I7_8.out GY.out
                have Iy1 := Aside0.mk Iy1'
                clear Iy1'
                obtain ⟨ady2, Ay2, cy2, ey2, my20, my21, my22, my23, Iy2'⟩ := part2 I7_8.out GY.out
                have Iy2 := Aside0.mk Iy2'
                clear Iy2'
                rw [ey1] at ey2
                obtain rfl : ady1 = ady2 := Option.some.inj ey2
                obtain ⟨ty0, ty1, ty2, ty3⟩ := box_cells X6_8.out
                have ly : y.f3.length = 3 := by rw [GY.out]; rfl
                rw [ly, ey1] at ty3
                clear ey2
                have IX0 : Aside0 (IsT w8 (.agg #[.int .i64 x.f0, .string x.f1, .int .i64 x.f2, .slice (some adx1) 3 c6]) x) := ⟨by have h := I6_8.out; rw [lx, ex1] at h; exact h⟩
                have IY0 : Aside0 (IsT w8 (.agg #[.int .i64 y.f0, .string y.f1, .int .i64 y.f2, .slice (some ady1) 3 c7]) y) := ⟨by have h := I7_8.out; rw [ly, ey1] at h; exact h⟩
                have HWc : Aside0 (Below w8.heap.size w8 w8) := ⟨Below.refl _ _⟩
                go_wp2_with fail
                go_region_held3 (fun w' => w'.cell? ⟨w6.heap.size, 0, none⟩ = some (.int .i64 x.f0) ∧ w'.cell? ⟨w6.heap.size, 1, none⟩ = some (.string x.f1) ∧ w'.cell? ⟨w6.heap.size, 2, none⟩ = some (.int .i64 x.f2) ∧ w'.cell? ⟨w6.heap.size, 3, none⟩ = some (.slice (some adx1) 3 c6) ∧ w'.cell? ⟨adx1.block, adx1.off + 4, none⟩ = some (.int .i64 x1.f0) ∧ w'.cell? ⟨adx1.block, adx1.off + 4 + 1, none⟩ = some (.string x1.f1) ∧ w'.cell? ⟨adx1.block, adx1.off + 4 + 2, none⟩ = some (.int .i64 x1.f2) ∧ w'.cell? ⟨adx1.block, adx1.off + 4 + 3, none⟩ = some (.slice Ax1 x1.f3.length cx1) ∧ w'.cell? ⟨adx1.block, adx1.off + 8, none⟩ = some (.int .i64 x2.f0) ∧ w'.cell? ⟨adx1.block, adx1.off + 8 + 1, none⟩ = some (.string x2.f1) ∧ w'.cell? ⟨adx1.block, adx1.off + 8 + 2, none⟩ = some (.int .i64 x2.f2) ∧ w'.cell? ⟨adx1.block, adx1.off + 8 + 3, none⟩ = some (.slice Ax2 x2.f3.length cx2) ∧ w'.cell? ⟨w7.heap.size, 0, none⟩ = some (.int .i64 y.f0) ∧ w'.cell? ⟨w7.heap.size, 1, none⟩ = some (.string y.f1) ∧ w'.cell? ⟨w7.heap.size, 2, none⟩ = some (.int .i64 y.f2) ∧ w'.cell? ⟨w7.heap.size, 3, none⟩ = some (.slice (some ady1) 3 c7) ∧ w'.cell? ⟨ady1.block, ady1.off + 4, none⟩ = some (.int .i64 y1.f0) ∧ w'.cell? ⟨ady1.block, ady1.off + 4 + 1, none⟩ = some (.string y1.f1) ∧ w'.cell? ⟨ady1.block, ady1.off + 4 + 2, none⟩ = some (.int .i64 y1.f2) ∧ w'.cell? ⟨ady1.block, ady1.off + 4 + 3, none⟩ = some (.slice Ay1 y1.f3.length cy1) ∧ w'.cell? ⟨ady1.block, ady1.off + 8, none⟩ = some (.int .i64 y2.f0) ∧ w'.cell? ⟨ady1.block, ady1.off + 8 + 1, none⟩ = some (.string y2.f1) ∧ w'.cell? ⟨ady1.block, ady1.off + 8 + 2, none⟩ = some (.int .i64 y2.f2) ∧ w'.cell? ⟨ady1.block, ady1.off + 8 + 3, none⟩ = some (.slice Ay2 y2.f3.length cy2))
                  (first | (with_reducible (go_split_ands; exact ⟨pw_cell_below hb (by assumption), pw_cell_below hb (by assumption), pw_cell_below hb (by assumption), pw_cell_below hb (by assumption), pw_cell_below hb (by assumption), pw_cell_below hb (by assumption), pw_cell_below hb (by assumption), pw_cell_below hb (by assumption), pw_cell_below hb (by assumption), pw_cell_below hb (by assumption), pw_cell_below hb (by assumption), pw_cell_below hb (by assumption), pw_cell_below hb (by assumption), pw_cell_below hb (by assumption), pw_cell_below hb (by assumption), pw_cell_below hb (by assumption), pw_cell_below hb (by assumption), pw_cell_below hb (by assumption), pw_cell_below hb (by assumption), pw_cell_below hb (by assumption), pw_cell_below hb (by assumption), pw_cell_below hb (by assumption), pw_cell_below hb (by assumption), pw_cell_below hb (by assumption)⟩)) | (with_reducible (go_split_ands; exact ⟨pw_cell_below (below_alloc (Below.refl _ _) _) (by assumption), pw_cell_below (below_alloc (Below.refl _ _) _) (by assumption), pw_cell_below (below_alloc (Below.refl _ _) _) (by assumption), pw_cell_below (below_alloc (Below.refl _ _) _) (by assumption), pw_cell_below (below_alloc (Below.refl _ _) _) (by assumption), pw_cell_below (below_alloc (Below.refl _ _) _) (by assumption), pw_cell_below (below_alloc (Below.refl _ _) _) (by assumption), pw_cell_below (below_alloc (Below.refl _ _) _) (by assumption), pw_cell_below (below_alloc (Below.refl _ _) _) (by assumption), pw_cell_below (below_alloc (Below.refl _ _) _) (by assumption), pw_cell_below (below_alloc (Below.refl _ _) _) (by assumption), pw_cell_below (below_alloc (Below.refl _ _) _) (by assumption), pw_cell_below (below_alloc (Below.refl _ _) _) (by assumption), pw_cell_below (below_alloc (Below.refl _ _) _) (by assumption), pw_cell_below (below_alloc (Below.refl _ _) _) (by assumption), pw_cell_below (below_alloc (Below.refl _ _) _) (by assumption), pw_cell_below (below_alloc (Below.refl _ _) _) (by assumption), pw_cell_below (below_alloc (Below.refl _ _) _) (by assumption), pw_cell_below (below_alloc (Below.refl _ _) _) (by assumption), pw_cell_below (below_alloc (Below.refl _ _) _) (by assumption), pw_cell_below (below_alloc (Below.refl _ _) _) (by assumption), pw_cell_below (below_alloc (Below.refl _ _) _) (by assumption), pw_cell_below (below_alloc (Below.refl _ _) _) (by assumption), pw_cell_below (below_alloc (Below.refl _ _) _) (by assumption)⟩)) | (with_reducible (go_split_ands; refine ⟨?_, ?_, ?_, ?_, ?_, ?_, ?_, ?_, ?_, ?_, ?_, ?_, ?_, ?_, ?_, ?_, ?_, ?_, ?_, ?_, ?_, ?_, ?_, ?_⟩ <;> assumption)) | (go_keep; done))
                  (first
                    | (go_simp; go_at_call 22; refine (Same_V (t := x) (s := y) _ (IX0.out.below (by repeat (first | exact HWc.out | apply below_alloc | apply pw_below_drewN | apply below_drew))) (IY0.out.below (by repeat (first | exact HWc.out | apply below_alloc | apply pw_below_drewN | apply below_drew)))).mono ?_; rw [HQ.out.1]; rintro e wz ⟨rfl, hb⟩; have HWn := Aside0.mk (below_step (by repeat (first | exact HWc.out | apply below_alloc | apply pw_below_drewN | apply below_drew)) hb); clear HWc; have HWc := HWn; clear HWn)
                    | (go_simp; go_at_call 22; refine (Same_V (t := x1) (s := y1) _ (Ix1.out.below (by repeat (first | exact HWc.out | apply below_alloc | apply pw_below_drewN | apply below_drew))) (Iy1.out.below (by repeat (first | exact HWc.out | apply below_alloc | apply pw_below_drewN | apply below_drew)))).mono ?_; rw [HQ.out.2.1]; rintro e wz ⟨rfl, hb⟩; have HWn := Aside0.mk (below_step (by repeat (first | exact HWc.out | apply below_alloc | apply pw_below_drewN | apply below_drew)) hb); clear HWc; have HWc := HWn; clear HWn)
                    | (go_simp; go_at_call 22; refine (Same_V (t := x2) (s := y2) _ (Ix2.out.below (by repeat (first | exact HWc.out | apply below_alloc | apply pw_below_drewN | apply below_drew))) (Iy2.out.below (by repeat (first | exact HWc.out | apply below_alloc | apply pw_below_drewN | apply below_drew)))).mono ?_; rw [HQ.out.2.2]; rintro e wz ⟨rfl, hb⟩; have HWn := Aside0.mk (below_step (by repeat (first | exact HWc.out | apply below_alloc | apply pw_below_drewN | apply below_drew)) hb); clear HWc; have HWc := HWn; clear HWn))
                all_goals go_wp2_with fail
                all_goals go_ret
                all_goals exact ⟨rfl, B_8.out.trans (HWc.out.mono B_8.out.size)⟩
              | false =>
                rw [hs] at HQ
                obtain ⟨adx1, Ax1, cx1, ex1, mx10, mx11, mx12, mx13, Ix1'⟩ := part1 I6_8.out GX.out
                have Ix1 := Aside0.mk Ix1'
                clear Ix1'
                obtain ⟨adx2, Ax2, cx2, ex2, mx20, mx21, mx22, mx23, Ix2'⟩ := part2 I6_8.out GX.out
                have Ix2 := Aside0.mk Ix2'
                clear Ix2'
                rw [ex1] at ex2
                obtain rfl : adx1 = adx2 := Option.some.inj ex2
                obtain ⟨tx0, tx1, tx2, tx3⟩ := box_cells X5_8.out
                have lx : x.f3.length = 3 := by rw [GX.out]; rfl
                rw [lx, ex1] at tx3
                clear ex2
                obtain ⟨ady1, Ay1, cy1, ey1, my10, my11, my12, my13, Iy1'⟩ := part1 I7_8.out GY.out
                have Iy1 := Aside0.mk Iy1'
                clear Iy1'
                obtain ⟨ady2, Ay2, cy2, ey2, my20, my21, my22, my23, Iy2'⟩ := part2 I7_8.out GY.out
                have Iy2 := Aside0.mk Iy2'
                clear Iy2'
                rw [ey1] at ey2
                obtain rfl : ady1 = ady2 := Option.some.inj ey2
                obtain ⟨ty0, ty1, ty2, ty3⟩ := box_cells X6_8.out
                have ly : y.f3.length = 3 := by rw [GY.out]; rfl
                rw [ly, ey1] at ty3
                clear ey2
                have IX0 : Aside0 (IsT w8 (.agg #[.int .i64 x.f0, .string x.f1, .int .i64 x.f2, .slice (some adx1) 3 c6]) x) := ⟨by have h := I6_8.out; rw [lx, ex1] at h; exact h⟩
                have IY0 : Aside0 (IsT w8 (.agg #[.int .i64 y.f0, .string y.f1, .int .i64 y.f2, .slice (some ady1) 3 c7]) y) := ⟨by have h := I7_8.out; rw [ly, ey1] at h; exact h⟩
                have HWc : Aside0 (Below w8.heap.size w8 w8) := ⟨Below.refl _ _⟩
                go_wp2_with fail
                go_region_held3 (fun w' => w'.cell? ⟨w6.heap.size, 0, none⟩ = some (.int .i64 x.f0) ∧ w'.cell? ⟨w6.heap.size, 1, none⟩ = some (.string x.f1) ∧ w'.cell? ⟨w6.heap.size, 2, none⟩ = some (.int .i64 x.f2) ∧ w'.cell? ⟨w6.heap.size, 3, none⟩ = some (.slice (some adx1) 3 c6) ∧ w'.cell? ⟨adx1.block, adx1.off + 4, none⟩ = some (.int .i64 x1.f0) ∧ w'.cell? ⟨adx1.block, adx1.off + 4 + 1, none⟩ = some (.string x1.f1) ∧ w'.cell? ⟨adx1.block, adx1.off + 4 + 2, none⟩ = some (.int .i64 x1.f2) ∧ w'.cell? ⟨adx1.block, adx1.off + 4 + 3, none⟩ = some (.slice Ax1 x1.f3.length cx1) ∧ w'.cell? ⟨adx1.block, adx1.off + 8, none⟩ = some (.int .i64 x2.f0) ∧ w'.cell? ⟨adx1.block, adx1.off + 8 + 1, none⟩ = some (.string x2.f1) ∧ w'.cell? ⟨adx1.block, adx1.off + 8 + 2, none⟩ = some (.int .i64 x2.f2) ∧ w'.cell? ⟨adx1.block, adx1.off + 8 + 3, none⟩ = some (.slice Ax2 x2.f3.length cx2) ∧ w'.cell? ⟨w7.heap.size, 0, none⟩ = some (.int .i64 y.f0) ∧ w'.cell? ⟨w7.heap.size, 1, none⟩ = some (.string y.f1) ∧ w'.cell? ⟨w7.heap.size, 2, none⟩ = some (.int .i64 y.f2) ∧ w'.cell? ⟨w7.heap.size, 3, none⟩ = some (.slice (some ady1) 3 c7) ∧ w'.cell? ⟨ady1.block, ady1.off + 4, none⟩ = some (.int .i64 y1.f0) ∧ w'.cell? ⟨ady1.block, ady1.off + 4 + 1, none⟩ = some (.string y1.f1) ∧ w'.cell? ⟨ady1.block, ady1.off + 4 + 2, none⟩ = some (.int .i64 y1.f2) ∧ w'.cell? ⟨ady1.block, ady1.off + 4 + 3, none⟩ = some (.slice Ay1 y1.f3.length cy1) ∧ w'.cell? ⟨ady1.block, ady1.off + 8, none⟩ = some (.int .i64 y2.f0) ∧ w'.cell? ⟨ady1.block, ady1.off + 8 + 1, none⟩ = some (.string y2.f1) ∧ w'.cell? ⟨ady1.block, ady1.off + 8 + 2, none⟩ = some (.int .i64 y2.f2) ∧ w'.cell? ⟨ady1.block, ady1.off + 8 + 3, none⟩ = some (.slice Ay2 y2.f3.length cy2))
                  (first | (with_reducible (go_split_ands; exact ⟨pw_cell_below hb (by assumption), pw_cell_below hb (by assumption), pw_cell_below hb (by assumption), pw_cell_below hb (by assumption), pw_cell_below hb (by assumption), pw_cell_below hb (by assumption), pw_cell_below hb (by assumption), pw_cell_below hb (by assumption), pw_cell_below hb (by assumption), pw_cell_below hb (by assumption), pw_cell_below hb (by assumption), pw_cell_below hb (by assumption), pw_cell_below hb (by assumption), pw_cell_below hb (by assumption), pw_cell_below hb (by assumption), pw_cell_below hb (by assumption), pw_cell_below hb (by assumption), pw_cell_below hb (by assumption), pw_cell_below hb (by assumption), pw_cell_below hb (by assumption), pw_cell_below hb (by assumption), pw_cell_below hb (by assumption), pw_cell_below hb (by assumption), pw_cell_below hb (by assumption)⟩)) | (with_reducible (go_split_ands; exact ⟨pw_cell_below (below_alloc (Below.refl _ _) _) (by assumption), pw_cell_below (below_alloc (Below.refl _ _) _) (by assumption), pw_cell_below (below_alloc (Below.refl _ _) _) (by assumption), pw_cell_below (below_alloc (Below.refl _ _) _) (by assumption), pw_cell_below (below_alloc (Below.refl _ _) _) (by assumption), pw_cell_below (below_alloc (Below.refl _ _) _) (by assumption), pw_cell_below (below_alloc (Below.refl _ _) _) (by assumption), pw_cell_below (below_alloc (Below.refl _ _) _) (by assumption), pw_cell_below (below_alloc (Below.refl _ _) _) (by assumption), pw_cell_below (below_alloc (Below.refl _ _) _) (by assumption), pw_cell_below (below_alloc (Below.refl _ _) _) (by assumption), pw_cell_below (below_alloc (Below.refl _ _) _) (by assumption), pw_cell_below (below_alloc (Below.refl _ _) _) (by assumption), pw_cell_below (below_alloc (Below.refl _ _) _) (by assumption), pw_cell_below (below_alloc (Below.refl _ _) _) (by assumption), pw_cell_below (below_alloc (Below.refl _ _) _) (by assumption), pw_cell_below (below_alloc (Below.refl _ _) _) (by assumption), pw_cell_below (below_alloc (Below.refl _ _) _) (by assumption), pw_cell_below (below_alloc (Below.refl _ _) _) (by assumption), pw_cell_below (below_alloc (Below.refl _ _) _) (by assumption), pw_cell_below (below_alloc (Below.refl _ _) _) (by assumption), pw_cell_below (below_alloc (Below.refl _ _) _) (by assumption), pw_cell_below (below_alloc (Below.refl _ _) _) (by assumption), pw_cell_below (below_alloc (Below.refl _ _) _) (by assumption)⟩)) | (with_reducible (go_split_ands; refine ⟨?_, ?_, ?_, ?_, ?_, ?_, ?_, ?_, ?_, ?_, ?_, ?_, ?_, ?_, ?_, ?_, ?_, ?_, ?_, ?_, ?_, ?_, ?_, ?_⟩ <;> assumption)) | (go_keep; done))
                  (first
                    | (go_simp; go_at_call 22; refine (Same_V (t := x) (s := y) _ (IX0.out.below (by repeat (first | exact HWc.out | apply below_alloc | apply pw_below_drewN | apply below_drew))) (IY0.out.below (by repeat (first | exact HWc.out | apply below_alloc | apply pw_below_drewN | apply below_drew)))).mono ?_; rw [HQ.out.1]; rintro e wz ⟨rfl, hb⟩; have HWn := Aside0.mk (below_step (by repeat (first | exact HWc.out | apply below_alloc | apply pw_below_drewN | apply below_drew)) hb); clear HWc; have HWc := HWn; clear HWn)
                    | (go_simp; go_at_call 22; refine (Same_V (t := x1) (s := y1) _ (Ix1.out.below (by repeat (first | exact HWc.out | apply below_alloc | apply pw_below_drewN | apply below_drew))) (Iy1.out.below (by repeat (first | exact HWc.out | apply below_alloc | apply pw_below_drewN | apply below_drew)))).mono ?_; rw [HQ.out.2.1]; rintro e wz ⟨rfl, hb⟩; have HWn := Aside0.mk (below_step (by repeat (first | exact HWc.out | apply below_alloc | apply pw_below_drewN | apply below_drew)) hb); clear HWc; have HWc := HWn; clear HWn)
                    | (go_simp; go_at_call 22; refine (Same_V (t := x2) (s := y2) _ (Ix2.out.below (by repeat (first | exact HWc.out | apply below_alloc | apply pw_below_drewN | apply below_drew))) (Iy2.out.below (by repeat (first | exact HWc.out | apply below_alloc | apply pw_below_drewN | apply below_drew)))).mono ?_; rw [HQ.out.2.2]; rintro e wz ⟨rfl, hb⟩; have HWn := Aside0.mk (below_step (by repeat (first | exact HWc.out | apply below_alloc | apply pw_below_drewN | apply below_drew)) hb); clear HWc; have HWc := HWn; clear HWn))
                all_goals go_wp2_with fail
                all_goals go_ret
                all_goals exact ⟨rfl, B_8.out.trans (HWc.out.mono B_8.out.size)⟩
end Go.Proofs.YtimommkbfbdkdaaDoor.P
