/- The walk of AuthzMore: it comes out true. -/
import Derived.Test.YtimommkbfbdkdaaDoorPAm
import Derived.Test.YtimommkbfbdkdaaDoorPAn
namespace Go.Proofs.YtimommkbfbdkdaaDoor.P
open Go.RowKit Go.Proofs.YtimommkbfbdkdaaDoorW.PrintWords Go.Proofs.YtimommkbfbdkdaaDoorW.PrintLast Go.Proofs.YtimommkbfbdkdaaDoorW.PrintMore
set_option linter.unusedVariables false
set_option linter.unusedSimpArgs false

theorem readA_n (t : S29) (hn : nT t ≤ 100000000) : nA (readA t) ≤ 1000000000 := by
  unfold readA
  have := rdTop_n t
  cases canR t with
  | false => rw [if_neg (by decide)]; decide
  | true => rw [if_pos rfl]; omega
theorem more_cases (t sv ce : S29) (hn : nT t ≤ 100000000) :
    (readE t = 50 ∧ readA t = zA ∧ srvE t sv = 50 ∧ srvA t sv = zA ∧ verE t sv ce = 50 ∧ verA t sv ce = zA) ∨
    (∃ a, validA a = true ∧ nA a ≤ 1000000000 ∧ readE t = 0 ∧ readA t = a ∧ ((srvE t sv = 62 ∧ srvA t sv = zA ∧ verE t sv ce = 62 ∧ verA t sv ce = zA) ∨
      (srvE t sv = 0 ∧ srvA t sv = a ∧ verE t sv ce = 62 ∧ verA t sv ce = zA) ∨ (srvE t sv = 0 ∧ srvA t sv = a ∧ verE t sv ce = 0 ∧ verA t sv ce = a))) := by
  cases h : canR t with
  | false =>
    have hs : okS t sv = false := by unfold okS; rw [h]; rfl
    have hv : okV t sv ce = false := by unfold okV; rw [hs]; rfl
    left
    unfold readE readA srvE srvA verE verA srvE
    simp [h, hs, hv]
  | true =>
    right
    refine ⟨readA t, canR_valid h, readA_n t hn, by unfold readE; rw [h]; rfl, rfl, ?_⟩
    cases hs : okS t sv with
    | false =>
      have hv : okV t sv ce = false := by unfold okV; rw [hs]; rfl
      left
      unfold srvE srvA verE verA srvE
      simp [h, hs, hv]
    | true =>
      right
      cases hv : okV t sv ce with
      | false => left; unfold srvE srvA verE verA; simp [h, hs, hv]
      | true => right; unfold srvE srvA verE verA; simp [h, hs, hv]

set_option maxHeartbeats 8000000 in
set_option maxRecDepth 100000 in
theorem AuthzMore_calls {t sv ce : S29} {A As Ac : Option Addr} {c cs cc : Nat} (w0 : World) (hL : Laid w0) (hn_t : nT t ≤ 10000000) (hn_sv : nT sv ≤ 10000000) (hn_ce : nT ce ≤ 10000000)
    (h0 : IsT w0 (.agg #[.int .i64 t.f0, .string t.f1, .int .i64 t.f2, .slice A t.f3.length c]) t) (h1 : IsT w0 (.agg #[.int .i64 sv.f0, .string sv.f1, .int .i64 sv.f2, .slice As sv.f3.length cs]) sv) (h2 : IsT w0 (.agg #[.int .i64 ce.f0, .string ce.f1, .int .i64 ce.f2, .slice Ac ce.f3.length cc]) ce) :
    V_ 4 #[(.agg #[.int .i64 t.f0, .string t.f1, .int .i64 t.f2, .slice A t.f3.length c]), (.agg #[.int .i64 sv.f0, .string sv.f1, .int .i64 sv.f2, .slice As sv.f3.length cs]), (.agg #[.int .i64 ce.f0, .string ce.f1, .int .i64 ce.f2, .slice Ac ce.f3.length cc])] w0 (.bool true) := by
  have hu25 := Tryd.underlying25
  have hu29 := Tryd.underlying29
  unfold V_
  have HL_0 := Aside0.mk (hL)
  have H0_0 := Aside0.mk (h0)
  have H1_0 := Aside0.mk (h1)
  have H2_0 := Aside0.mk (h2)
  have B_0 := Aside0.mk (Below.refl w0.heap.size w0)
  clear hL h0 h1 h2
  go_enter Tryd.func4, Tryd.ntmps4
  go_wp2_with fail
  refine (works_calls _ (HL_0.out.below (below_alloc (below_alloc (below_alloc (Below.refl _ _) _) _) _))).mono ?_
  rintro e w1 ⟨rfl, b1⟩
  obtain ⟨p1, z1, x1_0, x1_1, x1_2⟩ := three_boxes b1
  have HL_1 := Aside0.mk (HL_0.out.below p1)
  have H0_1 := Aside0.mk (H0_0.out.below p1)
  have H1_1 := Aside0.mk (H1_0.out.below p1)
  have H2_1 := Aside0.mk (H2_0.out.below p1)
  have B_1 := Aside0.mk (B_0.out.trans (p1.mono B_0.out.size))
  have X1_1 := Aside0.mk x1_0
  have X2_1 := Aside0.mk x1_1
  have X3_1 := Aside0.mk x1_2
  clear HL_0 H0_0 H1_0 H2_0 B_0 b1 p1 z1 x1_0 x1_1 x1_2
  obtain ⟨hq0_0, hq0_1, hq0_2, hq0_3⟩ := box_cells X1_1.out
  go_wp2_with fail
  refine (Large_V _ 300 (by omega) H0_1.out).mono ?_
  rintro e w2 ⟨rfl, b2⟩
  have HL_2 := Aside0.mk (HL_1.out.below b2)
  have H0_2 := Aside0.mk (H0_1.out.below b2)
  have H1_2 := Aside0.mk (H1_1.out.below b2)
  have H2_2 := Aside0.mk (H2_1.out.below b2)
  have B_2 := Aside0.mk (B_1.out.trans (b2.mono B_1.out.size))
  have X1_2 := Aside0.mk (blk_below X1_1.out b2)
  have X2_2 := Aside0.mk (blk_below X2_1.out b2)
  have X3_2 := Aside0.mk (blk_below X3_1.out b2)
  clear HL_1 H0_1 H1_1 H2_1 B_1 X1_1 X2_1 X3_1 hq0_0 hq0_1 hq0_2 hq0_3 b2
  cases hg2 : decide (((partsT t).length : Int) > 300) with
  | true =>
    go_wp2_with fail
    go_ret
    exact ⟨rfl, B_2.out⟩
  | false =>
    obtain ⟨hq1_0, hq1_1, hq1_2, hq1_3⟩ := box_cells X2_2.out
    go_wp2_with fail
    refine (Large_V _ 20 (by omega) H1_2.out).mono ?_
    rintro e w3 ⟨rfl, b3⟩
    have HL_3 := Aside0.mk (HL_2.out.below b3)
    have H0_3 := Aside0.mk (H0_2.out.below b3)
    have H1_3 := Aside0.mk (H1_2.out.below b3)
    have H2_3 := Aside0.mk (H2_2.out.below b3)
    have B_3 := Aside0.mk (B_2.out.trans (b3.mono B_2.out.size))
    have X1_3 := Aside0.mk (blk_below X1_2.out b3)
    have X2_3 := Aside0.mk (blk_below X2_2.out b3)
    have X3_3 := Aside0.mk (blk_below X3_2.out b3)
    clear HL_2 H0_2 H1_2 H2_2 B_2 X1_2 X2_2 X3_2 hq1_0 hq1_1 hq1_2 hq1_3 b3
    cases hg3 : decide (((partsT sv).length : Int) > 20) with
    | true =>
      go_wp2_with fail
      go_ret
      exact ⟨rfl, B_3.out⟩
    | false =>
      obtain ⟨hq2_0, hq2_1, hq2_2, hq2_3⟩ := box_cells X3_3.out
      go_wp2_with fail
      refine (Large_V _ 20 (by omega) H2_3.out).mono ?_
      rintro e w4 ⟨rfl, b4⟩
      have HL_4 := Aside0.mk (HL_3.out.below b4)
      have H0_4 := Aside0.mk (H0_3.out.below b4)
      have H1_4 := Aside0.mk (H1_3.out.below b4)
      have H2_4 := Aside0.mk (H2_3.out.below b4)
      have B_4 := Aside0.mk (B_3.out.trans (b4.mono B_3.out.size))
      have X1_4 := Aside0.mk (blk_below X1_3.out b4)
      have X2_4 := Aside0.mk (blk_below X2_3.out b4)
      have X3_4 := Aside0.mk (blk_below X3_3.out b4)
      clear HL_3 H0_3 H1_3 H2_3 B_3 X1_3 X2_3 X3_3 hq2_0 hq2_1 hq2_2 hq2_3 b4
      cases hg4 : decide (((partsT ce).length : Int) > 20) with
      | true =>
        go_wp2_with fail
        go_ret
        exact ⟨rfl, B_4.out⟩
      | false =>
        rcases more_cases t sv ce (by omega) with ⟨e1, e2, e3, e4, e5, e6⟩ | ⟨a, hv, hna, e1, e2, ⟨e3, e4, e5, e6⟩ | ⟨e3, e4, e5, e6⟩ | ⟨e3, e4, e5, e6⟩⟩
        ·
          have E1 := Aside0.mk (And.intro e1 e2)
          have E2 := Aside0.mk (And.intro e3 e4)
          have E3 := Aside0.mk (And.intro e5 e6)
          clear e1 e2 e3 e4 e5 e6
          obtain ⟨hq3_0, hq3_1, hq3_2, hq3_3⟩ := box_cells X1_4.out
          go_wp2_with fail
          refine (Read_calls (t := t) _ (by omega) H0_4.out).mono ?_
          rw [E1.out.1, E1.out.2]
          rintro e w5 ⟨v5, rfl, ⟨A5, c5, B5, d5, rfl, l5, F5, j5, G5⟩, b5⟩
          have HL_5 := Aside0.mk (HL_4.out.below b5)
          have H0_5 := Aside0.mk (H0_4.out.below b5)
          have H1_5 := Aside0.mk (H1_4.out.below b5)
          have H2_5 := Aside0.mk (H2_4.out.below b5)
          have B_5 := Aside0.mk (B_4.out.trans (b5.mono B_4.out.size))
          have X1_5 := Aside0.mk (blk_below X1_4.out b5)
          have X2_5 := Aside0.mk (blk_below X2_4.out b5)
          have X3_5 := Aside0.mk (blk_below X3_4.out b5)
          clear HL_4 H0_4 H1_4 H2_4 B_4 X1_4 X2_4 X3_4 hq3_0 hq3_1 hq3_2 hq3_3 b5
          have I5_5 := Aside0.mk ((show IsAF w5 _ (.agg #[.string zA.u, .slice A5 zA.g.length c5, .int .i64 zA.o, .slice B5 zA.tr.length d5, .string zA.s, .bool zA.fw, .int .i64 zA.tm]) zA from ⟨A5, c5, B5, d5, rfl, l5, F5, j5, G5⟩).now)
          clear l5 F5 j5 G5
          obtain ⟨hq4_0, hq4_1, hq4_2, hq4_3⟩ := box_cells (blk_alloc X1_5.out (.cells #[.string zA.u, .slice A5 zA.g.length c5, .int .i64 zA.o, .slice B5 zA.tr.length d5, .string zA.s, .bool zA.fw, .int .i64 zA.tm] 25))
          obtain ⟨hq5_0, hq5_1, hq5_2, hq5_3⟩ := box_cells (blk_alloc X2_5.out (.cells #[.string zA.u, .slice A5 zA.g.length c5, .int .i64 zA.o, .slice B5 zA.tr.length d5, .string zA.s, .bool zA.fw, .int .i64 zA.tm] 25))
          go_wp2_with fail
          refine (Server_calls (t := t) (sv := sv) _ (by omega) (H0_5.out.below (below_alloc (Below.refl _ _) _)) (H1_5.out.below (below_alloc (Below.refl _ _) _))).mono ?_
          rw [E2.out.1, E2.out.2]
          rintro e w6 ⟨v6, rfl, ⟨A6, c6, B6, d6, rfl, l6, F6, j6, G6⟩, b6⟩
          obtain ⟨p6, z6, x6_0⟩ := one_box b6
          have HL_6 := Aside0.mk (HL_5.out.below p6)
          have H0_6 := Aside0.mk (H0_5.out.below p6)
          have H1_6 := Aside0.mk (H1_5.out.below p6)
          have H2_6 := Aside0.mk (H2_5.out.below p6)
          have B_6 := Aside0.mk (B_5.out.trans (p6.mono B_5.out.size))
          have X1_6 := Aside0.mk (blk_below X1_5.out p6)
          have X2_6 := Aside0.mk (blk_below X2_5.out p6)
          have X3_6 := Aside0.mk (blk_below X3_5.out p6)
          have I5_6 := Aside0.mk (I5_5.out.below p6)
          have X4_6 := Aside0.mk x6_0
          clear HL_5 H0_5 H1_5 H2_5 B_5 X1_5 X2_5 X3_5 I5_5 hq4_0 hq4_1 hq4_2 hq4_3 hq5_0 hq5_1 hq5_2 hq5_3 b6 p6 z6 x6_0
          have I6_6 := Aside0.mk ((show IsAF w6 _ (.agg #[.string zA.u, .slice A6 zA.g.length c6, .int .i64 zA.o, .slice B6 zA.tr.length d6, .string zA.s, .bool zA.fw, .int .i64 zA.tm]) zA from ⟨A6, c6, B6, d6, rfl, l6, F6, j6, G6⟩).now)
          clear l6 F6 j6 G6
          obtain ⟨hq6_0, hq6_1, hq6_2, hq6_3⟩ := box_cells (blk_alloc X1_6.out (.cells #[.string zA.u, .slice A6 zA.g.length c6, .int .i64 zA.o, .slice B6 zA.tr.length d6, .string zA.s, .bool zA.fw, .int .i64 zA.tm] 25))
          obtain ⟨hq7_0, hq7_1, hq7_2, hq7_3⟩ := box_cells (blk_alloc X2_6.out (.cells #[.string zA.u, .slice A6 zA.g.length c6, .int .i64 zA.o, .slice B6 zA.tr.length d6, .string zA.s, .bool zA.fw, .int .i64 zA.tm] 25))
          obtain ⟨hq8_0, hq8_1, hq8_2, hq8_3⟩ := box_cells (blk_alloc X3_6.out (.cells #[.string zA.u, .slice A6 zA.g.length c6, .int .i64 zA.o, .slice B6 zA.tr.length d6, .string zA.s, .bool zA.fw, .int .i64 zA.tm] 25))
          go_wp2_with fail
          refine (Verify_calls (t := t) (sv := sv) (ce := ce) _ (by omega) (H0_6.out.below (below_alloc (Below.refl _ _) _)) (H1_6.out.below (below_alloc (Below.refl _ _) _)) (H2_6.out.below (below_alloc (Below.refl _ _) _))).mono ?_
          rw [E3.out.1, E3.out.2]
          rintro e w7 ⟨v7, rfl, ⟨A7, c7, B7, d7, rfl, l7, F7, j7, G7⟩, b7⟩
          obtain ⟨p7, z7, x7_0⟩ := one_box b7
          have HL_7 := Aside0.mk (HL_6.out.below p7)
          have H0_7 := Aside0.mk (H0_6.out.below p7)
          have H1_7 := Aside0.mk (H1_6.out.below p7)
          have H2_7 := Aside0.mk (H2_6.out.below p7)
          have B_7 := Aside0.mk (B_6.out.trans (p7.mono B_6.out.size))
          have X1_7 := Aside0.mk (blk_below X1_6.out p7)
          have X2_7 := Aside0.mk (blk_below X2_6.out p7)
          have X3_7 := Aside0.mk (blk_below X3_6.out p7)
          have I5_7 := Aside0.mk (I5_6.out.below p7)
          have X4_7 := Aside0.mk (blk_below X4_6.out p7)
          have I6_7 := Aside0.mk (I6_6.out.below p7)
          have X5_7 := Aside0.mk x7_0
          clear HL_6 H0_6 H1_6 H2_6 B_6 X1_6 X2_6 X3_6 I5_6 X4_6 I6_6 hq6_0 hq6_1 hq6_2 hq6_3 hq7_0 hq7_1 hq7_2 hq7_3 hq8_0 hq8_1 hq8_2 hq8_3 b7 p7 z7 x7_0
          have I7_7 := Aside0.mk ((show IsAF w7 _ (.agg #[.string zA.u, .slice A7 zA.g.length c7, .int .i64 zA.o, .slice B7 zA.tr.length d7, .string zA.s, .bool zA.fw, .int .i64 zA.tm]) zA from ⟨A7, c7, B7, d7, rfl, l7, F7, j7, G7⟩).now)
          clear l7 F7 j7 G7
          have IZ_7 := Aside0.mk ((isAF_z w7 (fun _ => True)).now)
          obtain ⟨hq9_0, hq9_1, hq9_2, hq9_3, hq9_4, hq9_5, hq9_6⟩ := boxA_cells (blk_alloc (blk_alloc X4_7.out (.cells #[.string zA.u, .slice A7 zA.g.length c7, .int .i64 zA.o, .slice B7 zA.tr.length d7, .string zA.s, .bool zA.fw, .int .i64 zA.tm] 25)) (.cells #[.string ⟨#[]⟩, .slice none 0 0, .int .i64 0, .slice none 0 0, .string ⟨#[]⟩, .bool false, .int .i64 0] 25))
          go_wp2_with fail
          refine (Same_A (a := zA) (b := zA) _ (by decide) (I5_7.out.below (below_alloc (below_alloc (Below.refl _ _) _) _)) (IZ_7.out.below (below_alloc (below_alloc (Below.refl _ _) _) _))).mono ?_
          rw [sameA_self zA]
          rintro e w8 ⟨rfl, b8⟩
          obtain ⟨p8, z8, x8_0, x8_1⟩ := two_boxes b8
          have HL_8 := Aside0.mk (HL_7.out.below p8)
          have H0_8 := Aside0.mk (H0_7.out.below p8)
          have H1_8 := Aside0.mk (H1_7.out.below p8)
          have H2_8 := Aside0.mk (H2_7.out.below p8)
          have B_8 := Aside0.mk (B_7.out.trans (p8.mono B_7.out.size))
          have X1_8 := Aside0.mk (blk_below X1_7.out p8)
          have X2_8 := Aside0.mk (blk_below X2_7.out p8)
          have X3_8 := Aside0.mk (blk_below X3_7.out p8)
          have I5_8 := Aside0.mk (I5_7.out.below p8)
          have X4_8 := Aside0.mk (blk_below X4_7.out p8)
          have I6_8 := Aside0.mk (I6_7.out.below p8)
          have X5_8 := Aside0.mk (blk_below X5_7.out p8)
          have I7_8 := Aside0.mk (I7_7.out.below p8)
          have IZ_8 := Aside0.mk (IZ_7.out.below p8)
          have X6_8 := Aside0.mk x8_0
          have X7_8 := Aside0.mk x8_1
          clear HL_7 H0_7 H1_7 H2_7 B_7 X1_7 X2_7 X3_7 I5_7 X4_7 I6_7 X5_7 I7_7 IZ_7 hq9_0 hq9_1 hq9_2 hq9_3 hq9_4 hq9_5 hq9_6 b8 p8 z8 x8_0 x8_1
          obtain ⟨hq10_0, hq10_1, hq10_2, hq10_3, hq10_4, hq10_5, hq10_6⟩ := boxA_cells X5_8.out
          obtain ⟨hq11_0, hq11_1, hq11_2, hq11_3, hq11_4, hq11_5, hq11_6⟩ := boxA_cells X7_8.out
          go_wp2_with fail
          refine (Same_A (a := zA) (b := zA) _ (by decide) I6_8.out IZ_8.out).mono ?_
          rw [sameA_self zA]
          rintro e w9 ⟨rfl, b9⟩
          have HL_9 := Aside0.mk (HL_8.out.below b9)
          have H0_9 := Aside0.mk (H0_8.out.below b9)
          have H1_9 := Aside0.mk (H1_8.out.below b9)
          have H2_9 := Aside0.mk (H2_8.out.below b9)
          have B_9 := Aside0.mk (B_8.out.trans (b9.mono B_8.out.size))
          have X1_9 := Aside0.mk (blk_below X1_8.out b9)
          have X2_9 := Aside0.mk (blk_below X2_8.out b9)
          have X3_9 := Aside0.mk (blk_below X3_8.out b9)
          have I5_9 := Aside0.mk (I5_8.out.below b9)
          have X4_9 := Aside0.mk (blk_below X4_8.out b9)
          have I6_9 := Aside0.mk (I6_8.out.below b9)
          have X5_9 := Aside0.mk (blk_below X5_8.out b9)
          have I7_9 := Aside0.mk (I7_8.out.below b9)
          have IZ_9 := Aside0.mk (IZ_8.out.below b9)
          have X6_9 := Aside0.mk (blk_below X6_8.out b9)
          have X7_9 := Aside0.mk (blk_below X7_8.out b9)
          clear HL_8 H0_8 H1_8 H2_8 B_8 X1_8 X2_8 X3_8 I5_8 X4_8 I6_8 X5_8 I7_8 IZ_8 X6_8 X7_8 hq10_0 hq10_1 hq10_2 hq10_3 hq10_4 hq10_5 hq10_6 hq11_0 hq11_1 hq11_2 hq11_3 hq11_4 hq11_5 hq11_6 b9
          obtain ⟨hq12_0, hq12_1, hq12_2, hq12_3, hq12_4, hq12_5, hq12_6⟩ := boxA_cells X6_9.out
          obtain ⟨hq13_0, hq13_1, hq13_2, hq13_3, hq13_4, hq13_5, hq13_6⟩ := boxA_cells X7_9.out
          go_wp2_with fail
          refine (Same_A (a := zA) (b := zA) _ (by decide) I7_9.out IZ_9.out).mono ?_
          rw [sameA_self zA]
          rintro e w10 ⟨rfl, b10⟩
          have HL_10 := Aside0.mk (HL_9.out.below b10)
          have H0_10 := Aside0.mk (H0_9.out.below b10)
          have H1_10 := Aside0.mk (H1_9.out.below b10)
          have H2_10 := Aside0.mk (H2_9.out.below b10)
          have B_10 := Aside0.mk (B_9.out.trans (b10.mono B_9.out.size))
          have X1_10 := Aside0.mk (blk_below X1_9.out b10)
          have X2_10 := Aside0.mk (blk_below X2_9.out b10)
          have X3_10 := Aside0.mk (blk_below X3_9.out b10)
          have I5_10 := Aside0.mk (I5_9.out.below b10)
          have X4_10 := Aside0.mk (blk_below X4_9.out b10)
          have I6_10 := Aside0.mk (I6_9.out.below b10)
          have X5_10 := Aside0.mk (blk_below X5_9.out b10)
          have I7_10 := Aside0.mk (I7_9.out.below b10)
          have IZ_10 := Aside0.mk (IZ_9.out.below b10)
          have X6_10 := Aside0.mk (blk_below X6_9.out b10)
          have X7_10 := Aside0.mk (blk_below X7_9.out b10)
          clear HL_9 H0_9 H1_9 H2_9 B_9 X1_9 X2_9 X3_9 I5_9 X4_9 I6_9 X5_9 I7_9 IZ_9 X6_9 X7_9 hq12_0 hq12_1 hq12_2 hq12_3 hq12_4 hq12_5 hq12_6 hq13_0 hq13_1 hq13_2 hq13_3 hq13_4 hq13_5 hq13_6 b10
          go_wp2_with fail
          go_ret
          exact ⟨rfl, B_10.out⟩
        ·
          have E1 := Aside0.mk (And.intro e1 e2)
          have E2 := Aside0.mk (And.intro e3 e4)
          have E3 := Aside0.mk (And.intro e5 e6)
          clear e1 e2 e3 e4 e5 e6
          have HV := Aside0.mk hv
          clear hv
          obtain ⟨hq3_0, hq3_1, hq3_2, hq3_3⟩ := box_cells X1_4.out
          go_wp2_with fail
          refine (Read_calls (t := t) _ (by omega) H0_4.out).mono ?_
          rw [E1.out.1, E1.out.2]
          rintro e w5 ⟨v5, rfl, ⟨A5, c5, B5, d5, rfl, l5, F5, j5, G5⟩, b5⟩
          have HL_5 := Aside0.mk (HL_4.out.below b5)
          have H0_5 := Aside0.mk (H0_4.out.below b5)
          have H1_5 := Aside0.mk (H1_4.out.below b5)
          have H2_5 := Aside0.mk (H2_4.out.below b5)
          have B_5 := Aside0.mk (B_4.out.trans (b5.mono B_4.out.size))
          have X1_5 := Aside0.mk (blk_below X1_4.out b5)
          have X2_5 := Aside0.mk (blk_below X2_4.out b5)
          have X3_5 := Aside0.mk (blk_below X3_4.out b5)
          clear HL_4 H0_4 H1_4 H2_4 B_4 X1_4 X2_4 X3_4 hq3_0 hq3_1 hq3_2 hq3_3 b5
          have I5_5 := Aside0.mk ((show IsAF w5 _ (.agg #[.string a.u, .slice A5 a.g.length c5, .int .i64 a.o, .slice B5 a.tr.length d5, .string a.s, .bool a.fw, .int .i64 a.tm]) a from ⟨A5, c5, B5, d5, rfl, l5, F5, j5, G5⟩).now)
          clear l5 F5 j5 G5
          obtain ⟨hq4_0, hq4_1, hq4_2, hq4_3⟩ := box_cells (blk_alloc X1_5.out (.cells #[.string a.u, .slice A5 a.g.length c5, .int .i64 a.o, .slice B5 a.tr.length d5, .string a.s, .bool a.fw, .int .i64 a.tm] 25))
          obtain ⟨hq5_0, hq5_1, hq5_2, hq5_3⟩ := box_cells (blk_alloc X2_5.out (.cells #[.string a.u, .slice A5 a.g.length c5, .int .i64 a.o, .slice B5 a.tr.length d5, .string a.s, .bool a.fw, .int .i64 a.tm] 25))
          go_wp2_with fail
          refine (Server_calls (t := t) (sv := sv) _ (by omega) (H0_5.out.below (below_alloc (Below.refl _ _) _)) (H1_5.out.below (below_alloc (Below.refl _ _) _))).mono ?_
          rw [E2.out.1, E2.out.2]
          rintro e w6 ⟨v6, rfl, ⟨A6, c6, B6, d6, rfl, l6, F6, j6, G6⟩, b6⟩
          obtain ⟨p6, z6, x6_0⟩ := one_box b6
          have HL_6 := Aside0.mk (HL_5.out.below p6)
          have H0_6 := Aside0.mk (H0_5.out.below p6)
          have H1_6 := Aside0.mk (H1_5.out.below p6)
          have H2_6 := Aside0.mk (H2_5.out.below p6)
          have B_6 := Aside0.mk (B_5.out.trans (p6.mono B_5.out.size))
          have X1_6 := Aside0.mk (blk_below X1_5.out p6)
          have X2_6 := Aside0.mk (blk_below X2_5.out p6)
          have X3_6 := Aside0.mk (blk_below X3_5.out p6)
          have I5_6 := Aside0.mk (I5_5.out.below p6)
          have X4_6 := Aside0.mk x6_0
          clear HL_5 H0_5 H1_5 H2_5 B_5 X1_5 X2_5 X3_5 I5_5 hq4_0 hq4_1 hq4_2 hq4_3 hq5_0 hq5_1 hq5_2 hq5_3 b6 p6 z6 x6_0
          have I6_6 := Aside0.mk ((show IsAF w6 _ (.agg #[.string zA.u, .slice A6 zA.g.length c6, .int .i64 zA.o, .slice B6 zA.tr.length d6, .string zA.s, .bool zA.fw, .int .i64 zA.tm]) zA from ⟨A6, c6, B6, d6, rfl, l6, F6, j6, G6⟩).now)
          clear l6 F6 j6 G6
          obtain ⟨hq6_0, hq6_1, hq6_2, hq6_3⟩ := box_cells (blk_alloc X1_6.out (.cells #[.string zA.u, .slice A6 zA.g.length c6, .int .i64 zA.o, .slice B6 zA.tr.length d6, .string zA.s, .bool zA.fw, .int .i64 zA.tm] 25))
          obtain ⟨hq7_0, hq7_1, hq7_2, hq7_3⟩ := box_cells (blk_alloc X2_6.out (.cells #[.string zA.u, .slice A6 zA.g.length c6, .int .i64 zA.o, .slice B6 zA.tr.length d6, .string zA.s, .bool zA.fw, .int .i64 zA.tm] 25))
          obtain ⟨hq8_0, hq8_1, hq8_2, hq8_3⟩ := box_cells (blk_alloc X3_6.out (.cells #[.string zA.u, .slice A6 zA.g.length c6, .int .i64 zA.o, .slice B6 zA.tr.length d6, .string zA.s, .bool zA.fw, .int .i64 zA.tm] 25))
          go_wp2_with fail
          refine (Verify_calls (t := t) (sv := sv) (ce := ce) _ (by omega) (H0_6.out.below (below_alloc (Below.refl _ _) _)) (H1_6.out.below (below_alloc (Below.refl _ _) _)) (H2_6.out.below (below_alloc (Below.refl _ _) _))).mono ?_
          rw [E3.out.1, E3.out.2]
          rintro e w7 ⟨v7, rfl, ⟨A7, c7, B7, d7, rfl, l7, F7, j7, G7⟩, b7⟩
          obtain ⟨p7, z7, x7_0⟩ := one_box b7
          have HL_7 := Aside0.mk (HL_6.out.below p7)
          have H0_7 := Aside0.mk (H0_6.out.below p7)
          have H1_7 := Aside0.mk (H1_6.out.below p7)
          have H2_7 := Aside0.mk (H2_6.out.below p7)
          have B_7 := Aside0.mk (B_6.out.trans (p7.mono B_6.out.size))
          have X1_7 := Aside0.mk (blk_below X1_6.out p7)
          have X2_7 := Aside0.mk (blk_below X2_6.out p7)
          have X3_7 := Aside0.mk (blk_below X3_6.out p7)
          have I5_7 := Aside0.mk (I5_6.out.below p7)
          have X4_7 := Aside0.mk (blk_below X4_6.out p7)
          have I6_7 := Aside0.mk (I6_6.out.below p7)
          have X5_7 := Aside0.mk x7_0
          clear HL_6 H0_6 H1_6 H2_6 B_6 X1_6 X2_6 X3_6 I5_6 X4_6 I6_6 hq6_0 hq6_1 hq6_2 hq6_3 hq7_0 hq7_1 hq7_2 hq7_3 hq8_0 hq8_1 hq8_2 hq8_3 b7 p7 z7 x7_0
          have I7_7 := Aside0.mk ((show IsAF w7 _ (.agg #[.string zA.u, .slice A7 zA.g.length c7, .int .i64 zA.o, .slice B7 zA.tr.length d7, .string zA.s, .bool zA.fw, .int .i64 zA.tm]) zA from ⟨A7, c7, B7, d7, rfl, l7, F7, j7, G7⟩).now)
          clear l7 F7 j7 G7
          have IZ_7 := Aside0.mk ((isAF_z w7 (fun _ => True)).now)
          obtain ⟨hq9_0, hq9_1, hq9_2, hq9_3, hq9_4, hq9_5, hq9_6⟩ := boxA_cells (blk_alloc (blk_alloc X5_7.out (.cells #[.string zA.u, .slice A7 zA.g.length c7, .int .i64 zA.o, .slice B7 zA.tr.length d7, .string zA.s, .bool zA.fw, .int .i64 zA.tm] 25)) (.cells #[.string ⟨#[]⟩, .slice none 0 0, .int .i64 0, .slice none 0 0, .string ⟨#[]⟩, .bool false, .int .i64 0] 25))
          go_wp2_with fail
          refine (Same_A (a := zA) (b := zA) _ (by decide) (I6_7.out.below (below_alloc (below_alloc (Below.refl _ _) _) _)) (IZ_7.out.below (below_alloc (below_alloc (Below.refl _ _) _) _))).mono ?_
          rw [sameA_self zA]
          rintro e w8 ⟨rfl, b8⟩
          obtain ⟨p8, z8, x8_0, x8_1⟩ := two_boxes b8
          have HL_8 := Aside0.mk (HL_7.out.below p8)
          have H0_8 := Aside0.mk (H0_7.out.below p8)
          have H1_8 := Aside0.mk (H1_7.out.below p8)
          have H2_8 := Aside0.mk (H2_7.out.below p8)
          have B_8 := Aside0.mk (B_7.out.trans (p8.mono B_7.out.size))
          have X1_8 := Aside0.mk (blk_below X1_7.out p8)
          have X2_8 := Aside0.mk (blk_below X2_7.out p8)
          have X3_8 := Aside0.mk (blk_below X3_7.out p8)
          have I5_8 := Aside0.mk (I5_7.out.below p8)
          have X4_8 := Aside0.mk (blk_below X4_7.out p8)
          have I6_8 := Aside0.mk (I6_7.out.below p8)
          have X5_8 := Aside0.mk (blk_below X5_7.out p8)
          have I7_8 := Aside0.mk (I7_7.out.below p8)
          have IZ_8 := Aside0.mk (IZ_7.out.below p8)
          have X6_8 := Aside0.mk x8_0
          have X7_8 := Aside0.mk x8_1
          clear HL_7 H0_7 H1_7 H2_7 B_7 X1_7 X2_7 X3_7 I5_7 X4_7 I6_7 X5_7 I7_7 IZ_7 hq9_0 hq9_1 hq9_2 hq9_3 hq9_4 hq9_5 hq9_6 b8 p8 z8 x8_0 x8_1
          obtain ⟨hq10_0, hq10_1, hq10_2, hq10_3, hq10_4, hq10_5, hq10_6⟩ := boxA_cells X6_8.out
          obtain ⟨hq11_0, hq11_1, hq11_2, hq11_3, hq11_4, hq11_5, hq11_6⟩ := boxA_cells X7_8.out
          go_wp2_with fail
          refine (Same_A (a := zA) (b := zA) _ (by decide) I7_8.out IZ_8.out).mono ?_
          rw [sameA_self zA]
          rintro e w9 ⟨rfl, b9⟩
          have HL_9 := Aside0.mk (HL_8.out.below b9)
          have H0_9 := Aside0.mk (H0_8.out.below b9)
          have H1_9 := Aside0.mk (H1_8.out.below b9)
          have H2_9 := Aside0.mk (H2_8.out.below b9)
          have B_9 := Aside0.mk (B_8.out.trans (b9.mono B_8.out.size))
          have X1_9 := Aside0.mk (blk_below X1_8.out b9)
          have X2_9 := Aside0.mk (blk_below X2_8.out b9)
          have X3_9 := Aside0.mk (blk_below X3_8.out b9)
          have I5_9 := Aside0.mk (I5_8.out.below b9)
          have X4_9 := Aside0.mk (blk_below X4_8.out b9)
          have I6_9 := Aside0.mk (I6_8.out.below b9)
          have X5_9 := Aside0.mk (blk_below X5_8.out b9)
          have I7_9 := Aside0.mk (I7_8.out.below b9)
          have IZ_9 := Aside0.mk (IZ_8.out.below b9)
          have X6_9 := Aside0.mk (blk_below X6_8.out b9)
          have X7_9 := Aside0.mk (blk_below X7_8.out b9)
          clear HL_8 H0_8 H1_8 H2_8 B_8 X1_8 X2_8 X3_8 I5_8 X4_8 I6_8 X5_8 I7_8 IZ_8 X6_8 X7_8 hq10_0 hq10_1 hq10_2 hq10_3 hq10_4 hq10_5 hq10_6 hq11_0 hq11_1 hq11_2 hq11_3 hq11_4 hq11_5 hq11_6 b9
          obtain ⟨hq12_0, hq12_1, hq12_2, hq12_3, hq12_4, hq12_5, hq12_6⟩ := boxA_cells X4_9.out
          go_wp2_with fail
          refine (Valid_calls (a := a) _ hna I5_9.out).mono ?_
          rw [HV.out]
          rintro e w10 ⟨rfl, b10⟩
          have HL_10 := Aside0.mk (HL_9.out.below b10)
          have H0_10 := Aside0.mk (H0_9.out.below b10)
          have H1_10 := Aside0.mk (H1_9.out.below b10)
          have H2_10 := Aside0.mk (H2_9.out.below b10)
          have B_10 := Aside0.mk (B_9.out.trans (b10.mono B_9.out.size))
          have X1_10 := Aside0.mk (blk_below X1_9.out b10)
          have X2_10 := Aside0.mk (blk_below X2_9.out b10)
          have X3_10 := Aside0.mk (blk_below X3_9.out b10)
          have I5_10 := Aside0.mk (I5_9.out.below b10)
          have X4_10 := Aside0.mk (blk_below X4_9.out b10)
          have I6_10 := Aside0.mk (I6_9.out.below b10)
          have X5_10 := Aside0.mk (blk_below X5_9.out b10)
          have I7_10 := Aside0.mk (I7_9.out.below b10)
          have IZ_10 := Aside0.mk (IZ_9.out.below b10)
          have X6_10 := Aside0.mk (blk_below X6_9.out b10)
          have X7_10 := Aside0.mk (blk_below X7_9.out b10)
          clear HL_9 H0_9 H1_9 H2_9 B_9 X1_9 X2_9 X3_9 I5_9 X4_9 I6_9 X5_9 I7_9 IZ_9 X6_9 X7_9 hq12_0 hq12_1 hq12_2 hq12_3 hq12_4 hq12_5 hq12_6 b10
          go_wp2_with fail
          go_ret
          exact ⟨rfl, B_10.out⟩
        ·
          have E1 := Aside0.mk (And.intro e1 e2)
          have E2 := Aside0.mk (And.intro e3 e4)
          have E3 := Aside0.mk (And.intro e5 e6)
          clear e1 e2 e3 e4 e5 e6
          have HV := Aside0.mk hv
          clear hv
          obtain ⟨hq3_0, hq3_1, hq3_2, hq3_3⟩ := box_cells X1_4.out
          go_wp2_with fail
          refine (Read_calls (t := t) _ (by omega) H0_4.out).mono ?_
          rw [E1.out.1, E1.out.2]
          rintro e w5 ⟨v5, rfl, ⟨A5, c5, B5, d5, rfl, l5, F5, j5, G5⟩, b5⟩
          have HL_5 := Aside0.mk (HL_4.out.below b5)
          have H0_5 := Aside0.mk (H0_4.out.below b5)
          have H1_5 := Aside0.mk (H1_4.out.below b5)
          have H2_5 := Aside0.mk (H2_4.out.below b5)
          have B_5 := Aside0.mk (B_4.out.trans (b5.mono B_4.out.size))
          have X1_5 := Aside0.mk (blk_below X1_4.out b5)
          have X2_5 := Aside0.mk (blk_below X2_4.out b5)
          have X3_5 := Aside0.mk (blk_below X3_4.out b5)
          clear HL_4 H0_4 H1_4 H2_4 B_4 X1_4 X2_4 X3_4 hq3_0 hq3_1 hq3_2 hq3_3 b5
          have I5_5 := Aside0.mk ((show IsAF w5 _ (.agg #[.string a.u, .slice A5 a.g.length c5, .int .i64 a.o, .slice B5 a.tr.length d5, .string a.s, .bool a.fw, .int .i64 a.tm]) a from ⟨A5, c5, B5, d5, rfl, l5, F5, j5, G5⟩).now)
          clear l5 F5 j5 G5
          obtain ⟨hq4_0, hq4_1, hq4_2, hq4_3⟩ := box_cells (blk_alloc X1_5.out (.cells #[.string a.u, .slice A5 a.g.length c5, .int .i64 a.o, .slice B5 a.tr.length d5, .string a.s, .bool a.fw, .int .i64 a.tm] 25))
          obtain ⟨hq5_0, hq5_1, hq5_2, hq5_3⟩ := box_cells (blk_alloc X2_5.out (.cells #[.string a.u, .slice A5 a.g.length c5, .int .i64 a.o, .slice B5 a.tr.length d5, .string a.s, .bool a.fw, .int .i64 a.tm] 25))
          go_wp2_with fail
          refine (Server_calls (t := t) (sv := sv) _ (by omega) (H0_5.out.below (below_alloc (Below.refl _ _) _)) (H1_5.out.below (below_alloc (Below.refl _ _) _))).mono ?_
          rw [E2.out.1, E2.out.2]
          rintro e w6 ⟨v6, rfl, ⟨A6, c6, B6, d6, rfl, l6, F6, j6, G6⟩, b6⟩
          obtain ⟨p6, z6, x6_0⟩ := one_box b6
          have HL_6 := Aside0.mk (HL_5.out.below p6)
          have H0_6 := Aside0.mk (H0_5.out.below p6)
          have H1_6 := Aside0.mk (H1_5.out.below p6)
          have H2_6 := Aside0.mk (H2_5.out.below p6)
          have B_6 := Aside0.mk (B_5.out.trans (p6.mono B_5.out.size))
          have X1_6 := Aside0.mk (blk_below X1_5.out p6)
          have X2_6 := Aside0.mk (blk_below X2_5.out p6)
          have X3_6 := Aside0.mk (blk_below X3_5.out p6)
          have I5_6 := Aside0.mk (I5_5.out.below p6)
          have X4_6 := Aside0.mk x6_0
          clear HL_5 H0_5 H1_5 H2_5 B_5 X1_5 X2_5 X3_5 I5_5 hq4_0 hq4_1 hq4_2 hq4_3 hq5_0 hq5_1 hq5_2 hq5_3 b6 p6 z6 x6_0
          have I6_6 := Aside0.mk ((show IsAF w6 _ (.agg #[.string a.u, .slice A6 a.g.length c6, .int .i64 a.o, .slice B6 a.tr.length d6, .string a.s, .bool a.fw, .int .i64 a.tm]) a from ⟨A6, c6, B6, d6, rfl, l6, F6, j6, G6⟩).now)
          clear l6 F6 j6 G6
          obtain ⟨hq6_0, hq6_1, hq6_2, hq6_3⟩ := box_cells (blk_alloc X1_6.out (.cells #[.string a.u, .slice A6 a.g.length c6, .int .i64 a.o, .slice B6 a.tr.length d6, .string a.s, .bool a.fw, .int .i64 a.tm] 25))
          obtain ⟨hq7_0, hq7_1, hq7_2, hq7_3⟩ := box_cells (blk_alloc X2_6.out (.cells #[.string a.u, .slice A6 a.g.length c6, .int .i64 a.o, .slice B6 a.tr.length d6, .string a.s, .bool a.fw, .int .i64 a.tm] 25))
          obtain ⟨hq8_0, hq8_1, hq8_2, hq8_3⟩ := box_cells (blk_alloc X3_6.out (.cells #[.string a.u, .slice A6 a.g.length c6, .int .i64 a.o, .slice B6 a.tr.length d6, .string a.s, .bool a.fw, .int .i64 a.tm] 25))
          go_wp2_with fail
          refine (Verify_calls (t := t) (sv := sv) (ce := ce) _ (by omega) (H0_6.out.below (below_alloc (Below.refl _ _) _)) (H1_6.out.below (below_alloc (Below.refl _ _) _)) (H2_6.out.below (below_alloc (Below.refl _ _) _))).mono ?_
          rw [E3.out.1, E3.out.2]
          rintro e w7 ⟨v7, rfl, ⟨A7, c7, B7, d7, rfl, l7, F7, j7, G7⟩, b7⟩
          obtain ⟨p7, z7, x7_0⟩ := one_box b7
          have HL_7 := Aside0.mk (HL_6.out.below p7)
          have H0_7 := Aside0.mk (H0_6.out.below p7)
          have H1_7 := Aside0.mk (H1_6.out.below p7)
          have H2_7 := Aside0.mk (H2_6.out.below p7)
          have B_7 := Aside0.mk (B_6.out.trans (p7.mono B_6.out.size))
          have X1_7 := Aside0.mk (blk_below X1_6.out p7)
          have X2_7 := Aside0.mk (blk_below X2_6.out p7)
          have X3_7 := Aside0.mk (blk_below X3_6.out p7)
          have I5_7 := Aside0.mk (I5_6.out.below p7)
          have X4_7 := Aside0.mk (blk_below X4_6.out p7)
          have I6_7 := Aside0.mk (I6_6.out.below p7)
          have X5_7 := Aside0.mk x7_0
          clear HL_6 H0_6 H1_6 H2_6 B_6 X1_6 X2_6 X3_6 I5_6 X4_6 I6_6 hq6_0 hq6_1 hq6_2 hq6_3 hq7_0 hq7_1 hq7_2 hq7_3 hq8_0 hq8_1 hq8_2 hq8_3 b7 p7 z7 x7_0
          have I7_7 := Aside0.mk ((show IsAF w7 _ (.agg #[.string zA.u, .slice A7 zA.g.length c7, .int .i64 zA.o, .slice B7 zA.tr.length d7, .string zA.s, .bool zA.fw, .int .i64 zA.tm]) zA from ⟨A7, c7, B7, d7, rfl, l7, F7, j7, G7⟩).now)
          clear l7 F7 j7 G7
          obtain ⟨hq9_0, hq9_1, hq9_2, hq9_3, hq9_4, hq9_5, hq9_6⟩ := boxA_cells (blk_alloc X4_7.out (.cells #[.string zA.u, .slice A7 zA.g.length c7, .int .i64 zA.o, .slice B7 zA.tr.length d7, .string zA.s, .bool zA.fw, .int .i64 zA.tm] 25))
          obtain ⟨hq10_0, hq10_1, hq10_2, hq10_3, hq10_4, hq10_5, hq10_6⟩ := boxA_cells (blk_alloc X5_7.out (.cells #[.string zA.u, .slice A7 zA.g.length c7, .int .i64 zA.o, .slice B7 zA.tr.length d7, .string zA.s, .bool zA.fw, .int .i64 zA.tm] 25))
          go_wp2_with fail
          refine (Same_A (a := a) (b := a) _ hna (I5_7.out.below (below_alloc (Below.refl _ _) _)) (I6_7.out.below (below_alloc (Below.refl _ _) _))).mono ?_
          rw [sameA_self a]
          rintro e w8 ⟨rfl, b8⟩
          obtain ⟨p8, z8, x8_0⟩ := one_box b8
          have HL_8 := Aside0.mk (HL_7.out.below p8)
          have H0_8 := Aside0.mk (H0_7.out.below p8)
          have H1_8 := Aside0.mk (H1_7.out.below p8)
          have H2_8 := Aside0.mk (H2_7.out.below p8)
          have B_8 := Aside0.mk (B_7.out.trans (p8.mono B_7.out.size))
          have X1_8 := Aside0.mk (blk_below X1_7.out p8)
          have X2_8 := Aside0.mk (blk_below X2_7.out p8)
          have X3_8 := Aside0.mk (blk_below X3_7.out p8)
          have I5_8 := Aside0.mk (I5_7.out.below p8)
          have X4_8 := Aside0.mk (blk_below X4_7.out p8)
          have I6_8 := Aside0.mk (I6_7.out.below p8)
          have X5_8 := Aside0.mk (blk_below X5_7.out p8)
          have I7_8 := Aside0.mk (I7_7.out.below p8)
          have X6_8 := Aside0.mk x8_0
          clear HL_7 H0_7 H1_7 H2_7 B_7 X1_7 X2_7 X3_7 I5_7 X4_7 I6_7 X5_7 I7_7 hq9_0 hq9_1 hq9_2 hq9_3 hq9_4 hq9_5 hq9_6 hq10_0 hq10_1 hq10_2 hq10_3 hq10_4 hq10_5 hq10_6 b8 p8 z8 x8_0
          have IZ_8 := Aside0.mk ((isAF_z w8 (fun _ => True)).now)
          obtain ⟨hq11_0, hq11_1, hq11_2, hq11_3, hq11_4, hq11_5, hq11_6⟩ := boxA_cells (blk_alloc X6_8.out (.cells #[.string ⟨#[]⟩, .slice none 0 0, .int .i64 0, .slice none 0 0, .string ⟨#[]⟩, .bool false, .int .i64 0] 25))
          go_wp2_with fail
          refine (Same_A (a := zA) (b := zA) _ (by decide) (I7_8.out.below (below_alloc (Below.refl _ _) _)) (IZ_8.out.below (below_alloc (Below.refl _ _) _))).mono ?_
          rw [sameA_self zA]
          rintro e w9 ⟨rfl, b9⟩
          obtain ⟨p9, z9, x9_0⟩ := one_box b9
          have HL_9 := Aside0.mk (HL_8.out.below p9)
          have H0_9 := Aside0.mk (H0_8.out.below p9)
          have H1_9 := Aside0.mk (H1_8.out.below p9)
          have H2_9 := Aside0.mk (H2_8.out.below p9)
          have B_9 := Aside0.mk (B_8.out.trans (p9.mono B_8.out.size))
          have X1_9 := Aside0.mk (blk_below X1_8.out p9)
          have X2_9 := Aside0.mk (blk_below X2_8.out p9)
          have X3_9 := Aside0.mk (blk_below X3_8.out p9)
          have I5_9 := Aside0.mk (I5_8.out.below p9)
          have X4_9 := Aside0.mk (blk_below X4_8.out p9)
          have I6_9 := Aside0.mk (I6_8.out.below p9)
          have X5_9 := Aside0.mk (blk_below X5_8.out p9)
          have I7_9 := Aside0.mk (I7_8.out.below p9)
          have X6_9 := Aside0.mk (blk_below X6_8.out p9)
          have IZ_9 := Aside0.mk (IZ_8.out.below p9)
          have X7_9 := Aside0.mk x9_0
          clear HL_8 H0_8 H1_8 H2_8 B_8 X1_8 X2_8 X3_8 I5_8 X4_8 I6_8 X5_8 I7_8 X6_8 IZ_8 hq11_0 hq11_1 hq11_2 hq11_3 hq11_4 hq11_5 hq11_6 b9 p9 z9 x9_0
          obtain ⟨hq12_0, hq12_1, hq12_2, hq12_3, hq12_4, hq12_5, hq12_6⟩ := boxA_cells X4_9.out
          go_wp2_with fail
          refine (Valid_calls (a := a) _ hna I5_9.out).mono ?_
          rw [HV.out]
          rintro e w10 ⟨rfl, b10⟩
          have HL_10 := Aside0.mk (HL_9.out.below b10)
          have H0_10 := Aside0.mk (H0_9.out.below b10)
          have H1_10 := Aside0.mk (H1_9.out.below b10)
          have H2_10 := Aside0.mk (H2_9.out.below b10)
          have B_10 := Aside0.mk (B_9.out.trans (b10.mono B_9.out.size))
          have X1_10 := Aside0.mk (blk_below X1_9.out b10)
          have X2_10 := Aside0.mk (blk_below X2_9.out b10)
          have X3_10 := Aside0.mk (blk_below X3_9.out b10)
          have I5_10 := Aside0.mk (I5_9.out.below b10)
          have X4_10 := Aside0.mk (blk_below X4_9.out b10)
          have I6_10 := Aside0.mk (I6_9.out.below b10)
          have X5_10 := Aside0.mk (blk_below X5_9.out b10)
          have I7_10 := Aside0.mk (I7_9.out.below b10)
          have X6_10 := Aside0.mk (blk_below X6_9.out b10)
          have IZ_10 := Aside0.mk (IZ_9.out.below b10)
          have X7_10 := Aside0.mk (blk_below X7_9.out b10)
          clear HL_9 H0_9 H1_9 H2_9 B_9 X1_9 X2_9 X3_9 I5_9 X4_9 I6_9 X5_9 I7_9 X6_9 IZ_9 X7_9 hq12_0 hq12_1 hq12_2 hq12_3 hq12_4 hq12_5 hq12_6 b10
          go_wp2_with fail
          go_ret
          exact ⟨rfl, B_10.out⟩
        ·
          have E1 := Aside0.mk (And.intro e1 e2)
          have E2 := Aside0.mk (And.intro e3 e4)
          have E3 := Aside0.mk (And.intro e5 e6)
          clear e1 e2 e3 e4 e5 e6
          have HV := Aside0.mk hv
          clear hv
          obtain ⟨hq3_0, hq3_1, hq3_2, hq3_3⟩ := box_cells X1_4.out
          go_wp2_with fail
          refine (Read_calls (t := t) _ (by omega) H0_4.out).mono ?_
          rw [E1.out.1, E1.out.2]
          rintro e w5 ⟨v5, rfl, ⟨A5, c5, B5, d5, rfl, l5, F5, j5, G5⟩, b5⟩
          have HL_5 := Aside0.mk (HL_4.out.below b5)
          have H0_5 := Aside0.mk (H0_4.out.below b5)
          have H1_5 := Aside0.mk (H1_4.out.below b5)
          have H2_5 := Aside0.mk (H2_4.out.below b5)
          have B_5 := Aside0.mk (B_4.out.trans (b5.mono B_4.out.size))
          have X1_5 := Aside0.mk (blk_below X1_4.out b5)
          have X2_5 := Aside0.mk (blk_below X2_4.out b5)
          have X3_5 := Aside0.mk (blk_below X3_4.out b5)
          clear HL_4 H0_4 H1_4 H2_4 B_4 X1_4 X2_4 X3_4 hq3_0 hq3_1 hq3_2 hq3_3 b5
          have I5_5 := Aside0.mk ((show IsAF w5 _ (.agg #[.string a.u, .slice A5 a.g.length c5, .int .i64 a.o, .slice B5 a.tr.length d5, .string a.s, .bool a.fw, .int .i64 a.tm]) a from ⟨A5, c5, B5, d5, rfl, l5, F5, j5, G5⟩).now)
          clear l5 F5 j5 G5
          obtain ⟨hq4_0, hq4_1, hq4_2, hq4_3⟩ := box_cells (blk_alloc X1_5.out (.cells #[.string a.u, .slice A5 a.g.length c5, .int .i64 a.o, .slice B5 a.tr.length d5, .string a.s, .bool a.fw, .int .i64 a.tm] 25))
          obtain ⟨hq5_0, hq5_1, hq5_2, hq5_3⟩ := box_cells (blk_alloc X2_5.out (.cells #[.string a.u, .slice A5 a.g.length c5, .int .i64 a.o, .slice B5 a.tr.length d5, .string a.s, .bool a.fw, .int .i64 a.tm] 25))
          go_wp2_with fail
          refine (Server_calls (t := t) (sv := sv) _ (by omega) (H0_5.out.below (below_alloc (Below.refl _ _) _)) (H1_5.out.below (below_alloc (Below.refl _ _) _))).mono ?_
          rw [E2.out.1, E2.out.2]
          rintro e w6 ⟨v6, rfl, ⟨A6, c6, B6, d6, rfl, l6, F6, j6, G6⟩, b6⟩
          obtain ⟨p6, z6, x6_0⟩ := one_box b6
          have HL_6 := Aside0.mk (HL_5.out.below p6)
          have H0_6 := Aside0.mk (H0_5.out.below p6)
          have H1_6 := Aside0.mk (H1_5.out.below p6)
          have H2_6 := Aside0.mk (H2_5.out.below p6)
          have B_6 := Aside0.mk (B_5.out.trans (p6.mono B_5.out.size))
          have X1_6 := Aside0.mk (blk_below X1_5.out p6)
          have X2_6 := Aside0.mk (blk_below X2_5.out p6)
          have X3_6 := Aside0.mk (blk_below X3_5.out p6)
          have I5_6 := Aside0.mk (I5_5.out.below p6)
          have X4_6 := Aside0.mk x6_0
          clear HL_5 H0_5 H1_5 H2_5 B_5 X1_5 X2_5 X3_5 I5_5 hq4_0 hq4_1 hq4_2 hq4_3 hq5_0 hq5_1 hq5_2 hq5_3 b6 p6 z6 x6_0
          have I6_6 := Aside0.mk ((show IsAF w6 _ (.agg #[.string a.u, .slice A6 a.g.length c6, .int .i64 a.o, .slice B6 a.tr.length d6, .string a.s, .bool a.fw, .int .i64 a.tm]) a from ⟨A6, c6, B6, d6, rfl, l6, F6, j6, G6⟩).now)
          clear l6 F6 j6 G6
          obtain ⟨hq6_0, hq6_1, hq6_2, hq6_3⟩ := box_cells (blk_alloc X1_6.out (.cells #[.string a.u, .slice A6 a.g.length c6, .int .i64 a.o, .slice B6 a.tr.length d6, .string a.s, .bool a.fw, .int .i64 a.tm] 25))
          obtain ⟨hq7_0, hq7_1, hq7_2, hq7_3⟩ := box_cells (blk_alloc X2_6.out (.cells #[.string a.u, .slice A6 a.g.length c6, .int .i64 a.o, .slice B6 a.tr.length d6, .string a.s, .bool a.fw, .int .i64 a.tm] 25))
          obtain ⟨hq8_0, hq8_1, hq8_2, hq8_3⟩ := box_cells (blk_alloc X3_6.out (.cells #[.string a.u, .slice A6 a.g.length c6, .int .i64 a.o, .slice B6 a.tr.length d6, .string a.s, .bool a.fw, .int .i64 a.tm] 25))
          go_wp2_with fail
          refine (Verify_calls (t := t) (sv := sv) (ce := ce) _ (by omega) (H0_6.out.below (below_alloc (Below.refl _ _) _)) (H1_6.out.below (below_alloc (Below.refl _ _) _)) (H2_6.out.below (below_alloc (Below.refl _ _) _))).mono ?_
          rw [E3.out.1, E3.out.2]
          rintro e w7 ⟨v7, rfl, ⟨A7, c7, B7, d7, rfl, l7, F7, j7, G7⟩, b7⟩
          obtain ⟨p7, z7, x7_0⟩ := one_box b7
          have HL_7 := Aside0.mk (HL_6.out.below p7)
          have H0_7 := Aside0.mk (H0_6.out.below p7)
          have H1_7 := Aside0.mk (H1_6.out.below p7)
          have H2_7 := Aside0.mk (H2_6.out.below p7)
          have B_7 := Aside0.mk (B_6.out.trans (p7.mono B_6.out.size))
          have X1_7 := Aside0.mk (blk_below X1_6.out p7)
          have X2_7 := Aside0.mk (blk_below X2_6.out p7)
          have X3_7 := Aside0.mk (blk_below X3_6.out p7)
          have I5_7 := Aside0.mk (I5_6.out.below p7)
          have X4_7 := Aside0.mk (blk_below X4_6.out p7)
          have I6_7 := Aside0.mk (I6_6.out.below p7)
          have X5_7 := Aside0.mk x7_0
          clear HL_6 H0_6 H1_6 H2_6 B_6 X1_6 X2_6 X3_6 I5_6 X4_6 I6_6 hq6_0 hq6_1 hq6_2 hq6_3 hq7_0 hq7_1 hq7_2 hq7_3 hq8_0 hq8_1 hq8_2 hq8_3 b7 p7 z7 x7_0
          have I7_7 := Aside0.mk ((show IsAF w7 _ (.agg #[.string a.u, .slice A7 a.g.length c7, .int .i64 a.o, .slice B7 a.tr.length d7, .string a.s, .bool a.fw, .int .i64 a.tm]) a from ⟨A7, c7, B7, d7, rfl, l7, F7, j7, G7⟩).now)
          clear l7 F7 j7 G7
          obtain ⟨hq9_0, hq9_1, hq9_2, hq9_3, hq9_4, hq9_5, hq9_6⟩ := boxA_cells (blk_alloc X5_7.out (.cells #[.string a.u, .slice A7 a.g.length c7, .int .i64 a.o, .slice B7 a.tr.length d7, .string a.s, .bool a.fw, .int .i64 a.tm] 25))
          go_wp2_with fail
          refine (Same_A (a := a) (b := a) _ hna (I6_7.out.below (below_alloc (Below.refl _ _) _)) (I7_7.out.below (below_alloc (Below.refl _ _) _))).mono ?_
          rw [sameA_self a]
          rintro e w8 ⟨rfl, b8⟩
          obtain ⟨p8, z8, x8_0⟩ := one_box b8
          have HL_8 := Aside0.mk (HL_7.out.below p8)
          have H0_8 := Aside0.mk (H0_7.out.below p8)
          have H1_8 := Aside0.mk (H1_7.out.below p8)
          have H2_8 := Aside0.mk (H2_7.out.below p8)
          have B_8 := Aside0.mk (B_7.out.trans (p8.mono B_7.out.size))
          have X1_8 := Aside0.mk (blk_below X1_7.out p8)
          have X2_8 := Aside0.mk (blk_below X2_7.out p8)
          have X3_8 := Aside0.mk (blk_below X3_7.out p8)
          have I5_8 := Aside0.mk (I5_7.out.below p8)
          have X4_8 := Aside0.mk (blk_below X4_7.out p8)
          have I6_8 := Aside0.mk (I6_7.out.below p8)
          have X5_8 := Aside0.mk (blk_below X5_7.out p8)
          have I7_8 := Aside0.mk (I7_7.out.below p8)
          have X6_8 := Aside0.mk x8_0
          clear HL_7 H0_7 H1_7 H2_7 B_7 X1_7 X2_7 X3_7 I5_7 X4_7 I6_7 X5_7 I7_7 hq9_0 hq9_1 hq9_2 hq9_3 hq9_4 hq9_5 hq9_6 b8 p8 z8 x8_0
          obtain ⟨hq10_0, hq10_1, hq10_2, hq10_3, hq10_4, hq10_5, hq10_6⟩ := boxA_cells X4_8.out
          obtain ⟨hq11_0, hq11_1, hq11_2, hq11_3, hq11_4, hq11_5, hq11_6⟩ := boxA_cells X5_8.out
          go_wp2_with fail
          refine (Same_A (a := a) (b := a) _ hna I5_8.out I6_8.out).mono ?_
          rw [sameA_self a]
          rintro e w9 ⟨rfl, b9⟩
          have HL_9 := Aside0.mk (HL_8.out.below b9)
          have H0_9 := Aside0.mk (H0_8.out.below b9)
          have H1_9 := Aside0.mk (H1_8.out.below b9)
          have H2_9 := Aside0.mk (H2_8.out.below b9)
          have B_9 := Aside0.mk (B_8.out.trans (b9.mono B_8.out.size))
          have X1_9 := Aside0.mk (blk_below X1_8.out b9)
          have X2_9 := Aside0.mk (blk_below X2_8.out b9)
          have X3_9 := Aside0.mk (blk_below X3_8.out b9)
          have I5_9 := Aside0.mk (I5_8.out.below b9)
          have X4_9 := Aside0.mk (blk_below X4_8.out b9)
          have I6_9 := Aside0.mk (I6_8.out.below b9)
          have X5_9 := Aside0.mk (blk_below X5_8.out b9)
          have I7_9 := Aside0.mk (I7_8.out.below b9)
          have X6_9 := Aside0.mk (blk_below X6_8.out b9)
          clear HL_8 H0_8 H1_8 H2_8 B_8 X1_8 X2_8 X3_8 I5_8 X4_8 I6_8 X5_8 I7_8 X6_8 hq10_0 hq10_1 hq10_2 hq10_3 hq10_4 hq10_5 hq10_6 hq11_0 hq11_1 hq11_2 hq11_3 hq11_4 hq11_5 hq11_6 b9
          have IZ_9 := Aside0.mk ((isAF_z w9 (fun _ => True)).now)
          obtain ⟨hq12_0, hq12_1, hq12_2, hq12_3, hq12_4, hq12_5, hq12_6⟩ := boxA_cells (blk_alloc X4_9.out (.cells #[.string ⟨#[]⟩, .slice none 0 0, .int .i64 0, .slice none 0 0, .string ⟨#[]⟩, .bool false, .int .i64 0] 25))
          go_wp2_with fail
          refine (Valid_calls (a := a) _ hna (I5_9.out.below (below_alloc (Below.refl _ _) _))).mono ?_
          rw [HV.out]
          rintro e w10 ⟨rfl, b10⟩
          obtain ⟨p10, z10, x10_0⟩ := one_box b10
          have HL_10 := Aside0.mk (HL_9.out.below p10)
          have H0_10 := Aside0.mk (H0_9.out.below p10)
          have H1_10 := Aside0.mk (H1_9.out.below p10)
          have H2_10 := Aside0.mk (H2_9.out.below p10)
          have B_10 := Aside0.mk (B_9.out.trans (p10.mono B_9.out.size))
          have X1_10 := Aside0.mk (blk_below X1_9.out p10)
          have X2_10 := Aside0.mk (blk_below X2_9.out p10)
          have X3_10 := Aside0.mk (blk_below X3_9.out p10)
          have I5_10 := Aside0.mk (I5_9.out.below p10)
          have X4_10 := Aside0.mk (blk_below X4_9.out p10)
          have I6_10 := Aside0.mk (I6_9.out.below p10)
          have X5_10 := Aside0.mk (blk_below X5_9.out p10)
          have I7_10 := Aside0.mk (I7_9.out.below p10)
          have X6_10 := Aside0.mk (blk_below X6_9.out p10)
          have IZ_10 := Aside0.mk (IZ_9.out.below p10)
          have X7_10 := Aside0.mk x10_0
          clear HL_9 H0_9 H1_9 H2_9 B_9 X1_9 X2_9 X3_9 I5_9 X4_9 I6_9 X5_9 I7_9 X6_9 IZ_9 hq12_0 hq12_1 hq12_2 hq12_3 hq12_4 hq12_5 hq12_6 b10 p10 z10 x10_0
          go_wp2_with fail
          go_ret
          exact ⟨rfl, B_10.out⟩
end Go.Proofs.YtimommkbfbdkdaaDoor.P
