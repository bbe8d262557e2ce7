/- The law TermOnce comes out true. -/
import Derived.Test.YtlhfekhmfeafbaaDoorPHq
import Derived.Test.YtlhfekhmfeafbaaDoorPLk
namespace Go.Proofs.YtlhfekhmfeafbaaDoor.P
open Go.RowKit Go.Proofs.YtlhfekhmfeafbaaDoorW.PrintWords Go.Proofs.YtlhfekhmfeafbaaDoorW.PrintLast Go.Proofs.YtlhfekhmfeafbaaDoorW.PrintMore
set_option linter.unusedVariables false
set_option linter.unusedSimpArgs false

set_option maxHeartbeats 8000000 in
set_option maxRecDepth 100000 in
theorem TermOnce_calls (t u : S25) (A0 A1 : Option Addr) (c0 c1 : Nat) (w : World) (hL : Laid w) (hn : nT t ≤ 1000000000) (hm : nT u ≤ 1000000000) (hok : okT t) (hol : okT u)
    (hT : IsT w (.agg #[.int .i64 t.f0, .string t.f1, .int .i64 t.f2, .slice A0 t.f3.length c0]) t) (hU : IsT w (.agg #[.int .i64 u.f0, .string u.f1, .int .i64 u.f2, .slice A1 u.f3.length c1]) u) :
    V_ 6 #[.agg #[.int .i64 t.f0, .string t.f1, .int .i64 t.f2, .slice A0 t.f3.length c0], .agg #[.int .i64 u.f0, .string u.f1, .int .i64 u.f2, .slice A1 u.f3.length c1]] w (.bool true) := by
  have hu25 := Tryd.underlying25
  have HL := Aside0.mk hL
  have HTa := Aside0.mk hT
  have HTb := Aside0.mk hU
  clear hL hT hU
  unfold V_
  have HW : Aside0 (∀ W, Below w.heap.size w W → V_ 10 #[] W (.bool true)) := ⟨fun W hW => works_calls W (HL.out.below hW)⟩
  go_enter Tryd.func6, Tryd.ntmps6
  go_wp2_with fail
  refine (HW.out _ (below_alloc (below_alloc (Below.refl _ _) _) _)).mono ?_
  clear HW
  rintro e w1 ⟨rfl, b1⟩
  obtain ⟨p1, q1, ra, rb⟩ := two_boxes b1
  have B1 := Aside0.mk p1
  have Xa1 := Aside0.mk ra
  have Xb1 := Aside0.mk rb
  have Ta1 := Aside0.mk (HTa.out.below p1)
  have Tb1 := Aside0.mk (HTb.out.below p1)
  clear b1 p1 ra rb HTa HTb
  obtain ⟨ha0, ha1, ha2, ha3⟩ := box_cells Xa1.out
  obtain ⟨hb0, hb1, hb2, hb3⟩ := box_cells Xb1.out
  go_wp2_with fail
  refine (Large_V _ 200 hn Ta1.out).mono ?_
  rintro e w2 ⟨rfl, b2⟩
  have Xa2 := Aside0.mk (blk_below Xa1.out b2)
  have Ta2 := Aside0.mk (Ta1.out.below b2)
  have Xb2 := Aside0.mk (blk_below Xb1.out b2)
  have Tb2 := Aside0.mk (Tb1.out.below b2)
  have B2 := Aside0.mk (B1.out.trans (b2.mono B1.out.size))
  clear Xa1 Ta1 Xb1 Tb1 B1 b2 ha0 ha1 ha2 ha3 hb0 hb1 hb2 hb3
  obtain ⟨ha0, ha1, ha2, ha3⟩ := box_cells Xa2.out
  obtain ⟨hb0, hb1, hb2, hb3⟩ := box_cells Xb2.out
  go_wp2_with fail
  refine (Large_V _ 200 hm Tb2.out).mono ?_
  rintro e w3 ⟨rfl, b3⟩
  have Xa3 := Aside0.mk (blk_below Xa2.out b3)
  have Ta3 := Aside0.mk (Ta2.out.below b3)
  have Xb3 := Aside0.mk (blk_below Xb2.out b3)
  have Tb3 := Aside0.mk (Tb2.out.below b3)
  have B3 := Aside0.mk (B2.out.trans (b3.mono B2.out.size))
  clear Xa2 Ta2 Xb2 Tb2 B2 b3 ha0 ha1 ha2 ha3 hb0 hb1 hb2 hb3
  obtain ⟨ha0, ha1, ha2, ha3⟩ := box_cells Xa3.out
  obtain ⟨hb0, hb1, hb2, hb3⟩ := box_cells Xb3.out
  obtain ⟨L1, hL1⟩ : ∃ b, b = decide (((partsT t).length : Int) > 200) := ⟨_, rfl⟩
  obtain ⟨L2, hL2⟩ : ∃ b, b = decide (((partsT u).length : Int) > 200) := ⟨_, rfl⟩
  rw [← hL1, ← hL2]
  clear hL1 hL2
  cases L1 with
  | true =>
    go_wp2_with fail
    go_ret
    exact ⟨rfl, B3.out⟩
  | false =>
  cases L2 with
  | true =>
    go_wp2_with fail
    go_ret
    exact ⟨rfl, B3.out⟩
  | false =>
  obtain ⟨sm, hsm⟩ : ∃ b, b = (oT t u == 0) := ⟨_, rfl⟩
  obtain ⟨ta, hta⟩ : ∃ b, b = textB t := ⟨_, rfl⟩
  obtain ⟨tb, htb⟩ : ∃ b, b = textB u := ⟨_, rfl⟩
  obtain ⟨g1, hg1⟩ : ∃ b, b = gT t := ⟨_, rfl⟩
  obtain ⟨g2, hg2⟩ : ∃ b, b = gT u := ⟨_, rfl⟩
  obtain ⟨v1, hv1⟩ : ∃ b, b = vT t 0 := ⟨_, rfl⟩
  obtain ⟨v2, hv2⟩ : ∃ b, b = vT u 0 := ⟨_, rfl⟩
  have F1 : sm = true → ta = tb := fun h => by rw [hsm] at h; rw [hta, htb, oT_zero t u (by simpa using h)]
  have F2 : ta = tb → g1 = false → g2 = false → v1 = true → v2 = true → sm = true := fun h e1 e2 e3 e4 => by
    have := text_once hn hm (hv1 ▸ e3) (hv2 ▸ e4) (hg1 ▸ e1) (hg2 ▸ e2) (by rw [← hta, ← htb, h])
    rw [hsm, this, oT_self]; rfl
  have VA : Aside0 (∀ W, Below w3.heap.size w3 W → V_ 19 #[.agg #[.int .i64 t.f0, .string t.f1, .int .i64 t.f2, .slice A0 t.f3.length c0]] W (.string ta)) := ⟨fun W hW => hta ▸ Text_V W hn hok (HL.out.below (B3.out.trans (hW.mono B3.out.size))) (Ta3.out.below hW)⟩
  have VB : Aside0 (∀ W, Below w3.heap.size w3 W → V_ 19 #[.agg #[.int .i64 u.f0, .string u.f1, .int .i64 u.f2, .slice A1 u.f3.length c1]] W (.string tb)) := ⟨fun W hW => htb ▸ Text_V W hm hol (HL.out.below (B3.out.trans (hW.mono B3.out.size))) (Tb3.out.below hW)⟩
  have HF1 := Aside0.mk F1
  have HF2 := Aside0.mk F2
  have Hsm := Aside0.mk hsm
  have Hg1 := Aside0.mk hg1
  have Hg2 := Aside0.mk hg2
  have Hv1 := Aside0.mk hv1
  have Hv2 := Aside0.mk hv2
  clear F1 F2 hsm hta htb hg1 hg2 hv1 hv2
  have HWc : Aside0 (Below w3.heap.size w3 w3) := ⟨Below.refl _ _⟩
  go_wp2_with fail
  go_region_held3 (fun w' => w'.cell? ⟨w.heap.size, 0, none⟩ = some (.int .i64 t.f0) ∧ w'.cell? ⟨w.heap.size, 1, none⟩ = some (.string t.f1) ∧ w'.cell? ⟨w.heap.size, 2, none⟩ = some (.int .i64 t.f2) ∧ w'.cell? ⟨w.heap.size, 3, none⟩ = some (.slice A0 t.f3.length c0) ∧ w'.cell? ⟨w.heap.size + 1, 0, none⟩ = some (.int .i64 u.f0) ∧ w'.cell? ⟨w.heap.size + 1, 1, none⟩ = some (.string u.f1) ∧ w'.cell? ⟨w.heap.size + 1, 2, none⟩ = some (.int .i64 u.f2) ∧ w'.cell? ⟨w.heap.size + 1, 3, none⟩ = some (.slice A1 u.f3.length c1))
    (first | (go_keep; done) | (go_split_ands; exact ⟨pw_cell_below hb (by assumption), pw_cell_below hb (by assumption), pw_cell_below hb (by assumption), pw_cell_below hb (by assumption), pw_cell_below hb (by assumption), pw_cell_below hb (by assumption), pw_cell_below hb (by assumption), pw_cell_below hb (by assumption)⟩) | (go_split_ands; refine ⟨?_, ?_, ?_, ?_, ?_, ?_, ?_, ?_⟩ <;> assumption))
    (first
      | (go_simp; go_at_call 19; refine (VA.out _ (by repeat (first | exact HWc.out | apply below_alloc | apply pw_below_drewN | apply below_drew))).mono ?_; clear VA; rintro e wz ⟨rfl, hb⟩; have HWn := Aside0.mk (below_step (by repeat (first | exact HWc.out | apply below_alloc | apply pw_below_drewN | apply below_drew)) hb); clear HWc; have HWc := HWn; clear HWn)
      | (go_simp; go_at_call 19; refine (VB.out _ (by repeat (first | exact HWc.out | apply below_alloc | apply pw_below_drewN | apply below_drew))).mono ?_; clear VB; rintro e wz ⟨rfl, hb⟩; have HWn := Aside0.mk (below_step (by repeat (first | exact HWc.out | apply below_alloc | apply pw_below_drewN | apply below_drew)) hb); clear HWc; have HWc := HWn; clear HWn))
  obtain ⟨w4, hw4⟩ : ∃ w4, w4 = wz := ⟨_, rfl⟩
  rw [← hw4] at HWc ⊢
  have b4 := HWc.out
  clear HWc hb hw4
  have Xa4 := Aside0.mk (blk_below Xa3.out b4)
  have Ta4 := Aside0.mk (Ta3.out.below b4)
  have Xb4 := Aside0.mk (blk_below Xb3.out b4)
  have Tb4 := Aside0.mk (Tb3.out.below b4)
  have B4 := Aside0.mk (B3.out.trans (b4.mono B3.out.size))
  clear Xa3 Ta3 Xb3 Tb3 B3 b4 ha0 ha1 ha2 ha3 hb0 hb1 hb2 hb3
  obtain ⟨ha0, ha1, ha2, ha3⟩ := box_cells Xa4.out
  obtain ⟨hb0, hb1, hb2, hb3⟩ := box_cells Xb4.out
  obtain ⟨tq, htq⟩ : ∃ b, b = (ta.toList == tb.toList) := ⟨_, rfl⟩
  have hqe : tq = true ↔ ta = tb := by
    rw [htq, beq_iff_eq, Lib.toList_data, Lib.toList_data]
    exact ⟨fun h => ByteArray.ext (Array.toList_inj.1 h), fun h => by rw [h]⟩
  rw [← htq]
  have G1 : Aside0 (sm = true → tq = true) := ⟨fun h => hqe.2 (HF1.out h)⟩
  have G2 : Aside0 (tq = true → g1 = false → g2 = false → v1 = true → v2 = true → sm = true) := ⟨fun h => HF2.out (hqe.1 h)⟩
  clear htq hqe HF1 HF2
  go_wp2_with fail
  refine (Same_V _ Ta4.out Tb4.out).mono ?_
  rw [← Hsm.out]
  rintro e w5 ⟨rfl, b5⟩
  have Xa5 := Aside0.mk (blk_below Xa4.out b5)
  have Ta5 := Aside0.mk (Ta4.out.below b5)
  have Xb5 := Aside0.mk (blk_below Xb4.out b5)
  have Tb5 := Aside0.mk (Tb4.out.below b5)
  have B5 := Aside0.mk (B4.out.trans (b5.mono B4.out.size))
  clear Xa4 Ta4 Xb4 Tb4 B4 b5 ha0 ha1 ha2 ha3 hb0 hb1 hb2 hb3
  obtain ⟨ha0, ha1, ha2, ha3⟩ := box_cells Xa5.out
  obtain ⟨hb0, hb1, hb2, hb3⟩ := box_cells Xb5.out
  cases tq with
  | false =>
    cases sm with
    | true => exact absurd (G1.out rfl) (by decide)
    | false =>
    go_wp2_with fail
    refine (dig_V _ hn Ta5.out).mono ?_
    rw [← Hg1.out]
    rintro e w6 ⟨rfl, b6⟩
    have Xa6 := Aside0.mk (blk_below Xa5.out b6)
    have Ta6 := Aside0.mk (Ta5.out.below b6)
    have Xb6 := Aside0.mk (blk_below Xb5.out b6)
    have Tb6 := Aside0.mk (Tb5.out.below b6)
    have B6 := Aside0.mk (B5.out.trans (b6.mono B5.out.size))
    clear Xa5 Ta5 Xb5 Tb5 B5 b6 ha0 ha1 ha2 ha3 hb0 hb1 hb2 hb3
    obtain ⟨ha0, ha1, ha2, ha3⟩ := box_cells Xa6.out
    obtain ⟨hb0, hb1, hb2, hb3⟩ := box_cells Xb6.out
    cases g1 with
    | true =>
      go_wp2_with fail
      go_ret
      exact ⟨rfl, B6.out⟩
    | false =>
    go_wp2_with fail
    refine (dig_V _ hm Tb6.out).mono ?_
    rw [← Hg2.out]
    rintro e w7 ⟨rfl, b7⟩
    have Xa7 := Aside0.mk (blk_below Xa6.out b7)
    have Ta7 := Aside0.mk (Ta6.out.below b7)
    have Xb7 := Aside0.mk (blk_below Xb6.out b7)
    have Tb7 := Aside0.mk (Tb6.out.below b7)
    have B7 := Aside0.mk (B6.out.trans (b7.mono B6.out.size))
    clear Xa6 Ta6 Xb6 Tb6 B6 b7 ha0 ha1 ha2 ha3 hb0 hb1 hb2 hb3
    obtain ⟨ha0, ha1, ha2, ha3⟩ := box_cells Xa7.out
    obtain ⟨hb0, hb1, hb2, hb3⟩ := box_cells Xb7.out
    cases g2 with
    | true =>
      go_wp2_with fail
      go_ret
      exact ⟨rfl, B7.out⟩
    | false =>
    go_wp2_with fail
    go_ret
    exact ⟨rfl, B7.out⟩
  | true =>
  cases sm with
  | true =>
    go_wp2_with fail
    refine (dig_V _ hn Ta5.out).mono ?_
    rw [← Hg1.out]
    rintro e w6 ⟨rfl, b6⟩
    have Xa6 := Aside0.mk (blk_below Xa5.out b6)
    have Ta6 := Aside0.mk (Ta5.out.below b6)
    have Xb6 := Aside0.mk (blk_below Xb5.out b6)
    have Tb6 := Aside0.mk (Tb5.out.below b6)
    have B6 := Aside0.mk (B5.out.trans (b6.mono B5.out.size))
    clear Xa5 Ta5 Xb5 Tb5 B5 b6 ha0 ha1 ha2 ha3 hb0 hb1 hb2 hb3
    obtain ⟨ha0, ha1, ha2, ha3⟩ := box_cells Xa6.out
    obtain ⟨hb0, hb1, hb2, hb3⟩ := box_cells Xb6.out
    cases g1 with
    | true =>
      go_wp2_with fail
      go_ret
      exact ⟨rfl, B6.out⟩
    | false =>
    go_wp2_with fail
    refine (dig_V _ hm Tb6.out).mono ?_
    rw [← Hg2.out]
    rintro e w7 ⟨rfl, b7⟩
    have Xa7 := Aside0.mk (blk_below Xa6.out b7)
    have Ta7 := Aside0.mk (Ta6.out.below b7)
    have Xb7 := Aside0.mk (blk_below Xb6.out b7)
    have Tb7 := Aside0.mk (Tb6.out.below b7)
    have B7 := Aside0.mk (B6.out.trans (b7.mono B6.out.size))
    clear Xa6 Ta6 Xb6 Tb6 B6 b7 ha0 ha1 ha2 ha3 hb0 hb1 hb2 hb3
    obtain ⟨ha0, ha1, ha2, ha3⟩ := box_cells Xa7.out
    obtain ⟨hb0, hb1, hb2, hb3⟩ := box_cells Xb7.out
    cases g2 with
    | true =>
      go_wp2_with fail
      go_ret
      exact ⟨rfl, B7.out⟩
    | false =>
    go_wp2_with fail
    go_ret
    exact ⟨rfl, B7.out⟩
  | false =>
  go_wp2_with fail
  refine (dig_V _ hn Ta5.out).mono ?_
  rw [← Hg1.out]
  rintro e w6 ⟨rfl, b6⟩
  have Xa6 := Aside0.mk (blk_below Xa5.out b6)
  have Ta6 := Aside0.mk (Ta5.out.below b6)
  have Xb6 := Aside0.mk (blk_below Xb5.out b6)
  have Tb6 := Aside0.mk (Tb5.out.below b6)
  have B6 := Aside0.mk (B5.out.trans (b6.mono B5.out.size))
  clear Xa5 Ta5 Xb5 Tb5 B5 b6 ha0 ha1 ha2 ha3 hb0 hb1 hb2 hb3
  obtain ⟨ha0, ha1, ha2, ha3⟩ := box_cells Xa6.out
  obtain ⟨hb0, hb1, hb2, hb3⟩ := box_cells Xb6.out
  cases g1 with
  | true =>
    go_wp2_with fail
    go_ret
    exact ⟨rfl, B6.out⟩
  | false =>
  go_wp2_with fail
  refine (dig_V _ hm Tb6.out).mono ?_
  rw [← Hg2.out]
  rintro e w7 ⟨rfl, b7⟩
  have Xa7 := Aside0.mk (blk_below Xa6.out b7)
  have Ta7 := Aside0.mk (Ta6.out.below b7)
  have Xb7 := Aside0.mk (blk_below Xb6.out b7)
  have Tb7 := Aside0.mk (Tb6.out.below b7)
  have B7 := Aside0.mk (B6.out.trans (b7.mono B6.out.size))
  clear Xa6 Ta6 Xb6 Tb6 B6 b7 ha0 ha1 ha2 ha3 hb0 hb1 hb2 hb3
  obtain ⟨ha0, ha1, ha2, ha3⟩ := box_cells Xa7.out
  obtain ⟨hb0, hb1, hb2, hb3⟩ := box_cells Xb7.out
  cases g2 with
  | true =>
    go_wp2_with fail
    go_ret
    exact ⟨rfl, B7.out⟩
  | false =>
  go_wp2_with fail
  refine (Valid_V _ hn Ta7.out).mono ?_
  rw [← Hv1.out]
  rintro e w8 ⟨rfl, b8⟩
  have Xa8 := Aside0.mk (blk_below Xa7.out b8)
  have Ta8 := Aside0.mk (Ta7.out.below b8)
  have Xb8 := Aside0.mk (blk_below Xb7.out b8)
  have Tb8 := Aside0.mk (Tb7.out.below b8)
  have B8 := Aside0.mk (B7.out.trans (b8.mono B7.out.size))
  clear Xa7 Ta7 Xb7 Tb7 B7 b8 ha0 ha1 ha2 ha3 hb0 hb1 hb2 hb3
  obtain ⟨ha0, ha1, ha2, ha3⟩ := box_cells Xa8.out
  obtain ⟨hb0, hb1, hb2, hb3⟩ := box_cells Xb8.out
  cases v1 with
  | false =>
    go_wp2_with fail
    go_ret
    exact ⟨rfl, B8.out⟩
  | true =>
  go_wp2_with fail
  refine (Valid_V _ hm Tb8.out).mono ?_
  rw [← Hv2.out]
  rintro e w9 ⟨rfl, b9⟩
  have Xa9 := Aside0.mk (blk_below Xa8.out b9)
  have Ta9 := Aside0.mk (Ta8.out.below b9)
  have Xb9 := Aside0.mk (blk_below Xb8.out b9)
  have Tb9 := Aside0.mk (Tb8.out.below b9)
  have B9 := Aside0.mk (B8.out.trans (b9.mono B8.out.size))
  clear Xa8 Ta8 Xb8 Tb8 B8 b9 ha0 ha1 ha2 ha3 hb0 hb1 hb2 hb3
  obtain ⟨ha0, ha1, ha2, ha3⟩ := box_cells Xa9.out
  obtain ⟨hb0, hb1, hb2, hb3⟩ := box_cells Xb9.out
  cases v2 with
  | true => have := G2.out; simp at this
  | false =>
  go_wp2_with fail
  go_ret
  exact ⟨rfl, B9.out⟩
end Go.Proofs.YtlhfekhmfeafbaaDoor.P
