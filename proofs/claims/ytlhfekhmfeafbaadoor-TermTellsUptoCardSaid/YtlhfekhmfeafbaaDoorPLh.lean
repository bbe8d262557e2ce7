/- The law TermTells comes out true. -/
import Derived.Test.YtlhfekhmfeafbaaDoorPHq
import Derived.Test.YtlhfekhmfeafbaaDoorPHy
import Derived.Test.YtlhfekhmfeafbaaDoorPHv
import Derived.Test.YtlhfekhmfeafbaaDoorPLg
namespace Go.Proofs.YtlhfekhmfeafbaaDoor.P
open Go.RowKit Go.Proofs.YtlhfekhmfeafbaaDoorW.PrintWords Go.Proofs.YtlhfekhmfeafbaaDoorW.PrintLast Go.Proofs.YtlhfekhmfeafbaaDoorW.PrintMore
set_option linter.unusedVariables false
set_option linter.unusedSimpArgs false

theorem refSize_V {v : Value} {t : S25} (w : World) (hn : nT t ≤ 1000000000) (h : IsT w v t) : V_ 22 #[v] w (.int .i64 (partsT t).length) := by
  obtain ⟨A, c, rfl, hl, hC⟩ := h
  exact (legateref08_Size.calls (cT t) t.f0 t.f1 t.f2 A c t.f3 _ w hC hl (rSize _ t (Nat.le_refl _) hn _ (Nat.le_refl _))).mono fun _ _ ⟨he, hb⟩ => ⟨he, hb⟩

set_option maxHeartbeats 8000000 in
set_option maxRecDepth 100000 in
theorem TermTells_calls (t : S25) (A : Option Addr) (c : Nat) (s : ByteArray) (w : World) (hL : Laid w) (hn : nT t ≤ 2000000) (hs : s.size ≤ 2000000) (hok : okT t) (hT : IsT w (.agg #[.int .i64 t.f0, .string t.f1, .int .i64 t.f2, .slice A t.f3.length c]) t) :
    V_ 3 #[.agg #[.int .i64 t.f0, .string t.f1, .int .i64 t.f2, .slice A t.f3.length c], .string s] w (.bool true) := by
  have hu25 := Tryd.underlying25
  have HL := Aside0.mk hL
  have HT := Aside0.mk hT
  have hll := nL_len t.f3
  have hn1 := nT_eq t
  clear hL hT
  unfold V_
  have HW : Aside0 (∀ W, Below w.heap.size w W → V_ 10 #[] W (.bool true)) := ⟨fun W hW => works_calls W (HL.out.below hW)⟩
  go_enter Tryd.func3, Tryd.ntmps3
  go_wp2_with fail
  refine (HW.out _ (below_alloc (Below.refl _ _) _)).mono ?_
  clear HW
  rintro e w1 ⟨rfl, b1⟩
  obtain ⟨p1, q1, r1⟩ := one_box b1
  have B1 := Aside0.mk p1
  have X1 := Aside0.mk r1
  have T1 := Aside0.mk (HT.out.below p1)
  obtain ⟨hc0, hc1, hc2, hc3⟩ := box_cells r1
  clear b1 p1 r1
  go_wp2_with fail
  refine (Large_V _ 200 (by omega) T1.out).mono ?_
  rintro e w2 ⟨rfl, b2⟩
  have B2 := Aside0.mk (B1.out.trans (b2.mono B1.out.size))
  have X2 := Aside0.mk (blk_below X1.out b2)
  have T2 := Aside0.mk (T1.out.below b2)
  clear hc0 hc1 hc2 hc3 b2 B1 X1 T1
  obtain ⟨hc0, hc1, hc2, hc3⟩ := box_cells X2.out
  obtain ⟨L1, hL1⟩ : ∃ b, b = decide (((partsT t).length : Int) > 200) := ⟨_, rfl⟩
  rw [← hL1]
  have HL1 := Aside0.mk hL1
  clear hL1
  cases L1 with
  | true =>
    go_wp2_with fail
    go_ret
    exact ⟨rfl, B2.out⟩
  | false =>
  go_wp2_with fail
  refine (Parts_L _ (by omega) T2.out).mono ?_
  rintro e w3 ⟨v3, rfl, i3, b3⟩
  have B3 := Aside0.mk (B2.out.trans (b3.mono B2.out.size))
  have X3 := Aside0.mk (blk_below X2.out b3)
  have T3 := Aside0.mk (T2.out.below b3)
  have I3 := Aside0.mk i3
  clear hc0 hc1 hc2 hc3 b3 B2 X2 T2 i3
  obtain ⟨hc0, hc1, hc2, hc3⟩ := box_cells X3.out
  go_wp2_with fail
  refine (refParts_L _ (by omega) T3.out).mono ?_
  rintro e w4 ⟨v4, rfl, i4, b4⟩
  have B4 := Aside0.mk (B3.out.trans (b4.mono B3.out.size))
  have X4 := Aside0.mk (blk_below X3.out b4)
  have T4 := Aside0.mk (T3.out.below b4)
  obtain ⟨A3, c3, rfl, l3, C3⟩ := I3.out.below b4
  obtain ⟨A4, c4, rfl, l4, C4⟩ := i4
  have D3 := Aside0.mk C3
  have D4 := Aside0.mk C4
  clear hc0 hc1 hc2 hc3 b4 B3 X3 T3 I3 C3 C4
  obtain ⟨N, hN⟩ : ∃ N, N = (partsT t).length := ⟨_, rfl⟩
  have HNN := Aside0.mk hN
  rw [← hN] at D3 D4 l3 l4 HL1 ⊢
  clear hN
  have hN2 : N ≤ 200 := by have := HL1.out; simp at this; omega
  have qN : ((N : Int) != N) = false := by simp
  go_wp2_with fail
  go_loopg [9] N (fun gg i wr => ∃ kk : Nat, kk ≤ N ∧ N - kk ≤ gg ∧ i = .int .i64 kk ∧ Aside0 (Below w4.heap.size w4 wr))
  case atStart => exact ⟨0, Nat.zero_le _, by omega, rfl, ⟨Below.refl _ _⟩⟩
  case round =>
    obtain ⟨kk, hkk, hg, rfl, BW⟩ := hrel
    by_cases hlt : kk < N
    · obtain ⟨ad, Aa, ca, e1, hx0, hx1, hx2, hx3, hlx, hix⟩ := at_T25 (Kd.C_below D3.out BW.out) (kk : Int) (by omega) (by omega)
      obtain ⟨ad2, Ab, cb, e2, hy0, hy1, hy2, hy3, hly, hiy⟩ := at_T25 (Kd.C_below D4.out BW.out) (kk : Int) (by omega) (by omega)
      cases e1
      cases e2
      have hkl : kk < (partsT t).length := by rw [← HNN.out]; exact hlt
      have hrd : rd_T25 (partsT t) (kk : Int) = (partsT t)[kk] := by rw [rd_bang, getElem!_pos (partsT t) kk hkl]
      have hnx := nT_parts_le t _ (List.getElem_mem hkl)
      rw [hrd] at hx0 hx1 hx2 hx3 hlx hix hy0 hy1 hy2 hy3 hly hiy
      generalize (partsT t)[kk] = y at hx0 hx1 hx2 hx3 hlx hix hy0 hy1 hy2 hy3 hly hiy hnx
      have HS1 : Aside0 (∀ W, Below wr.heap.size wr W → V_ 14 #[.agg #[.int .i64 y.f0, .string y.f1, .int .i64 y.f2, .slice Aa y.f3.length ca], .agg #[.int .i64 y.f0, .string y.f1, .int .i64 y.f2, .slice Ab y.f3.length cb]] W (.bool true)) := ⟨fun W hW => by
        have := refSame_V W (by omega) (by omega) (show IsT W _ y from ⟨Aa, ca, rfl, hlx, Kd.C_below hix hW⟩) (show IsT W _ y from ⟨Ab, cb, rfl, hly, Kd.C_below hiy hW⟩)
        rwa [oT_self] at this⟩
      simp only [Int.toNat_natCast] at hx0 hx1 hx2 hx3 hy0 hy1 hy2 hy3
      have hin : (kk : Int) < N := by omega
      clear hlx hix hly hiy hrd
      go_wp2_with fail
      go_region_held3 (fun w' => w'.cell? (ad.add (kk * 4)) = some (.int .i64 y.f0) ∧ w'.cell? ⟨(ad.add (kk * 4)).block, (ad.add (kk * 4)).off + 1, none⟩ = some (.string y.f1) ∧ w'.cell? ⟨(ad.add (kk * 4)).block, (ad.add (kk * 4)).off + 2, none⟩ = some (.int .i64 y.f2) ∧ w'.cell? ⟨(ad.add (kk * 4)).block, (ad.add (kk * 4)).off + 3, none⟩ = some (.slice Aa y.f3.length ca) ∧
          w'.cell? (ad2.add (kk * 4)) = some (.int .i64 y.f0) ∧ w'.cell? ⟨(ad2.add (kk * 4)).block, (ad2.add (kk * 4)).off + 1, none⟩ = some (.string y.f1) ∧ w'.cell? ⟨(ad2.add (kk * 4)).block, (ad2.add (kk * 4)).off + 2, none⟩ = some (.int .i64 y.f2) ∧ w'.cell? ⟨(ad2.add (kk * 4)).block, (ad2.add (kk * 4)).off + 3, none⟩ = some (.slice Ab y.f3.length cb))
        (first
          | (go_keep; done)
          | (go_split_ands; exact ⟨pw_cell_below hb (by assumption), pw_cell_below hb (by assumption), pw_cell_below hb (by assumption), pw_cell_below hb (by assumption), pw_cell_below hb (by assumption), pw_cell_below hb (by assumption), pw_cell_below hb (by assumption), pw_cell_below hb (by assumption)⟩)
          | (go_split_ands; refine ⟨?_, ?_, ?_, ?_, ?_, ?_, ?_, ?_⟩ <;> assumption))
        (first | (go_simp; go_at_call 14; refine (HS1.out _ (by repeat (first | exact Below.refl _ _ | apply below_alloc | apply pw_below_drewN | apply below_drew))).mono ?_; clear HS1; rintro e w5 ⟨rfl, hb⟩; have HW5 : Aside0 (Below wr.heap.size wr w5) := ⟨below_step (by repeat (first | exact Below.refl _ _ | apply below_alloc | apply pw_below_drewN | apply below_drew)) hb⟩))
      go_wp2_with fail
      go_roundg (N - (kk + 1))
      case measure => omega
      case rel => exact ⟨kk + 1, by omega, by omega, by go_num, ⟨BW.out.trans (HW5.out.mono BW.out.size)⟩⟩
    · obtain rfl : kk = N := by omega
      have B5 := Aside0.mk (B4.out.trans (BW.out.mono B4.out.size))
      have X5 := Aside0.mk (blk_below X4.out BW.out)
      have T5 := Aside0.mk (T4.out.below BW.out)
      clear B4 X4 T4 D3 D4
      obtain ⟨hc0, hc1, hc2, hc3⟩ := box_cells X5.out
      go_wp2_with fail
      refine (Names_V _ (by omega) T5.out).mono ?_
      rintro e w6 ⟨A6, c6, rfl, l6, C6, b6⟩
      have B6 := Aside0.mk (B5.out.trans (b6.mono B5.out.size))
      have X6 := Aside0.mk (blk_below X5.out b6)
      have T6 := Aside0.mk (T5.out.below b6)
      have D6 := Aside0.mk C6
      clear hc0 hc1 hc2 hc3 b6 B5 X5 T5 C6
      obtain ⟨hc0, hc1, hc2, hc3⟩ := box_cells X6.out
      go_wp2_with fail
      refine (refNames_V _ (by omega) T6.out).mono ?_
      rintro e w7 ⟨A7, c7, rfl, l7, C7, b7⟩
      have B7 := Aside0.mk (B6.out.trans (b7.mono B6.out.size))
      have X7 := Aside0.mk (blk_below X6.out b7)
      have T7 := Aside0.mk (T6.out.below b7)
      have E6 := Aside0.mk (Kd.C_below D6.out b7)
      have E7 := Aside0.mk C7
      clear hc0 hc1 hc2 hc3 b7 B6 X6 T6 C7 D6
      obtain ⟨l, hl⟩ : ∃ l, l = namesOf t := ⟨_, rfl⟩
      obtain ⟨bR, hbR⟩ : ∃ b, b = isRow t := ⟨_, rfl⟩
      have hlen : l.length ≤ 2000000 := by
        rw [hl]; unfold namesOf; split
        · rw [List.length_map]; omega
        · simp
      rw [← hl] at l6 l7 E6 E7 ⊢
      rw [← hbR]
      clear hl hbR
      have qn : ((l.length : Int) != l.length) = false := by simp
      have qb : (bR != bR) = false := by simp
      go_wp2_with fail
      go_loopg [15] l.length (fun gg i wr => ∃ kk : Nat, kk ≤ l.length ∧ l.length - kk ≤ gg ∧ i = .int .i64 kk ∧ Aside0 (Below w7.heap.size w7 wr))
      case atStart => exact ⟨0, Nat.zero_le _, by omega, rfl, ⟨Below.refl _ _⟩⟩
      case round =>
        obtain ⟨k2, hk2, hg2, rfl, BW2⟩ := hrel
        by_cases hlt2 : k2 < l.length
        · obtain ⟨ad, e1, k1⟩ := strs_at (Kd.C_below E6.out BW2.out) k2 hlt2
          obtain ⟨ad2, e2, k22⟩ := strs_at (Kd.C_below E7.out BW2.out) k2 hlt2
          cases e1
          cases e2
          generalize l[k2]! = z at k1 k22
          have hin : (k2 : Int) < l.length := by omega
          go_wp2_with fail
          go_region_held3 (fun w' => w'.cell? (ad.add k2) = some (.string z) ∧ w'.cell? (ad2.add k2) = some (.string z))
            (first | (go_keep; done) | (go_split_ands; refine ⟨?_, ?_⟩ <;> assumption)) (fail)
          go_wp2_with fail
          go_roundg (l.length - (k2 + 1))
          case measure => omega
          case rel => exact ⟨k2 + 1, by omega, by omega, by go_num, ⟨below_drew BW2.out⟩⟩
        · obtain rfl : k2 = l.length := by omega
          have B8 := Aside0.mk (B7.out.trans (BW2.out.mono B7.out.size))
          have X8 := Aside0.mk (blk_below X7.out BW2.out)
          have T8 := Aside0.mk (T7.out.below BW2.out)
          clear B7 X7 T7 E6 E7
          obtain ⟨hc0, hc1, hc2, hc3⟩ := box_cells X8.out
          go_wp2_with fail
          refine (refValid_V _ (by omega) T8.out).mono ?_
          rintro e w9 ⟨rfl, b9⟩
          have B9 := Aside0.mk (B8.out.trans (b9.mono B8.out.size))
          have X9 := Aside0.mk (blk_below X8.out b9)
          have T9 := Aside0.mk (T8.out.below b9)
          clear hc0 hc1 hc2 hc3 b9 B8 X8 T8
          obtain ⟨hc0, hc1, hc2, hc3⟩ := box_cells X9.out
          have H18 : Aside0 (∀ W, Below w9.heap.size w9 W → V_ 18 #[.agg #[.int .i64 t.f0, .string t.f1, .int .i64 t.f2, .slice A t.f3.length c]] W (.bool (vT t 0))) := ⟨fun W hW => Valid_V W (by omega) (T9.out.below hW)⟩
          have H19 : Aside0 (∀ W, Below w9.heap.size w9 W → V_ 19 #[.agg #[.int .i64 t.f0, .string t.f1, .int .i64 t.f2, .slice A t.f3.length c]] W (.string (textB t))) := ⟨fun W hW => Text_V W (by omega) hok (HL.out.below (B9.out.trans (hW.mono B9.out.size))) (T9.out.below hW)⟩
          have H20 : Aside0 (∀ W, Below w9.heap.size w9 W → V_ 20 #[.agg #[.int .i64 t.f0, .string t.f1, .int .i64 t.f2, .slice A t.f3.length c]] W (.string (textB t))) := ⟨fun W hW => refText_V W hn hok (T9.out.below hW)⟩
          have H21 : Aside0 (∀ W, Below w9.heap.size w9 W → V_ 21 #[.agg #[.int .i64 t.f0, .string t.f1, .int .i64 t.f2, .slice A t.f3.length c]] W (.int .i64 kk)) := ⟨fun W hW => by have := Size_V W (by omega) (T9.out.below hW); rwa [← HNN.out] at this⟩
          have H22 : Aside0 (∀ W, Below w9.heap.size w9 W → V_ 22 #[.agg #[.int .i64 t.f0, .string t.f1, .int .i64 t.f2, .slice A t.f3.length c]] W (.int .i64 kk)) := ⟨fun W hW => by have := refSize_V W (by omega) (T9.out.below hW); rwa [← HNN.out] at this⟩
          have H23 : Aside0 (∀ W, Below w9.heap.size w9 W → V_ 23 #[.string s] W (.bool (nameB s))) := ⟨fun W hW => Name_V s W (by omega)⟩
          have H24 : Aside0 (∀ W, Below w9.heap.size w9 W → V_ 24 #[.string s] W (.bool (nameB s))) := ⟨fun W hW => refName_V s W (by omega)⟩
          generalize vT t 0 = bv at H18 ⊢
          generalize textB t = tx at H19 H20
          generalize nameB s = ns at H23 H24
          have HWc : Aside0 (Below w9.heap.size w9 w9) := ⟨Below.refl _ _⟩
          have g1 : (bv == bv) = true := by simp

          have g3 : ((kk : Int) == kk) = true := by simp
          have g4 : (ns == ns) = true := by simp
          go_wp2_with fail
          go_region_held3 (fun w' => w'.cell? ⟨w.heap.size, 0, none⟩ = some (.int .i64 t.f0) ∧ w'.cell? ⟨w.heap.size, 1, none⟩ = some (.string t.f1) ∧ w'.cell? ⟨w.heap.size, 2, none⟩ = some (.int .i64 t.f2) ∧ w'.cell? ⟨w.heap.size, 3, none⟩ = some (.slice A t.f3.length c))
            (first
              | (go_keep; done)
              | (go_split_ands; exact ⟨pw_cell_below hb (by assumption), pw_cell_below hb (by assumption), pw_cell_below hb (by assumption), pw_cell_below hb (by assumption)⟩)
              | (go_split_ands; refine ⟨?_, ?_, ?_, ?_⟩ <;> assumption))
            (first
              | (go_simp; go_at_call 18; refine (H18.out _ (by repeat (first | exact HWc.out | apply below_alloc | apply pw_below_drewN | apply below_drew))).mono ?_; clear H18; rintro e wz ⟨rfl, hb⟩; have HWn := Aside0.mk (below_step (by repeat (first | exact HWc.out | apply below_alloc | apply pw_below_drewN | apply below_drew)) hb); clear HWc; have HWc := HWn; clear HWn)
              | (go_simp; go_at_call 19; refine (H19.out _ (by repeat (first | exact HWc.out | apply below_alloc | apply pw_below_drewN | apply below_drew))).mono ?_; clear H19; rintro e wz ⟨rfl, hb⟩; have HWn := Aside0.mk (below_step (by repeat (first | exact HWc.out | apply below_alloc | apply pw_below_drewN | apply below_drew)) hb); clear HWc; have HWc := HWn; clear HWn)
              | (go_simp; go_at_call 20; refine (H20.out _ (by repeat (first | exact HWc.out | apply below_alloc | apply pw_below_drewN | apply below_drew))).mono ?_; clear H20; rintro e wz ⟨rfl, hb⟩; have HWn := Aside0.mk (below_step (by repeat (first | exact HWc.out | apply below_alloc | apply pw_below_drewN | apply below_drew)) hb); clear HWc; have HWc := HWn; clear HWn)
              | (go_simp; go_at_call 21; refine (H21.out _ (by repeat (first | exact HWc.out | apply below_alloc | apply pw_below_drewN | apply below_drew))).mono ?_; clear H21; rintro e wz ⟨rfl, hb⟩; have HWn := Aside0.mk (below_step (by repeat (first | exact HWc.out | apply below_alloc | apply pw_below_drewN | apply below_drew)) hb); clear HWc; have HWc := HWn; clear HWn)
              | (go_simp; go_at_call 22; refine (H22.out _ (by repeat (first | exact HWc.out | apply below_alloc | apply pw_below_drewN | apply below_drew))).mono ?_; clear H22; rintro e wz ⟨rfl, hb⟩; have HWn := Aside0.mk (below_step (by repeat (first | exact HWc.out | apply below_alloc | apply pw_below_drewN | apply below_drew)) hb); clear HWc; have HWc := HWn; clear HWn)
              | (go_simp; go_at_call 23; refine (H23.out _ (by repeat (first | exact HWc.out | apply below_alloc | apply pw_below_drewN | apply below_drew))).mono ?_; clear H23; rintro e wz ⟨rfl, hb⟩; have HWn := Aside0.mk (below_step (by repeat (first | exact HWc.out | apply below_alloc | apply pw_below_drewN | apply below_drew)) hb); clear HWc; have HWc := HWn; clear HWn)
              | (go_simp; go_at_call 24; refine (H24.out _ (by repeat (first | exact HWc.out | apply below_alloc | apply pw_below_drewN | apply below_drew))).mono ?_; clear H24; rintro e wz ⟨rfl, hb⟩; have HWn := Aside0.mk (below_step (by repeat (first | exact HWc.out | apply below_alloc | apply pw_below_drewN | apply below_drew)) hb); clear HWc; have HWc := HWn; clear HWn))
          all_goals go_wp2_with fail
          all_goals go_ret
          all_goals exact ⟨rfl, B9.out.trans (HWc.out.mono B9.out.size)⟩
end Go.Proofs.YtlhfekhmfeafbaaDoor.P
