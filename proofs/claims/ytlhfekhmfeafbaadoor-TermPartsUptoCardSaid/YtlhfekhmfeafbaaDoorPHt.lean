/- The law TermParts comes out true. -/
import Derived.Test.YtlhfekhmfeafbaaDoorPHq
import Derived.Test.YtlhfekhmfeafbaaDoorPHs
namespace Go.Proofs.YtlhfekhmfeafbaaDoor.P
open Go.RowKit Go.Proofs.YtlhfekhmfeafbaaDoorW.PrintWords Go.Proofs.YtlhfekhmfeafbaaDoorW.PrintLast Go.Proofs.YtlhfekhmfeafbaaDoorW.PrintMore
set_option linter.unusedVariables false
set_option linter.unusedSimpArgs false

set_option maxHeartbeats 4000000 in
set_option maxRecDepth 100000 in
theorem TermParts_calls (t : S25) (A : Option Addr) (c : Nat) (w : World) (hL : Laid w) (hn : nT t ≤ 1000000000) (hT : IsT w (.agg #[.int .i64 t.f0, .string t.f1, .int .i64 t.f2, .slice A t.f3.length c]) t) :
    V_ 7 #[.agg #[.int .i64 t.f0, .string t.f1, .int .i64 t.f2, .slice A t.f3.length c]] w (.bool true) := by
  have hu25 := Tryd.underlying25
  have HL := Aside0.mk hL
  have HT := Aside0.mk hT
  clear hL hT
  unfold V_
  have HW : Aside0 (∀ W, Below w.heap.size w W → V_ 10 #[] W (.bool true)) := ⟨fun W hW => works_calls W (HL.out.below hW)⟩
  go_enter Tryd.func7, Tryd.ntmps7
  go_wp2_with fail
  refine (HW.out _ (below_alloc (Below.refl _ _) _)).mono ?_
  clear HW
  rintro e w1 ⟨rfl, b1⟩
  obtain ⟨p1, q1, r1⟩ := one_box b1
  have B1 := Aside0.mk p1
  have X1 := Aside0.mk r1
  have T1 := Aside0.mk (HT.out.below p1)
  obtain ⟨hc0, hc1, hc2, hc3⟩ := box_cells r1
  clear b1 p1 r1
  go_wp2_with fail
  refine (Large_V _ 200 hn T1.out).mono ?_
  rintro e w2 ⟨rfl, b2⟩
  have B2 := Aside0.mk (B1.out.trans (b2.mono B1.out.size))
  have X2 := Aside0.mk (blk_below X1.out b2)
  have T2 := Aside0.mk (T1.out.below b2)
  clear hc0 hc1 hc2 hc3 b2 B1 X1 T1
  obtain ⟨hc0, hc1, hc2, hc3⟩ := box_cells X2.out
  by_cases hbig : ((partsT t).length : Int) > 200
  · have hd : decide (((partsT t).length : Int) > 200) = true := decide_eq_true hbig
    go_wp2_with fail
    go_ret
    exact ⟨rfl, B2.out⟩
  · have hd : decide (((partsT t).length : Int) > 200) = false := decide_eq_false hbig
    have HN := Aside0.mk hbig
    clear hbig
    go_wp2_with fail
    refine (Parts_L _ hn T2.out).mono ?_
    rintro e w3 ⟨v3, rfl, i3, b3⟩
    obtain ⟨A5, c5, rfl, l5, C5⟩ := i3
    have B3 := Aside0.mk (B2.out.trans (b3.mono B2.out.size))
    have X3 := Aside0.mk (blk_below X2.out b3)
    have T3 := Aside0.mk (T2.out.below b3)
    have C3 := Aside0.mk C5
    clear hc0 hc1 hc2 hc3 b3 B2 X2 T2 C5 hd
    obtain ⟨hc0, hc1, hc2, hc3⟩ := box_cells X3.out
    obtain ⟨N, hN⟩ : ∃ N, N = (partsT t).length := ⟨_, rfl⟩
    have HNN := Aside0.mk hN
    have HS := Aside0.mk (fun (W : World) (h : IsT W (.agg #[.int .i64 t.f0, .string t.f1, .int .i64 t.f2, .slice A t.f3.length c]) t) => Size_V W hn h)
    rw [← hN] at HS C3 l5 HN ⊢
    have hN1 : 0 < N := by rw [hN, partsT_eq]; simp
    clear hN
    have q1 : ((N : Int) != N) = false := by simp
    have q2 : ¬ (N : Int) < 1 := by omega
    have q4 : ¬ N = 0 := by omega
    have q5 : decide ((N : Int) < 1) = false := by simp; omega
    have q6 : ¬ N < 1 := by omega
    have q3 : (0 : Int) < N := by omega
    obtain ⟨ad, A3, c3, e1, hx0, hx1, hx2, hx3, hl3, hi3⟩ := at_T25 C3.out 0 (by omega) (by omega)
    cases e1
    have h00 : rd_T25 (partsT t) 0 = t := by rw [partsT_eq]; rfl
    rw [h00] at hx0 hx1 hx2 hx3 hl3 hi3
    simp only [show (0 : Int).toNat = 0 from rfl, Go.Addr.add, ↓reduceIte, Nat.zero_mul, Nat.add_zero] at hx0 hx1 hx2 hx3
    have I0 : Aside0 (IsT w3 (.agg #[.int .i64 t.f0, .string t.f1, .int .i64 t.f2, .slice A3 t.f3.length c3]) t) := ⟨⟨A3, c3, rfl, hl3, hi3⟩⟩
    clear hl3 hi3 h00
    have HSA : Aside0 (∀ W, Below w3.heap.size w3 W → V_ 41 #[.agg #[.int .i64 t.f0, .string t.f1, .int .i64 t.f2, .slice A3 t.f3.length c3], .agg #[.int .i64 t.f0, .string t.f1, .int .i64 t.f2, .slice A t.f3.length c]] W (.bool true)) := ⟨fun W hW => by
      have := Same_V W (I0.out.below hW) (T3.out.below hW)
      rwa [oT_self] at this⟩
    have HSZ : Aside0 (∀ W, Below w3.heap.size w3 W → V_ 21 #[.agg #[.int .i64 t.f0, .string t.f1, .int .i64 t.f2, .slice A t.f3.length c]] W (.int .i64 N)) := ⟨fun W hW => HS.out W (T3.out.below hW)⟩
    clear HS
    go_wp2_with fail
    go_region_held3 (fun w' => w'.cell? ⟨w.heap.size, 0, none⟩ = some (.int .i64 t.f0) ∧ w'.cell? ⟨w.heap.size, 1, none⟩ = some (.string t.f1) ∧ w'.cell? ⟨w.heap.size, 2, none⟩ = some (.int .i64 t.f2) ∧ w'.cell? ⟨w.heap.size, 3, none⟩ = some (.slice A t.f3.length c) ∧
        w'.cell? ad = some (.int .i64 t.f0) ∧ w'.cell? ⟨ad.block, ad.off + 1, none⟩ = some (.string t.f1) ∧ w'.cell? ⟨ad.block, ad.off + 2, none⟩ = some (.int .i64 t.f2) ∧ w'.cell? ⟨ad.block, ad.off + 3, none⟩ = some (.slice A3 t.f3.length c3))
      (first
        | (go_keep; done)
        | (go_split_ands; exact ⟨pw_cell_below hb (by assumption), pw_cell_below hb (by assumption), pw_cell_below hb (by assumption), pw_cell_below hb (by assumption), pw_cell_below hb (by assumption), pw_cell_below hb (by assumption), pw_cell_below hb (by assumption), pw_cell_below hb (by assumption)⟩)
        | (go_split_ands; refine ⟨?_, ?_, ?_, ?_, ?_, ?_, ?_, ?_⟩ <;> assumption))
      (first
        | (go_simp; go_at_call 21; refine (HSZ.out _ (by repeat (first | exact Below.refl _ _ | apply below_alloc | apply pw_below_drewN | apply below_drew))).mono ?_; clear HSZ; rintro e w4 ⟨rfl, hb⟩; have HW4 : Aside0 (Below w3.heap.size w3 w4) := ⟨below_step (by repeat (first | exact Below.refl _ _ | apply below_alloc | apply pw_below_drewN | apply below_drew)) hb⟩)
        | (go_simp; go_at_call 41; refine (HSA.out _ (by repeat (first | exact HW4.out | apply below_alloc | apply pw_below_drewN | apply below_drew))).mono ?_; clear HSA; rintro e w5 ⟨rfl, hb⟩; have HW5 : Aside0 (Below w3.heap.size w3 w5) := ⟨below_step (by repeat (first | exact HW4.out | apply below_alloc | apply pw_below_drewN | apply below_drew)) hb⟩))
    have B5 := Aside0.mk (B3.out.trans (HW5.out.mono B3.out.size))
    have X5 := Aside0.mk (blk_below X3.out HW5.out)
    have T5 := Aside0.mk (T3.out.below HW5.out)
    have C5 := Aside0.mk (Kd.C_below C3.out HW5.out)
    clear hc0 hc1 hc2 hc3 hx0 hx1 hx2 hx3 B3 X3 T3 C3 HW4 HW5 I0
    obtain ⟨hc0, hc1, hc2, hc3⟩ := box_cells X5.out
    go_wp2_with fail
    refine (Valid_V _ hn T5.out).mono ?_
    obtain ⟨bv, hbv⟩ : ∃ bv, bv = vT t 0 := ⟨_, rfl⟩
    rw [← hbv]
    have HBV := Aside0.mk hbv
    clear hbv
    rintro e w6 ⟨rfl, b6⟩
    have B6 := Aside0.mk (B5.out.trans (b6.mono B5.out.size))
    have C6 := Aside0.mk (Kd.C_below C5.out b6)
    clear hc0 hc1 hc2 hc3 B5 X5 T5 C5 b6
    go_wp2_with fail
    go_loopg [7] N (fun gg i wr => ∃ kk : Nat, kk ≤ N ∧ N - kk ≤ gg ∧ i = .int .i64 kk ∧ Aside0 (Below w6.heap.size w6 wr))
    case atStart => exact ⟨0, Nat.zero_le _, by omega, rfl, ⟨Below.refl _ _⟩⟩
    case round =>
      obtain ⟨kk, hkk, hg, rfl, BW⟩ := hrel
      by_cases hlt : kk < N
      · obtain ⟨ad2, A4, c4, e1, hx0, hx1, hx2, hx3, hl3, hi3⟩ := at_T25 (Kd.C_below C6.out BW.out) (kk : Int) (by omega) (by omega)
        cases e1
        have hkl : kk < (partsT t).length := by rw [← HNN.out]; exact hlt
        have hrd : rd_T25 (partsT t) (kk : Int) = (partsT t)[kk] := by rw [rd_bang, getElem!_pos (partsT t) kk hkl]
        rw [hrd] at hx0 hx1 hx2 hx3 hl3 hi3
        have hmem : (partsT t)[kk] ∈ partsT t := List.getElem_mem hkl
        have hsz := sizeT_parts t kk hkl
        have hval := fun h => vT_parts t 0 h _ hmem
        have hnx := nT_parts_le t _ hmem
        rw [← HNN.out] at hsz
        generalize hy : (partsT t)[kk] = y at hx0 hx1 hx2 hx3 hl3 hi3 hsz hval hnx
        have IY : Aside0 (IsT wr (.agg #[.int .i64 y.f0, .string y.f1, .int .i64 y.f2, .slice A4 y.f3.length c4]) y) := ⟨⟨A4, c4, rfl, hl3, hi3⟩⟩
        clear hl3 hi3 hy hrd hmem
        simp only [Int.toNat_natCast] at hx0 hx1 hx2 hx3
        have hin : (kk : Int) < N := by omega
        have hgt : ¬ (((partsT y).length : Int) > (N : Int) - kk) := by omega
        have hN2 : N ≤ 200 := by have := HN.out; omega
        have hwr : wrap64 ((N : Int) - kk) = (N : Int) - kk := IntWalk.wrap64_in _ (by omega)
        have hgt1 : ¬ ((N : Int) - kk < ((partsT y).length : Int)) := by omega
        have hgt2 : decide (((partsT y).length : Int) > (N : Int) - kk) = false := decide_eq_false hgt
        rw [← HBV.out] at hval
        cases bv with
        | true =>
          have hvy := hval rfl
          clear hval
          go_wp2_with fail
          refine (Valid_V _ (by omega) IY.out).mono ?_
          rintro e w7 ⟨rfl, b7⟩
          rw [hvy]
          replace hx0 := pw_cell_below b7 hx0
          replace hx1 := pw_cell_below b7 hx1
          replace hx2 := pw_cell_below b7 hx2
          replace hx3 := pw_cell_below b7 hx3
          have IY7 := Aside0.mk (IY.out.below b7)
          have B7 := Aside0.mk (BW.out.trans (b7.mono BW.out.size))
          clear b7 IY BW
          go_wp2_with fail
          refine (Size_V _ (by omega) IY7.out).mono ?_
          rintro e w8 ⟨rfl, b8⟩
          have B8 := Aside0.mk (B7.out.trans (b8.mono B7.out.size))
          clear b8 B7 IY7 hx0 hx1 hx2 hx3
          go_wp2_with fail
          go_roundg (N - (kk + 1))
          case measure => omega
          case rel => exact ⟨kk + 1, by omega, by omega, by go_num, B8⟩
        | false =>
          clear hval
          go_wp2_with fail
          refine (Size_V _ (by omega) IY.out).mono ?_
          rintro e w8 ⟨rfl, b8⟩
          have B8 := Aside0.mk (BW.out.trans (b8.mono BW.out.size))
          clear b8 BW IY hx0 hx1 hx2 hx3
          go_wp2_with fail
          go_roundg (N - (kk + 1))
          case measure => omega
          case rel => exact ⟨kk + 1, by omega, by omega, by go_num, B8⟩
      · obtain rfl : kk = N := by omega
        go_wp2_with fail
        go_ret
        exact ⟨rfl, B6.out.trans (BW.out.mono B6.out.size)⟩
end Go.Proofs.YtlhfekhmfeafbaaDoor.P
