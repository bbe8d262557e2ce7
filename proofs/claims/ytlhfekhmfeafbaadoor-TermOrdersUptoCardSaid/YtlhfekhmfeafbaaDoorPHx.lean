/- The law TermOrders comes out true. -/
import Derived.Test.YtlhfekhmfeafbaaDoorPHq
import Derived.Test.YtlhfekhmfeafbaaDoorPHv
namespace Go.Proofs.YtlhfekhmfeafbaaDoor.P
open Go.RowKit Go.Proofs.YtlhfekhmfeafbaaDoorW.PrintWords Go.Proofs.YtlhfekhmfeafbaaDoorW.PrintLast Go.Proofs.YtlhfekhmfeafbaaDoorW.PrintMore
set_option linter.unusedVariables false
set_option linter.unusedSimpArgs false

theorem three_boxes {w w1 : World} {o o2 o3 : Obj} (hb : Below (((w.alloc o).alloc o2).alloc o3).heap.size (((w.alloc o).alloc o2).alloc o3) w1) :
    Below w.heap.size w w1 ∧ w.heap.size + 3 ≤ w1.heap.size ∧ w1.heap[w.heap.size]? = some o ∧ w1.heap[w.heap.size + 1]? = some o2 ∧ w1.heap[w.heap.size + 2]? = some o3 := by
  obtain ⟨h1, h2, h3⟩ := one_box hb
  obtain ⟨k1, k2, k3, k4⟩ := two_boxes h1
  have s1 : ((w.alloc o).alloc o2).heap.size = w.heap.size + 2 := by simp
  rw [s1] at h2 h3
  exact ⟨k1, by omega, k3, k4, h3⟩

set_option maxHeartbeats 4000000 in
set_option maxRecDepth 100000 in
theorem TermOrders_calls (t u v : S25) (A0 A1 A2 : Option Addr) (c0 c1 c2 : Nat) (w : World) (hL : Laid w) (hn : nT t ≤ 1000000000) (hm : nT u ≤ 1000000000) (hk : nT v ≤ 1000000000)
    (hT : IsT w (.agg #[.int .i64 t.f0, .string t.f1, .int .i64 t.f2, .slice A0 t.f3.length c0]) t) (hU : IsT w (.agg #[.int .i64 u.f0, .string u.f1, .int .i64 u.f2, .slice A1 u.f3.length c1]) u) (hV : IsT w (.agg #[.int .i64 v.f0, .string v.f1, .int .i64 v.f2, .slice A2 v.f3.length c2]) v) :
    V_ 5 #[.agg #[.int .i64 t.f0, .string t.f1, .int .i64 t.f2, .slice A0 t.f3.length c0], .agg #[.int .i64 u.f0, .string u.f1, .int .i64 u.f2, .slice A1 u.f3.length c1], .agg #[.int .i64 v.f0, .string v.f1, .int .i64 v.f2, .slice A2 v.f3.length c2]] w (.bool true) := by
  have hu25 := Tryd.underlying25
  have HL := Aside0.mk hL
  have HTa := Aside0.mk hT
  have HTb := Aside0.mk hU
  have HTc := Aside0.mk hV
  clear hL hT hU hV
  unfold V_
  have HW : Aside0 (∀ W, Below w.heap.size w W → V_ 10 #[] W (.bool true)) := ⟨fun W hW => works_calls W (HL.out.below hW)⟩
  go_enter Tryd.func5, Tryd.ntmps5
  go_wp2_with fail
  refine (HW.out _ (below_alloc (below_alloc (below_alloc (Below.refl _ _) _) _) _)).mono ?_
  clear HW
  rintro e w1 ⟨rfl, b1⟩
  obtain ⟨p1, q1, ra, rb, rc⟩ := three_boxes b1
  have B1 := Aside0.mk p1
  have Xa1 := Aside0.mk ra
  have Xb1 := Aside0.mk rb
  have Xc1 := Aside0.mk rc
  have Ta1 := Aside0.mk (HTa.out.below p1)
  have Tb1 := Aside0.mk (HTb.out.below p1)
  have Tc1 := Aside0.mk (HTc.out.below p1)
  clear b1 p1 ra rb rc HTa HTb HTc
  obtain ⟨ha0, ha1, ha2, ha3⟩ := box_cells Xa1.out
  obtain ⟨hb0, hb1, hb2, hb3⟩ := box_cells Xb1.out
  obtain ⟨hc0, hc1, hc2, hc3⟩ := box_cells Xc1.out
  go_wp2_with fail
  refine (Large_V _ 200 hn Ta1.out).mono ?_
  rintro e w2 ⟨rfl, b2⟩
  have Xa2 := Aside0.mk (blk_below Xa1.out b2)
  have Ta2 := Aside0.mk (Ta1.out.below b2)
  have Xb2 := Aside0.mk (blk_below Xb1.out b2)
  have Tb2 := Aside0.mk (Tb1.out.below b2)
  have Xc2 := Aside0.mk (blk_below Xc1.out b2)
  have Tc2 := Aside0.mk (Tc1.out.below b2)
  have B2 := Aside0.mk (B1.out.trans (b2.mono B1.out.size))
  clear Xa1 Ta1 Xb1 Tb1 Xc1 Tc1 B1 b2 ha0 ha1 ha2 ha3 hb0 hb1 hb2 hb3 hc0 hc1 hc2 hc3
  obtain ⟨ha0, ha1, ha2, ha3⟩ := box_cells Xa2.out
  obtain ⟨hb0, hb1, hb2, hb3⟩ := box_cells Xb2.out
  obtain ⟨hc0, hc1, hc2, hc3⟩ := box_cells Xc2.out
  go_wp2_with fail
  refine (Large_V _ 200 hm Tb2.out).mono ?_
  rintro e w3 ⟨rfl, b3⟩
  have Xa3 := Aside0.mk (blk_below Xa2.out b3)
  have Ta3 := Aside0.mk (Ta2.out.below b3)
  have Xb3 := Aside0.mk (blk_below Xb2.out b3)
  have Tb3 := Aside0.mk (Tb2.out.below b3)
  have Xc3 := Aside0.mk (blk_below Xc2.out b3)
  have Tc3 := Aside0.mk (Tc2.out.below b3)
  have B3 := Aside0.mk (B2.out.trans (b3.mono B2.out.size))
  clear Xa2 Ta2 Xb2 Tb2 Xc2 Tc2 B2 b3 ha0 ha1 ha2 ha3 hb0 hb1 hb2 hb3 hc0 hc1 hc2 hc3
  obtain ⟨ha0, ha1, ha2, ha3⟩ := box_cells Xa3.out
  obtain ⟨hb0, hb1, hb2, hb3⟩ := box_cells Xb3.out
  obtain ⟨hc0, hc1, hc2, hc3⟩ := box_cells Xc3.out
  go_wp2_with fail
  refine (Large_V _ 200 hk Tc3.out).mono ?_
  rintro e w4 ⟨rfl, b4⟩
  have Xa4 := Aside0.mk (blk_below Xa3.out b4)
  have Ta4 := Aside0.mk (Ta3.out.below b4)
  have Xb4 := Aside0.mk (blk_below Xb3.out b4)
  have Tb4 := Aside0.mk (Tb3.out.below b4)
  have Xc4 := Aside0.mk (blk_below Xc3.out b4)
  have Tc4 := Aside0.mk (Tc3.out.below b4)
  have B4 := Aside0.mk (B3.out.trans (b4.mono B3.out.size))
  clear Xa3 Ta3 Xb3 Tb3 Xc3 Tc3 B3 b4 ha0 ha1 ha2 ha3 hb0 hb1 hb2 hb3 hc0 hc1 hc2 hc3
  obtain ⟨ha0, ha1, ha2, ha3⟩ := box_cells Xa4.out
  obtain ⟨hb0, hb1, hb2, hb3⟩ := box_cells Xb4.out
  obtain ⟨hc0, hc1, hc2, hc3⟩ := box_cells Xc4.out
  obtain ⟨L1, hL1⟩ : ∃ b, b = decide (((partsT t).length : Int) > 200) := ⟨_, rfl⟩
  obtain ⟨L2, hL2⟩ : ∃ b, b = decide (((partsT u).length : Int) > 200) := ⟨_, rfl⟩
  obtain ⟨L3, hL3⟩ : ∃ b, b = decide (((partsT v).length : Int) > 200) := ⟨_, rfl⟩
  rw [← hL1, ← hL2, ← hL3]
  clear hL1 hL2 hL3
  obtain ⟨x, hx⟩ : ∃ x, x = oT t u := ⟨_, rfl⟩
  obtain ⟨y, hy⟩ : ∃ y, y = oT u v := ⟨_, rfl⟩
  obtain ⟨z, hz⟩ : ∃ z, z = oT t v := ⟨_, rfl⟩
  have HX := Aside0.mk hx
  have HY := Aside0.mk hy
  have HZ := Aside0.mk hz
  clear hx hy hz
  have HIX : Aside0 (In3 x) := ⟨by rw [HX.out]; exact oT_in t u⟩
  have HTRI : Aside0 (Tri x y z) := ⟨by rw [HX.out, HY.out, HZ.out]; exact oT_tri t u v⟩
  have hwx : wrap64 (-x) = -x := IntWalk.wrap64_in _ (by have := HIX.out; unfold In3 at this; omega)
  cases L1 with
  | true =>
    go_wp2_with fail
    go_ret
    exact ⟨rfl, B4.out⟩
  | false =>
  cases L2 with
  | true =>
    go_wp2_with fail
    go_ret
    exact ⟨rfl, B4.out⟩
  | false =>
  cases L3 with
  | true =>
    go_wp2_with fail
    go_ret
    exact ⟨rfl, B4.out⟩
  | false =>
  go_wp2_with fail
  refine (Order_V _ Ta4.out Tb4.out).mono ?_
  rw [← HX.out]
  rintro e w5 ⟨rfl, b5⟩
  have Xa5 := Aside0.mk (blk_below Xa4.out b5)
  have Ta5 := Aside0.mk (Ta4.out.below b5)
  have Xb5 := Aside0.mk (blk_below Xb4.out b5)
  have Tb5 := Aside0.mk (Tb4.out.below b5)
  have Xc5 := Aside0.mk (blk_below Xc4.out b5)
  have Tc5 := Aside0.mk (Tc4.out.below b5)
  have B5 := Aside0.mk (B4.out.trans (b5.mono B4.out.size))
  clear Xa4 Ta4 Xb4 Tb4 Xc4 Tc4 B4 b5 ha0 ha1 ha2 ha3 hb0 hb1 hb2 hb3 hc0 hc1 hc2 hc3
  obtain ⟨ha0, ha1, ha2, ha3⟩ := box_cells Xa5.out
  obtain ⟨hb0, hb1, hb2, hb3⟩ := box_cells Xb5.out
  obtain ⟨hc0, hc1, hc2, hc3⟩ := box_cells Xc5.out
  go_wp2_with fail
  refine (Order_V _ Tb5.out Tc5.out).mono ?_
  rw [← HY.out]
  rintro e w6 ⟨rfl, b6⟩
  have Xa6 := Aside0.mk (blk_below Xa5.out b6)
  have Ta6 := Aside0.mk (Ta5.out.below b6)
  have Xb6 := Aside0.mk (blk_below Xb5.out b6)
  have Tb6 := Aside0.mk (Tb5.out.below b6)
  have Xc6 := Aside0.mk (blk_below Xc5.out b6)
  have Tc6 := Aside0.mk (Tc5.out.below b6)
  have B6 := Aside0.mk (B5.out.trans (b6.mono B5.out.size))
  clear Xa5 Ta5 Xb5 Tb5 Xc5 Tc5 B5 b6 ha0 ha1 ha2 ha3 hb0 hb1 hb2 hb3 hc0 hc1 hc2 hc3
  obtain ⟨ha0, ha1, ha2, ha3⟩ := box_cells Xa6.out
  obtain ⟨hb0, hb1, hb2, hb3⟩ := box_cells Xb6.out
  obtain ⟨hc0, hc1, hc2, hc3⟩ := box_cells Xc6.out
  go_wp2_with fail
  refine (Order_V _ Ta6.out Tc6.out).mono ?_
  rw [← HZ.out]
  rintro e w7 ⟨rfl, b7⟩
  have Xa7 := Aside0.mk (blk_below Xa6.out b7)
  have Ta7 := Aside0.mk (Ta6.out.below b7)
  have Xb7 := Aside0.mk (blk_below Xb6.out b7)
  have Tb7 := Aside0.mk (Tb6.out.below b7)
  have Xc7 := Aside0.mk (blk_below Xc6.out b7)
  have Tc7 := Aside0.mk (Tc6.out.below b7)
  have B7 := Aside0.mk (B6.out.trans (b7.mono B6.out.size))
  clear Xa6 Ta6 Xb6 Tb6 Xc6 Tc6 B6 b7 ha0 ha1 ha2 ha3 hb0 hb1 hb2 hb3 hc0 hc1 hc2 hc3
  obtain ⟨ha0, ha1, ha2, ha3⟩ := box_cells Xa7.out
  obtain ⟨hb0, hb1, hb2, hb3⟩ := box_cells Xb7.out
  obtain ⟨hc0, hc1, hc2, hc3⟩ := box_cells Xc7.out
  go_wp2_with fail
  refine (refOrder_V _ hn hm Ta7.out Tb7.out).mono ?_
  rw [← HX.out]
  rintro e w8 ⟨rfl, b8⟩
  have Xa8 := Aside0.mk (blk_below Xa7.out b8)
  have Ta8 := Aside0.mk (Ta7.out.below b8)
  have Xb8 := Aside0.mk (blk_below Xb7.out b8)
  have Tb8 := Aside0.mk (Tb7.out.below b8)
  have Xc8 := Aside0.mk (blk_below Xc7.out b8)
  have Tc8 := Aside0.mk (Tc7.out.below b8)
  have B8 := Aside0.mk (B7.out.trans (b8.mono B7.out.size))
  clear Xa7 Ta7 Xb7 Tb7 Xc7 Tc7 B7 b8 ha0 ha1 ha2 ha3 hb0 hb1 hb2 hb3 hc0 hc1 hc2 hc3
  obtain ⟨ha0, ha1, ha2, ha3⟩ := box_cells Xa8.out
  obtain ⟨hb0, hb1, hb2, hb3⟩ := box_cells Xb8.out
  obtain ⟨hc0, hc1, hc2, hc3⟩ := box_cells Xc8.out
  have qx : (x != x) = false := by simp
  go_wp2_with fail
  refine (Order_V _ Tb8.out Ta8.out).mono ?_
  rw [oT_neg t u, ← HX.out]
  rintro e w9 ⟨rfl, b9⟩
  have Xa9 := Aside0.mk (blk_below Xa8.out b9)
  have Ta9 := Aside0.mk (Ta8.out.below b9)
  have Xb9 := Aside0.mk (blk_below Xb8.out b9)
  have Tb9 := Aside0.mk (Tb8.out.below b9)
  have Xc9 := Aside0.mk (blk_below Xc8.out b9)
  have Tc9 := Aside0.mk (Tc8.out.below b9)
  have B9 := Aside0.mk (B8.out.trans (b9.mono B8.out.size))
  clear Xa8 Ta8 Xb8 Tb8 Xc8 Tc8 B8 b9 ha0 ha1 ha2 ha3 hb0 hb1 hb2 hb3 hc0 hc1 hc2 hc3
  obtain ⟨ha0, ha1, ha2, ha3⟩ := box_cells Xa9.out
  obtain ⟨hb0, hb1, hb2, hb3⟩ := box_cells Xb9.out
  obtain ⟨hc0, hc1, hc2, hc3⟩ := box_cells Xc9.out
  have qy : (-x != -x) = false := by simp
  go_wp2_with fail
  refine (Same_V _ Ta9.out Tb9.out).mono ?_
  rw [← HX.out]
  rintro e w10 ⟨rfl, b10⟩
  have Xa10 := Aside0.mk (blk_below Xa9.out b10)
  have Ta10 := Aside0.mk (Ta9.out.below b10)
  have Xb10 := Aside0.mk (blk_below Xb9.out b10)
  have Tb10 := Aside0.mk (Tb9.out.below b10)
  have Xc10 := Aside0.mk (blk_below Xc9.out b10)
  have Tc10 := Aside0.mk (Tc9.out.below b10)
  have B10 := Aside0.mk (B9.out.trans (b10.mono B9.out.size))
  clear Xa9 Ta9 Xb9 Tb9 Xc9 Tc9 B9 b10 ha0 ha1 ha2 ha3 hb0 hb1 hb2 hb3 hc0 hc1 hc2 hc3
  obtain ⟨ha0, ha1, ha2, ha3⟩ := box_cells Xa10.out
  obtain ⟨hb0, hb1, hb2, hb3⟩ := box_cells Xb10.out
  obtain ⟨hc0, hc1, hc2, hc3⟩ := box_cells Xc10.out
  have qz : ((x == 0) != (x == 0)) = false := by simp
  go_wp2_with fail
  refine (Order_V _ Ta10.out Ta10.out).mono ?_
  rw [oT_self]
  rintro e w11 ⟨rfl, b11⟩
  have Xa11 := Aside0.mk (blk_below Xa10.out b11)
  have Ta11 := Aside0.mk (Ta10.out.below b11)
  have Xb11 := Aside0.mk (blk_below Xb10.out b11)
  have Tb11 := Aside0.mk (Tb10.out.below b11)
  have Xc11 := Aside0.mk (blk_below Xc10.out b11)
  have Tc11 := Aside0.mk (Tc10.out.below b11)
  have B11 := Aside0.mk (B10.out.trans (b11.mono B10.out.size))
  clear Xa10 Ta10 Xb10 Tb10 Xc10 Tc10 B10 b11 ha0 ha1 ha2 ha3 hb0 hb1 hb2 hb3 hc0 hc1 hc2 hc3
  obtain ⟨ha0, ha1, ha2, ha3⟩ := box_cells Xa11.out
  obtain ⟨hb0, hb1, hb2, hb3⟩ := box_cells Xb11.out
  obtain ⟨hc0, hc1, hc2, hc3⟩ := box_cells Xc11.out
  have H3 := HTRI.out
  unfold Tri at H3
  clear HTRI
  go_wp2_with fail
  all_goals go_ret
  all_goals refine ⟨?_, B11.out⟩
  all_goals (obtain ⟨k1, k2, k3, k4⟩ := H3)
  all_goals first | rfl | (congr 2; done) | (congr 2; simp; done) | (congr 2; simp; omega)
end Go.Proofs.YtlhfekhmfeafbaaDoor.P
