/- Part 5: texts of this seat, merged and struck of what the proof does not reach: Px5 Px6 PHv PAy AuthzBuilds -/
import Derived.Test.YtimommkbfbdkdaaDoorQA4
section
namespace Go.Proofs.YtimommkbfbdkdaaDoor.P
open Go.RowKit Go.Proofs.YtimommkbfbdkdaaDoorW.PrintWords Go.Proofs.YtimommkbfbdkdaaDoorW.PrintLast Go.Proofs.YtimommkbfbdkdaaDoorW.PrintMore
attribute [local go_sem] max2_int min2_int max_two min_two max_three min_three max_four min_four
set_option linter.unusedVariables false
set_option linter.unusedSimpArgs false
mutual
def legateref08_Order.l0 : Nat → Int → Int → ByteArray → Int → List (S29) → Int → ByteArray → Int → List (S29) → Option (Int)
  | 0, _, _, _, _, _, _, _, _, _ => none
  | k + 1, x5, x197000, x197001, x197002, x197003, x198000, x198001, x198002, x198003 => if x5 < (x197003.length : Int) then (legateref08_Order.j1 k x5 (decide (x5 < (x198003.length : Int))) x197000 x197001 x197002 x197003 x198000 x198001 x198002 x198003) else (legateref08_Order.j1 k x5 false x197000 x197001 x197002 x197003 x198000 x198001 x198002 x198003)
def legateref08_Order.j1 : Nat → Int → Bool → Int → ByteArray → Int → List (S29) → Int → ByteArray → Int → List (S29) → Option (Int)
  | 0, _, _, _, _, _, _, _, _, _, _ => none
  | k + 1, x5, x51, x197000, x197001, x197002, x197003, x198000, x198001, x198002, x198003 => if x51 = true then (if 0 ≤ x5 then (if x5 < (x197003.length : Int) then (if x5 < (x198003.length : Int) then ((legateref08_Order.f k ((rd_T29 x197003 x5).f0) ((rd_T29 x197003 x5).f1) ((rd_T29 x197003 x5).f2) ((rd_T29 x197003 x5).f3) ((rd_T29 x198003 x5).f0) ((rd_T29 x198003 x5).f1) ((rd_T29 x198003 x5).f2) ((rd_T29 x198003 x5).f3)).bind fun t203 => (if t203 = 0 then (legateref08_Order.l0 k (wrap64 (x5 + 1)) x197000 x197001 x197002 x197003 x198000 x198001 x198002 x198003) else (some t203))) else (none)) else (none)) else (none)) else (if (x197003.length : Int) = (x198003.length : Int) then (some 0) else ((legateref08_sign.f (decide ((x197003.length : Int) < (x198003.length : Int)))).bind fun t204 => (some t204)))
def legateref08_Order.f : Nat → Int → ByteArray → Int → List (S29) → Int → ByteArray → Int → List (S29) → Option (Int)
  | 0, _, _, _, _, _, _, _, _ => none
  | k + 1, a0_0, a0_1, a0_2, l0_3, a1_0, a1_1, a1_2, l1_3 => if a0_0 = a1_0 then (if a0_1.toList = a1_1.toList then (if a0_2 = a1_2 then (legateref08_Order.l0 k 0 a0_0 a0_1 a0_2 l0_3 a1_0 a1_1 a1_2 l1_3) else ((legateref08_sign.f (decide (a0_2 < a1_2))).bind fun t200 => (some t200))) else ((legateref08_sign.f (Op.bytesLess a0_1.toList a1_1.toList)).bind fun t199 => (some t199))) else ((legateref08_sign.f (decide (a0_0 < a1_0))).bind fun t198 => (some t198))
end
theorem legateref08_Order.mono_l : ∀ k, (∀ y0 y1 y2 y3 y4 y5 y6 y7, LeO (legateref08_Order.f k y0 y1 y2 y3 y4 y5 y6 y7) (legateref08_Order.f (k + 1) y0 y1 y2 y3 y4 y5 y6 y7)) ∧ (∀ y0 y1 y2 y3 y4 y5 y6 y7 y8, LeO (legateref08_Order.l0 k y0 y1 y2 y3 y4 y5 y6 y7 y8) (legateref08_Order.l0 (k + 1) y0 y1 y2 y3 y4 y5 y6 y7 y8)) ∧ (∀ y0 y1 y2 y3 y4 y5 y6 y7 y8 y9, LeO (legateref08_Order.j1 k y0 y1 y2 y3 y4 y5 y6 y7 y8 y9) (legateref08_Order.j1 (k + 1) y0 y1 y2 y3 y4 y5 y6 y7 y8 y9))
  | 0 => ⟨fun _ _ _ _ _ _ _ _ r h => by simp [legateref08_Order.f] at h, fun _ _ _ _ _ _ _ _ _ r h => by simp [legateref08_Order.l0] at h, fun _ _ _ _ _ _ _ _ _ _ r h => by simp [legateref08_Order.j1] at h⟩
  | k + 1 => by
    obtain ⟨ih0, ih1, ih2⟩ := legateref08_Order.mono_l k
    refine ⟨?_, ?_, ?_⟩
    · intro y0 y1 y2 y3 y4 y5 y6 y7
      unfold legateref08_Order.f
      repeat' first
      | (with_reducible exact ih0 _ _ _ _ _ _ _ _)
      | (with_reducible exact ih1 _ _ _ _ _ _ _ _ _)
      | (with_reducible exact ih2 _ _ _ _ _ _ _ _ _ _)
      | (with_reducible exact LeO.refl _)
      | (with_reducible exact LeO.none _)
      | (with_reducible refine LeO.ite ?_ ?_)
      | (with_reducible refine LeO.bind ?_ (fun _ => ?_))
      | exact ih0 _ _ _ _ _ _ _ _
      | exact ih1 _ _ _ _ _ _ _ _ _
      | exact ih2 _ _ _ _ _ _ _ _ _ _
      | exact LeO.none _
      | refine LeO.ite ?_ ?_
      | refine LeO.bind ?_ (fun _ => ?_)
    · intro y0 y1 y2 y3 y4 y5 y6 y7 y8
      unfold legateref08_Order.l0
      repeat' first
      | (with_reducible exact ih0 _ _ _ _ _ _ _ _)
      | (with_reducible exact ih1 _ _ _ _ _ _ _ _ _)
      | (with_reducible exact ih2 _ _ _ _ _ _ _ _ _ _)
      | (with_reducible exact LeO.refl _)
      | (with_reducible exact LeO.none _)
      | (with_reducible refine LeO.ite ?_ ?_)
      | (with_reducible refine LeO.bind ?_ (fun _ => ?_))
      | exact ih0 _ _ _ _ _ _ _ _
      | exact ih1 _ _ _ _ _ _ _ _ _
      | exact ih2 _ _ _ _ _ _ _ _ _ _
      | exact LeO.none _
      | refine LeO.ite ?_ ?_
      | refine LeO.bind ?_ (fun _ => ?_)
    · intro y0 y1 y2 y3 y4 y5 y6 y7 y8 y9
      unfold legateref08_Order.j1
      repeat' first
      | (with_reducible exact ih0 _ _ _ _ _ _ _ _)
      | (with_reducible exact ih1 _ _ _ _ _ _ _ _ _)
      | (with_reducible exact ih2 _ _ _ _ _ _ _ _ _ _)
      | (with_reducible exact LeO.refl _)
      | (with_reducible exact LeO.none _)
      | (with_reducible refine LeO.ite ?_ ?_)
      | (with_reducible refine LeO.bind ?_ (fun _ => ?_))
      | exact ih0 _ _ _ _ _ _ _ _
      | exact ih1 _ _ _ _ _ _ _ _ _
      | exact ih2 _ _ _ _ _ _ _ _ _ _
      | exact LeO.none _
      | refine LeO.ite ?_ ?_
      | refine LeO.bind ?_ (fun _ => ?_)
theorem legateref08_Order.mono : ∀ a0 a1 a2 a3 a4 a5 a6 a7 k, LeO (legateref08_Order.f k a0 a1 a2 a3 a4 a5 a6 a7) (legateref08_Order.f (k + 1) a0 a1 a2 a3 a4 a5 a6 a7) := by
  intro a0 a1 a2 a3 a4 a5 a6 a7 k
  obtain ⟨ih0, ih1, ih2⟩ := legateref08_Order.mono_l k
  exact ih0 a0 a1 a2 a3 a4 a5 a6 a7
def legateref08_Order.T10 : Bool × List (List Nat × List Nat) := (true, [([], []), ([0], [0]), ([], []), ([1, 2], [1, 2]), ([3], [3]), ([], []), ([5], [5]), ([], []), ([6, 7], [6, 7]), ([8], [8]), ([4, 9], [4, 9]), ([10, 10, 0, 1, 2, 3, 4, 5, 6, 7, 8, 9, 10], [10])])
def legateref08_Order.B10 : List Nat := [0, 1, 0, 7, 15, 0, 32, 0, 224, 480, 1023, 2047]
theorem legateref08_Order.tab10 : rtab .any (opsOf Tryd.f31 10) = legateref08_Order.T10 := by kernel_rfl
theorem legateref08_Order.bits10 : waitsOk legateref08_Order.T10.2 legateref08_Order.B10 = true := by kernel_rfl
set_option maxHeartbeats 8000000 in
set_option maxRecDepth 100000 in
theorem legateref08_Order.calls (k : Nat) : ∀ (a0_0 : Int) (a0_1 : ByteArray) (a0_2 : Int) (A0_3 : Option Addr) (c0_3 : Nat) (l0_3 : List (S29)) (a1_0 : Int) (a1_1 : ByteArray) (a1_2 : Int) (A1_3 : Option Addr) (c1_3 : Nat) (l1_3 : List (S29)) (r : Int) (w : World) (hr0_3 : Kd.C k29 w A0_3 l0_3.length l0_3) (hc0_3 : l0_3.length ≤ c0_3) (hr1_3 : Kd.C k29 w A1_3 l1_3.length l1_3) (hc1_3 : l1_3.length ≤ c1_3) (h : legateref08_Order.f k a0_0 a0_1 a0_2 l0_3 a1_0 a1_1 a1_2 l1_3 = some r),
    Calls Tryd.prog 31 #[.agg #[.int .i64 a0_0, .string a0_1, .int .i64 a0_2, .slice A0_3 l0_3.length c0_3], .agg #[.int .i64 a1_0, .string a1_1, .int .i64 a1_2, .slice A1_3 l1_3.length c1_3]] w fun e w' => e = .returned (.int .i64 r) ∧ Below w.heap.size w w' := by
  induction k using Nat.strongRecOn with
  | _ k ih =>
  intro a0_0 a0_1 a0_2 A0_3 c0_3 l0_3 a1_0 a1_1 a1_2 A1_3 c1_3 l1_3 r w hr0_3 hc0_3 hr1_3 hc1_3 h
  cases k with
  | zero => exact absurd h (by simp [legateref08_Order.f])
  | succ k =>
  simp only [legateref08_Order.f] at h
  have hu29 := Tryd.underlying29
  have HR0_3 := Aside0.mk hr0_3
  have HC0_3 := Aside0.mk hc0_3
  clear hr0_3 hc0_3
  have HR1_3 := Aside0.mk hr1_3
  have HC1_3 := Aside0.mk hc1_3
  clear hr1_3 hc1_3
  have HB := Aside0.mk (Below.refl w.heap.size w)
  have H : (if a0_0 = a1_0 then (if a0_1.toList = a1_1.toList then (if a0_2 = a1_2 then (legateref08_Order.l0 k 0 a0_0 a0_1 a0_2 l0_3 a1_0 a1_1 a1_2 l1_3) else ((legateref08_sign.f (decide (a0_2 < a1_2))).bind fun t200 => (some t200))) else ((legateref08_sign.f (Op.bytesLess a0_1.toList a1_1.toList)).bind fun t199 => (some t199))) else ((legateref08_sign.f (decide (a0_0 < a1_0))).bind fun t198 => (some t198))) = some r := h
  clear h
  by_cases c3 : a0_0 = a1_0
  · rw [if_pos c3] at H
    have c3b0 : (a0_0 == a1_0) = true := beq_iff_eq.mpr c3
    have c3b1 : (a0_0 != a1_0) = false := bne_eq_false_iff_eq.mpr c3
    clear c3
    by_cases c4 : a0_1.toList = a1_1.toList
    · rw [if_pos c4] at H
      have c4b0 : (a0_1.toList == a1_1.toList) = true := beq_iff_eq.mpr c4
      have c4b1 : (a0_1.toList != a1_1.toList) = false := bne_eq_false_iff_eq.mpr c4
      clear c4
      by_cases c5 : a0_2 = a1_2
      · rw [if_pos c5] at H
        have c5b0 : (a0_2 == a1_2) = true := beq_iff_eq.mpr c5
        have c5b1 : (a0_2 != a1_2) = false := bne_eq_false_iff_eq.mpr c5
        clear c5
        have H' := Aside0.mk H
        clear H
        go_enter Tryd.func31, Tryd.ntmps31
        go_wp2_with (first | ((with_reducible refine gate_dst (N := 2) rfl ?_); (try (refine gate_guard (by rfl) ?_; dsimp only)); refine box_event ?hg (N := 2) ?hd (cs := #[.int .i64 a0_0, .string a0_1, .int .i64 a0_2, .slice A0_3 l0_3.length c0_3]) (t := 29) ?hr ?_; (case hd => rfl); (case hg => rfl); (case hr => first | (go_simp; done) | (go_simp; rfl)); intro gb196 hg w6 hbox hb; have n0_ := Aside0.mk (below_step (by repeat (first | (with_reducible first | exact HB.out | apply below_alloc | apply pw_below_drewN | apply below_drew1) | exact HB.out)) hb); have n1_ := Aside0.mk (hbox); have n2_ := Aside0.mk ((by rw [hg]; exact (below_size (by repeat (first | (with_reducible first | exact HB.out | apply below_alloc | apply pw_below_drewN | apply below_drew1) | exact HB.out))) : w.heap.size ≤ gb196)); have n3_ := Aside0.mk ((by rw [hg]; exact (below_size (by repeat (first | (with_reducible first | exact HB.out | apply below_alloc | apply pw_below_drewN | apply below_drew1) | exact HB.out))) : w.heap.size ≤ gb196)); clear HB; have HB := n0_; have BK196 := n1_; have GW196 := n2_; have GE196 := n3_; clear n0_ n1_ n2_ n3_; clear hb hbox hg) | ((with_reducible refine gate_dst (N := 3) rfl ?_); (try (refine gate_guard (by rfl) ?_; dsimp only)); refine box_event ?hg (N := 3) ?hd (cs := #[.int .i64 a1_0, .string a1_1, .int .i64 a1_2, .slice A1_3 l1_3.length c1_3]) (t := 29) ?hr ?_; (case hd => rfl); (case hg => rfl); (case hr => first | (go_simp; done) | (go_simp; rfl)); intro gb197 hg w7 hbox hb; have n0_ := Aside0.mk (blk_below (g := gb196) (o := .cells #[.int .i64 a0_0, .string a0_1, .int .i64 a0_2, .slice A0_3 l0_3.length c0_3] 29 (0, 0)) (by (with_reducible repeat (first | refine blk_drewN ?_ _ | refine blk_drew ?_ | refine blk_alloc ?_ _)); exact BK196.out) hb); have n1_ := Aside0.mk (below_step (by repeat (first | (with_reducible first | exact HB.out | apply below_alloc | apply pw_below_drewN | apply below_drew1 | refine below_set ?_ GE196.out) | exact HB.out)) hb); have n2_ := Aside0.mk (hbox); have n3_ := Aside0.mk ((by rw [hg]; exact (below_size (by repeat (first | (with_reducible first | exact HB.out | apply below_alloc | apply pw_below_drewN | apply below_drew1 | refine below_set ?_ GE196.out) | exact HB.out))) : w.heap.size ≤ gb197)); have n4_ := Aside0.mk ((by rw [hg]; exact (below_size (by repeat (first | (with_reducible first | exact HB.out | apply below_alloc | apply pw_below_drewN | apply below_drew1 | refine below_set ?_ GE196.out) | exact HB.out))) : w.heap.size ≤ gb197)); have n5_ := Aside0.mk ((by rw [hg]; exact Nat.ne_of_lt (blk_lt (g := gb196) (o := .cells #[.int .i64 a0_0, .string a0_1, .int .i64 a0_2, .slice A0_3 l0_3.length c0_3] 29 (0, 0)) (by (with_reducible repeat (first | refine blk_drewN ?_ _ | refine blk_drew ?_ | refine blk_alloc ?_ _)); exact BK196.out)) : gb196 ≠ gb197)); have n6_ := Aside0.mk ((by rw [hg]; exact Nat.ne_of_gt (blk_lt (g := gb196) (o := .cells #[.int .i64 a0_0, .string a0_1, .int .i64 a0_2, .slice A0_3 l0_3.length c0_3] 29 (0, 0)) (by (with_reducible repeat (first | refine blk_drewN ?_ _ | refine blk_drew ?_ | refine blk_alloc ?_ _)); exact BK196.out)) : gb197 ≠ gb196)); clear BK196; clear HB; have BK196 := n0_; have HB := n1_; have BK197 := n2_; have GW197 := n3_; have GE197 := n4_; have NB196_197 := n5_; have NB197_196 := n6_; clear n0_ n1_ n2_ n3_ n4_ n5_ n6_; clear hb hbox hg; have hnb8 := NB196_197.out; have hnc8 := NB197_196.out; have hcz9_0 : w7.cell? ⟨gb196, 0, none⟩ = some (.int .i64 a0_0) := (blk_cell BK196.out 0).trans rfl; have hcz9_1 : w7.cell? ⟨gb196, 1, none⟩ = some (.string a0_1) := (blk_cell BK196.out 1).trans rfl; have hcz9_2 : w7.cell? ⟨gb196, 2, none⟩ = some (.int .i64 a0_2) := (blk_cell BK196.out 2).trans rfl; have hcz9_3 : w7.cell? ⟨gb196, 3, none⟩ = some (.slice A0_3 l0_3.length c0_3) := (blk_cell BK196.out 3).trans rfl; have hfz9_0 := blk_frozen BK196.out 0; have hfz9_1 := blk_frozen BK196.out 1; have hfz9_2 := blk_frozen BK196.out 2; have hfz9_3 := blk_frozen BK196.out 3; have hcz10_0 : w7.cell? ⟨gb197, 0, none⟩ = some (.int .i64 a1_0) := (blk_cell BK197.out 0).trans rfl; have hcz10_1 : w7.cell? ⟨gb197, 1, none⟩ = some (.string a1_1) := (blk_cell BK197.out 1).trans rfl; have hcz10_2 : w7.cell? ⟨gb197, 2, none⟩ = some (.int .i64 a1_2) := (blk_cell BK197.out 2).trans rfl; have hcz10_3 : w7.cell? ⟨gb197, 3, none⟩ = some (.slice A1_3 l1_3.length c1_3) := (blk_cell BK197.out 3).trans rfl; have hfz10_0 := blk_frozen BK197.out 0; have hfz10_1 := blk_frozen BK197.out 1; have hfz10_2 := blk_frozen BK197.out 2; have hfz10_3 := blk_frozen BK197.out 3))
        go_loopg [5] k (fun kq v5 w' => ∃ (x5_1 : Int), v5 = .int .i64 x5_1 ∧ Aside0 (legateref08_Order.l0 kq x5_1 a0_0 a0_1 a0_2 l0_3 a1_0 a1_1 a1_2 l1_3 = some r) ∧ Aside0 (kq ≤ k) ∧ Aside0 (w'.heap[gb196]? = some (.cells #[.int .i64 a0_0, .string a0_1, .int .i64 a0_2, (.slice A0_3 l0_3.length c0_3)] 29 (0, 0))) ∧ Aside0 (w'.heap[gb197]? = some (.cells #[.int .i64 a1_0, .string a1_1, .int .i64 a1_2, (.slice A1_3 l1_3.length c1_3)] 29 (0, 0))) ∧ Aside0 (Below w.heap.size w w'))
        case atStart => exact ⟨(0), (by first | rfl | (simp; done) | (simp [*]; done) | (simp; exact isEmpty_ne _)), H', ⟨Nat.le_refl _⟩, ⟨by (with_reducible repeat (first | refine blk_drewN ?_ _ | refine blk_drew ?_ | refine blk_alloc ?_ _)); exact BK196.out⟩, ⟨by (with_reducible repeat (first | refine blk_drewN ?_ _ | refine blk_drew ?_ | refine blk_alloc ?_ _)); exact BK197.out⟩, ⟨by repeat (first | (with_reducible first | exact HB.out | apply below_alloc | apply pw_below_drewN | apply below_drew1 | refine below_set ?_ GE196.out | refine below_set ?_ GE197.out) | exact HB.out)⟩⟩
        case round =>
          clear H'
          try clear c1
          try clear p2
          try clear c3
          try clear c3b0
          try clear c3b1
          try clear c4
          try clear c4b0
          try clear c4b1
          try clear c5
          try clear c5b0
          try clear c5b1
          try clear c8
          try clear hcz10_0
          try clear hcz10_1
          try clear hcz10_2
          try clear hcz10_3
          try clear hcz9_0
          try clear hcz9_1
          try clear hcz9_2
          try clear hcz9_3
          try clear hfz10_0
          try clear hfz10_1
          try clear hfz10_2
          try clear hfz10_3
          try clear hfz9_0
          try clear hfz9_1
          try clear hfz9_2
          try clear hfz9_3
          obtain ⟨x5_1, rfl, HA, HK1, BK196, BK197, HB⟩ := hrel
          cases gk with
          | zero => exact absurd HA.out (by simp [legateref08_Order.l0])
          | succ k1 =>
            have H := HA.out
            clear HA
            simp only [legateref08_Order.l0] at H
            have HC11 := Aside0.mk H
            clear H
            go_upto_region 8 with (fail)
            go_cut [51] (fun v51 wc => ∃ (kq : Nat) (x51_10 : Bool), v51 = .bool x51_10 ∧ Aside0 (legateref08_Order.j1 kq x5_1 x51_10 a0_0 a0_1 a0_2 l0_3 a1_0 a1_1 a1_2 l1_3 = some r) ∧ Aside0 (kq ≤ k1) ∧ Aside0 (wc.heap[gb196]? = some (.cells #[.int .i64 a0_0, .string a0_1, .int .i64 a0_2, (.slice A0_3 l0_3.length c0_3)] 29 (0, 0))) ∧ Aside0 (wc.heap[gb197]? = some (.cells #[.int .i64 a1_0, .string a1_1, .int .i64 a1_2, (.slice A1_3 l1_3.length c1_3)] 29 (0, 0))) ∧ Aside0 (Below w.heap.size w wc))
            case first =>
              have H := HC11.out
              clear HC11
              by_cases c12 : x5_1 < (l0_3.length : Int)
              · rw [if_pos c12] at H
                have c12b0 : decide (x5_1 < (l0_3.length : Int)) = true := decide_eq_true c12
                clear c12
                (first | rw [c12b0] | (simp only [i64_w, i32_w]; rw [c12b0]) | skip)
                have H' := Aside0.mk H
                clear H
                have hnb13 := NB196_197.out
                have hnc13 := NB197_196.out
                have hcz14_0 : wr.cell? ⟨gb196, 0, none⟩ = some (.int .i64 a0_0) := (blk_cell BK196.out 0).trans rfl
                have hcz14_1 : wr.cell? ⟨gb196, 1, none⟩ = some (.string a0_1) := (blk_cell BK196.out 1).trans rfl
                have hcz14_2 : wr.cell? ⟨gb196, 2, none⟩ = some (.int .i64 a0_2) := (blk_cell BK196.out 2).trans rfl
                have hcz14_3 : wr.cell? ⟨gb196, 3, none⟩ = some (.slice A0_3 l0_3.length c0_3) := (blk_cell BK196.out 3).trans rfl
                have hfz14_0 := blk_frozen BK196.out 0
                have hfz14_1 := blk_frozen BK196.out 1
                have hfz14_2 := blk_frozen BK196.out 2
                have hfz14_3 := blk_frozen BK196.out 3
                have hcz15_0 : wr.cell? ⟨gb197, 0, none⟩ = some (.int .i64 a1_0) := (blk_cell BK197.out 0).trans rfl
                have hcz15_1 : wr.cell? ⟨gb197, 1, none⟩ = some (.string a1_1) := (blk_cell BK197.out 1).trans rfl
                have hcz15_2 : wr.cell? ⟨gb197, 2, none⟩ = some (.int .i64 a1_2) := (blk_cell BK197.out 2).trans rfl
                have hcz15_3 : wr.cell? ⟨gb197, 3, none⟩ = some (.slice A1_3 l1_3.length c1_3) := (blk_cell BK197.out 3).trans rfl
                have hfz15_0 := blk_frozen BK197.out 0
                have hfz15_1 := blk_frozen BK197.out 1
                have hfz15_2 := blk_frozen BK197.out 2
                have hfz15_3 := blk_frozen BK197.out 3
                go_wp2
                go_meet
                case rel => exact ⟨_, (decide (x5_1 < (l1_3.length : Int))), (by first | rfl | (simp; done) | (simp [*]; done) | (simp; exact isEmpty_ne _)), H', ⟨by have := HK1.out; first | omega | exact Nat.le_refl _⟩, ⟨by (with_reducible repeat (first | refine blk_drewN ?_ _ | refine blk_drew ?_ | refine blk_alloc ?_ _)); exact BK196.out⟩, ⟨by (with_reducible repeat (first | refine blk_drewN ?_ _ | refine blk_drew ?_ | refine blk_alloc ?_ _)); exact BK197.out⟩, ⟨by repeat (first | (with_reducible first | exact HB.out | apply below_alloc | apply pw_below_drewN | apply below_drew1 | refine below_set ?_ GE196.out | refine below_set ?_ GE197.out) | exact HB.out)⟩⟩
              · rw [if_neg c12] at H
                have c12b0 : decide (x5_1 < (l0_3.length : Int)) = false := decide_eq_false c12
                clear c12
                (first | rw [c12b0] | (simp only [i64_w, i32_w]; rw [c12b0]) | skip)
                have H' := Aside0.mk H
                clear H
                have hnb16 := NB196_197.out
                have hnc16 := NB197_196.out
                have hcz17_0 : wr.cell? ⟨gb196, 0, none⟩ = some (.int .i64 a0_0) := (blk_cell BK196.out 0).trans rfl
                have hcz17_1 : wr.cell? ⟨gb196, 1, none⟩ = some (.string a0_1) := (blk_cell BK196.out 1).trans rfl
                have hcz17_2 : wr.cell? ⟨gb196, 2, none⟩ = some (.int .i64 a0_2) := (blk_cell BK196.out 2).trans rfl
                have hcz17_3 : wr.cell? ⟨gb196, 3, none⟩ = some (.slice A0_3 l0_3.length c0_3) := (blk_cell BK196.out 3).trans rfl
                have hfz17_0 := blk_frozen BK196.out 0
                have hfz17_1 := blk_frozen BK196.out 1
                have hfz17_2 := blk_frozen BK196.out 2
                have hfz17_3 := blk_frozen BK196.out 3
                go_wp2
                go_meet
                case rel => exact ⟨_, (false), (by first | rfl | (simp; done) | (simp [*]; done) | (simp; exact isEmpty_ne _)), H', ⟨by have := HK1.out; first | omega | exact Nat.le_refl _⟩, ⟨by (with_reducible repeat (first | refine blk_drewN ?_ _ | refine blk_drew ?_ | refine blk_alloc ?_ _)); exact BK196.out⟩, ⟨by (with_reducible repeat (first | refine blk_drewN ?_ _ | refine blk_drew ?_ | refine blk_alloc ?_ _)); exact BK197.out⟩, ⟨by repeat (first | (with_reducible first | exact HB.out | apply below_alloc | apply pw_below_drewN | apply below_drew1 | refine below_set ?_ GE196.out | refine below_set ?_ GE197.out) | exact HB.out)⟩⟩
            case rest =>
              clear HC11
              try clear c1
              try clear p2
              try clear c3
              try clear c3b0
              try clear c3b1
              try clear c4
              try clear c4b0
              try clear c4b1
              try clear c5
              try clear c5b0
              try clear c5b1
              try clear c8
              try clear c12
              try clear c12b0
              try clear c13
              try clear c16
              try clear hcz10_0
              try clear hcz10_1
              try clear hcz10_2
              try clear hcz10_3
              try clear hcz14_0
              try clear hcz14_1
              try clear hcz14_2
              try clear hcz14_3
              try clear hcz15_0
              try clear hcz15_1
              try clear hcz15_2
              try clear hcz15_3
              try clear hcz17_0
              try clear hcz17_1
              try clear hcz17_2
              try clear hcz17_3
              try clear hcz9_0
              try clear hcz9_1
              try clear hcz9_2
              try clear hcz9_3
              try clear hfz10_0
              try clear hfz10_1
              try clear hfz10_2
              try clear hfz10_3
              try clear hfz14_0
              try clear hfz14_1
              try clear hfz14_2
              try clear hfz14_3
              try clear hfz15_0
              try clear hfz15_1
              try clear hfz15_2
              try clear hfz15_3
              try clear hfz17_0
              try clear hfz17_1
              try clear hfz17_2
              try clear hfz17_3
              try clear hfz9_0
              try clear hfz9_1
              try clear hfz9_2
              try clear hfz9_3
              try clear p2
              obtain ⟨kq, x51_10, rfl, HA, HJ10, BK196, BK197, HB⟩ := hcut
              cases kq with
              | zero => exact absurd HA.out (by simp [legateref08_Order.j1])
              | succ kj10 =>
                have H := HA.out
                clear HA
                simp only [legateref08_Order.j1] at H
                by_cases c18 : x51_10 = true
                · subst c18
                  have H1 : (if 0 ≤ x5_1 then (if x5_1 < (l0_3.length : Int) then (if x5_1 < (l1_3.length : Int) then ((legateref08_Order.f kj10 ((rd_T29 l0_3 x5_1).f0) ((rd_T29 l0_3 x5_1).f1) ((rd_T29 l0_3 x5_1).f2) ((rd_T29 l0_3 x5_1).f3) ((rd_T29 l1_3 x5_1).f0) ((rd_T29 l1_3 x5_1).f1) ((rd_T29 l1_3 x5_1).f2) ((rd_T29 l1_3 x5_1).f3)).bind fun t203 => (if t203 = 0 then (legateref08_Order.l0 kj10 (wrap64 (x5_1 + 1)) a0_0 a0_1 a0_2 l0_3 a1_0 a1_1 a1_2 l1_3) else (some t203))) else (none)) else (none)) else (none)) = some r := by rw [if_pos rfl] at H; exact H
                  clear H
                  have H := H1
                  clear H1
                  by_cases c19 : 0 ≤ x5_1
                  · rw [if_pos c19] at H
                    have c19b0 : decide (0 ≤ x5_1) = true := decide_eq_true c19
                    clear c19
                    by_cases c20 : x5_1 < (l0_3.length : Int)
                    · rw [if_pos c20] at H
                      have c20b0 : decide (x5_1 < (l0_3.length : Int)) = true := decide_eq_true c20
                      clear c20
                      by_cases c21 : x5_1 < (l1_3.length : Int)
                      · rw [if_pos c21] at H
                        have c21b0 : decide (x5_1 < (l1_3.length : Int)) = true := decide_eq_true c21
                        clear c21
                        replace H := Option.bind_eq_some_iff.mp H
                        obtain ⟨t203, A220, H⟩ := H
                        replace H : (if t203 = 0 then (legateref08_Order.l0 kj10 (wrap64 (x5_1 + 1)) a0_0 a0_1 a0_2 l0_3 a1_0 a1_1 a1_2 l1_3) else (some t203)) = some r := H
                        have A22 := Aside0.mk A220
                        clear A220
                        by_cases c23 : t203 = 0
                        · rw [if_pos c23] at H
                          have c23b0 : (t203 == 0) = true := beq_iff_eq.mpr c23
                          have c23b1 : (t203 != 0) = false := bne_eq_false_iff_eq.mpr c23
                          clear c23
                          have H' := Aside0.mk H
                          clear H
                          try go_wp2
                          have n0_ := Aside0.mk (blk_drew BK196.out)
                          have n1_ := Aside0.mk (blk_drew BK197.out)
                          have n2_ := Aside0.mk (below_drew1 HB.out)
                          clear BK196
                          clear BK197
                          clear HB
                          have BK196 := n0_
                          have BK197 := n1_
                          have HB := n2_
                          clear n0_ n1_ n2_
                          have p201 : 0 ≤ (x5_1 : Int) := of_decide_eq_true (by first | (with_reducible assumption) | assumption)
                          have q201 : x5_1 < (l0_3.length : Int) := of_decide_eq_true (by first | (with_reducible assumption) | assumption)
                          obtain ⟨ad201, A201_3, c201_3, e201, hx201_0, hx201_1, hx201_2, hx201_3, hl201_3, hi201_3⟩ := at_T29 HR0_3.out x5_1 p201 q201
                          have hw201_3 := hx201_3
                          have hw201_2 := hx201_2
                          have hw201_1 := hx201_1
                          have hw201_0 := hx201_0
                          cases e201
                          replace hx201_0 := (HB.out.cell (World.block_lt_of_cell? w _ hx201_0)).trans hx201_0
                          replace hx201_1 := (HB.out.cell (World.block_lt_of_cell? w _ hx201_1)).trans hx201_1
                          replace hx201_2 := (HB.out.cell (World.block_lt_of_cell? w _ hx201_2)).trans hx201_2
                          replace hx201_3 := (HB.out.cell (World.block_lt_of_cell? w _ hx201_3)).trans hx201_3
                          have HR201_3 := Aside0.mk hi201_3
                          have HC201_3 := Aside0.mk hl201_3
                          clear hi201_3 hl201_3
                          replace p201 := eq_true p201
                          replace q201 := eq_true q201
                          have p202 : 0 ≤ (x5_1 : Int) := of_decide_eq_true (by first | (with_reducible assumption) | assumption)
                          have q202 : x5_1 < (l1_3.length : Int) := of_decide_eq_true (by first | (with_reducible assumption) | assumption)
                          obtain ⟨ad202, A202_3, c202_3, e202, hx202_0, hx202_1, hx202_2, hx202_3, hl202_3, hi202_3⟩ := at_T29 HR1_3.out x5_1 p202 q202
                          have hw202_3 := hx202_3
                          have hw202_2 := hx202_2
                          have hw202_1 := hx202_1
                          have hw202_0 := hx202_0
                          cases e202
                          replace hx202_0 := (HB.out.cell (World.block_lt_of_cell? w _ hx202_0)).trans hx202_0
                          replace hx202_1 := (HB.out.cell (World.block_lt_of_cell? w _ hx202_1)).trans hx202_1
                          replace hx202_2 := (HB.out.cell (World.block_lt_of_cell? w _ hx202_2)).trans hx202_2
                          replace hx202_3 := (HB.out.cell (World.block_lt_of_cell? w _ hx202_3)).trans hx202_3
                          have HR202_3 := Aside0.mk hi202_3
                          have HC202_3 := Aside0.mk hl202_3
                          clear hi202_3 hl202_3
                          replace p202 := eq_true p202
                          replace q202 := eq_true q202
                          refine start_ (n := 12) (S := fun w' => w'.cell? ⟨gb196, 0, none⟩ = some (.int .i64 a0_0) ∧ w'.cell? ⟨gb196, 1, none⟩ = some (.string a0_1) ∧ w'.cell? ⟨gb196, 2, none⟩ = some (.int .i64 a0_2) ∧ w'.cell? ⟨gb196, 3, none⟩ = some (.slice (some ad201) l0_3.length c0_3) ∧ w'.cell? ⟨gb197, 0, none⟩ = some (.int .i64 a1_0) ∧ w'.cell? ⟨gb197, 1, none⟩ = some (.string a1_1) ∧ w'.cell? ⟨gb197, 2, none⟩ = some (.int .i64 a1_2) ∧ w'.cell? ⟨gb197, 3, none⟩ = some (.slice (some ad202) l1_3.length c1_3) ∧ w'.cell? (ad201.add ((x5_1).toNat * 4)) = some (.int .i64 ((rd_T29 l0_3 x5_1).f0)) ∧ w'.cell? ⟨(ad201.add ((x5_1).toNat * 4)).block, (ad201.add ((x5_1).toNat * 4)).off + 1, none⟩ = some (.string ((rd_T29 l0_3 x5_1).f1)) ∧ w'.cell? ⟨(ad201.add ((x5_1).toNat * 4)).block, (ad201.add ((x5_1).toNat * 4)).off + 2, none⟩ = some (.int .i64 ((rd_T29 l0_3 x5_1).f2)) ∧ w'.cell? ⟨(ad201.add ((x5_1).toNat * 4)).block, (ad201.add ((x5_1).toNat * 4)).off + 3, none⟩ = some (.slice A201_3 ((rd_T29 l0_3 x5_1).f3).length c201_3) ∧ w'.cell? (ad202.add ((x5_1).toNat * 4)) = some (.int .i64 ((rd_T29 l1_3 x5_1).f0)) ∧ w'.cell? ⟨(ad202.add ((x5_1).toNat * 4)).block, (ad202.add ((x5_1).toNat * 4)).off + 1, none⟩ = some (.string ((rd_T29 l1_3 x5_1).f1)) ∧ w'.cell? ⟨(ad202.add ((x5_1).toNat * 4)).block, (ad202.add ((x5_1).toNat * 4)).off + 2, none⟩ = some (.int .i64 ((rd_T29 l1_3 x5_1).f2)) ∧ w'.cell? ⟨(ad202.add ((x5_1).toNat * 4)).block, (ad202.add ((x5_1).toNat * 4)).off + 3, none⟩ = some (.slice A202_3 ((rd_T29 l1_3 x5_1).f3).length c202_3)) (ds := []) #[false, false, false, false, false, false, false, false, false, false, false, false] (by kernel_rfl) rfl rfl ⟨(blk_cell BK196.out 0).trans rfl, (blk_cell BK196.out 1).trans rfl, (blk_cell BK196.out 2).trans rfl, (blk_cell BK196.out 3).trans rfl, (blk_cell BK197.out 0).trans rfl, (blk_cell BK197.out 1).trans rfl, (blk_cell BK197.out 2).trans rfl, (blk_cell BK197.out 3).trans rfl, ((HB.out.cell (World.block_lt_of_cell? w _ hw201_0)).trans hw201_0), ((HB.out.cell (World.block_lt_of_cell? w _ hw201_1)).trans hw201_1), ((HB.out.cell (World.block_lt_of_cell? w _ hw201_2)).trans hw201_2), ((HB.out.cell (World.block_lt_of_cell? w _ hw201_3)).trans hw201_3), ((HB.out.cell (World.block_lt_of_cell? w _ hw202_0)).trans hw202_0), ((HB.out.cell (World.block_lt_of_cell? w _ hw202_1)).trans hw202_1), ((HB.out.cell (World.block_lt_of_cell? w _ hw202_2)).trans hw202_2), ((HB.out.cell (World.block_lt_of_cell? w _ hw202_3)).trans hw202_3)⟩ (fun hHeld => ?_); refine with_tabW legateref08_Order.tab10 legateref08_Order.bits10 (fun HT_ HW_ => ?_)
                          generalize wc.drew = w24 at BK196 BK197 HB HR201_3 HR202_3 hx201_0 hx201_1 hx201_2 hx201_3 hx202_0 hx202_1 hx202_2 hx202_3 hHeld ⊢
                          refine pure_ (i := 0) (N := some 54) (v := ?_) (a' := ?_) #[true, false, false, false, false, false, false, false, false, false, false, false] rfl rfl (any_of HT_.out (by kernel_rfl)) (fun _ _ _ h => h) (Or.inl ⟨by rfl, ?_⟩) ?_ ?_
                          rotate_left
                          · intro w'
                            go_simp
                            with_reducible rfl
                          rotate_left
                          · simp only [Act.put, List.setIfInBounds_toArray, List.set_cons_zero, List.set_cons_succ, i64_w, i32_w]
                            rfl
                          refine pure_ (i := 2) (N := some 56) (v := ?_) (a' := ?_) #[true, false, true, false, false, false, false, false, false, false, false, false] rfl rfl (any_of HT_.out (by kernel_rfl)) (fun _ _ _ h => h) (Or.inl ⟨by rfl, ?_⟩) ?_ ?_
                          rotate_left
                          · intro w'
                            go_simp
                            with_reducible rfl
                          rotate_left
                          · simp only [Act.put, List.setIfInBounds_toArray, List.set_cons_zero, List.set_cons_succ, i64_w, i32_w]
                            rfl
                          refine pure_ (i := 5) (N := some 59) (v := ?_) (a' := ?_) #[true, false, true, false, false, true, false, false, false, false, false, false] rfl rfl (any_of HT_.out (by kernel_rfl)) (fun _ _ _ h => h) (Or.inl ⟨by rfl, ?_⟩) ?_ ?_
                          rotate_left
                          · intro w'
                            go_simp
                            with_reducible rfl
                          rotate_left
                          · simp only [Act.put, List.setIfInBounds_toArray, List.set_cons_zero, List.set_cons_succ, i64_w, i32_w]
                            rfl
                          refine pure_ (i := 7) (N := some 61) (v := ?_) (a' := ?_) #[true, false, true, false, false, true, false, true, false, false, false, false] rfl rfl (any_of HT_.out (by kernel_rfl)) (fun _ _ _ h => h) (Or.inl ⟨by rfl, ?_⟩) ?_ ?_
                          rotate_left
                          · intro w'
                            go_simp
                            with_reducible rfl
                          rotate_left
                          · simp only [Act.put, List.setIfInBounds_toArray, List.set_cons_zero, List.set_cons_succ, i64_w, i32_w]
                            rfl
                          refine take_ (i := 1) (N := some 55) (v := ?_) (a' := ?_) #[true, true, true, false, false, true, false, true, false, false, false, false] rfl rfl (take_ofW HT_.out HW_.out (by kernel_rfl)) (fun _ _ _ h => h) (Or.inl ⟨by rfl, ?_⟩) hHeld ?_ ?_
                          rotate_left
                          · rintro w' ⟨s0, s1, s2, s3, s4, s5, s6, s7, s8, s9, s10, s11, s12, s13, s14, s15⟩
                            go_simp
                            with_reducible rfl
                          rotate_left
                          · simp only [Act.put, List.setIfInBounds_toArray, List.set_cons_zero, List.set_cons_succ, i64_w, i32_w]
                            rfl
                          refine pure_ (i := 3) (N := some 57) (v := ?_) (a' := ?_) #[true, true, true, true, false, true, false, true, false, false, false, false] rfl rfl (any_of HT_.out (by kernel_rfl)) (fun _ _ _ h => h) (Or.inl ⟨by rfl, ?_⟩) ?_ ?_
                          rotate_left
                          · intro w'
                            go_simp
                            with_reducible rfl
                          rotate_left
                          · simp only [Act.put, List.setIfInBounds_toArray, List.set_cons_zero, List.set_cons_succ, i64_w, i32_w]
                            rfl
                          refine take_ (i := 4) (N := some 58) (v := ?_) (a' := ?_) #[true, true, true, true, true, true, false, true, false, false, false, false] rfl rfl (take_ofW HT_.out HW_.out (by kernel_rfl)) (fun _ _ _ h => h) (Or.inl ⟨by rfl, ?_⟩) hHeld ?_ ?_
                          rotate_left
                          · rintro w' ⟨s0, s1, s2, s3, s4, s5, s6, s7, s8, s9, s10, s11, s12, s13, s14, s15⟩
                            go_simp
                            with_reducible rfl
                          rotate_left
                          · simp only [Act.put, List.setIfInBounds_toArray, List.set_cons_zero, List.set_cons_succ, i64_w, i32_w]
                            rfl
                          refine take_ (i := 6) (N := some 60) (v := ?_) (a' := ?_) #[true, true, true, true, true, true, true, true, false, false, false, false] rfl rfl (take_ofW HT_.out HW_.out (by kernel_rfl)) (fun _ _ _ h => h) (Or.inl ⟨by rfl, ?_⟩) hHeld ?_ ?_
                          rotate_left
                          · rintro w' ⟨s0, s1, s2, s3, s4, s5, s6, s7, s8, s9, s10, s11, s12, s13, s14, s15⟩
                            go_simp
                            with_reducible rfl
                          rotate_left
                          · simp only [Act.put, List.setIfInBounds_toArray, List.set_cons_zero, List.set_cons_succ, i64_w, i32_w]
                            rfl
                          refine pure_ (i := 8) (N := some 62) (v := ?_) (a' := ?_) #[true, true, true, true, true, true, true, true, true, false, false, false] rfl rfl (any_of HT_.out (by kernel_rfl)) (fun _ _ _ h => h) (Or.inl ⟨by rfl, ?_⟩) ?_ ?_
                          rotate_left
                          · intro w'
                            go_simp
                            with_reducible rfl
                          rotate_left
                          · simp only [Act.put, List.setIfInBounds_toArray, List.set_cons_zero, List.set_cons_succ, i64_w, i32_w]
                            rfl
                          refine take_ (i := 9) (N := some 63) (v := ?_) (a' := ?_) #[true, true, true, true, true, true, true, true, true, true, false, false] rfl rfl (take_ofW HT_.out HW_.out (by kernel_rfl)) (fun _ _ _ h => h) (Or.inl ⟨by rfl, ?_⟩) hHeld ?_ ?_
                          rotate_left
                          · rintro w' ⟨s0, s1, s2, s3, s4, s5, s6, s7, s8, s9, s10, s11, s12, s13, s14, s15⟩
                            go_simp
                            with_reducible rfl
                          rotate_left
                          · simp only [Act.put, List.setIfInBounds_toArray, List.set_cons_zero, List.set_cons_succ, i64_w, i32_w]
                            rfl
                          refine one_ (i := 10) (N := some 64) #[true, true, true, true, true, true, true, true, true, true, true, false] rfl rfl (one_of HT_.out (by kernel_rfl)) (by decide) (fun K hK => ?_)
                          refine goes_ Tryd.func31 (by kernel_rfl) rfl #[.agg #[.int .i64 ((rd_T29 l0_3 x5_1).f0), .string ((rd_T29 l0_3 x5_1).f1), .int .i64 ((rd_T29 l0_3 x5_1).f2), .slice A201_3 ((rd_T29 l0_3 x5_1).f3).length c201_3], .agg #[.int .i64 ((rd_T29 l1_3 x5_1).f0), .string ((rd_T29 l1_3 x5_1).f1), .int .i64 ((rd_T29 l1_3 x5_1).f2), .slice A202_3 ((rd_T29 l1_3 x5_1).f3).length c202_3]] (by rfl) rfl rfl (by (try simp only [List.map_toArray, List.map_cons, List.map_nil]); first | done | rfl | (simp only [List.length_drop, List.length_take]; rfl) | (exact congrArg Value.bool (decide_eq_decide.2 Int.ofNat_lt.symm)) | (exact congrArg (fun b => #[Value.bool b]) (decide_eq_decide.2 Int.ofNat_lt.symm)) | (simp; done)) ?_
                          with_reducible refine (ih kj10 (by have := HK1.out; have := HJ10.out; omega) ((rd_T29 l0_3 x5_1).f0) ((rd_T29 l0_3 x5_1).f1) ((rd_T29 l0_3 x5_1).f2) _ _ ((rd_T29 l0_3 x5_1).f3) ((rd_T29 l1_3 x5_1).f0) ((rd_T29 l1_3 x5_1).f1) ((rd_T29 l1_3 x5_1).f2) _ _ ((rd_T29 l1_3 x5_1).f3) t203 _ ?side1 ?side2 ?side3 ?side4 A22.out).mono ?_
                          (case side1 => repeat (first | exact (Kd.C_below HR201_3.out HB.out) | (with_reducible refine Kd.C_alloc ?_ _) | (with_reducible refine Kd.C_drewN ?_ _) | (with_reducible refine Kd.C_drew ?_)))
                          (case side2 => exact HC201_3.out)
                          (case side3 => repeat (first | exact (Kd.C_below HR202_3.out HB.out) | (with_reducible refine Kd.C_alloc ?_ _) | (with_reducible refine Kd.C_drewN ?_ _) | (with_reducible refine Kd.C_drew ?_)))
                          (case side4 => exact HC202_3.out)
                          rintro e w25 ⟨rfl, hb⟩
                          refine ⟨_, rfl, ?_⟩
                          have n0_ := Aside0.mk (blk_below (g := gb196) (o := .cells #[.int .i64 a0_0, .string a0_1, .int .i64 a0_2, .slice (some ad201) l0_3.length c0_3] 29 (0, 0)) (by (with_reducible repeat (first | refine blk_drewN ?_ _ | refine blk_drew ?_ | refine blk_alloc ?_ _)); exact BK196.out) hb)
                          have n1_ := Aside0.mk (blk_below (g := gb197) (o := .cells #[.int .i64 a1_0, .string a1_1, .int .i64 a1_2, .slice (some ad202) l1_3.length c1_3] 29 (0, 0)) (by (with_reducible repeat (first | refine blk_drewN ?_ _ | refine blk_drew ?_ | refine blk_alloc ?_ _)); exact BK197.out) hb)
                          have n2_ := Aside0.mk (below_step (by repeat (first | (with_reducible first | exact HB.out | apply below_alloc | apply pw_below_drewN | apply below_drew1 | refine below_set ?_ GE196.out | refine below_set ?_ GE197.out) | exact HB.out)) hb)
                          clear BK196
                          clear BK197
                          clear HB
                          have BK196 := n0_
                          have BK197 := n1_
                          have HB := n2_
                          clear n0_ n1_ n2_
                          (try clear hb)
                          (try clear hb2)
                          (try clear hk)
                          (try clear hi)
                          refine hK.out _ _ ⟨(blk_cell BK196.out 0).trans rfl, (blk_cell BK196.out 1).trans rfl, (blk_cell BK196.out 2).trans rfl, (blk_cell BK196.out 3).trans rfl, (blk_cell BK197.out 0).trans rfl, (blk_cell BK197.out 1).trans rfl, (blk_cell BK197.out 2).trans rfl, (blk_cell BK197.out 3).trans rfl, ((HB.out.cell (World.block_lt_of_cell? w _ hw201_0)).trans hw201_0), ((HB.out.cell (World.block_lt_of_cell? w _ hw201_1)).trans hw201_1), ((HB.out.cell (World.block_lt_of_cell? w _ hw201_2)).trans hw201_2), ((HB.out.cell (World.block_lt_of_cell? w _ hw201_3)).trans hw201_3), ((HB.out.cell (World.block_lt_of_cell? w _ hw202_0)).trans hw202_0), ((HB.out.cell (World.block_lt_of_cell? w _ hw202_1)).trans hw202_1), ((HB.out.cell (World.block_lt_of_cell? w _ hw202_2)).trans hw202_2), ((HB.out.cell (World.block_lt_of_cell? w _ hw202_3)).trans hw202_3)⟩ (fun hHeld => ?_)
                          clear hK K
                          refine norm_ (a' := ?_) ?_ ?_
                          rotate_left
                          · show Act.put _ (some 64) _ = _
                            simp only [Act.put, List.setIfInBounds_toArray, List.set_cons_zero, List.set_cons_succ, i64_w, i32_w]
                            rfl
                          refine pure_ (i := 11) (N := some 6) (v := ?_) (a' := ?_) #[true, true, true, true, true, true, true, true, true, true, true, true] rfl rfl (any_of HT_.out (by kernel_rfl)) (fun _ _ _ h => h) (Or.inl ⟨by rfl, ?_⟩) ?_ ?_
                          rotate_left
                          · intro w'
                            go_simp
                            with_reducible rfl
                          rotate_left
                          · simp only [Act.put, List.setIfInBounds_toArray, List.set_cons_zero, List.set_cons_succ, i64_w, i32_w]
                            rfl
                          refine done_ (done_of HT_.out (by kernel_rfl)) ?_
                          try go_wp2
                          go_roundg kj10
                          case measure => have := HK1.out; have := HJ10.out; omega
                          case rel => exact ⟨(wrap64 (x5_1 + 1)), (by first | rfl | (simp; done) | (simp [*]; done) | (simp; exact isEmpty_ne _)), H', ⟨by have := HK1.out; have := HJ10.out; omega⟩, ⟨by (with_reducible repeat (first | refine blk_drewN ?_ _ | refine blk_drew ?_ | refine blk_alloc ?_ _)); exact BK196.out⟩, ⟨by (with_reducible repeat (first | refine blk_drewN ?_ _ | refine blk_drew ?_ | refine blk_alloc ?_ _)); exact BK197.out⟩, ⟨by repeat (first | (with_reducible first | exact HB.out | apply below_alloc | apply pw_below_drewN | apply below_drew1 | refine below_set ?_ GE196.out | refine below_set ?_ GE197.out) | exact HB.out)⟩⟩
                        · rw [if_neg c23] at H
                          have c23b0 : (t203 == 0) = false := beq_eq_false_iff_ne.mpr c23
                          have c23b1 : (t203 != 0) = true := bne_iff_ne.mpr c23
                          obtain rfl := Option.some.inj H
                          try go_wp2
                          have n0_ := Aside0.mk (blk_drew BK196.out)
                          have n1_ := Aside0.mk (blk_drew BK197.out)
                          have n2_ := Aside0.mk (below_drew1 HB.out)
                          clear BK196
                          clear BK197
                          clear HB
                          have BK196 := n0_
                          have BK197 := n1_
                          have HB := n2_
                          clear n0_ n1_ n2_
                          have p201 : 0 ≤ (x5_1 : Int) := of_decide_eq_true (by first | (with_reducible assumption) | assumption)
                          have q201 : x5_1 < (l0_3.length : Int) := of_decide_eq_true (by first | (with_reducible assumption) | assumption)
                          obtain ⟨ad201, A201_3, c201_3, e201, hx201_0, hx201_1, hx201_2, hx201_3, hl201_3, hi201_3⟩ := at_T29 HR0_3.out x5_1 p201 q201
                          have hw201_3 := hx201_3
                          have hw201_2 := hx201_2
                          have hw201_1 := hx201_1
                          have hw201_0 := hx201_0
                          cases e201
                          replace hx201_0 := (HB.out.cell (World.block_lt_of_cell? w _ hx201_0)).trans hx201_0
                          replace hx201_1 := (HB.out.cell (World.block_lt_of_cell? w _ hx201_1)).trans hx201_1
                          replace hx201_2 := (HB.out.cell (World.block_lt_of_cell? w _ hx201_2)).trans hx201_2
                          replace hx201_3 := (HB.out.cell (World.block_lt_of_cell? w _ hx201_3)).trans hx201_3
                          have HR201_3 := Aside0.mk hi201_3
                          have HC201_3 := Aside0.mk hl201_3
                          clear hi201_3 hl201_3
                          replace p201 := eq_true p201
                          replace q201 := eq_true q201
                          have p202 : 0 ≤ (x5_1 : Int) := of_decide_eq_true (by first | (with_reducible assumption) | assumption)
                          have q202 : x5_1 < (l1_3.length : Int) := of_decide_eq_true (by first | (with_reducible assumption) | assumption)
                          obtain ⟨ad202, A202_3, c202_3, e202, hx202_0, hx202_1, hx202_2, hx202_3, hl202_3, hi202_3⟩ := at_T29 HR1_3.out x5_1 p202 q202
                          have hw202_3 := hx202_3
                          have hw202_2 := hx202_2
                          have hw202_1 := hx202_1
                          have hw202_0 := hx202_0
                          cases e202
                          replace hx202_0 := (HB.out.cell (World.block_lt_of_cell? w _ hx202_0)).trans hx202_0
                          replace hx202_1 := (HB.out.cell (World.block_lt_of_cell? w _ hx202_1)).trans hx202_1
                          replace hx202_2 := (HB.out.cell (World.block_lt_of_cell? w _ hx202_2)).trans hx202_2
                          replace hx202_3 := (HB.out.cell (World.block_lt_of_cell? w _ hx202_3)).trans hx202_3
                          have HR202_3 := Aside0.mk hi202_3
                          have HC202_3 := Aside0.mk hl202_3
                          clear hi202_3 hl202_3
                          replace p202 := eq_true p202
                          replace q202 := eq_true q202
                          refine start_ (n := 12) (S := fun w' => w'.cell? ⟨gb196, 0, none⟩ = some (.int .i64 a0_0) ∧ w'.cell? ⟨gb196, 1, none⟩ = some (.string a0_1) ∧ w'.cell? ⟨gb196, 2, none⟩ = some (.int .i64 a0_2) ∧ w'.cell? ⟨gb196, 3, none⟩ = some (.slice (some ad201) l0_3.length c0_3) ∧ w'.cell? ⟨gb197, 0, none⟩ = some (.int .i64 a1_0) ∧ w'.cell? ⟨gb197, 1, none⟩ = some (.string a1_1) ∧ w'.cell? ⟨gb197, 2, none⟩ = some (.int .i64 a1_2) ∧ w'.cell? ⟨gb197, 3, none⟩ = some (.slice (some ad202) l1_3.length c1_3) ∧ w'.cell? (ad201.add ((x5_1).toNat * 4)) = some (.int .i64 ((rd_T29 l0_3 x5_1).f0)) ∧ w'.cell? ⟨(ad201.add ((x5_1).toNat * 4)).block, (ad201.add ((x5_1).toNat * 4)).off + 1, none⟩ = some (.string ((rd_T29 l0_3 x5_1).f1)) ∧ w'.cell? ⟨(ad201.add ((x5_1).toNat * 4)).block, (ad201.add ((x5_1).toNat * 4)).off + 2, none⟩ = some (.int .i64 ((rd_T29 l0_3 x5_1).f2)) ∧ w'.cell? ⟨(ad201.add ((x5_1).toNat * 4)).block, (ad201.add ((x5_1).toNat * 4)).off + 3, none⟩ = some (.slice A201_3 ((rd_T29 l0_3 x5_1).f3).length c201_3) ∧ w'.cell? (ad202.add ((x5_1).toNat * 4)) = some (.int .i64 ((rd_T29 l1_3 x5_1).f0)) ∧ w'.cell? ⟨(ad202.add ((x5_1).toNat * 4)).block, (ad202.add ((x5_1).toNat * 4)).off + 1, none⟩ = some (.string ((rd_T29 l1_3 x5_1).f1)) ∧ w'.cell? ⟨(ad202.add ((x5_1).toNat * 4)).block, (ad202.add ((x5_1).toNat * 4)).off + 2, none⟩ = some (.int .i64 ((rd_T29 l1_3 x5_1).f2)) ∧ w'.cell? ⟨(ad202.add ((x5_1).toNat * 4)).block, (ad202.add ((x5_1).toNat * 4)).off + 3, none⟩ = some (.slice A202_3 ((rd_T29 l1_3 x5_1).f3).length c202_3)) (ds := []) #[false, false, false, false, false, false, false, false, false, false, false, false] (by kernel_rfl) rfl rfl ⟨(blk_cell BK196.out 0).trans rfl, (blk_cell BK196.out 1).trans rfl, (blk_cell BK196.out 2).trans rfl, (blk_cell BK196.out 3).trans rfl, (blk_cell BK197.out 0).trans rfl, (blk_cell BK197.out 1).trans rfl, (blk_cell BK197.out 2).trans rfl, (blk_cell BK197.out 3).trans rfl, ((HB.out.cell (World.block_lt_of_cell? w _ hw201_0)).trans hw201_0), ((HB.out.cell (World.block_lt_of_cell? w _ hw201_1)).trans hw201_1), ((HB.out.cell (World.block_lt_of_cell? w _ hw201_2)).trans hw201_2), ((HB.out.cell (World.block_lt_of_cell? w _ hw201_3)).trans hw201_3), ((HB.out.cell (World.block_lt_of_cell? w _ hw202_0)).trans hw202_0), ((HB.out.cell (World.block_lt_of_cell? w _ hw202_1)).trans hw202_1), ((HB.out.cell (World.block_lt_of_cell? w _ hw202_2)).trans hw202_2), ((HB.out.cell (World.block_lt_of_cell? w _ hw202_3)).trans hw202_3)⟩ (fun hHeld => ?_); refine with_tabW legateref08_Order.tab10 legateref08_Order.bits10 (fun HT_ HW_ => ?_)
                          generalize wc.drew = w26 at BK196 BK197 HB HR201_3 HR202_3 hx201_0 hx201_1 hx201_2 hx201_3 hx202_0 hx202_1 hx202_2 hx202_3 hHeld ⊢
                          refine pure_ (i := 0) (N := some 54) (v := ?_) (a' := ?_) #[true, false, false, false, false, false, false, false, false, false, false, false] rfl rfl (any_of HT_.out (by kernel_rfl)) (fun _ _ _ h => h) (Or.inl ⟨by rfl, ?_⟩) ?_ ?_
                          rotate_left
                          · intro w'
                            go_simp
                            with_reducible rfl
                          rotate_left
                          · simp only [Act.put, List.setIfInBounds_toArray, List.set_cons_zero, List.set_cons_succ, i64_w, i32_w]
                            rfl
                          refine pure_ (i := 2) (N := some 56) (v := ?_) (a' := ?_) #[true, false, true, false, false, false, false, false, false, false, false, false] rfl rfl (any_of HT_.out (by kernel_rfl)) (fun _ _ _ h => h) (Or.inl ⟨by rfl, ?_⟩) ?_ ?_
                          rotate_left
                          · intro w'
                            go_simp
                            with_reducible rfl
                          rotate_left
                          · simp only [Act.put, List.setIfInBounds_toArray, List.set_cons_zero, List.set_cons_succ, i64_w, i32_w]
                            rfl
                          refine pure_ (i := 5) (N := some 59) (v := ?_) (a' := ?_) #[true, false, true, false, false, true, false, false, false, false, false, false] rfl rfl (any_of HT_.out (by kernel_rfl)) (fun _ _ _ h => h) (Or.inl ⟨by rfl, ?_⟩) ?_ ?_
                          rotate_left
                          · intro w'
                            go_simp
                            with_reducible rfl
                          rotate_left
                          · simp only [Act.put, List.setIfInBounds_toArray, List.set_cons_zero, List.set_cons_succ, i64_w, i32_w]
                            rfl
                          refine pure_ (i := 7) (N := some 61) (v := ?_) (a' := ?_) #[true, false, true, false, false, true, false, true, false, false, false, false] rfl rfl (any_of HT_.out (by kernel_rfl)) (fun _ _ _ h => h) (Or.inl ⟨by rfl, ?_⟩) ?_ ?_
                          rotate_left
                          · intro w'
                            go_simp
                            with_reducible rfl
                          rotate_left
                          · simp only [Act.put, List.setIfInBounds_toArray, List.set_cons_zero, List.set_cons_succ, i64_w, i32_w]
                            rfl
                          refine take_ (i := 1) (N := some 55) (v := ?_) (a' := ?_) #[true, true, true, false, false, true, false, true, false, false, false, false] rfl rfl (take_ofW HT_.out HW_.out (by kernel_rfl)) (fun _ _ _ h => h) (Or.inl ⟨by rfl, ?_⟩) hHeld ?_ ?_
                          rotate_left
                          · rintro w' ⟨s0, s1, s2, s3, s4, s5, s6, s7, s8, s9, s10, s11, s12, s13, s14, s15⟩
                            go_simp
                            with_reducible rfl
                          rotate_left
                          · simp only [Act.put, List.setIfInBounds_toArray, List.set_cons_zero, List.set_cons_succ, i64_w, i32_w]
                            rfl
                          refine pure_ (i := 3) (N := some 57) (v := ?_) (a' := ?_) #[true, true, true, true, false, true, false, true, false, false, false, false] rfl rfl (any_of HT_.out (by kernel_rfl)) (fun _ _ _ h => h) (Or.inl ⟨by rfl, ?_⟩) ?_ ?_
                          rotate_left
                          · intro w'
                            go_simp
                            with_reducible rfl
                          rotate_left
                          · simp only [Act.put, List.setIfInBounds_toArray, List.set_cons_zero, List.set_cons_succ, i64_w, i32_w]
                            rfl
                          refine take_ (i := 4) (N := some 58) (v := ?_) (a' := ?_) #[true, true, true, true, true, true, false, true, false, false, false, false] rfl rfl (take_ofW HT_.out HW_.out (by kernel_rfl)) (fun _ _ _ h => h) (Or.inl ⟨by rfl, ?_⟩) hHeld ?_ ?_
                          rotate_left
                          · rintro w' ⟨s0, s1, s2, s3, s4, s5, s6, s7, s8, s9, s10, s11, s12, s13, s14, s15⟩
                            go_simp
                            with_reducible rfl
                          rotate_left
                          · simp only [Act.put, List.setIfInBounds_toArray, List.set_cons_zero, List.set_cons_succ, i64_w, i32_w]
                            rfl
                          refine take_ (i := 6) (N := some 60) (v := ?_) (a' := ?_) #[true, true, true, true, true, true, true, true, false, false, false, false] rfl rfl (take_ofW HT_.out HW_.out (by kernel_rfl)) (fun _ _ _ h => h) (Or.inl ⟨by rfl, ?_⟩) hHeld ?_ ?_
                          rotate_left
                          · rintro w' ⟨s0, s1, s2, s3, s4, s5, s6, s7, s8, s9, s10, s11, s12, s13, s14, s15⟩
                            go_simp
                            with_reducible rfl
                          rotate_left
                          · simp only [Act.put, List.setIfInBounds_toArray, List.set_cons_zero, List.set_cons_succ, i64_w, i32_w]
                            rfl
                          refine pure_ (i := 8) (N := some 62) (v := ?_) (a' := ?_) #[true, true, true, true, true, true, true, true, true, false, false, false] rfl rfl (any_of HT_.out (by kernel_rfl)) (fun _ _ _ h => h) (Or.inl ⟨by rfl, ?_⟩) ?_ ?_
                          rotate_left
                          · intro w'
                            go_simp
                            with_reducible rfl
                          rotate_left
                          · simp only [Act.put, List.setIfInBounds_toArray, List.set_cons_zero, List.set_cons_succ, i64_w, i32_w]
                            rfl
                          refine take_ (i := 9) (N := some 63) (v := ?_) (a' := ?_) #[true, true, true, true, true, true, true, true, true, true, false, false] rfl rfl (take_ofW HT_.out HW_.out (by kernel_rfl)) (fun _ _ _ h => h) (Or.inl ⟨by rfl, ?_⟩) hHeld ?_ ?_
                          rotate_left
                          · rintro w' ⟨s0, s1, s2, s3, s4, s5, s6, s7, s8, s9, s10, s11, s12, s13, s14, s15⟩
                            go_simp
                            with_reducible rfl
                          rotate_left
                          · simp only [Act.put, List.setIfInBounds_toArray, List.set_cons_zero, List.set_cons_succ, i64_w, i32_w]
                            rfl
                          refine one_ (i := 10) (N := some 64) #[true, true, true, true, true, true, true, true, true, true, true, false] rfl rfl (one_of HT_.out (by kernel_rfl)) (by decide) (fun K hK => ?_)
                          refine goes_ Tryd.func31 (by kernel_rfl) rfl #[.agg #[.int .i64 ((rd_T29 l0_3 x5_1).f0), .string ((rd_T29 l0_3 x5_1).f1), .int .i64 ((rd_T29 l0_3 x5_1).f2), .slice A201_3 ((rd_T29 l0_3 x5_1).f3).length c201_3], .agg #[.int .i64 ((rd_T29 l1_3 x5_1).f0), .string ((rd_T29 l1_3 x5_1).f1), .int .i64 ((rd_T29 l1_3 x5_1).f2), .slice A202_3 ((rd_T29 l1_3 x5_1).f3).length c202_3]] (by rfl) rfl rfl (by (try simp only [List.map_toArray, List.map_cons, List.map_nil]); first | done | rfl | (simp only [List.length_drop, List.length_take]; rfl) | (exact congrArg Value.bool (decide_eq_decide.2 Int.ofNat_lt.symm)) | (exact congrArg (fun b => #[Value.bool b]) (decide_eq_decide.2 Int.ofNat_lt.symm)) | (simp; done)) ?_
                          with_reducible refine (ih kj10 (by have := HK1.out; have := HJ10.out; omega) ((rd_T29 l0_3 x5_1).f0) ((rd_T29 l0_3 x5_1).f1) ((rd_T29 l0_3 x5_1).f2) _ _ ((rd_T29 l0_3 x5_1).f3) ((rd_T29 l1_3 x5_1).f0) ((rd_T29 l1_3 x5_1).f1) ((rd_T29 l1_3 x5_1).f2) _ _ ((rd_T29 l1_3 x5_1).f3) t203 _ ?side1 ?side2 ?side3 ?side4 A22.out).mono ?_
                          (case side1 => repeat (first | exact (Kd.C_below HR201_3.out HB.out) | (with_reducible refine Kd.C_alloc ?_ _) | (with_reducible refine Kd.C_drewN ?_ _) | (with_reducible refine Kd.C_drew ?_)))
                          (case side2 => exact HC201_3.out)
                          (case side3 => repeat (first | exact (Kd.C_below HR202_3.out HB.out) | (with_reducible refine Kd.C_alloc ?_ _) | (with_reducible refine Kd.C_drewN ?_ _) | (with_reducible refine Kd.C_drew ?_)))
                          (case side4 => exact HC202_3.out)
                          rintro e w27 ⟨rfl, hb⟩
                          refine ⟨_, rfl, ?_⟩
                          have n0_ := Aside0.mk (blk_below (g := gb196) (o := .cells #[.int .i64 a0_0, .string a0_1, .int .i64 a0_2, .slice (some ad201) l0_3.length c0_3] 29 (0, 0)) (by (with_reducible repeat (first | refine blk_drewN ?_ _ | refine blk_drew ?_ | refine blk_alloc ?_ _)); exact BK196.out) hb)
                          have n1_ := Aside0.mk (blk_below (g := gb197) (o := .cells #[.int .i64 a1_0, .string a1_1, .int .i64 a1_2, .slice (some ad202) l1_3.length c1_3] 29 (0, 0)) (by (with_reducible repeat (first | refine blk_drewN ?_ _ | refine blk_drew ?_ | refine blk_alloc ?_ _)); exact BK197.out) hb)
                          have n2_ := Aside0.mk (below_step (by repeat (first | (with_reducible first | exact HB.out | apply below_alloc | apply pw_below_drewN | apply below_drew1 | refine below_set ?_ GE196.out | refine below_set ?_ GE197.out) | exact HB.out)) hb)
                          clear BK196
                          clear BK197
                          clear HB
                          have BK196 := n0_
                          have BK197 := n1_
                          have HB := n2_
                          clear n0_ n1_ n2_
                          (try clear hb)
                          (try clear hb2)
                          (try clear hk)
                          (try clear hi)
                          refine hK.out _ _ ⟨(blk_cell BK196.out 0).trans rfl, (blk_cell BK196.out 1).trans rfl, (blk_cell BK196.out 2).trans rfl, (blk_cell BK196.out 3).trans rfl, (blk_cell BK197.out 0).trans rfl, (blk_cell BK197.out 1).trans rfl, (blk_cell BK197.out 2).trans rfl, (blk_cell BK197.out 3).trans rfl, ((HB.out.cell (World.block_lt_of_cell? w _ hw201_0)).trans hw201_0), ((HB.out.cell (World.block_lt_of_cell? w _ hw201_1)).trans hw201_1), ((HB.out.cell (World.block_lt_of_cell? w _ hw201_2)).trans hw201_2), ((HB.out.cell (World.block_lt_of_cell? w _ hw201_3)).trans hw201_3), ((HB.out.cell (World.block_lt_of_cell? w _ hw202_0)).trans hw202_0), ((HB.out.cell (World.block_lt_of_cell? w _ hw202_1)).trans hw202_1), ((HB.out.cell (World.block_lt_of_cell? w _ hw202_2)).trans hw202_2), ((HB.out.cell (World.block_lt_of_cell? w _ hw202_3)).trans hw202_3)⟩ (fun hHeld => ?_)
                          clear hK K
                          refine norm_ (a' := ?_) ?_ ?_
                          rotate_left
                          · show Act.put _ (some 64) _ = _
                            simp only [Act.put, List.setIfInBounds_toArray, List.set_cons_zero, List.set_cons_succ, i64_w, i32_w]
                            rfl
                          refine pure_ (i := 11) (N := some 6) (v := ?_) (a' := ?_) #[true, true, true, true, true, true, true, true, true, true, true, true] rfl rfl (any_of HT_.out (by kernel_rfl)) (fun _ _ _ h => h) (Or.inl ⟨by rfl, ?_⟩) ?_ ?_
                          rotate_left
                          · intro w'
                            go_simp
                            with_reducible rfl
                          rotate_left
                          · simp only [Act.put, List.setIfInBounds_toArray, List.set_cons_zero, List.set_cons_succ, i64_w, i32_w]
                            rfl
                          refine done_ (done_of HT_.out (by kernel_rfl)) ?_
                          try go_wp2
                          go_ret
                          exact ⟨by first | rfl | (simp [errW_none, errW_some] <;> rfl) | (simp [*, errW_none, errW_some] <;> rfl), by repeat (first | (with_reducible first | exact HB.out | apply below_alloc | apply pw_below_drewN | apply below_drew1 | refine below_set ?_ GE196.out | refine below_set ?_ GE197.out) | exact HB.out)⟩
                      · rw [if_neg c21] at H
                        exact absurd H (by simp)
                    · rw [if_neg c20] at H
                      exact absurd H (by simp)
                  · rw [if_neg c19] at H
                    exact absurd H (by simp)
                · replace c18 := Bool.eq_false_iff.mpr c18
                  subst c18
                  have H1 : (if (l0_3.length : Int) = (l1_3.length : Int) then (some 0) else ((legateref08_sign.f (decide ((l0_3.length : Int) < (l1_3.length : Int)))).bind fun t204 => (some t204))) = some r := by rw [if_neg (show ¬ (false = true) by decide)] at H; exact H
                  clear H
                  have H := H1
                  clear H1
                  by_cases c28 : (l0_3.length : Int) = (l1_3.length : Int)
                  · rw [if_pos c28] at H
                    have c28b0 : ((l0_3.length : Int) == (l1_3.length : Int)) = true := beq_iff_eq.mpr c28
                    have c28b1 : ((l0_3.length : Int) != (l1_3.length : Int)) = false := bne_eq_false_iff_eq.mpr c28
                    have c28b2 : (l0_3.length == l1_3.length) = true := by first | simpa using c28 | (simp at c28 ⊢; omega)
                    clear c28
                    obtain rfl := Option.some.inj H
                    have hnb29 := NB196_197.out
                    have hnc29 := NB197_196.out
                    have hcz30_0 : wc.cell? ⟨gb196, 0, none⟩ = some (.int .i64 a0_0) := (blk_cell BK196.out 0).trans rfl
                    have hcz30_1 : wc.cell? ⟨gb196, 1, none⟩ = some (.string a0_1) := (blk_cell BK196.out 1).trans rfl
                    have hcz30_2 : wc.cell? ⟨gb196, 2, none⟩ = some (.int .i64 a0_2) := (blk_cell BK196.out 2).trans rfl
                    have hcz30_3 : wc.cell? ⟨gb196, 3, none⟩ = some (.slice A0_3 l0_3.length c0_3) := (blk_cell BK196.out 3).trans rfl
                    have hfz30_0 := blk_frozen BK196.out 0
                    have hfz30_1 := blk_frozen BK196.out 1
                    have hfz30_2 := blk_frozen BK196.out 2
                    have hfz30_3 := blk_frozen BK196.out 3
                    have hcz31_0 : wc.cell? ⟨gb197, 0, none⟩ = some (.int .i64 a1_0) := (blk_cell BK197.out 0).trans rfl
                    have hcz31_1 : wc.cell? ⟨gb197, 1, none⟩ = some (.string a1_1) := (blk_cell BK197.out 1).trans rfl
                    have hcz31_2 : wc.cell? ⟨gb197, 2, none⟩ = some (.int .i64 a1_2) := (blk_cell BK197.out 2).trans rfl
                    have hcz31_3 : wc.cell? ⟨gb197, 3, none⟩ = some (.slice A1_3 l1_3.length c1_3) := (blk_cell BK197.out 3).trans rfl
                    have hfz31_0 := blk_frozen BK197.out 0
                    have hfz31_1 := blk_frozen BK197.out 1
                    have hfz31_2 := blk_frozen BK197.out 2
                    have hfz31_3 := blk_frozen BK197.out 3
                    go_wp2
                    go_ret
                    exact ⟨by first | rfl | (simp [errW_none, errW_some] <;> rfl) | (simp [*, errW_none, errW_some] <;> rfl), by repeat (first | (with_reducible first | exact HB.out | apply below_alloc | apply pw_below_drewN | apply below_drew1 | refine below_set ?_ GE196.out | refine below_set ?_ GE197.out) | exact HB.out)⟩
                  · rw [if_neg c28] at H
                    have c28b0 : ((l0_3.length : Int) == (l1_3.length : Int)) = false := beq_eq_false_iff_ne.mpr c28
                    have c28b1 : ((l0_3.length : Int) != (l1_3.length : Int)) = true := bne_iff_ne.mpr c28
                    have c28b2 : (l0_3.length == l1_3.length) = false := by first | simpa using c28 | (simp at c28 ⊢; omega)
                    replace H := Option.bind_eq_some_iff.mp H
                    obtain ⟨t204, A320, H⟩ := H
                    replace H : (some t204) = some r := H
                    have A32 := Aside0.mk A320
                    clear A320
                    obtain rfl := Option.some.inj H
                    have hnb33 := NB196_197.out
                    have hnc33 := NB197_196.out
                    have hcz34_0 : wc.cell? ⟨gb196, 0, none⟩ = some (.int .i64 a0_0) := (blk_cell BK196.out 0).trans rfl
                    have hcz34_1 : wc.cell? ⟨gb196, 1, none⟩ = some (.string a0_1) := (blk_cell BK196.out 1).trans rfl
                    have hcz34_2 : wc.cell? ⟨gb196, 2, none⟩ = some (.int .i64 a0_2) := (blk_cell BK196.out 2).trans rfl
                    have hcz34_3 : wc.cell? ⟨gb196, 3, none⟩ = some (.slice A0_3 l0_3.length c0_3) := (blk_cell BK196.out 3).trans rfl
                    have hfz34_0 := blk_frozen BK196.out 0
                    have hfz34_1 := blk_frozen BK196.out 1
                    have hfz34_2 := blk_frozen BK196.out 2
                    have hfz34_3 := blk_frozen BK196.out 3
                    have hcz35_0 : wc.cell? ⟨gb197, 0, none⟩ = some (.int .i64 a1_0) := (blk_cell BK197.out 0).trans rfl
                    have hcz35_1 : wc.cell? ⟨gb197, 1, none⟩ = some (.string a1_1) := (blk_cell BK197.out 1).trans rfl
                    have hcz35_2 : wc.cell? ⟨gb197, 2, none⟩ = some (.int .i64 a1_2) := (blk_cell BK197.out 2).trans rfl
                    have hcz35_3 : wc.cell? ⟨gb197, 3, none⟩ = some (.slice A1_3 l1_3.length c1_3) := (blk_cell BK197.out 3).trans rfl
                    have hfz35_0 := blk_frozen BK197.out 0
                    have hfz35_1 := blk_frozen BK197.out 1
                    have hfz35_2 := blk_frozen BK197.out 2
                    have hfz35_3 := blk_frozen BK197.out 3
                    go_wp2_with (first | ((with_reducible refine gate_callee (f := 54) rfl ?_); refine goesL_ (some 82) rfl rfl Tryd.func54 (by kernel_rfl) rfl #[.bool (decide ((l0_3.length : Int) < (l1_3.length : Int)))] rfl (by (try simp only [List.map_toArray, List.map_cons, List.map_nil]); first | done | rfl | (simp only [List.length_drop, List.length_take]; rfl) | (exact congrArg Value.bool (decide_eq_decide.2 Int.ofNat_lt.symm)) | (exact congrArg (fun b => #[Value.bool b]) (decide_eq_decide.2 Int.ofNat_lt.symm)) | (simp; done)) ?_; (with_reducible refine (legateref08_sign.calls (decide ((l0_3.length : Int) < (l1_3.length : Int))) t204 _ A32.out).mono ?_); rintro e w' ⟨rfl, ⟨nd, rfl⟩⟩; refine ⟨_, rfl, ?_⟩))
                    go_ret
                    exact ⟨by first | rfl | (simp [errW_none, errW_some] <;> rfl) | (simp [*, errW_none, errW_some] <;> rfl), by repeat (first | (with_reducible first | exact HB.out | apply below_alloc | apply pw_below_drewN | apply below_drew1 | refine below_set ?_ GE196.out | refine below_set ?_ GE197.out) | exact HB.out)⟩
      · rw [if_neg c5] at H
        have c5b0 : (a0_2 == a1_2) = false := beq_eq_false_iff_ne.mpr c5
        have c5b1 : (a0_2 != a1_2) = true := bne_iff_ne.mpr c5
        replace H := Option.bind_eq_some_iff.mp H
        obtain ⟨t200, A360, H⟩ := H
        replace H : (some t200) = some r := H
        have A36 := Aside0.mk A360
        clear A360
        obtain rfl := Option.some.inj H
        go_enter Tryd.func31, Tryd.ntmps31
        go_wp2_with (first | ((with_reducible refine gate_dst (N := 2) rfl ?_); (try (refine gate_guard (by rfl) ?_; dsimp only)); refine box_event ?hg (N := 2) ?hd (cs := #[.int .i64 a0_0, .string a0_1, .int .i64 a0_2, .slice A0_3 l0_3.length c0_3]) (t := 29) ?hr ?_; (case hd => rfl); (case hg => rfl); (case hr => first | (go_simp; done) | (go_simp; rfl)); intro gb196 hg w37 hbox hb; have n0_ := Aside0.mk (below_step (by repeat (first | (with_reducible first | exact HB.out | apply below_alloc | apply pw_below_drewN | apply below_drew1) | exact HB.out)) hb); have n1_ := Aside0.mk (hbox); have n2_ := Aside0.mk ((by rw [hg]; exact (below_size (by repeat (first | (with_reducible first | exact HB.out | apply below_alloc | apply pw_below_drewN | apply below_drew1) | exact HB.out))) : w.heap.size ≤ gb196)); have n3_ := Aside0.mk ((by rw [hg]; exact (below_size (by repeat (first | (with_reducible first | exact HB.out | apply below_alloc | apply pw_below_drewN | apply below_drew1) | exact HB.out))) : w.heap.size ≤ gb196)); clear HB; have HB := n0_; have BK196 := n1_; have GW196 := n2_; have GE196 := n3_; clear n0_ n1_ n2_ n3_; clear hb hbox hg) | ((with_reducible refine gate_dst (N := 3) rfl ?_); (try (refine gate_guard (by rfl) ?_; dsimp only)); refine box_event ?hg (N := 3) ?hd (cs := #[.int .i64 a1_0, .string a1_1, .int .i64 a1_2, .slice A1_3 l1_3.length c1_3]) (t := 29) ?hr ?_; (case hd => rfl); (case hg => rfl); (case hr => first | (go_simp; done) | (go_simp; rfl)); intro gb197 hg w38 hbox hb; have n0_ := Aside0.mk (blk_below (g := gb196) (o := .cells #[.int .i64 a0_0, .string a0_1, .int .i64 a0_2, .slice A0_3 l0_3.length c0_3] 29 (0, 0)) (by (with_reducible repeat (first | refine blk_drewN ?_ _ | refine blk_drew ?_ | refine blk_alloc ?_ _)); exact BK196.out) hb); have n1_ := Aside0.mk (below_step (by repeat (first | (with_reducible first | exact HB.out | apply below_alloc | apply pw_below_drewN | apply below_drew1 | refine below_set ?_ GE196.out) | exact HB.out)) hb); have n2_ := Aside0.mk (hbox); have n3_ := Aside0.mk ((by rw [hg]; exact (below_size (by repeat (first | (with_reducible first | exact HB.out | apply below_alloc | apply pw_below_drewN | apply below_drew1 | refine below_set ?_ GE196.out) | exact HB.out))) : w.heap.size ≤ gb197)); have n4_ := Aside0.mk ((by rw [hg]; exact (below_size (by repeat (first | (with_reducible first | exact HB.out | apply below_alloc | apply pw_below_drewN | apply below_drew1 | refine below_set ?_ GE196.out) | exact HB.out))) : w.heap.size ≤ gb197)); have n5_ := Aside0.mk ((by rw [hg]; exact Nat.ne_of_lt (blk_lt (g := gb196) (o := .cells #[.int .i64 a0_0, .string a0_1, .int .i64 a0_2, .slice A0_3 l0_3.length c0_3] 29 (0, 0)) (by (with_reducible repeat (first | refine blk_drewN ?_ _ | refine blk_drew ?_ | refine blk_alloc ?_ _)); exact BK196.out)) : gb196 ≠ gb197)); have n6_ := Aside0.mk ((by rw [hg]; exact Nat.ne_of_gt (blk_lt (g := gb196) (o := .cells #[.int .i64 a0_0, .string a0_1, .int .i64 a0_2, .slice A0_3 l0_3.length c0_3] 29 (0, 0)) (by (with_reducible repeat (first | refine blk_drewN ?_ _ | refine blk_drew ?_ | refine blk_alloc ?_ _)); exact BK196.out)) : gb197 ≠ gb196)); clear BK196; clear HB; have BK196 := n0_; have HB := n1_; have BK197 := n2_; have GW197 := n3_; have GE197 := n4_; have NB196_197 := n5_; have NB197_196 := n6_; clear n0_ n1_ n2_ n3_ n4_ n5_ n6_; clear hb hbox hg; have hnb39 := NB196_197.out; have hnc39 := NB197_196.out; have hcz40_0 : w38.cell? ⟨gb196, 0, none⟩ = some (.int .i64 a0_0) := (blk_cell BK196.out 0).trans rfl; have hcz40_1 : w38.cell? ⟨gb196, 1, none⟩ = some (.string a0_1) := (blk_cell BK196.out 1).trans rfl; have hcz40_2 : w38.cell? ⟨gb196, 2, none⟩ = some (.int .i64 a0_2) := (blk_cell BK196.out 2).trans rfl; have hcz40_3 : w38.cell? ⟨gb196, 3, none⟩ = some (.slice A0_3 l0_3.length c0_3) := (blk_cell BK196.out 3).trans rfl; have hfz40_0 := blk_frozen BK196.out 0; have hfz40_1 := blk_frozen BK196.out 1; have hfz40_2 := blk_frozen BK196.out 2; have hfz40_3 := blk_frozen BK196.out 3; have hcz41_0 : w38.cell? ⟨gb197, 0, none⟩ = some (.int .i64 a1_0) := (blk_cell BK197.out 0).trans rfl; have hcz41_1 : w38.cell? ⟨gb197, 1, none⟩ = some (.string a1_1) := (blk_cell BK197.out 1).trans rfl; have hcz41_2 : w38.cell? ⟨gb197, 2, none⟩ = some (.int .i64 a1_2) := (blk_cell BK197.out 2).trans rfl; have hcz41_3 : w38.cell? ⟨gb197, 3, none⟩ = some (.slice A1_3 l1_3.length c1_3) := (blk_cell BK197.out 3).trans rfl; have hfz41_0 := blk_frozen BK197.out 0; have hfz41_1 := blk_frozen BK197.out 1; have hfz41_2 := blk_frozen BK197.out 2; have hfz41_3 := blk_frozen BK197.out 3) | ((with_reducible refine gate_callee (f := 54) rfl ?_); refine goesL_ (some 39) rfl rfl Tryd.func54 (by kernel_rfl) rfl #[.bool (decide (a0_2 < a1_2))] rfl (by (try simp only [List.map_toArray, List.map_cons, List.map_nil]); first | done | rfl | (simp only [List.length_drop, List.length_take]; rfl) | (exact congrArg Value.bool (decide_eq_decide.2 Int.ofNat_lt.symm)) | (exact congrArg (fun b => #[Value.bool b]) (decide_eq_decide.2 Int.ofNat_lt.symm)) | (simp; done)) ?_; (with_reducible refine (legateref08_sign.calls (decide (a0_2 < a1_2)) t200 _ A36.out).mono ?_); rintro e w' ⟨rfl, ⟨nd, rfl⟩⟩; refine ⟨_, rfl, ?_⟩))
        go_ret
        exact ⟨by first | rfl | (simp [errW_none, errW_some] <;> rfl) | (simp [*, errW_none, errW_some] <;> rfl), by repeat (first | (with_reducible first | exact HB.out | apply below_alloc | apply pw_below_drewN | apply below_drew1 | refine below_set ?_ GE196.out | refine below_set ?_ GE197.out) | exact HB.out)⟩
    · rw [if_neg c4] at H
      have c4b0 : (a0_1.toList == a1_1.toList) = false := beq_eq_false_iff_ne.mpr c4
      have c4b1 : (a0_1.toList != a1_1.toList) = true := bne_iff_ne.mpr c4
      replace H := Option.bind_eq_some_iff.mp H
      obtain ⟨t199, A420, H⟩ := H
      replace H : (some t199) = some r := H
      have A42 := Aside0.mk A420
      clear A420
      obtain rfl := Option.some.inj H
      go_enter Tryd.func31, Tryd.ntmps31
      go_wp2_with (first | ((with_reducible refine gate_dst (N := 2) rfl ?_); (try (refine gate_guard (by rfl) ?_; dsimp only)); refine box_event ?hg (N := 2) ?hd (cs := #[.int .i64 a0_0, .string a0_1, .int .i64 a0_2, .slice A0_3 l0_3.length c0_3]) (t := 29) ?hr ?_; (case hd => rfl); (case hg => rfl); (case hr => first | (go_simp; done) | (go_simp; rfl)); intro gb196 hg w43 hbox hb; have n0_ := Aside0.mk (below_step (by repeat (first | (with_reducible first | exact HB.out | apply below_alloc | apply pw_below_drewN | apply below_drew1) | exact HB.out)) hb); have n1_ := Aside0.mk (hbox); have n2_ := Aside0.mk ((by rw [hg]; exact (below_size (by repeat (first | (with_reducible first | exact HB.out | apply below_alloc | apply pw_below_drewN | apply below_drew1) | exact HB.out))) : w.heap.size ≤ gb196)); have n3_ := Aside0.mk ((by rw [hg]; exact (below_size (by repeat (first | (with_reducible first | exact HB.out | apply below_alloc | apply pw_below_drewN | apply below_drew1) | exact HB.out))) : w.heap.size ≤ gb196)); clear HB; have HB := n0_; have BK196 := n1_; have GW196 := n2_; have GE196 := n3_; clear n0_ n1_ n2_ n3_; clear hb hbox hg) | ((with_reducible refine gate_dst (N := 3) rfl ?_); (try (refine gate_guard (by rfl) ?_; dsimp only)); refine box_event ?hg (N := 3) ?hd (cs := #[.int .i64 a1_0, .string a1_1, .int .i64 a1_2, .slice A1_3 l1_3.length c1_3]) (t := 29) ?hr ?_; (case hd => rfl); (case hg => rfl); (case hr => first | (go_simp; done) | (go_simp; rfl)); intro gb197 hg w44 hbox hb; have n0_ := Aside0.mk (blk_below (g := gb196) (o := .cells #[.int .i64 a0_0, .string a0_1, .int .i64 a0_2, .slice A0_3 l0_3.length c0_3] 29 (0, 0)) (by (with_reducible repeat (first | refine blk_drewN ?_ _ | refine blk_drew ?_ | refine blk_alloc ?_ _)); exact BK196.out) hb); have n1_ := Aside0.mk (below_step (by repeat (first | (with_reducible first | exact HB.out | apply below_alloc | apply pw_below_drewN | apply below_drew1 | refine below_set ?_ GE196.out) | exact HB.out)) hb); have n2_ := Aside0.mk (hbox); have n3_ := Aside0.mk ((by rw [hg]; exact (below_size (by repeat (first | (with_reducible first | exact HB.out | apply below_alloc | apply pw_below_drewN | apply below_drew1 | refine below_set ?_ GE196.out) | exact HB.out))) : w.heap.size ≤ gb197)); have n4_ := Aside0.mk ((by rw [hg]; exact (below_size (by repeat (first | (with_reducible first | exact HB.out | apply below_alloc | apply pw_below_drewN | apply below_drew1 | refine below_set ?_ GE196.out) | exact HB.out))) : w.heap.size ≤ gb197)); have n5_ := Aside0.mk ((by rw [hg]; exact Nat.ne_of_lt (blk_lt (g := gb196) (o := .cells #[.int .i64 a0_0, .string a0_1, .int .i64 a0_2, .slice A0_3 l0_3.length c0_3] 29 (0, 0)) (by (with_reducible repeat (first | refine blk_drewN ?_ _ | refine blk_drew ?_ | refine blk_alloc ?_ _)); exact BK196.out)) : gb196 ≠ gb197)); have n6_ := Aside0.mk ((by rw [hg]; exact Nat.ne_of_gt (blk_lt (g := gb196) (o := .cells #[.int .i64 a0_0, .string a0_1, .int .i64 a0_2, .slice A0_3 l0_3.length c0_3] 29 (0, 0)) (by (with_reducible repeat (first | refine blk_drewN ?_ _ | refine blk_drew ?_ | refine blk_alloc ?_ _)); exact BK196.out)) : gb197 ≠ gb196)); clear BK196; clear HB; have BK196 := n0_; have HB := n1_; have BK197 := n2_; have GW197 := n3_; have GE197 := n4_; have NB196_197 := n5_; have NB197_196 := n6_; clear n0_ n1_ n2_ n3_ n4_ n5_ n6_; clear hb hbox hg; have hnb45 := NB196_197.out; have hnc45 := NB197_196.out; have hcz46_0 : w44.cell? ⟨gb196, 0, none⟩ = some (.int .i64 a0_0) := (blk_cell BK196.out 0).trans rfl; have hcz46_1 : w44.cell? ⟨gb196, 1, none⟩ = some (.string a0_1) := (blk_cell BK196.out 1).trans rfl; have hcz46_2 : w44.cell? ⟨gb196, 2, none⟩ = some (.int .i64 a0_2) := (blk_cell BK196.out 2).trans rfl; have hcz46_3 : w44.cell? ⟨gb196, 3, none⟩ = some (.slice A0_3 l0_3.length c0_3) := (blk_cell BK196.out 3).trans rfl; have hfz46_0 := blk_frozen BK196.out 0; have hfz46_1 := blk_frozen BK196.out 1; have hfz46_2 := blk_frozen BK196.out 2; have hfz46_3 := blk_frozen BK196.out 3; have hcz47_0 : w44.cell? ⟨gb197, 0, none⟩ = some (.int .i64 a1_0) := (blk_cell BK197.out 0).trans rfl; have hcz47_1 : w44.cell? ⟨gb197, 1, none⟩ = some (.string a1_1) := (blk_cell BK197.out 1).trans rfl; have hcz47_2 : w44.cell? ⟨gb197, 2, none⟩ = some (.int .i64 a1_2) := (blk_cell BK197.out 2).trans rfl; have hcz47_3 : w44.cell? ⟨gb197, 3, none⟩ = some (.slice A1_3 l1_3.length c1_3) := (blk_cell BK197.out 3).trans rfl; have hfz47_0 := blk_frozen BK197.out 0; have hfz47_1 := blk_frozen BK197.out 1; have hfz47_2 := blk_frozen BK197.out 2; have hfz47_3 := blk_frozen BK197.out 3) | ((with_reducible refine gate_callee (f := 54) rfl ?_); refine goesL_ (some 28) rfl rfl Tryd.func54 (by kernel_rfl) rfl #[.bool (Op.bytesLess a0_1.toList a1_1.toList)] rfl (by (try simp only [List.map_toArray, List.map_cons, List.map_nil]); first | done | rfl | (simp only [List.length_drop, List.length_take]; rfl) | (exact congrArg Value.bool (decide_eq_decide.2 Int.ofNat_lt.symm)) | (exact congrArg (fun b => #[Value.bool b]) (decide_eq_decide.2 Int.ofNat_lt.symm)) | (simp; done)) ?_; (with_reducible refine (legateref08_sign.calls (Op.bytesLess a0_1.toList a1_1.toList) t199 _ A42.out).mono ?_); rintro e w' ⟨rfl, ⟨nd, rfl⟩⟩; refine ⟨_, rfl, ?_⟩))
      go_ret
      exact ⟨by first | rfl | (simp [errW_none, errW_some] <;> rfl) | (simp [*, errW_none, errW_some] <;> rfl), by repeat (first | (with_reducible first | exact HB.out | apply below_alloc | apply pw_below_drewN | apply below_drew1 | refine below_set ?_ GE196.out | refine below_set ?_ GE197.out) | exact HB.out)⟩
  · rw [if_neg c3] at H
    have c3b0 : (a0_0 == a1_0) = false := beq_eq_false_iff_ne.mpr c3
    have c3b1 : (a0_0 != a1_0) = true := bne_iff_ne.mpr c3
    replace H := Option.bind_eq_some_iff.mp H
    obtain ⟨t198, A480, H⟩ := H
    replace H : (some t198) = some r := H
    have A48 := Aside0.mk A480
    clear A480
    obtain rfl := Option.some.inj H
    go_enter Tryd.func31, Tryd.ntmps31
    go_wp2_with (first | ((with_reducible refine gate_dst (N := 2) rfl ?_); (try (refine gate_guard (by rfl) ?_; dsimp only)); refine box_event ?hg (N := 2) ?hd (cs := #[.int .i64 a0_0, .string a0_1, .int .i64 a0_2, .slice A0_3 l0_3.length c0_3]) (t := 29) ?hr ?_; (case hd => rfl); (case hg => rfl); (case hr => first | (go_simp; done) | (go_simp; rfl)); intro gb196 hg w49 hbox hb; have n0_ := Aside0.mk (below_step (by repeat (first | (with_reducible first | exact HB.out | apply below_alloc | apply pw_below_drewN | apply below_drew1) | exact HB.out)) hb); have n1_ := Aside0.mk (hbox); have n2_ := Aside0.mk ((by rw [hg]; exact (below_size (by repeat (first | (with_reducible first | exact HB.out | apply below_alloc | apply pw_below_drewN | apply below_drew1) | exact HB.out))) : w.heap.size ≤ gb196)); have n3_ := Aside0.mk ((by rw [hg]; exact (below_size (by repeat (first | (with_reducible first | exact HB.out | apply below_alloc | apply pw_below_drewN | apply below_drew1) | exact HB.out))) : w.heap.size ≤ gb196)); clear HB; have HB := n0_; have BK196 := n1_; have GW196 := n2_; have GE196 := n3_; clear n0_ n1_ n2_ n3_; clear hb hbox hg) | ((with_reducible refine gate_dst (N := 3) rfl ?_); (try (refine gate_guard (by rfl) ?_; dsimp only)); refine box_event ?hg (N := 3) ?hd (cs := #[.int .i64 a1_0, .string a1_1, .int .i64 a1_2, .slice A1_3 l1_3.length c1_3]) (t := 29) ?hr ?_; (case hd => rfl); (case hg => rfl); (case hr => first | (go_simp; done) | (go_simp; rfl)); intro gb197 hg w50 hbox hb; have n0_ := Aside0.mk (blk_below (g := gb196) (o := .cells #[.int .i64 a0_0, .string a0_1, .int .i64 a0_2, .slice A0_3 l0_3.length c0_3] 29 (0, 0)) (by (with_reducible repeat (first | refine blk_drewN ?_ _ | refine blk_drew ?_ | refine blk_alloc ?_ _)); exact BK196.out) hb); have n1_ := Aside0.mk (below_step (by repeat (first | (with_reducible first | exact HB.out | apply below_alloc | apply pw_below_drewN | apply below_drew1 | refine below_set ?_ GE196.out) | exact HB.out)) hb); have n2_ := Aside0.mk (hbox); have n3_ := Aside0.mk ((by rw [hg]; exact (below_size (by repeat (first | (with_reducible first | exact HB.out | apply below_alloc | apply pw_below_drewN | apply below_drew1 | refine below_set ?_ GE196.out) | exact HB.out))) : w.heap.size ≤ gb197)); have n4_ := Aside0.mk ((by rw [hg]; exact (below_size (by repeat (first | (with_reducible first | exact HB.out | apply below_alloc | apply pw_below_drewN | apply below_drew1 | refine below_set ?_ GE196.out) | exact HB.out))) : w.heap.size ≤ gb197)); have n5_ := Aside0.mk ((by rw [hg]; exact Nat.ne_of_lt (blk_lt (g := gb196) (o := .cells #[.int .i64 a0_0, .string a0_1, .int .i64 a0_2, .slice A0_3 l0_3.length c0_3] 29 (0, 0)) (by (with_reducible repeat (first | refine blk_drewN ?_ _ | refine blk_drew ?_ | refine blk_alloc ?_ _)); exact BK196.out)) : gb196 ≠ gb197)); have n6_ := Aside0.mk ((by rw [hg]; exact Nat.ne_of_gt (blk_lt (g := gb196) (o := .cells #[.int .i64 a0_0, .string a0_1, .int .i64 a0_2, .slice A0_3 l0_3.length c0_3] 29 (0, 0)) (by (with_reducible repeat (first | refine blk_drewN ?_ _ | refine blk_drew ?_ | refine blk_alloc ?_ _)); exact BK196.out)) : gb197 ≠ gb196)); clear BK196; clear HB; have BK196 := n0_; have HB := n1_; have BK197 := n2_; have GW197 := n3_; have GE197 := n4_; have NB196_197 := n5_; have NB197_196 := n6_; clear n0_ n1_ n2_ n3_ n4_ n5_ n6_; clear hb hbox hg; have hnb51 := NB196_197.out; have hnc51 := NB197_196.out; have hcz52_0 : w50.cell? ⟨gb196, 0, none⟩ = some (.int .i64 a0_0) := (blk_cell BK196.out 0).trans rfl; have hcz52_1 : w50.cell? ⟨gb196, 1, none⟩ = some (.string a0_1) := (blk_cell BK196.out 1).trans rfl; have hcz52_2 : w50.cell? ⟨gb196, 2, none⟩ = some (.int .i64 a0_2) := (blk_cell BK196.out 2).trans rfl; have hcz52_3 : w50.cell? ⟨gb196, 3, none⟩ = some (.slice A0_3 l0_3.length c0_3) := (blk_cell BK196.out 3).trans rfl; have hfz52_0 := blk_frozen BK196.out 0; have hfz52_1 := blk_frozen BK196.out 1; have hfz52_2 := blk_frozen BK196.out 2; have hfz52_3 := blk_frozen BK196.out 3; have hcz53_0 : w50.cell? ⟨gb197, 0, none⟩ = some (.int .i64 a1_0) := (blk_cell BK197.out 0).trans rfl; have hcz53_1 : w50.cell? ⟨gb197, 1, none⟩ = some (.string a1_1) := (blk_cell BK197.out 1).trans rfl; have hcz53_2 : w50.cell? ⟨gb197, 2, none⟩ = some (.int .i64 a1_2) := (blk_cell BK197.out 2).trans rfl; have hcz53_3 : w50.cell? ⟨gb197, 3, none⟩ = some (.slice A1_3 l1_3.length c1_3) := (blk_cell BK197.out 3).trans rfl; have hfz53_0 := blk_frozen BK197.out 0; have hfz53_1 := blk_frozen BK197.out 1; have hfz53_2 := blk_frozen BK197.out 2; have hfz53_3 := blk_frozen BK197.out 3) | ((with_reducible refine gate_callee (f := 54) rfl ?_); refine goesL_ (some 17) rfl rfl Tryd.func54 (by kernel_rfl) rfl #[.bool (decide (a0_0 < a1_0))] rfl (by (try simp only [List.map_toArray, List.map_cons, List.map_nil]); first | done | rfl | (simp only [List.length_drop, List.length_take]; rfl) | (exact congrArg Value.bool (decide_eq_decide.2 Int.ofNat_lt.symm)) | (exact congrArg (fun b => #[Value.bool b]) (decide_eq_decide.2 Int.ofNat_lt.symm)) | (simp; done)) ?_; (with_reducible refine (legateref08_sign.calls (decide (a0_0 < a1_0)) t198 _ A48.out).mono ?_); rintro e w' ⟨rfl, ⟨nd, rfl⟩⟩; refine ⟨_, rfl, ?_⟩))
    go_ret
    exact ⟨by first | rfl | (simp [errW_none, errW_some] <;> rfl) | (simp [*, errW_none, errW_some] <;> rfl), by repeat (first | (with_reducible first | exact HB.out | apply below_alloc | apply pw_below_drewN | apply below_drew1 | refine below_set ?_ GE196.out | refine below_set ?_ GE197.out) | exact HB.out)⟩
end Go.Proofs.YtimommkbfbdkdaaDoor.P
end
section
namespace Go.Proofs.YtimommkbfbdkdaaDoor.P
open Go.RowKit Go.Proofs.YtimommkbfbdkdaaDoorW.PrintWords Go.Proofs.YtimommkbfbdkdaaDoorW.PrintLast Go.Proofs.YtimommkbfbdkdaaDoorW.PrintMore
attribute [local go_sem] max2_int min2_int max_two min_two max_three min_three max_four min_four
set_option linter.unusedVariables false
set_option linter.unusedSimpArgs false
def legateref08_Same.f (k : Nat) (a0_0 : Int) (a0_1 : ByteArray) (a0_2 : Int) (l0_3 : List (S29)) (a1_0 : Int) (a1_1 : ByteArray) (a1_2 : Int) (l1_3 : List (S29)) : Option (Bool) := (legateref08_Order.f k a0_0 a0_1 a0_2 l0_3 a1_0 a1_1 a1_2 l1_3).bind fun t207 => (some (t207 == 0))
theorem legateref08_Same.mono : ∀ a0 a1 a2 a3 a4 a5 a6 a7 k, LeO (legateref08_Same.f k a0 a1 a2 a3 a4 a5 a6 a7) (legateref08_Same.f (k + 1) a0 a1 a2 a3 a4 a5 a6 a7) := by
  intro a0 a1 a2 a3 a4 a5 a6 a7 k
  unfold legateref08_Same.f
  repeat' first
      | (with_reducible exact legateref08_Order.mono _ _ _ _ _ _ _ _ _)
      | (with_reducible exact LeO.refl _)
      | (with_reducible exact LeO.none _)
      | (with_reducible refine LeO.ite ?_ ?_)
      | (with_reducible refine LeO.bind ?_ (fun _ => ?_))
      | exact legateref08_Order.mono _ _ _ _ _ _ _ _ _
      | exact LeO.none _
      | refine LeO.ite ?_ ?_
      | refine LeO.bind ?_ (fun _ => ?_)
set_option maxHeartbeats 8000000 in
set_option maxRecDepth 100000 in
theorem legateref08_Same.calls (k : Nat) (a0_0 : Int) (a0_1 : ByteArray) (a0_2 : Int) (A0_3 : Option Addr) (c0_3 : Nat) (l0_3 : List (S29)) (a1_0 : Int) (a1_1 : ByteArray) (a1_2 : Int) (A1_3 : Option Addr) (c1_3 : Nat) (l1_3 : List (S29)) (r : Bool) (w : World) (hr0_3 : Kd.C k29 w A0_3 l0_3.length l0_3) (hc0_3 : l0_3.length ≤ c0_3) (hr1_3 : Kd.C k29 w A1_3 l1_3.length l1_3) (hc1_3 : l1_3.length ≤ c1_3) (h : legateref08_Same.f k a0_0 a0_1 a0_2 l0_3 a1_0 a1_1 a1_2 l1_3 = some r) :
    Calls Tryd.prog 12 #[.agg #[.int .i64 a0_0, .string a0_1, .int .i64 a0_2, .slice A0_3 l0_3.length c0_3], .agg #[.int .i64 a1_0, .string a1_1, .int .i64 a1_2, .slice A1_3 l1_3.length c1_3]] w fun e w' => e = .returned (.bool r) ∧ Below w.heap.size w w' := by
  have hu29 := Tryd.underlying29
  have HR0_3 := Aside0.mk hr0_3
  have HC0_3 := Aside0.mk hc0_3
  clear hr0_3 hc0_3
  have HR1_3 := Aside0.mk hr1_3
  have HC1_3 := Aside0.mk hc1_3
  clear hr1_3 hc1_3
  have HB := Aside0.mk (Below.refl w.heap.size w)
  have H : ((legateref08_Order.f k a0_0 a0_1 a0_2 l0_3 a1_0 a1_1 a1_2 l1_3).bind fun t207 => (some (t207 == 0))) = some r := h
  clear h
  replace H := Option.bind_eq_some_iff.mp H
  obtain ⟨t207, A30, H⟩ := H
  replace H : (some (t207 == 0)) = some r := H
  have A3 := Aside0.mk A30
  clear A30
  obtain rfl := Option.some.inj H
  go_enter Tryd.func12, Tryd.ntmps12
  go_wp2_with (first | ((with_reducible refine gate_dst (N := 2) rfl ?_); refine box_event ?hg (N := 2) ?hd (cs := #[.int .i64 a0_0, .string a0_1, .int .i64 a0_2, .slice A0_3 l0_3.length c0_3]) (t := 29) ?hr ?_; (case hd => rfl); (case hg => rfl); (case hr => first | (go_simp; done) | (go_simp; rfl)); intro gb205 hg w4 hbox hb; have n0_ := Aside0.mk (below_step (by repeat (first | (with_reducible first | exact HB.out | apply below_alloc | apply pw_below_drewN | apply below_drew1) | exact HB.out)) hb); have n1_ := Aside0.mk (hbox); have n2_ := Aside0.mk ((by rw [hg]; exact (below_size (by repeat (first | (with_reducible first | exact HB.out | apply below_alloc | apply pw_below_drewN | apply below_drew1) | exact HB.out))) : w.heap.size ≤ gb205)); have n3_ := Aside0.mk ((by rw [hg]; exact (below_size (by repeat (first | (with_reducible first | exact HB.out | apply below_alloc | apply pw_below_drewN | apply below_drew1) | exact HB.out))) : w.heap.size ≤ gb205)); clear HB; have HB := n0_; have BK205 := n1_; have GW205 := n2_; have GE205 := n3_; clear n0_ n1_ n2_ n3_; clear hb hbox hg) | ((with_reducible refine gate_dst (N := 3) rfl ?_); refine box_event ?hg (N := 3) ?hd (cs := #[.int .i64 a1_0, .string a1_1, .int .i64 a1_2, .slice A1_3 l1_3.length c1_3]) (t := 29) ?hr ?_; (case hd => rfl); (case hg => rfl); (case hr => first | (go_simp; done) | (go_simp; rfl)); intro gb206 hg w5 hbox hb; have n0_ := Aside0.mk (blk_below (g := gb205) (o := .cells #[.int .i64 a0_0, .string a0_1, .int .i64 a0_2, .slice A0_3 l0_3.length c0_3] 29 (0, 0)) (by (with_reducible repeat (first | refine blk_drewN ?_ _ | refine blk_drew ?_ | refine blk_alloc ?_ _)); exact BK205.out) hb); have n1_ := Aside0.mk (below_step (by repeat (first | (with_reducible first | exact HB.out | apply below_alloc | apply pw_below_drewN | apply below_drew1 | refine below_set ?_ GE205.out) | exact HB.out)) hb); have n2_ := Aside0.mk (hbox); have n3_ := Aside0.mk ((by rw [hg]; exact (below_size (by repeat (first | (with_reducible first | exact HB.out | apply below_alloc | apply pw_below_drewN | apply below_drew1 | refine below_set ?_ GE205.out) | exact HB.out))) : w.heap.size ≤ gb206)); have n4_ := Aside0.mk ((by rw [hg]; exact (below_size (by repeat (first | (with_reducible first | exact HB.out | apply below_alloc | apply pw_below_drewN | apply below_drew1 | refine below_set ?_ GE205.out) | exact HB.out))) : w.heap.size ≤ gb206)); have n5_ := Aside0.mk ((by rw [hg]; exact Nat.ne_of_lt (blk_lt (g := gb205) (o := .cells #[.int .i64 a0_0, .string a0_1, .int .i64 a0_2, .slice A0_3 l0_3.length c0_3] 29 (0, 0)) (by (with_reducible repeat (first | refine blk_drewN ?_ _ | refine blk_drew ?_ | refine blk_alloc ?_ _)); exact BK205.out)) : gb205 ≠ gb206)); have n6_ := Aside0.mk ((by rw [hg]; exact Nat.ne_of_gt (blk_lt (g := gb205) (o := .cells #[.int .i64 a0_0, .string a0_1, .int .i64 a0_2, .slice A0_3 l0_3.length c0_3] 29 (0, 0)) (by (with_reducible repeat (first | refine blk_drewN ?_ _ | refine blk_drew ?_ | refine blk_alloc ?_ _)); exact BK205.out)) : gb206 ≠ gb205)); clear BK205; clear HB; have BK205 := n0_; have HB := n1_; have BK206 := n2_; have GW206 := n3_; have GE206 := n4_; have NB205_206 := n5_; have NB206_205 := n6_; clear n0_ n1_ n2_ n3_ n4_ n5_ n6_; clear hb hbox hg; have hnb6 := NB205_206.out; have hnc6 := NB206_205.out; have hcz7_0 : w5.cell? ⟨gb205, 0, none⟩ = some (.int .i64 a0_0) := (blk_cell BK205.out 0).trans rfl; have hcz7_1 : w5.cell? ⟨gb205, 1, none⟩ = some (.string a0_1) := (blk_cell BK205.out 1).trans rfl; have hcz7_2 : w5.cell? ⟨gb205, 2, none⟩ = some (.int .i64 a0_2) := (blk_cell BK205.out 2).trans rfl; have hcz7_3 : w5.cell? ⟨gb205, 3, none⟩ = some (.slice A0_3 l0_3.length c0_3) := (blk_cell BK205.out 3).trans rfl; have hfz7_0 := blk_frozen BK205.out 0; have hfz7_1 := blk_frozen BK205.out 1; have hfz7_2 := blk_frozen BK205.out 2; have hfz7_3 := blk_frozen BK205.out 3; have hcz8_0 : w5.cell? ⟨gb206, 0, none⟩ = some (.int .i64 a1_0) := (blk_cell BK206.out 0).trans rfl; have hcz8_1 : w5.cell? ⟨gb206, 1, none⟩ = some (.string a1_1) := (blk_cell BK206.out 1).trans rfl; have hcz8_2 : w5.cell? ⟨gb206, 2, none⟩ = some (.int .i64 a1_2) := (blk_cell BK206.out 2).trans rfl; have hcz8_3 : w5.cell? ⟨gb206, 3, none⟩ = some (.slice A1_3 l1_3.length c1_3) := (blk_cell BK206.out 3).trans rfl; have hfz8_0 := blk_frozen BK206.out 0; have hfz8_1 := blk_frozen BK206.out 1; have hfz8_2 := blk_frozen BK206.out 2; have hfz8_3 := blk_frozen BK206.out 3) | ((with_reducible refine gate_callee (f := 31) rfl ?_); refine goesL_ (some 7) rfl rfl Tryd.func31 (by kernel_rfl) rfl #[.agg #[.int .i64 a0_0, .string a0_1, .int .i64 a0_2, .slice A0_3 l0_3.length c0_3], .agg #[.int .i64 a1_0, .string a1_1, .int .i64 a1_2, .slice A1_3 l1_3.length c1_3]] rfl (by (try simp only [List.map_toArray, List.map_cons, List.map_nil]); first | done | rfl | (simp only [List.length_drop, List.length_take]; rfl) | (exact congrArg Value.bool (decide_eq_decide.2 Int.ofNat_lt.symm)) | (exact congrArg (fun b => #[Value.bool b]) (decide_eq_decide.2 Int.ofNat_lt.symm)) | (simp; done)) ?_; (with_reducible refine (legateref08_Order.calls k a0_0 a0_1 a0_2 _ _ l0_3 a1_0 a1_1 a1_2 _ _ l1_3 t207 _ ?side1 ?side2 ?side3 ?side4 A3.out).mono ?_); (case side1 => repeat (first | exact (Kd.C_below HR0_3.out HB.out) | (with_reducible refine Kd.C_alloc ?_ _) | (with_reducible refine Kd.C_drewN ?_ _) | (with_reducible refine Kd.C_drew ?_))); (case side2 => exact HC0_3.out); (case side3 => repeat (first | exact (Kd.C_below HR1_3.out HB.out) | (with_reducible refine Kd.C_alloc ?_ _) | (with_reducible refine Kd.C_drewN ?_ _) | (with_reducible refine Kd.C_drew ?_))); (case side4 => exact HC1_3.out); rintro e w9 ⟨rfl, hb⟩; refine ⟨_, rfl, ?_⟩; have n0_ := Aside0.mk (blk_below (g := gb205) (o := .cells #[.int .i64 a0_0, .string a0_1, .int .i64 a0_2, .slice A0_3 l0_3.length c0_3] 29 (0, 0)) (by (with_reducible repeat (first | refine blk_drewN ?_ _ | refine blk_drew ?_ | refine blk_alloc ?_ _)); exact BK205.out) hb); have n1_ := Aside0.mk (blk_below (g := gb206) (o := .cells #[.int .i64 a1_0, .string a1_1, .int .i64 a1_2, .slice A1_3 l1_3.length c1_3] 29 (0, 0)) (by (with_reducible repeat (first | refine blk_drewN ?_ _ | refine blk_drew ?_ | refine blk_alloc ?_ _)); exact BK206.out) hb); have n2_ := Aside0.mk (below_step (by repeat (first | (with_reducible first | exact HB.out | apply below_alloc | apply pw_below_drewN | apply below_drew1 | refine below_set ?_ GE205.out | refine below_set ?_ GE206.out) | exact HB.out)) hb); clear BK205; clear BK206; clear HB; have BK205 := n0_; have BK206 := n1_; have HB := n2_; clear n0_ n1_ n2_; (try clear hb); (try clear hb2); (try clear hk); (try clear hi)))
  go_ret
  exact ⟨by first | rfl | (simp [errW_none, errW_some] <;> rfl) | (simp [*, errW_none, errW_some] <;> rfl), by repeat (first | (with_reducible first | exact HB.out | apply below_alloc | apply pw_below_drewN | apply below_drew1 | refine below_set ?_ GE205.out | refine below_set ?_ GE206.out) | exact HB.out)⟩
end Go.Proofs.YtimommkbfbdkdaaDoor.P
end
section
namespace Go.Proofs.YtimommkbfbdkdaaDoor.P
open Go.RowKit
theorem bytes_less : ∀ l m : List UInt8, Lib.compareBytes l m = if l = m then 0 else if Op.bytesLess l m = true then -1 else 1
  | [], [] => by simp [Lib.compareBytes]
  | [], b :: m => by simp [Lib.compareBytes, Op.bytesLess]
  | a :: l, [] => by simp [Lib.compareBytes, Op.bytesLess]
  | a :: l, b :: m => by
    rw [Lib.compareBytes, bytes_less l m]
    by_cases h1 : a < b
    · have hne : a ≠ b := fun e => by subst e; exact absurd h1 (by simp)
      simp [h1, Op.bytesLess, hne]
    · by_cases h2 : b < a
      · have hne : a ≠ b := fun e => by subst e; exact absurd h2 (by simp)
        simp [h1, h2, Op.bytesLess, hne]
      · have he : a = b := by
          apply UInt8.toNat_inj.1
          rw [UInt8.lt_iff_toNat_lt] at h1 h2
          omega
        subst he
        simp [Op.bytesLess]
theorem sign_some (b : Bool) : legateref08_sign.f b = some (if b = true then -1 else 1) := by unfold legateref08_sign.f; split <;> rfl
theorem rOrder (n : Nat) : ∀ t u : S29, nT t ≤ n → nT t ≤ 1000000000 → nT u ≤ 1000000000 → ∀ k, cT t ≤ k → legateref08_Order.f k t.f0 t.f1 t.f2 t.f3 u.f0 u.f1 u.f2 u.f3 = some (oT t u) := by
  induction n with
  | zero => intro t u h; rw [nT_eq] at h; omega
  | succ n ih =>
    intro t u h hb hbu k hk
    have h0 := h
    rw [nT_eq] at h0
    have hb0 := hb
    rw [nT_eq] at hb0
    have hbu0 := hbu
    rw [nT_eq] at hbu0
    have hll := nL_len t.f3
    have hlu := nL_len u.f3
    rw [cT_eq] at hk
    obtain ⟨k, rfl⟩ : ∃ k', k = k' + 1 := ⟨k - 1, by omega⟩
    rw [legateref08_Order.f, oT_eq]
    by_cases e0 : t.f0 = u.f0
    · rw [if_pos e0, show cmpI t.f0 u.f0 = 0 from by rw [e0]; exact cmpI_self _]
      by_cases e1 : t.f1.toList = u.f1.toList
      · have e1' : cmpS t.f1 u.f1 = 0 := by
          unfold cmpS
          rw [← Lib.toList_data, ← Lib.toList_data, e1]; exact cmpBytes_self _
        rw [if_pos e1, e1']
        by_cases e2 : t.f2 = u.f2
        · rw [if_pos e2, show cmpI t.f2 u.f2 = 0 from by rw [e2]; exact cmpI_self _]
          have key : ∀ (j i : Nat), t.f3.length - i = j → i ≤ t.f3.length → i ≤ u.f3.length → ∀ (k : Nat), cL (t.f3.drop i) ≤ k →
              legateref08_Order.l0 k i t.f0 t.f1 t.f2 t.f3 u.f0 u.f1 u.f2 u.f3 = some (oL (t.f3.drop i) (u.f3.drop i)) := by
            intro j
            induction j with
            | zero =>
              intro i hj hi hiu k hk
              obtain rfl : i = t.f3.length := by omega
              obtain ⟨k, rfl⟩ : ∃ k', k = k' + 1 + 1 := ⟨k - 2, by have := cL_pos (t.f3.drop t.f3.length); omega⟩
              rw [legateref08_Order.l0, if_neg (by omega), legateref08_Order.j1, if_neg (by simp), List.drop_length]
              by_cases e : (t.f3.length : Int) = u.f3.length
              · have : u.f3.drop t.f3.length = [] := List.drop_eq_nil_of_le (by omega)
                rw [if_pos e, this, oL]
              · rw [if_neg e, sign_some, List.drop_eq_getElem_cons (by omega : t.f3.length < u.f3.length), oL]
                simp
                omega
            | succ j ihj =>
              intro i hj hi hiu k hk
              have hlt : i < t.f3.length := by omega
              rw [cL_drop _ _ hlt] at hk
              obtain ⟨k, rfl⟩ : ∃ k', k = k' + 1 + 1 := ⟨k - 2, by omega⟩
              rw [legateref08_Order.l0, if_pos (by omega), legateref08_Order.j1]
              by_cases hu : i < u.f3.length
              · have hn := nL_at t.f3 i hlt
                have hnu := nL_at u.f3 i hu
                have hc := ih t.f3[i]! u.f3[i]! (by omega) (by omega) (by omega) k (by omega)
                have hih := ihj (i + 1) (by omega) (by omega) (by omega) k (by omega)
                rw [if_pos (by simp; omega), if_pos (by omega), if_pos (by omega), if_pos (by omega), rd_bang, rd_bang, hc]
                rw [List.drop_eq_getElem_cons hlt, List.drop_eq_getElem_cons hu, oL, ← getElem!_pos t.f3 i hlt, ← getElem!_pos u.f3 i hu]
                simp only [Option.bind_some]
                rw [IntWalk.wrap64_in _ (by omega), show ((i : Int) + 1) = ((i + 1 : Nat) : Int) from by omega, hih]
                split <;> rfl
              · have : u.f3.drop i = [] := List.drop_eq_nil_of_le (by omega)
                rw [if_neg (by simp; omega), this, List.drop_eq_getElem_cons hlt, oL, if_neg (by omega), sign_some]
                simp
                omega
          have := key t.f3.length 0 (by omega) (by omega) (by omega) k (by rw [List.drop_zero]; omega)
          rw [show (0 : Int) = ((0 : Nat) : Int) from rfl, this, List.drop_zero, List.drop_zero]
          simp [or4]
        · rw [if_neg e2, sign_some]
          simp only [Option.bind_some, or4, if_true]
          unfold cmpI
          by_cases hl : t.f2 < u.f2
          · simp [hl]
          · simp only [hl, decide_false, if_false]
            rw [if_pos (show t.f2 > u.f2 by omega)]
            rfl
      · rw [if_neg e1, sign_some]
        have e1' : cmpS t.f1 u.f1 = if Op.bytesLess t.f1.toList u.f1.toList = true then -1 else 1 := by
          unfold cmpS
          rw [← Lib.toList_data, ← Lib.toList_data, bytes_less, if_neg e1]
        rw [e1']
        simp only [Option.bind_some, or4, if_true]
        split <;> rfl
    · rw [if_neg e0, sign_some]
      simp only [Option.bind_some, or4]
      unfold cmpI
      by_cases hl : t.f0 < u.f0
      · simp [hl]
      · simp only [hl, decide_false, if_false]
        rw [if_pos (show t.f0 > u.f0 by omega)]
        rfl
theorem refSame_V {v u : Value} {t s : S29} (w : World) (hn : nT t ≤ 1000000000) (hn2 : nT s ≤ 1000000000) (h : IsT w v t) (h2 : IsT w u s) : V_ 12 #[v, u] w (.bool (oT t s == 0)) := by
  obtain ⟨A, c, rfl, hl, hC⟩ := h
  obtain ⟨B, d, rfl, hl2, hC2⟩ := h2
  exact (legateref08_Same.calls (cT t) t.f0 t.f1 t.f2 A c t.f3 s.f0 s.f1 s.f2 B d s.f3 _ w hC hl hC2 hl2 (by rw [legateref08_Same.f, rOrder _ t s (Nat.le_refl _) hn hn2 _ (Nat.le_refl _)]; rfl)).mono fun _ _ ⟨he, hb⟩ => ⟨he, hb⟩
end Go.Proofs.YtimommkbfbdkdaaDoor.P
end
section
namespace Go.Proofs.YtimommkbfbdkdaaDoor.P
open Go.RowKit Go.Proofs.YtimommkbfbdkdaaDoorW.PrintWords Go.Proofs.YtimommkbfbdkdaaDoorW.PrintLast Go.Proofs.YtimommkbfbdkdaaDoorW.PrintMore
set_option linter.unusedVariables false
set_option linter.unusedSimpArgs false
theorem build_n (a : Au) (sv ce : S29) (hn : nA a ≤ 1100000) (hs : nT sv ≤ 1100000) (hc : nT ce ≤ 1100000) : nT (buildA a sv ce) ≤ 100000000 := by
  cases h : canA a sv ce with
  | false => rw [(build_no h).1, nT_z]; decide
  | true => rw [(build_yes h).1]; have := nT_built a sv ce; omega
set_option maxHeartbeats 8000000 in
set_option maxRecDepth 100000 in
theorem AuthzBuilds_calls {a b : Au} {sv ce : S29} {A0 B0 A1 B1 As Ac : Option Addr} {c0 d0 c1 d1 cs cc : Nat} (w0 : World) (hL : Laid w0) (hn_a : nA a ≤ 1100000) (hn_b : nA b ≤ 1100000) (hn_sv : nT sv ≤ 1100000) (hn_ce : nT ce ≤ 1100000)
    (h0 : IsA w0 (.agg #[.string a.u, .slice A0 a.g.length c0, .int .i64 a.o, .slice B0 a.tr.length d0, .string a.s, .bool a.fw, .int .i64 a.tm]) a) (h1 : IsA w0 (.agg #[.string b.u, .slice A1 b.g.length c1, .int .i64 b.o, .slice B1 b.tr.length d1, .string b.s, .bool b.fw, .int .i64 b.tm]) b) (h2 : IsT w0 (.agg #[.int .i64 sv.f0, .string sv.f1, .int .i64 sv.f2, .slice As sv.f3.length cs]) sv) (h3 : IsT w0 (.agg #[.int .i64 ce.f0, .string ce.f1, .int .i64 ce.f2, .slice Ac ce.f3.length cc]) ce) :
    V_ 3 #[(.agg #[.string a.u, .slice A0 a.g.length c0, .int .i64 a.o, .slice B0 a.tr.length d0, .string a.s, .bool a.fw, .int .i64 a.tm]), (.agg #[.string b.u, .slice A1 b.g.length c1, .int .i64 b.o, .slice B1 b.tr.length d1, .string b.s, .bool b.fw, .int .i64 b.tm]), (.agg #[.int .i64 sv.f0, .string sv.f1, .int .i64 sv.f2, .slice As sv.f3.length cs]), (.agg #[.int .i64 ce.f0, .string ce.f1, .int .i64 ce.f2, .slice Ac ce.f3.length cc])] w0 (.bool true) := by
  have hu25 := Tryd.underlying25
  have hu29 := Tryd.underlying29
  unfold V_
  have HL_0 := Aside0.mk (hL)
  have H0_0 := Aside0.mk (h0)
  have H1_0 := Aside0.mk (h1)
  have H2_0 := Aside0.mk (h2)
  have H3_0 := Aside0.mk (h3)
  have B_0 := Aside0.mk (Below.refl w0.heap.size w0)
  clear hL h0 h1 h2 h3
  go_enter Tryd.func3, Tryd.ntmps3
  go_wp2_with fail
  refine (works_calls _ (HL_0.out.below (below_alloc (below_alloc (below_alloc (below_alloc (Below.refl _ _) _) _) _) _))).mono ?_
  rintro e w1 ⟨rfl, b1⟩
  obtain ⟨p1, z1, x1_0, x1_1, x1_2, x1_3⟩ := four_boxes b1
  have HL_1 := Aside0.mk (HL_0.out.below p1)
  have H0_1 := Aside0.mk (H0_0.out.below p1)
  have H1_1 := Aside0.mk (H1_0.out.below p1)
  have H2_1 := Aside0.mk (H2_0.out.below p1)
  have H3_1 := Aside0.mk (H3_0.out.below p1)
  have B_1 := Aside0.mk (B_0.out.trans (p1.mono B_0.out.size))
  have X1_1 := Aside0.mk x1_0
  have X2_1 := Aside0.mk x1_1
  have X3_1 := Aside0.mk x1_2
  have X4_1 := Aside0.mk x1_3
  clear HL_0 H0_0 H1_0 H2_0 H3_0 B_0 b1 p1 z1 x1_0 x1_1 x1_2 x1_3
  obtain ⟨hq0_0, hq0_1, hq0_2, hq0_3, hq0_4, hq0_5, hq0_6⟩ := boxA_cells X1_1.out
  go_wp2_with fail
  refine (LargeA_V (a := a) _ (by omega) H0_1.out).mono ?_
  rintro e w2 ⟨rfl, b2⟩
  have H0_2 := Aside0.mk (H0_1.out.below b2)
  have H1_2 := Aside0.mk (H1_1.out.below b2)
  have H2_2 := Aside0.mk (H2_1.out.below b2)
  have H3_2 := Aside0.mk (H3_1.out.below b2)
  have B_2 := Aside0.mk (B_1.out.trans (b2.mono B_1.out.size))
  have X1_2 := Aside0.mk (blk_below X1_1.out b2)
  have X2_2 := Aside0.mk (blk_below X2_1.out b2)
  have X3_2 := Aside0.mk (blk_below X3_1.out b2)
  have X4_2 := Aside0.mk (blk_below X4_1.out b2)
  clear H0_1 H1_1 H2_1 H3_1 B_1 X1_1 X2_1 X3_1 X4_1 hq0_0 hq0_1 hq0_2 hq0_3 hq0_4 hq0_5 hq0_6 b2
  cases hg2 : largeA a with
  | true =>
    go_wp2_with fail
    go_ret
    exact ⟨rfl, B_2.out⟩
  | false =>
    obtain ⟨hq1_0, hq1_1, hq1_2, hq1_3, hq1_4, hq1_5, hq1_6⟩ := boxA_cells X2_2.out
    go_wp2_with fail
    refine (LargeA_V (a := b) _ (by omega) H1_2.out).mono ?_
    rintro e w3 ⟨rfl, b3⟩
    have H0_3 := Aside0.mk (H0_2.out.below b3)
    have H1_3 := Aside0.mk (H1_2.out.below b3)
    have H2_3 := Aside0.mk (H2_2.out.below b3)
    have H3_3 := Aside0.mk (H3_2.out.below b3)
    have B_3 := Aside0.mk (B_2.out.trans (b3.mono B_2.out.size))
    have X1_3 := Aside0.mk (blk_below X1_2.out b3)
    have X2_3 := Aside0.mk (blk_below X2_2.out b3)
    have X3_3 := Aside0.mk (blk_below X3_2.out b3)
    have X4_3 := Aside0.mk (blk_below X4_2.out b3)
    clear H0_2 H1_2 H2_2 H3_2 B_2 X1_2 X2_2 X3_2 X4_2 hq1_0 hq1_1 hq1_2 hq1_3 hq1_4 hq1_5 hq1_6 b3
    cases hg3 : largeA b with
    | true =>
      go_wp2_with fail
      go_ret
      exact ⟨rfl, B_3.out⟩
    | false =>
      obtain ⟨hq2_0, hq2_1, hq2_2, hq2_3⟩ := box_cells X3_3.out
      go_wp2_with fail
      refine (Large_V _ 20 (by omega) H2_3.out).mono ?_
      rintro e w4 ⟨rfl, b4⟩
      have H0_4 := Aside0.mk (H0_3.out.below b4)
      have H1_4 := Aside0.mk (H1_3.out.below b4)
      have H2_4 := Aside0.mk (H2_3.out.below b4)
      have H3_4 := Aside0.mk (H3_3.out.below b4)
      have B_4 := Aside0.mk (B_3.out.trans (b4.mono B_3.out.size))
      have X1_4 := Aside0.mk (blk_below X1_3.out b4)
      have X2_4 := Aside0.mk (blk_below X2_3.out b4)
      have X3_4 := Aside0.mk (blk_below X3_3.out b4)
      have X4_4 := Aside0.mk (blk_below X4_3.out b4)
      clear H0_3 H1_3 H2_3 H3_3 B_3 X1_3 X2_3 X3_3 X4_3 hq2_0 hq2_1 hq2_2 hq2_3 b4
      cases hg4 : decide (((partsT sv).length : Int) > 20) with
      | true =>
        go_wp2_with fail
        go_ret
        exact ⟨rfl, B_4.out⟩
      | false =>
        obtain ⟨hq3_0, hq3_1, hq3_2, hq3_3⟩ := box_cells X4_4.out
        go_wp2_with fail
        refine (Large_V _ 20 (by omega) H3_4.out).mono ?_
        rintro e w5 ⟨rfl, b5⟩
        have H0_5 := Aside0.mk (H0_4.out.below b5)
        have H1_5 := Aside0.mk (H1_4.out.below b5)
        have H2_5 := Aside0.mk (H2_4.out.below b5)
        have H3_5 := Aside0.mk (H3_4.out.below b5)
        have B_5 := Aside0.mk (B_4.out.trans (b5.mono B_4.out.size))
        have X1_5 := Aside0.mk (blk_below X1_4.out b5)
        have X2_5 := Aside0.mk (blk_below X2_4.out b5)
        have X3_5 := Aside0.mk (blk_below X3_4.out b5)
        have X4_5 := Aside0.mk (blk_below X4_4.out b5)
        clear H0_4 H1_4 H2_4 H3_4 B_4 X1_4 X2_4 X3_4 X4_4 hq3_0 hq3_1 hq3_2 hq3_3 b5
        cases hg5 : decide (((partsT ce).length : Int) > 20) with
        | true =>
          go_wp2_with fail
          go_ret
          exact ⟨rfl, B_5.out⟩
        | false =>
          have hnx := build_n a sv ce hn_a hn_sv hn_ce
          obtain ⟨x, hx⟩ : ∃ x, buildA a sv ce = x := ⟨_, rfl⟩
          obtain ⟨z, hz⟩ : ∃ z, buildE a sv ce = z := ⟨_, rfl⟩
          rw [hx] at hnx
          have E1 := Aside0.mk (And.intro hx hz)
          have hnd := nT_data a
          obtain ⟨vb, hv⟩ : ∃ vb, validA a = vb := ⟨_, rfl⟩
          obtain ⟨sb, hs⟩ : ∃ sb, sameA a b = sb := ⟨_, rfl⟩
          have EV := Aside0.mk (And.intro hv hs)
          have hzz : (z == z) = true := beq_self_eq_true z
          have hvv : (vb == vb) = true := beq_self_eq_true vb
          have hss : (sb == sb) = true := beq_self_eq_true sb
          clear hx hz hv hs
          obtain ⟨hq4_0, hq4_1, hq4_2, hq4_3, hq4_4, hq4_5, hq4_6⟩ := boxA_cells X1_5.out
          obtain ⟨hq5_0, hq5_1, hq5_2, hq5_3⟩ := box_cells X3_5.out
          obtain ⟨hq6_0, hq6_1, hq6_2, hq6_3⟩ := box_cells X4_5.out
          go_wp2_with fail
          refine (Build_calls (a := a) (sv := sv) (ce := ce) _ (by omega) H0_5.out H2_5.out.F H3_5.out.F (fun _ h => h) (fun _ h => h)).mono ?_
          rw [E1.out.1, E1.out.2]
          rintro e w6 ⟨v6, rfl, ⟨A6, c6, rfl, l6, F6⟩, b6⟩
          have H0_6 := Aside0.mk (H0_5.out.below b6)
          have H1_6 := Aside0.mk (H1_5.out.below b6)
          have H2_6 := Aside0.mk (H2_5.out.below b6)
          have H3_6 := Aside0.mk (H3_5.out.below b6)
          have B_6 := Aside0.mk (B_5.out.trans (b6.mono B_5.out.size))
          have X1_6 := Aside0.mk (blk_below X1_5.out b6)
          have X2_6 := Aside0.mk (blk_below X2_5.out b6)
          have X3_6 := Aside0.mk (blk_below X3_5.out b6)
          have X4_6 := Aside0.mk (blk_below X4_5.out b6)
          clear H0_5 H1_5 H2_5 H3_5 B_5 X1_5 X2_5 X3_5 X4_5 hq4_0 hq4_1 hq4_2 hq4_3 hq4_4 hq4_5 hq4_6 hq5_0 hq5_1 hq5_2 hq5_3 hq6_0 hq6_1 hq6_2 hq6_3 b6
          have I6_6 := Aside0.mk ((show IsF w6 _ (.agg #[.int .i64 x.f0, .string x.f1, .int .i64 x.f2, .slice A6 x.f3.length c6]) x from ⟨A6, c6, rfl, l6, F6⟩).now)
          clear l6 F6
          obtain ⟨hq7_0, hq7_1, hq7_2, hq7_3, hq7_4, hq7_5, hq7_6⟩ := boxA_cells (blk_alloc X1_6.out (.cells #[.int .i64 x.f0, .string x.f1, .int .i64 x.f2, .slice A6 x.f3.length c6] 29))
          obtain ⟨hq8_0, hq8_1, hq8_2, hq8_3⟩ := box_cells (blk_alloc X3_6.out (.cells #[.int .i64 x.f0, .string x.f1, .int .i64 x.f2, .slice A6 x.f3.length c6] 29))
          obtain ⟨hq9_0, hq9_1, hq9_2, hq9_3⟩ := box_cells (blk_alloc X4_6.out (.cells #[.int .i64 x.f0, .string x.f1, .int .i64 x.f2, .slice A6 x.f3.length c6] 29))
          go_wp2_with fail
          refine (Build8_calls (a := a) (sv := sv) (ce := ce) _ (by omega) (H0_6.out.below (below_alloc (Below.refl _ _) _)) (H2_6.out.below (below_alloc (Below.refl _ _) _)).F (H3_6.out.below (below_alloc (Below.refl _ _) _)).F (fun _ h => h) (fun _ h => h)).mono ?_
          rw [E1.out.1, E1.out.2]
          rintro e w7 ⟨v7, rfl, ⟨A7, c7, rfl, l7, F7⟩, b7⟩
          obtain ⟨p7, z7, x7_0⟩ := one_box b7
          have H0_7 := Aside0.mk (H0_6.out.below p7)
          have H1_7 := Aside0.mk (H1_6.out.below p7)
          have H2_7 := Aside0.mk (H2_6.out.below p7)
          have H3_7 := Aside0.mk (H3_6.out.below p7)
          have B_7 := Aside0.mk (B_6.out.trans (p7.mono B_6.out.size))
          have X1_7 := Aside0.mk (blk_below X1_6.out p7)
          have X2_7 := Aside0.mk (blk_below X2_6.out p7)
          have X3_7 := Aside0.mk (blk_below X3_6.out p7)
          have X4_7 := Aside0.mk (blk_below X4_6.out p7)
          have I6_7 := Aside0.mk (I6_6.out.below p7)
          have X5_7 := Aside0.mk x7_0
          clear H0_6 H1_6 H2_6 H3_6 B_6 X1_6 X2_6 X3_6 X4_6 I6_6 hq7_0 hq7_1 hq7_2 hq7_3 hq7_4 hq7_5 hq7_6 hq8_0 hq8_1 hq8_2 hq8_3 hq9_0 hq9_1 hq9_2 hq9_3 b7 p7 z7 x7_0
          have I7_7 := Aside0.mk ((show IsF w7 _ (.agg #[.int .i64 x.f0, .string x.f1, .int .i64 x.f2, .slice A7 x.f3.length c7]) x from ⟨A7, c7, rfl, l7, F7⟩).now)
          clear l7 F7
          obtain ⟨hq10_0, hq10_1, hq10_2, hq10_3⟩ := box_cells (blk_alloc X5_7.out (.cells #[.int .i64 x.f0, .string x.f1, .int .i64 x.f2, .slice A7 x.f3.length c7] 29))
          go_wp2_with fail
          refine (refSame_V (t := x) (s := x) _ (by omega) (by omega) (I6_7.out.below (below_alloc (Below.refl _ _) _)) (I7_7.out.below (below_alloc (Below.refl _ _) _))).mono ?_
          rw [oT_self x]
          rintro e w8 ⟨rfl, b8⟩
          obtain ⟨p8, z8, x8_0⟩ := one_box b8
          have H0_8 := Aside0.mk (H0_7.out.below p8)
          have H1_8 := Aside0.mk (H1_7.out.below p8)
          have H2_8 := Aside0.mk (H2_7.out.below p8)
          have H3_8 := Aside0.mk (H3_7.out.below p8)
          have B_8 := Aside0.mk (B_7.out.trans (p8.mono B_7.out.size))
          have X1_8 := Aside0.mk (blk_below X1_7.out p8)
          have X2_8 := Aside0.mk (blk_below X2_7.out p8)
          have X3_8 := Aside0.mk (blk_below X3_7.out p8)
          have X4_8 := Aside0.mk (blk_below X4_7.out p8)
          have I6_8 := Aside0.mk (I6_7.out.below p8)
          have X5_8 := Aside0.mk (blk_below X5_7.out p8)
          have I7_8 := Aside0.mk (I7_7.out.below p8)
          have X6_8 := Aside0.mk x8_0
          clear H0_7 H1_7 H2_7 H3_7 B_7 X1_7 X2_7 X3_7 X4_7 I6_7 X5_7 I7_7 hq10_0 hq10_1 hq10_2 hq10_3 b8 p8 z8 x8_0
          obtain ⟨hb0, hb1, hb2, hb3, hb4, hb5, hb6⟩ := boxA_cells X1_8.out
          have HWc : Aside0 (Below w8.heap.size w8 w8) := ⟨Below.refl _ _⟩
          go_wp2_with fail
          go_region_held3 (fun w' => w'.cell? ⟨w0.heap.size, 0, none⟩ = some (.string a.u) ∧ w'.cell? ⟨w0.heap.size, 1, none⟩ = some (.slice A0 a.g.length c0) ∧ w'.cell? ⟨w0.heap.size, 2, none⟩ = some (.int .i64 a.o) ∧ w'.cell? ⟨w0.heap.size, 3, none⟩ = some (.slice B0 a.tr.length d0) ∧ w'.cell? ⟨w0.heap.size, 4, none⟩ = some (.string a.s) ∧ w'.cell? ⟨w0.heap.size, 5, none⟩ = some (.bool a.fw) ∧ w'.cell? ⟨w0.heap.size, 6, none⟩ = some (.int .i64 a.tm))
            (first | (with_reducible (go_split_ands; exact ⟨pw_cell_below hb (by assumption), pw_cell_below hb (by assumption), pw_cell_below hb (by assumption), pw_cell_below hb (by assumption), pw_cell_below hb (by assumption), pw_cell_below hb (by assumption), pw_cell_below hb (by assumption)⟩)) | (with_reducible (go_split_ands; exact ⟨pw_cell_below (below_alloc (Below.refl _ _) _) (by assumption), pw_cell_below (below_alloc (Below.refl _ _) _) (by assumption), pw_cell_below (below_alloc (Below.refl _ _) _) (by assumption), pw_cell_below (below_alloc (Below.refl _ _) _) (by assumption), pw_cell_below (below_alloc (Below.refl _ _) _) (by assumption), pw_cell_below (below_alloc (Below.refl _ _) _) (by assumption), pw_cell_below (below_alloc (Below.refl _ _) _) (by assumption)⟩)) | (with_reducible (go_split_ands; refine ⟨?_, ?_, ?_, ?_, ?_, ?_, ?_⟩ <;> assumption)) | (go_keep; done))
            (first
              | (go_simp; go_at_call 13; refine (Data_F (a := a) _ (by omega) (H0_8.out.below (by repeat (first | exact HWc.out | apply below_alloc | apply pw_below_drewN | apply below_drew)))).mono ?_; rintro e wz ⟨vz, rfl, hz, hb⟩; have HWn := Aside0.mk (below_step (by repeat (first | exact HWc.out | apply below_alloc | apply pw_below_drewN | apply below_drew)) hb); clear HWc; have HWc := HWn; clear HWn; obtain ⟨AD, cD, rfl, lD, FD⟩ := hz; have ID := Aside0.mk ((show IsF wz _ (.agg #[.int .i64 (dataA a).f0, .string (dataA a).f1, .int .i64 (dataA a).f2, .slice AD (dataA a).f3.length cD]) (dataA a) from ⟨AD, cD, rfl, lD, FD⟩).now); clear lD FD)
              | (go_simp; go_at_call 14; refine (Data8_F (a := a) _ (by omega) (H0_8.out.below (by repeat (first | exact HWc.out | apply below_alloc | apply pw_below_drewN | apply below_drew)))).mono ?_; rintro e wz ⟨vz, rfl, hz, hb⟩; have HWn := Aside0.mk (below_step (by repeat (first | exact HWc.out | apply below_alloc | apply pw_below_drewN | apply below_drew)) hb); clear HWc; have HWc := HWn; clear HWn; obtain ⟨AE, cE, rfl, lE, FE⟩ := hz; have IE := Aside0.mk ((show IsF wz _ (.agg #[.int .i64 (dataA a).f0, .string (dataA a).f1, .int .i64 (dataA a).f2, .slice AE (dataA a).f3.length cE]) (dataA a) from ⟨AE, cE, rfl, lE, FE⟩).now); clear lE FE; have IDn := Aside0.mk (ID.out.below (below_step (by repeat (first | exact Below.refl _ _ | apply below_alloc | apply pw_below_drewN | apply below_drew)) hb)); clear ID; have ID := IDn; clear IDn)
              | (go_simp; go_at_call 12; refine (refSame_V (t := dataA a) (s := dataA a) _ (by omega) (by omega) (ID.out.below (by repeat (first | exact Below.refl _ _ | apply below_alloc | apply pw_below_drewN | apply below_drew))) (IE.out.below (by repeat (first | exact Below.refl _ _ | apply below_alloc | apply pw_below_drewN | apply below_drew)))).mono ?_; rw [oT_self (dataA a)]; rintro e wz ⟨rfl, hb⟩; have HWn := Aside0.mk (below_step (by repeat (first | exact HWc.out | apply below_alloc | apply pw_below_drewN | apply below_drew)) hb); clear HWc; have HWc := HWn; clear HWn))
          clear hb0 hb1 hb2 hb3 hb4 hb5 hb6
          obtain ⟨w9, hw9⟩ : ∃ w', w' = wz := ⟨_, rfl⟩
          rw [← hw9] at HWc ⊢
          have b9 := HWc.out
          clear HWc hw9 hb
          have H0_9 := Aside0.mk (H0_8.out.below b9)
          have H1_9 := Aside0.mk (H1_8.out.below b9)
          have H2_9 := Aside0.mk (H2_8.out.below b9)
          have H3_9 := Aside0.mk (H3_8.out.below b9)
          have B_9 := Aside0.mk (B_8.out.trans (b9.mono B_8.out.size))
          have X1_9 := Aside0.mk (blk_below X1_8.out b9)
          have X2_9 := Aside0.mk (blk_below X2_8.out b9)
          have X3_9 := Aside0.mk (blk_below X3_8.out b9)
          have X4_9 := Aside0.mk (blk_below X4_8.out b9)
          have I6_9 := Aside0.mk (I6_8.out.below b9)
          have X5_9 := Aside0.mk (blk_below X5_8.out b9)
          have I7_9 := Aside0.mk (I7_8.out.below b9)
          have X6_9 := Aside0.mk (blk_below X6_8.out b9)
          clear H0_8 H1_8 H2_8 H3_8 B_8 X1_8 X2_8 X3_8 X4_8 I6_8 X5_8 I7_8 X6_8 b9
          obtain ⟨hb0, hb1, hb2, hb3, hb4, hb5, hb6⟩ := boxA_cells X1_9.out
          obtain ⟨hd0, hd1, hd2, hd3, hd4, hd5, hd6⟩ := boxA_cells X2_9.out
          have HWc : Aside0 (Below w9.heap.size w9 w9) := ⟨Below.refl _ _⟩
          go_wp2_with fail
          go_region_held3 (fun w' => w'.cell? ⟨w0.heap.size, 0, none⟩ = some (.string a.u) ∧ w'.cell? ⟨w0.heap.size, 1, none⟩ = some (.slice A0 a.g.length c0) ∧ w'.cell? ⟨w0.heap.size, 2, none⟩ = some (.int .i64 a.o) ∧ w'.cell? ⟨w0.heap.size, 3, none⟩ = some (.slice B0 a.tr.length d0) ∧ w'.cell? ⟨w0.heap.size, 4, none⟩ = some (.string a.s) ∧ w'.cell? ⟨w0.heap.size, 5, none⟩ = some (.bool a.fw) ∧ w'.cell? ⟨w0.heap.size, 6, none⟩ = some (.int .i64 a.tm) ∧ w'.cell? ⟨w0.heap.size + 1, 0, none⟩ = some (.string b.u) ∧ w'.cell? ⟨w0.heap.size + 1, 1, none⟩ = some (.slice A1 b.g.length c1) ∧ w'.cell? ⟨w0.heap.size + 1, 2, none⟩ = some (.int .i64 b.o) ∧ w'.cell? ⟨w0.heap.size + 1, 3, none⟩ = some (.slice B1 b.tr.length d1) ∧ w'.cell? ⟨w0.heap.size + 1, 4, none⟩ = some (.string b.s) ∧ w'.cell? ⟨w0.heap.size + 1, 5, none⟩ = some (.bool b.fw) ∧ w'.cell? ⟨w0.heap.size + 1, 6, none⟩ = some (.int .i64 b.tm))
            (first | (with_reducible (go_split_ands; exact ⟨pw_cell_below hb (by assumption), pw_cell_below hb (by assumption), pw_cell_below hb (by assumption), pw_cell_below hb (by assumption), pw_cell_below hb (by assumption), pw_cell_below hb (by assumption), pw_cell_below hb (by assumption), pw_cell_below hb (by assumption), pw_cell_below hb (by assumption), pw_cell_below hb (by assumption), pw_cell_below hb (by assumption), pw_cell_below hb (by assumption), pw_cell_below hb (by assumption), pw_cell_below hb (by assumption)⟩)) | (with_reducible (go_split_ands; exact ⟨pw_cell_below (below_alloc (Below.refl _ _) _) (by assumption), pw_cell_below (below_alloc (Below.refl _ _) _) (by assumption), pw_cell_below (below_alloc (Below.refl _ _) _) (by assumption), pw_cell_below (below_alloc (Below.refl _ _) _) (by assumption), pw_cell_below (below_alloc (Below.refl _ _) _) (by assumption), pw_cell_below (below_alloc (Below.refl _ _) _) (by assumption), pw_cell_below (below_alloc (Below.refl _ _) _) (by assumption), pw_cell_below (below_alloc (Below.refl _ _) _) (by assumption), pw_cell_below (below_alloc (Below.refl _ _) _) (by assumption), pw_cell_below (below_alloc (Below.refl _ _) _) (by assumption), pw_cell_below (below_alloc (Below.refl _ _) _) (by assumption), pw_cell_below (below_alloc (Below.refl _ _) _) (by assumption), pw_cell_below (below_alloc (Below.refl _ _) _) (by assumption), pw_cell_below (below_alloc (Below.refl _ _) _) (by assumption)⟩)) | (with_reducible (go_split_ands; refine ⟨?_, ?_, ?_, ?_, ?_, ?_, ?_, ?_, ?_, ?_, ?_, ?_, ?_, ?_⟩ <;> assumption)) | (go_keep; done))
            (first
              | (go_simp; go_at_call 15; refine (Valid_calls (a := a) _ (by omega) (H0_9.out.below (by repeat (first | exact HWc.out | apply below_alloc | apply pw_below_drewN | apply below_drew)))).mono ?_; rw [EV.out.1]; rintro e wz ⟨rfl, hb⟩; have HWn := Aside0.mk (below_step (by repeat (first | exact HWc.out | apply below_alloc | apply pw_below_drewN | apply below_drew)) hb); clear HWc; have HWc := HWn; clear HWn)
              | (go_simp; go_at_call 16; refine (refValid_V (a := a) _ (by omega) (H0_9.out.below (by repeat (first | exact HWc.out | apply below_alloc | apply pw_below_drewN | apply below_drew)))).mono ?_; rw [EV.out.1]; rintro e wz ⟨rfl, hb⟩; have HWn := Aside0.mk (below_step (by repeat (first | exact HWc.out | apply below_alloc | apply pw_below_drewN | apply below_drew)) hb); clear HWc; have HWc := HWn; clear HWn)
              | (go_simp; go_at_call 17; refine (Same_A (a := a) (b := b) _ (by omega) (H0_9.out.below (by repeat (first | exact HWc.out | apply below_alloc | apply pw_below_drewN | apply below_drew))) (H1_9.out.below (by repeat (first | exact HWc.out | apply below_alloc | apply pw_below_drewN | apply below_drew)))).mono ?_; rw [EV.out.2]; rintro e wz ⟨rfl, hb⟩; have HWn := Aside0.mk (below_step (by repeat (first | exact HWc.out | apply below_alloc | apply pw_below_drewN | apply below_drew)) hb); clear HWc; have HWc := HWn; clear HWn)
              | (go_simp; go_at_call 18; refine (refSameA_V (a := a) (b := b) _ (by omega) (by omega) (H0_9.out.below (by repeat (first | exact HWc.out | apply below_alloc | apply pw_below_drewN | apply below_drew))) (H1_9.out.below (by repeat (first | exact HWc.out | apply below_alloc | apply pw_below_drewN | apply below_drew)))).mono ?_; rw [EV.out.2]; rintro e wz ⟨rfl, hb⟩; have HWn := Aside0.mk (below_step (by repeat (first | exact HWc.out | apply below_alloc | apply pw_below_drewN | apply below_drew)) hb); clear HWc; have HWc := HWn; clear HWn))
          all_goals go_wp2_with fail
          all_goals go_ret
          all_goals exact ⟨rfl, B_9.out.trans (HWc.out.mono B_9.out.size)⟩
end Go.Proofs.YtimommkbfbdkdaaDoor.P
end
section
namespace Go.Proofs.YtimommkbfbdkdaaDoor.authzBuilds
open Go.ChangeShapes Go.WideShapes Go.ChangeAt Go.RowKit Go.Proofs.YtimommkbfbdkdaaDoor.P
open Go.ChangeMaps (open_string shut_string)
theorem laid_met (os : Os) : laidMet Tryd.prog Rows.authzBuildsUptoRow.laid ((laidWorld os).forCall (fun _ _ => 0) ⟨#[], #[.agg #[.string ⟨#[]⟩, .slice none 0 0, .int .i64 0, .slice none 0 0, .string ⟨#[]⟩, .bool false, .int .i64 0], .agg #[.string ⟨#[]⟩, .slice none 0 0, .int .i64 0, .slice none 0 0, .string ⟨#[]⟩, .bool false, .int .i64 0], wit, wit], []⟩).memory :=
  laidMet_of_run' 8 (by kernel_rfl) (by kernel_rfl)
theorem reads (os : Os) {H : Type} (enc : TypeId × Value → H) : ∃ ds places, DataW.whole enc Tryd.prog ((laidWorld os).forCall (fun _ _ => 0) ⟨#[], #[.agg #[.string ⟨#[]⟩, .slice none 0 0, .int .i64 0, .slice none 0 0, .string ⟨#[]⟩, .bool false, .int .i64 0], .agg #[.string ⟨#[]⟩, .slice none 0 0, .int .i64 0, .slice none 0 0, .string ⟨#[]⟩, .bool false, .int .i64 0], wit, wit], []⟩).memory Tryd.f3.params.toList Rows.authzBuildsSpec.vars false #[.agg #[.string ⟨#[]⟩, .slice none 0 0, .int .i64 0, .slice none 0 0, .string ⟨#[]⟩, .bool false, .int .i64 0], .agg #[.string ⟨#[]⟩, .slice none 0 0, .int .i64 0, .slice none 0 0, .string ⟨#[]⟩, .bool false, .int .i64 0], wit, wit].toList 8 = some (ds, [], places) ∧ Rows.uptoSmall H ds = true :=
  ⟨[.agg [.lit (.string []), .nil, .lit (.int .i64 0), .nil, .lit (.string []), .lit (.bool false), .lit (.int .i64 0)], .agg [.lit (.string []), .nil, .lit (.int .i64 0), .nil, .lit (.string []), .lit (.bool false), .lit (.int .i64 0)], .agg [.lit (.int .i64 0), .lit (.string []), .lit (.int .i64 0), .nil], .agg [.lit (.int .i64 0), .lit (.string []), .lit (.int .i64 0), .nil]], [], by kernel_rfl, by kernel_rfl⟩
set_option maxRecDepth 100000 in
theorem contract (H : Type) (enc : TypeId × Value → H) (W : World) (base : Nat) (args : Array Value) (ds gs : List (DataW H)) (before : List MemPlace)
    (hval : ∀ (j : Nat) t v, Tryd.f3.params[j]? = some t → args[j]? = some v → Value.okWide Tryd.prog W .any base t v)
    (hW : DataW.Whole enc Tryd.prog Tryd.f3.params.toList Rows.authzBuildsSpec.vars false W args.toList ds gs before) (hL : laidMetH Tryd.prog Rows.authzBuildsUptoRow.laid W) (hk : Rows.uptoSmall H (ds ++ gs) = true) :
    Calls Tryd.prog 3 args W fun e W' => ∃ v, e = .returned v ∧ Rows.authzBuildsSpec.post enc Tryd.prog Tryd.f3 false true false false W args v W' := by
  have hW' := hW
  obtain ⟨p, q, hA0, hV, rfl, hfz, hnd⟩ := hW
  have hA : DataW.TrodAll enc Tryd.prog W 0 (fun _ => true) true Tryd.f3.params.toList args.toList ds p := hA0
  rw [Tryd.params3] at hA hval
  obtain ⟨v0, vs0, d0, ds0, p0, q0, hargs, rfl, rfl, h0, r0⟩ := trodAll_cons hA
  obtain ⟨v1, vs1, d1, ds1, p1, q1, rfl, rfl, rfl, h1, r1⟩ := trodAll_cons r0
  obtain ⟨v2, vs2, d2, ds2, p2, q2, rfl, rfl, rfl, h2, r2⟩ := trodAll_cons r1
  obtain ⟨v3, vs3, d3, ds3, p3, q3, rfl, rfl, rfl, h3, r3⟩ := trodAll_cons r2
  obtain ⟨rfl, rfl, rfl⟩ := trodAll_nil r3
  obtain rfl : args = #[v0, v1, v2, v3] := by cases args; simp_all
  obtain ⟨rfl, rfl⟩ := trodVars_none hV
  obtain ⟨a0, hA0, hok0, hn0⟩ := argA (hval 0 25 _ rfl rfl) h0
  obtain ⟨A0, c0, B0, d0x, rfl, kA0⟩ := hA0
  obtain ⟨a1, hA1, hok1, hn1⟩ := argA (hval 1 25 _ rfl rfl) h1
  obtain ⟨A1, c1, B1, d1x, rfl, kA1⟩ := hA1
  obtain ⟨t2, A2, c2, rfl, hT2, hok2, hn2⟩ := argT (hval 2 29 _ rfl rfl) h2
  obtain ⟨t3, A3, c3, rfl, hT3, hok3, hn3⟩ := argT (hval 3 29 _ rfl rfl) h3
  have hb := bound hk
  simp only [List.append_nil, Rows.uptoBulkAll] at hb
  refine (AuthzBuilds_calls W (laid_table hL) (by omega) (by omega) (by omega) (by omega) ⟨A0, c0, B0, d0x, rfl, kA0⟩ ⟨A1, c1, B1, d1x, rfl, kA1⟩ hT2 hT3).mono fun e W' ⟨he, bel⟩ => ?_
  subst he
  exact ⟨_, rfl, _, _, _, [], _, [], hW', trodAll_mk1 (shut_bool Tryd.underlying4 _), (trodAll_cons_mk (backA h0 bel) (trodAll_cons_mk (backA h1 bel) (trodAll_cons_mk (backT h2 bel) (trodAll_cons_mk (backT h3 bel) trodAll_mk0)))), rfl, bel.frame _, fun h => by cases h⟩
set_option maxRecDepth 100000 in
theorem liftedUpto (os : Os) (started : os.Started) (H : Type) (enc : TypeId × Value → H) (F : Stop.Interp) :
    ReturnsInHanded {} Tryd.checked os 3 .any ((Rows.OpenSpec.upto Rows.authzBuildsSpec).preRow enc Tryd.prog Tryd.f3 Rows.authzBuildsUptoRow.domain false Rows.authzBuildsUptoRow.laid) (((Rows.OpenSpec.upto Rows.authzBuildsSpec).at F).post enc Tryd.prog Tryd.f3 false true false false) := by
  obtain ⟨ds, places, hx, hsm⟩ := reads os enc
  refine returnsInHanded_of_row (C := Tryd.checked) (s := Rows.OpenSpec.upto Rows.authzBuildsSpec) own started (by kernel_rfl) Tryd.func3
    (witness_row_at (enc := enc) (C := Tryd.checked) false (laidWorld os) #[.agg #[.string ⟨#[]⟩, .slice none 0 0, .int .i64 0, .slice none 0 0, .string ⟨#[]⟩, .bool false, .int .i64 0], .agg #[.string ⟨#[]⟩, .slice none 0 0, .int .i64 0, .slice none 0 0, .string ⟨#[]⟩, .bool false, .int .i64 0], wit, wit] rfl (by kernel_rfl) (by kernel_rfl) (by kernel_rfl)
      (OpenSpec.preRow_of_cond 8 hx (by kernel_rfl) (fun k hk => by cases hk; rw [List.append_nil]; exact hsm) (by kernel_rfl) (laid_met os))) ?_
  intro W base args ds gs before hval hW h1 h2 h3 hL h4 h5
  exact contract H enc W base args ds gs before hval hW hL (by first | exact h2 _ rfl | exact h3 _ rfl | exact h4 _ rfl | exact h5 _ rfl)
theorem saidUpto : Rows.AuthzBuildsUptoSaid :=
  OpenClaim.holds_of_cond 3 Tryd.f3 rfl rfl rfl rfl rfl rfl rfl ⟨rfl, rfl, rfl, rfl, rfl⟩ rfl rfl rfl rfl rfl (by kernel_rfl) Tryd.func3 (by kernel_rfl)
    (of_decide_eq_true (by kernel_rfl)) (by unfold Func.isWrapper; first | (rw [if_pos (by decide +kernel)]; kernel_rfl) | (rw [if_neg (by decide +kernel)]; exact ⟨rfl, rfl⟩))
    (fun os started H enc _ F => by rw [OpenClaim.pre_eq_preRow]; exact liftedUpto os started H enc F)
theorem plain (f : FuncId) (fn : Func) (hf : Tryd.pinned.checked.prog.funcNamed Rows.authzBuildsUptoRow.func = some f) (hfn : Tryd.pinned.checked.prog.funcs[f]? = some fn) :
    false = Tryd.pinned.checked.prog.looks [] ∧ ∀ (j : Nat) t, fn.params[j]? = some t → Tryd.pinned.checked.prog.wantsStandIn t = false := by
  obtain rfl : f = 3 := Option.some.inj ((show Tryd.prog.funcNamed Rows.authzBuildsUptoRow.func = some 3 by kernel_rfl).symm.trans hf) |>.symm
  obtain rfl : fn = Tryd.f3 := (Option.some.inj (Tryd.func3.symm.trans hfn)).symm
  refine ⟨by kernel_rfl, fun j t ht => ?_⟩
  rw [Tryd.params3] at ht
  have hm : ∀ x ∈ ([25, 25, 29, 29] : List Nat), Tryd.prog.wantsStandIn x = false := by
    intro x hx
    simp only [List.mem_cons, List.not_mem_nil, or_false] at hx
    rcases hx with rfl | rfl | rfl | rfl <;> kernel_rfl
  exact hm t (by simpa using Array.mem_of_getElem? ht)
theorem cardUpto : Rows.AuthzBuildsUptoCardSaid :=
  Claim7.holds_tied_plain_at .later [] _ _ _ _ saidUpto (fun _ h => by cases h) (by kernel_rfl) (fun _ h => by cases h) authzBuildsUpto_row_tie rfl ⟨rfl, rfl⟩ (by kernel_rfl) rfl plain (by kernel_rfl)
end Go.Proofs.YtimommkbfbdkdaaDoor.authzBuilds
namespace Go.Proofs.YtimommkbfbdkdaaDoor
theorem authzBuilds_holds : Rows.AuthzBuildsUptoCardSaid := authzBuilds.cardUpto
end Go.Proofs.YtimommkbfbdkdaaDoor
#print axioms Go.Proofs.YtimommkbfbdkdaaDoor.authzBuilds_holds
end
