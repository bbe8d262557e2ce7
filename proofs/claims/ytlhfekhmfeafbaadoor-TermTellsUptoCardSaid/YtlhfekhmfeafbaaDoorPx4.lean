/- Contracts of Go functions, printed by my program lprint.py over the kit's print. -/
import Derived.Test.YtlhfekhmfeafbaaDoorPx0
import Derived.Test.YtlhfekhmfeafbaaDoorPHa
namespace Go.Proofs.YtlhfekhmfeafbaaDoor.P
open Go.RowKit Go.Proofs.YtlhfekhmfeafbaaDoorW.PrintWords Go.Proofs.YtlhfekhmfeafbaaDoorW.PrintLast Go.Proofs.YtlhfekhmfeafbaaDoorW.PrintMore
attribute [local go_sem] max2_int min2_int max_two min_two max_three min_three max_four min_four
set_option linter.unusedVariables false
set_option linter.unusedSimpArgs false
def legateref08_Names.l0 : Nat → List ByteArray → Int → Int → ByteArray → Int → List (S25) → Option (List ByteArray × Bool)
  | 0, _, _, _, _, _, _ => none
  | k + 1, x4, x5, x170000, x170001, x170002, x170003 => if x5 < (x170003.length : Int) then (if 0 ≤ x5 then (if ((rd_T25 x170003 x5).f0) = 0 then (if x4.length < 8796093022208 then (legateref08_Names.l0 k (x4 ++ [(rd_T25 x170003 x5).f1]) (wrap64 (x5 + 1)) x170000 x170001 x170002 x170003) else (none)) else (some (([] : List ByteArray), false))) else (none)) else (some (x4, true))
def legateref08_Names.f (k : Nat) (a0_0 : Int) (a0_1 : ByteArray) (a0_2 : Int) (l0_3 : List (S25)) : Option (List ByteArray × Bool) := if a0_0 = 3 then (legateref08_Names.l0 k ([] : List ByteArray) 0 a0_0 a0_1 a0_2 l0_3) else (some (([] : List ByteArray), false))
theorem legateref08_Names.mono_l : ∀ k, (∀ y0 y1 y2 y3 y4 y5, LeO (legateref08_Names.l0 k y0 y1 y2 y3 y4 y5) (legateref08_Names.l0 (k + 1) y0 y1 y2 y3 y4 y5))
  | 0 => fun _ _ _ _ _ _ r h => by simp [legateref08_Names.l0] at h
  | k + 1 => by
    have ih0 := legateref08_Names.mono_l k
    · intro y0 y1 y2 y3 y4 y5
      unfold legateref08_Names.l0
      repeat' first
      | (with_reducible exact ih0 _ _ _ _ _ _)
      | (with_reducible exact LeO.refl _)
      | (with_reducible exact LeO.none _)
      | (with_reducible refine LeO.ite ?_ ?_)
      | (with_reducible refine LeO.bind ?_ (fun _ => ?_))
      | exact ih0 _ _ _ _ _ _
      | exact LeO.none _
      | refine LeO.ite ?_ ?_
      | refine LeO.bind ?_ (fun _ => ?_)
theorem legateref08_Names.mono : ∀ a0 a1 a2 a3 k, LeO (legateref08_Names.f k a0 a1 a2 a3) (legateref08_Names.f (k + 1) a0 a1 a2 a3) := by
  intro a0 a1 a2 a3 k
  have ih0 := legateref08_Names.mono_l k
  unfold legateref08_Names.f
  repeat' first
      | (with_reducible exact ih0 _ _ _ _ _ _)
      | (with_reducible exact LeO.refl _)
      | (with_reducible exact LeO.none _)
      | (with_reducible refine LeO.ite ?_ ?_)
      | (with_reducible refine LeO.bind ?_ (fun _ => ?_))
      | exact ih0 _ _ _ _ _ _
      | exact LeO.none _
      | refine LeO.ite ?_ ?_
      | refine LeO.bind ?_ (fun _ => ?_)
set_option maxHeartbeats 8000000 in
set_option maxRecDepth 100000 in
theorem legateref08_Names.calls (k : Nat) (a0_0 : Int) (a0_1 : ByteArray) (a0_2 : Int) (A0_3 : Option Addr) (c0_3 : Nat) (l0_3 : List (S25)) (r1 : List ByteArray) (r2 : Bool) (w : World) (hr0_3 : Kd.C k25 w A0_3 l0_3.length l0_3) (hc0_3 : l0_3.length ≤ c0_3) (h : legateref08_Names.f k a0_0 a0_1 a0_2 l0_3 = some (r1, r2)) :
    Calls Tryd.prog 16 #[.agg #[.int .i64 a0_0, .string a0_1, .int .i64 a0_2, .slice A0_3 l0_3.length c0_3]] w fun e w' => ∃ v0_ : Value, e = .returned (.tuple #[v0_, .bool r2]) ∧ Kd.R Kd.string 9 w' w.heap.size (fun _ => True) v0_ r1 ∧ Below w.heap.size w w' := by
  have hu25 := Tryd.underlying25
  have HR0_3 := Aside0.mk hr0_3
  have HC0_3 := Aside0.mk hc0_3
  clear hr0_3 hc0_3
  have HB := Aside0.mk (Below.refl w.heap.size w)
  have H : (if a0_0 = 3 then (legateref08_Names.l0 k ([] : List ByteArray) 0 a0_0 a0_1 a0_2 l0_3) else (some (([] : List ByteArray), false))) = some (r1, r2) := h
  clear h
  by_cases c2 : a0_0 = 3
  · rw [if_pos c2] at H
    have c2b0 : (a0_0 == 3) = true := beq_iff_eq.mpr c2
    have c2b1 : (a0_0 != 3) = false := bne_eq_false_iff_eq.mpr c2
    clear c2
    have H' := Aside0.mk H
    clear H
    go_enter Tryd.func16, Tryd.ntmps16
    go_wp2_with (first | ((with_reducible refine gate_dst (N := 1) rfl ?_); refine box_event ?hg (N := 1) ?hd (cs := #[.int .i64 a0_0, .string a0_1, .int .i64 a0_2, .slice A0_3 l0_3.length c0_3]) (t := 25) ?hr ?_; (case hd => rfl); (case hg => rfl); (case hr => first | (go_simp; done) | (go_simp; rfl)); intro gb169 hg w3 hbox hb; have n0_ := Aside0.mk (below_step (by repeat (first | (with_reducible first | exact HB.out | apply below_alloc | apply pw_below_drewN | apply below_drew1) | exact HB.out)) hb); have n1_ := Aside0.mk (hbox); have n2_ := Aside0.mk ((by rw [hg]; exact (below_size (by repeat (first | (with_reducible first | exact HB.out | apply below_alloc | apply pw_below_drewN | apply below_drew1) | exact HB.out))) : w.heap.size ≤ gb169)); have n3_ := Aside0.mk ((by rw [hg]; exact (below_size (by repeat (first | (with_reducible first | exact HB.out | apply below_alloc | apply pw_below_drewN | apply below_drew1) | exact HB.out))) : w.heap.size ≤ gb169)); clear HB; have HB := n0_; have BK169 := n1_; have GW169 := n2_; have GE169 := n3_; clear n0_ n1_ n2_ n3_; clear hb hbox hg; have hcz4_0 : w3.cell? ⟨gb169, 0, none⟩ = some (.int .i64 a0_0) := (blk_cell BK169.out 0).trans rfl; have hcz4_1 : w3.cell? ⟨gb169, 1, none⟩ = some (.string a0_1) := (blk_cell BK169.out 1).trans rfl; have hcz4_2 : w3.cell? ⟨gb169, 2, none⟩ = some (.int .i64 a0_2) := (blk_cell BK169.out 2).trans rfl; have hcz4_3 : w3.cell? ⟨gb169, 3, none⟩ = some (.slice A0_3 l0_3.length c0_3) := (blk_cell BK169.out 3).trans rfl; have hfz4_0 := blk_frozen BK169.out 0; have hfz4_1 := blk_frozen BK169.out 1; have hfz4_2 := blk_frozen BK169.out 2; have hfz4_3 := blk_frozen BK169.out 3))
    go_loopg [4, 5] k (fun kq v4 v5 w' => ∃ (x4_1 : List ByteArray) (x5_1 : Int), v5 = .int .i64 x5_1 ∧ Aside0 (legateref08_Names.l0 kq x4_1 x5_1 a0_0 a0_1 a0_2 l0_3 = some (r1, r2)) ∧ Aside0 (kq ≤ k) ∧ Aside0 (Kd.R Kd.string 9 w' w.heap.size (fun _ => True) v4 x4_1) ∧ Aside0 (w'.heap[gb169]? = some (.cells #[.int .i64 a0_0, .string a0_1, .int .i64 a0_2, (.slice A0_3 l0_3.length c0_3)] 25 (0, 0))) ∧ Aside0 (Below w.heap.size w w'))
    case atStart => exact ⟨(([] : List ByteArray)), (0), (by first | rfl | (simp; done) | (simp [*]; done) | (simp; exact isEmpty_ne _)), H', ⟨Nat.le_refl _⟩, ⟨by first | exact Kd.R_nil _ _ _ _ _ | exact Kd.N_nil _ _ _ _ _ | exact Kd.V_nil _ _ _ _ _ | exact Kd.Q_nil _ _ _ _ _ | exact Kd.S_nil _ _ _ _ _⟩, ⟨by (with_reducible repeat (first | refine blk_drewN ?_ _ | refine blk_drew ?_ | refine blk_alloc ?_ _)); exact BK169.out⟩, ⟨by repeat (first | (with_reducible first | exact HB.out | apply below_alloc | apply pw_below_drewN | apply below_drew1 | refine below_set ?_ GE169.out) | exact HB.out)⟩⟩
    case round =>
      clear H'
      try clear c1
      try clear c2
      try clear c2b0
      try clear c2b1
      try clear p2
      try clear hcz4_0
      try clear hcz4_1
      try clear hcz4_2
      try clear hcz4_3
      try clear hfz4_0
      try clear hfz4_1
      try clear hfz4_2
      try clear hfz4_3
      obtain ⟨x4_1, x5_1, rfl, HA, HK1, HO_4, BK169, HB⟩ := hrel
      cases gk with
      | zero => exact absurd HA.out (by simp [legateref08_Names.l0])
      | succ k1 =>
        have H := HA.out
        clear HA
        simp only [legateref08_Names.l0] at H
        by_cases c5 : x5_1 < (l0_3.length : Int)
        · rw [if_pos c5] at H
          have c5b0 : decide (x5_1 < (l0_3.length : Int)) = true := decide_eq_true c5
          clear c5
          by_cases c6 : 0 ≤ x5_1
          · rw [if_pos c6] at H
            have c6b0 : decide (0 ≤ x5_1) = true := decide_eq_true c6
            clear c6
            by_cases c7 : ((rd_T25 l0_3 x5_1).f0) = 0
            · rw [if_pos c7] at H
              have c7b0 : (((rd_T25 l0_3 x5_1).f0) == 0) = true := beq_iff_eq.mpr c7
              have c7b1 : (((rd_T25 l0_3 x5_1).f0) != 0) = false := bne_eq_false_iff_eq.mpr c7
              clear c7
              by_cases c8 : x4_1.length < 8796093022208
              · rw [if_pos c8] at H
                have LMc8 := Aside0.mk c8
                clear c8
                obtain ⟨y172, hy172⟩ : ∃ y_ : List ByteArray, y_ = (x4_1 ++ [(rd_T25 l0_3 x5_1).f1]) := ⟨_, rfl⟩
                replace H : (legateref08_Names.l0 k1 y172 (wrap64 (x5_1 + 1)) a0_0 a0_1 a0_2 l0_3) = some (r1, r2) := by first | (rw [hy172]; with_reducible exact H) | (have H2_ := (Option.bind_some _ _).symm.trans H; rw [hy172]; with_reducible exact H2_) | (have H2_ := (Option.bind_some _ _).symm.trans H; with_reducible exact H2_) | with_reducible exact H | (rw [hy172]; exact H) | exact H
                have Ny172 := Aside0.mk hy172
                clear hy172
                have H' := Aside0.mk H
                clear H
                have hcz9_0 : wr.cell? ⟨gb169, 0, none⟩ = some (.int .i64 a0_0) := (blk_cell BK169.out 0).trans rfl
                have hcz9_1 : wr.cell? ⟨gb169, 1, none⟩ = some (.string a0_1) := (blk_cell BK169.out 1).trans rfl
                have hcz9_2 : wr.cell? ⟨gb169, 2, none⟩ = some (.int .i64 a0_2) := (blk_cell BK169.out 2).trans rfl
                have hcz9_3 : wr.cell? ⟨gb169, 3, none⟩ = some (.slice A0_3 l0_3.length c0_3) := (blk_cell BK169.out 3).trans rfl
                have hfz9_0 := blk_frozen BK169.out 0
                have hfz9_1 := blk_frozen BK169.out 1
                have hfz9_2 := blk_frozen BK169.out 2
                have hfz9_3 := blk_frozen BK169.out 3
                have p170 : 0 ≤ (x5_1 : Int) := of_decide_eq_true (by first | (with_reducible assumption) | assumption)
                have q170 : x5_1 < (l0_3.length : Int) := of_decide_eq_true (by first | (with_reducible assumption) | assumption)
                obtain ⟨ad170, A170_3, c170_3, e170, hx170_0, hx170_1, hx170_2, hx170_3, hl170_3, hi170_3⟩ := at_T25 HR0_3.out x5_1 p170 q170
                cases e170
                replace hx170_0 := (HB.out.cell (World.block_lt_of_cell? w _ hx170_0)).trans hx170_0
                replace hx170_1 := (HB.out.cell (World.block_lt_of_cell? w _ hx170_1)).trans hx170_1
                replace hx170_2 := (HB.out.cell (World.block_lt_of_cell? w _ hx170_2)).trans hx170_2
                replace hx170_3 := (HB.out.cell (World.block_lt_of_cell? w _ hx170_3)).trans hx170_3
                have HR170_3 := Aside0.mk hi170_3
                have HC170_3 := Aside0.mk hl170_3
                clear hi170_3 hl170_3
                replace p170 := eq_true p170
                replace q170 := eq_true q170
                have p171 : 0 ≤ (x5_1 : Int) := of_decide_eq_true (by first | (with_reducible assumption) | assumption)
                have q171 : x5_1 < (l0_3.length : Int) := of_decide_eq_true (by first | (with_reducible assumption) | assumption)
                obtain ⟨ad171, A171_3, c171_3, e171, hx171_0, hx171_1, hx171_2, hx171_3, hl171_3, hi171_3⟩ := at_T25 HR0_3.out x5_1 p171 q171
                obtain rfl : ad170 = ad171 := (by injection e171)
                replace hx171_0 := (HB.out.cell (World.block_lt_of_cell? w _ hx171_0)).trans hx171_0
                replace hx171_1 := (HB.out.cell (World.block_lt_of_cell? w _ hx171_1)).trans hx171_1
                replace hx171_2 := (HB.out.cell (World.block_lt_of_cell? w _ hx171_2)).trans hx171_2
                replace hx171_3 := (HB.out.cell (World.block_lt_of_cell? w _ hx171_3)).trans hx171_3
                have HR171_3 := Aside0.mk hi171_3
                have HC171_3 := Aside0.mk hl171_3
                clear hi171_3 hl171_3
                replace p171 := eq_true p171
                replace q171 := eq_true q171
                have ea_ := Option.some.inj (hx170_3.symm.trans hx171_3)
                injection ea_ with ea_ en_ ec_
                subst ea_
                subst ec_
                clear en_
                go_wp2_with (first | ((with_reducible refine gate_builtin (b := .append) (xs := #[.tmp 23, .tmp 30]) rfl ?_); at_builtin; refine Kd.R_append Kd.string (w0 := w) w.heap.size rfl (.tmp 23) (.tmp 30) 30 9 (.string ⟨#[]⟩) 16 rfl Tryd.underlying30 info9 rfl (by decide) (by omega) u4 x4_1 ((rd_T25 l0_3 x5_1).f1) [.string ((rd_T25 l0_3 x5_1).f1)] (fun _ => True) (fun _ => False) rfl rfl ?aP (fun _ hk => hk.elim) ?aF ?aO ?aB ?aS ?aL ?_; (case aP => exact rfl); (case aB => exact (by repeat (first | (with_reducible first | exact HB.out | apply below_alloc | apply pw_below_drewN | apply below_drew1 | refine below_set ?_ GE169.out) | exact HB.out))); (case aF => exact (fun _ _ => trivial)); (case aO => exact (by (with_reducible repeat (first | apply Kd.R_alloc | apply Kd.R_drewN | apply Kd.R_drew)); exact HO_4.out)); (case aS => exact (below_size (by repeat (first | (with_reducible first | exact HB.out | apply below_alloc | apply pw_below_drewN | apply below_drew1 | refine below_set ?_ GE169.out) | exact HB.out)))); (case aL => have := LMc8.out; omega); intro v173 w10 ho hb hg hat; rw [← Ny172.out] at ho; have n0_ := Aside0.mk (blk_grown (g := gb169) (o := .cells #[.int .i64 a0_0, .string a0_1, .int .i64 a0_2, .slice (some ad170) l0_3.length c0_3] 25 (0, 0)) (by (with_reducible repeat (first | refine blk_drewN ?_ _ | refine blk_drew ?_ | refine blk_alloc ?_ _)); exact BK169.out) hg (Kd.R_ne HO_4.out BK169.out (by decide))); have n1_ := Aside0.mk (hb); have n2_ := Aside0.mk (ho); clear BK169; clear HB; clear HO_4; have BK169 := n0_; have HB := n1_; have HO174 := n2_; clear n0_ n1_ n2_; clear ho hb hg hat))
                go_roundg k1
                case measure => have := HK1.out; omega
                case rel => exact ⟨(y172), (wrap64 (x5_1 + 1)), (by first | rfl | (simp; done) | (simp [*]; done) | (simp; exact isEmpty_ne _)), H', ⟨by have := HK1.out; omega⟩, ⟨by (with_reducible repeat (first | apply Kd.R_alloc | apply Kd.R_drewN | apply Kd.R_drew)); exact HO174.out⟩, ⟨by (with_reducible repeat (first | refine blk_drewN ?_ _ | refine blk_drew ?_ | refine blk_alloc ?_ _)); exact BK169.out⟩, ⟨by repeat (first | (with_reducible first | exact HB.out | apply below_alloc | apply pw_below_drewN | apply below_drew1 | refine below_set ?_ GE169.out) | exact HB.out)⟩⟩
              · rw [if_neg c8] at H
                exact absurd H (by simp)
            · rw [if_neg c7] at H
              have c7b0 : (((rd_T25 l0_3 x5_1).f0) == 0) = false := beq_eq_false_iff_ne.mpr c7
              have c7b1 : (((rd_T25 l0_3 x5_1).f0) != 0) = true := bne_iff_ne.mpr c7
              simp only [Option.some.injEq, Prod.mk.injEq] at H
              obtain ⟨rfl, rfl⟩ := H
              have hcz11_0 : wr.cell? ⟨gb169, 0, none⟩ = some (.int .i64 a0_0) := (blk_cell BK169.out 0).trans rfl
              have hcz11_1 : wr.cell? ⟨gb169, 1, none⟩ = some (.string a0_1) := (blk_cell BK169.out 1).trans rfl
              have hcz11_2 : wr.cell? ⟨gb169, 2, none⟩ = some (.int .i64 a0_2) := (blk_cell BK169.out 2).trans rfl
              have hcz11_3 : wr.cell? ⟨gb169, 3, none⟩ = some (.slice A0_3 l0_3.length c0_3) := (blk_cell BK169.out 3).trans rfl
              have hfz11_0 := blk_frozen BK169.out 0
              have hfz11_1 := blk_frozen BK169.out 1
              have hfz11_2 := blk_frozen BK169.out 2
              have hfz11_3 := blk_frozen BK169.out 3
              have p170 : 0 ≤ (x5_1 : Int) := of_decide_eq_true (by first | (with_reducible assumption) | assumption)
              have q170 : x5_1 < (l0_3.length : Int) := of_decide_eq_true (by first | (with_reducible assumption) | assumption)
              obtain ⟨ad170, A170_3, c170_3, e170, hx170_0, hx170_1, hx170_2, hx170_3, hl170_3, hi170_3⟩ := at_T25 HR0_3.out x5_1 p170 q170
              cases e170
              replace hx170_0 := (HB.out.cell (World.block_lt_of_cell? w _ hx170_0)).trans hx170_0
              replace hx170_1 := (HB.out.cell (World.block_lt_of_cell? w _ hx170_1)).trans hx170_1
              replace hx170_2 := (HB.out.cell (World.block_lt_of_cell? w _ hx170_2)).trans hx170_2
              replace hx170_3 := (HB.out.cell (World.block_lt_of_cell? w _ hx170_3)).trans hx170_3
              have HR170_3 := Aside0.mk hi170_3
              have HC170_3 := Aside0.mk hl170_3
              clear hi170_3 hl170_3
              replace p170 := eq_true p170
              replace q170 := eq_true q170
              go_wp2
              go_ret2
              exact ⟨_, by first | rfl | (simp [errW_none, errW_some] <;> rfl) | (simp [*, errW_none, errW_some] <;> rfl), by first | exact Kd.R_nil _ _ _ _ _ | exact Kd.N_nil _ _ _ _ _ | exact Kd.V_nil _ _ _ _ _ | exact Kd.Q_nil _ _ _ _ _ | exact Kd.S_nil _ _ _ _ _, by repeat (first | (with_reducible first | exact HB.out | apply below_alloc | apply pw_below_drewN | apply below_drew1 | refine below_set ?_ GE169.out) | exact HB.out)⟩
          · rw [if_neg c6] at H
            exact absurd H (by simp)
        · rw [if_neg c5] at H
          have c5b0 : decide (x5_1 < (l0_3.length : Int)) = false := decide_eq_false c5
          clear c5
          simp only [Option.some.injEq, Prod.mk.injEq] at H
          obtain ⟨rfl, rfl⟩ := H
          have hcz12_0 : wr.cell? ⟨gb169, 0, none⟩ = some (.int .i64 a0_0) := (blk_cell BK169.out 0).trans rfl
          have hcz12_1 : wr.cell? ⟨gb169, 1, none⟩ = some (.string a0_1) := (blk_cell BK169.out 1).trans rfl
          have hcz12_2 : wr.cell? ⟨gb169, 2, none⟩ = some (.int .i64 a0_2) := (blk_cell BK169.out 2).trans rfl
          have hcz12_3 : wr.cell? ⟨gb169, 3, none⟩ = some (.slice A0_3 l0_3.length c0_3) := (blk_cell BK169.out 3).trans rfl
          have hfz12_0 := blk_frozen BK169.out 0
          have hfz12_1 := blk_frozen BK169.out 1
          have hfz12_2 := blk_frozen BK169.out 2
          have hfz12_3 := blk_frozen BK169.out 3
          go_wp2
          go_ret2
          exact ⟨_, by first | rfl | (simp [errW_none, errW_some] <;> rfl) | (simp [*, errW_none, errW_some] <;> rfl), by (with_reducible repeat (first | apply Kd.R_alloc | apply Kd.R_drewN | apply Kd.R_drew)); exact HO_4.out, by repeat (first | (with_reducible first | exact HB.out | apply below_alloc | apply pw_below_drewN | apply below_drew1 | refine below_set ?_ GE169.out) | exact HB.out)⟩
  · rw [if_neg c2] at H
    have c2b0 : (a0_0 == 3) = false := beq_eq_false_iff_ne.mpr c2
    have c2b1 : (a0_0 != 3) = true := bne_iff_ne.mpr c2
    simp only [Option.some.injEq, Prod.mk.injEq] at H
    obtain ⟨rfl, rfl⟩ := H
    go_enter Tryd.func16, Tryd.ntmps16
    go_wp2_with (first | ((with_reducible refine gate_dst (N := 1) rfl ?_); refine box_event ?hg (N := 1) ?hd (cs := #[.int .i64 a0_0, .string a0_1, .int .i64 a0_2, .slice A0_3 l0_3.length c0_3]) (t := 25) ?hr ?_; (case hd => rfl); (case hg => rfl); (case hr => first | (go_simp; done) | (go_simp; rfl)); intro gb169 hg w13 hbox hb; have n0_ := Aside0.mk (below_step (by repeat (first | (with_reducible first | exact HB.out | apply below_alloc | apply pw_below_drewN | apply below_drew1) | exact HB.out)) hb); have n1_ := Aside0.mk (hbox); have n2_ := Aside0.mk ((by rw [hg]; exact (below_size (by repeat (first | (with_reducible first | exact HB.out | apply below_alloc | apply pw_below_drewN | apply below_drew1) | exact HB.out))) : w.heap.size ≤ gb169)); have n3_ := Aside0.mk ((by rw [hg]; exact (below_size (by repeat (first | (with_reducible first | exact HB.out | apply below_alloc | apply pw_below_drewN | apply below_drew1) | exact HB.out))) : w.heap.size ≤ gb169)); clear HB; have HB := n0_; have BK169 := n1_; have GW169 := n2_; have GE169 := n3_; clear n0_ n1_ n2_ n3_; clear hb hbox hg; have hcz14_0 : w13.cell? ⟨gb169, 0, none⟩ = some (.int .i64 a0_0) := (blk_cell BK169.out 0).trans rfl; have hcz14_1 : w13.cell? ⟨gb169, 1, none⟩ = some (.string a0_1) := (blk_cell BK169.out 1).trans rfl; have hcz14_2 : w13.cell? ⟨gb169, 2, none⟩ = some (.int .i64 a0_2) := (blk_cell BK169.out 2).trans rfl; have hcz14_3 : w13.cell? ⟨gb169, 3, none⟩ = some (.slice A0_3 l0_3.length c0_3) := (blk_cell BK169.out 3).trans rfl; have hfz14_0 := blk_frozen BK169.out 0; have hfz14_1 := blk_frozen BK169.out 1; have hfz14_2 := blk_frozen BK169.out 2; have hfz14_3 := blk_frozen BK169.out 3))
    go_ret2
    exact ⟨_, by first | rfl | (simp [errW_none, errW_some] <;> rfl) | (simp [*, errW_none, errW_some] <;> rfl), by first | exact Kd.R_nil _ _ _ _ _ | exact Kd.N_nil _ _ _ _ _ | exact Kd.V_nil _ _ _ _ _ | exact Kd.Q_nil _ _ _ _ _ | exact Kd.S_nil _ _ _ _ _, by repeat (first | (with_reducible first | exact HB.out | apply below_alloc | apply pw_below_drewN | apply below_drew1 | refine below_set ?_ GE169.out) | exact HB.out)⟩
def legateref08_Name.l0 : Nat → ByteArray → Int → Option (Bool)
  | 0, _, _ => none
  | k + 1, x0, x3 => if x3 < (x0.size : Int) then (if 0 ≤ x3 then (if (bt x0 x3) ≥ 97 then (if (bt x0 x3) ≤ 122 then (legateref08_Name.l0 k x0 (wrap64 (x3 + 1))) else (if (bt x0 x3) ≥ 48 then (if (bt x0 x3) ≤ 57 then (legateref08_Name.l0 k x0 (wrap64 (x3 + 1))) else (if (bt x0 x3) = 45 then (legateref08_Name.l0 k x0 (wrap64 (x3 + 1))) else (if (bt x0 x3) = 46 then (legateref08_Name.l0 k x0 (wrap64 (x3 + 1))) else (if ((bt x0 x3) = 47) then (legateref08_Name.l0 k x0 (wrap64 (x3 + 1))) else (some false))))) else (if (bt x0 x3) = 45 then (legateref08_Name.l0 k x0 (wrap64 (x3 + 1))) else (if (bt x0 x3) = 46 then (legateref08_Name.l0 k x0 (wrap64 (x3 + 1))) else (if ((bt x0 x3) = 47) then (legateref08_Name.l0 k x0 (wrap64 (x3 + 1))) else (some false)))))) else (if (bt x0 x3) ≥ 48 then (if (bt x0 x3) ≤ 57 then (legateref08_Name.l0 k x0 (wrap64 (x3 + 1))) else (if (bt x0 x3) = 45 then (legateref08_Name.l0 k x0 (wrap64 (x3 + 1))) else (if (bt x0 x3) = 46 then (legateref08_Name.l0 k x0 (wrap64 (x3 + 1))) else (if ((bt x0 x3) = 47) then (legateref08_Name.l0 k x0 (wrap64 (x3 + 1))) else (some false))))) else (if (bt x0 x3) = 45 then (legateref08_Name.l0 k x0 (wrap64 (x3 + 1))) else (if (bt x0 x3) = 46 then (legateref08_Name.l0 k x0 (wrap64 (x3 + 1))) else (if ((bt x0 x3) = 47) then (legateref08_Name.l0 k x0 (wrap64 (x3 + 1))) else (some false)))))) else (none)) else (if (x0.size : Int) ≥ 1 then (some (decide ((x0.size : Int) ≤ 40))) else (some false))
def legateref08_Name.f (k : Nat) (a0 : ByteArray) : Option (Bool) := legateref08_Name.l0 k a0 0
theorem legateref08_Name.mono_l : ∀ k, (∀ y0 y1, LeO (legateref08_Name.l0 k y0 y1) (legateref08_Name.l0 (k + 1) y0 y1))
  | 0 => fun _ _ r h => by simp [legateref08_Name.l0] at h
  | k + 1 => by
    have ih0 := legateref08_Name.mono_l k
    · intro y0 y1
      unfold legateref08_Name.l0
      repeat' first
      | (with_reducible exact ih0 _ _)
      | (with_reducible exact LeO.refl _)
      | (with_reducible exact LeO.none _)
      | (with_reducible refine LeO.ite ?_ ?_)
      | (with_reducible refine LeO.bind ?_ (fun _ => ?_))
      | exact ih0 _ _
      | exact LeO.none _
      | refine LeO.ite ?_ ?_
      | refine LeO.bind ?_ (fun _ => ?_)
theorem legateref08_Name.mono : ∀ a0 k, LeO (legateref08_Name.f k a0) (legateref08_Name.f (k + 1) a0) := by
  intro a0 k
  have ih0 := legateref08_Name.mono_l k
  unfold legateref08_Name.f
  repeat' first
      | (with_reducible exact ih0 _ _)
      | (with_reducible exact LeO.refl _)
      | (with_reducible exact LeO.none _)
      | (with_reducible refine LeO.ite ?_ ?_)
      | (with_reducible refine LeO.bind ?_ (fun _ => ?_))
      | exact ih0 _ _
      | exact LeO.none _
      | refine LeO.ite ?_ ?_
      | refine LeO.bind ?_ (fun _ => ?_)
set_option maxHeartbeats 8000000 in
set_option maxRecDepth 100000 in
theorem legateref08_Name.calls (k : Nat) (a0 : ByteArray) (r : Bool) (w : World) (h : legateref08_Name.f k a0 = some r) :
    Calls Tryd.prog 24 #[.string a0] w fun e w' => e = .returned (.bool r) ∧ Drawn0 w w' := by
  have H : (legateref08_Name.l0 k a0 0) = some r := h
  clear h
  have H' := Aside0.mk H
  clear H
  go_enter Tryd.func24, Tryd.ntmps24
  go_wp2
  go_loopg [3] k (fun kq v3 w' => ∃ (x3_1 : Int), v3 = .int .i64 x3_1 ∧ Aside0 (legateref08_Name.l0 kq a0 x3_1 = some r) ∧ Aside0 (kq ≤ k) ∧ Drawn0 w w')
  case atStart => exact ⟨(0), (by first | rfl | (simp; done) | (simp [*]; done) | (simp; exact isEmpty_ne _)), H', ⟨Nat.le_refl _⟩, by repeat (first | exact Drawn0.refl _ | apply Drawn0.step)⟩
  case round =>
    clear H'
    obtain ⟨x3_1, rfl, HA, HK1, ⟨m1, rfl⟩⟩ := hrel
    cases gk with
    | zero => exact absurd HA.out (by simp [legateref08_Name.l0])
    | succ k1 =>
      have H := HA.out
      clear HA
      simp only [legateref08_Name.l0] at H
      by_cases c2 : x3_1 < (a0.size : Int)
      · rw [if_pos c2] at H
        have c2b0 : decide (x3_1 < (a0.size : Int)) = true := decide_eq_true c2
        clear c2
        by_cases c3 : 0 ≤ x3_1
        · rw [if_pos c3] at H
          have c3b0 : decide (0 ≤ x3_1) = true := decide_eq_true c3
          clear c3
          by_cases c5 : (bt a0 x3_1) ≥ 97
          · rw [if_pos c5] at H
            have c5b0 : decide (97 ≤ (bt a0 x3_1)) = true := decide_eq_true c5
            clear c5
            by_cases c6 : (bt a0 x3_1) ≤ 122
            · rw [if_pos c6] at H
              have c6b0 : decide ((bt a0 x3_1) ≤ 122) = true := decide_eq_true c6
              clear c6
              have H' := Aside0.mk H
              clear H
              have p4 : 0 ≤ (x3_1 : Int) := of_decide_eq_true (by first | (with_reducible assumption) | assumption)
              have q4 : x3_1 < (a0.size : Int) := of_decide_eq_true (by first | (with_reducible assumption) | assumption)
              have hx4 := bt_at a0 x3_1
              replace p4 := eq_true p4
              replace q4 := eq_true q4
              go_wp2
              go_roundg k1
              case measure => have := HK1.out; omega
              case rel => exact ⟨(wrap64 (x3_1 + 1)), (by first | rfl | (simp; done) | (simp [*]; done) | (simp; exact isEmpty_ne _)), H', ⟨by have := HK1.out; omega⟩, by repeat (first | exact Drawn0.refl _ | apply Drawn0.step)⟩
            · rw [if_neg c6] at H
              have c6b0 : decide ((bt a0 x3_1) ≤ 122) = false := decide_eq_false c6
              clear c6
              by_cases c7 : (bt a0 x3_1) ≥ 48
              · rw [if_pos c7] at H
                have c7b0 : decide (48 ≤ (bt a0 x3_1)) = true := decide_eq_true c7
                clear c7
                by_cases c8 : (bt a0 x3_1) ≤ 57
                · rw [if_pos c8] at H
                  have c8b0 : decide ((bt a0 x3_1) ≤ 57) = true := decide_eq_true c8
                  clear c8
                  have H' := Aside0.mk H
                  clear H
                  have p4 : 0 ≤ (x3_1 : Int) := of_decide_eq_true (by first | (with_reducible assumption) | assumption)
                  have q4 : x3_1 < (a0.size : Int) := of_decide_eq_true (by first | (with_reducible assumption) | assumption)
                  have hx4 := bt_at a0 x3_1
                  replace p4 := eq_true p4
                  replace q4 := eq_true q4
                  go_wp2
                  go_roundg k1
                  case measure => have := HK1.out; omega
                  case rel => exact ⟨(wrap64 (x3_1 + 1)), (by first | rfl | (simp; done) | (simp [*]; done) | (simp; exact isEmpty_ne _)), H', ⟨by have := HK1.out; omega⟩, by repeat (first | exact Drawn0.refl _ | apply Drawn0.step)⟩
                · rw [if_neg c8] at H
                  have c8b0 : decide ((bt a0 x3_1) ≤ 57) = false := decide_eq_false c8
                  clear c8
                  by_cases c9 : (bt a0 x3_1) = 45
                  · rw [if_pos c9] at H
                    have c9b0 : ((bt a0 x3_1) == 45) = true := beq_iff_eq.mpr c9
                    have c9b1 : ((bt a0 x3_1) != 45) = false := bne_eq_false_iff_eq.mpr c9
                    clear c9
                    have H' := Aside0.mk H
                    clear H
                    have p4 : 0 ≤ (x3_1 : Int) := of_decide_eq_true (by first | (with_reducible assumption) | assumption)
                    have q4 : x3_1 < (a0.size : Int) := of_decide_eq_true (by first | (with_reducible assumption) | assumption)
                    have hx4 := bt_at a0 x3_1
                    replace p4 := eq_true p4
                    replace q4 := eq_true q4
                    go_wp2
                    go_roundg k1
                    case measure => have := HK1.out; omega
                    case rel => exact ⟨(wrap64 (x3_1 + 1)), (by first | rfl | (simp; done) | (simp [*]; done) | (simp; exact isEmpty_ne _)), H', ⟨by have := HK1.out; omega⟩, by repeat (first | exact Drawn0.refl _ | apply Drawn0.step)⟩
                  · rw [if_neg c9] at H
                    have c9b0 : ((bt a0 x3_1) == 45) = false := beq_eq_false_iff_ne.mpr c9
                    have c9b1 : ((bt a0 x3_1) != 45) = true := bne_iff_ne.mpr c9
                    by_cases c10 : (bt a0 x3_1) = 46
                    · rw [if_pos c10] at H
                      have c10b0 : ((bt a0 x3_1) == 46) = true := beq_iff_eq.mpr c10
                      have c10b1 : ((bt a0 x3_1) != 46) = false := bne_eq_false_iff_eq.mpr c10
                      clear c10
                      have H' := Aside0.mk H
                      clear H
                      have p4 : 0 ≤ (x3_1 : Int) := of_decide_eq_true (by first | (with_reducible assumption) | assumption)
                      have q4 : x3_1 < (a0.size : Int) := of_decide_eq_true (by first | (with_reducible assumption) | assumption)
                      have hx4 := bt_at a0 x3_1
                      replace p4 := eq_true p4
                      replace q4 := eq_true q4
                      go_wp2
                      go_roundg k1
                      case measure => have := HK1.out; omega
                      case rel => exact ⟨(wrap64 (x3_1 + 1)), (by first | rfl | (simp; done) | (simp [*]; done) | (simp; exact isEmpty_ne _)), H', ⟨by have := HK1.out; omega⟩, by repeat (first | exact Drawn0.refl _ | apply Drawn0.step)⟩
                    · rw [if_neg c10] at H
                      have c10b0 : ((bt a0 x3_1) == 46) = false := beq_eq_false_iff_ne.mpr c10
                      have c10b1 : ((bt a0 x3_1) != 46) = true := bne_iff_ne.mpr c10
                      by_cases c11 : ((bt a0 x3_1) = 47)
                      · rw [if_pos c11] at H
                        have c11b0 : ((bt a0 x3_1) == 47) = true := beq_iff_eq.mpr c11
                        have c11b1 : ((bt a0 x3_1) != 47) = false := bne_eq_false_iff_eq.mpr c11
                        clear c11
                        have H' := Aside0.mk H
                        clear H
                        have p4 : 0 ≤ (x3_1 : Int) := of_decide_eq_true (by first | (with_reducible assumption) | assumption)
                        have q4 : x3_1 < (a0.size : Int) := of_decide_eq_true (by first | (with_reducible assumption) | assumption)
                        have hx4 := bt_at a0 x3_1
                        replace p4 := eq_true p4
                        replace q4 := eq_true q4
                        go_wp2
                        go_roundg k1
                        case measure => have := HK1.out; omega
                        case rel => exact ⟨(wrap64 (x3_1 + 1)), (by first | rfl | (simp; done) | (simp [*]; done) | (simp; exact isEmpty_ne _)), H', ⟨by have := HK1.out; omega⟩, by repeat (first | exact Drawn0.refl _ | apply Drawn0.step)⟩
                      · rw [if_neg c11] at H
                        have c11b0 : ((bt a0 x3_1) == 47) = false := beq_eq_false_iff_ne.mpr c11
                        have c11b1 : ((bt a0 x3_1) != 47) = true := bne_iff_ne.mpr c11
                        obtain rfl := Option.some.inj H
                        have p4 : 0 ≤ (x3_1 : Int) := of_decide_eq_true (by first | (with_reducible assumption) | assumption)
                        have q4 : x3_1 < (a0.size : Int) := of_decide_eq_true (by first | (with_reducible assumption) | assumption)
                        have hx4 := bt_at a0 x3_1
                        replace p4 := eq_true p4
                        replace q4 := eq_true q4
                        go_wp2
                        go_ret
                        exact ⟨by first | rfl | (simp; done) | (simp [*]; done), by repeat (first | exact Drawn0.refl _ | apply Drawn0.step)⟩
              · rw [if_neg c7] at H
                have c7b0 : decide (48 ≤ (bt a0 x3_1)) = false := decide_eq_false c7
                clear c7
                by_cases c12 : (bt a0 x3_1) = 45
                · rw [if_pos c12] at H
                  have c12b0 : ((bt a0 x3_1) == 45) = true := beq_iff_eq.mpr c12
                  have c12b1 : ((bt a0 x3_1) != 45) = false := bne_eq_false_iff_eq.mpr c12
                  clear c12
                  have H' := Aside0.mk H
                  clear H
                  have p4 : 0 ≤ (x3_1 : Int) := of_decide_eq_true (by first | (with_reducible assumption) | assumption)
                  have q4 : x3_1 < (a0.size : Int) := of_decide_eq_true (by first | (with_reducible assumption) | assumption)
                  have hx4 := bt_at a0 x3_1
                  replace p4 := eq_true p4
                  replace q4 := eq_true q4
                  go_wp2
                  go_roundg k1
                  case measure => have := HK1.out; omega
                  case rel => exact ⟨(wrap64 (x3_1 + 1)), (by first | rfl | (simp; done) | (simp [*]; done) | (simp; exact isEmpty_ne _)), H', ⟨by have := HK1.out; omega⟩, by repeat (first | exact Drawn0.refl _ | apply Drawn0.step)⟩
                · rw [if_neg c12] at H
                  have c12b0 : ((bt a0 x3_1) == 45) = false := beq_eq_false_iff_ne.mpr c12
                  have c12b1 : ((bt a0 x3_1) != 45) = true := bne_iff_ne.mpr c12
                  by_cases c13 : (bt a0 x3_1) = 46
                  · rw [if_pos c13] at H
                    have c13b0 : ((bt a0 x3_1) == 46) = true := beq_iff_eq.mpr c13
                    have c13b1 : ((bt a0 x3_1) != 46) = false := bne_eq_false_iff_eq.mpr c13
                    clear c13
                    have H' := Aside0.mk H
                    clear H
                    have p4 : 0 ≤ (x3_1 : Int) := of_decide_eq_true (by first | (with_reducible assumption) | assumption)
                    have q4 : x3_1 < (a0.size : Int) := of_decide_eq_true (by first | (with_reducible assumption) | assumption)
                    have hx4 := bt_at a0 x3_1
                    replace p4 := eq_true p4
                    replace q4 := eq_true q4
                    go_wp2
                    go_roundg k1
                    case measure => have := HK1.out; omega
                    case rel => exact ⟨(wrap64 (x3_1 + 1)), (by first | rfl | (simp; done) | (simp [*]; done) | (simp; exact isEmpty_ne _)), H', ⟨by have := HK1.out; omega⟩, by repeat (first | exact Drawn0.refl _ | apply Drawn0.step)⟩
                  · rw [if_neg c13] at H
                    have c13b0 : ((bt a0 x3_1) == 46) = false := beq_eq_false_iff_ne.mpr c13
                    have c13b1 : ((bt a0 x3_1) != 46) = true := bne_iff_ne.mpr c13
                    by_cases c14 : ((bt a0 x3_1) = 47)
                    · rw [if_pos c14] at H
                      have c14b0 : ((bt a0 x3_1) == 47) = true := beq_iff_eq.mpr c14
                      have c14b1 : ((bt a0 x3_1) != 47) = false := bne_eq_false_iff_eq.mpr c14
                      clear c14
                      have H' := Aside0.mk H
                      clear H
                      have p4 : 0 ≤ (x3_1 : Int) := of_decide_eq_true (by first | (with_reducible assumption) | assumption)
                      have q4 : x3_1 < (a0.size : Int) := of_decide_eq_true (by first | (with_reducible assumption) | assumption)
                      have hx4 := bt_at a0 x3_1
                      replace p4 := eq_true p4
                      replace q4 := eq_true q4
                      go_wp2
                      go_roundg k1
                      case measure => have := HK1.out; omega
                      case rel => exact ⟨(wrap64 (x3_1 + 1)), (by first | rfl | (simp; done) | (simp [*]; done) | (simp; exact isEmpty_ne _)), H', ⟨by have := HK1.out; omega⟩, by repeat (first | exact Drawn0.refl _ | apply Drawn0.step)⟩
                    · rw [if_neg c14] at H
                      have c14b0 : ((bt a0 x3_1) == 47) = false := beq_eq_false_iff_ne.mpr c14
                      have c14b1 : ((bt a0 x3_1) != 47) = true := bne_iff_ne.mpr c14
                      obtain rfl := Option.some.inj H
                      have p4 : 0 ≤ (x3_1 : Int) := of_decide_eq_true (by first | (with_reducible assumption) | assumption)
                      have q4 : x3_1 < (a0.size : Int) := of_decide_eq_true (by first | (with_reducible assumption) | assumption)
                      have hx4 := bt_at a0 x3_1
                      replace p4 := eq_true p4
                      replace q4 := eq_true q4
                      go_wp2
                      go_ret
                      exact ⟨by first | rfl | (simp; done) | (simp [*]; done), by repeat (first | exact Drawn0.refl _ | apply Drawn0.step)⟩
          · rw [if_neg c5] at H
            have c5b0 : decide (97 ≤ (bt a0 x3_1)) = false := decide_eq_false c5
            clear c5
            by_cases c15 : (bt a0 x3_1) ≥ 48
            · rw [if_pos c15] at H
              have c15b0 : decide (48 ≤ (bt a0 x3_1)) = true := decide_eq_true c15
              clear c15
              by_cases c16 : (bt a0 x3_1) ≤ 57
              · rw [if_pos c16] at H
                have c16b0 : decide ((bt a0 x3_1) ≤ 57) = true := decide_eq_true c16
                clear c16
                have H' := Aside0.mk H
                clear H
                have p4 : 0 ≤ (x3_1 : Int) := of_decide_eq_true (by first | (with_reducible assumption) | assumption)
                have q4 : x3_1 < (a0.size : Int) := of_decide_eq_true (by first | (with_reducible assumption) | assumption)
                have hx4 := bt_at a0 x3_1
                replace p4 := eq_true p4
                replace q4 := eq_true q4
                go_wp2
                go_roundg k1
                case measure => have := HK1.out; omega
                case rel => exact ⟨(wrap64 (x3_1 + 1)), (by first | rfl | (simp; done) | (simp [*]; done) | (simp; exact isEmpty_ne _)), H', ⟨by have := HK1.out; omega⟩, by repeat (first | exact Drawn0.refl _ | apply Drawn0.step)⟩
              · rw [if_neg c16] at H
                have c16b0 : decide ((bt a0 x3_1) ≤ 57) = false := decide_eq_false c16
                clear c16
                by_cases c17 : (bt a0 x3_1) = 45
                · rw [if_pos c17] at H
                  have c17b0 : ((bt a0 x3_1) == 45) = true := beq_iff_eq.mpr c17
                  have c17b1 : ((bt a0 x3_1) != 45) = false := bne_eq_false_iff_eq.mpr c17
                  clear c17
                  have H' := Aside0.mk H
                  clear H
                  have p4 : 0 ≤ (x3_1 : Int) := of_decide_eq_true (by first | (with_reducible assumption) | assumption)
                  have q4 : x3_1 < (a0.size : Int) := of_decide_eq_true (by first | (with_reducible assumption) | assumption)
                  have hx4 := bt_at a0 x3_1
                  replace p4 := eq_true p4
                  replace q4 := eq_true q4
                  go_wp2
                  go_roundg k1
                  case measure => have := HK1.out; omega
                  case rel => exact ⟨(wrap64 (x3_1 + 1)), (by first | rfl | (simp; done) | (simp [*]; done) | (simp; exact isEmpty_ne _)), H', ⟨by have := HK1.out; omega⟩, by repeat (first | exact Drawn0.refl _ | apply Drawn0.step)⟩
                · rw [if_neg c17] at H
                  have c17b0 : ((bt a0 x3_1) == 45) = false := beq_eq_false_iff_ne.mpr c17
                  have c17b1 : ((bt a0 x3_1) != 45) = true := bne_iff_ne.mpr c17
                  by_cases c18 : (bt a0 x3_1) = 46
                  · rw [if_pos c18] at H
                    have c18b0 : ((bt a0 x3_1) == 46) = true := beq_iff_eq.mpr c18
                    have c18b1 : ((bt a0 x3_1) != 46) = false := bne_eq_false_iff_eq.mpr c18
                    clear c18
                    have H' := Aside0.mk H
                    clear H
                    have p4 : 0 ≤ (x3_1 : Int) := of_decide_eq_true (by first | (with_reducible assumption) | assumption)
                    have q4 : x3_1 < (a0.size : Int) := of_decide_eq_true (by first | (with_reducible assumption) | assumption)
                    have hx4 := bt_at a0 x3_1
                    replace p4 := eq_true p4
                    replace q4 := eq_true q4
                    go_wp2
                    go_roundg k1
                    case measure => have := HK1.out; omega
                    case rel => exact ⟨(wrap64 (x3_1 + 1)), (by first | rfl | (simp; done) | (simp [*]; done) | (simp; exact isEmpty_ne _)), H', ⟨by have := HK1.out; omega⟩, by repeat (first | exact Drawn0.refl _ | apply Drawn0.step)⟩
                  · rw [if_neg c18] at H
                    have c18b0 : ((bt a0 x3_1) == 46) = false := beq_eq_false_iff_ne.mpr c18
                    have c18b1 : ((bt a0 x3_1) != 46) = true := bne_iff_ne.mpr c18
                    by_cases c19 : ((bt a0 x3_1) = 47)
                    · rw [if_pos c19] at H
                      have c19b0 : ((bt a0 x3_1) == 47) = true := beq_iff_eq.mpr c19
                      have c19b1 : ((bt a0 x3_1) != 47) = false := bne_eq_false_iff_eq.mpr c19
                      clear c19
                      have H' := Aside0.mk H
                      clear H
                      have p4 : 0 ≤ (x3_1 : Int) := of_decide_eq_true (by first | (with_reducible assumption) | assumption)
                      have q4 : x3_1 < (a0.size : Int) := of_decide_eq_true (by first | (with_reducible assumption) | assumption)
                      have hx4 := bt_at a0 x3_1
                      replace p4 := eq_true p4
                      replace q4 := eq_true q4
                      go_wp2
                      go_roundg k1
                      case measure => have := HK1.out; omega
                      case rel => exact ⟨(wrap64 (x3_1 + 1)), (by first | rfl | (simp; done) | (simp [*]; done) | (simp; exact isEmpty_ne _)), H', ⟨by have := HK1.out; omega⟩, by repeat (first | exact Drawn0.refl _ | apply Drawn0.step)⟩
                    · rw [if_neg c19] at H
                      have c19b0 : ((bt a0 x3_1) == 47) = false := beq_eq_false_iff_ne.mpr c19
                      have c19b1 : ((bt a0 x3_1) != 47) = true := bne_iff_ne.mpr c19
                      obtain rfl := Option.some.inj H
                      have p4 : 0 ≤ (x3_1 : Int) := of_decide_eq_true (by first | (with_reducible assumption) | assumption)
                      have q4 : x3_1 < (a0.size : Int) := of_decide_eq_true (by first | (with_reducible assumption) | assumption)
                      have hx4 := bt_at a0 x3_1
                      replace p4 := eq_true p4
                      replace q4 := eq_true q4
                      go_wp2
                      go_ret
                      exact ⟨by first | rfl | (simp; done) | (simp [*]; done), by repeat (first | exact Drawn0.refl _ | apply Drawn0.step)⟩
            · rw [if_neg c15] at H
              have c15b0 : decide (48 ≤ (bt a0 x3_1)) = false := decide_eq_false c15
              clear c15
              by_cases c20 : (bt a0 x3_1) = 45
              · rw [if_pos c20] at H
                have c20b0 : ((bt a0 x3_1) == 45) = true := beq_iff_eq.mpr c20
                have c20b1 : ((bt a0 x3_1) != 45) = false := bne_eq_false_iff_eq.mpr c20
                clear c20
                have H' := Aside0.mk H
                clear H
                have p4 : 0 ≤ (x3_1 : Int) := of_decide_eq_true (by first | (with_reducible assumption) | assumption)
                have q4 : x3_1 < (a0.size : Int) := of_decide_eq_true (by first | (with_reducible assumption) | assumption)
                have hx4 := bt_at a0 x3_1
                replace p4 := eq_true p4
                replace q4 := eq_true q4
                go_wp2
                go_roundg k1
                case measure => have := HK1.out; omega
                case rel => exact ⟨(wrap64 (x3_1 + 1)), (by first | rfl | (simp; done) | (simp [*]; done) | (simp; exact isEmpty_ne _)), H', ⟨by have := HK1.out; omega⟩, by repeat (first | exact Drawn0.refl _ | apply Drawn0.step)⟩
              · rw [if_neg c20] at H
                have c20b0 : ((bt a0 x3_1) == 45) = false := beq_eq_false_iff_ne.mpr c20
                have c20b1 : ((bt a0 x3_1) != 45) = true := bne_iff_ne.mpr c20
                by_cases c21 : (bt a0 x3_1) = 46
                · rw [if_pos c21] at H
                  have c21b0 : ((bt a0 x3_1) == 46) = true := beq_iff_eq.mpr c21
                  have c21b1 : ((bt a0 x3_1) != 46) = false := bne_eq_false_iff_eq.mpr c21
                  clear c21
                  have H' := Aside0.mk H
                  clear H
                  have p4 : 0 ≤ (x3_1 : Int) := of_decide_eq_true (by first | (with_reducible assumption) | assumption)
                  have q4 : x3_1 < (a0.size : Int) := of_decide_eq_true (by first | (with_reducible assumption) | assumption)
                  have hx4 := bt_at a0 x3_1
                  replace p4 := eq_true p4
                  replace q4 := eq_true q4
                  go_wp2
                  go_roundg k1
                  case measure => have := HK1.out; omega
                  case rel => exact ⟨(wrap64 (x3_1 + 1)), (by first | rfl | (simp; done) | (simp [*]; done) | (simp; exact isEmpty_ne _)), H', ⟨by have := HK1.out; omega⟩, by repeat (first | exact Drawn0.refl _ | apply Drawn0.step)⟩
                · rw [if_neg c21] at H
                  have c21b0 : ((bt a0 x3_1) == 46) = false := beq_eq_false_iff_ne.mpr c21
                  have c21b1 : ((bt a0 x3_1) != 46) = true := bne_iff_ne.mpr c21
                  by_cases c22 : ((bt a0 x3_1) = 47)
                  · rw [if_pos c22] at H
                    have c22b0 : ((bt a0 x3_1) == 47) = true := beq_iff_eq.mpr c22
                    have c22b1 : ((bt a0 x3_1) != 47) = false := bne_eq_false_iff_eq.mpr c22
                    clear c22
                    have H' := Aside0.mk H
                    clear H
                    have p4 : 0 ≤ (x3_1 : Int) := of_decide_eq_true (by first | (with_reducible assumption) | assumption)
                    have q4 : x3_1 < (a0.size : Int) := of_decide_eq_true (by first | (with_reducible assumption) | assumption)
                    have hx4 := bt_at a0 x3_1
                    replace p4 := eq_true p4
                    replace q4 := eq_true q4
                    go_wp2
                    go_roundg k1
                    case measure => have := HK1.out; omega
                    case rel => exact ⟨(wrap64 (x3_1 + 1)), (by first | rfl | (simp; done) | (simp [*]; done) | (simp; exact isEmpty_ne _)), H', ⟨by have := HK1.out; omega⟩, by repeat (first | exact Drawn0.refl _ | apply Drawn0.step)⟩
                  · rw [if_neg c22] at H
                    have c22b0 : ((bt a0 x3_1) == 47) = false := beq_eq_false_iff_ne.mpr c22
                    have c22b1 : ((bt a0 x3_1) != 47) = true := bne_iff_ne.mpr c22
                    obtain rfl := Option.some.inj H
                    have p4 : 0 ≤ (x3_1 : Int) := of_decide_eq_true (by first | (with_reducible assumption) | assumption)
                    have q4 : x3_1 < (a0.size : Int) := of_decide_eq_true (by first | (with_reducible assumption) | assumption)
                    have hx4 := bt_at a0 x3_1
                    replace p4 := eq_true p4
                    replace q4 := eq_true q4
                    go_wp2
                    go_ret
                    exact ⟨by first | rfl | (simp; done) | (simp [*]; done), by repeat (first | exact Drawn0.refl _ | apply Drawn0.step)⟩
        · rw [if_neg c3] at H
          exact absurd H (by simp)
      · rw [if_neg c2] at H
        have c2b0 : decide (x3_1 < (a0.size : Int)) = false := decide_eq_false c2
        clear c2
        by_cases c23 : (a0.size : Int) ≥ 1
        · rw [if_pos c23] at H
          have c23b0 : decide (1 ≤ (a0.size : Int)) = true := decide_eq_true c23
          have c23b1 : decide (1 ≤ a0.size) = true := decide_eq_true (by omega)
          clear c23
          obtain rfl := Option.some.inj H
          go_wp2
          go_ret
          exact ⟨by first | rfl | (simp; done) | (simp [*]; done), by repeat (first | exact Drawn0.refl _ | apply Drawn0.step)⟩
        · rw [if_neg c23] at H
          have c23b0 : decide (1 ≤ (a0.size : Int)) = false := decide_eq_false c23
          have c23b1 : decide (1 ≤ a0.size) = false := decide_eq_false (by omega)
          clear c23
          obtain rfl := Option.some.inj H
          go_wp2
          go_ret
          exact ⟨by first | rfl | (simp; done) | (simp [*]; done), by repeat (first | exact Drawn0.refl _ | apply Drawn0.step)⟩
end Go.Proofs.YtlhfekhmfeafbaaDoor.P
