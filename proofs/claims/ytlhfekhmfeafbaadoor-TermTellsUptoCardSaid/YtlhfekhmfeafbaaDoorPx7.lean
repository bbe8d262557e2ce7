/- Contracts of Go functions, printed by my program lprint.py over the kit's print. -/
import Derived.Test.YtlhfekhmfeafbaaDoorPx0
import Derived.Test.YtlhfekhmfeafbaaDoorPHa
import Derived.Test.YtlhfekhmfeafbaaDoorPx6
namespace Go.Proofs.YtlhfekhmfeafbaaDoor.P
open Go.RowKit Go.Proofs.YtlhfekhmfeafbaaDoorW.PrintWords Go.Proofs.YtlhfekhmfeafbaaDoorW.PrintLast Go.Proofs.YtlhfekhmfeafbaaDoorW.PrintMore
attribute [local go_sem] max2_int min2_int max_two min_two max_three min_three max_four min_four
set_option linter.unusedVariables false
set_option linter.unusedSimpArgs false
mutual
def legateref08_Text.l0 : Nat → ByteArray → Int → Int → ByteArray → Int → List (S25) → Option (ByteArray)
  | 0, _, _, _, _, _, _ => none
  | k + 1, x3, x4, x192000, x192001, x192002, x192003 => if x4 < (x192003.length : Int) then (if x4 > 0 then (if x3.size + 1 ≤ 9223372036854775807 then (if 0 ≤ x4 then ((legateref08_Text.f k ((rd_T25 x192003 x4).f0) ((rd_T25 x192003 x4).f1) ((rd_T25 x192003 x4).f2) ((rd_T25 x192003 x4).f3)).bind fun t195 => (if (x3 ++ (⟨#[32]⟩ : ByteArray)).size + t195.size ≤ 9223372036854775807 then (legateref08_Text.l0 k ((x3 ++ (⟨#[32]⟩ : ByteArray)) ++ t195) (wrap64 (x4 + 1)) x192000 x192001 x192002 x192003) else (none))) else (none)) else (none)) else (if 0 ≤ x4 then ((legateref08_Text.f k ((rd_T25 x192003 x4).f0) ((rd_T25 x192003 x4).f1) ((rd_T25 x192003 x4).f2) ((rd_T25 x192003 x4).f3)).bind fun t197 => (if x3.size + t197.size ≤ 9223372036854775807 then (legateref08_Text.l0 k (x3 ++ t197) (wrap64 (x4 + 1)) x192000 x192001 x192002 x192003) else (none))) else (none))) else (if x3.size + 1 ≤ 9223372036854775807 then (some (x3 ++ (⟨#[93]⟩ : ByteArray))) else (none))
def legateref08_Text.j1 : Nat → Bool → Int → ByteArray → Int → List (S25) → Option (ByteArray)
  | 0, _, _, _, _, _ => none
  | k + 1, x64, x192000, x192001, x192002, x192003 => if x64 = true then (if x192000 = 5 then (if 0 < (x192003.length : Int) then ((legateref08_Text.f k ((rd_T25 x192003 0).f0) ((rd_T25 x192003 0).f1) ((rd_T25 x192003 0).f2) ((rd_T25 x192003 0).f3)).bind fun t199 => (if 4 + t199.size ≤ 9223372036854775807 then (if ((⟨#[115, 117, 109, 40]⟩ : ByteArray) ++ t199).size + 1 ≤ 9223372036854775807 then ((legateref08_Digits.f k x192002).bind fun t200 => (if (((⟨#[115, 117, 109, 40]⟩ : ByteArray) ++ t199) ++ (⟨#[32]⟩ : ByteArray)).size + t200.size ≤ 9223372036854775807 then (if ((((⟨#[115, 117, 109, 40]⟩ : ByteArray) ++ t199) ++ (⟨#[32]⟩ : ByteArray)) ++ t200).size + 1 ≤ 9223372036854775807 then (if 1 < (x192003.length : Int) then ((legateref08_Text.f k ((rd_T25 x192003 1).f0) ((rd_T25 x192003 1).f1) ((rd_T25 x192003 1).f2) ((rd_T25 x192003 1).f3)).bind fun t202 => (if (((((⟨#[115, 117, 109, 40]⟩ : ByteArray) ++ t199) ++ (⟨#[32]⟩ : ByteArray)) ++ t200) ++ (⟨#[32]⟩ : ByteArray)).size + t202.size ≤ 9223372036854775807 then (if ((((((⟨#[115, 117, 109, 40]⟩ : ByteArray) ++ t199) ++ (⟨#[32]⟩ : ByteArray)) ++ t200) ++ (⟨#[32]⟩ : ByteArray)) ++ t202).size + 1 ≤ 9223372036854775807 then (some (((((((⟨#[115, 117, 109, 40]⟩ : ByteArray) ++ t199) ++ (⟨#[32]⟩ : ByteArray)) ++ t200) ++ (⟨#[32]⟩ : ByteArray)) ++ t202) ++ (⟨#[41]⟩ : ByteArray))) else (none)) else (none))) else (none)) else (none)) else (none))) else (none)) else (none))) else (none)) else (if 0 < (x192003.length : Int) then ((legateref08_Text.f k ((rd_T25 x192003 0).f0) ((rd_T25 x192003 0).f1) ((rd_T25 x192003 0).f2) ((rd_T25 x192003 0).f3)).bind fun t204 => (if 5 + t204.size ≤ 9223372036854775807 then (if ((⟨#[115, 101, 97, 108, 40]⟩ : ByteArray) ++ t204).size + 1 ≤ 9223372036854775807 then ((legateref08_Digits.f k x192002).bind fun t205 => (if (((⟨#[115, 101, 97, 108, 40]⟩ : ByteArray) ++ t204) ++ (⟨#[32]⟩ : ByteArray)).size + t205.size ≤ 9223372036854775807 then (if ((((⟨#[115, 101, 97, 108, 40]⟩ : ByteArray) ++ t204) ++ (⟨#[32]⟩ : ByteArray)) ++ t205).size + 1 ≤ 9223372036854775807 then (if 1 < (x192003.length : Int) then ((legateref08_Text.f k ((rd_T25 x192003 1).f0) ((rd_T25 x192003 1).f1) ((rd_T25 x192003 1).f2) ((rd_T25 x192003 1).f3)).bind fun t207 => (if (((((⟨#[115, 101, 97, 108, 40]⟩ : ByteArray) ++ t204) ++ (⟨#[32]⟩ : ByteArray)) ++ t205) ++ (⟨#[32]⟩ : ByteArray)).size + t207.size ≤ 9223372036854775807 then (if ((((((⟨#[115, 101, 97, 108, 40]⟩ : ByteArray) ++ t204) ++ (⟨#[32]⟩ : ByteArray)) ++ t205) ++ (⟨#[32]⟩ : ByteArray)) ++ t207).size + 1 ≤ 9223372036854775807 then (some (((((((⟨#[115, 101, 97, 108, 40]⟩ : ByteArray) ++ t204) ++ (⟨#[32]⟩ : ByteArray)) ++ t205) ++ (⟨#[32]⟩ : ByteArray)) ++ t207) ++ (⟨#[41]⟩ : ByteArray))) else (none)) else (none))) else (none)) else (none)) else (none))) else (none)) else (none))) else (none))) else (some (⟨#[63]⟩ : ByteArray))
def legateref08_Text.f : Nat → Int → ByteArray → Int → List (S25) → Option (ByteArray)
  | 0, _, _, _, _ => none
  | k + 1, a0_0, a0_1, a0_2, l0_3 => if a0_0 = 0 then (some a0_1) else (if a0_0 = 1 then ((legateref08_Digits.f k a0_2).bind fun t192 => (some t192)) else (if a0_0 = 2 then (if 4 + a0_1.size ≤ 9223372036854775807 then (if ((⟨#[107, 101, 121, 40]⟩ : ByteArray) ++ a0_1).size + 1 ≤ 9223372036854775807 then ((legateref08_Digits.f k a0_2).bind fun t193 => (if (((⟨#[107, 101, 121, 40]⟩ : ByteArray) ++ a0_1) ++ (⟨#[32]⟩ : ByteArray)).size + t193.size ≤ 9223372036854775807 then (if ((((⟨#[107, 101, 121, 40]⟩ : ByteArray) ++ a0_1) ++ (⟨#[32]⟩ : ByteArray)) ++ t193).size + 1 ≤ 9223372036854775807 then (some (((((⟨#[107, 101, 121, 40]⟩ : ByteArray) ++ a0_1) ++ (⟨#[32]⟩ : ByteArray)) ++ t193) ++ (⟨#[41]⟩ : ByteArray))) else (none)) else (none))) else (none)) else (none)) else (if a0_0 = 3 then (legateref08_Text.l0 k (⟨#[91]⟩ : ByteArray) 0 a0_0 a0_1 a0_2 l0_3) else (if a0_0 = 4 then (legateref08_Text.j1 k ((l0_3.length : Int) == 2) a0_0 a0_1 a0_2 l0_3) else (if a0_0 = 5 then (legateref08_Text.j1 k ((l0_3.length : Int) == 2) a0_0 a0_1 a0_2 l0_3) else (legateref08_Text.j1 k false a0_0 a0_1 a0_2 l0_3))))))
end
theorem legateref08_Text.mono_l : ∀ k, (∀ y0 y1 y2 y3, LeO (legateref08_Text.f k y0 y1 y2 y3) (legateref08_Text.f (k + 1) y0 y1 y2 y3)) ∧ (∀ y0 y1 y2 y3 y4 y5, LeO (legateref08_Text.l0 k y0 y1 y2 y3 y4 y5) (legateref08_Text.l0 (k + 1) y0 y1 y2 y3 y4 y5)) ∧ (∀ y0 y1 y2 y3 y4, LeO (legateref08_Text.j1 k y0 y1 y2 y3 y4) (legateref08_Text.j1 (k + 1) y0 y1 y2 y3 y4))
  | 0 => ⟨fun _ _ _ _ r h => by simp [legateref08_Text.f] at h, fun _ _ _ _ _ _ r h => by simp [legateref08_Text.l0] at h, fun _ _ _ _ _ r h => by simp [legateref08_Text.j1] at h⟩
  | k + 1 => by
    obtain ⟨ih0, ih1, ih2⟩ := legateref08_Text.mono_l k
    refine ⟨?_, ?_, ?_⟩
    · intro y0 y1 y2 y3
      unfold legateref08_Text.f
      repeat' first
      | (with_reducible exact ih0 _ _ _ _)
      | (with_reducible exact ih1 _ _ _ _ _ _)
      | (with_reducible exact ih2 _ _ _ _ _)
      | (with_reducible exact legateref08_Digits.mono _ _)
      | (with_reducible exact LeO.refl _)
      | (with_reducible exact LeO.none _)
      | (with_reducible refine LeO.ite ?_ ?_)
      | (with_reducible refine LeO.bind ?_ (fun _ => ?_))
      | exact ih0 _ _ _ _
      | exact ih1 _ _ _ _ _ _
      | exact ih2 _ _ _ _ _
      | exact legateref08_Digits.mono _ _
      | exact LeO.none _
      | refine LeO.ite ?_ ?_
      | refine LeO.bind ?_ (fun _ => ?_)
    · intro y0 y1 y2 y3 y4 y5
      unfold legateref08_Text.l0
      repeat' first
      | (with_reducible exact ih0 _ _ _ _)
      | (with_reducible exact ih1 _ _ _ _ _ _)
      | (with_reducible exact ih2 _ _ _ _ _)
      | (with_reducible exact legateref08_Digits.mono _ _)
      | (with_reducible exact LeO.refl _)
      | (with_reducible exact LeO.none _)
      | (with_reducible refine LeO.ite ?_ ?_)
      | (with_reducible refine LeO.bind ?_ (fun _ => ?_))
      | exact ih0 _ _ _ _
      | exact ih1 _ _ _ _ _ _
      | exact ih2 _ _ _ _ _
      | exact legateref08_Digits.mono _ _
      | exact LeO.none _
      | refine LeO.ite ?_ ?_
      | refine LeO.bind ?_ (fun _ => ?_)
    · intro y0 y1 y2 y3 y4
      unfold legateref08_Text.j1
      repeat' first
      | (with_reducible exact ih0 _ _ _ _)
      | (with_reducible exact ih1 _ _ _ _ _ _)
      | (with_reducible exact ih2 _ _ _ _ _)
      | (with_reducible exact legateref08_Digits.mono _ _)
      | (with_reducible exact LeO.refl _)
      | (with_reducible exact LeO.none _)
      | (with_reducible refine LeO.ite ?_ ?_)
      | (with_reducible refine LeO.bind ?_ (fun _ => ?_))
      | exact ih0 _ _ _ _
      | exact ih1 _ _ _ _ _ _
      | exact ih2 _ _ _ _ _
      | exact legateref08_Digits.mono _ _
      | exact LeO.none _
      | refine LeO.ite ?_ ?_
      | refine LeO.bind ?_ (fun _ => ?_)
theorem legateref08_Text.mono : ∀ a0 a1 a2 a3 k, LeO (legateref08_Text.f k a0 a1 a2 a3) (legateref08_Text.f (k + 1) a0 a1 a2 a3) := by
  intro a0 a1 a2 a3 k
  obtain ⟨ih0, ih1, ih2⟩ := legateref08_Text.mono_l k
  exact ih0 a0 a1 a2 a3
def legateref08_Text.T7 : Bool × List (List Nat × List Nat) := (true, [([], []), ([0], [0]), ([1], [1]), ([2], [2]), ([], []), ([4], [4]), ([5], [5]), ([3, 6], [3, 6]), ([7], [7]), ([8, 6, 0, 1, 2, 3, 4, 5, 6, 7, 8], [8])])
def legateref08_Text.B7 : List Nat := [0, 1, 3, 7, 0, 16, 48, 127, 255, 511]
theorem legateref08_Text.tab7 : rtab .any (opsOf Tryd.f20 7) = legateref08_Text.T7 := by kernel_rfl
theorem legateref08_Text.bits7 : waitsOk legateref08_Text.T7.2 legateref08_Text.B7 = true := by kernel_rfl
def legateref08_Text.T21 : Bool × List (List Nat × List Nat) := (true, [([], []), ([], []), ([1], [1]), ([2], [2]), ([3], [3]), ([4], [4]), ([0, 5], [0, 5]), ([6], [6]), ([], []), ([8], [8]), ([9, 5], [9]), ([7, 10], [7, 10]), ([11], [11]), ([], []), ([13], [13]), ([14], [14]), ([15], [15]), ([16, 10], [16]), ([12, 17], [12, 17]), ([18], [18]), ([19, 17, 0, 1, 2, 3, 4, 5, 6, 7, 8, 9, 10, 11, 12, 13, 14, 15, 16, 17, 18, 19], [19])])
def legateref08_Text.B21 : List Nat := [0, 0, 2, 6, 14, 30, 63, 127, 0, 256, 830, 2047, 4095, 0, 8192, 24576, 57344, 124734, 262143, 524287, 1048575]
theorem legateref08_Text.tab21 : rtab .any (opsOf Tryd.f20 21) = legateref08_Text.T21 := by kernel_rfl
theorem legateref08_Text.bits21 : waitsOk legateref08_Text.T21.2 legateref08_Text.B21 = true := by kernel_rfl
set_option maxHeartbeats 8000000 in
set_option maxRecDepth 100000 in
theorem legateref08_Text.calls (k : Nat) : ∀ (a0_0 : Int) (a0_1 : ByteArray) (a0_2 : Int) (A0_3 : Option Addr) (c0_3 : Nat) (l0_3 : List (S25)) (r : ByteArray) (w : World) (hr0_3 : Kd.C k25 w A0_3 l0_3.length l0_3) (hc0_3 : l0_3.length ≤ c0_3) (h : legateref08_Text.f k a0_0 a0_1 a0_2 l0_3 = some r),
    Calls Tryd.prog 20 #[.agg #[.int .i64 a0_0, .string a0_1, .int .i64 a0_2, .slice A0_3 l0_3.length c0_3]] w fun e w' => e = .returned (.string r) ∧ Below w.heap.size w w' := by
  induction k using Nat.strongRecOn with
  | _ k ih =>
  intro a0_0 a0_1 a0_2 A0_3 c0_3 l0_3 r w hr0_3 hc0_3 h
  cases k with
  | zero => exact absurd h (by simp [legateref08_Text.f])
  | succ k =>
  simp only [legateref08_Text.f] at h
  have hu25 := Tryd.underlying25
  have HR0_3 := Aside0.mk hr0_3
  have HC0_3 := Aside0.mk hc0_3
  clear hr0_3 hc0_3
  have HB := Aside0.mk (Below.refl w.heap.size w)
  have H : (if a0_0 = 0 then (some a0_1) else (if a0_0 = 1 then ((legateref08_Digits.f k a0_2).bind fun t192 => (some t192)) else (if a0_0 = 2 then (if 4 + a0_1.size ≤ 9223372036854775807 then (if ((⟨#[107, 101, 121, 40]⟩ : ByteArray) ++ a0_1).size + 1 ≤ 9223372036854775807 then ((legateref08_Digits.f k a0_2).bind fun t193 => (if (((⟨#[107, 101, 121, 40]⟩ : ByteArray) ++ a0_1) ++ (⟨#[32]⟩ : ByteArray)).size + t193.size ≤ 9223372036854775807 then (if ((((⟨#[107, 101, 121, 40]⟩ : ByteArray) ++ a0_1) ++ (⟨#[32]⟩ : ByteArray)) ++ t193).size + 1 ≤ 9223372036854775807 then (some (((((⟨#[107, 101, 121, 40]⟩ : ByteArray) ++ a0_1) ++ (⟨#[32]⟩ : ByteArray)) ++ t193) ++ (⟨#[41]⟩ : ByteArray))) else (none)) else (none))) else (none)) else (none)) else (if a0_0 = 3 then (legateref08_Text.l0 k (⟨#[91]⟩ : ByteArray) 0 a0_0 a0_1 a0_2 l0_3) else (if a0_0 = 4 then (legateref08_Text.j1 k ((l0_3.length : Int) == 2) a0_0 a0_1 a0_2 l0_3) else (if a0_0 = 5 then (legateref08_Text.j1 k ((l0_3.length : Int) == 2) a0_0 a0_1 a0_2 l0_3) else (legateref08_Text.j1 k false a0_0 a0_1 a0_2 l0_3))))))) = some r := h
  clear h
  by_cases c2 : a0_0 = 0
  · rw [if_pos c2] at H
    have c2b0 : (a0_0 == 0) = true := beq_iff_eq.mpr c2
    have c2b1 : (a0_0 != 0) = false := bne_eq_false_iff_eq.mpr c2
    clear c2
    obtain rfl := Option.some.inj H
    go_enter Tryd.func20, Tryd.ntmps20
    go_wp2_with (first | ((with_reducible refine gate_dst (N := 1) rfl ?_); (try (refine gate_guard (by rfl) ?_; dsimp only)); refine box_event ?hg (N := 1) ?hd (cs := #[.int .i64 a0_0, .string a0_1, .int .i64 a0_2, .slice A0_3 l0_3.length c0_3]) (t := 25) ?hr ?_; (case hd => rfl); (case hg => rfl); (case hr => first | (go_simp; done) | (go_simp; rfl)); intro gb191 hg w3 hbox hb; have n0_ := Aside0.mk (below_step (by repeat (first | (with_reducible first | exact HB.out | apply below_alloc | apply pw_below_drewN | apply below_drew1) | exact HB.out)) hb); have n1_ := Aside0.mk (hbox); have n2_ := Aside0.mk ((by rw [hg]; exact (below_size (by repeat (first | (with_reducible first | exact HB.out | apply below_alloc | apply pw_below_drewN | apply below_drew1) | exact HB.out))) : w.heap.size ≤ gb191)); have n3_ := Aside0.mk ((by rw [hg]; exact (below_size (by repeat (first | (with_reducible first | exact HB.out | apply below_alloc | apply pw_below_drewN | apply below_drew1) | exact HB.out))) : w.heap.size ≤ gb191)); clear HB; have HB := n0_; have BK191 := n1_; have GW191 := n2_; have GE191 := n3_; clear n0_ n1_ n2_ n3_; clear hb hbox hg; have hcz4_0 : w3.cell? ⟨gb191, 0, none⟩ = some (.int .i64 a0_0) := (blk_cell BK191.out 0).trans rfl; have hcz4_1 : w3.cell? ⟨gb191, 1, none⟩ = some (.string a0_1) := (blk_cell BK191.out 1).trans rfl; have hcz4_2 : w3.cell? ⟨gb191, 2, none⟩ = some (.int .i64 a0_2) := (blk_cell BK191.out 2).trans rfl; have hcz4_3 : w3.cell? ⟨gb191, 3, none⟩ = some (.slice A0_3 l0_3.length c0_3) := (blk_cell BK191.out 3).trans rfl; have hfz4_0 := blk_frozen BK191.out 0; have hfz4_1 := blk_frozen BK191.out 1; have hfz4_2 := blk_frozen BK191.out 2; have hfz4_3 := blk_frozen BK191.out 3))
    go_ret
    exact ⟨by first | rfl | (simp [errW_none, errW_some] <;> rfl) | (simp [*, errW_none, errW_some] <;> rfl), by repeat (first | (with_reducible first | exact HB.out | apply below_alloc | apply pw_below_drewN | apply below_drew1 | refine below_set ?_ GE191.out) | exact HB.out)⟩
  · rw [if_neg c2] at H
    have c2b0 : (a0_0 == 0) = false := beq_eq_false_iff_ne.mpr c2
    have c2b1 : (a0_0 != 0) = true := bne_iff_ne.mpr c2
    by_cases c5 : a0_0 = 1
    · rw [if_pos c5] at H
      have c5b0 : (a0_0 == 1) = true := beq_iff_eq.mpr c5
      have c5b1 : (a0_0 != 1) = false := bne_eq_false_iff_eq.mpr c5
      clear c5
      replace H := Option.bind_eq_some_iff.mp H
      obtain ⟨t192, A60, H⟩ := H
      replace H : (some t192) = some r := H
      have A6 := Aside0.mk A60
      clear A60
      obtain rfl := Option.some.inj H
      go_enter Tryd.func20, Tryd.ntmps20
      go_wp2_with (first | ((with_reducible refine gate_dst (N := 1) rfl ?_); (try (refine gate_guard (by rfl) ?_; dsimp only)); refine box_event ?hg (N := 1) ?hd (cs := #[.int .i64 a0_0, .string a0_1, .int .i64 a0_2, .slice A0_3 l0_3.length c0_3]) (t := 25) ?hr ?_; (case hd => rfl); (case hg => rfl); (case hr => first | (go_simp; done) | (go_simp; rfl)); intro gb191 hg w7 hbox hb; have n0_ := Aside0.mk (below_step (by repeat (first | (with_reducible first | exact HB.out | apply below_alloc | apply pw_below_drewN | apply below_drew1) | exact HB.out)) hb); have n1_ := Aside0.mk (hbox); have n2_ := Aside0.mk ((by rw [hg]; exact (below_size (by repeat (first | (with_reducible first | exact HB.out | apply below_alloc | apply pw_below_drewN | apply below_drew1) | exact HB.out))) : w.heap.size ≤ gb191)); have n3_ := Aside0.mk ((by rw [hg]; exact (below_size (by repeat (first | (with_reducible first | exact HB.out | apply below_alloc | apply pw_below_drewN | apply below_drew1) | exact HB.out))) : w.heap.size ≤ gb191)); clear HB; have HB := n0_; have BK191 := n1_; have GW191 := n2_; have GE191 := n3_; clear n0_ n1_ n2_ n3_; clear hb hbox hg; have hcz8_0 : w7.cell? ⟨gb191, 0, none⟩ = some (.int .i64 a0_0) := (blk_cell BK191.out 0).trans rfl; have hcz8_1 : w7.cell? ⟨gb191, 1, none⟩ = some (.string a0_1) := (blk_cell BK191.out 1).trans rfl; have hcz8_2 : w7.cell? ⟨gb191, 2, none⟩ = some (.int .i64 a0_2) := (blk_cell BK191.out 2).trans rfl; have hcz8_3 : w7.cell? ⟨gb191, 3, none⟩ = some (.slice A0_3 l0_3.length c0_3) := (blk_cell BK191.out 3).trans rfl; have hfz8_0 := blk_frozen BK191.out 0; have hfz8_1 := blk_frozen BK191.out 1; have hfz8_2 := blk_frozen BK191.out 2; have hfz8_3 := blk_frozen BK191.out 3) | ((with_reducible refine gate_callee (f := 52) rfl ?_); refine goesL_ (some 16) rfl rfl Tryd.func52 (by kernel_rfl) rfl #[.int .i64 a0_2] rfl (by (try simp only [List.map_toArray, List.map_cons, List.map_nil]); first | done | rfl | (simp only [List.length_drop, List.length_take]; rfl) | (exact congrArg Value.bool (decide_eq_decide.2 Int.ofNat_lt.symm)) | (exact congrArg (fun b => #[Value.bool b]) (decide_eq_decide.2 Int.ofNat_lt.symm)) | (simp; done)) ?_; (with_reducible refine (legateref08_Digits.calls k a0_2 t192 _ A6.out).mono ?_); rintro e w9 ⟨rfl, hb⟩; refine ⟨_, rfl, ?_⟩; have n0_ := Aside0.mk (blk_below (g := gb191) (o := .cells #[.int .i64 a0_0, .string a0_1, .int .i64 a0_2, .slice A0_3 l0_3.length c0_3] 25 (0, 0)) (by (with_reducible repeat (first | refine blk_drewN ?_ _ | refine blk_drew ?_ | refine blk_alloc ?_ _)); exact BK191.out) hb); have n1_ := Aside0.mk (below_step (by repeat (first | (with_reducible first | exact HB.out | apply below_alloc | apply pw_below_drewN | apply below_drew1 | refine below_set ?_ GE191.out) | exact HB.out)) hb); clear BK191; clear HB; have BK191 := n0_; have HB := n1_; clear n0_ n1_; (try clear hb); (try clear hb2); (try clear hk); (try clear hi)))
      go_ret
      exact ⟨by first | rfl | (simp [errW_none, errW_some] <;> rfl) | (simp [*, errW_none, errW_some] <;> rfl), by repeat (first | (with_reducible first | exact HB.out | apply below_alloc | apply pw_below_drewN | apply below_drew1 | refine below_set ?_ GE191.out) | exact HB.out)⟩
    · rw [if_neg c5] at H
      have c5b0 : (a0_0 == 1) = false := beq_eq_false_iff_ne.mpr c5
      have c5b1 : (a0_0 != 1) = true := bne_iff_ne.mpr c5
      by_cases c10 : a0_0 = 2
      · rw [if_pos c10] at H
        have c10b0 : (a0_0 == 2) = true := beq_iff_eq.mpr c10
        have c10b1 : (a0_0 != 2) = false := bne_eq_false_iff_eq.mpr c10
        clear c10
        by_cases c11 : 4 + a0_1.size ≤ 9223372036854775807
        · rw [if_pos c11] at H
          have c11b0 := eq_true c11
          have c11b1 : decide (4 + a0_1.size ≤ 9223372036854775807) = true := decide_eq_true c11
          try have c11b2 : (9223372036854775807 < 4 + a0_1.size) = False := eq_false (Nat.not_lt.2 c11)
          have c11b3 := Nat.not_lt.2 c11
          try simp only [ByteArray.size_append, show (⟨#[32]⟩ : ByteArray).size = 1 from rfl, show (⟨#[41]⟩ : ByteArray).size = 1 from rfl, show (⟨#[91]⟩ : ByteArray).size = 1 from rfl, show (⟨#[93]⟩ : ByteArray).size = 1 from rfl, show (⟨#[107, 101, 121, 40]⟩ : ByteArray).size = 4 from rfl, show (⟨#[115, 117, 109, 40]⟩ : ByteArray).size = 4 from rfl, show (⟨#[115, 101, 97, 108, 40]⟩ : ByteArray).size = 5 from rfl] at c11b3
          by_cases c12 : ((⟨#[107, 101, 121, 40]⟩ : ByteArray) ++ a0_1).size + 1 ≤ 9223372036854775807
          · rw [if_pos c12] at H
            have c12b0 := eq_true c12
            have c12b1 : decide (((⟨#[107, 101, 121, 40]⟩ : ByteArray) ++ a0_1).size + 1 ≤ 9223372036854775807) = true := decide_eq_true c12
            try have c12b2 : (9223372036854775807 < ((⟨#[107, 101, 121, 40]⟩ : ByteArray) ++ a0_1).size + 1) = False := eq_false (Nat.not_lt.2 c12)
            have c12b3 := Nat.not_lt.2 c12
            try simp only [ByteArray.size_append, show (⟨#[32]⟩ : ByteArray).size = 1 from rfl, show (⟨#[41]⟩ : ByteArray).size = 1 from rfl, show (⟨#[91]⟩ : ByteArray).size = 1 from rfl, show (⟨#[93]⟩ : ByteArray).size = 1 from rfl, show (⟨#[107, 101, 121, 40]⟩ : ByteArray).size = 4 from rfl, show (⟨#[115, 117, 109, 40]⟩ : ByteArray).size = 4 from rfl, show (⟨#[115, 101, 97, 108, 40]⟩ : ByteArray).size = 5 from rfl] at c12b3
            replace H := Option.bind_eq_some_iff.mp H
            obtain ⟨t193, A130, H⟩ := H
            replace H : (if (((⟨#[107, 101, 121, 40]⟩ : ByteArray) ++ a0_1) ++ (⟨#[32]⟩ : ByteArray)).size + t193.size ≤ 9223372036854775807 then (if ((((⟨#[107, 101, 121, 40]⟩ : ByteArray) ++ a0_1) ++ (⟨#[32]⟩ : ByteArray)) ++ t193).size + 1 ≤ 9223372036854775807 then (some (((((⟨#[107, 101, 121, 40]⟩ : ByteArray) ++ a0_1) ++ (⟨#[32]⟩ : ByteArray)) ++ t193) ++ (⟨#[41]⟩ : ByteArray))) else (none)) else (none)) = some r := H
            have A13 := Aside0.mk A130
            clear A130
            by_cases c14 : (((⟨#[107, 101, 121, 40]⟩ : ByteArray) ++ a0_1) ++ (⟨#[32]⟩ : ByteArray)).size + t193.size ≤ 9223372036854775807
            · rw [if_pos c14] at H
              have c14b0 := eq_true c14
              have c14b1 : decide ((((⟨#[107, 101, 121, 40]⟩ : ByteArray) ++ a0_1) ++ (⟨#[32]⟩ : ByteArray)).size + t193.size ≤ 9223372036854775807) = true := decide_eq_true c14
              try have c14b2 : (9223372036854775807 < (((⟨#[107, 101, 121, 40]⟩ : ByteArray) ++ a0_1) ++ (⟨#[32]⟩ : ByteArray)).size + t193.size) = False := eq_false (Nat.not_lt.2 c14)
              have c14b3 := Nat.not_lt.2 c14
              try simp only [ByteArray.size_append, show (⟨#[32]⟩ : ByteArray).size = 1 from rfl, show (⟨#[41]⟩ : ByteArray).size = 1 from rfl, show (⟨#[91]⟩ : ByteArray).size = 1 from rfl, show (⟨#[93]⟩ : ByteArray).size = 1 from rfl, show (⟨#[107, 101, 121, 40]⟩ : ByteArray).size = 4 from rfl, show (⟨#[115, 117, 109, 40]⟩ : ByteArray).size = 4 from rfl, show (⟨#[115, 101, 97, 108, 40]⟩ : ByteArray).size = 5 from rfl] at c14b3
              by_cases c15 : ((((⟨#[107, 101, 121, 40]⟩ : ByteArray) ++ a0_1) ++ (⟨#[32]⟩ : ByteArray)) ++ t193).size + 1 ≤ 9223372036854775807
              · rw [if_pos c15] at H
                have c15b0 := eq_true c15
                have c15b1 : decide (((((⟨#[107, 101, 121, 40]⟩ : ByteArray) ++ a0_1) ++ (⟨#[32]⟩ : ByteArray)) ++ t193).size + 1 ≤ 9223372036854775807) = true := decide_eq_true c15
                try have c15b2 : (9223372036854775807 < ((((⟨#[107, 101, 121, 40]⟩ : ByteArray) ++ a0_1) ++ (⟨#[32]⟩ : ByteArray)) ++ t193).size + 1) = False := eq_false (Nat.not_lt.2 c15)
                have c15b3 := Nat.not_lt.2 c15
                try simp only [ByteArray.size_append, show (⟨#[32]⟩ : ByteArray).size = 1 from rfl, show (⟨#[41]⟩ : ByteArray).size = 1 from rfl, show (⟨#[91]⟩ : ByteArray).size = 1 from rfl, show (⟨#[93]⟩ : ByteArray).size = 1 from rfl, show (⟨#[107, 101, 121, 40]⟩ : ByteArray).size = 4 from rfl, show (⟨#[115, 117, 109, 40]⟩ : ByteArray).size = 4 from rfl, show (⟨#[115, 101, 97, 108, 40]⟩ : ByteArray).size = 5 from rfl] at c15b3
                obtain rfl := Option.some.inj H
                go_enter Tryd.func20, Tryd.ntmps20
                try go_wp2_with (first | ((with_reducible refine gate_dst (N := 1) rfl ?_); (try (refine gate_guard (by rfl) ?_; dsimp only)); refine box_event ?hg (N := 1) ?hd (cs := #[.int .i64 a0_0, .string a0_1, .int .i64 a0_2, .slice A0_3 l0_3.length c0_3]) (t := 25) ?hr ?_; (case hd => rfl); (case hg => rfl); (case hr => first | (go_simp; done) | (go_simp; rfl)); intro gb191 hg w16 hbox hb; have n0_ := Aside0.mk (below_step (by repeat (first | (with_reducible first | exact HB.out | apply below_alloc | apply pw_below_drewN | apply below_drew1) | exact HB.out)) hb); have n1_ := Aside0.mk (hbox); have n2_ := Aside0.mk ((by rw [hg]; exact (below_size (by repeat (first | (with_reducible first | exact HB.out | apply below_alloc | apply pw_below_drewN | apply below_drew1) | exact HB.out))) : w.heap.size ≤ gb191)); have n3_ := Aside0.mk ((by rw [hg]; exact (below_size (by repeat (first | (with_reducible first | exact HB.out | apply below_alloc | apply pw_below_drewN | apply below_drew1) | exact HB.out))) : w.heap.size ≤ gb191)); clear HB; have HB := n0_; have BK191 := n1_; have GW191 := n2_; have GE191 := n3_; clear n0_ n1_ n2_ n3_; clear hb hbox hg; have hcz17_0 : w16.cell? ⟨gb191, 0, none⟩ = some (.int .i64 a0_0) := (blk_cell BK191.out 0).trans rfl; have hcz17_1 : w16.cell? ⟨gb191, 1, none⟩ = some (.string a0_1) := (blk_cell BK191.out 1).trans rfl; have hcz17_2 : w16.cell? ⟨gb191, 2, none⟩ = some (.int .i64 a0_2) := (blk_cell BK191.out 2).trans rfl; have hcz17_3 : w16.cell? ⟨gb191, 3, none⟩ = some (.slice A0_3 l0_3.length c0_3) := (blk_cell BK191.out 3).trans rfl; have hfz17_0 := blk_frozen BK191.out 0; have hfz17_1 := blk_frozen BK191.out 1; have hfz17_2 := blk_frozen BK191.out 2; have hfz17_3 := blk_frozen BK191.out 3))
                have n0_ := Aside0.mk (blk_drew BK191.out)
                have n1_ := Aside0.mk (below_drew1 HB.out)
                clear BK191
                clear HB
                have BK191 := n0_
                have HB := n1_
                clear n0_ n1_
                refine start_ (n := 10) (S := fun w' => w'.cell? ⟨gb191, 0, none⟩ = some (.int .i64 a0_0) ∧ w'.cell? ⟨gb191, 1, none⟩ = some (.string a0_1) ∧ w'.cell? ⟨gb191, 2, none⟩ = some (.int .i64 a0_2) ∧ w'.cell? ⟨gb191, 3, none⟩ = some (.slice A0_3 l0_3.length c0_3)) (ds := []) #[false, false, false, false, false, false, false, false, false, false] (by kernel_rfl) rfl rfl ⟨(blk_cell BK191.out 0).trans rfl, (blk_cell BK191.out 1).trans rfl, (blk_cell BK191.out 2).trans rfl, (blk_cell BK191.out 3).trans rfl⟩ (fun hHeld => ?_); refine with_tabW legateref08_Text.tab7 legateref08_Text.bits7 (fun HT_ HW_ => ?_)
                generalize w16.drew = w18 at BK191 HB hHeld ⊢
                refine pure_ (i := 0) (N := some 19) (v := ?_) (a' := ?_) #[true, false, false, false, false, false, false, false, false, false] rfl rfl (any_of HT_.out (by kernel_rfl)) (fun _ _ _ h => h) (Or.inl ⟨by rfl, ?_⟩) ?_ ?_
                rotate_left
                · intro w'
                  go_simp
                  with_reducible rfl
                rotate_left
                · simp only [Act.put, List.setIfInBounds_toArray, List.set_cons_zero, List.set_cons_succ, i64_w, i32_w]
                  rfl
                refine pure_ (i := 4) (N := some 23) (v := ?_) (a' := ?_) #[true, false, false, false, true, false, false, false, false, false] rfl rfl (any_of HT_.out (by kernel_rfl)) (fun _ _ _ h => h) (Or.inl ⟨by rfl, ?_⟩) ?_ ?_
                rotate_left
                · intro w'
                  go_simp
                  with_reducible rfl
                rotate_left
                · simp only [Act.put, List.setIfInBounds_toArray, List.set_cons_zero, List.set_cons_succ, i64_w, i32_w]
                  rfl
                refine take_ (i := 1) (N := some 20) (v := ?_) (a' := ?_) #[true, true, false, false, true, false, false, false, false, false] rfl rfl (take_ofW HT_.out HW_.out (by kernel_rfl)) (fun _ _ _ h => h) (Or.inl ⟨by rfl, ?_⟩) hHeld ?_ ?_
                rotate_left
                · rintro w' ⟨s0, s1, s2, s3⟩
                  go_simp
                  with_reducible rfl
                rotate_left
                · simp only [Act.put, List.setIfInBounds_toArray, List.set_cons_zero, List.set_cons_succ, i64_w, i32_w]
                  rfl
                refine pure_ (i := 2) (N := some 21) (v := ?_) (a' := ?_) #[true, true, true, false, true, false, false, false, false, false] rfl rfl (any_of HT_.out (by kernel_rfl)) (fun _ _ _ h => h) (Or.inl ⟨by rfl, ?_⟩) ?_ ?_
                rotate_left
                · intro w'
                  go_simp
                  with_reducible rfl
                rotate_left
                · simp only [Act.put, List.setIfInBounds_toArray, List.set_cons_zero, List.set_cons_succ, i64_w, i32_w]
                  rfl
                refine pure_ (i := 3) (N := some 22) (v := ?_) (a' := ?_) #[true, true, true, true, true, false, false, false, false, false] rfl rfl (any_of HT_.out (by kernel_rfl)) (fun _ _ _ h => h) (Or.inl ⟨by rfl, ?_⟩) ?_ ?_
                rotate_left
                · intro w'
                  go_simp
                  with_reducible rfl
                rotate_left
                · simp only [Act.put, List.setIfInBounds_toArray, List.set_cons_zero, List.set_cons_succ, i64_w, i32_w]
                  rfl
                refine take_ (i := 5) (N := some 24) (v := ?_) (a' := ?_) #[true, true, true, true, true, true, false, false, false, false] rfl rfl (take_ofW HT_.out HW_.out (by kernel_rfl)) (fun _ _ _ h => h) (Or.inl ⟨by rfl, ?_⟩) hHeld ?_ ?_
                rotate_left
                · rintro w' ⟨s0, s1, s2, s3⟩
                  go_simp
                  with_reducible rfl
                rotate_left
                · simp only [Act.put, List.setIfInBounds_toArray, List.set_cons_zero, List.set_cons_succ, i64_w, i32_w]
                  rfl
                refine one_ (i := 6) (N := some 25) #[true, true, true, true, true, true, true, false, false, false] rfl rfl (one_of HT_.out (by kernel_rfl)) (by decide) (fun K hK => ?_)
                refine goes_ Tryd.func52 (by kernel_rfl) rfl #[.int .i64 a0_2] (by rfl) rfl rfl (by (try simp only [List.map_toArray, List.map_cons, List.map_nil]); first | done | rfl | (simp only [List.length_drop, List.length_take]; rfl) | (exact congrArg Value.bool (decide_eq_decide.2 Int.ofNat_lt.symm)) | (exact congrArg (fun b => #[Value.bool b]) (decide_eq_decide.2 Int.ofNat_lt.symm)) | (simp; done)) ?_
                with_reducible refine (legateref08_Digits.calls k a0_2 t193 _ A13.out).mono ?_
                rintro e w19 ⟨rfl, hb⟩
                refine ⟨_, rfl, ?_⟩
                have n0_ := Aside0.mk (blk_below (g := gb191) (o := .cells #[.int .i64 a0_0, .string a0_1, .int .i64 a0_2, .slice A0_3 l0_3.length c0_3] 25 (0, 0)) (by (with_reducible repeat (first | refine blk_drewN ?_ _ | refine blk_drew ?_ | refine blk_alloc ?_ _)); exact BK191.out) hb)
                have n1_ := Aside0.mk (below_step (by repeat (first | (with_reducible first | exact HB.out | apply below_alloc | apply pw_below_drewN | apply below_drew1 | refine below_set ?_ GE191.out) | exact HB.out)) hb)
                clear BK191
                clear HB
                have BK191 := n0_
                have HB := n1_
                clear n0_ n1_
                (try clear hb)
                (try clear hb2)
                (try clear hk)
                (try clear hi)
                refine hK.out _ _ ⟨(blk_cell BK191.out 0).trans rfl, (blk_cell BK191.out 1).trans rfl, (blk_cell BK191.out 2).trans rfl, (blk_cell BK191.out 3).trans rfl⟩ (fun hHeld => ?_)
                clear hK K
                refine norm_ (a' := ?_) ?_ ?_
                rotate_left
                · show Act.put _ (some 25) _ = _
                  simp only [Act.put, List.setIfInBounds_toArray, List.set_cons_zero, List.set_cons_succ, i64_w, i32_w]
                  rfl
                refine pure_ (i := 7) (N := some 26) (v := ?_) (a' := ?_) #[true, true, true, true, true, true, true, true, false, false] rfl rfl (any_of HT_.out (by kernel_rfl)) (fun _ _ _ h => h) (Or.inl ⟨by rfl, ?_⟩) ?_ ?_
                rotate_left
                · intro w'
                  go_simp
                  with_reducible rfl
                rotate_left
                · simp only [Act.put, List.setIfInBounds_toArray, List.set_cons_zero, List.set_cons_succ, i64_w, i32_w]
                  rfl
                refine pure_ (i := 8) (N := some 27) (v := ?_) (a' := ?_) #[true, true, true, true, true, true, true, true, true, false] rfl rfl (any_of HT_.out (by kernel_rfl)) (fun _ _ _ h => h) (Or.inl ⟨by rfl, ?_⟩) ?_ ?_
                rotate_left
                · intro w'
                  go_simp
                  with_reducible rfl
                rotate_left
                · simp only [Act.put, List.setIfInBounds_toArray, List.set_cons_zero, List.set_cons_succ, i64_w, i32_w]
                  rfl
                refine pure_ (i := 9) (N := some 2) (v := ?_) (a' := ?_) #[true, true, true, true, true, true, true, true, true, true] rfl rfl (any_of HT_.out (by kernel_rfl)) (fun _ _ _ h => h) (Or.inl ⟨by rfl, ?_⟩) ?_ ?_
                rotate_left
                · intro w'
                  go_simp
                  with_reducible rfl
                rotate_left
                · simp only [Act.put, List.setIfInBounds_toArray, List.set_cons_zero, List.set_cons_succ, i64_w, i32_w]
                  rfl
                refine done_ (done_of HT_.out (by kernel_rfl)) ?_
                try go_wp2
                go_ret
                exact ⟨by first | rfl | (simp [errW_none, errW_some] <;> rfl) | (simp [*, errW_none, errW_some] <;> rfl), by repeat (first | (with_reducible first | exact HB.out | apply below_alloc | apply pw_below_drewN | apply below_drew1 | refine below_set ?_ GE191.out) | exact HB.out)⟩
              · rw [if_neg c15] at H
                exact absurd H (by simp)
            · rw [if_neg c14] at H
              exact absurd H (by simp)
          · rw [if_neg c12] at H
            exact absurd H (by simp)
        · rw [if_neg c11] at H
          exact absurd H (by simp)
      · rw [if_neg c10] at H
        have c10b0 : (a0_0 == 2) = false := beq_eq_false_iff_ne.mpr c10
        have c10b1 : (a0_0 != 2) = true := bne_iff_ne.mpr c10
        by_cases c20 : a0_0 = 3
        · rw [if_pos c20] at H
          have c20b0 : (a0_0 == 3) = true := beq_iff_eq.mpr c20
          have c20b1 : (a0_0 != 3) = false := bne_eq_false_iff_eq.mpr c20
          clear c20
          have H' := Aside0.mk H
          clear H
          go_enter Tryd.func20, Tryd.ntmps20
          go_wp2_with (first | ((with_reducible refine gate_dst (N := 1) rfl ?_); (try (refine gate_guard (by rfl) ?_; dsimp only)); refine box_event ?hg (N := 1) ?hd (cs := #[.int .i64 a0_0, .string a0_1, .int .i64 a0_2, .slice A0_3 l0_3.length c0_3]) (t := 25) ?hr ?_; (case hd => rfl); (case hg => rfl); (case hr => first | (go_simp; done) | (go_simp; rfl)); intro gb191 hg w21 hbox hb; have n0_ := Aside0.mk (below_step (by repeat (first | (with_reducible first | exact HB.out | apply below_alloc | apply pw_below_drewN | apply below_drew1) | exact HB.out)) hb); have n1_ := Aside0.mk (hbox); have n2_ := Aside0.mk ((by rw [hg]; exact (below_size (by repeat (first | (with_reducible first | exact HB.out | apply below_alloc | apply pw_below_drewN | apply below_drew1) | exact HB.out))) : w.heap.size ≤ gb191)); have n3_ := Aside0.mk ((by rw [hg]; exact (below_size (by repeat (first | (with_reducible first | exact HB.out | apply below_alloc | apply pw_below_drewN | apply below_drew1) | exact HB.out))) : w.heap.size ≤ gb191)); clear HB; have HB := n0_; have BK191 := n1_; have GW191 := n2_; have GE191 := n3_; clear n0_ n1_ n2_ n3_; clear hb hbox hg; have hcz22_0 : w21.cell? ⟨gb191, 0, none⟩ = some (.int .i64 a0_0) := (blk_cell BK191.out 0).trans rfl; have hcz22_1 : w21.cell? ⟨gb191, 1, none⟩ = some (.string a0_1) := (blk_cell BK191.out 1).trans rfl; have hcz22_2 : w21.cell? ⟨gb191, 2, none⟩ = some (.int .i64 a0_2) := (blk_cell BK191.out 2).trans rfl; have hcz22_3 : w21.cell? ⟨gb191, 3, none⟩ = some (.slice A0_3 l0_3.length c0_3) := (blk_cell BK191.out 3).trans rfl; have hfz22_0 := blk_frozen BK191.out 0; have hfz22_1 := blk_frozen BK191.out 1; have hfz22_2 := blk_frozen BK191.out 2; have hfz22_3 := blk_frozen BK191.out 3))
          go_loopg [3, 4] k (fun kq v3 v4 w' => ∃ (x3_1 : ByteArray) (x4_1 : Int), v3 = .string x3_1 ∧ v4 = .int .i64 x4_1 ∧ Aside0 (legateref08_Text.l0 kq x3_1 x4_1 a0_0 a0_1 a0_2 l0_3 = some r) ∧ Aside0 (kq ≤ k) ∧ Aside0 (w'.heap[gb191]? = some (.cells #[.int .i64 a0_0, .string a0_1, .int .i64 a0_2, (.slice A0_3 l0_3.length c0_3)] 25 (0, 0))) ∧ Aside0 (Below w.heap.size w w'))
          case atStart => exact ⟨((⟨#[91]⟩ : ByteArray)), (0), (by first | rfl | (simp; done) | (simp [*]; done) | (simp; exact isEmpty_ne _)), (by first | rfl | (simp; done) | (simp [*]; done) | (simp; exact isEmpty_ne _)), H', ⟨Nat.le_refl _⟩, ⟨by (with_reducible repeat (first | refine blk_drewN ?_ _ | refine blk_drew ?_ | refine blk_alloc ?_ _)); exact BK191.out⟩, ⟨by repeat (first | (with_reducible first | exact HB.out | apply below_alloc | apply pw_below_drewN | apply below_drew1 | refine below_set ?_ GE191.out) | exact HB.out)⟩⟩
          case round =>
            clear H'
            try clear c1
            try clear c2
            try clear c2b0
            try clear c2b1
            try clear p2
            try clear c5
            try clear c5b0
            try clear c5b1
            try clear c10
            try clear c10b0
            try clear c10b1
            try clear c11
            try clear c11b0
            try clear c11b1
            try clear c11b2
            try clear c12
            try clear c12b0
            try clear c12b1
            try clear c12b2
            try clear c14
            try clear c14b0
            try clear c14b1
            try clear c14b2
            try clear c15
            try clear c15b0
            try clear c15b1
            try clear c15b2
            try clear c20
            try clear c20b0
            try clear c20b1
            try clear hcz17_0
            try clear hcz17_1
            try clear hcz17_2
            try clear hcz17_3
            try clear hcz22_0
            try clear hcz22_1
            try clear hcz22_2
            try clear hcz22_3
            try clear hcz4_0
            try clear hcz4_1
            try clear hcz4_2
            try clear hcz4_3
            try clear hcz8_0
            try clear hcz8_1
            try clear hcz8_2
            try clear hcz8_3
            try clear hfz17_0
            try clear hfz17_1
            try clear hfz17_2
            try clear hfz17_3
            try clear hfz22_0
            try clear hfz22_1
            try clear hfz22_2
            try clear hfz22_3
            try clear hfz4_0
            try clear hfz4_1
            try clear hfz4_2
            try clear hfz4_3
            try clear hfz8_0
            try clear hfz8_1
            try clear hfz8_2
            try clear hfz8_3
            obtain ⟨x3_1, x4_1, rfl, rfl, HA, HK1, BK191, HB⟩ := hrel
            cases gk with
            | zero => exact absurd HA.out (by simp [legateref08_Text.l0])
            | succ k1 =>
              have H := HA.out
              clear HA
              simp only [legateref08_Text.l0] at H
              by_cases c23 : x4_1 < (l0_3.length : Int)
              · rw [if_pos c23] at H
                have c23b0 : decide (x4_1 < (l0_3.length : Int)) = true := decide_eq_true c23
                clear c23
                by_cases c24 : x4_1 > 0
                · rw [if_pos c24] at H
                  have c24b0 : decide (0 < x4_1) = true := decide_eq_true c24
                  clear c24
                  by_cases c25 : x3_1.size + 1 ≤ 9223372036854775807
                  · rw [if_pos c25] at H
                    have c25b0 := eq_true c25
                    have c25b1 : decide (x3_1.size + 1 ≤ 9223372036854775807) = true := decide_eq_true c25
                    try have c25b2 : (9223372036854775807 < x3_1.size + 1) = False := eq_false (Nat.not_lt.2 c25)
                    have c25b3 := Nat.not_lt.2 c25
                    try simp only [ByteArray.size_append, show (⟨#[32]⟩ : ByteArray).size = 1 from rfl, show (⟨#[41]⟩ : ByteArray).size = 1 from rfl, show (⟨#[91]⟩ : ByteArray).size = 1 from rfl, show (⟨#[93]⟩ : ByteArray).size = 1 from rfl, show (⟨#[107, 101, 121, 40]⟩ : ByteArray).size = 4 from rfl, show (⟨#[115, 117, 109, 40]⟩ : ByteArray).size = 4 from rfl, show (⟨#[115, 101, 97, 108, 40]⟩ : ByteArray).size = 5 from rfl] at c25b3
                    by_cases c26 : 0 ≤ x4_1
                    · rw [if_pos c26] at H
                      have c26b0 : decide (0 ≤ x4_1) = true := decide_eq_true c26
                      clear c26
                      replace H := Option.bind_eq_some_iff.mp H
                      obtain ⟨t195, A270, H⟩ := H
                      replace H : (if (x3_1 ++ (⟨#[32]⟩ : ByteArray)).size + t195.size ≤ 9223372036854775807 then (legateref08_Text.l0 k1 ((x3_1 ++ (⟨#[32]⟩ : ByteArray)) ++ t195) (wrap64 (x4_1 + 1)) a0_0 a0_1 a0_2 l0_3) else (none)) = some r := H
                      have A27 := Aside0.mk A270
                      clear A270
                      by_cases c28 : (x3_1 ++ (⟨#[32]⟩ : ByteArray)).size + t195.size ≤ 9223372036854775807
                      · rw [if_pos c28] at H
                        have c28b0 := eq_true c28
                        have c28b1 : decide ((x3_1 ++ (⟨#[32]⟩ : ByteArray)).size + t195.size ≤ 9223372036854775807) = true := decide_eq_true c28
                        try have c28b2 : (9223372036854775807 < (x3_1 ++ (⟨#[32]⟩ : ByteArray)).size + t195.size) = False := eq_false (Nat.not_lt.2 c28)
                        have c28b3 := Nat.not_lt.2 c28
                        try simp only [ByteArray.size_append, show (⟨#[32]⟩ : ByteArray).size = 1 from rfl, show (⟨#[41]⟩ : ByteArray).size = 1 from rfl, show (⟨#[91]⟩ : ByteArray).size = 1 from rfl, show (⟨#[93]⟩ : ByteArray).size = 1 from rfl, show (⟨#[107, 101, 121, 40]⟩ : ByteArray).size = 4 from rfl, show (⟨#[115, 117, 109, 40]⟩ : ByteArray).size = 4 from rfl, show (⟨#[115, 101, 97, 108, 40]⟩ : ByteArray).size = 5 from rfl] at c28b3
                        have H' := Aside0.mk H
                        clear H
                        have hcz29_0 : wr.cell? ⟨gb191, 0, none⟩ = some (.int .i64 a0_0) := (blk_cell BK191.out 0).trans rfl
                        have hcz29_1 : wr.cell? ⟨gb191, 1, none⟩ = some (.string a0_1) := (blk_cell BK191.out 1).trans rfl
                        have hcz29_2 : wr.cell? ⟨gb191, 2, none⟩ = some (.int .i64 a0_2) := (blk_cell BK191.out 2).trans rfl
                        have hcz29_3 : wr.cell? ⟨gb191, 3, none⟩ = some (.slice A0_3 l0_3.length c0_3) := (blk_cell BK191.out 3).trans rfl
                        have hfz29_0 := blk_frozen BK191.out 0
                        have hfz29_1 := blk_frozen BK191.out 1
                        have hfz29_2 := blk_frozen BK191.out 2
                        have hfz29_3 := blk_frozen BK191.out 3
                        have p194 : 0 ≤ (x4_1 : Int) := of_decide_eq_true (by first | (with_reducible assumption) | assumption)
                        have q194 : x4_1 < (l0_3.length : Int) := of_decide_eq_true (by first | (with_reducible assumption) | assumption)
                        obtain ⟨ad194, A194_3, c194_3, e194, hx194_0, hx194_1, hx194_2, hx194_3, hl194_3, hi194_3⟩ := at_T25 HR0_3.out x4_1 p194 q194
                        cases e194
                        replace hx194_0 := (HB.out.cell (World.block_lt_of_cell? w _ hx194_0)).trans hx194_0
                        replace hx194_1 := (HB.out.cell (World.block_lt_of_cell? w _ hx194_1)).trans hx194_1
                        replace hx194_2 := (HB.out.cell (World.block_lt_of_cell? w _ hx194_2)).trans hx194_2
                        replace hx194_3 := (HB.out.cell (World.block_lt_of_cell? w _ hx194_3)).trans hx194_3
                        have HR194_3 := Aside0.mk hi194_3
                        have HC194_3 := Aside0.mk hl194_3
                        clear hi194_3 hl194_3
                        replace p194 := eq_true p194
                        replace q194 := eq_true q194
                        go_wp2_with (first | ((with_reducible refine gate_callee (f := 20) rfl ?_); refine goesL_ (some 47) rfl rfl Tryd.func20 (by kernel_rfl) rfl #[.agg #[.int .i64 ((rd_T25 l0_3 x4_1).f0), .string ((rd_T25 l0_3 x4_1).f1), .int .i64 ((rd_T25 l0_3 x4_1).f2), .slice A194_3 ((rd_T25 l0_3 x4_1).f3).length c194_3]] rfl (by (try simp only [List.map_toArray, List.map_cons, List.map_nil]); first | done | rfl | (simp only [List.length_drop, List.length_take]; rfl) | (exact congrArg Value.bool (decide_eq_decide.2 Int.ofNat_lt.symm)) | (exact congrArg (fun b => #[Value.bool b]) (decide_eq_decide.2 Int.ofNat_lt.symm)) | (simp; done)) ?_; (with_reducible refine (ih k1 (by have := HK1.out; omega) ((rd_T25 l0_3 x4_1).f0) ((rd_T25 l0_3 x4_1).f1) ((rd_T25 l0_3 x4_1).f2) _ _ ((rd_T25 l0_3 x4_1).f3) t195 _ ?side1 ?side2 A27.out).mono ?_); (case side1 => repeat (first | exact (Kd.C_below HR194_3.out HB.out) | (with_reducible refine Kd.C_alloc ?_ _) | (with_reducible refine Kd.C_drewN ?_ _) | (with_reducible refine Kd.C_drew ?_))); (case side2 => exact HC194_3.out); rintro e w30 ⟨rfl, hb⟩; refine ⟨_, rfl, ?_⟩; have n0_ := Aside0.mk (blk_below (g := gb191) (o := .cells #[.int .i64 a0_0, .string a0_1, .int .i64 a0_2, .slice (some ad194) l0_3.length c0_3] 25 (0, 0)) (by (with_reducible repeat (first | refine blk_drewN ?_ _ | refine blk_drew ?_ | refine blk_alloc ?_ _)); exact BK191.out) hb); have n1_ := Aside0.mk (below_step (by repeat (first | (with_reducible first | exact HB.out | apply below_alloc | apply pw_below_drewN | apply below_drew1 | refine below_set ?_ GE191.out) | exact HB.out)) hb); clear BK191; clear HB; have BK191 := n0_; have HB := n1_; clear n0_ n1_; (try clear hb); (try clear hb2); (try clear hk); (try clear hi)))
                        go_roundg k1
                        case measure => have := HK1.out; omega
                        case rel => exact ⟨((x3_1 ++ (⟨#[32]⟩ : ByteArray)) ++ t195), (wrap64 (x4_1 + 1)), (by first | rfl | (simp; done) | (simp [*]; done) | (simp; exact isEmpty_ne _)), (by first | rfl | (simp; done) | (simp [*]; done) | (simp; exact isEmpty_ne _)), H', ⟨by have := HK1.out; omega⟩, ⟨by (with_reducible repeat (first | refine blk_drewN ?_ _ | refine blk_drew ?_ | refine blk_alloc ?_ _)); exact BK191.out⟩, ⟨by repeat (first | (with_reducible first | exact HB.out | apply below_alloc | apply pw_below_drewN | apply below_drew1 | refine below_set ?_ GE191.out) | exact HB.out)⟩⟩
                      · rw [if_neg c28] at H
                        exact absurd H (by simp)
                    · rw [if_neg c26] at H
                      exact absurd H (by simp)
                  · rw [if_neg c25] at H
                    exact absurd H (by simp)
                · rw [if_neg c24] at H
                  have c24b0 : decide (0 < x4_1) = false := decide_eq_false c24
                  clear c24
                  by_cases c31 : 0 ≤ x4_1
                  · rw [if_pos c31] at H
                    have c31b0 : decide (0 ≤ x4_1) = true := decide_eq_true c31
                    clear c31
                    replace H := Option.bind_eq_some_iff.mp H
                    obtain ⟨t197, A320, H⟩ := H
                    replace H : (if x3_1.size + t197.size ≤ 9223372036854775807 then (legateref08_Text.l0 k1 (x3_1 ++ t197) (wrap64 (x4_1 + 1)) a0_0 a0_1 a0_2 l0_3) else (none)) = some r := H
                    have A32 := Aside0.mk A320
                    clear A320
                    by_cases c33 : x3_1.size + t197.size ≤ 9223372036854775807
                    · rw [if_pos c33] at H
                      have c33b0 := eq_true c33
                      have c33b1 : decide (x3_1.size + t197.size ≤ 9223372036854775807) = true := decide_eq_true c33
                      try have c33b2 : (9223372036854775807 < x3_1.size + t197.size) = False := eq_false (Nat.not_lt.2 c33)
                      have c33b3 := Nat.not_lt.2 c33
                      try simp only [ByteArray.size_append, show (⟨#[32]⟩ : ByteArray).size = 1 from rfl, show (⟨#[41]⟩ : ByteArray).size = 1 from rfl, show (⟨#[91]⟩ : ByteArray).size = 1 from rfl, show (⟨#[93]⟩ : ByteArray).size = 1 from rfl, show (⟨#[107, 101, 121, 40]⟩ : ByteArray).size = 4 from rfl, show (⟨#[115, 117, 109, 40]⟩ : ByteArray).size = 4 from rfl, show (⟨#[115, 101, 97, 108, 40]⟩ : ByteArray).size = 5 from rfl] at c33b3
                      have H' := Aside0.mk H
                      clear H
                      have hcz34_0 : wr.cell? ⟨gb191, 0, none⟩ = some (.int .i64 a0_0) := (blk_cell BK191.out 0).trans rfl
                      have hcz34_1 : wr.cell? ⟨gb191, 1, none⟩ = some (.string a0_1) := (blk_cell BK191.out 1).trans rfl
                      have hcz34_2 : wr.cell? ⟨gb191, 2, none⟩ = some (.int .i64 a0_2) := (blk_cell BK191.out 2).trans rfl
                      have hcz34_3 : wr.cell? ⟨gb191, 3, none⟩ = some (.slice A0_3 l0_3.length c0_3) := (blk_cell BK191.out 3).trans rfl
                      have hfz34_0 := blk_frozen BK191.out 0
                      have hfz34_1 := blk_frozen BK191.out 1
                      have hfz34_2 := blk_frozen BK191.out 2
                      have hfz34_3 := blk_frozen BK191.out 3
                      have p196 : 0 ≤ (x4_1 : Int) := of_decide_eq_true (by first | (with_reducible assumption) | assumption)
                      have q196 : x4_1 < (l0_3.length : Int) := of_decide_eq_true (by first | (with_reducible assumption) | assumption)
                      obtain ⟨ad196, A196_3, c196_3, e196, hx196_0, hx196_1, hx196_2, hx196_3, hl196_3, hi196_3⟩ := at_T25 HR0_3.out x4_1 p196 q196
                      cases e196
                      replace hx196_0 := (HB.out.cell (World.block_lt_of_cell? w _ hx196_0)).trans hx196_0
                      replace hx196_1 := (HB.out.cell (World.block_lt_of_cell? w _ hx196_1)).trans hx196_1
                      replace hx196_2 := (HB.out.cell (World.block_lt_of_cell? w _ hx196_2)).trans hx196_2
                      replace hx196_3 := (HB.out.cell (World.block_lt_of_cell? w _ hx196_3)).trans hx196_3
                      have HR196_3 := Aside0.mk hi196_3
                      have HC196_3 := Aside0.mk hl196_3
                      clear hi196_3 hl196_3
                      replace p196 := eq_true p196
                      replace q196 := eq_true q196
                      go_wp2_with (first | ((with_reducible refine gate_callee (f := 20) rfl ?_); refine goesL_ (some 47) rfl rfl Tryd.func20 (by kernel_rfl) rfl #[.agg #[.int .i64 ((rd_T25 l0_3 x4_1).f0), .string ((rd_T25 l0_3 x4_1).f1), .int .i64 ((rd_T25 l0_3 x4_1).f2), .slice A196_3 ((rd_T25 l0_3 x4_1).f3).length c196_3]] rfl (by (try simp only [List.map_toArray, List.map_cons, List.map_nil]); first | done | rfl | (simp only [List.length_drop, List.length_take]; rfl) | (exact congrArg Value.bool (decide_eq_decide.2 Int.ofNat_lt.symm)) | (exact congrArg (fun b => #[Value.bool b]) (decide_eq_decide.2 Int.ofNat_lt.symm)) | (simp; done)) ?_; (with_reducible refine (ih k1 (by have := HK1.out; omega) ((rd_T25 l0_3 x4_1).f0) ((rd_T25 l0_3 x4_1).f1) ((rd_T25 l0_3 x4_1).f2) _ _ ((rd_T25 l0_3 x4_1).f3) t197 _ ?side1 ?side2 A32.out).mono ?_); (case side1 => repeat (first | exact (Kd.C_below HR196_3.out HB.out) | (with_reducible refine Kd.C_alloc ?_ _) | (with_reducible refine Kd.C_drewN ?_ _) | (with_reducible refine Kd.C_drew ?_))); (case side2 => exact HC196_3.out); rintro e w35 ⟨rfl, hb⟩; refine ⟨_, rfl, ?_⟩; have n0_ := Aside0.mk (blk_below (g := gb191) (o := .cells #[.int .i64 a0_0, .string a0_1, .int .i64 a0_2, .slice (some ad196) l0_3.length c0_3] 25 (0, 0)) (by (with_reducible repeat (first | refine blk_drewN ?_ _ | refine blk_drew ?_ | refine blk_alloc ?_ _)); exact BK191.out) hb); have n1_ := Aside0.mk (below_step (by repeat (first | (with_reducible first | exact HB.out | apply below_alloc | apply pw_below_drewN | apply below_drew1 | refine below_set ?_ GE191.out) | exact HB.out)) hb); clear BK191; clear HB; have BK191 := n0_; have HB := n1_; clear n0_ n1_; (try clear hb); (try clear hb2); (try clear hk); (try clear hi)))
                      go_roundg k1
                      case measure => have := HK1.out; omega
                      case rel => exact ⟨(x3_1 ++ t197), (wrap64 (x4_1 + 1)), (by first | rfl | (simp; done) | (simp [*]; done) | (simp; exact isEmpty_ne _)), (by first | rfl | (simp; done) | (simp [*]; done) | (simp; exact isEmpty_ne _)), H', ⟨by have := HK1.out; omega⟩, ⟨by (with_reducible repeat (first | refine blk_drewN ?_ _ | refine blk_drew ?_ | refine blk_alloc ?_ _)); exact BK191.out⟩, ⟨by repeat (first | (with_reducible first | exact HB.out | apply below_alloc | apply pw_below_drewN | apply below_drew1 | refine below_set ?_ GE191.out) | exact HB.out)⟩⟩
                    · rw [if_neg c33] at H
                      exact absurd H (by simp)
                  · rw [if_neg c31] at H
                    exact absurd H (by simp)
              · rw [if_neg c23] at H
                have c23b0 : decide (x4_1 < (l0_3.length : Int)) = false := decide_eq_false c23
                clear c23
                by_cases c36 : x3_1.size + 1 ≤ 9223372036854775807
                · rw [if_pos c36] at H
                  have c36b0 := eq_true c36
                  have c36b1 : decide (x3_1.size + 1 ≤ 9223372036854775807) = true := decide_eq_true c36
                  try have c36b2 : (9223372036854775807 < x3_1.size + 1) = False := eq_false (Nat.not_lt.2 c36)
                  have c36b3 := Nat.not_lt.2 c36
                  try simp only [ByteArray.size_append, show (⟨#[32]⟩ : ByteArray).size = 1 from rfl, show (⟨#[41]⟩ : ByteArray).size = 1 from rfl, show (⟨#[91]⟩ : ByteArray).size = 1 from rfl, show (⟨#[93]⟩ : ByteArray).size = 1 from rfl, show (⟨#[107, 101, 121, 40]⟩ : ByteArray).size = 4 from rfl, show (⟨#[115, 117, 109, 40]⟩ : ByteArray).size = 4 from rfl, show (⟨#[115, 101, 97, 108, 40]⟩ : ByteArray).size = 5 from rfl] at c36b3
                  obtain rfl := Option.some.inj H
                  have hcz37_0 : wr.cell? ⟨gb191, 0, none⟩ = some (.int .i64 a0_0) := (blk_cell BK191.out 0).trans rfl
                  have hcz37_1 : wr.cell? ⟨gb191, 1, none⟩ = some (.string a0_1) := (blk_cell BK191.out 1).trans rfl
                  have hcz37_2 : wr.cell? ⟨gb191, 2, none⟩ = some (.int .i64 a0_2) := (blk_cell BK191.out 2).trans rfl
                  have hcz37_3 : wr.cell? ⟨gb191, 3, none⟩ = some (.slice A0_3 l0_3.length c0_3) := (blk_cell BK191.out 3).trans rfl
                  have hfz37_0 := blk_frozen BK191.out 0
                  have hfz37_1 := blk_frozen BK191.out 1
                  have hfz37_2 := blk_frozen BK191.out 2
                  have hfz37_3 := blk_frozen BK191.out 3
                  go_wp2
                  go_ret
                  exact ⟨by first | rfl | (simp [errW_none, errW_some] <;> rfl) | (simp [*, errW_none, errW_some] <;> rfl), by repeat (first | (with_reducible first | exact HB.out | apply below_alloc | apply pw_below_drewN | apply below_drew1 | refine below_set ?_ GE191.out) | exact HB.out)⟩
                · rw [if_neg c36] at H
                  exact absurd H (by simp)
        · rw [if_neg c20] at H
          have c20b0 : (a0_0 == 3) = false := beq_eq_false_iff_ne.mpr c20
          have c20b1 : (a0_0 != 3) = true := bne_iff_ne.mpr c20
          have HC38 := Aside0.mk H
          clear H
          go_enter Tryd.func20, Tryd.ntmps20
          go_upto_region 17 with (first | ((with_reducible refine gate_dst (N := 1) rfl ?_); (try (refine gate_guard (by rfl) ?_; dsimp only)); refine box_event ?hg (N := 1) ?hd (cs := #[.int .i64 a0_0, .string a0_1, .int .i64 a0_2, .slice A0_3 l0_3.length c0_3]) (t := 25) ?hr ?_; (case hd => rfl); (case hg => rfl); (case hr => first | (go_simp; done) | (go_simp; rfl)); intro gb191 hg w39 hbox hb; have n0_ := Aside0.mk (below_step (by repeat (first | (with_reducible first | exact HB.out | apply below_alloc | apply pw_below_drewN | apply below_drew1) | exact HB.out)) hb); have n1_ := Aside0.mk (hbox); have n2_ := Aside0.mk ((by rw [hg]; exact (below_size (by repeat (first | (with_reducible first | exact HB.out | apply below_alloc | apply pw_below_drewN | apply below_drew1) | exact HB.out))) : w.heap.size ≤ gb191)); have n3_ := Aside0.mk ((by rw [hg]; exact (below_size (by repeat (first | (with_reducible first | exact HB.out | apply below_alloc | apply pw_below_drewN | apply below_drew1) | exact HB.out))) : w.heap.size ≤ gb191)); clear HB; have HB := n0_; have BK191 := n1_; have GW191 := n2_; have GE191 := n3_; clear n0_ n1_ n2_ n3_; clear hb hbox hg; have hcz40_0 : w39.cell? ⟨gb191, 0, none⟩ = some (.int .i64 a0_0) := (blk_cell BK191.out 0).trans rfl; have hcz40_1 : w39.cell? ⟨gb191, 1, none⟩ = some (.string a0_1) := (blk_cell BK191.out 1).trans rfl; have hcz40_2 : w39.cell? ⟨gb191, 2, none⟩ = some (.int .i64 a0_2) := (blk_cell BK191.out 2).trans rfl; have hcz40_3 : w39.cell? ⟨gb191, 3, none⟩ = some (.slice A0_3 l0_3.length c0_3) := (blk_cell BK191.out 3).trans rfl; have hfz40_0 := blk_frozen BK191.out 0; have hfz40_1 := blk_frozen BK191.out 1; have hfz40_2 := blk_frozen BK191.out 2; have hfz40_3 := blk_frozen BK191.out 3))
          (try simp only [Act.put, List.setIfInBounds_toArray, List.set_cons_zero, List.set_cons_succ])
          go_cut [64] (fun v64 wc => ∃ (kq : Nat) (x64_37 : Bool), v64 = .bool x64_37 ∧ Aside0 (legateref08_Text.j1 kq x64_37 a0_0 a0_1 a0_2 l0_3 = some r) ∧ Aside0 (kq ≤ k) ∧ Aside0 (wc.heap[gb191]? = some (.cells #[.int .i64 a0_0, .string a0_1, .int .i64 a0_2, (.slice A0_3 l0_3.length c0_3)] 25 (0, 0))) ∧ Aside0 (Below w.heap.size w wc))
          case first =>
            have H := HC38.out
            clear HC38
            by_cases c41 : a0_0 = 4
            · rw [if_pos c41] at H
              have c41b0 : (a0_0 == 4) = true := beq_iff_eq.mpr c41
              have c41b1 : (a0_0 != 4) = false := bne_eq_false_iff_eq.mpr c41
              clear c41
              (first | rw [c41b0] | (simp only [i64_w, i32_w]; rw [c41b0]) | skip)
              have H' := Aside0.mk H
              clear H
              have hcz42_0 : w39.cell? ⟨gb191, 0, none⟩ = some (.int .i64 a0_0) := (blk_cell BK191.out 0).trans rfl
              have hcz42_1 : w39.cell? ⟨gb191, 1, none⟩ = some (.string a0_1) := (blk_cell BK191.out 1).trans rfl
              have hcz42_2 : w39.cell? ⟨gb191, 2, none⟩ = some (.int .i64 a0_2) := (blk_cell BK191.out 2).trans rfl
              have hcz42_3 : w39.cell? ⟨gb191, 3, none⟩ = some (.slice A0_3 l0_3.length c0_3) := (blk_cell BK191.out 3).trans rfl
              have hfz42_0 := blk_frozen BK191.out 0
              have hfz42_1 := blk_frozen BK191.out 1
              have hfz42_2 := blk_frozen BK191.out 2
              have hfz42_3 := blk_frozen BK191.out 3
              go_wp2
              go_meet
              case rel => exact ⟨_, (((l0_3.length : Int) == 2)), (by first | rfl | (simp; done) | (simp [*]; done) | (simp; exact isEmpty_ne _)), H', ⟨by first | omega | exact Nat.le_refl _⟩, ⟨by (with_reducible repeat (first | refine blk_drewN ?_ _ | refine blk_drew ?_ | refine blk_alloc ?_ _)); exact BK191.out⟩, ⟨by repeat (first | (with_reducible first | exact HB.out | apply below_alloc | apply pw_below_drewN | apply below_drew1 | refine below_set ?_ GE191.out) | exact HB.out)⟩⟩
            · rw [if_neg c41] at H
              have c41b0 : (a0_0 == 4) = false := beq_eq_false_iff_ne.mpr c41
              have c41b1 : (a0_0 != 4) = true := bne_iff_ne.mpr c41
              (first | rw [c41b0] | (simp only [i64_w, i32_w]; rw [c41b0]) | skip)
              by_cases c43 : a0_0 = 5
              · rw [if_pos c43] at H
                have c43b0 : (a0_0 == 5) = true := beq_iff_eq.mpr c43
                have c43b1 : (a0_0 != 5) = false := bne_eq_false_iff_eq.mpr c43
                clear c43
                have H' := Aside0.mk H
                clear H
                have hcz44_0 : w39.cell? ⟨gb191, 0, none⟩ = some (.int .i64 a0_0) := (blk_cell BK191.out 0).trans rfl
                have hcz44_1 : w39.cell? ⟨gb191, 1, none⟩ = some (.string a0_1) := (blk_cell BK191.out 1).trans rfl
                have hcz44_2 : w39.cell? ⟨gb191, 2, none⟩ = some (.int .i64 a0_2) := (blk_cell BK191.out 2).trans rfl
                have hcz44_3 : w39.cell? ⟨gb191, 3, none⟩ = some (.slice A0_3 l0_3.length c0_3) := (blk_cell BK191.out 3).trans rfl
                have hfz44_0 := blk_frozen BK191.out 0
                have hfz44_1 := blk_frozen BK191.out 1
                have hfz44_2 := blk_frozen BK191.out 2
                have hfz44_3 := blk_frozen BK191.out 3
                go_wp2
                go_meet
                case rel => exact ⟨_, (((l0_3.length : Int) == 2)), (by first | rfl | (simp; done) | (simp [*]; done) | (simp; exact isEmpty_ne _)), H', ⟨by first | omega | exact Nat.le_refl _⟩, ⟨by (with_reducible repeat (first | refine blk_drewN ?_ _ | refine blk_drew ?_ | refine blk_alloc ?_ _)); exact BK191.out⟩, ⟨by repeat (first | (with_reducible first | exact HB.out | apply below_alloc | apply pw_below_drewN | apply below_drew1 | refine below_set ?_ GE191.out) | exact HB.out)⟩⟩
              · rw [if_neg c43] at H
                have c43b0 : (a0_0 == 5) = false := beq_eq_false_iff_ne.mpr c43
                have c43b1 : (a0_0 != 5) = true := bne_iff_ne.mpr c43
                have H' := Aside0.mk H
                clear H
                have hcz45_0 : w39.cell? ⟨gb191, 0, none⟩ = some (.int .i64 a0_0) := (blk_cell BK191.out 0).trans rfl
                have hcz45_1 : w39.cell? ⟨gb191, 1, none⟩ = some (.string a0_1) := (blk_cell BK191.out 1).trans rfl
                have hcz45_2 : w39.cell? ⟨gb191, 2, none⟩ = some (.int .i64 a0_2) := (blk_cell BK191.out 2).trans rfl
                have hcz45_3 : w39.cell? ⟨gb191, 3, none⟩ = some (.slice A0_3 l0_3.length c0_3) := (blk_cell BK191.out 3).trans rfl
                have hfz45_0 := blk_frozen BK191.out 0
                have hfz45_1 := blk_frozen BK191.out 1
                have hfz45_2 := blk_frozen BK191.out 2
                have hfz45_3 := blk_frozen BK191.out 3
                go_wp2
                go_meet
                case rel => exact ⟨_, (false), (by first | rfl | (simp; done) | (simp [*]; done) | (simp; exact isEmpty_ne _)), H', ⟨by first | omega | exact Nat.le_refl _⟩, ⟨by (with_reducible repeat (first | refine blk_drewN ?_ _ | refine blk_drew ?_ | refine blk_alloc ?_ _)); exact BK191.out⟩, ⟨by repeat (first | (with_reducible first | exact HB.out | apply below_alloc | apply pw_below_drewN | apply below_drew1 | refine below_set ?_ GE191.out) | exact HB.out)⟩⟩
          case rest =>
            clear HC38
            try clear c1
            try clear p1
            try clear q1
            try clear hx1
            try clear c2
            try clear c2b0
            try clear c2b1
            try clear p2
            try clear c3
            try clear c4
            try clear c5
            try clear c5b0
            try clear c5b1
            try clear p6
            try clear c10
            try clear c10b0
            try clear c10b1
            try clear c11
            try clear c11b0
            try clear c11b1
            try clear c11b2
            try clear c12
            try clear c12b0
            try clear c12b1
            try clear c12b2
            try clear c14
            try clear c14b0
            try clear c14b1
            try clear c14b2
            try clear c15
            try clear c15b0
            try clear c15b1
            try clear c15b2
            try clear c19
            try clear p19
            try clear q19
            try clear hx19
            try clear c20
            try clear c20b0
            try clear c20b1
            try clear c23
            try clear c23b0
            try clear c24
            try clear c24b0
            try clear c25
            try clear c25b0
            try clear c25b1
            try clear c25b2
            try clear c26
            try clear c26b0
            try clear c28
            try clear c28b0
            try clear c28b1
            try clear c28b2
            try clear c31
            try clear c31b0
            try clear c33
            try clear c33b0
            try clear c33b1
            try clear c33b2
            try clear c36
            try clear c36b0
            try clear c36b1
            try clear c36b2
            try clear c41
            try clear c41b0
            try clear c41b1
            try clear c43
            try clear c43b0
            try clear c43b1
            try clear hcz17_0
            try clear hcz17_1
            try clear hcz17_2
            try clear hcz17_3
            try clear hcz22_0
            try clear hcz22_1
            try clear hcz22_2
            try clear hcz22_3
            try clear hcz29_0
            try clear hcz29_1
            try clear hcz29_2
            try clear hcz29_3
            try clear hcz34_0
            try clear hcz34_1
            try clear hcz34_2
            try clear hcz34_3
            try clear hcz37_0
            try clear hcz37_1
            try clear hcz37_2
            try clear hcz37_3
            try clear hcz40_0
            try clear hcz40_1
            try clear hcz40_2
            try clear hcz40_3
            try clear hcz42_0
            try clear hcz42_1
            try clear hcz42_2
            try clear hcz42_3
            try clear hcz44_0
            try clear hcz44_1
            try clear hcz44_2
            try clear hcz44_3
            try clear hcz45_0
            try clear hcz45_1
            try clear hcz45_2
            try clear hcz45_3
            try clear hcz4_0
            try clear hcz4_1
            try clear hcz4_2
            try clear hcz4_3
            try clear hcz8_0
            try clear hcz8_1
            try clear hcz8_2
            try clear hcz8_3
            try clear hfz17_0
            try clear hfz17_1
            try clear hfz17_2
            try clear hfz17_3
            try clear hfz22_0
            try clear hfz22_1
            try clear hfz22_2
            try clear hfz22_3
            try clear hfz29_0
            try clear hfz29_1
            try clear hfz29_2
            try clear hfz29_3
            try clear hfz34_0
            try clear hfz34_1
            try clear hfz34_2
            try clear hfz34_3
            try clear hfz37_0
            try clear hfz37_1
            try clear hfz37_2
            try clear hfz37_3
            try clear hfz40_0
            try clear hfz40_1
            try clear hfz40_2
            try clear hfz40_3
            try clear hfz42_0
            try clear hfz42_1
            try clear hfz42_2
            try clear hfz42_3
            try clear hfz44_0
            try clear hfz44_1
            try clear hfz44_2
            try clear hfz44_3
            try clear hfz45_0
            try clear hfz45_1
            try clear hfz45_2
            try clear hfz45_3
            try clear hfz4_0
            try clear hfz4_1
            try clear hfz4_2
            try clear hfz4_3
            try clear hfz8_0
            try clear hfz8_1
            try clear hfz8_2
            try clear hfz8_3
            try clear hx194_0
            try clear hx194_1
            try clear hx194_2
            try clear hx194_3
            try clear hx196_0
            try clear hx196_1
            try clear hx196_2
            try clear hx196_3
            try clear p194
            try clear p196
            try clear p2
            try clear q194
            try clear q196
            obtain ⟨kq, x64_37, rfl, HA, HJ37, BK191, HB⟩ := hcut
            cases kq with
            | zero => exact absurd HA.out (by simp [legateref08_Text.j1])
            | succ kj37 =>
              have H := HA.out
              clear HA
              simp only [legateref08_Text.j1] at H
              by_cases c46 : x64_37 = true
              · subst c46
                have H1 : (if a0_0 = 5 then (if 0 < (l0_3.length : Int) then ((legateref08_Text.f kj37 ((rd_T25 l0_3 0).f0) ((rd_T25 l0_3 0).f1) ((rd_T25 l0_3 0).f2) ((rd_T25 l0_3 0).f3)).bind fun t199 => (if 4 + t199.size ≤ 9223372036854775807 then (if ((⟨#[115, 117, 109, 40]⟩ : ByteArray) ++ t199).size + 1 ≤ 9223372036854775807 then ((legateref08_Digits.f kj37 a0_2).bind fun t200 => (if (((⟨#[115, 117, 109, 40]⟩ : ByteArray) ++ t199) ++ (⟨#[32]⟩ : ByteArray)).size + t200.size ≤ 9223372036854775807 then (if ((((⟨#[115, 117, 109, 40]⟩ : ByteArray) ++ t199) ++ (⟨#[32]⟩ : ByteArray)) ++ t200).size + 1 ≤ 9223372036854775807 then (if 1 < (l0_3.length : Int) then ((legateref08_Text.f kj37 ((rd_T25 l0_3 1).f0) ((rd_T25 l0_3 1).f1) ((rd_T25 l0_3 1).f2) ((rd_T25 l0_3 1).f3)).bind fun t202 => (if (((((⟨#[115, 117, 109, 40]⟩ : ByteArray) ++ t199) ++ (⟨#[32]⟩ : ByteArray)) ++ t200) ++ (⟨#[32]⟩ : ByteArray)).size + t202.size ≤ 9223372036854775807 then (if ((((((⟨#[115, 117, 109, 40]⟩ : ByteArray) ++ t199) ++ (⟨#[32]⟩ : ByteArray)) ++ t200) ++ (⟨#[32]⟩ : ByteArray)) ++ t202).size + 1 ≤ 9223372036854775807 then (some (((((((⟨#[115, 117, 109, 40]⟩ : ByteArray) ++ t199) ++ (⟨#[32]⟩ : ByteArray)) ++ t200) ++ (⟨#[32]⟩ : ByteArray)) ++ t202) ++ (⟨#[41]⟩ : ByteArray))) else (none)) else (none))) else (none)) else (none)) else (none))) else (none)) else (none))) else (none)) else (if 0 < (l0_3.length : Int) then ((legateref08_Text.f kj37 ((rd_T25 l0_3 0).f0) ((rd_T25 l0_3 0).f1) ((rd_T25 l0_3 0).f2) ((rd_T25 l0_3 0).f3)).bind fun t204 => (if 5 + t204.size ≤ 9223372036854775807 then (if ((⟨#[115, 101, 97, 108, 40]⟩ : ByteArray) ++ t204).size + 1 ≤ 9223372036854775807 then ((legateref08_Digits.f kj37 a0_2).bind fun t205 => (if (((⟨#[115, 101, 97, 108, 40]⟩ : ByteArray) ++ t204) ++ (⟨#[32]⟩ : ByteArray)).size + t205.size ≤ 9223372036854775807 then (if ((((⟨#[115, 101, 97, 108, 40]⟩ : ByteArray) ++ t204) ++ (⟨#[32]⟩ : ByteArray)) ++ t205).size + 1 ≤ 9223372036854775807 then (if 1 < (l0_3.length : Int) then ((legateref08_Text.f kj37 ((rd_T25 l0_3 1).f0) ((rd_T25 l0_3 1).f1) ((rd_T25 l0_3 1).f2) ((rd_T25 l0_3 1).f3)).bind fun t207 => (if (((((⟨#[115, 101, 97, 108, 40]⟩ : ByteArray) ++ t204) ++ (⟨#[32]⟩ : ByteArray)) ++ t205) ++ (⟨#[32]⟩ : ByteArray)).size + t207.size ≤ 9223372036854775807 then (if ((((((⟨#[115, 101, 97, 108, 40]⟩ : ByteArray) ++ t204) ++ (⟨#[32]⟩ : ByteArray)) ++ t205) ++ (⟨#[32]⟩ : ByteArray)) ++ t207).size + 1 ≤ 9223372036854775807 then (some (((((((⟨#[115, 101, 97, 108, 40]⟩ : ByteArray) ++ t204) ++ (⟨#[32]⟩ : ByteArray)) ++ t205) ++ (⟨#[32]⟩ : ByteArray)) ++ t207) ++ (⟨#[41]⟩ : ByteArray))) else (none)) else (none))) else (none)) else (none)) else (none))) else (none)) else (none))) else (none))) = some r := by rw [if_pos rfl] at H; exact H
                clear H
                have H := H1
                clear H1
                by_cases c47 : a0_0 = 5
                · rw [if_pos c47] at H
                  have c47b0 : (a0_0 == 5) = true := beq_iff_eq.mpr c47
                  have c47b1 : (a0_0 != 5) = false := bne_eq_false_iff_eq.mpr c47
                  clear c47
                  by_cases c48 : 0 < (l0_3.length : Int)
                  · rw [if_pos c48] at H
                    have c48b0 : decide (0 < (l0_3.length : Int)) = true := decide_eq_true c48
                    have c48b1 : decide (0 < l0_3.length) = true := decide_eq_true (by omega)
                    clear c48
                    replace H := Option.bind_eq_some_iff.mp H
                    obtain ⟨t199, A490, H⟩ := H
                    replace H : (if 4 + t199.size ≤ 9223372036854775807 then (if ((⟨#[115, 117, 109, 40]⟩ : ByteArray) ++ t199).size + 1 ≤ 9223372036854775807 then ((legateref08_Digits.f kj37 a0_2).bind fun t200 => (if (((⟨#[115, 117, 109, 40]⟩ : ByteArray) ++ t199) ++ (⟨#[32]⟩ : ByteArray)).size + t200.size ≤ 9223372036854775807 then (if ((((⟨#[115, 117, 109, 40]⟩ : ByteArray) ++ t199) ++ (⟨#[32]⟩ : ByteArray)) ++ t200).size + 1 ≤ 9223372036854775807 then (if 1 < (l0_3.length : Int) then ((legateref08_Text.f kj37 ((rd_T25 l0_3 1).f0) ((rd_T25 l0_3 1).f1) ((rd_T25 l0_3 1).f2) ((rd_T25 l0_3 1).f3)).bind fun t202 => (if (((((⟨#[115, 117, 109, 40]⟩ : ByteArray) ++ t199) ++ (⟨#[32]⟩ : ByteArray)) ++ t200) ++ (⟨#[32]⟩ : ByteArray)).size + t202.size ≤ 9223372036854775807 then (if ((((((⟨#[115, 117, 109, 40]⟩ : ByteArray) ++ t199) ++ (⟨#[32]⟩ : ByteArray)) ++ t200) ++ (⟨#[32]⟩ : ByteArray)) ++ t202).size + 1 ≤ 9223372036854775807 then (some (((((((⟨#[115, 117, 109, 40]⟩ : ByteArray) ++ t199) ++ (⟨#[32]⟩ : ByteArray)) ++ t200) ++ (⟨#[32]⟩ : ByteArray)) ++ t202) ++ (⟨#[41]⟩ : ByteArray))) else (none)) else (none))) else (none)) else (none)) else (none))) else (none)) else (none)) = some r := H
                    have A49 := Aside0.mk A490
                    clear A490
                    by_cases c50 : 4 + t199.size ≤ 9223372036854775807
                    · rw [if_pos c50] at H
                      have c50b0 := eq_true c50
                      have c50b1 : decide (4 + t199.size ≤ 9223372036854775807) = true := decide_eq_true c50
                      try have c50b2 : (9223372036854775807 < 4 + t199.size) = False := eq_false (Nat.not_lt.2 c50)
                      have c50b3 := Nat.not_lt.2 c50
                      try simp only [ByteArray.size_append, show (⟨#[32]⟩ : ByteArray).size = 1 from rfl, show (⟨#[41]⟩ : ByteArray).size = 1 from rfl, show (⟨#[91]⟩ : ByteArray).size = 1 from rfl, show (⟨#[93]⟩ : ByteArray).size = 1 from rfl, show (⟨#[107, 101, 121, 40]⟩ : ByteArray).size = 4 from rfl, show (⟨#[115, 117, 109, 40]⟩ : ByteArray).size = 4 from rfl, show (⟨#[115, 101, 97, 108, 40]⟩ : ByteArray).size = 5 from rfl] at c50b3
                      by_cases c51 : ((⟨#[115, 117, 109, 40]⟩ : ByteArray) ++ t199).size + 1 ≤ 9223372036854775807
                      · rw [if_pos c51] at H
                        have c51b0 := eq_true c51
                        have c51b1 : decide (((⟨#[115, 117, 109, 40]⟩ : ByteArray) ++ t199).size + 1 ≤ 9223372036854775807) = true := decide_eq_true c51
                        try have c51b2 : (9223372036854775807 < ((⟨#[115, 117, 109, 40]⟩ : ByteArray) ++ t199).size + 1) = False := eq_false (Nat.not_lt.2 c51)
                        have c51b3 := Nat.not_lt.2 c51
                        try simp only [ByteArray.size_append, show (⟨#[32]⟩ : ByteArray).size = 1 from rfl, show (⟨#[41]⟩ : ByteArray).size = 1 from rfl, show (⟨#[91]⟩ : ByteArray).size = 1 from rfl, show (⟨#[93]⟩ : ByteArray).size = 1 from rfl, show (⟨#[107, 101, 121, 40]⟩ : ByteArray).size = 4 from rfl, show (⟨#[115, 117, 109, 40]⟩ : ByteArray).size = 4 from rfl, show (⟨#[115, 101, 97, 108, 40]⟩ : ByteArray).size = 5 from rfl] at c51b3
                        replace H := Option.bind_eq_some_iff.mp H
                        obtain ⟨t200, A520, H⟩ := H
                        replace H : (if (((⟨#[115, 117, 109, 40]⟩ : ByteArray) ++ t199) ++ (⟨#[32]⟩ : ByteArray)).size + t200.size ≤ 9223372036854775807 then (if ((((⟨#[115, 117, 109, 40]⟩ : ByteArray) ++ t199) ++ (⟨#[32]⟩ : ByteArray)) ++ t200).size + 1 ≤ 9223372036854775807 then (if 1 < (l0_3.length : Int) then ((legateref08_Text.f kj37 ((rd_T25 l0_3 1).f0) ((rd_T25 l0_3 1).f1) ((rd_T25 l0_3 1).f2) ((rd_T25 l0_3 1).f3)).bind fun t202 => (if (((((⟨#[115, 117, 109, 40]⟩ : ByteArray) ++ t199) ++ (⟨#[32]⟩ : ByteArray)) ++ t200) ++ (⟨#[32]⟩ : ByteArray)).size + t202.size ≤ 9223372036854775807 then (if ((((((⟨#[115, 117, 109, 40]⟩ : ByteArray) ++ t199) ++ (⟨#[32]⟩ : ByteArray)) ++ t200) ++ (⟨#[32]⟩ : ByteArray)) ++ t202).size + 1 ≤ 9223372036854775807 then (some (((((((⟨#[115, 117, 109, 40]⟩ : ByteArray) ++ t199) ++ (⟨#[32]⟩ : ByteArray)) ++ t200) ++ (⟨#[32]⟩ : ByteArray)) ++ t202) ++ (⟨#[41]⟩ : ByteArray))) else (none)) else (none))) else (none)) else (none)) else (none)) = some r := H
                        have A52 := Aside0.mk A520
                        clear A520
                        by_cases c53 : (((⟨#[115, 117, 109, 40]⟩ : ByteArray) ++ t199) ++ (⟨#[32]⟩ : ByteArray)).size + t200.size ≤ 9223372036854775807
                        · rw [if_pos c53] at H
                          have c53b0 := eq_true c53
                          have c53b1 : decide ((((⟨#[115, 117, 109, 40]⟩ : ByteArray) ++ t199) ++ (⟨#[32]⟩ : ByteArray)).size + t200.size ≤ 9223372036854775807) = true := decide_eq_true c53
                          try have c53b2 : (9223372036854775807 < (((⟨#[115, 117, 109, 40]⟩ : ByteArray) ++ t199) ++ (⟨#[32]⟩ : ByteArray)).size + t200.size) = False := eq_false (Nat.not_lt.2 c53)
                          have c53b3 := Nat.not_lt.2 c53
                          try simp only [ByteArray.size_append, show (⟨#[32]⟩ : ByteArray).size = 1 from rfl, show (⟨#[41]⟩ : ByteArray).size = 1 from rfl, show (⟨#[91]⟩ : ByteArray).size = 1 from rfl, show (⟨#[93]⟩ : ByteArray).size = 1 from rfl, show (⟨#[107, 101, 121, 40]⟩ : ByteArray).size = 4 from rfl, show (⟨#[115, 117, 109, 40]⟩ : ByteArray).size = 4 from rfl, show (⟨#[115, 101, 97, 108, 40]⟩ : ByteArray).size = 5 from rfl] at c53b3
                          by_cases c54 : ((((⟨#[115, 117, 109, 40]⟩ : ByteArray) ++ t199) ++ (⟨#[32]⟩ : ByteArray)) ++ t200).size + 1 ≤ 9223372036854775807
                          · rw [if_pos c54] at H
                            have c54b0 := eq_true c54
                            have c54b1 : decide (((((⟨#[115, 117, 109, 40]⟩ : ByteArray) ++ t199) ++ (⟨#[32]⟩ : ByteArray)) ++ t200).size + 1 ≤ 9223372036854775807) = true := decide_eq_true c54
                            try have c54b2 : (9223372036854775807 < ((((⟨#[115, 117, 109, 40]⟩ : ByteArray) ++ t199) ++ (⟨#[32]⟩ : ByteArray)) ++ t200).size + 1) = False := eq_false (Nat.not_lt.2 c54)
                            have c54b3 := Nat.not_lt.2 c54
                            try simp only [ByteArray.size_append, show (⟨#[32]⟩ : ByteArray).size = 1 from rfl, show (⟨#[41]⟩ : ByteArray).size = 1 from rfl, show (⟨#[91]⟩ : ByteArray).size = 1 from rfl, show (⟨#[93]⟩ : ByteArray).size = 1 from rfl, show (⟨#[107, 101, 121, 40]⟩ : ByteArray).size = 4 from rfl, show (⟨#[115, 117, 109, 40]⟩ : ByteArray).size = 4 from rfl, show (⟨#[115, 101, 97, 108, 40]⟩ : ByteArray).size = 5 from rfl] at c54b3
                            by_cases c55 : 1 < (l0_3.length : Int)
                            · rw [if_pos c55] at H
                              have c55b0 : decide (1 < (l0_3.length : Int)) = true := decide_eq_true c55
                              have c55b1 : decide (1 < l0_3.length) = true := decide_eq_true (by omega)
                              clear c55
                              replace H := Option.bind_eq_some_iff.mp H
                              obtain ⟨t202, A560, H⟩ := H
                              replace H : (if (((((⟨#[115, 117, 109, 40]⟩ : ByteArray) ++ t199) ++ (⟨#[32]⟩ : ByteArray)) ++ t200) ++ (⟨#[32]⟩ : ByteArray)).size + t202.size ≤ 9223372036854775807 then (if ((((((⟨#[115, 117, 109, 40]⟩ : ByteArray) ++ t199) ++ (⟨#[32]⟩ : ByteArray)) ++ t200) ++ (⟨#[32]⟩ : ByteArray)) ++ t202).size + 1 ≤ 9223372036854775807 then (some (((((((⟨#[115, 117, 109, 40]⟩ : ByteArray) ++ t199) ++ (⟨#[32]⟩ : ByteArray)) ++ t200) ++ (⟨#[32]⟩ : ByteArray)) ++ t202) ++ (⟨#[41]⟩ : ByteArray))) else (none)) else (none)) = some r := H
                              have A56 := Aside0.mk A560
                              clear A560
                              by_cases c57 : (((((⟨#[115, 117, 109, 40]⟩ : ByteArray) ++ t199) ++ (⟨#[32]⟩ : ByteArray)) ++ t200) ++ (⟨#[32]⟩ : ByteArray)).size + t202.size ≤ 9223372036854775807
                              · rw [if_pos c57] at H
                                have c57b0 := eq_true c57
                                have c57b1 : decide ((((((⟨#[115, 117, 109, 40]⟩ : ByteArray) ++ t199) ++ (⟨#[32]⟩ : ByteArray)) ++ t200) ++ (⟨#[32]⟩ : ByteArray)).size + t202.size ≤ 9223372036854775807) = true := decide_eq_true c57
                                try have c57b2 : (9223372036854775807 < (((((⟨#[115, 117, 109, 40]⟩ : ByteArray) ++ t199) ++ (⟨#[32]⟩ : ByteArray)) ++ t200) ++ (⟨#[32]⟩ : ByteArray)).size + t202.size) = False := eq_false (Nat.not_lt.2 c57)
                                have c57b3 := Nat.not_lt.2 c57
                                try simp only [ByteArray.size_append, show (⟨#[32]⟩ : ByteArray).size = 1 from rfl, show (⟨#[41]⟩ : ByteArray).size = 1 from rfl, show (⟨#[91]⟩ : ByteArray).size = 1 from rfl, show (⟨#[93]⟩ : ByteArray).size = 1 from rfl, show (⟨#[107, 101, 121, 40]⟩ : ByteArray).size = 4 from rfl, show (⟨#[115, 117, 109, 40]⟩ : ByteArray).size = 4 from rfl, show (⟨#[115, 101, 97, 108, 40]⟩ : ByteArray).size = 5 from rfl] at c57b3
                                by_cases c58 : ((((((⟨#[115, 117, 109, 40]⟩ : ByteArray) ++ t199) ++ (⟨#[32]⟩ : ByteArray)) ++ t200) ++ (⟨#[32]⟩ : ByteArray)) ++ t202).size + 1 ≤ 9223372036854775807
                                · rw [if_pos c58] at H
                                  have c58b0 := eq_true c58
                                  have c58b1 : decide (((((((⟨#[115, 117, 109, 40]⟩ : ByteArray) ++ t199) ++ (⟨#[32]⟩ : ByteArray)) ++ t200) ++ (⟨#[32]⟩ : ByteArray)) ++ t202).size + 1 ≤ 9223372036854775807) = true := decide_eq_true c58
                                  try have c58b2 : (9223372036854775807 < ((((((⟨#[115, 117, 109, 40]⟩ : ByteArray) ++ t199) ++ (⟨#[32]⟩ : ByteArray)) ++ t200) ++ (⟨#[32]⟩ : ByteArray)) ++ t202).size + 1) = False := eq_false (Nat.not_lt.2 c58)
                                  have c58b3 := Nat.not_lt.2 c58
                                  try simp only [ByteArray.size_append, show (⟨#[32]⟩ : ByteArray).size = 1 from rfl, show (⟨#[41]⟩ : ByteArray).size = 1 from rfl, show (⟨#[91]⟩ : ByteArray).size = 1 from rfl, show (⟨#[93]⟩ : ByteArray).size = 1 from rfl, show (⟨#[107, 101, 121, 40]⟩ : ByteArray).size = 4 from rfl, show (⟨#[115, 117, 109, 40]⟩ : ByteArray).size = 4 from rfl, show (⟨#[115, 101, 97, 108, 40]⟩ : ByteArray).size = 5 from rfl] at c58b3
                                  obtain rfl := Option.some.inj H
                                  have hcz59_0 : wc.cell? ⟨gb191, 0, none⟩ = some (.int .i64 a0_0) := (blk_cell BK191.out 0).trans rfl
                                  have hcz59_1 : wc.cell? ⟨gb191, 1, none⟩ = some (.string a0_1) := (blk_cell BK191.out 1).trans rfl
                                  have hcz59_2 : wc.cell? ⟨gb191, 2, none⟩ = some (.int .i64 a0_2) := (blk_cell BK191.out 2).trans rfl
                                  have hcz59_3 : wc.cell? ⟨gb191, 3, none⟩ = some (.slice A0_3 l0_3.length c0_3) := (blk_cell BK191.out 3).trans rfl
                                  have hfz59_0 := blk_frozen BK191.out 0
                                  have hfz59_1 := blk_frozen BK191.out 1
                                  have hfz59_2 := blk_frozen BK191.out 2
                                  have hfz59_3 := blk_frozen BK191.out 3
                                  try go_wp2
                                  have n0_ := Aside0.mk (blk_drew BK191.out)
                                  have n1_ := Aside0.mk (below_drew1 HB.out)
                                  clear BK191
                                  clear HB
                                  have BK191 := n0_
                                  have HB := n1_
                                  clear n0_ n1_
                                  have p198 : 0 ≤ (0 : Int) := (by omega)
                                  have q198 : 0 < (l0_3.length : Int) := of_decide_eq_true (by first | (with_reducible assumption) | assumption)
                                  obtain ⟨ad198, A198_3, c198_3, e198, hx198_0, hx198_1, hx198_2, hx198_3, hl198_3, hi198_3⟩ := at_T25 HR0_3.out 0 p198 q198
                                  have hw198_3 := hx198_3
                                  (try rw [show ((0 : Int)).toNat = 0 from rfl] at hw198_3)
                                  (try rw [show 0 * 4 = 0 from rfl] at hw198_3)
                                  (try rw [Addr.add_zero'] at hw198_3)
                                  have hw198_2 := hx198_2
                                  (try rw [show ((0 : Int)).toNat = 0 from rfl] at hw198_2)
                                  (try rw [show 0 * 4 = 0 from rfl] at hw198_2)
                                  (try rw [Addr.add_zero'] at hw198_2)
                                  have hw198_1 := hx198_1
                                  (try rw [show ((0 : Int)).toNat = 0 from rfl] at hw198_1)
                                  (try rw [show 0 * 4 = 0 from rfl] at hw198_1)
                                  (try rw [Addr.add_zero'] at hw198_1)
                                  have hw198_0 := hx198_0
                                  (try rw [show ((0 : Int)).toNat = 0 from rfl] at hw198_0)
                                  (try rw [show 0 * 4 = 0 from rfl] at hw198_0)
                                  (try rw [Addr.add_zero'] at hw198_0)
                                  cases e198
                                  have qi198 : (0 < l0_3.length) = True := eq_true (by omega)
                                  (try rw [show ((0 : Int)).toNat = 0 from rfl] at hx198_0)
                                  (try rw [show 0 * 4 = 0 from rfl] at hx198_0)
                                  (try rw [Addr.add_zero'] at hx198_0)
                                  (try rw [show ((0 : Int)).toNat = 0 from rfl] at hx198_1)
                                  (try rw [show 0 * 4 = 0 from rfl] at hx198_1)
                                  (try rw [Addr.add_zero'] at hx198_1)
                                  (try rw [show ((0 : Int)).toNat = 0 from rfl] at hx198_2)
                                  (try rw [show 0 * 4 = 0 from rfl] at hx198_2)
                                  (try rw [Addr.add_zero'] at hx198_2)
                                  (try rw [show ((0 : Int)).toNat = 0 from rfl] at hx198_3)
                                  (try rw [show 0 * 4 = 0 from rfl] at hx198_3)
                                  (try rw [Addr.add_zero'] at hx198_3)
                                  replace hx198_0 := (HB.out.cell (World.block_lt_of_cell? w _ hx198_0)).trans hx198_0
                                  replace hx198_1 := (HB.out.cell (World.block_lt_of_cell? w _ hx198_1)).trans hx198_1
                                  replace hx198_2 := (HB.out.cell (World.block_lt_of_cell? w _ hx198_2)).trans hx198_2
                                  replace hx198_3 := (HB.out.cell (World.block_lt_of_cell? w _ hx198_3)).trans hx198_3
                                  have HR198_3 := Aside0.mk hi198_3
                                  have HC198_3 := Aside0.mk hl198_3
                                  clear hi198_3 hl198_3
                                  replace p198 := eq_true p198
                                  replace q198 := eq_true q198
                                  have p201 : 0 ≤ (1 : Int) := (by omega)
                                  have q201 : 1 < (l0_3.length : Int) := of_decide_eq_true (by first | (with_reducible assumption) | assumption)
                                  obtain ⟨ad201, A201_3, c201_3, e201, hx201_0, hx201_1, hx201_2, hx201_3, hl201_3, hi201_3⟩ := at_T25 HR0_3.out 1 p201 q201
                                  have hw201_3 := hx201_3
                                  (try rw [show ((1 : Int)).toNat = 1 from rfl] at hw201_3)
                                  (try rw [show 1 * 4 = 4 from rfl] at hw201_3)
                                  (try simp only [Nat.reduceMul, Nat.reduceEqDiff, Go.Addr.add, ↓reduceIte] at hw201_3)
                                  have hw201_2 := hx201_2
                                  (try rw [show ((1 : Int)).toNat = 1 from rfl] at hw201_2)
                                  (try rw [show 1 * 4 = 4 from rfl] at hw201_2)
                                  (try simp only [Nat.reduceMul, Nat.reduceEqDiff, Go.Addr.add, ↓reduceIte] at hw201_2)
                                  have hw201_1 := hx201_1
                                  (try rw [show ((1 : Int)).toNat = 1 from rfl] at hw201_1)
                                  (try rw [show 1 * 4 = 4 from rfl] at hw201_1)
                                  (try simp only [Nat.reduceMul, Nat.reduceEqDiff, Go.Addr.add, ↓reduceIte] at hw201_1)
                                  have hw201_0 := hx201_0
                                  (try rw [show ((1 : Int)).toNat = 1 from rfl] at hw201_0)
                                  (try rw [show 1 * 4 = 4 from rfl] at hw201_0)
                                  (try simp only [Nat.reduceMul, Nat.reduceEqDiff, Go.Addr.add, ↓reduceIte] at hw201_0)
                                  obtain rfl : ad198 = ad201 := (by injection e201)
                                  (try simp only [show (1 : Int).toNat = 1 from rfl, Nat.reduceMul, Nat.reduceEqDiff, Go.Addr.add, ↓reduceIte] at hx201_0)
                                  (try simp only [show (1 : Int).toNat = 1 from rfl, Nat.reduceMul, Nat.reduceEqDiff, Go.Addr.add, ↓reduceIte] at hx201_1)
                                  (try simp only [show (1 : Int).toNat = 1 from rfl, Nat.reduceMul, Nat.reduceEqDiff, Go.Addr.add, ↓reduceIte] at hx201_2)
                                  (try simp only [show (1 : Int).toNat = 1 from rfl, Nat.reduceMul, Nat.reduceEqDiff, Go.Addr.add, ↓reduceIte] at hx201_3)
                                  have qi201 : (1 < l0_3.length) = True := eq_true (by omega)
                                  (try rw [show ((1 : Int)).toNat = 1 from rfl] at hx201_0)
                                  (try rw [show 1 * 4 = 4 from rfl] at hx201_0)
                                  (try rw [show ((1 : Int)).toNat = 1 from rfl] at hx201_1)
                                  (try rw [show 1 * 4 = 4 from rfl] at hx201_1)
                                  (try rw [show ((1 : Int)).toNat = 1 from rfl] at hx201_2)
                                  (try rw [show 1 * 4 = 4 from rfl] at hx201_2)
                                  (try rw [show ((1 : Int)).toNat = 1 from rfl] at hx201_3)
                                  (try rw [show 1 * 4 = 4 from rfl] at hx201_3)
                                  replace hx201_0 := (HB.out.cell (World.block_lt_of_cell? w _ hx201_0)).trans hx201_0
                                  replace hx201_1 := (HB.out.cell (World.block_lt_of_cell? w _ hx201_1)).trans hx201_1
                                  replace hx201_2 := (HB.out.cell (World.block_lt_of_cell? w _ hx201_2)).trans hx201_2
                                  replace hx201_3 := (HB.out.cell (World.block_lt_of_cell? w _ hx201_3)).trans hx201_3
                                  have HR201_3 := Aside0.mk hi201_3
                                  have HC201_3 := Aside0.mk hl201_3
                                  clear hi201_3 hl201_3
                                  replace p201 := eq_true p201
                                  replace q201 := eq_true q201
                                  refine start_ (n := 21) (S := fun w' => w'.cell? ⟨gb191, 0, none⟩ = some (.int .i64 a0_0) ∧ w'.cell? ⟨gb191, 1, none⟩ = some (.string a0_1) ∧ w'.cell? ⟨gb191, 2, none⟩ = some (.int .i64 a0_2) ∧ w'.cell? ⟨gb191, 3, none⟩ = some (.slice (some ad198) l0_3.length c0_3) ∧ w'.cell? ad198 = some (.int .i64 ((rd_T25 l0_3 0).f0)) ∧ w'.cell? ⟨ad198.block, ad198.off + 1, none⟩ = some (.string ((rd_T25 l0_3 0).f1)) ∧ w'.cell? ⟨ad198.block, ad198.off + 2, none⟩ = some (.int .i64 ((rd_T25 l0_3 0).f2)) ∧ w'.cell? ⟨ad198.block, ad198.off + 3, none⟩ = some (.slice A198_3 ((rd_T25 l0_3 0).f3).length c198_3) ∧ w'.cell? ⟨ad198.block, ad198.off + 4, none⟩ = some (.int .i64 ((rd_T25 l0_3 1).f0)) ∧ w'.cell? ⟨ad198.block, ad198.off + 4 + 1, none⟩ = some (.string ((rd_T25 l0_3 1).f1)) ∧ w'.cell? ⟨ad198.block, ad198.off + 4 + 2, none⟩ = some (.int .i64 ((rd_T25 l0_3 1).f2)) ∧ w'.cell? ⟨ad198.block, ad198.off + 4 + 3, none⟩ = some (.slice A201_3 ((rd_T25 l0_3 1).f3).length c201_3)) (ds := []) #[false, false, false, false, false, false, false, false, false, false, false, false, false, false, false, false, false, false, false, false, false] (by kernel_rfl) rfl rfl ⟨(blk_cell BK191.out 0).trans rfl, (blk_cell BK191.out 1).trans rfl, (blk_cell BK191.out 2).trans rfl, (blk_cell BK191.out 3).trans rfl, ((HB.out.cell (World.block_lt_of_cell? w _ hw198_0)).trans hw198_0), ((HB.out.cell (World.block_lt_of_cell? w _ hw198_1)).trans hw198_1), ((HB.out.cell (World.block_lt_of_cell? w _ hw198_2)).trans hw198_2), ((HB.out.cell (World.block_lt_of_cell? w _ hw198_3)).trans hw198_3), ((HB.out.cell (World.block_lt_of_cell? w _ hw201_0)).trans hw201_0), ((HB.out.cell (World.block_lt_of_cell? w _ hw201_1)).trans hw201_1), ((HB.out.cell (World.block_lt_of_cell? w _ hw201_2)).trans hw201_2), ((HB.out.cell (World.block_lt_of_cell? w _ hw201_3)).trans hw201_3)⟩ (fun hHeld => ?_); refine with_tabW legateref08_Text.tab21 legateref08_Text.bits21 (fun HT_ HW_ => ?_)
                                  generalize wc.drew = w60 at BK191 HB HR198_3 HR201_3 hx198_0 hx198_1 hx198_2 hx198_3 hx201_0 hx201_1 hx201_2 hx201_3 hHeld ⊢
                                  refine pure_ (i := 0) (N := some 68) (v := ?_) (a' := ?_) #[true, false, false, false, false, false, false, false, false, false, false, false, false, false, false, false, false, false, false, false, false] rfl rfl (any_of HT_.out (by kernel_rfl)) (fun _ _ _ h => h) (Or.inl ⟨by rfl, ?_⟩) ?_ ?_
                                  rotate_left
                                  · intro w'
                                    go_simp
                                    with_reducible rfl
                                  rotate_left
                                  · simp only [Act.put, List.setIfInBounds_toArray, List.set_cons_zero, List.set_cons_succ, i64_w, i32_w]
                                    rfl
                                  refine pure_ (i := 1) (N := some 69) (v := ?_) (a' := ?_) #[true, true, false, false, false, false, false, false, false, false, false, false, false, false, false, false, false, false, false, false, false] rfl rfl (any_of HT_.out (by kernel_rfl)) (fun _ _ _ h => h) (Or.inl ⟨by rfl, ?_⟩) ?_ ?_
                                  rotate_left
                                  · intro w'
                                    go_simp
                                    with_reducible rfl
                                  rotate_left
                                  · simp only [Act.put, List.setIfInBounds_toArray, List.set_cons_zero, List.set_cons_succ, i64_w, i32_w]
                                    rfl
                                  refine pure_ (i := 8) (N := some 76) (v := ?_) (a' := ?_) #[true, true, false, false, false, false, false, false, true, false, false, false, false, false, false, false, false, false, false, false, false] rfl rfl (any_of HT_.out (by kernel_rfl)) (fun _ _ _ h => h) (Or.inl ⟨by rfl, ?_⟩) ?_ ?_
                                  rotate_left
                                  · intro w'
                                    go_simp
                                    with_reducible rfl
                                  rotate_left
                                  · simp only [Act.put, List.setIfInBounds_toArray, List.set_cons_zero, List.set_cons_succ, i64_w, i32_w]
                                    rfl
                                  refine pure_ (i := 13) (N := some 81) (v := ?_) (a' := ?_) #[true, true, false, false, false, false, false, false, true, false, false, false, false, true, false, false, false, false, false, false, false] rfl rfl (any_of HT_.out (by kernel_rfl)) (fun _ _ _ h => h) (Or.inl ⟨by rfl, ?_⟩) ?_ ?_
                                  rotate_left
                                  · intro w'
                                    go_simp
                                    with_reducible rfl
                                  rotate_left
                                  · simp only [Act.put, List.setIfInBounds_toArray, List.set_cons_zero, List.set_cons_succ, i64_w, i32_w]
                                    rfl
                                  refine take_ (i := 2) (N := some 70) (v := ?_) (a' := ?_) #[true, true, true, false, false, false, false, false, true, false, false, false, false, true, false, false, false, false, false, false, false] rfl rfl (take_ofW HT_.out HW_.out (by kernel_rfl)) (fun _ _ _ h => h) (Or.inl ⟨by rfl, ?_⟩) hHeld ?_ ?_
                                  rotate_left
                                  · rintro w' ⟨s0, s1, s2, s3, s4, s5, s6, s7, s8, s9, s10, s11⟩
                                    go_simp
                                    with_reducible rfl
                                  rotate_left
                                  · simp only [Act.put, List.setIfInBounds_toArray, List.set_cons_zero, List.set_cons_succ, i64_w, i32_w]
                                    rfl
                                  refine pure_ (i := 3) (N := some 71) (v := ?_) (a' := ?_) #[true, true, true, true, false, false, false, false, true, false, false, false, false, true, false, false, false, false, false, false, false] rfl rfl (any_of HT_.out (by kernel_rfl)) (fun _ _ _ h => h) (Or.inl ⟨by rfl, ?_⟩) ?_ ?_
                                  rotate_left
                                  · intro w'
                                    go_simp
                                    with_reducible rfl
                                  rotate_left
                                  · simp only [Act.put, List.setIfInBounds_toArray, List.set_cons_zero, List.set_cons_succ, i64_w, i32_w]
                                    rfl
                                  refine take_ (i := 4) (N := some 72) (v := ?_) (a' := ?_) #[true, true, true, true, true, false, false, false, true, false, false, false, false, true, false, false, false, false, false, false, false] rfl rfl (take_ofW HT_.out HW_.out (by kernel_rfl)) (fun _ _ _ h => h) (Or.inl ⟨by rfl, ?_⟩) hHeld ?_ ?_
                                  rotate_left
                                  · rintro w' ⟨s0, s1, s2, s3, s4, s5, s6, s7, s8, s9, s10, s11⟩
                                    go_simp
                                    with_reducible rfl
                                  rotate_left
                                  · simp only [Act.put, List.setIfInBounds_toArray, List.set_cons_zero, List.set_cons_succ, i64_w, i32_w]
                                    rfl
                                  refine take_ (i := 9) (N := some 77) (v := ?_) (a' := ?_) #[true, true, true, true, true, false, false, false, true, true, false, false, false, true, false, false, false, false, false, false, false] rfl rfl (take_ofW HT_.out HW_.out (by kernel_rfl)) (fun _ _ _ h => h) (Or.inl ⟨by rfl, ?_⟩) hHeld ?_ ?_
                                  rotate_left
                                  · rintro w' ⟨s0, s1, s2, s3, s4, s5, s6, s7, s8, s9, s10, s11⟩
                                    go_simp
                                    with_reducible rfl
                                  rotate_left
                                  · simp only [Act.put, List.setIfInBounds_toArray, List.set_cons_zero, List.set_cons_succ, i64_w, i32_w]
                                    rfl
                                  refine take_ (i := 14) (N := some 82) (v := ?_) (a' := ?_) #[true, true, true, true, true, false, false, false, true, true, false, false, false, true, true, false, false, false, false, false, false] rfl rfl (take_ofW HT_.out HW_.out (by kernel_rfl)) (fun _ _ _ h => h) (Or.inl ⟨by rfl, ?_⟩) hHeld ?_ ?_
                                  rotate_left
                                  · rintro w' ⟨s0, s1, s2, s3, s4, s5, s6, s7, s8, s9, s10, s11⟩
                                    go_simp
                                    with_reducible rfl
                                  rotate_left
                                  · simp only [Act.put, List.setIfInBounds_toArray, List.set_cons_zero, List.set_cons_succ, i64_w, i32_w]
                                    rfl
                                  refine pure_ (i := 15) (N := some 83) (v := ?_) (a' := ?_) #[true, true, true, true, true, false, false, false, true, true, false, false, false, true, true, true, false, false, false, false, false] rfl rfl (any_of HT_.out (by kernel_rfl)) (fun _ _ _ h => h) (Or.inl ⟨by rfl, ?_⟩) ?_ ?_
                                  rotate_left
                                  · intro w'
                                    go_simp
                                    with_reducible rfl
                                  rotate_left
                                  · simp only [Act.put, List.setIfInBounds_toArray, List.set_cons_zero, List.set_cons_succ, i64_w, i32_w]
                                    rfl
                                  refine take_ (i := 16) (N := some 84) (v := ?_) (a' := ?_) #[true, true, true, true, true, false, false, false, true, true, false, false, false, true, true, true, true, false, false, false, false] rfl rfl (take_ofW HT_.out HW_.out (by kernel_rfl)) (fun _ _ _ h => h) (Or.inl ⟨by rfl, ?_⟩) hHeld ?_ ?_
                                  rotate_left
                                  · rintro w' ⟨s0, s1, s2, s3, s4, s5, s6, s7, s8, s9, s10, s11⟩
                                    go_simp
                                    with_reducible rfl
                                  rotate_left
                                  · simp only [Act.put, List.setIfInBounds_toArray, List.set_cons_zero, List.set_cons_succ, i64_w, i32_w]
                                    rfl
                                  refine one_ (i := 5) (N := some 73) #[true, true, true, true, true, true, false, false, true, true, false, false, false, true, true, true, true, false, false, false, false] rfl rfl (one_of HT_.out (by kernel_rfl)) (by decide) (fun K hK => ?_)
                                  refine goes_ Tryd.func20 (by kernel_rfl) rfl #[.agg #[.int .i64 ((rd_T25 l0_3 0).f0), .string ((rd_T25 l0_3 0).f1), .int .i64 ((rd_T25 l0_3 0).f2), .slice A198_3 ((rd_T25 l0_3 0).f3).length c198_3]] (by rfl) rfl rfl (by (try simp only [List.map_toArray, List.map_cons, List.map_nil]); first | done | rfl | (simp only [List.length_drop, List.length_take]; rfl) | (exact congrArg Value.bool (decide_eq_decide.2 Int.ofNat_lt.symm)) | (exact congrArg (fun b => #[Value.bool b]) (decide_eq_decide.2 Int.ofNat_lt.symm)) | (simp; done)) ?_
                                  with_reducible refine (ih kj37 (by have := HJ37.out; omega) ((rd_T25 l0_3 0).f0) ((rd_T25 l0_3 0).f1) ((rd_T25 l0_3 0).f2) _ _ ((rd_T25 l0_3 0).f3) t199 _ ?side1 ?side2 A49.out).mono ?_
                                  (case side1 => repeat (first | exact (Kd.C_below HR198_3.out HB.out) | (with_reducible refine Kd.C_alloc ?_ _) | (with_reducible refine Kd.C_drewN ?_ _) | (with_reducible refine Kd.C_drew ?_)))
                                  (case side2 => exact HC198_3.out)
                                  rintro e w61 ⟨rfl, hb⟩
                                  refine ⟨_, rfl, ?_⟩
                                  have n0_ := Aside0.mk (blk_below (g := gb191) (o := .cells #[.int .i64 a0_0, .string a0_1, .int .i64 a0_2, .slice (some ad198) l0_3.length c0_3] 25 (0, 0)) (by (with_reducible repeat (first | refine blk_drewN ?_ _ | refine blk_drew ?_ | refine blk_alloc ?_ _)); exact BK191.out) hb)
                                  have n1_ := Aside0.mk (below_step (by repeat (first | (with_reducible first | exact HB.out | apply below_alloc | apply pw_below_drewN | apply below_drew1 | refine below_set ?_ GE191.out) | exact HB.out)) hb)
                                  clear BK191
                                  clear HB
                                  have BK191 := n0_
                                  have HB := n1_
                                  clear n0_ n1_
                                  (try clear hb)
                                  (try clear hb2)
                                  (try clear hk)
                                  (try clear hi)
                                  refine hK.out _ _ ⟨(blk_cell BK191.out 0).trans rfl, (blk_cell BK191.out 1).trans rfl, (blk_cell BK191.out 2).trans rfl, (blk_cell BK191.out 3).trans rfl, ((HB.out.cell (World.block_lt_of_cell? w _ hw198_0)).trans hw198_0), ((HB.out.cell (World.block_lt_of_cell? w _ hw198_1)).trans hw198_1), ((HB.out.cell (World.block_lt_of_cell? w _ hw198_2)).trans hw198_2), ((HB.out.cell (World.block_lt_of_cell? w _ hw198_3)).trans hw198_3), ((HB.out.cell (World.block_lt_of_cell? w _ hw201_0)).trans hw201_0), ((HB.out.cell (World.block_lt_of_cell? w _ hw201_1)).trans hw201_1), ((HB.out.cell (World.block_lt_of_cell? w _ hw201_2)).trans hw201_2), ((HB.out.cell (World.block_lt_of_cell? w _ hw201_3)).trans hw201_3)⟩ (fun hHeld => ?_)
                                  clear hK K
                                  refine norm_ (a' := ?_) ?_ ?_
                                  rotate_left
                                  · show Act.put _ (some 73) _ = _
                                    simp only [Act.put, List.setIfInBounds_toArray, List.set_cons_zero, List.set_cons_succ, i64_w, i32_w]
                                    rfl
                                  refine pure_ (i := 6) (N := some 74) (v := ?_) (a' := ?_) #[true, true, true, true, true, true, true, false, true, true, false, false, false, true, true, true, true, false, false, false, false] rfl rfl (any_of HT_.out (by kernel_rfl)) (fun _ _ _ h => h) (Or.inl ⟨by rfl, ?_⟩) ?_ ?_
                                  rotate_left
                                  · intro w'
                                    go_simp
                                    with_reducible rfl
                                  rotate_left
                                  · simp only [Act.put, List.setIfInBounds_toArray, List.set_cons_zero, List.set_cons_succ, i64_w, i32_w]
                                    rfl
                                  refine pure_ (i := 7) (N := some 75) (v := ?_) (a' := ?_) #[true, true, true, true, true, true, true, true, true, true, false, false, false, true, true, true, true, false, false, false, false] rfl rfl (any_of HT_.out (by kernel_rfl)) (fun _ _ _ h => h) (Or.inl ⟨by rfl, ?_⟩) ?_ ?_
                                  rotate_left
                                  · intro w'
                                    go_simp
                                    with_reducible rfl
                                  rotate_left
                                  · simp only [Act.put, List.setIfInBounds_toArray, List.set_cons_zero, List.set_cons_succ, i64_w, i32_w]
                                    rfl
                                  refine one_ (i := 10) (N := some 78) #[true, true, true, true, true, true, true, true, true, true, true, false, false, true, true, true, true, false, false, false, false] rfl rfl (one_of HT_.out (by kernel_rfl)) (by decide) (fun K hK => ?_)
                                  refine goes_ Tryd.func52 (by kernel_rfl) rfl #[.int .i64 a0_2] (by rfl) rfl rfl (by (try simp only [List.map_toArray, List.map_cons, List.map_nil]); first | done | rfl | (simp only [List.length_drop, List.length_take]; rfl) | (exact congrArg Value.bool (decide_eq_decide.2 Int.ofNat_lt.symm)) | (exact congrArg (fun b => #[Value.bool b]) (decide_eq_decide.2 Int.ofNat_lt.symm)) | (simp; done)) ?_
                                  with_reducible refine (legateref08_Digits.calls kj37 a0_2 t200 _ A52.out).mono ?_
                                  rintro e w62 ⟨rfl, hb⟩
                                  refine ⟨_, rfl, ?_⟩
                                  have n0_ := Aside0.mk (blk_below (g := gb191) (o := .cells #[.int .i64 a0_0, .string a0_1, .int .i64 a0_2, .slice (some ad198) l0_3.length c0_3] 25 (0, 0)) (by (with_reducible repeat (first | refine blk_drewN ?_ _ | refine blk_drew ?_ | refine blk_alloc ?_ _)); exact BK191.out) hb)
                                  have n1_ := Aside0.mk (below_step (by repeat (first | (with_reducible first | exact HB.out | apply below_alloc | apply pw_below_drewN | apply below_drew1 | refine below_set ?_ GE191.out) | exact HB.out)) hb)
                                  clear BK191
                                  clear HB
                                  have BK191 := n0_
                                  have HB := n1_
                                  clear n0_ n1_
                                  (try clear hb)
                                  (try clear hb2)
                                  (try clear hk)
                                  (try clear hi)
                                  refine hK.out _ _ ⟨(blk_cell BK191.out 0).trans rfl, (blk_cell BK191.out 1).trans rfl, (blk_cell BK191.out 2).trans rfl, (blk_cell BK191.out 3).trans rfl, ((HB.out.cell (World.block_lt_of_cell? w _ hw198_0)).trans hw198_0), ((HB.out.cell (World.block_lt_of_cell? w _ hw198_1)).trans hw198_1), ((HB.out.cell (World.block_lt_of_cell? w _ hw198_2)).trans hw198_2), ((HB.out.cell (World.block_lt_of_cell? w _ hw198_3)).trans hw198_3), ((HB.out.cell (World.block_lt_of_cell? w _ hw201_0)).trans hw201_0), ((HB.out.cell (World.block_lt_of_cell? w _ hw201_1)).trans hw201_1), ((HB.out.cell (World.block_lt_of_cell? w _ hw201_2)).trans hw201_2), ((HB.out.cell (World.block_lt_of_cell? w _ hw201_3)).trans hw201_3)⟩ (fun hHeld => ?_)
                                  clear hK K
                                  refine norm_ (a' := ?_) ?_ ?_
                                  rotate_left
                                  · show Act.put _ (some 78) _ = _
                                    simp only [Act.put, List.setIfInBounds_toArray, List.set_cons_zero, List.set_cons_succ, i64_w, i32_w]
                                    rfl
                                  refine pure_ (i := 11) (N := some 79) (v := ?_) (a' := ?_) #[true, true, true, true, true, true, true, true, true, true, true, true, false, true, true, true, true, false, false, false, false] rfl rfl (any_of HT_.out (by kernel_rfl)) (fun _ _ _ h => h) (Or.inl ⟨by rfl, ?_⟩) ?_ ?_
                                  rotate_left
                                  · intro w'
                                    go_simp
                                    with_reducible rfl
                                  rotate_left
                                  · simp only [Act.put, List.setIfInBounds_toArray, List.set_cons_zero, List.set_cons_succ, i64_w, i32_w]
                                    rfl
                                  refine pure_ (i := 12) (N := some 80) (v := ?_) (a' := ?_) #[true, true, true, true, true, true, true, true, true, true, true, true, true, true, true, true, true, false, false, false, false] rfl rfl (any_of HT_.out (by kernel_rfl)) (fun _ _ _ h => h) (Or.inl ⟨by rfl, ?_⟩) ?_ ?_
                                  rotate_left
                                  · intro w'
                                    go_simp
                                    with_reducible rfl
                                  rotate_left
                                  · simp only [Act.put, List.setIfInBounds_toArray, List.set_cons_zero, List.set_cons_succ, i64_w, i32_w]
                                    rfl
                                  refine one_ (i := 17) (N := some 85) #[true, true, true, true, true, true, true, true, true, true, true, true, true, true, true, true, true, true, false, false, false] rfl rfl (one_of HT_.out (by kernel_rfl)) (by decide) (fun K hK => ?_)
                                  refine goes_ Tryd.func20 (by kernel_rfl) rfl #[.agg #[.int .i64 ((rd_T25 l0_3 1).f0), .string ((rd_T25 l0_3 1).f1), .int .i64 ((rd_T25 l0_3 1).f2), .slice A201_3 ((rd_T25 l0_3 1).f3).length c201_3]] (by rfl) rfl rfl (by (try simp only [List.map_toArray, List.map_cons, List.map_nil]); first | done | rfl | (simp only [List.length_drop, List.length_take]; rfl) | (exact congrArg Value.bool (decide_eq_decide.2 Int.ofNat_lt.symm)) | (exact congrArg (fun b => #[Value.bool b]) (decide_eq_decide.2 Int.ofNat_lt.symm)) | (simp; done)) ?_
                                  with_reducible refine (ih kj37 (by have := HJ37.out; omega) ((rd_T25 l0_3 1).f0) ((rd_T25 l0_3 1).f1) ((rd_T25 l0_3 1).f2) _ _ ((rd_T25 l0_3 1).f3) t202 _ ?side1 ?side2 A56.out).mono ?_
                                  (case side1 => repeat (first | exact (Kd.C_below HR201_3.out HB.out) | (with_reducible refine Kd.C_alloc ?_ _) | (with_reducible refine Kd.C_drewN ?_ _) | (with_reducible refine Kd.C_drew ?_)))
                                  (case side2 => exact HC201_3.out)
                                  rintro e w63 ⟨rfl, hb⟩
                                  refine ⟨_, rfl, ?_⟩
                                  have n0_ := Aside0.mk (blk_below (g := gb191) (o := .cells #[.int .i64 a0_0, .string a0_1, .int .i64 a0_2, .slice (some ad198) l0_3.length c0_3] 25 (0, 0)) (by (with_reducible repeat (first | refine blk_drewN ?_ _ | refine blk_drew ?_ | refine blk_alloc ?_ _)); exact BK191.out) hb)
                                  have n1_ := Aside0.mk (below_step (by repeat (first | (with_reducible first | exact HB.out | apply below_alloc | apply pw_below_drewN | apply below_drew1 | refine below_set ?_ GE191.out) | exact HB.out)) hb)
                                  clear BK191
                                  clear HB
                                  have BK191 := n0_
                                  have HB := n1_
                                  clear n0_ n1_
                                  (try clear hb)
                                  (try clear hb2)
                                  (try clear hk)
                                  (try clear hi)
                                  refine hK.out _ _ ⟨(blk_cell BK191.out 0).trans rfl, (blk_cell BK191.out 1).trans rfl, (blk_cell BK191.out 2).trans rfl, (blk_cell BK191.out 3).trans rfl, ((HB.out.cell (World.block_lt_of_cell? w _ hw198_0)).trans hw198_0), ((HB.out.cell (World.block_lt_of_cell? w _ hw198_1)).trans hw198_1), ((HB.out.cell (World.block_lt_of_cell? w _ hw198_2)).trans hw198_2), ((HB.out.cell (World.block_lt_of_cell? w _ hw198_3)).trans hw198_3), ((HB.out.cell (World.block_lt_of_cell? w _ hw201_0)).trans hw201_0), ((HB.out.cell (World.block_lt_of_cell? w _ hw201_1)).trans hw201_1), ((HB.out.cell (World.block_lt_of_cell? w _ hw201_2)).trans hw201_2), ((HB.out.cell (World.block_lt_of_cell? w _ hw201_3)).trans hw201_3)⟩ (fun hHeld => ?_)
                                  clear hK K
                                  refine norm_ (a' := ?_) ?_ ?_
                                  rotate_left
                                  · show Act.put _ (some 85) _ = _
                                    simp only [Act.put, List.setIfInBounds_toArray, List.set_cons_zero, List.set_cons_succ, i64_w, i32_w]
                                    rfl
                                  refine pure_ (i := 18) (N := some 86) (v := ?_) (a' := ?_) #[true, true, true, true, true, true, true, true, true, true, true, true, true, true, true, true, true, true, true, false, false] rfl rfl (any_of HT_.out (by kernel_rfl)) (fun _ _ _ h => h) (Or.inl ⟨by rfl, ?_⟩) ?_ ?_
                                  rotate_left
                                  · intro w'
                                    go_simp
                                    with_reducible rfl
                                  rotate_left
                                  · simp only [Act.put, List.setIfInBounds_toArray, List.set_cons_zero, List.set_cons_succ, i64_w, i32_w]
                                    rfl
                                  refine pure_ (i := 19) (N := some 87) (v := ?_) (a' := ?_) #[true, true, true, true, true, true, true, true, true, true, true, true, true, true, true, true, true, true, true, true, false] rfl rfl (any_of HT_.out (by kernel_rfl)) (fun _ _ _ h => h) (Or.inl ⟨by rfl, ?_⟩) ?_ ?_
                                  rotate_left
                                  · intro w'
                                    go_simp
                                    with_reducible rfl
                                  rotate_left
                                  · simp only [Act.put, List.setIfInBounds_toArray, List.set_cons_zero, List.set_cons_succ, i64_w, i32_w]
                                    rfl
                                  refine pure_ (i := 20) (N := some 2) (v := ?_) (a' := ?_) #[true, true, true, true, true, true, true, true, true, true, true, true, true, true, true, true, true, true, true, true, true] rfl rfl (any_of HT_.out (by kernel_rfl)) (fun _ _ _ h => h) (Or.inl ⟨by rfl, ?_⟩) ?_ ?_
                                  rotate_left
                                  · intro w'
                                    go_simp
                                    with_reducible rfl
                                  rotate_left
                                  · simp only [Act.put, List.setIfInBounds_toArray, List.set_cons_zero, List.set_cons_succ, i64_w, i32_w]
                                    rfl
                                  refine done_ (done_of HT_.out (by kernel_rfl)) ?_
                                  try go_wp2
                                  go_ret
                                  exact ⟨by first | rfl | (simp [errW_none, errW_some] <;> rfl) | (simp [*, errW_none, errW_some] <;> rfl), by repeat (first | (with_reducible first | exact HB.out | apply below_alloc | apply pw_below_drewN | apply below_drew1 | refine below_set ?_ GE191.out) | exact HB.out)⟩
                                · rw [if_neg c58] at H
                                  exact absurd H (by simp)
                              · rw [if_neg c57] at H
                                exact absurd H (by simp)
                            · rw [if_neg c55] at H
                              exact absurd H (by simp)
                          · rw [if_neg c54] at H
                            exact absurd H (by simp)
                        · rw [if_neg c53] at H
                          exact absurd H (by simp)
                      · rw [if_neg c51] at H
                        exact absurd H (by simp)
                    · rw [if_neg c50] at H
                      exact absurd H (by simp)
                  · rw [if_neg c48] at H
                    exact absurd H (by simp)
                · rw [if_neg c47] at H
                  have c47b0 : (a0_0 == 5) = false := beq_eq_false_iff_ne.mpr c47
                  have c47b1 : (a0_0 != 5) = true := bne_iff_ne.mpr c47
                  by_cases c64 : 0 < (l0_3.length : Int)
                  · rw [if_pos c64] at H
                    have c64b0 : decide (0 < (l0_3.length : Int)) = true := decide_eq_true c64
                    have c64b1 : decide (0 < l0_3.length) = true := decide_eq_true (by omega)
                    clear c64
                    replace H := Option.bind_eq_some_iff.mp H
                    obtain ⟨t204, A650, H⟩ := H
                    replace H : (if 5 + t204.size ≤ 9223372036854775807 then (if ((⟨#[115, 101, 97, 108, 40]⟩ : ByteArray) ++ t204).size + 1 ≤ 9223372036854775807 then ((legateref08_Digits.f kj37 a0_2).bind fun t205 => (if (((⟨#[115, 101, 97, 108, 40]⟩ : ByteArray) ++ t204) ++ (⟨#[32]⟩ : ByteArray)).size + t205.size ≤ 9223372036854775807 then (if ((((⟨#[115, 101, 97, 108, 40]⟩ : ByteArray) ++ t204) ++ (⟨#[32]⟩ : ByteArray)) ++ t205).size + 1 ≤ 9223372036854775807 then (if 1 < (l0_3.length : Int) then ((legateref08_Text.f kj37 ((rd_T25 l0_3 1).f0) ((rd_T25 l0_3 1).f1) ((rd_T25 l0_3 1).f2) ((rd_T25 l0_3 1).f3)).bind fun t207 => (if (((((⟨#[115, 101, 97, 108, 40]⟩ : ByteArray) ++ t204) ++ (⟨#[32]⟩ : ByteArray)) ++ t205) ++ (⟨#[32]⟩ : ByteArray)).size + t207.size ≤ 9223372036854775807 then (if ((((((⟨#[115, 101, 97, 108, 40]⟩ : ByteArray) ++ t204) ++ (⟨#[32]⟩ : ByteArray)) ++ t205) ++ (⟨#[32]⟩ : ByteArray)) ++ t207).size + 1 ≤ 9223372036854775807 then (some (((((((⟨#[115, 101, 97, 108, 40]⟩ : ByteArray) ++ t204) ++ (⟨#[32]⟩ : ByteArray)) ++ t205) ++ (⟨#[32]⟩ : ByteArray)) ++ t207) ++ (⟨#[41]⟩ : ByteArray))) else (none)) else (none))) else (none)) else (none)) else (none))) else (none)) else (none)) = some r := H
                    have A65 := Aside0.mk A650
                    clear A650
                    by_cases c66 : 5 + t204.size ≤ 9223372036854775807
                    · rw [if_pos c66] at H
                      have c66b0 := eq_true c66
                      have c66b1 : decide (5 + t204.size ≤ 9223372036854775807) = true := decide_eq_true c66
                      try have c66b2 : (9223372036854775807 < 5 + t204.size) = False := eq_false (Nat.not_lt.2 c66)
                      have c66b3 := Nat.not_lt.2 c66
                      try simp only [ByteArray.size_append, show (⟨#[32]⟩ : ByteArray).size = 1 from rfl, show (⟨#[41]⟩ : ByteArray).size = 1 from rfl, show (⟨#[91]⟩ : ByteArray).size = 1 from rfl, show (⟨#[93]⟩ : ByteArray).size = 1 from rfl, show (⟨#[107, 101, 121, 40]⟩ : ByteArray).size = 4 from rfl, show (⟨#[115, 117, 109, 40]⟩ : ByteArray).size = 4 from rfl, show (⟨#[115, 101, 97, 108, 40]⟩ : ByteArray).size = 5 from rfl] at c66b3
                      by_cases c67 : ((⟨#[115, 101, 97, 108, 40]⟩ : ByteArray) ++ t204).size + 1 ≤ 9223372036854775807
                      · rw [if_pos c67] at H
                        have c67b0 := eq_true c67
                        have c67b1 : decide (((⟨#[115, 101, 97, 108, 40]⟩ : ByteArray) ++ t204).size + 1 ≤ 9223372036854775807) = true := decide_eq_true c67
                        try have c67b2 : (9223372036854775807 < ((⟨#[115, 101, 97, 108, 40]⟩ : ByteArray) ++ t204).size + 1) = False := eq_false (Nat.not_lt.2 c67)
                        have c67b3 := Nat.not_lt.2 c67
                        try simp only [ByteArray.size_append, show (⟨#[32]⟩ : ByteArray).size = 1 from rfl, show (⟨#[41]⟩ : ByteArray).size = 1 from rfl, show (⟨#[91]⟩ : ByteArray).size = 1 from rfl, show (⟨#[93]⟩ : ByteArray).size = 1 from rfl, show (⟨#[107, 101, 121, 40]⟩ : ByteArray).size = 4 from rfl, show (⟨#[115, 117, 109, 40]⟩ : ByteArray).size = 4 from rfl, show (⟨#[115, 101, 97, 108, 40]⟩ : ByteArray).size = 5 from rfl] at c67b3
                        replace H := Option.bind_eq_some_iff.mp H
                        obtain ⟨t205, A680, H⟩ := H
                        replace H : (if (((⟨#[115, 101, 97, 108, 40]⟩ : ByteArray) ++ t204) ++ (⟨#[32]⟩ : ByteArray)).size + t205.size ≤ 9223372036854775807 then (if ((((⟨#[115, 101, 97, 108, 40]⟩ : ByteArray) ++ t204) ++ (⟨#[32]⟩ : ByteArray)) ++ t205).size + 1 ≤ 9223372036854775807 then (if 1 < (l0_3.length : Int) then ((legateref08_Text.f kj37 ((rd_T25 l0_3 1).f0) ((rd_T25 l0_3 1).f1) ((rd_T25 l0_3 1).f2) ((rd_T25 l0_3 1).f3)).bind fun t207 => (if (((((⟨#[115, 101, 97, 108, 40]⟩ : ByteArray) ++ t204) ++ (⟨#[32]⟩ : ByteArray)) ++ t205) ++ (⟨#[32]⟩ : ByteArray)).size + t207.size ≤ 9223372036854775807 then (if ((((((⟨#[115, 101, 97, 108, 40]⟩ : ByteArray) ++ t204) ++ (⟨#[32]⟩ : ByteArray)) ++ t205) ++ (⟨#[32]⟩ : ByteArray)) ++ t207).size + 1 ≤ 9223372036854775807 then (some (((((((⟨#[115, 101, 97, 108, 40]⟩ : ByteArray) ++ t204) ++ (⟨#[32]⟩ : ByteArray)) ++ t205) ++ (⟨#[32]⟩ : ByteArray)) ++ t207) ++ (⟨#[41]⟩ : ByteArray))) else (none)) else (none))) else (none)) else (none)) else (none)) = some r := H
                        have A68 := Aside0.mk A680
                        clear A680
                        by_cases c69 : (((⟨#[115, 101, 97, 108, 40]⟩ : ByteArray) ++ t204) ++ (⟨#[32]⟩ : ByteArray)).size + t205.size ≤ 9223372036854775807
                        · rw [if_pos c69] at H
                          have c69b0 := eq_true c69
                          have c69b1 : decide ((((⟨#[115, 101, 97, 108, 40]⟩ : ByteArray) ++ t204) ++ (⟨#[32]⟩ : ByteArray)).size + t205.size ≤ 9223372036854775807) = true := decide_eq_true c69
                          try have c69b2 : (9223372036854775807 < (((⟨#[115, 101, 97, 108, 40]⟩ : ByteArray) ++ t204) ++ (⟨#[32]⟩ : ByteArray)).size + t205.size) = False := eq_false (Nat.not_lt.2 c69)
                          have c69b3 := Nat.not_lt.2 c69
                          try simp only [ByteArray.size_append, show (⟨#[32]⟩ : ByteArray).size = 1 from rfl, show (⟨#[41]⟩ : ByteArray).size = 1 from rfl, show (⟨#[91]⟩ : ByteArray).size = 1 from rfl, show (⟨#[93]⟩ : ByteArray).size = 1 from rfl, show (⟨#[107, 101, 121, 40]⟩ : ByteArray).size = 4 from rfl, show (⟨#[115, 117, 109, 40]⟩ : ByteArray).size = 4 from rfl, show (⟨#[115, 101, 97, 108, 40]⟩ : ByteArray).size = 5 from rfl] at c69b3
                          by_cases c70 : ((((⟨#[115, 101, 97, 108, 40]⟩ : ByteArray) ++ t204) ++ (⟨#[32]⟩ : ByteArray)) ++ t205).size + 1 ≤ 9223372036854775807
                          · rw [if_pos c70] at H
                            have c70b0 := eq_true c70
                            have c70b1 : decide (((((⟨#[115, 101, 97, 108, 40]⟩ : ByteArray) ++ t204) ++ (⟨#[32]⟩ : ByteArray)) ++ t205).size + 1 ≤ 9223372036854775807) = true := decide_eq_true c70
                            try have c70b2 : (9223372036854775807 < ((((⟨#[115, 101, 97, 108, 40]⟩ : ByteArray) ++ t204) ++ (⟨#[32]⟩ : ByteArray)) ++ t205).size + 1) = False := eq_false (Nat.not_lt.2 c70)
                            have c70b3 := Nat.not_lt.2 c70
                            try simp only [ByteArray.size_append, show (⟨#[32]⟩ : ByteArray).size = 1 from rfl, show (⟨#[41]⟩ : ByteArray).size = 1 from rfl, show (⟨#[91]⟩ : ByteArray).size = 1 from rfl, show (⟨#[93]⟩ : ByteArray).size = 1 from rfl, show (⟨#[107, 101, 121, 40]⟩ : ByteArray).size = 4 from rfl, show (⟨#[115, 117, 109, 40]⟩ : ByteArray).size = 4 from rfl, show (⟨#[115, 101, 97, 108, 40]⟩ : ByteArray).size = 5 from rfl] at c70b3
                            by_cases c71 : 1 < (l0_3.length : Int)
                            · rw [if_pos c71] at H
                              have c71b0 : decide (1 < (l0_3.length : Int)) = true := decide_eq_true c71
                              have c71b1 : decide (1 < l0_3.length) = true := decide_eq_true (by omega)
                              clear c71
                              replace H := Option.bind_eq_some_iff.mp H
                              obtain ⟨t207, A720, H⟩ := H
                              replace H : (if (((((⟨#[115, 101, 97, 108, 40]⟩ : ByteArray) ++ t204) ++ (⟨#[32]⟩ : ByteArray)) ++ t205) ++ (⟨#[32]⟩ : ByteArray)).size + t207.size ≤ 9223372036854775807 then (if ((((((⟨#[115, 101, 97, 108, 40]⟩ : ByteArray) ++ t204) ++ (⟨#[32]⟩ : ByteArray)) ++ t205) ++ (⟨#[32]⟩ : ByteArray)) ++ t207).size + 1 ≤ 9223372036854775807 then (some (((((((⟨#[115, 101, 97, 108, 40]⟩ : ByteArray) ++ t204) ++ (⟨#[32]⟩ : ByteArray)) ++ t205) ++ (⟨#[32]⟩ : ByteArray)) ++ t207) ++ (⟨#[41]⟩ : ByteArray))) else (none)) else (none)) = some r := H
                              have A72 := Aside0.mk A720
                              clear A720
                              by_cases c73 : (((((⟨#[115, 101, 97, 108, 40]⟩ : ByteArray) ++ t204) ++ (⟨#[32]⟩ : ByteArray)) ++ t205) ++ (⟨#[32]⟩ : ByteArray)).size + t207.size ≤ 9223372036854775807
                              · rw [if_pos c73] at H
                                have c73b0 := eq_true c73
                                have c73b1 : decide ((((((⟨#[115, 101, 97, 108, 40]⟩ : ByteArray) ++ t204) ++ (⟨#[32]⟩ : ByteArray)) ++ t205) ++ (⟨#[32]⟩ : ByteArray)).size + t207.size ≤ 9223372036854775807) = true := decide_eq_true c73
                                try have c73b2 : (9223372036854775807 < (((((⟨#[115, 101, 97, 108, 40]⟩ : ByteArray) ++ t204) ++ (⟨#[32]⟩ : ByteArray)) ++ t205) ++ (⟨#[32]⟩ : ByteArray)).size + t207.size) = False := eq_false (Nat.not_lt.2 c73)
                                have c73b3 := Nat.not_lt.2 c73
                                try simp only [ByteArray.size_append, show (⟨#[32]⟩ : ByteArray).size = 1 from rfl, show (⟨#[41]⟩ : ByteArray).size = 1 from rfl, show (⟨#[91]⟩ : ByteArray).size = 1 from rfl, show (⟨#[93]⟩ : ByteArray).size = 1 from rfl, show (⟨#[107, 101, 121, 40]⟩ : ByteArray).size = 4 from rfl, show (⟨#[115, 117, 109, 40]⟩ : ByteArray).size = 4 from rfl, show (⟨#[115, 101, 97, 108, 40]⟩ : ByteArray).size = 5 from rfl] at c73b3
                                by_cases c74 : ((((((⟨#[115, 101, 97, 108, 40]⟩ : ByteArray) ++ t204) ++ (⟨#[32]⟩ : ByteArray)) ++ t205) ++ (⟨#[32]⟩ : ByteArray)) ++ t207).size + 1 ≤ 9223372036854775807
                                · rw [if_pos c74] at H
                                  have c74b0 := eq_true c74
                                  have c74b1 : decide (((((((⟨#[115, 101, 97, 108, 40]⟩ : ByteArray) ++ t204) ++ (⟨#[32]⟩ : ByteArray)) ++ t205) ++ (⟨#[32]⟩ : ByteArray)) ++ t207).size + 1 ≤ 9223372036854775807) = true := decide_eq_true c74
                                  try have c74b2 : (9223372036854775807 < ((((((⟨#[115, 101, 97, 108, 40]⟩ : ByteArray) ++ t204) ++ (⟨#[32]⟩ : ByteArray)) ++ t205) ++ (⟨#[32]⟩ : ByteArray)) ++ t207).size + 1) = False := eq_false (Nat.not_lt.2 c74)
                                  have c74b3 := Nat.not_lt.2 c74
                                  try simp only [ByteArray.size_append, show (⟨#[32]⟩ : ByteArray).size = 1 from rfl, show (⟨#[41]⟩ : ByteArray).size = 1 from rfl, show (⟨#[91]⟩ : ByteArray).size = 1 from rfl, show (⟨#[93]⟩ : ByteArray).size = 1 from rfl, show (⟨#[107, 101, 121, 40]⟩ : ByteArray).size = 4 from rfl, show (⟨#[115, 117, 109, 40]⟩ : ByteArray).size = 4 from rfl, show (⟨#[115, 101, 97, 108, 40]⟩ : ByteArray).size = 5 from rfl] at c74b3
                                  obtain rfl := Option.some.inj H
                                  have hcz75_0 : wc.cell? ⟨gb191, 0, none⟩ = some (.int .i64 a0_0) := (blk_cell BK191.out 0).trans rfl
                                  have hcz75_1 : wc.cell? ⟨gb191, 1, none⟩ = some (.string a0_1) := (blk_cell BK191.out 1).trans rfl
                                  have hcz75_2 : wc.cell? ⟨gb191, 2, none⟩ = some (.int .i64 a0_2) := (blk_cell BK191.out 2).trans rfl
                                  have hcz75_3 : wc.cell? ⟨gb191, 3, none⟩ = some (.slice A0_3 l0_3.length c0_3) := (blk_cell BK191.out 3).trans rfl
                                  have hfz75_0 := blk_frozen BK191.out 0
                                  have hfz75_1 := blk_frozen BK191.out 1
                                  have hfz75_2 := blk_frozen BK191.out 2
                                  have hfz75_3 := blk_frozen BK191.out 3
                                  try go_wp2
                                  have n0_ := Aside0.mk (blk_drew BK191.out)
                                  have n1_ := Aside0.mk (below_drew1 HB.out)
                                  clear BK191
                                  clear HB
                                  have BK191 := n0_
                                  have HB := n1_
                                  clear n0_ n1_
                                  have p203 : 0 ≤ (0 : Int) := (by omega)
                                  have q203 : 0 < (l0_3.length : Int) := of_decide_eq_true (by first | (with_reducible assumption) | assumption)
                                  obtain ⟨ad203, A203_3, c203_3, e203, hx203_0, hx203_1, hx203_2, hx203_3, hl203_3, hi203_3⟩ := at_T25 HR0_3.out 0 p203 q203
                                  have hw203_3 := hx203_3
                                  (try rw [show ((0 : Int)).toNat = 0 from rfl] at hw203_3)
                                  (try rw [show 0 * 4 = 0 from rfl] at hw203_3)
                                  (try rw [Addr.add_zero'] at hw203_3)
                                  have hw203_2 := hx203_2
                                  (try rw [show ((0 : Int)).toNat = 0 from rfl] at hw203_2)
                                  (try rw [show 0 * 4 = 0 from rfl] at hw203_2)
                                  (try rw [Addr.add_zero'] at hw203_2)
                                  have hw203_1 := hx203_1
                                  (try rw [show ((0 : Int)).toNat = 0 from rfl] at hw203_1)
                                  (try rw [show 0 * 4 = 0 from rfl] at hw203_1)
                                  (try rw [Addr.add_zero'] at hw203_1)
                                  have hw203_0 := hx203_0
                                  (try rw [show ((0 : Int)).toNat = 0 from rfl] at hw203_0)
                                  (try rw [show 0 * 4 = 0 from rfl] at hw203_0)
                                  (try rw [Addr.add_zero'] at hw203_0)
                                  cases e203
                                  have qi203 : (0 < l0_3.length) = True := eq_true (by omega)
                                  (try rw [show ((0 : Int)).toNat = 0 from rfl] at hx203_0)
                                  (try rw [show 0 * 4 = 0 from rfl] at hx203_0)
                                  (try rw [Addr.add_zero'] at hx203_0)
                                  (try rw [show ((0 : Int)).toNat = 0 from rfl] at hx203_1)
                                  (try rw [show 0 * 4 = 0 from rfl] at hx203_1)
                                  (try rw [Addr.add_zero'] at hx203_1)
                                  (try rw [show ((0 : Int)).toNat = 0 from rfl] at hx203_2)
                                  (try rw [show 0 * 4 = 0 from rfl] at hx203_2)
                                  (try rw [Addr.add_zero'] at hx203_2)
                                  (try rw [show ((0 : Int)).toNat = 0 from rfl] at hx203_3)
                                  (try rw [show 0 * 4 = 0 from rfl] at hx203_3)
                                  (try rw [Addr.add_zero'] at hx203_3)
                                  replace hx203_0 := (HB.out.cell (World.block_lt_of_cell? w _ hx203_0)).trans hx203_0
                                  replace hx203_1 := (HB.out.cell (World.block_lt_of_cell? w _ hx203_1)).trans hx203_1
                                  replace hx203_2 := (HB.out.cell (World.block_lt_of_cell? w _ hx203_2)).trans hx203_2
                                  replace hx203_3 := (HB.out.cell (World.block_lt_of_cell? w _ hx203_3)).trans hx203_3
                                  have HR203_3 := Aside0.mk hi203_3
                                  have HC203_3 := Aside0.mk hl203_3
                                  clear hi203_3 hl203_3
                                  replace p203 := eq_true p203
                                  replace q203 := eq_true q203
                                  have p206 : 0 ≤ (1 : Int) := (by omega)
                                  have q206 : 1 < (l0_3.length : Int) := of_decide_eq_true (by first | (with_reducible assumption) | assumption)
                                  obtain ⟨ad206, A206_3, c206_3, e206, hx206_0, hx206_1, hx206_2, hx206_3, hl206_3, hi206_3⟩ := at_T25 HR0_3.out 1 p206 q206
                                  have hw206_3 := hx206_3
                                  (try rw [show ((1 : Int)).toNat = 1 from rfl] at hw206_3)
                                  (try rw [show 1 * 4 = 4 from rfl] at hw206_3)
                                  (try simp only [Nat.reduceMul, Nat.reduceEqDiff, Go.Addr.add, ↓reduceIte] at hw206_3)
                                  have hw206_2 := hx206_2
                                  (try rw [show ((1 : Int)).toNat = 1 from rfl] at hw206_2)
                                  (try rw [show 1 * 4 = 4 from rfl] at hw206_2)
                                  (try simp only [Nat.reduceMul, Nat.reduceEqDiff, Go.Addr.add, ↓reduceIte] at hw206_2)
                                  have hw206_1 := hx206_1
                                  (try rw [show ((1 : Int)).toNat = 1 from rfl] at hw206_1)
                                  (try rw [show 1 * 4 = 4 from rfl] at hw206_1)
                                  (try simp only [Nat.reduceMul, Nat.reduceEqDiff, Go.Addr.add, ↓reduceIte] at hw206_1)
                                  have hw206_0 := hx206_0
                                  (try rw [show ((1 : Int)).toNat = 1 from rfl] at hw206_0)
                                  (try rw [show 1 * 4 = 4 from rfl] at hw206_0)
                                  (try simp only [Nat.reduceMul, Nat.reduceEqDiff, Go.Addr.add, ↓reduceIte] at hw206_0)
                                  obtain rfl : ad203 = ad206 := (by injection e206)
                                  (try simp only [show (1 : Int).toNat = 1 from rfl, Nat.reduceMul, Nat.reduceEqDiff, Go.Addr.add, ↓reduceIte] at hx206_0)
                                  (try simp only [show (1 : Int).toNat = 1 from rfl, Nat.reduceMul, Nat.reduceEqDiff, Go.Addr.add, ↓reduceIte] at hx206_1)
                                  (try simp only [show (1 : Int).toNat = 1 from rfl, Nat.reduceMul, Nat.reduceEqDiff, Go.Addr.add, ↓reduceIte] at hx206_2)
                                  (try simp only [show (1 : Int).toNat = 1 from rfl, Nat.reduceMul, Nat.reduceEqDiff, Go.Addr.add, ↓reduceIte] at hx206_3)
                                  have qi206 : (1 < l0_3.length) = True := eq_true (by omega)
                                  (try rw [show ((1 : Int)).toNat = 1 from rfl] at hx206_0)
                                  (try rw [show 1 * 4 = 4 from rfl] at hx206_0)
                                  (try rw [show ((1 : Int)).toNat = 1 from rfl] at hx206_1)
                                  (try rw [show 1 * 4 = 4 from rfl] at hx206_1)
                                  (try rw [show ((1 : Int)).toNat = 1 from rfl] at hx206_2)
                                  (try rw [show 1 * 4 = 4 from rfl] at hx206_2)
                                  (try rw [show ((1 : Int)).toNat = 1 from rfl] at hx206_3)
                                  (try rw [show 1 * 4 = 4 from rfl] at hx206_3)
                                  replace hx206_0 := (HB.out.cell (World.block_lt_of_cell? w _ hx206_0)).trans hx206_0
                                  replace hx206_1 := (HB.out.cell (World.block_lt_of_cell? w _ hx206_1)).trans hx206_1
                                  replace hx206_2 := (HB.out.cell (World.block_lt_of_cell? w _ hx206_2)).trans hx206_2
                                  replace hx206_3 := (HB.out.cell (World.block_lt_of_cell? w _ hx206_3)).trans hx206_3
                                  have HR206_3 := Aside0.mk hi206_3
                                  have HC206_3 := Aside0.mk hl206_3
                                  clear hi206_3 hl206_3
                                  replace p206 := eq_true p206
                                  replace q206 := eq_true q206
                                  refine start_ (n := 21) (S := fun w' => w'.cell? ⟨gb191, 0, none⟩ = some (.int .i64 a0_0) ∧ w'.cell? ⟨gb191, 1, none⟩ = some (.string a0_1) ∧ w'.cell? ⟨gb191, 2, none⟩ = some (.int .i64 a0_2) ∧ w'.cell? ⟨gb191, 3, none⟩ = some (.slice (some ad203) l0_3.length c0_3) ∧ w'.cell? ad203 = some (.int .i64 ((rd_T25 l0_3 0).f0)) ∧ w'.cell? ⟨ad203.block, ad203.off + 1, none⟩ = some (.string ((rd_T25 l0_3 0).f1)) ∧ w'.cell? ⟨ad203.block, ad203.off + 2, none⟩ = some (.int .i64 ((rd_T25 l0_3 0).f2)) ∧ w'.cell? ⟨ad203.block, ad203.off + 3, none⟩ = some (.slice A203_3 ((rd_T25 l0_3 0).f3).length c203_3) ∧ w'.cell? ⟨ad203.block, ad203.off + 4, none⟩ = some (.int .i64 ((rd_T25 l0_3 1).f0)) ∧ w'.cell? ⟨ad203.block, ad203.off + 4 + 1, none⟩ = some (.string ((rd_T25 l0_3 1).f1)) ∧ w'.cell? ⟨ad203.block, ad203.off + 4 + 2, none⟩ = some (.int .i64 ((rd_T25 l0_3 1).f2)) ∧ w'.cell? ⟨ad203.block, ad203.off + 4 + 3, none⟩ = some (.slice A206_3 ((rd_T25 l0_3 1).f3).length c206_3)) (ds := []) #[false, false, false, false, false, false, false, false, false, false, false, false, false, false, false, false, false, false, false, false, false] (by kernel_rfl) rfl rfl ⟨(blk_cell BK191.out 0).trans rfl, (blk_cell BK191.out 1).trans rfl, (blk_cell BK191.out 2).trans rfl, (blk_cell BK191.out 3).trans rfl, ((HB.out.cell (World.block_lt_of_cell? w _ hw203_0)).trans hw203_0), ((HB.out.cell (World.block_lt_of_cell? w _ hw203_1)).trans hw203_1), ((HB.out.cell (World.block_lt_of_cell? w _ hw203_2)).trans hw203_2), ((HB.out.cell (World.block_lt_of_cell? w _ hw203_3)).trans hw203_3), ((HB.out.cell (World.block_lt_of_cell? w _ hw206_0)).trans hw206_0), ((HB.out.cell (World.block_lt_of_cell? w _ hw206_1)).trans hw206_1), ((HB.out.cell (World.block_lt_of_cell? w _ hw206_2)).trans hw206_2), ((HB.out.cell (World.block_lt_of_cell? w _ hw206_3)).trans hw206_3)⟩ (fun hHeld => ?_); refine with_tabW legateref08_Text.tab21 legateref08_Text.bits21 (fun HT_ HW_ => ?_)
                                  generalize wc.drew = w76 at BK191 HB HR203_3 HR206_3 hx203_0 hx203_1 hx203_2 hx203_3 hx206_0 hx206_1 hx206_2 hx206_3 hHeld ⊢
                                  refine pure_ (i := 0) (N := some 68) (v := ?_) (a' := ?_) #[true, false, false, false, false, false, false, false, false, false, false, false, false, false, false, false, false, false, false, false, false] rfl rfl (any_of HT_.out (by kernel_rfl)) (fun _ _ _ h => h) (Or.inl ⟨by rfl, ?_⟩) ?_ ?_
                                  rotate_left
                                  · intro w'
                                    go_simp
                                    with_reducible rfl
                                  rotate_left
                                  · simp only [Act.put, List.setIfInBounds_toArray, List.set_cons_zero, List.set_cons_succ, i64_w, i32_w]
                                    rfl
                                  refine pure_ (i := 1) (N := some 69) (v := ?_) (a' := ?_) #[true, true, false, false, false, false, false, false, false, false, false, false, false, false, false, false, false, false, false, false, false] rfl rfl (any_of HT_.out (by kernel_rfl)) (fun _ _ _ h => h) (Or.inl ⟨by rfl, ?_⟩) ?_ ?_
                                  rotate_left
                                  · intro w'
                                    go_simp
                                    with_reducible rfl
                                  rotate_left
                                  · simp only [Act.put, List.setIfInBounds_toArray, List.set_cons_zero, List.set_cons_succ, i64_w, i32_w]
                                    rfl
                                  refine pure_ (i := 8) (N := some 76) (v := ?_) (a' := ?_) #[true, true, false, false, false, false, false, false, true, false, false, false, false, false, false, false, false, false, false, false, false] rfl rfl (any_of HT_.out (by kernel_rfl)) (fun _ _ _ h => h) (Or.inl ⟨by rfl, ?_⟩) ?_ ?_
                                  rotate_left
                                  · intro w'
                                    go_simp
                                    with_reducible rfl
                                  rotate_left
                                  · simp only [Act.put, List.setIfInBounds_toArray, List.set_cons_zero, List.set_cons_succ, i64_w, i32_w]
                                    rfl
                                  refine pure_ (i := 13) (N := some 81) (v := ?_) (a' := ?_) #[true, true, false, false, false, false, false, false, true, false, false, false, false, true, false, false, false, false, false, false, false] rfl rfl (any_of HT_.out (by kernel_rfl)) (fun _ _ _ h => h) (Or.inl ⟨by rfl, ?_⟩) ?_ ?_
                                  rotate_left
                                  · intro w'
                                    go_simp
                                    with_reducible rfl
                                  rotate_left
                                  · simp only [Act.put, List.setIfInBounds_toArray, List.set_cons_zero, List.set_cons_succ, i64_w, i32_w]
                                    rfl
                                  refine take_ (i := 2) (N := some 70) (v := ?_) (a' := ?_) #[true, true, true, false, false, false, false, false, true, false, false, false, false, true, false, false, false, false, false, false, false] rfl rfl (take_ofW HT_.out HW_.out (by kernel_rfl)) (fun _ _ _ h => h) (Or.inl ⟨by rfl, ?_⟩) hHeld ?_ ?_
                                  rotate_left
                                  · rintro w' ⟨s0, s1, s2, s3, s4, s5, s6, s7, s8, s9, s10, s11⟩
                                    go_simp
                                    with_reducible rfl
                                  rotate_left
                                  · simp only [Act.put, List.setIfInBounds_toArray, List.set_cons_zero, List.set_cons_succ, i64_w, i32_w]
                                    rfl
                                  refine pure_ (i := 3) (N := some 71) (v := ?_) (a' := ?_) #[true, true, true, true, false, false, false, false, true, false, false, false, false, true, false, false, false, false, false, false, false] rfl rfl (any_of HT_.out (by kernel_rfl)) (fun _ _ _ h => h) (Or.inl ⟨by rfl, ?_⟩) ?_ ?_
                                  rotate_left
                                  · intro w'
                                    go_simp
                                    with_reducible rfl
                                  rotate_left
                                  · simp only [Act.put, List.setIfInBounds_toArray, List.set_cons_zero, List.set_cons_succ, i64_w, i32_w]
                                    rfl
                                  refine take_ (i := 4) (N := some 72) (v := ?_) (a' := ?_) #[true, true, true, true, true, false, false, false, true, false, false, false, false, true, false, false, false, false, false, false, false] rfl rfl (take_ofW HT_.out HW_.out (by kernel_rfl)) (fun _ _ _ h => h) (Or.inl ⟨by rfl, ?_⟩) hHeld ?_ ?_
                                  rotate_left
                                  · rintro w' ⟨s0, s1, s2, s3, s4, s5, s6, s7, s8, s9, s10, s11⟩
                                    go_simp
                                    with_reducible rfl
                                  rotate_left
                                  · simp only [Act.put, List.setIfInBounds_toArray, List.set_cons_zero, List.set_cons_succ, i64_w, i32_w]
                                    rfl
                                  refine take_ (i := 9) (N := some 77) (v := ?_) (a' := ?_) #[true, true, true, true, true, false, false, false, true, true, false, false, false, true, false, false, false, false, false, false, false] rfl rfl (take_ofW HT_.out HW_.out (by kernel_rfl)) (fun _ _ _ h => h) (Or.inl ⟨by rfl, ?_⟩) hHeld ?_ ?_
                                  rotate_left
                                  · rintro w' ⟨s0, s1, s2, s3, s4, s5, s6, s7, s8, s9, s10, s11⟩
                                    go_simp
                                    with_reducible rfl
                                  rotate_left
                                  · simp only [Act.put, List.setIfInBounds_toArray, List.set_cons_zero, List.set_cons_succ, i64_w, i32_w]
                                    rfl
                                  refine take_ (i := 14) (N := some 82) (v := ?_) (a' := ?_) #[true, true, true, true, true, false, false, false, true, true, false, false, false, true, true, false, false, false, false, false, false] rfl rfl (take_ofW HT_.out HW_.out (by kernel_rfl)) (fun _ _ _ h => h) (Or.inl ⟨by rfl, ?_⟩) hHeld ?_ ?_
                                  rotate_left
                                  · rintro w' ⟨s0, s1, s2, s3, s4, s5, s6, s7, s8, s9, s10, s11⟩
                                    go_simp
                                    with_reducible rfl
                                  rotate_left
                                  · simp only [Act.put, List.setIfInBounds_toArray, List.set_cons_zero, List.set_cons_succ, i64_w, i32_w]
                                    rfl
                                  refine pure_ (i := 15) (N := some 83) (v := ?_) (a' := ?_) #[true, true, true, true, true, false, false, false, true, true, false, false, false, true, true, true, false, false, false, false, false] rfl rfl (any_of HT_.out (by kernel_rfl)) (fun _ _ _ h => h) (Or.inl ⟨by rfl, ?_⟩) ?_ ?_
                                  rotate_left
                                  · intro w'
                                    go_simp
                                    with_reducible rfl
                                  rotate_left
                                  · simp only [Act.put, List.setIfInBounds_toArray, List.set_cons_zero, List.set_cons_succ, i64_w, i32_w]
                                    rfl
                                  refine take_ (i := 16) (N := some 84) (v := ?_) (a' := ?_) #[true, true, true, true, true, false, false, false, true, true, false, false, false, true, true, true, true, false, false, false, false] rfl rfl (take_ofW HT_.out HW_.out (by kernel_rfl)) (fun _ _ _ h => h) (Or.inl ⟨by rfl, ?_⟩) hHeld ?_ ?_
                                  rotate_left
                                  · rintro w' ⟨s0, s1, s2, s3, s4, s5, s6, s7, s8, s9, s10, s11⟩
                                    go_simp
                                    with_reducible rfl
                                  rotate_left
                                  · simp only [Act.put, List.setIfInBounds_toArray, List.set_cons_zero, List.set_cons_succ, i64_w, i32_w]
                                    rfl
                                  refine one_ (i := 5) (N := some 73) #[true, true, true, true, true, true, false, false, true, true, false, false, false, true, true, true, true, false, false, false, false] rfl rfl (one_of HT_.out (by kernel_rfl)) (by decide) (fun K hK => ?_)
                                  refine goes_ Tryd.func20 (by kernel_rfl) rfl #[.agg #[.int .i64 ((rd_T25 l0_3 0).f0), .string ((rd_T25 l0_3 0).f1), .int .i64 ((rd_T25 l0_3 0).f2), .slice A203_3 ((rd_T25 l0_3 0).f3).length c203_3]] (by rfl) rfl rfl (by (try simp only [List.map_toArray, List.map_cons, List.map_nil]); first | done | rfl | (simp only [List.length_drop, List.length_take]; rfl) | (exact congrArg Value.bool (decide_eq_decide.2 Int.ofNat_lt.symm)) | (exact congrArg (fun b => #[Value.bool b]) (decide_eq_decide.2 Int.ofNat_lt.symm)) | (simp; done)) ?_
                                  with_reducible refine (ih kj37 (by have := HJ37.out; omega) ((rd_T25 l0_3 0).f0) ((rd_T25 l0_3 0).f1) ((rd_T25 l0_3 0).f2) _ _ ((rd_T25 l0_3 0).f3) t204 _ ?side1 ?side2 A65.out).mono ?_
                                  (case side1 => repeat (first | exact (Kd.C_below HR203_3.out HB.out) | (with_reducible refine Kd.C_alloc ?_ _) | (with_reducible refine Kd.C_drewN ?_ _) | (with_reducible refine Kd.C_drew ?_)))
                                  (case side2 => exact HC203_3.out)
                                  rintro e w77 ⟨rfl, hb⟩
                                  refine ⟨_, rfl, ?_⟩
                                  have n0_ := Aside0.mk (blk_below (g := gb191) (o := .cells #[.int .i64 a0_0, .string a0_1, .int .i64 a0_2, .slice (some ad203) l0_3.length c0_3] 25 (0, 0)) (by (with_reducible repeat (first | refine blk_drewN ?_ _ | refine blk_drew ?_ | refine blk_alloc ?_ _)); exact BK191.out) hb)
                                  have n1_ := Aside0.mk (below_step (by repeat (first | (with_reducible first | exact HB.out | apply below_alloc | apply pw_below_drewN | apply below_drew1 | refine below_set ?_ GE191.out) | exact HB.out)) hb)
                                  clear BK191
                                  clear HB
                                  have BK191 := n0_
                                  have HB := n1_
                                  clear n0_ n1_
                                  (try clear hb)
                                  (try clear hb2)
                                  (try clear hk)
                                  (try clear hi)
                                  refine hK.out _ _ ⟨(blk_cell BK191.out 0).trans rfl, (blk_cell BK191.out 1).trans rfl, (blk_cell BK191.out 2).trans rfl, (blk_cell BK191.out 3).trans rfl, ((HB.out.cell (World.block_lt_of_cell? w _ hw203_0)).trans hw203_0), ((HB.out.cell (World.block_lt_of_cell? w _ hw203_1)).trans hw203_1), ((HB.out.cell (World.block_lt_of_cell? w _ hw203_2)).trans hw203_2), ((HB.out.cell (World.block_lt_of_cell? w _ hw203_3)).trans hw203_3), ((HB.out.cell (World.block_lt_of_cell? w _ hw206_0)).trans hw206_0), ((HB.out.cell (World.block_lt_of_cell? w _ hw206_1)).trans hw206_1), ((HB.out.cell (World.block_lt_of_cell? w _ hw206_2)).trans hw206_2), ((HB.out.cell (World.block_lt_of_cell? w _ hw206_3)).trans hw206_3)⟩ (fun hHeld => ?_)
                                  clear hK K
                                  refine norm_ (a' := ?_) ?_ ?_
                                  rotate_left
                                  · show Act.put _ (some 73) _ = _
                                    simp only [Act.put, List.setIfInBounds_toArray, List.set_cons_zero, List.set_cons_succ, i64_w, i32_w]
                                    rfl
                                  refine pure_ (i := 6) (N := some 74) (v := ?_) (a' := ?_) #[true, true, true, true, true, true, true, false, true, true, false, false, false, true, true, true, true, false, false, false, false] rfl rfl (any_of HT_.out (by kernel_rfl)) (fun _ _ _ h => h) (Or.inl ⟨by rfl, ?_⟩) ?_ ?_
                                  rotate_left
                                  · intro w'
                                    go_simp
                                    with_reducible rfl
                                  rotate_left
                                  · simp only [Act.put, List.setIfInBounds_toArray, List.set_cons_zero, List.set_cons_succ, i64_w, i32_w]
                                    rfl
                                  refine pure_ (i := 7) (N := some 75) (v := ?_) (a' := ?_) #[true, true, true, true, true, true, true, true, true, true, false, false, false, true, true, true, true, false, false, false, false] rfl rfl (any_of HT_.out (by kernel_rfl)) (fun _ _ _ h => h) (Or.inl ⟨by rfl, ?_⟩) ?_ ?_
                                  rotate_left
                                  · intro w'
                                    go_simp
                                    with_reducible rfl
                                  rotate_left
                                  · simp only [Act.put, List.setIfInBounds_toArray, List.set_cons_zero, List.set_cons_succ, i64_w, i32_w]
                                    rfl
                                  refine one_ (i := 10) (N := some 78) #[true, true, true, true, true, true, true, true, true, true, true, false, false, true, true, true, true, false, false, false, false] rfl rfl (one_of HT_.out (by kernel_rfl)) (by decide) (fun K hK => ?_)
                                  refine goes_ Tryd.func52 (by kernel_rfl) rfl #[.int .i64 a0_2] (by rfl) rfl rfl (by (try simp only [List.map_toArray, List.map_cons, List.map_nil]); first | done | rfl | (simp only [List.length_drop, List.length_take]; rfl) | (exact congrArg Value.bool (decide_eq_decide.2 Int.ofNat_lt.symm)) | (exact congrArg (fun b => #[Value.bool b]) (decide_eq_decide.2 Int.ofNat_lt.symm)) | (simp; done)) ?_
                                  with_reducible refine (legateref08_Digits.calls kj37 a0_2 t205 _ A68.out).mono ?_
                                  rintro e w78 ⟨rfl, hb⟩
                                  refine ⟨_, rfl, ?_⟩
                                  have n0_ := Aside0.mk (blk_below (g := gb191) (o := .cells #[.int .i64 a0_0, .string a0_1, .int .i64 a0_2, .slice (some ad203) l0_3.length c0_3] 25 (0, 0)) (by (with_reducible repeat (first | refine blk_drewN ?_ _ | refine blk_drew ?_ | refine blk_alloc ?_ _)); exact BK191.out) hb)
                                  have n1_ := Aside0.mk (below_step (by repeat (first | (with_reducible first | exact HB.out | apply below_alloc | apply pw_below_drewN | apply below_drew1 | refine below_set ?_ GE191.out) | exact HB.out)) hb)
                                  clear BK191
                                  clear HB
                                  have BK191 := n0_
                                  have HB := n1_
                                  clear n0_ n1_
                                  (try clear hb)
                                  (try clear hb2)
                                  (try clear hk)
                                  (try clear hi)
                                  refine hK.out _ _ ⟨(blk_cell BK191.out 0).trans rfl, (blk_cell BK191.out 1).trans rfl, (blk_cell BK191.out 2).trans rfl, (blk_cell BK191.out 3).trans rfl, ((HB.out.cell (World.block_lt_of_cell? w _ hw203_0)).trans hw203_0), ((HB.out.cell (World.block_lt_of_cell? w _ hw203_1)).trans hw203_1), ((HB.out.cell (World.block_lt_of_cell? w _ hw203_2)).trans hw203_2), ((HB.out.cell (World.block_lt_of_cell? w _ hw203_3)).trans hw203_3), ((HB.out.cell (World.block_lt_of_cell? w _ hw206_0)).trans hw206_0), ((HB.out.cell (World.block_lt_of_cell? w _ hw206_1)).trans hw206_1), ((HB.out.cell (World.block_lt_of_cell? w _ hw206_2)).trans hw206_2), ((HB.out.cell (World.block_lt_of_cell? w _ hw206_3)).trans hw206_3)⟩ (fun hHeld => ?_)
                                  clear hK K
                                  refine norm_ (a' := ?_) ?_ ?_
                                  rotate_left
                                  · show Act.put _ (some 78) _ = _
                                    simp only [Act.put, List.setIfInBounds_toArray, List.set_cons_zero, List.set_cons_succ, i64_w, i32_w]
                                    rfl
                                  refine pure_ (i := 11) (N := some 79) (v := ?_) (a' := ?_) #[true, true, true, true, true, true, true, true, true, true, true, true, false, true, true, true, true, false, false, false, false] rfl rfl (any_of HT_.out (by kernel_rfl)) (fun _ _ _ h => h) (Or.inl ⟨by rfl, ?_⟩) ?_ ?_
                                  rotate_left
                                  · intro w'
                                    go_simp
                                    with_reducible rfl
                                  rotate_left
                                  · simp only [Act.put, List.setIfInBounds_toArray, List.set_cons_zero, List.set_cons_succ, i64_w, i32_w]
                                    rfl
                                  refine pure_ (i := 12) (N := some 80) (v := ?_) (a' := ?_) #[true, true, true, true, true, true, true, true, true, true, true, true, true, true, true, true, true, false, false, false, false] rfl rfl (any_of HT_.out (by kernel_rfl)) (fun _ _ _ h => h) (Or.inl ⟨by rfl, ?_⟩) ?_ ?_
                                  rotate_left
                                  · intro w'
                                    go_simp
                                    with_reducible rfl
                                  rotate_left
                                  · simp only [Act.put, List.setIfInBounds_toArray, List.set_cons_zero, List.set_cons_succ, i64_w, i32_w]
                                    rfl
                                  refine one_ (i := 17) (N := some 85) #[true, true, true, true, true, true, true, true, true, true, true, true, true, true, true, true, true, true, false, false, false] rfl rfl (one_of HT_.out (by kernel_rfl)) (by decide) (fun K hK => ?_)
                                  refine goes_ Tryd.func20 (by kernel_rfl) rfl #[.agg #[.int .i64 ((rd_T25 l0_3 1).f0), .string ((rd_T25 l0_3 1).f1), .int .i64 ((rd_T25 l0_3 1).f2), .slice A206_3 ((rd_T25 l0_3 1).f3).length c206_3]] (by rfl) rfl rfl (by (try simp only [List.map_toArray, List.map_cons, List.map_nil]); first | done | rfl | (simp only [List.length_drop, List.length_take]; rfl) | (exact congrArg Value.bool (decide_eq_decide.2 Int.ofNat_lt.symm)) | (exact congrArg (fun b => #[Value.bool b]) (decide_eq_decide.2 Int.ofNat_lt.symm)) | (simp; done)) ?_
                                  with_reducible refine (ih kj37 (by have := HJ37.out; omega) ((rd_T25 l0_3 1).f0) ((rd_T25 l0_3 1).f1) ((rd_T25 l0_3 1).f2) _ _ ((rd_T25 l0_3 1).f3) t207 _ ?side1 ?side2 A72.out).mono ?_
                                  (case side1 => repeat (first | exact (Kd.C_below HR206_3.out HB.out) | (with_reducible refine Kd.C_alloc ?_ _) | (with_reducible refine Kd.C_drewN ?_ _) | (with_reducible refine Kd.C_drew ?_)))
                                  (case side2 => exact HC206_3.out)
                                  rintro e w79 ⟨rfl, hb⟩
                                  refine ⟨_, rfl, ?_⟩
                                  have n0_ := Aside0.mk (blk_below (g := gb191) (o := .cells #[.int .i64 a0_0, .string a0_1, .int .i64 a0_2, .slice (some ad203) l0_3.length c0_3] 25 (0, 0)) (by (with_reducible repeat (first | refine blk_drewN ?_ _ | refine blk_drew ?_ | refine blk_alloc ?_ _)); exact BK191.out) hb)
                                  have n1_ := Aside0.mk (below_step (by repeat (first | (with_reducible first | exact HB.out | apply below_alloc | apply pw_below_drewN | apply below_drew1 | refine below_set ?_ GE191.out) | exact HB.out)) hb)
                                  clear BK191
                                  clear HB
                                  have BK191 := n0_
                                  have HB := n1_
                                  clear n0_ n1_
                                  (try clear hb)
                                  (try clear hb2)
                                  (try clear hk)
                                  (try clear hi)
                                  refine hK.out _ _ ⟨(blk_cell BK191.out 0).trans rfl, (blk_cell BK191.out 1).trans rfl, (blk_cell BK191.out 2).trans rfl, (blk_cell BK191.out 3).trans rfl, ((HB.out.cell (World.block_lt_of_cell? w _ hw203_0)).trans hw203_0), ((HB.out.cell (World.block_lt_of_cell? w _ hw203_1)).trans hw203_1), ((HB.out.cell (World.block_lt_of_cell? w _ hw203_2)).trans hw203_2), ((HB.out.cell (World.block_lt_of_cell? w _ hw203_3)).trans hw203_3), ((HB.out.cell (World.block_lt_of_cell? w _ hw206_0)).trans hw206_0), ((HB.out.cell (World.block_lt_of_cell? w _ hw206_1)).trans hw206_1), ((HB.out.cell (World.block_lt_of_cell? w _ hw206_2)).trans hw206_2), ((HB.out.cell (World.block_lt_of_cell? w _ hw206_3)).trans hw206_3)⟩ (fun hHeld => ?_)
                                  clear hK K
                                  refine norm_ (a' := ?_) ?_ ?_
                                  rotate_left
                                  · show Act.put _ (some 85) _ = _
                                    simp only [Act.put, List.setIfInBounds_toArray, List.set_cons_zero, List.set_cons_succ, i64_w, i32_w]
                                    rfl
                                  refine pure_ (i := 18) (N := some 86) (v := ?_) (a' := ?_) #[true, true, true, true, true, true, true, true, true, true, true, true, true, true, true, true, true, true, true, false, false] rfl rfl (any_of HT_.out (by kernel_rfl)) (fun _ _ _ h => h) (Or.inl ⟨by rfl, ?_⟩) ?_ ?_
                                  rotate_left
                                  · intro w'
                                    go_simp
                                    with_reducible rfl
                                  rotate_left
                                  · simp only [Act.put, List.setIfInBounds_toArray, List.set_cons_zero, List.set_cons_succ, i64_w, i32_w]
                                    rfl
                                  refine pure_ (i := 19) (N := some 87) (v := ?_) (a' := ?_) #[true, true, true, true, true, true, true, true, true, true, true, true, true, true, true, true, true, true, true, true, false] rfl rfl (any_of HT_.out (by kernel_rfl)) (fun _ _ _ h => h) (Or.inl ⟨by rfl, ?_⟩) ?_ ?_
                                  rotate_left
                                  · intro w'
                                    go_simp
                                    with_reducible rfl
                                  rotate_left
                                  · simp only [Act.put, List.setIfInBounds_toArray, List.set_cons_zero, List.set_cons_succ, i64_w, i32_w]
                                    rfl
                                  refine pure_ (i := 20) (N := some 2) (v := ?_) (a' := ?_) #[true, true, true, true, true, true, true, true, true, true, true, true, true, true, true, true, true, true, true, true, true] rfl rfl (any_of HT_.out (by kernel_rfl)) (fun _ _ _ h => h) (Or.inl ⟨by rfl, ?_⟩) ?_ ?_
                                  rotate_left
                                  · intro w'
                                    go_simp
                                    with_reducible rfl
                                  rotate_left
                                  · simp only [Act.put, List.setIfInBounds_toArray, List.set_cons_zero, List.set_cons_succ, i64_w, i32_w]
                                    rfl
                                  refine done_ (done_of HT_.out (by kernel_rfl)) ?_
                                  try go_wp2
                                  go_ret
                                  exact ⟨by first | rfl | (simp [errW_none, errW_some] <;> rfl) | (simp [*, errW_none, errW_some] <;> rfl), by repeat (first | (with_reducible first | exact HB.out | apply below_alloc | apply pw_below_drewN | apply below_drew1 | refine below_set ?_ GE191.out) | exact HB.out)⟩
                                · rw [if_neg c74] at H
                                  exact absurd H (by simp)
                              · rw [if_neg c73] at H
                                exact absurd H (by simp)
                            · rw [if_neg c71] at H
                              exact absurd H (by simp)
                          · rw [if_neg c70] at H
                            exact absurd H (by simp)
                        · rw [if_neg c69] at H
                          exact absurd H (by simp)
                      · rw [if_neg c67] at H
                        exact absurd H (by simp)
                    · rw [if_neg c66] at H
                      exact absurd H (by simp)
                  · rw [if_neg c64] at H
                    exact absurd H (by simp)
              · replace c46 := Bool.eq_false_iff.mpr c46
                subst c46
                have H1 : (some (⟨#[63]⟩ : ByteArray)) = some r := by rw [if_neg (show ¬ (false = true) by decide)] at H; exact H
                clear H
                have H := H1
                clear H1
                obtain rfl := Option.some.inj H
                go_wp2
                go_ret
                exact ⟨by first | rfl | (simp [errW_none, errW_some] <;> rfl) | (simp [*, errW_none, errW_some] <;> rfl), by repeat (first | (with_reducible first | exact HB.out | apply below_alloc | apply pw_below_drewN | apply below_drew1 | refine below_set ?_ GE191.out) | exact HB.out)⟩
end Go.Proofs.YtlhfekhmfeafbaaDoor.P
