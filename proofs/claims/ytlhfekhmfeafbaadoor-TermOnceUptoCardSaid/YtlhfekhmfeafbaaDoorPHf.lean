/- The Go functions term.Same and term.Names answer just as plain Lean functions. -/
import Derived.Test.YtlhfekhmfeafbaaDoorPHe
namespace Go.Proofs.YtlhfekhmfeafbaaDoor.P
open Go.RowKit Go.Proofs.YtlhfekhmfeafbaaDoorW.PrintWords Go.Proofs.YtlhfekhmfeafbaaDoorW.PrintLast Go.Proofs.YtlhfekhmfeafbaaDoorW.PrintMore

set_option maxRecDepth 100000 in
theorem term_Same_calls (t u : S25) (A : Option Addr) (c : Nat) (B : Option Addr) (d : Nat) (w : World) (hl : t.f3.length ≤ c) (hC : Kd.C k25 w A t.f3.length t.f3) (hl2 : u.f3.length ≤ d) (hD : Kd.C k25 w B u.f3.length u.f3) :
    Calls Tryd.prog 41 #[.agg #[.int .i64 t.f0, .string t.f1, .int .i64 t.f2, .slice A t.f3.length c], .agg #[.int .i64 u.f0, .string u.f1, .int .i64 u.f2, .slice B u.f3.length d]] w
      fun e w' => e = .returned (.bool (oT t u == 0)) ∧ Below w.heap.size w w' := by
  have hu25 := Tryd.underlying25
  have HK := Aside0.mk (fun (w1 : World) h1 h2 => term_Order_calls (nT t) t u A c B d w1 (Nat.le_refl _) hl h1 hl2 h2)
  have HC := Aside0.mk hC
  have HD := Aside0.mk hD
  clear hC hD
  go_enter Tryd.func41, Tryd.ntmps41
  go_wp2_with fail
  refine (HK.out _ (Kd.C_below HC.out (below_alloc (below_alloc (Below.refl _ _) _) _)) (Kd.C_below HD.out (below_alloc (below_alloc (Below.refl _ _) _) _))).mono ?_
  rintro e w1 ⟨rfl, hb⟩
  obtain ⟨hb0, _, _, _⟩ := two_boxes hb
  clear hb
  go_wp2_with fail
  go_ret
  exact ⟨rfl, hb0⟩

def isRow (t : S25) : Bool := t.f0 == 3 && !t.f3.any fun x => x.f0 != 0
def namesOf (t : S25) : List ByteArray := if isRow t = true then t.f3.map (·.f1) else []
theorem namesOf_no {t : S25} (h : isRow t = false) : namesOf t = [] := by simp [namesOf, h]
theorem namesOf_yes {t : S25} (h : isRow t = true) : namesOf t = t.f3.map (·.f1) := by simp [namesOf, h]
theorem Names1_calls (x : S25) (A : Option Addr) (c : Nat) (w : World) :
    Calls Tryd.prog 46 #[.agg #[.int .i64 x.f0, .string x.f1, .int .i64 x.f2, .slice A x.f3.length c]] w fun e w' => e = .returned (.bool (x.f0 != 0)) ∧ Below w.heap.size w w' := by
  have hu25 := Tryd.underlying25
  go_enter Tryd.func46, Tryd.ntmps46
  go_wp2_with fail
  go_ret
  exact ⟨rfl, below_alloc (Below.refl _ _) _⟩

set_option maxHeartbeats 2000000 in
set_option maxRecDepth 100000 in
theorem term_Names_calls (t : S25) (A : Option Addr) (c : Nat) (w : World) (hn : t.f3.length ≤ 1000000000) (_hl : t.f3.length ≤ c) (hC : Kd.C k25 w A t.f3.length t.f3) :
    Calls Tryd.prog 15 #[.agg #[.int .i64 t.f0, .string t.f1, .int .i64 t.f2, .slice A t.f3.length c]] w
      fun e w' => ∃ v : Value, e = .returned (.tuple #[v, .bool (isRow t)]) ∧ Kd.R Kd.string 9 w' w.heap.size (fun _ => True) v (namesOf t) ∧ Below w.heap.size w w' := by
  have hu25 := Tryd.underlying25
  have HC := Aside0.mk hC
  clear hC
  by_cases h3 : t.f0 = 3
  · have h3b : (t.f0 != 3) = false := bne_eq_false_iff_eq.2 h3
    cases ha : t.f3.any fun x => x.f0 != 0 with
    | true =>
      have HF := Aside0.mk (show isRow t = false by rw [isRow, ha]; simp)
      have HA := Aside0.mk ha
      clear ha h3
      go_enter Tryd.func15, Tryd.ntmps15
      go_wp2_with fail
      refine (ContainsFunc_calls 46 #[] (enters_of Tryd.func46 (by kernel_rfl) rfl) (fun x => x.f0 != 0) A c t.f3 _ (Kd.C_below HC.out (below_alloc (Below.refl _ _) _)) (fun W x A' c' _ hW _ _ => (Names1_calls x A' c' W).mono fun e w' ⟨he, hb⟩ => ⟨he, hW.trans (hb.mono hW.size)⟩)).mono ?_
      rw [HA.out]
      rintro e w1 ⟨rfl, hb⟩
      obtain ⟨hb0, _, ht1⟩ := one_box hb
      clear hb
      go_wp2_with fail
      go_ret2
      exact ⟨_, by rw [HF.out]; rfl, by rw [namesOf_no HF.out]; exact Kd.R_nil _ _ _ _ _, hb0⟩
    | false =>
      have hr : isRow t = true := by rw [isRow, ha]; simp [h3]
      have HF := Aside0.mk hr
      have HN := Aside0.mk (namesOf_yes hr)
      have HA := Aside0.mk ha
      clear ha h3 hr
      go_enter Tryd.func15, Tryd.ntmps15
      go_wp2_with fail
      refine (ContainsFunc_calls 46 #[] (enters_of Tryd.func46 (by kernel_rfl) rfl) (fun x => x.f0 != 0) A c t.f3 _ (Kd.C_below HC.out (below_alloc (Below.refl _ _) _)) (fun W x A' c' _ hW _ _ => (Names1_calls x A' c' W).mono fun e w' ⟨he, hb⟩ => ⟨he, hW.trans (hb.mono hW.size)⟩)).mono ?_
      rw [HA.out]
      rintro e w1 ⟨rfl, hb⟩
      obtain ⟨hb0, hsz, ht1⟩ := one_box hb
      obtain ⟨hc0, hc1, hc2, hc3⟩ := box_cells ht1
      have HB1 := Aside0.mk hb0
      have HT1 := Aside0.mk ht1
      clear hb hb0 ht1
      go_wp2_with fail
      go_loopg [5, 20] t.f3.length (fun gg v5 s8 wr => ∃ kk : Nat, kk ≤ t.f3.length ∧ t.f3.length - kk ≤ gg ∧ s8 = .int .i64 kk ∧ Aside0 (Kd.R Kd.string 9 wr w.heap.size (fun _ => True) v5 ((t.f3.take kk).map (·.f1))) ∧ Aside0 (Below w.heap.size w wr))
      case atStart => exact ⟨0, Nat.zero_le _, by omega, rfl, ⟨Kd.R_nil _ _ _ _ _⟩, ⟨HB1.out⟩⟩
      case round =>
        clear hc0 hc1 hc2 hc3 HT1 HA
        obtain ⟨kk, hkk, hg, rfl, HO, HB⟩ := hrel
        by_cases hlt : kk < t.f3.length
        · obtain ⟨ad, A3, c3, e1, hx0, hx1, hx2, hx3, hl3, hi3⟩ := at_T25 HC.out (kk : Int) (by omega) (by omega)
          cases e1
          replace hx0 := (HB.out.cell (World.block_lt_of_cell? w _ hx0)).trans hx0
          replace hx1 := (HB.out.cell (World.block_lt_of_cell? w _ hx1)).trans hx1
          replace hx2 := (HB.out.cell (World.block_lt_of_cell? w _ hx2)).trans hx2
          replace hx3 := (HB.out.cell (World.block_lt_of_cell? w _ hx3)).trans hx3
          rw [rd_bang] at hx0 hx1 hx2 hx3
          have HX := Aside0.mk (show (t.f3.take (kk + 1)).map (·.f1) = (t.f3.take kk).map (·.f1) ++ [t.f3[kk]!.f1] by
            rw [List.take_succ_eq_append_getElem hlt, List.map_append, ← getElem!_pos t.f3 kk hlt]; rfl)
          generalize t.f3[kk]! = x at hx0 hx1 hx2 hx3 HX
          have HQ : Aside0 ((((t.f3.take kk).map (·.f1)).length + 1) * 16 ≤ 140737488355328) := ⟨by rw [List.length_map, List.length_take]; omega⟩
          simp only [Int.toNat_natCast] at hx0 hx1 hx2 hx3
          clear hl3 hi3
          go_wp2_with (at_builtin; refine Kd.R_append Kd.string (w0 := w) w.heap.size rfl (.tmp 24) (.tmp 27) 30 9 (.string ⟨#[]⟩) 16 rfl Tryd.underlying30 info9 rfl (by decide) (by omega) u5 ((t.f3.take kk).map (·.f1)) x.f1 [.string x.f1] (fun _ => True) (fun _ => False) rfl ?aX ?aP (fun _ hk => hk.elim) ?aF ?aO ?aB ?aS ?aL ?_; (case aX => exact congrArg (fun n => Value.slice (some ⟨n, 0, none⟩) 1 1) (World.size_alloc _ _).symm); (case aP => exact rfl); (case aB => exact below_alloc HB.out _); (case aF => exact (fun _ _ => trivial)); (case aO => exact Kd.R_alloc HO.out _); (case aS => exact below_size (below_alloc HB.out _)); (case aL => exact HQ.out); intro v173 w10 ho hb hg2 hat; rw [← HX.out] at ho; have HO2 := Aside0.mk ho; have HB2 := Aside0.mk hb; clear ho hb hg2 hat)
          go_roundg (t.f3.length - (kk + 1))
          case measure => omega
          case rel => exact ⟨kk + 1, by omega, by omega, by go_num, ⟨HO2.out⟩, ⟨HB2.out⟩⟩
        · obtain rfl : kk = t.f3.length := by omega
          have HO1 : Aside0 (Kd.R Kd.string 9 wr w.heap.size (fun _ => True) u5 (namesOf t)) := ⟨by rw [HN.out]; have := HO.out; rwa [List.take_length] at this⟩
          clear HO
          go_wp2_with fail
          go_ret2
          exact ⟨_, by rw [HF.out]; rfl, HO1.out, HB.out⟩
  · have h3b : (t.f0 != 3) = true := bne_iff_ne.2 h3
    have HF := Aside0.mk (show isRow t = false by rw [isRow, beq_eq_false_iff_ne.2 h3]; simp)
    clear h3
    go_enter Tryd.func15, Tryd.ntmps15
    go_wp2_with fail
    go_ret2
    exact ⟨_, by rw [HF.out]; rfl, by rw [namesOf_no HF.out]; exact Kd.R_nil _ _ _ _ _, below_alloc (Below.refl _ _) _⟩
end Go.Proofs.YtlhfekhmfeafbaaDoor.P
