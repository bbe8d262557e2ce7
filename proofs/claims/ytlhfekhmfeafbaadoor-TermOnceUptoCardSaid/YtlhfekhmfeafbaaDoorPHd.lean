/- The Go function slices.CompareFunc at lists of terms compares them element by element, whatever function compares the elements; and term.Order answers just as the plain Lean function oT. -/
import Derived.Test.YtlhfekhmfeafbaaDoorPHc
import Derived.Test.YtlhfekhmfeafbaaDoorSh
import Derived.Deep.RegionHeld3
namespace Go.Proofs.YtlhfekhmfeafbaaDoor.P
open Go.RowKit Go.Proofs.YtlhfekhmfeafbaaDoorW.PrintWords Go.Proofs.YtlhfekhmfeafbaaDoorW.PrintLast Go.Proofs.YtlhfekhmfeafbaaDoorW.PrintMore

/-- What is asked of a comparison: at each pair of elements. -/
def CmpT (g : Nat) (q : S25 → S25 → Int) (l m : List S25) (w : World) : Prop :=
  ∀ (W : World) (x y : S25) (A : Option Addr) (c : Nat) (B : Option Addr) (d : Nat), x ∈ l → y ∈ m → Below w.heap.size w W → x.f3.length ≤ c → Kd.C k25 W A x.f3.length x.f3 → y.f3.length ≤ d → Kd.C k25 W B y.f3.length y.f3 →
    Calls Tryd.prog g #[.agg #[.int .i64 x.f0, .string x.f1, .int .i64 x.f2, .slice A x.f3.length c], .agg #[.int .i64 y.f0, .string y.f1, .int .i64 y.f2, .slice B y.f3.length d]] W fun e w' => e = .returned (.int .i64 (q x y)) ∧ Below W.heap.size W w'

def cmpL (q : S25 → S25 → Int) : List S25 → List S25 → Int
  | [], [] => 0
  | [], _ :: _ => -1
  | _ :: _, [] => 1
  | x :: r, y :: s => if q x y = 0 then cmpL q r s else q x y
theorem cmpL_skip (q : S25 → S25 → Int) : ∀ (l m : List S25) (k : Nat), k ≤ l.length → k ≤ m.length → (∀ j, j < k → q l[j]! m[j]! = 0) → cmpL q l m = cmpL q (l.drop k) (m.drop k)
  | l, m, 0, _, _, _ => by simp
  | [], m, k + 1, h, _, _ => by simp at h
  | x :: r, [], k + 1, _, h, _ => by simp at h
  | x :: r, y :: s, k + 1, h1, h2, h => by
    have h0 : q x y = 0 := by simpa using h 0 (by omega)
    rw [cmpL, if_pos h0, List.drop_succ_cons, List.drop_succ_cons]
    exact cmpL_skip q r s k (by simpa using h1) (by simpa using h2) (fun j hj => by simpa using h (j + 1) (by omega))

set_option maxHeartbeats 1000000 in
set_option maxRecDepth 100000 in
theorem CompareFunc_calls (g : Nat) (eg : ∀ args w, (callFunc g args).run Tryd.prog w = .ok (.enter g args) w) (q : S25 → S25 → Int) (A : Option Addr) (c : Nat) (l : List S25) (B : Option Addr) (d : Nat) (m : List S25) (w : World)
    (hC : Kd.C k25 w A l.length l) (hD : Kd.C k25 w B m.length m) (hp : CmpT g q l m w) :
    Calls Tryd.prog 60 #[.slice A l.length c, .slice B m.length d, .func (.func g) #[] #[]] w fun e w' => e = .returned (.int .i64 (cmpL q l m)) ∧ Below w.heap.size w w' := by
  have hu25 := Tryd.underlying25
  have HC := Aside0.mk hC
  have HD := Aside0.mk hD
  have HP := Aside0.mk hp
  have hN := hC.2.1
  have hM := hD.2.1
  clear hC hp hD
  go_enter Tryd.func60, Tryd.ntmps60
  go_wp2_with fail
  go_loopg [7, 13] l.length (fun gg _ s8 wr => ∃ kk : Nat, kk ≤ l.length ∧ kk ≤ m.length ∧ l.length - kk ≤ gg ∧ s8 = .int .i64 kk ∧ Aside0 (Below w.heap.size w wr) ∧ Aside0 (∀ j, j < kk → q l[j]! m[j]! = 0))
  case atStart => exact ⟨0, Nat.zero_le _, Nat.zero_le _, by omega, rfl, ⟨Below.refl _ w⟩, ⟨fun j hj => absurd hj (Nat.not_lt_zero _)⟩⟩
  case round =>
    obtain ⟨kk, hkk, hkm, hg, rfl, BW, HA⟩ := hrel
    by_cases hlt : kk < l.length
    · obtain ⟨ad, A3, c3, e1, hx0, hx1, hx2, hx3, hl3, hi3⟩ := at_T25 HC.out (kk : Int) (by omega) (by omega)
      cases e1
      replace hx0 := (BW.out.cell (World.block_lt_of_cell? w _ hx0)).trans hx0
      replace hx1 := (BW.out.cell (World.block_lt_of_cell? w _ hx1)).trans hx1
      replace hx2 := (BW.out.cell (World.block_lt_of_cell? w _ hx2)).trans hx2
      replace hx3 := (BW.out.cell (World.block_lt_of_cell? w _ hx3)).trans hx3
      have hmx : l[kk]! ∈ l := by rw [getElem!_pos l kk hlt]; exact List.getElem_mem hlt
      rw [rd_bang] at hx0 hx1 hx2 hx3 hl3 hi3
      generalize hy : l[kk]! = x at hx0 hx1 hx2 hx3 hmx hl3 hi3
      have HX := Aside0.mk hy
      clear hy
      simp only [Int.toNat_natCast] at hx0 hx1 hx2 hx3
      have HXm := Aside0.mk hmx
      have HXl := Aside0.mk hl3
      have HXi := Aside0.mk (Kd.C_below hi3 BW.out)
      clear hmx hl3 hi3
      by_cases hlm : kk < m.length
      · obtain ⟨bd, B3, d3, e2, hz0, hz1, hz2, hz3, hl4, hi4⟩ := at_T25 HD.out (kk : Int) (by omega) (by omega)
        cases e2
        replace hz0 := (BW.out.cell (World.block_lt_of_cell? w _ hz0)).trans hz0
        replace hz1 := (BW.out.cell (World.block_lt_of_cell? w _ hz1)).trans hz1
        replace hz2 := (BW.out.cell (World.block_lt_of_cell? w _ hz2)).trans hz2
        replace hz3 := (BW.out.cell (World.block_lt_of_cell? w _ hz3)).trans hz3
        have hmy : m[kk]! ∈ m := by rw [getElem!_pos m kk hlm]; exact List.getElem_mem hlm
        rw [rd_bang] at hz0 hz1 hz2 hz3 hl4 hi4
        generalize hy : m[kk]! = y at hz0 hz1 hz2 hz3 hmy hl4 hi4
        have HY := Aside0.mk hy
        clear hy
        simp only [Int.toNat_natCast] at hz0 hz1 hz2 hz3
        have HYm := Aside0.mk hmy
        have HYl := Aside0.mk hl4
        have HYi := Aside0.mk (Kd.C_below hi4 BW.out)
        clear hmy hl4 hi4
        replace hz0 := fun o => ((below_alloc (Below.refl _ wr) o).cell (World.block_lt_of_cell? wr _ hz0)).trans hz0
        replace hz1 := fun o => ((below_alloc (Below.refl _ wr) o).cell (World.block_lt_of_cell? wr _ hz1)).trans hz1
        replace hz2 := fun o => ((below_alloc (Below.refl _ wr) o).cell (World.block_lt_of_cell? wr _ hz2)).trans hz2
        replace hz3 := fun o => ((below_alloc (Below.refl _ wr) o).cell (World.block_lt_of_cell? wr _ hz3)).trans hz3
        have hcall := HP.out ((wr.alloc (.cells #[.int .i64 x.f0, .string x.f1, .int .i64 x.f2, .slice A3 x.f3.length c3] 25)).alloc (.cells #[.int .i64 y.f0, .string y.f1, .int .i64 y.f2, .slice B3 y.f3.length d3] 25)) x y A3 c3 B3 d3 HXm.out HYm.out
          (BW.out.trans ((below_alloc (below_alloc (Below.refl _ _) _) _).mono BW.out.size)) HXl.out (Kd.C_below HXi.out (below_alloc (below_alloc (Below.refl _ _) _) _)) HYl.out (Kd.C_below HYi.out (below_alloc (below_alloc (Below.refl _ _) _) _))
        have hxy : q x y = q l[kk]! m[kk]! := by rw [HX.out, HY.out]
        by_cases hq : q x y = 0
        · rw [hq] at hcall
          have HQ := Aside0.mk (hxy.symm.trans hq)
          have HK := Aside0.mk hcall
          clear hq hcall hxy
          go_wp2_with fail
          refine HK.out.mono ?_
          rintro e w1 ⟨rfl, hb⟩
          obtain ⟨hb0, _, _, _⟩ := two_boxes hb
          have HB0 := Aside0.mk hb0
          clear hb hb0
          go_wp2_with fail
          go_roundg (l.length - (kk + 1))
          case measure => omega
          case rel =>
            refine ⟨kk + 1, by omega, by omega, by omega, by go_num, ⟨BW.out.trans (HB0.out.mono BW.out.size)⟩, ⟨fun j hj => ?_⟩⟩
            by_cases e : j = kk
            · subst e
              exact HQ.out
            · exact HA.out j (by omega)
        · have hq0 : (q x y == 0) = false := beq_eq_false_iff_ne.2 hq
          have hq1 : (q x y != 0) = true := bne_iff_ne.2 hq
          have HF := Aside0.mk (show cmpL q l m = q x y by
            rw [cmpL_skip q l m kk hkk hkm HA.out, List.drop_eq_getElem_cons hlt, List.drop_eq_getElem_cons hlm, cmpL, if_neg (by rw [← getElem!_pos l kk hlt, ← getElem!_pos m kk hlm, ← hxy]; exact hq), ← getElem!_pos l kk hlt, ← getElem!_pos m kk hlm, hxy])
          have HK := Aside0.mk hcall
          clear hq hcall hxy
          generalize q x y = z at hq0 hq1 HK HF
          go_wp2_with fail
          refine HK.out.mono ?_
          rintro e w1 ⟨rfl, hb⟩
          obtain ⟨hb0, _, _, _⟩ := two_boxes hb
          have HB0 := Aside0.mk hb0
          clear hb hb0
          go_wp2_with fail
          go_ret
          exact ⟨by rw [HF.out]; rfl, BW.out.trans (HB0.out.mono BW.out.size)⟩
      · obtain rfl : kk = m.length := by omega
        have HF := Aside0.mk (show cmpL q l m = 1 by
          rw [cmpL_skip q l m m.length hkk hkm HA.out, List.drop_eq_getElem_cons hlt, List.drop_length]; rfl)
        go_wp2_with fail
        go_ret
        exact ⟨by rw [HF.out]; rfl, below_alloc BW.out _⟩
    · obtain rfl : kk = l.length := by omega
      by_cases hlm : l.length < m.length
      · have HF := Aside0.mk (show cmpL q l m = -1 by
          rw [cmpL_skip q l m l.length hkk hkm HA.out, List.drop_eq_getElem_cons hlm, List.drop_length]; rfl)
        go_wp2_with fail
        go_ret
        exact ⟨by rw [HF.out]; rfl, BW.out⟩
      · have HF := Aside0.mk (show cmpL q l m = 0 by
          rw [cmpL_skip q l m l.length hkk hkm HA.out, show m.drop l.length = [] from List.drop_eq_nil_of_le (by omega), List.drop_length]; rfl)
        go_wp2_with fail
        go_ret
        exact ⟨by rw [HF.out]; rfl, BW.out⟩
end Go.Proofs.YtlhfekhmfeafbaaDoor.P
