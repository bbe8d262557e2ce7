/- The Go function slices.CompareFunc at lists of terms compares them element by element, whatever function compares the elements; and term.Order answers just as the plain Lean function oT. The Go function term.Order answers just as the plain Lean function oT, at every two terms. -/
import Derived.Test.YtimommkbfbdkdaaDoorPHc
import Derived.Test.YtimommkbfbdkdaaDoorSh
import Derived.Deep.RegionHeld3
import Derived.Test.YtimommkbfbdkdaaDoorPx2
namespace Go.Proofs.YtimommkbfbdkdaaDoor.P
open Go.RowKit Go.Proofs.YtimommkbfbdkdaaDoorW.PrintWords Go.Proofs.YtimommkbfbdkdaaDoorW.PrintLast Go.Proofs.YtimommkbfbdkdaaDoorW.PrintMore

/-- What is asked of a comparison: at each pair of elements. -/
def CmpT (g : Nat) (q : S29 → S29 → Int) (l m : List S29) (w : World) : Prop :=
  ∀ (W : World) (x y : S29) (A : Option Addr) (c : Nat) (B : Option Addr) (d : Nat), x ∈ l → y ∈ m → Below w.heap.size w W → x.f3.length ≤ c → Kd.C k29 W A x.f3.length x.f3 → y.f3.length ≤ d → Kd.C k29 W B y.f3.length y.f3 →
    Calls Tryd.prog g #[.agg #[.int .i64 x.f0, .string x.f1, .int .i64 x.f2, .slice A x.f3.length c], .agg #[.int .i64 y.f0, .string y.f1, .int .i64 y.f2, .slice B y.f3.length d]] W fun e w' => e = .returned (.int .i64 (q x y)) ∧ Below W.heap.size W w'

def cmpL (q : S29 → S29 → Int) : List S29 → List S29 → Int
  | [], [] => 0
  | [], _ :: _ => -1
  | _ :: _, [] => 1
  | x :: r, y :: s => if q x y = 0 then cmpL q r s else q x y
theorem cmpL_skip (q : S29 → S29 → Int) : ∀ (l m : List S29) (k : Nat), k ≤ l.length → k ≤ m.length → (∀ j, j < k → q l[j]! m[j]! = 0) → cmpL q l m = cmpL q (l.drop k) (m.drop k)
  | l, m, 0, _, _, _ => by simp
  | [], m, k + 1, h, _, _ => by simp at h
  | x :: r, [], k + 1, _, h, _ => by simp at h
  | x :: r, y :: s, k + 1, h1, h2, h => by
    have h0 : q x y = 0 := by simpa using h 0 (by omega)
    rw [cmpL, if_pos h0, List.drop_succ_cons, List.drop_succ_cons]
    exact cmpL_skip q r s k (by simpa using h1) (by simpa using h2) (fun j hj => by simpa using h (j + 1) (by omega))

set_option maxHeartbeats 1000000 in
set_option maxRecDepth 100000 in
theorem CompareFunc_calls (g : Nat) (eg : ∀ args w, (callFunc g args).run Tryd.prog w = .ok (.enter g args) w) (q : S29 → S29 → Int) (A : Option Addr) (c : Nat) (l : List S29) (B : Option Addr) (d : Nat) (m : List S29) (w : World)
    (hC : Kd.C k29 w A l.length l) (hD : Kd.C k29 w B m.length m) (hp : CmpT g q l m w) :
    Calls Tryd.prog 63 #[.slice A l.length c, .slice B m.length d, .func (.func g) #[] #[]] w fun e w' => e = .returned (.int .i64 (cmpL q l m)) ∧ Below w.heap.size w w' := by
  have hu29 := Tryd.underlying29
  have HC := Aside0.mk hC
  have HD := Aside0.mk hD
  have HP := Aside0.mk hp
  have hN := hC.2.1
  have hM := hD.2.1
  clear hC hp hD
  go_enter Tryd.func63, Tryd.ntmps63
  go_wp2_with fail
  go_loopg [7, 13] l.length (fun gg _ s8 wr => ∃ kk : Nat, kk ≤ l.length ∧ kk ≤ m.length ∧ l.length - kk ≤ gg ∧ s8 = .int .i64 kk ∧ Aside0 (Below w.heap.size w wr) ∧ Aside0 (∀ j, j < kk → q l[j]! m[j]! = 0))
  case atStart => exact ⟨0, Nat.zero_le _, Nat.zero_le _, by omega, rfl, ⟨Below.refl _ w⟩, ⟨fun j hj => absurd hj (Nat.not_lt_zero _)⟩⟩
  case round =>
    obtain ⟨kk, hkk, hkm, hg, rfl, BW, HA⟩ := hrel
    by_cases hlt : kk < l.length
    · obtain ⟨ad, A3, c3, e1, hx0, hx1, hx2, hx3, hl3, hi3⟩ := at_T29 HC.out (kk : Int) (by omega) (by omega)
      cases e1
      replace hx0 := (BW.out.cell (World.block_lt_of_cell? w _ hx0)).trans hx0
      replace hx1 := (BW.out.cell (World.block_lt_of_cell? w _ hx1)).trans hx1
      replace hx2 := (BW.out.cell (World.block_lt_of_cell? w _ hx2)).trans hx2
      replace hx3 := (BW.out.cell (World.block_lt_of_cell? w _ hx3)).trans hx3
      have hmx : l[kk]! ∈ l := by rw [getElem!_pos l kk hlt]; exact List.getElem_mem hlt
      rw [rd_bang] at hx0 hx1 hx2 hx3 hl3 hi3
      generalize hy : l[kk]! = x at hx0 hx1 hx2 hx3 hmx hl3 hi3
      have HX := Aside0.mk hy
      clear hy
      simp only [Int.toNat_natCast] at hx0 hx1 hx2 hx3
      have HXm := Aside0.mk hmx
      have HXl := Aside0.mk hl3
      have HXi := Aside0.mk (Kd.C_below hi3 BW.out)
      clear hmx hl3 hi3
      by_cases hlm : kk < m.length
      · obtain ⟨bd, B3, d3, e2, hz0, hz1, hz2, hz3, hl4, hi4⟩ := at_T29 HD.out (kk : Int) (by omega) (by omega)
        cases e2
        replace hz0 := (BW.out.cell (World.block_lt_of_cell? w _ hz0)).trans hz0
        replace hz1 := (BW.out.cell (World.block_lt_of_cell? w _ hz1)).trans hz1
        replace hz2 := (BW.out.cell (World.block_lt_of_cell? w _ hz2)).trans hz2
        replace hz3 := (BW.out.cell (World.block_lt_of_cell? w _ hz3)).trans hz3
        have hmy : m[kk]! ∈ m := by rw [getElem!_pos m kk hlm]; exact List.getElem_mem hlm
        rw [rd_bang] at hz0 hz1 hz2 hz3 hl4 hi4
        generalize hy : m[kk]! = y at hz0 hz1 hz2 hz3 hmy hl4 hi4
        have HY := Aside0.mk hy
        clear hy
        simp only [Int.toNat_natCast] at hz0 hz1 hz2 hz3
        have HYm := Aside0.mk hmy
        have HYl := Aside0.mk hl4
        have HYi := Aside0.mk (Kd.C_below hi4 BW.out)
        clear hmy hl4 hi4
        replace hz0 := fun o => ((below_alloc (Below.refl _ wr) o).cell (World.block_lt_of_cell? wr _ hz0)).trans hz0
        replace hz1 := fun o => ((below_alloc (Below.refl _ wr) o).cell (World.block_lt_of_cell? wr _ hz1)).trans hz1
        replace hz2 := fun o => ((below_alloc (Below.refl _ wr) o).cell (World.block_lt_of_cell? wr _ hz2)).trans hz2
        replace hz3 := fun o => ((below_alloc (Below.refl _ wr) o).cell (World.block_lt_of_cell? wr _ hz3)).trans hz3
        have hcall := HP.out ((wr.alloc (.cells #[.int .i64 x.f0, .string x.f1, .int .i64 x.f2, .slice A3 x.f3.length c3] 29)).alloc (.cells #[.int .i64 y.f0, .string y.f1, .int .i64 y.f2, .slice B3 y.f3.length d3] 29)) x y A3 c3 B3 d3 HXm.out HYm.out
          (BW.out.trans ((below_alloc (below_alloc (Below.refl _ _) _) _).mono BW.out.size)) HXl.out (Kd.C_below HXi.out (below_alloc (below_alloc (Below.refl _ _) _) _)) HYl.out (Kd.C_below HYi.out (below_alloc (below_alloc (Below.refl _ _) _) _))
        have hxy : q x y = q l[kk]! m[kk]! := by rw [HX.out, HY.out]
        by_cases hq : q x y = 0
        · rw [hq] at hcall
          have HQ := Aside0.mk (hxy.symm.trans hq)
          have HK := Aside0.mk hcall
          clear hq hcall hxy
          go_wp2_with fail
          refine HK.out.mono ?_
          rintro e w1 ⟨rfl, hb⟩
          obtain ⟨hb0, _, _, _⟩ := two_boxes hb
          have HB0 := Aside0.mk hb0
          clear hb hb0
          go_wp2_with fail
          go_roundg (l.length - (kk + 1))
          case measure => omega
          case rel =>
            refine ⟨kk + 1, by omega, by omega, by omega, by go_num, ⟨BW.out.trans (HB0.out.mono BW.out.size)⟩, ⟨fun j hj => ?_⟩⟩
            by_cases e : j = kk
            · subst e
              exact HQ.out
            · exact HA.out j (by omega)
        · have hq0 : (q x y == 0) = false := beq_eq_false_iff_ne.2 hq
          have hq1 : (q x y != 0) = true := bne_iff_ne.2 hq
          have HF := Aside0.mk (show cmpL q l m = q x y by
            rw [cmpL_skip q l m kk hkk hkm HA.out, List.drop_eq_getElem_cons hlt, List.drop_eq_getElem_cons hlm, cmpL, if_neg (by rw [← getElem!_pos l kk hlt, ← getElem!_pos m kk hlm, ← hxy]; exact hq), ← getElem!_pos l kk hlt, ← getElem!_pos m kk hlm, hxy])
          have HK := Aside0.mk hcall
          clear hq hcall hxy
          generalize q x y = z at hq0 hq1 HK HF
          go_wp2_with fail
          refine HK.out.mono ?_
          rintro e w1 ⟨rfl, hb⟩
          obtain ⟨hb0, _, _, _⟩ := two_boxes hb
          have HB0 := Aside0.mk hb0
          clear hb hb0
          go_wp2_with fail
          go_ret
          exact ⟨by rw [HF.out]; rfl, BW.out.trans (HB0.out.mono BW.out.size)⟩
      · obtain rfl : kk = m.length := by omega
        have HF := Aside0.mk (show cmpL q l m = 1 by
          rw [cmpL_skip q l m m.length hkk hkm HA.out, List.drop_eq_getElem_cons hlt, List.drop_length]; rfl)
        go_wp2_with fail
        go_ret
        exact ⟨by rw [HF.out]; rfl, below_alloc BW.out _⟩
    · obtain rfl : kk = l.length := by omega
      by_cases hlm : l.length < m.length
      · have HF := Aside0.mk (show cmpL q l m = -1 by
          rw [cmpL_skip q l m l.length hkk hkm HA.out, List.drop_eq_getElem_cons hlm, List.drop_length]; rfl)
        go_wp2_with fail
        go_ret
        exact ⟨by rw [HF.out]; rfl, BW.out⟩
      · have HF := Aside0.mk (show cmpL q l m = 0 by
          rw [cmpL_skip q l m l.length hkk hkm HA.out, show m.drop l.length = [] from List.drop_eq_nil_of_le (by omega), List.drop_length]; rfl)
        go_wp2_with fail
        go_ret
        exact ⟨by rw [HF.out]; rfl, BW.out⟩
end Go.Proofs.YtimommkbfbdkdaaDoor.P
namespace Go.Proofs.YtimommkbfbdkdaaDoor.P
open Go.RowKit Go.Proofs.YtimommkbfbdkdaaDoorW.PrintWords Go.Proofs.YtimommkbfbdkdaaDoorW.PrintLast Go.Proofs.YtimommkbfbdkdaaDoorW.PrintMore

def cmpI (a b : Int) : Int := if a < b then -1 else if a > b then 1 else 0
def cmpS (a b : ByteArray) : Int := Lib.compareBytes a.data.toList b.data.toList
def or4 (a b c d : Int) : Int := if a = 0 then if b = 0 then if c = 0 then d else c else b else a
mutual
def oT : S29 → S29 → Int
  | ⟨a, b, c, l⟩, t => or4 (cmpI a t.f0) (cmpS b t.f1) (cmpI c t.f2) (oL l t.f3)
def oL : List S29 → List S29 → Int
  | [], [] => 0
  | [], _ :: _ => -1
  | _ :: _, [] => 1
  | x :: r, y :: s => if oT x y = 0 then oL r s else oT x y
end
theorem oT_eq (t u : S29) : oT t u = or4 (cmpI t.f0 u.f0) (cmpS t.f1 u.f1) (cmpI t.f2 u.f2) (oL t.f3 u.f3) := by cases t; rw [oT]
theorem oL_cmpL : ∀ l m : List S29, oL l m = cmpL oT l m
  | [], [] => by rw [oL, cmpL]
  | [], _ :: _ => by rw [oL, cmpL]
  | _ :: _, [] => by rw [oL, cmpL]
  | x :: r, y :: s => by rw [oL, cmpL, oL_cmpL r s]

theorem cmpKind_some (a b : Int) : api_TermKind_60.f a b = some (cmpI a b) := by
  simp only [api_TermKind_60.f, api_TermKind_70.f, Option.bind_some, bne_self_eq_false, Bool.false_eq_true, if_false, cmpI]
  split
  · rfl
  · split <;> rfl
theorem cmpInt_some (a b : Int) : cmp_Compare_int.f a b = some (cmpI a b) := by
  simp only [cmp_Compare_int.f, cmp_isNaN_int.f, Option.bind_some, bne_self_eq_false, Bool.false_eq_true, if_false, cmpI]
  split
  · rfl
  · split <;> rfl
theorem or4_some (a b c d : Int) : cmp_Or_int.f 6 [a, b, c, d] = some (or4 a b c d) := by
  have w1 : wrap64 1 = 1 := by unfold wrap64; omega
  have w2 : wrap64 2 = 2 := by unfold wrap64; omega
  have w3 : wrap64 3 = 3 := by unfold wrap64; omega
  have w4 : wrap64 4 = 4 := by unfold wrap64; omega
  unfold or4 cmp_Or_int.f
  by_cases ha : a = 0
  · subst ha
    by_cases hb : b = 0
    · subst hb
      by_cases hc : c = 0
      · subst hc
        by_cases hd : d = 0
        · subst hd; simp [cmp_Or_int.l0, rd, w1, w2, w3, w4]
        · simp [cmp_Or_int.l0, rd, w1, w2, w3, hd]
      · simp [cmp_Or_int.l0, rd, w1, w2, hc]
    · simp [cmp_Or_int.l0, rd, w1, hb]
  · simp [cmp_Or_int.l0, rd, ha]

theorem C_ints4 {W : World} {g e : Nat} {a b c d : Int} (h : W.heap[g]? = some (.cells #[.int .i64 a, .int .i64 b, .int .i64 c, .int .i64 d] e (0, 0))) : Kd.C (Kd.int .i64) W (some ⟨g, 0, none⟩) [a, b, c, d].length [a, b, c, d] := by
  refine ⟨rfl, by simp, fun _ => ⟨_, rfl, fun j p hp => ⟨[.int .i64 p], rfl, rfl, fun i u hu => ?_⟩⟩⟩
  have hi : i = 0 := by
    rcases i with _ | i
    · rfl
    · simp at hu
  subst hi
  have hj : j < 4 := by have := (List.getElem?_eq_some_iff.1 hp).1; simpa using this
  rw [show j * (Kd.int .i64).sz + 0 = j from by show j * 1 + 0 = j; omega, add_plain, blk_cell h]
  rcases j with _ | _ | _ | _ | j
  · simp at hp hu; subst hp; subst hu; rfl
  · simp at hp hu; subst hp; subst hu; rfl
  · simp at hp hu; subst hp; subst hu; rfl
  · simp at hp hu; subst hp; subst hu; rfl
  · omega

set_option maxHeartbeats 2000000 in
set_option maxRecDepth 100000 in
theorem term_Order_calls (n : Nat) : ∀ (t u : S29) (A : Option Addr) (c : Nat) (B : Option Addr) (d : Nat) (w : World), nT t ≤ n → t.f3.length ≤ c → Kd.C k29 w A t.f3.length t.f3 → u.f3.length ≤ d → Kd.C k29 w B u.f3.length u.f3 →
    Calls Tryd.prog 49 #[.agg #[.int .i64 t.f0, .string t.f1, .int .i64 t.f2, .slice A t.f3.length c], .agg #[.int .i64 u.f0, .string u.f1, .int .i64 u.f2, .slice B u.f3.length d]] w
      fun e w' => e = .returned (.int .i64 (oT t u)) ∧ Below w.heap.size w w' := by
  induction n with
  | zero => intro t u A c B d w hn; rw [nT_eq] at hn; omega
  | succ n ih =>
    intro t u A c B d w hn hl hC hl2 hD
    rw [nT_eq] at hn
    have hu29 := Tryd.underlying29
    have HM := Aside0.mk (fun (x : S29) (hx : x ∈ t.f3) => show nT x ≤ n by have := nT_mem hx; omega)
    have HI := Aside0.mk ih
    have HC := Aside0.mk hC
    have HD := Aside0.mk hD
    have HO := Aside0.mk (oT_eq t u)
    have HL := Aside0.mk (oL_cmpL t.f3 u.f3)
    have HK : Aside0 (∀ W, Below w.heap.size w W → Calls Tryd.prog 63 #[.slice A t.f3.length c, .slice B u.f3.length d, .func (.func 49) #[] #[]] W fun e w' => e = .returned (.int .i64 (oL t.f3 u.f3)) ∧ Below W.heap.size W w') := ⟨fun W hW => by
      rw [HL.out]
      exact CompareFunc_calls 49 (enters_of Tryd.func49 (by kernel_rfl) rfl) oT A c t.f3 B d u.f3 W (Kd.C_below HC.out hW) (Kd.C_below HD.out hW)
        (fun W2 x y A2 c2 B2 d2 hx _ _ h1 h2 h3 h4 => HI.out x y A2 c2 B2 d2 W2 (HM.out x hx) h1 h2 h3 h4)⟩
    clear ih hn hC hD
    go_enter Tryd.func49, Tryd.ntmps49
    go_wp2_with fail
    go_region_held3 (fun w' => w'.cell? ⟨w.heap.size, 0, none⟩ = some (.int .i64 t.f0) ∧ w'.cell? ⟨w.heap.size, 1, none⟩ = some (.string t.f1) ∧ w'.cell? ⟨w.heap.size, 2, none⟩ = some (.int .i64 t.f2) ∧ w'.cell? ⟨w.heap.size, 3, none⟩ = some (.slice A t.f3.length c) ∧
        w'.cell? ⟨w.heap.size + 1, 0, none⟩ = some (.int .i64 u.f0) ∧ w'.cell? ⟨w.heap.size + 1, 1, none⟩ = some (.string u.f1) ∧ w'.cell? ⟨w.heap.size + 1, 2, none⟩ = some (.int .i64 u.f2) ∧ w'.cell? ⟨w.heap.size + 1, 3, none⟩ = some (.slice B u.f3.length d))
      (first
        | (go_keep; done)
        | (go_split_ands; exact ⟨pw_cell_below hb (by assumption), pw_cell_below hb (by assumption), pw_cell_below hb (by assumption), pw_cell_below hb (by assumption), pw_cell_below hb (by assumption), pw_cell_below hb (by assumption), pw_cell_below hb (by assumption), pw_cell_below hb (by assumption)⟩)
        | (go_split_ands; refine ⟨?_, ?_, ?_, ?_, ?_, ?_, ?_, ?_⟩ <;> assumption))
      (first
        | (go_simp; go_at_call 60; refine (api_TermKind_60.calls _ _ _ _ (cmpKind_some _ _)).mono ?_; rintro e w1 ⟨rfl, ⟨n1, rfl⟩⟩)
        | (go_simp; go_at_call 61; refine (Tryd.strings_Compare _ _ _).mono ?_; rintro e w1 ⟨rfl, rfl⟩)
        | (go_simp; go_at_call 62; refine (cmp_Compare_int.calls _ _ _ _ (cmpInt_some _ _)).mono ?_; rintro e w1 ⟨rfl, ⟨n1, rfl⟩⟩)
        | (go_simp; go_at_call 63; refine (HK.out _ (by repeat (first | exact Below.refl _ _ | apply below_alloc | apply pw_below_drewN | apply below_drew))).mono ?_; rintro e w1 ⟨rfl, hb⟩; have HB1 : Aside0 (Below w.heap.size w w1) := ⟨below_step (by repeat (first | exact Below.refl _ _ | apply below_alloc | apply pw_below_drewN | apply below_drew)) hb⟩)
        | (go_simp; go_at_call 59; refine (cmp_Or_int.calls 6 _ 4 [cmpI t.f0 u.f0, cmpS t.f1 u.f1, cmpI t.f2 u.f2, oL t.f3 u.f3] _ _ (C_ints4 (heap_alloc_new _ _)) (Nat.le_refl _) (or4_some _ _ _ _)).mono ?_; rintro e w2 ⟨rfl, ⟨n2, rfl⟩⟩))
    go_wp2_with fail
    go_ret
    exact ⟨by rw [HO.out]; rfl, pw_below_drewN (below_alloc HB1.out _) _⟩
end Go.Proofs.YtimommkbfbdkdaaDoor.P
