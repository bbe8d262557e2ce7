/- The law TermMakes comes out true. -/
import Derived.Test.YtlhfekhmfeafbaaDoorPHq
import Derived.Test.YtlhfekhmfeafbaaDoorPHv
import Derived.Test.YtlhfekhmfeafbaaDoorPx8
namespace Go.Proofs.YtlhfekhmfeafbaaDoor.P
open Go.RowKit Go.Proofs.YtlhfekhmfeafbaaDoorW.PrintWords Go.Proofs.YtlhfekhmfeafbaaDoorW.PrintLast Go.Proofs.YtlhfekhmfeafbaaDoorW.PrintMore
set_option linter.unusedVariables false
set_option linter.unusedSimpArgs false

theorem isL_V {w : World} {base : Nat} {ok : Nat → Prop} {v : Value} {l : List S25} (h : Kd.V k25 25 w base ok v l) : IsL w v l := by
  obtain ⟨A, c, rfl⟩ := Kd.V_slice h
  exact ⟨A, c, rfl, (Kd.V_reads' h).2⟩
theorem refList_T {v : Value} {l : List S25} (w : World) (h : IsL w v l) : T_ 25 #[v] w ⟨3, ⟨#[]⟩, 0, l⟩ := by
  obtain ⟨A, c, rfl, hl, hC⟩ := h
  exact (legateref08_List.calls (fun k => k < w.heap.size) A c l _ _ _ _ w (Kd.V_mk hl (Kd.C_F heap25 hC)) rfl).mono fun _ _ ⟨v, he, hR, hb⟩ => ⟨_, he, .mk (isL_V hR), hb⟩
theorem refOf_T (s : ByteArray) (w : World) : T_ 28 #[.string s] w ⟨0, s, 0, []⟩ :=
  (legateref08_Of.calls s _ _ _ _ w rfl).mono fun _ _ ⟨v, he, hR, hb⟩ => ⟨_, he, .mk (isL_R hR), hb⟩
theorem refNum_T (n : Int) (w : World) : T_ 30 #[.int .i64 n] w ⟨1, ⟨#[]⟩, n, []⟩ :=
  (legateref08_Num.calls n _ _ _ _ w rfl).mono fun _ _ ⟨v, he, hR, hb⟩ => ⟨_, he, .mk (isL_R hR), hb⟩
theorem refKey_T (s : ByteArray) (n : Int) (w : World) : T_ 31 #[.string s, .int .i64 n] w ⟨2, s, n, []⟩ :=
  (legateref08_Key.calls s n _ _ _ _ w rfl).mono fun _ _ ⟨v, he, hR, hb⟩ => ⟨_, he, .mk (isL_R hR), hb⟩
theorem refSeal_T {v1 v2 : Value} {t u : S25} (n : Int) (w : World) (h1 : IsT w v1 t) (h2 : IsT w v2 u) : T_ 36 #[v1, .int .i64 n, v2] w ⟨4, ⟨#[]⟩, n, [t, u]⟩ := by
  obtain ⟨A, c, rfl, hl, hC⟩ := h1
  obtain ⟨B, d, rfl, hl2, hC2⟩ := h2
  cases t; cases u
  exact (legateref08_Seal.calls _ _ _ (fun k => k < w.heap.size) A c _ n _ _ _ (fun k => k < w.heap.size) B d _ _ _ _ _ w (Kd.V_mk hl (Kd.C_F heap25 hC)) (Kd.V_mk hl2 (Kd.C_F heap25 hC2)) rfl).mono fun _ _ ⟨v, he, hR, hb⟩ => ⟨_, he, .mk (isL_N hR), hb⟩
theorem refSum_T {v1 v2 : Value} {t u : S25} (n : Int) (w : World) (h1 : IsT w v1 t) (h2 : IsT w v2 u) : T_ 38 #[v1, .int .i64 n, v2] w ⟨5, ⟨#[]⟩, n, [t, u]⟩ := by
  obtain ⟨A, c, rfl, hl, hC⟩ := h1
  obtain ⟨B, d, rfl, hl2, hC2⟩ := h2
  cases t; cases u
  exact (legateref08_Sum.calls _ _ _ (fun k => k < w.heap.size) A c _ n _ _ _ (fun k => k < w.heap.size) B d _ _ _ _ _ w (Kd.V_mk hl (Kd.C_F heap25 hC)) (Kd.V_mk hl2 (Kd.C_F heap25 hC2)) rfl).mono fun _ _ ⟨v, he, hR, hb⟩ => ⟨_, he, .mk (isL_N hR), hb⟩
theorem rRow2 (s : ByteArray) : legateref08_Row.f 4 [s, s] = some (3, ⟨#[]⟩, 0, [⟨0, s, 0, []⟩, ⟨0, s, 0, []⟩]) := by
  simp [legateref08_Row.f, legateref08_Row.l0, legateref08_Of.f, rdOf, wrap64]
theorem refRow_T (A : Option Addr) (c : Nat) (s : ByteArray) (w : World) (hl : 2 ≤ c) (hC : Kd.C Kd.string w A 2 [s, s]) : T_ 34 #[.slice A 2 c] w ⟨3, ⟨#[]⟩, 0, [⟨0, s, 0, []⟩, ⟨0, s, 0, []⟩]⟩ :=
  (legateref08_Row.calls 4 A c [s, s] _ _ _ _ w hC hl (rRow2 s)).mono fun _ _ ⟨v, he, hR, hb⟩ => ⟨_, he, .mk (isL_R hR), hb⟩
theorem lits2' (w : World) (o : Obj) (a b : ByteArray) : Kd.C Kd.string ((w.alloc o).alloc (.cells #[.string a, .string b] 9)) (some ⟨w.heap.size + 1, 0, none⟩) 2 [a, b] := by
  have := lits2 (w.alloc o) a b
  rwa [World.size_alloc] at this
theorem Row2_T (A : Option Addr) (c : Nat) (s : ByteArray) (w : World) (hl : 2 ≤ c) (hC : Kd.C Kd.string w A 2 [s, s]) : T_ 33 #[.slice A 2 c] w ⟨3, ⟨#[]⟩, 0, [⟨0, s, 0, []⟩, ⟨0, s, 0, []⟩]⟩ := Row_T A c [s, s] w (by simp) hl hC
theorem refSame_T {v u : Value} {t : S25} (w : World) (hn : nT t ≤ 1000000000) (h : IsT w v t) (h2 : IsT w u t) : V_ 14 #[v, u] w (.bool true) := by
  have := refSame_V w hn hn h h2
  rwa [oT_self] at this

set_option maxHeartbeats 8000000 in
set_option maxRecDepth 100000 in
theorem TermMakes_calls (s : ByteArray) (n : Int) (l : List S25) (A : Option Addr) (c : Nat) (use : Int) (w : World) (hL : Laid w) (hn : nL l ≤ 2000000) (hs : s.size ≤ 2000000) (hT : IsL w (.slice A l.length c) l) :
    V_ 4 #[.string s, .int .i64 n, .slice A l.length c, .int .i64 use] w (.bool true) := by
  have hu25 := Tryd.underlying25
  have hu9 := Tryd.underlying9
  have HL := Aside0.mk hL
  have HT := Aside0.mk hT
  clear hL hT
  unfold V_
  have HW : Aside0 (∀ W, Below w.heap.size w W → V_ 10 #[] W (.bool true)) := ⟨fun W hW => works_calls W (HL.out.below hW)⟩
  go_enter Tryd.func4, Tryd.ntmps4
  go_wp2_with fail
  refine (HW.out _ (by repeat (first | exact Below.refl _ _ | apply below_alloc))).mono ?_
  clear HW HL
  rintro e w1 ⟨rfl, b1⟩
  have B1 := Aside0.mk b1
  have T1 := Aside0.mk (HT.out.below b1)
  clear b1 HT
  go_wp2_with fail
  refine (refList_T _ T1.out).mono ?_
  rintro e w2 ⟨v2, rfl, h2, b2⟩
  obtain ⟨A2, c2, e2, l2, C2⟩ := h2
  cases e2
  have B2 := Aside0.mk (B1.out.trans (b2.mono B1.out.size))
  have T2 := Aside0.mk (T1.out.below b2)
  have I2 := Aside0.mk (show IsT w2 (.agg #[.int .i64 3, .string ⟨#[]⟩, .int .i64 0, .slice A2 l.length c2]) ⟨3, ⟨#[]⟩, 0, l⟩ from ⟨A2, c2, rfl, l2, C2⟩)
  clear b2 l2 C2 B1 T1
  go_wp2_with fail
  refine (Large_V _ 200 (t := ⟨3, ⟨#[]⟩, 0, l⟩) (by rw [nT_eq]; simp only [ByteArray.size]; simp; omega) (I2.out.below (by repeat (first | exact Below.refl _ _ | apply below_alloc)))).mono ?_
  rintro e w3 ⟨rfl, b3⟩
  obtain ⟨p3, q3, r3⟩ := one_box b3
  have B3 := Aside0.mk (B2.out.trans (p3.mono B2.out.size))
  have T3 := Aside0.mk (T2.out.below p3)
  have I3 := Aside0.mk (I2.out.below p3)
  have X3 := Aside0.mk r3
  clear p3 q3 r3 b3 B2 T2 I2
  obtain ⟨L1, hL1⟩ : ∃ b, b = decide (((partsT (⟨3, ⟨#[]⟩, 0, l⟩ : S25)).length : Int) > 200) := ⟨_, rfl⟩
  rw [← hL1]
  clear hL1
  cases L1 with
  | true =>
    go_wp2_with fail
    go_ret
    exact ⟨rfl, B3.out⟩
  | false =>
  go_wp2_with fail
  refine (Key_T _ _ _).mono ?_
  rintro e w4 ⟨v4, rfl, h4, b4⟩
  obtain ⟨A4, c4, e4, l4, C4⟩ := h4
  cases e4
  have B4 := Aside0.mk (B3.out.trans (b4.mono B3.out.size))
  have T4 := Aside0.mk (T3.out.below b4)
  have I4 := Aside0.mk (I3.out.below b4)
  have X4 := Aside0.mk (blk_below X3.out b4)
  have K4 := Aside0.mk (show IsT w4 (.agg #[.int .i64 2, .string s, .int .i64 n, .slice A4 0 c4]) ⟨2, s, n, []⟩ from ⟨A4, c4, rfl, l4, C4⟩)
  clear b4 l4 C4 B3 T3 I3 X3
  simp only [List.length_nil]
  have N0 : Aside0 (nT (⟨0, s, 0, []⟩ : S25) ≤ 1000000000) := ⟨by rw [nT_eq, nL]; simp only []; omega⟩
  have N1 : Aside0 (nT (⟨1, ⟨#[]⟩, n, []⟩ : S25) ≤ 1000000000) := ⟨by rw [nT_eq, nL]; simp only []; show 1 + 0 + 0 ≤ _; omega⟩
  have N2 : Aside0 (nT (⟨2, s, n, []⟩ : S25) ≤ 1000000000) := ⟨by rw [nT_eq, nL]; simp only []; omega⟩
  go_wp2_with fail
  obtain ⟨w5, hw5⟩ : ∃ w5, w5 = w4.alloc (.cells #[.int .i64 2, .string s, .int .i64 n, .slice A4 0 c4] 25) := ⟨_, rfl⟩
  have b5 : Below w4.heap.size w4 w5 := hw5 ▸ below_alloc (Below.refl _ _) _
  have B5 := Aside0.mk (B4.out.trans (b5.mono B4.out.size))
  have T5 := Aside0.mk (T4.out.below b5)
  have I5 := Aside0.mk (I4.out.below b5)
  have X5 := Aside0.mk (blk_below X4.out b5)
  have K5 := Aside0.mk (K4.out.below b5)
  have Y5 : Aside0 (w5.heap[w4.heap.size]? = some (.cells #[.int .i64 2, .string s, .int .i64 n, .slice A4 0 c4] 25)) := ⟨hw5 ▸ box_new w4 _⟩
  rw [← hw5]
  clear hw5 b5 B4 T4 I4 X4 K4
  obtain ⟨kc0, kc1, kc2, kc3⟩ := box_cells Y5.out
  have HWc : Aside0 (Below w5.heap.size w5 w5) := ⟨Below.refl _ _⟩
  go_region_held3 (fun w' => w'.cell? ⟨w4.heap.size, 0, none⟩ = some (.int .i64 2) ∧ w'.cell? ⟨w4.heap.size, 1, none⟩ = some (.string s) ∧ w'.cell? ⟨w4.heap.size, 2, none⟩ = some (.int .i64 n) ∧ w'.cell? ⟨w4.heap.size, 3, none⟩ = some (.slice A4 0 c4))
    (first | (go_keep; done) | (go_split_ands; exact ⟨pw_cell_below hb (by assumption), pw_cell_below hb (by assumption), pw_cell_below hb (by assumption), pw_cell_below hb (by assumption)⟩) | (go_split_ands; refine ⟨?_, ?_, ?_, ?_⟩ <;> assumption))
    (first
      | (go_simp; go_at_call 27; refine (Of_T _ _).mono ?_; rintro e wz ⟨vA, rfl, hA, hb⟩; have HWn := Aside0.mk (below_step (by repeat (first | exact HWc.out | apply below_alloc | apply pw_below_drewN | apply below_drew)) hb); clear HWc; have HWc := HWn; clear HWn; have IA := Aside0.mk hA; clear hA)
      | (go_simp; go_at_call 28; refine (refOf_T _ _).mono ?_; rintro e wz ⟨vB, rfl, hB, hb⟩; have IAn := Aside0.mk (IA.out.below (below_step (by repeat (first | exact Below.refl _ _ | apply below_alloc | apply pw_below_drewN | apply below_drew)) hb)); clear IA; have IA := IAn; clear IAn; have HWn := Aside0.mk (below_step (by repeat (first | exact HWc.out | apply below_alloc | apply pw_below_drewN | apply below_drew)) hb); clear HWc; have HWc := HWn; clear HWn; have IB := Aside0.mk hB; clear hB)
      | (go_simp; go_at_call 14; refine (refSame_T (t := ⟨0, s, 0, []⟩) _ N0.out (IA.out.below (by repeat (first | exact Below.refl _ _ | apply below_alloc | apply pw_below_drewN | apply below_drew))) (IB.out.below (by repeat (first | exact Below.refl _ _ | apply below_alloc | apply pw_below_drewN | apply below_drew)))).mono ?_; clear IA IB; rintro e wz ⟨rfl, hb⟩; have HWn := Aside0.mk (below_step (by repeat (first | exact HWc.out | apply below_alloc | apply pw_below_drewN | apply below_drew)) hb); clear HWc; have HWc := HWn; clear HWn)
      | (go_simp; go_at_call 29; refine (Num_T _ _).mono ?_; rintro e wz ⟨vA, rfl, hA, hb⟩; have HWn := Aside0.mk (below_step (by repeat (first | exact HWc.out | apply below_alloc | apply pw_below_drewN | apply below_drew)) hb); clear HWc; have HWc := HWn; clear HWn; have IA := Aside0.mk hA; clear hA)
      | (go_simp; go_at_call 30; refine (refNum_T _ _).mono ?_; rintro e wz ⟨vB, rfl, hB, hb⟩; have IAn := Aside0.mk (IA.out.below (below_step (by repeat (first | exact Below.refl _ _ | apply below_alloc | apply pw_below_drewN | apply below_drew)) hb)); clear IA; have IA := IAn; clear IAn; have HWn := Aside0.mk (below_step (by repeat (first | exact HWc.out | apply below_alloc | apply pw_below_drewN | apply below_drew)) hb); clear HWc; have HWc := HWn; clear HWn; have IB := Aside0.mk hB; clear hB)
      | (go_simp; go_at_call 14; refine (refSame_T (t := ⟨1, ⟨#[]⟩, n, []⟩) _ N1.out (IA.out.below (by repeat (first | exact Below.refl _ _ | apply below_alloc | apply pw_below_drewN | apply below_drew))) (IB.out.below (by repeat (first | exact Below.refl _ _ | apply below_alloc | apply pw_below_drewN | apply below_drew)))).mono ?_; clear IA IB; rintro e wz ⟨rfl, hb⟩; have HWn := Aside0.mk (below_step (by repeat (first | exact HWc.out | apply below_alloc | apply pw_below_drewN | apply below_drew)) hb); clear HWc; have HWc := HWn; clear HWn)
      | (go_simp; go_at_call 31; refine (refKey_T _ _ _).mono ?_; rintro e wz ⟨vB, rfl, hB, hb⟩; have HWn := Aside0.mk (below_step (by repeat (first | exact HWc.out | apply below_alloc | apply pw_below_drewN | apply below_drew)) hb); clear HWc; have HWc := HWn; clear HWn; have IB := Aside0.mk hB; clear hB)
      | (go_simp; go_at_call 14; refine (refSame_T (t := ⟨2, s, n, []⟩) _ N2.out (K5.out.below (by repeat (first | exact HWc.out | apply below_alloc | apply pw_below_drewN | apply below_drew))) (IB.out.below (by repeat (first | exact Below.refl _ _ | apply below_alloc | apply pw_below_drewN | apply below_drew)))).mono ?_; clear IB; rintro e wz ⟨rfl, hb⟩; have HWn := Aside0.mk (below_step (by repeat (first | exact HWc.out | apply below_alloc | apply pw_below_drewN | apply below_drew)) hb); clear HWc; have HWc := HWn; clear HWn))
  go_wp2_with fail
  obtain ⟨w6, hw6⟩ : ∃ w6, w6 = wz := ⟨_, rfl⟩
  rw [← hw6] at HWc ⊢
  have B6 := Aside0.mk (B5.out.trans (HWc.out.mono B5.out.size))
  have T6 := Aside0.mk (T5.out.below HWc.out)
  have I6 := Aside0.mk (I5.out.below HWc.out)
  have X6 := Aside0.mk (blk_below X5.out HWc.out)
  have K6 := Aside0.mk (K5.out.below HWc.out)
  have Y6 := Aside0.mk (blk_below Y5.out HWc.out)
  have HLl : Aside0 (l.length ≤ 1000000000) := ⟨by have := nL_len l; omega⟩
  have N3 : Aside0 (nT (⟨3, ⟨#[]⟩, 0, l⟩ : S25) ≤ 1000000000) := ⟨by rw [nT_eq]; show 1 + 0 + nL l ≤ _; omega⟩
  have N4 : Aside0 (nT (⟨3, ⟨#[]⟩, 0, [⟨0, s, 0, []⟩, ⟨0, s, 0, []⟩]⟩ : S25) ≤ 1000000000) := ⟨by simp only [nT, nL]; show 1 + 0 + _ ≤ _; omega⟩
  clear hw6 hb HWc B5 T5 I5 X5 K5 Y5 kc0 kc1 kc2 kc3 N0 N1 N2
  obtain ⟨wc0, wc1, wc2, wc3⟩ := box_cells X6.out
  have HWc : Aside0 (Below w6.heap.size w6 w6) := ⟨Below.refl _ _⟩
  go_region_held3 (fun w' => w'.cell? ⟨w2.heap.size, 0, none⟩ = some (.int .i64 3) ∧ w'.cell? ⟨w2.heap.size, 1, none⟩ = some (.string ⟨#[]⟩) ∧ w'.cell? ⟨w2.heap.size, 2, none⟩ = some (.int .i64 0) ∧ w'.cell? ⟨w2.heap.size, 3, none⟩ = some (.slice A2 l.length c2))
    (first | (with_reducible (go_split_ands; exact ⟨pw_cell_below hb (by assumption), pw_cell_below hb (by assumption), pw_cell_below hb (by assumption), pw_cell_below hb (by assumption)⟩)) | (with_reducible (go_split_ands; exact ⟨pw_cell_below (below_alloc (Below.refl _ _) _) (by assumption), pw_cell_below (below_alloc (Below.refl _ _) _) (by assumption), pw_cell_below (below_alloc (Below.refl _ _) _) (by assumption), pw_cell_below (below_alloc (Below.refl _ _) _) (by assumption)⟩)) | (go_keep; done) | (go_split_ands; refine ⟨?_, ?_, ?_, ?_⟩ <;> assumption))
    (first
      | (go_simp; go_at_call 32; refine (List_T _ HLl.out (T6.out.below (by repeat (first | exact HWc.out | apply below_alloc | apply pw_below_drewN | apply below_drew)))).mono ?_; rintro e wz ⟨vA, rfl, hA, hb⟩; have HWn := Aside0.mk (below_step (by repeat (first | exact HWc.out | apply below_alloc | apply pw_below_drewN | apply below_drew)) hb); clear HWc; have HWc := HWn; clear HWn; have IA := Aside0.mk hA; clear hA)
      | (go_simp; go_at_call 14; refine (refSame_T (t := ⟨3, ⟨#[]⟩, 0, l⟩) _ N3.out (IA.out.below (by repeat (first | exact Below.refl _ _ | apply below_alloc | apply pw_below_drewN | apply below_drew))) (I6.out.below (by repeat (first | exact HWc.out | apply below_alloc | apply pw_below_drewN | apply below_drew)))).mono ?_; clear IA; rintro e wz ⟨rfl, hb⟩; have HWn := Aside0.mk (below_step (by repeat (first | exact HWc.out | apply below_alloc | apply pw_below_drewN | apply below_drew)) hb); clear HWc; have HWc := HWn; clear HWn)
      | (go_simp; go_at_call 33; refine (Row2_T _ _ s _ (by decide) (by with_reducible repeat (first | exact lits2 _ _ _ | exact lits2' _ _ _ _ | refine Kd.C_below ?_ hb | refine Kd.C_below ?_ (pw_below_drewN (Below.refl _ _) _) | refine Kd.C_below ?_ (below_drew (Below.refl _ _)) | refine Kd.C_below ?_ (below_alloc (Below.refl _ _) _)))).mono ?_; rintro e wz ⟨vA, rfl, hA, hb⟩; have HWn := Aside0.mk (below_step (by repeat (first | exact HWc.out | apply below_alloc | apply pw_below_drewN | apply below_drew)) hb); clear HWc; have HWc := HWn; clear HWn; have JA := Aside0.mk hA; clear hA)
      | (go_simp; go_at_call 34; refine (refRow_T _ _ s _ (by decide) (by with_reducible repeat (first | exact lits2 _ _ _ | exact lits2' _ _ _ _ | refine Kd.C_below ?_ hb | refine Kd.C_below ?_ (pw_below_drewN (Below.refl _ _) _) | refine Kd.C_below ?_ (below_drew (Below.refl _ _)) | refine Kd.C_below ?_ (below_alloc (Below.refl _ _) _)))).mono ?_; rintro e wz ⟨vB, rfl, hB, hb⟩; have JAn := Aside0.mk (JA.out.below (below_step (by repeat (first | exact Below.refl _ _ | apply below_alloc | apply pw_below_drewN | apply below_drew)) hb)); clear JA; have JA := JAn; clear JAn; have HWn := Aside0.mk (below_step (by repeat (first | exact HWc.out | apply below_alloc | apply pw_below_drewN | apply below_drew)) hb); clear HWc; have HWc := HWn; clear HWn; have JB := Aside0.mk hB; clear hB)
      | (go_simp; go_at_call 14; refine (refSame_T (t := ⟨3, ⟨#[]⟩, 0, [⟨0, s, 0, []⟩, ⟨0, s, 0, []⟩]⟩) _ N4.out (JA.out.below (by repeat (first | exact Below.refl _ _ | apply below_alloc | apply pw_below_drewN | apply below_drew))) (JB.out.below (by repeat (first | exact Below.refl _ _ | apply below_alloc | apply pw_below_drewN | apply below_drew)))).mono ?_; clear JA JB; rintro e wz ⟨rfl, hb⟩; have HWn := Aside0.mk (below_step (by repeat (first | exact HWc.out | apply below_alloc | apply pw_below_drewN | apply below_drew)) hb); clear HWc; have HWc := HWn; clear HWn))
  all_goals go_wp2_with fail
  all_goals (
    obtain ⟨w7, hw7⟩ : ∃ w7, w7 = wz := ⟨_, rfl⟩
    rw [← hw7] at HWc ⊢
    have B7 := Aside0.mk (B6.out.trans (HWc.out.mono B6.out.size))
    have I7 := Aside0.mk (I6.out.below HWc.out)
    have X7 := Aside0.mk (blk_below X6.out HWc.out)
    have K7 := Aside0.mk (K6.out.below HWc.out)
    have Y7 := Aside0.mk (blk_below Y6.out HWc.out)
    have N5 : Aside0 (nT (⟨4, ⟨#[]⟩, use, [⟨2, s, n, []⟩, ⟨3, ⟨#[]⟩, 0, l⟩]⟩ : S25) ≤ 1000000000) := ⟨by simp only [nT, nL]; show 1 + 0 + (_ + (1 + 0 + _ + 0)) ≤ _; omega⟩
    have N6 : Aside0 (nT (⟨5, ⟨#[]⟩, use, [⟨2, s, n, []⟩, ⟨3, ⟨#[]⟩, 0, l⟩]⟩ : S25) ≤ 1000000000) := ⟨by simp only [nT, nL]; show 1 + 0 + (_ + (1 + 0 + _ + 0)) ≤ _; omega⟩
    clear hw7 hb HWc B6 I6 X6 K6 Y6 wc0 wc1 wc2 wc3 N3 N4 T6
    obtain ⟨wc0, wc1, wc2, wc3⟩ := box_cells X7.out
    obtain ⟨kc0, kc1, kc2, kc3⟩ := box_cells Y7.out
    have HWc : Aside0 (Below w7.heap.size w7 w7) := ⟨Below.refl _ _⟩
    go_region_held3 (fun w' => w'.cell? ⟨w4.heap.size, 0, none⟩ = some (.int .i64 2) ∧ w'.cell? ⟨w4.heap.size, 1, none⟩ = some (.string s) ∧ w'.cell? ⟨w4.heap.size, 2, none⟩ = some (.int .i64 n) ∧ w'.cell? ⟨w4.heap.size, 3, none⟩ = some (.slice A4 0 c4) ∧ w'.cell? ⟨w2.heap.size, 0, none⟩ = some (.int .i64 3) ∧ w'.cell? ⟨w2.heap.size, 1, none⟩ = some (.string ⟨#[]⟩) ∧ w'.cell? ⟨w2.heap.size, 2, none⟩ = some (.int .i64 0) ∧ w'.cell? ⟨w2.heap.size, 3, none⟩ = some (.slice A2 l.length c2))
      (first | (with_reducible (go_split_ands; exact ⟨pw_cell_below hb (by assumption), pw_cell_below hb (by assumption), pw_cell_below hb (by assumption), pw_cell_below hb (by assumption), pw_cell_below hb (by assumption), pw_cell_below hb (by assumption), pw_cell_below hb (by assumption), pw_cell_below hb (by assumption)⟩)) | (with_reducible (go_split_ands; exact ⟨pw_cell_below (below_alloc (Below.refl _ _) _) (by assumption), pw_cell_below (below_alloc (Below.refl _ _) _) (by assumption), pw_cell_below (below_alloc (Below.refl _ _) _) (by assumption), pw_cell_below (below_alloc (Below.refl _ _) _) (by assumption), pw_cell_below (below_alloc (Below.refl _ _) _) (by assumption), pw_cell_below (below_alloc (Below.refl _ _) _) (by assumption), pw_cell_below (below_alloc (Below.refl _ _) _) (by assumption), pw_cell_below (below_alloc (Below.refl _ _) _) (by assumption)⟩)) | (go_keep; done) | (go_split_ands; refine ⟨?_, ?_, ?_, ?_, ?_, ?_, ?_, ?_⟩ <;> assumption))
      (first
        | (go_simp; go_at_call 35; refine (Seal_T _ _ (K7.out.below (by repeat (first | exact HWc.out | apply below_alloc | apply pw_below_drewN | apply below_drew))) (I7.out.below (by repeat (first | exact HWc.out | apply below_alloc | apply pw_below_drewN | apply below_drew)))).mono ?_; rintro e wz ⟨vA, rfl, hA, hb⟩; have HWn := Aside0.mk (below_step (by repeat (first | exact HWc.out | apply below_alloc | apply pw_below_drewN | apply below_drew)) hb); clear HWc; have HWc := HWn; clear HWn; have JA := Aside0.mk hA; clear hA)
        | (go_simp; go_at_call 36; refine (refSeal_T _ _ (K7.out.below (by repeat (first | exact HWc.out | apply below_alloc | apply pw_below_drewN | apply below_drew))) (I7.out.below (by repeat (first | exact HWc.out | apply below_alloc | apply pw_below_drewN | apply below_drew)))).mono ?_; rintro e wz ⟨vB, rfl, hB, hb⟩; have JAn := Aside0.mk (JA.out.below (below_step (by repeat (first | exact Below.refl _ _ | apply below_alloc | apply pw_below_drewN | apply below_drew)) hb)); clear JA; have JA := JAn; clear JAn; have HWn := Aside0.mk (below_step (by repeat (first | exact HWc.out | apply below_alloc | apply pw_below_drewN | apply below_drew)) hb); clear HWc; have HWc := HWn; clear HWn; have JB := Aside0.mk hB; clear hB)
        | (go_simp; go_at_call 14; refine (refSame_T (t := ⟨4, ⟨#[]⟩, use, [⟨2, s, n, []⟩, ⟨3, ⟨#[]⟩, 0, l⟩]⟩) _ N5.out (JA.out.below (by repeat (first | exact Below.refl _ _ | apply below_alloc | apply pw_below_drewN | apply below_drew))) (JB.out.below (by repeat (first | exact Below.refl _ _ | apply below_alloc | apply pw_below_drewN | apply below_drew)))).mono ?_; clear JA JB; rintro e wz ⟨rfl, hb⟩; have HWn := Aside0.mk (below_step (by repeat (first | exact HWc.out | apply below_alloc | apply pw_below_drewN | apply below_drew)) hb); clear HWc; have HWc := HWn; clear HWn)
        | (go_simp; go_at_call 37; refine (Sum_T _ _ (K7.out.below (by repeat (first | exact HWc.out | apply below_alloc | apply pw_below_drewN | apply below_drew))) (I7.out.below (by repeat (first | exact HWc.out | apply below_alloc | apply pw_below_drewN | apply below_drew)))).mono ?_; rintro e wz ⟨vA, rfl, hA, hb⟩; have HWn := Aside0.mk (below_step (by repeat (first | exact HWc.out | apply below_alloc | apply pw_below_drewN | apply below_drew)) hb); clear HWc; have HWc := HWn; clear HWn; have MA := Aside0.mk hA; clear hA)
        | (go_simp; go_at_call 38; refine (refSum_T _ _ (K7.out.below (by repeat (first | exact HWc.out | apply below_alloc | apply pw_below_drewN | apply below_drew))) (I7.out.below (by repeat (first | exact HWc.out | apply below_alloc | apply pw_below_drewN | apply below_drew)))).mono ?_; rintro e wz ⟨vB, rfl, hB, hb⟩; have MAn := Aside0.mk (MA.out.below (below_step (by repeat (first | exact Below.refl _ _ | apply below_alloc | apply pw_below_drewN | apply below_drew)) hb)); clear MA; have MA := MAn; clear MAn; have HWn := Aside0.mk (below_step (by repeat (first | exact HWc.out | apply below_alloc | apply pw_below_drewN | apply below_drew)) hb); clear HWc; have HWc := HWn; clear HWn; have MB := Aside0.mk hB; clear hB)
        | (go_simp; go_at_call 14; refine (refSame_T (t := ⟨5, ⟨#[]⟩, use, [⟨2, s, n, []⟩, ⟨3, ⟨#[]⟩, 0, l⟩]⟩) _ N6.out (MA.out.below (by repeat (first | exact Below.refl _ _ | apply below_alloc | apply pw_below_drewN | apply below_drew))) (MB.out.below (by repeat (first | exact Below.refl _ _ | apply below_alloc | apply pw_below_drewN | apply below_drew)))).mono ?_; clear MA MB; rintro e wz ⟨rfl, hb⟩; have HWn := Aside0.mk (below_step (by repeat (first | exact HWc.out | apply below_alloc | apply pw_below_drewN | apply below_drew)) hb); clear HWc; have HWc := HWn; clear HWn))
    go_wp2_with fail
    go_ret
    exact ⟨rfl, B7.out.trans (HWc.out.mono B7.out.size)⟩)
end Go.Proofs.YtlhfekhmfeafbaaDoor.P
