/- The law TermDeep comes out true. -/
import Derived.Test.YtlhfekhmfeafbaaDoorPHq
import Derived.Test.YtlhfekhmfeafbaaDoorPHz
import Derived.Test.YtlhfekhmfeafbaaDoorPLa
namespace Go.Proofs.YtlhfekhmfeafbaaDoor.P
open Go.RowKit Go.Proofs.YtlhfekhmfeafbaaDoorW.PrintWords Go.Proofs.YtlhfekhmfeafbaaDoorW.PrintLast Go.Proofs.YtlhfekhmfeafbaaDoorW.PrintMore
set_option linter.unusedVariables false
set_option linter.unusedSimpArgs false

theorem FK_len {w : World} {ok : Nat → Prop} {x : S25} {cs : List Value} (h : Kd.FK k25 w ok x cs) : cs.length = 4 := k25.K_len (Kd.FK_now h)
theorem FK_one {w : World} {ok : Nat → Prop} {x : S25} {cs : List Value} (h : Kd.FK k25 w ok x cs) : ∀ u ∈ cs, u.oneCell' = true := k25.K_one (Kd.FK_now h)
/-- A list made over elements that stand apart from one block stands apart from it. -/
theorem F_of_rel {wr w5 W' : World} {bu base : Nat} {A : Option Addr} {c : Nat} {l : List S25} (hR : Kd.R (kRel (Kd.FK k25 wr fun k => k ≠ bu) FK_len FK_one) 25 w5 base (fun k => k ≠ bu) (.slice A l.length c) l)
    (hs : w5.heap.size ≤ W'.heap.size) (ha : ∀ k, k ≠ bu → k < w5.heap.size → W'.heap[k]? = w5.heap[k]?) (hs2 : wr.heap.size ≤ w5.heap.size) (hb : ∀ k, k ≠ bu → k < wr.heap.size → w5.heap[k]? = wr.heap[k]?) :
    l.length ≤ c ∧ Kd.F k25 W' (fun k => k ≠ bu) A l.length l := by
  refine ⟨(Kd.R_reads' hR).2.1, fun W'' hW => ?_⟩
  have h1 : ∀ k, k ≠ bu → k < w5.heap.size → W''.heap[k]? = w5.heap[k]? := fun k hk hlt => (hW k hk (Nat.lt_of_lt_of_le hlt hs)).trans (ha k hk hlt)
  have h2 := (Kd.R_reads' (Kd.R_step hR h1)).2.2
  obtain ⟨e1, e2, e3⟩ := h2
  refine ⟨e1, e2, fun hp => ?_⟩
  obtain ⟨ad, e, hc⟩ := e3 hp
  refine ⟨ad, e, fun j p hj => ?_⟩
  obtain ⟨cc, k1, k2, k3⟩ := hc j p hj
  exact ⟨cc, k1, k2 W'' (fun k hk hlt => (h1 k hk (Nat.lt_of_lt_of_le hlt hs2)).trans (hb k hk hlt)), k3⟩
/-- A list literal of one term. -/
theorem lit1F (w : World) {ok : Nat → Prop} {A : Option Addr} {c : Nat} {t : S25} (hl : t.f3.length ≤ c) (hF : Kd.F k25 w ok A t.f3.length t.f3) :
    ReadsRow (Kd.FK k25 w ok) 4 (w.alloc (.cells #[.int .i64 t.f0, .string t.f1, .int .i64 t.f2, .slice A t.f3.length c] 25)) (some ⟨w.heap.size, 0, none⟩) 1 [t] := by
  refine ⟨rfl, by decide, fun _ => ⟨_, rfl, fun j p hj => ?_⟩⟩
  match j, hj with
  | 0, hj =>
    simp only [List.getElem?_cons_zero, Option.some.injEq] at hj
    subst hj
    refine ⟨_, rfl, k25_mkF w ok t hl hF, fun i u hu => ?_⟩
    have := blk_cell (box_new w (.cells #[.int .i64 t.f0, .string t.f1, .int .i64 t.f2, .slice A t.f3.length c] 25)) i
    rw [← List.getElem?_toArray] at hu
    rw [← hu, ← this]
    by_cases hi : i = 0 <;> simp [Addr.add, hi]
  | j + 1, hj => simp at hj

set_option maxHeartbeats 8000000 in
set_option maxRecDepth 100000 in
theorem TermDeep_calls (t : S25) (A : Option Addr) (c : Nat) (n : Int) (w : World) (hL : Laid w) (hn : nT t ≤ 2000000) (hT : IsT w (.agg #[.int .i64 t.f0, .string t.f1, .int .i64 t.f2, .slice A t.f3.length c]) t) :
    V_ 8 #[.agg #[.int .i64 t.f0, .string t.f1, .int .i64 t.f2, .slice A t.f3.length c], .int .i64 n] w (.bool true) := by
  have hu25 := Tryd.underlying25
  have HL := Aside0.mk hL
  have HT := Aside0.mk hT
  clear hL hT
  unfold V_
  have HW : Aside0 (∀ W, Below w.heap.size w W → V_ 10 #[] W (.bool true)) := ⟨fun W hW => works_calls W (HL.out.below hW)⟩
  go_enter Tryd.func8, Tryd.ntmps8
  go_wp2_with fail
  refine (HW.out _ (below_alloc (Below.refl _ _) _)).mono ?_
  clear HW
  rintro e w1 ⟨rfl, b1⟩
  obtain ⟨p1, q1, r1⟩ := one_box b1
  have B1 := Aside0.mk p1
  have X1 := Aside0.mk r1
  have T1 := Aside0.mk (HT.out.below p1)
  obtain ⟨hc0, hc1, hc2, hc3⟩ := box_cells r1
  clear b1 p1 r1
  go_wp2_with fail
  refine (Large_V _ 20 (by omega) T1.out).mono ?_
  rintro e w2 ⟨rfl, b2⟩
  have B2 := Aside0.mk (B1.out.trans (b2.mono B1.out.size))
  have X2 := Aside0.mk (blk_below X1.out b2)
  have T2 := Aside0.mk (T1.out.below b2)
  clear hc0 hc1 hc2 hc3 b2 B1 X1 T1
  obtain ⟨hc0, hc1, hc2, hc3⟩ := box_cells X2.out
  obtain ⟨L1, hL1⟩ : ∃ b, b = decide (((partsT t).length : Int) > 20) := ⟨_, rfl⟩
  rw [← hL1]
  clear hL1
  cases L1 with
  | true =>
    go_wp2_with fail
    go_ret
    exact ⟨rfl, B2.out⟩
  | false =>
  by_cases hneg : n < 0
  · go_wp2_with fail
    go_ret
    exact ⟨rfl, B2.out⟩
  by_cases hbig : n > 20
  · go_wp2_with fail
    go_ret
    exact ⟨rfl, B2.out⟩
  obtain ⟨m, rfl⟩ : ∃ m : Nat, n = m := ⟨n.toNat, by omega⟩
  have hm : m ≤ 20 := by omega
  clear hneg hbig
  have g1 : ¬ (m : Int) < 0 := by omega
  have g2 : ¬ (m : Int) > 20 := by omega
  have g3 : ¬ 20 < m := by omega
  go_wp2_with fail
  refine (Valid_V _ (by omega) T2.out).mono ?_
  obtain ⟨bv, hbv⟩ : ∃ bv, bv = vT t 0 := ⟨_, rfl⟩
  rw [← hbv]
  have HBV := Aside0.mk hbv
  clear hbv
  rintro e w3 ⟨rfl, b3⟩
  have B3 := Aside0.mk (B2.out.trans (b3.mono B2.out.size))
  have X3 := Aside0.mk (blk_below X2.out b3)
  have T3 := Aside0.mk (T2.out.below b3)
  clear hc0 hc1 hc2 hc3 b3 B2 X2 T2
  obtain ⟨hc0, hc1, hc2, hc3⟩ := box_cells X3.out
  have hwl : w.heap.size < w3.heap.size := blk_lt X3.out
  have FT : Aside0 (t.f3.length ≤ c ∧ Kd.F k25 (w3.alloc (.cells #[.int .i64 t.f0, .string t.f1, .int .i64 t.f2, .slice A t.f3.length c] 25)) (fun k => k ≠ w3.heap.size) A t.f3.length t.f3) := ⟨by
    obtain ⟨At, ct, et, hlt', hCt⟩ := T3.out
    simp only [Value.agg.injEq, Array.mk.injEq, List.cons.injEq, Value.slice.injEq, and_true, true_and] at et
    obtain ⟨rfl, rfl⟩ := et
    refine ⟨hlt', Kd.F_mono (Kd.F_alloc (Kd.C_F heap25 hCt) _) (fun k hk => by omega)⟩⟩
  go_wp2_with fail
  go_loopg [9] m (fun gg i wr => ∃ (kk : Nat) (Au : Option Addr) (cu : Nat), kk ≤ m ∧ m - kk ≤ gg ∧ i = .int .i64 kk ∧ Aside0 (Below w3.heap.size w3 wr) ∧
      Aside0 (wr.heap[w3.heap.size]? = some (.cells #[.int .i64 (wrapT t kk).f0, .string (wrapT t kk).f1, .int .i64 (wrapT t kk).f2, .slice Au (wrapT t kk).f3.length cu] 25 (0, 0))) ∧
      Aside0 ((wrapT t kk).f3.length ≤ cu ∧ Kd.F k25 wr (fun k => k ≠ w3.heap.size) Au (wrapT t kk).f3.length (wrapT t kk).f3))
  case atStart => exact ⟨0, A, c, Nat.zero_le _, by omega, rfl, ⟨below_alloc (Below.refl _ _) _⟩, ⟨box_new w3 _⟩, FT⟩
  case round =>
    obtain ⟨kk, Au, cu, hkk, hg, rfl, BW, XU, FU⟩ := hrel
    clear hc0 hc1 hc2 hc3
    obtain ⟨u, hu⟩ : ∃ u, u = wrapT t kk := ⟨_, rfl⟩
    rw [← hu] at XU FU
    have HU := Aside0.mk hu
    clear hu
    obtain ⟨hd0, hd1, hd2, hd3⟩ := box_cells XU.out
    have hf0 := blk_frozen XU.out 0
    by_cases hlt : kk < m
    · have hin : (kk : Int) < m := by omega
      have RR := Aside0.mk (lit1F wr FU.out.1 FU.out.2)
      go_wp2_with fail
      refine (ListR_calls (Kd.FK k25 wr fun k => k ≠ w3.heap.size) FK_len FK_one (some ⟨wr.heap.size, 0, none⟩) 1 [u] _ (by simp) RR.out).mono ?_
      rintro e w5 ⟨v, rfl, hR, hb⟩
      obtain ⟨hb0, hsz, hl1⟩ := one_box hb
      obtain ⟨A5, c5, rfl⟩ := Kd.R_slice hR
      rw [World.size_alloc] at hR
      have hxu := blk_below XU.out hb0
      have HXU := Aside0.mk hxu
      have HB0 := Aside0.mk hb0
      have hwu := blk_lt XU.out
      have HR := Aside0.mk (show Kd.R (kRel (Kd.FK k25 wr fun k => k ≠ w3.heap.size) FK_len FK_one) 25 w5 (wr.heap.size + 1) (fun k => k ≠ w3.heap.size) (.slice A5 [u].length c5) [u] from Kd.R_mono (Kd.R_bound hR) (fun k hk => by have := hk.2.1; omega))
      obtain ⟨he0, he1, he2, he3⟩ := box_cells hxu
      have hg0 := blk_frozen hxu 0
      have hg1 := blk_frozen hxu 1
      have hg2 := blk_frozen hxu 2
      have hg3 := blk_frozen hxu 3
      clear hb hb0 hl1 hR hxu hd0 hd1 hd2 hd3 RR hf0
      go_wp2_with fail
      have hwk : wrapT t (kk + 1) = ⟨3, ⟨#[]⟩, 0, [u]⟩ := by rw [wrapT, ← HU.out]
      go_roundg (m - (kk + 1))
      case measure => omega
      case rel =>
        refine ⟨kk + 1, A5, c5, by omega, by omega, by go_num, ⟨put4_below (g := w3.heap.size) (BW.out.trans (HB0.out.mono BW.out.size)) (Nat.le_refl _)⟩, ⟨?_⟩, ⟨?_⟩⟩
        · rw [hwk]; exact put4_block HXU.out
        · rw [hwk]
          refine F_of_rel (w5 := w5) HR.out ?_ (fun k hk _ => put4_other hk) HB0.out.size (fun k _ hk => HB0.out.block k hk)
          show w5.heap.size ≤ (put4 w5 _ _ _ _ _).heap.size
          exact (put4_below (B := 0) (Below.refl 0 w5) (Nat.zero_le _)).size
    · obtain rfl : kk = m := by omega
      have BR := Aside0.mk (B3.out.trans (BW.out.mono B3.out.size))
      have XR := Aside0.mk (blk_below X3.out BW.out)
      have TR := Aside0.mk (T3.out.below BW.out)
      have IU := Aside0.mk (show IsT wr (.agg #[.int .i64 u.f0, .string u.f1, .int .i64 u.f2, .slice Au u.f3.length cu]) u from ⟨Au, cu, rfl, FU.out.1, Kd.F_now FU.out.2⟩)
      clear B3 X3 T3 BW FT FU hd0 hd1 hd2 hd3 hf0
      obtain ⟨hc0, hc1, hc2, hc3⟩ := box_cells XR.out
      go_wp2_with fail
      refine (depth_V _ (by omega) TR.out).mono ?_
      rintro e w6 ⟨rfl, b6⟩
      have B6 := Aside0.mk (BR.out.trans (b6.mono BR.out.size))
      have X6 := Aside0.mk (blk_below XR.out b6)
      have XU6 := Aside0.mk (blk_below XU.out b6)
      have T6 := Aside0.mk (TR.out.below b6)
      have IU6 := Aside0.mk (IU.out.below b6)
      clear hc0 hc1 hc2 hc3 b6 BR XR XU TR IU
      obtain ⟨hd0, hd1, hd2, hd3⟩ := box_cells XU6.out
      obtain ⟨D, hD⟩ : ∃ D, D = dT t := ⟨_, rfl⟩
      rw [← hD]
      have HD := Aside0.mk hD
      clear hD
      have hDn : D < 2000000 := by have := dT_len t; have := HD.out; omega
      have hw1 : wrap64 ((D : Int) + kk) = D + kk := IntWalk.wrap64_in _ (by omega)
      go_wp2_with fail
      refine (Valid_V _ (by rw [HU.out, wrapT_n]; omega) IU6.out).mono ?_
      rw [HU.out, wrapT_valid, ← HBV.out, ← HD.out]
      rintro e w7 ⟨rfl, b7⟩
      have B7 := Aside0.mk (B6.out.trans (b7.mono B6.out.size))
      have X7 := Aside0.mk (blk_below X6.out b7)
      have T7 := Aside0.mk (T6.out.below b7)
      clear hd0 hd1 hd2 hd3 b7 B6 X6 XU6 T6 IU6
      obtain ⟨d1, hd1⟩ : ∃ b, b = decide ((D : Int) + kk ≤ 16) := ⟨_, rfl⟩
      rw [← hd1]
      have hd1' : decide ((D : Int) + kk ≤ 16) = d1 := hd1.symm
      clear hd1
      have q1 : (((bv && d1)) != (bv && d1)) = false := by simp
      obtain ⟨hc0, hc1, hc2, hc3⟩ := box_cells X7.out
      have TK : Aside0 (k25.K w t [.int .i64 t.f0, .string t.f1, .int .i64 t.f2, .slice A t.f3.length c]) := ⟨by
        obtain ⟨At, ct, et, hlt', hCt⟩ := HT.out
        simp only [Value.agg.injEq, Array.mk.injEq, List.cons.injEq, Value.slice.injEq, and_true, true_and] at et
        obtain ⟨rfl, rfl⟩ := et
        exact k25_mk w t hlt' hCt⟩
      have hw7 : w.heap.size < w7.heap.size := blk_lt X7.out
      go_wp2_with fail
      all_goals refine (List0_calls _).mono ?_
      all_goals rintro e w8 ⟨rfl, b8⟩
      all_goals have B8 := Aside0.mk (B7.out.trans (b8.mono B7.out.size))
      all_goals have X8 := Aside0.mk (blk_below X7.out b8)
      all_goals have T8 := Aside0.mk (T7.out.below b8)
      all_goals have hw8 : w.heap.size < w8.heap.size := Nat.lt_of_lt_of_le hw7 b8.size
      all_goals clear hc0 hc1 hc2 hc3 b8 B7 X7 T7
      all_goals go_wp2_with fail
      all_goals go_loopg [12] 64 (fun gg i wr => ∃ (k2 : Nat) (Al : Option Addr) (cl : Nat), k2 ≤ 64 ∧ 64 - k2 ≤ gg ∧ i = .int .i64 k2 ∧ Aside0 (Below w8.heap.size w8 wr) ∧
        Aside0 (wr.heap[w8.heap.size]? = some (.cells #[.int .i64 3, .string ⟨#[]⟩, .int .i64 0, .slice Al k2 cl] 25 (0, 0))) ∧ Aside0 (Kd.R (Kd.fixed k25 w) 25 wr w8.heap.size (fun k => k ≠ w8.heap.size) (.slice Al k2 cl) (List.replicate k2 t)))
      case atStart => exact ⟨0, none, 0, by omega, by omega, rfl, ⟨below_alloc (Below.refl _ _) _⟩, ⟨box_new w8 _⟩, ⟨Kd.R_nil _ _ _ _ _⟩⟩
      case round =>
        obtain ⟨k2, Al, cl, hk2, hg2, rfl, BW, XL, RL⟩ := hrel
        have hbl := blk_lt XL.out
        obtain ⟨hl0, hl1, hl2, hl3⟩ := box_cells XL.out
        obtain ⟨hc0, hc1, hc2, hc3⟩ := box_cells (blk_below X8.out BW.out)
        by_cases hlt2 : k2 < 64
        · have hin : (k2 : Int) < 64 := by omega
          go_wp2_with (at_builtin; refine Kd.R_append (Kd.fixed k25 w) (w0 := w8) w8.heap.size rfl (.tmp 58) (.tmp 60) 23 25 (.agg #[(.int .i64 0), (.string ⟨#[]⟩), (.int .i64 0), (.slice none 0 0)]) 56 rfl Tryd.underlying23 info25 rfl (show 0 < 4 from by decide) (by decide) (.slice Al k2 cl) (List.replicate k2 t) t [.int .i64 t.f0, .string t.f1, .int .i64 t.f2, .slice A t.f3.length c] (fun k => k ≠ w8.heap.size) (fun _ => False) rfl rfl TK.out (fun _ hk => hk.elim) ?hfr ?HO ?HB ?hbs ?hl ?_; (case hfr => intro k hk; omega); (case HO => exact RL.out); (case HB => exact BW.out); (case hbs => omega); (case hl => rw [List.length_replicate]; omega); intro v1 w6' ho hb hg hat; have HO := Aside0.mk ho; have HB6 := Aside0.mk hb; have HG6 := Aside0.mk hg; clear ho hb hg hat; obtain ⟨A6, c6, rfl⟩ := Kd.R_slice HO.out; have hb9 : w6'.heap[w8.heap.size]? = some (.cells #[.int .i64 3, .string ⟨#[]⟩, .int .i64 0, .slice Al k2 cl] 25 (0, 0)) := (HG6.out.block _ (by omega) (fun e => RL.out.1 _ e.symm rfl)).trans XL.out; have H9 := Aside0.mk hb9; have hd0 := (blk_cell hb9 0).trans rfl; have hd1 := (blk_cell hb9 1).trans rfl; have hd2 := (blk_cell hb9 2).trans rfl; have hd3 := (blk_cell hb9 3).trans rfl; have hdf := blk_frozen hb9 3; clear hb9)
          have hrep : List.replicate k2 t ++ [t] = List.replicate (k2 + 1) t := by rw [List.replicate_succ']
          have hlen : (List.replicate k2 t ++ [t]).length = k2 + 1 := by simp
          go_roundg (64 - (k2 + 1))
          case measure => omega
          case rel =>
            refine ⟨k2 + 1, A6, c6, by omega, by omega, by go_num, ⟨HB6.out.setCell (p := ⟨w8.heap.size, 3, none⟩) (Nat.le_refl _) _⟩, ⟨blk_put H9.out 3 _ rfl⟩, ⟨?_⟩⟩
            have h := HO.out
            rw [hlen, hrep] at h
            exact Kd.R_step h (fun k hk _ => Below.heap_setCell w6' ⟨w8.heap.size, 3, none⟩ _ _ hk)
        · obtain rfl : k2 = 64 := by omega
          have IL := Aside0.mk (show IsT wr (.agg #[.int .i64 3, .string ⟨#[]⟩, .int .i64 0, .slice Al 64 cl]) ⟨3, ⟨#[]⟩, 0, List.replicate 64 t⟩ from IsT.mk (isL_fixed RL.out (B8.out.trans (BW.out.mono (Nat.le_of_lt hw8)))))
          go_wp2_with fail
          refine (Valid_V _ (by rw [nT_eq]; show 1 + _ + nL (List.replicate 64 t) ≤ _; rw [rep_n]; simp [ByteArray.size]; omega) IL.out).mono ?_
          rw [show vT ⟨3, ⟨#[]⟩, 0, List.replicate 64 t⟩ 0 = (true && (true && decide (D < 16))) from by rw [rep_valid t 63, ← HBV.out, ← HD.out, show bv = true from by first | assumption | exact Bool.eq_false_iff.2 (by assumption) | (simp_all; done)]; rfl]
          obtain ⟨d2, hd2b⟩ : ∃ b, b = decide (D < 16) := ⟨_, rfl⟩
          rw [← hd2b]
          have hd2' : decide (D < 16) = d2 := hd2b.symm
          have hd2'' : decide ((D : Int) < 16) = d2 := by rw [hd2b]; exact decide_eq_decide.2 (by omega)
          clear hd2b
          rintro e w9 ⟨rfl, b9⟩
          have B9 := Aside0.mk (BW.out.trans (b9.mono BW.out.size))
          have X9 := Aside0.mk (blk_below X8.out B9.out)
          have XL9 := Aside0.mk (blk_below XL.out b9)
          have RL9 := Aside0.mk (Kd.R_below RL.out b9)
          have T9 := Aside0.mk (T8.out.below B9.out)
          have hbl9 := blk_lt XL9.out
          clear hl0 hl1 hl2 hl3 hc0 hc1 hc2 hc3 b9 IL
          obtain ⟨hl0, hl1, hl2, hl3⟩ := box_cells XL9.out
          obtain ⟨hc0, hc1, hc2, hc3⟩ := box_cells X9.out
          go_wp2_with (at_builtin; refine Kd.R_append (Kd.fixed k25 w) (w0 := w8) w8.heap.size rfl (.tmp 66) (.tmp 68) 23 25 (.agg #[(.int .i64 0), (.string ⟨#[]⟩), (.int .i64 0), (.slice none 0 0)]) 56 rfl Tryd.underlying23 info25 rfl (show 0 < 4 from by decide) (by decide) (.slice Al 64 cl) (List.replicate 64 t) t [.int .i64 t.f0, .string t.f1, .int .i64 t.f2, .slice A t.f3.length c] (fun k => k ≠ w8.heap.size) (fun _ => False) rfl rfl TK.out (fun _ hk => hk.elim) ?hfr ?HO ?HB ?hbs ?hl ?_; (case hfr => intro k hk; omega); (case HO => exact RL9.out); (case HB => exact B9.out); (case hbs => omega); (case hl => rw [List.length_replicate]; omega); intro v1 w10 ho hb hg hat; have HO := Aside0.mk ho; have HB6 := Aside0.mk hb; have HG6 := Aside0.mk hg; clear ho hb hg hat; obtain ⟨A6, c6, rfl⟩ := Kd.R_slice HO.out; have hb9 : w10.heap[w8.heap.size]? = some (.cells #[.int .i64 3, .string ⟨#[]⟩, .int .i64 0, .slice Al 64 cl] 25 (0, 0)) := (HG6.out.block _ (by omega) (fun e => RL9.out.1 _ e.symm rfl)).trans XL9.out; have H9 := Aside0.mk hb9; have hd0 := (blk_cell hb9 0).trans rfl; have hd1 := (blk_cell hb9 1).trans rfl; have hd2 := (blk_cell hb9 2).trans rfl; have hd3 := (blk_cell hb9 3).trans rfl; have hdf := blk_frozen hb9 3; have hX10 : w10.heap[w.heap.size]? = some (.cells #[.int .i64 t.f0, .string t.f1, .int .i64 t.f2, .slice A t.f3.length c] 25 (0, 0)) := (HG6.out.block _ (by omega) (fun e => by have := ((Kd.R_bound RL9.out).1 _ e.symm).2.1; omega)).trans X9.out; have HX10 := Aside0.mk hX10; obtain ⟨hp0, hp1, hp2, hp3⟩ := box_cells hX10; clear hb9)
          have hrep : List.replicate 64 t ++ [t] = List.replicate 65 t := by rw [← List.replicate_succ']
          have hlen : (List.replicate 64 t ++ [t]).length = 65 := by simp
          obtain ⟨W11, hW11⟩ : ∃ W11, w10.setCell ⟨w8.heap.size, 3, none⟩ (.slice A6 65 c6) = W11 := ⟨_, rfl⟩
          have B11 : Below w.heap.size w W11 := by rw [← hW11]; exact B8.out.trans ((HB6.out.setCell (p := ⟨w8.heap.size, 3, none⟩) (Nat.le_refl _) _).mono (Nat.le_of_lt hw8))
          have I11 : IsT W11 (.agg #[.int .i64 3, .string ⟨#[]⟩, .int .i64 0, .slice A6 65 c6]) ⟨3, ⟨#[]⟩, 0, List.replicate 65 t⟩ := by
            refine IsT.mk (isL_fixed (w0 := w) (base := w8.heap.size) (ok := fun k => k ≠ w8.heap.size) ?_ B11)
            have h := HO.out
            rw [hlen, hrep] at h
            rw [← hW11]
            exact Kd.R_step h (fun k hk _ => Below.heap_setCell w10 ⟨w8.heap.size, 3, none⟩ _ _ hk)
          have X11 : W11.heap[w8.heap.size]? = some (.cells #[.int .i64 3, .string ⟨#[]⟩, .int .i64 0, .slice A6 65 c6] 25 (0, 0)) := by rw [← hW11]; exact blk_put H9.out 3 _ rfl
          have HB11 := Aside0.mk B11
          have HI11 := Aside0.mk I11
          have HX11 := Aside0.mk X11
          have HT11 := Aside0.mk (HT.out.below B11)
          have hv65 : vT ⟨3, ⟨#[]⟩, 0, List.replicate 65 t⟩ 0 = false := by rw [rep_valid t 64]; rfl
          have hn65 : nT ⟨3, ⟨#[]⟩, 0, List.replicate 65 t⟩ ≤ 1000000000 := by rw [nT_eq]; show 1 + _ + nL (List.replicate 65 t) ≤ _; rw [rep_n]; simp [ByteArray.size]; omega
          rw [hW11]
          clear hW11 B11 I11 X11 H9 HO HB6 HG6 HX10 hp0 hp1 hp2 hp3 hd0 hd1 hd2 hd3 hdf hl0 hl1 hl2 hl3 hc0 hc1 hc2 hc3 hX10 hrep hlen
          refine (depth_V _ (by omega) HT11.out).mono ?_
          rw [← HD.out]
          rintro e w12 ⟨rfl, b12⟩
          have B12 := Aside0.mk (HB11.out.trans (b12.mono HB11.out.size))
          have I12 := Aside0.mk (HI11.out.below b12)
          obtain ⟨hl0, hl1, hl2, hl3⟩ := box_cells (blk_below HX11.out b12)
          clear b12
          have q2 : (d2 == d2) = true := by simp
          go_wp2_with fail
          refine (Valid_V _ hn65 I12.out).mono ?_
          rw [hv65]
          rintro e w13 ⟨rfl, b13⟩
          have B13 := Aside0.mk (B12.out.trans (b13.mono B12.out.size))
          clear b13
          go_wp2_with fail
          go_ret
          exact ⟨rfl, B13.out⟩
      case atStart => exact ⟨0, none, 0, by omega, by omega, rfl, ⟨below_alloc (Below.refl _ _) _⟩, ⟨box_new w8 _⟩, ⟨Kd.R_nil _ _ _ _ _⟩⟩
      case round =>
        obtain ⟨k2, Al, cl, hk2, hg2, rfl, BW, XL, RL⟩ := hrel
        have hbl := blk_lt XL.out
        obtain ⟨hl0, hl1, hl2, hl3⟩ := box_cells XL.out
        obtain ⟨hc0, hc1, hc2, hc3⟩ := box_cells (blk_below X8.out BW.out)
        by_cases hlt2 : k2 < 64
        · have hin : (k2 : Int) < 64 := by omega
          go_wp2_with (at_builtin; refine Kd.R_append (Kd.fixed k25 w) (w0 := w8) w8.heap.size rfl (.tmp 58) (.tmp 60) 23 25 (.agg #[(.int .i64 0), (.string ⟨#[]⟩), (.int .i64 0), (.slice none 0 0)]) 56 rfl Tryd.underlying23 info25 rfl (show 0 < 4 from by decide) (by decide) (.slice Al k2 cl) (List.replicate k2 t) t [.int .i64 t.f0, .string t.f1, .int .i64 t.f2, .slice A t.f3.length c] (fun k => k ≠ w8.heap.size) (fun _ => False) rfl rfl TK.out (fun _ hk => hk.elim) ?hfr ?HO ?HB ?hbs ?hl ?_; (case hfr => intro k hk; omega); (case HO => exact RL.out); (case HB => exact BW.out); (case hbs => omega); (case hl => rw [List.length_replicate]; omega); intro v1 w6' ho hb hg hat; have HO := Aside0.mk ho; have HB6 := Aside0.mk hb; have HG6 := Aside0.mk hg; clear ho hb hg hat; obtain ⟨A6, c6, rfl⟩ := Kd.R_slice HO.out; have hb9 : w6'.heap[w8.heap.size]? = some (.cells #[.int .i64 3, .string ⟨#[]⟩, .int .i64 0, .slice Al k2 cl] 25 (0, 0)) := (HG6.out.block _ (by omega) (fun e => RL.out.1 _ e.symm rfl)).trans XL.out; have H9 := Aside0.mk hb9; have hd0 := (blk_cell hb9 0).trans rfl; have hd1 := (blk_cell hb9 1).trans rfl; have hd2 := (blk_cell hb9 2).trans rfl; have hd3 := (blk_cell hb9 3).trans rfl; have hdf := blk_frozen hb9 3; clear hb9)
          have hrep : List.replicate k2 t ++ [t] = List.replicate (k2 + 1) t := by rw [List.replicate_succ']
          have hlen : (List.replicate k2 t ++ [t]).length = k2 + 1 := by simp
          go_roundg (64 - (k2 + 1))
          case measure => omega
          case rel =>
            refine ⟨k2 + 1, A6, c6, by omega, by omega, by go_num, ⟨HB6.out.setCell (p := ⟨w8.heap.size, 3, none⟩) (Nat.le_refl _) _⟩, ⟨blk_put H9.out 3 _ rfl⟩, ⟨?_⟩⟩
            have h := HO.out
            rw [hlen, hrep] at h
            exact Kd.R_step h (fun k hk _ => Below.heap_setCell w6' ⟨w8.heap.size, 3, none⟩ _ _ hk)
        · obtain rfl : k2 = 64 := by omega
          have IL := Aside0.mk (show IsT wr (.agg #[.int .i64 3, .string ⟨#[]⟩, .int .i64 0, .slice Al 64 cl]) ⟨3, ⟨#[]⟩, 0, List.replicate 64 t⟩ from IsT.mk (isL_fixed RL.out (B8.out.trans (BW.out.mono (Nat.le_of_lt hw8)))))
          go_wp2_with fail
          refine (Valid_V _ (by rw [nT_eq]; show 1 + _ + nL (List.replicate 64 t) ≤ _; rw [rep_n]; simp [ByteArray.size]; omega) IL.out).mono ?_
          rw [show vT ⟨3, ⟨#[]⟩, 0, List.replicate 64 t⟩ 0 = (true && (false && decide (D < 16))) from by rw [rep_valid t 63, ← HBV.out, ← HD.out, show bv = false from by first | assumption | exact Bool.eq_false_iff.2 (by assumption) | (simp_all; done)]; rfl]
          obtain ⟨d2, hd2b⟩ : ∃ b, b = decide (D < 16) := ⟨_, rfl⟩
          rw [← hd2b]
          have hd2' : decide (D < 16) = d2 := hd2b.symm
          have hd2'' : decide ((D : Int) < 16) = d2 := by rw [hd2b]; exact decide_eq_decide.2 (by omega)
          clear hd2b
          rintro e w9 ⟨rfl, b9⟩
          have B9 := Aside0.mk (BW.out.trans (b9.mono BW.out.size))
          have X9 := Aside0.mk (blk_below X8.out B9.out)
          have XL9 := Aside0.mk (blk_below XL.out b9)
          have RL9 := Aside0.mk (Kd.R_below RL.out b9)
          have T9 := Aside0.mk (T8.out.below B9.out)
          have hbl9 := blk_lt XL9.out
          clear hl0 hl1 hl2 hl3 hc0 hc1 hc2 hc3 b9 IL
          obtain ⟨hl0, hl1, hl2, hl3⟩ := box_cells XL9.out
          obtain ⟨hc0, hc1, hc2, hc3⟩ := box_cells X9.out
          go_wp2_with (at_builtin; refine Kd.R_append (Kd.fixed k25 w) (w0 := w8) w8.heap.size rfl (.tmp 66) (.tmp 68) 23 25 (.agg #[(.int .i64 0), (.string ⟨#[]⟩), (.int .i64 0), (.slice none 0 0)]) 56 rfl Tryd.underlying23 info25 rfl (show 0 < 4 from by decide) (by decide) (.slice Al 64 cl) (List.replicate 64 t) t [.int .i64 t.f0, .string t.f1, .int .i64 t.f2, .slice A t.f3.length c] (fun k => k ≠ w8.heap.size) (fun _ => False) rfl rfl TK.out (fun _ hk => hk.elim) ?hfr ?HO ?HB ?hbs ?hl ?_; (case hfr => intro k hk; omega); (case HO => exact RL9.out); (case HB => exact B9.out); (case hbs => omega); (case hl => rw [List.length_replicate]; omega); intro v1 w10 ho hb hg hat; have HO := Aside0.mk ho; have HB6 := Aside0.mk hb; have HG6 := Aside0.mk hg; clear ho hb hg hat; obtain ⟨A6, c6, rfl⟩ := Kd.R_slice HO.out; have hb9 : w10.heap[w8.heap.size]? = some (.cells #[.int .i64 3, .string ⟨#[]⟩, .int .i64 0, .slice Al 64 cl] 25 (0, 0)) := (HG6.out.block _ (by omega) (fun e => RL9.out.1 _ e.symm rfl)).trans XL9.out; have H9 := Aside0.mk hb9; have hd0 := (blk_cell hb9 0).trans rfl; have hd1 := (blk_cell hb9 1).trans rfl; have hd2 := (blk_cell hb9 2).trans rfl; have hd3 := (blk_cell hb9 3).trans rfl; have hdf := blk_frozen hb9 3; have hX10 : w10.heap[w.heap.size]? = some (.cells #[.int .i64 t.f0, .string t.f1, .int .i64 t.f2, .slice A t.f3.length c] 25 (0, 0)) := (HG6.out.block _ (by omega) (fun e => by have := ((Kd.R_bound RL9.out).1 _ e.symm).2.1; omega)).trans X9.out; have HX10 := Aside0.mk hX10; obtain ⟨hp0, hp1, hp2, hp3⟩ := box_cells hX10; clear hb9)
          have hrep : List.replicate 64 t ++ [t] = List.replicate 65 t := by rw [← List.replicate_succ']
          have hlen : (List.replicate 64 t ++ [t]).length = 65 := by simp
          obtain ⟨W11, hW11⟩ : ∃ W11, w10.setCell ⟨w8.heap.size, 3, none⟩ (.slice A6 65 c6) = W11 := ⟨_, rfl⟩
          have B11 : Below w.heap.size w W11 := by rw [← hW11]; exact B8.out.trans ((HB6.out.setCell (p := ⟨w8.heap.size, 3, none⟩) (Nat.le_refl _) _).mono (Nat.le_of_lt hw8))
          have I11 : IsT W11 (.agg #[.int .i64 3, .string ⟨#[]⟩, .int .i64 0, .slice A6 65 c6]) ⟨3, ⟨#[]⟩, 0, List.replicate 65 t⟩ := by
            refine IsT.mk (isL_fixed (w0 := w) (base := w8.heap.size) (ok := fun k => k ≠ w8.heap.size) ?_ B11)
            have h := HO.out
            rw [hlen, hrep] at h
            rw [← hW11]
            exact Kd.R_step h (fun k hk _ => Below.heap_setCell w10 ⟨w8.heap.size, 3, none⟩ _ _ hk)
          have X11 : W11.heap[w8.heap.size]? = some (.cells #[.int .i64 3, .string ⟨#[]⟩, .int .i64 0, .slice A6 65 c6] 25 (0, 0)) := by rw [← hW11]; exact blk_put H9.out 3 _ rfl
          have HB11 := Aside0.mk B11
          have HI11 := Aside0.mk I11
          have HX11 := Aside0.mk X11
          have HT11 := Aside0.mk (HT.out.below B11)
          have hv65 : vT ⟨3, ⟨#[]⟩, 0, List.replicate 65 t⟩ 0 = false := by rw [rep_valid t 64]; rfl
          have hn65 : nT ⟨3, ⟨#[]⟩, 0, List.replicate 65 t⟩ ≤ 1000000000 := by rw [nT_eq]; show 1 + _ + nL (List.replicate 65 t) ≤ _; rw [rep_n]; simp [ByteArray.size]; omega
          rw [hW11]
          clear hW11 B11 I11 X11 H9 HO HB6 HG6 HX10 hp0 hp1 hp2 hp3 hd0 hd1 hd2 hd3 hdf hl0 hl1 hl2 hl3 hc0 hc1 hc2 hc3 hX10 hrep hlen
          refine (Valid_V _ hn65 HI11.out).mono ?_
          rw [hv65]
          rintro e w13 ⟨rfl, b13⟩
          have B13 := Aside0.mk (HB11.out.trans (b13.mono HB11.out.size))
          clear b13
          go_wp2_with fail
          go_ret
          exact ⟨rfl, B13.out⟩
end Go.Proofs.YtlhfekhmfeafbaaDoor.P
