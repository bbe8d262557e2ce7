/- The Go function term.Text answers just as the plain Lean function textB, at every term whose numbers are 64 bit numbers and that is not too large, where strconv's table lies as it is laid: the walk. -/
import Derived.Test.YtimommkbfbdkdaaDoorPHg
namespace Go.Proofs.YtimommkbfbdkdaaDoor.P
open Go.RowKit Go.Proofs.YtimommkbfbdkdaaDoorW.PrintWords Go.Proofs.YtimommkbfbdkdaaDoorW.PrintLast Go.Proofs.YtimommkbfbdkdaaDoorW.PrintMore

/-- What is asked of the text of each element. -/
def TextT (l : List S29) (w : World) : Prop :=
  ∀ (W : World) (x : S29) (A : Option Addr) (c : Nat), x ∈ l → Below w.heap.size w W → x.f3.length ≤ c → Kd.C k29 W A x.f3.length x.f3 →
    Calls Tryd.prog 26 #[.agg #[.int .i64 x.f0, .string x.f1, .int .i64 x.f2, .slice A x.f3.length c]] W fun e w' => e = .returned (.string (textB x)) ∧ Below W.heap.size W w'

set_option maxHeartbeats 2000000 in
set_option maxRecDepth 100000 in
theorem joined_calls (A : Option Addr) (c : Nat) (l : List S29) (w : World) (hn : l.length ≤ 1000000000) (hs : sumL (textL l) ≤ 140737488355328) (hC : Kd.C k29 w A l.length l) (hp : TextT l w) :
    Calls Tryd.prog 53 #[.slice A l.length c] w fun e w' => e = .returned (.string (joinB (textL l))) ∧ Below w.heap.size w w' := by
  have hu29 := Tryd.underlying29
  have HC := Aside0.mk hC
  have HP := Aside0.mk hp
  have HS := Aside0.mk hs
  clear hC hp hs
  go_enter Tryd.func53, Tryd.ntmps53
  go_wp2_with fail
  go_loopg [3, 8] l.length (fun gg v3 s8 wr => ∃ kk : Nat, kk ≤ l.length ∧ l.length - kk ≤ gg ∧ s8 = .int .i64 kk ∧ Aside0 (Kd.R Kd.string 9 wr w.heap.size (fun _ => True) v3 ((l.take kk).map textB)) ∧ Aside0 (Below w.heap.size w wr))
  case atStart => exact ⟨0, Nat.zero_le _, by omega, rfl, ⟨Kd.R_nil _ _ _ _ _⟩, ⟨Below.refl _ _⟩⟩
  case round =>
    obtain ⟨kk, hkk, hg, rfl, HO, HB⟩ := hrel
    by_cases hlt : kk < l.length
    · obtain ⟨ad, A3, c3, e1, hx0, hx1, hx2, hx3, hl3, hi3⟩ := at_T29 HC.out (kk : Int) (by omega) (by omega)
      cases e1
      replace hx0 := (HB.out.cell (World.block_lt_of_cell? w _ hx0)).trans hx0
      replace hx1 := (HB.out.cell (World.block_lt_of_cell? w _ hx1)).trans hx1
      replace hx2 := (HB.out.cell (World.block_lt_of_cell? w _ hx2)).trans hx2
      replace hx3 := (HB.out.cell (World.block_lt_of_cell? w _ hx3)).trans hx3
      rw [rd_bang] at hx0 hx1 hx2 hx3 hl3 hi3
      have hmx : l[kk]! ∈ l := by rw [getElem!_pos l kk hlt]; exact List.getElem_mem hlt
      have HX := Aside0.mk (show (l.take (kk + 1)).map textB = (l.take kk).map textB ++ [textB l[kk]!] by
        rw [List.take_succ_eq_append_getElem hlt, List.map_append, ← getElem!_pos l kk hlt]; rfl)
      have HQ : Aside0 ((((l.take kk).map textB).length + 1) * 16 ≤ 140737488355328) := ⟨by rw [List.length_map, List.length_take]; omega⟩
      generalize l[kk]! = x at hx0 hx1 hx2 hx3 HX hl3 hi3 hmx
      simp only [Int.toNat_natCast] at hx0 hx1 hx2 hx3
      have HK := Aside0.mk (HP.out (wr.alloc (.cells #[.int .i64 x.f0, .string x.f1, .int .i64 x.f2, .slice A3 x.f3.length c3] 29)) x A3 c3 hmx (below_alloc HB.out _) hl3 (Kd.C_below hi3 (below_alloc HB.out _)))
      clear hl3 hi3 hmx
      go_wp2_with fail
      refine HK.out.mono ?_
      rintro e w1 ⟨rfl, hb⟩
      obtain ⟨hb0, hsz, _⟩ := one_box hb
      have HB1 := Aside0.mk (HB.out.trans (hb0.mono HB.out.size))
      have HO1 := Aside0.mk (Kd.R_below HO.out hb0)
      clear hb hb0 HO HB hx0 hx1 hx2 hx3 HK
      go_wp2_with (at_builtin; refine Kd.R_append Kd.string (w0 := w) w.heap.size rfl (.tmp 12) (.tmp 15) 23 9 (.string ⟨#[]⟩) 16 rfl Tryd.underlying23 info9 rfl (by decide) (by omega) u3 ((l.take kk).map textB) (textB x) [.string (textB x)] (fun _ => True) (fun _ => False) rfl rfl ?aP (fun _ hk => hk.elim) ?aF ?aO ?aB ?aS ?aL ?_; (case aP => exact rfl); (case aB => exact HB1.out); (case aF => exact (fun _ _ => trivial)); (case aO => exact HO1.out); (case aS => exact below_size HB1.out); (case aL => exact HQ.out); intro v173 w10 ho hb hg2 hat; rw [← HX.out] at ho; have HO2 := Aside0.mk ho; have HB2 := Aside0.mk hb; clear ho hb hg2 hat)
      go_roundg (l.length - (kk + 1))
      case measure => omega
      case rel => exact ⟨kk + 1, by omega, by omega, by go_num, ⟨HO2.out⟩, ⟨HB2.out⟩⟩
    · obtain rfl : kk = l.length := by omega
      have HO1 : Aside0 (Kd.R Kd.string 9 wr w.heap.size (fun _ => True) u3 (textL l)) := ⟨by rw [textL_map]; have := HO.out; rwa [List.take_length] at this⟩
      clear HO
      go_wp2_with fail
      refine (Join_calls u3 (textL l) wr w.heap.size (fun _ => True) HO1.out HS.out).mono ?_
      rintro e w1 ⟨rfl, hb⟩
      go_wp2_with fail
      go_ret
      exact ⟨rfl, HB.out.trans (hb.mono HB.out.size)⟩

set_option maxHeartbeats 4000000 in
set_option maxRecDepth 100000 in
theorem term_Text_calls (n : Nat) : ∀ (t : S29) (A : Option Addr) (c : Nat) (w : World), nT t ≤ n → n ≤ 1000000000 → okT t → Laid w → t.f3.length ≤ c → Kd.C k29 w A t.f3.length t.f3 →
    Calls Tryd.prog 26 #[.agg #[.int .i64 t.f0, .string t.f1, .int .i64 t.f2, .slice A t.f3.length c]] w fun e w' => e = .returned (.string (textB t)) ∧ Below w.heap.size w w' := by
  induction n with
  | zero => intro t A c w hn; rw [nT_eq] at hn; omega
  | succ n ih =>
    intro t A c w hn hbig hok hL hl hC
    have hu29 := Tryd.underlying29
    have hT := textB_le t hok
    rw [nT_eq] at hn
    rw [okT_eq] at hok
    have hTL := textL_le t.f3 hok.2.2
    have hZ := itoaB_le t.f2 hok.2.1
    have hsz : t.f1.size ≤ 1000000000 := by omega
    have HM := Aside0.mk (fun (x : S29) (hx : x ∈ t.f3) => show nT x ≤ n by have := nT_mem hx; omega)
    have HOK := Aside0.mk (fun (x : S29) (hx : x ∈ t.f3) => okL_mem hok.2.2 hx)
    have HL := Aside0.mk hL
    have HC := Aside0.mk hC
    have HTX : Aside0 (TextT t.f3 w) := ⟨fun W x A' c' hx hW hl' hC' => ih x A' c' W (HM.out x hx) (by omega) (HOK.out x hx) (hL.below hW) hl' hC'⟩
    have HI := Aside0.mk (Itoa_calls t.f2 hok.2.1.1 hok.2.1.2)
    have HS := Aside0.mk (show sumL (textL t.f3) ≤ 140737488355328 by omega)
    have HLen : Aside0 (t.f3.length ≤ 1000000000) := ⟨by
      have : ∀ l : List S29, l.length ≤ nL l := by
        intro l
        induction l with
        | nil => simp
        | cons y r ih => rw [nL, nT_eq]; simp only [List.length_cons]; omega
      have := this t.f3; omega⟩
    have HTE : Aside0 (textB t = textB ⟨t.f0, t.f1, t.f2, t.f3⟩) := ⟨by cases t; rfl⟩
    clear ih hL hC hTL hok hn hT
    go_enter Tryd.func26, Tryd.ntmps26
    go_wp2_with fail
    refine (HI.out _ (HL.out.below (below_alloc (Below.refl _ _) _))).mono ?_
    rintro e w1 ⟨rfl, hb⟩
    obtain ⟨hb0, hsz1, ht1⟩ := one_box hb
    obtain ⟨hc0, hc1, hc2, hc3⟩ := box_cells ht1
    have HB1 := Aside0.mk hb0
    clear hb hb0 hsz1 ht1 HI
    by_cases k0 : t.f0 = 0
    · have b0 : (t.f0 == 0) = true := beq_iff_eq.2 k0
      have HF := Aside0.mk (show textB t = t.f1 by rw [HTE.out, textB, if_pos k0])
      clear k0 HTE
      go_wp2_with fail
      go_ret
      exact ⟨by rw [HF.out]; rfl, HB1.out⟩
    have b0 : (t.f0 == 0) = false := beq_eq_false_iff_ne.2 k0
    by_cases k1 : t.f0 = 1
    · have b1 : (t.f0 == 1) = true := beq_iff_eq.2 k1
      have HF := Aside0.mk (show textB t = itoaB t.f2 by rw [HTE.out, textB, if_neg k0, if_pos k1])
      clear k0 k1 HTE
      go_wp2_with fail
      go_ret
      exact ⟨by rw [HF.out]; rfl, HB1.out⟩
    have b1 : (t.f0 == 1) = false := beq_eq_false_iff_ne.2 k1
    by_cases k2 : t.f0 = 2
    · have b2 : (t.f0 == 2) = true := beq_iff_eq.2 k2
      have HF := Aside0.mk (show textB t = keyB t.f1 t.f2 by rw [HTE.out, textB, if_neg k0, if_neg k1, if_pos k2])
      clear k0 k1 k2 HTE
      go_wp2_with fail
      go_ret
      exact ⟨by rw [HF.out, keyB]; rfl, HB1.out⟩
    have b2 : (t.f0 == 2) = false := beq_eq_false_iff_ne.2 k2
    by_cases k3 : t.f0 = 3
    · have b3 : (t.f0 == 3) = true := beq_iff_eq.2 k3
      have HF := Aside0.mk (show textB t = (⟨#[91]⟩ ++ joinB (textL t.f3)) ++ ⟨#[93]⟩ by rw [HTE.out, textB, if_neg k0, if_neg k1, if_neg k2, if_pos k3])
      have hj := Nat.le_trans (joinB_size (textL t.f3)) HS.out
      clear k0 k1 k2 k3 HTE
      go_wp2_with fail
      refine (joined_calls A c t.f3 w1 HLen.out HS.out (Kd.C_below HC.out HB1.out) (fun W x A' c' hx hW hl' hC' => HTX.out W x A' c' hx (HB1.out.trans (hW.mono HB1.out.size)) hl' hC')).mono ?_
      rintro e w2 ⟨rfl, hb2⟩
      have HB2 := Aside0.mk (HB1.out.trans (hb2.mono HB1.out.size))
      clear hb2
      go_wp2_with fail
      go_ret
      exact ⟨by rw [HF.out]; rfl, HB2.out⟩
    have b3 : (t.f0 == 3) = false := beq_eq_false_iff_ne.2 k3
    by_cases k5 : t.f0 = 5
    · have b5 : (t.f0 == 5) = true := beq_iff_eq.2 k5
      by_cases h2 : t.f3.length = 2
      · obtain ⟨x, y, hxy⟩ : ∃ x y, t.f3 = [x, y] := by
          rcases hh : t.f3 with _ | ⟨x, _ | ⟨y, _ | ⟨z, r⟩⟩⟩
          · rw [hh] at h2; simp at h2
          · rw [hh] at h2; simp at h2
          · exact ⟨x, y, rfl⟩
          · rw [hh] at h2; simp at h2
        have HF := Aside0.mk (show textB t = sealB ⟨#[115, 117, 109, 40]⟩ (textB x) t.f2 (textB y) by rw [HTE.out, textB, if_neg k0, if_neg k1, if_neg k2, if_neg k3, if_pos (Or.inl k5), if_pos k5, hxy, textL, textL, textL])
        have hS2 := HS.out
        rw [hxy, textL, textL, textL] at hS2
        simp only [sumL] at hS2
        have hx1 : (textB x).size ≤ 140737488355328 := by omega
        have hy1 : (textB y).size ≤ 140737488355328 := by omega
        have q2 : ((t.f3.length : Int) != 2) = false := bne_eq_false_iff_eq.2 (by omega)
        obtain ⟨ad, A3, c3, e1, hx0, hx1', hx2, hx3, hl3, hi3⟩ := at_T29 HC.out 0 (by omega) (by omega)
        obtain ⟨ad2, B3, d3, e2, hy0, hy1', hy2, hy3, hm3, hj3⟩ := at_T29 HC.out 1 (by omega) (by omega)
        cases e1
        cases e2
        rw [hxy] at hx0 hx1' hx2 hx3 hl3 hi3 hy0 hy1' hy2 hy3 hm3 hj3
        simp only [show rd_T29 [x, y] 0 = x from rfl, show rd_T29 [x, y] 1 = y from rfl] at hx0 hx1' hx2 hx3 hl3 hi3 hy0 hy1' hy2 hy3 hm3 hj3
        replace hx0 := pw_cell_below HB1.out hx0
        replace hx1' := pw_cell_below HB1.out hx1'
        replace hx2 := pw_cell_below HB1.out hx2
        replace hx3 := pw_cell_below HB1.out hx3
        replace hy0 := pw_cell_below HB1.out hy0
        replace hy1' := pw_cell_below HB1.out hy1'
        replace hy2 := pw_cell_below HB1.out hy2
        replace hy3 := pw_cell_below HB1.out hy3
        have q3 : (0 : Int) < t.f3.length := by omega
        have q4 : (1 : Int) < t.f3.length := by omega
        have q3n : 0 < t.f3.length := by omega
        have q4n : 1 < t.f3.length := by omega
        have z1 : ¬ 9223372036854775807 < 4 + (textB x).size := by omega
        have z2 : ¬ 9223372036854775807 < 4 + (textB x).size + 1 := by omega
        have z3 : ¬ 9223372036854775807 < 4 + (textB x).size + 1 + (itoaB t.f2).size := by omega
        have z4 : ¬ 9223372036854775807 < 4 + (textB x).size + 1 + (itoaB t.f2).size + 1 := by omega
        have z5 : ¬ 9223372036854775807 < 4 + (textB x).size + 1 + (itoaB t.f2).size + 1 + (textB y).size := by omega
        have z6 : ¬ 9223372036854775807 < 4 + (textB x).size + 1 + (itoaB t.f2).size + 1 + (textB y).size + 1 := by omega
        have HX1 : Aside0 (∀ W, Below w1.heap.size w1 W → Calls Tryd.prog 26 #[.agg #[.int .i64 x.f0, .string x.f1, .int .i64 x.f2, .slice A3 x.f3.length c3]] W fun e w' => e = .returned (.string (textB x)) ∧ Below W.heap.size W w') :=
          ⟨fun W hW => HTX.out W x A3 c3 (by rw [hxy]; simp) (HB1.out.trans (hW.mono HB1.out.size)) hl3 (Kd.C_below hi3 (HB1.out.trans (hW.mono HB1.out.size)))⟩
        have HY1 : Aside0 (∀ W, Below w1.heap.size w1 W → Calls Tryd.prog 26 #[.agg #[.int .i64 y.f0, .string y.f1, .int .i64 y.f2, .slice B3 y.f3.length d3]] W fun e w' => e = .returned (.string (textB y)) ∧ Below W.heap.size W w') :=
          ⟨fun W hW => HTX.out W y B3 d3 (by rw [hxy]; simp) (HB1.out.trans (hW.mono HB1.out.size)) hm3 (Kd.C_below hj3 (HB1.out.trans (hW.mono HB1.out.size)))⟩
        have HXY := Aside0.mk hxy
        clear k0 k1 k2 k3 k5 HTE h2 hl3 hi3 hm3 hj3 hxy hS2
        simp only [show (0 : Int).toNat = 0 from rfl, show (1 : Int).toNat = 1 from rfl, Nat.reduceMul, Nat.reduceEqDiff, Go.Addr.add, ↓reduceIte, Nat.zero_mul] at hx0 hx1' hx2 hx3 hy0 hy1' hy2 hy3
        go_wp2_with fail
        go_region_held3 (fun w' => w'.cell? ⟨w.heap.size, 3, none⟩ = some (.slice (some ad) t.f3.length c) ∧ w'.cell? ad = some (.int .i64 x.f0) ∧ w'.cell? ⟨ad.block, ad.off + 1, none⟩ = some (.string x.f1) ∧ w'.cell? ⟨ad.block, ad.off + 2, none⟩ = some (.int .i64 x.f2) ∧ w'.cell? ⟨ad.block, ad.off + 3, none⟩ = some (.slice A3 x.f3.length c3) ∧
            w'.cell? ⟨ad.block, ad.off + 4, none⟩ = some (.int .i64 y.f0) ∧ w'.cell? ⟨ad.block, ad.off + 4 + 1, none⟩ = some (.string y.f1) ∧ w'.cell? ⟨ad.block, ad.off + 4 + 2, none⟩ = some (.int .i64 y.f2) ∧ w'.cell? ⟨ad.block, ad.off + 4 + 3, none⟩ = some (.slice B3 y.f3.length d3))
          (first
            | (go_keep; done)
            | (go_split_ands; exact ⟨pw_cell_below hb (by assumption), pw_cell_below hb (by assumption), pw_cell_below hb (by assumption), pw_cell_below hb (by assumption), pw_cell_below hb (by assumption), pw_cell_below hb (by assumption), pw_cell_below hb (by assumption), pw_cell_below hb (by assumption), pw_cell_below hb (by assumption)⟩)
            | (go_split_ands; refine ⟨?_, ?_, ?_, ?_, ?_, ?_, ?_, ?_, ?_⟩ <;> assumption))
          (first
            | (go_simp; go_at_call 26; refine (HX1.out _ (by repeat (first | exact Below.refl _ _ | apply below_alloc | apply pw_below_drewN | apply below_drew))).mono ?_; clear HX1; rintro e w2 ⟨rfl, hb⟩; have HW2 : Aside0 (Below w1.heap.size w1 w2) := ⟨below_step (by repeat (first | exact Below.refl _ _ | apply below_alloc | apply pw_below_drewN | apply below_drew)) hb⟩)
            | (go_simp; go_at_call 26; refine (HY1.out _ (by repeat (first | exact HW2.out | apply below_alloc | apply pw_below_drewN | apply below_drew))).mono ?_; clear HY1; rintro e w3 ⟨rfl, hb⟩; have HW3 : Aside0 (Below w1.heap.size w1 w3) := ⟨below_step (by repeat (first | exact HW2.out | apply below_alloc | apply pw_below_drewN | apply below_drew)) hb⟩))
        all_goals go_wp2_with fail
        all_goals go_ret
        all_goals exact ⟨by rw [HF.out, sealB]; rfl, HB1.out.trans (HW3.out.mono HB1.out.size)⟩
      · have HF := Aside0.mk (show textB t = ⟨#[63]⟩ by
          rw [HTE.out, textB, if_neg k0, if_neg k1, if_neg k2, if_neg k3, if_pos (Or.inl k5)]
          rcases hh : t.f3 with _ | ⟨x, _ | ⟨y, _ | ⟨z, r⟩⟩⟩
          · rw [textL]
          · rw [textL, textL]
          · rw [hh] at h2; simp at h2
          · rw [textL, textL, textL])
        have q2 : ((t.f3.length : Int) != 2) = true := bne_iff_ne.2 (by omega)
        clear k0 k1 k2 k3 k5 HTE h2
        go_wp2_with fail
        go_ret
        exact ⟨by rw [HF.out]; rfl, HB1.out⟩
    have b5 : (t.f0 == 5) = false := beq_eq_false_iff_ne.2 k5
    by_cases k4 : t.f0 = 4
    · have b4 : (t.f0 == 4) = true := beq_iff_eq.2 k4
      by_cases h2 : t.f3.length = 2
      · obtain ⟨x, y, hxy⟩ : ∃ x y, t.f3 = [x, y] := by
          rcases hh : t.f3 with _ | ⟨x, _ | ⟨y, _ | ⟨z, r⟩⟩⟩
          · rw [hh] at h2; simp at h2
          · rw [hh] at h2; simp at h2
          · exact ⟨x, y, rfl⟩
          · rw [hh] at h2; simp at h2
        have HF := Aside0.mk (show textB t = sealB ⟨#[115, 101, 97, 108, 40]⟩ (textB x) t.f2 (textB y) by rw [HTE.out, textB, if_neg k0, if_neg k1, if_neg k2, if_neg k3, if_pos (Or.inr k4), if_neg k5, hxy, textL, textL, textL])
        have hS2 := HS.out
        rw [hxy, textL, textL, textL] at hS2
        simp only [sumL] at hS2
        have hx1 : (textB x).size ≤ 140737488355328 := by omega
        have hy1 : (textB y).size ≤ 140737488355328 := by omega
        have q2 : ((t.f3.length : Int) != 2) = false := bne_eq_false_iff_eq.2 (by omega)
        obtain ⟨ad, A3, c3, e1, hx0, hx1', hx2, hx3, hl3, hi3⟩ := at_T29 HC.out 0 (by omega) (by omega)
        obtain ⟨ad2, B3, d3, e2, hy0, hy1', hy2, hy3, hm3, hj3⟩ := at_T29 HC.out 1 (by omega) (by omega)
        cases e1
        cases e2
        rw [hxy] at hx0 hx1' hx2 hx3 hl3 hi3 hy0 hy1' hy2 hy3 hm3 hj3
        simp only [show rd_T29 [x, y] 0 = x from rfl, show rd_T29 [x, y] 1 = y from rfl] at hx0 hx1' hx2 hx3 hl3 hi3 hy0 hy1' hy2 hy3 hm3 hj3
        replace hx0 := pw_cell_below HB1.out hx0
        replace hx1' := pw_cell_below HB1.out hx1'
        replace hx2 := pw_cell_below HB1.out hx2
        replace hx3 := pw_cell_below HB1.out hx3
        replace hy0 := pw_cell_below HB1.out hy0
        replace hy1' := pw_cell_below HB1.out hy1'
        replace hy2 := pw_cell_below HB1.out hy2
        replace hy3 := pw_cell_below HB1.out hy3
        have q3 : (0 : Int) < t.f3.length := by omega
        have q4 : (1 : Int) < t.f3.length := by omega
        have q3n : 0 < t.f3.length := by omega
        have q4n : 1 < t.f3.length := by omega
        have z1 : ¬ 9223372036854775807 < 5 + (textB x).size := by omega
        have z2 : ¬ 9223372036854775807 < 5 + (textB x).size + 1 := by omega
        have z3 : ¬ 9223372036854775807 < 5 + (textB x).size + 1 + (itoaB t.f2).size := by omega
        have z4 : ¬ 9223372036854775807 < 5 + (textB x).size + 1 + (itoaB t.f2).size + 1 := by omega
        have z5 : ¬ 9223372036854775807 < 5 + (textB x).size + 1 + (itoaB t.f2).size + 1 + (textB y).size := by omega
        have z6 : ¬ 9223372036854775807 < 5 + (textB x).size + 1 + (itoaB t.f2).size + 1 + (textB y).size + 1 := by omega
        have HX1 : Aside0 (∀ W, Below w1.heap.size w1 W → Calls Tryd.prog 26 #[.agg #[.int .i64 x.f0, .string x.f1, .int .i64 x.f2, .slice A3 x.f3.length c3]] W fun e w' => e = .returned (.string (textB x)) ∧ Below W.heap.size W w') :=
          ⟨fun W hW => HTX.out W x A3 c3 (by rw [hxy]; simp) (HB1.out.trans (hW.mono HB1.out.size)) hl3 (Kd.C_below hi3 (HB1.out.trans (hW.mono HB1.out.size)))⟩
        have HY1 : Aside0 (∀ W, Below w1.heap.size w1 W → Calls Tryd.prog 26 #[.agg #[.int .i64 y.f0, .string y.f1, .int .i64 y.f2, .slice B3 y.f3.length d3]] W fun e w' => e = .returned (.string (textB y)) ∧ Below W.heap.size W w') :=
          ⟨fun W hW => HTX.out W y B3 d3 (by rw [hxy]; simp) (HB1.out.trans (hW.mono HB1.out.size)) hm3 (Kd.C_below hj3 (HB1.out.trans (hW.mono HB1.out.size)))⟩
        have HXY := Aside0.mk hxy
        clear k0 k1 k2 k3 k4 HTE h2 hl3 hi3 hm3 hj3 hxy hS2 k5
        simp only [show (0 : Int).toNat = 0 from rfl, show (1 : Int).toNat = 1 from rfl, Nat.reduceMul, Nat.reduceEqDiff, Go.Addr.add, ↓reduceIte, Nat.zero_mul] at hx0 hx1' hx2 hx3 hy0 hy1' hy2 hy3
        go_wp2_with fail
        go_region_held3 (fun w' => w'.cell? ⟨w.heap.size, 3, none⟩ = some (.slice (some ad) t.f3.length c) ∧ w'.cell? ad = some (.int .i64 x.f0) ∧ w'.cell? ⟨ad.block, ad.off + 1, none⟩ = some (.string x.f1) ∧ w'.cell? ⟨ad.block, ad.off + 2, none⟩ = some (.int .i64 x.f2) ∧ w'.cell? ⟨ad.block, ad.off + 3, none⟩ = some (.slice A3 x.f3.length c3) ∧
            w'.cell? ⟨ad.block, ad.off + 4, none⟩ = some (.int .i64 y.f0) ∧ w'.cell? ⟨ad.block, ad.off + 4 + 1, none⟩ = some (.string y.f1) ∧ w'.cell? ⟨ad.block, ad.off + 4 + 2, none⟩ = some (.int .i64 y.f2) ∧ w'.cell? ⟨ad.block, ad.off + 4 + 3, none⟩ = some (.slice B3 y.f3.length d3))
          (first
            | (go_keep; done)
            | (go_split_ands; exact ⟨pw_cell_below hb (by assumption), pw_cell_below hb (by assumption), pw_cell_below hb (by assumption), pw_cell_below hb (by assumption), pw_cell_below hb (by assumption), pw_cell_below hb (by assumption), pw_cell_below hb (by assumption), pw_cell_below hb (by assumption), pw_cell_below hb (by assumption)⟩)
            | (go_split_ands; refine ⟨?_, ?_, ?_, ?_, ?_, ?_, ?_, ?_, ?_⟩ <;> assumption))
          (first
            | (go_simp; go_at_call 26; refine (HX1.out _ (by repeat (first | exact Below.refl _ _ | apply below_alloc | apply pw_below_drewN | apply below_drew))).mono ?_; clear HX1; rintro e w2 ⟨rfl, hb⟩; have HW2 : Aside0 (Below w1.heap.size w1 w2) := ⟨below_step (by repeat (first | exact Below.refl _ _ | apply below_alloc | apply pw_below_drewN | apply below_drew)) hb⟩)
            | (go_simp; go_at_call 26; refine (HY1.out _ (by repeat (first | exact HW2.out | apply below_alloc | apply pw_below_drewN | apply below_drew))).mono ?_; clear HY1; rintro e w3 ⟨rfl, hb⟩; have HW3 : Aside0 (Below w1.heap.size w1 w3) := ⟨below_step (by repeat (first | exact HW2.out | apply below_alloc | apply pw_below_drewN | apply below_drew)) hb⟩))
        all_goals go_wp2_with fail
        all_goals go_ret
        all_goals exact ⟨by rw [HF.out, sealB]; rfl, HB1.out.trans (HW3.out.mono HB1.out.size)⟩
      · have HF := Aside0.mk (show textB t = ⟨#[63]⟩ by
          rw [HTE.out, textB, if_neg k0, if_neg k1, if_neg k2, if_neg k3, if_pos (Or.inr k4)]
          rcases hh : t.f3 with _ | ⟨x, _ | ⟨y, _ | ⟨z, r⟩⟩⟩
          · rw [textL]
          · rw [textL, textL]
          · rw [hh] at h2; simp at h2
          · rw [textL, textL, textL])
        have q2 : ((t.f3.length : Int) != 2) = true := bne_iff_ne.2 (by omega)
        clear k0 k1 k2 k3 k4 HTE h2 k5
        go_wp2_with fail
        go_ret
        exact ⟨by rw [HF.out]; rfl, HB1.out⟩
    have b4 : (t.f0 == 4) = false := beq_eq_false_iff_ne.2 k4
    have HF := Aside0.mk (show textB t = ⟨#[63]⟩ by rw [HTE.out, textB, if_neg k0, if_neg k1, if_neg k2, if_neg k3, if_neg (by omega)])
    clear k0 k1 k2 k3 k4 k5 HTE
    go_wp2_with fail
    go_ret
    exact ⟨by rw [HF.out]; rfl, HB1.out⟩
end Go.Proofs.YtimommkbfbdkdaaDoor.P
