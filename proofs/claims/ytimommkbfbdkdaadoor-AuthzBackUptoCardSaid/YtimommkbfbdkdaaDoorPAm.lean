/- The laws' example, legatelaw13.works: it comes out true. -/
import Derived.Test.YtimommkbfbdkdaaDoorPAk
import Derived.Test.YtimommkbfbdkdaaDoorPAn
namespace Go.Proofs.YtimommkbfbdkdaaDoor.P
open Go.RowKit Go.Proofs.YtimommkbfbdkdaaDoorW.PrintWords Go.Proofs.YtimommkbfbdkdaaDoorW.PrintLast Go.Proofs.YtimommkbfbdkdaaDoorW.PrintMore
set_option linter.unusedVariables false
set_option linter.unusedSimpArgs false

def exA : Au := ⟨⟨#[97, 110, 110]⟩, [], 0, [], ⟨#[119, 101, 98]⟩, false, 0⟩
def keyT (s : ByteArray) (n : Int) : S29 := ⟨2, s, n, []⟩
def exW : S29 := keyT ⟨#[119, 101, 98]⟩ 1
def exC : S29 := keyT ⟨#[99, 101, 110, 116, 114, 101]⟩ 1
def exW2 : S29 := keyT ⟨#[119, 101, 98]⟩ 2
def exT : S29 := builtA exA exW exC
theorem ex_n : nA exA ≤ 1000000000 := by decide +kernel
theorem ex_nT : nT exT ≤ 100000000 := by decide +kernel
theorem ex_build : buildA exA exW exC = exT ∧ buildE exA exW exC = 0 := by
  have h : canA exA exW exC = true := by decide +kernel
  unfold buildA buildE
  rw [if_pos h, if_pos h]; exact ⟨rfl, rfl⟩
theorem ex_verE : verE exT exW exC = 0 := by decide +kernel
theorem ex_verA : sameA exA (verA exT exW exC) = true := by decide +kernel
theorem ex_srvE : srvE exT exW2 = 62 := by decide +kernel
theorem ex_readE : readE exT = 0 := by decide +kernel
theorem ex_readA : sameA exA (readA exT) = true := by decide +kernel
theorem ex_valid : validA exA = true := by decide +kernel
theorem ex_text : textB (dataA exA) = ⟨#[91, 97, 110, 110, 32, 91, 93, 32, 48, 32, 91, 93, 32, 119, 101, 98, 32, 48, 32, 48, 93]⟩ := by decide +kernel
theorem ex_dn : nT (dataA exA) ≤ 1000000000 := by decide +kernel
theorem ex_dok : okT (dataA exA) := by simp [dataA, dataL, exA, listT, rowT, ofT, numT, bitI, okT, okL, i64]
theorem cell_setA {W : World} {g k o : Nat} {a b c d e f' h u : Value} (hk : k ≠ g) (hc : W.cell? ⟨k, o, none⟩ = some u) : (((((((W.setCell ⟨g, 0, none⟩ a).setCell ⟨g, 1, none⟩ b).setCell ⟨g, 2, none⟩ c).setCell ⟨g, 3, none⟩ d).setCell ⟨g, 4, none⟩ e).setCell ⟨g, 5, none⟩ f').setCell ⟨g, 6, none⟩ h).cell? ⟨k, o, none⟩ = some u := by
  have f : ∀ (W : World) (j : Nat) (x : Value), (W.setCell ⟨g, j, none⟩ x).cell? ⟨k, o, none⟩ = W.cell? ⟨k, o, none⟩ := fun W j x => World.cell?_setCell_far W _ _ _ (fun e => hk e.symm)
  rw [f, f, f, f, f, f, f]
  exact hc
theorem Key_F (s : ByteArray) (n : Int) (w : World) : Calls Tryd.prog 25 #[.string s, .int .i64 n] w fun e w' => ∃ A c, e = .returned (.agg #[.int .i64 2, .string s, .int .i64 n, .slice A 0 c]) ∧ (∀ W ok, IsF W ok (.agg #[.int .i64 2, .string s, .int .i64 n, .slice A 0 c]) (keyT s n)) ∧ Below w.heap.size w w' := by
  refine (Key_T s n w).mono ?_
  rintro e w' ⟨v, rfl, ⟨A, c, rfl, hl, _⟩, hb⟩
  exact ⟨A, c, rfl, fun W ok => ⟨A, c, rfl, hl, F_nil0 W ok A⟩, hb⟩

set_option maxHeartbeats 6000000 in
set_option maxRecDepth 100000 in
theorem works_gen (w : World) (hL : Laid w) (tX : S29) (vX rX : Au) (hb1 : buildA exA exW exC = tX) (hb2 : buildE exA exW exC = 0) (hnt : nT tX ≤ 100000000) (hva : verA tX exW exC = vX) (hve : verE tX exW exC = 0) (hse : srvE tX exW2 = 62)
    (hra : readA tX = rX) (hre : readE tX = 0) (hs1 : sameA exA vX = true) (hs2 : sameA exA rX = true) : V_ 7 #[] w (.bool true) := by
  have hBU := Aside0.mk (And.intro hb1 hb2)
  have hNT := Aside0.mk hnt
  have hVA := Aside0.mk (And.intro hva hve)
  have hSE := Aside0.mk hse
  have hRA := Aside0.mk (And.intro hra hre)
  have hSM := Aside0.mk (And.intro hs1 hs2)
  clear hb1 hb2 hnt hva hve hse hra hre hs1 hs2
  have hu25 := Tryd.underlying25
  have hu29 := Tryd.underlying29
  have HL := Aside0.mk hL
  clear hL
  unfold V_
  go_enter Tryd.func7, Tryd.ntmps7
  go_upto_region 2 with fail
  obtain ⟨w1, hw1⟩ : ∃ w1, w1 = w.alloc (.cells #[.string ⟨#[97, 110, 110]⟩, .slice none 0 0, .int .i64 0, .slice none 0 0, .string ⟨#[119, 101, 98]⟩, .bool false, .int .i64 0] 25) := ⟨_, rfl⟩
  have b1 : Below w.heap.size w w1 := hw1 ▸ below_alloc (Below.refl _ _) _
  have B1 := Aside0.mk b1
  have X1 := Aside0.mk (show w1.heap[w.heap.size]? = some (.cells #[.string ⟨#[97, 110, 110]⟩, .slice none 0 0, .int .i64 0, .slice none 0 0, .string ⟨#[119, 101, 98]⟩, .bool false, .int .i64 0] 25 (0, 0)) from hw1 ▸ box_new w _)
  have hlt1 : w.heap.size < w1.heap.size := blk_lt X1.out
  rw [← hw1]
  clear hw1 b1
  go_cut [2, 3] from 11 to 17 (fun s2 s3 wx => ∃ (g2 : Nat) (AT : Option Addr) (cT : Nat), s2 = .pointer (some ⟨g2, 0, none⟩) ∧ s3 = .int .i64 0 ∧ Aside0 (Below w.heap.size w wx) ∧ Aside0 (wx.heap[w.heap.size]? = some (.cells #[.string ⟨#[97, 110, 110]⟩, .slice none 0 0, .int .i64 0, .slice none 0 0, .string ⟨#[119, 101, 98]⟩, .bool false, .int .i64 0] 25 (0, 0))) ∧
    Aside0 (wx.heap[g2]? = some (.cells #[.int .i64 tX.f0, .string tX.f1, .int .i64 tX.f2, .slice AT tX.f3.length cT] 29 (0, 0))) ∧ Aside0 (IsT wx (.agg #[.int .i64 tX.f0, .string tX.f1, .int .i64 tX.f2, .slice AT tX.f3.length cT]) tX) ∧ Aside0 (w.heap.size < g2))
  case first =>
    obtain ⟨ha0, ha1, ha2, ha3, ha4, ha5, ha6⟩ := boxA_cells X1.out
    have HWc : Aside0 (Below w1.heap.size w1 w1) := ⟨Below.refl _ _⟩
    go_region_held3 (fun w' => w'.cell? ⟨w.heap.size, 0, none⟩ = some (.string ⟨#[97, 110, 110]⟩) ∧ w'.cell? ⟨w.heap.size, 1, none⟩ = some (.slice none 0 0) ∧ w'.cell? ⟨w.heap.size, 2, none⟩ = some (.int .i64 0) ∧ w'.cell? ⟨w.heap.size, 3, none⟩ = some (.slice none 0 0) ∧ w'.cell? ⟨w.heap.size, 4, none⟩ = some (.string ⟨#[119, 101, 98]⟩) ∧ w'.cell? ⟨w.heap.size, 5, none⟩ = some (.bool false) ∧ w'.cell? ⟨w.heap.size, 6, none⟩ = some (.int .i64 0))
      (first | (with_reducible (go_split_ands; exact ⟨pw_cell_below hb (by assumption), pw_cell_below hb (by assumption), pw_cell_below hb (by assumption), pw_cell_below hb (by assumption), pw_cell_below hb (by assumption), pw_cell_below hb (by assumption), pw_cell_below hb (by assumption)⟩)) | (with_reducible (go_split_ands; exact ⟨pw_cell_below (below_alloc (Below.refl _ _) _) (by assumption), pw_cell_below (below_alloc (Below.refl _ _) _) (by assumption), pw_cell_below (below_alloc (Below.refl _ _) _) (by assumption), pw_cell_below (below_alloc (Below.refl _ _) _) (by assumption), pw_cell_below (below_alloc (Below.refl _ _) _) (by assumption), pw_cell_below (below_alloc (Below.refl _ _) _) (by assumption), pw_cell_below (below_alloc (Below.refl _ _) _) (by assumption)⟩)) | (with_reducible (go_split_ands; refine ⟨?_, ?_, ?_, ?_, ?_, ?_, ?_⟩ <;> assumption)) | (with_reducible exact HXA.out _) | (with_reducible (go_split_ands; refine ⟨?_, ?_, ?_, ?_, ?_, ?_, ?_⟩ <;> exact cell_set4 (by omega) (by assumption))) | (go_keep; done))
      (first
        | (go_simp; go_at_call 25; refine (Key_F ⟨#[119, 101, 98]⟩ 1 _).mono ?_; rintro e wzW ⟨AW, cW, rfl, iW, hb⟩; (try (have bq := blk_below BQ.out hb; clear BQ; have BQ := Aside0.mk bq; clear bq)); (try (have bq := (one_box (w := w1) (o := (.cells #[.int .i64 0, .string ⟨#[]⟩, .int .i64 0, .slice none 0 0] 29)) hb).2.2; have BQ := Aside0.mk bq; clear bq)); (try (have bq := (one_box (w := w1) (o := (.cells #[.int .i64 0, .string ⟨#[]⟩, .int .i64 0, .slice none 0 0] 29)) ((below_drew (Below.refl (w1.alloc ((.cells #[.int .i64 0, .string ⟨#[]⟩, .int .i64 0, .slice none 0 0] 29))).heap.size (w1.alloc ((.cells #[.int .i64 0, .string ⟨#[]⟩, .int .i64 0, .slice none 0 0] 29))))).trans hb)).2.2; have BQ := Aside0.mk bq; clear bq)); have HWn := Aside0.mk (below_step (by repeat (first | exact HWc.out | apply below_alloc | apply pw_below_drewN | apply below_drew)) hb); clear HWc; have HWc := HWn; clear HWn; have hszW := HWc.out.size; have IW := Aside0.mk iW; clear iW)
        | (go_simp; go_at_call 25; refine (Key_F ⟨#[99, 101, 110, 116, 114, 101]⟩ 1 _).mono ?_; rintro e wzC ⟨AC, cC, rfl, iC, hb⟩; (try (have bq := blk_below BQ.out hb; clear BQ; have BQ := Aside0.mk bq; clear bq)); (try (have bq := (one_box (w := wzW) (o := (.cells #[.int .i64 0, .string ⟨#[]⟩, .int .i64 0, .slice none 0 0] 29)) hb).2.2; have BQ := Aside0.mk bq; clear bq)); (try (have bq := (one_box (w := wzW) (o := (.cells #[.int .i64 0, .string ⟨#[]⟩, .int .i64 0, .slice none 0 0] 29)) ((below_drew (Below.refl (wzW.alloc ((.cells #[.int .i64 0, .string ⟨#[]⟩, .int .i64 0, .slice none 0 0] 29))).heap.size (wzW.alloc ((.cells #[.int .i64 0, .string ⟨#[]⟩, .int .i64 0, .slice none 0 0] 29))))).trans hb)).2.2; have BQ := Aside0.mk bq; clear bq)); have HWn := Aside0.mk (below_step (by repeat (first | exact HWc.out | apply below_alloc | apply pw_below_drewN | apply below_drew)) hb); clear HWc; have HWc := HWn; clear HWn; have hszC := HWc.out.size; have IC := Aside0.mk iC; clear iC)
        | (go_simp; go_at_call 10; refine (Build_calls (a := exA) (sv := exW) (ce := exC) (okS := fun _ => False) (okC := fun _ => False) _ ex_n ?ha (IW.out _ _) (IC.out _ _) ?h1 ?h2).mono ?_; (case h1 => exact fun _ hk => hk.elim); (case h2 => exact fun _ hk => hk.elim); (case ha => exact ⟨none, 0, none, 0, rfl, Nat.le_refl _, C_nilI _, Nat.le_refl _, C_nilS _⟩); rw [hBU.out.1, hBU.out.2]; rintro e wz ⟨vz, rfl, hz, hb⟩; (try (have hbql := blk_lt BQ.out)); (try (have bq := blk_below BQ.out hb; clear BQ; have BQ := Aside0.mk bq; clear bq)); (try (have bq := (one_box (w := wzC) (o := (.cells #[.int .i64 0, .string ⟨#[]⟩, .int .i64 0, .slice none 0 0] 29)) hb).2.2; have BQ := Aside0.mk bq; clear bq)); (try (have bq := (one_box (w := wzC) (o := (.cells #[.int .i64 0, .string ⟨#[]⟩, .int .i64 0, .slice none 0 0] 29)) ((below_drew (Below.refl (wzC.alloc ((.cells #[.int .i64 0, .string ⟨#[]⟩, .int .i64 0, .slice none 0 0] 29))).heap.size (wzC.alloc ((.cells #[.int .i64 0, .string ⟨#[]⟩, .int .i64 0, .slice none 0 0] 29))))).trans hb)).2.2; have BQ := Aside0.mk bq; clear bq)); have hsz := hb.size; have HWn := Aside0.mk (below_step (by repeat (first | exact HWc.out | apply below_alloc | apply pw_below_drewN | apply below_drew)) hb); clear HWc; have HWc := HWn; clear HWn; have IT := Aside0.mk hz; obtain ⟨AT, cT, hv, lT, CT⟩ := hz; subst hv; clear lT CT; have HXA := Aside0.mk (fun o => boxA_cells (blk_alloc (blk_below X1.out HWc.out) o)); (try (obtain ⟨hq0, hq1, hq2, hq3⟩ := box_cells BQ.out; have hqf0 := blk_frozen BQ.out 0; have hqf1 := blk_frozen BQ.out 1; have hqf2 := blk_frozen BQ.out 2; have hqf3 := blk_frozen BQ.out 3))))
    all_goals go_wp2_with fail
    all_goals go_meet
    all_goals first
      | exact ⟨wz.heap.size, AT, cT, rfl, rfl, ⟨B1.out.trans ((HWc.out.trans ((below_alloc (Below.refl _ _) _).mono HWc.out.size)).mono B1.out.size)⟩, ⟨blk_alloc (blk_below X1.out HWc.out) _⟩, ⟨box_new wz _⟩, ⟨(IT.out.below (below_alloc (Below.refl _ _) _)).now⟩, ⟨by have := HWc.out.size; omega⟩⟩
      | exact ⟨_, AT, cT, rfl, rfl, ⟨put4_below (B1.out.trans (HWc.out.mono B1.out.size)) (by omega)⟩, ⟨(put4_other (by omega)).trans (blk_below X1.out HWc.out)⟩, ⟨put4_block BQ.out⟩, ⟨(IT.out.step (fun k hk _ => put4_other (by rcases hk with (hk | hk) | hk; exact hk.elim; exact hk.elim; (try rw [World.size_alloc] at hk); omega))).now⟩, ⟨by omega⟩⟩
  case rest =>
    obtain ⟨g2, AT, cT, rfl, rfl, B2, X12, X2, IT2, hg2⟩ := hcut
    go_upto_region 3 with fail
    go_cut [4, 5] from 18 to 24 (fun s4 s5 wx => ∃ (g4 : Nat) (AG : Option Addr) (cG : Nat) (AR : Option Addr) (cR : Nat), s4 = .pointer (some ⟨g4, 0, none⟩) ∧ s5 = .int .i64 0 ∧ Aside0 (Below w.heap.size w wx) ∧ Aside0 (wx.heap[w.heap.size]? = some (.cells #[.string ⟨#[97, 110, 110]⟩, .slice none 0 0, .int .i64 0, .slice none 0 0, .string ⟨#[119, 101, 98]⟩, .bool false, .int .i64 0] 25 (0, 0))) ∧
      Aside0 (wx.heap[g2]? = some (.cells #[.int .i64 tX.f0, .string tX.f1, .int .i64 tX.f2, .slice AT tX.f3.length cT] 29 (0, 0))) ∧ Aside0 (IsT wx (.agg #[.int .i64 tX.f0, .string tX.f1, .int .i64 tX.f2, .slice AT tX.f3.length cT]) tX) ∧ Aside0 (wx.heap[g4]? = some (.cells #[.string (vX).u, .slice AG (vX).g.length cG, .int .i64 (vX).o, .slice AR (vX).tr.length cR, .string (vX).s, .bool (vX).fw, .int .i64 (vX).tm] 25 (0, 0))) ∧ Aside0 (IsA wx (.agg #[.string (vX).u, .slice AG (vX).g.length cG, .int .i64 (vX).o, .slice AR (vX).tr.length cR, .string (vX).s, .bool (vX).fw, .int .i64 (vX).tm]) (vX)) ∧ Aside0 (g2 < g4))
    case first =>
      have hgl := blk_lt X2.out
      have hwl := blk_lt X12.out
      obtain ⟨ht0, ht1, ht2, ht3⟩ := box_cells X2.out
      have HWc : Aside0 (Below wc.heap.size wc wc) := ⟨Below.refl _ _⟩
      go_region_held3 (fun w' => w'.cell? ⟨g2, 0, none⟩ = some (.int .i64 tX.f0) ∧ w'.cell? ⟨g2, 1, none⟩ = some (.string tX.f1) ∧ w'.cell? ⟨g2, 2, none⟩ = some (.int .i64 tX.f2) ∧ w'.cell? ⟨g2, 3, none⟩ = some (.slice AT tX.f3.length cT))
        (first | (with_reducible (go_split_ands; exact ⟨pw_cell_below hb (by assumption), pw_cell_below hb (by assumption), pw_cell_below hb (by assumption), pw_cell_below hb (by assumption)⟩)) | (with_reducible (go_split_ands; exact ⟨pw_cell_below (below_alloc (Below.refl _ _) _) (by assumption), pw_cell_below (below_alloc (Below.refl _ _) _) (by assumption), pw_cell_below (below_alloc (Below.refl _ _) _) (by assumption), pw_cell_below (below_alloc (Below.refl _ _) _) (by assumption)⟩)) | (with_reducible (go_split_ands; refine ⟨?_, ?_, ?_, ?_⟩ <;> assumption)) | (with_reducible exact HXA.out _) | (with_reducible (go_split_ands; refine ⟨?_, ?_, ?_, ?_⟩ <;> exact cell_setA (by omega) (by assumption))) | (go_keep; done))
        (first
          | (go_simp; go_at_call 25; refine (Key_F ⟨#[119, 101, 98]⟩ 1 _).mono ?_; rintro e wzW ⟨AW, cW, rfl, iW, hb⟩; (try (have bq := blk_below BQ.out hb; clear BQ; have BQ := Aside0.mk bq; clear bq)); (try (have bq := (one_box (w := wc) (o := (.cells #[.string ⟨#[]⟩, .slice none 0 0, .int .i64 0, .slice none 0 0, .string ⟨#[]⟩, .bool false, .int .i64 0] 25)) hb).2.2; have BQ := Aside0.mk bq; clear bq)); (try (have bq := (one_box (w := wc) (o := (.cells #[.string ⟨#[]⟩, .slice none 0 0, .int .i64 0, .slice none 0 0, .string ⟨#[]⟩, .bool false, .int .i64 0] 25)) ((below_drew (Below.refl (wc.alloc ((.cells #[.string ⟨#[]⟩, .slice none 0 0, .int .i64 0, .slice none 0 0, .string ⟨#[]⟩, .bool false, .int .i64 0] 25))).heap.size (wc.alloc ((.cells #[.string ⟨#[]⟩, .slice none 0 0, .int .i64 0, .slice none 0 0, .string ⟨#[]⟩, .bool false, .int .i64 0] 25))))).trans hb)).2.2; have BQ := Aside0.mk bq; clear bq)); have HWn := Aside0.mk (below_step (by repeat (first | exact HWc.out | apply below_alloc | apply pw_below_drewN | apply below_drew)) hb); clear HWc; have HWc := HWn; clear HWn; have hszW := HWc.out.size; have IW := Aside0.mk iW; clear iW)
          | (go_simp; go_at_call 25; refine (Key_F ⟨#[99, 101, 110, 116, 114, 101]⟩ 1 _).mono ?_; rintro e wzC ⟨AC, cC, rfl, iC, hb⟩; (try (have bq := blk_below BQ.out hb; clear BQ; have BQ := Aside0.mk bq; clear bq)); (try (have bq := (one_box (w := wzW) (o := (.cells #[.string ⟨#[]⟩, .slice none 0 0, .int .i64 0, .slice none 0 0, .string ⟨#[]⟩, .bool false, .int .i64 0] 25)) hb).2.2; have BQ := Aside0.mk bq; clear bq)); (try (have bq := (one_box (w := wzW) (o := (.cells #[.string ⟨#[]⟩, .slice none 0 0, .int .i64 0, .slice none 0 0, .string ⟨#[]⟩, .bool false, .int .i64 0] 25)) ((below_drew (Below.refl (wzW.alloc ((.cells #[.string ⟨#[]⟩, .slice none 0 0, .int .i64 0, .slice none 0 0, .string ⟨#[]⟩, .bool false, .int .i64 0] 25))).heap.size (wzW.alloc ((.cells #[.string ⟨#[]⟩, .slice none 0 0, .int .i64 0, .slice none 0 0, .string ⟨#[]⟩, .bool false, .int .i64 0] 25))))).trans hb)).2.2; have BQ := Aside0.mk bq; clear bq)); have HWn := Aside0.mk (below_step (by repeat (first | exact HWc.out | apply below_alloc | apply pw_below_drewN | apply below_drew)) hb); clear HWc; have HWc := HWn; clear HWn; have hszC := HWc.out.size; have IC := Aside0.mk iC; clear iC)
          | (go_simp; go_at_call 21; refine (Verify_calls (t := tX) (sv := exW) (ce := exC) _ hNT.out ?h0 ((IW.out _ (fun _ => True)).now) ((IC.out _ (fun _ => True)).now)).mono ?_; (case h0 => exact IT2.out.below (by repeat (first | exact HWc.out | apply below_alloc | apply pw_below_drewN | apply below_drew))); rw [hVA.out.1, hVA.out.2]; rintro e wz ⟨vz, rfl, hz, hb⟩; (try (have hbql := blk_lt BQ.out)); (try (have bq := blk_below BQ.out hb; clear BQ; have BQ := Aside0.mk bq; clear bq)); (try (have bq := (one_box (w := wzC) (o := (.cells #[.string ⟨#[]⟩, .slice none 0 0, .int .i64 0, .slice none 0 0, .string ⟨#[]⟩, .bool false, .int .i64 0] 25)) hb).2.2; have BQ := Aside0.mk bq; clear bq)); (try (have bq := (one_box (w := wzC) (o := (.cells #[.string ⟨#[]⟩, .slice none 0 0, .int .i64 0, .slice none 0 0, .string ⟨#[]⟩, .bool false, .int .i64 0] 25)) ((below_drew (Below.refl (wzC.alloc ((.cells #[.string ⟨#[]⟩, .slice none 0 0, .int .i64 0, .slice none 0 0, .string ⟨#[]⟩, .bool false, .int .i64 0] 25))).heap.size (wzC.alloc ((.cells #[.string ⟨#[]⟩, .slice none 0 0, .int .i64 0, .slice none 0 0, .string ⟨#[]⟩, .bool false, .int .i64 0] 25))))).trans hb)).2.2; have BQ := Aside0.mk bq; clear bq)); have hsz := hb.size; have HWn := Aside0.mk (below_step (by repeat (first | exact HWc.out | apply below_alloc | apply pw_below_drewN | apply below_drew)) hb); clear HWc; have HWc := HWn; clear HWn; have IV := Aside0.mk hz; obtain ⟨AG, cG, AR, cR, hv, lG, FG, lR, FR⟩ := hz; subst hv; clear lG FG lR FR; have HXA := Aside0.mk (fun o => box_cells (blk_alloc (blk_below X2.out HWc.out) o)); (try (obtain ⟨hq0, hq1, hq2, hq3, hq4, hq5, hq6⟩ := boxA_cells BQ.out; have hqf0 := blk_frozen BQ.out 0; have hqf1 := blk_frozen BQ.out 1; have hqf2 := blk_frozen BQ.out 2; have hqf3 := blk_frozen BQ.out 3; have hqf4 := blk_frozen BQ.out 4; have hqf5 := blk_frozen BQ.out 5; have hqf6 := blk_frozen BQ.out 6))))
      all_goals go_wp2_with fail
      all_goals go_meet
      all_goals first
        | (refine ⟨wz.heap.size, AG, cG, AR, cR, rfl, rfl, ?_, ?_, ?_, ?_, ?_, ?_, ?_⟩; exact ⟨B2.out.trans ((HWc.out.trans ((below_alloc (Below.refl _ _) _).mono HWc.out.size)).mono B2.out.size)⟩; exact ⟨blk_alloc (blk_below X12.out HWc.out) _⟩; exact ⟨blk_alloc (blk_below X2.out HWc.out) _⟩; exact ⟨IT2.out.below (HWc.out.trans ((below_alloc (Below.refl _ _) _).mono HWc.out.size))⟩; exact ⟨box_new wz _⟩; exact ⟨(IV.out.below (below_alloc (Below.refl _ _) _)).now⟩; exact ⟨by have := HWc.out.size; omega⟩)
        | (refine ⟨_, AG, cG, AR, cR, rfl, rfl, ?_, ?_, ?_, ?_, ?_, ?_, ?_⟩; exact ⟨putA_below (B2.out.trans (HWc.out.mono B2.out.size)) (by omega)⟩; exact ⟨(putA_other (by omega)).trans (blk_below X12.out HWc.out)⟩; exact ⟨(putA_other (by omega)).trans (blk_below X2.out HWc.out)⟩; exact ⟨IT2.out.below (putA_below HWc.out (by omega))⟩; exact ⟨putA_block BQ.out⟩; exact ⟨(IV.out.step (fun k hk _ => putA_other (by (try rw [World.size_alloc] at hk); omega))).now⟩; exact ⟨by omega⟩)
    case rest =>
      obtain ⟨g4, AG, cG, AR, cR, rfl, rfl, B3, X13, X23, IT3, X4, IV, hg4⟩ := hcut
      clear B2 X12 X2 IT2
      have B2 := B3
      have X12 := X13
      have X2 := X23
      have IT2 := IT3
      clear B3 X13 X23 IT3
      go_upto_region 4 with fail
      go_cut [6, 7] from 25 to 30 (fun s6 s7 wy => s7 = .int .i64 62 ∧ Aside0 (Below w.heap.size w wy) ∧ Aside0 (wy.heap[w.heap.size]? = some (.cells #[.string ⟨#[97, 110, 110]⟩, .slice none 0 0, .int .i64 0, .slice none 0 0, .string ⟨#[119, 101, 98]⟩, .bool false, .int .i64 0] 25 (0, 0))) ∧
        Aside0 (wy.heap[g2]? = some (.cells #[.int .i64 tX.f0, .string tX.f1, .int .i64 tX.f2, .slice AT tX.f3.length cT] 29 (0, 0))) ∧ Aside0 (IsT wy (.agg #[.int .i64 tX.f0, .string tX.f1, .int .i64 tX.f2, .slice AT tX.f3.length cT]) tX) ∧ Aside0 (wy.heap[g4]? = some (.cells #[.string (vX).u, .slice AG (vX).g.length cG, .int .i64 (vX).o, .slice AR (vX).tr.length cR, .string (vX).s, .bool (vX).fw, .int .i64 (vX).tm] 25 (0, 0))) ∧ Aside0 (IsA wy (.agg #[.string (vX).u, .slice AG (vX).g.length cG, .int .i64 (vX).o, .slice AR (vX).tr.length cR, .string (vX).s, .bool (vX).fw, .int .i64 (vX).tm]) (vX)))
      case first =>
        obtain ⟨sX, hsX⟩ : ∃ sX, srvA tX exW2 = sX := ⟨_, rfl⟩
        have hgl := blk_lt X2.out
        have hwl := blk_lt X12.out
        have hgl4 := blk_lt X4.out
        obtain ⟨ht0, ht1, ht2, ht3⟩ := box_cells X2.out
        have HWc : Aside0 (Below wc.heap.size wc wc) := ⟨Below.refl _ _⟩
        go_region_held3 (fun w' => w'.cell? ⟨g2, 0, none⟩ = some (.int .i64 tX.f0) ∧ w'.cell? ⟨g2, 1, none⟩ = some (.string tX.f1) ∧ w'.cell? ⟨g2, 2, none⟩ = some (.int .i64 tX.f2) ∧ w'.cell? ⟨g2, 3, none⟩ = some (.slice AT tX.f3.length cT))
          (first | (with_reducible (go_split_ands; exact ⟨pw_cell_below hb (by assumption), pw_cell_below hb (by assumption), pw_cell_below hb (by assumption), pw_cell_below hb (by assumption)⟩)) | (with_reducible (go_split_ands; exact ⟨pw_cell_below (below_alloc (Below.refl _ _) _) (by assumption), pw_cell_below (below_alloc (Below.refl _ _) _) (by assumption), pw_cell_below (below_alloc (Below.refl _ _) _) (by assumption), pw_cell_below (below_alloc (Below.refl _ _) _) (by assumption)⟩)) | (with_reducible (go_split_ands; refine ⟨?_, ?_, ?_, ?_⟩ <;> assumption)) | (with_reducible exact HXA.out _) | (with_reducible (go_split_ands; refine ⟨?_, ?_, ?_, ?_⟩ <;> exact cell_setA (by omega) (by assumption))) | (go_keep; done))
          (first
            | (go_simp; go_at_call 25; refine (Key_F ⟨#[119, 101, 98]⟩ 2 _).mono ?_; rintro e wzW ⟨AW, cW, rfl, iW, hb⟩; (try (have bq := blk_below BQ.out hb; clear BQ; have BQ := Aside0.mk bq; clear bq)); (try (have bq := (one_box (w := wc) (o := (.cells #[.string ⟨#[]⟩, .slice none 0 0, .int .i64 0, .slice none 0 0, .string ⟨#[]⟩, .bool false, .int .i64 0] 25)) hb).2.2; have BQ := Aside0.mk bq; clear bq)); (try (have bq := (one_box (w := wc) (o := (.cells #[.string ⟨#[]⟩, .slice none 0 0, .int .i64 0, .slice none 0 0, .string ⟨#[]⟩, .bool false, .int .i64 0] 25)) ((below_drew (Below.refl (wc.alloc ((.cells #[.string ⟨#[]⟩, .slice none 0 0, .int .i64 0, .slice none 0 0, .string ⟨#[]⟩, .bool false, .int .i64 0] 25))).heap.size (wc.alloc ((.cells #[.string ⟨#[]⟩, .slice none 0 0, .int .i64 0, .slice none 0 0, .string ⟨#[]⟩, .bool false, .int .i64 0] 25))))).trans hb)).2.2; have BQ := Aside0.mk bq; clear bq)); have HWn := Aside0.mk (below_step (by repeat (first | exact HWc.out | apply below_alloc | apply pw_below_drewN | apply below_drew)) hb); clear HWc; have HWc := HWn; clear HWn; have hszW := HWc.out.size; have IW := Aside0.mk iW; clear iW)
            | (go_simp; go_at_call 20; refine (Server_calls (t := tX) (sv := exW2) _ hNT.out ?h0 ((IW.out _ (fun _ => True)).now)).mono ?_; (case h0 => exact IT2.out.below (by repeat (first | exact HWc.out | apply below_alloc | apply pw_below_drewN | apply below_drew))); rw [hSE.out]; rintro e wz ⟨vz, rfl, hz, hb⟩; (try (have hbql := blk_lt BQ.out)); (try (have bq := blk_below BQ.out hb; clear BQ; have BQ := Aside0.mk bq; clear bq)); (try (have bq := (one_box (w := wzW) (o := (.cells #[.string ⟨#[]⟩, .slice none 0 0, .int .i64 0, .slice none 0 0, .string ⟨#[]⟩, .bool false, .int .i64 0] 25)) hb).2.2; have BQ := Aside0.mk bq; clear bq)); (try (have bq := (one_box (w := wzW) (o := (.cells #[.string ⟨#[]⟩, .slice none 0 0, .int .i64 0, .slice none 0 0, .string ⟨#[]⟩, .bool false, .int .i64 0] 25)) ((below_drew (Below.refl (wzW.alloc ((.cells #[.string ⟨#[]⟩, .slice none 0 0, .int .i64 0, .slice none 0 0, .string ⟨#[]⟩, .bool false, .int .i64 0] 25))).heap.size (wzW.alloc ((.cells #[.string ⟨#[]⟩, .slice none 0 0, .int .i64 0, .slice none 0 0, .string ⟨#[]⟩, .bool false, .int .i64 0] 25))))).trans hb)).2.2; have BQ := Aside0.mk bq; clear bq)); have hsz := hb.size; have HWn := Aside0.mk (below_step (by repeat (first | exact HWc.out | apply below_alloc | apply pw_below_drewN | apply below_drew)) hb); clear HWc; have HWc := HWn; clear HWn; obtain ⟨AG2, cG2, AR2, cR2, hv, lG, FG, lR, FR⟩ := hz; rw [hsX] at hv; subst hv; clear lG FG lR FR; have HXA := Aside0.mk (fun o => box_cells (blk_alloc (blk_below X2.out HWc.out) o)); (try (obtain ⟨hq0, hq1, hq2, hq3, hq4, hq5, hq6⟩ := boxA_cells BQ.out; have hqf0 := blk_frozen BQ.out 0; have hqf1 := blk_frozen BQ.out 1; have hqf2 := blk_frozen BQ.out 2; have hqf3 := blk_frozen BQ.out 3; have hqf4 := blk_frozen BQ.out 4; have hqf5 := blk_frozen BQ.out 5; have hqf6 := blk_frozen BQ.out 6))))
        all_goals go_wp2_with fail
        all_goals go_meet
        all_goals first
          | (refine ⟨rfl, ?_, ?_, ?_, ?_, ?_, ?_⟩; with_reducible exact ⟨B2.out.trans ((HWc.out.trans ((below_alloc (Below.refl _ _) _).mono HWc.out.size)).mono B2.out.size)⟩; exact ⟨blk_alloc (blk_below X12.out HWc.out) _⟩; exact ⟨blk_alloc (blk_below X2.out HWc.out) _⟩; exact ⟨IT2.out.below (HWc.out.trans ((below_alloc (Below.refl _ _) _).mono HWc.out.size))⟩; exact ⟨blk_alloc (blk_below X4.out HWc.out) _⟩; exact ⟨IV.out.below (HWc.out.trans ((below_alloc (Below.refl _ _) _).mono HWc.out.size))⟩)
          | (refine ⟨rfl, ?_, ?_, ?_, ?_, ?_, ?_⟩; exact ⟨putA_below (B2.out.trans (HWc.out.mono B2.out.size)) (by omega)⟩; exact ⟨(putA_other (by omega)).trans (blk_below X12.out HWc.out)⟩; exact ⟨(putA_other (by omega)).trans (blk_below X2.out HWc.out)⟩; exact ⟨IT2.out.below (putA_below HWc.out (by omega))⟩; exact ⟨(putA_other (by omega)).trans (blk_below X4.out HWc.out)⟩; exact ⟨IV.out.below (putA_below HWc.out (by omega))⟩)
      case rest =>
        obtain ⟨rfl, B3, X13, X23, IT3, X43, IV3⟩ := hcut
        clear B2 X12 X2 IT2 X4 IV
        obtain ⟨ht0, ht1, ht2, ht3⟩ := box_cells X23.out
        go_wp2_with fail
        refine (Read_calls (t := tX) _ hNT.out IT3.out).mono ?_
        rw [hRA.out.1, hRA.out.2]
        rintro e wz ⟨vz, rfl, hz, hb⟩
        obtain ⟨AR, cR, BR, dR, rfl, lG, FG, lR, FR⟩ := hz
        have IR : Aside0 (IsAF wz (fun k => wc.heap.size + 2 ≤ k) _ rX) := ⟨⟨AR, cR, BR, dR, rfl, lG, FG, lR, FR⟩⟩
        have B5 := Aside0.mk (B3.out.trans (hb.mono B3.out.size))
        have X15 := Aside0.mk (blk_below X13.out hb)
        have X45 := Aside0.mk (blk_below X43.out hb)
        have IV5 := Aside0.mk (IV3.out.below hb)
        clear lG FG lR FR B3 X13 X23 IT3 X43 IV3 ht0 ht1 ht2 ht3 hb
        obtain ⟨ha0, ha1, ha2, ha3, ha4, ha5, ha6⟩ := boxA_cells (blk_alloc X15.out (.cells #[.string rX.u, .slice AR rX.g.length cR, .int .i64 rX.o, .slice BR rX.tr.length dR, .string rX.s, .bool rX.fw, .int .i64 rX.tm] 25))
        have IA0 : Aside0 (∀ W, IsA W (.agg #[.string ⟨#[97, 110, 110]⟩, .slice none 0 0, .int .i64 0, .slice none 0 0, .string ⟨#[119, 101, 98]⟩, .bool false, .int .i64 0]) exA) := ⟨fun W => ⟨none, 0, none, 0, rfl, Nat.le_refl _, C_nilI _, Nat.le_refl _, C_nilS _⟩⟩
        go_wp2_with fail
        refine (Data_F (a := exA) _ ex_n (IA0.out _)).mono ?_
        rintro e w6 ⟨v6, rfl, h6, b6⟩
        obtain ⟨p6, z6, x6⟩ := one_box b6
        have B6 := Aside0.mk (B5.out.trans (p6.mono B5.out.size))
        have X16 := Aside0.mk (blk_below X15.out p6)
        have X46 := Aside0.mk (blk_below X45.out p6)
        have X86 := Aside0.mk x6
        have IV6 := Aside0.mk (IV5.out.below p6)
        have IR6 := Aside0.mk (IR.out.now.below p6)
        have L6 : Aside0 (Laid w6) := ⟨HL.out.below B6.out⟩
        clear p6 z6 x6 b6 B5 X15 X45 IV5 IR ha0 ha1 ha2 ha3 ha4 ha5 ha6
        have hT := Text_V w6 ex_dn ex_dok L6.out h6.now
        rw [ex_text] at hT
        go_wp2_with fail
        refine hT.mono ?_
        rintro e w7 ⟨rfl, b7⟩
        have B7 := Aside0.mk (B6.out.trans (b7.mono B6.out.size))
        have X17 := Aside0.mk (blk_below X16.out b7)
        have X47 := Aside0.mk (blk_below X46.out b7)
        have X87 := Aside0.mk (blk_below X86.out b7)
        have IV7 := Aside0.mk (IV6.out.below b7)
        have IR7 := Aside0.mk (IR6.out.below b7)
        clear B6 X16 X46 X86 IV6 IR6
        have L7 : Aside0 (Laid w7) := ⟨HL.out.below B7.out⟩
        clear h6 hT b7
        obtain ⟨ha0, ha1, ha2, ha3, ha4, ha5, ha6⟩ := boxA_cells X17.out
        obtain ⟨hd0, hd1, hd2, hd3, hd4, hd5, hd6⟩ := boxA_cells X47.out
        go_wp2_with fail
        refine (Same_A (a := exA) (b := vX) _ ex_n (IA0.out _) IV7.out).mono ?_
        rw [hSM.out.1]
        rintro e w8 ⟨rfl, b8⟩
        have B8 := Aside0.mk (B7.out.trans (b8.mono B7.out.size))
        have X18 := Aside0.mk (blk_below X17.out b8)
        have X48 := Aside0.mk (blk_below X47.out b8)
        have X88 := Aside0.mk (blk_below X87.out b8)
        have IV8 := Aside0.mk (IV7.out.below b8)
        have IR8 := Aside0.mk (IR7.out.below b8)
        clear B7 X17 X47 X87 IV7 IR7
        clear b8 ha0 ha1 ha2 ha3 ha4 ha5 ha6 hd0 hd1 hd2 hd3 hd4 hd5 hd6
        obtain ⟨ha0, ha1, ha2, ha3, ha4, ha5, ha6⟩ := boxA_cells X18.out
        obtain ⟨hd0, hd1, hd2, hd3, hd4, hd5, hd6⟩ := boxA_cells X88.out
        go_wp2_with fail
        refine (Same_A (a := exA) (b := rX) _ ex_n (IA0.out _) IR8.out).mono ?_
        rw [hSM.out.2]
        rintro e w9 ⟨rfl, b9⟩
        have B9 := Aside0.mk (B8.out.trans (b9.mono B8.out.size))
        have X19 := Aside0.mk (blk_below X18.out b9)
        have X49 := Aside0.mk (blk_below X48.out b9)
        have X89 := Aside0.mk (blk_below X88.out b9)
        have IV9 := Aside0.mk (IV8.out.below b9)
        have IR9 := Aside0.mk (IR8.out.below b9)
        clear B8 X18 X48 X88 IV8 IR8
        clear b9 ha0 ha1 ha2 ha3 ha4 ha5 ha6 hd0 hd1 hd2 hd3 hd4 hd5 hd6
        obtain ⟨ha0, ha1, ha2, ha3, ha4, ha5, ha6⟩ := boxA_cells X19.out
        go_wp2_with fail
        refine (Valid_calls (a := exA) _ ex_n (IA0.out _)).mono ?_
        rw [ex_valid]
        rintro e w10 ⟨rfl, b10⟩
        go_wp2_with fail
        go_ret
        exact ⟨rfl, B9.out.trans (b10.mono B9.out.size)⟩
theorem works_calls (w : World) (hL : Laid w) : V_ 7 #[] w (.bool true) :=
  works_gen w hL exT _ _ ex_build.1 ex_build.2 ex_nT rfl ex_verE ex_srvE rfl ex_readE ex_verA ex_readA
end Go.Proofs.YtimommkbfbdkdaaDoor.P
