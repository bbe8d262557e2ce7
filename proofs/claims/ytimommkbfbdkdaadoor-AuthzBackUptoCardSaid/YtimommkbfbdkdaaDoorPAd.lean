/- authz.Data makes the term that dataA tells, all of it new. authz.Build makes the container that buildA tells. -/
import Derived.Test.YtimommkbfbdkdaaDoorPAb
import Derived.Test.YtimommkbfbdkdaaDoorPx1
import Derived.Deep.RegionHeld3
namespace Go.Proofs.YtimommkbfbdkdaaDoor.P
open Go.RowKit Go.Proofs.YtimommkbfbdkdaaDoorW.PrintWords Go.Proofs.YtimommkbfbdkdaaDoorW.PrintLast Go.Proofs.YtimommkbfbdkdaaDoorW.PrintMore
set_option linter.unusedVariables false
set_option linter.unusedSimpArgs false

def data_T : Bool × List (List Nat × List Nat) := (true, [([], []), ([0], [0]), ([], []), ([2], [2]), ([3], [3]), ([1, 4, 3], [1, 4]), ([0, 1, 2, 3, 4, 5], []), ([6, 5, 5, 0, 1, 2, 3, 4, 5], [5, 6])])
def data_B : List Nat := [0, 1, 0, 4, 12, 31, 63, 127]
theorem data_tab : rtab .any (opsOf Tryd.f13 5) = data_T := by kernel_rfl
theorem data_bits : waitsOk data_T.2 data_B = true := by kernel_rfl
theorem bit_some (b : Bool) : authz_bit.f b = some (bitI b) := by cases b <;> rfl

set_option maxHeartbeats 8000000 in
set_option maxRecDepth 100000 in
theorem Data_F {v : Value} {a : Au} (w : World) (hn : nA a ≤ 1000000000) (h : IsA w v a) :
    Calls Tryd.prog 13 #[v] w fun e w' => ∃ v, e = .returned v ∧ IsF w' (fun k => w.heap.size ≤ k) v (dataA a) ∧ Below w.heap.size w w' := by
  obtain ⟨A, c, B, d, rfl, h1, h2, h3, h4⟩ := h
  have hu25 := Tryd.underlying25
  have hu29 := Tryd.underlying29
  unfold nA at hn
  have hts := nS_len a.tr
  have HG := Aside0.mk h2
  have HR := Aside0.mk h4
  have HBIT : Aside0 (∀ W, Calls Tryd.prog 35 #[.bool a.fw] W fun e w' => e = .returned (.int .i64 (bitI a.fw)) ∧ Below W.heap.size W w') := ⟨fun W => (authz_bit.calls a.fw _ W (bit_some a.fw)).mono fun _ _ ⟨he, hd⟩ => ⟨he, hd.below⟩⟩
  clear h2 h4
  go_enter Tryd.func13, Tryd.ntmps13
  go_wp2_with fail
  refine (List0_calls _).mono ?_
  rintro e w1 ⟨rfl, b1⟩
  obtain ⟨p1, q1, ra, rr⟩ := two_boxes b1
  have B1 := Aside0.mk p1
  have XA := Aside0.mk ra
  have XR := Aside0.mk rr
  obtain ⟨ha0, ha1, ha2, ha3, ha4, ha5, ha6⟩ := boxA_cells ra
  have hga : ∀ o, (w1.alloc o).cell? ⟨w.heap.size, 1, none⟩ = some (.slice A a.g.length c) := fun o => (blk_cell (blk_alloc XA.out o) 1).trans rfl
  clear b1 p1 ra rr
  go_wp2_with fail
  clear hga
  go_loopg [5, 10] a.g.length (fun gg _ s10 wr => ∃ (kk : Nat) (Al : Option Addr) (cl : Nat), kk ≤ a.g.length ∧ a.g.length - kk ≤ gg ∧ s10 = .int .i64 kk ∧ Aside0 (Below w1.heap.size w1 wr) ∧
    Aside0 (wr.heap[w1.heap.size]? = some (.cells #[.int .i64 3, .string ⟨#[]⟩, .int .i64 0, .slice Al kk cl] 29 (0, 0))) ∧ Aside0 (Kd.R (kF w (fun k => w1.heap.size ≤ k)) 29 wr w1.heap.size (fun k => k ≠ w1.heap.size) (.slice Al kk cl) ((a.g.take kk).map numT)))
  case atStart => exact ⟨0, none, 0, by omega, by omega, rfl, ⟨below_alloc (Below.refl _ _) _⟩, ⟨box_new w1 _⟩, ⟨Kd.R_nil _ _ _ _ _⟩⟩
  case round =>
    obtain ⟨kk, Al, cl, hkk, hg, rfl, BW, XL, RL⟩ := hrel
    have hbl := blk_lt XL.out
    clear ha0 ha1 ha2 ha3 ha4 ha5 ha6
    obtain ⟨hl0, hl1, hl2, hl3⟩ := box_cells XL.out
    by_cases hlt : kk < a.g.length
    · obtain ⟨ad, e1, hx0⟩ := Kd.at_int HG.out (kk : Int) (by omega) (by omega)
      cases e1
      replace hx0 := ((B1.out.trans (BW.out.mono B1.out.size)).cell (World.block_lt_of_cell? w _ hx0)).trans hx0
      have B2 : Aside0 (rd a.g (kk : Int) = a.g[kk]) := ⟨by simp [rd, List.getD_eq_getElem?_getD, List.getElem?_eq_getElem hlt]⟩
      obtain ⟨x, hx⟩ : ∃ x, x = rd a.g (kk : Int) := ⟨_, rfl⟩
      rw [← hx] at hx0 B2
      clear hx
      simp only [Int.toNat_natCast] at hx0
      have hin : (kk : Int) < a.g.length := by omega
      have hlen0 : ((a.g.take kk).map numT).length = kk := by simp; omega
      have HLn := Aside0.mk hlen0
      go_wp2_with fail
      refine start_ (n := 8) (S := fun w' => w'.cell? ⟨w1.heap.size, 0, none⟩ = some (.int .i64 3) ∧ w'.cell? ⟨w1.heap.size, 1, none⟩ = some (.string ⟨#[]⟩) ∧ w'.cell? ⟨w1.heap.size, 2, none⟩ = some (.int .i64 0) ∧ w'.cell? ⟨w1.heap.size, 3, none⟩ = some (.slice Al kk cl)) (ds := [7]) #[false, false, false, false, false, false, false, false] (by kernel_rfl) rfl rfl ⟨hl0, hl1, hl2, hl3⟩ (fun hHeld => ?_); refine with_tabW data_tab data_bits (fun HT_ HW_ => ?_)
      have BW2 : Aside0 (Below w1.heap.size w1 wr.drew) := ⟨below_drew BW.out⟩
      have XL2 : Aside0 (wr.drew.heap[w1.heap.size]? = some (.cells #[.int .i64 3, .string ⟨#[]⟩, .int .i64 0, .slice Al kk cl] 29 (0, 0))) := XL
      have RL2 : Aside0 (Kd.R (kF w (fun k => w1.heap.size ≤ k)) 29 wr.drew w1.heap.size (fun k => k ≠ w1.heap.size) (.slice Al kk cl) ((a.g.take kk).map numT)) := ⟨Kd.R_drew RL.out⟩
      have hbl2 : w1.heap.size < wr.drew.heap.size := hbl
      clear BW XL RL hl0 hl1 hl2 hl3 hx0 hbl
      generalize wr.drew = w14 at BW2 XL2 RL2 hHeld hbl2 ⊢
      refine pure_ (i := 0) (N := some 14) (v := ?_) (a' := ?_) #[true, false, false, false, false, false, false, false] rfl rfl (any_of HT_.out (by kernel_rfl)) (fun _ _ _ h => h) (Or.inl ⟨by rfl, ?_⟩) ?_ ?_
      rotate_left
      · intro w'
        go_simp
        with_reducible rfl
      rotate_left
      · simp only [Act.put, List.setIfInBounds_toArray, List.set_cons_zero, List.set_cons_succ, i64_w, i32_w]
        rfl
      refine pure_ (i := 2) (N := some 16) (v := ?_) (a' := ?_) #[true, false, true, false, false, false, false, false] rfl rfl (any_of HT_.out (by kernel_rfl)) (fun _ _ _ h => h) (Or.inl ⟨by rfl, ?_⟩) ?_ ?_
      rotate_left
      · intro w'
        go_simp
        with_reducible rfl
      rotate_left
      · simp only [Act.put, List.setIfInBounds_toArray, List.set_cons_zero, List.set_cons_succ, i64_w, i32_w]
        rfl
      refine take_ (i := 1) (N := some 15) (v := ?_) (a' := ?_) #[true, true, true, false, false, false, false, false] rfl rfl (take_ofW HT_.out HW_.out (by kernel_rfl)) (fun _ _ _ h => h) (Or.inl ⟨by rfl, ?_⟩) hHeld ?_ ?_
      rotate_left
      · rintro w' ⟨s0, s1, s2, s3⟩
        go_simp
        with_reducible rfl
      rotate_left
      · simp only [Act.put, List.setIfInBounds_toArray, List.set_cons_zero, List.set_cons_succ, i64_w, i32_w]
        rfl
      refine one_ (i := 3) (N := some 17) #[true, true, true, true, false, false, false, false] rfl rfl (one_of HT_.out (by kernel_rfl)) (by decide) (fun K hK => ?_)
      refine goes_ Tryd.func32 (by kernel_rfl) rfl #[.int .i64 x] (by rfl) rfl rfl (by (try simp only [List.map_toArray, List.map_cons, List.map_nil]); first | done | rfl) ?_
      refine (Num_T x _).mono ?_
      rintro e wz ⟨vz, rfl, hz, hb⟩
      obtain ⟨An, cn, rfl, ln, Cn⟩ := hz
      have IN := Aside0.mk (k29_mkF (A3 := An) w (fun k => w1.heap.size ≤ k) (numT x) ln (F_nil0 _ _ _))
      refine ⟨_, rfl, ?_⟩
      have BW3 := Aside0.mk (BW2.out.trans (hb.mono BW2.out.size))
      have XL3 := Aside0.mk (blk_below XL2.out hb)
      have RL3 := Aside0.mk (Kd.R_below RL2.out hb)
      have hbl3 : w1.heap.size < wz.heap.size := Nat.lt_of_lt_of_le hbl2 hb.size
      clear BW2 XL2 RL2 hb ln Cn hbl2
      refine hK.out _ _ (box_cells XL3.out) (fun hHeld => ?_)
      clear hK K
      refine norm_ (a' := ?_) ?_ ?_
      rotate_left
      · show Act.put _ (some 17) _ = _
        simp only [Act.put, List.setIfInBounds_toArray, List.set_cons_zero, List.set_cons_succ, i64_w, i32_w]
        rfl
      refine one_ (i := 4) (N := some 18) #[true, true, true, true, true, false, false, false] rfl rfl (one_of HT_.out (by kernel_rfl)) (by decide) (fun K hK => ?_)
      refine value_ (w1 := ?_) (v := ?_) (by rfl) rfl ?_ ?_
      rotate_left 2
      · go_simp
        constructor
        · rfl
        · rfl
      refine hK.out _ _ (box_cells (blk_alloc XL3.out _)) (fun hHeld => ?_)
      clear hK K
      refine norm_ (a' := ?_) ?_ ?_
      rotate_left
      · show Act.put _ (some 18) _ = _
        simp only [Act.put, List.setIfInBounds_toArray, List.set_cons_zero, List.set_cons_succ, i64_w, i32_w]
        rfl
      refine one_ (i := 5) (N := some 19) #[true, true, true, true, true, true, false, false] rfl rfl (one_of HT_.out (by kernel_rfl)) (by decide) (fun K hK => ?_)
      refine Kd.R_append_step (kF w (fun k => w1.heap.size ≤ k)) (w0 := w1) w1.heap.size (by rfl) (.tmp 15) (.tmp 18) 27 29 (.agg #[(.int .i64 0), (.string ⟨#[]⟩), (.int .i64 0), (.slice none 0 0)]) 56 rfl Tryd.underlying27 info29 rfl (show 0 < 4 from by decide) (by decide) (.slice Al kk cl) ((a.g.take kk).map numT) (numT x) [.int .i64 1, .string ⟨#[]⟩, .int .i64 x, .slice An 0 cn] (fun k => k ≠ w1.heap.size) (fun _ => False) rfl rfl IN.out (fun _ hk => hk.elim) (fun k hk => by omega) RL3.out BW3.out (by omega) (by rw [HLn.out]; omega) ?_
      intro v1 w6 ho hb6 hg6 hat
      have HO := Aside0.mk ho
      have HB6 := Aside0.mk hb6
      have hb9 : w6.heap[w1.heap.size]? = some (.cells #[.int .i64 3, .string ⟨#[]⟩, .int .i64 0, .slice Al kk cl] 29 (0, 0)) := (hg6.block _ hbl3 (fun e => RL3.out.1 _ e.symm rfl)).trans XL3.out
      clear ho hb6 hg6 hat
      obtain ⟨A6, c6, rfl⟩ := Kd.R_slice HO.out
      have H9 := Aside0.mk hb9
      obtain ⟨hd0, hd1, hd2, hd3⟩ := box_cells hb9
      have hdf := blk_frozen hb9 3
      clear hb9
      refine hK.out _ _ ⟨hd0, hd1, hd2, hd3⟩ (fun hHeld => ?_)
      clear hK K
      refine norm_ (a' := ?_) ?_ ?_
      rotate_left
      · show Act.put _ (some 19) _ = _
        simp only [Act.put, List.setIfInBounds_toArray, List.set_cons_zero, List.set_cons_succ, i64_w, i32_w]
        rfl
      refine pure_ (i := 6) (N := some 20) (v := ?_) (a' := ?_) #[true, true, true, true, true, true, true, false] rfl rfl (any_of HT_.out (by kernel_rfl)) (fun _ _ _ h => h) (Or.inl ⟨by rfl, ?_⟩) ?_ ?_
      rotate_left
      · intro w'
        go_simp
        with_reducible rfl
      rotate_left
      · simp only [Act.put, List.setIfInBounds_toArray, List.set_cons_zero, List.set_cons_succ, i64_w, i32_w]
        rfl
      refine last_ (i := 7) (N := none) #[true, true, true, true, true, true, true, true] rfl rfl (one_of HT_.out (by kernel_rfl)) (by decide) (fun K hK => ?_)
      refine skip_ (w1 := ?_) (by rfl) rfl ?_ ?_
      rotate_left
      · go_simp
        rfl
      refine hK.out _ _ ?_
      clear hK K
      refine done_ (done_of HT_.out (by kernel_rfl)) ?_
      go_wp2_with fail
      have hlen : ((a.g.take kk).map numT ++ [numT x]).length = kk + 1 := by rw [List.length_append, HLn.out]; rfl
      have htk : (a.g.take kk).map numT ++ [numT x] = (a.g.take (kk + 1)).map numT := by rw [List.take_succ_eq_append_getElem hlt, List.map_append, B2.out]; rfl
      go_roundg (a.g.length - (kk + 1))
      case measure => omega
      case rel =>
        refine ⟨kk + 1, A6, c6, by omega, by omega, by go_num, ⟨HB6.out.setCell (p := ⟨w1.heap.size, 3, none⟩) (Nat.le_refl _) _⟩, ⟨?_⟩, ⟨?_⟩⟩
        · rw [← hlen]; exact blk_put H9.out 3 _ rfl
        · have h := HO.out
          rw [hlen, htk] at h
          exact Kd.R_step h (fun k hk _ => Below.heap_setCell w6 ⟨w1.heap.size, 3, none⟩ _ _ hk)
    · obtain rfl : kk = a.g.length := by omega
      have BWR := Aside0.mk (B1.out.trans (BW.out.mono B1.out.size))
      have XAr := Aside0.mk (blk_below XA.out BW.out)
      have XRr := Aside0.mk (blk_below XR.out BW.out)
      have hws := BW.out.size
      have IG : Aside0 (IsF wr (fun k => w1.heap.size ≤ k) (.agg #[.int .i64 3, .string ⟨#[]⟩, .int .i64 0, .slice Al a.g.length cl]) (listT (a.g.map numT))) := ⟨by
        have h := RL.out
        rw [List.take_length] at h
        have hl : a.g.length = (a.g.map numT).length := by simp
        rw [hl] at h
        obtain ⟨k1, k2⟩ := F_of_rel (Kd.R_mono (Kd.R_bound h) (ok' := fun k => w1.heap.size ≤ k) fun k hk => hk.2.1) (Nat.le_refl _) (fun _ _ _ => rfl) BWR.out.size (fun k _ hlt => BWR.out.block k hlt)
        exact ⟨Al, cl, by simp [listT], k1, k2⟩⟩
      obtain ⟨ha0, ha1, ha2, ha3, ha4, ha5, ha6⟩ := boxA_cells XAr.out
      have hne1 : ¬ w.heap.size = w.heap.size + 1 := by omega
      have hne2 : ¬ w1.heap.size = w.heap.size + 1 := by omega
      have hne3 : ¬ w.heap.size + 1 = w1.heap.size := by omega
      have HWc : Aside0 (Below wr.heap.size wr wr) := ⟨Below.refl _ _⟩
      clear B1 XA XR RL
      go_wp2_with fail
      go_region_held3 (fun w' => w'.cell? ⟨w.heap.size, 0, none⟩ = some (.string a.u) ∧ w'.cell? ⟨w.heap.size, 1, none⟩ = some (.slice A a.g.length c) ∧ w'.cell? ⟨w.heap.size, 2, none⟩ = some (.int .i64 a.o) ∧ w'.cell? ⟨w.heap.size, 3, none⟩ = some (.slice B a.tr.length d) ∧ w'.cell? ⟨w.heap.size, 4, none⟩ = some (.string a.s) ∧ w'.cell? ⟨w.heap.size, 5, none⟩ = some (.bool a.fw) ∧ w'.cell? ⟨w.heap.size, 6, none⟩ = some (.int .i64 a.tm) ∧ w'.cell? ⟨w1.heap.size, 0, none⟩ = some (.int .i64 3) ∧ w'.cell? ⟨w1.heap.size, 1, none⟩ = some (.string ⟨#[]⟩) ∧ w'.cell? ⟨w1.heap.size, 2, none⟩ = some (.int .i64 0) ∧ w'.cell? ⟨w1.heap.size, 3, none⟩ = some (.slice Al a.g.length cl))
        (first | (with_reducible (go_split_ands; exact ⟨pw_cell_below hb (by assumption), pw_cell_below hb (by assumption), pw_cell_below hb (by assumption), pw_cell_below hb (by assumption), pw_cell_below hb (by assumption), pw_cell_below hb (by assumption), pw_cell_below hb (by assumption), pw_cell_below hb (by assumption), pw_cell_below hb (by assumption), pw_cell_below hb (by assumption), pw_cell_below hb (by assumption)⟩)) | (with_reducible (go_split_ands; exact ⟨pw_cell_below (below_alloc (Below.refl _ _) _) (by assumption), pw_cell_below (below_alloc (Below.refl _ _) _) (by assumption), pw_cell_below (below_alloc (Below.refl _ _) _) (by assumption), pw_cell_below (below_alloc (Below.refl _ _) _) (by assumption), pw_cell_below (below_alloc (Below.refl _ _) _) (by assumption), pw_cell_below (below_alloc (Below.refl _ _) _) (by assumption), pw_cell_below (below_alloc (Below.refl _ _) _) (by assumption), pw_cell_below (below_alloc (Below.refl _ _) _) (by assumption), pw_cell_below (below_alloc (Below.refl _ _) _) (by assumption), pw_cell_below (below_alloc (Below.refl _ _) _) (by assumption), pw_cell_below (below_alloc (Below.refl _ _) _) (by assumption)⟩)) | (with_reducible (go_split_ands; refine ⟨?_, ?_, ?_, ?_, ?_, ?_, ?_, ?_, ?_, ?_, ?_⟩ <;> assumption)) | (go_keep; done))
        (first
          | (go_simp; go_at_call 33; refine (Of_T a.u _).mono ?_; rintro e wz ⟨vz, rfl, hz, hb⟩; have HWn := Aside0.mk (below_step (by repeat (first | exact HWc.out | apply below_alloc | apply pw_below_drewN | apply below_drew)) hb); clear HWc; have HWc := HWn; clear HWn; obtain ⟨AU, cU, rfl, lU, CU⟩ := hz; have IU := Aside0.mk (fun W ok => isF_any (show IsT wz (.agg #[.int .i64 (ofT a.u).f0, .string (ofT a.u).f1, .int .i64 (ofT a.u).f2, .slice AU (ofT a.u).f3.length cU]) (ofT a.u) from ⟨AU, cU, rfl, lU, CU⟩) W ok); clear lU CU)
          | (go_simp; go_at_call 32; refine (Num_T a.o _).mono ?_; rintro e wz ⟨vz, rfl, hz, hb⟩; have HWn := Aside0.mk (below_step (by repeat (first | exact HWc.out | apply below_alloc | apply pw_below_drewN | apply below_drew)) hb); clear HWc; have HWc := HWn; clear HWn; obtain ⟨AO, cO, rfl, lO, CO⟩ := hz; have IO := Aside0.mk (fun W ok => isF_any (show IsT wz (.agg #[.int .i64 (numT a.o).f0, .string (numT a.o).f1, .int .i64 (numT a.o).f2, .slice AO (numT a.o).f3.length cO]) (numT a.o) from ⟨AO, cO, rfl, lO, CO⟩) W ok); clear lO CO)
          | (go_simp; go_at_call 34; refine (Row_F B d a.tr _ (by omega) h3 (Kd.C_below HR.out (BWR.out.trans (Below.mono (by repeat (first | exact HWc.out | apply below_alloc | apply pw_below_drewN | apply below_drew)) BWR.out.size)))).mono ?_; rintro e wz ⟨vz, rfl, hz, hb⟩; have hsz := HWc.out.size; have HWn := Aside0.mk (below_step (by repeat (first | exact HWc.out | apply below_alloc | apply pw_below_drewN | apply below_drew)) hb); clear HWc; have HWc := HWn; clear HWn; obtain ⟨Ar, cr, rfl, lr, Cr⟩ := hz; have IR := Aside0.mk (show IsF wz (fun k => w1.heap.size ≤ k) (.agg #[.int .i64 (rowT a.tr).f0, .string (rowT a.tr).f1, .int .i64 (rowT a.tr).f2, .slice Ar (rowT a.tr).f3.length cr]) (rowT a.tr) from IsF.mono ⟨Ar, cr, rfl, lr, Cr⟩ (fun k hk => by omega)); clear lr Cr)
          | (go_simp; go_at_call 33; refine (Of_T a.s _).mono ?_; rintro e wz ⟨vz, rfl, hz, hb⟩; have HWn := Aside0.mk (below_step (by repeat (first | exact HWc.out | apply below_alloc | apply pw_below_drewN | apply below_drew)) hb); clear HWc; have HWc := HWn; clear HWn; obtain ⟨AS, cS, rfl, lS, CS⟩ := hz; have IS := Aside0.mk (fun W ok => isF_any (show IsT wz (.agg #[.int .i64 (ofT a.s).f0, .string (ofT a.s).f1, .int .i64 (ofT a.s).f2, .slice AS (ofT a.s).f3.length cS]) (ofT a.s) from ⟨AS, cS, rfl, lS, CS⟩) W ok); clear lS CS; have IRn := Aside0.mk (IR.out.below (below_step (by repeat (first | exact Below.refl _ _ | apply below_alloc | apply pw_below_drewN | apply below_drew)) hb)); clear IR; have IR := IRn; clear IRn)
          | (go_simp; go_at_call 35; refine (HBIT.out _).mono ?_; rintro e wz ⟨rfl, hb⟩; have HWn := Aside0.mk (below_step (by repeat (first | exact HWc.out | apply below_alloc | apply pw_below_drewN | apply below_drew)) hb); clear HWc; have HWc := HWn; clear HWn; have IRn := Aside0.mk (IR.out.below (below_step (by repeat (first | exact Below.refl _ _ | apply below_alloc | apply pw_below_drewN | apply below_drew)) hb)); clear IR; have IR := IRn; clear IRn)
          | (go_simp; go_at_call 32; refine (Num_T (bitI a.fw) _).mono ?_; rintro e wz ⟨vz, rfl, hz, hb⟩; have HWn := Aside0.mk (below_step (by repeat (first | exact HWc.out | apply below_alloc | apply pw_below_drewN | apply below_drew)) hb); clear HWc; have HWc := HWn; clear HWn; obtain ⟨AB, cB, rfl, lB, CB⟩ := hz; have IB := Aside0.mk (fun W ok => isF_any (show IsT wz (.agg #[.int .i64 (numT (bitI a.fw)).f0, .string (numT (bitI a.fw)).f1, .int .i64 (numT (bitI a.fw)).f2, .slice AB (numT (bitI a.fw)).f3.length cB]) (numT (bitI a.fw)) from ⟨AB, cB, rfl, lB, CB⟩) W ok); clear lB CB; have IRn := Aside0.mk (IR.out.below (below_step (by repeat (first | exact Below.refl _ _ | apply below_alloc | apply pw_below_drewN | apply below_drew)) hb)); clear IR; have IR := IRn; clear IRn)
          | (go_simp; go_at_call 32; refine (Num_T a.tm _).mono ?_; rintro e wz ⟨vz, rfl, hz, hb⟩; have HWn := Aside0.mk (below_step (by repeat (first | exact HWc.out | apply below_alloc | apply pw_below_drewN | apply below_drew)) hb); clear HWc; have HWc := HWn; clear HWn; obtain ⟨AT, cT, rfl, lT, CT⟩ := hz; have IT := Aside0.mk (fun W ok => isF_any (show IsT wz (.agg #[.int .i64 (numT a.tm).f0, .string (numT a.tm).f1, .int .i64 (numT a.tm).f2, .slice AT (numT a.tm).f3.length cT]) (numT a.tm) from ⟨AT, cT, rfl, lT, CT⟩) W ok); clear lT CT; have IRn := Aside0.mk (IR.out.below (below_step (by repeat (first | exact Below.refl _ _ | apply below_alloc | apply pw_below_drewN | apply below_drew)) hb)); clear IR; have IR := IRn; clear IRn)
          | (go_simp; go_at_call 24; refine (List_F wz (fun k => w1.heap.size ≤ k) _ _ (dataL a) _ ?hn ?hb0 ?hL).mono ?_; (case hn => simp [dataL]); (case hb0 => exact below_alloc (Below.refl _ _) _); (case hL => exact lits_row _ _ [(.agg #[.int .i64 (ofT a.u).f0, .string (ofT a.u).f1, .int .i64 (ofT a.u).f2, .slice AU (ofT a.u).f3.length cU]), (.agg #[.int .i64 3, .string ⟨#[]⟩, .int .i64 0, .slice Al a.g.length cl]), (.agg #[.int .i64 (numT a.o).f0, .string (numT a.o).f1, .int .i64 (numT a.o).f2, .slice AO (numT a.o).f3.length cO]), (.agg #[.int .i64 (rowT a.tr).f0, .string (rowT a.tr).f1, .int .i64 (rowT a.tr).f2, .slice Ar (rowT a.tr).f3.length cr]), (.agg #[.int .i64 (ofT a.s).f0, .string (ofT a.s).f1, .int .i64 (ofT a.s).f2, .slice AS (ofT a.s).f3.length cS]), (.agg #[.int .i64 (numT (bitI a.fw)).f0, .string (numT (bitI a.fw)).f1, .int .i64 (numT (bitI a.fw)).f2, .slice AB (numT (bitI a.fw)).f3.length cB]), (.agg #[.int .i64 (numT a.tm).f0, .string (numT a.tm).f1, .int .i64 (numT a.tm).f2, .slice AT (numT a.tm).f3.length cT])] (dataL a) ⟨IU.out _ _, IG.out.below (by repeat (first | exact HWc.out | apply below_alloc | apply pw_below_drewN | apply below_drew)), IO.out _ _, IR.out, IS.out _ _, IB.out _ _, IT.out _ _, trivial⟩ (by simp [dataL])); rintro e wz ⟨vz, rfl, hz, hb⟩; have hsz := HWc.out.size; have HWn := Aside0.mk (below_step (by repeat (first | exact HWc.out | apply below_alloc | apply pw_below_drewN | apply below_drew)) hb); clear HWc; have HWc := HWn; clear HWn; obtain ⟨AZ, cZ, rfl, lZ, CZ⟩ := hz; have IZ := Aside0.mk (show IsF wz (fun k => w1.heap.size ≤ k) (.agg #[.int .i64 (dataA a).f0, .string (dataA a).f1, .int .i64 (dataA a).f2, .slice AZ (dataA a).f3.length cZ]) (dataA a) from IsF.mono ⟨AZ, cZ, rfl, lZ, CZ⟩ (fun k hk => by rcases hk with hk | hk; exact hk; rw [World.size_alloc] at hk; omega)); have hr9 := blk_below XRr.out HWc.out; have HR9 := Aside0.mk hr9; obtain ⟨hr0, hr1, hr2, hr3⟩ := box_cells hr9; have hrf0 := blk_frozen hr9 0; have hrf1 := blk_frozen hr9 1; have hrf2 := blk_frozen hr9 2; have hrf3 := blk_frozen hr9 3; clear hr9 lZ CZ))
      go_wp2_with fail
      refine bodyPost_ret (results_cell_row rfl _ _ (w.heap.size + 1) 29 #[.int .i64 3, .string (⟨#[]⟩ : ByteArray), .int .i64 0, .slice AZ (dataL a).length cZ] (0, 0) _ rfl (put4_block HR9.out) Tryd.underlying29 rfl (by kernel_rfl)) rfl ?_
      exact ⟨_, rfl, (IZ.out.step fun k hk _ => put4_other (by omega)).mono (fun k hk => by omega), put4_below (BWR.out.trans (HWc.out.mono BWR.out.size)) (by omega)⟩
end Go.Proofs.YtimommkbfbdkdaaDoor.P
namespace Go.Proofs.YtimommkbfbdkdaaDoor.P
open Go.RowKit Go.Proofs.YtimommkbfbdkdaaDoorW.PrintWords Go.Proofs.YtimommkbfbdkdaaDoorW.PrintLast Go.Proofs.YtimommkbfbdkdaaDoorW.PrintMore
set_option linter.unusedVariables false
set_option linter.unusedSimpArgs false

theorem cell_set4 {W : World} {g k o : Nat} {a b n v u : Value} (hk : k ≠ g) (h : W.cell? ⟨k, o, none⟩ = some u) : ((((W.setCell ⟨g, 0, none⟩ a).setCell ⟨g, 1, none⟩ b).setCell ⟨g, 2, none⟩ n).setCell ⟨g, 3, none⟩ v).cell? ⟨k, o, none⟩ = some u := by
  have f : ∀ (W : World) (j : Nat) (x : Value), (W.setCell ⟨g, j, none⟩ x).cell? ⟨k, o, none⟩ = W.cell? ⟨k, o, none⟩ := fun W j x => World.cell?_setCell_far W _ _ _ (fun e => hk e.symm)
  rw [f, f, f, f]
  exact h
theorem Sum_F {v1 v2 : Value} {t u : S29} {ok1 ok2 : Nat → Prop} (n : Int) (s : S29) (he : sumT t n u = s) (w : World) (h1 : IsF w ok1 v1 t) (h2 : IsF w ok2 v2 u) :
    Calls Tryd.prog 28 #[v1, .int .i64 n, v2] w fun e w' => ∃ v, e = .returned v ∧ IsF w' (fun k => (ok1 k ∨ ok2 k) ∨ w.heap.size ≤ k) v s ∧ Below w.heap.size w w' := by
  subst he
  obtain ⟨A, c, rfl, hl, hF⟩ := h1
  obtain ⟨B, d, rfl, hl2, hF2⟩ := h2
  cases t; cases u
  refine (term_Sum.calls _ _ _ ok1 A c _ n _ _ _ ok2 B d _ _ _ _ _ w (Kd.V_mk hl hF) (Kd.V_mk hl2 hF2) rfl).mono ?_
  rintro e w' ⟨v, rfl, hR, hb⟩
  obtain ⟨A5, c5, rfl⟩ := Kd.N_slice hR
  exact ⟨_, rfl, ⟨A5, c5, rfl, (Kd.N_reads' hR).2.1, Kd.N_F hR⟩, hb⟩

/-- A container built: its words, the server's sum, and the centre's. -/
def s1A (a : Au) (sv : S29) : S29 := sumT sv 18 (dataA a)
def s2A (a : Au) (sv ce : S29) : S29 := sumT ce 19 (s1A a sv)
def builtA (a : Au) (sv ce : S29) : S29 := listT [dataA a, s1A a sv, s2A a sv ce]
def canA (a : Au) (sv ce : S29) : Bool := validA a && (sv.f0 == 2 && ce.f0 == 2)
def buildA (a : Au) (sv ce : S29) : S29 := if canA a sv ce = true then builtA a sv ce else z29
def buildE (a : Au) (sv ce : S29) : Int := if canA a sv ce = true then 0 else 1

theorem four_boxes {w w1 : World} {o o2 o3 o4 : Obj} (hb : Below ((((w.alloc o).alloc o2).alloc o3).alloc o4).heap.size ((((w.alloc o).alloc o2).alloc o3).alloc o4) w1) :
    Below w.heap.size w w1 ∧ w.heap.size + 4 ≤ w1.heap.size ∧ w1.heap[w.heap.size]? = some o ∧ w1.heap[w.heap.size + 1]? = some o2 ∧ w1.heap[w.heap.size + 2]? = some o3 ∧ w1.heap[w.heap.size + 3]? = some o4 := by
  obtain ⟨h1, h2, h3, h4⟩ := two_boxes hb
  obtain ⟨k1, k2, k3, k4⟩ := two_boxes h1
  have s1 : ((w.alloc o).alloc o2).heap.size = w.heap.size + 2 := by simp
  rw [s1] at h2 h3 h4
  exact ⟨k1, by omega, k3, k4, h3, h4⟩

set_option maxHeartbeats 2000000 in
set_option maxRecDepth 100000 in
theorem Build_calls {a : Au} {sv ce : S29} {A : Option Addr} {c : Nat} {B : Option Addr} {d : Nat} {As : Option Addr} {cs : Nat} {Ac : Option Addr} {cc : Nat} {okS okC : Nat → Prop} (w : World) (hn : nA a ≤ 1000000000) (h : IsA w (.agg #[.string a.u, .slice A a.g.length c, .int .i64 a.o, .slice B a.tr.length d, .string a.s, .bool a.fw, .int .i64 a.tm]) a)
    (hs : IsF w okS (.agg #[.int .i64 sv.f0, .string sv.f1, .int .i64 sv.f2, .slice As sv.f3.length cs]) sv) (hc : IsF w okC (.agg #[.int .i64 ce.f0, .string ce.f1, .int .i64 ce.f2, .slice Ac ce.f3.length cc]) ce) (hS : ∀ k, okS k → k < w.heap.size) (hC : ∀ k, okC k → k < w.heap.size) :
    Calls Tryd.prog 10 #[(.agg #[.string a.u, .slice A a.g.length c, .int .i64 a.o, .slice B a.tr.length d, .string a.s, .bool a.fw, .int .i64 a.tm]), (.agg #[.int .i64 sv.f0, .string sv.f1, .int .i64 sv.f2, .slice As sv.f3.length cs]), (.agg #[.int .i64 ce.f0, .string ce.f1, .int .i64 ce.f2, .slice Ac ce.f3.length cc])] w fun e w' => ∃ v, e = .returned (.tuple #[v, .int .i64 (buildE a sv ce)]) ∧ IsF w' (fun k => (okS k ∨ okC k) ∨ w.heap.size + 4 ≤ k) v (buildA a sv ce) ∧ Below w.heap.size w w' := by
  have hu25 := Tryd.underlying25
  have hu29 := Tryd.underlying29
  have HA := Aside0.mk h
  have HS := Aside0.mk hs
  have HC := Aside0.mk hc
  clear h hs hc
  have HV : Aside0 (∀ W, Below w.heap.size w W → Calls Tryd.prog 15 #[(.agg #[.string a.u, .slice A a.g.length c, .int .i64 a.o, .slice B a.tr.length d, .string a.s, .bool a.fw, .int .i64 a.tm])] W fun e w' => e = .returned (.bool (validA a)) ∧ Below W.heap.size W w') := ⟨fun W hW => Valid_calls W hn (HA.out.below hW)⟩
  have HD : Aside0 (∀ W, Below w.heap.size w W → Calls Tryd.prog 13 #[(.agg #[.string a.u, .slice A a.g.length c, .int .i64 a.o, .slice B a.tr.length d, .string a.s, .bool a.fw, .int .i64 a.tm])] W fun e w' => ∃ v, e = .returned v ∧ IsF w' (fun k => W.heap.size ≤ k) v (dataA a) ∧ Below W.heap.size W w') := ⟨fun W hW => Data_F W hn (HA.out.below hW)⟩
  have HCAN : Aside0 (canA a sv ce = (validA a && (sv.f0 == 2 && ce.f0 == 2))) := ⟨rfl⟩
  have HBT : Aside0 (canA a sv ce = true → buildA a sv ce = builtA a sv ce ∧ buildE a sv ce = 0) := ⟨fun h => by unfold buildA buildE; rw [if_pos h, if_pos h]; exact ⟨rfl, rfl⟩⟩
  have HBF : Aside0 (canA a sv ce = false → buildA a sv ce = z29 ∧ buildE a sv ce = 1) := ⟨fun h => by unfold buildA buildE; rw [h]; exact ⟨rfl, rfl⟩⟩
  go_enter Tryd.func10, Tryd.ntmps10
  go_wp2_with fail
  refine (HV.out _ (by repeat (first | exact Below.refl _ _ | apply below_alloc))).mono ?_
  clear HV
  rintro e w1 ⟨rfl, b1⟩
  obtain ⟨p1, q1, ra, rs, rc, rr⟩ := four_boxes b1
  have B1 := Aside0.mk p1
  have XA := Aside0.mk ra
  have XS := Aside0.mk rs
  have XC := Aside0.mk rc
  have XR := Aside0.mk rr
  clear b1 p1 ra rs rc rr
  obtain ⟨ha0, ha1, ha2, ha3, ha4, ha5, ha6⟩ := boxA_cells XA.out
  obtain ⟨hs0, hs1, hs2, hs3⟩ := box_cells XS.out
  obtain ⟨hc0, hc1, hc2, hc3⟩ := box_cells XC.out
  obtain ⟨hr0, hr1, hr2, hr3⟩ := box_cells XR.out
  have hrf0 := blk_frozen XR.out 0
  have hrf1 := blk_frozen XR.out 1
  have hrf2 := blk_frozen XR.out 2
  have hrf3 := blk_frozen XR.out 3
  have fin0 : canA a sv ce = false → ∃ v, Ending.returned (.tuple #[.agg #[.int .i64 0, .string ⟨#[]⟩, .int .i64 0, .slice none 0 0], .int .i64 1]) = .returned (.tuple #[v, .int .i64 (buildE a sv ce)]) ∧ IsF (put4 w1 (w.heap.size + 3) (.int .i64 0) (.string ⟨#[]⟩) (.int .i64 0) (.slice none 0 0)) (fun k => (okS k ∨ okC k) ∨ w.heap.size + 4 ≤ k) v (buildA a sv ce) ∧ Below w.heap.size w (put4 w1 (w.heap.size + 3) (.int .i64 0) (.string ⟨#[]⟩) (.int .i64 0) (.slice none 0 0)) := fun h => by
    obtain ⟨e1, e2⟩ := HBF.out h
    rw [e1, e2]
    exact ⟨_, rfl, ⟨none, 0, rfl, Nat.le_refl _, F_nil0 _ _ _⟩, put4_below B1.out (by omega)⟩
  have FIN0 := Aside0.mk fin0
  clear fin0
  cases e1 : validA a with
  | false =>
    have hcan : canA a sv ce = false := by rw [HCAN.out, e1]; rfl
    go_wp2_with fail
    refine bodyPost_ret (results_ct rfl _ _ (w.heap.size + 3) 29 #[.int .i64 0, .string (⟨#[]⟩ : ByteArray), .int .i64 0, .slice none 0 0] (0, 0) _ rfl (put4_block XR.out) Tryd.underlying29 rfl (by kernel_rfl)) rfl ?_
    exact FIN0.out hcan
  | true =>
  cases e2 : (sv.f0 == 2) with
  | false =>
    have hcan : canA a sv ce = false := by rw [HCAN.out, e1, e2]; rfl
    have e2' : (sv.f0 != 2) = true := by rw [bne, e2]; rfl
    go_wp2_with fail
    refine bodyPost_ret (results_ct rfl _ _ (w.heap.size + 3) 29 #[.int .i64 0, .string (⟨#[]⟩ : ByteArray), .int .i64 0, .slice none 0 0] (0, 0) _ rfl (put4_block XR.out) Tryd.underlying29 rfl (by kernel_rfl)) rfl ?_
    exact FIN0.out hcan
  | true =>
  have e2' : (sv.f0 != 2) = false := by rw [bne, e2]; rfl
  cases e3 : (ce.f0 == 2) with
  | false =>
    have hcan : canA a sv ce = false := by rw [HCAN.out, e1, e2, e3]; rfl
    have e3' : (ce.f0 != 2) = true := by rw [bne, e3]; rfl
    go_wp2_with fail
    refine bodyPost_ret (results_ct rfl _ _ (w.heap.size + 3) 29 #[.int .i64 0, .string (⟨#[]⟩ : ByteArray), .int .i64 0, .slice none 0 0] (0, 0) _ rfl (put4_block XR.out) Tryd.underlying29 rfl (by kernel_rfl)) rfl ?_
    exact FIN0.out hcan
  | true =>
  have e3' : (ce.f0 != 2) = false := by rw [bne, e3]; rfl
  have hcan : canA a sv ce = true := by rw [HCAN.out, e1, e2, e3]; rfl
  have HCN := Aside0.mk hcan
  clear hcan FIN0
  go_wp2_with fail
  refine (HD.out _ B1.out).mono ?_
  clear HD ha0 ha1 ha2 ha3 ha4 ha5 ha6 hs0 hs1 hs2 hs3 hc0 hc1 hc2 hc3 hr0 hr1 hr2 hr3 hrf0 hrf1 hrf2 hrf3
  rintro e w2 ⟨v2, rfl, h2, b2⟩
  obtain ⟨A2, c2, rfl, l2, F2⟩ := h2
  have I2 := Aside0.mk (show IsF w2 (fun k => w1.heap.size ≤ k) (.agg #[.int .i64 (dataA a).f0, .string (dataA a).f1, .int .i64 (dataA a).f2, .slice A2 (dataA a).f3.length c2]) (dataA a) from ⟨A2, c2, rfl, l2, F2⟩)
  have B2 := Aside0.mk (B1.out.trans (b2.mono B1.out.size))
  have XS2 := Aside0.mk (blk_below XS.out b2)
  have XC2 := Aside0.mk (blk_below XC.out b2)
  have XR2 := Aside0.mk (blk_below XR.out b2)
  have z2 := b2.size
  clear l2 F2 b2 XA XS XC XR B1
  obtain ⟨hs0, hs1, hs2, hs3⟩ := box_cells (blk_alloc XS2.out (.cells #[.int .i64 (dataA a).f0, .string (dataA a).f1, .int .i64 (dataA a).f2, .slice A2 (dataA a).f3.length c2] 29))
  have SV2 : Aside0 (IsF (w2.alloc (.cells #[.int .i64 (dataA a).f0, .string (dataA a).f1, .int .i64 (dataA a).f2, .slice A2 (dataA a).f3.length c2] 29)) okS (.agg #[.int .i64 sv.f0, .string sv.f1, .int .i64 sv.f2, .slice As sv.f3.length cs]) sv) := ⟨HS.out.below (below_alloc B2.out _)⟩
  have I2' : Aside0 (IsF (w2.alloc (.cells #[.int .i64 (dataA a).f0, .string (dataA a).f1, .int .i64 (dataA a).f2, .slice A2 (dataA a).f3.length c2] 29)) (fun k => w1.heap.size ≤ k) (.agg #[.int .i64 (dataA a).f0, .string (dataA a).f1, .int .i64 (dataA a).f2, .slice A2 (dataA a).f3.length c2]) (dataA a)) := ⟨I2.out.below (below_alloc (Below.refl _ _) _)⟩
  go_wp2_with fail
  refine (Sum_F 18 (s1A a sv) rfl _ SV2.out I2'.out).mono ?_
  clear hs0 hs1 hs2 hs3 SV2 I2'
  rintro e w3 ⟨v3, rfl, h3, b3⟩
  obtain ⟨A3, c3, rfl, l3, F3⟩ := h3
  obtain ⟨p3, q3, xd⟩ := one_box b3
  have OK0 : Aside0 (∀ k, ((okS k ∨ w1.heap.size ≤ k) ∨ (w2.alloc (.cells #[.int .i64 (dataA a).f0, .string (dataA a).f1, .int .i64 (dataA a).f2, .slice A2 (dataA a).f3.length c2] 29)).heap.size ≤ k) → ((okS k ∨ okC k) ∨ w1.heap.size ≤ k)) := ⟨fun k hk => by rcases hk with (hk | hk) | hk; exact .inl (.inl hk); exact .inr hk; rw [World.size_alloc] at hk; exact .inr (by omega)⟩
  have I3 := Aside0.mk (show IsF w3 (fun k => (okS k ∨ okC k) ∨ w1.heap.size ≤ k) (.agg #[.int .i64 (s1A a sv).f0, .string (s1A a sv).f1, .int .i64 (s1A a sv).f2, .slice A3 (s1A a sv).f3.length c3]) (s1A a sv) from IsF.mono ⟨A3, c3, rfl, l3, F3⟩ OK0.out)
  have I3d := Aside0.mk (I2.out.below p3)
  have B3 := Aside0.mk (B2.out.trans (p3.mono B2.out.size))
  have XD3 := Aside0.mk xd
  have XC3 := Aside0.mk (blk_below XC2.out p3)
  have XR3 := Aside0.mk (blk_below XR2.out p3)
  have z3 := p3.size
  clear b3 p3 xd l3 F3 I2 B2 XS2 XC2 XR2 OK0
  go_wp2_with fail
  obtain ⟨w4, hw4⟩ : ∃ w4, w4 = w3.alloc (.cells #[.int .i64 (s1A a sv).f0, .string (s1A a sv).f1, .int .i64 (s1A a sv).f2, .slice A3 (s1A a sv).f3.length c3] 29) := ⟨_, rfl⟩
  have b4 : Below w3.heap.size w3 w4 := hw4 ▸ below_alloc (Below.refl _ _) _
  have B4 := Aside0.mk (B3.out.trans (b4.mono B3.out.size))
  have XD4 := Aside0.mk (blk_below XD3.out b4)
  have XC4 := Aside0.mk (blk_below XC3.out b4)
  have XR4 := Aside0.mk (blk_below XR3.out b4)
  have XN4 : Aside0 (w4.heap[w3.heap.size]? = some (.cells #[.int .i64 (s1A a sv).f0, .string (s1A a sv).f1, .int .i64 (s1A a sv).f2, .slice A3 (s1A a sv).f3.length c3] 29)) := ⟨hw4 ▸ box_new w3 _⟩
  have I4 := Aside0.mk (I3.out.below b4)
  have I4d : Aside0 (IsF w4 (fun k => (okS k ∨ okC k) ∨ w1.heap.size ≤ k) (.agg #[.int .i64 (dataA a).f0, .string (dataA a).f1, .int .i64 (dataA a).f2, .slice A2 (dataA a).f3.length c2]) (dataA a)) := ⟨(I3d.out.below b4).mono fun k hk => .inr hk⟩
  have I4c : Aside0 (IsF w4 okC (.agg #[.int .i64 ce.f0, .string ce.f1, .int .i64 ce.f2, .slice Ac ce.f3.length cc]) ce) := ⟨HC.out.below B4.out⟩
  have z4 := b4.size
  rw [← hw4]
  clear hw4 b4 B3 XD3 XC3 XR3 I3 I3d HS HC
  obtain ⟨hd0, hd1, hd2, hd3⟩ := box_cells XD4.out
  obtain ⟨hn0, hn1, hn2, hn3⟩ := box_cells XN4.out
  obtain ⟨hc0, hc1, hc2, hc3⟩ := box_cells XC4.out
  have hne1 : ¬ w2.heap.size = w.heap.size + 1 + 1 + 1 := by omega
  have hne2 : ¬ w3.heap.size = w.heap.size + 1 + 1 + 1 := by omega
  have HWc : Aside0 (Below w4.heap.size w4 w4) := ⟨Below.refl _ _⟩
  go_region_held3 (fun w' => w'.cell? ⟨w2.heap.size, 0, none⟩ = some (.int .i64 (dataA a).f0) ∧ w'.cell? ⟨w2.heap.size, 1, none⟩ = some (.string (dataA a).f1) ∧ w'.cell? ⟨w2.heap.size, 2, none⟩ = some (.int .i64 (dataA a).f2) ∧ w'.cell? ⟨w2.heap.size, 3, none⟩ = some (.slice A2 (dataA a).f3.length c2) ∧ w'.cell? ⟨w3.heap.size, 0, none⟩ = some (.int .i64 (s1A a sv).f0) ∧ w'.cell? ⟨w3.heap.size, 1, none⟩ = some (.string (s1A a sv).f1) ∧ w'.cell? ⟨w3.heap.size, 2, none⟩ = some (.int .i64 (s1A a sv).f2) ∧ w'.cell? ⟨w3.heap.size, 3, none⟩ = some (.slice A3 (s1A a sv).f3.length c3) ∧ w'.cell? ⟨w.heap.size + 2, 0, none⟩ = some (.int .i64 ce.f0) ∧ w'.cell? ⟨w.heap.size + 2, 1, none⟩ = some (.string ce.f1) ∧ w'.cell? ⟨w.heap.size + 2, 2, none⟩ = some (.int .i64 ce.f2) ∧ w'.cell? ⟨w.heap.size + 2, 3, none⟩ = some (.slice Ac ce.f3.length cc))
    (first | (with_reducible (go_split_ands; exact ⟨pw_cell_below hb (by assumption), pw_cell_below hb (by assumption), pw_cell_below hb (by assumption), pw_cell_below hb (by assumption), pw_cell_below hb (by assumption), pw_cell_below hb (by assumption), pw_cell_below hb (by assumption), pw_cell_below hb (by assumption), pw_cell_below hb (by assumption), pw_cell_below hb (by assumption), pw_cell_below hb (by assumption), pw_cell_below hb (by assumption)⟩)) | (with_reducible (go_split_ands; exact ⟨pw_cell_below (below_alloc (Below.refl _ _) _) (by assumption), pw_cell_below (below_alloc (Below.refl _ _) _) (by assumption), pw_cell_below (below_alloc (Below.refl _ _) _) (by assumption), pw_cell_below (below_alloc (Below.refl _ _) _) (by assumption), pw_cell_below (below_alloc (Below.refl _ _) _) (by assumption), pw_cell_below (below_alloc (Below.refl _ _) _) (by assumption), pw_cell_below (below_alloc (Below.refl _ _) _) (by assumption), pw_cell_below (below_alloc (Below.refl _ _) _) (by assumption), pw_cell_below (below_alloc (Below.refl _ _) _) (by assumption), pw_cell_below (below_alloc (Below.refl _ _) _) (by assumption), pw_cell_below (below_alloc (Below.refl _ _) _) (by assumption), pw_cell_below (below_alloc (Below.refl _ _) _) (by assumption)⟩)) | (with_reducible (go_split_ands; refine ⟨?_, ?_, ?_, ?_, ?_, ?_, ?_, ?_, ?_, ?_, ?_, ?_⟩ <;> assumption)) | (go_keep; done) | (go_split_ands; refine ⟨?_, ?_, ?_, ?_, ?_, ?_, ?_, ?_, ?_, ?_, ?_, ?_⟩ <;> exact cell_set4 (by omega) (by assumption)))
    (first
      | (go_simp; go_at_call 28; refine (Sum_F 19 (s2A a sv ce) rfl _ (I4c.out.below (by repeat (first | exact HWc.out | apply below_alloc | apply pw_below_drewN | apply below_drew))) (I4.out.below (by repeat (first | exact HWc.out | apply below_alloc | apply pw_below_drewN | apply below_drew)))).mono ?_; rintro e wz ⟨vz, rfl, hz, hb⟩; have hsz := HWc.out.size; have HWn := Aside0.mk (below_step (by repeat (first | exact HWc.out | apply below_alloc | apply pw_below_drewN | apply below_drew)) hb); clear HWc; have HWc := HWn; clear HWn; obtain ⟨A5, c5, rfl, l5, F5⟩ := hz; have I5 := Aside0.mk (show IsF wz (fun k => (okS k ∨ okC k) ∨ w1.heap.size ≤ k) (.agg #[.int .i64 (s2A a sv ce).f0, .string (s2A a sv ce).f1, .int .i64 (s2A a sv ce).f2, .slice A5 (s2A a sv ce).f3.length c5]) (s2A a sv ce) from IsF.mono ⟨A5, c5, rfl, l5, F5⟩ (fun k hk => by rcases hk with (hk | hk) | hk; exact .inl (.inr hk); exact hk; exact .inr (by have hk2 : w4.heap.size ≤ k := hk; omega))); clear l5 F5)
      | (go_simp; go_at_call 24; refine (List_F wz (fun k => (okS k ∨ okC k) ∨ w1.heap.size ≤ k) _ _ [dataA a, s1A a sv, s2A a sv ce] _ ?hn ?hb0 ?hL).mono ?_; (case hn => simp); (case hb0 => exact below_alloc (Below.refl _ _) _); (case hL => exact lits_row _ _ [(.agg #[.int .i64 (dataA a).f0, .string (dataA a).f1, .int .i64 (dataA a).f2, .slice A2 (dataA a).f3.length c2]), (.agg #[.int .i64 (s1A a sv).f0, .string (s1A a sv).f1, .int .i64 (s1A a sv).f2, .slice A3 (s1A a sv).f3.length c3]), (.agg #[.int .i64 (s2A a sv ce).f0, .string (s2A a sv ce).f1, .int .i64 (s2A a sv ce).f2, .slice A5 (s2A a sv ce).f3.length c5])] [dataA a, s1A a sv, s2A a sv ce] ⟨I4d.out.below HWc.out, I4.out.below HWc.out, I5.out, trivial⟩ (by simp)); rintro e wz ⟨vz, rfl, hz, hb⟩; have hsz := HWc.out.size; have HWn := Aside0.mk (below_step (by repeat (first | exact HWc.out | apply below_alloc | apply pw_below_drewN | apply below_drew)) hb); clear HWc; have HWc := HWn; clear HWn; obtain ⟨AZ, cZ, rfl, lZ, CZ⟩ := hz; have IZ := Aside0.mk (show IsF wz (fun k => (okS k ∨ okC k) ∨ w1.heap.size ≤ k) (.agg #[.int .i64 3, .string ⟨#[]⟩, .int .i64 0, .slice AZ 3 cZ]) (builtA a sv ce) from IsF.mono ⟨AZ, cZ, rfl, lZ, CZ⟩ (fun k hk => by rcases hk with hk | hk; exact hk; rw [World.size_alloc] at hk; exact .inr (by omega))); have hr9 := blk_below XR4.out HWc.out; have HR9 := Aside0.mk hr9; obtain ⟨hr0, hr1, hr2, hr3⟩ := box_cells hr9; have hrf0 := blk_frozen hr9 0; have hrf1 := blk_frozen hr9 1; have hrf2 := blk_frozen hr9 2; have hrf3 := blk_frozen hr9 3; clear hr9 lZ CZ))
  go_wp2_with fail
  refine bodyPost_ret (results_ct rfl _ _ (w.heap.size + 3) 29 #[.int .i64 3, .string (⟨#[]⟩ : ByteArray), .int .i64 0, .slice AZ 3 cZ] (0, 0) _ rfl (put4_block HR9.out) Tryd.underlying29 rfl (by kernel_rfl)) rfl ?_
  obtain ⟨e4, e5⟩ := HBT.out HCN.out
  rw [e4, e5]
  exact ⟨_, rfl, (IZ.out.step fun k hk _ => put4_other (by rcases hk with (hk | hk) | hk; have := hS k hk; omega; have := hC k hk; omega; omega)).mono (fun k hk => by rcases hk with hk | hk; exact .inl hk; exact .inr (by omega)), put4_below (B4.out.trans (HWc.out.mono B4.out.size)) (by omega)⟩
end Go.Proofs.YtimommkbfbdkdaaDoor.P
