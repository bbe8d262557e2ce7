/- Part 4: texts of this seat, merged and struck of what the proof does not reach: PAw Px4 Px7 PAv PAx -/
import Derived.Test.YtimommkbfbdkdaaDoorQA3
import Derived.IntWalk
section
namespace Go.Proofs.YtimommkbfbdkdaaDoor.P
open Go.RowKit Go.Proofs.YtimommkbfbdkdaaDoorW.PrintWords Go.Proofs.YtimommkbfbdkdaaDoorW.PrintLast Go.Proofs.YtimommkbfbdkdaaDoorW.PrintMore
set_option linter.unusedVariables false
set_option linter.unusedSimpArgs false
theorem List8_calls (w : World) (A : Option Addr) (n c : Nat) : Calls Tryd.prog 30 #[.slice A n c] w fun e w' => e = .returned (.agg #[.int .i64 3, .string ⟨#[]⟩, .int .i64 0, .slice A n c]) ∧ Below w.heap.size w w' := by
  have hu29 := Tryd.underlying29
  go_enter Tryd.func30, Tryd.ntmps30
  go_wp2_with fail
  refine bodyPost_ret (results_cell_row rfl _ _ w.heap.size 29 #[.int .i64 3, .string (⟨#[]⟩ : ByteArray), .int .i64 0, .slice A n c] (0, 0) _ rfl (box_new w _) Tryd.underlying29 rfl (by kernel_rfl)) rfl ?_
  exact ⟨rfl, below_alloc (Below.refl _ _) _⟩
theorem Num8_T (n : Int) (w : World) : T_ 36 #[.int .i64 n] w (numT n) :=
  (legateref08_Num.calls n _ _ _ _ w rfl).mono fun _ _ ⟨v, he, hR, hb⟩ => ⟨_, he, .mk (isL_R hR), hb⟩
theorem Of8_T (s : ByteArray) (w : World) : T_ 37 #[.string s] w (ofT s) :=
  (legateref08_Of.calls s _ _ _ _ w rfl).mono fun _ _ ⟨v, he, hR, hb⟩ => ⟨_, he, .mk (isL_R hR), hb⟩
theorem row8_some (l : List ByteArray) (hn : l.length ≤ 1000000000) : legateref08_Row.f (l.length + 2) l = some (3, ⟨#[]⟩, 0, l.map ofT) := by
  have key : ∀ (j i k : Nat), l.length - i = j → i ≤ l.length → j + 1 ≤ k → legateref08_Row.l0 k l i 3 ⟨#[]⟩ 0 ((l.take i).map ofT) = some (3, ⟨#[]⟩, 0, l.map ofT) := by
    intro j
    induction j with
    | zero =>
      intro i k hj hi hk
      obtain rfl : i = l.length := by omega
      obtain ⟨k, rfl⟩ : ∃ k', k = k' + 1 := ⟨k - 1, by omega⟩
      rw [legateref08_Row.l0, if_neg (by omega), List.take_length]
    | succ j ih =>
      intro i k hj hi hk
      have hlt : i < l.length := by omega
      obtain ⟨k, rfl⟩ : ∃ k', k = k' + 1 := ⟨k - 1, by omega⟩
      rw [legateref08_Row.l0, if_pos (by omega), if_pos (by omega)]
      have hr : rdOf ByteArray.empty l (i : Int) = l[i] := by
        unfold rdOf
        rw [Int.toNat_natCast, List.getD_eq_getElem?_getD, List.getElem?_eq_getElem hlt]; rfl
      have ho : legateref08_Of.f l[i] = some (0, l[i], 0, []) := rfl
      rw [hr, ho, Option.bind_some, if_pos (by rw [List.length_map, List.length_take]; omega), IntWalk.wrap64_in _ (by omega)]
      have := ih (i + 1) k (by omega) (by omega) (by omega)
      rw [List.take_succ_eq_append_getElem hlt, List.map_append] at this
      rw [show (((i + 1 : Nat)) : Int) = (i : Int) + 1 from by omega] at this
      exact this
  exact key l.length 0 _ (by omega) (by omega) (by omega)
theorem Row8_F (A : Option Addr) (c : Nat) (l : List ByteArray) (w : World) (hn : l.length ≤ 1000000000) (hl : l.length ≤ c) (hC : Kd.C Kd.string w A l.length l) :
    Calls Tryd.prog 38 #[.slice A l.length c] w fun e w' => ∃ v, e = .returned v ∧ IsF w' (fun k => w.heap.size ≤ k) v (rowT l) ∧ Below w.heap.size w w' := by
  refine (legateref08_Row.calls _ A c l _ _ _ _ w hC hl (row8_some l hn)).mono ?_
  rintro e w' ⟨v, rfl, hR, hb⟩
  obtain ⟨A5, c5, rfl⟩ := Kd.R_slice hR
  have hR' := Kd.R_mono (Kd.R_bound hR) (ok' := fun k => w.heap.size ≤ k) fun k hk => hk.2.1
  exact ⟨_, rfl, ⟨A5, c5, rfl, (Kd.R_reads' hR).2.1, Kd.R_F hR'⟩, hb⟩
theorem allF_mono {w : World} {ok ok' : Nat → Prop} : ∀ {vs : List Value} {ts : List S29}, AllF w ok vs ts → (∀ k, ok k → ok' k) → AllF w ok' vs ts
  | [], [], _, _ => trivial
  | [], _ :: _, h, _ => h.elim
  | _ :: _, [], h, _ => h.elim
  | v :: vs, t :: ts, h, hk => ⟨h.1.mono hk, allF_mono h.2 hk⟩
theorem lits_F (w0 w : World) (ok : Nat → Prop) (vs : List Value) (ts : List S29) (h : AllF w0 ok vs ts) (hm : ts.length ≤ 1000) (hb : Below w0.heap.size w0 w) :
    IsF (w.alloc (.cells (vs.flatMap cellsOf4).toArray 29)) (fun k => ok k ∨ k = w.heap.size) (.agg #[.int .i64 3, .string ⟨#[]⟩, .int .i64 0, .slice (some ⟨w.heap.size, 0, none⟩) ts.length ts.length]) (listT ts) := by
  have hR := lits_Reps w0 ok vs ts h
  have hh : Kd.R (kF w0 fun k => ok k ∨ k = w.heap.size) 29 (w.alloc (.cells (vs.flatMap cellsOf4).toArray 29)) w.heap.size (fun k => ok k ∨ k = w.heap.size) (.slice (some ⟨w.heap.size, 0, none⟩) ts.length ts.length) ts :=
    ⟨fun k hk => .inr (by cases hk; rfl), vs.flatMap cellsOf4, World.ownsRow_lit (base := w.heap.size) (e := 29) (size := 4) w _ ts.length (Nat.le_refl _) (by simp [maxLen]; omega) (by simp [hR.1]), lits_Reps w0 _ vs ts (allF_mono h fun k hk => .inl hk)⟩
  have hsz := hb.size
  obtain ⟨h1, h2⟩ := F_of_rel hh (Nat.le_refl _) (fun _ _ _ => rfl) (by rw [World.size_alloc]; omega) (fun k _ hlt => ((hb.alloc hb.size _).block k hlt))
  exact ⟨_, _, rfl, h1, h2⟩
set_option maxHeartbeats 8000000 in
set_option maxRecDepth 100000 in
theorem Data8_F {v : Value} {a : Au} (w : World) (hn : nA a ≤ 1000000000) (h : IsA w v a) :
    Calls Tryd.prog 14 #[v] w fun e w' => ∃ v, e = .returned v ∧ IsF w' (fun k => w.heap.size + 2 ≤ k) v (dataA a) ∧ Below w.heap.size w w' := by
  obtain ⟨A, c, B, d, rfl, h1, h2, h3, h4⟩ := h
  have hu25 := Tryd.underlying25
  have hu29 := Tryd.underlying29
  unfold nA at hn
  have hts := nS_len a.tr
  have HG := Aside0.mk h2
  have HR := Aside0.mk h4
  clear h2 h4
  go_enter Tryd.func14, Tryd.ntmps14
  go_wp2_with fail
  obtain ⟨w1, hw1⟩ : ∃ w1, w1 = ((w.alloc (.cells #[.string a.u, .slice A a.g.length c, .int .i64 a.o, .slice B a.tr.length d, .string a.s, .bool a.fw, .int .i64 a.tm] 25)).alloc (.cells #[.int .i64 0, .string ⟨#[]⟩, .int .i64 0, .slice none 0 0] 29)) := ⟨_, rfl⟩
  obtain ⟨p1, _, ra, rr⟩ := two_boxes (show Below ((w.alloc (.cells #[.string a.u, .slice A a.g.length c, .int .i64 a.o, .slice B a.tr.length d, .string a.s, .bool a.fw, .int .i64 a.tm] 25)).alloc (.cells #[.int .i64 0, .string ⟨#[]⟩, .int .i64 0, .slice none 0 0] 29)).heap.size ((w.alloc (.cells #[.string a.u, .slice A a.g.length c, .int .i64 a.o, .slice B a.tr.length d, .string a.s, .bool a.fw, .int .i64 a.tm] 25)).alloc (.cells #[.int .i64 0, .string ⟨#[]⟩, .int .i64 0, .slice none 0 0] 29)) w1 from hw1 ▸ Below.refl _ _)
  have z1 : w1.heap.size = w.heap.size + 2 := by rw [hw1]; simp
  rw [← hw1]
  have B1 := Aside0.mk p1
  have XA := Aside0.mk ra
  have XR := Aside0.mk rr
  clear hw1 p1 ra rr
  go_loopg [3, 4] a.g.length (fun gg s3 s4 wr => ∃ (kk : Nat) (Al : Option Addr) (cl : Nat), kk ≤ a.g.length ∧ a.g.length - kk ≤ gg ∧ s3 = .slice Al kk cl ∧ s4 = .int .i64 kk ∧ Aside0 (Below w1.heap.size w1 wr) ∧
    Aside0 (Kd.R (kF w (fun k => w1.heap.size ≤ k)) 29 wr w1.heap.size (fun _ => True) (.slice Al kk cl) ((a.g.take kk).map numT)))
  case atStart => exact ⟨0, none, 0, by omega, by omega, rfl, rfl, ⟨Below.refl _ _⟩, ⟨Kd.R_nil _ _ _ _ _⟩⟩
  case round =>
    obtain ⟨kk, Al, cl, hkk, hg, rfl, rfl, BW, RL⟩ := hrel
    have XA2 := Aside0.mk (blk_below XA.out BW.out)
    obtain ⟨ha0, ha1, ha2, ha3, ha4, ha5, ha6⟩ := boxA_cells XA2.out
    by_cases hlt : kk < a.g.length
    · obtain ⟨ad, e1, hx0⟩ := Kd.at_int HG.out (kk : Int) (by omega) (by omega)
      cases e1
      replace hx0 := ((B1.out.trans (BW.out.mono B1.out.size)).cell (World.block_lt_of_cell? w _ hx0)).trans hx0
      have B2 : Aside0 (rd a.g (kk : Int) = a.g[kk]) := ⟨by simp [rd, List.getD_eq_getElem?_getD, List.getElem?_eq_getElem hlt]⟩
      obtain ⟨x, hx⟩ : ∃ x, x = rd a.g (kk : Int) := ⟨_, rfl⟩
      rw [← hx] at hx0 B2
      clear hx
      simp only [Int.toNat_natCast] at hx0
      have hin : (kk : Int) < a.g.length := by omega
      have hlen0 : ((a.g.take kk).map numT).length = kk := by simp; omega
      have HLn := Aside0.mk hlen0
      clear hlen0
      go_wp2_with fail
      refine (Num8_T x _).mono ?_
      rintro e w2 ⟨vz, rfl, hz, hb⟩
      obtain ⟨An, cn, rfl, ln, Cn⟩ := hz
      have IN := Aside0.mk (k29_mkF (A3 := An) w (fun k => w1.heap.size ≤ k) (numT x) ln (F_nil0 _ _ _))
      have BW2 := Aside0.mk (BW.out.trans (hb.mono BW.out.size))
      have RL2 := Aside0.mk (Kd.R_below RL.out hb)
      have hsz2 := BW2.out.size
      clear BW RL hb ln Cn ha0 ha1 ha2 ha3 ha4 ha5 ha6 XA2 hx0
      go_wp2_with (at_builtin; refine Kd.R_append (kF w (fun k => w1.heap.size ≤ k)) (w0 := w1) w1.heap.size rfl (.tmp 13) (.tmp 20) 27 29 (.agg #[(.int .i64 0), (.string ⟨#[]⟩), (.int .i64 0), (.slice none 0 0)]) 56 rfl Tryd.underlying27 info29 rfl (show 0 < 4 from by decide) (by decide) (.slice Al kk cl) ((a.g.take kk).map numT) (numT x) [.int .i64 1, .string ⟨#[]⟩, .int .i64 x, .slice An 0 cn] (fun _ => True) (fun _ => False) rfl rfl IN.out (fun _ hk => hk.elim) (fun _ _ => trivial) ?HO ?HB ?hbs ?hl ?_; (case HO => exact RL2.out); (case HB => exact BW2.out); (case hbs => omega); (case hl => rw [HLn.out]; omega); intro v1 w6 ho hb6 hg6 hat; have HO := Aside0.mk ho; have HB6 := Aside0.mk hb6; clear ho hb6 hg6 hat; obtain ⟨A7, c7, rfl⟩ := Kd.R_slice HO.out)
      have hlen : ((a.g.take kk).map numT ++ [numT x]).length = kk + 1 := by rw [List.length_append, HLn.out]; rfl
      have htk : (a.g.take kk).map numT ++ [numT x] = (a.g.take (kk + 1)).map numT := by rw [List.take_succ_eq_append_getElem hlt, List.map_append, B2.out]; rfl
      go_roundg (a.g.length - (kk + 1))
      case measure => omega
      case rel =>
        refine ⟨kk + 1, A7, c7, by omega, by omega, by first | rfl | rw [hlen], by go_num, HB6, ⟨?_⟩⟩
        have h := HO.out
        rw [hlen, htk] at h
        exact h
    · obtain rfl : kk = a.g.length := by omega
      have BWR := Aside0.mk (B1.out.trans (BW.out.mono B1.out.size))
      have XAr := XA2
      have XRr := Aside0.mk (blk_below XR.out BW.out)
      have hws := BW.out.size
      have IG : Aside0 (IsF wr (fun k => w1.heap.size ≤ k) (.agg #[.int .i64 3, .string ⟨#[]⟩, .int .i64 0, .slice Al a.g.length cl]) (listT (a.g.map numT))) := ⟨by
        have h := RL.out
        rw [List.take_length] at h
        have hl : a.g.length = (a.g.map numT).length := by simp
        rw [hl] at h
        obtain ⟨k1, k2⟩ := F_of_rel (Kd.R_mono (Kd.R_bound h) (ok' := fun k => w1.heap.size ≤ k) fun k hk => hk.2.1) (Nat.le_refl _) (fun _ _ _ => rfl) BWR.out.size (fun k _ hlt => BWR.out.block k hlt)
        exact ⟨Al, cl, by simp [listT], k1, k2⟩⟩
      have hne1 : ¬ w.heap.size = w.heap.size + 1 := by omega
      have HWc : Aside0 (Below wr.heap.size wr wr) := ⟨Below.refl _ _⟩
      clear B1 XA XR RL XA2
      cases hfw : a.fw with
      | false =>
        rw [hfw] at ha5
        have hfi : bitI a.fw = 0 := by rw [hfw]; rfl
        have HDA : Aside0 (dataA a = listT [ofT a.u, listT (a.g.map numT), numT a.o, rowT a.tr, ofT a.s, numT 0, numT a.tm]) := ⟨by rw [← hfi]; rfl⟩
        clear hfi
        go_wp2_with fail
        go_region_held3 (fun w' => w'.cell? ⟨w.heap.size, 0, none⟩ = some (.string a.u) ∧ w'.cell? ⟨w.heap.size, 1, none⟩ = some (.slice A a.g.length c) ∧ w'.cell? ⟨w.heap.size, 2, none⟩ = some (.int .i64 a.o) ∧ w'.cell? ⟨w.heap.size, 3, none⟩ = some (.slice B a.tr.length d) ∧ w'.cell? ⟨w.heap.size, 4, none⟩ = some (.string a.s) ∧ w'.cell? ⟨w.heap.size, 5, none⟩ = some (.bool false) ∧ w'.cell? ⟨w.heap.size, 6, none⟩ = some (.int .i64 a.tm))
          (first | (with_reducible (go_split_ands; exact ⟨pw_cell_below hb (by assumption), pw_cell_below hb (by assumption), pw_cell_below hb (by assumption), pw_cell_below hb (by assumption), pw_cell_below hb (by assumption), pw_cell_below hb (by assumption), pw_cell_below hb (by assumption)⟩)) | (with_reducible (go_split_ands; exact ⟨pw_cell_below (below_alloc (Below.refl _ _) _) (by assumption), pw_cell_below (below_alloc (Below.refl _ _) _) (by assumption), pw_cell_below (below_alloc (Below.refl _ _) _) (by assumption), pw_cell_below (below_alloc (Below.refl _ _) _) (by assumption), pw_cell_below (below_alloc (Below.refl _ _) _) (by assumption), pw_cell_below (below_alloc (Below.refl _ _) _) (by assumption), pw_cell_below (below_alloc (Below.refl _ _) _) (by assumption)⟩)) | (with_reducible (go_split_ands; refine ⟨?_, ?_, ?_, ?_, ?_, ?_, ?_⟩ <;> assumption)) | (go_keep; done))
          (first
            | (go_simp; go_at_call 37; refine (Of8_T a.u _).mono ?_; rintro e wz ⟨vz, rfl, hz, hb⟩; have HWn := Aside0.mk (below_step (by repeat (first | exact HWc.out | apply below_alloc | apply pw_below_drewN | apply below_drew)) hb); clear HWc; have HWc := HWn; clear HWn; obtain ⟨AU, cU, rfl, lU, CU⟩ := hz; have IU := Aside0.mk (fun W ok => isF_any (show IsT wz (.agg #[.int .i64 (ofT a.u).f0, .string (ofT a.u).f1, .int .i64 (ofT a.u).f2, .slice AU (ofT a.u).f3.length cU]) (ofT a.u) from ⟨AU, cU, rfl, lU, CU⟩) W ok); clear lU CU)
            | (go_simp; go_at_call 30; refine (List8_calls _ Al a.g.length cl).mono ?_; rintro e wz ⟨rfl, hb⟩; have HWn := Aside0.mk (below_step (by repeat (first | exact HWc.out | apply below_alloc | apply pw_below_drewN | apply below_drew)) hb); clear HWc; have HWc := HWn; clear HWn)
            | (go_simp; go_at_call 36; refine (Num8_T a.o _).mono ?_; rintro e wz ⟨vz, rfl, hz, hb⟩; have HWn := Aside0.mk (below_step (by repeat (first | exact HWc.out | apply below_alloc | apply pw_below_drewN | apply below_drew)) hb); clear HWc; have HWc := HWn; clear HWn; obtain ⟨AO, cO, rfl, lO, CO⟩ := hz; have IO := Aside0.mk (fun W ok => isF_any (show IsT wz (.agg #[.int .i64 (numT a.o).f0, .string (numT a.o).f1, .int .i64 (numT a.o).f2, .slice AO (numT a.o).f3.length cO]) (numT a.o) from ⟨AO, cO, rfl, lO, CO⟩) W ok); clear lO CO)
            | (go_simp; go_at_call 38; refine (Row8_F B d a.tr _ (by omega) h3 (Kd.C_below HR.out (BWR.out.trans (Below.mono (by repeat (first | exact HWc.out | apply below_alloc | apply pw_below_drewN | apply below_drew)) BWR.out.size)))).mono ?_; rintro e wz ⟨vz, rfl, hz, hb⟩; have hsz := HWc.out.size; have HWn := Aside0.mk (below_step (by repeat (first | exact HWc.out | apply below_alloc | apply pw_below_drewN | apply below_drew)) hb); clear HWc; have HWc := HWn; clear HWn; obtain ⟨Ar, cr, rfl, lr, Cr⟩ := hz; have IR := Aside0.mk (show IsF wz (fun k => w1.heap.size ≤ k) (.agg #[.int .i64 (rowT a.tr).f0, .string (rowT a.tr).f1, .int .i64 (rowT a.tr).f2, .slice Ar (rowT a.tr).f3.length cr]) (rowT a.tr) from IsF.mono ⟨Ar, cr, rfl, lr, Cr⟩ (fun k hk => by omega)); clear lr Cr)
            | (go_simp; go_at_call 37; refine (Of8_T a.s _).mono ?_; rintro e wz ⟨vz, rfl, hz, hb⟩; have HWn := Aside0.mk (below_step (by repeat (first | exact HWc.out | apply below_alloc | apply pw_below_drewN | apply below_drew)) hb); clear HWc; have HWc := HWn; clear HWn; obtain ⟨AS, cS, rfl, lS, CS⟩ := hz; have IS := Aside0.mk (fun W ok => isF_any (show IsT wz (.agg #[.int .i64 (ofT a.s).f0, .string (ofT a.s).f1, .int .i64 (ofT a.s).f2, .slice AS (ofT a.s).f3.length cS]) (ofT a.s) from ⟨AS, cS, rfl, lS, CS⟩) W ok); clear lS CS; have IRn := Aside0.mk (IR.out.below (below_step (by repeat (first | exact Below.refl _ _ | apply below_alloc | apply pw_below_drewN | apply below_drew)) hb)); clear IR; have IR := IRn; clear IRn)
            | (go_simp; go_at_call 36; refine (Num8_T (0) _).mono ?_; rintro e wz ⟨vz, rfl, hz, hb⟩; have HWn := Aside0.mk (below_step (by repeat (first | exact HWc.out | apply below_alloc | apply pw_below_drewN | apply below_drew)) hb); clear HWc; have HWc := HWn; clear HWn; obtain ⟨AB, cB, rfl, lB, CB⟩ := hz; have IB := Aside0.mk (fun W ok => isF_any (show IsT wz (.agg #[.int .i64 (numT (0)).f0, .string (numT (0)).f1, .int .i64 (numT (0)).f2, .slice AB (numT (0)).f3.length cB]) (numT (0)) from ⟨AB, cB, rfl, lB, CB⟩) W ok); clear lB CB; have IRn := Aside0.mk (IR.out.below (below_step (by repeat (first | exact Below.refl _ _ | apply below_alloc | apply pw_below_drewN | apply below_drew)) hb)); clear IR; have IR := IRn; clear IRn)
            | (go_simp; go_at_call 36; refine (Num8_T a.tm _).mono ?_; rintro e wz ⟨vz, rfl, hz, hb⟩; have HWn := Aside0.mk (below_step (by repeat (first | exact HWc.out | apply below_alloc | apply pw_below_drewN | apply below_drew)) hb); clear HWc; have HWc := HWn; clear HWn; obtain ⟨AT, cT, rfl, lT, CT⟩ := hz; have IT := Aside0.mk (fun W ok => isF_any (show IsT wz (.agg #[.int .i64 (numT a.tm).f0, .string (numT a.tm).f1, .int .i64 (numT a.tm).f2, .slice AT (numT a.tm).f3.length cT]) (numT a.tm) from ⟨AT, cT, rfl, lT, CT⟩) W ok); clear lT CT; have IRn := Aside0.mk (IR.out.below (below_step (by repeat (first | exact Below.refl _ _ | apply below_alloc | apply pw_below_drewN | apply below_drew)) hb)); clear IR; have IR := IRn; clear IRn)
            | (go_simp; go_at_call 30; refine (List8_calls _ _ 7 7).mono ?_; rintro e w9 ⟨rfl, hb⟩; have IZ := Aside0.mk ((lits_F wz wz (fun k => w1.heap.size ≤ k) [(.agg #[.int .i64 (ofT a.u).f0, .string (ofT a.u).f1, .int .i64 (ofT a.u).f2, .slice AU (ofT a.u).f3.length cU]), (.agg #[.int .i64 3, .string ⟨#[]⟩, .int .i64 0, .slice Al a.g.length cl]), (.agg #[.int .i64 (numT a.o).f0, .string (numT a.o).f1, .int .i64 (numT a.o).f2, .slice AO (numT a.o).f3.length cO]), (.agg #[.int .i64 (rowT a.tr).f0, .string (rowT a.tr).f1, .int .i64 (rowT a.tr).f2, .slice Ar (rowT a.tr).f3.length cr]), (.agg #[.int .i64 (ofT a.s).f0, .string (ofT a.s).f1, .int .i64 (ofT a.s).f2, .slice AS (ofT a.s).f3.length cS]), (.agg #[.int .i64 (numT (0)).f0, .string (numT (0)).f1, .int .i64 (numT (0)).f2, .slice AB (numT (0)).f3.length cB]), (.agg #[.int .i64 (numT a.tm).f0, .string (numT a.tm).f1, .int .i64 (numT a.tm).f2, .slice AT (numT a.tm).f3.length cT])] [ofT a.u, listT (a.g.map numT), numT a.o, rowT a.tr, ofT a.s, numT (0), numT a.tm] ⟨IU.out _ _, IG.out.below HWc.out, IO.out _ _, IR.out, IS.out _ _, IB.out _ _, IT.out _ _, trivial⟩ (show 7 ≤ 1000 from by decide) (Below.refl _ _)).below hb); have hsz := HWc.out.size; have HWn := Aside0.mk (below_step (by repeat (first | exact HWc.out | apply below_alloc | apply pw_below_drewN | apply below_drew)) hb); clear HWc; have HWc := HWn; clear HWn; have hr9 := blk_below XRr.out HWc.out; have HR9 := Aside0.mk hr9; obtain ⟨hr0, hr1, hr2, hr3⟩ := box_cells hr9; have hrf0 := blk_frozen hr9 0; have hrf1 := blk_frozen hr9 1; have hrf2 := blk_frozen hr9 2; have hrf3 := blk_frozen hr9 3; clear hr9))
        go_wp2_with fail
        refine bodyPost_ret (results_cell_row rfl _ _ (w.heap.size + 1) 29 #[.int .i64 3, .string (⟨#[]⟩ : ByteArray), .int .i64 0, .slice (some ⟨wz.heap.size, 0, none⟩) 7 7] (0, 0) _ rfl (put4_block HR9.out) Tryd.underlying29 rfl (by kernel_rfl)) rfl ?_
        rw [HDA.out]
        exact ⟨_, rfl, (IZ.out.step fun k hk _ => put4_other (by omega)).mono (fun k hk => by omega), put4_below (BWR.out.trans (HWc.out.mono BWR.out.size)) (by omega)⟩
      | true =>
        rw [hfw] at ha5
        have hfi : bitI a.fw = 1 := by rw [hfw]; rfl
        have HDA : Aside0 (dataA a = listT [ofT a.u, listT (a.g.map numT), numT a.o, rowT a.tr, ofT a.s, numT 1, numT a.tm]) := ⟨by rw [← hfi]; rfl⟩
        clear hfi
        go_wp2_with fail
        go_region_held3 (fun w' => w'.cell? ⟨w.heap.size, 0, none⟩ = some (.string a.u) ∧ w'.cell? ⟨w.heap.size, 1, none⟩ = some (.slice A a.g.length c) ∧ w'.cell? ⟨w.heap.size, 2, none⟩ = some (.int .i64 a.o) ∧ w'.cell? ⟨w.heap.size, 3, none⟩ = some (.slice B a.tr.length d) ∧ w'.cell? ⟨w.heap.size, 4, none⟩ = some (.string a.s) ∧ w'.cell? ⟨w.heap.size, 5, none⟩ = some (.bool true) ∧ w'.cell? ⟨w.heap.size, 6, none⟩ = some (.int .i64 a.tm))
          (first | (with_reducible (go_split_ands; exact ⟨pw_cell_below hb (by assumption), pw_cell_below hb (by assumption), pw_cell_below hb (by assumption), pw_cell_below hb (by assumption), pw_cell_below hb (by assumption), pw_cell_below hb (by assumption), pw_cell_below hb (by assumption)⟩)) | (with_reducible (go_split_ands; exact ⟨pw_cell_below (below_alloc (Below.refl _ _) _) (by assumption), pw_cell_below (below_alloc (Below.refl _ _) _) (by assumption), pw_cell_below (below_alloc (Below.refl _ _) _) (by assumption), pw_cell_below (below_alloc (Below.refl _ _) _) (by assumption), pw_cell_below (below_alloc (Below.refl _ _) _) (by assumption), pw_cell_below (below_alloc (Below.refl _ _) _) (by assumption), pw_cell_below (below_alloc (Below.refl _ _) _) (by assumption)⟩)) | (with_reducible (go_split_ands; refine ⟨?_, ?_, ?_, ?_, ?_, ?_, ?_⟩ <;> assumption)) | (go_keep; done))
          (first
            | (go_simp; go_at_call 37; refine (Of8_T a.u _).mono ?_; rintro e wz ⟨vz, rfl, hz, hb⟩; have HWn := Aside0.mk (below_step (by repeat (first | exact HWc.out | apply below_alloc | apply pw_below_drewN | apply below_drew)) hb); clear HWc; have HWc := HWn; clear HWn; obtain ⟨AU, cU, rfl, lU, CU⟩ := hz; have IU := Aside0.mk (fun W ok => isF_any (show IsT wz (.agg #[.int .i64 (ofT a.u).f0, .string (ofT a.u).f1, .int .i64 (ofT a.u).f2, .slice AU (ofT a.u).f3.length cU]) (ofT a.u) from ⟨AU, cU, rfl, lU, CU⟩) W ok); clear lU CU)
            | (go_simp; go_at_call 30; refine (List8_calls _ Al a.g.length cl).mono ?_; rintro e wz ⟨rfl, hb⟩; have HWn := Aside0.mk (below_step (by repeat (first | exact HWc.out | apply below_alloc | apply pw_below_drewN | apply below_drew)) hb); clear HWc; have HWc := HWn; clear HWn)
            | (go_simp; go_at_call 36; refine (Num8_T a.o _).mono ?_; rintro e wz ⟨vz, rfl, hz, hb⟩; have HWn := Aside0.mk (below_step (by repeat (first | exact HWc.out | apply below_alloc | apply pw_below_drewN | apply below_drew)) hb); clear HWc; have HWc := HWn; clear HWn; obtain ⟨AO, cO, rfl, lO, CO⟩ := hz; have IO := Aside0.mk (fun W ok => isF_any (show IsT wz (.agg #[.int .i64 (numT a.o).f0, .string (numT a.o).f1, .int .i64 (numT a.o).f2, .slice AO (numT a.o).f3.length cO]) (numT a.o) from ⟨AO, cO, rfl, lO, CO⟩) W ok); clear lO CO)
            | (go_simp; go_at_call 38; refine (Row8_F B d a.tr _ (by omega) h3 (Kd.C_below HR.out (BWR.out.trans (Below.mono (by repeat (first | exact HWc.out | apply below_alloc | apply pw_below_drewN | apply below_drew)) BWR.out.size)))).mono ?_; rintro e wz ⟨vz, rfl, hz, hb⟩; have hsz := HWc.out.size; have HWn := Aside0.mk (below_step (by repeat (first | exact HWc.out | apply below_alloc | apply pw_below_drewN | apply below_drew)) hb); clear HWc; have HWc := HWn; clear HWn; obtain ⟨Ar, cr, rfl, lr, Cr⟩ := hz; have IR := Aside0.mk (show IsF wz (fun k => w1.heap.size ≤ k) (.agg #[.int .i64 (rowT a.tr).f0, .string (rowT a.tr).f1, .int .i64 (rowT a.tr).f2, .slice Ar (rowT a.tr).f3.length cr]) (rowT a.tr) from IsF.mono ⟨Ar, cr, rfl, lr, Cr⟩ (fun k hk => by omega)); clear lr Cr)
            | (go_simp; go_at_call 37; refine (Of8_T a.s _).mono ?_; rintro e wz ⟨vz, rfl, hz, hb⟩; have HWn := Aside0.mk (below_step (by repeat (first | exact HWc.out | apply below_alloc | apply pw_below_drewN | apply below_drew)) hb); clear HWc; have HWc := HWn; clear HWn; obtain ⟨AS, cS, rfl, lS, CS⟩ := hz; have IS := Aside0.mk (fun W ok => isF_any (show IsT wz (.agg #[.int .i64 (ofT a.s).f0, .string (ofT a.s).f1, .int .i64 (ofT a.s).f2, .slice AS (ofT a.s).f3.length cS]) (ofT a.s) from ⟨AS, cS, rfl, lS, CS⟩) W ok); clear lS CS; have IRn := Aside0.mk (IR.out.below (below_step (by repeat (first | exact Below.refl _ _ | apply below_alloc | apply pw_below_drewN | apply below_drew)) hb)); clear IR; have IR := IRn; clear IRn)
            | (go_simp; go_at_call 36; refine (Num8_T (1) _).mono ?_; rintro e wz ⟨vz, rfl, hz, hb⟩; have HWn := Aside0.mk (below_step (by repeat (first | exact HWc.out | apply below_alloc | apply pw_below_drewN | apply below_drew)) hb); clear HWc; have HWc := HWn; clear HWn; obtain ⟨AB, cB, rfl, lB, CB⟩ := hz; have IB := Aside0.mk (fun W ok => isF_any (show IsT wz (.agg #[.int .i64 (numT (1)).f0, .string (numT (1)).f1, .int .i64 (numT (1)).f2, .slice AB (numT (1)).f3.length cB]) (numT (1)) from ⟨AB, cB, rfl, lB, CB⟩) W ok); clear lB CB; have IRn := Aside0.mk (IR.out.below (below_step (by repeat (first | exact Below.refl _ _ | apply below_alloc | apply pw_below_drewN | apply below_drew)) hb)); clear IR; have IR := IRn; clear IRn)
            | (go_simp; go_at_call 36; refine (Num8_T a.tm _).mono ?_; rintro e wz ⟨vz, rfl, hz, hb⟩; have HWn := Aside0.mk (below_step (by repeat (first | exact HWc.out | apply below_alloc | apply pw_below_drewN | apply below_drew)) hb); clear HWc; have HWc := HWn; clear HWn; obtain ⟨AT, cT, rfl, lT, CT⟩ := hz; have IT := Aside0.mk (fun W ok => isF_any (show IsT wz (.agg #[.int .i64 (numT a.tm).f0, .string (numT a.tm).f1, .int .i64 (numT a.tm).f2, .slice AT (numT a.tm).f3.length cT]) (numT a.tm) from ⟨AT, cT, rfl, lT, CT⟩) W ok); clear lT CT; have IRn := Aside0.mk (IR.out.below (below_step (by repeat (first | exact Below.refl _ _ | apply below_alloc | apply pw_below_drewN | apply below_drew)) hb)); clear IR; have IR := IRn; clear IRn)
            | (go_simp; go_at_call 30; refine (List8_calls _ _ 7 7).mono ?_; rintro e w9 ⟨rfl, hb⟩; have IZ := Aside0.mk ((lits_F wz wz (fun k => w1.heap.size ≤ k) [(.agg #[.int .i64 (ofT a.u).f0, .string (ofT a.u).f1, .int .i64 (ofT a.u).f2, .slice AU (ofT a.u).f3.length cU]), (.agg #[.int .i64 3, .string ⟨#[]⟩, .int .i64 0, .slice Al a.g.length cl]), (.agg #[.int .i64 (numT a.o).f0, .string (numT a.o).f1, .int .i64 (numT a.o).f2, .slice AO (numT a.o).f3.length cO]), (.agg #[.int .i64 (rowT a.tr).f0, .string (rowT a.tr).f1, .int .i64 (rowT a.tr).f2, .slice Ar (rowT a.tr).f3.length cr]), (.agg #[.int .i64 (ofT a.s).f0, .string (ofT a.s).f1, .int .i64 (ofT a.s).f2, .slice AS (ofT a.s).f3.length cS]), (.agg #[.int .i64 (numT (1)).f0, .string (numT (1)).f1, .int .i64 (numT (1)).f2, .slice AB (numT (1)).f3.length cB]), (.agg #[.int .i64 (numT a.tm).f0, .string (numT a.tm).f1, .int .i64 (numT a.tm).f2, .slice AT (numT a.tm).f3.length cT])] [ofT a.u, listT (a.g.map numT), numT a.o, rowT a.tr, ofT a.s, numT (1), numT a.tm] ⟨IU.out _ _, IG.out.below HWc.out, IO.out _ _, IR.out, IS.out _ _, IB.out _ _, IT.out _ _, trivial⟩ (show 7 ≤ 1000 from by decide) (Below.refl _ _)).below hb); have hsz := HWc.out.size; have HWn := Aside0.mk (below_step (by repeat (first | exact HWc.out | apply below_alloc | apply pw_below_drewN | apply below_drew)) hb); clear HWc; have HWc := HWn; clear HWn; have hr9 := blk_below XRr.out HWc.out; have HR9 := Aside0.mk hr9; obtain ⟨hr0, hr1, hr2, hr3⟩ := box_cells hr9; have hrf0 := blk_frozen hr9 0; have hrf1 := blk_frozen hr9 1; have hrf2 := blk_frozen hr9 2; have hrf3 := blk_frozen hr9 3; clear hr9))
        go_wp2_with fail
        refine bodyPost_ret (results_cell_row rfl _ _ (w.heap.size + 1) 29 #[.int .i64 3, .string (⟨#[]⟩ : ByteArray), .int .i64 0, .slice (some ⟨wz.heap.size, 0, none⟩) 7 7] (0, 0) _ rfl (put4_block HR9.out) Tryd.underlying29 rfl (by kernel_rfl)) rfl ?_
        rw [HDA.out]
        exact ⟨_, rfl, (IZ.out.step fun k hk _ => put4_other (by omega)).mono (fun k hk => by omega), put4_below (BWR.out.trans (HWc.out.mono BWR.out.size)) (by omega)⟩
end Go.Proofs.YtimommkbfbdkdaaDoor.P
end
section
namespace Go.Proofs.YtimommkbfbdkdaaDoor.P
open Go.RowKit Go.Proofs.YtimommkbfbdkdaaDoorW.PrintWords Go.Proofs.YtimommkbfbdkdaaDoorW.PrintLast Go.Proofs.YtimommkbfbdkdaaDoorW.PrintMore
attribute [local go_sem] max2_int min2_int max_two min_two max_three min_three max_four min_four
set_option linter.unusedVariables false
set_option linter.unusedSimpArgs false
def legateref08_Name.l0 : Nat → ByteArray → Int → Option (Bool)
  | 0, _, _ => none
  | k + 1, x0, x3 => if x3 < (x0.size : Int) then (if 0 ≤ x3 then (if (bt x0 x3) ≥ 97 then (if (bt x0 x3) ≤ 122 then (legateref08_Name.l0 k x0 (wrap64 (x3 + 1))) else (if (bt x0 x3) ≥ 48 then (if (bt x0 x3) ≤ 57 then (legateref08_Name.l0 k x0 (wrap64 (x3 + 1))) else (if (bt x0 x3) = 45 then (legateref08_Name.l0 k x0 (wrap64 (x3 + 1))) else (if (bt x0 x3) = 46 then (legateref08_Name.l0 k x0 (wrap64 (x3 + 1))) else (if ((bt x0 x3) = 47) then (legateref08_Name.l0 k x0 (wrap64 (x3 + 1))) else (some false))))) else (if (bt x0 x3) = 45 then (legateref08_Name.l0 k x0 (wrap64 (x3 + 1))) else (if (bt x0 x3) = 46 then (legateref08_Name.l0 k x0 (wrap64 (x3 + 1))) else (if ((bt x0 x3) = 47) then (legateref08_Name.l0 k x0 (wrap64 (x3 + 1))) else (some false)))))) else (if (bt x0 x3) ≥ 48 then (if (bt x0 x3) ≤ 57 then (legateref08_Name.l0 k x0 (wrap64 (x3 + 1))) else (if (bt x0 x3) = 45 then (legateref08_Name.l0 k x0 (wrap64 (x3 + 1))) else (if (bt x0 x3) = 46 then (legateref08_Name.l0 k x0 (wrap64 (x3 + 1))) else (if ((bt x0 x3) = 47) then (legateref08_Name.l0 k x0 (wrap64 (x3 + 1))) else (some false))))) else (if (bt x0 x3) = 45 then (legateref08_Name.l0 k x0 (wrap64 (x3 + 1))) else (if (bt x0 x3) = 46 then (legateref08_Name.l0 k x0 (wrap64 (x3 + 1))) else (if ((bt x0 x3) = 47) then (legateref08_Name.l0 k x0 (wrap64 (x3 + 1))) else (some false)))))) else (none)) else (if (x0.size : Int) ≥ 1 then (some (decide ((x0.size : Int) ≤ 40))) else (some false))
def legateref08_Name.f (k : Nat) (a0 : ByteArray) : Option (Bool) := legateref08_Name.l0 k a0 0
theorem legateref08_Name.mono_l : ∀ k, (∀ y0 y1, LeO (legateref08_Name.l0 k y0 y1) (legateref08_Name.l0 (k + 1) y0 y1))
  | 0 => fun _ _ r h => by simp [legateref08_Name.l0] at h
  | k + 1 => by
    have ih0 := legateref08_Name.mono_l k
    · intro y0 y1
      unfold legateref08_Name.l0
      repeat' first
      | (with_reducible exact ih0 _ _)
      | (with_reducible exact LeO.refl _)
      | (with_reducible exact LeO.none _)
      | (with_reducible refine LeO.ite ?_ ?_)
      | (with_reducible refine LeO.bind ?_ (fun _ => ?_))
      | exact ih0 _ _
      | exact LeO.none _
      | refine LeO.ite ?_ ?_
      | refine LeO.bind ?_ (fun _ => ?_)
theorem legateref08_Name.mono : ∀ a0 k, LeO (legateref08_Name.f k a0) (legateref08_Name.f (k + 1) a0) := by
  intro a0 k
  have ih0 := legateref08_Name.mono_l k
  unfold legateref08_Name.f
  repeat' first
      | (with_reducible exact ih0 _ _)
      | (with_reducible exact LeO.refl _)
      | (with_reducible exact LeO.none _)
      | (with_reducible refine LeO.ite ?_ ?_)
      | (with_reducible refine LeO.bind ?_ (fun _ => ?_))
      | exact ih0 _ _
      | exact LeO.none _
      | refine LeO.ite ?_ ?_
      | refine LeO.bind ?_ (fun _ => ?_)
set_option maxHeartbeats 8000000 in
set_option maxRecDepth 100000 in
theorem legateref08_Name.calls (k : Nat) (a0 : ByteArray) (r : Bool) (w : World) (h : legateref08_Name.f k a0 = some r) :
    Calls Tryd.prog 42 #[.string a0] w fun e w' => e = .returned (.bool r) ∧ Drawn0 w w' := by
  have H : (legateref08_Name.l0 k a0 0) = some r := h
  clear h
  have H' := Aside0.mk H
  clear H
  go_enter Tryd.func42, Tryd.ntmps42
  go_wp2
  go_loopg [3] k (fun kq v3 w' => ∃ (x3_1 : Int), v3 = .int .i64 x3_1 ∧ Aside0 (legateref08_Name.l0 kq a0 x3_1 = some r) ∧ Aside0 (kq ≤ k) ∧ Drawn0 w w')
  case atStart => exact ⟨(0), (by first | rfl | (simp; done) | (simp [*]; done) | (simp; exact isEmpty_ne _)), H', ⟨Nat.le_refl _⟩, by repeat (first | exact Drawn0.refl _ | apply Drawn0.step)⟩
  case round =>
    clear H'
    obtain ⟨x3_1, rfl, HA, HK1, ⟨m1, rfl⟩⟩ := hrel
    cases gk with
    | zero => exact absurd HA.out (by simp [legateref08_Name.l0])
    | succ k1 =>
      have H := HA.out
      clear HA
      simp only [legateref08_Name.l0] at H
      by_cases c2 : x3_1 < (a0.size : Int)
      · rw [if_pos c2] at H
        have c2b0 : decide (x3_1 < (a0.size : Int)) = true := decide_eq_true c2
        clear c2
        by_cases c3 : 0 ≤ x3_1
        · rw [if_pos c3] at H
          have c3b0 : decide (0 ≤ x3_1) = true := decide_eq_true c3
          clear c3
          by_cases c5 : (bt a0 x3_1) ≥ 97
          · rw [if_pos c5] at H
            have c5b0 : decide (97 ≤ (bt a0 x3_1)) = true := decide_eq_true c5
            clear c5
            by_cases c6 : (bt a0 x3_1) ≤ 122
            · rw [if_pos c6] at H
              have c6b0 : decide ((bt a0 x3_1) ≤ 122) = true := decide_eq_true c6
              clear c6
              have H' := Aside0.mk H
              clear H
              have p4 : 0 ≤ (x3_1 : Int) := of_decide_eq_true (by first | (with_reducible assumption) | assumption)
              have q4 : x3_1 < (a0.size : Int) := of_decide_eq_true (by first | (with_reducible assumption) | assumption)
              have hx4 := bt_at a0 x3_1
              replace p4 := eq_true p4
              replace q4 := eq_true q4
              go_wp2
              go_roundg k1
              case measure => have := HK1.out; omega
              case rel => exact ⟨(wrap64 (x3_1 + 1)), (by first | rfl | (simp; done) | (simp [*]; done) | (simp; exact isEmpty_ne _)), H', ⟨by have := HK1.out; omega⟩, by repeat (first | exact Drawn0.refl _ | apply Drawn0.step)⟩
            · rw [if_neg c6] at H
              have c6b0 : decide ((bt a0 x3_1) ≤ 122) = false := decide_eq_false c6
              clear c6
              by_cases c7 : (bt a0 x3_1) ≥ 48
              · rw [if_pos c7] at H
                have c7b0 : decide (48 ≤ (bt a0 x3_1)) = true := decide_eq_true c7
                clear c7
                by_cases c8 : (bt a0 x3_1) ≤ 57
                · rw [if_pos c8] at H
                  have c8b0 : decide ((bt a0 x3_1) ≤ 57) = true := decide_eq_true c8
                  clear c8
                  have H' := Aside0.mk H
                  clear H
                  have p4 : 0 ≤ (x3_1 : Int) := of_decide_eq_true (by first | (with_reducible assumption) | assumption)
                  have q4 : x3_1 < (a0.size : Int) := of_decide_eq_true (by first | (with_reducible assumption) | assumption)
                  have hx4 := bt_at a0 x3_1
                  replace p4 := eq_true p4
                  replace q4 := eq_true q4
                  go_wp2
                  go_roundg k1
                  case measure => have := HK1.out; omega
                  case rel => exact ⟨(wrap64 (x3_1 + 1)), (by first | rfl | (simp; done) | (simp [*]; done) | (simp; exact isEmpty_ne _)), H', ⟨by have := HK1.out; omega⟩, by repeat (first | exact Drawn0.refl _ | apply Drawn0.step)⟩
                · rw [if_neg c8] at H
                  have c8b0 : decide ((bt a0 x3_1) ≤ 57) = false := decide_eq_false c8
                  clear c8
                  by_cases c9 : (bt a0 x3_1) = 45
                  · rw [if_pos c9] at H
                    have c9b0 : ((bt a0 x3_1) == 45) = true := beq_iff_eq.mpr c9
                    have c9b1 : ((bt a0 x3_1) != 45) = false := bne_eq_false_iff_eq.mpr c9
                    clear c9
                    have H' := Aside0.mk H
                    clear H
                    have p4 : 0 ≤ (x3_1 : Int) := of_decide_eq_true (by first | (with_reducible assumption) | assumption)
                    have q4 : x3_1 < (a0.size : Int) := of_decide_eq_true (by first | (with_reducible assumption) | assumption)
                    have hx4 := bt_at a0 x3_1
                    replace p4 := eq_true p4
                    replace q4 := eq_true q4
                    go_wp2
                    go_roundg k1
                    case measure => have := HK1.out; omega
                    case rel => exact ⟨(wrap64 (x3_1 + 1)), (by first | rfl | (simp; done) | (simp [*]; done) | (simp; exact isEmpty_ne _)), H', ⟨by have := HK1.out; omega⟩, by repeat (first | exact Drawn0.refl _ | apply Drawn0.step)⟩
                  · rw [if_neg c9] at H
                    have c9b0 : ((bt a0 x3_1) == 45) = false := beq_eq_false_iff_ne.mpr c9
                    have c9b1 : ((bt a0 x3_1) != 45) = true := bne_iff_ne.mpr c9
                    by_cases c10 : (bt a0 x3_1) = 46
                    · rw [if_pos c10] at H
                      have c10b0 : ((bt a0 x3_1) == 46) = true := beq_iff_eq.mpr c10
                      have c10b1 : ((bt a0 x3_1) != 46) = false := bne_eq_false_iff_eq.mpr c10
                      clear c10
                      have H' := Aside0.mk H
                      clear H
                      have p4 : 0 ≤ (x3_1 : Int) := of_decide_eq_true (by first | (with_reducible assumption) | assumption)
                      have q4 : x3_1 < (a0.size : Int) := of_decide_eq_true (by first | (with_reducible assumption) | assumption)
                      have hx4 := bt_at a0 x3_1
                      replace p4 := eq_true p4
                      replace q4 := eq_true q4
                      go_wp2
                      go_roundg k1
                      case measure => have := HK1.out; omega
                      case rel => exact ⟨(wrap64 (x3_1 + 1)), (by first | rfl | (simp; done) | (simp [*]; done) | (simp; exact isEmpty_ne _)), H', ⟨by have := HK1.out; omega⟩, by repeat (first | exact Drawn0.refl _ | apply Drawn0.step)⟩
                    · rw [if_neg c10] at H
                      have c10b0 : ((bt a0 x3_1) == 46) = false := beq_eq_false_iff_ne.mpr c10
                      have c10b1 : ((bt a0 x3_1) != 46) = true := bne_iff_ne.mpr c10
                      by_cases c11 : ((bt a0 x3_1) = 47)
                      · rw [if_pos c11] at H
                        have c11b0 : ((bt a0 x3_1) == 47) = true := beq_iff_eq.mpr c11
                        have c11b1 : ((bt a0 x3_1) != 47) = false := bne_eq_false_iff_eq.mpr c11
                        clear c11
                        have H' := Aside0.mk H
                        clear H
                        have p4 : 0 ≤ (x3_1 : Int) := of_decide_eq_true (by first | (with_reducible assumption) | assumption)
                        have q4 : x3_1 < (a0.size : Int) := of_decide_eq_true (by first | (with_reducible assumption) | assumption)
                        have hx4 := bt_at a0 x3_1
                        replace p4 := eq_true p4
                        replace q4 := eq_true q4
                        go_wp2
                        go_roundg k1
                        case measure => have := HK1.out; omega
                        case rel => exact ⟨(wrap64 (x3_1 + 1)), (by first | rfl | (simp; done) | (simp [*]; done) | (simp; exact isEmpty_ne _)), H', ⟨by have := HK1.out; omega⟩, by repeat (first | exact Drawn0.refl _ | apply Drawn0.step)⟩
                      · rw [if_neg c11] at H
                        have c11b0 : ((bt a0 x3_1) == 47) = false := beq_eq_false_iff_ne.mpr c11
                        have c11b1 : ((bt a0 x3_1) != 47) = true := bne_iff_ne.mpr c11
                        obtain rfl := Option.some.inj H
                        have p4 : 0 ≤ (x3_1 : Int) := of_decide_eq_true (by first | (with_reducible assumption) | assumption)
                        have q4 : x3_1 < (a0.size : Int) := of_decide_eq_true (by first | (with_reducible assumption) | assumption)
                        have hx4 := bt_at a0 x3_1
                        replace p4 := eq_true p4
                        replace q4 := eq_true q4
                        go_wp2
                        go_ret
                        exact ⟨by first | rfl | (simp; done) | (simp [*]; done), by repeat (first | exact Drawn0.refl _ | apply Drawn0.step)⟩
              · rw [if_neg c7] at H
                have c7b0 : decide (48 ≤ (bt a0 x3_1)) = false := decide_eq_false c7
                clear c7
                by_cases c12 : (bt a0 x3_1) = 45
                · rw [if_pos c12] at H
                  have c12b0 : ((bt a0 x3_1) == 45) = true := beq_iff_eq.mpr c12
                  have c12b1 : ((bt a0 x3_1) != 45) = false := bne_eq_false_iff_eq.mpr c12
                  clear c12
                  have H' := Aside0.mk H
                  clear H
                  have p4 : 0 ≤ (x3_1 : Int) := of_decide_eq_true (by first | (with_reducible assumption) | assumption)
                  have q4 : x3_1 < (a0.size : Int) := of_decide_eq_true (by first | (with_reducible assumption) | assumption)
                  have hx4 := bt_at a0 x3_1
                  replace p4 := eq_true p4
                  replace q4 := eq_true q4
                  go_wp2
                  go_roundg k1
                  case measure => have := HK1.out; omega
                  case rel => exact ⟨(wrap64 (x3_1 + 1)), (by first | rfl | (simp; done) | (simp [*]; done) | (simp; exact isEmpty_ne _)), H', ⟨by have := HK1.out; omega⟩, by repeat (first | exact Drawn0.refl _ | apply Drawn0.step)⟩
                · rw [if_neg c12] at H
                  have c12b0 : ((bt a0 x3_1) == 45) = false := beq_eq_false_iff_ne.mpr c12
                  have c12b1 : ((bt a0 x3_1) != 45) = true := bne_iff_ne.mpr c12
                  by_cases c13 : (bt a0 x3_1) = 46
                  · rw [if_pos c13] at H
                    have c13b0 : ((bt a0 x3_1) == 46) = true := beq_iff_eq.mpr c13
                    have c13b1 : ((bt a0 x3_1) != 46) = false := bne_eq_false_iff_eq.mpr c13
                    clear c13
                    have H' := Aside0.mk H
                    clear H
                    have p4 : 0 ≤ (x3_1 : Int) := of_decide_eq_true (by first | (with_reducible assumption) | assumption)
                    have q4 : x3_1 < (a0.size : Int) := of_decide_eq_true (by first | (with_reducible assumption) | assumption)
                    have hx4 := bt_at a0 x3_1
                    replace p4 := eq_true p4
                    replace q4 := eq_true q4
                    go_wp2
                    go_roundg k1
                    case measure => have := HK1.out; omega
                    case rel => exact ⟨(wrap64 (x3_1 + 1)), (by first | rfl | (simp; done) | (simp [*]; done) | (simp; exact isEmpty_ne _)), H', ⟨by have := HK1.out; omega⟩, by repeat (first | exact Drawn0.refl _ | apply Drawn0.step)⟩
                  · rw [if_neg c13] at H
                    have c13b0 : ((bt a0 x3_1) == 46) = false := beq_eq_false_iff_ne.mpr c13
                    have c13b1 : ((bt a0 x3_1) != 46) = true := bne_iff_ne.mpr c13
                    by_cases c14 : ((bt a0 x3_1) = 47)
                    · rw [if_pos c14] at H
                      have c14b0 : ((bt a0 x3_1) == 47) = true := beq_iff_eq.mpr c14
                      have c14b1 : ((bt a0 x3_1) != 47) = false := bne_eq_false_iff_eq.mpr c14
                      clear c14
                      have H' := Aside0.mk H
                      clear H
                      have p4 : 0 ≤ (x3_1 : Int) := of_decide_eq_true (by first | (with_reducible assumption) | assumption)
                      have q4 : x3_1 < (a0.size : Int) := of_decide_eq_true (by first | (with_reducible assumption) | assumption)
                      have hx4 := bt_at a0 x3_1
                      replace p4 := eq_true p4
                      replace q4 := eq_true q4
                      go_wp2
                      go_roundg k1
                      case measure => have := HK1.out; omega
                      case rel => exact ⟨(wrap64 (x3_1 + 1)), (by first | rfl | (simp; done) | (simp [*]; done) | (simp; exact isEmpty_ne _)), H', ⟨by have := HK1.out; omega⟩, by repeat (first | exact Drawn0.refl _ | apply Drawn0.step)⟩
                    · rw [if_neg c14] at H
                      have c14b0 : ((bt a0 x3_1) == 47) = false := beq_eq_false_iff_ne.mpr c14
                      have c14b1 : ((bt a0 x3_1) != 47) = true := bne_iff_ne.mpr c14
                      obtain rfl := Option.some.inj H
                      have p4 : 0 ≤ (x3_1 : Int) := of_decide_eq_true (by first | (with_reducible assumption) | assumption)
                      have q4 : x3_1 < (a0.size : Int) := of_decide_eq_true (by first | (with_reducible assumption) | assumption)
                      have hx4 := bt_at a0 x3_1
                      replace p4 := eq_true p4
                      replace q4 := eq_true q4
                      go_wp2
                      go_ret
                      exact ⟨by first | rfl | (simp; done) | (simp [*]; done), by repeat (first | exact Drawn0.refl _ | apply Drawn0.step)⟩
          · rw [if_neg c5] at H
            have c5b0 : decide (97 ≤ (bt a0 x3_1)) = false := decide_eq_false c5
            clear c5
            by_cases c15 : (bt a0 x3_1) ≥ 48
            · rw [if_pos c15] at H
              have c15b0 : decide (48 ≤ (bt a0 x3_1)) = true := decide_eq_true c15
              clear c15
              by_cases c16 : (bt a0 x3_1) ≤ 57
              · rw [if_pos c16] at H
                have c16b0 : decide ((bt a0 x3_1) ≤ 57) = true := decide_eq_true c16
                clear c16
                have H' := Aside0.mk H
                clear H
                have p4 : 0 ≤ (x3_1 : Int) := of_decide_eq_true (by first | (with_reducible assumption) | assumption)
                have q4 : x3_1 < (a0.size : Int) := of_decide_eq_true (by first | (with_reducible assumption) | assumption)
                have hx4 := bt_at a0 x3_1
                replace p4 := eq_true p4
                replace q4 := eq_true q4
                go_wp2
                go_roundg k1
                case measure => have := HK1.out; omega
                case rel => exact ⟨(wrap64 (x3_1 + 1)), (by first | rfl | (simp; done) | (simp [*]; done) | (simp; exact isEmpty_ne _)), H', ⟨by have := HK1.out; omega⟩, by repeat (first | exact Drawn0.refl _ | apply Drawn0.step)⟩
              · rw [if_neg c16] at H
                have c16b0 : decide ((bt a0 x3_1) ≤ 57) = false := decide_eq_false c16
                clear c16
                by_cases c17 : (bt a0 x3_1) = 45
                · rw [if_pos c17] at H
                  have c17b0 : ((bt a0 x3_1) == 45) = true := beq_iff_eq.mpr c17
                  have c17b1 : ((bt a0 x3_1) != 45) = false := bne_eq_false_iff_eq.mpr c17
                  clear c17
                  have H' := Aside0.mk H
                  clear H
                  have p4 : 0 ≤ (x3_1 : Int) := of_decide_eq_true (by first | (with_reducible assumption) | assumption)
                  have q4 : x3_1 < (a0.size : Int) := of_decide_eq_true (by first | (with_reducible assumption) | assumption)
                  have hx4 := bt_at a0 x3_1
                  replace p4 := eq_true p4
                  replace q4 := eq_true q4
                  go_wp2
                  go_roundg k1
                  case measure => have := HK1.out; omega
                  case rel => exact ⟨(wrap64 (x3_1 + 1)), (by first | rfl | (simp; done) | (simp [*]; done) | (simp; exact isEmpty_ne _)), H', ⟨by have := HK1.out; omega⟩, by repeat (first | exact Drawn0.refl _ | apply Drawn0.step)⟩
                · rw [if_neg c17] at H
                  have c17b0 : ((bt a0 x3_1) == 45) = false := beq_eq_false_iff_ne.mpr c17
                  have c17b1 : ((bt a0 x3_1) != 45) = true := bne_iff_ne.mpr c17
                  by_cases c18 : (bt a0 x3_1) = 46
                  · rw [if_pos c18] at H
                    have c18b0 : ((bt a0 x3_1) == 46) = true := beq_iff_eq.mpr c18
                    have c18b1 : ((bt a0 x3_1) != 46) = false := bne_eq_false_iff_eq.mpr c18
                    clear c18
                    have H' := Aside0.mk H
                    clear H
                    have p4 : 0 ≤ (x3_1 : Int) := of_decide_eq_true (by first | (with_reducible assumption) | assumption)
                    have q4 : x3_1 < (a0.size : Int) := of_decide_eq_true (by first | (with_reducible assumption) | assumption)
                    have hx4 := bt_at a0 x3_1
                    replace p4 := eq_true p4
                    replace q4 := eq_true q4
                    go_wp2
                    go_roundg k1
                    case measure => have := HK1.out; omega
                    case rel => exact ⟨(wrap64 (x3_1 + 1)), (by first | rfl | (simp; done) | (simp [*]; done) | (simp; exact isEmpty_ne _)), H', ⟨by have := HK1.out; omega⟩, by repeat (first | exact Drawn0.refl _ | apply Drawn0.step)⟩
                  · rw [if_neg c18] at H
                    have c18b0 : ((bt a0 x3_1) == 46) = false := beq_eq_false_iff_ne.mpr c18
                    have c18b1 : ((bt a0 x3_1) != 46) = true := bne_iff_ne.mpr c18
                    by_cases c19 : ((bt a0 x3_1) = 47)
                    · rw [if_pos c19] at H
                      have c19b0 : ((bt a0 x3_1) == 47) = true := beq_iff_eq.mpr c19
                      have c19b1 : ((bt a0 x3_1) != 47) = false := bne_eq_false_iff_eq.mpr c19
                      clear c19
                      have H' := Aside0.mk H
                      clear H
                      have p4 : 0 ≤ (x3_1 : Int) := of_decide_eq_true (by first | (with_reducible assumption) | assumption)
                      have q4 : x3_1 < (a0.size : Int) := of_decide_eq_true (by first | (with_reducible assumption) | assumption)
                      have hx4 := bt_at a0 x3_1
                      replace p4 := eq_true p4
                      replace q4 := eq_true q4
                      go_wp2
                      go_roundg k1
                      case measure => have := HK1.out; omega
                      case rel => exact ⟨(wrap64 (x3_1 + 1)), (by first | rfl | (simp; done) | (simp [*]; done) | (simp; exact isEmpty_ne _)), H', ⟨by have := HK1.out; omega⟩, by repeat (first | exact Drawn0.refl _ | apply Drawn0.step)⟩
                    · rw [if_neg c19] at H
                      have c19b0 : ((bt a0 x3_1) == 47) = false := beq_eq_false_iff_ne.mpr c19
                      have c19b1 : ((bt a0 x3_1) != 47) = true := bne_iff_ne.mpr c19
                      obtain rfl := Option.some.inj H
                      have p4 : 0 ≤ (x3_1 : Int) := of_decide_eq_true (by first | (with_reducible assumption) | assumption)
                      have q4 : x3_1 < (a0.size : Int) := of_decide_eq_true (by first | (with_reducible assumption) | assumption)
                      have hx4 := bt_at a0 x3_1
                      replace p4 := eq_true p4
                      replace q4 := eq_true q4
                      go_wp2
                      go_ret
                      exact ⟨by first | rfl | (simp; done) | (simp [*]; done), by repeat (first | exact Drawn0.refl _ | apply Drawn0.step)⟩
            · rw [if_neg c15] at H
              have c15b0 : decide (48 ≤ (bt a0 x3_1)) = false := decide_eq_false c15
              clear c15
              by_cases c20 : (bt a0 x3_1) = 45
              · rw [if_pos c20] at H
                have c20b0 : ((bt a0 x3_1) == 45) = true := beq_iff_eq.mpr c20
                have c20b1 : ((bt a0 x3_1) != 45) = false := bne_eq_false_iff_eq.mpr c20
                clear c20
                have H' := Aside0.mk H
                clear H
                have p4 : 0 ≤ (x3_1 : Int) := of_decide_eq_true (by first | (with_reducible assumption) | assumption)
                have q4 : x3_1 < (a0.size : Int) := of_decide_eq_true (by first | (with_reducible assumption) | assumption)
                have hx4 := bt_at a0 x3_1
                replace p4 := eq_true p4
                replace q4 := eq_true q4
                go_wp2
                go_roundg k1
                case measure => have := HK1.out; omega
                case rel => exact ⟨(wrap64 (x3_1 + 1)), (by first | rfl | (simp; done) | (simp [*]; done) | (simp; exact isEmpty_ne _)), H', ⟨by have := HK1.out; omega⟩, by repeat (first | exact Drawn0.refl _ | apply Drawn0.step)⟩
              · rw [if_neg c20] at H
                have c20b0 : ((bt a0 x3_1) == 45) = false := beq_eq_false_iff_ne.mpr c20
                have c20b1 : ((bt a0 x3_1) != 45) = true := bne_iff_ne.mpr c20
                by_cases c21 : (bt a0 x3_1) = 46
                · rw [if_pos c21] at H
                  have c21b0 : ((bt a0 x3_1) == 46) = true := beq_iff_eq.mpr c21
                  have c21b1 : ((bt a0 x3_1) != 46) = false := bne_eq_false_iff_eq.mpr c21
                  clear c21
                  have H' := Aside0.mk H
                  clear H
                  have p4 : 0 ≤ (x3_1 : Int) := of_decide_eq_true (by first | (with_reducible assumption) | assumption)
                  have q4 : x3_1 < (a0.size : Int) := of_decide_eq_true (by first | (with_reducible assumption) | assumption)
                  have hx4 := bt_at a0 x3_1
                  replace p4 := eq_true p4
                  replace q4 := eq_true q4
                  go_wp2
                  go_roundg k1
                  case measure => have := HK1.out; omega
                  case rel => exact ⟨(wrap64 (x3_1 + 1)), (by first | rfl | (simp; done) | (simp [*]; done) | (simp; exact isEmpty_ne _)), H', ⟨by have := HK1.out; omega⟩, by repeat (first | exact Drawn0.refl _ | apply Drawn0.step)⟩
                · rw [if_neg c21] at H
                  have c21b0 : ((bt a0 x3_1) == 46) = false := beq_eq_false_iff_ne.mpr c21
                  have c21b1 : ((bt a0 x3_1) != 46) = true := bne_iff_ne.mpr c21
                  by_cases c22 : ((bt a0 x3_1) = 47)
                  · rw [if_pos c22] at H
                    have c22b0 : ((bt a0 x3_1) == 47) = true := beq_iff_eq.mpr c22
                    have c22b1 : ((bt a0 x3_1) != 47) = false := bne_eq_false_iff_eq.mpr c22
                    clear c22
                    have H' := Aside0.mk H
                    clear H
                    have p4 : 0 ≤ (x3_1 : Int) := of_decide_eq_true (by first | (with_reducible assumption) | assumption)
                    have q4 : x3_1 < (a0.size : Int) := of_decide_eq_true (by first | (with_reducible assumption) | assumption)
                    have hx4 := bt_at a0 x3_1
                    replace p4 := eq_true p4
                    replace q4 := eq_true q4
                    go_wp2
                    go_roundg k1
                    case measure => have := HK1.out; omega
                    case rel => exact ⟨(wrap64 (x3_1 + 1)), (by first | rfl | (simp; done) | (simp [*]; done) | (simp; exact isEmpty_ne _)), H', ⟨by have := HK1.out; omega⟩, by repeat (first | exact Drawn0.refl _ | apply Drawn0.step)⟩
                  · rw [if_neg c22] at H
                    have c22b0 : ((bt a0 x3_1) == 47) = false := beq_eq_false_iff_ne.mpr c22
                    have c22b1 : ((bt a0 x3_1) != 47) = true := bne_iff_ne.mpr c22
                    obtain rfl := Option.some.inj H
                    have p4 : 0 ≤ (x3_1 : Int) := of_decide_eq_true (by first | (with_reducible assumption) | assumption)
                    have q4 : x3_1 < (a0.size : Int) := of_decide_eq_true (by first | (with_reducible assumption) | assumption)
                    have hx4 := bt_at a0 x3_1
                    replace p4 := eq_true p4
                    replace q4 := eq_true q4
                    go_wp2
                    go_ret
                    exact ⟨by first | rfl | (simp; done) | (simp [*]; done), by repeat (first | exact Drawn0.refl _ | apply Drawn0.step)⟩
        · rw [if_neg c3] at H
          exact absurd H (by simp)
      · rw [if_neg c2] at H
        have c2b0 : decide (x3_1 < (a0.size : Int)) = false := decide_eq_false c2
        clear c2
        by_cases c23 : (a0.size : Int) ≥ 1
        · rw [if_pos c23] at H
          have c23b0 : decide (1 ≤ (a0.size : Int)) = true := decide_eq_true c23
          have c23b1 : decide (1 ≤ a0.size) = true := decide_eq_true (by omega)
          clear c23
          obtain rfl := Option.some.inj H
          go_wp2
          go_ret
          exact ⟨by first | rfl | (simp; done) | (simp [*]; done), by repeat (first | exact Drawn0.refl _ | apply Drawn0.step)⟩
        · rw [if_neg c23] at H
          have c23b0 : decide (1 ≤ (a0.size : Int)) = false := decide_eq_false c23
          have c23b1 : decide (1 ≤ a0.size) = false := decide_eq_false (by omega)
          clear c23
          obtain rfl := Option.some.inj H
          go_wp2
          go_ret
          exact ⟨by first | rfl | (simp; done) | (simp [*]; done), by repeat (first | exact Drawn0.refl _ | apply Drawn0.step)⟩
def legateref13_Valid.l0 : Nat → Bool → Bool → Int → ByteArray → List Int → Int → List ByteArray → ByteArray → Bool → Int → Option (Bool)
  | 0, _, _, _, _, _, _, _, _, _, _ => none
  | k + 1, x3, x4, x5, x186000, x186001, x186002, x186003, x186004, x186005, x186006 => if x5 < (x186003.length : Int) then (if 0 ≤ x5 then ((legateref08_Name.f k (rdOf ByteArray.empty x186003 x5)).bind fun t189 => (if t189 = true then (legateref13_Valid.l0 k x3 x4 (wrap64 (x5 + 1)) x186000 x186001 x186002 x186003 x186004 x186005 x186006) else (some false))) else (none)) else (if x3 = true then (if x4 = true then (if (x186001.length : Int) ≤ 20 then (if (x186003.length : Int) ≤ 8 then (if x186002 = 0 then (if x186006 ≥ 0 then (some (decide (x186006 ≤ 1099511627776))) else (some false)) else (if x186002 = 1 then (if x186006 ≥ 0 then (some (decide (x186006 ≤ 1099511627776))) else (some false)) else (some false))) else (some false)) else (some false)) else (some false)) else (some false))
def legateref13_Valid.f (k : Nat) (a0_0 : ByteArray) (l0_1 : List Int) (a0_2 : Int) (l0_3 : List ByteArray) (a0_4 : ByteArray) (a0_5 : Bool) (a0_6 : Int) : Option (Bool) := (legateref08_Name.f k a0_0).bind fun t186 => ((legateref08_Name.f k a0_4).bind fun t187 => (legateref13_Valid.l0 k t186 t187 0 a0_0 l0_1 a0_2 l0_3 a0_4 a0_5 a0_6))
theorem legateref13_Valid.mono_l : ∀ k, (∀ y0 y1 y2 y3 y4 y5 y6 y7 y8 y9, LeO (legateref13_Valid.l0 k y0 y1 y2 y3 y4 y5 y6 y7 y8 y9) (legateref13_Valid.l0 (k + 1) y0 y1 y2 y3 y4 y5 y6 y7 y8 y9))
  | 0 => fun _ _ _ _ _ _ _ _ _ _ r h => by simp [legateref13_Valid.l0] at h
  | k + 1 => by
    have ih0 := legateref13_Valid.mono_l k
    · intro y0 y1 y2 y3 y4 y5 y6 y7 y8 y9
      unfold legateref13_Valid.l0
      repeat' first
      | (with_reducible exact ih0 _ _ _ _ _ _ _ _ _ _)
      | (with_reducible exact legateref08_Name.mono _ _)
      | (with_reducible exact LeO.refl _)
      | (with_reducible exact LeO.none _)
      | (with_reducible refine LeO.ite ?_ ?_)
      | (with_reducible refine LeO.bind ?_ (fun _ => ?_))
      | exact ih0 _ _ _ _ _ _ _ _ _ _
      | exact legateref08_Name.mono _ _
      | exact LeO.none _
      | refine LeO.ite ?_ ?_
      | refine LeO.bind ?_ (fun _ => ?_)
theorem legateref13_Valid.mono : ∀ a0 a1 a2 a3 a4 a5 a6 k, LeO (legateref13_Valid.f k a0 a1 a2 a3 a4 a5 a6) (legateref13_Valid.f (k + 1) a0 a1 a2 a3 a4 a5 a6) := by
  intro a0 a1 a2 a3 a4 a5 a6 k
  have ih0 := legateref13_Valid.mono_l k
  unfold legateref13_Valid.f
  repeat' first
      | (with_reducible exact ih0 _ _ _ _ _ _ _ _ _ _)
      | (with_reducible exact legateref08_Name.mono _ _)
      | (with_reducible exact LeO.refl _)
      | (with_reducible exact LeO.none _)
      | (with_reducible refine LeO.ite ?_ ?_)
      | (with_reducible refine LeO.bind ?_ (fun _ => ?_))
      | exact ih0 _ _ _ _ _ _ _ _ _ _
      | exact legateref08_Name.mono _ _
      | exact LeO.none _
      | refine LeO.ite ?_ ?_
      | refine LeO.bind ?_ (fun _ => ?_)
set_option maxHeartbeats 8000000 in
set_option maxRecDepth 100000 in
theorem legateref13_Valid.calls (k : Nat) (a0_0 : ByteArray) (A0_1 : Option Addr) (c0_1 : Nat) (l0_1 : List Int) (a0_2 : Int) (A0_3 : Option Addr) (c0_3 : Nat) (l0_3 : List ByteArray) (a0_4 : ByteArray) (a0_5 : Bool) (a0_6 : Int) (r : Bool) (w : World) (hr0_1 : Kd.C (Kd.int .i64) w A0_1 l0_1.length l0_1) (hc0_1 : l0_1.length ≤ c0_1) (hr0_3 : Kd.C Kd.string w A0_3 l0_3.length l0_3) (hc0_3 : l0_3.length ≤ c0_3) (h : legateref13_Valid.f k a0_0 l0_1 a0_2 l0_3 a0_4 a0_5 a0_6 = some r) :
    Calls Tryd.prog 16 #[.agg #[.string a0_0, .slice A0_1 l0_1.length c0_1, .int .i64 a0_2, .slice A0_3 l0_3.length c0_3, .string a0_4, .bool a0_5, .int .i64 a0_6]] w fun e w' => e = .returned (.bool r) ∧ Below w.heap.size w w' := by
  have hu25 := Tryd.underlying25
  have HR0_1 := Aside0.mk hr0_1
  have HC0_1 := Aside0.mk hc0_1
  clear hr0_1 hc0_1
  have HR0_3 := Aside0.mk hr0_3
  have HC0_3 := Aside0.mk hc0_3
  clear hr0_3 hc0_3
  have HB := Aside0.mk (Below.refl w.heap.size w)
  have H : ((legateref08_Name.f k a0_0).bind fun t186 => ((legateref08_Name.f k a0_4).bind fun t187 => (legateref13_Valid.l0 k t186 t187 0 a0_0 l0_1 a0_2 l0_3 a0_4 a0_5 a0_6))) = some r := h
  clear h
  replace H := Option.bind_eq_some_iff.mp H
  obtain ⟨t186, A20, H⟩ := H
  replace H : ((legateref08_Name.f k a0_4).bind fun t187 => (legateref13_Valid.l0 k t186 t187 0 a0_0 l0_1 a0_2 l0_3 a0_4 a0_5 a0_6)) = some r := H
  have A2 := Aside0.mk A20
  clear A20
  replace H := Option.bind_eq_some_iff.mp H
  obtain ⟨t187, A30, H⟩ := H
  replace H : (legateref13_Valid.l0 k t186 t187 0 a0_0 l0_1 a0_2 l0_3 a0_4 a0_5 a0_6) = some r := H
  have A3 := Aside0.mk A30
  clear A30
  have H' := Aside0.mk H
  clear H
  go_enter Tryd.func16, Tryd.ntmps16
  go_wp2_with (first | ((with_reducible refine gate_dst (N := 1) rfl ?_); (try (refine gate_guard (by rfl) ?_; dsimp only)); refine box_event ?hg (N := 1) ?hd (cs := #[.string a0_0, .slice A0_1 l0_1.length c0_1, .int .i64 a0_2, .slice A0_3 l0_3.length c0_3, .string a0_4, .bool a0_5, .int .i64 a0_6]) (t := 25) ?hr ?_; (case hd => rfl); (case hg => rfl); (case hr => first | (go_simp; done) | (go_simp; rfl)); intro gb185 hg w4 hbox hb; have n0_ := Aside0.mk (below_step (by repeat (first | (with_reducible first | exact HB.out | apply below_alloc | apply pw_below_drewN | apply below_drew1) | exact HB.out)) hb); have n1_ := Aside0.mk (hbox); have n2_ := Aside0.mk ((by rw [hg]; exact (below_size (by repeat (first | (with_reducible first | exact HB.out | apply below_alloc | apply pw_below_drewN | apply below_drew1) | exact HB.out))) : w.heap.size ≤ gb185)); have n3_ := Aside0.mk ((by rw [hg]; exact (below_size (by repeat (first | (with_reducible first | exact HB.out | apply below_alloc | apply pw_below_drewN | apply below_drew1) | exact HB.out))) : w.heap.size ≤ gb185)); clear HB; have HB := n0_; have BK185 := n1_; have GW185 := n2_; have GE185 := n3_; clear n0_ n1_ n2_ n3_; clear hb hbox hg; have hcz5_0 : w4.cell? ⟨gb185, 0, none⟩ = some (.string a0_0) := (blk_cell BK185.out 0).trans rfl; have hcz5_1 : w4.cell? ⟨gb185, 1, none⟩ = some (.slice A0_1 l0_1.length c0_1) := (blk_cell BK185.out 1).trans rfl; have hcz5_2 : w4.cell? ⟨gb185, 2, none⟩ = some (.int .i64 a0_2) := (blk_cell BK185.out 2).trans rfl; have hcz5_3 : w4.cell? ⟨gb185, 3, none⟩ = some (.slice A0_3 l0_3.length c0_3) := (blk_cell BK185.out 3).trans rfl; have hcz5_4 : w4.cell? ⟨gb185, 4, none⟩ = some (.string a0_4) := (blk_cell BK185.out 4).trans rfl; have hcz5_5 : w4.cell? ⟨gb185, 5, none⟩ = some (.bool a0_5) := (blk_cell BK185.out 5).trans rfl; have hcz5_6 : w4.cell? ⟨gb185, 6, none⟩ = some (.int .i64 a0_6) := (blk_cell BK185.out 6).trans rfl; have hfz5_0 := blk_frozen BK185.out 0; have hfz5_1 := blk_frozen BK185.out 1; have hfz5_2 := blk_frozen BK185.out 2; have hfz5_3 := blk_frozen BK185.out 3; have hfz5_4 := blk_frozen BK185.out 4; have hfz5_5 := blk_frozen BK185.out 5; have hfz5_6 := blk_frozen BK185.out 6) | ((with_reducible refine gate_callee (f := 42) rfl ?_); refine goesL_ (some 8) rfl rfl Tryd.func42 (by kernel_rfl) rfl #[.string a0_0] rfl (by (try simp only [List.map_toArray, List.map_cons, List.map_nil]); first | done | rfl | (simp only [List.length_drop, List.length_take]; rfl) | (exact congrArg Value.bool (decide_eq_decide.2 Int.ofNat_lt.symm)) | (exact congrArg (fun b => #[Value.bool b]) (decide_eq_decide.2 Int.ofNat_lt.symm)) | (simp; done)) ?_; (with_reducible refine (legateref08_Name.calls k a0_0 t186 _ A2.out).mono ?_); rintro e w' ⟨rfl, ⟨nd, rfl⟩⟩; refine ⟨_, rfl, ?_⟩) | ((with_reducible refine gate_callee (f := 42) rfl ?_); refine goesL_ (some 11) rfl rfl Tryd.func42 (by kernel_rfl) rfl #[.string a0_4] rfl (by (try simp only [List.map_toArray, List.map_cons, List.map_nil]); first | done | rfl | (simp only [List.length_drop, List.length_take]; rfl) | (exact congrArg Value.bool (decide_eq_decide.2 Int.ofNat_lt.symm)) | (exact congrArg (fun b => #[Value.bool b]) (decide_eq_decide.2 Int.ofNat_lt.symm)) | (simp; done)) ?_; (with_reducible refine (legateref08_Name.calls k a0_4 t187 _ A3.out).mono ?_); rintro e w' ⟨rfl, ⟨nd, rfl⟩⟩; refine ⟨_, rfl, ?_⟩))
  go_loopg [5] k (fun kq v5 w' => ∃ (x5_1 : Int), v5 = .int .i64 x5_1 ∧ Aside0 (legateref13_Valid.l0 kq t186 t187 x5_1 a0_0 l0_1 a0_2 l0_3 a0_4 a0_5 a0_6 = some r) ∧ Aside0 (kq ≤ k) ∧ Aside0 (w'.heap[gb185]? = some (.cells #[.string a0_0, (.slice A0_1 l0_1.length c0_1), .int .i64 a0_2, (.slice A0_3 l0_3.length c0_3), .string a0_4, .bool a0_5, .int .i64 a0_6] 25 (0, 0))) ∧ Aside0 (Below w.heap.size w w'))
  case atStart => exact ⟨(0), (by first | rfl | (simp; done) | (simp [*]; done) | (simp; exact isEmpty_ne _)), H', ⟨Nat.le_refl _⟩, ⟨by (with_reducible repeat (first | refine blk_drewN ?_ _ | refine blk_drew ?_ | refine blk_alloc ?_ _)); exact BK185.out⟩, ⟨by repeat (first | (with_reducible first | exact HB.out | apply below_alloc | apply pw_below_drewN | apply below_drew1 | refine below_set ?_ GE185.out) | exact HB.out)⟩⟩
  case round =>
    clear H'
    try clear c1
    try clear p2
    try clear c4
    try clear hcz5_0
    try clear hcz5_1
    try clear hcz5_2
    try clear hcz5_3
    try clear hcz5_4
    try clear hcz5_5
    try clear hcz5_6
    try clear hfz5_0
    try clear hfz5_1
    try clear hfz5_2
    try clear hfz5_3
    try clear hfz5_4
    try clear hfz5_5
    try clear hfz5_6
    obtain ⟨x5_1, rfl, HA, HK1, BK185, HB⟩ := hrel
    cases gk with
    | zero => exact absurd HA.out (by simp [legateref13_Valid.l0])
    | succ k1 =>
      have H := HA.out
      clear HA
      simp only [legateref13_Valid.l0] at H
      by_cases c6 : x5_1 < (l0_3.length : Int)
      · rw [if_pos c6] at H
        have c6b0 : decide (x5_1 < (l0_3.length : Int)) = true := decide_eq_true c6
        clear c6
        by_cases c7 : 0 ≤ x5_1
        · rw [if_pos c7] at H
          have c7b0 : decide (0 ≤ x5_1) = true := decide_eq_true c7
          clear c7
          replace H := Option.bind_eq_some_iff.mp H
          obtain ⟨t189, A80, H⟩ := H
          replace H : (if t189 = true then (legateref13_Valid.l0 k1 t186 t187 (wrap64 (x5_1 + 1)) a0_0 l0_1 a0_2 l0_3 a0_4 a0_5 a0_6) else (some false)) = some r := H
          have A8 := Aside0.mk A80
          clear A80
          by_cases c9 : t189 = true
          · subst c9
            have H1 : (legateref13_Valid.l0 k1 t186 t187 (wrap64 (x5_1 + 1)) a0_0 l0_1 a0_2 l0_3 a0_4 a0_5 a0_6) = some r := by rw [if_pos rfl] at H; exact H
            clear H
            have H := H1
            clear H1
            have H' := Aside0.mk H
            clear H
            have hcz10_0 : wr.cell? ⟨gb185, 0, none⟩ = some (.string a0_0) := (blk_cell BK185.out 0).trans rfl
            have hcz10_1 : wr.cell? ⟨gb185, 1, none⟩ = some (.slice A0_1 l0_1.length c0_1) := (blk_cell BK185.out 1).trans rfl
            have hcz10_2 : wr.cell? ⟨gb185, 2, none⟩ = some (.int .i64 a0_2) := (blk_cell BK185.out 2).trans rfl
            have hcz10_3 : wr.cell? ⟨gb185, 3, none⟩ = some (.slice A0_3 l0_3.length c0_3) := (blk_cell BK185.out 3).trans rfl
            have hcz10_4 : wr.cell? ⟨gb185, 4, none⟩ = some (.string a0_4) := (blk_cell BK185.out 4).trans rfl
            have hcz10_5 : wr.cell? ⟨gb185, 5, none⟩ = some (.bool a0_5) := (blk_cell BK185.out 5).trans rfl
            have hcz10_6 : wr.cell? ⟨gb185, 6, none⟩ = some (.int .i64 a0_6) := (blk_cell BK185.out 6).trans rfl
            have hfz10_0 := blk_frozen BK185.out 0
            have hfz10_1 := blk_frozen BK185.out 1
            have hfz10_2 := blk_frozen BK185.out 2
            have hfz10_3 := blk_frozen BK185.out 3
            have hfz10_4 := blk_frozen BK185.out 4
            have hfz10_5 := blk_frozen BK185.out 5
            have hfz10_6 := blk_frozen BK185.out 6
            have p188 : 0 ≤ (x5_1 : Int) := of_decide_eq_true (by first | (with_reducible assumption) | assumption)
            have q188 : x5_1 < (l0_3.length : Int) := of_decide_eq_true (by first | (with_reducible assumption) | assumption)
            obtain ⟨ad188, e188, hx188_0⟩ := Kd.at_string HR0_3.out x5_1 p188 q188
            cases e188
            replace hx188_0 := (HB.out.cell (World.block_lt_of_cell? w _ hx188_0)).trans hx188_0
            replace p188 := eq_true p188
            replace q188 := eq_true q188
            go_wp2_with (first | ((with_reducible refine gate_callee (f := 42) rfl ?_); refine goesL_ (some 24) rfl rfl Tryd.func42 (by kernel_rfl) rfl #[.string (rdOf ByteArray.empty l0_3 x5_1)] rfl (by (try simp only [List.map_toArray, List.map_cons, List.map_nil]); first | done | rfl | (simp only [List.length_drop, List.length_take]; rfl) | (exact congrArg Value.bool (decide_eq_decide.2 Int.ofNat_lt.symm)) | (exact congrArg (fun b => #[Value.bool b]) (decide_eq_decide.2 Int.ofNat_lt.symm)) | (simp; done)) ?_; (with_reducible refine (legateref08_Name.calls k1 (rdOf ByteArray.empty l0_3 x5_1) true _ A8.out).mono ?_); rintro e w' ⟨rfl, ⟨nd, rfl⟩⟩; refine ⟨_, rfl, ?_⟩))
            go_roundg k1
            case measure => have := HK1.out; omega
            case rel => exact ⟨(wrap64 (x5_1 + 1)), (by first | rfl | (simp; done) | (simp [*]; done) | (simp; exact isEmpty_ne _)), H', ⟨by have := HK1.out; omega⟩, ⟨by (with_reducible repeat (first | refine blk_drewN ?_ _ | refine blk_drew ?_ | refine blk_alloc ?_ _)); exact BK185.out⟩, ⟨by repeat (first | (with_reducible first | exact HB.out | apply below_alloc | apply pw_below_drewN | apply below_drew1 | refine below_set ?_ GE185.out) | exact HB.out)⟩⟩
          · replace c9 := Bool.eq_false_iff.mpr c9
            subst c9
            have H1 : (some false) = some r := by rw [if_neg (show ¬ (false = true) by decide)] at H; exact H
            clear H
            have H := H1
            clear H1
            obtain rfl := Option.some.inj H
            have hcz11_0 : wr.cell? ⟨gb185, 0, none⟩ = some (.string a0_0) := (blk_cell BK185.out 0).trans rfl
            have hcz11_1 : wr.cell? ⟨gb185, 1, none⟩ = some (.slice A0_1 l0_1.length c0_1) := (blk_cell BK185.out 1).trans rfl
            have hcz11_2 : wr.cell? ⟨gb185, 2, none⟩ = some (.int .i64 a0_2) := (blk_cell BK185.out 2).trans rfl
            have hcz11_3 : wr.cell? ⟨gb185, 3, none⟩ = some (.slice A0_3 l0_3.length c0_3) := (blk_cell BK185.out 3).trans rfl
            have hcz11_4 : wr.cell? ⟨gb185, 4, none⟩ = some (.string a0_4) := (blk_cell BK185.out 4).trans rfl
            have hcz11_5 : wr.cell? ⟨gb185, 5, none⟩ = some (.bool a0_5) := (blk_cell BK185.out 5).trans rfl
            have hcz11_6 : wr.cell? ⟨gb185, 6, none⟩ = some (.int .i64 a0_6) := (blk_cell BK185.out 6).trans rfl
            have hfz11_0 := blk_frozen BK185.out 0
            have hfz11_1 := blk_frozen BK185.out 1
            have hfz11_2 := blk_frozen BK185.out 2
            have hfz11_3 := blk_frozen BK185.out 3
            have hfz11_4 := blk_frozen BK185.out 4
            have hfz11_5 := blk_frozen BK185.out 5
            have hfz11_6 := blk_frozen BK185.out 6
            have p188 : 0 ≤ (x5_1 : Int) := of_decide_eq_true (by first | (with_reducible assumption) | assumption)
            have q188 : x5_1 < (l0_3.length : Int) := of_decide_eq_true (by first | (with_reducible assumption) | assumption)
            obtain ⟨ad188, e188, hx188_0⟩ := Kd.at_string HR0_3.out x5_1 p188 q188
            cases e188
            replace hx188_0 := (HB.out.cell (World.block_lt_of_cell? w _ hx188_0)).trans hx188_0
            replace p188 := eq_true p188
            replace q188 := eq_true q188
            go_wp2_with (first | ((with_reducible refine gate_callee (f := 42) rfl ?_); refine goesL_ (some 24) rfl rfl Tryd.func42 (by kernel_rfl) rfl #[.string (rdOf ByteArray.empty l0_3 x5_1)] rfl (by (try simp only [List.map_toArray, List.map_cons, List.map_nil]); first | done | rfl | (simp only [List.length_drop, List.length_take]; rfl) | (exact congrArg Value.bool (decide_eq_decide.2 Int.ofNat_lt.symm)) | (exact congrArg (fun b => #[Value.bool b]) (decide_eq_decide.2 Int.ofNat_lt.symm)) | (simp; done)) ?_; (with_reducible refine (legateref08_Name.calls k1 (rdOf ByteArray.empty l0_3 x5_1) false _ A8.out).mono ?_); rintro e w' ⟨rfl, ⟨nd, rfl⟩⟩; refine ⟨_, rfl, ?_⟩))
            go_ret
            exact ⟨by first | rfl | (simp [errW_none, errW_some] <;> rfl) | (simp [*, errW_none, errW_some] <;> rfl), by repeat (first | (with_reducible first | exact HB.out | apply below_alloc | apply pw_below_drewN | apply below_drew1 | refine below_set ?_ GE185.out) | exact HB.out)⟩
        · rw [if_neg c7] at H
          exact absurd H (by simp)
      · rw [if_neg c6] at H
        have c6b0 : decide (x5_1 < (l0_3.length : Int)) = false := decide_eq_false c6
        clear c6
        by_cases c12 : t186 = true
        · subst c12
          have H1 : (if t187 = true then (if (l0_1.length : Int) ≤ 20 then (if (l0_3.length : Int) ≤ 8 then (if a0_2 = 0 then (if a0_6 ≥ 0 then (some (decide (a0_6 ≤ 1099511627776))) else (some false)) else (if a0_2 = 1 then (if a0_6 ≥ 0 then (some (decide (a0_6 ≤ 1099511627776))) else (some false)) else (some false))) else (some false)) else (some false)) else (some false)) = some r := by rw [if_pos rfl] at H; exact H
          clear H
          have H := H1
          clear H1
          by_cases c13 : t187 = true
          · subst c13
            have H1 : (if (l0_1.length : Int) ≤ 20 then (if (l0_3.length : Int) ≤ 8 then (if a0_2 = 0 then (if a0_6 ≥ 0 then (some (decide (a0_6 ≤ 1099511627776))) else (some false)) else (if a0_2 = 1 then (if a0_6 ≥ 0 then (some (decide (a0_6 ≤ 1099511627776))) else (some false)) else (some false))) else (some false)) else (some false)) = some r := by rw [if_pos rfl] at H; exact H
            clear H
            have H := H1
            clear H1
            by_cases c14 : (l0_1.length : Int) ≤ 20
            · rw [if_pos c14] at H
              have c14b0 : decide ((l0_1.length : Int) ≤ 20) = true := decide_eq_true c14
              have c14b1 : decide (l0_1.length ≤ 20) = true := decide_eq_true (by omega)
              clear c14
              by_cases c15 : (l0_3.length : Int) ≤ 8
              · rw [if_pos c15] at H
                have c15b0 : decide ((l0_3.length : Int) ≤ 8) = true := decide_eq_true c15
                have c15b1 : decide (l0_3.length ≤ 8) = true := decide_eq_true (by omega)
                clear c15
                by_cases c16 : a0_2 = 0
                · rw [if_pos c16] at H
                  have c16b0 : (a0_2 == 0) = true := beq_iff_eq.mpr c16
                  have c16b1 : (a0_2 != 0) = false := bne_eq_false_iff_eq.mpr c16
                  clear c16
                  by_cases c17 : a0_6 ≥ 0
                  · rw [if_pos c17] at H
                    have c17b0 : decide (0 ≤ a0_6) = true := decide_eq_true c17
                    clear c17
                    obtain rfl := Option.some.inj H
                    have hcz18_0 : wr.cell? ⟨gb185, 0, none⟩ = some (.string a0_0) := (blk_cell BK185.out 0).trans rfl
                    have hcz18_1 : wr.cell? ⟨gb185, 1, none⟩ = some (.slice A0_1 l0_1.length c0_1) := (blk_cell BK185.out 1).trans rfl
                    have hcz18_2 : wr.cell? ⟨gb185, 2, none⟩ = some (.int .i64 a0_2) := (blk_cell BK185.out 2).trans rfl
                    have hcz18_3 : wr.cell? ⟨gb185, 3, none⟩ = some (.slice A0_3 l0_3.length c0_3) := (blk_cell BK185.out 3).trans rfl
                    have hcz18_4 : wr.cell? ⟨gb185, 4, none⟩ = some (.string a0_4) := (blk_cell BK185.out 4).trans rfl
                    have hcz18_5 : wr.cell? ⟨gb185, 5, none⟩ = some (.bool a0_5) := (blk_cell BK185.out 5).trans rfl
                    have hcz18_6 : wr.cell? ⟨gb185, 6, none⟩ = some (.int .i64 a0_6) := (blk_cell BK185.out 6).trans rfl
                    have hfz18_0 := blk_frozen BK185.out 0
                    have hfz18_1 := blk_frozen BK185.out 1
                    have hfz18_2 := blk_frozen BK185.out 2
                    have hfz18_3 := blk_frozen BK185.out 3
                    have hfz18_4 := blk_frozen BK185.out 4
                    have hfz18_5 := blk_frozen BK185.out 5
                    have hfz18_6 := blk_frozen BK185.out 6
                    go_wp2
                    go_ret
                    exact ⟨by first | rfl | (simp [errW_none, errW_some] <;> rfl) | (simp [*, errW_none, errW_some] <;> rfl), by repeat (first | (with_reducible first | exact HB.out | apply below_alloc | apply pw_below_drewN | apply below_drew1 | refine below_set ?_ GE185.out) | exact HB.out)⟩
                  · rw [if_neg c17] at H
                    have c17b0 : decide (0 ≤ a0_6) = false := decide_eq_false c17
                    clear c17
                    obtain rfl := Option.some.inj H
                    have hcz19_0 : wr.cell? ⟨gb185, 0, none⟩ = some (.string a0_0) := (blk_cell BK185.out 0).trans rfl
                    have hcz19_1 : wr.cell? ⟨gb185, 1, none⟩ = some (.slice A0_1 l0_1.length c0_1) := (blk_cell BK185.out 1).trans rfl
                    have hcz19_2 : wr.cell? ⟨gb185, 2, none⟩ = some (.int .i64 a0_2) := (blk_cell BK185.out 2).trans rfl
                    have hcz19_3 : wr.cell? ⟨gb185, 3, none⟩ = some (.slice A0_3 l0_3.length c0_3) := (blk_cell BK185.out 3).trans rfl
                    have hcz19_4 : wr.cell? ⟨gb185, 4, none⟩ = some (.string a0_4) := (blk_cell BK185.out 4).trans rfl
                    have hcz19_5 : wr.cell? ⟨gb185, 5, none⟩ = some (.bool a0_5) := (blk_cell BK185.out 5).trans rfl
                    have hcz19_6 : wr.cell? ⟨gb185, 6, none⟩ = some (.int .i64 a0_6) := (blk_cell BK185.out 6).trans rfl
                    have hfz19_0 := blk_frozen BK185.out 0
                    have hfz19_1 := blk_frozen BK185.out 1
                    have hfz19_2 := blk_frozen BK185.out 2
                    have hfz19_3 := blk_frozen BK185.out 3
                    have hfz19_4 := blk_frozen BK185.out 4
                    have hfz19_5 := blk_frozen BK185.out 5
                    have hfz19_6 := blk_frozen BK185.out 6
                    go_wp2
                    go_ret
                    exact ⟨by first | rfl | (simp [errW_none, errW_some] <;> rfl) | (simp [*, errW_none, errW_some] <;> rfl), by repeat (first | (with_reducible first | exact HB.out | apply below_alloc | apply pw_below_drewN | apply below_drew1 | refine below_set ?_ GE185.out) | exact HB.out)⟩
                · rw [if_neg c16] at H
                  have c16b0 : (a0_2 == 0) = false := beq_eq_false_iff_ne.mpr c16
                  have c16b1 : (a0_2 != 0) = true := bne_iff_ne.mpr c16
                  by_cases c20 : a0_2 = 1
                  · rw [if_pos c20] at H
                    have c20b0 : (a0_2 == 1) = true := beq_iff_eq.mpr c20
                    have c20b1 : (a0_2 != 1) = false := bne_eq_false_iff_eq.mpr c20
                    clear c20
                    by_cases c21 : a0_6 ≥ 0
                    · rw [if_pos c21] at H
                      have c21b0 : decide (0 ≤ a0_6) = true := decide_eq_true c21
                      clear c21
                      obtain rfl := Option.some.inj H
                      have hcz22_0 : wr.cell? ⟨gb185, 0, none⟩ = some (.string a0_0) := (blk_cell BK185.out 0).trans rfl
                      have hcz22_1 : wr.cell? ⟨gb185, 1, none⟩ = some (.slice A0_1 l0_1.length c0_1) := (blk_cell BK185.out 1).trans rfl
                      have hcz22_2 : wr.cell? ⟨gb185, 2, none⟩ = some (.int .i64 a0_2) := (blk_cell BK185.out 2).trans rfl
                      have hcz22_3 : wr.cell? ⟨gb185, 3, none⟩ = some (.slice A0_3 l0_3.length c0_3) := (blk_cell BK185.out 3).trans rfl
                      have hcz22_4 : wr.cell? ⟨gb185, 4, none⟩ = some (.string a0_4) := (blk_cell BK185.out 4).trans rfl
                      have hcz22_5 : wr.cell? ⟨gb185, 5, none⟩ = some (.bool a0_5) := (blk_cell BK185.out 5).trans rfl
                      have hcz22_6 : wr.cell? ⟨gb185, 6, none⟩ = some (.int .i64 a0_6) := (blk_cell BK185.out 6).trans rfl
                      have hfz22_0 := blk_frozen BK185.out 0
                      have hfz22_1 := blk_frozen BK185.out 1
                      have hfz22_2 := blk_frozen BK185.out 2
                      have hfz22_3 := blk_frozen BK185.out 3
                      have hfz22_4 := blk_frozen BK185.out 4
                      have hfz22_5 := blk_frozen BK185.out 5
                      have hfz22_6 := blk_frozen BK185.out 6
                      go_wp2
                      go_ret
                      exact ⟨by first | rfl | (simp [errW_none, errW_some] <;> rfl) | (simp [*, errW_none, errW_some] <;> rfl), by repeat (first | (with_reducible first | exact HB.out | apply below_alloc | apply pw_below_drewN | apply below_drew1 | refine below_set ?_ GE185.out) | exact HB.out)⟩
                    · rw [if_neg c21] at H
                      have c21b0 : decide (0 ≤ a0_6) = false := decide_eq_false c21
                      clear c21
                      obtain rfl := Option.some.inj H
                      have hcz23_0 : wr.cell? ⟨gb185, 0, none⟩ = some (.string a0_0) := (blk_cell BK185.out 0).trans rfl
                      have hcz23_1 : wr.cell? ⟨gb185, 1, none⟩ = some (.slice A0_1 l0_1.length c0_1) := (blk_cell BK185.out 1).trans rfl
                      have hcz23_2 : wr.cell? ⟨gb185, 2, none⟩ = some (.int .i64 a0_2) := (blk_cell BK185.out 2).trans rfl
                      have hcz23_3 : wr.cell? ⟨gb185, 3, none⟩ = some (.slice A0_3 l0_3.length c0_3) := (blk_cell BK185.out 3).trans rfl
                      have hcz23_4 : wr.cell? ⟨gb185, 4, none⟩ = some (.string a0_4) := (blk_cell BK185.out 4).trans rfl
                      have hcz23_5 : wr.cell? ⟨gb185, 5, none⟩ = some (.bool a0_5) := (blk_cell BK185.out 5).trans rfl
                      have hcz23_6 : wr.cell? ⟨gb185, 6, none⟩ = some (.int .i64 a0_6) := (blk_cell BK185.out 6).trans rfl
                      have hfz23_0 := blk_frozen BK185.out 0
                      have hfz23_1 := blk_frozen BK185.out 1
                      have hfz23_2 := blk_frozen BK185.out 2
                      have hfz23_3 := blk_frozen BK185.out 3
                      have hfz23_4 := blk_frozen BK185.out 4
                      have hfz23_5 := blk_frozen BK185.out 5
                      have hfz23_6 := blk_frozen BK185.out 6
                      go_wp2
                      go_ret
                      exact ⟨by first | rfl | (simp [errW_none, errW_some] <;> rfl) | (simp [*, errW_none, errW_some] <;> rfl), by repeat (first | (with_reducible first | exact HB.out | apply below_alloc | apply pw_below_drewN | apply below_drew1 | refine below_set ?_ GE185.out) | exact HB.out)⟩
                  · rw [if_neg c20] at H
                    have c20b0 : (a0_2 == 1) = false := beq_eq_false_iff_ne.mpr c20
                    have c20b1 : (a0_2 != 1) = true := bne_iff_ne.mpr c20
                    obtain rfl := Option.some.inj H
                    have hcz24_0 : wr.cell? ⟨gb185, 0, none⟩ = some (.string a0_0) := (blk_cell BK185.out 0).trans rfl
                    have hcz24_1 : wr.cell? ⟨gb185, 1, none⟩ = some (.slice A0_1 l0_1.length c0_1) := (blk_cell BK185.out 1).trans rfl
                    have hcz24_2 : wr.cell? ⟨gb185, 2, none⟩ = some (.int .i64 a0_2) := (blk_cell BK185.out 2).trans rfl
                    have hcz24_3 : wr.cell? ⟨gb185, 3, none⟩ = some (.slice A0_3 l0_3.length c0_3) := (blk_cell BK185.out 3).trans rfl
                    have hcz24_4 : wr.cell? ⟨gb185, 4, none⟩ = some (.string a0_4) := (blk_cell BK185.out 4).trans rfl
                    have hcz24_5 : wr.cell? ⟨gb185, 5, none⟩ = some (.bool a0_5) := (blk_cell BK185.out 5).trans rfl
                    have hcz24_6 : wr.cell? ⟨gb185, 6, none⟩ = some (.int .i64 a0_6) := (blk_cell BK185.out 6).trans rfl
                    have hfz24_0 := blk_frozen BK185.out 0
                    have hfz24_1 := blk_frozen BK185.out 1
                    have hfz24_2 := blk_frozen BK185.out 2
                    have hfz24_3 := blk_frozen BK185.out 3
                    have hfz24_4 := blk_frozen BK185.out 4
                    have hfz24_5 := blk_frozen BK185.out 5
                    have hfz24_6 := blk_frozen BK185.out 6
                    go_wp2
                    go_ret
                    exact ⟨by first | rfl | (simp [errW_none, errW_some] <;> rfl) | (simp [*, errW_none, errW_some] <;> rfl), by repeat (first | (with_reducible first | exact HB.out | apply below_alloc | apply pw_below_drewN | apply below_drew1 | refine below_set ?_ GE185.out) | exact HB.out)⟩
              · rw [if_neg c15] at H
                have c15b0 : decide ((l0_3.length : Int) ≤ 8) = false := decide_eq_false c15
                have c15b1 : decide (l0_3.length ≤ 8) = false := decide_eq_false (by omega)
                clear c15
                obtain rfl := Option.some.inj H
                have hcz25_0 : wr.cell? ⟨gb185, 0, none⟩ = some (.string a0_0) := (blk_cell BK185.out 0).trans rfl
                have hcz25_1 : wr.cell? ⟨gb185, 1, none⟩ = some (.slice A0_1 l0_1.length c0_1) := (blk_cell BK185.out 1).trans rfl
                have hcz25_2 : wr.cell? ⟨gb185, 2, none⟩ = some (.int .i64 a0_2) := (blk_cell BK185.out 2).trans rfl
                have hcz25_3 : wr.cell? ⟨gb185, 3, none⟩ = some (.slice A0_3 l0_3.length c0_3) := (blk_cell BK185.out 3).trans rfl
                have hcz25_4 : wr.cell? ⟨gb185, 4, none⟩ = some (.string a0_4) := (blk_cell BK185.out 4).trans rfl
                have hcz25_5 : wr.cell? ⟨gb185, 5, none⟩ = some (.bool a0_5) := (blk_cell BK185.out 5).trans rfl
                have hcz25_6 : wr.cell? ⟨gb185, 6, none⟩ = some (.int .i64 a0_6) := (blk_cell BK185.out 6).trans rfl
                have hfz25_0 := blk_frozen BK185.out 0
                have hfz25_1 := blk_frozen BK185.out 1
                have hfz25_2 := blk_frozen BK185.out 2
                have hfz25_3 := blk_frozen BK185.out 3
                have hfz25_4 := blk_frozen BK185.out 4
                have hfz25_5 := blk_frozen BK185.out 5
                have hfz25_6 := blk_frozen BK185.out 6
                go_wp2
                go_ret
                exact ⟨by first | rfl | (simp [errW_none, errW_some] <;> rfl) | (simp [*, errW_none, errW_some] <;> rfl), by repeat (first | (with_reducible first | exact HB.out | apply below_alloc | apply pw_below_drewN | apply below_drew1 | refine below_set ?_ GE185.out) | exact HB.out)⟩
            · rw [if_neg c14] at H
              have c14b0 : decide ((l0_1.length : Int) ≤ 20) = false := decide_eq_false c14
              have c14b1 : decide (l0_1.length ≤ 20) = false := decide_eq_false (by omega)
              clear c14
              obtain rfl := Option.some.inj H
              have hcz26_0 : wr.cell? ⟨gb185, 0, none⟩ = some (.string a0_0) := (blk_cell BK185.out 0).trans rfl
              have hcz26_1 : wr.cell? ⟨gb185, 1, none⟩ = some (.slice A0_1 l0_1.length c0_1) := (blk_cell BK185.out 1).trans rfl
              have hcz26_2 : wr.cell? ⟨gb185, 2, none⟩ = some (.int .i64 a0_2) := (blk_cell BK185.out 2).trans rfl
              have hcz26_3 : wr.cell? ⟨gb185, 3, none⟩ = some (.slice A0_3 l0_3.length c0_3) := (blk_cell BK185.out 3).trans rfl
              have hcz26_4 : wr.cell? ⟨gb185, 4, none⟩ = some (.string a0_4) := (blk_cell BK185.out 4).trans rfl
              have hcz26_5 : wr.cell? ⟨gb185, 5, none⟩ = some (.bool a0_5) := (blk_cell BK185.out 5).trans rfl
              have hcz26_6 : wr.cell? ⟨gb185, 6, none⟩ = some (.int .i64 a0_6) := (blk_cell BK185.out 6).trans rfl
              have hfz26_0 := blk_frozen BK185.out 0
              have hfz26_1 := blk_frozen BK185.out 1
              have hfz26_2 := blk_frozen BK185.out 2
              have hfz26_3 := blk_frozen BK185.out 3
              have hfz26_4 := blk_frozen BK185.out 4
              have hfz26_5 := blk_frozen BK185.out 5
              have hfz26_6 := blk_frozen BK185.out 6
              go_wp2
              go_ret
              exact ⟨by first | rfl | (simp [errW_none, errW_some] <;> rfl) | (simp [*, errW_none, errW_some] <;> rfl), by repeat (first | (with_reducible first | exact HB.out | apply below_alloc | apply pw_below_drewN | apply below_drew1 | refine below_set ?_ GE185.out) | exact HB.out)⟩
          · replace c13 := Bool.eq_false_iff.mpr c13
            subst c13
            have H1 : (some false) = some r := by rw [if_neg (show ¬ (false = true) by decide)] at H; exact H
            clear H
            have H := H1
            clear H1
            obtain rfl := Option.some.inj H
            have hcz27_0 : wr.cell? ⟨gb185, 0, none⟩ = some (.string a0_0) := (blk_cell BK185.out 0).trans rfl
            have hcz27_1 : wr.cell? ⟨gb185, 1, none⟩ = some (.slice A0_1 l0_1.length c0_1) := (blk_cell BK185.out 1).trans rfl
            have hcz27_2 : wr.cell? ⟨gb185, 2, none⟩ = some (.int .i64 a0_2) := (blk_cell BK185.out 2).trans rfl
            have hcz27_3 : wr.cell? ⟨gb185, 3, none⟩ = some (.slice A0_3 l0_3.length c0_3) := (blk_cell BK185.out 3).trans rfl
            have hcz27_4 : wr.cell? ⟨gb185, 4, none⟩ = some (.string a0_4) := (blk_cell BK185.out 4).trans rfl
            have hcz27_5 : wr.cell? ⟨gb185, 5, none⟩ = some (.bool a0_5) := (blk_cell BK185.out 5).trans rfl
            have hcz27_6 : wr.cell? ⟨gb185, 6, none⟩ = some (.int .i64 a0_6) := (blk_cell BK185.out 6).trans rfl
            have hfz27_0 := blk_frozen BK185.out 0
            have hfz27_1 := blk_frozen BK185.out 1
            have hfz27_2 := blk_frozen BK185.out 2
            have hfz27_3 := blk_frozen BK185.out 3
            have hfz27_4 := blk_frozen BK185.out 4
            have hfz27_5 := blk_frozen BK185.out 5
            have hfz27_6 := blk_frozen BK185.out 6
            go_wp2
            go_ret
            exact ⟨by first | rfl | (simp [errW_none, errW_some] <;> rfl) | (simp [*, errW_none, errW_some] <;> rfl), by repeat (first | (with_reducible first | exact HB.out | apply below_alloc | apply pw_below_drewN | apply below_drew1 | refine below_set ?_ GE185.out) | exact HB.out)⟩
        · replace c12 := Bool.eq_false_iff.mpr c12
          subst c12
          have H1 : (some false) = some r := by rw [if_neg (show ¬ (false = true) by decide)] at H; exact H
          clear H
          have H := H1
          clear H1
          obtain rfl := Option.some.inj H
          have hcz28_0 : wr.cell? ⟨gb185, 0, none⟩ = some (.string a0_0) := (blk_cell BK185.out 0).trans rfl
          have hcz28_1 : wr.cell? ⟨gb185, 1, none⟩ = some (.slice A0_1 l0_1.length c0_1) := (blk_cell BK185.out 1).trans rfl
          have hcz28_2 : wr.cell? ⟨gb185, 2, none⟩ = some (.int .i64 a0_2) := (blk_cell BK185.out 2).trans rfl
          have hcz28_3 : wr.cell? ⟨gb185, 3, none⟩ = some (.slice A0_3 l0_3.length c0_3) := (blk_cell BK185.out 3).trans rfl
          have hcz28_4 : wr.cell? ⟨gb185, 4, none⟩ = some (.string a0_4) := (blk_cell BK185.out 4).trans rfl
          have hcz28_5 : wr.cell? ⟨gb185, 5, none⟩ = some (.bool a0_5) := (blk_cell BK185.out 5).trans rfl
          have hcz28_6 : wr.cell? ⟨gb185, 6, none⟩ = some (.int .i64 a0_6) := (blk_cell BK185.out 6).trans rfl
          have hfz28_0 := blk_frozen BK185.out 0
          have hfz28_1 := blk_frozen BK185.out 1
          have hfz28_2 := blk_frozen BK185.out 2
          have hfz28_3 := blk_frozen BK185.out 3
          have hfz28_4 := blk_frozen BK185.out 4
          have hfz28_5 := blk_frozen BK185.out 5
          have hfz28_6 := blk_frozen BK185.out 6
          go_wp2
          go_ret
          exact ⟨by first | rfl | (simp [errW_none, errW_some] <;> rfl) | (simp [*, errW_none, errW_some] <;> rfl), by repeat (first | (with_reducible first | exact HB.out | apply below_alloc | apply pw_below_drewN | apply below_drew1 | refine below_set ?_ GE185.out) | exact HB.out)⟩
def legateref08_Sum.f (a0_0 : Int) (a0_1 : ByteArray) (a0_2 : Int) (l0_3 : List (S29)) (a1 : Int) (a2_0 : Int) (a2_1 : ByteArray) (a2_2 : Int) (l2_3 : List (S29)) : Option (Int × ByteArray × Int × (List (S29))) := some (5, (⟨#[]⟩ : ByteArray), a1, (([(⟨a0_0, a0_1, a0_2, l0_3⟩ : S29), (⟨a2_0, a2_1, a2_2, l2_3⟩ : S29)] : List (S29))))
set_option maxHeartbeats 8000000 in
set_option maxRecDepth 100000 in
theorem legateref08_Sum.calls (a0_0 : Int) (a0_1 : ByteArray) (a0_2 : Int) (P0_3_ : Nat → Prop) (A0_3 : Option Addr) (c0_3 : Nat) (l0_3 : List (S29)) (a1 : Int) (a2_0 : Int) (a2_1 : ByteArray) (a2_2 : Int) (P2_3_ : Nat → Prop) (A2_3 : Option Addr) (c2_3 : Nat) (l2_3 : List (S29)) (r1 : Int) (r2 : ByteArray) (r3 : Int) (r4 : List (S29)) (w : World) (hs0_3 : Kd.V k29 29 w w.heap.size (fun k_ => P0_3_ k_) (.slice A0_3 l0_3.length c0_3) l0_3) (hs2_3 : Kd.V k29 29 w w.heap.size (fun k_ => P2_3_ k_) (.slice A2_3 l2_3.length c2_3) l2_3) (h : legateref08_Sum.f a0_0 a0_1 a0_2 l0_3 a1 a2_0 a2_1 a2_2 l2_3 = some (r1, r2, r3, r4)) :
    Calls Tryd.prog 29 #[.agg #[.int .i64 a0_0, .string a0_1, .int .i64 a0_2, .slice A0_3 l0_3.length c0_3], .int .i64 a1, .agg #[.int .i64 a2_0, .string a2_1, .int .i64 a2_2, .slice A2_3 l2_3.length c2_3]] w fun e w' => ∃ v3_ : Value, e = .returned (.agg #[.int .i64 r1, .string r2, .int .i64 r3, v3_]) ∧ Kd.N k29 29 w' w.heap.size (fun k_ => ((P0_3_ k_ ∨ P2_3_ k_) ∨ w.heap.size ≤ k_)) v3_ r4 ∧ Below w.heap.size w w' := by
  have hu29 := Tryd.underlying29
  have HO0_3 := Aside0.mk (show Kd.V k29 29 w w.heap.size (fun k_ => ((P0_3_ k_ ∨ P2_3_ k_) ∨ w.heap.size ≤ k_)) (.slice A0_3 l0_3.length c0_3) l0_3 from Kd.V_mono hs0_3 (fun k_ hk => .inl (.inl hk)))
  have HO2_3 := Aside0.mk (show Kd.V k29 29 w w.heap.size (fun k_ => ((P0_3_ k_ ∨ P2_3_ k_) ∨ w.heap.size ≤ k_)) (.slice A2_3 l2_3.length c2_3) l2_3 from Kd.V_mono hs2_3 (fun k_ hk => .inl (.inr hk)))
  have HB := Aside0.mk (Below.refl w.heap.size w)
  have H : (some (5, (⟨#[]⟩ : ByteArray), a1, (([(⟨a0_0, a0_1, a0_2, l0_3⟩ : S29), (⟨a2_0, a2_1, a2_2, l2_3⟩ : S29)] : List (S29))))) = some (r1, r2, r3, r4) := h
  clear h
  obtain ⟨y193, hy193⟩ : ∃ y_ : List (S29), y_ = (([(⟨a0_0, a0_1, a0_2, l0_3⟩ : S29), (⟨a2_0, a2_1, a2_2, l2_3⟩ : S29)] : List (S29))) := ⟨_, rfl⟩
  replace H : (some (5, (⟨#[]⟩ : ByteArray), a1, y193)) = some (r1, r2, r3, r4) := by first | (rw [hy193]; with_reducible exact H) | (have H2_ := (Option.bind_some _ _).symm.trans H; rw [hy193]; with_reducible exact H2_) | (have H2_ := (Option.bind_some _ _).symm.trans H; with_reducible exact H2_) | with_reducible exact H | (rw [hy193]; exact H) | exact H
  have Ny193 := Aside0.mk hy193
  clear hy193
  simp only [Option.some.injEq, Prod.mk.injEq] at H
  obtain ⟨rfl, rfl, rfl, rfl⟩ := H
  go_enter Tryd.func29, Tryd.ntmps29
  go_wp2_with (first | ((with_reducible refine gate_dst (N := 3) rfl ?_); refine box_event ?hg (N := 3) ?hd (cs := #[.int .i64 a0_0, .string a0_1, .int .i64 a0_2, .slice A0_3 l0_3.length c0_3]) (t := 29) ?hr ?_; (case hd => rfl); (case hg => rfl); (case hr => first | (go_simp; done) | (go_simp; rfl)); intro gb190 hg w4 hbox hb; have n0_ := Aside0.mk (Kd.V_below (Kd.V_elderB (by (with_reducible repeat (first | apply Kd.V_alloc | apply Kd.V_drewN | apply Kd.V_drew)); exact HO0_3.out) gb190 (Nat.le_of_eq hg.symm)) hb); have n1_ := Aside0.mk (Kd.V_below (Kd.V_elderB (by (with_reducible repeat (first | apply Kd.V_alloc | apply Kd.V_drewN | apply Kd.V_drew)); exact HO2_3.out) gb190 (Nat.le_of_eq hg.symm)) hb); have n2_ := Aside0.mk (below_step (by repeat (first | (with_reducible first | exact HB.out | apply below_alloc | apply pw_below_drewN | apply below_drew1) | exact HB.out)) hb); have n3_ := Aside0.mk (hbox); have n4_ := Aside0.mk ((by rw [hg]; exact (below_size (by repeat (first | (with_reducible first | exact HB.out | apply below_alloc | apply pw_below_drewN | apply below_drew1) | exact HB.out))) : w.heap.size ≤ gb190)); have n5_ := Aside0.mk ((by rw [hg]; exact (below_size (by repeat (first | (with_reducible first | exact HB.out | apply below_alloc | apply pw_below_drewN | apply below_drew1) | exact HB.out))) : w.heap.size ≤ gb190)); clear HO0_3; clear HO2_3; clear HB; have HO0_3 := n0_; have HO2_3 := n1_; have HB := n2_; have BK190 := n3_; have GW190 := n4_; have GE190 := n5_; clear n0_ n1_ n2_ n3_ n4_ n5_; clear hb hbox hg) | ((with_reducible refine gate_dst (N := 5) rfl ?_); refine box_event ?hg (N := 5) ?hd (cs := #[.int .i64 a2_0, .string a2_1, .int .i64 a2_2, .slice A2_3 l2_3.length c2_3]) (t := 29) ?hr ?_; (case hd => rfl); (case hg => rfl); (case hr => first | (go_simp; done) | (go_simp; rfl)); intro gb191 hg w5 hbox hb; have n0_ := Aside0.mk (Kd.V_below (Kd.V_elderB (by (with_reducible repeat (first | apply Kd.V_alloc | apply Kd.V_drewN | apply Kd.V_drew)); exact HO0_3.out) gb191 (Nat.le_of_eq hg.symm)) hb); have n1_ := Aside0.mk (Kd.V_below (Kd.V_elderB (by (with_reducible repeat (first | apply Kd.V_alloc | apply Kd.V_drewN | apply Kd.V_drew)); exact HO2_3.out) gb191 (Nat.le_of_eq hg.symm)) hb); have n2_ := Aside0.mk (blk_below (g := gb190) (o := .cells #[.int .i64 a0_0, .string a0_1, .int .i64 a0_2, .slice A0_3 l0_3.length c0_3] 29 (0, 0)) (by (with_reducible repeat (first | refine blk_drewN ?_ _ | refine blk_drew ?_ | refine blk_alloc ?_ _)); exact BK190.out) hb); have n3_ := Aside0.mk (below_step (by repeat (first | (with_reducible first | exact HB.out | apply below_alloc | apply pw_below_drewN | apply below_drew1 | refine below_set ?_ GE190.out) | exact HB.out)) hb); have n4_ := Aside0.mk (hbox); have n5_ := Aside0.mk ((by rw [hg]; exact (below_size (by repeat (first | (with_reducible first | exact HB.out | apply below_alloc | apply pw_below_drewN | apply below_drew1 | refine below_set ?_ GE190.out) | exact HB.out))) : w.heap.size ≤ gb191)); have n6_ := Aside0.mk ((by rw [hg]; exact (below_size (by repeat (first | (with_reducible first | exact HB.out | apply below_alloc | apply pw_below_drewN | apply below_drew1 | refine below_set ?_ GE190.out) | exact HB.out))) : w.heap.size ≤ gb191)); have n7_ := Aside0.mk ((by rw [hg]; exact Nat.ne_of_lt (blk_lt (g := gb190) (o := .cells #[.int .i64 a0_0, .string a0_1, .int .i64 a0_2, .slice A0_3 l0_3.length c0_3] 29 (0, 0)) (by (with_reducible repeat (first | refine blk_drewN ?_ _ | refine blk_drew ?_ | refine blk_alloc ?_ _)); exact BK190.out)) : gb190 ≠ gb191)); have n8_ := Aside0.mk ((by rw [hg]; exact Nat.ne_of_gt (blk_lt (g := gb190) (o := .cells #[.int .i64 a0_0, .string a0_1, .int .i64 a0_2, .slice A0_3 l0_3.length c0_3] 29 (0, 0)) (by (with_reducible repeat (first | refine blk_drewN ?_ _ | refine blk_drew ?_ | refine blk_alloc ?_ _)); exact BK190.out)) : gb191 ≠ gb190)); clear HO0_3; clear HO2_3; clear BK190; clear HB; have HO0_3 := n0_; have HO2_3 := n1_; have BK190 := n2_; have HB := n3_; have BK191 := n4_; have GW191 := n5_; have GE191 := n6_; have NB190_191 := n7_; have NB191_190 := n8_; clear n0_ n1_ n2_ n3_ n4_ n5_ n6_ n7_ n8_; clear hb hbox hg) | ((with_reducible refine gate_dst (N := 6) rfl ?_); refine box_event ?hg (N := 6) ?hd (cs := #[.int .i64 0, .string (⟨#[]⟩ : ByteArray), .int .i64 0, .slice none 0 0]) (t := 29) ?hr ?_; (case hd => rfl); (case hg => rfl); (case hr => first | (go_simp; done) | (go_simp; rfl)); intro gb192 hg w6 hbox hb; have n0_ := Aside0.mk (Kd.V_below (Kd.V_elderB (by (with_reducible repeat (first | apply Kd.V_alloc | apply Kd.V_drewN | apply Kd.V_drew)); exact HO0_3.out) gb192 (Nat.le_of_eq hg.symm)) hb); have n1_ := Aside0.mk (Kd.V_below (Kd.V_elderB (by (with_reducible repeat (first | apply Kd.V_alloc | apply Kd.V_drewN | apply Kd.V_drew)); exact HO2_3.out) gb192 (Nat.le_of_eq hg.symm)) hb); have n2_ := Aside0.mk (blk_below (g := gb190) (o := .cells #[.int .i64 a0_0, .string a0_1, .int .i64 a0_2, .slice A0_3 l0_3.length c0_3] 29 (0, 0)) (by (with_reducible repeat (first | refine blk_drewN ?_ _ | refine blk_drew ?_ | refine blk_alloc ?_ _)); exact BK190.out) hb); have n3_ := Aside0.mk (blk_below (g := gb191) (o := .cells #[.int .i64 a2_0, .string a2_1, .int .i64 a2_2, .slice A2_3 l2_3.length c2_3] 29 (0, 0)) (by (with_reducible repeat (first | refine blk_drewN ?_ _ | refine blk_drew ?_ | refine blk_alloc ?_ _)); exact BK191.out) hb); have n4_ := Aside0.mk (below_step (by repeat (first | (with_reducible first | exact HB.out | apply below_alloc | apply pw_below_drewN | apply below_drew1 | refine below_set ?_ GE190.out | refine below_set ?_ GE191.out) | exact HB.out)) hb); have n5_ := Aside0.mk (hbox); have n6_ := Aside0.mk ((by rw [hg]; exact (below_size (by repeat (first | (with_reducible first | exact HB.out | apply below_alloc | apply pw_below_drewN | apply below_drew1 | refine below_set ?_ GE190.out | refine below_set ?_ GE191.out) | exact HB.out))) : w.heap.size ≤ gb192)); have n7_ := Aside0.mk ((by rw [hg]; exact (below_size (by repeat (first | (with_reducible first | exact HB.out | apply below_alloc | apply pw_below_drewN | apply below_drew1 | refine below_set ?_ GE190.out | refine below_set ?_ GE191.out) | exact HB.out))) : w.heap.size ≤ gb192)); have n8_ := Aside0.mk ((by rw [hg]; exact Nat.ne_of_lt (blk_lt (g := gb190) (o := .cells #[.int .i64 a0_0, .string a0_1, .int .i64 a0_2, .slice A0_3 l0_3.length c0_3] 29 (0, 0)) (by (with_reducible repeat (first | refine blk_drewN ?_ _ | refine blk_drew ?_ | refine blk_alloc ?_ _)); exact BK190.out)) : gb190 ≠ gb192)); have n9_ := Aside0.mk ((by rw [hg]; exact Nat.ne_of_gt (blk_lt (g := gb190) (o := .cells #[.int .i64 a0_0, .string a0_1, .int .i64 a0_2, .slice A0_3 l0_3.length c0_3] 29 (0, 0)) (by (with_reducible repeat (first | refine blk_drewN ?_ _ | refine blk_drew ?_ | refine blk_alloc ?_ _)); exact BK190.out)) : gb192 ≠ gb190)); have n10_ := Aside0.mk ((by rw [hg]; exact Nat.ne_of_lt (blk_lt (g := gb191) (o := .cells #[.int .i64 a2_0, .string a2_1, .int .i64 a2_2, .slice A2_3 l2_3.length c2_3] 29 (0, 0)) (by (with_reducible repeat (first | refine blk_drewN ?_ _ | refine blk_drew ?_ | refine blk_alloc ?_ _)); exact BK191.out)) : gb191 ≠ gb192)); have n11_ := Aside0.mk ((by rw [hg]; exact Nat.ne_of_gt (blk_lt (g := gb191) (o := .cells #[.int .i64 a2_0, .string a2_1, .int .i64 a2_2, .slice A2_3 l2_3.length c2_3] 29 (0, 0)) (by (with_reducible repeat (first | refine blk_drewN ?_ _ | refine blk_drew ?_ | refine blk_alloc ?_ _)); exact BK191.out)) : gb192 ≠ gb191)); clear HO0_3; clear HO2_3; clear BK190; clear BK191; clear HB; have HO0_3 := n0_; have HO2_3 := n1_; have BK190 := n2_; have BK191 := n3_; have HB := n4_; have BK192 := n5_; have GW192 := n6_; have GE192 := n7_; have NB190_192 := n8_; have NB192_190 := n9_; have NB191_192 := n10_; have NB192_191 := n11_; clear n0_ n1_ n2_ n3_ n4_ n5_ n6_ n7_ n8_ n9_ n10_ n11_; clear hb hbox hg; have hnb7 := NB190_191.out; have hnc7 := NB191_190.out; have hnb8 := NB190_192.out; have hnc8 := NB192_190.out; have hcz9_0 : w6.cell? ⟨gb190, 0, none⟩ = some (.int .i64 a0_0) := (blk_cell BK190.out 0).trans rfl; have hcz9_1 : w6.cell? ⟨gb190, 1, none⟩ = some (.string a0_1) := (blk_cell BK190.out 1).trans rfl; have hcz9_2 : w6.cell? ⟨gb190, 2, none⟩ = some (.int .i64 a0_2) := (blk_cell BK190.out 2).trans rfl; have hcz9_3 : w6.cell? ⟨gb190, 3, none⟩ = some (.slice A0_3 l0_3.length c0_3) := (blk_cell BK190.out 3).trans rfl; have hfz9_0 := blk_frozen BK190.out 0; have hfz9_1 := blk_frozen BK190.out 1; have hfz9_2 := blk_frozen BK190.out 2; have hfz9_3 := blk_frozen BK190.out 3; have hnb10 := NB191_192.out; have hnc10 := NB192_191.out; have hcz11_0 : w6.cell? ⟨gb191, 0, none⟩ = some (.int .i64 a2_0) := (blk_cell BK191.out 0).trans rfl; have hcz11_1 : w6.cell? ⟨gb191, 1, none⟩ = some (.string a2_1) := (blk_cell BK191.out 1).trans rfl; have hcz11_2 : w6.cell? ⟨gb191, 2, none⟩ = some (.int .i64 a2_2) := (blk_cell BK191.out 2).trans rfl; have hcz11_3 : w6.cell? ⟨gb191, 3, none⟩ = some (.slice A2_3 l2_3.length c2_3) := (blk_cell BK191.out 3).trans rfl; have hfz11_0 := blk_frozen BK191.out 0; have hfz11_1 := blk_frozen BK191.out 1; have hfz11_2 := blk_frozen BK191.out 2; have hfz11_3 := blk_frozen BK191.out 3) | ((with_reducible refine gate_dst (N := 10) rfl ?_); refine Kd.N_lit k29 _ 29 ?hg (N' := 10) ?hd (xs := ([(⟨a0_0, a0_1, a0_2, l0_3⟩ : S29), (⟨a2_0, a2_1, a2_2, l2_3⟩ : S29)] : List (S29))) (inner := [.int .i64 a0_0, .string a0_1, .int .i64 a0_2, .slice A0_3 l0_3.length c0_3, .int .i64 a2_0, .string a2_1, .int .i64 a2_2, .slice A2_3 l2_3.length c2_3]) (ok := (fun k_ => ((P0_3_ k_ ∨ P2_3_ k_) ∨ w.heap.size ≤ k_) ∧ k_ ≠ gb190 ∧ k_ ≠ gb191 ∧ k_ ≠ gb192)) (okp := (fun k_ => ((P0_3_ k_ ∨ P2_3_ k_) ∨ w.heap.size ≤ k_) ∧ k_ ≠ gb190 ∧ k_ ≠ gb191 ∧ k_ ≠ gb192)) ?hr ?hp (fun _ hk => hk) ((show ∀ k_, w6.heap.size ≤ k_ → (fun k_ => ((P0_3_ k_ ∨ P2_3_ k_) ∨ w.heap.size ≤ k_) ∧ k_ ≠ gb190 ∧ k_ ≠ gb191 ∧ k_ ≠ gb192) k_ from fun k_ hk => ⟨(.inr (Nat.le_trans (below_size (by repeat (first | (with_reducible first | exact HB.out | apply below_alloc | apply pw_below_drewN | apply below_drew1 | refine below_set ?_ GE190.out | refine below_set ?_ GE191.out | refine below_set ?_ GE192.out) | exact HB.out))) hk)), Kd.freshB (g := gb190) (o := .cells #[.int .i64 a0_0, .string a0_1, .int .i64 a0_2, .slice A0_3 l0_3.length c0_3] 29 (0, 0)) (by (with_reducible repeat (first | refine blk_drewN ?_ _ | refine blk_drew ?_ | refine blk_alloc ?_ _)); exact BK190.out) k_ hk, Kd.freshB (g := gb191) (o := .cells #[.int .i64 a2_0, .string a2_1, .int .i64 a2_2, .slice A2_3 l2_3.length c2_3] 29 (0, 0)) (by (with_reducible repeat (first | refine blk_drewN ?_ _ | refine blk_drew ?_ | refine blk_alloc ?_ _)); exact BK191.out) k_ hk, Kd.freshB (g := gb192) (o := .cells #[.int .i64 0, .string (⟨#[]⟩ : ByteArray), .int .i64 0, .slice none 0 0] 29 (0, 0)) (by (with_reducible repeat (first | refine blk_drewN ?_ _ | refine blk_drew ?_ | refine blk_alloc ?_ _)); exact BK192.out) k_ hk⟩) _ (Nat.le_refl _)) (Below.refl _ _) (Nat.le_refl _) (by simp) ?_; (case hd => rfl); (case hg => rfl); (case hr => first | (go_simp; done) | (go_simp; rfl)); (case hp => exact (Reps.c4 (show Kd.FK k29 _ _ (⟨a0_0, a0_1, a0_2, l0_3⟩ : S29) [.int .i64 a0_0, .string a0_1, .int .i64 a0_2, .slice A0_3 l0_3.length c0_3] from (k29_mkF _ _ (⟨a0_0, a0_1, a0_2, l0_3⟩ : S29) (Kd.V_reads' (Kd.V_mono (ok' := (fun k_ => ((P0_3_ k_ ∨ P2_3_ k_) ∨ w.heap.size ≤ k_) ∧ k_ ≠ gb190 ∧ k_ ≠ gb191 ∧ k_ ≠ gb192)) (HO0_3.out) (fun k_ hk => ⟨hk.1.1.1, ⟨hk.1.1.2, ⟨hk.1.2, hk.2⟩⟩⟩))).2.1 (Kd.V_F (Kd.V_mono (ok' := (fun k_ => ((P0_3_ k_ ∨ P2_3_ k_) ∨ w.heap.size ≤ k_) ∧ k_ ≠ gb190 ∧ k_ ≠ gb191 ∧ k_ ≠ gb192)) (HO0_3.out) (fun k_ hk => ⟨hk.1.1.1, ⟨hk.1.1.2, ⟨hk.1.2, hk.2⟩⟩⟩))))) (Reps.c4 (show Kd.FK k29 _ _ (⟨a2_0, a2_1, a2_2, l2_3⟩ : S29) [.int .i64 a2_0, .string a2_1, .int .i64 a2_2, .slice A2_3 l2_3.length c2_3] from (k29_mkF _ _ (⟨a2_0, a2_1, a2_2, l2_3⟩ : S29) (Kd.V_reads' (Kd.V_mono (ok' := (fun k_ => ((P0_3_ k_ ∨ P2_3_ k_) ∨ w.heap.size ≤ k_) ∧ k_ ≠ gb190 ∧ k_ ≠ gb191 ∧ k_ ≠ gb192)) (HO2_3.out) (fun k_ hk => ⟨hk.1.1.1, ⟨hk.1.1.2, ⟨hk.1.2, hk.2⟩⟩⟩))).2.1 (Kd.V_F (Kd.V_mono (ok' := (fun k_ => ((P0_3_ k_ ∨ P2_3_ k_) ∨ w.heap.size ≤ k_) ∧ k_ ≠ gb190 ∧ k_ ≠ gb191 ∧ k_ ≠ gb192)) (HO2_3.out) (fun k_ hk => ⟨hk.1.1.1, ⟨hk.1.1.2, ⟨hk.1.2, hk.2⟩⟩⟩))))) (Reps.none _ _)))); intro v194 w12 ho13 hb hg_ hnew_; clear hg_ hnew_; (first | rw [← Ny193.out] at ho13 | (simp only [Int.reduceToNat] at ho13; rw [← Ny193.out] at ho13)); have n0_ := Aside0.mk (Kd.V_elder' (by (with_reducible repeat (first | apply Kd.V_alloc | apply Kd.V_drewN | apply Kd.V_drew)); exact HO0_3.out) (Kd.N_base ho13) hb); have n1_ := Aside0.mk (Kd.V_elder' (by (with_reducible repeat (first | apply Kd.V_alloc | apply Kd.V_drewN | apply Kd.V_drew)); exact HO2_3.out) (Kd.N_base ho13) hb); have n2_ := Aside0.mk (Kd.N_lower ho13 (below_size (by repeat (first | (with_reducible first | exact HB.out | apply below_alloc | apply pw_below_drewN | apply below_drew1 | refine below_set ?_ GE190.out | refine below_set ?_ GE191.out | refine below_set ?_ GE192.out) | exact HB.out)))); have n3_ := Aside0.mk (blk_below (g := gb190) (o := .cells #[.int .i64 a0_0, .string a0_1, .int .i64 a0_2, .slice A0_3 l0_3.length c0_3] 29 (0, 0)) (by (with_reducible repeat (first | refine blk_drewN ?_ _ | refine blk_drew ?_ | refine blk_alloc ?_ _)); exact BK190.out) hb); have n4_ := Aside0.mk (blk_below (g := gb191) (o := .cells #[.int .i64 a2_0, .string a2_1, .int .i64 a2_2, .slice A2_3 l2_3.length c2_3] 29 (0, 0)) (by (with_reducible repeat (first | refine blk_drewN ?_ _ | refine blk_drew ?_ | refine blk_alloc ?_ _)); exact BK191.out) hb); have n5_ := Aside0.mk (blk_below (g := gb192) (o := .cells #[.int .i64 0, .string (⟨#[]⟩ : ByteArray), .int .i64 0, .slice none 0 0] 29 (0, 0)) (by (with_reducible repeat (first | refine blk_drewN ?_ _ | refine blk_drew ?_ | refine blk_alloc ?_ _)); exact BK192.out) hb); have n6_ := Aside0.mk (below_step (by repeat (first | (with_reducible first | exact HB.out | apply below_alloc | apply pw_below_drewN | apply below_drew1 | refine below_set ?_ GE190.out | refine below_set ?_ GE191.out | refine below_set ?_ GE192.out) | exact HB.out)) hb); clear HO0_3; clear HO2_3; clear BK190; clear BK191; clear BK192; clear HB; have HO0_3 := n0_; have HO2_3 := n1_; have HO195 := n2_; have BK190 := n3_; have BK191 := n4_; have BK192 := n5_; have HB := n6_; clear n0_ n1_ n2_ n3_ n4_ n5_ n6_; clear hb ho13; obtain ⟨Ao14, co14, eo14⟩ := Kd.N_slice HO195.out; subst eo14; have hcz15_0 : w12.cell? ⟨gb192, 0, none⟩ = some (.int .i64 0) := (blk_cell BK192.out 0).trans rfl; have hcz15_1 : w12.cell? ⟨gb192, 1, none⟩ = some (.string (⟨#[]⟩ : ByteArray)) := (blk_cell BK192.out 1).trans rfl; have hcz15_2 : w12.cell? ⟨gb192, 2, none⟩ = some (.int .i64 0) := (blk_cell BK192.out 2).trans rfl; have hcz15_3 : w12.cell? ⟨gb192, 3, none⟩ = some (.slice none 0 0) := (blk_cell BK192.out 3).trans rfl; have hfz15_0 := blk_frozen BK192.out 0; have hfz15_1 := blk_frozen BK192.out 1; have hfz15_2 := blk_frozen BK192.out 2; have hfz15_3 := blk_frozen BK192.out 3))
  refine bodyPost_ret (results_cell_row rfl _ _ gb192 29 #[.int .i64 5, .string (⟨#[]⟩ : ByteArray), .int .i64 a1, .slice Ao14 y193.length co14] (0, 0) _ rfl (by (with_reducible repeat (first | refine blk_drewN ?_ _ | refine blk_drew ?_ | refine blk_alloc ?_ _)); refine blk_put (cs := #[.int .i64 5, .string (⟨#[]⟩ : ByteArray), .int .i64 a1, .slice none 0 0]) ?_ 3 _ rfl; (with_reducible repeat (first | refine blk_drewN ?_ _ | refine blk_drew ?_ | refine blk_alloc ?_ _)); refine blk_put (cs := #[.int .i64 5, .string (⟨#[]⟩ : ByteArray), .int .i64 0, .slice none 0 0]) ?_ 2 _ rfl; (with_reducible repeat (first | refine blk_drewN ?_ _ | refine blk_drew ?_ | refine blk_alloc ?_ _)); refine blk_put (cs := #[.int .i64 5, .string (⟨#[]⟩ : ByteArray), .int .i64 0, .slice none 0 0]) ?_ 1 _ rfl; (with_reducible repeat (first | refine blk_drewN ?_ _ | refine blk_drew ?_ | refine blk_alloc ?_ _)); refine blk_put (cs := #[.int .i64 0, .string (⟨#[]⟩ : ByteArray), .int .i64 0, .slice none 0 0]) ?_ 0 _ rfl; (with_reducible repeat (first | refine blk_drewN ?_ _ | refine blk_drew ?_ | refine blk_alloc ?_ _)); exact BK192.out) Tryd.underlying29 rfl (by kernel_rfl)) rfl ?_
  exact ⟨_, by first | rfl | (simp [errW_none, errW_some] <;> rfl) | (simp [*, errW_none, errW_some] <;> rfl), by (with_reducible repeat (first | apply Kd.N_alloc | apply Kd.N_drewN | apply Kd.N_drew)); exact Kd.N_mono (Kd.N_far (p := ⟨gb192, 3, none⟩) (Kd.N_far (p := ⟨gb192, 2, none⟩) (Kd.N_far (p := ⟨gb192, 1, none⟩) (Kd.N_far (p := ⟨gb192, 0, none⟩) (Kd.N_mono HO195.out (fun k_ hk => (⟨hk, hk.2.2.2⟩ : _ ∧ k_ ≠ gb192))) (fun _ hk => hk.2) (.int .i64 5)) (fun _ hk => hk.2) (.string (⟨#[]⟩ : ByteArray))) (fun _ hk => hk.2) (.int .i64 a1)) (fun _ hk => hk.2) (.slice Ao14 y193.length co14)) (fun _ hk => hk.1.1), by repeat (first | (with_reducible first | exact HB.out | apply below_alloc | apply pw_below_drewN | apply below_drew1 | refine below_set ?_ GE190.out | refine below_set ?_ GE191.out | refine below_set ?_ GE192.out) | exact HB.out)⟩
def legateref08_sign.f (a0 : Bool) : Option (Int) := if a0 = true then (some (-1)) else (some 1)
set_option maxHeartbeats 8000000 in
set_option maxRecDepth 100000 in
theorem legateref08_sign.calls (a0 : Bool) (r : Int) (w : World) (h : legateref08_sign.f a0 = some r) :
    Calls Tryd.prog 54 #[.bool a0] w fun e w' => e = .returned (.int .i64 r) ∧ Drawn0 w w' := by
  have H : (if a0 = true then (some (-1)) else (some 1)) = some r := h
  clear h
  by_cases c2 : a0 = true
  · subst c2
    have H1 : (some (-1)) = some r := by rw [if_pos rfl] at H; exact H
    clear H
    have H := H1
    clear H1
    obtain rfl := Option.some.inj H
    go_enter Tryd.func54, Tryd.ntmps54
    go_wp2
    go_ret
    exact ⟨by first | rfl | (simp; done) | (simp [*]; done), by repeat (first | exact Drawn0.refl _ | apply Drawn0.step)⟩
  · replace c2 := Bool.eq_false_iff.mpr c2
    subst c2
    have H1 : (some 1) = some r := by rw [if_neg (show ¬ (false = true) by decide)] at H; exact H
    clear H
    have H := H1
    clear H1
    obtain rfl := Option.some.inj H
    go_enter Tryd.func54, Tryd.ntmps54
    go_wp2
    go_ret
    exact ⟨by first | rfl | (simp; done) | (simp [*]; done), by repeat (first | exact Drawn0.refl _ | apply Drawn0.step)⟩
end Go.Proofs.YtimommkbfbdkdaaDoor.P
end
section
namespace Go.Proofs.YtimommkbfbdkdaaDoor.P
open Go.RowKit Go.Proofs.YtimommkbfbdkdaaDoorW.PrintWords Go.Proofs.YtimommkbfbdkdaaDoorW.PrintLast Go.Proofs.YtimommkbfbdkdaaDoorW.PrintMore
attribute [local go_sem] max2_int min2_int max_two min_two max_three min_three max_four min_four
set_option linter.unusedVariables false
set_option linter.unusedSimpArgs false
mutual
def legateref13_Same.j0 : Nat → Bool → ByteArray → List Int → Int → List ByteArray → ByteArray → Bool → Int → ByteArray → List Int → Int → List ByteArray → ByteArray → Bool → Int → Option (Bool)
  | 0, _, _, _, _, _, _, _, _, _, _, _, _, _, _, _ => none
  | k + 1, x22, x209000, x209001, x209002, x209003, x209004, x209005, x209006, x210000, x210001, x210002, x210003, x210004, x210005, x210006 => if x22 = true then (some false) else (legateref13_Same.l0 k 0 x209000 x209001 x209002 x209003 x209004 x209005 x209006 x210000 x210001 x210002 x210003 x210004 x210005 x210006)
def legateref13_Same.l0 : Nat → Int → ByteArray → List Int → Int → List ByteArray → ByteArray → Bool → Int → ByteArray → List Int → Int → List ByteArray → ByteArray → Bool → Int → Option (Bool)
  | 0, _, _, _, _, _, _, _, _, _, _, _, _, _, _, _ => none
  | k + 1, x5, x209000, x209001, x209002, x209003, x209004, x209005, x209006, x210000, x210001, x210002, x210003, x210004, x210005, x210006 => if x5 < (x209001.length : Int) then (if 0 ≤ x5 then (if x5 < (x210001.length : Int) then (if (rd x209001 x5) = (rd x210001 x5) then (legateref13_Same.l0 k (wrap64 (x5 + 1)) x209000 x209001 x209002 x209003 x209004 x209005 x209006 x210000 x210001 x210002 x210003 x210004 x210005 x210006) else (some false)) else (none)) else (none)) else (legateref13_Same.l1 k 0 x209000 x209001 x209002 x209003 x209004 x209005 x209006 x210000 x210001 x210002 x210003 x210004 x210005 x210006)
def legateref13_Same.l1 : Nat → Int → ByteArray → List Int → Int → List ByteArray → ByteArray → Bool → Int → ByteArray → List Int → Int → List ByteArray → ByteArray → Bool → Int → Option (Bool)
  | 0, _, _, _, _, _, _, _, _, _, _, _, _, _, _, _ => none
  | k + 1, x6, x209000, x209001, x209002, x209003, x209004, x209005, x209006, x210000, x210001, x210002, x210003, x210004, x210005, x210006 => if x6 < (x209003.length : Int) then (if 0 ≤ x6 then (if x6 < (x210003.length : Int) then (if (rdOf ByteArray.empty x209003 x6).toList = (rdOf ByteArray.empty x210003 x6).toList then (legateref13_Same.l1 k (wrap64 (x6 + 1)) x209000 x209001 x209002 x209003 x209004 x209005 x209006 x210000 x210001 x210002 x210003 x210004 x210005 x210006) else (some false)) else (none)) else (none)) else (if x209000.toList = x210000.toList then (if x209002 = x210002 then (if x209004.toList = x210004.toList then (if (x209005 == x210005) = true then (some (x209006 == x210006)) else (some false)) else (some false)) else (some false)) else (some false))
end
def legateref13_Same.f (k : Nat) (a0_0 : ByteArray) (l0_1 : List Int) (a0_2 : Int) (l0_3 : List ByteArray) (a0_4 : ByteArray) (a0_5 : Bool) (a0_6 : Int) (a1_0 : ByteArray) (l1_1 : List Int) (a1_2 : Int) (l1_3 : List ByteArray) (a1_4 : ByteArray) (a1_5 : Bool) (a1_6 : Int) : Option (Bool) := if (l0_1.length : Int) = (l1_1.length : Int) then (legateref13_Same.j0 k ((l0_3.length : Int) != (l1_3.length : Int)) a0_0 l0_1 a0_2 l0_3 a0_4 a0_5 a0_6 a1_0 l1_1 a1_2 l1_3 a1_4 a1_5 a1_6) else (legateref13_Same.j0 k true a0_0 l0_1 a0_2 l0_3 a0_4 a0_5 a0_6 a1_0 l1_1 a1_2 l1_3 a1_4 a1_5 a1_6)
theorem legateref13_Same.mono_l : ∀ k, (∀ y0 y1 y2 y3 y4 y5 y6 y7 y8 y9 y10 y11 y12 y13 y14, LeO (legateref13_Same.j0 k y0 y1 y2 y3 y4 y5 y6 y7 y8 y9 y10 y11 y12 y13 y14) (legateref13_Same.j0 (k + 1) y0 y1 y2 y3 y4 y5 y6 y7 y8 y9 y10 y11 y12 y13 y14)) ∧ (∀ y0 y1 y2 y3 y4 y5 y6 y7 y8 y9 y10 y11 y12 y13 y14, LeO (legateref13_Same.l0 k y0 y1 y2 y3 y4 y5 y6 y7 y8 y9 y10 y11 y12 y13 y14) (legateref13_Same.l0 (k + 1) y0 y1 y2 y3 y4 y5 y6 y7 y8 y9 y10 y11 y12 y13 y14)) ∧ (∀ y0 y1 y2 y3 y4 y5 y6 y7 y8 y9 y10 y11 y12 y13 y14, LeO (legateref13_Same.l1 k y0 y1 y2 y3 y4 y5 y6 y7 y8 y9 y10 y11 y12 y13 y14) (legateref13_Same.l1 (k + 1) y0 y1 y2 y3 y4 y5 y6 y7 y8 y9 y10 y11 y12 y13 y14))
  | 0 => ⟨fun _ _ _ _ _ _ _ _ _ _ _ _ _ _ _ r h => by simp [legateref13_Same.j0] at h, fun _ _ _ _ _ _ _ _ _ _ _ _ _ _ _ r h => by simp [legateref13_Same.l0] at h, fun _ _ _ _ _ _ _ _ _ _ _ _ _ _ _ r h => by simp [legateref13_Same.l1] at h⟩
  | k + 1 => by
    obtain ⟨ih0, ih1, ih2⟩ := legateref13_Same.mono_l k
    refine ⟨?_, ?_, ?_⟩
    · intro y0 y1 y2 y3 y4 y5 y6 y7 y8 y9 y10 y11 y12 y13 y14
      unfold legateref13_Same.j0
      repeat' first
      | (with_reducible exact ih0 _ _ _ _ _ _ _ _ _ _ _ _ _ _ _)
      | (with_reducible exact ih1 _ _ _ _ _ _ _ _ _ _ _ _ _ _ _)
      | (with_reducible exact ih2 _ _ _ _ _ _ _ _ _ _ _ _ _ _ _)
      | (with_reducible exact LeO.refl _)
      | (with_reducible exact LeO.none _)
      | (with_reducible refine LeO.ite ?_ ?_)
      | (with_reducible refine LeO.bind ?_ (fun _ => ?_))
      | exact ih0 _ _ _ _ _ _ _ _ _ _ _ _ _ _ _
      | exact ih1 _ _ _ _ _ _ _ _ _ _ _ _ _ _ _
      | exact ih2 _ _ _ _ _ _ _ _ _ _ _ _ _ _ _
      | exact LeO.none _
      | refine LeO.ite ?_ ?_
      | refine LeO.bind ?_ (fun _ => ?_)
    · intro y0 y1 y2 y3 y4 y5 y6 y7 y8 y9 y10 y11 y12 y13 y14
      unfold legateref13_Same.l0
      repeat' first
      | (with_reducible exact ih0 _ _ _ _ _ _ _ _ _ _ _ _ _ _ _)
      | (with_reducible exact ih1 _ _ _ _ _ _ _ _ _ _ _ _ _ _ _)
      | (with_reducible exact ih2 _ _ _ _ _ _ _ _ _ _ _ _ _ _ _)
      | (with_reducible exact LeO.refl _)
      | (with_reducible exact LeO.none _)
      | (with_reducible refine LeO.ite ?_ ?_)
      | (with_reducible refine LeO.bind ?_ (fun _ => ?_))
      | exact ih0 _ _ _ _ _ _ _ _ _ _ _ _ _ _ _
      | exact ih1 _ _ _ _ _ _ _ _ _ _ _ _ _ _ _
      | exact ih2 _ _ _ _ _ _ _ _ _ _ _ _ _ _ _
      | exact LeO.none _
      | refine LeO.ite ?_ ?_
      | refine LeO.bind ?_ (fun _ => ?_)
    · intro y0 y1 y2 y3 y4 y5 y6 y7 y8 y9 y10 y11 y12 y13 y14
      unfold legateref13_Same.l1
      repeat' first
      | (with_reducible exact ih0 _ _ _ _ _ _ _ _ _ _ _ _ _ _ _)
      | (with_reducible exact ih1 _ _ _ _ _ _ _ _ _ _ _ _ _ _ _)
      | (with_reducible exact ih2 _ _ _ _ _ _ _ _ _ _ _ _ _ _ _)
      | (with_reducible exact LeO.refl _)
      | (with_reducible exact LeO.none _)
      | (with_reducible refine LeO.ite ?_ ?_)
      | (with_reducible refine LeO.bind ?_ (fun _ => ?_))
      | exact ih0 _ _ _ _ _ _ _ _ _ _ _ _ _ _ _
      | exact ih1 _ _ _ _ _ _ _ _ _ _ _ _ _ _ _
      | exact ih2 _ _ _ _ _ _ _ _ _ _ _ _ _ _ _
      | exact LeO.none _
      | refine LeO.ite ?_ ?_
      | refine LeO.bind ?_ (fun _ => ?_)
theorem legateref13_Same.mono : ∀ a0 a1 a2 a3 a4 a5 a6 a7 a8 a9 a10 a11 a12 a13 k, LeO (legateref13_Same.f k a0 a1 a2 a3 a4 a5 a6 a7 a8 a9 a10 a11 a12 a13) (legateref13_Same.f (k + 1) a0 a1 a2 a3 a4 a5 a6 a7 a8 a9 a10 a11 a12 a13) := by
  intro a0 a1 a2 a3 a4 a5 a6 a7 a8 a9 a10 a11 a12 a13 k
  obtain ⟨ih0, ih1, ih2⟩ := legateref13_Same.mono_l k
  unfold legateref13_Same.f
  repeat' first
      | (with_reducible exact ih0 _ _ _ _ _ _ _ _ _ _ _ _ _ _ _)
      | (with_reducible exact ih1 _ _ _ _ _ _ _ _ _ _ _ _ _ _ _)
      | (with_reducible exact ih2 _ _ _ _ _ _ _ _ _ _ _ _ _ _ _)
      | (with_reducible exact LeO.refl _)
      | (with_reducible exact LeO.none _)
      | (with_reducible refine LeO.ite ?_ ?_)
      | (with_reducible refine LeO.bind ?_ (fun _ => ?_))
      | exact ih0 _ _ _ _ _ _ _ _ _ _ _ _ _ _ _
      | exact ih1 _ _ _ _ _ _ _ _ _ _ _ _ _ _ _
      | exact ih2 _ _ _ _ _ _ _ _ _ _ _ _ _ _ _
      | exact LeO.none _
      | refine LeO.ite ?_ ?_
      | refine LeO.bind ?_ (fun _ => ?_)
set_option maxHeartbeats 8000000 in
set_option maxRecDepth 100000 in
theorem legateref13_Same.calls (k : Nat) (a0_0 : ByteArray) (A0_1 : Option Addr) (c0_1 : Nat) (l0_1 : List Int) (a0_2 : Int) (A0_3 : Option Addr) (c0_3 : Nat) (l0_3 : List ByteArray) (a0_4 : ByteArray) (a0_5 : Bool) (a0_6 : Int) (a1_0 : ByteArray) (A1_1 : Option Addr) (c1_1 : Nat) (l1_1 : List Int) (a1_2 : Int) (A1_3 : Option Addr) (c1_3 : Nat) (l1_3 : List ByteArray) (a1_4 : ByteArray) (a1_5 : Bool) (a1_6 : Int) (r : Bool) (w : World) (hr0_1 : Kd.C (Kd.int .i64) w A0_1 l0_1.length l0_1) (hc0_1 : l0_1.length ≤ c0_1) (hr0_3 : Kd.C Kd.string w A0_3 l0_3.length l0_3) (hc0_3 : l0_3.length ≤ c0_3) (hr1_1 : Kd.C (Kd.int .i64) w A1_1 l1_1.length l1_1) (hc1_1 : l1_1.length ≤ c1_1) (hr1_3 : Kd.C Kd.string w A1_3 l1_3.length l1_3) (hc1_3 : l1_3.length ≤ c1_3) (h : legateref13_Same.f k a0_0 l0_1 a0_2 l0_3 a0_4 a0_5 a0_6 a1_0 l1_1 a1_2 l1_3 a1_4 a1_5 a1_6 = some r) :
    Calls Tryd.prog 18 #[.agg #[.string a0_0, .slice A0_1 l0_1.length c0_1, .int .i64 a0_2, .slice A0_3 l0_3.length c0_3, .string a0_4, .bool a0_5, .int .i64 a0_6], .agg #[.string a1_0, .slice A1_1 l1_1.length c1_1, .int .i64 a1_2, .slice A1_3 l1_3.length c1_3, .string a1_4, .bool a1_5, .int .i64 a1_6]] w fun e w' => e = .returned (.bool r) ∧ Below w.heap.size w w' := by
  have hu25 := Tryd.underlying25
  have HR0_1 := Aside0.mk hr0_1
  have HC0_1 := Aside0.mk hc0_1
  clear hr0_1 hc0_1
  have HR0_3 := Aside0.mk hr0_3
  have HC0_3 := Aside0.mk hc0_3
  clear hr0_3 hc0_3
  have HR1_1 := Aside0.mk hr1_1
  have HC1_1 := Aside0.mk hc1_1
  clear hr1_1 hc1_1
  have HR1_3 := Aside0.mk hr1_3
  have HC1_3 := Aside0.mk hc1_3
  clear hr1_3 hc1_3
  have HB := Aside0.mk (Below.refl w.heap.size w)
  have H : (if (l0_1.length : Int) = (l1_1.length : Int) then (legateref13_Same.j0 k ((l0_3.length : Int) != (l1_3.length : Int)) a0_0 l0_1 a0_2 l0_3 a0_4 a0_5 a0_6 a1_0 l1_1 a1_2 l1_3 a1_4 a1_5 a1_6) else (legateref13_Same.j0 k true a0_0 l0_1 a0_2 l0_3 a0_4 a0_5 a0_6 a1_0 l1_1 a1_2 l1_3 a1_4 a1_5 a1_6)) = some r := h
  clear h
  have HC3 := Aside0.mk H
  clear H
  go_enter Tryd.func18, Tryd.ntmps18
  go_upto_region 1 with (first | ((with_reducible refine gate_dst (N := 2) rfl ?_); (try (refine gate_guard (by rfl) ?_; dsimp only)); refine box_event ?hg (N := 2) ?hd (cs := #[.string a0_0, .slice A0_1 l0_1.length c0_1, .int .i64 a0_2, .slice A0_3 l0_3.length c0_3, .string a0_4, .bool a0_5, .int .i64 a0_6]) (t := 25) ?hr ?_; (case hd => rfl); (case hg => rfl); (case hr => first | (go_simp; done) | (go_simp; rfl)); intro gb208 hg w4 hbox hb; have n0_ := Aside0.mk (below_step (by repeat (first | (with_reducible first | exact HB.out | apply below_alloc | apply pw_below_drewN | apply below_drew1) | exact HB.out)) hb); have n1_ := Aside0.mk (hbox); have n2_ := Aside0.mk ((by rw [hg]; exact (below_size (by repeat (first | (with_reducible first | exact HB.out | apply below_alloc | apply pw_below_drewN | apply below_drew1) | exact HB.out))) : w.heap.size ≤ gb208)); have n3_ := Aside0.mk ((by rw [hg]; exact (below_size (by repeat (first | (with_reducible first | exact HB.out | apply below_alloc | apply pw_below_drewN | apply below_drew1) | exact HB.out))) : w.heap.size ≤ gb208)); clear HB; have HB := n0_; have BK208 := n1_; have GW208 := n2_; have GE208 := n3_; clear n0_ n1_ n2_ n3_; clear hb hbox hg) | ((with_reducible refine gate_dst (N := 3) rfl ?_); (try (refine gate_guard (by rfl) ?_; dsimp only)); refine box_event ?hg (N := 3) ?hd (cs := #[.string a1_0, .slice A1_1 l1_1.length c1_1, .int .i64 a1_2, .slice A1_3 l1_3.length c1_3, .string a1_4, .bool a1_5, .int .i64 a1_6]) (t := 25) ?hr ?_; (case hd => rfl); (case hg => rfl); (case hr => first | (go_simp; done) | (go_simp; rfl)); intro gb209 hg w5 hbox hb; have n0_ := Aside0.mk (blk_below (g := gb208) (o := .cells #[.string a0_0, .slice A0_1 l0_1.length c0_1, .int .i64 a0_2, .slice A0_3 l0_3.length c0_3, .string a0_4, .bool a0_5, .int .i64 a0_6] 25 (0, 0)) (by (with_reducible repeat (first | refine blk_drewN ?_ _ | refine blk_drew ?_ | refine blk_alloc ?_ _)); exact BK208.out) hb); have n1_ := Aside0.mk (below_step (by repeat (first | (with_reducible first | exact HB.out | apply below_alloc | apply pw_below_drewN | apply below_drew1 | refine below_set ?_ GE208.out) | exact HB.out)) hb); have n2_ := Aside0.mk (hbox); have n3_ := Aside0.mk ((by rw [hg]; exact (below_size (by repeat (first | (with_reducible first | exact HB.out | apply below_alloc | apply pw_below_drewN | apply below_drew1 | refine below_set ?_ GE208.out) | exact HB.out))) : w.heap.size ≤ gb209)); have n4_ := Aside0.mk ((by rw [hg]; exact (below_size (by repeat (first | (with_reducible first | exact HB.out | apply below_alloc | apply pw_below_drewN | apply below_drew1 | refine below_set ?_ GE208.out) | exact HB.out))) : w.heap.size ≤ gb209)); have n5_ := Aside0.mk ((by rw [hg]; exact Nat.ne_of_lt (blk_lt (g := gb208) (o := .cells #[.string a0_0, .slice A0_1 l0_1.length c0_1, .int .i64 a0_2, .slice A0_3 l0_3.length c0_3, .string a0_4, .bool a0_5, .int .i64 a0_6] 25 (0, 0)) (by (with_reducible repeat (first | refine blk_drewN ?_ _ | refine blk_drew ?_ | refine blk_alloc ?_ _)); exact BK208.out)) : gb208 ≠ gb209)); have n6_ := Aside0.mk ((by rw [hg]; exact Nat.ne_of_gt (blk_lt (g := gb208) (o := .cells #[.string a0_0, .slice A0_1 l0_1.length c0_1, .int .i64 a0_2, .slice A0_3 l0_3.length c0_3, .string a0_4, .bool a0_5, .int .i64 a0_6] 25 (0, 0)) (by (with_reducible repeat (first | refine blk_drewN ?_ _ | refine blk_drew ?_ | refine blk_alloc ?_ _)); exact BK208.out)) : gb209 ≠ gb208)); clear BK208; clear HB; have BK208 := n0_; have HB := n1_; have BK209 := n2_; have GW209 := n3_; have GE209 := n4_; have NB208_209 := n5_; have NB209_208 := n6_; clear n0_ n1_ n2_ n3_ n4_ n5_ n6_; clear hb hbox hg))
  repeat (go_quiet (first | ((with_reducible refine gate_dst (N := 2) rfl ?_); (try (refine gate_guard (by rfl) ?_; dsimp only)); refine box_event ?hg (N := 2) ?hd (cs := #[.string a0_0, .slice A0_1 l0_1.length c0_1, .int .i64 a0_2, .slice A0_3 l0_3.length c0_3, .string a0_4, .bool a0_5, .int .i64 a0_6]) (t := 25) ?hr ?_; (case hd => rfl); (case hg => rfl); (case hr => first | (go_simp; done) | (go_simp; rfl)); intro gb208 hg w4 hbox hb; have n0_ := Aside0.mk (below_step (by repeat (first | (with_reducible first | exact HB.out | apply below_alloc | apply pw_below_drewN | apply below_drew1) | exact HB.out)) hb); have n1_ := Aside0.mk (hbox); have n2_ := Aside0.mk ((by rw [hg]; exact (below_size (by repeat (first | (with_reducible first | exact HB.out | apply below_alloc | apply pw_below_drewN | apply below_drew1) | exact HB.out))) : w.heap.size ≤ gb208)); have n3_ := Aside0.mk ((by rw [hg]; exact (below_size (by repeat (first | (with_reducible first | exact HB.out | apply below_alloc | apply pw_below_drewN | apply below_drew1) | exact HB.out))) : w.heap.size ≤ gb208)); clear HB; have HB := n0_; have BK208 := n1_; have GW208 := n2_; have GE208 := n3_; clear n0_ n1_ n2_ n3_; clear hb hbox hg) | ((with_reducible refine gate_dst (N := 3) rfl ?_); (try (refine gate_guard (by rfl) ?_; dsimp only)); refine box_event ?hg (N := 3) ?hd (cs := #[.string a1_0, .slice A1_1 l1_1.length c1_1, .int .i64 a1_2, .slice A1_3 l1_3.length c1_3, .string a1_4, .bool a1_5, .int .i64 a1_6]) (t := 25) ?hr ?_; (case hd => rfl); (case hg => rfl); (case hr => first | (go_simp; done) | (go_simp; rfl)); intro gb209 hg w5 hbox hb; have n0_ := Aside0.mk (blk_below (g := gb208) (o := .cells #[.string a0_0, .slice A0_1 l0_1.length c0_1, .int .i64 a0_2, .slice A0_3 l0_3.length c0_3, .string a0_4, .bool a0_5, .int .i64 a0_6] 25 (0, 0)) (by (with_reducible repeat (first | refine blk_drewN ?_ _ | refine blk_drew ?_ | refine blk_alloc ?_ _)); exact BK208.out) hb); have n1_ := Aside0.mk (below_step (by repeat (first | (with_reducible first | exact HB.out | apply below_alloc | apply pw_below_drewN | apply below_drew1 | refine below_set ?_ GE208.out) | exact HB.out)) hb); have n2_ := Aside0.mk (hbox); have n3_ := Aside0.mk ((by rw [hg]; exact (below_size (by repeat (first | (with_reducible first | exact HB.out | apply below_alloc | apply pw_below_drewN | apply below_drew1 | refine below_set ?_ GE208.out) | exact HB.out))) : w.heap.size ≤ gb209)); have n4_ := Aside0.mk ((by rw [hg]; exact (below_size (by repeat (first | (with_reducible first | exact HB.out | apply below_alloc | apply pw_below_drewN | apply below_drew1 | refine below_set ?_ GE208.out) | exact HB.out))) : w.heap.size ≤ gb209)); have n5_ := Aside0.mk ((by rw [hg]; exact Nat.ne_of_lt (blk_lt (g := gb208) (o := .cells #[.string a0_0, .slice A0_1 l0_1.length c0_1, .int .i64 a0_2, .slice A0_3 l0_3.length c0_3, .string a0_4, .bool a0_5, .int .i64 a0_6] 25 (0, 0)) (by (with_reducible repeat (first | refine blk_drewN ?_ _ | refine blk_drew ?_ | refine blk_alloc ?_ _)); exact BK208.out)) : gb208 ≠ gb209)); have n6_ := Aside0.mk ((by rw [hg]; exact Nat.ne_of_gt (blk_lt (g := gb208) (o := .cells #[.string a0_0, .slice A0_1 l0_1.length c0_1, .int .i64 a0_2, .slice A0_3 l0_3.length c0_3, .string a0_4, .bool a0_5, .int .i64 a0_6] 25 (0, 0)) (by (with_reducible repeat (first | refine blk_drewN ?_ _ | refine blk_drew ?_ | refine blk_alloc ?_ _)); exact BK208.out)) : gb209 ≠ gb208)); clear BK208; clear HB; have BK208 := n0_; have HB := n1_; have BK209 := n2_; have GW209 := n3_; have GE209 := n4_; have NB208_209 := n5_; have NB209_208 := n6_; clear n0_ n1_ n2_ n3_ n4_ n5_ n6_; clear hb hbox hg)); go_upto_region 1 with (first | ((with_reducible refine gate_dst (N := 2) rfl ?_); (try (refine gate_guard (by rfl) ?_; dsimp only)); refine box_event ?hg (N := 2) ?hd (cs := #[.string a0_0, .slice A0_1 l0_1.length c0_1, .int .i64 a0_2, .slice A0_3 l0_3.length c0_3, .string a0_4, .bool a0_5, .int .i64 a0_6]) (t := 25) ?hr ?_; (case hd => rfl); (case hg => rfl); (case hr => first | (go_simp; done) | (go_simp; rfl)); intro gb208 hg w4 hbox hb; have n0_ := Aside0.mk (below_step (by repeat (first | (with_reducible first | exact HB.out | apply below_alloc | apply pw_below_drewN | apply below_drew1) | exact HB.out)) hb); have n1_ := Aside0.mk (hbox); have n2_ := Aside0.mk ((by rw [hg]; exact (below_size (by repeat (first | (with_reducible first | exact HB.out | apply below_alloc | apply pw_below_drewN | apply below_drew1) | exact HB.out))) : w.heap.size ≤ gb208)); have n3_ := Aside0.mk ((by rw [hg]; exact (below_size (by repeat (first | (with_reducible first | exact HB.out | apply below_alloc | apply pw_below_drewN | apply below_drew1) | exact HB.out))) : w.heap.size ≤ gb208)); clear HB; have HB := n0_; have BK208 := n1_; have GW208 := n2_; have GE208 := n3_; clear n0_ n1_ n2_ n3_; clear hb hbox hg) | ((with_reducible refine gate_dst (N := 3) rfl ?_); (try (refine gate_guard (by rfl) ?_; dsimp only)); refine box_event ?hg (N := 3) ?hd (cs := #[.string a1_0, .slice A1_1 l1_1.length c1_1, .int .i64 a1_2, .slice A1_3 l1_3.length c1_3, .string a1_4, .bool a1_5, .int .i64 a1_6]) (t := 25) ?hr ?_; (case hd => rfl); (case hg => rfl); (case hr => first | (go_simp; done) | (go_simp; rfl)); intro gb209 hg w5 hbox hb; have n0_ := Aside0.mk (blk_below (g := gb208) (o := .cells #[.string a0_0, .slice A0_1 l0_1.length c0_1, .int .i64 a0_2, .slice A0_3 l0_3.length c0_3, .string a0_4, .bool a0_5, .int .i64 a0_6] 25 (0, 0)) (by (with_reducible repeat (first | refine blk_drewN ?_ _ | refine blk_drew ?_ | refine blk_alloc ?_ _)); exact BK208.out) hb); have n1_ := Aside0.mk (below_step (by repeat (first | (with_reducible first | exact HB.out | apply below_alloc | apply pw_below_drewN | apply below_drew1 | refine below_set ?_ GE208.out) | exact HB.out)) hb); have n2_ := Aside0.mk (hbox); have n3_ := Aside0.mk ((by rw [hg]; exact (below_size (by repeat (first | (with_reducible first | exact HB.out | apply below_alloc | apply pw_below_drewN | apply below_drew1 | refine below_set ?_ GE208.out) | exact HB.out))) : w.heap.size ≤ gb209)); have n4_ := Aside0.mk ((by rw [hg]; exact (below_size (by repeat (first | (with_reducible first | exact HB.out | apply below_alloc | apply pw_below_drewN | apply below_drew1 | refine below_set ?_ GE208.out) | exact HB.out))) : w.heap.size ≤ gb209)); have n5_ := Aside0.mk ((by rw [hg]; exact Nat.ne_of_lt (blk_lt (g := gb208) (o := .cells #[.string a0_0, .slice A0_1 l0_1.length c0_1, .int .i64 a0_2, .slice A0_3 l0_3.length c0_3, .string a0_4, .bool a0_5, .int .i64 a0_6] 25 (0, 0)) (by (with_reducible repeat (first | refine blk_drewN ?_ _ | refine blk_drew ?_ | refine blk_alloc ?_ _)); exact BK208.out)) : gb208 ≠ gb209)); have n6_ := Aside0.mk ((by rw [hg]; exact Nat.ne_of_gt (blk_lt (g := gb208) (o := .cells #[.string a0_0, .slice A0_1 l0_1.length c0_1, .int .i64 a0_2, .slice A0_3 l0_3.length c0_3, .string a0_4, .bool a0_5, .int .i64 a0_6] 25 (0, 0)) (by (with_reducible repeat (first | refine blk_drewN ?_ _ | refine blk_drew ?_ | refine blk_alloc ?_ _)); exact BK208.out)) : gb209 ≠ gb208)); clear BK208; clear HB; have BK208 := n0_; have HB := n1_; have BK209 := n2_; have GW209 := n3_; have GE209 := n4_; have NB208_209 := n5_; have NB209_208 := n6_; clear n0_ n1_ n2_ n3_ n4_ n5_ n6_; clear hb hbox hg)))
  (try simp only [Act.put, List.setIfInBounds_toArray, List.set_cons_zero, List.set_cons_succ])
  go_cut [22] (fun v22 wc => ∃ (kq : Nat) (x22_2 : Bool), v22 = .bool x22_2 ∧ Aside0 (legateref13_Same.j0 kq x22_2 a0_0 l0_1 a0_2 l0_3 a0_4 a0_5 a0_6 a1_0 l1_1 a1_2 l1_3 a1_4 a1_5 a1_6 = some r) ∧ Aside0 (kq ≤ k) ∧ Aside0 (wc.heap[gb208]? = some (.cells #[.string a0_0, (.slice A0_1 l0_1.length c0_1), .int .i64 a0_2, (.slice A0_3 l0_3.length c0_3), .string a0_4, .bool a0_5, .int .i64 a0_6] 25 (0, 0))) ∧ Aside0 (wc.heap[gb209]? = some (.cells #[.string a1_0, (.slice A1_1 l1_1.length c1_1), .int .i64 a1_2, (.slice A1_3 l1_3.length c1_3), .string a1_4, .bool a1_5, .int .i64 a1_6] 25 (0, 0))) ∧ Aside0 (Below w.heap.size w wc))
  case first =>
    have H := HC3.out
    clear HC3
    by_cases c6 : (l0_1.length : Int) = (l1_1.length : Int)
    · rw [if_pos c6] at H
      have c6b0 : ((l0_1.length : Int) == (l1_1.length : Int)) = true := beq_iff_eq.mpr c6
      have c6b1 : ((l0_1.length : Int) != (l1_1.length : Int)) = false := bne_eq_false_iff_eq.mpr c6
      have c6b2 : (l0_1.length == l1_1.length) = true := by first | simpa using c6 | (simp at c6 ⊢; omega)
      clear c6
      (first | rw [c6b0] | (simp only [i64_w, i32_w]; rw [c6b0]) | skip)
      have H' := Aside0.mk H
      clear H
      have hnb7 := NB208_209.out
      have hnc7 := NB209_208.out
      have hcz8_0 : w5.cell? ⟨gb208, 0, none⟩ = some (.string a0_0) := (blk_cell BK208.out 0).trans rfl
      have hcz8_1 : w5.cell? ⟨gb208, 1, none⟩ = some (.slice A0_1 l0_1.length c0_1) := (blk_cell BK208.out 1).trans rfl
      have hcz8_2 : w5.cell? ⟨gb208, 2, none⟩ = some (.int .i64 a0_2) := (blk_cell BK208.out 2).trans rfl
      have hcz8_3 : w5.cell? ⟨gb208, 3, none⟩ = some (.slice A0_3 l0_3.length c0_3) := (blk_cell BK208.out 3).trans rfl
      have hcz8_4 : w5.cell? ⟨gb208, 4, none⟩ = some (.string a0_4) := (blk_cell BK208.out 4).trans rfl
      have hcz8_5 : w5.cell? ⟨gb208, 5, none⟩ = some (.bool a0_5) := (blk_cell BK208.out 5).trans rfl
      have hcz8_6 : w5.cell? ⟨gb208, 6, none⟩ = some (.int .i64 a0_6) := (blk_cell BK208.out 6).trans rfl
      have hfz8_0 := blk_frozen BK208.out 0
      have hfz8_1 := blk_frozen BK208.out 1
      have hfz8_2 := blk_frozen BK208.out 2
      have hfz8_3 := blk_frozen BK208.out 3
      have hfz8_4 := blk_frozen BK208.out 4
      have hfz8_5 := blk_frozen BK208.out 5
      have hfz8_6 := blk_frozen BK208.out 6
      have hcz9_0 : w5.cell? ⟨gb209, 0, none⟩ = some (.string a1_0) := (blk_cell BK209.out 0).trans rfl
      have hcz9_1 : w5.cell? ⟨gb209, 1, none⟩ = some (.slice A1_1 l1_1.length c1_1) := (blk_cell BK209.out 1).trans rfl
      have hcz9_2 : w5.cell? ⟨gb209, 2, none⟩ = some (.int .i64 a1_2) := (blk_cell BK209.out 2).trans rfl
      have hcz9_3 : w5.cell? ⟨gb209, 3, none⟩ = some (.slice A1_3 l1_3.length c1_3) := (blk_cell BK209.out 3).trans rfl
      have hcz9_4 : w5.cell? ⟨gb209, 4, none⟩ = some (.string a1_4) := (blk_cell BK209.out 4).trans rfl
      have hcz9_5 : w5.cell? ⟨gb209, 5, none⟩ = some (.bool a1_5) := (blk_cell BK209.out 5).trans rfl
      have hcz9_6 : w5.cell? ⟨gb209, 6, none⟩ = some (.int .i64 a1_6) := (blk_cell BK209.out 6).trans rfl
      have hfz9_0 := blk_frozen BK209.out 0
      have hfz9_1 := blk_frozen BK209.out 1
      have hfz9_2 := blk_frozen BK209.out 2
      have hfz9_3 := blk_frozen BK209.out 3
      have hfz9_4 := blk_frozen BK209.out 4
      have hfz9_5 := blk_frozen BK209.out 5
      have hfz9_6 := blk_frozen BK209.out 6
      go_wp2
      repeat (go_quiet (fail); try go_wp2)
      go_meet
      case rel => exact ⟨_, (((l0_3.length : Int) != (l1_3.length : Int))), (by first | rfl | (simp; done) | (simp [*]; done) | (simp; exact isEmpty_ne _)), H', ⟨by first | omega | exact Nat.le_refl _⟩, ⟨by (with_reducible repeat (first | refine blk_drewN ?_ _ | refine blk_drew ?_ | refine blk_alloc ?_ _)); exact BK208.out⟩, ⟨by (with_reducible repeat (first | refine blk_drewN ?_ _ | refine blk_drew ?_ | refine blk_alloc ?_ _)); exact BK209.out⟩, ⟨by repeat (first | (with_reducible first | exact HB.out | apply below_alloc | apply pw_below_drewN | apply below_drew1 | refine below_set ?_ GE208.out | refine below_set ?_ GE209.out) | exact HB.out)⟩⟩
    · rw [if_neg c6] at H
      have c6b0 : ((l0_1.length : Int) == (l1_1.length : Int)) = false := beq_eq_false_iff_ne.mpr c6
      have c6b1 : ((l0_1.length : Int) != (l1_1.length : Int)) = true := bne_iff_ne.mpr c6
      have c6b2 : (l0_1.length == l1_1.length) = false := by first | simpa using c6 | (simp at c6 ⊢; omega)
      (first | rw [c6b0] | (simp only [i64_w, i32_w]; rw [c6b0]) | skip)
      have H' := Aside0.mk H
      clear H
      have hnb10 := NB208_209.out
      have hnc10 := NB209_208.out
      have hcz11_0 : w5.cell? ⟨gb208, 0, none⟩ = some (.string a0_0) := (blk_cell BK208.out 0).trans rfl
      have hcz11_1 : w5.cell? ⟨gb208, 1, none⟩ = some (.slice A0_1 l0_1.length c0_1) := (blk_cell BK208.out 1).trans rfl
      have hcz11_2 : w5.cell? ⟨gb208, 2, none⟩ = some (.int .i64 a0_2) := (blk_cell BK208.out 2).trans rfl
      have hcz11_3 : w5.cell? ⟨gb208, 3, none⟩ = some (.slice A0_3 l0_3.length c0_3) := (blk_cell BK208.out 3).trans rfl
      have hcz11_4 : w5.cell? ⟨gb208, 4, none⟩ = some (.string a0_4) := (blk_cell BK208.out 4).trans rfl
      have hcz11_5 : w5.cell? ⟨gb208, 5, none⟩ = some (.bool a0_5) := (blk_cell BK208.out 5).trans rfl
      have hcz11_6 : w5.cell? ⟨gb208, 6, none⟩ = some (.int .i64 a0_6) := (blk_cell BK208.out 6).trans rfl
      have hfz11_0 := blk_frozen BK208.out 0
      have hfz11_1 := blk_frozen BK208.out 1
      have hfz11_2 := blk_frozen BK208.out 2
      have hfz11_3 := blk_frozen BK208.out 3
      have hfz11_4 := blk_frozen BK208.out 4
      have hfz11_5 := blk_frozen BK208.out 5
      have hfz11_6 := blk_frozen BK208.out 6
      have hcz12_0 : w5.cell? ⟨gb209, 0, none⟩ = some (.string a1_0) := (blk_cell BK209.out 0).trans rfl
      have hcz12_1 : w5.cell? ⟨gb209, 1, none⟩ = some (.slice A1_1 l1_1.length c1_1) := (blk_cell BK209.out 1).trans rfl
      have hcz12_2 : w5.cell? ⟨gb209, 2, none⟩ = some (.int .i64 a1_2) := (blk_cell BK209.out 2).trans rfl
      have hcz12_3 : w5.cell? ⟨gb209, 3, none⟩ = some (.slice A1_3 l1_3.length c1_3) := (blk_cell BK209.out 3).trans rfl
      have hcz12_4 : w5.cell? ⟨gb209, 4, none⟩ = some (.string a1_4) := (blk_cell BK209.out 4).trans rfl
      have hcz12_5 : w5.cell? ⟨gb209, 5, none⟩ = some (.bool a1_5) := (blk_cell BK209.out 5).trans rfl
      have hcz12_6 : w5.cell? ⟨gb209, 6, none⟩ = some (.int .i64 a1_6) := (blk_cell BK209.out 6).trans rfl
      have hfz12_0 := blk_frozen BK209.out 0
      have hfz12_1 := blk_frozen BK209.out 1
      have hfz12_2 := blk_frozen BK209.out 2
      have hfz12_3 := blk_frozen BK209.out 3
      have hfz12_4 := blk_frozen BK209.out 4
      have hfz12_5 := blk_frozen BK209.out 5
      have hfz12_6 := blk_frozen BK209.out 6
      go_wp2
      repeat (go_quiet (fail); try go_wp2)
      go_meet
      case rel => exact ⟨_, (true), (by first | rfl | (simp; done) | (simp [*]; done) | (simp; exact isEmpty_ne _)), H', ⟨by first | omega | exact Nat.le_refl _⟩, ⟨by (with_reducible repeat (first | refine blk_drewN ?_ _ | refine blk_drew ?_ | refine blk_alloc ?_ _)); exact BK208.out⟩, ⟨by (with_reducible repeat (first | refine blk_drewN ?_ _ | refine blk_drew ?_ | refine blk_alloc ?_ _)); exact BK209.out⟩, ⟨by repeat (first | (with_reducible first | exact HB.out | apply below_alloc | apply pw_below_drewN | apply below_drew1 | refine below_set ?_ GE208.out | refine below_set ?_ GE209.out) | exact HB.out)⟩⟩
  case rest =>
    clear HC3
    try clear c1
    try clear p2
    try clear c6
    try clear c6b0
    try clear c6b1
    try clear c6b2
    try clear c7
    try clear c10
    try clear hcz11_0
    try clear hcz11_1
    try clear hcz11_2
    try clear hcz11_3
    try clear hcz11_4
    try clear hcz11_5
    try clear hcz11_6
    try clear hcz12_0
    try clear hcz12_1
    try clear hcz12_2
    try clear hcz12_3
    try clear hcz12_4
    try clear hcz12_5
    try clear hcz12_6
    try clear hcz8_0
    try clear hcz8_1
    try clear hcz8_2
    try clear hcz8_3
    try clear hcz8_4
    try clear hcz8_5
    try clear hcz8_6
    try clear hcz9_0
    try clear hcz9_1
    try clear hcz9_2
    try clear hcz9_3
    try clear hcz9_4
    try clear hcz9_5
    try clear hcz9_6
    try clear hfz11_0
    try clear hfz11_1
    try clear hfz11_2
    try clear hfz11_3
    try clear hfz11_4
    try clear hfz11_5
    try clear hfz11_6
    try clear hfz12_0
    try clear hfz12_1
    try clear hfz12_2
    try clear hfz12_3
    try clear hfz12_4
    try clear hfz12_5
    try clear hfz12_6
    try clear hfz8_0
    try clear hfz8_1
    try clear hfz8_2
    try clear hfz8_3
    try clear hfz8_4
    try clear hfz8_5
    try clear hfz8_6
    try clear hfz9_0
    try clear hfz9_1
    try clear hfz9_2
    try clear hfz9_3
    try clear hfz9_4
    try clear hfz9_5
    try clear hfz9_6
    obtain ⟨kq, x22_2, rfl, HA, HJ2, BK208, BK209, HB⟩ := hcut
    cases kq with
    | zero => exact absurd HA.out (by simp [legateref13_Same.j0])
    | succ kj2 =>
      have H := HA.out
      clear HA
      simp only [legateref13_Same.j0] at H
      by_cases c13 : x22_2 = true
      · subst c13
        have H1 : (some false) = some r := by rw [if_pos rfl] at H; exact H
        clear H
        have H := H1
        clear H1
        obtain rfl := Option.some.inj H
        go_wp2
        repeat (go_quiet (fail); try go_wp2)
        go_ret
        exact ⟨by first | rfl | (simp [errW_none, errW_some] <;> rfl) | (simp [*, errW_none, errW_some] <;> rfl), by repeat (first | (with_reducible first | exact HB.out | apply below_alloc | apply pw_below_drewN | apply below_drew1 | refine below_set ?_ GE208.out | refine below_set ?_ GE209.out) | exact HB.out)⟩
      · replace c13 := Bool.eq_false_iff.mpr c13
        subst c13
        have H1 : (legateref13_Same.l0 kj2 0 a0_0 l0_1 a0_2 l0_3 a0_4 a0_5 a0_6 a1_0 l1_1 a1_2 l1_3 a1_4 a1_5 a1_6) = some r := by rw [if_neg (show ¬ (false = true) by decide)] at H; exact H
        clear H
        have H := H1
        clear H1
        have H' := Aside0.mk H
        clear H
        go_wp2
        repeat (go_quiet (fail); try go_wp2)
        go_loopg [5] kj2 (fun kq v5 w' => ∃ (x5_2 : Int), v5 = .int .i64 x5_2 ∧ Aside0 (legateref13_Same.l0 kq x5_2 a0_0 l0_1 a0_2 l0_3 a0_4 a0_5 a0_6 a1_0 l1_1 a1_2 l1_3 a1_4 a1_5 a1_6 = some r) ∧ Aside0 (kq ≤ kj2) ∧ Aside0 (w'.heap[gb208]? = some (.cells #[.string a0_0, (.slice A0_1 l0_1.length c0_1), .int .i64 a0_2, (.slice A0_3 l0_3.length c0_3), .string a0_4, .bool a0_5, .int .i64 a0_6] 25 (0, 0))) ∧ Aside0 (w'.heap[gb209]? = some (.cells #[.string a1_0, (.slice A1_1 l1_1.length c1_1), .int .i64 a1_2, (.slice A1_3 l1_3.length c1_3), .string a1_4, .bool a1_5, .int .i64 a1_6] 25 (0, 0))) ∧ Aside0 (Below w.heap.size w w'))
        case atStart => exact ⟨(0), (by first | rfl | (simp; done) | (simp [*]; done) | (simp; exact isEmpty_ne _)), H', ⟨Nat.le_refl _⟩, ⟨by (with_reducible repeat (first | refine blk_drewN ?_ _ | refine blk_drew ?_ | refine blk_alloc ?_ _)); exact BK208.out⟩, ⟨by (with_reducible repeat (first | refine blk_drewN ?_ _ | refine blk_drew ?_ | refine blk_alloc ?_ _)); exact BK209.out⟩, ⟨by repeat (first | (with_reducible first | exact HB.out | apply below_alloc | apply pw_below_drewN | apply below_drew1 | refine below_set ?_ GE208.out | refine below_set ?_ GE209.out) | exact HB.out)⟩⟩
        case round =>
          clear H'
          try clear c1
          try clear p2
          try clear c6
          try clear c6b0
          try clear c6b1
          try clear c6b2
          try clear c7
          try clear c10
          try clear c13
          try clear hcz11_0
          try clear hcz11_1
          try clear hcz11_2
          try clear hcz11_3
          try clear hcz11_4
          try clear hcz11_5
          try clear hcz11_6
          try clear hcz12_0
          try clear hcz12_1
          try clear hcz12_2
          try clear hcz12_3
          try clear hcz12_4
          try clear hcz12_5
          try clear hcz12_6
          try clear hcz8_0
          try clear hcz8_1
          try clear hcz8_2
          try clear hcz8_3
          try clear hcz8_4
          try clear hcz8_5
          try clear hcz8_6
          try clear hcz9_0
          try clear hcz9_1
          try clear hcz9_2
          try clear hcz9_3
          try clear hcz9_4
          try clear hcz9_5
          try clear hcz9_6
          try clear hfz11_0
          try clear hfz11_1
          try clear hfz11_2
          try clear hfz11_3
          try clear hfz11_4
          try clear hfz11_5
          try clear hfz11_6
          try clear hfz12_0
          try clear hfz12_1
          try clear hfz12_2
          try clear hfz12_3
          try clear hfz12_4
          try clear hfz12_5
          try clear hfz12_6
          try clear hfz8_0
          try clear hfz8_1
          try clear hfz8_2
          try clear hfz8_3
          try clear hfz8_4
          try clear hfz8_5
          try clear hfz8_6
          try clear hfz9_0
          try clear hfz9_1
          try clear hfz9_2
          try clear hfz9_3
          try clear hfz9_4
          try clear hfz9_5
          try clear hfz9_6
          try clear p2
          obtain ⟨x5_2, rfl, HA, HK2, BK208, BK209, HB⟩ := hrel
          cases gk with
          | zero => exact absurd HA.out (by simp [legateref13_Same.l0])
          | succ k2 =>
            have H := HA.out
            clear HA
            simp only [legateref13_Same.l0] at H
            by_cases c14 : x5_2 < (l0_1.length : Int)
            · rw [if_pos c14] at H
              have c14b0 : decide (x5_2 < (l0_1.length : Int)) = true := decide_eq_true c14
              clear c14
              by_cases c15 : 0 ≤ x5_2
              · rw [if_pos c15] at H
                have c15b0 : decide (0 ≤ x5_2) = true := decide_eq_true c15
                clear c15
                by_cases c16 : x5_2 < (l1_1.length : Int)
                · rw [if_pos c16] at H
                  have c16b0 : decide (x5_2 < (l1_1.length : Int)) = true := decide_eq_true c16
                  clear c16
                  by_cases c17 : (rd l0_1 x5_2) = (rd l1_1 x5_2)
                  · rw [if_pos c17] at H
                    have c17b0 : ((rd l0_1 x5_2) == (rd l1_1 x5_2)) = true := beq_iff_eq.mpr c17
                    have c17b1 : ((rd l0_1 x5_2) != (rd l1_1 x5_2)) = false := bne_eq_false_iff_eq.mpr c17
                    clear c17
                    have H' := Aside0.mk H
                    clear H
                    have hnb18 := NB208_209.out
                    have hnc18 := NB209_208.out
                    have hcz19_0 : wr.cell? ⟨gb208, 0, none⟩ = some (.string a0_0) := (blk_cell BK208.out 0).trans rfl
                    have hcz19_1 : wr.cell? ⟨gb208, 1, none⟩ = some (.slice A0_1 l0_1.length c0_1) := (blk_cell BK208.out 1).trans rfl
                    have hcz19_2 : wr.cell? ⟨gb208, 2, none⟩ = some (.int .i64 a0_2) := (blk_cell BK208.out 2).trans rfl
                    have hcz19_3 : wr.cell? ⟨gb208, 3, none⟩ = some (.slice A0_3 l0_3.length c0_3) := (blk_cell BK208.out 3).trans rfl
                    have hcz19_4 : wr.cell? ⟨gb208, 4, none⟩ = some (.string a0_4) := (blk_cell BK208.out 4).trans rfl
                    have hcz19_5 : wr.cell? ⟨gb208, 5, none⟩ = some (.bool a0_5) := (blk_cell BK208.out 5).trans rfl
                    have hcz19_6 : wr.cell? ⟨gb208, 6, none⟩ = some (.int .i64 a0_6) := (blk_cell BK208.out 6).trans rfl
                    have hfz19_0 := blk_frozen BK208.out 0
                    have hfz19_1 := blk_frozen BK208.out 1
                    have hfz19_2 := blk_frozen BK208.out 2
                    have hfz19_3 := blk_frozen BK208.out 3
                    have hfz19_4 := blk_frozen BK208.out 4
                    have hfz19_5 := blk_frozen BK208.out 5
                    have hfz19_6 := blk_frozen BK208.out 6
                    have p210 : 0 ≤ (x5_2 : Int) := of_decide_eq_true (by first | (with_reducible assumption) | assumption)
                    have q210 : x5_2 < (l0_1.length : Int) := of_decide_eq_true (by first | (with_reducible assumption) | assumption)
                    obtain ⟨ad210, e210, hx210_0⟩ := Kd.at_int HR0_1.out x5_2 p210 q210
                    cases e210
                    replace hx210_0 := (HB.out.cell (World.block_lt_of_cell? w _ hx210_0)).trans hx210_0
                    replace p210 := eq_true p210
                    replace q210 := eq_true q210
                    have hcz20_0 : wr.cell? ⟨gb209, 0, none⟩ = some (.string a1_0) := (blk_cell BK209.out 0).trans rfl
                    have hcz20_1 : wr.cell? ⟨gb209, 1, none⟩ = some (.slice A1_1 l1_1.length c1_1) := (blk_cell BK209.out 1).trans rfl
                    have hcz20_2 : wr.cell? ⟨gb209, 2, none⟩ = some (.int .i64 a1_2) := (blk_cell BK209.out 2).trans rfl
                    have hcz20_3 : wr.cell? ⟨gb209, 3, none⟩ = some (.slice A1_3 l1_3.length c1_3) := (blk_cell BK209.out 3).trans rfl
                    have hcz20_4 : wr.cell? ⟨gb209, 4, none⟩ = some (.string a1_4) := (blk_cell BK209.out 4).trans rfl
                    have hcz20_5 : wr.cell? ⟨gb209, 5, none⟩ = some (.bool a1_5) := (blk_cell BK209.out 5).trans rfl
                    have hcz20_6 : wr.cell? ⟨gb209, 6, none⟩ = some (.int .i64 a1_6) := (blk_cell BK209.out 6).trans rfl
                    have hfz20_0 := blk_frozen BK209.out 0
                    have hfz20_1 := blk_frozen BK209.out 1
                    have hfz20_2 := blk_frozen BK209.out 2
                    have hfz20_3 := blk_frozen BK209.out 3
                    have hfz20_4 := blk_frozen BK209.out 4
                    have hfz20_5 := blk_frozen BK209.out 5
                    have hfz20_6 := blk_frozen BK209.out 6
                    have p211 : 0 ≤ (x5_2 : Int) := of_decide_eq_true (by first | (with_reducible assumption) | assumption)
                    have q211 : x5_2 < (l1_1.length : Int) := of_decide_eq_true (by first | (with_reducible assumption) | assumption)
                    obtain ⟨ad211, e211, hx211_0⟩ := Kd.at_int HR1_1.out x5_2 p211 q211
                    cases e211
                    replace hx211_0 := (HB.out.cell (World.block_lt_of_cell? w _ hx211_0)).trans hx211_0
                    replace p211 := eq_true p211
                    replace q211 := eq_true q211
                    go_wp2
                    repeat (go_quiet (fail); try go_wp2)
                    go_roundg k2
                    case measure => have := HJ2.out; have := HK2.out; omega
                    case rel => exact ⟨(wrap64 (x5_2 + 1)), (by first | rfl | (simp; done) | (simp [*]; done) | (simp; exact isEmpty_ne _)), H', ⟨by have := HJ2.out; have := HK2.out; omega⟩, ⟨by (with_reducible repeat (first | refine blk_drewN ?_ _ | refine blk_drew ?_ | refine blk_alloc ?_ _)); exact BK208.out⟩, ⟨by (with_reducible repeat (first | refine blk_drewN ?_ _ | refine blk_drew ?_ | refine blk_alloc ?_ _)); exact BK209.out⟩, ⟨by repeat (first | (with_reducible first | exact HB.out | apply below_alloc | apply pw_below_drewN | apply below_drew1 | refine below_set ?_ GE208.out | refine below_set ?_ GE209.out) | exact HB.out)⟩⟩
                  · rw [if_neg c17] at H
                    have c17b0 : ((rd l0_1 x5_2) == (rd l1_1 x5_2)) = false := beq_eq_false_iff_ne.mpr c17
                    have c17b1 : ((rd l0_1 x5_2) != (rd l1_1 x5_2)) = true := bne_iff_ne.mpr c17
                    obtain rfl := Option.some.inj H
                    have hnb21 := NB208_209.out
                    have hnc21 := NB209_208.out
                    have hcz22_0 : wr.cell? ⟨gb208, 0, none⟩ = some (.string a0_0) := (blk_cell BK208.out 0).trans rfl
                    have hcz22_1 : wr.cell? ⟨gb208, 1, none⟩ = some (.slice A0_1 l0_1.length c0_1) := (blk_cell BK208.out 1).trans rfl
                    have hcz22_2 : wr.cell? ⟨gb208, 2, none⟩ = some (.int .i64 a0_2) := (blk_cell BK208.out 2).trans rfl
                    have hcz22_3 : wr.cell? ⟨gb208, 3, none⟩ = some (.slice A0_3 l0_3.length c0_3) := (blk_cell BK208.out 3).trans rfl
                    have hcz22_4 : wr.cell? ⟨gb208, 4, none⟩ = some (.string a0_4) := (blk_cell BK208.out 4).trans rfl
                    have hcz22_5 : wr.cell? ⟨gb208, 5, none⟩ = some (.bool a0_5) := (blk_cell BK208.out 5).trans rfl
                    have hcz22_6 : wr.cell? ⟨gb208, 6, none⟩ = some (.int .i64 a0_6) := (blk_cell BK208.out 6).trans rfl
                    have hfz22_0 := blk_frozen BK208.out 0
                    have hfz22_1 := blk_frozen BK208.out 1
                    have hfz22_2 := blk_frozen BK208.out 2
                    have hfz22_3 := blk_frozen BK208.out 3
                    have hfz22_4 := blk_frozen BK208.out 4
                    have hfz22_5 := blk_frozen BK208.out 5
                    have hfz22_6 := blk_frozen BK208.out 6
                    have p210 : 0 ≤ (x5_2 : Int) := of_decide_eq_true (by first | (with_reducible assumption) | assumption)
                    have q210 : x5_2 < (l0_1.length : Int) := of_decide_eq_true (by first | (with_reducible assumption) | assumption)
                    obtain ⟨ad210, e210, hx210_0⟩ := Kd.at_int HR0_1.out x5_2 p210 q210
                    cases e210
                    replace hx210_0 := (HB.out.cell (World.block_lt_of_cell? w _ hx210_0)).trans hx210_0
                    replace p210 := eq_true p210
                    replace q210 := eq_true q210
                    have hcz23_0 : wr.cell? ⟨gb209, 0, none⟩ = some (.string a1_0) := (blk_cell BK209.out 0).trans rfl
                    have hcz23_1 : wr.cell? ⟨gb209, 1, none⟩ = some (.slice A1_1 l1_1.length c1_1) := (blk_cell BK209.out 1).trans rfl
                    have hcz23_2 : wr.cell? ⟨gb209, 2, none⟩ = some (.int .i64 a1_2) := (blk_cell BK209.out 2).trans rfl
                    have hcz23_3 : wr.cell? ⟨gb209, 3, none⟩ = some (.slice A1_3 l1_3.length c1_3) := (blk_cell BK209.out 3).trans rfl
                    have hcz23_4 : wr.cell? ⟨gb209, 4, none⟩ = some (.string a1_4) := (blk_cell BK209.out 4).trans rfl
                    have hcz23_5 : wr.cell? ⟨gb209, 5, none⟩ = some (.bool a1_5) := (blk_cell BK209.out 5).trans rfl
                    have hcz23_6 : wr.cell? ⟨gb209, 6, none⟩ = some (.int .i64 a1_6) := (blk_cell BK209.out 6).trans rfl
                    have hfz23_0 := blk_frozen BK209.out 0
                    have hfz23_1 := blk_frozen BK209.out 1
                    have hfz23_2 := blk_frozen BK209.out 2
                    have hfz23_3 := blk_frozen BK209.out 3
                    have hfz23_4 := blk_frozen BK209.out 4
                    have hfz23_5 := blk_frozen BK209.out 5
                    have hfz23_6 := blk_frozen BK209.out 6
                    have p211 : 0 ≤ (x5_2 : Int) := of_decide_eq_true (by first | (with_reducible assumption) | assumption)
                    have q211 : x5_2 < (l1_1.length : Int) := of_decide_eq_true (by first | (with_reducible assumption) | assumption)
                    obtain ⟨ad211, e211, hx211_0⟩ := Kd.at_int HR1_1.out x5_2 p211 q211
                    cases e211
                    replace hx211_0 := (HB.out.cell (World.block_lt_of_cell? w _ hx211_0)).trans hx211_0
                    replace p211 := eq_true p211
                    replace q211 := eq_true q211
                    go_wp2
                    repeat (go_quiet (fail); try go_wp2)
                    go_ret
                    exact ⟨by first | rfl | (simp [errW_none, errW_some] <;> rfl) | (simp [*, errW_none, errW_some] <;> rfl), by repeat (first | (with_reducible first | exact HB.out | apply below_alloc | apply pw_below_drewN | apply below_drew1 | refine below_set ?_ GE208.out | refine below_set ?_ GE209.out) | exact HB.out)⟩
                · rw [if_neg c16] at H
                  exact absurd H (by simp)
              · rw [if_neg c15] at H
                exact absurd H (by simp)
            · rw [if_neg c14] at H
              have c14b0 : decide (x5_2 < (l0_1.length : Int)) = false := decide_eq_false c14
              clear c14
              have H' := Aside0.mk H
              clear H
              have hnb24 := NB208_209.out
              have hnc24 := NB209_208.out
              have hcz25_0 : wr.cell? ⟨gb208, 0, none⟩ = some (.string a0_0) := (blk_cell BK208.out 0).trans rfl
              have hcz25_1 : wr.cell? ⟨gb208, 1, none⟩ = some (.slice A0_1 l0_1.length c0_1) := (blk_cell BK208.out 1).trans rfl
              have hcz25_2 : wr.cell? ⟨gb208, 2, none⟩ = some (.int .i64 a0_2) := (blk_cell BK208.out 2).trans rfl
              have hcz25_3 : wr.cell? ⟨gb208, 3, none⟩ = some (.slice A0_3 l0_3.length c0_3) := (blk_cell BK208.out 3).trans rfl
              have hcz25_4 : wr.cell? ⟨gb208, 4, none⟩ = some (.string a0_4) := (blk_cell BK208.out 4).trans rfl
              have hcz25_5 : wr.cell? ⟨gb208, 5, none⟩ = some (.bool a0_5) := (blk_cell BK208.out 5).trans rfl
              have hcz25_6 : wr.cell? ⟨gb208, 6, none⟩ = some (.int .i64 a0_6) := (blk_cell BK208.out 6).trans rfl
              have hfz25_0 := blk_frozen BK208.out 0
              have hfz25_1 := blk_frozen BK208.out 1
              have hfz25_2 := blk_frozen BK208.out 2
              have hfz25_3 := blk_frozen BK208.out 3
              have hfz25_4 := blk_frozen BK208.out 4
              have hfz25_5 := blk_frozen BK208.out 5
              have hfz25_6 := blk_frozen BK208.out 6
              go_wp2
              repeat (go_quiet (fail); try go_wp2)
              go_loopg [6] k2 (fun kq v6 w' => ∃ (x6_3 : Int), v6 = .int .i64 x6_3 ∧ Aside0 (legateref13_Same.l1 kq x6_3 a0_0 l0_1 a0_2 l0_3 a0_4 a0_5 a0_6 a1_0 l1_1 a1_2 l1_3 a1_4 a1_5 a1_6 = some r) ∧ Aside0 (kq ≤ k2) ∧ Aside0 (w'.heap[gb208]? = some (.cells #[.string a0_0, (.slice A0_1 l0_1.length c0_1), .int .i64 a0_2, (.slice A0_3 l0_3.length c0_3), .string a0_4, .bool a0_5, .int .i64 a0_6] 25 (0, 0))) ∧ Aside0 (w'.heap[gb209]? = some (.cells #[.string a1_0, (.slice A1_1 l1_1.length c1_1), .int .i64 a1_2, (.slice A1_3 l1_3.length c1_3), .string a1_4, .bool a1_5, .int .i64 a1_6] 25 (0, 0))) ∧ Aside0 (Below w.heap.size w w'))
              case atStart => exact ⟨(0), (by first | rfl | (simp; done) | (simp [*]; done) | (simp; exact isEmpty_ne _)), H', ⟨Nat.le_refl _⟩, ⟨by (with_reducible repeat (first | refine blk_drewN ?_ _ | refine blk_drew ?_ | refine blk_alloc ?_ _)); exact BK208.out⟩, ⟨by (with_reducible repeat (first | refine blk_drewN ?_ _ | refine blk_drew ?_ | refine blk_alloc ?_ _)); exact BK209.out⟩, ⟨by repeat (first | (with_reducible first | exact HB.out | apply below_alloc | apply pw_below_drewN | apply below_drew1 | refine below_set ?_ GE208.out | refine below_set ?_ GE209.out) | exact HB.out)⟩⟩
              case round =>
                clear H'
                try clear c1
                try clear c2
                try clear p2
                try clear q2
                try clear hx2
                try clear c6
                try clear c6b0
                try clear c6b1
                try clear c6b2
                try clear p6
                try clear c7
                try clear c10
                try clear c13
                try clear c14
                try clear c14b0
                try clear c15
                try clear c15b0
                try clear c16
                try clear c16b0
                try clear c17
                try clear c17b0
                try clear c17b1
                try clear c18
                try clear c21
                try clear p21
                try clear q21
                try clear hx21
                try clear c24
                try clear hcz11_0
                try clear hcz11_1
                try clear hcz11_2
                try clear hcz11_3
                try clear hcz11_4
                try clear hcz11_5
                try clear hcz11_6
                try clear hcz12_0
                try clear hcz12_1
                try clear hcz12_2
                try clear hcz12_3
                try clear hcz12_4
                try clear hcz12_5
                try clear hcz12_6
                try clear hcz19_0
                try clear hcz19_1
                try clear hcz19_2
                try clear hcz19_3
                try clear hcz19_4
                try clear hcz19_5
                try clear hcz19_6
                try clear hcz20_0
                try clear hcz20_1
                try clear hcz20_2
                try clear hcz20_3
                try clear hcz20_4
                try clear hcz20_5
                try clear hcz20_6
                try clear hcz22_0
                try clear hcz22_1
                try clear hcz22_2
                try clear hcz22_3
                try clear hcz22_4
                try clear hcz22_5
                try clear hcz22_6
                try clear hcz23_0
                try clear hcz23_1
                try clear hcz23_2
                try clear hcz23_3
                try clear hcz23_4
                try clear hcz23_5
                try clear hcz23_6
                try clear hcz25_0
                try clear hcz25_1
                try clear hcz25_2
                try clear hcz25_3
                try clear hcz25_4
                try clear hcz25_5
                try clear hcz25_6
                try clear hcz8_0
                try clear hcz8_1
                try clear hcz8_2
                try clear hcz8_3
                try clear hcz8_4
                try clear hcz8_5
                try clear hcz8_6
                try clear hcz9_0
                try clear hcz9_1
                try clear hcz9_2
                try clear hcz9_3
                try clear hcz9_4
                try clear hcz9_5
                try clear hcz9_6
                try clear hfz11_0
                try clear hfz11_1
                try clear hfz11_2
                try clear hfz11_3
                try clear hfz11_4
                try clear hfz11_5
                try clear hfz11_6
                try clear hfz12_0
                try clear hfz12_1
                try clear hfz12_2
                try clear hfz12_3
                try clear hfz12_4
                try clear hfz12_5
                try clear hfz12_6
                try clear hfz19_0
                try clear hfz19_1
                try clear hfz19_2
                try clear hfz19_3
                try clear hfz19_4
                try clear hfz19_5
                try clear hfz19_6
                try clear hfz20_0
                try clear hfz20_1
                try clear hfz20_2
                try clear hfz20_3
                try clear hfz20_4
                try clear hfz20_5
                try clear hfz20_6
                try clear hfz22_0
                try clear hfz22_1
                try clear hfz22_2
                try clear hfz22_3
                try clear hfz22_4
                try clear hfz22_5
                try clear hfz22_6
                try clear hfz23_0
                try clear hfz23_1
                try clear hfz23_2
                try clear hfz23_3
                try clear hfz23_4
                try clear hfz23_5
                try clear hfz23_6
                try clear hfz25_0
                try clear hfz25_1
                try clear hfz25_2
                try clear hfz25_3
                try clear hfz25_4
                try clear hfz25_5
                try clear hfz25_6
                try clear hfz8_0
                try clear hfz8_1
                try clear hfz8_2
                try clear hfz8_3
                try clear hfz8_4
                try clear hfz8_5
                try clear hfz8_6
                try clear hfz9_0
                try clear hfz9_1
                try clear hfz9_2
                try clear hfz9_3
                try clear hfz9_4
                try clear hfz9_5
                try clear hfz9_6
                try clear hx210_0
                try clear hx211_0
                try clear p2
                try clear p210
                try clear p211
                try clear q210
                try clear q211
                obtain ⟨x6_3, rfl, HA, HK3, BK208, BK209, HB⟩ := hrel
                cases gk with
                | zero => exact absurd HA.out (by simp [legateref13_Same.l1])
                | succ k3 =>
                  have H := HA.out
                  clear HA
                  simp only [legateref13_Same.l1] at H
                  by_cases c26 : x6_3 < (l0_3.length : Int)
                  · rw [if_pos c26] at H
                    have c26b0 : decide (x6_3 < (l0_3.length : Int)) = true := decide_eq_true c26
                    clear c26
                    by_cases c27 : 0 ≤ x6_3
                    · rw [if_pos c27] at H
                      have c27b0 : decide (0 ≤ x6_3) = true := decide_eq_true c27
                      clear c27
                      by_cases c28 : x6_3 < (l1_3.length : Int)
                      · rw [if_pos c28] at H
                        have c28b0 : decide (x6_3 < (l1_3.length : Int)) = true := decide_eq_true c28
                        clear c28
                        by_cases c29 : (rdOf ByteArray.empty l0_3 x6_3).toList = (rdOf ByteArray.empty l1_3 x6_3).toList
                        · rw [if_pos c29] at H
                          have c29b0 : ((rdOf ByteArray.empty l0_3 x6_3).toList == (rdOf ByteArray.empty l1_3 x6_3).toList) = true := beq_iff_eq.mpr c29
                          have c29b1 : ((rdOf ByteArray.empty l0_3 x6_3).toList != (rdOf ByteArray.empty l1_3 x6_3).toList) = false := bne_eq_false_iff_eq.mpr c29
                          clear c29
                          have H' := Aside0.mk H
                          clear H
                          have hnb30 := NB208_209.out
                          have hnc30 := NB209_208.out
                          have hcz31_0 : wr.cell? ⟨gb208, 0, none⟩ = some (.string a0_0) := (blk_cell BK208.out 0).trans rfl
                          have hcz31_1 : wr.cell? ⟨gb208, 1, none⟩ = some (.slice A0_1 l0_1.length c0_1) := (blk_cell BK208.out 1).trans rfl
                          have hcz31_2 : wr.cell? ⟨gb208, 2, none⟩ = some (.int .i64 a0_2) := (blk_cell BK208.out 2).trans rfl
                          have hcz31_3 : wr.cell? ⟨gb208, 3, none⟩ = some (.slice A0_3 l0_3.length c0_3) := (blk_cell BK208.out 3).trans rfl
                          have hcz31_4 : wr.cell? ⟨gb208, 4, none⟩ = some (.string a0_4) := (blk_cell BK208.out 4).trans rfl
                          have hcz31_5 : wr.cell? ⟨gb208, 5, none⟩ = some (.bool a0_5) := (blk_cell BK208.out 5).trans rfl
                          have hcz31_6 : wr.cell? ⟨gb208, 6, none⟩ = some (.int .i64 a0_6) := (blk_cell BK208.out 6).trans rfl
                          have hfz31_0 := blk_frozen BK208.out 0
                          have hfz31_1 := blk_frozen BK208.out 1
                          have hfz31_2 := blk_frozen BK208.out 2
                          have hfz31_3 := blk_frozen BK208.out 3
                          have hfz31_4 := blk_frozen BK208.out 4
                          have hfz31_5 := blk_frozen BK208.out 5
                          have hfz31_6 := blk_frozen BK208.out 6
                          have p212 : 0 ≤ (x6_3 : Int) := of_decide_eq_true (by first | (with_reducible assumption) | assumption)
                          have q212 : x6_3 < (l0_3.length : Int) := of_decide_eq_true (by first | (with_reducible assumption) | assumption)
                          obtain ⟨ad212, e212, hx212_0⟩ := Kd.at_string HR0_3.out x6_3 p212 q212
                          cases e212
                          replace hx212_0 := (HB.out.cell (World.block_lt_of_cell? w _ hx212_0)).trans hx212_0
                          replace p212 := eq_true p212
                          replace q212 := eq_true q212
                          have hcz32_0 : wr.cell? ⟨gb209, 0, none⟩ = some (.string a1_0) := (blk_cell BK209.out 0).trans rfl
                          have hcz32_1 : wr.cell? ⟨gb209, 1, none⟩ = some (.slice A1_1 l1_1.length c1_1) := (blk_cell BK209.out 1).trans rfl
                          have hcz32_2 : wr.cell? ⟨gb209, 2, none⟩ = some (.int .i64 a1_2) := (blk_cell BK209.out 2).trans rfl
                          have hcz32_3 : wr.cell? ⟨gb209, 3, none⟩ = some (.slice A1_3 l1_3.length c1_3) := (blk_cell BK209.out 3).trans rfl
                          have hcz32_4 : wr.cell? ⟨gb209, 4, none⟩ = some (.string a1_4) := (blk_cell BK209.out 4).trans rfl
                          have hcz32_5 : wr.cell? ⟨gb209, 5, none⟩ = some (.bool a1_5) := (blk_cell BK209.out 5).trans rfl
                          have hcz32_6 : wr.cell? ⟨gb209, 6, none⟩ = some (.int .i64 a1_6) := (blk_cell BK209.out 6).trans rfl
                          have hfz32_0 := blk_frozen BK209.out 0
                          have hfz32_1 := blk_frozen BK209.out 1
                          have hfz32_2 := blk_frozen BK209.out 2
                          have hfz32_3 := blk_frozen BK209.out 3
                          have hfz32_4 := blk_frozen BK209.out 4
                          have hfz32_5 := blk_frozen BK209.out 5
                          have hfz32_6 := blk_frozen BK209.out 6
                          have p213 : 0 ≤ (x6_3 : Int) := of_decide_eq_true (by first | (with_reducible assumption) | assumption)
                          have q213 : x6_3 < (l1_3.length : Int) := of_decide_eq_true (by first | (with_reducible assumption) | assumption)
                          obtain ⟨ad213, e213, hx213_0⟩ := Kd.at_string HR1_3.out x6_3 p213 q213
                          cases e213
                          replace hx213_0 := (HB.out.cell (World.block_lt_of_cell? w _ hx213_0)).trans hx213_0
                          replace p213 := eq_true p213
                          replace q213 := eq_true q213
                          go_wp2
                          repeat (go_quiet (fail); try go_wp2)
                          go_roundg k3
                          case measure => have := HJ2.out; have := HK2.out; have := HK3.out; omega
                          case rel => exact ⟨(wrap64 (x6_3 + 1)), (by first | rfl | (simp; done) | (simp [*]; done) | (simp; exact isEmpty_ne _)), H', ⟨by have := HJ2.out; have := HK2.out; have := HK3.out; omega⟩, ⟨by (with_reducible repeat (first | refine blk_drewN ?_ _ | refine blk_drew ?_ | refine blk_alloc ?_ _)); exact BK208.out⟩, ⟨by (with_reducible repeat (first | refine blk_drewN ?_ _ | refine blk_drew ?_ | refine blk_alloc ?_ _)); exact BK209.out⟩, ⟨by repeat (first | (with_reducible first | exact HB.out | apply below_alloc | apply pw_below_drewN | apply below_drew1 | refine below_set ?_ GE208.out | refine below_set ?_ GE209.out) | exact HB.out)⟩⟩
                        · rw [if_neg c29] at H
                          have c29b0 : ((rdOf ByteArray.empty l0_3 x6_3).toList == (rdOf ByteArray.empty l1_3 x6_3).toList) = false := beq_eq_false_iff_ne.mpr c29
                          have c29b1 : ((rdOf ByteArray.empty l0_3 x6_3).toList != (rdOf ByteArray.empty l1_3 x6_3).toList) = true := bne_iff_ne.mpr c29
                          obtain rfl := Option.some.inj H
                          have hnb33 := NB208_209.out
                          have hnc33 := NB209_208.out
                          have hcz34_0 : wr.cell? ⟨gb208, 0, none⟩ = some (.string a0_0) := (blk_cell BK208.out 0).trans rfl
                          have hcz34_1 : wr.cell? ⟨gb208, 1, none⟩ = some (.slice A0_1 l0_1.length c0_1) := (blk_cell BK208.out 1).trans rfl
                          have hcz34_2 : wr.cell? ⟨gb208, 2, none⟩ = some (.int .i64 a0_2) := (blk_cell BK208.out 2).trans rfl
                          have hcz34_3 : wr.cell? ⟨gb208, 3, none⟩ = some (.slice A0_3 l0_3.length c0_3) := (blk_cell BK208.out 3).trans rfl
                          have hcz34_4 : wr.cell? ⟨gb208, 4, none⟩ = some (.string a0_4) := (blk_cell BK208.out 4).trans rfl
                          have hcz34_5 : wr.cell? ⟨gb208, 5, none⟩ = some (.bool a0_5) := (blk_cell BK208.out 5).trans rfl
                          have hcz34_6 : wr.cell? ⟨gb208, 6, none⟩ = some (.int .i64 a0_6) := (blk_cell BK208.out 6).trans rfl
                          have hfz34_0 := blk_frozen BK208.out 0
                          have hfz34_1 := blk_frozen BK208.out 1
                          have hfz34_2 := blk_frozen BK208.out 2
                          have hfz34_3 := blk_frozen BK208.out 3
                          have hfz34_4 := blk_frozen BK208.out 4
                          have hfz34_5 := blk_frozen BK208.out 5
                          have hfz34_6 := blk_frozen BK208.out 6
                          have p212 : 0 ≤ (x6_3 : Int) := of_decide_eq_true (by first | (with_reducible assumption) | assumption)
                          have q212 : x6_3 < (l0_3.length : Int) := of_decide_eq_true (by first | (with_reducible assumption) | assumption)
                          obtain ⟨ad212, e212, hx212_0⟩ := Kd.at_string HR0_3.out x6_3 p212 q212
                          cases e212
                          replace hx212_0 := (HB.out.cell (World.block_lt_of_cell? w _ hx212_0)).trans hx212_0
                          replace p212 := eq_true p212
                          replace q212 := eq_true q212
                          have hcz35_0 : wr.cell? ⟨gb209, 0, none⟩ = some (.string a1_0) := (blk_cell BK209.out 0).trans rfl
                          have hcz35_1 : wr.cell? ⟨gb209, 1, none⟩ = some (.slice A1_1 l1_1.length c1_1) := (blk_cell BK209.out 1).trans rfl
                          have hcz35_2 : wr.cell? ⟨gb209, 2, none⟩ = some (.int .i64 a1_2) := (blk_cell BK209.out 2).trans rfl
                          have hcz35_3 : wr.cell? ⟨gb209, 3, none⟩ = some (.slice A1_3 l1_3.length c1_3) := (blk_cell BK209.out 3).trans rfl
                          have hcz35_4 : wr.cell? ⟨gb209, 4, none⟩ = some (.string a1_4) := (blk_cell BK209.out 4).trans rfl
                          have hcz35_5 : wr.cell? ⟨gb209, 5, none⟩ = some (.bool a1_5) := (blk_cell BK209.out 5).trans rfl
                          have hcz35_6 : wr.cell? ⟨gb209, 6, none⟩ = some (.int .i64 a1_6) := (blk_cell BK209.out 6).trans rfl
                          have hfz35_0 := blk_frozen BK209.out 0
                          have hfz35_1 := blk_frozen BK209.out 1
                          have hfz35_2 := blk_frozen BK209.out 2
                          have hfz35_3 := blk_frozen BK209.out 3
                          have hfz35_4 := blk_frozen BK209.out 4
                          have hfz35_5 := blk_frozen BK209.out 5
                          have hfz35_6 := blk_frozen BK209.out 6
                          have p213 : 0 ≤ (x6_3 : Int) := of_decide_eq_true (by first | (with_reducible assumption) | assumption)
                          have q213 : x6_3 < (l1_3.length : Int) := of_decide_eq_true (by first | (with_reducible assumption) | assumption)
                          obtain ⟨ad213, e213, hx213_0⟩ := Kd.at_string HR1_3.out x6_3 p213 q213
                          cases e213
                          replace hx213_0 := (HB.out.cell (World.block_lt_of_cell? w _ hx213_0)).trans hx213_0
                          replace p213 := eq_true p213
                          replace q213 := eq_true q213
                          go_wp2
                          repeat (go_quiet (fail); try go_wp2)
                          go_ret
                          exact ⟨by first | rfl | (simp [errW_none, errW_some] <;> rfl) | (simp [*, errW_none, errW_some] <;> rfl), by repeat (first | (with_reducible first | exact HB.out | apply below_alloc | apply pw_below_drewN | apply below_drew1 | refine below_set ?_ GE208.out | refine below_set ?_ GE209.out) | exact HB.out)⟩
                      · rw [if_neg c28] at H
                        exact absurd H (by simp)
                    · rw [if_neg c27] at H
                      exact absurd H (by simp)
                  · rw [if_neg c26] at H
                    have c26b0 : decide (x6_3 < (l0_3.length : Int)) = false := decide_eq_false c26
                    clear c26
                    by_cases c36 : a0_0.toList = a1_0.toList
                    · rw [if_pos c36] at H
                      have c36b0 : (a0_0.toList == a1_0.toList) = true := beq_iff_eq.mpr c36
                      have c36b1 : (a0_0.toList != a1_0.toList) = false := bne_eq_false_iff_eq.mpr c36
                      clear c36
                      by_cases c37 : a0_2 = a1_2
                      · rw [if_pos c37] at H
                        have c37b0 : (a0_2 == a1_2) = true := beq_iff_eq.mpr c37
                        have c37b1 : (a0_2 != a1_2) = false := bne_eq_false_iff_eq.mpr c37
                        clear c37
                        by_cases c38 : a0_4.toList = a1_4.toList
                        · rw [if_pos c38] at H
                          have c38b0 : (a0_4.toList == a1_4.toList) = true := beq_iff_eq.mpr c38
                          have c38b1 : (a0_4.toList != a1_4.toList) = false := bne_eq_false_iff_eq.mpr c38
                          clear c38
                          by_cases c39 : (a0_5 == a1_5) = true
                          · rw [if_pos c39] at H
                            have c39b0 : (a0_5 == a1_5) = true := c39
                            (try (have c39b1 : decide (a0_5 = a1_5) = true := by simpa using c39))
                            (try (have c39b2 : (a0_5 == a1_5) = true := by simpa using c39))
                            clear c39
                            obtain rfl := Option.some.inj H
                            have hnb40 := NB208_209.out
                            have hnc40 := NB209_208.out
                            have hcz41_0 : wr.cell? ⟨gb208, 0, none⟩ = some (.string a0_0) := (blk_cell BK208.out 0).trans rfl
                            have hcz41_1 : wr.cell? ⟨gb208, 1, none⟩ = some (.slice A0_1 l0_1.length c0_1) := (blk_cell BK208.out 1).trans rfl
                            have hcz41_2 : wr.cell? ⟨gb208, 2, none⟩ = some (.int .i64 a0_2) := (blk_cell BK208.out 2).trans rfl
                            have hcz41_3 : wr.cell? ⟨gb208, 3, none⟩ = some (.slice A0_3 l0_3.length c0_3) := (blk_cell BK208.out 3).trans rfl
                            have hcz41_4 : wr.cell? ⟨gb208, 4, none⟩ = some (.string a0_4) := (blk_cell BK208.out 4).trans rfl
                            have hcz41_5 : wr.cell? ⟨gb208, 5, none⟩ = some (.bool a0_5) := (blk_cell BK208.out 5).trans rfl
                            have hcz41_6 : wr.cell? ⟨gb208, 6, none⟩ = some (.int .i64 a0_6) := (blk_cell BK208.out 6).trans rfl
                            have hfz41_0 := blk_frozen BK208.out 0
                            have hfz41_1 := blk_frozen BK208.out 1
                            have hfz41_2 := blk_frozen BK208.out 2
                            have hfz41_3 := blk_frozen BK208.out 3
                            have hfz41_4 := blk_frozen BK208.out 4
                            have hfz41_5 := blk_frozen BK208.out 5
                            have hfz41_6 := blk_frozen BK208.out 6
                            have hcz42_0 : wr.cell? ⟨gb209, 0, none⟩ = some (.string a1_0) := (blk_cell BK209.out 0).trans rfl
                            have hcz42_1 : wr.cell? ⟨gb209, 1, none⟩ = some (.slice A1_1 l1_1.length c1_1) := (blk_cell BK209.out 1).trans rfl
                            have hcz42_2 : wr.cell? ⟨gb209, 2, none⟩ = some (.int .i64 a1_2) := (blk_cell BK209.out 2).trans rfl
                            have hcz42_3 : wr.cell? ⟨gb209, 3, none⟩ = some (.slice A1_3 l1_3.length c1_3) := (blk_cell BK209.out 3).trans rfl
                            have hcz42_4 : wr.cell? ⟨gb209, 4, none⟩ = some (.string a1_4) := (blk_cell BK209.out 4).trans rfl
                            have hcz42_5 : wr.cell? ⟨gb209, 5, none⟩ = some (.bool a1_5) := (blk_cell BK209.out 5).trans rfl
                            have hcz42_6 : wr.cell? ⟨gb209, 6, none⟩ = some (.int .i64 a1_6) := (blk_cell BK209.out 6).trans rfl
                            have hfz42_0 := blk_frozen BK209.out 0
                            have hfz42_1 := blk_frozen BK209.out 1
                            have hfz42_2 := blk_frozen BK209.out 2
                            have hfz42_3 := blk_frozen BK209.out 3
                            have hfz42_4 := blk_frozen BK209.out 4
                            have hfz42_5 := blk_frozen BK209.out 5
                            have hfz42_6 := blk_frozen BK209.out 6
                            go_wp2
                            repeat (go_quiet (fail); try go_wp2)
                            go_ret
                            exact ⟨by first | rfl | (simp [errW_none, errW_some] <;> rfl) | (simp [*, errW_none, errW_some] <;> rfl), by repeat (first | (with_reducible first | exact HB.out | apply below_alloc | apply pw_below_drewN | apply below_drew1 | refine below_set ?_ GE208.out | refine below_set ?_ GE209.out) | exact HB.out)⟩
                          · rw [if_neg c39] at H
                            have c39b0 : (a0_5 == a1_5) = false := by simpa using c39
                            (try (have c39b1 : decide (a0_5 = a1_5) = false := by simpa using c39))
                            (try (have c39b2 : (a0_5 == a1_5) = false := by simpa using c39))
                            (try (have c39b3 : ¬ (a0_5 = a1_5) := by simpa using c39))
                            clear c39
                            obtain rfl := Option.some.inj H
                            have hnb43 := NB208_209.out
                            have hnc43 := NB209_208.out
                            have hcz44_0 : wr.cell? ⟨gb208, 0, none⟩ = some (.string a0_0) := (blk_cell BK208.out 0).trans rfl
                            have hcz44_1 : wr.cell? ⟨gb208, 1, none⟩ = some (.slice A0_1 l0_1.length c0_1) := (blk_cell BK208.out 1).trans rfl
                            have hcz44_2 : wr.cell? ⟨gb208, 2, none⟩ = some (.int .i64 a0_2) := (blk_cell BK208.out 2).trans rfl
                            have hcz44_3 : wr.cell? ⟨gb208, 3, none⟩ = some (.slice A0_3 l0_3.length c0_3) := (blk_cell BK208.out 3).trans rfl
                            have hcz44_4 : wr.cell? ⟨gb208, 4, none⟩ = some (.string a0_4) := (blk_cell BK208.out 4).trans rfl
                            have hcz44_5 : wr.cell? ⟨gb208, 5, none⟩ = some (.bool a0_5) := (blk_cell BK208.out 5).trans rfl
                            have hcz44_6 : wr.cell? ⟨gb208, 6, none⟩ = some (.int .i64 a0_6) := (blk_cell BK208.out 6).trans rfl
                            have hfz44_0 := blk_frozen BK208.out 0
                            have hfz44_1 := blk_frozen BK208.out 1
                            have hfz44_2 := blk_frozen BK208.out 2
                            have hfz44_3 := blk_frozen BK208.out 3
                            have hfz44_4 := blk_frozen BK208.out 4
                            have hfz44_5 := blk_frozen BK208.out 5
                            have hfz44_6 := blk_frozen BK208.out 6
                            have hcz45_0 : wr.cell? ⟨gb209, 0, none⟩ = some (.string a1_0) := (blk_cell BK209.out 0).trans rfl
                            have hcz45_1 : wr.cell? ⟨gb209, 1, none⟩ = some (.slice A1_1 l1_1.length c1_1) := (blk_cell BK209.out 1).trans rfl
                            have hcz45_2 : wr.cell? ⟨gb209, 2, none⟩ = some (.int .i64 a1_2) := (blk_cell BK209.out 2).trans rfl
                            have hcz45_3 : wr.cell? ⟨gb209, 3, none⟩ = some (.slice A1_3 l1_3.length c1_3) := (blk_cell BK209.out 3).trans rfl
                            have hcz45_4 : wr.cell? ⟨gb209, 4, none⟩ = some (.string a1_4) := (blk_cell BK209.out 4).trans rfl
                            have hcz45_5 : wr.cell? ⟨gb209, 5, none⟩ = some (.bool a1_5) := (blk_cell BK209.out 5).trans rfl
                            have hcz45_6 : wr.cell? ⟨gb209, 6, none⟩ = some (.int .i64 a1_6) := (blk_cell BK209.out 6).trans rfl
                            have hfz45_0 := blk_frozen BK209.out 0
                            have hfz45_1 := blk_frozen BK209.out 1
                            have hfz45_2 := blk_frozen BK209.out 2
                            have hfz45_3 := blk_frozen BK209.out 3
                            have hfz45_4 := blk_frozen BK209.out 4
                            have hfz45_5 := blk_frozen BK209.out 5
                            have hfz45_6 := blk_frozen BK209.out 6
                            go_wp2
                            repeat (go_quiet (fail); try go_wp2)
                            go_ret
                            exact ⟨by first | rfl | (simp [errW_none, errW_some] <;> rfl) | (simp [*, errW_none, errW_some] <;> rfl), by repeat (first | (with_reducible first | exact HB.out | apply below_alloc | apply pw_below_drewN | apply below_drew1 | refine below_set ?_ GE208.out | refine below_set ?_ GE209.out) | exact HB.out)⟩
                        · rw [if_neg c38] at H
                          have c38b0 : (a0_4.toList == a1_4.toList) = false := beq_eq_false_iff_ne.mpr c38
                          have c38b1 : (a0_4.toList != a1_4.toList) = true := bne_iff_ne.mpr c38
                          obtain rfl := Option.some.inj H
                          have hnb46 := NB208_209.out
                          have hnc46 := NB209_208.out
                          have hcz47_0 : wr.cell? ⟨gb208, 0, none⟩ = some (.string a0_0) := (blk_cell BK208.out 0).trans rfl
                          have hcz47_1 : wr.cell? ⟨gb208, 1, none⟩ = some (.slice A0_1 l0_1.length c0_1) := (blk_cell BK208.out 1).trans rfl
                          have hcz47_2 : wr.cell? ⟨gb208, 2, none⟩ = some (.int .i64 a0_2) := (blk_cell BK208.out 2).trans rfl
                          have hcz47_3 : wr.cell? ⟨gb208, 3, none⟩ = some (.slice A0_3 l0_3.length c0_3) := (blk_cell BK208.out 3).trans rfl
                          have hcz47_4 : wr.cell? ⟨gb208, 4, none⟩ = some (.string a0_4) := (blk_cell BK208.out 4).trans rfl
                          have hcz47_5 : wr.cell? ⟨gb208, 5, none⟩ = some (.bool a0_5) := (blk_cell BK208.out 5).trans rfl
                          have hcz47_6 : wr.cell? ⟨gb208, 6, none⟩ = some (.int .i64 a0_6) := (blk_cell BK208.out 6).trans rfl
                          have hfz47_0 := blk_frozen BK208.out 0
                          have hfz47_1 := blk_frozen BK208.out 1
                          have hfz47_2 := blk_frozen BK208.out 2
                          have hfz47_3 := blk_frozen BK208.out 3
                          have hfz47_4 := blk_frozen BK208.out 4
                          have hfz47_5 := blk_frozen BK208.out 5
                          have hfz47_6 := blk_frozen BK208.out 6
                          have hcz48_0 : wr.cell? ⟨gb209, 0, none⟩ = some (.string a1_0) := (blk_cell BK209.out 0).trans rfl
                          have hcz48_1 : wr.cell? ⟨gb209, 1, none⟩ = some (.slice A1_1 l1_1.length c1_1) := (blk_cell BK209.out 1).trans rfl
                          have hcz48_2 : wr.cell? ⟨gb209, 2, none⟩ = some (.int .i64 a1_2) := (blk_cell BK209.out 2).trans rfl
                          have hcz48_3 : wr.cell? ⟨gb209, 3, none⟩ = some (.slice A1_3 l1_3.length c1_3) := (blk_cell BK209.out 3).trans rfl
                          have hcz48_4 : wr.cell? ⟨gb209, 4, none⟩ = some (.string a1_4) := (blk_cell BK209.out 4).trans rfl
                          have hcz48_5 : wr.cell? ⟨gb209, 5, none⟩ = some (.bool a1_5) := (blk_cell BK209.out 5).trans rfl
                          have hcz48_6 : wr.cell? ⟨gb209, 6, none⟩ = some (.int .i64 a1_6) := (blk_cell BK209.out 6).trans rfl
                          have hfz48_0 := blk_frozen BK209.out 0
                          have hfz48_1 := blk_frozen BK209.out 1
                          have hfz48_2 := blk_frozen BK209.out 2
                          have hfz48_3 := blk_frozen BK209.out 3
                          have hfz48_4 := blk_frozen BK209.out 4
                          have hfz48_5 := blk_frozen BK209.out 5
                          have hfz48_6 := blk_frozen BK209.out 6
                          go_wp2
                          repeat (go_quiet (fail); try go_wp2)
                          go_ret
                          exact ⟨by first | rfl | (simp [errW_none, errW_some] <;> rfl) | (simp [*, errW_none, errW_some] <;> rfl), by repeat (first | (with_reducible first | exact HB.out | apply below_alloc | apply pw_below_drewN | apply below_drew1 | refine below_set ?_ GE208.out | refine below_set ?_ GE209.out) | exact HB.out)⟩
                      · rw [if_neg c37] at H
                        have c37b0 : (a0_2 == a1_2) = false := beq_eq_false_iff_ne.mpr c37
                        have c37b1 : (a0_2 != a1_2) = true := bne_iff_ne.mpr c37
                        obtain rfl := Option.some.inj H
                        have hnb49 := NB208_209.out
                        have hnc49 := NB209_208.out
                        have hcz50_0 : wr.cell? ⟨gb208, 0, none⟩ = some (.string a0_0) := (blk_cell BK208.out 0).trans rfl
                        have hcz50_1 : wr.cell? ⟨gb208, 1, none⟩ = some (.slice A0_1 l0_1.length c0_1) := (blk_cell BK208.out 1).trans rfl
                        have hcz50_2 : wr.cell? ⟨gb208, 2, none⟩ = some (.int .i64 a0_2) := (blk_cell BK208.out 2).trans rfl
                        have hcz50_3 : wr.cell? ⟨gb208, 3, none⟩ = some (.slice A0_3 l0_3.length c0_3) := (blk_cell BK208.out 3).trans rfl
                        have hcz50_4 : wr.cell? ⟨gb208, 4, none⟩ = some (.string a0_4) := (blk_cell BK208.out 4).trans rfl
                        have hcz50_5 : wr.cell? ⟨gb208, 5, none⟩ = some (.bool a0_5) := (blk_cell BK208.out 5).trans rfl
                        have hcz50_6 : wr.cell? ⟨gb208, 6, none⟩ = some (.int .i64 a0_6) := (blk_cell BK208.out 6).trans rfl
                        have hfz50_0 := blk_frozen BK208.out 0
                        have hfz50_1 := blk_frozen BK208.out 1
                        have hfz50_2 := blk_frozen BK208.out 2
                        have hfz50_3 := blk_frozen BK208.out 3
                        have hfz50_4 := blk_frozen BK208.out 4
                        have hfz50_5 := blk_frozen BK208.out 5
                        have hfz50_6 := blk_frozen BK208.out 6
                        have hcz51_0 : wr.cell? ⟨gb209, 0, none⟩ = some (.string a1_0) := (blk_cell BK209.out 0).trans rfl
                        have hcz51_1 : wr.cell? ⟨gb209, 1, none⟩ = some (.slice A1_1 l1_1.length c1_1) := (blk_cell BK209.out 1).trans rfl
                        have hcz51_2 : wr.cell? ⟨gb209, 2, none⟩ = some (.int .i64 a1_2) := (blk_cell BK209.out 2).trans rfl
                        have hcz51_3 : wr.cell? ⟨gb209, 3, none⟩ = some (.slice A1_3 l1_3.length c1_3) := (blk_cell BK209.out 3).trans rfl
                        have hcz51_4 : wr.cell? ⟨gb209, 4, none⟩ = some (.string a1_4) := (blk_cell BK209.out 4).trans rfl
                        have hcz51_5 : wr.cell? ⟨gb209, 5, none⟩ = some (.bool a1_5) := (blk_cell BK209.out 5).trans rfl
                        have hcz51_6 : wr.cell? ⟨gb209, 6, none⟩ = some (.int .i64 a1_6) := (blk_cell BK209.out 6).trans rfl
                        have hfz51_0 := blk_frozen BK209.out 0
                        have hfz51_1 := blk_frozen BK209.out 1
                        have hfz51_2 := blk_frozen BK209.out 2
                        have hfz51_3 := blk_frozen BK209.out 3
                        have hfz51_4 := blk_frozen BK209.out 4
                        have hfz51_5 := blk_frozen BK209.out 5
                        have hfz51_6 := blk_frozen BK209.out 6
                        go_wp2
                        repeat (go_quiet (fail); try go_wp2)
                        go_ret
                        exact ⟨by first | rfl | (simp [errW_none, errW_some] <;> rfl) | (simp [*, errW_none, errW_some] <;> rfl), by repeat (first | (with_reducible first | exact HB.out | apply below_alloc | apply pw_below_drewN | apply below_drew1 | refine below_set ?_ GE208.out | refine below_set ?_ GE209.out) | exact HB.out)⟩
                    · rw [if_neg c36] at H
                      have c36b0 : (a0_0.toList == a1_0.toList) = false := beq_eq_false_iff_ne.mpr c36
                      have c36b1 : (a0_0.toList != a1_0.toList) = true := bne_iff_ne.mpr c36
                      obtain rfl := Option.some.inj H
                      have hnb52 := NB208_209.out
                      have hnc52 := NB209_208.out
                      have hcz53_0 : wr.cell? ⟨gb208, 0, none⟩ = some (.string a0_0) := (blk_cell BK208.out 0).trans rfl
                      have hcz53_1 : wr.cell? ⟨gb208, 1, none⟩ = some (.slice A0_1 l0_1.length c0_1) := (blk_cell BK208.out 1).trans rfl
                      have hcz53_2 : wr.cell? ⟨gb208, 2, none⟩ = some (.int .i64 a0_2) := (blk_cell BK208.out 2).trans rfl
                      have hcz53_3 : wr.cell? ⟨gb208, 3, none⟩ = some (.slice A0_3 l0_3.length c0_3) := (blk_cell BK208.out 3).trans rfl
                      have hcz53_4 : wr.cell? ⟨gb208, 4, none⟩ = some (.string a0_4) := (blk_cell BK208.out 4).trans rfl
                      have hcz53_5 : wr.cell? ⟨gb208, 5, none⟩ = some (.bool a0_5) := (blk_cell BK208.out 5).trans rfl
                      have hcz53_6 : wr.cell? ⟨gb208, 6, none⟩ = some (.int .i64 a0_6) := (blk_cell BK208.out 6).trans rfl
                      have hfz53_0 := blk_frozen BK208.out 0
                      have hfz53_1 := blk_frozen BK208.out 1
                      have hfz53_2 := blk_frozen BK208.out 2
                      have hfz53_3 := blk_frozen BK208.out 3
                      have hfz53_4 := blk_frozen BK208.out 4
                      have hfz53_5 := blk_frozen BK208.out 5
                      have hfz53_6 := blk_frozen BK208.out 6
                      have hcz54_0 : wr.cell? ⟨gb209, 0, none⟩ = some (.string a1_0) := (blk_cell BK209.out 0).trans rfl
                      have hcz54_1 : wr.cell? ⟨gb209, 1, none⟩ = some (.slice A1_1 l1_1.length c1_1) := (blk_cell BK209.out 1).trans rfl
                      have hcz54_2 : wr.cell? ⟨gb209, 2, none⟩ = some (.int .i64 a1_2) := (blk_cell BK209.out 2).trans rfl
                      have hcz54_3 : wr.cell? ⟨gb209, 3, none⟩ = some (.slice A1_3 l1_3.length c1_3) := (blk_cell BK209.out 3).trans rfl
                      have hcz54_4 : wr.cell? ⟨gb209, 4, none⟩ = some (.string a1_4) := (blk_cell BK209.out 4).trans rfl
                      have hcz54_5 : wr.cell? ⟨gb209, 5, none⟩ = some (.bool a1_5) := (blk_cell BK209.out 5).trans rfl
                      have hcz54_6 : wr.cell? ⟨gb209, 6, none⟩ = some (.int .i64 a1_6) := (blk_cell BK209.out 6).trans rfl
                      have hfz54_0 := blk_frozen BK209.out 0
                      have hfz54_1 := blk_frozen BK209.out 1
                      have hfz54_2 := blk_frozen BK209.out 2
                      have hfz54_3 := blk_frozen BK209.out 3
                      have hfz54_4 := blk_frozen BK209.out 4
                      have hfz54_5 := blk_frozen BK209.out 5
                      have hfz54_6 := blk_frozen BK209.out 6
                      go_wp2
                      repeat (go_quiet (fail); try go_wp2)
                      go_ret
                      exact ⟨by first | rfl | (simp [errW_none, errW_some] <;> rfl) | (simp [*, errW_none, errW_some] <;> rfl), by repeat (first | (with_reducible first | exact HB.out | apply below_alloc | apply pw_below_drewN | apply below_drew1 | refine below_set ?_ GE208.out | refine below_set ?_ GE209.out) | exact HB.out)⟩
end Go.Proofs.YtimommkbfbdkdaaDoor.P
end
section
namespace Go.Proofs.YtimommkbfbdkdaaDoor.P
set_option linter.unusedVariables false
set_option linter.unusedSimpArgs false
open Go.RowKit Go.Proofs.YtimommkbfbdkdaaDoorW.PrintWords Go.Proofs.YtimommkbfbdkdaaDoorW.PrintLast Go.Proofs.YtimommkbfbdkdaaDoorW.PrintMore
def okR (c : Int) : Prop := (97 ≤ c ∧ c ≤ 122) ∨ (48 ≤ c ∧ c ≤ 57) ∨ c = 45 ∨ c = 46 ∨ c = 47
instance (c : Int) : Decidable (okR c) := by unfold okR; infer_instance
theorem okB_all : ∀ k : Fin 256, okB (k.val : Int) = decide (okR (k.val : Int)) := by decide +kernel
theorem bt_range (s : ByteArray) (i : Int) : 0 ≤ bt s i ∧ bt s i < 256 := by
  unfold bt
  split
  · rename_i h
    have := (s[i.toNat]'h).toNat_lt
    omega
  · omega
theorem okB_eq (s : ByteArray) (i : Int) : okB (bt s i) = decide (okR (bt s i)) := by
  have h := bt_range s i
  have := okB_all ⟨(bt s i).toNat, by omega⟩
  simp only [Int.toNat_of_nonneg h.1] at this
  exact this
theorem name_step (k : Nat) (s : ByteArray) (i : Int) (h0 : 0 ≤ i) (h1 : i < s.size) : legateref08_Name.l0 (k + 1) s i = if okR (bt s i) then legateref08_Name.l0 k s (wrap64 (i + 1)) else some false := by
  rw [legateref08_Name.l0, if_pos h1, if_pos h0]
  generalize bt s i = c
  generalize legateref08_Name.l0 k s (wrap64 (i + 1)) = X
  unfold okR
  by_cases e1 : 97 ≤ c <;> by_cases e2 : c ≤ 122 <;> by_cases e3 : 48 ≤ c <;> by_cases e4 : c ≤ 57 <;> by_cases e5 : c = 45 <;> by_cases e6 : c = 46 <;> by_cases e7 : c = 47 <;> simp only [e1, e2, e3, e4, e5, e6, e7, ge_iff_le, if_true, if_false, true_and, false_and, and_true, and_false, and_self, or_false, or_true, false_or, true_or, or_self] <;> (try omega) <;> simp
theorem rName (s : ByteArray) (hs : s.size ≤ 1000000000) : legateref08_Name.f (s.size + 2) s = some (nameB s) := by
  rw [legateref08_Name.f]
  have key : ∀ (j i : Nat), s.size - i = j → i ≤ s.size → ∀ k, j + 1 ≤ k → allB s i = true → legateref08_Name.l0 k s i = some (nameB s) := by
    intro j
    induction j with
    | zero =>
      intro i hj hi k hk ha
      obtain rfl : i = s.size := by omega
      obtain ⟨k, rfl⟩ : ∃ k', k = k' + 1 := ⟨k - 1, by omega⟩
      rw [legateref08_Name.l0, if_neg (by omega)]
      unfold nameB
      rw [ha]
      by_cases h1 : (s.size : Int) ≥ 1
      · rw [if_pos h1]
        have : decide (1 ≤ (s.size : Int)) = true := decide_eq_true h1
        rw [this]; rfl
      · rw [if_neg h1]
        have : decide (1 ≤ (s.size : Int)) = false := decide_eq_false h1
        rw [this]; rfl
    | succ j ihj =>
      intro i hj hi k hk ha
      obtain ⟨k, rfl⟩ : ∃ k', k = k' + 1 := ⟨k - 1, by omega⟩
      rw [name_step k s i (by omega) (by omega)]
      have he := okB_eq s i
      by_cases ho : okR (bt s i)
      · rw [if_pos ho, IntWalk.wrap64_in _ (by omega), show ((i : Int) + 1) = ((i + 1 : Nat) : Int) from by omega]
        refine ihj (i + 1) (by omega) (by omega) k (by omega) ?_
        rw [allB, ha, he]; simp [ho]
      · rw [if_neg ho]
        have : allB s s.size = false := allB_false s i (by rw [ha, he]; simp [ho]) _ (by omega)
        unfold nameB
        rw [this]; rfl
  exact key s.size 0 (by omega) (by omega) _ (by omega) rfl
theorem rName_up (s : ByteArray) (hs : s.size ≤ 1000000000) : ∀ m, legateref08_Name.f (s.size + 2 + m) s = some (nameB s)
  | 0 => rName s hs
  | m + 1 => legateref08_Name.mono s (s.size + 2 + m) _ (rName_up s hs m)
theorem rName_k (s : ByteArray) (hs : s.size ≤ 1000000000) (k : Nat) (hk : s.size + 2 ≤ k) : legateref08_Name.f k s = some (nameB s) := by
  obtain ⟨m, rfl⟩ : ∃ m, k = s.size + 2 + m := ⟨k - (s.size + 2), by omega⟩
  exact rName_up s hs m
theorem rdOf_get (l : List ByteArray) (i : Nat) (h : i < l.length) : rdOf ByteArray.empty l (i : Int) = l[i] := by
  unfold rdOf
  rw [Int.toNat_natCast, List.getD_eq_getElem?_getD, List.getElem?_eq_getElem h]; rfl
theorem rd_get (l : List Int) (i : Nat) (h : i < l.length) : rd l (i : Int) = l[i] := by
  unfold rd
  rw [Int.toNat_natCast, List.getD_eq_getElem?_getD, List.getElem?_eq_getElem h]; rfl
theorem valid_tail (b1 b2 : Bool) (a : Au) : (if b1 = true then (if b2 = true then (if (a.g.length : Int) ≤ 20 then (if (a.tr.length : Int) ≤ 8 then (if a.o = 0 then (if a.tm ≥ 0 then (some (decide (a.tm ≤ 1099511627776))) else (some false)) else (if a.o = 1 then (if a.tm ≥ 0 then (some (decide (a.tm ≤ 1099511627776))) else (some false)) else (some false))) else (some false)) else (some false)) else (some false)) else (some false))
    = some (b1 && (b2 && (true && (decide ((a.g.length : Int) ≤ 20) && (decide ((a.tr.length : Int) ≤ 8) && ((a.o == 0 || a.o == 1) && (decide (0 ≤ a.tm) && decide (a.tm ≤ 1099511627776)))))))) := by
  have e0 : (a.o == 0) = decide (a.o = 0) := rfl
  have e1 : (a.o == 1) = decide (a.o = 1) := rfl
  rw [e0, e1]
  by_cases h1 : (a.g.length : Int) ≤ 20 <;> by_cases h2 : (a.tr.length : Int) ≤ 8 <;> by_cases h3 : a.o = 0 <;> by_cases h4 : a.o = 1 <;> by_cases h5 : a.tm ≥ 0 <;> cases b1 <;> cases b2 <;> simp [h1, h2, h3, h4, h5] <;> omega
theorem refValid_some (a : Au) (hn : nA a ≤ 1000000000) : legateref13_Valid.f (10 + nA a + a.tr.length) a.u a.g a.o a.tr a.s a.fw a.tm = some (validA a) := by
  unfold nA at hn ⊢
  have hts := nS_len a.tr
  rw [legateref13_Valid.f, rName_k a.u (by omega) _ (by omega), Option.bind_some, rName_k a.s (by omega) _ (by omega), Option.bind_some]
  have key : ∀ (j i k : Nat), a.tr.length - i = j → i ≤ a.tr.length → j + 4 + nS a.tr ≤ k → (a.tr.drop i).all nameB = a.tr.all nameB →
      legateref13_Valid.l0 k (nameB a.u) (nameB a.s) i a.u a.g a.o a.tr a.s a.fw a.tm = some (validA a) := by
    intro j
    induction j with
    | zero =>
      intro i k hj hi hk ha
      obtain rfl : i = a.tr.length := by omega
      obtain ⟨k, rfl⟩ : ∃ k', k = k' + 1 := ⟨k - 1, by omega⟩
      rw [legateref13_Valid.l0, if_neg (by omega), valid_tail]
      rw [List.drop_length, List.all_nil] at ha
      unfold validA
      rw [← ha]
    | succ j ih =>
      intro i k hj hi hk ha
      have hlt : i < a.tr.length := by omega
      obtain ⟨k, rfl⟩ : ∃ k', k = k' + 1 := ⟨k - 1, by omega⟩
      have hm := nS_mem (List.getElem_mem hlt)
      rw [legateref13_Valid.l0, if_pos (by omega), if_pos (by omega), rdOf_get _ _ hlt, rName_k _ (by omega) _ (by omega), Option.bind_some]
      rw [List.drop_eq_getElem_cons hlt, List.all_cons] at ha
      cases hb : nameB a.tr[i] with
      | false =>
        rw [if_neg (by decide)]
        rw [hb, Bool.false_and] at ha
        unfold validA
        rw [← ha, Bool.false_and, Bool.and_false, Bool.and_false]
      | true =>
        rw [if_pos rfl, IntWalk.wrap64_in _ (by omega)]
        rw [hb, Bool.true_and] at ha
        have := ih (i + 1) k (by omega) (by omega) (by omega) ha
        rwa [show (((i + 1 : Nat)) : Int) = (i : Int) + 1 from by omega] at this
  exact key a.tr.length 0 _ (by omega) (by omega) (by omega) rfl
theorem refValid_V {v : Value} {a : Au} (w : World) (hn : nA a ≤ 1000000000) (h : IsA w v a) : V_ 16 #[v] w (.bool (validA a)) := by
  obtain ⟨A, c, B, d, rfl, h1, h2, h3, h4⟩ := h
  exact legateref13_Valid.calls _ a.u A c a.g a.o B d a.tr a.s a.fw a.tm _ w h2 h1 h4 h3 (refValid_some a hn)
theorem eqI_drop : ∀ (l m : List Int) (i : Nat) (h : i < l.length) (h2 : i < m.length), eqI (l.drop i) (m.drop i) = (l[i] == m[i] && eqI (l.drop (i + 1)) (m.drop (i + 1))) := by
  intro l m i h h2
  rw [List.drop_eq_getElem_cons h, List.drop_eq_getElem_cons h2, eqI]
theorem eqB_drop : ∀ (l m : List ByteArray) (i : Nat) (h : i < l.length) (h2 : i < m.length), eqB (l.drop i) (m.drop i) = (l[i].toList == m[i].toList && eqB (l.drop (i + 1)) (m.drop (i + 1))) := by
  intro l m i h h2
  rw [List.drop_eq_getElem_cons h, List.drop_eq_getElem_cons h2, eqB]
theorem eqI_no {l m : List Int} (h : l.length ≠ m.length) : eqI l m = false := by
  cases e : eqI l m with
  | false => rfl
  | true => exact absurd (eqI_len _ _ e) h
theorem eqB_len {l m : List ByteArray} (h : l.length ≠ m.length) : eqB l m = false := by
  cases e : eqB l m with
  | false => rfl
  | true => exact absurd (by rw [(eqB_iff l m).1 e]) h
theorem same_tail (a b : Au) : (if a.u.toList = b.u.toList then (if a.o = b.o then (if a.s.toList = b.s.toList then (if (a.fw == b.fw) = true then (some (a.tm == b.tm)) else (some false)) else (some false)) else (some false)) else (some false))
    = some (a.u.toList == b.u.toList && (a.o == b.o && (a.s.toList == b.s.toList && (a.fw == b.fw && (a.tm == b.tm && (true && true)))))) := by
  by_cases h1 : a.u.toList = b.u.toList <;> by_cases h2 : a.o = b.o <;> by_cases h3 : a.s.toList = b.s.toList <;> cases h4 : (a.fw == b.fw) <;> simp [h1, h2, h3]
theorem refSame_some (a b : Au) (hn : nA a ≤ 1000000000) (hm : nA b ≤ 1000000000) : legateref13_Same.f (10 + a.g.length + a.tr.length) a.u a.g a.o a.tr a.s a.fw a.tm b.u b.g b.o b.tr b.s b.fw b.tm = some (sameA a b) := by
  unfold nA at hn hm
  have hts := nS_len a.tr
  have htb := nS_len b.tr
  rw [legateref13_Same.f]
  have l1 : ∀ (j i k : Nat), a.tr.length - i = j → i ≤ a.tr.length → a.tr.length = b.tr.length → j + 2 ≤ k → eqI a.g b.g = true → eqB (a.tr.drop i) (b.tr.drop i) = eqB a.tr b.tr →
      legateref13_Same.l1 k i a.u a.g a.o a.tr a.s a.fw a.tm b.u b.g b.o b.tr b.s b.fw b.tm = some (sameA a b) := by
    intro j
    induction j with
    | zero =>
      intro i k hj hi hl hk hg ha
      obtain rfl : i = a.tr.length := by omega
      obtain ⟨k, rfl⟩ : ∃ k', k = k' + 1 := ⟨k - 1, by omega⟩
      rw [legateref13_Same.l1, if_neg (by omega), same_tail]
      have e : eqB a.tr b.tr = true := by rw [← ha, List.drop_length, hl, List.drop_length]; rfl
      unfold sameA
      rw [hg, e]
    | succ j ih =>
      intro i k hj hi hl hk hg ha
      have hlt : i < a.tr.length := by omega
      have hlt2 : i < b.tr.length := by omega
      obtain ⟨k, rfl⟩ : ∃ k', k = k' + 1 := ⟨k - 1, by omega⟩
      rw [legateref13_Same.l1, if_pos (by omega), if_pos (by omega), if_pos (by omega), rdOf_get _ _ hlt, rdOf_get _ _ hlt2]
      rw [eqB_drop _ _ i hlt hlt2] at ha
      by_cases hq : a.tr[i].toList = b.tr[i].toList
      · rw [if_pos hq, IntWalk.wrap64_in _ (by omega)]
        rw [hq, beq_self_eq_true, Bool.true_and] at ha
        have := ih (i + 1) k (by omega) (by omega) hl (by omega) hg ha
        rwa [show (((i + 1 : Nat)) : Int) = (i : Int) + 1 from by omega] at this
      · rw [if_neg hq]
        have hf : (a.tr[i].toList == b.tr[i].toList) = false := beq_eq_false_iff_ne.2 hq
        rw [hf, Bool.false_and] at ha
        unfold sameA
        rw [← ha]; simp
  have l0 : ∀ (j i k : Nat), a.g.length - i = j → i ≤ a.g.length → a.g.length = b.g.length → a.tr.length = b.tr.length → j + a.tr.length + 4 ≤ k → eqI (a.g.drop i) (b.g.drop i) = eqI a.g b.g →
      legateref13_Same.l0 k i a.u a.g a.o a.tr a.s a.fw a.tm b.u b.g b.o b.tr b.s b.fw b.tm = some (sameA a b) := by
    intro j
    induction j with
    | zero =>
      intro i k hj hi hl hl2 hk ha
      obtain rfl : i = a.g.length := by omega
      obtain ⟨k, rfl⟩ : ∃ k', k = k' + 1 := ⟨k - 1, by omega⟩
      rw [legateref13_Same.l0, if_neg (by omega)]
      have e : eqI a.g b.g = true := by rw [← ha, List.drop_length, hl, List.drop_length]; rfl
      exact l1 a.tr.length 0 k (by omega) (by omega) hl2 (by omega) e rfl
    | succ j ih =>
      intro i k hj hi hl hl2 hk ha
      have hlt : i < a.g.length := by omega
      have hlt2 : i < b.g.length := by omega
      obtain ⟨k, rfl⟩ : ∃ k', k = k' + 1 := ⟨k - 1, by omega⟩
      rw [legateref13_Same.l0, if_pos (by omega), if_pos (by omega), if_pos (by omega), rd_get _ _ hlt, rd_get _ _ hlt2]
      rw [eqI_drop _ _ i hlt hlt2] at ha
      by_cases hq : a.g[i] = b.g[i]
      · rw [if_pos hq, IntWalk.wrap64_in _ (by omega)]
        rw [hq, beq_self_eq_true, Bool.true_and] at ha
        have := ih (i + 1) k (by omega) (by omega) hl hl2 (by omega) ha
        rwa [show (((i + 1 : Nat)) : Int) = (i : Int) + 1 from by omega] at this
      · rw [if_neg hq]
        have hf : (a.g[i] == b.g[i]) = false := beq_eq_false_iff_ne.2 hq
        rw [hf, Bool.false_and] at ha
        unfold sameA
        rw [← ha]; simp
  have j0t : ∀ k, legateref13_Same.j0 (k + 1) true a.u a.g a.o a.tr a.s a.fw a.tm b.u b.g b.o b.tr b.s b.fw b.tm = some false := fun k => by rw [legateref13_Same.j0, if_pos rfl]
  by_cases h1 : a.g.length = b.g.length
  · rw [if_pos (by omega)]
    by_cases h2 : a.tr.length = b.tr.length
    · rw [show ((a.tr.length : Int) != (b.tr.length : Int)) = false from by rw [h2]; simp, show 10 + a.g.length + a.tr.length = (9 + a.g.length + a.tr.length) + 1 from by omega, legateref13_Same.j0, if_neg (by decide)]
      exact l0 a.g.length 0 _ (by omega) (by omega) h1 h2 (by omega) rfl
    · rw [show ((a.tr.length : Int) != (b.tr.length : Int)) = true from by rw [bne_iff_ne]; omega, show 10 + a.g.length + a.tr.length = (9 + a.g.length + a.tr.length) + 1 from by omega, j0t]
      unfold sameA
      rw [eqB_len h2]; simp
  · rw [if_neg (by omega), show 10 + a.g.length + a.tr.length = (9 + a.g.length + a.tr.length) + 1 from by omega, j0t]
    unfold sameA
    rw [eqI_no h1]; simp
theorem refSameA_V {v u : Value} {a b : Au} (w : World) (hn : nA a ≤ 1000000000) (hm : nA b ≤ 1000000000) (h : IsA w v a) (h' : IsA w u b) : V_ 18 #[v, u] w (.bool (sameA a b)) := by
  obtain ⟨A, c, B, d, rfl, h1, h2, h3, h4⟩ := h
  obtain ⟨A', c', B', d', rfl, h1', h2', h3', h4'⟩ := h'
  exact legateref13_Same.calls _ a.u A c a.g a.o B d a.tr a.s a.fw a.tm b.u A' c' b.g b.o B' d' b.tr b.s b.fw b.tm _ w h2 h1 h4 h3 h2' h1' h4' h3' (refSame_some a b hn hm)
end Go.Proofs.YtimommkbfbdkdaaDoor.P
end
section
namespace Go.Proofs.YtimommkbfbdkdaaDoor.P
open Go.RowKit Go.Proofs.YtimommkbfbdkdaaDoorW.PrintWords Go.Proofs.YtimommkbfbdkdaaDoorW.PrintLast Go.Proofs.YtimommkbfbdkdaaDoorW.PrintMore
set_option linter.unusedVariables false
set_option linter.unusedSimpArgs false
theorem Sum8_F {v1 v2 : Value} {t u : S29} {ok1 ok2 : Nat → Prop} (n : Int) (s : S29) (he : sumT t n u = s) (w : World) (h1 : IsF w ok1 v1 t) (h2 : IsF w ok2 v2 u) :
    Calls Tryd.prog 29 #[v1, .int .i64 n, v2] w fun e w' => ∃ v, e = .returned v ∧ IsF w' (fun k => (ok1 k ∨ ok2 k) ∨ w.heap.size ≤ k) v s ∧ Below w.heap.size w w' := by
  subst he
  obtain ⟨A, c, rfl, hl, hF⟩ := h1
  obtain ⟨B, d, rfl, hl2, hF2⟩ := h2
  cases t; cases u
  refine (legateref08_Sum.calls _ _ _ ok1 A c _ n _ _ _ ok2 B d _ _ _ _ _ w (Kd.V_mk hl hF) (Kd.V_mk hl2 hF2) rfl).mono ?_
  rintro e w' ⟨v, rfl, hR, hb⟩
  obtain ⟨A5, c5, rfl⟩ := Kd.N_slice hR
  exact ⟨_, rfl, ⟨A5, c5, rfl, (Kd.N_reads' hR).2.1, Kd.N_F hR⟩, hb⟩
set_option maxHeartbeats 2000000 in
set_option maxRecDepth 100000 in
theorem Build8_calls {a : Au} {sv ce : S29} {A : Option Addr} {c : Nat} {B : Option Addr} {d : Nat} {As : Option Addr} {cs : Nat} {Ac : Option Addr} {cc : Nat} {okS okC : Nat → Prop} (w : World) (hn : nA a ≤ 1000000000) (h : IsA w (.agg #[.string a.u, .slice A a.g.length c, .int .i64 a.o, .slice B a.tr.length d, .string a.s, .bool a.fw, .int .i64 a.tm]) a)
    (hs : IsF w okS (.agg #[.int .i64 sv.f0, .string sv.f1, .int .i64 sv.f2, .slice As sv.f3.length cs]) sv) (hc : IsF w okC (.agg #[.int .i64 ce.f0, .string ce.f1, .int .i64 ce.f2, .slice Ac ce.f3.length cc]) ce) (hS : ∀ k, okS k → k < w.heap.size) (hC : ∀ k, okC k → k < w.heap.size) :
    Calls Tryd.prog 11 #[(.agg #[.string a.u, .slice A a.g.length c, .int .i64 a.o, .slice B a.tr.length d, .string a.s, .bool a.fw, .int .i64 a.tm]), (.agg #[.int .i64 sv.f0, .string sv.f1, .int .i64 sv.f2, .slice As sv.f3.length cs]), (.agg #[.int .i64 ce.f0, .string ce.f1, .int .i64 ce.f2, .slice Ac ce.f3.length cc])] w fun e w' => ∃ v, e = .returned (.tuple #[v, .int .i64 (buildE a sv ce)]) ∧ IsF w' (fun k => (okS k ∨ okC k) ∨ w.heap.size + 4 ≤ k) v (buildA a sv ce) ∧ Below w.heap.size w w' := by
  have hu25 := Tryd.underlying25
  have hu29 := Tryd.underlying29
  have HA := Aside0.mk h
  have HS := Aside0.mk hs
  have HC := Aside0.mk hc
  clear h hs hc
  have HV : Aside0 (∀ W, Below w.heap.size w W → Calls Tryd.prog 16 #[(.agg #[.string a.u, .slice A a.g.length c, .int .i64 a.o, .slice B a.tr.length d, .string a.s, .bool a.fw, .int .i64 a.tm])] W fun e w' => e = .returned (.bool (validA a)) ∧ Below W.heap.size W w') := ⟨fun W hW => refValid_V W hn (HA.out.below hW)⟩
  have HD : Aside0 (∀ W, Below w.heap.size w W → Calls Tryd.prog 14 #[(.agg #[.string a.u, .slice A a.g.length c, .int .i64 a.o, .slice B a.tr.length d, .string a.s, .bool a.fw, .int .i64 a.tm])] W fun e w' => ∃ v, e = .returned v ∧ IsF w' (fun k => W.heap.size ≤ k) v (dataA a) ∧ Below W.heap.size W w') := ⟨fun W hW => (Data8_F W hn (HA.out.below hW)).mono fun e w' ⟨v, he, hF, hb⟩ => ⟨v, he, hF.mono (fun k hk => by omega), hb⟩⟩
  have HCAN : Aside0 (canA a sv ce = (validA a && (sv.f0 == 2 && ce.f0 == 2))) := ⟨rfl⟩
  have HBT : Aside0 (canA a sv ce = true → buildA a sv ce = builtA a sv ce ∧ buildE a sv ce = 0) := ⟨fun h => by unfold buildA buildE; rw [if_pos h, if_pos h]; exact ⟨rfl, rfl⟩⟩
  have HBF : Aside0 (canA a sv ce = false → buildA a sv ce = z29 ∧ buildE a sv ce = 1) := ⟨fun h => by unfold buildA buildE; rw [h]; exact ⟨rfl, rfl⟩⟩
  go_enter Tryd.func11, Tryd.ntmps11
  go_wp2_with fail
  refine (HV.out _ (by repeat (first | exact Below.refl _ _ | apply below_alloc))).mono ?_
  clear HV
  rintro e w1 ⟨rfl, b1⟩
  obtain ⟨p1, q1, ra, rs, rc, rr⟩ := four_boxes b1
  have B1 := Aside0.mk p1
  have XA := Aside0.mk ra
  have XS := Aside0.mk rs
  have XC := Aside0.mk rc
  have XR := Aside0.mk rr
  clear b1 p1 ra rs rc rr
  obtain ⟨ha0, ha1, ha2, ha3, ha4, ha5, ha6⟩ := boxA_cells XA.out
  obtain ⟨hs0, hs1, hs2, hs3⟩ := box_cells XS.out
  obtain ⟨hc0, hc1, hc2, hc3⟩ := box_cells XC.out
  obtain ⟨hr0, hr1, hr2, hr3⟩ := box_cells XR.out
  have hrf0 := blk_frozen XR.out 0
  have hrf1 := blk_frozen XR.out 1
  have hrf2 := blk_frozen XR.out 2
  have hrf3 := blk_frozen XR.out 3
  have fin0 : canA a sv ce = false → ∃ v, Ending.returned (.tuple #[.agg #[.int .i64 0, .string ⟨#[]⟩, .int .i64 0, .slice none 0 0], .int .i64 1]) = .returned (.tuple #[v, .int .i64 (buildE a sv ce)]) ∧ IsF (put4 w1 (w.heap.size + 3) (.int .i64 0) (.string ⟨#[]⟩) (.int .i64 0) (.slice none 0 0)) (fun k => (okS k ∨ okC k) ∨ w.heap.size + 4 ≤ k) v (buildA a sv ce) ∧ Below w.heap.size w (put4 w1 (w.heap.size + 3) (.int .i64 0) (.string ⟨#[]⟩) (.int .i64 0) (.slice none 0 0)) := fun h => by
    obtain ⟨e1, e2⟩ := HBF.out h
    rw [e1, e2]
    exact ⟨_, rfl, ⟨none, 0, rfl, Nat.le_refl _, F_nil0 _ _ _⟩, put4_below B1.out (by omega)⟩
  have FIN0 := Aside0.mk fin0
  clear fin0
  cases e1 : validA a with
  | false =>
    have hcan : canA a sv ce = false := by rw [HCAN.out, e1]; rfl
    go_wp2_with fail
    refine bodyPost_ret (results_ct rfl _ _ (w.heap.size + 3) 29 #[.int .i64 0, .string (⟨#[]⟩ : ByteArray), .int .i64 0, .slice none 0 0] (0, 0) _ rfl (put4_block XR.out) Tryd.underlying29 rfl (by kernel_rfl)) rfl ?_
    exact FIN0.out hcan
  | true =>
  cases e2 : (sv.f0 == 2) with
  | false =>
    have hcan : canA a sv ce = false := by rw [HCAN.out, e1, e2]; rfl
    have e2' : (sv.f0 != 2) = true := by rw [bne, e2]; rfl
    go_wp2_with fail
    refine bodyPost_ret (results_ct rfl _ _ (w.heap.size + 3) 29 #[.int .i64 0, .string (⟨#[]⟩ : ByteArray), .int .i64 0, .slice none 0 0] (0, 0) _ rfl (put4_block XR.out) Tryd.underlying29 rfl (by kernel_rfl)) rfl ?_
    exact FIN0.out hcan
  | true =>
  have e2' : (sv.f0 != 2) = false := by rw [bne, e2]; rfl
  cases e3 : (ce.f0 == 2) with
  | false =>
    have hcan : canA a sv ce = false := by rw [HCAN.out, e1, e2, e3]; rfl
    have e3' : (ce.f0 != 2) = true := by rw [bne, e3]; rfl
    go_wp2_with fail
    refine bodyPost_ret (results_ct rfl _ _ (w.heap.size + 3) 29 #[.int .i64 0, .string (⟨#[]⟩ : ByteArray), .int .i64 0, .slice none 0 0] (0, 0) _ rfl (put4_block XR.out) Tryd.underlying29 rfl (by kernel_rfl)) rfl ?_
    exact FIN0.out hcan
  | true =>
  have e3' : (ce.f0 != 2) = false := by rw [bne, e3]; rfl
  have hcan : canA a sv ce = true := by rw [HCAN.out, e1, e2, e3]; rfl
  have HCN := Aside0.mk hcan
  clear hcan FIN0
  go_wp2_with fail
  refine (HD.out _ B1.out).mono ?_
  clear HD ha0 ha1 ha2 ha3 ha4 ha5 ha6 hs0 hs1 hs2 hs3 hc0 hc1 hc2 hc3 hr0 hr1 hr2 hr3 hrf0 hrf1 hrf2 hrf3
  rintro e w2 ⟨v2, rfl, h2, b2⟩
  obtain ⟨A2, c2, rfl, l2, F2⟩ := h2
  have I2 := Aside0.mk (show IsF w2 (fun k => w1.heap.size ≤ k) (.agg #[.int .i64 (dataA a).f0, .string (dataA a).f1, .int .i64 (dataA a).f2, .slice A2 (dataA a).f3.length c2]) (dataA a) from ⟨A2, c2, rfl, l2, F2⟩)
  have B2 := Aside0.mk (B1.out.trans (b2.mono B1.out.size))
  have XS2 := Aside0.mk (blk_below XS.out b2)
  have XC2 := Aside0.mk (blk_below XC.out b2)
  have XR2 := Aside0.mk (blk_below XR.out b2)
  have z2 := b2.size
  clear l2 F2 b2 XA XS XC XR B1
  obtain ⟨hs0, hs1, hs2, hs3⟩ := box_cells (blk_alloc XS2.out (.cells #[.int .i64 (dataA a).f0, .string (dataA a).f1, .int .i64 (dataA a).f2, .slice A2 (dataA a).f3.length c2] 29))
  have SV2 : Aside0 (IsF (w2.alloc (.cells #[.int .i64 (dataA a).f0, .string (dataA a).f1, .int .i64 (dataA a).f2, .slice A2 (dataA a).f3.length c2] 29)) okS (.agg #[.int .i64 sv.f0, .string sv.f1, .int .i64 sv.f2, .slice As sv.f3.length cs]) sv) := ⟨HS.out.below (below_alloc B2.out _)⟩
  have I2' : Aside0 (IsF (w2.alloc (.cells #[.int .i64 (dataA a).f0, .string (dataA a).f1, .int .i64 (dataA a).f2, .slice A2 (dataA a).f3.length c2] 29)) (fun k => w1.heap.size ≤ k) (.agg #[.int .i64 (dataA a).f0, .string (dataA a).f1, .int .i64 (dataA a).f2, .slice A2 (dataA a).f3.length c2]) (dataA a)) := ⟨I2.out.below (below_alloc (Below.refl _ _) _)⟩
  go_wp2_with fail
  refine (Sum8_F 18 (s1A a sv) rfl _ SV2.out I2'.out).mono ?_
  clear hs0 hs1 hs2 hs3 SV2 I2'
  rintro e w3 ⟨v3, rfl, h3, b3⟩
  obtain ⟨A3, c3, rfl, l3, F3⟩ := h3
  obtain ⟨p3, q3, xd⟩ := one_box b3
  have OK0 : Aside0 (∀ k, ((okS k ∨ w1.heap.size ≤ k) ∨ (w2.alloc (.cells #[.int .i64 (dataA a).f0, .string (dataA a).f1, .int .i64 (dataA a).f2, .slice A2 (dataA a).f3.length c2] 29)).heap.size ≤ k) → ((okS k ∨ okC k) ∨ w1.heap.size ≤ k)) := ⟨fun k hk => by rcases hk with (hk | hk) | hk; exact .inl (.inl hk); exact .inr hk; rw [World.size_alloc] at hk; exact .inr (by omega)⟩
  have I3 := Aside0.mk (show IsF w3 (fun k => (okS k ∨ okC k) ∨ w1.heap.size ≤ k) (.agg #[.int .i64 (s1A a sv).f0, .string (s1A a sv).f1, .int .i64 (s1A a sv).f2, .slice A3 (s1A a sv).f3.length c3]) (s1A a sv) from IsF.mono ⟨A3, c3, rfl, l3, F3⟩ OK0.out)
  have I3d := Aside0.mk (I2.out.below p3)
  have B3 := Aside0.mk (B2.out.trans (p3.mono B2.out.size))
  have XD3 := Aside0.mk xd
  have XC3 := Aside0.mk (blk_below XC2.out p3)
  have XR3 := Aside0.mk (blk_below XR2.out p3)
  have z3 := p3.size
  clear b3 p3 xd l3 F3 I2 B2 XS2 XC2 XR2 OK0
  go_wp2_with fail
  obtain ⟨w4, hw4⟩ : ∃ w4, w4 = w3.alloc (.cells #[.int .i64 (s1A a sv).f0, .string (s1A a sv).f1, .int .i64 (s1A a sv).f2, .slice A3 (s1A a sv).f3.length c3] 29) := ⟨_, rfl⟩
  have b4 : Below w3.heap.size w3 w4 := hw4 ▸ below_alloc (Below.refl _ _) _
  have B4 := Aside0.mk (B3.out.trans (b4.mono B3.out.size))
  have XD4 := Aside0.mk (blk_below XD3.out b4)
  have XC4 := Aside0.mk (blk_below XC3.out b4)
  have XR4 := Aside0.mk (blk_below XR3.out b4)
  have XN4 : Aside0 (w4.heap[w3.heap.size]? = some (.cells #[.int .i64 (s1A a sv).f0, .string (s1A a sv).f1, .int .i64 (s1A a sv).f2, .slice A3 (s1A a sv).f3.length c3] 29)) := ⟨hw4 ▸ box_new w3 _⟩
  have I4 := Aside0.mk (I3.out.below b4)
  have I4d : Aside0 (IsF w4 (fun k => (okS k ∨ okC k) ∨ w1.heap.size ≤ k) (.agg #[.int .i64 (dataA a).f0, .string (dataA a).f1, .int .i64 (dataA a).f2, .slice A2 (dataA a).f3.length c2]) (dataA a)) := ⟨(I3d.out.below b4).mono fun k hk => .inr hk⟩
  have I4c : Aside0 (IsF w4 okC (.agg #[.int .i64 ce.f0, .string ce.f1, .int .i64 ce.f2, .slice Ac ce.f3.length cc]) ce) := ⟨HC.out.below B4.out⟩
  have z4 := b4.size
  rw [← hw4]
  clear hw4 b4 B3 XD3 XC3 XR3 I3 I3d HS HC
  obtain ⟨hd0, hd1, hd2, hd3⟩ := box_cells XD4.out
  obtain ⟨hn0, hn1, hn2, hn3⟩ := box_cells XN4.out
  obtain ⟨hc0, hc1, hc2, hc3⟩ := box_cells XC4.out
  have hne1 : ¬ w2.heap.size = w.heap.size + 1 + 1 + 1 := by omega
  have hne2 : ¬ w3.heap.size = w.heap.size + 1 + 1 + 1 := by omega
  have HWc : Aside0 (Below w4.heap.size w4 w4) := ⟨Below.refl _ _⟩
  go_region_held3 (fun w' => w'.cell? ⟨w2.heap.size, 0, none⟩ = some (.int .i64 (dataA a).f0) ∧ w'.cell? ⟨w2.heap.size, 1, none⟩ = some (.string (dataA a).f1) ∧ w'.cell? ⟨w2.heap.size, 2, none⟩ = some (.int .i64 (dataA a).f2) ∧ w'.cell? ⟨w2.heap.size, 3, none⟩ = some (.slice A2 (dataA a).f3.length c2) ∧ w'.cell? ⟨w3.heap.size, 0, none⟩ = some (.int .i64 (s1A a sv).f0) ∧ w'.cell? ⟨w3.heap.size, 1, none⟩ = some (.string (s1A a sv).f1) ∧ w'.cell? ⟨w3.heap.size, 2, none⟩ = some (.int .i64 (s1A a sv).f2) ∧ w'.cell? ⟨w3.heap.size, 3, none⟩ = some (.slice A3 (s1A a sv).f3.length c3) ∧ w'.cell? ⟨w.heap.size + 2, 0, none⟩ = some (.int .i64 ce.f0) ∧ w'.cell? ⟨w.heap.size + 2, 1, none⟩ = some (.string ce.f1) ∧ w'.cell? ⟨w.heap.size + 2, 2, none⟩ = some (.int .i64 ce.f2) ∧ w'.cell? ⟨w.heap.size + 2, 3, none⟩ = some (.slice Ac ce.f3.length cc))
    (first | (with_reducible (go_split_ands; exact ⟨pw_cell_below hb (by assumption), pw_cell_below hb (by assumption), pw_cell_below hb (by assumption), pw_cell_below hb (by assumption), pw_cell_below hb (by assumption), pw_cell_below hb (by assumption), pw_cell_below hb (by assumption), pw_cell_below hb (by assumption), pw_cell_below hb (by assumption), pw_cell_below hb (by assumption), pw_cell_below hb (by assumption), pw_cell_below hb (by assumption)⟩)) | (with_reducible (go_split_ands; exact ⟨pw_cell_below (below_alloc (Below.refl _ _) _) (by assumption), pw_cell_below (below_alloc (Below.refl _ _) _) (by assumption), pw_cell_below (below_alloc (Below.refl _ _) _) (by assumption), pw_cell_below (below_alloc (Below.refl _ _) _) (by assumption), pw_cell_below (below_alloc (Below.refl _ _) _) (by assumption), pw_cell_below (below_alloc (Below.refl _ _) _) (by assumption), pw_cell_below (below_alloc (Below.refl _ _) _) (by assumption), pw_cell_below (below_alloc (Below.refl _ _) _) (by assumption), pw_cell_below (below_alloc (Below.refl _ _) _) (by assumption), pw_cell_below (below_alloc (Below.refl _ _) _) (by assumption), pw_cell_below (below_alloc (Below.refl _ _) _) (by assumption), pw_cell_below (below_alloc (Below.refl _ _) _) (by assumption)⟩)) | (with_reducible (go_split_ands; refine ⟨?_, ?_, ?_, ?_, ?_, ?_, ?_, ?_, ?_, ?_, ?_, ?_⟩ <;> assumption)) | (go_keep; done) | (go_split_ands; refine ⟨?_, ?_, ?_, ?_, ?_, ?_, ?_, ?_, ?_, ?_, ?_, ?_⟩ <;> exact cell_set4 (by omega) (by assumption)))
    (first
      | (go_simp; go_at_call 29; refine (Sum8_F 19 (s2A a sv ce) rfl _ (I4c.out.below (by repeat (first | exact HWc.out | apply below_alloc | apply pw_below_drewN | apply below_drew))) (I4.out.below (by repeat (first | exact HWc.out | apply below_alloc | apply pw_below_drewN | apply below_drew)))).mono ?_; rintro e wz ⟨vz, rfl, hz, hb⟩; have hsz := HWc.out.size; have HWn := Aside0.mk (below_step (by repeat (first | exact HWc.out | apply below_alloc | apply pw_below_drewN | apply below_drew)) hb); clear HWc; have HWc := HWn; clear HWn; obtain ⟨A5, c5, rfl, l5, F5⟩ := hz; have I5 := Aside0.mk (show IsF wz (fun k => (okS k ∨ okC k) ∨ w1.heap.size ≤ k) (.agg #[.int .i64 (s2A a sv ce).f0, .string (s2A a sv ce).f1, .int .i64 (s2A a sv ce).f2, .slice A5 (s2A a sv ce).f3.length c5]) (s2A a sv ce) from IsF.mono ⟨A5, c5, rfl, l5, F5⟩ (fun k hk => by rcases hk with (hk | hk) | hk; exact .inl (.inr hk); exact hk; exact .inr (by have hk2 : w4.heap.size ≤ k := hk; omega))); clear l5 F5)
      | (go_simp; go_at_call 30; refine (List8_calls _ _ 3 3).mono ?_; rintro e w9 ⟨rfl, hb⟩; have IZ := Aside0.mk (show IsF w9 (fun k => ((okS k ∨ okC k) ∨ w1.heap.size ≤ k) ∨ k = wz.heap.size) (.agg #[.int .i64 3, .string ⟨#[]⟩, .int .i64 0, .slice (some ⟨wz.heap.size, 0, none⟩) 3 3]) (builtA a sv ce) from (lits_F wz wz (fun k => (okS k ∨ okC k) ∨ w1.heap.size ≤ k) [(.agg #[.int .i64 (dataA a).f0, .string (dataA a).f1, .int .i64 (dataA a).f2, .slice A2 (dataA a).f3.length c2]), (.agg #[.int .i64 (s1A a sv).f0, .string (s1A a sv).f1, .int .i64 (s1A a sv).f2, .slice A3 (s1A a sv).f3.length c3]), (.agg #[.int .i64 (s2A a sv ce).f0, .string (s2A a sv ce).f1, .int .i64 (s2A a sv ce).f2, .slice A5 (s2A a sv ce).f3.length c5])] [dataA a, s1A a sv, s2A a sv ce] ⟨I4d.out.below HWc.out, I4.out.below HWc.out, I5.out, trivial⟩ (show 3 ≤ 1000 from by decide) (Below.refl _ _)).below hb); have hsz := HWc.out.size; have HWn := Aside0.mk (below_step (by repeat (first | exact HWc.out | apply below_alloc | apply pw_below_drewN | apply below_drew)) hb); clear HWc; have HWc := HWn; clear HWn; have hr9 := blk_below XR4.out HWc.out; have HR9 := Aside0.mk hr9; obtain ⟨hr0, hr1, hr2, hr3⟩ := box_cells hr9; have hrf0 := blk_frozen hr9 0; have hrf1 := blk_frozen hr9 1; have hrf2 := blk_frozen hr9 2; have hrf3 := blk_frozen hr9 3; clear hr9))
  go_wp2_with fail
  refine bodyPost_ret (results_ct rfl _ _ (w.heap.size + 3) 29 #[.int .i64 3, .string (⟨#[]⟩ : ByteArray), .int .i64 0, .slice (some ⟨wz.heap.size, 0, none⟩) 3 3] (0, 0) _ rfl (put4_block HR9.out) Tryd.underlying29 rfl (by kernel_rfl)) rfl ?_
  obtain ⟨e4, e5⟩ := HBT.out HCN.out
  rw [e4, e5]
  exact ⟨_, rfl, (IZ.out.step fun k hk _ => put4_other (by rcases hk with ((hk | hk) | hk) | hk; have := hS k hk; omega; have := hC k hk; omega; omega; omega)).mono (fun k hk => by rcases hk with (hk | hk) | hk; exact .inl hk; exact .inr (by omega); exact .inr (by omega)), put4_below (B4.out.trans (HWc.out.mono B4.out.size)) (by omega)⟩
end Go.Proofs.YtimommkbfbdkdaaDoor.P
end
