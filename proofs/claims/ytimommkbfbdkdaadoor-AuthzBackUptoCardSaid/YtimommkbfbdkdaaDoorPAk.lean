/- authz.summed answers as the plain law sumB. authz.Server and authz.Verify answer just as plain functions. -/
import Derived.Test.YtimommkbfbdkdaaDoorPAi
import Derived.Test.YtimommkbfbdkdaaDoorPAd
namespace Go.Proofs.YtimommkbfbdkdaaDoor.P
open Go.RowKit Go.Proofs.YtimommkbfbdkdaaDoorW.PrintWords Go.Proofs.YtimommkbfbdkdaaDoorW.PrintLast Go.Proofs.YtimommkbfbdkdaaDoorW.PrintMore
set_option linter.unusedVariables false
set_option linter.unusedSimpArgs false

def sumB (t k : S29) (n : Int) (u : S29) : Bool := k.f0 == 2 && oT t (sumT k n u) == 0
theorem three_boxes {w w1 : World} {o o2 o3 : Obj} (hb : Below (((w.alloc o).alloc o2).alloc o3).heap.size (((w.alloc o).alloc o2).alloc o3) w1) :
    Below w.heap.size w w1 ∧ w.heap.size + 3 ≤ w1.heap.size ∧ w1.heap[w.heap.size]? = some o ∧ w1.heap[w.heap.size + 1]? = some o2 ∧ w1.heap[w.heap.size + 2]? = some o3 := by
  obtain ⟨h1, h2, h3⟩ := one_box hb
  obtain ⟨k1, k2, k3, k4⟩ := two_boxes h1
  have s1 : ((w.alloc o).alloc o2).heap.size = w.heap.size + 2 := by simp
  rw [s1] at h2 h3
  exact ⟨k1, by omega, k3, k4, h3⟩

set_option maxHeartbeats 8000000 in
set_option maxRecDepth 100000 in
theorem summed_calls {t k u : S29} {v1 v2 v3 : Value} (n : Int) (w : World) (h1 : IsT w v1 t) (h2 : IsT w v2 k) (h3 : IsT w v3 u) :
    Calls Tryd.prog 48 #[v1, v2, .int .i64 n, v3] w fun e w' => e = .returned (.bool (sumB t k n u)) ∧ Below w.heap.size w w' := by
  obtain ⟨At, ct, rfl, lt, Ct⟩ := h1
  obtain ⟨Ak, ck, rfl, lk, Ck⟩ := h2
  obtain ⟨Au, cu, rfl, lu, Cu⟩ := h3
  have hu29 := Tryd.underlying29
  have IT := Aside0.mk (show IsT w (.agg #[.int .i64 t.f0, .string t.f1, .int .i64 t.f2, .slice At t.f3.length ct]) t from ⟨At, ct, rfl, lt, Ct⟩)
  have IK := Aside0.mk (show IsT w (.agg #[.int .i64 k.f0, .string k.f1, .int .i64 k.f2, .slice Ak k.f3.length ck]) k from ⟨Ak, ck, rfl, lk, Ck⟩)
  have IU := Aside0.mk (show IsT w (.agg #[.int .i64 u.f0, .string u.f1, .int .i64 u.f2, .slice Au u.f3.length cu]) u from ⟨Au, cu, rfl, lu, Cu⟩)
  have HV : Aside0 (sumB t k n u = (k.f0 == 2 && oT t (sumT k n u) == 0)) := ⟨rfl⟩
  clear lt Ct lk Ck lu Cu
  go_enter Tryd.func48, Tryd.ntmps48
  go_wp2_with fail
  obtain ⟨w1, hw1⟩ : ∃ w1, w1 = ((w.alloc (.cells #[.int .i64 t.f0, .string t.f1, .int .i64 t.f2, .slice At t.f3.length ct] 29)).alloc (.cells #[.int .i64 k.f0, .string k.f1, .int .i64 k.f2, .slice Ak k.f3.length ck] 29)).alloc (.cells #[.int .i64 u.f0, .string u.f1, .int .i64 u.f2, .slice Au u.f3.length cu] 29) := ⟨_, rfl⟩
  obtain ⟨p1, _, xt, xk, xu⟩ := three_boxes (show Below (((w.alloc (.cells #[.int .i64 t.f0, .string t.f1, .int .i64 t.f2, .slice At t.f3.length ct] 29)).alloc (.cells #[.int .i64 k.f0, .string k.f1, .int .i64 k.f2, .slice Ak k.f3.length ck] 29)).alloc (.cells #[.int .i64 u.f0, .string u.f1, .int .i64 u.f2, .slice Au u.f3.length cu] 29)).heap.size (((w.alloc (.cells #[.int .i64 t.f0, .string t.f1, .int .i64 t.f2, .slice At t.f3.length ct] 29)).alloc (.cells #[.int .i64 k.f0, .string k.f1, .int .i64 k.f2, .slice Ak k.f3.length ck] 29)).alloc (.cells #[.int .i64 u.f0, .string u.f1, .int .i64 u.f2, .slice Au u.f3.length cu] 29)) w1 from hw1 ▸ Below.refl _ _)
  have B1 := Aside0.mk p1
  obtain ⟨ht0, ht1, ht2, ht3⟩ := box_cells xt
  obtain ⟨hk0, hk1, hk2, hk3⟩ := box_cells xk
  obtain ⟨hu0, hu1, hu2, hu3⟩ := box_cells xu
  rw [← hw1]
  clear hw1 p1 xt xk xu
  have HWc : Aside0 (Below w1.heap.size w1 w1) := ⟨Below.refl _ _⟩
  cases e0 : (k.f0 == 2) with
  | false =>
    rw [e0] at HV
    go_region
    all_goals go_wp2_with fail
    all_goals go_ret
    all_goals exact ⟨by rw [HV.out]; rfl, below_drew B1.out⟩
  | true =>
    rw [e0] at HV
    go_region_held3 (fun w' => w'.cell? ⟨w.heap.size, 0, none⟩ = some (.int .i64 t.f0) ∧ w'.cell? ⟨w.heap.size, 1, none⟩ = some (.string t.f1) ∧ w'.cell? ⟨w.heap.size, 2, none⟩ = some (.int .i64 t.f2) ∧ w'.cell? ⟨w.heap.size, 3, none⟩ = some (.slice At t.f3.length ct) ∧ w'.cell? ⟨w.heap.size + 1, 0, none⟩ = some (.int .i64 k.f0) ∧ w'.cell? ⟨w.heap.size + 1, 1, none⟩ = some (.string k.f1) ∧ w'.cell? ⟨w.heap.size + 1, 2, none⟩ = some (.int .i64 k.f2) ∧ w'.cell? ⟨w.heap.size + 1, 3, none⟩ = some (.slice Ak k.f3.length ck) ∧ w'.cell? ⟨w.heap.size + 1 + 1, 0, none⟩ = some (.int .i64 u.f0) ∧ w'.cell? ⟨w.heap.size + 1 + 1, 1, none⟩ = some (.string u.f1) ∧ w'.cell? ⟨w.heap.size + 1 + 1, 2, none⟩ = some (.int .i64 u.f2) ∧ w'.cell? ⟨w.heap.size + 1 + 1, 3, none⟩ = some (.slice Au u.f3.length cu))
      (first | (with_reducible (go_split_ands; exact ⟨pw_cell_below hb (by assumption), pw_cell_below hb (by assumption), pw_cell_below hb (by assumption), pw_cell_below hb (by assumption), pw_cell_below hb (by assumption), pw_cell_below hb (by assumption), pw_cell_below hb (by assumption), pw_cell_below hb (by assumption), pw_cell_below hb (by assumption), pw_cell_below hb (by assumption), pw_cell_below hb (by assumption), pw_cell_below hb (by assumption)⟩)) | (with_reducible (go_split_ands; exact ⟨pw_cell_below (below_alloc (Below.refl _ _) _) (by assumption), pw_cell_below (below_alloc (Below.refl _ _) _) (by assumption), pw_cell_below (below_alloc (Below.refl _ _) _) (by assumption), pw_cell_below (below_alloc (Below.refl _ _) _) (by assumption), pw_cell_below (below_alloc (Below.refl _ _) _) (by assumption), pw_cell_below (below_alloc (Below.refl _ _) _) (by assumption), pw_cell_below (below_alloc (Below.refl _ _) _) (by assumption), pw_cell_below (below_alloc (Below.refl _ _) _) (by assumption), pw_cell_below (below_alloc (Below.refl _ _) _) (by assumption), pw_cell_below (below_alloc (Below.refl _ _) _) (by assumption), pw_cell_below (below_alloc (Below.refl _ _) _) (by assumption), pw_cell_below (below_alloc (Below.refl _ _) _) (by assumption)⟩)) | (with_reducible (go_split_ands; refine ⟨?_, ?_, ?_, ?_, ?_, ?_, ?_, ?_, ?_, ?_, ?_, ?_⟩ <;> assumption)) | (go_keep; done))
      (first
        | (go_simp; go_at_call 28; refine (Sum_F n (sumT k n u) rfl _ ((IK.out.F).below (B1.out.trans (Below.mono (by repeat (first | exact HWc.out | apply below_alloc | apply pw_below_drewN | apply below_drew)) B1.out.size))) ((IU.out.F).below (B1.out.trans (Below.mono (by repeat (first | exact HWc.out | apply below_alloc | apply pw_below_drewN | apply below_drew)) B1.out.size)))).mono ?_; rintro e wz ⟨vz, rfl, hz, hb⟩; have HWn := Aside0.mk (below_step (by repeat (first | exact HWc.out | apply below_alloc | apply pw_below_drewN | apply below_drew)) hb); clear HWc; have HWc := HWn; clear HWn; obtain ⟨As, cs, rfl, ls, Fs⟩ := hz; have IS := Aside0.mk (show IsT wz (.agg #[.int .i64 (sumT k n u).f0, .string (sumT k n u).f1, .int .i64 (sumT k n u).f2, .slice As (sumT k n u).f3.length cs]) (sumT k n u) from IsF.now ⟨As, cs, rfl, ls, Fs⟩); clear ls Fs)
        | (go_simp; go_at_call 22; refine (Same_V _ (IT.out.below (B1.out.trans (Below.mono (by repeat (first | exact HWc.out | apply below_alloc | apply pw_below_drewN | apply below_drew)) B1.out.size))) IS.out).mono ?_; rintro e wz ⟨rfl, hb⟩; have HWn := Aside0.mk (below_step (by repeat (first | exact HWc.out | apply below_alloc | apply pw_below_drewN | apply below_drew)) hb); clear HWc; have HWc := HWn; clear HWn))
    go_wp2_with fail
    go_ret
    exact ⟨by rw [HV.out]; rfl, B1.out.trans (HWc.out.mono B1.out.size)⟩
end Go.Proofs.YtimommkbfbdkdaaDoor.P
namespace Go.Proofs.YtimommkbfbdkdaaDoor.P
open Go.RowKit Go.Proofs.YtimommkbfbdkdaaDoorW.PrintWords Go.Proofs.YtimommkbfbdkdaaDoorW.PrintLast Go.Proofs.YtimommkbfbdkdaaDoorW.PrintMore
set_option linter.unusedVariables false
set_option linter.unusedSimpArgs false

def okS (t sv : S29) : Bool := canR t && sumB t.f3[1]! sv 18 t.f3[0]!
def srvA (t sv : S29) : Au := if okS t sv = true then readA t else zA
def srvE (t sv : S29) : Int := if canR t = true then (if okS t sv = true then 0 else 62) else 50
def okV (t sv ce : S29) : Bool := okS t sv && sumB t.f3[2]! ce 19 t.f3[1]!
def verA (t sv ce : S29) : Au := if okV t sv ce = true then readA t else zA
def verE (t sv ce : S29) : Int := if okS t sv = true then (if okV t sv ce = true then 0 else 62) else srvE t sv
theorem isT_C {w : World} {t : S29} {A : Option Addr} {c : Nat} (h : IsT w (.agg #[.int .i64 t.f0, .string t.f1, .int .i64 t.f2, .slice A t.f3.length c]) t) : t.f3.length ≤ c ∧ Kd.C k29 w A t.f3.length t.f3 := by
  obtain ⟨At, ct, et, h1, h2⟩ := h
  simp only [Value.agg.injEq, Array.mk.injEq, List.cons.injEq, Value.slice.injEq, and_true, true_and] at et
  obtain ⟨rfl, rfl⟩ := et
  exact ⟨h1, h2⟩
theorem canR_len {t : S29} (h : canR t = true) : t.f3.length = 3 := by
  unfold canR topB at h
  simp only [Bool.and_eq_true, decide_eq_true_eq] at h
  exact h.1.2.1
theorem okS_len {t sv : S29} (h : okS t sv = true) : t.f3.length = 3 := by
  unfold okS at h
  rw [Bool.and_eq_true] at h
  exact canR_len h.1
theorem canR_E (t : S29) : (readE t == 0) = canR t := by unfold readE; cases canR t <;> rfl
theorem readE_no {t : S29} (h : canR t = false) : readE t = 50 := by unfold readE; rw [h]; rfl
theorem srv_no (t sv : S29) (h : canR t = false) : srvA t sv = zA ∧ srvE t sv = readE t := by
  rw [readE_no h]
  unfold srvA srvE okS
  rw [h]; exact ⟨rfl, rfl⟩
theorem srv_yes (t sv : S29) (b : Bool) (h : canR t = true) (hb : sumB t.f3[1]! sv 18 t.f3[0]! = b) : srvA t sv = (bif b then readA t else zA) ∧ srvE t sv = (bif b then 0 else 62) := by
  unfold srvA srvE okS
  rw [h, hb]
  cases b <;> exact ⟨rfl, rfl⟩
theorem ver_no (t sv ce : S29) (h : okS t sv = false) : verA t sv ce = zA ∧ verE t sv ce = srvE t sv := by
  unfold verA verE okV
  rw [h]; exact ⟨rfl, rfl⟩
theorem ver_yes (t sv ce : S29) (b : Bool) (h : okS t sv = true) (hb : sumB t.f3[2]! ce 19 t.f3[1]! = b) : verA t sv ce = (bif b then srvA t sv else zA) ∧ verE t sv ce = (bif b then 0 else 62) := by
  unfold verA verE okV srvA
  rw [h, hb]
  cases b <;> exact ⟨rfl, rfl⟩
theorem okS_E (t sv : S29) : (srvE t sv == 0) = okS t sv := by
  unfold srvE okS
  cases canR t <;> cases sumB t.f3[1]! sv 18 t.f3[0]! <;> rfl

set_option maxHeartbeats 2000000 in
set_option maxRecDepth 100000 in
theorem Server_calls {t sv : S29} {A As : Option Addr} {c cs : Nat} (w : World) (hn : nT t ≤ 100000000) (h0 : IsT w (.agg #[.int .i64 t.f0, .string t.f1, .int .i64 t.f2, .slice A t.f3.length c]) t) (h1 : IsT w (.agg #[.int .i64 sv.f0, .string sv.f1, .int .i64 sv.f2, .slice As sv.f3.length cs]) sv) :
    Calls Tryd.prog 20 #[(.agg #[.int .i64 t.f0, .string t.f1, .int .i64 t.f2, .slice A t.f3.length c]), (.agg #[.int .i64 sv.f0, .string sv.f1, .int .i64 sv.f2, .slice As sv.f3.length cs])] w fun e w' => ∃ v, e = .returned (.tuple #[v, .int .i64 (srvE t sv)]) ∧ IsAF w' (fun k => w.heap.size + 3 ≤ k) v (srvA t sv) ∧ Below w.heap.size w w' := by
  have hu25 := Tryd.underlying25
  have hu29 := Tryd.underlying29
  have HCt := Aside0.mk (isT_C h0).2
  have HI : Aside0 (∀ W, Below w.heap.size w W → Calls Tryd.prog 19 #[(.agg #[.int .i64 t.f0, .string t.f1, .int .i64 t.f2, .slice A t.f3.length c])] W fun e w' => ∃ v, e = .returned (.tuple #[v, .int .i64 (readE t)]) ∧ IsAF w' (fun k => W.heap.size ≤ k) v (readA t) ∧ Below W.heap.size W w') := ⟨fun W hW => (Read_calls W hn (h0.below hW)).mono fun e w' ⟨v, he, ha, hb⟩ => ⟨v, he, ha.mono (fun k hk => by omega), hb⟩⟩
  have HK : Aside0 (IsT w (.agg #[.int .i64 sv.f0, .string sv.f1, .int .i64 sv.f2, .slice As sv.f3.length cs]) sv) := ⟨h1⟩
  clear h0 h1
  have HC0 : Aside0 ((readE t == 0) = canR t) := ⟨canR_E t⟩
  have HNO : Aside0 (canR t = false → srvA t sv = zA ∧ srvE t sv = readE t) := ⟨srv_no t sv⟩
  have HYES : Aside0 (∀ b, canR t = true → sumB t.f3[1]! sv 18 t.f3[0]! = b → srvA t sv = (bif b then readA t else zA) ∧ srvE t sv = (bif b then 0 else 62)) := ⟨fun b h hb => srv_yes t sv b h hb⟩
  have HL3 : Aside0 (canR t = true → t.f3.length = 3) := ⟨canR_len⟩
  have hnl := nL_len t.f3
  go_enter Tryd.func20, Tryd.ntmps20
  go_wp2_with fail
  refine (HI.out _ (by repeat (first | exact Below.refl _ _ | apply below_alloc))).mono ?_
  clear HI
  rintro e w1 ⟨v1, rfl, ⟨Ag, cg, At, ct, rfl, lg, Fg, lt, Ft⟩, b1⟩
  obtain ⟨p1, q1, x0, x1, xr⟩ := three_boxes b1
  have hsz0 : ((((w.alloc (.cells #[.int .i64 t.f0, .string t.f1, .int .i64 t.f2, .slice A t.f3.length c] 29)).alloc (.cells #[.int .i64 sv.f0, .string sv.f1, .int .i64 sv.f2, .slice As sv.f3.length cs] 29)).alloc (.cells #[.string ⟨#[]⟩, .slice none 0 0, .int .i64 0, .slice none 0 0, .string ⟨#[]⟩, .bool false, .int .i64 0] 25))).heap.size = w.heap.size + 3 := by simp
  rw [hsz0] at Fg Ft
  obtain ⟨aF, haF⟩ : ∃ aF, aF = readA t := ⟨_, rfl⟩
  obtain ⟨eF, heF⟩ : ∃ eF : Int, eF = readE t := ⟨_, rfl⟩
  obtain ⟨cF, hcF⟩ : ∃ cF, cF = canR t := ⟨_, rfl⟩
  rw [← haF] at Fg Ft lg lt HYES ⊢
  rw [← heF] at HC0 HNO ⊢
  rw [← hcF] at HC0 HNO HYES HL3
  have IA1 := Aside0.mk (show IsAF w1 (fun k => w.heap.size + 3 ≤ k) (.agg #[.string aF.u, .slice Ag aF.g.length cg, .int .i64 aF.o, .slice At aF.tr.length ct, .string aF.s, .bool aF.fw, .int .i64 aF.tm]) aF from ⟨Ag, cg, At, ct, rfl, lg, Fg, lt, Ft⟩)
  have B1 := Aside0.mk p1
  have X0 := Aside0.mk x0
  have XK := Aside0.mk x1
  have XR := Aside0.mk xr
  clear b1 p1 x0 x1 xr haF heF hcF lg Fg lt Ft hsz0
  have hzc : ∀ o, ((w1.alloc o).cell? ⟨w.heap.size + 1 + 1, 0, none⟩ = some (.string ⟨#[]⟩) ∧ (w1.alloc o).cell? ⟨w.heap.size + 1 + 1, 1, none⟩ = some (.slice none 0 0) ∧ (w1.alloc o).cell? ⟨w.heap.size + 1 + 1, 2, none⟩ = some (.int .i64 0) ∧ (w1.alloc o).cell? ⟨w.heap.size + 1 + 1, 3, none⟩ = some (.slice none 0 0) ∧ (w1.alloc o).cell? ⟨w.heap.size + 1 + 1, 4, none⟩ = some (.string ⟨#[]⟩) ∧ (w1.alloc o).cell? ⟨w.heap.size + 1 + 1, 5, none⟩ = some (.bool false) ∧ (w1.alloc o).cell? ⟨w.heap.size + 1 + 1, 6, none⟩ = some (.int .i64 0)) := fun o => boxA_cells (blk_alloc XR.out o)
  have hz0 := fun o => (hzc o).1
  have hz1 := fun o => (hzc o).2.1
  have hz2 := fun o => (hzc o).2.2.1
  have hz3 := fun o => (hzc o).2.2.2.1
  have hz4 := fun o => (hzc o).2.2.2.2.1
  have hz5 := fun o => (hzc o).2.2.2.2.2.1
  have hz6 := fun o => (hzc o).2.2.2.2.2.2
  clear hzc
  have hzf0 : ∀ o, (w1.alloc o).frozen? ⟨w.heap.size + 1 + 1, 0, none⟩ = false := fun o => blk_frozen (blk_alloc XR.out o) 0
  have hzf1 : ∀ o, (w1.alloc o).frozen? ⟨w.heap.size + 1 + 1, 1, none⟩ = false := fun o => blk_frozen (blk_alloc XR.out o) 1
  have hzf2 : ∀ o, (w1.alloc o).frozen? ⟨w.heap.size + 1 + 1, 2, none⟩ = false := fun o => blk_frozen (blk_alloc XR.out o) 2
  have hzf3 : ∀ o, (w1.alloc o).frozen? ⟨w.heap.size + 1 + 1, 3, none⟩ = false := fun o => blk_frozen (blk_alloc XR.out o) 3
  have hzf4 : ∀ o, (w1.alloc o).frozen? ⟨w.heap.size + 1 + 1, 4, none⟩ = false := fun o => blk_frozen (blk_alloc XR.out o) 4
  have hzf5 : ∀ o, (w1.alloc o).frozen? ⟨w.heap.size + 1 + 1, 5, none⟩ = false := fun o => blk_frozen (blk_alloc XR.out o) 5
  have hzf6 : ∀ o, (w1.alloc o).frozen? ⟨w.heap.size + 1 + 1, 6, none⟩ = false := fun o => blk_frozen (blk_alloc XR.out o) 6
  cases cF with
  | false =>
    have he : (eF == 0) = false := HC0.out
    have he' : (eF != 0) = true := by rw [bne, he]; rfl
    go_wp2_with fail
    refine bodyPost_ret (results_ct rfl _ _ (w.heap.size + 1 + 1) 25 #[.string ⟨#[]⟩, .slice none 0 0, .int .i64 0, .slice none 0 0, .string ⟨#[]⟩, .bool false, .int .i64 0] (0, 0) _ rfl (putA_block (blk_alloc XR.out _)) Tryd.underlying25 rfl (by kernel_rfl)) rfl ?_
    obtain ⟨e1, e2⟩ := HNO.out (by first | rfl | trivial)
    rw [e1, e2]
    exact ⟨_, rfl, isAF_z _ _, putA_below (B1.out.trans ((below_alloc (Below.refl _ _) _).mono B1.out.size)) (by omega)⟩
  | true =>
    have he : (eF == 0) = true := HC0.out
    have he' : (eF != 0) = false := by rw [bne, he]; rfl
    go_wp2_with fail
    obtain ⟨w2, hw2⟩ : ∃ w2, w2 = w1.alloc (.cells #[.string aF.u, .slice Ag aF.g.length cg, .int .i64 aF.o, .slice At aF.tr.length ct, .string aF.s, .bool aF.fw, .int .i64 aF.tm] 25) := ⟨_, rfl⟩
    have b2 : Below w1.heap.size w1 w2 := hw2 ▸ below_alloc (Below.refl _ _) _
    have XA2 := Aside0.mk (show w2.heap[w1.heap.size]? = some (.cells #[.string aF.u, .slice Ag aF.g.length cg, .int .i64 aF.o, .slice At aF.tr.length ct, .string aF.s, .bool aF.fw, .int .i64 aF.tm] 25 (0, 0)) from hw2 ▸ box_new w1 _)
    have X02 := Aside0.mk (blk_below X0.out b2)
    have XK2 := Aside0.mk (blk_below XK.out b2)
    have XR2 := Aside0.mk (blk_below XR.out b2)
    have B2 := Aside0.mk (B1.out.trans (b2.mono B1.out.size))
    have IA2 := Aside0.mk (IA1.out.below b2)
    rw [← hw2]
    clear hw2 b2 X0 XK XR B1 IA1 hz0 hz1 hz2 hz3 hz4 hz5 hz6 hzf0 hzf1 hzf2 hzf3 hzf4 hzf5 hzf6 he he' HC0
    have h3 := HL3.out (by first | rfl | trivial)
    obtain ⟨ad, Ai, ci, e1, hi0, hi1, hi2, hi3, hli, hCi⟩ := at_T29 HCt.out (1 : Int) (by decide) (by omega)
    obtain ⟨ad2, Aj, cj, e2, hj0, hj1, hj2, hj3, hlj, hCj⟩ := at_T29 HCt.out (0 : Int) (by decide) (by omega)
    cases e1
    cases e2
    obtain ⟨ti, hti⟩ : ∃ x, x = t.f3[1]! := ⟨_, rfl⟩
    obtain ⟨tj, htj⟩ : ∃ x, x = t.f3[0]! := ⟨_, rfl⟩
    rw [show rd_T29 t.f3 1 = ti from by rw [hti]; exact rd_bang _ 1] at hi0 hi1 hi2 hi3 hli hCi
    rw [show rd_T29 t.f3 0 = tj from by rw [htj]; exact rd_bang _ 0] at hj0 hj1 hj2 hj3 hlj hCj
    have HTI := Aside0.mk (show IsT w (.agg #[.int .i64 ti.f0, .string ti.f1, .int .i64 ti.f2, .slice Ai ti.f3.length ci]) ti from ⟨Ai, ci, rfl, hli, hCi⟩)
    have HTJ := Aside0.mk (show IsT w (.agg #[.int .i64 tj.f0, .string tj.f1, .int .i64 tj.f2, .slice Aj tj.f3.length cj]) tj from ⟨Aj, cj, rfl, hlj, hCj⟩)
    obtain ⟨sb, hsb⟩ : ∃ sb, sb = sumB ti sv 18 tj := ⟨_, rfl⟩
    have HSB : Aside0 (sumB t.f3[1]! sv 18 t.f3[0]! = sb) := ⟨by rw [hsb, hti, htj]⟩
    have HSUM : Aside0 (∀ W, Below w2.heap.size w2 W → Calls Tryd.prog 48 #[(.agg #[.int .i64 ti.f0, .string ti.f1, .int .i64 ti.f2, .slice Ai ti.f3.length ci]), (.agg #[.int .i64 sv.f0, .string sv.f1, .int .i64 sv.f2, .slice As sv.f3.length cs]), .int .i64 18, (.agg #[.int .i64 tj.f0, .string tj.f1, .int .i64 tj.f2, .slice Aj tj.f3.length cj])] W fun e w' => e = .returned (.bool sb) ∧ Below W.heap.size W w') := ⟨fun W hW => by
      rw [hsb]
      exact summed_calls 18 W (HTI.out.below (B2.out.trans (hW.mono B2.out.size))) (HK.out.below (B2.out.trans (hW.mono B2.out.size))) (HTJ.out.below (B2.out.trans (hW.mono B2.out.size)))⟩
    replace hi0 := (B2.out.cell (World.block_lt_of_cell? w _ hi0)).trans hi0
    replace hi1 := (B2.out.cell (World.block_lt_of_cell? w _ hi1)).trans hi1
    replace hi2 := (B2.out.cell (World.block_lt_of_cell? w _ hi2)).trans hi2
    replace hi3 := (B2.out.cell (World.block_lt_of_cell? w _ hi3)).trans hi3
    replace hj0 := (B2.out.cell (World.block_lt_of_cell? w _ hj0)).trans hj0
    replace hj1 := (B2.out.cell (World.block_lt_of_cell? w _ hj1)).trans hj1
    replace hj2 := (B2.out.cell (World.block_lt_of_cell? w _ hj2)).trans hj2
    replace hj3 := (B2.out.cell (World.block_lt_of_cell? w _ hj3)).trans hj3
    obtain ⟨ht0, ht1, ht2, ht3⟩ := box_cells X02.out
    obtain ⟨hk0, hk1, hk2, hk3⟩ := box_cells XK2.out
    clear hsb hti htj hli hlj hCi hCj HTI HTJ HK
    rw [h3] at ht3
    have had1 : ad.add (Int.toNat 1 * 4) = ⟨ad.block, ad.off + 4, none⟩ := by simp [Addr.add]
    have had0 : ad.add (Int.toNat 0 * 4) = ad := by simp [Addr.add]
    have gi0 : w2.cell? ⟨ad.block, ad.off + 4, none⟩ = some (.int .i64 ti.f0) := by have h := hi0; rw [had1] at h; exact h
    have gi1 : w2.cell? ⟨ad.block, ad.off + 4 + 1, none⟩ = some (.string ti.f1) := by have h := hi1; rw [had1] at h; exact h
    have gi2 : w2.cell? ⟨ad.block, ad.off + 4 + 2, none⟩ = some (.int .i64 ti.f2) := by have h := hi2; rw [had1] at h; exact h
    have gi3 : w2.cell? ⟨ad.block, ad.off + 4 + 3, none⟩ = some (.slice Ai ti.f3.length ci) := by have h := hi3; rw [had1] at h; exact h
    have gj0 : w2.cell? ad = some (.int .i64 tj.f0) := by have h := hj0; rw [had0] at h; exact h
    have gj1 : w2.cell? ⟨ad.block, ad.off + 1, none⟩ = some (.string tj.f1) := by have h := hj1; rw [had0] at h; exact h
    have gj2 : w2.cell? ⟨ad.block, ad.off + 2, none⟩ = some (.int .i64 tj.f2) := by have h := hj2; rw [had0] at h; exact h
    have gj3 : w2.cell? ⟨ad.block, ad.off + 3, none⟩ = some (.slice Aj tj.f3.length cj) := by have h := hj3; rw [had0] at h; exact h
    clear hi0 hi1 hi2 hi3 hj0 hj1 hj2 hj3
    have HWc : Aside0 (Below w2.heap.size w2 w2) := ⟨Below.refl _ _⟩
    go_region_held3 (fun w' => w'.cell? ⟨w.heap.size, 3, none⟩ = some (.slice (some ad) 3 c) ∧ w'.cell? ⟨w.heap.size + 1, 0, none⟩ = some (.int .i64 sv.f0) ∧ w'.cell? ⟨w.heap.size + 1, 1, none⟩ = some (.string sv.f1) ∧ w'.cell? ⟨w.heap.size + 1, 2, none⟩ = some (.int .i64 sv.f2) ∧ w'.cell? ⟨w.heap.size + 1, 3, none⟩ = some (.slice As sv.f3.length cs) ∧ w'.cell? ⟨ad.block, ad.off + 4, none⟩ = some (.int .i64 ti.f0) ∧ w'.cell? ⟨ad.block, ad.off + 4 + 1, none⟩ = some (.string ti.f1) ∧ w'.cell? ⟨ad.block, ad.off + 4 + 2, none⟩ = some (.int .i64 ti.f2) ∧ w'.cell? ⟨ad.block, ad.off + 4 + 3, none⟩ = some (.slice Ai ti.f3.length ci) ∧ w'.cell? ad = some (.int .i64 tj.f0) ∧ w'.cell? ⟨ad.block, ad.off + 1, none⟩ = some (.string tj.f1) ∧ w'.cell? ⟨ad.block, ad.off + 2, none⟩ = some (.int .i64 tj.f2) ∧ w'.cell? ⟨ad.block, ad.off + 3, none⟩ = some (.slice Aj tj.f3.length cj))
      (first | (with_reducible (go_split_ands; exact ⟨pw_cell_below hb (by assumption), pw_cell_below hb (by assumption), pw_cell_below hb (by assumption), pw_cell_below hb (by assumption), pw_cell_below hb (by assumption), pw_cell_below hb (by assumption), pw_cell_below hb (by assumption), pw_cell_below hb (by assumption), pw_cell_below hb (by assumption), pw_cell_below hb (by assumption), pw_cell_below hb (by assumption), pw_cell_below hb (by assumption), pw_cell_below hb (by assumption)⟩)) | (with_reducible (go_split_ands; exact ⟨pw_cell_below (below_alloc (Below.refl _ _) _) (by assumption), pw_cell_below (below_alloc (Below.refl _ _) _) (by assumption), pw_cell_below (below_alloc (Below.refl _ _) _) (by assumption), pw_cell_below (below_alloc (Below.refl _ _) _) (by assumption), pw_cell_below (below_alloc (Below.refl _ _) _) (by assumption), pw_cell_below (below_alloc (Below.refl _ _) _) (by assumption), pw_cell_below (below_alloc (Below.refl _ _) _) (by assumption), pw_cell_below (below_alloc (Below.refl _ _) _) (by assumption), pw_cell_below (below_alloc (Below.refl _ _) _) (by assumption), pw_cell_below (below_alloc (Below.refl _ _) _) (by assumption), pw_cell_below (below_alloc (Below.refl _ _) _) (by assumption), pw_cell_below (below_alloc (Below.refl _ _) _) (by assumption), pw_cell_below (below_alloc (Below.refl _ _) _) (by assumption)⟩)) | (with_reducible (go_split_ands; refine ⟨?_, ?_, ?_, ?_, ?_, ?_, ?_, ?_, ?_, ?_, ?_, ?_, ?_⟩ <;> assumption)) | (go_keep; done))
      ((go_simp; go_at_call 48; refine (HSUM.out _ (by repeat (first | exact HWc.out | apply below_alloc | apply pw_below_drewN | apply below_drew))).mono ?_; rintro e wz ⟨rfl, hb⟩; have HWn := Aside0.mk (below_step (by repeat (first | exact HWc.out | apply below_alloc | apply pw_below_drewN | apply below_drew)) hb); clear HWc; have HWc := HWn; clear HWn))
    have X19 := Aside0.mk (blk_below XA2.out HWc.out)
    have R19 := Aside0.mk (blk_below XR2.out HWc.out)
    have B19 := Aside0.mk (B2.out.trans (HWc.out.mono B2.out.size))
    have I19 := Aside0.mk (IA2.out.below HWc.out)
    have z1 := B2.out.size
    clear gi0 gi1 gi2 gi3 gj0 gj1 gj2 gj3 ht0 ht1 ht2 ht3 hk0 hk1 hk2 hk3 XA2 X02 XK2 XR2 B2 IA2 HWc hb
    obtain ⟨ha0, ha1, ha2, ha3, ha4, ha5, ha6⟩ := boxA_cells X19.out
    obtain ⟨hz0, hz1, hz2, hz3, hz4, hz5, hz6⟩ := boxA_cells R19.out
    have hzf0 := blk_frozen R19.out 0
    have hzf1 := blk_frozen R19.out 1
    have hzf2 := blk_frozen R19.out 2
    have hzf3 := blk_frozen R19.out 3
    have hzf4 := blk_frozen R19.out 4
    have hzf5 := blk_frozen R19.out 5
    have hzf6 := blk_frozen R19.out 6
    cases sb with
    | false =>
      go_wp2_with fail
      refine bodyPost_ret (results_ct rfl _ _ (w.heap.size + 1 + 1) 25 #[.string ⟨#[]⟩, .slice none 0 0, .int .i64 0, .slice none 0 0, .string ⟨#[]⟩, .bool false, .int .i64 0] (0, 0) _ rfl (putA_block R19.out) Tryd.underlying25 rfl (by kernel_rfl)) rfl ?_
      obtain ⟨e1, e2⟩ := HYES.out _ (by first | rfl | trivial) HSB.out
      rw [e1, e2]
      exact ⟨_, rfl, isAF_z _ _, putA_below B19.out (by omega)⟩
    | true =>
      go_wp2_with fail
      refine bodyPost_ret (results_ct rfl _ _ (w.heap.size + 1 + 1) 25 #[.string aF.u, .slice Ag aF.g.length cg, .int .i64 aF.o, .slice At aF.tr.length ct, .string aF.s, .bool aF.fw, .int .i64 aF.tm] (0, 0) _ rfl (putA_block R19.out) Tryd.underlying25 rfl (by kernel_rfl)) rfl ?_
      obtain ⟨e1, e2⟩ := HYES.out _ (by first | rfl | trivial) HSB.out
      rw [e1, e2]
      exact ⟨_, rfl, I19.out.step (fun k hk _ => putA_other (by omega)), putA_below B19.out (by omega)⟩

set_option maxHeartbeats 2000000 in
set_option maxRecDepth 100000 in
theorem Verify_calls {t sv ce : S29} {A As Ac : Option Addr} {c cs cc : Nat} (w : World) (hn : nT t ≤ 100000000) (h0 : IsT w (.agg #[.int .i64 t.f0, .string t.f1, .int .i64 t.f2, .slice A t.f3.length c]) t) (h1 : IsT w (.agg #[.int .i64 sv.f0, .string sv.f1, .int .i64 sv.f2, .slice As sv.f3.length cs]) sv) (h2 : IsT w (.agg #[.int .i64 ce.f0, .string ce.f1, .int .i64 ce.f2, .slice Ac ce.f3.length cc]) ce) :
    Calls Tryd.prog 21 #[(.agg #[.int .i64 t.f0, .string t.f1, .int .i64 t.f2, .slice A t.f3.length c]), (.agg #[.int .i64 sv.f0, .string sv.f1, .int .i64 sv.f2, .slice As sv.f3.length cs]), (.agg #[.int .i64 ce.f0, .string ce.f1, .int .i64 ce.f2, .slice Ac ce.f3.length cc])] w fun e w' => ∃ v, e = .returned (.tuple #[v, .int .i64 (verE t sv ce)]) ∧ IsAF w' (fun k => w.heap.size + 4 ≤ k) v (verA t sv ce) ∧ Below w.heap.size w w' := by
  have hu25 := Tryd.underlying25
  have hu29 := Tryd.underlying29
  have HCt := Aside0.mk (isT_C h0).2
  have HI : Aside0 (∀ W, Below w.heap.size w W → Calls Tryd.prog 20 #[(.agg #[.int .i64 t.f0, .string t.f1, .int .i64 t.f2, .slice A t.f3.length c]), (.agg #[.int .i64 sv.f0, .string sv.f1, .int .i64 sv.f2, .slice As sv.f3.length cs])] W fun e w' => ∃ v, e = .returned (.tuple #[v, .int .i64 (srvE t sv)]) ∧ IsAF w' (fun k => W.heap.size ≤ k) v (srvA t sv) ∧ Below W.heap.size W w') := ⟨fun W hW => (Server_calls W hn (h0.below hW) (h1.below hW)).mono fun e w' ⟨v, he, ha, hb⟩ => ⟨v, he, ha.mono (fun k hk => by omega), hb⟩⟩
  have HK : Aside0 (IsT w (.agg #[.int .i64 ce.f0, .string ce.f1, .int .i64 ce.f2, .slice Ac ce.f3.length cc]) ce) := ⟨h2⟩
  clear h0 h1 h2
  have HC0 : Aside0 ((srvE t sv == 0) = okS t sv) := ⟨okS_E t sv⟩
  have HNO : Aside0 (okS t sv = false → verA t sv ce = zA ∧ verE t sv ce = srvE t sv) := ⟨ver_no t sv ce⟩
  have HYES : Aside0 (∀ b, okS t sv = true → sumB t.f3[2]! ce 19 t.f3[1]! = b → verA t sv ce = (bif b then srvA t sv else zA) ∧ verE t sv ce = (bif b then 0 else 62)) := ⟨fun b h hb => ver_yes t sv ce b h hb⟩
  have HL3 : Aside0 (okS t sv = true → t.f3.length = 3) := ⟨okS_len⟩
  have hnl := nL_len t.f3
  go_enter Tryd.func21, Tryd.ntmps21
  go_wp2_with fail
  refine (HI.out _ (by repeat (first | exact Below.refl _ _ | apply below_alloc))).mono ?_
  clear HI
  rintro e w1 ⟨v1, rfl, ⟨Ag, cg, At, ct, rfl, lg, Fg, lt, Ft⟩, b1⟩
  obtain ⟨p1, q1, x0, x1, x2, xr⟩ := four_boxes b1
  have hsz0 : (((((w.alloc (.cells #[.int .i64 t.f0, .string t.f1, .int .i64 t.f2, .slice A t.f3.length c] 29)).alloc (.cells #[.int .i64 sv.f0, .string sv.f1, .int .i64 sv.f2, .slice As sv.f3.length cs] 29)).alloc (.cells #[.int .i64 ce.f0, .string ce.f1, .int .i64 ce.f2, .slice Ac ce.f3.length cc] 29)).alloc (.cells #[.string ⟨#[]⟩, .slice none 0 0, .int .i64 0, .slice none 0 0, .string ⟨#[]⟩, .bool false, .int .i64 0] 25))).heap.size = w.heap.size + 4 := by simp
  rw [hsz0] at Fg Ft
  obtain ⟨aF, haF⟩ : ∃ aF, aF = srvA t sv := ⟨_, rfl⟩
  obtain ⟨eF, heF⟩ : ∃ eF : Int, eF = srvE t sv := ⟨_, rfl⟩
  obtain ⟨cF, hcF⟩ : ∃ cF, cF = okS t sv := ⟨_, rfl⟩
  rw [← haF] at Fg Ft lg lt HYES ⊢
  rw [← heF] at HC0 HNO ⊢
  rw [← hcF] at HC0 HNO HYES HL3
  have IA1 := Aside0.mk (show IsAF w1 (fun k => w.heap.size + 4 ≤ k) (.agg #[.string aF.u, .slice Ag aF.g.length cg, .int .i64 aF.o, .slice At aF.tr.length ct, .string aF.s, .bool aF.fw, .int .i64 aF.tm]) aF from ⟨Ag, cg, At, ct, rfl, lg, Fg, lt, Ft⟩)
  have B1 := Aside0.mk p1
  have X0 := Aside0.mk x0
  have XK := Aside0.mk x2
  have XR := Aside0.mk xr
  clear b1 p1 x0 x1 x2 xr haF heF hcF lg Fg lt Ft hsz0
  have hzc : ∀ o, ((w1.alloc o).cell? ⟨w.heap.size + 1 + 1 + 1, 0, none⟩ = some (.string ⟨#[]⟩) ∧ (w1.alloc o).cell? ⟨w.heap.size + 1 + 1 + 1, 1, none⟩ = some (.slice none 0 0) ∧ (w1.alloc o).cell? ⟨w.heap.size + 1 + 1 + 1, 2, none⟩ = some (.int .i64 0) ∧ (w1.alloc o).cell? ⟨w.heap.size + 1 + 1 + 1, 3, none⟩ = some (.slice none 0 0) ∧ (w1.alloc o).cell? ⟨w.heap.size + 1 + 1 + 1, 4, none⟩ = some (.string ⟨#[]⟩) ∧ (w1.alloc o).cell? ⟨w.heap.size + 1 + 1 + 1, 5, none⟩ = some (.bool false) ∧ (w1.alloc o).cell? ⟨w.heap.size + 1 + 1 + 1, 6, none⟩ = some (.int .i64 0)) := fun o => boxA_cells (blk_alloc XR.out o)
  have hz0 := fun o => (hzc o).1
  have hz1 := fun o => (hzc o).2.1
  have hz2 := fun o => (hzc o).2.2.1
  have hz3 := fun o => (hzc o).2.2.2.1
  have hz4 := fun o => (hzc o).2.2.2.2.1
  have hz5 := fun o => (hzc o).2.2.2.2.2.1
  have hz6 := fun o => (hzc o).2.2.2.2.2.2
  clear hzc
  have hzf0 : ∀ o, (w1.alloc o).frozen? ⟨w.heap.size + 1 + 1 + 1, 0, none⟩ = false := fun o => blk_frozen (blk_alloc XR.out o) 0
  have hzf1 : ∀ o, (w1.alloc o).frozen? ⟨w.heap.size + 1 + 1 + 1, 1, none⟩ = false := fun o => blk_frozen (blk_alloc XR.out o) 1
  have hzf2 : ∀ o, (w1.alloc o).frozen? ⟨w.heap.size + 1 + 1 + 1, 2, none⟩ = false := fun o => blk_frozen (blk_alloc XR.out o) 2
  have hzf3 : ∀ o, (w1.alloc o).frozen? ⟨w.heap.size + 1 + 1 + 1, 3, none⟩ = false := fun o => blk_frozen (blk_alloc XR.out o) 3
  have hzf4 : ∀ o, (w1.alloc o).frozen? ⟨w.heap.size + 1 + 1 + 1, 4, none⟩ = false := fun o => blk_frozen (blk_alloc XR.out o) 4
  have hzf5 : ∀ o, (w1.alloc o).frozen? ⟨w.heap.size + 1 + 1 + 1, 5, none⟩ = false := fun o => blk_frozen (blk_alloc XR.out o) 5
  have hzf6 : ∀ o, (w1.alloc o).frozen? ⟨w.heap.size + 1 + 1 + 1, 6, none⟩ = false := fun o => blk_frozen (blk_alloc XR.out o) 6
  cases cF with
  | false =>
    have he : (eF == 0) = false := HC0.out
    have he' : (eF != 0) = true := by rw [bne, he]; rfl
    go_wp2_with fail
    refine bodyPost_ret (results_ct rfl _ _ (w.heap.size + 1 + 1 + 1) 25 #[.string ⟨#[]⟩, .slice none 0 0, .int .i64 0, .slice none 0 0, .string ⟨#[]⟩, .bool false, .int .i64 0] (0, 0) _ rfl (putA_block (blk_alloc XR.out _)) Tryd.underlying25 rfl (by kernel_rfl)) rfl ?_
    obtain ⟨e1, e2⟩ := HNO.out (by first | rfl | trivial)
    rw [e1, e2]
    exact ⟨_, rfl, isAF_z _ _, putA_below (B1.out.trans ((below_alloc (Below.refl _ _) _).mono B1.out.size)) (by omega)⟩
  | true =>
    have he : (eF == 0) = true := HC0.out
    have he' : (eF != 0) = false := by rw [bne, he]; rfl
    go_wp2_with fail
    obtain ⟨w2, hw2⟩ : ∃ w2, w2 = w1.alloc (.cells #[.string aF.u, .slice Ag aF.g.length cg, .int .i64 aF.o, .slice At aF.tr.length ct, .string aF.s, .bool aF.fw, .int .i64 aF.tm] 25) := ⟨_, rfl⟩
    have b2 : Below w1.heap.size w1 w2 := hw2 ▸ below_alloc (Below.refl _ _) _
    have XA2 := Aside0.mk (show w2.heap[w1.heap.size]? = some (.cells #[.string aF.u, .slice Ag aF.g.length cg, .int .i64 aF.o, .slice At aF.tr.length ct, .string aF.s, .bool aF.fw, .int .i64 aF.tm] 25 (0, 0)) from hw2 ▸ box_new w1 _)
    have X02 := Aside0.mk (blk_below X0.out b2)
    have XK2 := Aside0.mk (blk_below XK.out b2)
    have XR2 := Aside0.mk (blk_below XR.out b2)
    have B2 := Aside0.mk (B1.out.trans (b2.mono B1.out.size))
    have IA2 := Aside0.mk (IA1.out.below b2)
    rw [← hw2]
    clear hw2 b2 X0 XK XR B1 IA1 hz0 hz1 hz2 hz3 hz4 hz5 hz6 hzf0 hzf1 hzf2 hzf3 hzf4 hzf5 hzf6 he he' HC0
    have h3 := HL3.out (by first | rfl | trivial)
    obtain ⟨ad, Ai, ci, e1, hi0, hi1, hi2, hi3, hli, hCi⟩ := at_T29 HCt.out (2 : Int) (by decide) (by omega)
    obtain ⟨ad2, Aj, cj, e2, hj0, hj1, hj2, hj3, hlj, hCj⟩ := at_T29 HCt.out (1 : Int) (by decide) (by omega)
    cases e1
    cases e2
    obtain ⟨ti, hti⟩ : ∃ x, x = t.f3[2]! := ⟨_, rfl⟩
    obtain ⟨tj, htj⟩ : ∃ x, x = t.f3[1]! := ⟨_, rfl⟩
    rw [show rd_T29 t.f3 2 = ti from by rw [hti]; exact rd_bang _ 2] at hi0 hi1 hi2 hi3 hli hCi
    rw [show rd_T29 t.f3 1 = tj from by rw [htj]; exact rd_bang _ 1] at hj0 hj1 hj2 hj3 hlj hCj
    have HTI := Aside0.mk (show IsT w (.agg #[.int .i64 ti.f0, .string ti.f1, .int .i64 ti.f2, .slice Ai ti.f3.length ci]) ti from ⟨Ai, ci, rfl, hli, hCi⟩)
    have HTJ := Aside0.mk (show IsT w (.agg #[.int .i64 tj.f0, .string tj.f1, .int .i64 tj.f2, .slice Aj tj.f3.length cj]) tj from ⟨Aj, cj, rfl, hlj, hCj⟩)
    obtain ⟨sb, hsb⟩ : ∃ sb, sb = sumB ti ce 19 tj := ⟨_, rfl⟩
    have HSB : Aside0 (sumB t.f3[2]! ce 19 t.f3[1]! = sb) := ⟨by rw [hsb, hti, htj]⟩
    have HSUM : Aside0 (∀ W, Below w2.heap.size w2 W → Calls Tryd.prog 48 #[(.agg #[.int .i64 ti.f0, .string ti.f1, .int .i64 ti.f2, .slice Ai ti.f3.length ci]), (.agg #[.int .i64 ce.f0, .string ce.f1, .int .i64 ce.f2, .slice Ac ce.f3.length cc]), .int .i64 19, (.agg #[.int .i64 tj.f0, .string tj.f1, .int .i64 tj.f2, .slice Aj tj.f3.length cj])] W fun e w' => e = .returned (.bool sb) ∧ Below W.heap.size W w') := ⟨fun W hW => by
      rw [hsb]
      exact summed_calls 19 W (HTI.out.below (B2.out.trans (hW.mono B2.out.size))) (HK.out.below (B2.out.trans (hW.mono B2.out.size))) (HTJ.out.below (B2.out.trans (hW.mono B2.out.size)))⟩
    replace hi0 := (B2.out.cell (World.block_lt_of_cell? w _ hi0)).trans hi0
    replace hi1 := (B2.out.cell (World.block_lt_of_cell? w _ hi1)).trans hi1
    replace hi2 := (B2.out.cell (World.block_lt_of_cell? w _ hi2)).trans hi2
    replace hi3 := (B2.out.cell (World.block_lt_of_cell? w _ hi3)).trans hi3
    replace hj0 := (B2.out.cell (World.block_lt_of_cell? w _ hj0)).trans hj0
    replace hj1 := (B2.out.cell (World.block_lt_of_cell? w _ hj1)).trans hj1
    replace hj2 := (B2.out.cell (World.block_lt_of_cell? w _ hj2)).trans hj2
    replace hj3 := (B2.out.cell (World.block_lt_of_cell? w _ hj3)).trans hj3
    obtain ⟨ht0, ht1, ht2, ht3⟩ := box_cells X02.out
    obtain ⟨hk0, hk1, hk2, hk3⟩ := box_cells XK2.out
    clear hsb hti htj hli hlj hCi hCj HTI HTJ HK
    rw [h3] at ht3
    have had2 : ad.add (Int.toNat 2 * 4) = ⟨ad.block, ad.off + 8, none⟩ := by simp [Addr.add]
    have had1 : ad.add (Int.toNat 1 * 4) = ⟨ad.block, ad.off + 4, none⟩ := by simp [Addr.add]
    have gi0 : w2.cell? ⟨ad.block, ad.off + 8, none⟩ = some (.int .i64 ti.f0) := by have h := hi0; rw [had2] at h; exact h
    have gi1 : w2.cell? ⟨ad.block, ad.off + 8 + 1, none⟩ = some (.string ti.f1) := by have h := hi1; rw [had2] at h; exact h
    have gi2 : w2.cell? ⟨ad.block, ad.off + 8 + 2, none⟩ = some (.int .i64 ti.f2) := by have h := hi2; rw [had2] at h; exact h
    have gi3 : w2.cell? ⟨ad.block, ad.off + 8 + 3, none⟩ = some (.slice Ai ti.f3.length ci) := by have h := hi3; rw [had2] at h; exact h
    have gj0 : w2.cell? ⟨ad.block, ad.off + 4, none⟩ = some (.int .i64 tj.f0) := by have h := hj0; rw [had1] at h; exact h
    have gj1 : w2.cell? ⟨ad.block, ad.off + 4 + 1, none⟩ = some (.string tj.f1) := by have h := hj1; rw [had1] at h; exact h
    have gj2 : w2.cell? ⟨ad.block, ad.off + 4 + 2, none⟩ = some (.int .i64 tj.f2) := by have h := hj2; rw [had1] at h; exact h
    have gj3 : w2.cell? ⟨ad.block, ad.off + 4 + 3, none⟩ = some (.slice Aj tj.f3.length cj) := by have h := hj3; rw [had1] at h; exact h
    clear hi0 hi1 hi2 hi3 hj0 hj1 hj2 hj3
    have HWc : Aside0 (Below w2.heap.size w2 w2) := ⟨Below.refl _ _⟩
    go_region_held3 (fun w' => w'.cell? ⟨w.heap.size, 3, none⟩ = some (.slice (some ad) 3 c) ∧ w'.cell? ⟨w.heap.size + 1 + 1, 0, none⟩ = some (.int .i64 ce.f0) ∧ w'.cell? ⟨w.heap.size + 1 + 1, 1, none⟩ = some (.string ce.f1) ∧ w'.cell? ⟨w.heap.size + 1 + 1, 2, none⟩ = some (.int .i64 ce.f2) ∧ w'.cell? ⟨w.heap.size + 1 + 1, 3, none⟩ = some (.slice Ac ce.f3.length cc) ∧ w'.cell? ⟨ad.block, ad.off + 8, none⟩ = some (.int .i64 ti.f0) ∧ w'.cell? ⟨ad.block, ad.off + 8 + 1, none⟩ = some (.string ti.f1) ∧ w'.cell? ⟨ad.block, ad.off + 8 + 2, none⟩ = some (.int .i64 ti.f2) ∧ w'.cell? ⟨ad.block, ad.off + 8 + 3, none⟩ = some (.slice Ai ti.f3.length ci) ∧ w'.cell? ⟨ad.block, ad.off + 4, none⟩ = some (.int .i64 tj.f0) ∧ w'.cell? ⟨ad.block, ad.off + 4 + 1, none⟩ = some (.string tj.f1) ∧ w'.cell? ⟨ad.block, ad.off + 4 + 2, none⟩ = some (.int .i64 tj.f2) ∧ w'.cell? ⟨ad.block, ad.off + 4 + 3, none⟩ = some (.slice Aj tj.f3.length cj))
      (first | (with_reducible (go_split_ands; exact ⟨pw_cell_below hb (by assumption), pw_cell_below hb (by assumption), pw_cell_below hb (by assumption), pw_cell_below hb (by assumption), pw_cell_below hb (by assumption), pw_cell_below hb (by assumption), pw_cell_below hb (by assumption), pw_cell_below hb (by assumption), pw_cell_below hb (by assumption), pw_cell_below hb (by assumption), pw_cell_below hb (by assumption), pw_cell_below hb (by assumption), pw_cell_below hb (by assumption)⟩)) | (with_reducible (go_split_ands; exact ⟨pw_cell_below (below_alloc (Below.refl _ _) _) (by assumption), pw_cell_below (below_alloc (Below.refl _ _) _) (by assumption), pw_cell_below (below_alloc (Below.refl _ _) _) (by assumption), pw_cell_below (below_alloc (Below.refl _ _) _) (by assumption), pw_cell_below (below_alloc (Below.refl _ _) _) (by assumption), pw_cell_below (below_alloc (Below.refl _ _) _) (by assumption), pw_cell_below (below_alloc (Below.refl _ _) _) (by assumption), pw_cell_below (below_alloc (Below.refl _ _) _) (by assumption), pw_cell_below (below_alloc (Below.refl _ _) _) (by assumption), pw_cell_below (below_alloc (Below.refl _ _) _) (by assumption), pw_cell_below (below_alloc (Below.refl _ _) _) (by assumption), pw_cell_below (below_alloc (Below.refl _ _) _) (by assumption), pw_cell_below (below_alloc (Below.refl _ _) _) (by assumption)⟩)) | (with_reducible (go_split_ands; refine ⟨?_, ?_, ?_, ?_, ?_, ?_, ?_, ?_, ?_, ?_, ?_, ?_, ?_⟩ <;> assumption)) | (go_keep; done))
      ((go_simp; go_at_call 48; refine (HSUM.out _ (by repeat (first | exact HWc.out | apply below_alloc | apply pw_below_drewN | apply below_drew))).mono ?_; rintro e wz ⟨rfl, hb⟩; have HWn := Aside0.mk (below_step (by repeat (first | exact HWc.out | apply below_alloc | apply pw_below_drewN | apply below_drew)) hb); clear HWc; have HWc := HWn; clear HWn))
    have X19 := Aside0.mk (blk_below XA2.out HWc.out)
    have R19 := Aside0.mk (blk_below XR2.out HWc.out)
    have B19 := Aside0.mk (B2.out.trans (HWc.out.mono B2.out.size))
    have I19 := Aside0.mk (IA2.out.below HWc.out)
    have z1 := B2.out.size
    clear gi0 gi1 gi2 gi3 gj0 gj1 gj2 gj3 ht0 ht1 ht2 ht3 hk0 hk1 hk2 hk3 XA2 X02 XK2 XR2 B2 IA2 HWc hb
    obtain ⟨ha0, ha1, ha2, ha3, ha4, ha5, ha6⟩ := boxA_cells X19.out
    obtain ⟨hz0, hz1, hz2, hz3, hz4, hz5, hz6⟩ := boxA_cells R19.out
    have hzf0 := blk_frozen R19.out 0
    have hzf1 := blk_frozen R19.out 1
    have hzf2 := blk_frozen R19.out 2
    have hzf3 := blk_frozen R19.out 3
    have hzf4 := blk_frozen R19.out 4
    have hzf5 := blk_frozen R19.out 5
    have hzf6 := blk_frozen R19.out 6
    cases sb with
    | false =>
      go_wp2_with fail
      refine bodyPost_ret (results_ct rfl _ _ (w.heap.size + 1 + 1 + 1) 25 #[.string ⟨#[]⟩, .slice none 0 0, .int .i64 0, .slice none 0 0, .string ⟨#[]⟩, .bool false, .int .i64 0] (0, 0) _ rfl (putA_block R19.out) Tryd.underlying25 rfl (by kernel_rfl)) rfl ?_
      obtain ⟨e1, e2⟩ := HYES.out _ (by first | rfl | trivial) HSB.out
      rw [e1, e2]
      exact ⟨_, rfl, isAF_z _ _, putA_below B19.out (by omega)⟩
    | true =>
      go_wp2_with fail
      refine bodyPost_ret (results_ct rfl _ _ (w.heap.size + 1 + 1 + 1) 25 #[.string aF.u, .slice Ag aF.g.length cg, .int .i64 aF.o, .slice At aF.tr.length ct, .string aF.s, .bool aF.fw, .int .i64 aF.tm] (0, 0) _ rfl (putA_block R19.out) Tryd.underlying25 rfl (by kernel_rfl)) rfl ?_
      obtain ⟨e1, e2⟩ := HYES.out _ (by first | rfl | trivial) HSB.out
      rw [e1, e2]
      exact ⟨_, rfl, I19.out.step (fun k hk _ => putA_other (by omega)), putA_below B19.out (by omega)⟩
end Go.Proofs.YtimommkbfbdkdaaDoor.P
