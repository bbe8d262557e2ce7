/- authz.Read answers just as the plain readA and readE. -/
import Derived.Test.YtimommkbfbdkdaaDoorPAh
namespace Go.Proofs.YtimommkbfbdkdaaDoor.P
open Go.RowKit Go.Proofs.YtimommkbfbdkdaaDoorW.PrintWords Go.Proofs.YtimommkbfbdkdaaDoorW.PrintLast Go.Proofs.YtimommkbfbdkdaaDoorW.PrintMore
set_option linter.unusedVariables false
set_option linter.unusedSimpArgs false
attribute [local go_sem] field1 field2 field3

/-- The seven cells of a container's box, stored anew. -/
def putA (w : World) (g : Nat) (a b c d e f h : Value) : World := ((((((w.setCell ⟨g, 0, none⟩ a).setCell ⟨g, 1, none⟩ b).setCell ⟨g, 2, none⟩ c).setCell ⟨g, 3, none⟩ d).setCell ⟨g, 4, none⟩ e).setCell ⟨g, 5, none⟩ f).setCell ⟨g, 6, none⟩ h
theorem putA_block {w : World} {g : Nat} {a b c d e f h a' b' c' d' e' f' h' : Value} (hb : w.heap[g]? = some (.cells #[a, b, c, d, e, f, h] 25 (0, 0))) : (putA w g a' b' c' d' e' f' h').heap[g]? = some (.cells #[a', b', c', d', e', f', h'] 25 (0, 0)) :=
  blk_put (cs := #[a', b', c', d', e', f', h]) (blk_put (cs := #[a', b', c', d', e', f, h]) (blk_put (cs := #[a', b', c', d', e, f, h]) (blk_put (cs := #[a', b', c', d, e, f, h]) (blk_put (cs := #[a', b', c, d, e, f, h]) (blk_put (cs := #[a', b, c, d, e, f, h]) (blk_put (cs := #[a, b, c, d, e, f, h]) hb 0 _ rfl) 1 _ rfl) 2 _ rfl) 3 _ rfl) 4 _ rfl) 5 _ rfl) 6 _ rfl
theorem putA_other {w : World} {g k : Nat} {a b c d e f h : Value} (hk : k ≠ g) : (putA w g a b c d e f h).heap[k]? = w.heap[k]? := by
  unfold putA
  rw [Below.heap_setCell _ _ _ _ hk, Below.heap_setCell _ _ _ _ hk, Below.heap_setCell _ _ _ _ hk, Below.heap_setCell _ _ _ _ hk, Below.heap_setCell _ _ _ _ hk, Below.heap_setCell _ _ _ _ hk, Below.heap_setCell _ _ _ _ hk]
theorem putA_below {B : Nat} {w W : World} {g : Nat} {a b c d e f h : Value} (hb : Below B w W) (hg : B ≤ g) : Below B w (putA W g a b c d e f h) :=
  ((((((hb.setCell (p := ⟨g, 0, none⟩) hg a).setCell (p := ⟨g, 1, none⟩) hg b).setCell (p := ⟨g, 2, none⟩) hg c).setCell (p := ⟨g, 3, none⟩) hg d).setCell (p := ⟨g, 4, none⟩) hg e).setCell (p := ⟨g, 5, none⟩) hg f).setCell (p := ⟨g, 6, none⟩) hg h

/-- A value that reads as the container a in every world that agrees on the blocks that ok names. -/
def IsAF (w : World) (ok : Nat → Prop) (v : Value) (a : Au) : Prop := ∃ A c B d, v = .agg #[.string a.u, .slice A a.g.length c, .int .i64 a.o, .slice B a.tr.length d, .string a.s, .bool a.fw, .int .i64 a.tm] ∧
  a.g.length ≤ c ∧ Kd.F (Kd.int .i64) w ok A a.g.length a.g ∧ a.tr.length ≤ d ∧ Kd.F Kd.string w ok B a.tr.length a.tr
theorem IsAF.now {w : World} {ok : Nat → Prop} {v : Value} {a : Au} (h : IsAF w ok v a) : IsA w v a := by
  obtain ⟨A, c, B, d, rfl, h1, h2, h3, h4⟩ := h; exact ⟨A, c, B, d, rfl, h1, Kd.F_now h2, h3, Kd.F_now h4⟩
theorem IsAF.mono {w : World} {ok ok' : Nat → Prop} {v : Value} {a : Au} (h : IsAF w ok v a) (hk : ∀ k, ok k → ok' k) : IsAF w ok' v a := by
  obtain ⟨A, c, B, d, rfl, h1, h2, h3, h4⟩ := h; exact ⟨A, c, B, d, rfl, h1, Kd.F_mono h2 hk, h3, Kd.F_mono h4 hk⟩
theorem IsAF.step {w w' : World} {ok : Nat → Prop} {v : Value} {a : Au} (h : IsAF w ok v a) (hm : ∀ k, ok k → k < w.heap.size → w'.heap[k]? = w.heap[k]?) : IsAF w' ok v a := by
  obtain ⟨A, c, B, d, rfl, h1, h2, h3, h4⟩ := h; exact ⟨A, c, B, d, rfl, h1, Kd.F_step h2 hm, h3, Kd.F_step h4 hm⟩
theorem IsAF.below {w w' : World} {ok : Nat → Prop} {v : Value} {a : Au} (h : IsAF w ok v a) (hb : Below w.heap.size w w') : IsAF w' ok v a := h.step fun k _ hlt => hb.block k hlt
theorem C_nilI (w : World) : Kd.C (Kd.int .i64) w none ([] : List Int).length [] := ⟨rfl, by simp, fun h => absurd h (Nat.lt_irrefl 0)⟩
theorem C_nilS (w : World) : Kd.C Kd.string w none ([] : List ByteArray).length [] := ⟨rfl, by simp, fun h => absurd h (Nat.lt_irrefl 0)⟩
theorem isAF_z (w : World) (ok : Nat → Prop) : IsAF w ok (.agg #[.string ⟨#[]⟩, .slice none 0 0, .int .i64 0, .slice none 0 0, .string ⟨#[]⟩, .bool false, .int .i64 0]) zA :=
  ⟨none, 0, none, 0, rfl, Nat.le_refl _, fun W _ => C_nilI W, Nat.le_refl _, fun W _ => C_nilS W⟩

theorem topB_tri (t : S29) :
    ((t.f0 == 3) = false ∧ topB t = false) ∨ ((t.f0 == 3) = true ∧ ¬ t.f3.length = 3 ∧ topB t = false) ∨ ((t.f0 == 3) = true ∧ t.f3.length = 3 ∧ t.f1.toList.isEmpty = false ∧ topB t = false) ∨
    ((t.f0 == 3) = true ∧ t.f3.length = 3 ∧ t.f1.toList.isEmpty = true ∧ (t.f2 == 0) = false ∧ topB t = false) ∨ ((t.f0 == 3) = true ∧ t.f3.length = 3 ∧ t.f1.toList.isEmpty = true ∧ (t.f2 == 0) = true ∧ topB t = true) := by
  unfold topB
  cases t.f0 == 3 <;> by_cases h : t.f3.length = 3 <;> cases t.f1.toList.isEmpty <;> cases t.f2 == 0 <;> simp only [h, decide_true, decide_false, Bool.true_and, Bool.false_and, Bool.and_true, Bool.and_false, not_true_eq_false, not_false_eq_true, true_and, and_true, false_and, and_false, or_false, false_or, true_or, or_true, reduceCtorEq]

theorem Rd.alloc {w0 w : World} {g : Nat} {l : List S29} {o : Bool} (h : Rd w0 w g l o) (ob : Obj) : Rd w0 (w.alloc ob) g l o := by
  obtain ⟨A, c, h1, h2, h3⟩ := h
  exact ⟨A, c, blk_alloc h1 ob, h2, h3⟩
theorem Rd.up {w0 w w' : World} {g a : Nat} {l : List S29} {o : Bool} (h : Rd w0 w g l o) (hu : Up w w' a) (hne : g ≠ a) : Rd w0 w' g l o := by
  obtain ⟨A, c, h1, h2, h3⟩ := h
  exact ⟨A, c, hu.blk hne h1, h2, h3⟩
theorem Rd.lt {w0 w : World} {g : Nat} {l : List S29} {o : Bool} (h : Rd w0 w g l o) : g < w.heap.size := by
  obtain ⟨A, c, h1, _⟩ := h
  exact blk_lt h1
theorem info3 : (Tryd.prog.info? 3).map (fun i => (i.zero, i.size, i.bytes)) = some (some (.int .i64 0), 1, 8) := by kernel_rfl
theorem cut_first (A : Option Addr) (l : List S29) (c : Nat) (h3 : l.length = 3) (hc : l.length ≤ c) (W : World) : (Instr.slice 27 (.slice A 3 c) none (some (.int .i64 1)) none).run Tryd.prog W = .ok (.slice A 1 c) W := by
  obtain ⟨i, hi, hsz⟩ := info29_size
  exact cut_to (P := Tryd.prog) 27 29 .i64 Tryd.underlying27 hi A 3 c 1 (by decide) (by decide) (by omega) W

/-- How things lie between the steps of Read: the reader, the container's box, the result's box, the two rows. -/
structure St (w W : World) (gR gA lo : Nat) (l : List S29) (o : Bool) (cs : Array Value) (vg : Value) (g : List Int) (vt : Value) (tr : List ByteArray) : Prop where
  rd : Rd w W gR l o
  xa : W.heap[gA]? = some (.cells cs 25 (0, 0))
  xr : W.heap[w.heap.size + 1]? = some (.cells #[.string ⟨#[]⟩, .slice none 0 0, .int .i64 0, .slice none 0 0, .string ⟨#[]⟩, .bool false, .int .i64 0] 25 (0, 0))
  rg : Kd.R (Kd.int .i64) 3 W gA (fun k => lo ≤ k) vg g
  rt : Kd.R Kd.string 9 W gA (fun k => lo ≤ k) vt tr
  bl : Below w.heap.size w W
  n1 : w.heap.size + 1 < gR
  n2 : gR < gA
  n3 : gA < lo
  n4 : lo ≤ W.heap.size
theorem St.up {w W W' : World} {gR gA lo : Nat} {l l' : List S29} {o o' : Bool} {cs : Array Value} {vg vt : Value} {g : List Int} {tr : List ByteArray} (h : St w W gR gA lo l o cs vg g vt tr) (hu : Up W W' gR) (hr : Rd w W' gR l' o') : St w W' gR gA lo l' o' cs vg g vt tr := by
  have h1 := h.n1
  have h2 := h.n2
  have h3 := h.n3
  exact ⟨hr, hu.blk (by omega) h.xa, hu.blk (by omega) h.xr, Kd.R_step h.rg (fun k hk hs => hu.1.2 k hs (by omega) (by simp)), Kd.R_step h.rt (fun k hk hs => hu.1.2 k hs (by omega) (by simp)), hu.2 _ _ h.bl (by omega), h1, h2, h3, Nat.le_trans h.n4 hu.size⟩
theorem St.set {w W : World} {gR gA lo : Nat} {l : List S29} {o : Bool} {cs : Array Value} {vg vt : Value} {g : List Int} {tr : List ByteArray} (h : St w W gR gA lo l o cs vg g vt tr) (j : Nat) (u : Value) {cs' : Array Value} (hc : cs.setIfInBounds j u = cs') : St w (W.setCell ⟨gA, j, none⟩ u) gR gA lo l o cs' vg g vt tr := by
  have h1 := h.n1
  have h2 := h.n2
  have h3 := h.n3
  have hs : ∀ k, k ≠ gA → (W.setCell ⟨gA, j, none⟩ u).heap[k]? = W.heap[k]? := fun k hk => Below.heap_setCell W ⟨gA, j, none⟩ u k hk
  exact ⟨Rd.kept h.rd (hs _ (by omega)), blk_put h.xa j u hc, (hs _ (by omega)).trans h.xr, Kd.R_step h.rg (fun k hk _ => hs k (by omega)), Kd.R_step h.rt (fun k hk _ => hs k (by omega)), h.bl.setCell (p := ⟨gA, j, none⟩) (by show w.heap.size ≤ gA; omega) u, h1, h2, h3, by simpa using h.n4⟩

theorem St.mid {w W W' : World} {gR gA lo : Nat} {l : List S29} {o : Bool} {cs cs' : Array Value} {vg vt vt' : Value} {g : List Int} {tr tr' : List ByteArray} (h : St w W gR gA lo l o cs vg g vt tr) (hu : Up W W' gA) (hb : Below gA W W')
    (hx : W'.heap[gA]? = some (.cells cs' 25 (0, 0))) (hr : Kd.R Kd.string 9 W' gA (fun k => lo ≤ k) vt' tr') : St w W' gR gA lo l o cs' vg g vt' tr' := by
  have h1 := h.n1
  have h2 := h.n2
  have h3 := h.n3
  exact ⟨h.rd.up hu (by omega), hx, hu.blk (by omega) h.xr, Kd.R_step h.rg (fun k hk hs => hu.1.2 k hs (by omega) (by simp)), hr, h.bl.trans (hb.mono (by omega)), h1, h2, h3, Nat.le_trans h.n4 hu.size⟩

set_option maxHeartbeats 8000000 in
set_option maxRecDepth 100000 in
theorem Read_calls {t : S29} {A : Option Addr} {c : Nat} (w : World) (hn : nT t ≤ 100000000) (h : IsT w (.agg #[.int .i64 t.f0, .string t.f1, .int .i64 t.f2, .slice A t.f3.length c]) t) :
    Calls Tryd.prog 19 #[.agg #[.int .i64 t.f0, .string t.f1, .int .i64 t.f2, .slice A t.f3.length c]] w fun e w' => ∃ v, e = .returned (.tuple #[v, .int .i64 (readE t)]) ∧ IsAF w' (fun k => w.heap.size + 2 ≤ k) v (readA t) ∧ Below w.heap.size w w' := by
  have hu25 := Tryd.underlying25
  have hu29 := Tryd.underlying29
  have hu64 := Tryd.underlying64
  have hC : t.f3.length ≤ c ∧ Kd.C k29 w A t.f3.length t.f3 := by
    obtain ⟨At, ct, et, h1, h2⟩ := h
    simp only [Value.agg.injEq, Array.mk.injEq, List.cons.injEq, Value.slice.injEq, and_true, true_and] at et
    obtain ⟨rfl, rfl⟩ := et
    exact ⟨h1, h2⟩
  clear h
  obtain ⟨hl, hC⟩ := hC
  have HC := Aside0.mk hC
  have HN := Aside0.mk hn
  have hnl := nL_len t.f3
  have hnt := nT_eq t
  clear hC
  have HF : Aside0 (canR t = false → readA t = zA ∧ readE t = 50) := ⟨fun h => by unfold readA readE; rw [h]; exact ⟨rfl, rfl⟩⟩
  have HT : Aside0 (canR t = true → readA t = (rdTop t).1 ∧ readE t = 0) := ⟨fun h => by unfold readA readE; rw [if_pos h, if_pos h]; exact ⟨rfl, rfl⟩⟩
  have HCR : Aside0 (canR t = (topB t && okRd (rdTop t))) := ⟨rfl⟩
  have zbox : Aside0 (∀ o : Obj, ((w.alloc o).alloc (.cells #[.string ⟨#[]⟩, .slice none 0 0, .int .i64 0, .slice none 0 0, .string ⟨#[]⟩, .bool false, .int .i64 0] 25)).heap[w.heap.size + 1]? = some (.cells #[.string ⟨#[]⟩, .slice none 0 0, .int .i64 0, .slice none 0 0, .string ⟨#[]⟩, .bool false, .int .i64 0] 25 (0, 0))) :=
    ⟨fun o => by have := box_new (w.alloc o) (.cells #[.string ⟨#[]⟩, .slice none 0 0, .int .i64 0, .slice none 0 0, .string ⟨#[]⟩, .bool false, .int .i64 0] 25); simpa using this⟩
  have FIN0 : Aside0 (∀ W, canR t = false → Below w.heap.size w W → W.heap[w.heap.size + 1]? = some (.cells #[.string ⟨#[]⟩, .slice none 0 0, .int .i64 0, .slice none 0 0, .string ⟨#[]⟩, .bool false, .int .i64 0] 25 (0, 0)) → ∃ v, Ending.returned (.tuple #[.agg #[.string ⟨#[]⟩, .slice none 0 0, .int .i64 0, .slice none 0 0, .string ⟨#[]⟩, .bool false, .int .i64 0], .int .i64 50]) = .returned (.tuple #[v, .int .i64 (readE t)]) ∧ IsAF W (fun k => w.heap.size + 2 ≤ k) v (readA t) ∧ Below w.heap.size w W) :=
    ⟨fun W h1 h2 h3 => by obtain ⟨e1, e2⟩ := HF.out h1; rw [e1, e2]; exact ⟨_, rfl, isAF_z W _, h2⟩⟩
  rcases topB_tri t with ⟨k0, hp⟩ | ⟨k0, k1, hp⟩ | ⟨k0, k1, k2, hp⟩ | ⟨k0, k1, k2, k3, hp⟩ | ⟨k0, k1, k2, k3, hp⟩
  case inr.inr.inr.inr =>
    have k0' : (t.f0 != 3) = false := by rw [bne, k0]; rfl
    have k1' : ((t.f3.length : Int) != 3) = false := by simp; omega
    have k3' : (t.f2 != 0) = false := by rw [bne, k3]; rfl
    have HP := Aside0.mk hp
    have hcut : ∀ W, (Instr.slice 27 (.slice A t.f3.length c) none (some (.int .i64 1)) none).run Tryd.prog W = .ok (.slice A 1 c) W := fun W => by rw [k1]; exact cut_first A t.f3 c k1 hl W
    clear hp
    go_enter Tryd.func19, Tryd.ntmps19
    go_wp2_with fail
    have hlt3 : (t.f3.take 1).length = 1 := by rw [List.length_take, k1]; rfl
    have hCt := Kd.C_take (m := 1) HC.out (by omega)
    rw [hlt3] at hCt
    refine (next_calls w _ (w.heap.size + 2) (t.f3.take 1) false 3 ⟨A, c, ?hbx, by omega, by rw [hlt3]; exact hCt⟩ ?hB (by omega)).mono ?_
    case hbx => rw [hlt3]; have := box_new ((w.alloc (.cells #[.int .i64 t.f0, .string t.f1, .int .i64 t.f2, .slice A 3 c] 29)).alloc (.cells #[.string ⟨#[]⟩, .slice none 0 0, .int .i64 0, .slice none 0 0, .string ⟨#[]⟩, .bool false, .int .i64 0] 25)) (.cells #[.slice A 1 c, .bool false] 64); simpa using this
    case hB => exact below_alloc (below_alloc (below_alloc (Below.refl _ _) _) _) _
    rintro e w4 ⟨v4, rfl, ⟨Ax, cx, rfl, hlx, hCx⟩, RW4, u4⟩
    have B4 := Aside0.mk (u4.2 w.heap.size w (below_alloc (below_alloc (below_alloc (Below.refl _ _) _) _) _) (by omega))
    have XR4 := Aside0.mk (u4.blk (k := w.heap.size + 1) (by omega) (blk_alloc (zbox.out _) _))
    have hRT : rdTop t = rdAll (nx (t.f3.take 1) false 3).1.f3 (nx (t.f3.take 1) false 3).2.2 := rfl
    have hN0 : nT (nx (t.f3.take 1) false 3).1 ≤ 100000000 := by
      have h2 := nx_n (t.f3.take 1) false 3
      have h3 : nL (t.f3.take 1) ≤ nL t.f3 := by
        cases t.f3 with
        | nil => exact Nat.le_refl _
        | cons x r => rw [List.take_succ_cons, List.take_zero, nL, nL, nL]; omega
      omega
    generalize nx (t.f3.take 1) false 3 = X at hlx hCx RW4 hRT hN0
    obtain ⟨x0, l0, o0⟩ := X
    have HNX := Aside0.mk (show nL x0.f3 ≤ 100000000 by have := nT_eq x0; dsimp only at hN0; omega)
    clear hN0
    have HRT := Aside0.mk (show rdTop t = rdAll x0.f3 o0 from hRT)
    have HCX := Aside0.mk (show Kd.C k29 w Ax x0.f3.length x0.f3 from hCx)
    obtain ⟨Aw, cw, hw4, _, _⟩ := RW4
    have hw4' := blk_lt hw4
    have HW4 := Aside0.mk (show w4.heap[w.heap.size + 2]? = some (.cells #[.slice Aw l0.length cw, .bool o0] 64 (0, 0)) from hw4)
    dsimp only at hlx
    clear u4 hRT hCx hw4 hCt hcut zbox
    go_wp2_with fail
    obtain ⟨w5, hw5⟩ : ∃ w5, w5 = w4.alloc (.cells #[.int .i64 x0.f0, .string x0.f1, .int .i64 x0.f2, .slice Ax x0.f3.length cx] 29) := ⟨_, rfl⟩
    have b5 : Below w4.heap.size w4 w5 := hw5 ▸ below_alloc (Below.refl _ _) _
    have B5 := Aside0.mk (B4.out.trans (b5.mono B4.out.size))
    have XR5 := Aside0.mk (blk_below XR4.out b5)
    have hx5 : w5.cell? ⟨w4.heap.size, 3, none⟩ = some (.slice Ax x0.f3.length cx) := (blk_cell (show w5.heap[w4.heap.size]? = some (.cells #[.int .i64 x0.f0, .string x0.f1, .int .i64 x0.f2, .slice Ax x0.f3.length cx] 29 (0, 0)) from hw5 ▸ box_new w4 _) 3).trans rfl
    have hy5 : w5.cell? ⟨w.heap.size + 2, 1, none⟩ = some (.bool o0) := (blk_cell (blk_below HW4.out b5) 1).trans rfl
    have hy5' : w5.cell? ⟨w.heap.size + 1 + 1, 1, none⟩ = some (.bool o0) := hy5
    have hz5 : w.heap.size + 3 ≤ w5.heap.size := by have := b5.size; omega
    rw [← hw5]
    clear hw5 b5 B4 XR4 HW4 hw4'
    go_region_held3 (fun w' => w'.cell? ⟨w4.heap.size, 3, none⟩ = some (.slice Ax x0.f3.length cx) ∧ w'.cell? ⟨w.heap.size + 1 + 1, 1, none⟩ = some (.bool o0))
      (first | (with_reducible (go_split_ands; exact ⟨pw_cell_below (below_alloc (Below.refl _ _) _) (by assumption), pw_cell_below (below_alloc (Below.refl _ _) _) (by assumption)⟩)) | (with_reducible (go_split_ands; refine ⟨?_, ?_⟩ <;> assumption)) | (go_keep; done))
      (fail)
    go_wp2_with fail
    have RD5 : Rd w ((w5.alloc (.cells #[.slice Ax x0.f3.length cx, .bool o0] 64)).drew) w5.heap.size x0.f3 o0 := ⟨Ax, cx, box_new w5 _, hlx, HCX.out⟩
    have BD5 : Below w.heap.size w ((w5.alloc (.cells #[.slice Ax x0.f3.length cx, .bool o0] 64)).drew) := below_drew (B5.out.trans ((below_alloc (Below.refl _ _) _).mono B5.out.size))
    refine (next_calls w _ w5.heap.size x0.f3 o0 0 RD5 BD5 B5.out.size).mono ?_
    rintro e w6 ⟨v6, rfl, ⟨Ay, cy, rfl, _, _⟩, rd6, u6⟩
    have B6 := Aside0.mk (u6.2 _ _ BD5 B5.out.size)
    have XR6 := Aside0.mk (u6.blk (k := w.heap.size + 1) (by omega) (show ((w5.alloc (.cells #[.slice Ax x0.f3.length cx, .bool o0] 64)).drew).heap[w.heap.size + 1]? = _ from blk_alloc XR5.out _))
    obtain ⟨na, hna⟩ : ∃ na, na = nx x0.f3 o0 0 := ⟨_, rfl⟩
    rw [← hna] at rd6 ⊢
    have E1 := Aside0.mk hna
    have hg6 : w5.heap.size < w6.heap.size := by have := u6.size; have h2 : ((w5.alloc (.cells #[.slice Ax x0.f3.length cx, .bool o0] 64)).drew).heap.size = w5.heap.size + 1 := World.size_alloc w5 _; omega
    have RD6 := Aside0.mk rd6
    have hgw : w.heap.size ≤ w5.heap.size := B5.out.size
    clear hna rd6 u6 RD5 BD5 B5 XR5 hx5 hy5 hy5' hlx
    go_wp2_with fail
    have HNA := Aside0.mk (show nL na.2.1 ≤ 100000000 by have := (nx_n x0.f3 o0 0).2; rw [← E1.out] at this; have := HNX.out; omega)
    refine (each_calls w _ w5.heap.size na.2.1 na.2.2 1 (RD6.out.alloc _) (B6.out.trans ((below_alloc (Below.refl _ _) _).mono B6.out.size)) hgw (by have := (nx_n na.2.1 na.2.2 3).1; rw [nT_eq] at this; have h2 := nL_len (nx na.2.1 na.2.2 3).1.f3; have := HNA.out; omega)).mono ?_
    rintro e ws ⟨v8, rfl, r8, rd8, u8⟩
    obtain ⟨nb, hnb⟩ : ∃ nb, nb = ec na.2.1 na.2.2 1 := ⟨_, rfl⟩
    have E2 := Aside0.mk hnb
    have RX8 : Aside0 (Kd.R (Kd.fixed k29 w) 29 ws (w6.heap.size + 1) (fun _ => True) v8 nb.1) := ⟨by rw [hnb]; rw [World.size_alloc] at r8; exact r8⟩
    have RD8 : Aside0 (Rd w ws w5.heap.size nb.2.1 nb.2.2) := ⟨by rw [hnb]; exact rd8⟩
    have B8 := Aside0.mk (u8.2 _ _ (B6.out.trans ((below_alloc (Below.refl _ _) _).mono B6.out.size)) hgw)
    have XA8 := Aside0.mk (u8.blk (k := w6.heap.size) (by omega) (box_new w6 _))
    have XR8 := Aside0.mk (u8.blk (k := w.heap.size + 1) (by omega) (blk_alloc XR6.out _))
    have hs8 : w6.heap.size < ws.heap.size := by have := u8.size; rw [World.size_alloc] at this; omega
    obtain ⟨AX, cX, rfl⟩ := Kd.R_slice RX8.out
    have hNB := ec_n na.2.1 na.2.2 1
    rw [← hnb] at hNB
    have HNB := Aside0.mk (show nL nb.1 ≤ 100000002 ∧ nL nb.2.1 ≤ 100000000 by have := HNA.out; omega)
    have hlb := nL_len nb.1
    clear hnb r8 rd8 u8 RD6 B6 XR6 HNA hNB
    go_wp2_with fail
    go_loopg [9, 54] nb.1.length (fun gg _ s54 wr => ∃ (kk : Nat) (Ag : Option Addr) (cg : Nat), kk ≤ nb.1.length ∧ nb.1.length - kk ≤ gg ∧ s54 = .int .i64 kk ∧ Aside0 (Up ws wr w6.heap.size) ∧ Aside0 (Below w6.heap.size ws wr) ∧
      Aside0 (wr.heap[w6.heap.size]? = some (.cells #[.string na.1.f1, .slice Ag kk cg, .int .i64 0, .slice none 0 0, .string ⟨#[]⟩, .bool false, .int .i64 0] 25 (0, 0))) ∧ Aside0 (Kd.R (Kd.int .i64) 3 wr w6.heap.size (fun k => ws.heap.size ≤ k) (.slice Ag kk cg) ((nb.1.take kk).map (·.f2))))
    case atStart => exact ⟨0, none, 0, Nat.zero_le _, by omega, rfl, ⟨Up.refl _ _⟩, ⟨Below.refl _ _⟩, XA8, ⟨Kd.R_nil _ _ _ _ _⟩⟩
    case round =>
      obtain ⟨kk, Ag, cg, hkk, hgg, rfl, UW, BW, XA, RG⟩ := hrel
      obtain ⟨ha0, ha1, ha2, ha3, ha4, ha5, ha6⟩ := boxA_cells XA.out
      have hzs := UW.out.size
      by_cases hlt : kk < nb.1.length
      · have RXw := Kd.R_step (Kd.R_bound RX8.out) (w1 := wr) (fun q hq hqs => UW.out.1.2 q hqs (by have := hq.2.1; omega) (by simp))
        have CX := fixed_C (Kd.R_reads' RXw).2.2 (B8.out.trans (BW.out.mono (by have := B8.out.size; omega)) : Below w.heap.size w wr)
        obtain ⟨ad, A9, c9, e9, hx0, hx1, hx2, hx3, hl9, hC9⟩ := at_T29 CX (kk : Int) (by omega) (by omega)
        cases e9
        have hrd : rd_T29 nb.1 (kk : Int) = nb.1[kk] := by rw [rd_bang, getElem!_pos nb.1 kk hlt]
        rw [hrd] at hx0 hx1 hx2 hx3 hl9
        obtain ⟨y, hy⟩ : ∃ y, y = nb.1[kk] := ⟨_, rfl⟩
        rw [← hy] at hx0 hx1 hx2 hx3 hl9
        have HY := Aside0.mk hy
        clear hy RXw CX hC9 hrd
        simp only [Int.toNat_natCast] at hx0 hx1 hx2 hx3
        have hin : (kk : Int) < nb.1.length := by omega
        have ha1' : ∀ o, (wr.alloc o).cell? ⟨w6.heap.size, 1, none⟩ = some (.slice Ag kk cg) := fun o => (blk_cell (blk_alloc XA.out o) 1).trans rfl
        have hlen0 : ((nb.1.take kk).map (·.f2)).length = kk := by rw [List.length_map, List.length_take]; omega
        have HL0 := Aside0.mk hlen0
        have hNb := HNB.out.1
        have hxal := blk_lt XA.out
        clear hlen0
        go_wp2_with (at_builtin; refine Kd.R_append (Kd.int .i64) (w0 := ws) w6.heap.size rfl (.tmp 59) (.tmp 62) 22 3 (.int .i64 0) 8 rfl Tryd.underlying22 info3 rfl (show 0 < 1 from by decide) (by decide) (.slice Ag kk cg) ((nb.1.take kk).map (·.f2)) y.f2 [.int .i64 y.f2] (fun k => ws.heap.size ≤ k) (fun _ => False) rfl ?hx ?hM (fun _ hk => hk.elim) ?hfr ?HO ?HB ?hbs ?hl ?_; (case hx => rw [World.size_alloc]; rfl); (case hM => exact rfl); (case hfr => intro q hq; rw [World.size_alloc] at hq; omega); (case HO => exact Kd.R_alloc RG.out _); (case HB => exact BW.out.alloc (by omega) _); (case hbs => rw [World.size_alloc]; omega); (case hl => rw [HL0.out]; omega); intro v1 w7 ho hb7 hg7 hat; have HO := Aside0.mk ho; have HB7 := Aside0.mk hb7; have hXA7 : w7.heap[w6.heap.size]? = some (.cells #[.string na.1.f1, .slice Ag kk cg, .int .i64 0, .slice none 0 0, .string ⟨#[]⟩, .bool false, .int .i64 0] 25 (0, 0)) := (hg7.block _ (by rw [World.size_alloc]; omega) (fun e => by have := RG.out.1 _ e.symm; omega)).trans (blk_alloc XA.out _); have HXA7 := Aside0.mk hXA7; have HU7 : Aside0 (Up ws w7 w6.heap.size) := ⟨⟨⟨hb7.size, fun q hq hqa hqr => ((hg7.block q (by rw [World.size_alloc]; omega) (fun e => by have := RG.out.1 _ e.symm; omega)).trans (((below_alloc (Below.refl wr.heap.size wr) _).block q (by omega)).trans (UW.out.1.2 q hq hqa hqr)))⟩, fun B0 w00 hb00 hB00 => hb00.trans (hb7.mono hB00)⟩⟩; clear ho hb7 hg7 hat; obtain ⟨A7, c7, rfl⟩ := Kd.R_slice HO.out; obtain ⟨hd0, hd1, hd2, hd3, hd4, hd5, hd6⟩ := boxA_cells hXA7; have hdf := blk_frozen hXA7 1; clear hXA7)
        have hlen : ((nb.1.take kk).map (·.f2) ++ [y.f2]).length = kk + 1 := by rw [List.length_append, HL0.out]; rfl
        have htk : (nb.1.take kk).map (·.f2) ++ [y.f2] = (nb.1.take (kk + 1)).map (·.f2) := by rw [List.take_succ_eq_append_getElem hlt, List.map_append, HY.out]; rfl
        go_roundg (nb.1.length - (kk + 1))
        case measure => omega
        case rel =>
          refine ⟨kk + 1, A7, c7, by omega, by omega, by go_num, ⟨HU7.out.set 1 _⟩, ⟨HB7.out.setCell (p := ⟨w6.heap.size, 1, none⟩) (Nat.le_refl _) _⟩, ⟨?_⟩, ⟨?_⟩⟩
          · rw [← hlen]; exact blk_put HXA7.out 1 _ rfl
          · have h := HO.out
            rw [hlen, htk] at h
            exact Kd.R_step h (fun q hq _ => Below.heap_setCell w7 ⟨w6.heap.size, 1, none⟩ _ q (by show q ≠ w6.heap.size; omega))
      · obtain rfl : kk = nb.1.length := by omega
        have hxa := blk_lt XA.out
        have SA : Aside0 (St w wr w5.heap.size w6.heap.size ws.heap.size nb.2.1 nb.2.2 #[.string na.1.f1, .slice Ag nb.1.length cg, .int .i64 0, .slice none 0 0, .string ⟨#[]⟩, .bool false, .int .i64 0] (.slice Ag nb.1.length cg) (nb.1.map (·.f2)) (.slice none 0 0) []) :=
          ⟨⟨RD8.out.up UW.out (by omega), XA.out, UW.out.blk (by omega) XR8.out, by have h := RG.out; rw [List.take_length] at h; exact h, Kd.R_nil _ _ _ _ _, B8.out.trans (BW.out.mono (by omega)), by omega, by omega, by omega, hzs⟩⟩
        clear UW BW XA RG RX8 RD8 B8 XA8 XR8 ha0 ha1 ha2 ha3 ha4 ha5 ha6
        go_wp2_with fail
        refine (next_calls w _ w5.heap.size nb.2.1 nb.2.2 1 SA.out.rd SA.out.bl hgw).mono ?_
        rintro e w10 ⟨v10, rfl, ⟨Ay, cy, rfl, _, _⟩, rd10, u10⟩
        obtain ⟨nc, hnc⟩ : ∃ nc, nc = nx nb.2.1 nb.2.2 1 := ⟨_, rfl⟩
        rw [← hnc] at rd10 ⊢
        have E3 := Aside0.mk hnc
        have S10 := Aside0.mk (SA.out.up u10 rd10)
        clear hnc rd10 u10 SA
        obtain ⟨ha0, ha1, ha2, ha3, ha4, ha5, ha6⟩ := boxA_cells S10.out.xa
        have hf2 := blk_frozen S10.out.xa 2
        go_wp2_with fail
        have S11 := Aside0.mk (S10.out.set 2 (.int .i64 nc.1.f2) rfl)
        have HNC := Aside0.mk (show nL nc.2.1 ≤ 100000000 by have := (nx_n nb.2.1 nb.2.2 1).2; rw [← E3.out] at this; have := HNB.out.2; omega)
        refine (each_calls w _ w5.heap.size nc.2.1 nc.2.2 0 S11.out.rd S11.out.bl hgw (by have := (nx_n nc.2.1 nc.2.2 3).1; rw [nT_eq] at this; have h2 := nL_len (nx nc.2.1 nc.2.2 3).1.f3; have := HNC.out; omega)).mono ?_
        rintro e wt ⟨v12, rfl, r12, rd12, u12⟩
        obtain ⟨nd, hnd⟩ : ∃ nd, nd = ec nc.2.1 nc.2.2 0 := ⟨_, rfl⟩
        have E4 := Aside0.mk hnd
        have n4 := S10.out.n4
        have RX12 : Aside0 (Kd.R (Kd.fixed k29 w) 29 wt w10.heap.size (fun _ => True) v12 nd.1) := ⟨by rw [hnd]; have h := r12; rw [show (w10.setCell ⟨w6.heap.size, 2, none⟩ (.int .i64 nc.1.f2)).heap.size = w10.heap.size from by simp] at h; exact h⟩
        have S12 : Aside0 (St w wt w5.heap.size w6.heap.size ws.heap.size nd.2.1 nd.2.2 #[.string na.1.f1, .slice Ag nb.1.length cg, .int .i64 nc.1.f2, .slice none 0 0, .string ⟨#[]⟩, .bool false, .int .i64 0] (.slice Ag nb.1.length cg) (nb.1.map (·.f2)) (.slice none 0 0) []) := ⟨S11.out.up u12 (by rw [hnd]; exact rd12)⟩
        obtain ⟨AY, cY, rfl⟩ := Kd.R_slice RX12.out
        have hND := ec_n nc.2.1 nc.2.2 0
        rw [← hnd] at hND
        have HND := Aside0.mk (show nL nd.1 ≤ 100000002 ∧ nL nd.2.1 ≤ 100000000 by have := HNC.out; omega)
        have hld := nL_len nd.1
        have n4t := S12.out.n4
        clear hnd r12 rd12 u12 S10 S11 HNC hND ha0 ha1 ha2 ha3 ha4 ha5 ha6 hf2
        go_wp2_with fail
        go_loopg [11, 73] nd.1.length (fun gg _ s73 wr => ∃ (kk : Nat) (At : Option Addr) (ct : Nat), kk ≤ nd.1.length ∧ nd.1.length - kk ≤ gg ∧ s73 = .int .i64 kk ∧ Aside0 (Up wt wr w6.heap.size) ∧ Aside0 (Below w6.heap.size wt wr) ∧
          Aside0 (wr.heap[w6.heap.size]? = some (.cells #[.string na.1.f1, .slice Ag nb.1.length cg, .int .i64 nc.1.f2, .slice At kk ct, .string ⟨#[]⟩, .bool false, .int .i64 0] 25 (0, 0))) ∧ Aside0 (Kd.R Kd.string 9 wr w6.heap.size (fun k => wt.heap.size ≤ k) (.slice At kk ct) ((nd.1.take kk).map (·.f1))))
        case atStart => exact ⟨0, none, 0, Nat.zero_le _, by omega, rfl, ⟨Up.refl _ _⟩, ⟨Below.refl _ _⟩, ⟨S12.out.xa⟩, ⟨Kd.R_nil _ _ _ _ _⟩⟩
        case round =>
          obtain ⟨kk, At, ct, hkk, hgg, rfl, UW, BW, XA, RG⟩ := hrel
          obtain ⟨ha0, ha1, ha2, ha3, ha4, ha5, ha6⟩ := boxA_cells XA.out
          have hzt := UW.out.size
          by_cases hlt : kk < nd.1.length
          · have RXw := Kd.R_step (Kd.R_bound RX12.out) (w1 := wr) (fun q hq hqs => UW.out.1.2 q hqs (by have := hq.2.1; omega) (by simp))
            have CX := fixed_C (Kd.R_reads' RXw).2.2 (S12.out.bl.trans (BW.out.mono (by have := S12.out.n1; have := S12.out.n2; omega)) : Below w.heap.size w wr)
            obtain ⟨ad, A9, c9, e9, hx0, hx1, hx2, hx3, hl9, hC9⟩ := at_T29 CX (kk : Int) (by omega) (by omega)
            cases e9
            have hrd : rd_T29 nd.1 (kk : Int) = nd.1[kk] := by rw [rd_bang, getElem!_pos nd.1 kk hlt]
            rw [hrd] at hx0 hx1 hx2 hx3 hl9
            obtain ⟨y, hy⟩ : ∃ y, y = nd.1[kk] := ⟨_, rfl⟩
            rw [← hy] at hx0 hx1 hx2 hx3 hl9
            have HY := Aside0.mk hy
            clear hy RXw CX hC9 hrd
            simp only [Int.toNat_natCast] at hx0 hx1 hx2 hx3
            have hin : (kk : Int) < nd.1.length := by omega
            have ha3' : ∀ o, (wr.alloc o).cell? ⟨w6.heap.size, 3, none⟩ = some (.slice At kk ct) := fun o => (blk_cell (blk_alloc XA.out o) 3).trans rfl
            have hlen0 : ((nd.1.take kk).map (·.f1)).length = kk := by rw [List.length_map, List.length_take]; omega
            have HL0 := Aside0.mk hlen0
            have hNd := HND.out.1
            have hxal := blk_lt XA.out
            clear hlen0
            go_wp2_with (at_builtin; refine Kd.R_append Kd.string (w0 := wt) w6.heap.size rfl (.tmp 78) (.tmp 81) 23 9 (.string ⟨#[]⟩) 16 rfl Tryd.underlying23 info9 rfl (show 0 < 1 from by decide) (by decide) (.slice At kk ct) ((nd.1.take kk).map (·.f1)) y.f1 [.string y.f1] (fun k => wt.heap.size ≤ k) (fun _ => False) rfl ?hx ?hM (fun _ hk => hk.elim) ?hfr ?HO ?HB ?hbs ?hl ?_; (case hx => rw [World.size_alloc]; rfl); (case hM => exact rfl); (case hfr => intro q hq; rw [World.size_alloc] at hq; omega); (case HO => exact Kd.R_alloc RG.out _); (case HB => exact BW.out.alloc (by omega) _); (case hbs => rw [World.size_alloc]; omega); (case hl => rw [HL0.out]; omega); intro v1 w7 ho hb7 hg7 hat; have HO := Aside0.mk ho; have HB7 := Aside0.mk hb7; have hXA7 : w7.heap[w6.heap.size]? = some (.cells #[.string na.1.f1, .slice Ag nb.1.length cg, .int .i64 nc.1.f2, .slice At kk ct, .string ⟨#[]⟩, .bool false, .int .i64 0] 25 (0, 0)) := (hg7.block _ (by rw [World.size_alloc]; omega) (fun e => by have := RG.out.1 _ e.symm; omega)).trans (blk_alloc XA.out _); have HXA7 := Aside0.mk hXA7; have HU7 : Aside0 (Up wt w7 w6.heap.size) := ⟨⟨⟨hb7.size, fun q hq hqa hqr => ((hg7.block q (by rw [World.size_alloc]; omega) (fun e => by have := RG.out.1 _ e.symm; omega)).trans (((below_alloc (Below.refl wr.heap.size wr) _).block q (by omega)).trans (UW.out.1.2 q hq hqa hqr)))⟩, fun B0 w00 hb00 hB00 => hb00.trans (hb7.mono hB00)⟩⟩; clear ho hb7 hg7 hat; obtain ⟨A7, c7, rfl⟩ := Kd.R_slice HO.out; obtain ⟨hd0, hd1, hd2, hd3, hd4, hd5, hd6⟩ := boxA_cells hXA7; have hdf := blk_frozen hXA7 3; clear hXA7)
            have hlen : ((nd.1.take kk).map (·.f1) ++ [y.f1]).length = kk + 1 := by rw [List.length_append, HL0.out]; rfl
            have htk : (nd.1.take kk).map (·.f1) ++ [y.f1] = (nd.1.take (kk + 1)).map (·.f1) := by rw [List.take_succ_eq_append_getElem hlt, List.map_append, HY.out]; rfl
            go_roundg (nd.1.length - (kk + 1))
            case measure => omega
            case rel =>
              refine ⟨kk + 1, A7, c7, by omega, by omega, by go_num, ⟨HU7.out.set 3 _⟩, ⟨HB7.out.setCell (p := ⟨w6.heap.size, 3, none⟩) (Nat.le_refl _) _⟩, ⟨?_⟩, ⟨?_⟩⟩
              · rw [← hlen]; exact blk_put HXA7.out 3 _ rfl
              · have h := HO.out
                rw [hlen, htk] at h
                exact Kd.R_step h (fun q hq _ => Below.heap_setCell w7 ⟨w6.heap.size, 3, none⟩ _ q (by show q ≠ w6.heap.size; omega))
          · obtain rfl : kk = nd.1.length := by omega
            have hlo : ws.heap.size ≤ wt.heap.size := S12.out.n4
            have SB := Aside0.mk (S12.out.mid UW.out BW.out XA.out (Kd.R_mono (by have h := RG.out; rw [List.take_length] at h; exact h) (fun k hk => Nat.le_trans hlo hk)))
            clear UW BW XA RG RX12 S12 ha0 ha1 ha2 ha3 ha4 ha5 ha6
            go_wp2_with fail
            refine (next_calls w _ w5.heap.size nd.2.1 nd.2.2 0 SB.out.rd SB.out.bl hgw).mono ?_
            rintro e w13 ⟨v13, rfl, ⟨Az, cz, rfl, _, _⟩, rd13, u13⟩
            obtain ⟨ne, hne⟩ : ∃ ne, ne = nx nd.2.1 nd.2.2 0 := ⟨_, rfl⟩
            rw [← hne] at rd13 ⊢
            have E5 := Aside0.mk hne
            have S13 := Aside0.mk (SB.out.up u13 rd13)
            clear hne rd13 u13 SB
            obtain ⟨ha0, ha1, ha2, ha3, ha4, ha5, ha6⟩ := boxA_cells S13.out.xa
            have hf4 := blk_frozen S13.out.xa 4
            go_wp2_with fail
            have S14 := Aside0.mk (S13.out.set 4 (.string ne.1.f1) rfl)
            refine (flag_calls w _ w5.heap.size ne.2.1 ne.2.2 S14.out.rd S14.out.bl hgw).mono ?_
            rintro e w15 ⟨rfl, rd15, u15⟩
            obtain ⟨nf, hnf⟩ : ∃ nf, nf = nx ne.2.1 ne.2.2 1 := ⟨_, rfl⟩
            rw [← hnf] at rd15 ⊢
            have E6 := Aside0.mk hnf
            have S15 := Aside0.mk (S14.out.up u15 rd15)
            clear hnf rd15 u15 S13 S14 ha0 ha1 ha2 ha3 ha4 ha5 ha6 hf4
            obtain ⟨ha0, ha1, ha2, ha3, ha4, ha5, ha6⟩ := boxA_cells S15.out.xa
            have hf5 := blk_frozen S15.out.xa 5
            go_wp2_with fail
            have S16 := Aside0.mk (S15.out.set 5 (.bool (nf.1.f2 == 1)) rfl)
            refine (next_calls w _ w5.heap.size nf.2.1 (flOdd nf.1.f2 nf.2.2) 1 S16.out.rd S16.out.bl hgw).mono ?_
            rintro e w17 ⟨v17, rfl, ⟨Az2, cz2, rfl, _, _⟩, rd17, u17⟩
            obtain ⟨nh, hnh⟩ : ∃ nh, nh = nx nf.2.1 (flOdd nf.1.f2 nf.2.2) 1 := ⟨_, rfl⟩
            rw [← hnh] at rd17 ⊢
            have E7 := Aside0.mk hnh
            have S17 := Aside0.mk (S16.out.up u17 rd17)
            clear hnh rd17 u17 S15 S16 ha0 ha1 ha2 ha3 ha4 ha5 ha6 hf5
            have S18 := Aside0.mk (S17.out.set 6 (.int .i64 nh.1.f2) (cs' := #[.string na.1.f1, .slice Ag nb.1.length cg, .int .i64 nc.1.f2, .slice At nd.1.length ct, .string ne.1.f1, .bool (nf.1.f2 == 1), .int .i64 nh.1.f2]) rfl)
            obtain ⟨aF, haF⟩ : ∃ aF : Au, aF = ⟨na.1.f1, nb.1.map (·.f2), nc.1.f2, nd.1.map (·.f1), ne.1.f1, nf.1.f2 == 1, nh.1.f2⟩ := ⟨_, rfl⟩
            have HRD : Aside0 (rdTop t = (aF, nh.2.1, nh.2.2)) := ⟨by
              rw [HRT.out, haF]
              unfold rdAll
              dsimp only
              rw [← E1.out, ← E2.out, ← E3.out, ← E4.out, ← E5.out, ← E6.out, ← E7.out]⟩
            have HOK : Aside0 (canR t = (!nh.2.2 && (nh.2.1.isEmpty && validA aF))) := ⟨by rw [HCR.out, HP.out, HRD.out]; rfl⟩
            have HNF : Aside0 (nA aF ≤ 1000000000) := ⟨by have := rdTop_n t; rw [HRD.out] at this; dsimp only at this; omega⟩
            have HAF := Aside0.mk haF
            clear haF E1 E2 E3 E4 E5 E6 E7 HRT HCX HNX HNB HND HCR
            obtain ⟨ha0, ha1, ha2, ha3, ha4, ha5, ha6⟩ := boxA_cells S17.out.xa
            have hf6 := blk_frozen S17.out.xa 6
            obtain ⟨Ar, cr, hrx, hrl, _⟩ := S17.out.rd
            have hr0 : w17.cell? ⟨w5.heap.size, 0, none⟩ = some (.slice Ar nh.2.1.length cr) := (blk_cell hrx 0).trans rfl
            have hr1 : w17.cell? ⟨w5.heap.size, 1, none⟩ = some (.bool nh.2.2) := (blk_cell hrx 1).trans rfl
            obtain ⟨hz0, hz1, hz2, hz3, hz4, hz5, hz6⟩ := boxA_cells S17.out.xr
            clear hrx
            have hn1 : w.heap.size + 1 < w5.heap.size := S17.out.n1
            have hn2 : w5.heap.size < w6.heap.size := S17.out.n2
            have q1 : ¬ w5.heap.size = w6.heap.size := by omega
            have q2 : ¬ w6.heap.size = w5.heap.size := by omega
            have q3 : ¬ w.heap.size + 1 = w6.heap.size := by omega
            have q4 : ¬ w6.heap.size = w.heap.size + 1 := by omega
            generalize nh.2.2 = oo at hr1 S18 HRD HOK
            generalize nh.2.1 = ll at hr0 S18 HRD HOK
            have hzf0 := blk_frozen S17.out.xr 0
            have hzf1 := blk_frozen S17.out.xr 1
            have hzf2 := blk_frozen S17.out.xr 2
            have hzf3 := blk_frozen S17.out.xr 3
            have hzf4 := blk_frozen S17.out.xr 4
            have hzf5 := blk_frozen S17.out.xr 5
            have hzf6 := blk_frozen S17.out.xr 6
            cases oo with
            | true =>
              have hcan : canR t = false := by rw [HOK.out]; rfl
              have HCAN := Aside0.mk hcan
              clear hcan
              go_wp2_with fail
              refine bodyPost_ret (results_ct rfl _ _ (w.heap.size + 1) 25 #[.string ⟨#[]⟩, .slice none 0 0, .int .i64 0, .slice none 0 0, .string ⟨#[]⟩, .bool false, .int .i64 0] (0, 0) _ rfl (putA_block S18.out.xr) Tryd.underlying25 rfl (by kernel_rfl)) rfl ?_
              exact FIN0.out _ HCAN.out (putA_below S18.out.bl (by omega)) (putA_block S18.out.xr)
            | false =>
            cases ll with
            | cons y r =>
              have hpos : (0 : Int) < ((y :: r).length : Int) := by rw [List.length_cons]; omega
              have hcan : canR t = false := by rw [HOK.out]; rfl
              have HCAN := Aside0.mk hcan
              clear hcan
              go_wp2_with fail
              refine bodyPost_ret (results_ct rfl _ _ (w.heap.size + 1) 25 #[.string ⟨#[]⟩, .slice none 0 0, .int .i64 0, .slice none 0 0, .string ⟨#[]⟩, .bool false, .int .i64 0] (0, 0) _ rfl (putA_block S18.out.xr) Tryd.underlying25 rfl (by kernel_rfl)) rfl ?_
              exact FIN0.out _ HCAN.out (putA_below S18.out.bl (by omega)) (putA_block S18.out.xr)
            | nil =>
            have hAV : IsA (w17.setCell ⟨w6.heap.size, 6, none⟩ (.int .i64 nh.1.f2)) (.agg #[.string na.1.f1, .slice Ag nb.1.length cg, .int .i64 nc.1.f2, .slice At nd.1.length ct, .string ne.1.f1, .bool (nf.1.f2 == 1), .int .i64 nh.1.f2]) aF := by
              rw [HAF.out]
              have h1 := Kd.R_reads' S18.out.rg
              have h2 := Kd.R_reads' S18.out.rt
              exact ⟨Ag, cg, At, ct, by simp only [List.length_map], by rw [← h1.1]; exact h1.2.1, h1.2.2, by rw [← h2.1]; exact h2.2.1, h2.2.2⟩
            simp only [List.length_nil] at hr0
            have HAV := Aside0.mk hAV
            clear hAV
            go_wp2_with fail
            refine (Valid_calls _ HNF.out HAV.out).mono ?_
            rintro e w19 ⟨rfl, b19⟩
            have X19 := Aside0.mk (blk_below S18.out.xa b19)
            have R19 := Aside0.mk (blk_below S18.out.xr b19)
            have B19 := Aside0.mk (S18.out.bl.trans (b19.mono S18.out.bl.size))
            have G19 := Aside0.mk (Kd.R_below S18.out.rg b19)
            have T19 := Aside0.mk (Kd.R_below S18.out.rt b19)
            have hlo := S18.out.n3
            clear b19 S17 S18 ha0 ha1 ha2 ha3 ha4 ha5 ha6 hz0 hz1 hz2 hz3 hz4 hz5 hz6 hzf0 hzf1 hzf2 hzf3 hzf4 hzf5 hzf6 hr0 hr1 hf6 HAV
            obtain ⟨ha0, ha1, ha2, ha3, ha4, ha5, ha6⟩ := boxA_cells X19.out
            obtain ⟨hz0, hz1, hz2, hz3, hz4, hz5, hz6⟩ := boxA_cells R19.out
            have hzf0 := blk_frozen R19.out 0
            have hzf1 := blk_frozen R19.out 1
            have hzf2 := blk_frozen R19.out 2
            have hzf3 := blk_frozen R19.out 3
            have hzf4 := blk_frozen R19.out 4
            have hzf5 := blk_frozen R19.out 5
            have hzf6 := blk_frozen R19.out 6
            cases hva : validA aF with
            | false =>
              have hcan : canR t = false := by rw [HOK.out, hva]; rfl
              have HCAN := Aside0.mk hcan
              clear hcan
              go_wp2_with fail
              refine bodyPost_ret (results_ct rfl _ _ (w.heap.size + 1) 25 #[.string ⟨#[]⟩, .slice none 0 0, .int .i64 0, .slice none 0 0, .string ⟨#[]⟩, .bool false, .int .i64 0] (0, 0) _ rfl (putA_block R19.out) Tryd.underlying25 rfl (by kernel_rfl)) rfl ?_
              exact FIN0.out _ HCAN.out (putA_below B19.out (by omega)) (putA_block R19.out)
            | true =>
              have hcan : canR t = true := by rw [HOK.out, hva]; rfl
              have HCAN := Aside0.mk hcan
              clear hcan
              go_wp2_with fail
              refine bodyPost_ret (results_ct rfl _ _ (w.heap.size + 1) 25 #[.string na.1.f1, .slice Ag nb.1.length cg, .int .i64 nc.1.f2, .slice At nd.1.length ct, .string ne.1.f1, .bool (nf.1.f2 == 1), .int .i64 nh.1.f2] (0, 0) _ rfl (putA_block R19.out) Tryd.underlying25 rfl (by kernel_rfl)) rfl ?_
              obtain ⟨e1, e2⟩ := HT.out HCAN.out
              rw [e1, e2, HRD.out, HAF.out]
              have h1 := Kd.R_reads' G19.out
              have h2 := Kd.R_reads' T19.out
              refine ⟨_, rfl, ⟨Ag, cg, At, ct, by simp only [List.length_map], by rw [← h1.1]; exact h1.2.1, ?_, by rw [← h2.1]; exact h2.2.1, ?_⟩, putA_below B19.out (by omega)⟩
              · exact Kd.F_mono (Kd.F_step (by have h := Kd.R_F G19.out; rw [h1.1] at h; exact h) (fun k hk _ => putA_other (by omega))) (fun k hk => by omega)
              · exact Kd.F_mono (Kd.F_step (by have h := Kd.R_F T19.out; rw [h2.1] at h; exact h) (fun k hk _ => putA_other (by omega))) (fun k hk => by omega)
  all_goals
    have hcan : canR t = false := by rw [HCR.out, hp]; rfl
    have HCAN := Aside0.mk hcan
    clear hp hcan
  case inl =>
    have k0' : (t.f0 != 3) = true := by rw [bne, k0]; rfl
    go_enter Tryd.func19, Tryd.ntmps19
    go_wp2_with fail
    refine bodyPost_ret (results_ct rfl _ _ (w.heap.size + 1) 25 #[.string ⟨#[]⟩, .slice none 0 0, .int .i64 0, .slice none 0 0, .string ⟨#[]⟩, .bool false, .int .i64 0] (0, 0) _ rfl (zbox.out _) Tryd.underlying25 rfl (by kernel_rfl)) rfl ?_
    exact FIN0.out _ HCAN.out (below_alloc (below_alloc (Below.refl _ _) _) _) (zbox.out _)
  case inr.inl =>
    have k0' : (t.f0 != 3) = false := by rw [bne, k0]; rfl
    have k1' : ((t.f3.length : Int) != 3) = true := by simp; omega
    go_enter Tryd.func19, Tryd.ntmps19
    go_wp2_with fail
    refine bodyPost_ret (results_ct rfl _ _ (w.heap.size + 1) 25 #[.string ⟨#[]⟩, .slice none 0 0, .int .i64 0, .slice none 0 0, .string ⟨#[]⟩, .bool false, .int .i64 0] (0, 0) _ rfl (zbox.out _) Tryd.underlying25 rfl (by kernel_rfl)) rfl ?_
    exact FIN0.out _ HCAN.out (below_alloc (below_alloc (Below.refl _ _) _) _) (zbox.out _)
  case inr.inr.inl =>
    have k0' : (t.f0 != 3) = false := by rw [bne, k0]; rfl
    have k1' : ((t.f3.length : Int) != 3) = false := by simp; omega
    go_enter Tryd.func19, Tryd.ntmps19
    go_wp2_with fail
    refine bodyPost_ret (results_ct rfl _ _ (w.heap.size + 1) 25 #[.string ⟨#[]⟩, .slice none 0 0, .int .i64 0, .slice none 0 0, .string ⟨#[]⟩, .bool false, .int .i64 0] (0, 0) _ rfl (zbox.out _) Tryd.underlying25 rfl (by kernel_rfl)) rfl ?_
    exact FIN0.out _ HCAN.out (below_alloc (below_alloc (Below.refl _ _) _) _) (zbox.out _)
  case inr.inr.inr.inl =>
    have k0' : (t.f0 != 3) = false := by rw [bne, k0]; rfl
    have k1' : ((t.f3.length : Int) != 3) = false := by simp; omega
    have k3' : (t.f2 != 0) = true := by rw [bne, k3]; rfl
    go_enter Tryd.func19, Tryd.ntmps19
    go_wp2_with fail
    refine bodyPost_ret (results_ct rfl _ _ (w.heap.size + 1) 25 #[.string ⟨#[]⟩, .slice none 0 0, .int .i64 0, .slice none 0 0, .string ⟨#[]⟩, .bool false, .int .i64 0] (0, 0) _ rfl (zbox.out _) Tryd.underlying25 rfl (by kernel_rfl)) rfl ?_
    exact FIN0.out _ HCAN.out (below_alloc (below_alloc (Below.refl _ _) _) _) (zbox.out _)
end Go.Proofs.YtimommkbfbdkdaaDoor.P
