/- Part 3: texts of this seat, merged and struck of what the proof does not reach: PLa PAb PAd PAg Px3 PHs PAh PAi PAk PAn PAm PAs -/
import Derived.Test.YtimommkbfbdkdaaDoorQA2
import Derived.Deep.RegionHeld3
import Derived.IntWalk
section
namespace Go.Proofs.YtimommkbfbdkdaaDoor.P
open Go.RowKit Go.Proofs.YtimommkbfbdkdaaDoorW.PrintWords Go.Proofs.YtimommkbfbdkdaaDoorW.PrintLast Go.Proofs.YtimommkbfbdkdaaDoorW.PrintMore
def kRel (Rr : S29 → List Value → Prop) (h4 : ∀ {x cs}, Rr x cs → cs.length = 4) (h1 : ∀ {x cs}, Rr x cs → ∀ u ∈ cs, u.oneCell' = true) : Kd S29 where
  sz := 4
  E := []
  K := fun _ x cs => Rr x cs
  M := fun _ _ _ x cs => Rr x cs
  K_len := h4
  K_one := h1
  K_below := fun _ h => h
  K_of_M := fun h => h
  M_mono := fun _ h => h
  M_bound := fun h => h
  M_move := fun _ h => h
  M_lower := fun _ h => h
set_option maxHeartbeats 1000000 in
set_option maxRecDepth 100000 in
theorem CloneR_calls (Rr : S29 → List Value → Prop) (h4 : ∀ {x cs}, Rr x cs → cs.length = 4) (h1 : ∀ {x cs}, Rr x cs → ∀ u ∈ cs, u.oneCell' = true) (A : Option Addr) (c : Nat) (l : List S29) (w : World) (hn : l.length ≤ 1000000000) (hC : ReadsRow Rr 4 w A l.length l) :
    Calls Tryd.prog 51 #[.slice A l.length c] w fun e w' => ∃ v : Value, e = .returned v ∧ Kd.R (kRel Rr h4 h1) 29 w' w.heap.size (fun _ => True) v l ∧ Below w.heap.size w w' := by
  have hu29 := Tryd.underlying29
  have HC := Aside0.mk hC
  clear hC
  rcases A with _ | ad
  · have hl0 : l = [] := by
      rcases Nat.eq_zero_or_pos l.length with h | h
      · exact List.eq_nil_of_length_eq_zero h
      · obtain ⟨ad, e, _⟩ := HC.out.2.2 h; cases e
    subst hl0
    have heq := fun W => Lib.run_eql_slice_nil (P := Tryd.prog) W 27 29 none 0 c 0 0 Tryd.underlying27
    go_enter Tryd.func51, Tryd.ntmps51
    go_wp2_with fail
    go_ret
    exact ⟨_, rfl, Kd.R_nil _ _ _ _ _, Below.refl _ _⟩
  · have heq := fun W => Lib.run_eql_slice_nil (P := Tryd.prog) W 27 29 (some ad) l.length c 0 0 Tryd.underlying27
    go_enter Tryd.func51, Tryd.ntmps51
    go_wp2_with (at_builtin; refine Kd.R_append_rows (kRel Rr h4 h1) (Rr := Rr) (w0 := w) w.heap.size rfl (.tmp 5) (.tmp 6) 27 29 (.agg #[(.int .i64 0), (.string ⟨#[]⟩), (.int .i64 0), (.slice none 0 0)]) 56 rfl Tryd.underlying27 info29 rfl (show 0 < 4 from by decide) (by decide) (.slice (some ⟨w.heap.size, 0, none⟩) 0 0) [] l (some ad) l.length c (fun _ => True) (fun _ => False) rfl rfl ?aO ?aR (fun _ _ h => h) (fun _ hk => hk.elim) (fun _ _ => trivial) ?aB ?aS ?aL ?_; (case aO => exact ⟨fun _ _ => trivial, [], World.ownsRow_lit (base := w.heap.size) (e := 29) (size := 4) w #[] 0 (Nat.le_refl _) (by simp) rfl, Reps.none _ _⟩); (case aR => exact ReadsRow.imp_ HC.out (below_alloc (Below.refl _ _) _) (fun _ _ hp => hp)); (case aB => exact below_alloc (Below.refl _ _) _); (case aS => simp); (case aL => simp; omega); intro v1 w1 ho hb hg hat; have HO := Aside0.mk ho; have HB := Aside0.mk hb; clear ho hb hg hat)
    go_ret
    exact ⟨v1, rfl, HO.out, HB.out⟩
theorem ListR_calls (Rr : S29 → List Value → Prop) (h4 : ∀ {x cs}, Rr x cs → cs.length = 4) (h1 : ∀ {x cs}, Rr x cs → ∀ u ∈ cs, u.oneCell' = true) (A : Option Addr) (c : Nat) (l : List S29) (w : World) (hn : l.length ≤ 1000000000) (hC : ReadsRow Rr 4 w A l.length l) :
    Calls Tryd.prog 24 #[.slice A l.length c] w fun e w' => ∃ v : Value, e = .returned (.agg #[.int .i64 3, .string ⟨#[]⟩, .int .i64 0, v]) ∧ Kd.R (kRel Rr h4 h1) 29 w' w.heap.size (fun _ => True) v l ∧ Below w.heap.size w w' := by
  have hu29 := Tryd.underlying29
  have HC := Aside0.mk hC
  clear hC
  go_enter Tryd.func24, Tryd.ntmps24
  go_wp2_with fail
  refine (CloneR_calls Rr h4 h1 A c l _ hn (ReadsRow.imp_ HC.out (below_alloc (Below.refl _ _) _) (fun _ _ hp => hp))).mono ?_
  rintro e w1 ⟨v, rfl, hR, hb⟩
  obtain ⟨hb0, hsz, ht1⟩ := one_box hb
  obtain ⟨A1, c1, rfl⟩ := Kd.R_slice hR
  rw [World.size_alloc] at hR
  have HR := Aside0.mk hR
  have HB := Aside0.mk hb0
  have HT := Aside0.mk ht1
  obtain ⟨hc0, hc1, hc2, hc3⟩ := box_cells ht1
  have hf0 := blk_frozen ht1 0
  have hf1 := blk_frozen ht1 1
  have hf2 := blk_frozen ht1 2
  have hf3 := blk_frozen ht1 3
  clear hb hb0 ht1 hR
  go_wp2_with fail
  refine bodyPost_ret (results_cell_row rfl _ _ w.heap.size 29 #[.int .i64 3, .string (⟨#[]⟩ : ByteArray), .int .i64 0, .slice A1 l.length c1] (0, 0) _ rfl (put4_block HT.out) Tryd.underlying29 rfl (by kernel_rfl)) rfl ?_
  exact ⟨_, rfl, Kd.R_lower (R_put4 HR.out (Nat.lt_succ_self _)) (Nat.le_succ _), put4_below HB.out (Nat.le_refl _)⟩
end Go.Proofs.YtimommkbfbdkdaaDoor.P
end
section
namespace Go.Proofs.YtimommkbfbdkdaaDoor.P
open Go.RowKit Go.Proofs.YtimommkbfbdkdaaDoorW.PrintWords Go.Proofs.YtimommkbfbdkdaaDoorW.PrintLast Go.Proofs.YtimommkbfbdkdaaDoorW.PrintMore
set_option linter.unusedVariables false
set_option linter.unusedSimpArgs false
def ofT (s : ByteArray) : S29 := ⟨0, s, 0, []⟩
def numT (n : Int) : S29 := ⟨1, ⟨#[]⟩, n, []⟩
def listT (l : List S29) : S29 := ⟨3, ⟨#[]⟩, 0, l⟩
def rowT (l : List ByteArray) : S29 := listT (l.map ofT)
def sumT (k : S29) (n : Int) (t : S29) : S29 := ⟨5, ⟨#[]⟩, n, [k, t]⟩
def bitI (b : Bool) : Int := if b = true then 1 else 0
def dataL (a : Au) : List S29 := [ofT a.u, listT (a.g.map numT), numT a.o, rowT a.tr, ofT a.s, numT (bitI a.fw), numT a.tm]
def dataA (a : Au) : S29 := listT (dataL a)
def IsF (w : World) (ok : Nat → Prop) (v : Value) (t : S29) : Prop := ∃ A c, v = .agg #[.int .i64 t.f0, .string t.f1, .int .i64 t.f2, .slice A t.f3.length c] ∧ t.f3.length ≤ c ∧ Kd.F k29 w ok A t.f3.length t.f3
theorem IsF.now {w : World} {ok : Nat → Prop} {v : Value} {t : S29} (h : IsF w ok v t) : IsT w v t := by
  obtain ⟨A, c, rfl, hl, hF⟩ := h; exact ⟨A, c, rfl, hl, Kd.F_now hF⟩
theorem IsF.mono {w : World} {ok ok' : Nat → Prop} {v : Value} {t : S29} (h : IsF w ok v t) (hk : ∀ k, ok k → ok' k) : IsF w ok' v t := by
  obtain ⟨A, c, rfl, hl, hF⟩ := h; exact ⟨A, c, rfl, hl, Kd.F_mono hF hk⟩
theorem IsF.step {w w' : World} {ok : Nat → Prop} {v : Value} {t : S29} (h : IsF w ok v t) (hm : ∀ k, ok k → k < w.heap.size → w'.heap[k]? = w.heap[k]?) : IsF w' ok v t := by
  obtain ⟨A, c, rfl, hl, hF⟩ := h; exact ⟨A, c, rfl, hl, Kd.F_step hF hm⟩
theorem IsF.below {w w' : World} {ok : Nat → Prop} {v : Value} {t : S29} (h : IsF w ok v t) (hb : Below w.heap.size w w') : IsF w' ok v t := h.step fun k _ hlt => hb.block k hlt
theorem IsT.F {w : World} {v : Value} {t : S29} (h : IsT w v t) : IsF w (fun k => k < w.heap.size) v t := by
  obtain ⟨A, c, rfl, hl, hC⟩ := h; exact ⟨A, c, rfl, hl, Kd.C_F heap29 hC⟩
theorem C_nil0 (w : World) (A : Option Addr) : Kd.C k29 w A ([] : List S29).length [] := ⟨rfl, by simp, fun h => absurd h (Nat.lt_irrefl 0)⟩
theorem F_nil0 (w : World) (ok : Nat → Prop) (A : Option Addr) : Kd.F k29 w ok A ([] : List S29).length [] := fun W' _ => C_nil0 W' A
theorem isF_any {w : World} {v : Value} {k : Int} {s : ByteArray} {n : Int} (h : IsT w v ⟨k, s, n, []⟩) (W : World) (ok : Nat → Prop) : IsF W ok v ⟨k, s, n, []⟩ := by
  obtain ⟨A, c, rfl, hl, _⟩ := h
  exact ⟨A, c, rfl, hl, F_nil0 W ok A⟩
def cellsOf4 : Value → List Value
  | .agg a => a.toList
  | _ => []
theorem isF_FK {w : World} {ok : Nat → Prop} {v : Value} {t : S29} (h : IsF w ok v t) : Kd.FK k29 w ok t (cellsOf4 v) ∧ (cellsOf4 v).length = 4 := by
  obtain ⟨A, c, rfl, hl, hF⟩ := h
  exact ⟨k29_mkF w ok t hl hF, rfl⟩
theorem FK_len {w : World} {ok : Nat → Prop} {x : S29} {cs : List Value} (h : Kd.FK k29 w ok x cs) : cs.length = 4 := k29.K_len (Kd.FK_now h)
theorem FK_one {w : World} {ok : Nat → Prop} {x : S29} {cs : List Value} (h : Kd.FK k29 w ok x cs) : ∀ u ∈ cs, u.oneCell' = true := k29.K_one (Kd.FK_now h)
def kF (w : World) (ok : Nat → Prop) : Kd S29 := kRel (Kd.FK k29 w ok) FK_len FK_one
def AllF (w : World) (ok : Nat → Prop) : List Value → List S29 → Prop
  | [], [] => True
  | v :: vs, t :: ts => IsF w ok v t ∧ AllF w ok vs ts
  | _, _ => False
theorem lits_Reps (w : World) (ok : Nat → Prop) : ∀ (vs : List Value) (ts : List S29), AllF w ok vs ts → Reps (Kd.FK k29 w ok) 4 ts (vs.flatMap cellsOf4)
  | [], [], _ => Reps.none _ _
  | [], _ :: _, h => h.elim
  | _ :: _, [], h => h.elim
  | v :: vs, t :: ts, h => by
    obtain ⟨h1, h2⟩ := h
    have ih := lits_Reps w ok vs ts h2
    obtain ⟨hK, h4⟩ := isF_FK h1
    refine ⟨by rw [List.flatMap_cons, List.length_append, h4, ih.1, List.length_cons]; omega, fun j p hj => ?_⟩
    cases j with
    | zero =>
      simp only [List.getElem?_cons_zero, Option.some.injEq] at hj
      subst hj
      rw [List.flatMap_cons, Nat.zero_mul, List.drop_zero, List.take_left' h4]
      exact hK
    | succ j =>
      rw [List.getElem?_cons_succ] at hj
      have := ih.2 j p hj
      rw [List.flatMap_cons, Nat.succ_mul, Nat.add_comm, ← List.drop_drop, List.drop_left' h4]
      exact this
theorem lits_row (w : World) (ok : Nat → Prop) (vs : List Value) (ts : List S29) (h : AllF w ok vs ts) (hm : ts.length ≤ 1000) :
    ReadsRow (Kd.FK k29 w ok) 4 (w.alloc (.cells (vs.flatMap cellsOf4).toArray 29)) (some ⟨w.heap.size, 0, none⟩) ts.length ts := by
  have hR := lits_Reps w ok vs ts h
  have hh : Kd.R (kF w ok) 29 (w.alloc (.cells (vs.flatMap cellsOf4).toArray 29)) w.heap.size (fun _ => True) (.slice (some ⟨w.heap.size, 0, none⟩) ts.length ts.length) ts :=
    ⟨fun _ _ => trivial, vs.flatMap cellsOf4, World.ownsRow_lit (base := w.heap.size) (e := 29) (size := 4) w _ ts.length (Nat.le_refl _) (by simp [maxLen]; omega) (by simp [hR.1]), hR⟩
  exact (Kd.R_reads' hh).2.2
theorem F_of_rel {wr w5 W' : World} {ok : Nat → Prop} {base : Nat} {A : Option Addr} {c : Nat} {l : List S29} (hR : Kd.R (kF wr ok) 29 w5 base ok (.slice A l.length c) l)
    (hs : w5.heap.size ≤ W'.heap.size) (ha : ∀ k, ok k → k < w5.heap.size → W'.heap[k]? = w5.heap[k]?) (hs2 : wr.heap.size ≤ w5.heap.size) (hb : ∀ k, ok k → k < wr.heap.size → w5.heap[k]? = wr.heap[k]?) :
    l.length ≤ c ∧ Kd.F k29 W' ok A l.length l := by
  refine ⟨(Kd.R_reads' hR).2.1, fun W'' hW => ?_⟩
  have h1 : ∀ k, ok k → k < w5.heap.size → W''.heap[k]? = w5.heap[k]? := fun k hk hlt => (hW k hk (Nat.lt_of_lt_of_le hlt hs)).trans (ha k hk hlt)
  have h2 := (Kd.R_reads' (Kd.R_step hR h1)).2.2
  obtain ⟨e1, e2, e3⟩ := h2
  refine ⟨e1, e2, fun hp => ?_⟩
  obtain ⟨ad, e, hc⟩ := e3 hp
  refine ⟨ad, e, fun j p hj => ?_⟩
  obtain ⟨cc, k1, k2, k3⟩ := hc j p hj
  exact ⟨cc, k1, k2 W'' (fun k hk hlt => (h1 k hk (Nat.lt_of_lt_of_le hlt hs2)).trans (hb k hk hlt)), k3⟩
theorem List_F (w0 : World) (ok : Nat → Prop) (A : Option Addr) (c : Nat) (l : List S29) (w : World) (hn : l.length ≤ 1000000000) (hb0 : Below w0.heap.size w0 w) (hC : ReadsRow (Kd.FK k29 w0 ok) 4 w A l.length l) :
    Calls Tryd.prog 24 #[.slice A l.length c] w fun e w' => ∃ v, e = .returned v ∧ IsF w' (fun k => ok k ∨ w.heap.size ≤ k) v (listT l) ∧ Below w.heap.size w w' := by
  refine (ListR_calls (Kd.FK k29 w0 fun k => ok k ∨ w.heap.size ≤ k) FK_len FK_one A c l w hn (ReadsRow.imp_ hC (Below.refl _ _) (fun _ _ hp => Kd.FK_mono hp fun _ hk => .inl hk))).mono ?_
  rintro e w' ⟨v, rfl, hR, hb⟩
  obtain ⟨A5, c5, rfl⟩ := Kd.R_slice hR
  have hR' : Kd.R (kF w0 fun k => ok k ∨ w.heap.size ≤ k) 29 w' w.heap.size (fun k => ok k ∨ w.heap.size ≤ k) (.slice A5 l.length c5) l := Kd.R_mono (Kd.R_bound hR) fun k hk => .inr hk.2.1
  obtain ⟨h1, h2⟩ := F_of_rel hR' (Nat.le_refl _) (fun _ _ _ => rfl) (Nat.le_trans hb0.size hb.size) (fun k _ hlt => ((hb.block k (Nat.lt_of_lt_of_le hlt hb0.size)).trans (hb0.block k hlt)))
  exact ⟨_, rfl, ⟨A5, c5, rfl, h1, h2⟩, hb⟩
theorem Row_F (A : Option Addr) (c : Nat) (l : List ByteArray) (w : World) (hn : l.length ≤ 1000000000) (hl : l.length ≤ c) (hC : Kd.C Kd.string w A l.length l) :
    Calls Tryd.prog 34 #[.slice A l.length c] w fun e w' => ∃ v, e = .returned v ∧ IsF w' (fun k => w.heap.size ≤ k) v (rowT l) ∧ Below w.heap.size w w' := by
  refine (term_Row_calls A c l w hn hl hC).mono ?_
  rintro e w' ⟨v, rfl, hR, hb⟩
  obtain ⟨A5, c5, rfl⟩ := Kd.R_slice hR
  have hR' := Kd.R_mono (Kd.R_bound hR) (ok' := fun k => w.heap.size ≤ k) fun k hk => hk.2.1
  exact ⟨_, rfl, ⟨A5, c5, rfl, (Kd.R_reads' hR).2.1, Kd.R_F hR'⟩, hb⟩
end Go.Proofs.YtimommkbfbdkdaaDoor.P
end
section
namespace Go.Proofs.YtimommkbfbdkdaaDoor.P
open Go.RowKit Go.Proofs.YtimommkbfbdkdaaDoorW.PrintWords Go.Proofs.YtimommkbfbdkdaaDoorW.PrintLast Go.Proofs.YtimommkbfbdkdaaDoorW.PrintMore
set_option linter.unusedVariables false
set_option linter.unusedSimpArgs false
def data_T : Bool × List (List Nat × List Nat) := (true, [([], []), ([0], [0]), ([], []), ([2], [2]), ([3], [3]), ([1, 4, 3], [1, 4]), ([0, 1, 2, 3, 4, 5], []), ([6, 5, 5, 0, 1, 2, 3, 4, 5], [5, 6])])
def data_B : List Nat := [0, 1, 0, 4, 12, 31, 63, 127]
theorem data_tab : rtab .any (opsOf Tryd.f13 5) = data_T := by kernel_rfl
theorem data_bits : waitsOk data_T.2 data_B = true := by kernel_rfl
theorem bit_some (b : Bool) : authz_bit.f b = some (bitI b) := by cases b <;> rfl
set_option maxHeartbeats 8000000 in
set_option maxRecDepth 100000 in
theorem Data_F {v : Value} {a : Au} (w : World) (hn : nA a ≤ 1000000000) (h : IsA w v a) :
    Calls Tryd.prog 13 #[v] w fun e w' => ∃ v, e = .returned v ∧ IsF w' (fun k => w.heap.size ≤ k) v (dataA a) ∧ Below w.heap.size w w' := by
  obtain ⟨A, c, B, d, rfl, h1, h2, h3, h4⟩ := h
  have hu25 := Tryd.underlying25
  have hu29 := Tryd.underlying29
  unfold nA at hn
  have hts := nS_len a.tr
  have HG := Aside0.mk h2
  have HR := Aside0.mk h4
  have HBIT : Aside0 (∀ W, Calls Tryd.prog 35 #[.bool a.fw] W fun e w' => e = .returned (.int .i64 (bitI a.fw)) ∧ Below W.heap.size W w') := ⟨fun W => (authz_bit.calls a.fw _ W (bit_some a.fw)).mono fun _ _ ⟨he, hd⟩ => ⟨he, hd.below⟩⟩
  clear h2 h4
  go_enter Tryd.func13, Tryd.ntmps13
  go_wp2_with fail
  refine (List0_calls _).mono ?_
  rintro e w1 ⟨rfl, b1⟩
  obtain ⟨p1, q1, ra, rr⟩ := two_boxes b1
  have B1 := Aside0.mk p1
  have XA := Aside0.mk ra
  have XR := Aside0.mk rr
  obtain ⟨ha0, ha1, ha2, ha3, ha4, ha5, ha6⟩ := boxA_cells ra
  have hga : ∀ o, (w1.alloc o).cell? ⟨w.heap.size, 1, none⟩ = some (.slice A a.g.length c) := fun o => (blk_cell (blk_alloc XA.out o) 1).trans rfl
  clear b1 p1 ra rr
  go_wp2_with fail
  clear hga
  go_loopg [5, 10] a.g.length (fun gg _ s10 wr => ∃ (kk : Nat) (Al : Option Addr) (cl : Nat), kk ≤ a.g.length ∧ a.g.length - kk ≤ gg ∧ s10 = .int .i64 kk ∧ Aside0 (Below w1.heap.size w1 wr) ∧
    Aside0 (wr.heap[w1.heap.size]? = some (.cells #[.int .i64 3, .string ⟨#[]⟩, .int .i64 0, .slice Al kk cl] 29 (0, 0))) ∧ Aside0 (Kd.R (kF w (fun k => w1.heap.size ≤ k)) 29 wr w1.heap.size (fun k => k ≠ w1.heap.size) (.slice Al kk cl) ((a.g.take kk).map numT)))
  case atStart => exact ⟨0, none, 0, by omega, by omega, rfl, ⟨below_alloc (Below.refl _ _) _⟩, ⟨box_new w1 _⟩, ⟨Kd.R_nil _ _ _ _ _⟩⟩
  case round =>
    obtain ⟨kk, Al, cl, hkk, hg, rfl, BW, XL, RL⟩ := hrel
    have hbl := blk_lt XL.out
    clear ha0 ha1 ha2 ha3 ha4 ha5 ha6
    obtain ⟨hl0, hl1, hl2, hl3⟩ := box_cells XL.out
    by_cases hlt : kk < a.g.length
    · obtain ⟨ad, e1, hx0⟩ := Kd.at_int HG.out (kk : Int) (by omega) (by omega)
      cases e1
      replace hx0 := ((B1.out.trans (BW.out.mono B1.out.size)).cell (World.block_lt_of_cell? w _ hx0)).trans hx0
      have B2 : Aside0 (rd a.g (kk : Int) = a.g[kk]) := ⟨by simp [rd, List.getD_eq_getElem?_getD, List.getElem?_eq_getElem hlt]⟩
      obtain ⟨x, hx⟩ : ∃ x, x = rd a.g (kk : Int) := ⟨_, rfl⟩
      rw [← hx] at hx0 B2
      clear hx
      simp only [Int.toNat_natCast] at hx0
      have hin : (kk : Int) < a.g.length := by omega
      have hlen0 : ((a.g.take kk).map numT).length = kk := by simp; omega
      have HLn := Aside0.mk hlen0
      go_wp2_with fail
      refine start_ (n := 8) (S := fun w' => w'.cell? ⟨w1.heap.size, 0, none⟩ = some (.int .i64 3) ∧ w'.cell? ⟨w1.heap.size, 1, none⟩ = some (.string ⟨#[]⟩) ∧ w'.cell? ⟨w1.heap.size, 2, none⟩ = some (.int .i64 0) ∧ w'.cell? ⟨w1.heap.size, 3, none⟩ = some (.slice Al kk cl)) (ds := [7]) #[false, false, false, false, false, false, false, false] (by kernel_rfl) rfl rfl ⟨hl0, hl1, hl2, hl3⟩ (fun hHeld => ?_); refine with_tabW data_tab data_bits (fun HT_ HW_ => ?_)
      have BW2 : Aside0 (Below w1.heap.size w1 wr.drew) := ⟨below_drew BW.out⟩
      have XL2 : Aside0 (wr.drew.heap[w1.heap.size]? = some (.cells #[.int .i64 3, .string ⟨#[]⟩, .int .i64 0, .slice Al kk cl] 29 (0, 0))) := XL
      have RL2 : Aside0 (Kd.R (kF w (fun k => w1.heap.size ≤ k)) 29 wr.drew w1.heap.size (fun k => k ≠ w1.heap.size) (.slice Al kk cl) ((a.g.take kk).map numT)) := ⟨Kd.R_drew RL.out⟩
      have hbl2 : w1.heap.size < wr.drew.heap.size := hbl
      clear BW XL RL hl0 hl1 hl2 hl3 hx0 hbl
      generalize wr.drew = w14 at BW2 XL2 RL2 hHeld hbl2 ⊢
      refine pure_ (i := 0) (N := some 14) (v := ?_) (a' := ?_) #[true, false, false, false, false, false, false, false] rfl rfl (any_of HT_.out (by kernel_rfl)) (fun _ _ _ h => h) (Or.inl ⟨by rfl, ?_⟩) ?_ ?_
      rotate_left
      · intro w'
        go_simp
        with_reducible rfl
      rotate_left
      · simp only [Act.put, List.setIfInBounds_toArray, List.set_cons_zero, List.set_cons_succ, i64_w, i32_w]
        rfl
      refine pure_ (i := 2) (N := some 16) (v := ?_) (a' := ?_) #[true, false, true, false, false, false, false, false] rfl rfl (any_of HT_.out (by kernel_rfl)) (fun _ _ _ h => h) (Or.inl ⟨by rfl, ?_⟩) ?_ ?_
      rotate_left
      · intro w'
        go_simp
        with_reducible rfl
      rotate_left
      · simp only [Act.put, List.setIfInBounds_toArray, List.set_cons_zero, List.set_cons_succ, i64_w, i32_w]
        rfl
      refine take_ (i := 1) (N := some 15) (v := ?_) (a' := ?_) #[true, true, true, false, false, false, false, false] rfl rfl (take_ofW HT_.out HW_.out (by kernel_rfl)) (fun _ _ _ h => h) (Or.inl ⟨by rfl, ?_⟩) hHeld ?_ ?_
      rotate_left
      · rintro w' ⟨s0, s1, s2, s3⟩
        go_simp
        with_reducible rfl
      rotate_left
      · simp only [Act.put, List.setIfInBounds_toArray, List.set_cons_zero, List.set_cons_succ, i64_w, i32_w]
        rfl
      refine one_ (i := 3) (N := some 17) #[true, true, true, true, false, false, false, false] rfl rfl (one_of HT_.out (by kernel_rfl)) (by decide) (fun K hK => ?_)
      refine goes_ Tryd.func32 (by kernel_rfl) rfl #[.int .i64 x] (by rfl) rfl rfl (by (try simp only [List.map_toArray, List.map_cons, List.map_nil]); first | done | rfl) ?_
      refine (Num_T x _).mono ?_
      rintro e wz ⟨vz, rfl, hz, hb⟩
      obtain ⟨An, cn, rfl, ln, Cn⟩ := hz
      have IN := Aside0.mk (k29_mkF (A3 := An) w (fun k => w1.heap.size ≤ k) (numT x) ln (F_nil0 _ _ _))
      refine ⟨_, rfl, ?_⟩
      have BW3 := Aside0.mk (BW2.out.trans (hb.mono BW2.out.size))
      have XL3 := Aside0.mk (blk_below XL2.out hb)
      have RL3 := Aside0.mk (Kd.R_below RL2.out hb)
      have hbl3 : w1.heap.size < wz.heap.size := Nat.lt_of_lt_of_le hbl2 hb.size
      clear BW2 XL2 RL2 hb ln Cn hbl2
      refine hK.out _ _ (box_cells XL3.out) (fun hHeld => ?_)
      clear hK K
      refine norm_ (a' := ?_) ?_ ?_
      rotate_left
      · show Act.put _ (some 17) _ = _
        simp only [Act.put, List.setIfInBounds_toArray, List.set_cons_zero, List.set_cons_succ, i64_w, i32_w]
        rfl
      refine one_ (i := 4) (N := some 18) #[true, true, true, true, true, false, false, false] rfl rfl (one_of HT_.out (by kernel_rfl)) (by decide) (fun K hK => ?_)
      refine value_ (w1 := ?_) (v := ?_) (by rfl) rfl ?_ ?_
      rotate_left 2
      · go_simp
        constructor
        · rfl
        · rfl
      refine hK.out _ _ (box_cells (blk_alloc XL3.out _)) (fun hHeld => ?_)
      clear hK K
      refine norm_ (a' := ?_) ?_ ?_
      rotate_left
      · show Act.put _ (some 18) _ = _
        simp only [Act.put, List.setIfInBounds_toArray, List.set_cons_zero, List.set_cons_succ, i64_w, i32_w]
        rfl
      refine one_ (i := 5) (N := some 19) #[true, true, true, true, true, true, false, false] rfl rfl (one_of HT_.out (by kernel_rfl)) (by decide) (fun K hK => ?_)
      refine Kd.R_append_step (kF w (fun k => w1.heap.size ≤ k)) (w0 := w1) w1.heap.size (by rfl) (.tmp 15) (.tmp 18) 27 29 (.agg #[(.int .i64 0), (.string ⟨#[]⟩), (.int .i64 0), (.slice none 0 0)]) 56 rfl Tryd.underlying27 info29 rfl (show 0 < 4 from by decide) (by decide) (.slice Al kk cl) ((a.g.take kk).map numT) (numT x) [.int .i64 1, .string ⟨#[]⟩, .int .i64 x, .slice An 0 cn] (fun k => k ≠ w1.heap.size) (fun _ => False) rfl rfl IN.out (fun _ hk => hk.elim) (fun k hk => by omega) RL3.out BW3.out (by omega) (by rw [HLn.out]; omega) ?_
      intro v1 w6 ho hb6 hg6 hat
      have HO := Aside0.mk ho
      have HB6 := Aside0.mk hb6
      have hb9 : w6.heap[w1.heap.size]? = some (.cells #[.int .i64 3, .string ⟨#[]⟩, .int .i64 0, .slice Al kk cl] 29 (0, 0)) := (hg6.block _ hbl3 (fun e => RL3.out.1 _ e.symm rfl)).trans XL3.out
      clear ho hb6 hg6 hat
      obtain ⟨A6, c6, rfl⟩ := Kd.R_slice HO.out
      have H9 := Aside0.mk hb9
      obtain ⟨hd0, hd1, hd2, hd3⟩ := box_cells hb9
      have hdf := blk_frozen hb9 3
      clear hb9
      refine hK.out _ _ ⟨hd0, hd1, hd2, hd3⟩ (fun hHeld => ?_)
      clear hK K
      refine norm_ (a' := ?_) ?_ ?_
      rotate_left
      · show Act.put _ (some 19) _ = _
        simp only [Act.put, List.setIfInBounds_toArray, List.set_cons_zero, List.set_cons_succ, i64_w, i32_w]
        rfl
      refine pure_ (i := 6) (N := some 20) (v := ?_) (a' := ?_) #[true, true, true, true, true, true, true, false] rfl rfl (any_of HT_.out (by kernel_rfl)) (fun _ _ _ h => h) (Or.inl ⟨by rfl, ?_⟩) ?_ ?_
      rotate_left
      · intro w'
        go_simp
        with_reducible rfl
      rotate_left
      · simp only [Act.put, List.setIfInBounds_toArray, List.set_cons_zero, List.set_cons_succ, i64_w, i32_w]
        rfl
      refine last_ (i := 7) (N := none) #[true, true, true, true, true, true, true, true] rfl rfl (one_of HT_.out (by kernel_rfl)) (by decide) (fun K hK => ?_)
      refine skip_ (w1 := ?_) (by rfl) rfl ?_ ?_
      rotate_left
      · go_simp
        rfl
      refine hK.out _ _ ?_
      clear hK K
      refine done_ (done_of HT_.out (by kernel_rfl)) ?_
      go_wp2_with fail
      have hlen : ((a.g.take kk).map numT ++ [numT x]).length = kk + 1 := by rw [List.length_append, HLn.out]; rfl
      have htk : (a.g.take kk).map numT ++ [numT x] = (a.g.take (kk + 1)).map numT := by rw [List.take_succ_eq_append_getElem hlt, List.map_append, B2.out]; rfl
      go_roundg (a.g.length - (kk + 1))
      case measure => omega
      case rel =>
        refine ⟨kk + 1, A6, c6, by omega, by omega, by go_num, ⟨HB6.out.setCell (p := ⟨w1.heap.size, 3, none⟩) (Nat.le_refl _) _⟩, ⟨?_⟩, ⟨?_⟩⟩
        · rw [← hlen]; exact blk_put H9.out 3 _ rfl
        · have h := HO.out
          rw [hlen, htk] at h
          exact Kd.R_step h (fun k hk _ => Below.heap_setCell w6 ⟨w1.heap.size, 3, none⟩ _ _ hk)
    · obtain rfl : kk = a.g.length := by omega
      have BWR := Aside0.mk (B1.out.trans (BW.out.mono B1.out.size))
      have XAr := Aside0.mk (blk_below XA.out BW.out)
      have XRr := Aside0.mk (blk_below XR.out BW.out)
      have hws := BW.out.size
      have IG : Aside0 (IsF wr (fun k => w1.heap.size ≤ k) (.agg #[.int .i64 3, .string ⟨#[]⟩, .int .i64 0, .slice Al a.g.length cl]) (listT (a.g.map numT))) := ⟨by
        have h := RL.out
        rw [List.take_length] at h
        have hl : a.g.length = (a.g.map numT).length := by simp
        rw [hl] at h
        obtain ⟨k1, k2⟩ := F_of_rel (Kd.R_mono (Kd.R_bound h) (ok' := fun k => w1.heap.size ≤ k) fun k hk => hk.2.1) (Nat.le_refl _) (fun _ _ _ => rfl) BWR.out.size (fun k _ hlt => BWR.out.block k hlt)
        exact ⟨Al, cl, by simp [listT], k1, k2⟩⟩
      obtain ⟨ha0, ha1, ha2, ha3, ha4, ha5, ha6⟩ := boxA_cells XAr.out
      have hne1 : ¬ w.heap.size = w.heap.size + 1 := by omega
      have hne2 : ¬ w1.heap.size = w.heap.size + 1 := by omega
      have hne3 : ¬ w.heap.size + 1 = w1.heap.size := by omega
      have HWc : Aside0 (Below wr.heap.size wr wr) := ⟨Below.refl _ _⟩
      clear B1 XA XR RL
      go_wp2_with fail
      go_region_held3 (fun w' => w'.cell? ⟨w.heap.size, 0, none⟩ = some (.string a.u) ∧ w'.cell? ⟨w.heap.size, 1, none⟩ = some (.slice A a.g.length c) ∧ w'.cell? ⟨w.heap.size, 2, none⟩ = some (.int .i64 a.o) ∧ w'.cell? ⟨w.heap.size, 3, none⟩ = some (.slice B a.tr.length d) ∧ w'.cell? ⟨w.heap.size, 4, none⟩ = some (.string a.s) ∧ w'.cell? ⟨w.heap.size, 5, none⟩ = some (.bool a.fw) ∧ w'.cell? ⟨w.heap.size, 6, none⟩ = some (.int .i64 a.tm) ∧ w'.cell? ⟨w1.heap.size, 0, none⟩ = some (.int .i64 3) ∧ w'.cell? ⟨w1.heap.size, 1, none⟩ = some (.string ⟨#[]⟩) ∧ w'.cell? ⟨w1.heap.size, 2, none⟩ = some (.int .i64 0) ∧ w'.cell? ⟨w1.heap.size, 3, none⟩ = some (.slice Al a.g.length cl))
        (first | (with_reducible (go_split_ands; exact ⟨pw_cell_below hb (by assumption), pw_cell_below hb (by assumption), pw_cell_below hb (by assumption), pw_cell_below hb (by assumption), pw_cell_below hb (by assumption), pw_cell_below hb (by assumption), pw_cell_below hb (by assumption), pw_cell_below hb (by assumption), pw_cell_below hb (by assumption), pw_cell_below hb (by assumption), pw_cell_below hb (by assumption)⟩)) | (with_reducible (go_split_ands; exact ⟨pw_cell_below (below_alloc (Below.refl _ _) _) (by assumption), pw_cell_below (below_alloc (Below.refl _ _) _) (by assumption), pw_cell_below (below_alloc (Below.refl _ _) _) (by assumption), pw_cell_below (below_alloc (Below.refl _ _) _) (by assumption), pw_cell_below (below_alloc (Below.refl _ _) _) (by assumption), pw_cell_below (below_alloc (Below.refl _ _) _) (by assumption), pw_cell_below (below_alloc (Below.refl _ _) _) (by assumption), pw_cell_below (below_alloc (Below.refl _ _) _) (by assumption), pw_cell_below (below_alloc (Below.refl _ _) _) (by assumption), pw_cell_below (below_alloc (Below.refl _ _) _) (by assumption), pw_cell_below (below_alloc (Below.refl _ _) _) (by assumption)⟩)) | (with_reducible (go_split_ands; refine ⟨?_, ?_, ?_, ?_, ?_, ?_, ?_, ?_, ?_, ?_, ?_⟩ <;> assumption)) | (go_keep; done))
        (first
          | (go_simp; go_at_call 33; refine (Of_T a.u _).mono ?_; rintro e wz ⟨vz, rfl, hz, hb⟩; have HWn := Aside0.mk (below_step (by repeat (first | exact HWc.out | apply below_alloc | apply pw_below_drewN | apply below_drew)) hb); clear HWc; have HWc := HWn; clear HWn; obtain ⟨AU, cU, rfl, lU, CU⟩ := hz; have IU := Aside0.mk (fun W ok => isF_any (show IsT wz (.agg #[.int .i64 (ofT a.u).f0, .string (ofT a.u).f1, .int .i64 (ofT a.u).f2, .slice AU (ofT a.u).f3.length cU]) (ofT a.u) from ⟨AU, cU, rfl, lU, CU⟩) W ok); clear lU CU)
          | (go_simp; go_at_call 32; refine (Num_T a.o _).mono ?_; rintro e wz ⟨vz, rfl, hz, hb⟩; have HWn := Aside0.mk (below_step (by repeat (first | exact HWc.out | apply below_alloc | apply pw_below_drewN | apply below_drew)) hb); clear HWc; have HWc := HWn; clear HWn; obtain ⟨AO, cO, rfl, lO, CO⟩ := hz; have IO := Aside0.mk (fun W ok => isF_any (show IsT wz (.agg #[.int .i64 (numT a.o).f0, .string (numT a.o).f1, .int .i64 (numT a.o).f2, .slice AO (numT a.o).f3.length cO]) (numT a.o) from ⟨AO, cO, rfl, lO, CO⟩) W ok); clear lO CO)
          | (go_simp; go_at_call 34; refine (Row_F B d a.tr _ (by omega) h3 (Kd.C_below HR.out (BWR.out.trans (Below.mono (by repeat (first | exact HWc.out | apply below_alloc | apply pw_below_drewN | apply below_drew)) BWR.out.size)))).mono ?_; rintro e wz ⟨vz, rfl, hz, hb⟩; have hsz := HWc.out.size; have HWn := Aside0.mk (below_step (by repeat (first | exact HWc.out | apply below_alloc | apply pw_below_drewN | apply below_drew)) hb); clear HWc; have HWc := HWn; clear HWn; obtain ⟨Ar, cr, rfl, lr, Cr⟩ := hz; have IR := Aside0.mk (show IsF wz (fun k => w1.heap.size ≤ k) (.agg #[.int .i64 (rowT a.tr).f0, .string (rowT a.tr).f1, .int .i64 (rowT a.tr).f2, .slice Ar (rowT a.tr).f3.length cr]) (rowT a.tr) from IsF.mono ⟨Ar, cr, rfl, lr, Cr⟩ (fun k hk => by omega)); clear lr Cr)
          | (go_simp; go_at_call 33; refine (Of_T a.s _).mono ?_; rintro e wz ⟨vz, rfl, hz, hb⟩; have HWn := Aside0.mk (below_step (by repeat (first | exact HWc.out | apply below_alloc | apply pw_below_drewN | apply below_drew)) hb); clear HWc; have HWc := HWn; clear HWn; obtain ⟨AS, cS, rfl, lS, CS⟩ := hz; have IS := Aside0.mk (fun W ok => isF_any (show IsT wz (.agg #[.int .i64 (ofT a.s).f0, .string (ofT a.s).f1, .int .i64 (ofT a.s).f2, .slice AS (ofT a.s).f3.length cS]) (ofT a.s) from ⟨AS, cS, rfl, lS, CS⟩) W ok); clear lS CS; have IRn := Aside0.mk (IR.out.below (below_step (by repeat (first | exact Below.refl _ _ | apply below_alloc | apply pw_below_drewN | apply below_drew)) hb)); clear IR; have IR := IRn; clear IRn)
          | (go_simp; go_at_call 35; refine (HBIT.out _).mono ?_; rintro e wz ⟨rfl, hb⟩; have HWn := Aside0.mk (below_step (by repeat (first | exact HWc.out | apply below_alloc | apply pw_below_drewN | apply below_drew)) hb); clear HWc; have HWc := HWn; clear HWn; have IRn := Aside0.mk (IR.out.below (below_step (by repeat (first | exact Below.refl _ _ | apply below_alloc | apply pw_below_drewN | apply below_drew)) hb)); clear IR; have IR := IRn; clear IRn)
          | (go_simp; go_at_call 32; refine (Num_T (bitI a.fw) _).mono ?_; rintro e wz ⟨vz, rfl, hz, hb⟩; have HWn := Aside0.mk (below_step (by repeat (first | exact HWc.out | apply below_alloc | apply pw_below_drewN | apply below_drew)) hb); clear HWc; have HWc := HWn; clear HWn; obtain ⟨AB, cB, rfl, lB, CB⟩ := hz; have IB := Aside0.mk (fun W ok => isF_any (show IsT wz (.agg #[.int .i64 (numT (bitI a.fw)).f0, .string (numT (bitI a.fw)).f1, .int .i64 (numT (bitI a.fw)).f2, .slice AB (numT (bitI a.fw)).f3.length cB]) (numT (bitI a.fw)) from ⟨AB, cB, rfl, lB, CB⟩) W ok); clear lB CB; have IRn := Aside0.mk (IR.out.below (below_step (by repeat (first | exact Below.refl _ _ | apply below_alloc | apply pw_below_drewN | apply below_drew)) hb)); clear IR; have IR := IRn; clear IRn)
          | (go_simp; go_at_call 32; refine (Num_T a.tm _).mono ?_; rintro e wz ⟨vz, rfl, hz, hb⟩; have HWn := Aside0.mk (below_step (by repeat (first | exact HWc.out | apply below_alloc | apply pw_below_drewN | apply below_drew)) hb); clear HWc; have HWc := HWn; clear HWn; obtain ⟨AT, cT, rfl, lT, CT⟩ := hz; have IT := Aside0.mk (fun W ok => isF_any (show IsT wz (.agg #[.int .i64 (numT a.tm).f0, .string (numT a.tm).f1, .int .i64 (numT a.tm).f2, .slice AT (numT a.tm).f3.length cT]) (numT a.tm) from ⟨AT, cT, rfl, lT, CT⟩) W ok); clear lT CT; have IRn := Aside0.mk (IR.out.below (below_step (by repeat (first | exact Below.refl _ _ | apply below_alloc | apply pw_below_drewN | apply below_drew)) hb)); clear IR; have IR := IRn; clear IRn)
          | (go_simp; go_at_call 24; refine (List_F wz (fun k => w1.heap.size ≤ k) _ _ (dataL a) _ ?hn ?hb0 ?hL).mono ?_; (case hn => simp [dataL]); (case hb0 => exact below_alloc (Below.refl _ _) _); (case hL => exact lits_row _ _ [(.agg #[.int .i64 (ofT a.u).f0, .string (ofT a.u).f1, .int .i64 (ofT a.u).f2, .slice AU (ofT a.u).f3.length cU]), (.agg #[.int .i64 3, .string ⟨#[]⟩, .int .i64 0, .slice Al a.g.length cl]), (.agg #[.int .i64 (numT a.o).f0, .string (numT a.o).f1, .int .i64 (numT a.o).f2, .slice AO (numT a.o).f3.length cO]), (.agg #[.int .i64 (rowT a.tr).f0, .string (rowT a.tr).f1, .int .i64 (rowT a.tr).f2, .slice Ar (rowT a.tr).f3.length cr]), (.agg #[.int .i64 (ofT a.s).f0, .string (ofT a.s).f1, .int .i64 (ofT a.s).f2, .slice AS (ofT a.s).f3.length cS]), (.agg #[.int .i64 (numT (bitI a.fw)).f0, .string (numT (bitI a.fw)).f1, .int .i64 (numT (bitI a.fw)).f2, .slice AB (numT (bitI a.fw)).f3.length cB]), (.agg #[.int .i64 (numT a.tm).f0, .string (numT a.tm).f1, .int .i64 (numT a.tm).f2, .slice AT (numT a.tm).f3.length cT])] (dataL a) ⟨IU.out _ _, IG.out.below (by repeat (first | exact HWc.out | apply below_alloc | apply pw_below_drewN | apply below_drew)), IO.out _ _, IR.out, IS.out _ _, IB.out _ _, IT.out _ _, trivial⟩ (by simp [dataL])); rintro e wz ⟨vz, rfl, hz, hb⟩; have hsz := HWc.out.size; have HWn := Aside0.mk (below_step (by repeat (first | exact HWc.out | apply below_alloc | apply pw_below_drewN | apply below_drew)) hb); clear HWc; have HWc := HWn; clear HWn; obtain ⟨AZ, cZ, rfl, lZ, CZ⟩ := hz; have IZ := Aside0.mk (show IsF wz (fun k => w1.heap.size ≤ k) (.agg #[.int .i64 (dataA a).f0, .string (dataA a).f1, .int .i64 (dataA a).f2, .slice AZ (dataA a).f3.length cZ]) (dataA a) from IsF.mono ⟨AZ, cZ, rfl, lZ, CZ⟩ (fun k hk => by rcases hk with hk | hk; exact hk; rw [World.size_alloc] at hk; omega)); have hr9 := blk_below XRr.out HWc.out; have HR9 := Aside0.mk hr9; obtain ⟨hr0, hr1, hr2, hr3⟩ := box_cells hr9; have hrf0 := blk_frozen hr9 0; have hrf1 := blk_frozen hr9 1; have hrf2 := blk_frozen hr9 2; have hrf3 := blk_frozen hr9 3; clear hr9 lZ CZ))
      go_wp2_with fail
      refine bodyPost_ret (results_cell_row rfl _ _ (w.heap.size + 1) 29 #[.int .i64 3, .string (⟨#[]⟩ : ByteArray), .int .i64 0, .slice AZ (dataL a).length cZ] (0, 0) _ rfl (put4_block HR9.out) Tryd.underlying29 rfl (by kernel_rfl)) rfl ?_
      exact ⟨_, rfl, (IZ.out.step fun k hk _ => put4_other (by omega)).mono (fun k hk => by omega), put4_below (BWR.out.trans (HWc.out.mono BWR.out.size)) (by omega)⟩
end Go.Proofs.YtimommkbfbdkdaaDoor.P
namespace Go.Proofs.YtimommkbfbdkdaaDoor.P
open Go.RowKit Go.Proofs.YtimommkbfbdkdaaDoorW.PrintWords Go.Proofs.YtimommkbfbdkdaaDoorW.PrintLast Go.Proofs.YtimommkbfbdkdaaDoorW.PrintMore
set_option linter.unusedVariables false
set_option linter.unusedSimpArgs false
theorem cell_set4 {W : World} {g k o : Nat} {a b n v u : Value} (hk : k ≠ g) (h : W.cell? ⟨k, o, none⟩ = some u) : ((((W.setCell ⟨g, 0, none⟩ a).setCell ⟨g, 1, none⟩ b).setCell ⟨g, 2, none⟩ n).setCell ⟨g, 3, none⟩ v).cell? ⟨k, o, none⟩ = some u := by
  have f : ∀ (W : World) (j : Nat) (x : Value), (W.setCell ⟨g, j, none⟩ x).cell? ⟨k, o, none⟩ = W.cell? ⟨k, o, none⟩ := fun W j x => World.cell?_setCell_far W _ _ _ (fun e => hk e.symm)
  rw [f, f, f, f]
  exact h
theorem Sum_F {v1 v2 : Value} {t u : S29} {ok1 ok2 : Nat → Prop} (n : Int) (s : S29) (he : sumT t n u = s) (w : World) (h1 : IsF w ok1 v1 t) (h2 : IsF w ok2 v2 u) :
    Calls Tryd.prog 28 #[v1, .int .i64 n, v2] w fun e w' => ∃ v, e = .returned v ∧ IsF w' (fun k => (ok1 k ∨ ok2 k) ∨ w.heap.size ≤ k) v s ∧ Below w.heap.size w w' := by
  subst he
  obtain ⟨A, c, rfl, hl, hF⟩ := h1
  obtain ⟨B, d, rfl, hl2, hF2⟩ := h2
  cases t; cases u
  refine (term_Sum.calls _ _ _ ok1 A c _ n _ _ _ ok2 B d _ _ _ _ _ w (Kd.V_mk hl hF) (Kd.V_mk hl2 hF2) rfl).mono ?_
  rintro e w' ⟨v, rfl, hR, hb⟩
  obtain ⟨A5, c5, rfl⟩ := Kd.N_slice hR
  exact ⟨_, rfl, ⟨A5, c5, rfl, (Kd.N_reads' hR).2.1, Kd.N_F hR⟩, hb⟩
def s1A (a : Au) (sv : S29) : S29 := sumT sv 18 (dataA a)
def s2A (a : Au) (sv ce : S29) : S29 := sumT ce 19 (s1A a sv)
def builtA (a : Au) (sv ce : S29) : S29 := listT [dataA a, s1A a sv, s2A a sv ce]
def canA (a : Au) (sv ce : S29) : Bool := validA a && (sv.f0 == 2 && ce.f0 == 2)
def buildA (a : Au) (sv ce : S29) : S29 := if canA a sv ce = true then builtA a sv ce else z29
def buildE (a : Au) (sv ce : S29) : Int := if canA a sv ce = true then 0 else 1
theorem four_boxes {w w1 : World} {o o2 o3 o4 : Obj} (hb : Below ((((w.alloc o).alloc o2).alloc o3).alloc o4).heap.size ((((w.alloc o).alloc o2).alloc o3).alloc o4) w1) :
    Below w.heap.size w w1 ∧ w.heap.size + 4 ≤ w1.heap.size ∧ w1.heap[w.heap.size]? = some o ∧ w1.heap[w.heap.size + 1]? = some o2 ∧ w1.heap[w.heap.size + 2]? = some o3 ∧ w1.heap[w.heap.size + 3]? = some o4 := by
  obtain ⟨h1, h2, h3, h4⟩ := two_boxes hb
  obtain ⟨k1, k2, k3, k4⟩ := two_boxes h1
  have s1 : ((w.alloc o).alloc o2).heap.size = w.heap.size + 2 := by simp
  rw [s1] at h2 h3 h4
  exact ⟨k1, by omega, k3, k4, h3, h4⟩
set_option maxHeartbeats 2000000 in
set_option maxRecDepth 100000 in
theorem Build_calls {a : Au} {sv ce : S29} {A : Option Addr} {c : Nat} {B : Option Addr} {d : Nat} {As : Option Addr} {cs : Nat} {Ac : Option Addr} {cc : Nat} {okS okC : Nat → Prop} (w : World) (hn : nA a ≤ 1000000000) (h : IsA w (.agg #[.string a.u, .slice A a.g.length c, .int .i64 a.o, .slice B a.tr.length d, .string a.s, .bool a.fw, .int .i64 a.tm]) a)
    (hs : IsF w okS (.agg #[.int .i64 sv.f0, .string sv.f1, .int .i64 sv.f2, .slice As sv.f3.length cs]) sv) (hc : IsF w okC (.agg #[.int .i64 ce.f0, .string ce.f1, .int .i64 ce.f2, .slice Ac ce.f3.length cc]) ce) (hS : ∀ k, okS k → k < w.heap.size) (hC : ∀ k, okC k → k < w.heap.size) :
    Calls Tryd.prog 10 #[(.agg #[.string a.u, .slice A a.g.length c, .int .i64 a.o, .slice B a.tr.length d, .string a.s, .bool a.fw, .int .i64 a.tm]), (.agg #[.int .i64 sv.f0, .string sv.f1, .int .i64 sv.f2, .slice As sv.f3.length cs]), (.agg #[.int .i64 ce.f0, .string ce.f1, .int .i64 ce.f2, .slice Ac ce.f3.length cc])] w fun e w' => ∃ v, e = .returned (.tuple #[v, .int .i64 (buildE a sv ce)]) ∧ IsF w' (fun k => (okS k ∨ okC k) ∨ w.heap.size + 4 ≤ k) v (buildA a sv ce) ∧ Below w.heap.size w w' := by
  have hu25 := Tryd.underlying25
  have hu29 := Tryd.underlying29
  have HA := Aside0.mk h
  have HS := Aside0.mk hs
  have HC := Aside0.mk hc
  clear h hs hc
  have HV : Aside0 (∀ W, Below w.heap.size w W → Calls Tryd.prog 15 #[(.agg #[.string a.u, .slice A a.g.length c, .int .i64 a.o, .slice B a.tr.length d, .string a.s, .bool a.fw, .int .i64 a.tm])] W fun e w' => e = .returned (.bool (validA a)) ∧ Below W.heap.size W w') := ⟨fun W hW => Valid_calls W hn (HA.out.below hW)⟩
  have HD : Aside0 (∀ W, Below w.heap.size w W → Calls Tryd.prog 13 #[(.agg #[.string a.u, .slice A a.g.length c, .int .i64 a.o, .slice B a.tr.length d, .string a.s, .bool a.fw, .int .i64 a.tm])] W fun e w' => ∃ v, e = .returned v ∧ IsF w' (fun k => W.heap.size ≤ k) v (dataA a) ∧ Below W.heap.size W w') := ⟨fun W hW => Data_F W hn (HA.out.below hW)⟩
  have HCAN : Aside0 (canA a sv ce = (validA a && (sv.f0 == 2 && ce.f0 == 2))) := ⟨rfl⟩
  have HBT : Aside0 (canA a sv ce = true → buildA a sv ce = builtA a sv ce ∧ buildE a sv ce = 0) := ⟨fun h => by unfold buildA buildE; rw [if_pos h, if_pos h]; exact ⟨rfl, rfl⟩⟩
  have HBF : Aside0 (canA a sv ce = false → buildA a sv ce = z29 ∧ buildE a sv ce = 1) := ⟨fun h => by unfold buildA buildE; rw [h]; exact ⟨rfl, rfl⟩⟩
  go_enter Tryd.func10, Tryd.ntmps10
  go_wp2_with fail
  refine (HV.out _ (by repeat (first | exact Below.refl _ _ | apply below_alloc))).mono ?_
  clear HV
  rintro e w1 ⟨rfl, b1⟩
  obtain ⟨p1, q1, ra, rs, rc, rr⟩ := four_boxes b1
  have B1 := Aside0.mk p1
  have XA := Aside0.mk ra
  have XS := Aside0.mk rs
  have XC := Aside0.mk rc
  have XR := Aside0.mk rr
  clear b1 p1 ra rs rc rr
  obtain ⟨ha0, ha1, ha2, ha3, ha4, ha5, ha6⟩ := boxA_cells XA.out
  obtain ⟨hs0, hs1, hs2, hs3⟩ := box_cells XS.out
  obtain ⟨hc0, hc1, hc2, hc3⟩ := box_cells XC.out
  obtain ⟨hr0, hr1, hr2, hr3⟩ := box_cells XR.out
  have hrf0 := blk_frozen XR.out 0
  have hrf1 := blk_frozen XR.out 1
  have hrf2 := blk_frozen XR.out 2
  have hrf3 := blk_frozen XR.out 3
  have fin0 : canA a sv ce = false → ∃ v, Ending.returned (.tuple #[.agg #[.int .i64 0, .string ⟨#[]⟩, .int .i64 0, .slice none 0 0], .int .i64 1]) = .returned (.tuple #[v, .int .i64 (buildE a sv ce)]) ∧ IsF (put4 w1 (w.heap.size + 3) (.int .i64 0) (.string ⟨#[]⟩) (.int .i64 0) (.slice none 0 0)) (fun k => (okS k ∨ okC k) ∨ w.heap.size + 4 ≤ k) v (buildA a sv ce) ∧ Below w.heap.size w (put4 w1 (w.heap.size + 3) (.int .i64 0) (.string ⟨#[]⟩) (.int .i64 0) (.slice none 0 0)) := fun h => by
    obtain ⟨e1, e2⟩ := HBF.out h
    rw [e1, e2]
    exact ⟨_, rfl, ⟨none, 0, rfl, Nat.le_refl _, F_nil0 _ _ _⟩, put4_below B1.out (by omega)⟩
  have FIN0 := Aside0.mk fin0
  clear fin0
  cases e1 : validA a with
  | false =>
    have hcan : canA a sv ce = false := by rw [HCAN.out, e1]; rfl
    go_wp2_with fail
    refine bodyPost_ret (results_ct rfl _ _ (w.heap.size + 3) 29 #[.int .i64 0, .string (⟨#[]⟩ : ByteArray), .int .i64 0, .slice none 0 0] (0, 0) _ rfl (put4_block XR.out) Tryd.underlying29 rfl (by kernel_rfl)) rfl ?_
    exact FIN0.out hcan
  | true =>
  cases e2 : (sv.f0 == 2) with
  | false =>
    have hcan : canA a sv ce = false := by rw [HCAN.out, e1, e2]; rfl
    have e2' : (sv.f0 != 2) = true := by rw [bne, e2]; rfl
    go_wp2_with fail
    refine bodyPost_ret (results_ct rfl _ _ (w.heap.size + 3) 29 #[.int .i64 0, .string (⟨#[]⟩ : ByteArray), .int .i64 0, .slice none 0 0] (0, 0) _ rfl (put4_block XR.out) Tryd.underlying29 rfl (by kernel_rfl)) rfl ?_
    exact FIN0.out hcan
  | true =>
  have e2' : (sv.f0 != 2) = false := by rw [bne, e2]; rfl
  cases e3 : (ce.f0 == 2) with
  | false =>
    have hcan : canA a sv ce = false := by rw [HCAN.out, e1, e2, e3]; rfl
    have e3' : (ce.f0 != 2) = true := by rw [bne, e3]; rfl
    go_wp2_with fail
    refine bodyPost_ret (results_ct rfl _ _ (w.heap.size + 3) 29 #[.int .i64 0, .string (⟨#[]⟩ : ByteArray), .int .i64 0, .slice none 0 0] (0, 0) _ rfl (put4_block XR.out) Tryd.underlying29 rfl (by kernel_rfl)) rfl ?_
    exact FIN0.out hcan
  | true =>
  have e3' : (ce.f0 != 2) = false := by rw [bne, e3]; rfl
  have hcan : canA a sv ce = true := by rw [HCAN.out, e1, e2, e3]; rfl
  have HCN := Aside0.mk hcan
  clear hcan FIN0
  go_wp2_with fail
  refine (HD.out _ B1.out).mono ?_
  clear HD ha0 ha1 ha2 ha3 ha4 ha5 ha6 hs0 hs1 hs2 hs3 hc0 hc1 hc2 hc3 hr0 hr1 hr2 hr3 hrf0 hrf1 hrf2 hrf3
  rintro e w2 ⟨v2, rfl, h2, b2⟩
  obtain ⟨A2, c2, rfl, l2, F2⟩ := h2
  have I2 := Aside0.mk (show IsF w2 (fun k => w1.heap.size ≤ k) (.agg #[.int .i64 (dataA a).f0, .string (dataA a).f1, .int .i64 (dataA a).f2, .slice A2 (dataA a).f3.length c2]) (dataA a) from ⟨A2, c2, rfl, l2, F2⟩)
  have B2 := Aside0.mk (B1.out.trans (b2.mono B1.out.size))
  have XS2 := Aside0.mk (blk_below XS.out b2)
  have XC2 := Aside0.mk (blk_below XC.out b2)
  have XR2 := Aside0.mk (blk_below XR.out b2)
  have z2 := b2.size
  clear l2 F2 b2 XA XS XC XR B1
  obtain ⟨hs0, hs1, hs2, hs3⟩ := box_cells (blk_alloc XS2.out (.cells #[.int .i64 (dataA a).f0, .string (dataA a).f1, .int .i64 (dataA a).f2, .slice A2 (dataA a).f3.length c2] 29))
  have SV2 : Aside0 (IsF (w2.alloc (.cells #[.int .i64 (dataA a).f0, .string (dataA a).f1, .int .i64 (dataA a).f2, .slice A2 (dataA a).f3.length c2] 29)) okS (.agg #[.int .i64 sv.f0, .string sv.f1, .int .i64 sv.f2, .slice As sv.f3.length cs]) sv) := ⟨HS.out.below (below_alloc B2.out _)⟩
  have I2' : Aside0 (IsF (w2.alloc (.cells #[.int .i64 (dataA a).f0, .string (dataA a).f1, .int .i64 (dataA a).f2, .slice A2 (dataA a).f3.length c2] 29)) (fun k => w1.heap.size ≤ k) (.agg #[.int .i64 (dataA a).f0, .string (dataA a).f1, .int .i64 (dataA a).f2, .slice A2 (dataA a).f3.length c2]) (dataA a)) := ⟨I2.out.below (below_alloc (Below.refl _ _) _)⟩
  go_wp2_with fail
  refine (Sum_F 18 (s1A a sv) rfl _ SV2.out I2'.out).mono ?_
  clear hs0 hs1 hs2 hs3 SV2 I2'
  rintro e w3 ⟨v3, rfl, h3, b3⟩
  obtain ⟨A3, c3, rfl, l3, F3⟩ := h3
  obtain ⟨p3, q3, xd⟩ := one_box b3
  have OK0 : Aside0 (∀ k, ((okS k ∨ w1.heap.size ≤ k) ∨ (w2.alloc (.cells #[.int .i64 (dataA a).f0, .string (dataA a).f1, .int .i64 (dataA a).f2, .slice A2 (dataA a).f3.length c2] 29)).heap.size ≤ k) → ((okS k ∨ okC k) ∨ w1.heap.size ≤ k)) := ⟨fun k hk => by rcases hk with (hk | hk) | hk; exact .inl (.inl hk); exact .inr hk; rw [World.size_alloc] at hk; exact .inr (by omega)⟩
  have I3 := Aside0.mk (show IsF w3 (fun k => (okS k ∨ okC k) ∨ w1.heap.size ≤ k) (.agg #[.int .i64 (s1A a sv).f0, .string (s1A a sv).f1, .int .i64 (s1A a sv).f2, .slice A3 (s1A a sv).f3.length c3]) (s1A a sv) from IsF.mono ⟨A3, c3, rfl, l3, F3⟩ OK0.out)
  have I3d := Aside0.mk (I2.out.below p3)
  have B3 := Aside0.mk (B2.out.trans (p3.mono B2.out.size))
  have XD3 := Aside0.mk xd
  have XC3 := Aside0.mk (blk_below XC2.out p3)
  have XR3 := Aside0.mk (blk_below XR2.out p3)
  have z3 := p3.size
  clear b3 p3 xd l3 F3 I2 B2 XS2 XC2 XR2 OK0
  go_wp2_with fail
  obtain ⟨w4, hw4⟩ : ∃ w4, w4 = w3.alloc (.cells #[.int .i64 (s1A a sv).f0, .string (s1A a sv).f1, .int .i64 (s1A a sv).f2, .slice A3 (s1A a sv).f3.length c3] 29) := ⟨_, rfl⟩
  have b4 : Below w3.heap.size w3 w4 := hw4 ▸ below_alloc (Below.refl _ _) _
  have B4 := Aside0.mk (B3.out.trans (b4.mono B3.out.size))
  have XD4 := Aside0.mk (blk_below XD3.out b4)
  have XC4 := Aside0.mk (blk_below XC3.out b4)
  have XR4 := Aside0.mk (blk_below XR3.out b4)
  have XN4 : Aside0 (w4.heap[w3.heap.size]? = some (.cells #[.int .i64 (s1A a sv).f0, .string (s1A a sv).f1, .int .i64 (s1A a sv).f2, .slice A3 (s1A a sv).f3.length c3] 29)) := ⟨hw4 ▸ box_new w3 _⟩
  have I4 := Aside0.mk (I3.out.below b4)
  have I4d : Aside0 (IsF w4 (fun k => (okS k ∨ okC k) ∨ w1.heap.size ≤ k) (.agg #[.int .i64 (dataA a).f0, .string (dataA a).f1, .int .i64 (dataA a).f2, .slice A2 (dataA a).f3.length c2]) (dataA a)) := ⟨(I3d.out.below b4).mono fun k hk => .inr hk⟩
  have I4c : Aside0 (IsF w4 okC (.agg #[.int .i64 ce.f0, .string ce.f1, .int .i64 ce.f2, .slice Ac ce.f3.length cc]) ce) := ⟨HC.out.below B4.out⟩
  have z4 := b4.size
  rw [← hw4]
  clear hw4 b4 B3 XD3 XC3 XR3 I3 I3d HS HC
  obtain ⟨hd0, hd1, hd2, hd3⟩ := box_cells XD4.out
  obtain ⟨hn0, hn1, hn2, hn3⟩ := box_cells XN4.out
  obtain ⟨hc0, hc1, hc2, hc3⟩ := box_cells XC4.out
  have hne1 : ¬ w2.heap.size = w.heap.size + 1 + 1 + 1 := by omega
  have hne2 : ¬ w3.heap.size = w.heap.size + 1 + 1 + 1 := by omega
  have HWc : Aside0 (Below w4.heap.size w4 w4) := ⟨Below.refl _ _⟩
  go_region_held3 (fun w' => w'.cell? ⟨w2.heap.size, 0, none⟩ = some (.int .i64 (dataA a).f0) ∧ w'.cell? ⟨w2.heap.size, 1, none⟩ = some (.string (dataA a).f1) ∧ w'.cell? ⟨w2.heap.size, 2, none⟩ = some (.int .i64 (dataA a).f2) ∧ w'.cell? ⟨w2.heap.size, 3, none⟩ = some (.slice A2 (dataA a).f3.length c2) ∧ w'.cell? ⟨w3.heap.size, 0, none⟩ = some (.int .i64 (s1A a sv).f0) ∧ w'.cell? ⟨w3.heap.size, 1, none⟩ = some (.string (s1A a sv).f1) ∧ w'.cell? ⟨w3.heap.size, 2, none⟩ = some (.int .i64 (s1A a sv).f2) ∧ w'.cell? ⟨w3.heap.size, 3, none⟩ = some (.slice A3 (s1A a sv).f3.length c3) ∧ w'.cell? ⟨w.heap.size + 2, 0, none⟩ = some (.int .i64 ce.f0) ∧ w'.cell? ⟨w.heap.size + 2, 1, none⟩ = some (.string ce.f1) ∧ w'.cell? ⟨w.heap.size + 2, 2, none⟩ = some (.int .i64 ce.f2) ∧ w'.cell? ⟨w.heap.size + 2, 3, none⟩ = some (.slice Ac ce.f3.length cc))
    (first | (with_reducible (go_split_ands; exact ⟨pw_cell_below hb (by assumption), pw_cell_below hb (by assumption), pw_cell_below hb (by assumption), pw_cell_below hb (by assumption), pw_cell_below hb (by assumption), pw_cell_below hb (by assumption), pw_cell_below hb (by assumption), pw_cell_below hb (by assumption), pw_cell_below hb (by assumption), pw_cell_below hb (by assumption), pw_cell_below hb (by assumption), pw_cell_below hb (by assumption)⟩)) | (with_reducible (go_split_ands; exact ⟨pw_cell_below (below_alloc (Below.refl _ _) _) (by assumption), pw_cell_below (below_alloc (Below.refl _ _) _) (by assumption), pw_cell_below (below_alloc (Below.refl _ _) _) (by assumption), pw_cell_below (below_alloc (Below.refl _ _) _) (by assumption), pw_cell_below (below_alloc (Below.refl _ _) _) (by assumption), pw_cell_below (below_alloc (Below.refl _ _) _) (by assumption), pw_cell_below (below_alloc (Below.refl _ _) _) (by assumption), pw_cell_below (below_alloc (Below.refl _ _) _) (by assumption), pw_cell_below (below_alloc (Below.refl _ _) _) (by assumption), pw_cell_below (below_alloc (Below.refl _ _) _) (by assumption), pw_cell_below (below_alloc (Below.refl _ _) _) (by assumption), pw_cell_below (below_alloc (Below.refl _ _) _) (by assumption)⟩)) | (with_reducible (go_split_ands; refine ⟨?_, ?_, ?_, ?_, ?_, ?_, ?_, ?_, ?_, ?_, ?_, ?_⟩ <;> assumption)) | (go_keep; done) | (go_split_ands; refine ⟨?_, ?_, ?_, ?_, ?_, ?_, ?_, ?_, ?_, ?_, ?_, ?_⟩ <;> exact cell_set4 (by omega) (by assumption)))
    (first
      | (go_simp; go_at_call 28; refine (Sum_F 19 (s2A a sv ce) rfl _ (I4c.out.below (by repeat (first | exact HWc.out | apply below_alloc | apply pw_below_drewN | apply below_drew))) (I4.out.below (by repeat (first | exact HWc.out | apply below_alloc | apply pw_below_drewN | apply below_drew)))).mono ?_; rintro e wz ⟨vz, rfl, hz, hb⟩; have hsz := HWc.out.size; have HWn := Aside0.mk (below_step (by repeat (first | exact HWc.out | apply below_alloc | apply pw_below_drewN | apply below_drew)) hb); clear HWc; have HWc := HWn; clear HWn; obtain ⟨A5, c5, rfl, l5, F5⟩ := hz; have I5 := Aside0.mk (show IsF wz (fun k => (okS k ∨ okC k) ∨ w1.heap.size ≤ k) (.agg #[.int .i64 (s2A a sv ce).f0, .string (s2A a sv ce).f1, .int .i64 (s2A a sv ce).f2, .slice A5 (s2A a sv ce).f3.length c5]) (s2A a sv ce) from IsF.mono ⟨A5, c5, rfl, l5, F5⟩ (fun k hk => by rcases hk with (hk | hk) | hk; exact .inl (.inr hk); exact hk; exact .inr (by have hk2 : w4.heap.size ≤ k := hk; omega))); clear l5 F5)
      | (go_simp; go_at_call 24; refine (List_F wz (fun k => (okS k ∨ okC k) ∨ w1.heap.size ≤ k) _ _ [dataA a, s1A a sv, s2A a sv ce] _ ?hn ?hb0 ?hL).mono ?_; (case hn => simp); (case hb0 => exact below_alloc (Below.refl _ _) _); (case hL => exact lits_row _ _ [(.agg #[.int .i64 (dataA a).f0, .string (dataA a).f1, .int .i64 (dataA a).f2, .slice A2 (dataA a).f3.length c2]), (.agg #[.int .i64 (s1A a sv).f0, .string (s1A a sv).f1, .int .i64 (s1A a sv).f2, .slice A3 (s1A a sv).f3.length c3]), (.agg #[.int .i64 (s2A a sv ce).f0, .string (s2A a sv ce).f1, .int .i64 (s2A a sv ce).f2, .slice A5 (s2A a sv ce).f3.length c5])] [dataA a, s1A a sv, s2A a sv ce] ⟨I4d.out.below HWc.out, I4.out.below HWc.out, I5.out, trivial⟩ (by simp)); rintro e wz ⟨vz, rfl, hz, hb⟩; have hsz := HWc.out.size; have HWn := Aside0.mk (below_step (by repeat (first | exact HWc.out | apply below_alloc | apply pw_below_drewN | apply below_drew)) hb); clear HWc; have HWc := HWn; clear HWn; obtain ⟨AZ, cZ, rfl, lZ, CZ⟩ := hz; have IZ := Aside0.mk (show IsF wz (fun k => (okS k ∨ okC k) ∨ w1.heap.size ≤ k) (.agg #[.int .i64 3, .string ⟨#[]⟩, .int .i64 0, .slice AZ 3 cZ]) (builtA a sv ce) from IsF.mono ⟨AZ, cZ, rfl, lZ, CZ⟩ (fun k hk => by rcases hk with hk | hk; exact hk; rw [World.size_alloc] at hk; exact .inr (by omega))); have hr9 := blk_below XR4.out HWc.out; have HR9 := Aside0.mk hr9; obtain ⟨hr0, hr1, hr2, hr3⟩ := box_cells hr9; have hrf0 := blk_frozen hr9 0; have hrf1 := blk_frozen hr9 1; have hrf2 := blk_frozen hr9 2; have hrf3 := blk_frozen hr9 3; clear hr9 lZ CZ))
  go_wp2_with fail
  refine bodyPost_ret (results_ct rfl _ _ (w.heap.size + 3) 29 #[.int .i64 3, .string (⟨#[]⟩ : ByteArray), .int .i64 0, .slice AZ 3 cZ] (0, 0) _ rfl (put4_block HR9.out) Tryd.underlying29 rfl (by kernel_rfl)) rfl ?_
  obtain ⟨e4, e5⟩ := HBT.out HCN.out
  rw [e4, e5]
  exact ⟨_, rfl, (IZ.out.step fun k hk _ => put4_other (by rcases hk with (hk | hk) | hk; have := hS k hk; omega; have := hC k hk; omega; omega)).mono (fun k hk => by rcases hk with hk | hk; exact .inl hk; exact .inr (by omega)), put4_below (B4.out.trans (HWc.out.mono B4.out.size)) (by omega)⟩
end Go.Proofs.YtimommkbfbdkdaaDoor.P
end
section
namespace Go.Proofs.YtimommkbfbdkdaaDoor.P
open Go.RowKit Go.Proofs.YtimommkbfbdkdaaDoorW.PrintWords Go.Proofs.YtimommkbfbdkdaaDoorW.PrintLast Go.Proofs.YtimommkbfbdkdaaDoorW.PrintMore
set_option linter.unusedVariables false
set_option linter.unusedSimpArgs false
def Up (w w' : World) (g : Nat) : Prop := KeepBut w w' g none ∧ ∀ B w0, Below B w0 w → B ≤ g → Below B w0 w'
theorem Up.refl (w : World) (g : Nat) : Up w w g := ⟨KeepBut.refl _ _ _, fun _ _ h _ => h⟩
theorem Up.size {w w' : World} {g : Nat} (h : Up w w' g) : w.heap.size ≤ w'.heap.size := h.1.1
theorem Up.blk {w w' : World} {g k : Nat} {o : Obj} (h : Up w w' g) (hk : k ≠ g) (hb : w.heap[k]? = some o) : w'.heap[k]? = some o := (h.1.2 k (blk_lt hb) hk (by simp)).trans hb
theorem Up.trans {w w1 w2 : World} {g : Nat} (h : Up w w1 g) (k : Up w1 w2 g) : Up w w2 g :=
  ⟨⟨Nat.le_trans h.size k.size, fun i hi hg hr => (k.1.2 i (Nat.lt_of_lt_of_le hi h.size) hg hr).trans (h.1.2 i hi hg hr)⟩, fun B w0 hb hB => k.2 B w0 (h.2 B w0 hb hB) hB⟩
theorem Up.of_below {w w' : World} (g : Nat) (h : Below w.heap.size w w') (hg : g < w.heap.size) : Up w w' g :=
  ⟨KeepBut.of_below h g none, fun B w0 hb hB => hb.trans (h.mono (by omega))⟩
theorem Up.set {w w' : World} {g : Nat} (h : Up w w' g) (j : Nat) (u : Value) : Up w (w'.setCell ⟨g, j, none⟩ u) g :=
  ⟨h.1.set_ j u, fun B w0 hb hB => (h.2 B w0 hb hB).setCell (p := ⟨g, j, none⟩) hB u⟩
theorem Up.alloc {w w' : World} {g : Nat} (h : Up w w' g) (hg : g < w.heap.size) (o : Obj) : Up w (w'.alloc o) g :=
  ⟨h.1.trans (KeepBut.of_below (below_alloc (Below.refl _ _) o) g none) (.inl rfl), fun B w0 hb hB => (h.2 B w0 hb hB).alloc (by have := h.size; omega) o⟩
def pOdd (t : S29) : Bool := if t.f0 = 0 then (t.f2 != 0 || decide (0 < (t.f3.length : Int))) else if t.f0 = 1 then ((!t.f1.toList.isEmpty) || decide (0 < (t.f3.length : Int))) else ((!t.f1.toList.isEmpty) || t.f2 != 0)
theorem pOdd_tri (t : S29) :
    ((t.f0 == 0) = true ∧ (t.f2 != 0) = true ∧ pOdd t = true) ∨
    ((t.f0 == 0) = true ∧ (t.f2 != 0) = false ∧ (0 < (t.f3.length : Int)) ∧ pOdd t = true) ∨
    ((t.f0 == 0) = true ∧ (t.f2 != 0) = false ∧ ¬ (0 < (t.f3.length : Int)) ∧ pOdd t = false) ∨
    ((t.f0 == 0) = false ∧ (t.f0 == 1) = true ∧ (!t.f1.toList.isEmpty) = true ∧ pOdd t = true) ∨
    ((t.f0 == 0) = false ∧ (t.f0 == 1) = true ∧ (!t.f1.toList.isEmpty) = false ∧ (0 < (t.f3.length : Int)) ∧ pOdd t = true) ∨
    ((t.f0 == 0) = false ∧ (t.f0 == 1) = true ∧ (!t.f1.toList.isEmpty) = false ∧ ¬ (0 < (t.f3.length : Int)) ∧ pOdd t = false) ∨
    ((t.f0 == 0) = false ∧ (t.f0 == 1) = false ∧ (!t.f1.toList.isEmpty) = true ∧ pOdd t = true) ∨
    ((t.f0 == 0) = false ∧ (t.f0 == 1) = false ∧ (!t.f1.toList.isEmpty) = false ∧ (t.f2 != 0) = true ∧ pOdd t = true) ∨
    ((t.f0 == 0) = false ∧ (t.f0 == 1) = false ∧ (!t.f1.toList.isEmpty) = false ∧ (t.f2 != 0) = false ∧ pOdd t = false) := by
  have e0 : ∀ n : Int, (t.f0 == n) = true → t.f0 = n := fun n h => by simpa using h
  have n0 : ∀ n : Int, (t.f0 == n) = false → ¬ t.f0 = n := fun n h => by simpa using h
  cases k0 : (t.f0 == 0) with
  | true =>
    have hv : pOdd t = ((t.f2 != 0) || decide (0 < (t.f3.length : Int))) := by unfold pOdd; rw [if_pos (e0 0 k0)]
    rw [hv]
    cases k2 : (t.f2 != 0) <;> by_cases k4 : (0 < (t.f3.length : Int)) <;> simp only [k4, decide_true, decide_false, Bool.or_true, Bool.true_or, Bool.or_false, Bool.false_or, true_and, and_true, false_and, and_false, or_false, false_or, true_or, or_true, not_true_eq_false, not_false_eq_true, reduceCtorEq]
  | false =>
    cases k1 : (t.f0 == 1) with
    | true =>
      have hv : pOdd t = ((!t.f1.toList.isEmpty) || decide (0 < (t.f3.length : Int))) := by unfold pOdd; rw [if_neg (n0 0 k0), if_pos (e0 1 k1)]
      rw [hv]
      cases k3 : (!t.f1.toList.isEmpty) <;> by_cases k4 : (0 < (t.f3.length : Int)) <;> simp only [k4, decide_true, decide_false, Bool.or_true, Bool.true_or, Bool.or_false, Bool.false_or, true_and, and_true, false_and, and_false, or_false, false_or, true_or, or_true, not_true_eq_false, not_false_eq_true, reduceCtorEq]
    | false =>
      have hv : pOdd t = ((!t.f1.toList.isEmpty) || (t.f2 != 0)) := by unfold pOdd; rw [if_neg (n0 0 k0), if_neg (n0 1 k1)]
      rw [hv]
      cases k3 : (!t.f1.toList.isEmpty) <;> cases k2 : (t.f2 != 0) <;> simp only [Bool.or_true, Bool.true_or, Bool.or_false, Bool.false_or, true_and, and_true, false_and, and_false, or_false, false_or, true_or, or_true, reduceCtorEq]
set_option maxHeartbeats 4000000 in
set_option maxRecDepth 100000 in
theorem plain_calls (g : Nat) (u : Value) (t : S29) (A : Option Addr) (c : Nat) (w : World) (hg : w.heap[g]? = some (.cells #[u, .bool false] 64 (0, 0))) :
    Calls Tryd.prog 58 #[.pointer (some ⟨g, 0, none⟩), .agg #[.int .i64 t.f0, .string t.f1, .int .i64 t.f2, .slice A t.f3.length c]] w fun e w' => e = .returned (.tuple #[]) ∧ w'.heap[g]? = some (.cells #[u, .bool (pOdd t)] 64 (0, 0)) ∧ Up w w' g := by
  have hu29 := Tryd.underlying29
  have hu64 := Tryd.underlying64
  have hgl := blk_lt hg
  have hgo : ∀ o, (w.alloc o).cell? ⟨g, 1, none⟩ = some (.bool false) := fun o => (blk_cell (blk_alloc hg o) 1).trans rfl
  have hfo : ∀ o, (w.alloc o).frozen? ⟨g, 1, none⟩ = false := fun o => blk_frozen (blk_alloc hg o) 1
  have FIN : Aside0 (∀ o b, pOdd t = b → ((w.setCell ⟨g, 1, none⟩ (.bool b)).alloc o).heap[g]? = some (.cells #[u, .bool (pOdd t)] 64 (0, 0)) ∧ Up w ((w.setCell ⟨g, 1, none⟩ (.bool b)).alloc o) g) :=
    ⟨fun o b hb => ⟨by rw [hb]; exact blk_alloc (blk_put (cs := #[u, .bool false]) hg 1 _ rfl) o, ((Up.refl w g).set 1 _).alloc hgl o⟩⟩
  clear hg
  rcases pOdd_tri t with ⟨k0, k2, hp⟩ | ⟨k0, k2, k4, hp⟩ | ⟨k0, k2, k4, hp⟩ | ⟨k0, k1, k3, hp⟩ | ⟨k0, k1, k3, k4, hp⟩ | ⟨k0, k1, k3, k4, hp⟩ | ⟨k0, k1, k3, hp⟩ | ⟨k0, k1, k3, k2, hp⟩ | ⟨k0, k1, k3, k2, hp⟩
  all_goals
    have HP := Aside0.mk hp
    clear hp
    go_enter Tryd.func58, Tryd.ntmps58
  all_goals go_wp2_with fail
  all_goals (first | go_end0 | ((try simp only [Exit.inBlock, Exit.then]); refine bodyPost_ret (results_none rfl _ _ _) rfl ?_))
  all_goals first | exact ⟨rfl, FIN.out _ _ HP.out⟩ | exact ⟨rfl, FIN.out _ _ (by rw [HP.out]; first | rfl | (symm; exact decide_eq_true (by omega)) | (symm; exact decide_eq_false (by omega)))⟩
end Go.Proofs.YtimommkbfbdkdaaDoor.P
namespace Go.Proofs.YtimommkbfbdkdaaDoor.P
open Go.RowKit Go.Proofs.YtimommkbfbdkdaaDoorW.PrintWords Go.Proofs.YtimommkbfbdkdaaDoorW.PrintLast Go.Proofs.YtimommkbfbdkdaaDoorW.PrintMore
set_option linter.unusedVariables false
set_option linter.unusedSimpArgs false
def Rd (w0 w : World) (g : Nat) (l : List S29) (odd : Bool) : Prop := ∃ A c, w.heap[g]? = some (.cells #[.slice A l.length c, .bool odd] 64 (0, 0)) ∧ l.length ≤ c ∧ Kd.C k29 w0 A l.length l
def nx : List S29 → Bool → Int → S29 × List S29 × Bool
  | x :: r, false, k => if x.f0 = k then (x, r, pOdd x) else (z29, x :: r, true)
  | [], _, _ => (z29, [], true)
  | x :: r, true, _ => (z29, x :: r, true)
theorem nx_odd (l : List S29) (k : Int) : nx l true k = (z29, l, true) := by cases l <;> rfl
theorem nx_nil (o : Bool) (k : Int) : nx [] o k = (z29, [], true) := by cases o <;> rfl
theorem isT_z (w : World) : IsT w (.agg #[.int .i64 0, .string ⟨#[]⟩, .int .i64 0, .slice none 0 0]) z29 := ⟨none, 0, rfl, Nat.le_refl _, C_nil0 _ _⟩
theorem info29_size : ∃ i, Tryd.prog.info? 29 = some i ∧ i.size = 4 := by
  have h := info29
  cases hi : Tryd.prog.info? 29 with
  | none => rw [hi] at h; simp at h
  | some i => rw [hi] at h; simp at h; exact ⟨i, rfl, h.2.1⟩
theorem cut_one (A : Option Addr) (r : List S29) (c : Nat) (w0 : World) (t : S29) (hC : Kd.C k29 w0 A (t :: r).length (t :: r)) (hc : (t :: r).length ≤ c) :
    ∃ A', (∀ W : World, (Instr.slice 27 (.slice A (r.length + 1) c) (some (.int .i64 1)) none none).run Tryd.prog W = .ok (.slice A' r.length (c - 1)) W) ∧ Kd.C k29 w0 A' r.length r ∧ r.length ≤ c - 1 := by
  obtain ⟨i, hi, hsz⟩ := info29_size
  refine ⟨if c = 1 then A else A.map (·.add (1 * 4)), fun W => ?_, ?_, by rw [List.length_cons] at hc; omega⟩
  · have := cut_from (P := Tryd.prog) 27 29 .i64 Tryd.underlying27 hi 4 hsz A (r.length + 1) c 1 (by decide) (by omega) W
    simpa using this
  · have := Kd.C_drop (m := 1) (c := c) hC (by rw [List.length_cons]; omega) hc
    exact this
theorem Up.far4 {w w' : World} {g h : Nat} {a b n v : Value} (hu : Up w w' g) (hh : w.heap.size ≤ h) (hg : g < w.heap.size) : Up w (put4 w' h a b n v) g := by
  refine ⟨⟨?_, fun i hi hne hr => (put4_other (by omega)).trans (hu.1.2 i hi hne hr)⟩, fun B w0 hb hB => put4_below (hu.2 B w0 hb hB) (by omega)⟩
  unfold put4; simpa using hu.size
set_option maxHeartbeats 4000000 in
set_option maxRecDepth 100000 in
theorem next_calls (w0 w : World) (g : Nat) (l : List S29) (odd : Bool) (k : Int) (hR : Rd w0 w g l odd) (hB : Below w0.heap.size w0 w) (hg0 : w0.heap.size ≤ g) :
    Calls Tryd.prog 45 #[.pointer (some ⟨g, 0, none⟩), .int .i64 k] w fun e w' => ∃ v, e = .returned v ∧ IsT w0 v (nx l odd k).1 ∧ Rd w0 w' g (nx l odd k).2.1 (nx l odd k).2.2 ∧ Up w w' g := by
  obtain ⟨A, c, hg, hl, hC⟩ := hR
  have hu29 := Tryd.underlying29
  have hu64 := Tryd.underlying64
  have hgl := blk_lt hg
  have hg0' : ∀ o, (w.alloc o).cell? ⟨g, 0, none⟩ = some (.slice A l.length c) := fun o => (blk_cell (blk_alloc hg o) 0).trans rfl
  have hg1' : ∀ o, (w.alloc o).cell? ⟨g, 1, none⟩ = some (.bool odd) := fun o => (blk_cell (blk_alloc hg o) 1).trans rfl
  have hfo : ∀ o, (w.alloc o).frozen? ⟨g, 1, none⟩ = false := fun o => blk_frozen (blk_alloc hg o) 1
  have hf00 : ∀ o, (w.alloc o).frozen? ⟨g, 0, none⟩ = false := fun o => blk_frozen (blk_alloc hg o) 0
  have hf000 : ∀ o o2, ((w.alloc o).alloc o2).frozen? ⟨g, 0, none⟩ = false := fun o o2 => blk_frozen (blk_alloc (blk_alloc hg o) o2) 0
  have hne : ¬ w.heap.size = g := by omega
  have hne2 : ¬ g = w.heap.size := by omega
  have HC := Aside0.mk hC
  have HG := Aside0.mk hg
  have FIN : Aside0 (∀ o, (w.setCell ⟨g, 1, none⟩ (.bool true)).alloc o |>.heap[g]? = some (.cells #[.slice A l.length c, .bool true] 64 (0, 0))) := ⟨fun o => blk_alloc (blk_put (cs := #[.slice A l.length c, .bool odd]) hg 1 _ rfl) o⟩
  have FIU : Aside0 (∀ o, Up w ((w.setCell ⟨g, 1, none⟩ (.bool true)).alloc o) g) := ⟨fun o => ((Up.refl w g).set 1 _).alloc hgl o⟩
  clear hg hC
  have HN : Aside0 (∀ {o : Obj}, ((w.setCell ⟨g, 1, none⟩ (.bool true)).alloc o).heap[w.heap.size]? = some o) := ⟨fun {o} => by have := box_new (w.setCell ⟨g, 1, none⟩ (.bool true)) o; simpa using this⟩
  cases odd with
  | true =>
    rw [nx_odd]
    go_enter Tryd.func45, Tryd.ntmps45
    go_wp2_with fail
    refine bodyPost_ret (results_cell_row rfl _ _ w.heap.size 29 #[.int .i64 0, .string (⟨#[]⟩ : ByteArray), .int .i64 0, .slice none 0 0] (0, 0) _ rfl HN.out Tryd.underlying29 rfl (by kernel_rfl)) rfl ?_
    exact ⟨_, rfl, isT_z w0, ⟨A, c, FIN.out _, hl, HC.out⟩, FIU.out _⟩
  | false =>
  cases l with
  | nil =>
    rw [nx_nil]
    go_enter Tryd.func45, Tryd.ntmps45
    go_wp2_with fail
    refine bodyPost_ret (results_cell_row rfl _ _ w.heap.size 29 #[.int .i64 0, .string (⟨#[]⟩ : ByteArray), .int .i64 0, .slice none 0 0] (0, 0) _ rfl HN.out Tryd.underlying29 rfl (by kernel_rfl)) rfl ?_
    exact ⟨_, rfl, isT_z w0, ⟨A, c, FIN.out _, hl, HC.out⟩, FIU.out _⟩
  | cons x r =>
  obtain ⟨ad, A3, c3, e1, hx0, hx1, hx2, hx3, hl3, hi3⟩ := at_T29 HC.out 0 (by decide) (by rw [List.length_cons]; omega)
  cases e1
  have hrd : rd_T29 (x :: r) 0 = x := rfl
  rw [hrd] at hx0 hx1 hx2 hx3 hl3 hi3
  have hz4 : ad.add (Int.toNat 0 * 4) = ad := by simp [Addr.add]
  rw [hz4] at hx0 hx1 hx2 hx3
  have hadd : ad.add 0 = ad := by simp [Addr.add]
  replace hx0 := (hB.cell (World.block_lt_of_cell? w0 _ hx0)).trans hx0
  replace hx1 := (hB.cell (World.block_lt_of_cell? w0 _ hx1)).trans hx1
  replace hx2 := (hB.cell (World.block_lt_of_cell? w0 _ hx2)).trans hx2
  replace hx3 := (hB.cell (World.block_lt_of_cell? w0 _ hx3)).trans hx3
  have hx0' : ∀ o, (w.alloc o).cell? ad = some (.int .i64 x.f0) := fun o => pw_cell_below (below_alloc (Below.refl _ _) o) hx0
  have hx1' : ∀ o, (w.alloc o).cell? ⟨ad.block, ad.off + 1, none⟩ = some (.string x.f1) := fun o => pw_cell_below (below_alloc (Below.refl _ _) o) hx1
  have hx2' : ∀ o, (w.alloc o).cell? ⟨ad.block, ad.off + 2, none⟩ = some (.int .i64 x.f2) := fun o => pw_cell_below (below_alloc (Below.refl _ _) o) hx2
  have hx3' : ∀ o, (w.alloc o).cell? ⟨ad.block, ad.off + 3, none⟩ = some (.slice A3 x.f3.length c3) := fun o => pw_cell_below (below_alloc (Below.refl _ _) o) hx3
  have hin : (0 : Int) < (r.length : Int) + 1 := by omega
  have hz0 : ((r.length : Int) + 1 == 0) = false := by simp; omega
  have hlen0 : ((r.length + 1 : Nat) : Int) = (r.length : Int) + 1 := by omega
  simp only [List.length_cons] at hg0' FIN HG hl
  by_cases hk : x.f0 = k
  · have hk2 : (x.f0 != k) = false := by simp [hk]
    obtain ⟨A', hcut, hC', hl'⟩ := cut_one (some ad) r c w0 x HC.out (by simpa using hl)
    have hnx : nx (x :: r) false k = (x, r, pOdd x) := by rw [nx, if_pos hk]
    rw [hnx]
    clear FIN FIU HN hk
    go_enter Tryd.func45, Tryd.ntmps45
    go_wp2_with fail
    refine (plain_calls g (.slice A' r.length (c - 1)) x A3 c3 _ ?hg).mono ?_
    case hg => exact blk_alloc (blk_alloc (blk_put (cs := #[.slice (some ad) (r.length + 1) c, .bool false]) HG.out 0 _ rfl) _) _
    rintro e w7 ⟨rfl, h7, u7⟩
    have H7 := Aside0.mk h7
    have U7 := Aside0.mk u7
    have X0 : Aside0 (w7.heap[w.heap.size]? = some (.cells #[.int .i64 0, .string ⟨#[]⟩, .int .i64 0, .slice none 0 0] 29 (0, 0))) := ⟨u7.blk (k := w.heap.size) (by omega) (blk_alloc (by have := box_new (w.setCell ⟨g, 0, none⟩ (.slice A' r.length (c - 1))) (.cells #[.int .i64 0, .string ⟨#[]⟩, .int .i64 0, .slice none 0 0] 29); simpa using this) _)⟩
    have X1 : Aside0 (w7.heap[w.heap.size + 1]? = some (.cells #[.int .i64 x.f0, .string x.f1, .int .i64 x.f2, .slice A3 x.f3.length c3] 29 (0, 0))) := ⟨u7.blk (k := w.heap.size + 1) (by omega) (by have := box_new ((w.setCell ⟨g, 0, none⟩ (.slice A' r.length (c - 1))).alloc (.cells #[.int .i64 0, .string ⟨#[]⟩, .int .i64 0, .slice none 0 0] 29)) (.cells #[.int .i64 x.f0, .string x.f1, .int .i64 x.f2, .slice A3 x.f3.length c3] 29); simpa using this)⟩
    have UU : Aside0 (Up w w7 g) := ⟨(((Up.refl w g).set 0 (.slice A' r.length (c - 1))).alloc hgl _ |>.alloc hgl _).trans u7⟩
    clear h7 u7 hg0' hg1' hfo hf00 hf000 hx0' hx1' hx2' hx3' hx0 hx1 hx2 hx3 hcut
    obtain ⟨ha0, ha1, ha2, ha3⟩ := box_cells X0.out
    obtain ⟨hb0, hb1, hb2, hb3⟩ := box_cells X1.out
    have hf0 := blk_frozen X0.out 0
    have hf1 := blk_frozen X0.out 1
    have hf2 := blk_frozen X0.out 2
    have hf3 := blk_frozen X0.out 3
    go_wp2_with fail
    refine bodyPost_ret (results_cell_row rfl _ _ w.heap.size 29 #[.int .i64 x.f0, .string x.f1, .int .i64 x.f2, .slice A3 x.f3.length c3] (0, 0) _ rfl (put4_block X0.out) Tryd.underlying29 rfl (by kernel_rfl)) rfl ?_
    exact ⟨_, rfl, ⟨A3, c3, rfl, hl3, hi3⟩, ⟨A', c - 1, (put4_other (by omega)).trans H7.out, hl', hC'⟩, Up.far4 UU.out (by omega) (by omega)⟩
  · have hk2 : (x.f0 != k) = true := by simp [hk]
    have hnx : nx (x :: r) false k = (z29, x :: r, true) := by rw [nx, if_neg hk]
    rw [hnx]
    go_enter Tryd.func45, Tryd.ntmps45
    go_wp2_with fail
    refine bodyPost_ret (results_cell_row rfl _ _ w.heap.size 29 #[.int .i64 0, .string (⟨#[]⟩ : ByteArray), .int .i64 0, .slice none 0 0] (0, 0) _ rfl HN.out Tryd.underlying29 rfl (by kernel_rfl)) rfl ?_
    exact ⟨_, rfl, isT_z w0, ⟨some ad, c, FIN.out _, hl, HC.out⟩, FIU.out _⟩
end Go.Proofs.YtimommkbfbdkdaaDoor.P
namespace Go.Proofs.YtimommkbfbdkdaaDoor.P
open Go.RowKit Go.Proofs.YtimommkbfbdkdaaDoorW.PrintWords Go.Proofs.YtimommkbfbdkdaaDoorW.PrintLast Go.Proofs.YtimommkbfbdkdaaDoorW.PrintMore
set_option linter.unusedVariables false
set_option linter.unusedSimpArgs false
theorem field1 (a b c d : Value) (W : World) : (Instr.field 29 (.agg #[a, b, c, d]) 1).run Tryd.prog W = .ok b W := by kernel_rfl
theorem field2 (a b c d : Value) (W : World) : (Instr.field 29 (.agg #[a, b, c, d]) 2).run Tryd.prog W = .ok c W := by kernel_rfl
theorem field3 (a b c d : Value) (W : World) : (Instr.field 29 (.agg #[a, b, c, d]) 3).run Tryd.prog W = .ok d W := by kernel_rfl
attribute [local go_sem] field1 field2 field3
def flOdd (n : Int) (o : Bool) : Bool := o || (n != 0 && n != 1)
set_option maxHeartbeats 4000000 in
set_option maxRecDepth 100000 in
theorem flag_calls (w0 w : World) (g : Nat) (l : List S29) (odd : Bool) (hR : Rd w0 w g l odd) (hB : Below w0.heap.size w0 w) (hg0 : w0.heap.size ≤ g) :
    Calls Tryd.prog 47 #[.pointer (some ⟨g, 0, none⟩)] w fun e w' => e = .returned (.bool ((nx l odd 1).1.f2 == 1)) ∧ Rd w0 w' g (nx l odd 1).2.1 (flOdd (nx l odd 1).1.f2 (nx l odd 1).2.2) ∧ Up w w' g := by
  have HN := Aside0.mk (next_calls w0 w g l odd 1 hR hB hg0)
  clear hR
  have hu29 := Tryd.underlying29
  have hu64 := Tryd.underlying64
  generalize nx l odd 1 = X at HN ⊢
  obtain ⟨x, l1, o1⟩ := X
  go_enter Tryd.func47, Tryd.ntmps47
  go_wp2_with fail
  refine HN.out.mono ?_
  rintro e w1 ⟨v, rfl, ⟨A, c, rfl, hl, hC⟩, ⟨A1, c1, h1, hl1, hC1⟩, u1⟩
  obtain ⟨n, hn⟩ : ∃ n, n = x.f2 := ⟨_, rfl⟩
  have H1 := Aside0.mk h1
  have U1 := Aside0.mk u1
  have HC1 := Aside0.mk hC1
  have hc0 : w1.cell? ⟨g, 0, none⟩ = some (.slice A1 l1.length c1) := (blk_cell h1 0).trans rfl
  have hc1 : w1.cell? ⟨g, 1, none⟩ = some (.bool o1) := (blk_cell h1 1).trans rfl
  have hf1 := blk_frozen h1 1
  have HNN := Aside0.mk hn
  clear h1 u1 hC1 hC hl HN
  rw [← hn]
  clear hn
  cases o1 with
  | true =>
    go_wp2_with fail
    go_ret
    exact ⟨by rw [← HNN.out]; rfl, ⟨A1, c1, by rw [← HNN.out]; exact blk_put H1.out 1 _ rfl, hl1, HC1.out⟩, U1.out.set 1 _⟩
  | false =>
  cases e0 : (n != 0) with
  | false =>
    have hfo : flOdd n false = false := by unfold flOdd; rw [e0]; rfl
    have HFO := Aside0.mk hfo
    clear hfo
    go_wp2_with fail
    go_ret
    exact ⟨by rw [← HNN.out]; rfl, ⟨A1, c1, by rw [← HNN.out, HFO.out]; exact blk_put H1.out 1 _ rfl, hl1, HC1.out⟩, U1.out.set 1 _⟩
  | true =>
    have hfo : flOdd n false = (n != 1) := by unfold flOdd; rw [e0]; rfl
    have HFO := Aside0.mk hfo
    clear hfo
    go_wp2_with fail
    go_ret
    exact ⟨by rw [← HNN.out]; rfl, ⟨A1, c1, by rw [← HNN.out, HFO.out]; exact blk_put H1.out 1 _ rfl, hl1, HC1.out⟩, U1.out.set 1 _⟩
def eL (k : Int) : List S29 → List S29 × Bool
  | [] => ([], false)
  | x :: r => if x.f0 = k then (if pOdd x = true then ([x], true) else (x :: (eL k r).1, (eL k r).2)) else ([z29], true)
def eS (k : Int) (l : List S29) (o : Bool) : List S29 × Bool := if o = true then ([], true) else eL k l
theorem nx_cons (x : S29) (r : List S29) (k : Int) : nx (x :: r) false k = if x.f0 = k then (x, r, pOdd x) else (z29, x :: r, true) := rfl
theorem eS_step (k : Int) (x : S29) (r : List S29) : eS k (x :: r) false = ((nx (x :: r) false k).1 :: (eS k (nx (x :: r) false k).2.1 (nx (x :: r) false k).2.2).1, (eS k (nx (x :: r) false k).2.1 (nx (x :: r) false k).2.2).2) := by
  rw [nx_cons]
  unfold eS
  rw [if_neg (by decide), eL]
  by_cases h : x.f0 = k
  · rw [if_pos h, if_pos h]
    cases hp : pOdd x <;> simp
  · rw [if_neg h, if_neg h]; simp
def mu (l : List S29) (o : Bool) : Nat := if o = true then 0 else l.length
theorem mu_step (k : Int) (x : S29) (r : List S29) : mu (nx (x :: r) false k).2.1 (nx (x :: r) false k).2.2 < mu (x :: r) false := by
  have h0 : mu (x :: r) false = r.length + 1 := rfl
  rw [h0, nx_cons]
  unfold mu
  by_cases h : x.f0 = k
  · rw [if_pos h]; dsimp only; split <;> omega
  · rw [if_neg h]; simp
theorem Rd.kept {w0 w w' : World} {g : Nat} {l : List S29} {o : Bool} (h : Rd w0 w g l o) (hk : w'.heap[g]? = w.heap[g]?) : Rd w0 w' g l o := by
  obtain ⟨A, c, h1, h2, h3⟩ := h
  exact ⟨A, c, hk.trans h1, h2, h3⟩
set_option maxHeartbeats 4000000 in
set_option maxRecDepth 100000 in
theorem each_calls (w0 w : World) (g : Nat) (l : List S29) (odd : Bool) (k : Int) (hR : Rd w0 w g l odd) (hB : Below w0.heap.size w0 w) (hg0 : w0.heap.size ≤ g) (hn : (nx l odd 3).1.f3.length ≤ 1000000000) :
    Calls Tryd.prog 46 #[.pointer (some ⟨g, 0, none⟩), .int .i64 k] w fun e w' => ∃ v, e = .returned v ∧ Kd.R (Kd.fixed k29 w0) 29 w' w.heap.size (fun _ => True) v (eL k (nx l odd 3).1.f3).1 ∧
      Rd w0 w' g (nx l odd 3).2.1 ((nx l odd 3).2.2 || (eL k (nx l odd 3).1.f3).2) ∧ Up w w' g := by
  have HN := Aside0.mk (next_calls w0 w g l odd 3 hR hB hg0)
  have hgl : g < w.heap.size := by obtain ⟨A, c, h, _⟩ := hR; exact blk_lt h
  clear hR
  have hu29 := Tryd.underlying29
  have hu64 := Tryd.underlying64
  generalize nx l odd 3 = X at HN hn ⊢
  obtain ⟨x, l1, o1⟩ := X
  go_enter Tryd.func46, Tryd.ntmps46
  go_wp2_with fail
  refine HN.out.mono ?_
  clear HN
  rintro e w1 ⟨v, rfl, ⟨A, c, rfl, hl, hC⟩, hr1, u1⟩
  have R1 := Aside0.mk hr1
  have U1 := Aside0.mk u1
  have B1 := Aside0.mk (u1.2 _ _ hB hg0)
  have z1 := u1.size
  clear hr1 u1
  obtain ⟨T, hT⟩ : ∃ T, T = eL k x.f3 := ⟨_, rfl⟩
  have HT := Aside0.mk hT
  clear hT
  go_wp2_with fail
  go_loopg [6] (x.f3.length + 1) (fun gg s6 wr => ∃ (l' : List S29) (o' : Bool) (acc : List S29) (A6 : Option Addr) (c6 : Nat), mu l' o' ≤ gg ∧ s6 = .slice A6 acc.length c6 ∧ Aside0 (Rd w0 wr w1.heap.size l' o') ∧ Aside0 (Below w1.heap.size w1 wr) ∧
    Aside0 (acc.length + mu l' o' ≤ x.f3.length) ∧ Aside0 (T = (acc ++ (eS k l' o').1, (eS k l' o').2)) ∧
    Aside0 (Kd.R (Kd.fixed k29 w0) 29 wr w1.heap.size (fun k => k ≠ w1.heap.size) (.slice A6 acc.length c6) acc))
  case atStart =>
    refine ⟨x.f3, false, [], none, 0, ?_, rfl, ⟨⟨A, c, box_new w1 _, hl, hC⟩⟩, ⟨below_alloc (Below.refl _ _) _⟩, ⟨?_⟩, ⟨HT.out⟩, ⟨Kd.R_nil _ _ _ _ _⟩⟩
    · show x.f3.length ≤ _; omega
    · show 0 + x.f3.length ≤ _; omega
  case round =>
    obtain ⟨l', o', acc, A6, c6, hmu, rfl, RD, BW, HLn, HTT, RL⟩ := hrel
    obtain ⟨Ai, ci, hi, hli, hCi⟩ := RD.out
    have RDg := blk_lt hi
    have hi0 : wr.cell? ⟨w1.heap.size, 0, none⟩ = some (.slice Ai l'.length ci) := (blk_cell hi 0).trans rfl
    have hi1 : wr.cell? ⟨w1.heap.size, 1, none⟩ = some (.bool o') := (blk_cell hi 1).trans rfl
    have HI := Aside0.mk hi
    clear hi hCi
    by_cases hgo : o' = false ∧ l' ≠ []
    · obtain ⟨rfl, hne⟩ := hgo
      cases l' with
      | nil => exact absurd rfl hne
      | cons y r =>
        have hm := mu_step k y r
        have he := eS_step k y r
        rw [he] at HTT
        have HNX := Aside0.mk (next_calls w0 wr w1.heap.size (y :: r) false k RD.out (B1.out.trans (BW.out.mono B1.out.size)) B1.out.size)
        generalize nx (y :: r) false k = Y at hm HTT HNX
        obtain ⟨z, l2, o2⟩ := Y
        have HM := Aside0.mk hm
        have hpos : (0 : Int) < ((y :: r).length : Int) := by rw [List.length_cons]; omega
        clear hm he hne RD
        go_wp2_with fail
        refine HNX.out.mono ?_
        rintro e w2 ⟨vz, rfl, ⟨Az, cz, rfl, hlz, hCz⟩, hr2, u2⟩
        have BW2 := Aside0.mk (u2.2 _ _ BW.out (Nat.le_refl _))
        have RL2 := Aside0.mk (Kd.R_step RL.out (fun q hq hlt => u2.1.2 q hlt hq (by simp)))
        have RD2 := Aside0.mk hr2
        have KZ := Aside0.mk (k29_mk w0 z hlz hCz)
        have hsz2 := u2.size
        have HLN : Aside0 (acc.length + 1 ≤ 1000000000) := ⟨by have := HLn.out; have h0 : mu (y :: r) false = r.length + 1 := rfl; omega⟩
        clear BW RL hr2 u2 HNX hCz hlz hi0 hi1 HI
        go_wp2_with (at_builtin; refine Kd.R_append (Kd.fixed k29 w0) (w0 := w1) w1.heap.size rfl (.tmp 25) (.tmp 29) 27 29 (.agg #[(.int .i64 0), (.string ⟨#[]⟩), (.int .i64 0), (.slice none 0 0)]) 56 rfl Tryd.underlying27 info29 rfl (show 0 < 4 from by decide) (by decide) (.slice A6 acc.length c6) acc z [.int .i64 z.f0, .string z.f1, .int .i64 z.f2, .slice Az z.f3.length cz] (fun k => k ≠ w1.heap.size) (fun _ => False) rfl rfl KZ.out (fun _ hk => hk.elim) ?hfr ?HO ?HB ?hbs ?hl ?_; (case hfr => intro q hq; omega); (case HO => exact RL2.out); (case HB => exact BW2.out); (case hbs => omega); (case hl => have := HLN.out; omega); intro v1 w6 ho hb6 hg6 hat; have HO := Aside0.mk ho; have HB6 := Aside0.mk hb6; have HR6 := Aside0.mk (Rd.kept RD2.out (hg6.block w1.heap.size (by omega) (fun e => RL2.out.1 _ e.symm rfl))); clear ho hb6 hg6 hat; obtain ⟨A7, c7, rfl⟩ := Kd.R_slice HO.out)
        go_roundg (mu l2 o2)
        case measure => have := HM.out; omega
        case rel =>
          have hlen : (acc ++ [z]).length = acc.length + 1 := by simp
          exact ⟨l2, o2, acc ++ [z], A7, c7, Nat.le_refl _, by rw [hlen], HR6, HB6, ⟨by have h1 := HM.out; have h2 := HLn.out; rw [hlen]; omega⟩, ⟨by rw [HTT.out, List.append_assoc]; rfl⟩, ⟨HO.out⟩⟩
    · have hES : eS k l' o' = ([], o') := by
        cases o' with
        | true => rfl
        | false =>
          cases l' with
          | nil => rfl
          | cons y r => exact absurd ⟨rfl, by simp⟩ hgo
      rw [hES, List.append_nil] at HTT
      obtain ⟨Ag, cg, h1g, hlg, hCg⟩ := R1.out
      have hg1 := (BW.out.block g (blk_lt h1g)).trans h1g
      have HG1 := Aside0.mk hg1
      have hgo0 : wr.cell? ⟨g, 0, none⟩ = some (.slice Ag l1.length cg) := (blk_cell hg1 0).trans rfl
      have hgo1 : wr.cell? ⟨g, 1, none⟩ = some (.bool o1) := (blk_cell hg1 1).trans rfl
      have hgf := blk_frozen hg1 1
      have hgz := blk_lt h1g
      have UW := Aside0.mk (U1.out.trans (Up.of_below g BW.out hgz))
      have HRR : Aside0 (∀ b, Kd.R (Kd.fixed k29 w0) 29 (wr.setCell ⟨g, 1, none⟩ (.bool b)) w.heap.size (fun _ => True) (.slice A6 acc.length c6) acc) := ⟨fun b => Kd.R_lower (Kd.R_mono (Kd.R_step (Kd.R_bound RL.out) (fun q hq _ => Below.heap_setCell wr ⟨g, 1, none⟩ _ q (by have := hq.2.1; show q ≠ g; omega))) (fun _ _ => trivial)) z1⟩
      have HFIN : Aside0 (∀ b, b = (o1 || o') → Rd w0 (wr.setCell ⟨g, 1, none⟩ (.bool b)) g l1 (o1 || T.2)) := ⟨fun b hb => by rw [HTT.out]; exact ⟨Ag, cg, by rw [← hb]; exact blk_put HG1.out 1 _ rfl, hlg, hCg⟩⟩
      have HTE : Aside0 (T.1 = acc) := ⟨by rw [HTT.out]⟩
      clear h1g hg1 RL RD hCg
      have hFE : Aside0 (∀ b, b = (o1 || o') → ∃ v, Ending.returned (.slice A6 acc.length c6) = .returned v ∧ Kd.R (Kd.fixed k29 w0) 29 (wr.setCell ⟨g, 1, none⟩ (.bool b)) w.heap.size (fun _ => True) v (eL k x.f3).1 ∧ Rd w0 (wr.setCell ⟨g, 1, none⟩ (.bool b)) g l1 (o1 || (eL k x.f3).2) ∧ Up w (wr.setCell ⟨g, 1, none⟩ (.bool b)) g) := ⟨fun b hb => ⟨_, rfl, by rw [← HT.out, HTE.out]; exact HRR.out b, by rw [← HT.out]; exact HFIN.out b hb, UW.out.set 1 _⟩⟩
      clear HRR HFIN HTE
      cases l' with
      | nil =>
        simp only [List.length_nil] at hi0
        cases o1 with
        | true =>
          go_wp2_with fail
          go_ret
          exact hFE.out _ rfl
        | false =>
          go_wp2_with fail
          go_ret
          exact hFE.out _ rfl
      | cons y r =>
        have ho' : o' = true := by
          cases o' with
          | true => rfl
          | false => exact absurd ⟨rfl, by simp⟩ hgo
        subst ho'
        have hpos : (0 : Int) < ((y :: r).length : Int) := by rw [List.length_cons]; omega
        clear hgo
        cases o1 with
        | true =>
          go_wp2_with fail
          go_ret
          exact hFE.out _ rfl
        | false =>
          go_wp2_with fail
          go_ret
          exact hFE.out _ rfl
end Go.Proofs.YtimommkbfbdkdaaDoor.P
end
section
namespace Go.Proofs.YtimommkbfbdkdaaDoor.P
open Go.RowKit Go.Proofs.YtimommkbfbdkdaaDoorW.PrintWords Go.Proofs.YtimommkbfbdkdaaDoorW.PrintLast Go.Proofs.YtimommkbfbdkdaaDoorW.PrintMore
attribute [local go_sem] max2_int min2_int max_two min_two max_three min_three max_four min_four
set_option linter.unusedVariables false
set_option linter.unusedSimpArgs false
def legateref13_Large.l0 : Nat → Int → Int → ByteArray → List Int → Int → List ByteArray → ByteArray → Bool → Int → Option (Bool)
  | 0, _, _, _, _, _, _, _, _, _ => none
  | k + 1, x3, x4, x164000, x164001, x164002, x164003, x164004, x164005, x164006 => if x4 < (x164003.length : Int) then (if 0 ≤ x4 then (legateref13_Large.l0 k (wrap64 ((wrap64 (x3 + 1)) + ((rdOf ByteArray.empty x164003 x4).size : Int))) (wrap64 (x4 + 1)) x164000 x164001 x164002 x164003 x164004 x164005 x164006) else (none)) else (some (decide ((wrap64 (x3 + (x164001.length : Int))) > 1000)))
def legateref13_Large.f (k : Nat) (a0_0 : ByteArray) (l0_1 : List Int) (a0_2 : Int) (l0_3 : List ByteArray) (a0_4 : ByteArray) (a0_5 : Bool) (a0_6 : Int) : Option (Bool) := legateref13_Large.l0 k (wrap64 ((a0_0.size : Int) + (a0_4.size : Int))) 0 a0_0 l0_1 a0_2 l0_3 a0_4 a0_5 a0_6
theorem legateref13_Large.mono_l : ∀ k, (∀ y0 y1 y2 y3 y4 y5 y6 y7 y8, LeO (legateref13_Large.l0 k y0 y1 y2 y3 y4 y5 y6 y7 y8) (legateref13_Large.l0 (k + 1) y0 y1 y2 y3 y4 y5 y6 y7 y8))
  | 0 => fun _ _ _ _ _ _ _ _ _ r h => by simp [legateref13_Large.l0] at h
  | k + 1 => by
    have ih0 := legateref13_Large.mono_l k
    · intro y0 y1 y2 y3 y4 y5 y6 y7 y8
      unfold legateref13_Large.l0
      repeat' first
      | (with_reducible exact ih0 _ _ _ _ _ _ _ _ _)
      | (with_reducible exact LeO.refl _)
      | (with_reducible exact LeO.none _)
      | (with_reducible refine LeO.ite ?_ ?_)
      | (with_reducible refine LeO.bind ?_ (fun _ => ?_))
      | exact ih0 _ _ _ _ _ _ _ _ _
      | exact LeO.none _
      | refine LeO.ite ?_ ?_
      | refine LeO.bind ?_ (fun _ => ?_)
theorem legateref13_Large.mono : ∀ a0 a1 a2 a3 a4 a5 a6 k, LeO (legateref13_Large.f k a0 a1 a2 a3 a4 a5 a6) (legateref13_Large.f (k + 1) a0 a1 a2 a3 a4 a5 a6) := by
  intro a0 a1 a2 a3 a4 a5 a6 k
  have ih0 := legateref13_Large.mono_l k
  unfold legateref13_Large.f
  repeat' first
      | (with_reducible exact ih0 _ _ _ _ _ _ _ _ _)
      | (with_reducible exact LeO.refl _)
      | (with_reducible exact LeO.none _)
      | (with_reducible refine LeO.ite ?_ ?_)
      | (with_reducible refine LeO.bind ?_ (fun _ => ?_))
      | exact ih0 _ _ _ _ _ _ _ _ _
      | exact LeO.none _
      | refine LeO.ite ?_ ?_
      | refine LeO.bind ?_ (fun _ => ?_)
set_option maxHeartbeats 8000000 in
set_option maxRecDepth 100000 in
theorem legateref13_Large.calls (k : Nat) (a0_0 : ByteArray) (A0_1 : Option Addr) (c0_1 : Nat) (l0_1 : List Int) (a0_2 : Int) (A0_3 : Option Addr) (c0_3 : Nat) (l0_3 : List ByteArray) (a0_4 : ByteArray) (a0_5 : Bool) (a0_6 : Int) (r : Bool) (w : World) (hr0_1 : Kd.C (Kd.int .i64) w A0_1 l0_1.length l0_1) (hc0_1 : l0_1.length ≤ c0_1) (hr0_3 : Kd.C Kd.string w A0_3 l0_3.length l0_3) (hc0_3 : l0_3.length ≤ c0_3) (h : legateref13_Large.f k a0_0 l0_1 a0_2 l0_3 a0_4 a0_5 a0_6 = some r) :
    Calls Tryd.prog 8 #[.agg #[.string a0_0, .slice A0_1 l0_1.length c0_1, .int .i64 a0_2, .slice A0_3 l0_3.length c0_3, .string a0_4, .bool a0_5, .int .i64 a0_6]] w fun e w' => e = .returned (.bool r) ∧ Below w.heap.size w w' := by
  have hu25 := Tryd.underlying25
  have HR0_1 := Aside0.mk hr0_1
  have HC0_1 := Aside0.mk hc0_1
  clear hr0_1 hc0_1
  have HR0_3 := Aside0.mk hr0_3
  have HC0_3 := Aside0.mk hc0_3
  clear hr0_3 hc0_3
  have HB := Aside0.mk (Below.refl w.heap.size w)
  have H : (legateref13_Large.l0 k (wrap64 ((a0_0.size : Int) + (a0_4.size : Int))) 0 a0_0 l0_1 a0_2 l0_3 a0_4 a0_5 a0_6) = some r := h
  clear h
  have H' := Aside0.mk H
  clear H
  go_enter Tryd.func8, Tryd.ntmps8
  go_wp2_with (first | ((with_reducible refine gate_dst (N := 1) rfl ?_); refine box_event ?hg (N := 1) ?hd (cs := #[.string a0_0, .slice A0_1 l0_1.length c0_1, .int .i64 a0_2, .slice A0_3 l0_3.length c0_3, .string a0_4, .bool a0_5, .int .i64 a0_6]) (t := 25) ?hr ?_; (case hd => rfl); (case hg => rfl); (case hr => first | (go_simp; done) | (go_simp; rfl)); intro gb163 hg w2 hbox hb; have n0_ := Aside0.mk (below_step (by repeat (first | (with_reducible first | exact HB.out | apply below_alloc | apply pw_below_drewN | apply below_drew1) | exact HB.out)) hb); have n1_ := Aside0.mk (hbox); have n2_ := Aside0.mk ((by rw [hg]; exact (below_size (by repeat (first | (with_reducible first | exact HB.out | apply below_alloc | apply pw_below_drewN | apply below_drew1) | exact HB.out))) : w.heap.size ≤ gb163)); have n3_ := Aside0.mk ((by rw [hg]; exact (below_size (by repeat (first | (with_reducible first | exact HB.out | apply below_alloc | apply pw_below_drewN | apply below_drew1) | exact HB.out))) : w.heap.size ≤ gb163)); clear HB; have HB := n0_; have BK163 := n1_; have GW163 := n2_; have GE163 := n3_; clear n0_ n1_ n2_ n3_; clear hb hbox hg; have hcz3_0 : w2.cell? ⟨gb163, 0, none⟩ = some (.string a0_0) := (blk_cell BK163.out 0).trans rfl; have hcz3_1 : w2.cell? ⟨gb163, 1, none⟩ = some (.slice A0_1 l0_1.length c0_1) := (blk_cell BK163.out 1).trans rfl; have hcz3_2 : w2.cell? ⟨gb163, 2, none⟩ = some (.int .i64 a0_2) := (blk_cell BK163.out 2).trans rfl; have hcz3_3 : w2.cell? ⟨gb163, 3, none⟩ = some (.slice A0_3 l0_3.length c0_3) := (blk_cell BK163.out 3).trans rfl; have hcz3_4 : w2.cell? ⟨gb163, 4, none⟩ = some (.string a0_4) := (blk_cell BK163.out 4).trans rfl; have hcz3_5 : w2.cell? ⟨gb163, 5, none⟩ = some (.bool a0_5) := (blk_cell BK163.out 5).trans rfl; have hcz3_6 : w2.cell? ⟨gb163, 6, none⟩ = some (.int .i64 a0_6) := (blk_cell BK163.out 6).trans rfl; have hfz3_0 := blk_frozen BK163.out 0; have hfz3_1 := blk_frozen BK163.out 1; have hfz3_2 := blk_frozen BK163.out 2; have hfz3_3 := blk_frozen BK163.out 3; have hfz3_4 := blk_frozen BK163.out 4; have hfz3_5 := blk_frozen BK163.out 5; have hfz3_6 := blk_frozen BK163.out 6))
  go_loopg [3, 4] k (fun kq v3 v4 w' => ∃ (x3_1 : Int) (x4_1 : Int), v3 = .int .i64 x3_1 ∧ v4 = .int .i64 x4_1 ∧ Aside0 (legateref13_Large.l0 kq x3_1 x4_1 a0_0 l0_1 a0_2 l0_3 a0_4 a0_5 a0_6 = some r) ∧ Aside0 (kq ≤ k) ∧ Aside0 (w'.heap[gb163]? = some (.cells #[.string a0_0, (.slice A0_1 l0_1.length c0_1), .int .i64 a0_2, (.slice A0_3 l0_3.length c0_3), .string a0_4, .bool a0_5, .int .i64 a0_6] 25 (0, 0))) ∧ Aside0 (Below w.heap.size w w'))
  case atStart => exact ⟨(wrap64 ((a0_0.size : Int) + (a0_4.size : Int))), (0), (by first | rfl | (simp; done) | (simp [*]; done) | (simp; exact isEmpty_ne _)), (by first | rfl | (simp; done) | (simp [*]; done) | (simp; exact isEmpty_ne _)), H', ⟨Nat.le_refl _⟩, ⟨by (with_reducible repeat (first | refine blk_drewN ?_ _ | refine blk_drew ?_ | refine blk_alloc ?_ _)); exact BK163.out⟩, ⟨by repeat (first | (with_reducible first | exact HB.out | apply below_alloc | apply pw_below_drewN | apply below_drew1 | refine below_set ?_ GE163.out) | exact HB.out)⟩⟩
  case round =>
    clear H'
    try clear p2
    try clear hcz3_0
    try clear hcz3_1
    try clear hcz3_2
    try clear hcz3_3
    try clear hcz3_4
    try clear hcz3_5
    try clear hcz3_6
    try clear hfz3_0
    try clear hfz3_1
    try clear hfz3_2
    try clear hfz3_3
    try clear hfz3_4
    try clear hfz3_5
    try clear hfz3_6
    obtain ⟨x3_1, x4_1, rfl, rfl, HA, HK1, BK163, HB⟩ := hrel
    cases gk with
    | zero => exact absurd HA.out (by simp [legateref13_Large.l0])
    | succ k1 =>
      have H := HA.out
      clear HA
      simp only [legateref13_Large.l0] at H
      by_cases c4 : x4_1 < (l0_3.length : Int)
      · rw [if_pos c4] at H
        have c4b0 : decide (x4_1 < (l0_3.length : Int)) = true := decide_eq_true c4
        clear c4
        by_cases c5 : 0 ≤ x4_1
        · rw [if_pos c5] at H
          have c5b0 : decide (0 ≤ x4_1) = true := decide_eq_true c5
          clear c5
          have H' := Aside0.mk H
          clear H
          have hcz6_0 : wr.cell? ⟨gb163, 0, none⟩ = some (.string a0_0) := (blk_cell BK163.out 0).trans rfl
          have hcz6_1 : wr.cell? ⟨gb163, 1, none⟩ = some (.slice A0_1 l0_1.length c0_1) := (blk_cell BK163.out 1).trans rfl
          have hcz6_2 : wr.cell? ⟨gb163, 2, none⟩ = some (.int .i64 a0_2) := (blk_cell BK163.out 2).trans rfl
          have hcz6_3 : wr.cell? ⟨gb163, 3, none⟩ = some (.slice A0_3 l0_3.length c0_3) := (blk_cell BK163.out 3).trans rfl
          have hcz6_4 : wr.cell? ⟨gb163, 4, none⟩ = some (.string a0_4) := (blk_cell BK163.out 4).trans rfl
          have hcz6_5 : wr.cell? ⟨gb163, 5, none⟩ = some (.bool a0_5) := (blk_cell BK163.out 5).trans rfl
          have hcz6_6 : wr.cell? ⟨gb163, 6, none⟩ = some (.int .i64 a0_6) := (blk_cell BK163.out 6).trans rfl
          have hfz6_0 := blk_frozen BK163.out 0
          have hfz6_1 := blk_frozen BK163.out 1
          have hfz6_2 := blk_frozen BK163.out 2
          have hfz6_3 := blk_frozen BK163.out 3
          have hfz6_4 := blk_frozen BK163.out 4
          have hfz6_5 := blk_frozen BK163.out 5
          have hfz6_6 := blk_frozen BK163.out 6
          have p164 : 0 ≤ (x4_1 : Int) := of_decide_eq_true (by first | (with_reducible assumption) | assumption)
          have q164 : x4_1 < (l0_3.length : Int) := of_decide_eq_true (by first | (with_reducible assumption) | assumption)
          obtain ⟨ad164, e164, hx164_0⟩ := Kd.at_string HR0_3.out x4_1 p164 q164
          cases e164
          replace hx164_0 := (HB.out.cell (World.block_lt_of_cell? w _ hx164_0)).trans hx164_0
          replace p164 := eq_true p164
          replace q164 := eq_true q164
          go_wp2
          go_roundg k1
          case measure => have := HK1.out; omega
          case rel => exact ⟨(wrap64 ((wrap64 (x3_1 + 1)) + ((rdOf ByteArray.empty l0_3 x4_1).size : Int))), (wrap64 (x4_1 + 1)), (by first | rfl | (simp; done) | (simp [*]; done) | (simp; exact isEmpty_ne _)), (by first | rfl | (simp; done) | (simp [*]; done) | (simp; exact isEmpty_ne _)), H', ⟨by have := HK1.out; omega⟩, ⟨by (with_reducible repeat (first | refine blk_drewN ?_ _ | refine blk_drew ?_ | refine blk_alloc ?_ _)); exact BK163.out⟩, ⟨by repeat (first | (with_reducible first | exact HB.out | apply below_alloc | apply pw_below_drewN | apply below_drew1 | refine below_set ?_ GE163.out) | exact HB.out)⟩⟩
        · rw [if_neg c5] at H
          exact absurd H (by simp)
      · rw [if_neg c4] at H
        have c4b0 : decide (x4_1 < (l0_3.length : Int)) = false := decide_eq_false c4
        clear c4
        obtain rfl := Option.some.inj H
        have hcz7_0 : wr.cell? ⟨gb163, 0, none⟩ = some (.string a0_0) := (blk_cell BK163.out 0).trans rfl
        have hcz7_1 : wr.cell? ⟨gb163, 1, none⟩ = some (.slice A0_1 l0_1.length c0_1) := (blk_cell BK163.out 1).trans rfl
        have hcz7_2 : wr.cell? ⟨gb163, 2, none⟩ = some (.int .i64 a0_2) := (blk_cell BK163.out 2).trans rfl
        have hcz7_3 : wr.cell? ⟨gb163, 3, none⟩ = some (.slice A0_3 l0_3.length c0_3) := (blk_cell BK163.out 3).trans rfl
        have hcz7_4 : wr.cell? ⟨gb163, 4, none⟩ = some (.string a0_4) := (blk_cell BK163.out 4).trans rfl
        have hcz7_5 : wr.cell? ⟨gb163, 5, none⟩ = some (.bool a0_5) := (blk_cell BK163.out 5).trans rfl
        have hcz7_6 : wr.cell? ⟨gb163, 6, none⟩ = some (.int .i64 a0_6) := (blk_cell BK163.out 6).trans rfl
        have hfz7_0 := blk_frozen BK163.out 0
        have hfz7_1 := blk_frozen BK163.out 1
        have hfz7_2 := blk_frozen BK163.out 2
        have hfz7_3 := blk_frozen BK163.out 3
        have hfz7_4 := blk_frozen BK163.out 4
        have hfz7_5 := blk_frozen BK163.out 5
        have hfz7_6 := blk_frozen BK163.out 6
        go_wp2
        go_ret
        exact ⟨by first | rfl | (simp [errW_none, errW_some] <;> rfl) | (simp [*, errW_none, errW_some] <;> rfl), by repeat (first | (with_reducible first | exact HB.out | apply below_alloc | apply pw_below_drewN | apply below_drew1 | refine below_set ?_ GE163.out) | exact HB.out)⟩
mutual
def legateref08_Size.l0 : Nat → Int → Int → Int → ByteArray → Int → List (S29) → Option (Int)
  | 0, _, _, _, _, _, _ => none
  | k + 1, x3, x4, x166000, x166001, x166002, x166003 => if x4 < (x166003.length : Int) then (if 0 ≤ x4 then ((legateref08_Size.f k ((rd_T29 x166003 x4).f0) ((rd_T29 x166003 x4).f1) ((rd_T29 x166003 x4).f2) ((rd_T29 x166003 x4).f3)).bind fun t167 => (legateref08_Size.l0 k (wrap64 (x3 + t167)) (wrap64 (x4 + 1)) x166000 x166001 x166002 x166003)) else (none)) else (some x3)
def legateref08_Size.f : Nat → Int → ByteArray → Int → List (S29) → Option (Int)
  | 0, _, _, _, _ => none
  | k + 1, a0_0, a0_1, a0_2, l0_3 => legateref08_Size.l0 k 1 0 a0_0 a0_1 a0_2 l0_3
end
theorem legateref08_Size.mono_l : ∀ k, (∀ y0 y1 y2 y3, LeO (legateref08_Size.f k y0 y1 y2 y3) (legateref08_Size.f (k + 1) y0 y1 y2 y3)) ∧ (∀ y0 y1 y2 y3 y4 y5, LeO (legateref08_Size.l0 k y0 y1 y2 y3 y4 y5) (legateref08_Size.l0 (k + 1) y0 y1 y2 y3 y4 y5))
  | 0 => ⟨fun _ _ _ _ r h => by simp [legateref08_Size.f] at h, fun _ _ _ _ _ _ r h => by simp [legateref08_Size.l0] at h⟩
  | k + 1 => by
    obtain ⟨ih0, ih1⟩ := legateref08_Size.mono_l k
    refine ⟨?_, ?_⟩
    · intro y0 y1 y2 y3
      unfold legateref08_Size.f
      repeat' first
      | (with_reducible exact ih0 _ _ _ _)
      | (with_reducible exact ih1 _ _ _ _ _ _)
      | (with_reducible exact LeO.refl _)
      | (with_reducible exact LeO.none _)
      | (with_reducible refine LeO.ite ?_ ?_)
      | (with_reducible refine LeO.bind ?_ (fun _ => ?_))
      | exact ih0 _ _ _ _
      | exact ih1 _ _ _ _ _ _
      | exact LeO.none _
      | refine LeO.ite ?_ ?_
      | refine LeO.bind ?_ (fun _ => ?_)
    · intro y0 y1 y2 y3 y4 y5
      unfold legateref08_Size.l0
      repeat' first
      | (with_reducible exact ih0 _ _ _ _)
      | (with_reducible exact ih1 _ _ _ _ _ _)
      | (with_reducible exact LeO.refl _)
      | (with_reducible exact LeO.none _)
      | (with_reducible refine LeO.ite ?_ ?_)
      | (with_reducible refine LeO.bind ?_ (fun _ => ?_))
      | exact ih0 _ _ _ _
      | exact ih1 _ _ _ _ _ _
      | exact LeO.none _
      | refine LeO.ite ?_ ?_
      | refine LeO.bind ?_ (fun _ => ?_)
theorem legateref08_Size.mono : ∀ a0 a1 a2 a3 k, LeO (legateref08_Size.f k a0 a1 a2 a3) (legateref08_Size.f (k + 1) a0 a1 a2 a3) := by
  intro a0 a1 a2 a3 k
  obtain ⟨ih0, ih1⟩ := legateref08_Size.mono_l k
  exact ih0 a0 a1 a2 a3
set_option maxHeartbeats 8000000 in
set_option maxRecDepth 100000 in
theorem legateref08_Size.calls (k : Nat) : ∀ (a0_0 : Int) (a0_1 : ByteArray) (a0_2 : Int) (A0_3 : Option Addr) (c0_3 : Nat) (l0_3 : List (S29)) (r : Int) (w : World) (hr0_3 : Kd.C k29 w A0_3 l0_3.length l0_3) (hc0_3 : l0_3.length ≤ c0_3) (h : legateref08_Size.f k a0_0 a0_1 a0_2 l0_3 = some r),
    Calls Tryd.prog 27 #[.agg #[.int .i64 a0_0, .string a0_1, .int .i64 a0_2, .slice A0_3 l0_3.length c0_3]] w fun e w' => e = .returned (.int .i64 r) ∧ Below w.heap.size w w' := by
  induction k using Nat.strongRecOn with
  | _ k ih =>
  intro a0_0 a0_1 a0_2 A0_3 c0_3 l0_3 r w hr0_3 hc0_3 h
  cases k with
  | zero => exact absurd h (by simp [legateref08_Size.f])
  | succ k =>
  simp only [legateref08_Size.f] at h
  have hu29 := Tryd.underlying29
  have HR0_3 := Aside0.mk hr0_3
  have HC0_3 := Aside0.mk hc0_3
  clear hr0_3 hc0_3
  have HB := Aside0.mk (Below.refl w.heap.size w)
  have H : (legateref08_Size.l0 k 1 0 a0_0 a0_1 a0_2 l0_3) = some r := h
  clear h
  have H' := Aside0.mk H
  clear H
  go_enter Tryd.func27, Tryd.ntmps27
  go_wp2_with (first | ((with_reducible refine gate_dst (N := 1) rfl ?_); refine box_event ?hg (N := 1) ?hd (cs := #[.int .i64 a0_0, .string a0_1, .int .i64 a0_2, .slice A0_3 l0_3.length c0_3]) (t := 29) ?hr ?_; (case hd => rfl); (case hg => rfl); (case hr => first | (go_simp; done) | (go_simp; rfl)); intro gb165 hg w2 hbox hb; have n0_ := Aside0.mk (below_step (by repeat (first | (with_reducible first | exact HB.out | apply below_alloc | apply pw_below_drewN | apply below_drew1) | exact HB.out)) hb); have n1_ := Aside0.mk (hbox); have n2_ := Aside0.mk ((by rw [hg]; exact (below_size (by repeat (first | (with_reducible first | exact HB.out | apply below_alloc | apply pw_below_drewN | apply below_drew1) | exact HB.out))) : w.heap.size ≤ gb165)); have n3_ := Aside0.mk ((by rw [hg]; exact (below_size (by repeat (first | (with_reducible first | exact HB.out | apply below_alloc | apply pw_below_drewN | apply below_drew1) | exact HB.out))) : w.heap.size ≤ gb165)); clear HB; have HB := n0_; have BK165 := n1_; have GW165 := n2_; have GE165 := n3_; clear n0_ n1_ n2_ n3_; clear hb hbox hg))
  go_loopg [3, 4] k (fun kq v3 v4 w' => ∃ (x3_1 : Int) (x4_1 : Int), v3 = .int .i64 x3_1 ∧ v4 = .int .i64 x4_1 ∧ Aside0 (legateref08_Size.l0 kq x3_1 x4_1 a0_0 a0_1 a0_2 l0_3 = some r) ∧ Aside0 (kq ≤ k) ∧ Aside0 (w'.heap[gb165]? = some (.cells #[.int .i64 a0_0, .string a0_1, .int .i64 a0_2, (.slice A0_3 l0_3.length c0_3)] 29 (0, 0))) ∧ Aside0 (Below w.heap.size w w'))
  case atStart => exact ⟨(1), (0), (by first | rfl | (simp; done) | (simp [*]; done) | (simp; exact isEmpty_ne _)), (by first | rfl | (simp; done) | (simp [*]; done) | (simp; exact isEmpty_ne _)), H', ⟨Nat.le_refl _⟩, ⟨by (with_reducible repeat (first | refine blk_drewN ?_ _ | refine blk_drew ?_ | refine blk_alloc ?_ _)); exact BK165.out⟩, ⟨by repeat (first | (with_reducible first | exact HB.out | apply below_alloc | apply pw_below_drewN | apply below_drew1 | refine below_set ?_ GE165.out) | exact HB.out)⟩⟩
  case round =>
    clear H'
    try clear c2
    try clear p2
    obtain ⟨x3_1, x4_1, rfl, rfl, HA, HK1, BK165, HB⟩ := hrel
    cases gk with
    | zero => exact absurd HA.out (by simp [legateref08_Size.l0])
    | succ k1 =>
      have H := HA.out
      clear HA
      simp only [legateref08_Size.l0] at H
      by_cases c3 : x4_1 < (l0_3.length : Int)
      · rw [if_pos c3] at H
        have c3b0 : decide (x4_1 < (l0_3.length : Int)) = true := decide_eq_true c3
        clear c3
        by_cases c4 : 0 ≤ x4_1
        · rw [if_pos c4] at H
          have c4b0 : decide (0 ≤ x4_1) = true := decide_eq_true c4
          clear c4
          replace H := Option.bind_eq_some_iff.mp H
          obtain ⟨t167, A50, H⟩ := H
          replace H : (legateref08_Size.l0 k1 (wrap64 (x3_1 + t167)) (wrap64 (x4_1 + 1)) a0_0 a0_1 a0_2 l0_3) = some r := H
          have A5 := Aside0.mk A50
          clear A50
          have H' := Aside0.mk H
          clear H
          have hcz6_0 : wr.cell? ⟨gb165, 0, none⟩ = some (.int .i64 a0_0) := (blk_cell BK165.out 0).trans rfl
          have hcz6_1 : wr.cell? ⟨gb165, 1, none⟩ = some (.string a0_1) := (blk_cell BK165.out 1).trans rfl
          have hcz6_2 : wr.cell? ⟨gb165, 2, none⟩ = some (.int .i64 a0_2) := (blk_cell BK165.out 2).trans rfl
          have hcz6_3 : wr.cell? ⟨gb165, 3, none⟩ = some (.slice A0_3 l0_3.length c0_3) := (blk_cell BK165.out 3).trans rfl
          have hfz6_0 := blk_frozen BK165.out 0
          have hfz6_1 := blk_frozen BK165.out 1
          have hfz6_2 := blk_frozen BK165.out 2
          have hfz6_3 := blk_frozen BK165.out 3
          have p166 : 0 ≤ (x4_1 : Int) := of_decide_eq_true (by first | (with_reducible assumption) | assumption)
          have q166 : x4_1 < (l0_3.length : Int) := of_decide_eq_true (by first | (with_reducible assumption) | assumption)
          obtain ⟨ad166, A166_3, c166_3, e166, hx166_0, hx166_1, hx166_2, hx166_3, hl166_3, hi166_3⟩ := at_T29 HR0_3.out x4_1 p166 q166
          cases e166
          replace hx166_0 := (HB.out.cell (World.block_lt_of_cell? w _ hx166_0)).trans hx166_0
          replace hx166_1 := (HB.out.cell (World.block_lt_of_cell? w _ hx166_1)).trans hx166_1
          replace hx166_2 := (HB.out.cell (World.block_lt_of_cell? w _ hx166_2)).trans hx166_2
          replace hx166_3 := (HB.out.cell (World.block_lt_of_cell? w _ hx166_3)).trans hx166_3
          have HR166_3 := Aside0.mk hi166_3
          have HC166_3 := Aside0.mk hl166_3
          clear hi166_3 hl166_3
          replace p166 := eq_true p166
          replace q166 := eq_true q166
          go_wp2_with (first | ((with_reducible refine gate_callee (f := 27) rfl ?_); refine goesL_ (some 18) rfl rfl Tryd.func27 (by kernel_rfl) rfl #[.agg #[.int .i64 ((rd_T29 l0_3 x4_1).f0), .string ((rd_T29 l0_3 x4_1).f1), .int .i64 ((rd_T29 l0_3 x4_1).f2), .slice A166_3 ((rd_T29 l0_3 x4_1).f3).length c166_3]] rfl (by (try simp only [List.map_toArray, List.map_cons, List.map_nil]); first | done | rfl | (simp only [List.length_drop, List.length_take]; rfl) | (exact congrArg Value.bool (decide_eq_decide.2 Int.ofNat_lt.symm)) | (exact congrArg (fun b => #[Value.bool b]) (decide_eq_decide.2 Int.ofNat_lt.symm)) | (simp; done)) ?_; (with_reducible refine (ih k1 (by have := HK1.out; omega) ((rd_T29 l0_3 x4_1).f0) ((rd_T29 l0_3 x4_1).f1) ((rd_T29 l0_3 x4_1).f2) _ _ ((rd_T29 l0_3 x4_1).f3) t167 _ ?side1 ?side2 A5.out).mono ?_); (case side1 => repeat (first | exact (Kd.C_below HR166_3.out HB.out) | (with_reducible refine Kd.C_alloc ?_ _) | (with_reducible refine Kd.C_drewN ?_ _) | (with_reducible refine Kd.C_drew ?_))); (case side2 => exact HC166_3.out); rintro e w7 ⟨rfl, hb⟩; refine ⟨_, rfl, ?_⟩; have n0_ := Aside0.mk (blk_below (g := gb165) (o := .cells #[.int .i64 a0_0, .string a0_1, .int .i64 a0_2, .slice (some ad166) l0_3.length c0_3] 29 (0, 0)) (by (with_reducible repeat (first | refine blk_drewN ?_ _ | refine blk_drew ?_ | refine blk_alloc ?_ _)); exact BK165.out) hb); have n1_ := Aside0.mk (below_step (by repeat (first | (with_reducible first | exact HB.out | apply below_alloc | apply pw_below_drewN | apply below_drew1 | refine below_set ?_ GE165.out) | exact HB.out)) hb); clear BK165; clear HB; have BK165 := n0_; have HB := n1_; clear n0_ n1_; (try clear hb); (try clear hb2); (try clear hk); (try clear hi)))
          go_roundg k1
          case measure => have := HK1.out; omega
          case rel => exact ⟨(wrap64 (x3_1 + t167)), (wrap64 (x4_1 + 1)), (by first | rfl | (simp; done) | (simp [*]; done) | (simp; exact isEmpty_ne _)), (by first | rfl | (simp; done) | (simp [*]; done) | (simp; exact isEmpty_ne _)), H', ⟨by have := HK1.out; omega⟩, ⟨by (with_reducible repeat (first | refine blk_drewN ?_ _ | refine blk_drew ?_ | refine blk_alloc ?_ _)); exact BK165.out⟩, ⟨by repeat (first | (with_reducible first | exact HB.out | apply below_alloc | apply pw_below_drewN | apply below_drew1 | refine below_set ?_ GE165.out) | exact HB.out)⟩⟩
        · rw [if_neg c4] at H
          exact absurd H (by simp)
      · rw [if_neg c3] at H
        have c3b0 : decide (x4_1 < (l0_3.length : Int)) = false := decide_eq_false c3
        clear c3
        obtain rfl := Option.some.inj H
        have hcz8_0 : wr.cell? ⟨gb165, 0, none⟩ = some (.int .i64 a0_0) := (blk_cell BK165.out 0).trans rfl
        have hcz8_1 : wr.cell? ⟨gb165, 1, none⟩ = some (.string a0_1) := (blk_cell BK165.out 1).trans rfl
        have hcz8_2 : wr.cell? ⟨gb165, 2, none⟩ = some (.int .i64 a0_2) := (blk_cell BK165.out 2).trans rfl
        have hcz8_3 : wr.cell? ⟨gb165, 3, none⟩ = some (.slice A0_3 l0_3.length c0_3) := (blk_cell BK165.out 3).trans rfl
        have hfz8_0 := blk_frozen BK165.out 0
        have hfz8_1 := blk_frozen BK165.out 1
        have hfz8_2 := blk_frozen BK165.out 2
        have hfz8_3 := blk_frozen BK165.out 3
        go_wp2
        go_ret
        exact ⟨by first | rfl | (simp [errW_none, errW_some] <;> rfl) | (simp [*, errW_none, errW_some] <;> rfl), by repeat (first | (with_reducible first | exact HB.out | apply below_alloc | apply pw_below_drewN | apply below_drew1 | refine below_set ?_ GE165.out) | exact HB.out)⟩
def legateref08_Large.f (k : Nat) (a0_0 : Int) (a0_1 : ByteArray) (a0_2 : Int) (l0_3 : List (S29)) (a1 : Int) : Option (Bool) := (legateref08_Size.f k a0_0 a0_1 a0_2 l0_3).bind fun t169 => (some (decide (t169 > a1)))
theorem legateref08_Large.mono : ∀ a0 a1 a2 a3 a4 k, LeO (legateref08_Large.f k a0 a1 a2 a3 a4) (legateref08_Large.f (k + 1) a0 a1 a2 a3 a4) := by
  intro a0 a1 a2 a3 a4 k
  unfold legateref08_Large.f
  repeat' first
      | (with_reducible exact legateref08_Size.mono _ _ _ _ _)
      | (with_reducible exact LeO.refl _)
      | (with_reducible exact LeO.none _)
      | (with_reducible refine LeO.ite ?_ ?_)
      | (with_reducible refine LeO.bind ?_ (fun _ => ?_))
      | exact legateref08_Size.mono _ _ _ _ _
      | exact LeO.none _
      | refine LeO.ite ?_ ?_
      | refine LeO.bind ?_ (fun _ => ?_)
set_option maxHeartbeats 8000000 in
set_option maxRecDepth 100000 in
theorem legateref08_Large.calls (k : Nat) (a0_0 : Int) (a0_1 : ByteArray) (a0_2 : Int) (A0_3 : Option Addr) (c0_3 : Nat) (l0_3 : List (S29)) (a1 : Int) (r : Bool) (w : World) (hr0_3 : Kd.C k29 w A0_3 l0_3.length l0_3) (hc0_3 : l0_3.length ≤ c0_3) (h : legateref08_Large.f k a0_0 a0_1 a0_2 l0_3 a1 = some r) :
    Calls Tryd.prog 9 #[.agg #[.int .i64 a0_0, .string a0_1, .int .i64 a0_2, .slice A0_3 l0_3.length c0_3], .int .i64 a1] w fun e w' => e = .returned (.bool r) ∧ Below w.heap.size w w' := by
  have hu29 := Tryd.underlying29
  have HR0_3 := Aside0.mk hr0_3
  have HC0_3 := Aside0.mk hc0_3
  clear hr0_3 hc0_3
  have HB := Aside0.mk (Below.refl w.heap.size w)
  have H : ((legateref08_Size.f k a0_0 a0_1 a0_2 l0_3).bind fun t169 => (some (decide (t169 > a1)))) = some r := h
  clear h
  replace H := Option.bind_eq_some_iff.mp H
  obtain ⟨t169, A30, H⟩ := H
  replace H : (some (decide (t169 > a1))) = some r := H
  have A3 := Aside0.mk A30
  clear A30
  obtain rfl := Option.some.inj H
  go_enter Tryd.func9, Tryd.ntmps9
  go_wp2_with (first | ((with_reducible refine gate_dst (N := 2) rfl ?_); refine box_event ?hg (N := 2) ?hd (cs := #[.int .i64 a0_0, .string a0_1, .int .i64 a0_2, .slice A0_3 l0_3.length c0_3]) (t := 29) ?hr ?_; (case hd => rfl); (case hg => rfl); (case hr => first | (go_simp; done) | (go_simp; rfl)); intro gb168 hg w4 hbox hb; have n0_ := Aside0.mk (below_step (by repeat (first | (with_reducible first | exact HB.out | apply below_alloc | apply pw_below_drewN | apply below_drew1) | exact HB.out)) hb); have n1_ := Aside0.mk (hbox); have n2_ := Aside0.mk ((by rw [hg]; exact (below_size (by repeat (first | (with_reducible first | exact HB.out | apply below_alloc | apply pw_below_drewN | apply below_drew1) | exact HB.out))) : w.heap.size ≤ gb168)); have n3_ := Aside0.mk ((by rw [hg]; exact (below_size (by repeat (first | (with_reducible first | exact HB.out | apply below_alloc | apply pw_below_drewN | apply below_drew1) | exact HB.out))) : w.heap.size ≤ gb168)); clear HB; have HB := n0_; have BK168 := n1_; have GW168 := n2_; have GE168 := n3_; clear n0_ n1_ n2_ n3_; clear hb hbox hg; have hcz5_0 : w4.cell? ⟨gb168, 0, none⟩ = some (.int .i64 a0_0) := (blk_cell BK168.out 0).trans rfl; have hcz5_1 : w4.cell? ⟨gb168, 1, none⟩ = some (.string a0_1) := (blk_cell BK168.out 1).trans rfl; have hcz5_2 : w4.cell? ⟨gb168, 2, none⟩ = some (.int .i64 a0_2) := (blk_cell BK168.out 2).trans rfl; have hcz5_3 : w4.cell? ⟨gb168, 3, none⟩ = some (.slice A0_3 l0_3.length c0_3) := (blk_cell BK168.out 3).trans rfl; have hfz5_0 := blk_frozen BK168.out 0; have hfz5_1 := blk_frozen BK168.out 1; have hfz5_2 := blk_frozen BK168.out 2; have hfz5_3 := blk_frozen BK168.out 3) | ((with_reducible refine gate_callee (f := 27) rfl ?_); refine goesL_ (some 6) rfl rfl Tryd.func27 (by kernel_rfl) rfl #[.agg #[.int .i64 a0_0, .string a0_1, .int .i64 a0_2, .slice A0_3 l0_3.length c0_3]] rfl (by (try simp only [List.map_toArray, List.map_cons, List.map_nil]); first | done | rfl | (simp only [List.length_drop, List.length_take]; rfl) | (exact congrArg Value.bool (decide_eq_decide.2 Int.ofNat_lt.symm)) | (exact congrArg (fun b => #[Value.bool b]) (decide_eq_decide.2 Int.ofNat_lt.symm)) | (simp; done)) ?_; (with_reducible refine (legateref08_Size.calls k a0_0 a0_1 a0_2 _ _ l0_3 t169 _ ?side1 ?side2 A3.out).mono ?_); (case side1 => repeat (first | exact (Kd.C_below HR0_3.out HB.out) | (with_reducible refine Kd.C_alloc ?_ _) | (with_reducible refine Kd.C_drewN ?_ _) | (with_reducible refine Kd.C_drew ?_))); (case side2 => exact HC0_3.out); rintro e w6 ⟨rfl, hb⟩; refine ⟨_, rfl, ?_⟩; have n0_ := Aside0.mk (blk_below (g := gb168) (o := .cells #[.int .i64 a0_0, .string a0_1, .int .i64 a0_2, .slice A0_3 l0_3.length c0_3] 29 (0, 0)) (by (with_reducible repeat (first | refine blk_drewN ?_ _ | refine blk_drew ?_ | refine blk_alloc ?_ _)); exact BK168.out) hb); have n1_ := Aside0.mk (below_step (by repeat (first | (with_reducible first | exact HB.out | apply below_alloc | apply pw_below_drewN | apply below_drew1 | refine below_set ?_ GE168.out) | exact HB.out)) hb); clear BK168; clear HB; have BK168 := n0_; have HB := n1_; clear n0_ n1_; (try clear hb); (try clear hb2); (try clear hk); (try clear hi)))
  go_ret
  exact ⟨by first | rfl | (simp [errW_none, errW_some] <;> rfl) | (simp [*, errW_none, errW_some] <;> rfl), by repeat (first | (with_reducible first | exact HB.out | apply below_alloc | apply pw_below_drewN | apply below_drew1 | refine below_set ?_ GE168.out) | exact HB.out)⟩
def legateref08_Num.f (a0 : Int) : Option (Int × ByteArray × Int × (List (S29))) := some (1, (⟨#[]⟩ : ByteArray), a0, ([] : List (S29)))
set_option maxHeartbeats 8000000 in
set_option maxRecDepth 100000 in
theorem legateref08_Num.calls (a0 : Int) (r1 : Int) (r2 : ByteArray) (r3 : Int) (r4 : List (S29)) (w : World) (h : legateref08_Num.f a0 = some (r1, r2, r3, r4)) :
    Calls Tryd.prog 36 #[.int .i64 a0] w fun e w' => ∃ v3_ : Value, e = .returned (.agg #[.int .i64 r1, .string r2, .int .i64 r3, v3_]) ∧ Kd.R k29 29 w' w.heap.size (fun _ => True) v3_ r4 ∧ Below w.heap.size w w' := by
  have hu29 := Tryd.underlying29
  have HB := Aside0.mk (Below.refl w.heap.size w)
  have H : (some (1, (⟨#[]⟩ : ByteArray), a0, ([] : List (S29)))) = some (r1, r2, r3, r4) := h
  clear h
  simp only [Option.some.injEq, Prod.mk.injEq] at H
  obtain ⟨rfl, rfl, rfl, rfl⟩ := H
  go_enter Tryd.func36, Tryd.ntmps36
  go_wp2_with (first | ((with_reducible refine gate_dst (N := 2) rfl ?_); refine box_event ?hg (N := 2) ?hd (cs := #[.int .i64 0, .string (⟨#[]⟩ : ByteArray), .int .i64 0, .slice none 0 0]) (t := 29) ?hr ?_; (case hd => rfl); (case hg => rfl); (case hr => first | (go_simp; done) | (go_simp; rfl)); intro gb171 hg w2 hbox hb; have n0_ := Aside0.mk (below_step (by repeat (first | (with_reducible first | exact HB.out | apply below_alloc | apply pw_below_drewN | apply below_drew1) | exact HB.out)) hb); have n1_ := Aside0.mk (hbox); have n2_ := Aside0.mk ((by rw [hg]; exact (below_size (by repeat (first | (with_reducible first | exact HB.out | apply below_alloc | apply pw_below_drewN | apply below_drew1) | exact HB.out))) : w.heap.size ≤ gb171)); have n3_ := Aside0.mk ((by rw [hg]; exact (below_size (by repeat (first | (with_reducible first | exact HB.out | apply below_alloc | apply pw_below_drewN | apply below_drew1) | exact HB.out))) : w.heap.size ≤ gb171)); clear HB; have HB := n0_; have BK171 := n1_; have GW171 := n2_; have GE171 := n3_; clear n0_ n1_ n2_ n3_; clear hb hbox hg; have hcz3_0 : w2.cell? ⟨gb171, 0, none⟩ = some (.int .i64 0) := (blk_cell BK171.out 0).trans rfl; have hcz3_1 : w2.cell? ⟨gb171, 1, none⟩ = some (.string (⟨#[]⟩ : ByteArray)) := (blk_cell BK171.out 1).trans rfl; have hcz3_2 : w2.cell? ⟨gb171, 2, none⟩ = some (.int .i64 0) := (blk_cell BK171.out 2).trans rfl; have hcz3_3 : w2.cell? ⟨gb171, 3, none⟩ = some (.slice none 0 0) := (blk_cell BK171.out 3).trans rfl; have hfz3_0 := blk_frozen BK171.out 0; have hfz3_1 := blk_frozen BK171.out 1; have hfz3_2 := blk_frozen BK171.out 2; have hfz3_3 := blk_frozen BK171.out 3))
  refine bodyPost_ret (results_cell_row rfl _ _ gb171 29 #[.int .i64 1, .string (⟨#[]⟩ : ByteArray), .int .i64 a0, .slice none 0 0] (0, 0) _ rfl (by (with_reducible repeat (first | refine blk_drewN ?_ _ | refine blk_drew ?_ | refine blk_alloc ?_ _)); refine blk_put (cs := #[.int .i64 1, .string (⟨#[]⟩ : ByteArray), .int .i64 a0, .slice none 0 0]) ?_ 3 _ rfl; (with_reducible repeat (first | refine blk_drewN ?_ _ | refine blk_drew ?_ | refine blk_alloc ?_ _)); refine blk_put (cs := #[.int .i64 1, .string (⟨#[]⟩ : ByteArray), .int .i64 0, .slice none 0 0]) ?_ 2 _ rfl; (with_reducible repeat (first | refine blk_drewN ?_ _ | refine blk_drew ?_ | refine blk_alloc ?_ _)); refine blk_put (cs := #[.int .i64 1, .string (⟨#[]⟩ : ByteArray), .int .i64 0, .slice none 0 0]) ?_ 1 _ rfl; (with_reducible repeat (first | refine blk_drewN ?_ _ | refine blk_drew ?_ | refine blk_alloc ?_ _)); refine blk_put (cs := #[.int .i64 0, .string (⟨#[]⟩ : ByteArray), .int .i64 0, .slice none 0 0]) ?_ 0 _ rfl; (with_reducible repeat (first | refine blk_drewN ?_ _ | refine blk_drew ?_ | refine blk_alloc ?_ _)); exact BK171.out) Tryd.underlying29 rfl (by kernel_rfl)) rfl ?_
  exact ⟨_, by first | rfl | (simp [errW_none, errW_some] <;> rfl) | (simp [*, errW_none, errW_some] <;> rfl), by first | exact Kd.R_nil _ _ _ _ _ | exact Kd.N_nil _ _ _ _ _ | exact Kd.V_nil _ _ _ _ _ | exact Kd.Q_nil _ _ _ _ _ | exact Kd.S_nil _ _ _ _ _, by repeat (first | (with_reducible first | exact HB.out | apply below_alloc | apply pw_below_drewN | apply below_drew1 | refine below_set ?_ GE171.out) | exact HB.out)⟩
def legateref08_Of.f (a0 : ByteArray) : Option (Int × ByteArray × Int × (List (S29))) := some (0, a0, 0, ([] : List (S29)))
set_option maxHeartbeats 8000000 in
set_option maxRecDepth 100000 in
theorem legateref08_Of.calls (a0 : ByteArray) (r1 : Int) (r2 : ByteArray) (r3 : Int) (r4 : List (S29)) (w : World) (h : legateref08_Of.f a0 = some (r1, r2, r3, r4)) :
    Calls Tryd.prog 37 #[.string a0] w fun e w' => ∃ v3_ : Value, e = .returned (.agg #[.int .i64 r1, .string r2, .int .i64 r3, v3_]) ∧ Kd.R k29 29 w' w.heap.size (fun _ => True) v3_ r4 ∧ Below w.heap.size w w' := by
  have hu29 := Tryd.underlying29
  have HB := Aside0.mk (Below.refl w.heap.size w)
  have H : (some (0, a0, 0, ([] : List (S29)))) = some (r1, r2, r3, r4) := h
  clear h
  simp only [Option.some.injEq, Prod.mk.injEq] at H
  obtain ⟨rfl, rfl, rfl, rfl⟩ := H
  go_enter Tryd.func37, Tryd.ntmps37
  go_wp2_with (first | ((with_reducible refine gate_dst (N := 2) rfl ?_); refine box_event ?hg (N := 2) ?hd (cs := #[.int .i64 0, .string (⟨#[]⟩ : ByteArray), .int .i64 0, .slice none 0 0]) (t := 29) ?hr ?_; (case hd => rfl); (case hg => rfl); (case hr => first | (go_simp; done) | (go_simp; rfl)); intro gb172 hg w2 hbox hb; have n0_ := Aside0.mk (below_step (by repeat (first | (with_reducible first | exact HB.out | apply below_alloc | apply pw_below_drewN | apply below_drew1) | exact HB.out)) hb); have n1_ := Aside0.mk (hbox); have n2_ := Aside0.mk ((by rw [hg]; exact (below_size (by repeat (first | (with_reducible first | exact HB.out | apply below_alloc | apply pw_below_drewN | apply below_drew1) | exact HB.out))) : w.heap.size ≤ gb172)); have n3_ := Aside0.mk ((by rw [hg]; exact (below_size (by repeat (first | (with_reducible first | exact HB.out | apply below_alloc | apply pw_below_drewN | apply below_drew1) | exact HB.out))) : w.heap.size ≤ gb172)); clear HB; have HB := n0_; have BK172 := n1_; have GW172 := n2_; have GE172 := n3_; clear n0_ n1_ n2_ n3_; clear hb hbox hg; have hcz3_0 : w2.cell? ⟨gb172, 0, none⟩ = some (.int .i64 0) := (blk_cell BK172.out 0).trans rfl; have hcz3_1 : w2.cell? ⟨gb172, 1, none⟩ = some (.string (⟨#[]⟩ : ByteArray)) := (blk_cell BK172.out 1).trans rfl; have hcz3_2 : w2.cell? ⟨gb172, 2, none⟩ = some (.int .i64 0) := (blk_cell BK172.out 2).trans rfl; have hcz3_3 : w2.cell? ⟨gb172, 3, none⟩ = some (.slice none 0 0) := (blk_cell BK172.out 3).trans rfl; have hfz3_0 := blk_frozen BK172.out 0; have hfz3_1 := blk_frozen BK172.out 1; have hfz3_2 := blk_frozen BK172.out 2; have hfz3_3 := blk_frozen BK172.out 3))
  refine bodyPost_ret (results_cell_row rfl _ _ gb172 29 #[.int .i64 0, .string a0, .int .i64 0, .slice none 0 0] (0, 0) _ rfl (by (with_reducible repeat (first | refine blk_drewN ?_ _ | refine blk_drew ?_ | refine blk_alloc ?_ _)); refine blk_put (cs := #[.int .i64 0, .string a0, .int .i64 0, .slice none 0 0]) ?_ 3 _ rfl; (with_reducible repeat (first | refine blk_drewN ?_ _ | refine blk_drew ?_ | refine blk_alloc ?_ _)); refine blk_put (cs := #[.int .i64 0, .string a0, .int .i64 0, .slice none 0 0]) ?_ 2 _ rfl; (with_reducible repeat (first | refine blk_drewN ?_ _ | refine blk_drew ?_ | refine blk_alloc ?_ _)); refine blk_put (cs := #[.int .i64 0, .string (⟨#[]⟩ : ByteArray), .int .i64 0, .slice none 0 0]) ?_ 1 _ rfl; (with_reducible repeat (first | refine blk_drewN ?_ _ | refine blk_drew ?_ | refine blk_alloc ?_ _)); refine blk_put (cs := #[.int .i64 0, .string (⟨#[]⟩ : ByteArray), .int .i64 0, .slice none 0 0]) ?_ 0 _ rfl; (with_reducible repeat (first | refine blk_drewN ?_ _ | refine blk_drew ?_ | refine blk_alloc ?_ _)); exact BK172.out) Tryd.underlying29 rfl (by kernel_rfl)) rfl ?_
  exact ⟨_, by first | rfl | (simp [errW_none, errW_some] <;> rfl) | (simp [*, errW_none, errW_some] <;> rfl), by first | exact Kd.R_nil _ _ _ _ _ | exact Kd.N_nil _ _ _ _ _ | exact Kd.V_nil _ _ _ _ _ | exact Kd.Q_nil _ _ _ _ _ | exact Kd.S_nil _ _ _ _ _, by repeat (first | (with_reducible first | exact HB.out | apply below_alloc | apply pw_below_drewN | apply below_drew1 | refine below_set ?_ GE172.out) | exact HB.out)⟩
def legateref08_Row.l0 : Nat → List ByteArray → Int → Int → ByteArray → Int → List (S29) → Option (Int × ByteArray × Int × (List (S29)))
  | 0, _, _, _, _, _, _ => none
  | k + 1, x0, x4, x175000, x175001, x175002, x175003 => if x4 < (x0.length : Int) then (if 0 ≤ x4 then ((legateref08_Of.f (rdOf ByteArray.empty x0 x4)).bind fun bt176 => (if x175003.length < 2513169434916 then (legateref08_Row.l0 k x0 (wrap64 (x4 + 1)) x175000 x175001 x175002 (x175003 ++ [(⟨bt176.1, bt176.2.1, bt176.2.2.1, bt176.2.2.2⟩ : S29)])) else (none))) else (none)) else (some (x175000, x175001, x175002, x175003))
def legateref08_Row.f (k : Nat) (l0 : List ByteArray) : Option (Int × ByteArray × Int × (List (S29))) := legateref08_Row.l0 k l0 0 3 (⟨#[]⟩ : ByteArray) 0 ([] : List (S29))
theorem legateref08_Row.mono_l : ∀ k, (∀ y0 y1 y2 y3 y4 y5, LeO (legateref08_Row.l0 k y0 y1 y2 y3 y4 y5) (legateref08_Row.l0 (k + 1) y0 y1 y2 y3 y4 y5))
  | 0 => fun _ _ _ _ _ _ r h => by simp [legateref08_Row.l0] at h
  | k + 1 => by
    have ih0 := legateref08_Row.mono_l k
    · intro y0 y1 y2 y3 y4 y5
      unfold legateref08_Row.l0
      repeat' first
      | (with_reducible exact ih0 _ _ _ _ _ _)
      | (with_reducible exact LeO.refl _)
      | (with_reducible exact LeO.none _)
      | (with_reducible refine LeO.ite ?_ ?_)
      | (with_reducible refine LeO.bind ?_ (fun _ => ?_))
      | exact ih0 _ _ _ _ _ _
      | exact LeO.none _
      | refine LeO.ite ?_ ?_
      | refine LeO.bind ?_ (fun _ => ?_)
theorem legateref08_Row.mono : ∀ a0 k, LeO (legateref08_Row.f k a0) (legateref08_Row.f (k + 1) a0) := by
  intro a0 k
  have ih0 := legateref08_Row.mono_l k
  unfold legateref08_Row.f
  repeat' first
      | (with_reducible exact ih0 _ _ _ _ _ _)
      | (with_reducible exact LeO.refl _)
      | (with_reducible exact LeO.none _)
      | (with_reducible refine LeO.ite ?_ ?_)
      | (with_reducible refine LeO.bind ?_ (fun _ => ?_))
      | exact ih0 _ _ _ _ _ _
      | exact LeO.none _
      | refine LeO.ite ?_ ?_
      | refine LeO.bind ?_ (fun _ => ?_)
def legateref08_Row.T5 : Bool × List (List Nat × List Nat) := (true, [([], []), ([0], [0]), ([], []), ([], []), ([2, 3], [2, 3]), ([4], [4]), ([5], [5]), ([6], [6]), ([1, 7, 6], [1, 7]), ([0, 1, 2, 3, 4, 5, 6, 7, 8], []), ([9, 8, 8, 0, 1, 2, 3, 4, 5, 6, 7, 8], [8, 9])])
def legateref08_Row.B5 : List Nat := [0, 1, 0, 0, 12, 28, 60, 124, 255, 511, 1023]
theorem legateref08_Row.tab5 : rtab .any (opsOf Tryd.f38 5) = legateref08_Row.T5 := by kernel_rfl
theorem legateref08_Row.bits5 : waitsOk legateref08_Row.T5.2 legateref08_Row.B5 = true := by kernel_rfl
set_option maxHeartbeats 8000000 in
set_option maxRecDepth 100000 in
theorem legateref08_Row.calls (k : Nat) (A0 : Option Addr) (c0 : Nat) (l0 : List ByteArray) (r1 : Int) (r2 : ByteArray) (r3 : Int) (r4 : List (S29)) (w : World) (hr0 : Kd.C Kd.string w A0 l0.length l0) (hc0 : l0.length ≤ c0) (h : legateref08_Row.f k l0 = some (r1, r2, r3, r4)) :
    Calls Tryd.prog 38 #[.slice A0 l0.length c0] w fun e w' => ∃ v3_ : Value, e = .returned (.agg #[.int .i64 r1, .string r2, .int .i64 r3, v3_]) ∧ Kd.R k29 29 w' w.heap.size (fun _ => True) v3_ r4 ∧ Below w.heap.size w w' := by
  have hu29 := Tryd.underlying29
  have HR0 := Aside0.mk hr0
  have HC0 := Aside0.mk hc0
  clear hr0 hc0
  have HB := Aside0.mk (Below.refl w.heap.size w)
  have H : (legateref08_Row.l0 k l0 0 3 (⟨#[]⟩ : ByteArray) 0 ([] : List (S29))) = some (r1, r2, r3, r4) := h
  clear h
  have H' := Aside0.mk H
  clear H
  go_enter Tryd.func38, Tryd.ntmps38
  go_wp2_with (first | ((with_reducible refine gate_dst (N := 2) rfl ?_); refine box_event ?hg (N := 2) ?hd (cs := #[.int .i64 0, .string (⟨#[]⟩ : ByteArray), .int .i64 0, .slice none 0 0]) (t := 29) ?hr ?_; (case hd => rfl); (case hg => rfl); (case hr => first | (go_simp; done) | (go_simp; rfl)); intro gb173 hg w2 hbox hb; have n0_ := Aside0.mk (below_step (by repeat (first | (with_reducible first | exact HB.out | apply below_alloc | apply pw_below_drewN | apply below_drew1) | exact HB.out)) hb); have n1_ := Aside0.mk (hbox); have n2_ := Aside0.mk ((by rw [hg]; exact (below_size (by repeat (first | (with_reducible first | exact HB.out | apply below_alloc | apply pw_below_drewN | apply below_drew1) | exact HB.out))) : w.heap.size ≤ gb173)); have n3_ := Aside0.mk ((by rw [hg]; exact (below_size (by repeat (first | (with_reducible first | exact HB.out | apply below_alloc | apply pw_below_drewN | apply below_drew1) | exact HB.out))) : w.heap.size ≤ gb173)); clear HB; have HB := n0_; have BK173 := n1_; have GW173 := n2_; have GE173 := n3_; clear n0_ n1_ n2_ n3_; clear hb hbox hg) | ((with_reducible refine gate_dst (N := 3) rfl ?_); refine box_event ?hg (N := 3) ?hd (cs := #[.int .i64 0, .string (⟨#[]⟩ : ByteArray), .int .i64 0, .slice none 0 0]) (t := 29) ?hr ?_; (case hd => rfl); (case hg => rfl); (case hr => first | (go_simp; done) | (go_simp; rfl)); intro gb174 hg w3 hbox hb; have n0_ := Aside0.mk (blk_below (g := gb173) (o := .cells #[.int .i64 0, .string (⟨#[]⟩ : ByteArray), .int .i64 0, .slice none 0 0] 29 (0, 0)) (by (with_reducible repeat (first | refine blk_drewN ?_ _ | refine blk_drew ?_ | refine blk_alloc ?_ _)); exact BK173.out) hb); have n1_ := Aside0.mk (below_step (by repeat (first | (with_reducible first | exact HB.out | apply below_alloc | apply pw_below_drewN | apply below_drew1 | refine below_set ?_ GE173.out) | exact HB.out)) hb); have n2_ := Aside0.mk (hbox); have n3_ := Aside0.mk ((by rw [hg]; exact (below_size (by repeat (first | (with_reducible first | exact HB.out | apply below_alloc | apply pw_below_drewN | apply below_drew1 | refine below_set ?_ GE173.out) | exact HB.out))) : w.heap.size ≤ gb174)); have n4_ := Aside0.mk ((by rw [hg]; exact (below_size (by repeat (first | (with_reducible first | exact HB.out | apply below_alloc | apply pw_below_drewN | apply below_drew1 | refine below_set ?_ GE173.out) | exact HB.out))) : w.heap.size ≤ gb174)); have n5_ := Aside0.mk ((by rw [hg]; exact Nat.ne_of_lt (blk_lt (g := gb173) (o := .cells #[.int .i64 0, .string (⟨#[]⟩ : ByteArray), .int .i64 0, .slice none 0 0] 29 (0, 0)) (by (with_reducible repeat (first | refine blk_drewN ?_ _ | refine blk_drew ?_ | refine blk_alloc ?_ _)); exact BK173.out)) : gb173 ≠ gb174)); have n6_ := Aside0.mk ((by rw [hg]; exact Nat.ne_of_gt (blk_lt (g := gb173) (o := .cells #[.int .i64 0, .string (⟨#[]⟩ : ByteArray), .int .i64 0, .slice none 0 0] 29 (0, 0)) (by (with_reducible repeat (first | refine blk_drewN ?_ _ | refine blk_drew ?_ | refine blk_alloc ?_ _)); exact BK173.out)) : gb174 ≠ gb173)); clear BK173; clear HB; have BK173 := n0_; have HB := n1_; have BK174 := n2_; have GW174 := n3_; have GE174 := n4_; have NB173_174 := n5_; have NB174_173 := n6_; clear n0_ n1_ n2_ n3_ n4_ n5_ n6_; clear hb hbox hg; have hnb4 := NB174_173.out; have hnc4 := NB173_174.out; have hcz5_0 : w3.cell? ⟨gb174, 0, none⟩ = some (.int .i64 0) := (blk_cell BK174.out 0).trans rfl; have hcz5_1 : w3.cell? ⟨gb174, 1, none⟩ = some (.string (⟨#[]⟩ : ByteArray)) := (blk_cell BK174.out 1).trans rfl; have hcz5_2 : w3.cell? ⟨gb174, 2, none⟩ = some (.int .i64 0) := (blk_cell BK174.out 2).trans rfl; have hcz5_3 : w3.cell? ⟨gb174, 3, none⟩ = some (.slice none 0 0) := (blk_cell BK174.out 3).trans rfl; have hfz5_0 := blk_frozen BK174.out 0; have hfz5_1 := blk_frozen BK174.out 1; have hfz5_2 := blk_frozen BK174.out 2; have hfz5_3 := blk_frozen BK174.out 3))
  go_loopg [4] k (fun kq v4 w' => ∃ (x4_1 : Int) (x175003_1 : List (S29)) (u175003 : Value), v4 = .int .i64 x4_1 ∧ Aside0 (legateref08_Row.l0 kq l0 x4_1 3 (⟨#[]⟩ : ByteArray) 0 x175003_1 = some (r1, r2, r3, r4)) ∧ Aside0 (kq ≤ k) ∧ Aside0 (Kd.R k29 29 w' w.heap.size (fun k_ => k_ ≠ gb173 ∧ k_ ≠ gb174) u175003 x175003_1) ∧ Aside0 (w'.heap[gb173]? = some (.cells #[.int .i64 0, .string (⟨#[]⟩ : ByteArray), .int .i64 0, (.slice none 0 0)] 29 (0, 0))) ∧ Aside0 (w'.heap[gb174]? = some (.cells #[.int .i64 3, .string (⟨#[]⟩ : ByteArray), .int .i64 0, u175003] 29 (0, 0))) ∧ Aside0 (Below w.heap.size w w'))
  case atStart => exact ⟨(0), (([] : List (S29))), (.slice none 0 0), (by first | rfl | (simp; done) | (simp [*]; done) | (simp; exact isEmpty_ne _)), H', ⟨Nat.le_refl _⟩, ⟨by first | exact Kd.R_nil _ _ _ _ _ | exact Kd.N_nil _ _ _ _ _ | exact Kd.V_nil _ _ _ _ _ | exact Kd.Q_nil _ _ _ _ _ | exact Kd.S_nil _ _ _ _ _⟩, ⟨by (with_reducible repeat (first | refine blk_drewN ?_ _ | refine blk_drew ?_ | refine blk_alloc ?_ _)); refine blk_far ?_ NB173_174.out _; (with_reducible repeat (first | refine blk_drewN ?_ _ | refine blk_drew ?_ | refine blk_alloc ?_ _)); refine blk_far ?_ NB173_174.out _; (with_reducible repeat (first | refine blk_drewN ?_ _ | refine blk_drew ?_ | refine blk_alloc ?_ _)); refine blk_far ?_ NB173_174.out _; (with_reducible repeat (first | refine blk_drewN ?_ _ | refine blk_drew ?_ | refine blk_alloc ?_ _)); refine blk_far ?_ NB173_174.out _; (with_reducible repeat (first | refine blk_drewN ?_ _ | refine blk_drew ?_ | refine blk_alloc ?_ _)); exact BK173.out⟩, ⟨by (with_reducible repeat (first | refine blk_drewN ?_ _ | refine blk_drew ?_ | refine blk_alloc ?_ _)); refine blk_put (cs := #[.int .i64 3, .string (⟨#[]⟩ : ByteArray), .int .i64 0, .slice none 0 0]) ?_ 3 _ rfl; (with_reducible repeat (first | refine blk_drewN ?_ _ | refine blk_drew ?_ | refine blk_alloc ?_ _)); refine blk_put (cs := #[.int .i64 3, .string (⟨#[]⟩ : ByteArray), .int .i64 0, .slice none 0 0]) ?_ 2 _ rfl; (with_reducible repeat (first | refine blk_drewN ?_ _ | refine blk_drew ?_ | refine blk_alloc ?_ _)); refine blk_put (cs := #[.int .i64 3, .string (⟨#[]⟩ : ByteArray), .int .i64 0, .slice none 0 0]) ?_ 1 _ rfl; (with_reducible repeat (first | refine blk_drewN ?_ _ | refine blk_drew ?_ | refine blk_alloc ?_ _)); refine blk_put (cs := #[.int .i64 0, .string (⟨#[]⟩ : ByteArray), .int .i64 0, .slice none 0 0]) ?_ 0 _ rfl; (with_reducible repeat (first | refine blk_drewN ?_ _ | refine blk_drew ?_ | refine blk_alloc ?_ _)); exact BK174.out⟩, ⟨by repeat (first | (with_reducible first | exact HB.out | apply below_alloc | apply pw_below_drewN | apply below_drew1 | refine below_set ?_ GE173.out | refine below_set ?_ GE174.out) | exact HB.out)⟩⟩
  case round =>
    clear H'
    try clear p2
    try clear c3
    try clear c4
    try clear hcz5_0
    try clear hcz5_1
    try clear hcz5_2
    try clear hcz5_3
    try clear hfz5_0
    try clear hfz5_1
    try clear hfz5_2
    try clear hfz5_3
    obtain ⟨x4_1, x175003_1, u175003, rfl, HA, HK1, HO_175003, BK173, BK174, HB⟩ := hrel
    cases gk with
    | zero => exact absurd HA.out (by simp [legateref08_Row.l0])
    | succ k1 =>
      have H := HA.out
      clear HA
      simp only [legateref08_Row.l0] at H
      by_cases c6 : x4_1 < (l0.length : Int)
      · rw [if_pos c6] at H
        have c6b0 : decide (x4_1 < (l0.length : Int)) = true := decide_eq_true c6
        clear c6
        by_cases c7 : 0 ≤ x4_1
        · rw [if_pos c7] at H
          have c7b0 : decide (0 ≤ x4_1) = true := decide_eq_true c7
          clear c7
          replace H := Option.bind_eq_some_iff.mp H
          obtain ⟨⟨t176, t177, t178, t179⟩, A80, H⟩ := H
          replace H : (if x175003_1.length < 2513169434916 then (legateref08_Row.l0 k1 l0 (wrap64 (x4_1 + 1)) 3 (⟨#[]⟩ : ByteArray) 0 (x175003_1 ++ [(⟨t176, t177, t178, t179⟩ : S29)])) else (none)) = some (r1, r2, r3, r4) := H
          have A8 := Aside0.mk A80
          clear A80
          by_cases c9 : x175003_1.length < 2513169434916
          · rw [if_pos c9] at H
            have LMc9 := Aside0.mk c9
            clear c9
            obtain ⟨y182, hy182⟩ : ∃ y_ : List (S29), y_ = (x175003_1 ++ [(⟨t176, t177, t178, t179⟩ : S29)]) := ⟨_, rfl⟩
            replace H : (legateref08_Row.l0 k1 l0 (wrap64 (x4_1 + 1)) 3 (⟨#[]⟩ : ByteArray) 0 y182) = some (r1, r2, r3, r4) := by first | (rw [hy182]; with_reducible exact H) | (have H2_ := (Option.bind_some _ _).symm.trans H; rw [hy182]; with_reducible exact H2_) | (have H2_ := (Option.bind_some _ _).symm.trans H; with_reducible exact H2_) | with_reducible exact H | (rw [hy182]; exact H) | exact H
            have Ny182 := Aside0.mk hy182
            clear hy182
            have H' := Aside0.mk H
            clear H
            try go_wp2
            have n0_ := Aside0.mk (Kd.R_drew HO_175003.out)
            have n1_ := Aside0.mk (blk_drew BK173.out)
            have n2_ := Aside0.mk (blk_drew BK174.out)
            have n3_ := Aside0.mk (below_drew1 HB.out)
            clear HO_175003
            clear BK173
            clear BK174
            clear HB
            have HO_175003 := n0_
            have BK173 := n1_
            have BK174 := n2_
            have HB := n3_
            clear n0_ n1_ n2_ n3_
            have p175 : 0 ≤ (x4_1 : Int) := of_decide_eq_true (by first | (with_reducible assumption) | assumption)
            have q175 : x4_1 < (l0.length : Int) := of_decide_eq_true (by first | (with_reducible assumption) | assumption)
            obtain ⟨ad175, e175, hx175_0⟩ := Kd.at_string HR0.out x4_1 p175 q175
            have hw175_0 := hx175_0
            cases e175
            replace hx175_0 := (HB.out.cell (World.block_lt_of_cell? w _ hx175_0)).trans hx175_0
            replace p175 := eq_true p175
            replace q175 := eq_true q175
            refine start_ (n := 11) (S := fun w' => w'.cell? ⟨gb174, 0, none⟩ = some (.int .i64 3) ∧ w'.cell? ⟨gb174, 1, none⟩ = some (.string (⟨#[]⟩ : ByteArray)) ∧ w'.cell? ⟨gb174, 2, none⟩ = some (.int .i64 0) ∧ w'.cell? ⟨gb174, 3, none⟩ = some (u175003) ∧ w'.cell? (ad175.add (x4_1).toNat) = some (.string (rdOf ByteArray.empty l0 x4_1))) (ds := [10]) #[false, false, false, false, false, false, false, false, false, false, false] (by kernel_rfl) rfl rfl ⟨(blk_cell BK174.out 0).trans rfl, (blk_cell BK174.out 1).trans rfl, (blk_cell BK174.out 2).trans rfl, (blk_cell BK174.out 3).trans rfl, ((HB.out.cell (World.block_lt_of_cell? w _ hw175_0)).trans hw175_0)⟩ (fun hHeld => ?_); refine with_tabW legateref08_Row.tab5 legateref08_Row.bits5 (fun HT_ HW_ => ?_)
            generalize wr.drew = w10 at HO_175003 BK173 BK174 HB hx175_0 hHeld ⊢
            refine pure_ (i := 0) (N := some 12) (v := ?_) (a' := ?_) #[true, false, false, false, false, false, false, false, false, false, false] rfl rfl (any_of HT_.out (by kernel_rfl)) (fun _ _ _ h => h) (Or.inl ⟨by rfl, ?_⟩) ?_ ?_
            rotate_left
            · intro w'
              go_simp
              with_reducible rfl
            rotate_left
            · simp only [Act.put, List.setIfInBounds_toArray, List.set_cons_zero, List.set_cons_succ, i64_w, i32_w]
              rfl
            refine pure_ (i := 2) (N := some 14) (v := ?_) (a' := ?_) #[true, false, true, false, false, false, false, false, false, false, false] rfl rfl (any_of HT_.out (by kernel_rfl)) (fun _ _ _ h => h) (Or.inl ⟨by rfl, ?_⟩) ?_ ?_
            rotate_left
            · intro w'
              go_simp
              with_reducible rfl
            rotate_left
            · simp only [Act.put, List.setIfInBounds_toArray, List.set_cons_zero, List.set_cons_succ, i64_w, i32_w]
              rfl
            refine pure_ (i := 3) (N := some 15) (v := ?_) (a' := ?_) #[true, false, true, true, false, false, false, false, false, false, false] rfl rfl (any_of HT_.out (by kernel_rfl)) (fun _ _ _ h => h) (Or.inl ⟨by rfl, ?_⟩) ?_ ?_
            rotate_left
            · intro w'
              go_simp
              with_reducible rfl
            rotate_left
            · simp only [Act.put, List.setIfInBounds_toArray, List.set_cons_zero, List.set_cons_succ, i64_w, i32_w]
              rfl
            refine pure_ (i := 4) (N := some 16) (v := ?_) (a' := ?_) #[true, false, true, true, true, false, false, false, false, false, false] rfl rfl (any_of HT_.out (by kernel_rfl)) (fun _ _ _ h => h) (Or.inl ⟨by rfl, ?_⟩) ?_ ?_
            rotate_left
            · intro w'
              go_simp
              with_reducible rfl
            rotate_left
            · simp only [Act.put, List.setIfInBounds_toArray, List.set_cons_zero, List.set_cons_succ, i64_w, i32_w]
              rfl
            refine take_ (i := 1) (N := some 13) (v := ?_) (a' := ?_) #[true, true, true, true, true, false, false, false, false, false, false] rfl rfl (take_ofW HT_.out HW_.out (by kernel_rfl)) (fun _ _ _ h => h) (Or.inl ⟨by rfl, ?_⟩) hHeld ?_ ?_
            rotate_left
            · rintro w' ⟨s0, s1, s2, s3, s4⟩
              go_simp
              with_reducible rfl
            rotate_left
            · simp only [Act.put, List.setIfInBounds_toArray, List.set_cons_zero, List.set_cons_succ, i64_w, i32_w]
              rfl
            refine take_ (i := 5) (N := some 17) (v := ?_) (a' := ?_) #[true, true, true, true, true, true, false, false, false, false, false] rfl rfl (take_ofW HT_.out HW_.out (by kernel_rfl)) (fun _ _ _ h => h) (Or.inl ⟨by rfl, ?_⟩) hHeld ?_ ?_
            rotate_left
            · rintro w' ⟨s0, s1, s2, s3, s4⟩
              go_simp
              with_reducible rfl
            rotate_left
            · simp only [Act.put, List.setIfInBounds_toArray, List.set_cons_zero, List.set_cons_succ, i64_w, i32_w]
              rfl
            refine one_ (i := 6) (N := some 18) #[true, true, true, true, true, true, true, false, false, false, false] rfl rfl (one_of HT_.out (by kernel_rfl)) (by decide) (fun K hK => ?_)
            refine goes_ Tryd.func37 (by kernel_rfl) rfl #[.string (rdOf ByteArray.empty l0 x4_1)] (by rfl) rfl rfl (by (try simp only [List.map_toArray, List.map_cons, List.map_nil]); first | done | rfl | (simp only [List.length_drop, List.length_take]; rfl) | (exact congrArg Value.bool (decide_eq_decide.2 Int.ofNat_lt.symm)) | (exact congrArg (fun b => #[Value.bool b]) (decide_eq_decide.2 Int.ofNat_lt.symm)) | (simp; done)) ?_
            with_reducible refine (legateref08_Of.calls (rdOf ByteArray.empty l0 x4_1) t176 t177 t178 t179 _ A8.out).mono ?_
            rintro e w11 ⟨v180, rfl, ho0, hb⟩
            refine ⟨_, rfl, ?_⟩
            have n0_ := Aside0.mk (Kd.R_elder' (by (with_reducible repeat (first | apply Kd.R_alloc | apply Kd.R_drewN | apply Kd.R_drew)); exact HO_175003.out) (Kd.R_base ho0) hb)
            have n1_ := Aside0.mk (Kd.R_lower (Kd.R_newB (Kd.R_newB (Kd.R_new' ho0 (Kd.R_lt (by (with_reducible repeat (first | apply Kd.R_alloc | apply Kd.R_drewN | apply Kd.R_drew)); exact HO_175003.out))) (g := gb173) (o := .cells #[.int .i64 0, .string (⟨#[]⟩ : ByteArray), .int .i64 0, .slice none 0 0] 29 (0, 0)) (by (with_reducible repeat (first | refine blk_drewN ?_ _ | refine blk_drew ?_ | refine blk_alloc ?_ _)); exact BK173.out)) (g := gb174) (o := .cells #[.int .i64 3, .string (⟨#[]⟩ : ByteArray), .int .i64 0, u175003] 29 (0, 0)) (by (with_reducible repeat (first | refine blk_drewN ?_ _ | refine blk_drew ?_ | refine blk_alloc ?_ _)); exact BK174.out)) (below_size (by repeat (first | (with_reducible first | exact HB.out | apply below_alloc | apply pw_below_drewN | apply below_drew1 | refine below_set ?_ GE173.out | refine below_set ?_ GE174.out) | exact HB.out))))
            have n2_ := Aside0.mk (blk_below (g := gb173) (o := .cells #[.int .i64 0, .string (⟨#[]⟩ : ByteArray), .int .i64 0, .slice none 0 0] 29 (0, 0)) (by (with_reducible repeat (first | refine blk_drewN ?_ _ | refine blk_drew ?_ | refine blk_alloc ?_ _)); exact BK173.out) hb)
            have n3_ := Aside0.mk (blk_below (g := gb174) (o := .cells #[.int .i64 3, .string (⟨#[]⟩ : ByteArray), .int .i64 0, u175003] 29 (0, 0)) (by (with_reducible repeat (first | refine blk_drewN ?_ _ | refine blk_drew ?_ | refine blk_alloc ?_ _)); exact BK174.out) hb)
            have n4_ := Aside0.mk (below_step (by repeat (first | (with_reducible first | exact HB.out | apply below_alloc | apply pw_below_drewN | apply below_drew1 | refine below_set ?_ GE173.out | refine below_set ?_ GE174.out) | exact HB.out)) hb)
            clear HO_175003
            clear BK173
            clear BK174
            clear HB
            have HO_175003 := n0_
            have HO181 := n1_
            have BK173 := n2_
            have BK174 := n3_
            have HB := n4_
            clear n0_ n1_ n2_ n3_ n4_
            (try clear hb)
            (try clear hb2)
            (try clear hk)
            (try clear hi)
            (try clear ho0)
            obtain ⟨Ao13, co13, eo13⟩ := Kd.R_slice HO181.out
            (first | subst eo13 | (injection eo13 with f1_ f2_ f3_; have f4_ := f1_.symm; have f5_ := f3_.symm; clear f1_ f2_ f3_; subst f4_; subst f5_))
            refine hK.out _ _ ⟨(blk_cell BK174.out 0).trans rfl, (blk_cell BK174.out 1).trans rfl, (blk_cell BK174.out 2).trans rfl, (blk_cell BK174.out 3).trans rfl, ((HB.out.cell (World.block_lt_of_cell? w _ hw175_0)).trans hw175_0)⟩ (fun hHeld => ?_)
            clear hK K
            refine norm_ (a' := ?_) ?_ ?_
            rotate_left
            · show Act.put _ (some 18) _ = _
              simp only [Act.put, List.setIfInBounds_toArray, List.set_cons_zero, List.set_cons_succ, i64_w, i32_w]
              rfl
            refine one_ (i := 7) (N := some 19) #[true, true, true, true, true, true, true, true, false, false, false] rfl rfl (one_of HT_.out (by kernel_rfl)) (by decide) (fun K hK => ?_)
            refine value_ (w1 := ?_) (v := ?_) (by rfl) rfl ?_ ?_
            rotate_left 2
            · go_simp
              constructor
              · rfl
              · rfl
            refine hK.out _ _ ⟨(blk_cell (blk_alloc BK174.out _) 0).trans rfl, (blk_cell (blk_alloc BK174.out _) 1).trans rfl, (blk_cell (blk_alloc BK174.out _) 2).trans rfl, (blk_cell (blk_alloc BK174.out _) 3).trans rfl, (World.cell?_alloc_lt _ _ _ (World.block_lt_of_cell? _ _ (((HB.out.cell (World.block_lt_of_cell? w _ hw175_0)).trans hw175_0)))).trans (((HB.out.cell (World.block_lt_of_cell? w _ hw175_0)).trans hw175_0))⟩ (fun hHeld => ?_)
            clear hK K
            refine norm_ (a' := ?_) ?_ ?_
            rotate_left
            · show Act.put _ (some 19) _ = _
              simp only [Act.put, List.setIfInBounds_toArray, List.set_cons_zero, List.set_cons_succ, i64_w, i32_w]
              rfl
            refine one_ (i := 8) (N := some 20) #[true, true, true, true, true, true, true, true, true, false, false] rfl rfl (one_of HT_.out (by kernel_rfl)) (by decide) (fun K hK => ?_)
            refine Kd.R_append_step k29 (w0 := w) w.heap.size (by rfl) (.tmp 13) (.tmp 19) 27 29 (.agg #[(.int .i64 0), (.string ⟨#[]⟩), (.int .i64 0), (.slice none 0 0)]) 56 rfl Tryd.underlying27 info29 rfl (by decide) (by omega) u175003 x175003_1 (⟨t176, t177, t178, t179⟩ : S29) [.int .i64 t176, .string t177, .int .i64 t178, .slice Ao13 t179.length co13] (fun k_ => k_ ≠ gb173 ∧ k_ ≠ gb174) (fun k_ => ((fun k_ => k_ ≠ gb173 ∧ k_ ≠ gb174)) k_ ∧ some k_ ≠ (u175003 : Value).ownBlock) rfl rfl ?aP (fun _ hk => hk) ?aF ?aO ?aB ?aS ?aL ?_
            (case aP => exact k29_mkM _ _ _ (⟨t176, t177, t178, t179⟩ : S29) (Kd.R_mono (HO181.out) (fun k_ hk => ⟨⟨hk.1.2, hk.2⟩, hk.1.1.2⟩)))
            (case aB => exact (by repeat (first | (with_reducible first | exact HB.out | apply below_alloc | apply pw_below_drewN | apply below_drew1 | refine below_set ?_ GE173.out | refine below_set ?_ GE174.out) | exact HB.out)))
            (case aF => exact (fun k_ hk => ⟨Kd.freshB (g := gb173) (o := .cells #[.int .i64 0, .string (⟨#[]⟩ : ByteArray), .int .i64 0, .slice none 0 0] 29 (0, 0)) (by (with_reducible repeat (first | refine blk_drewN ?_ _ | refine blk_drew ?_ | refine blk_alloc ?_ _)); exact BK173.out) k_ hk, Kd.freshB (g := gb174) (o := .cells #[.int .i64 3, .string (⟨#[]⟩ : ByteArray), .int .i64 0, u175003] 29 (0, 0)) (by (with_reducible repeat (first | refine blk_drewN ?_ _ | refine blk_drew ?_ | refine blk_alloc ?_ _)); exact BK174.out) k_ hk⟩))
            (case aO => exact (by (with_reducible repeat (first | apply Kd.R_alloc | apply Kd.R_drewN | apply Kd.R_drew)); exact Kd.R_mono HO_175003.out (fun _ hk => ⟨hk.1.1, hk.1.2⟩)))
            (case aS => exact (below_size (by repeat (first | (with_reducible first | exact HB.out | apply below_alloc | apply pw_below_drewN | apply below_drew1 | refine below_set ?_ GE173.out | refine below_set ?_ GE174.out) | exact HB.out))))
            (case aL => have := LMc9.out; omega)
            intro v183 w12 ho hb hg hat
            rw [← Ny182.out] at ho
            have n0_ := Aside0.mk (blk_grown (g := gb173) (o := .cells #[.int .i64 0, .string (⟨#[]⟩ : ByteArray), .int .i64 0, .slice none 0 0] 29 (0, 0)) (by (with_reducible repeat (first | refine blk_drewN ?_ _ | refine blk_drew ?_ | refine blk_alloc ?_ _)); exact BK173.out) hg (Kd.R_away HO_175003.out (fun _ hk => hk.1.1)))
            have n1_ := Aside0.mk (blk_grown (g := gb174) (o := .cells #[.int .i64 3, .string (⟨#[]⟩ : ByteArray), .int .i64 0, u175003] 29 (0, 0)) (by (with_reducible repeat (first | refine blk_drewN ?_ _ | refine blk_drew ?_ | refine blk_alloc ?_ _)); exact BK174.out) hg (Kd.R_away HO_175003.out (fun _ hk => hk.1.2)))
            have n2_ := Aside0.mk (hb)
            have n3_ := Aside0.mk (ho)
            clear BK173
            clear BK174
            clear HB
            clear HO_175003
            clear HO181
            have BK173 := n0_
            have BK174 := n1_
            have HB := n2_
            have HO184 := n3_
            clear n0_ n1_ n2_ n3_
            clear ho hb hg hat
            obtain ⟨Ao14, co14, eo14⟩ := Kd.R_slice HO184.out
            (first | subst eo14 | (injection eo14 with f1_ f2_ f3_; have f4_ := f1_.symm; have f5_ := f3_.symm; clear f1_ f2_ f3_; subst f4_; subst f5_))
            refine hK.out _ _ ⟨(blk_cell BK174.out 0).trans rfl, (blk_cell BK174.out 1).trans rfl, (blk_cell BK174.out 2).trans rfl, (blk_cell BK174.out 3).trans rfl, ((HB.out.cell (World.block_lt_of_cell? w _ hw175_0)).trans hw175_0)⟩ (fun hHeld => ?_)
            clear hK K
            refine norm_ (a' := ?_) ?_ ?_
            rotate_left
            · show Act.put _ (some 20) _ = _
              simp only [Act.put, List.setIfInBounds_toArray, List.set_cons_zero, List.set_cons_succ, i64_w, i32_w]
              rfl
            refine pure_ (i := 9) (N := some 21) (v := ?_) (a' := ?_) #[true, true, true, true, true, true, true, true, true, true, false] rfl rfl (any_of HT_.out (by kernel_rfl)) (fun _ _ _ h => h) (Or.inl ⟨by rfl, ?_⟩) ?_ ?_
            rotate_left
            · intro w'
              go_simp
              with_reducible rfl
            rotate_left
            · simp only [Act.put, List.setIfInBounds_toArray, List.set_cons_zero, List.set_cons_succ, i64_w, i32_w]
              rfl
            refine last_ (i := 10) (N := none) #[true, true, true, true, true, true, true, true, true, true, true] rfl rfl (one_of HT_.out (by kernel_rfl)) (by decide) (fun K hK => ?_)
            have hs15 : w12.cell? ⟨gb174, 3, none⟩ = some (u175003) := (blk_cell BK174.out 3).trans rfl
            have hfs15 := blk_frozen BK174.out 3
            have hns15_0 := NB173_174.out
            have hms15_0 := NB174_173.out
            refine skip_ (w1 := ?_) (by rfl) rfl ?_ ?_
            rotate_left
            · go_simp
              rfl
            refine hK.out _ _ ?_
            clear hK K
            refine done_ (done_of HT_.out (by kernel_rfl)) ?_
            try go_wp2
            go_roundg k1
            case measure => have := HK1.out; omega
            case rel => exact ⟨(wrap64 (x4_1 + 1)), (y182), (.slice Ao14 y182.length co14), (by first | rfl | (simp; done) | (simp [*]; done) | (simp; exact isEmpty_ne _)), H', ⟨by have := HK1.out; omega⟩, ⟨by (with_reducible repeat (first | apply Kd.R_alloc | apply Kd.R_drewN | apply Kd.R_drew)); exact Kd.R_mono (Kd.R_far (p := ⟨gb174, 3, none⟩) (Kd.R_mono HO184.out (fun k_ hk => (⟨hk, hk.2⟩ : _ ∧ k_ ≠ gb174))) (fun _ hk => hk.2) (.slice Ao14 y182.length co14)) (fun _ hk => ⟨hk.1.1, hk.1.2⟩)⟩, ⟨by (with_reducible repeat (first | refine blk_drewN ?_ _ | refine blk_drew ?_ | refine blk_alloc ?_ _)); refine blk_far ?_ NB173_174.out _; (with_reducible repeat (first | refine blk_drewN ?_ _ | refine blk_drew ?_ | refine blk_alloc ?_ _)); exact BK173.out⟩, ⟨by (with_reducible repeat (first | refine blk_drewN ?_ _ | refine blk_drew ?_ | refine blk_alloc ?_ _)); refine blk_put (cs := #[.int .i64 3, .string (⟨#[]⟩ : ByteArray), .int .i64 0, u175003]) ?_ 3 _ rfl; (with_reducible repeat (first | refine blk_drewN ?_ _ | refine blk_drew ?_ | refine blk_alloc ?_ _)); exact BK174.out⟩, ⟨by repeat (first | (with_reducible first | exact HB.out | apply below_alloc | apply pw_below_drewN | apply below_drew1 | refine below_set ?_ GE173.out | refine below_set ?_ GE174.out) | exact HB.out)⟩⟩
          · rw [if_neg c9] at H
            exact absurd H (by simp)
        · rw [if_neg c7] at H
          exact absurd H (by simp)
      · rw [if_neg c6] at H
        have c6b0 : decide (x4_1 < (l0.length : Int)) = false := decide_eq_false c6
        clear c6
        simp only [Option.some.injEq, Prod.mk.injEq] at H
        obtain ⟨rfl, rfl, rfl, rfl⟩ := H
        have hnb16 := NB174_173.out
        have hnc16 := NB173_174.out
        have hcz17_0 : wr.cell? ⟨gb174, 0, none⟩ = some (.int .i64 3) := (blk_cell BK174.out 0).trans rfl
        have hcz17_1 : wr.cell? ⟨gb174, 1, none⟩ = some (.string (⟨#[]⟩ : ByteArray)) := (blk_cell BK174.out 1).trans rfl
        have hcz17_2 : wr.cell? ⟨gb174, 2, none⟩ = some (.int .i64 0) := (blk_cell BK174.out 2).trans rfl
        have hcz17_3 : wr.cell? ⟨gb174, 3, none⟩ = some (u175003) := (blk_cell BK174.out 3).trans rfl
        have hfz17_0 := blk_frozen BK174.out 0
        have hfz17_1 := blk_frozen BK174.out 1
        have hfz17_2 := blk_frozen BK174.out 2
        have hfz17_3 := blk_frozen BK174.out 3
        have hcz18_0 : wr.cell? ⟨gb173, 0, none⟩ = some (.int .i64 0) := (blk_cell BK173.out 0).trans rfl
        have hcz18_1 : wr.cell? ⟨gb173, 1, none⟩ = some (.string (⟨#[]⟩ : ByteArray)) := (blk_cell BK173.out 1).trans rfl
        have hcz18_2 : wr.cell? ⟨gb173, 2, none⟩ = some (.int .i64 0) := (blk_cell BK173.out 2).trans rfl
        have hcz18_3 : wr.cell? ⟨gb173, 3, none⟩ = some (.slice none 0 0) := (blk_cell BK173.out 3).trans rfl
        have hfz18_0 := blk_frozen BK173.out 0
        have hfz18_1 := blk_frozen BK173.out 1
        have hfz18_2 := blk_frozen BK173.out 2
        have hfz18_3 := blk_frozen BK173.out 3
        obtain ⟨Ao19, co19, eo19⟩ := Kd.R_slice HO_175003.out
        subst eo19
        go_wp2
        refine bodyPost_ret (results_cell_row rfl _ _ gb173 29 #[.int .i64 3, .string (⟨#[]⟩ : ByteArray), .int .i64 0, .slice Ao19 x175003_1.length co19] (0, 0) _ rfl (by (with_reducible repeat (first | refine blk_drewN ?_ _ | refine blk_drew ?_ | refine blk_alloc ?_ _)); refine blk_put (cs := #[.int .i64 3, .string (⟨#[]⟩ : ByteArray), .int .i64 0, .slice none 0 0]) ?_ 3 _ rfl; (with_reducible repeat (first | refine blk_drewN ?_ _ | refine blk_drew ?_ | refine blk_alloc ?_ _)); refine blk_put (cs := #[.int .i64 3, .string (⟨#[]⟩ : ByteArray), .int .i64 0, .slice none 0 0]) ?_ 2 _ rfl; (with_reducible repeat (first | refine blk_drewN ?_ _ | refine blk_drew ?_ | refine blk_alloc ?_ _)); refine blk_put (cs := #[.int .i64 3, .string (⟨#[]⟩ : ByteArray), .int .i64 0, .slice none 0 0]) ?_ 1 _ rfl; (with_reducible repeat (first | refine blk_drewN ?_ _ | refine blk_drew ?_ | refine blk_alloc ?_ _)); refine blk_put (cs := #[.int .i64 0, .string (⟨#[]⟩ : ByteArray), .int .i64 0, .slice none 0 0]) ?_ 0 _ rfl; (with_reducible repeat (first | refine blk_drewN ?_ _ | refine blk_drew ?_ | refine blk_alloc ?_ _)); exact BK173.out) Tryd.underlying29 rfl (by kernel_rfl)) rfl ?_
        exact ⟨_, by first | rfl | (simp [errW_none, errW_some] <;> rfl) | (simp [*, errW_none, errW_some] <;> rfl), by (with_reducible repeat (first | apply Kd.R_alloc | apply Kd.R_drewN | apply Kd.R_drew)); exact Kd.R_mono (Kd.R_far (p := ⟨gb173, 3, none⟩) (Kd.R_far (p := ⟨gb173, 2, none⟩) (Kd.R_far (p := ⟨gb173, 1, none⟩) (Kd.R_far (p := ⟨gb173, 0, none⟩) (Kd.R_mono HO_175003.out (fun k_ hk => (⟨hk, hk.1⟩ : _ ∧ k_ ≠ gb173))) (fun _ hk => hk.2) (.int .i64 3)) (fun _ hk => hk.2) (.string (⟨#[]⟩ : ByteArray))) (fun _ hk => hk.2) (.int .i64 0)) (fun _ hk => hk.2) (.slice Ao19 x175003_1.length co19)) (fun _ hk => trivial), by repeat (first | (with_reducible first | exact HB.out | apply below_alloc | apply pw_below_drewN | apply below_drew1 | refine below_set ?_ GE173.out | refine below_set ?_ GE174.out) | exact HB.out)⟩
end Go.Proofs.YtimommkbfbdkdaaDoor.P
end
section
namespace Go.Proofs.YtimommkbfbdkdaaDoor.P
open Go.RowKit Go.Proofs.YtimommkbfbdkdaaDoorW.PrintWords Go.Proofs.YtimommkbfbdkdaaDoorW.PrintLast Go.Proofs.YtimommkbfbdkdaaDoorW.PrintMore
mutual
def cT : S29 → Nat
  | ⟨_, b, _, l⟩ => 100 + b.size + cL l
def cL : List S29 → Nat
  | [] => 100
  | x :: r => 100 + cT x + cL r
end
theorem cT_eq (t : S29) : cT t = 100 + t.f1.size + cL t.f3 := by cases t; rw [cT]
theorem cL_drop (l : List S29) (i : Nat) (h : i < l.length) : cL (l.drop i) = 100 + cT l[i]! + cL (l.drop (i + 1)) := by
  rw [List.drop_eq_getElem_cons h, cL, getElem!_pos l i h]
theorem cL_pos (l : List S29) : 100 ≤ cL l := by cases l <;> rw [cL] <;> omega
theorem partsL_drop (l : List S29) (i : Nat) (h : i < l.length) : partsL (l.drop i) = partsT l[i]! ++ partsL (l.drop (i + 1)) := by
  rw [List.drop_eq_getElem_cons h, partsL, getElem!_pos l i h]
theorem nL_at (l : List S29) (i : Nat) (h : i < l.length) : nT l[i]! ≤ nL l := by
  rw [getElem!_pos l i h]; exact nT_mem (List.getElem_mem h)
theorem nL_len : ∀ l : List S29, l.length ≤ nL l
  | [] => Nat.zero_le _
  | x :: r => by rw [nL, nT_eq, List.length_cons]; have := nL_len r; omega
theorem rSize (n : Nat) : ∀ t : S29, nT t ≤ n → nT t ≤ 1000000000 → ∀ k, cT t ≤ k → legateref08_Size.f k t.f0 t.f1 t.f2 t.f3 = some ((partsT t).length : Int) := by
  induction n with
  | zero => intro t h; rw [nT_eq] at h; omega
  | succ n ih =>
    intro t h hb k hk
    have hlen := partsT_len _ t (Nat.le_refl _)
    rw [partsT_eq, List.length_cons] at hlen
    have h0 := h
    rw [nT_eq] at h0
    have hb0 := hb
    rw [nT_eq] at hb0
    have hll := nL_len t.f3
    rw [cT_eq] at hk
    obtain ⟨k, rfl⟩ : ∃ k', k = k' + 1 := ⟨k - 1, by omega⟩
    rw [legateref08_Size.f]
    have key : ∀ (j i : Nat), t.f3.length - i = j → i ≤ t.f3.length → ∀ (k : Nat) (s : Int), cL (t.f3.drop i) ≤ k → 0 ≤ s → s + (partsL (t.f3.drop i)).length ≤ 1000000000 →
        legateref08_Size.l0 k s i t.f0 t.f1 t.f2 t.f3 = some (s + ((partsL (t.f3.drop i)).length : Int)) := by
      intro j
      induction j with
      | zero =>
        intro i hj hi k s hk hs hle
        obtain rfl : i = t.f3.length := by omega
        obtain ⟨k, rfl⟩ : ∃ k', k = k' + 1 := ⟨k - 1, by have := cL_pos (t.f3.drop t.f3.length); omega⟩
        rw [legateref08_Size.l0, if_neg (by omega)]
        simp [partsL]
      | succ j ihj =>
        intro i hj hi k s hk hs hle
        have hlt : i < t.f3.length := by omega
        rw [cL_drop _ _ hlt] at hk
        rw [partsL_drop _ _ hlt, List.length_append] at hle ⊢
        obtain ⟨k, rfl⟩ : ∃ k', k = k' + 1 := ⟨k - 1, by omega⟩
        have hn := nL_at t.f3 i hlt
        have hc := ih t.f3[i]! (by omega) (by omega) k (by omega)
        rw [legateref08_Size.l0, if_pos (by omega), if_pos (by omega), rd_bang, hc]
        try simp only [Option.bind_some]
        rw [IntWalk.wrap64_in _ (by omega), IntWalk.wrap64_in _ (by omega)]
        have := ihj (i + 1) (by omega) (by omega) k (s + (partsT t.f3[i]!).length) (by omega) (by omega) (by omega)
        rw [show ((i : Int) + 1) = ((i + 1 : Nat) : Int) from by omega, this]
        congr 1
        omega
    have := key t.f3.length 0 (by omega) (by omega) k 1 (by simpa using (by omega : cL t.f3 ≤ k)) (by omega) (by simp; omega)
    rw [List.drop_zero] at this
    rw [show (0 : Int) = ((0 : Nat) : Int) from rfl, this, partsT_eq, List.length_cons]
    congr 1
    omega
theorem Large_V {v : Value} {t : S29} (w : World) (m : Int) (hn : nT t ≤ 1000000000) (h : IsT w v t) : V_ 9 #[v, .int .i64 m] w (.bool (decide (((partsT t).length : Int) > m))) := by
  obtain ⟨A, c, rfl, hl, hC⟩ := h
  refine (legateref08_Large.calls (cT t) t.f0 t.f1 t.f2 A c t.f3 m _ w hC hl (by rw [legateref08_Large.f, rSize _ t (Nat.le_refl _) hn _ (Nat.le_refl _)]; rfl)).mono ?_
  rintro e w' ⟨he, hb⟩
  exact ⟨he, hb⟩
end Go.Proofs.YtimommkbfbdkdaaDoor.P
namespace Go.Proofs.YtimommkbfbdkdaaDoor.P
open Go.RowKit
theorem cmpI_self (a : Int) : cmpI a a = 0 := by simp [cmpI]
theorem cmpBytes_self : ∀ l : List UInt8, Lib.compareBytes l l = 0
  | [] => rfl
  | x :: r => by rw [Lib.compareBytes]; simp [cmpBytes_self r]
theorem cmpS_self (a : ByteArray) : cmpS a a = 0 := cmpBytes_self _
mutual
theorem oT_self : ∀ t : S29, oT t t = 0
  | ⟨a, b, c, l⟩ => by rw [oT]; simp only [cmpI_self, cmpS_self, or4, if_true, oL_self l]
theorem oL_self : ∀ l : List S29, oL l l = 0
  | [] => rfl
  | x :: r => by rw [oL, if_pos (oT_self x), oL_self r]
end
end Go.Proofs.YtimommkbfbdkdaaDoor.P
end
section
namespace Go.Proofs.YtimommkbfbdkdaaDoor.P
open Go.RowKit Go.Proofs.YtimommkbfbdkdaaDoorW.PrintWords Go.Proofs.YtimommkbfbdkdaaDoorW.PrintLast Go.Proofs.YtimommkbfbdkdaaDoorW.PrintMore
def ec (l : List S29) (o : Bool) (k : Int) : List S29 × List S29 × Bool := ((eL k (nx l o 3).1.f3).1, (nx l o 3).2.1, (nx l o 3).2.2 || (eL k (nx l o 3).1.f3).2)
def rdAll (l : List S29) (o : Bool) : Au × List S29 × Bool :=
  let a := nx l o 0
  let b := ec a.2.1 a.2.2 1
  let c := nx b.2.1 b.2.2 1
  let d := ec c.2.1 c.2.2 0
  let e := nx d.2.1 d.2.2 0
  let f := nx e.2.1 e.2.2 1
  let h := nx f.2.1 (flOdd f.1.f2 f.2.2) 1
  (⟨a.1.f1, b.1.map (·.f2), c.1.f2, d.1.map (·.f1), e.1.f1, f.1.f2 == 1, h.1.f2⟩, h.2.1, h.2.2)
def topB (t : S29) : Bool := t.f0 == 3 && (decide (t.f3.length = 3) && (t.f1.toList.isEmpty && t.f2 == 0))
def okRd (r : Au × List S29 × Bool) : Bool := !r.2.2 && (r.2.1.isEmpty && validA r.1)
def rdTop (t : S29) : Au × List S29 × Bool := rdAll (nx (t.f3.take 1) false 3).1.f3 (nx (t.f3.take 1) false 3).2.2
def canR (t : S29) : Bool := topB t && okRd (rdTop t)
def readA (t : S29) : Au := if canR t = true then (rdTop t).1 else zA
def readE (t : S29) : Int := if canR t = true then 0 else 50
theorem nT_z : nT z29 = 1 := rfl
theorem nx_n (l : List S29) (o : Bool) (k : Int) : nT (nx l o k).1 ≤ 1 + nL l ∧ nL (nx l o k).2.1 ≤ nL l := by
  cases l with
  | nil => rw [nx_nil]; exact ⟨by rw [nT_z]; omega, Nat.le_refl _⟩
  | cons x r =>
    cases o with
    | true => rw [nx_odd]; exact ⟨by rw [nT_z]; omega, Nat.le_refl _⟩
    | false =>
      rw [nx_cons, nL]
      by_cases h : x.f0 = k
      · rw [if_pos h]; exact ⟨by dsimp only; omega, by dsimp only; omega⟩
      · rw [if_neg h]; exact ⟨by dsimp only; rw [nT_z]; omega, by dsimp only; rw [nL]; omega⟩
theorem eL_n (k : Int) : ∀ l : List S29, nL (eL k l).1 ≤ 1 + nL l
  | [] => by rw [eL, nL]; omega
  | x :: r => by
    have ih := eL_n k r
    rw [eL, nL]
    by_cases h : x.f0 = k
    · rw [if_pos h]
      cases hp : pOdd x with
      | true => rw [if_pos rfl]; dsimp only; rw [nL, nL]; omega
      | false => rw [if_neg (by decide)]; dsimp only; rw [nL]; omega
    · rw [if_neg h]; dsimp only; rw [nL, nL, nT_z]; omega
theorem ec_n (l : List S29) (o : Bool) (k : Int) : nL (ec l o k).1 ≤ 2 + nL l ∧ nL (ec l o k).2.1 ≤ nL l := by
  obtain ⟨h1, h2⟩ := nx_n l o 3
  have h3 := eL_n k (nx l o 3).1.f3
  rw [nT_eq] at h1
  exact ⟨by unfold ec; dsimp only; omega, h2⟩
theorem nS_map : ∀ l : List S29, nS (l.map (·.f1)) ≤ nL l
  | [] => Nat.le_refl _
  | x :: r => by have := nS_map r; rw [List.map_cons, nS, nL, nT_eq]; omega
theorem rdAll_n (l : List S29) (o : Bool) : nA (rdAll l o).1 ≤ 10 + 4 * nL l := by
  unfold rdAll
  dsimp only
  have h1 := nx_n l o 0
  generalize nx l o 0 = a at h1 ⊢
  have h2 := ec_n a.2.1 a.2.2 1
  generalize ec a.2.1 a.2.2 1 = b at h2 ⊢
  have h3 := nx_n b.2.1 b.2.2 1
  generalize nx b.2.1 b.2.2 1 = c at h3 ⊢
  have h4 := ec_n c.2.1 c.2.2 0
  generalize ec c.2.1 c.2.2 0 = d at h4 ⊢
  have h5 := nx_n d.2.1 d.2.2 0
  generalize nx d.2.1 d.2.2 0 = e at h5 ⊢
  unfold nA
  dsimp only
  rw [List.length_map]
  have e1 := nT_eq a.1
  have e2 := nL_len b.1
  have e3 := nS_map d.1
  have e4 := nT_eq e.1
  omega
theorem rdTop_n (t : S29) : nA (rdTop t).1 ≤ 20 + 4 * nT t := by
  have h1 := rdAll_n (nx (t.f3.take 1) false 3).1.f3 (nx (t.f3.take 1) false 3).2.2
  have h2 := nx_n (t.f3.take 1) false 3
  have h3 : nL (t.f3.take 1) ≤ nL t.f3 := by
    cases t.f3 with
    | nil => exact Nat.le_refl _
    | cons x r => rw [List.take_succ_cons, List.take_zero, nL, nL, nL]; omega
  have e0 := nT_eq t
  have e1 := nT_eq (nx (t.f3.take 1) false 3).1
  unfold rdTop
  omega
end Go.Proofs.YtimommkbfbdkdaaDoor.P
end
section
namespace Go.Proofs.YtimommkbfbdkdaaDoor.P
open Go.RowKit Go.Proofs.YtimommkbfbdkdaaDoorW.PrintWords Go.Proofs.YtimommkbfbdkdaaDoorW.PrintLast Go.Proofs.YtimommkbfbdkdaaDoorW.PrintMore
set_option linter.unusedVariables false
set_option linter.unusedSimpArgs false
attribute [local go_sem] field1 field2 field3
def putA (w : World) (g : Nat) (a b c d e f h : Value) : World := ((((((w.setCell ⟨g, 0, none⟩ a).setCell ⟨g, 1, none⟩ b).setCell ⟨g, 2, none⟩ c).setCell ⟨g, 3, none⟩ d).setCell ⟨g, 4, none⟩ e).setCell ⟨g, 5, none⟩ f).setCell ⟨g, 6, none⟩ h
theorem putA_block {w : World} {g : Nat} {a b c d e f h a' b' c' d' e' f' h' : Value} (hb : w.heap[g]? = some (.cells #[a, b, c, d, e, f, h] 25 (0, 0))) : (putA w g a' b' c' d' e' f' h').heap[g]? = some (.cells #[a', b', c', d', e', f', h'] 25 (0, 0)) :=
  blk_put (cs := #[a', b', c', d', e', f', h]) (blk_put (cs := #[a', b', c', d', e', f, h]) (blk_put (cs := #[a', b', c', d', e, f, h]) (blk_put (cs := #[a', b', c', d, e, f, h]) (blk_put (cs := #[a', b', c, d, e, f, h]) (blk_put (cs := #[a', b, c, d, e, f, h]) (blk_put (cs := #[a, b, c, d, e, f, h]) hb 0 _ rfl) 1 _ rfl) 2 _ rfl) 3 _ rfl) 4 _ rfl) 5 _ rfl) 6 _ rfl
theorem putA_other {w : World} {g k : Nat} {a b c d e f h : Value} (hk : k ≠ g) : (putA w g a b c d e f h).heap[k]? = w.heap[k]? := by
  unfold putA
  rw [Below.heap_setCell _ _ _ _ hk, Below.heap_setCell _ _ _ _ hk, Below.heap_setCell _ _ _ _ hk, Below.heap_setCell _ _ _ _ hk, Below.heap_setCell _ _ _ _ hk, Below.heap_setCell _ _ _ _ hk, Below.heap_setCell _ _ _ _ hk]
theorem putA_below {B : Nat} {w W : World} {g : Nat} {a b c d e f h : Value} (hb : Below B w W) (hg : B ≤ g) : Below B w (putA W g a b c d e f h) :=
  ((((((hb.setCell (p := ⟨g, 0, none⟩) hg a).setCell (p := ⟨g, 1, none⟩) hg b).setCell (p := ⟨g, 2, none⟩) hg c).setCell (p := ⟨g, 3, none⟩) hg d).setCell (p := ⟨g, 4, none⟩) hg e).setCell (p := ⟨g, 5, none⟩) hg f).setCell (p := ⟨g, 6, none⟩) hg h
def IsAF (w : World) (ok : Nat → Prop) (v : Value) (a : Au) : Prop := ∃ A c B d, v = .agg #[.string a.u, .slice A a.g.length c, .int .i64 a.o, .slice B a.tr.length d, .string a.s, .bool a.fw, .int .i64 a.tm] ∧
  a.g.length ≤ c ∧ Kd.F (Kd.int .i64) w ok A a.g.length a.g ∧ a.tr.length ≤ d ∧ Kd.F Kd.string w ok B a.tr.length a.tr
theorem IsAF.now {w : World} {ok : Nat → Prop} {v : Value} {a : Au} (h : IsAF w ok v a) : IsA w v a := by
  obtain ⟨A, c, B, d, rfl, h1, h2, h3, h4⟩ := h; exact ⟨A, c, B, d, rfl, h1, Kd.F_now h2, h3, Kd.F_now h4⟩
theorem IsAF.mono {w : World} {ok ok' : Nat → Prop} {v : Value} {a : Au} (h : IsAF w ok v a) (hk : ∀ k, ok k → ok' k) : IsAF w ok' v a := by
  obtain ⟨A, c, B, d, rfl, h1, h2, h3, h4⟩ := h; exact ⟨A, c, B, d, rfl, h1, Kd.F_mono h2 hk, h3, Kd.F_mono h4 hk⟩
theorem IsAF.step {w w' : World} {ok : Nat → Prop} {v : Value} {a : Au} (h : IsAF w ok v a) (hm : ∀ k, ok k → k < w.heap.size → w'.heap[k]? = w.heap[k]?) : IsAF w' ok v a := by
  obtain ⟨A, c, B, d, rfl, h1, h2, h3, h4⟩ := h; exact ⟨A, c, B, d, rfl, h1, Kd.F_step h2 hm, h3, Kd.F_step h4 hm⟩
theorem IsAF.below {w w' : World} {ok : Nat → Prop} {v : Value} {a : Au} (h : IsAF w ok v a) (hb : Below w.heap.size w w') : IsAF w' ok v a := h.step fun k _ hlt => hb.block k hlt
theorem C_nilI (w : World) : Kd.C (Kd.int .i64) w none ([] : List Int).length [] := ⟨rfl, by simp, fun h => absurd h (Nat.lt_irrefl 0)⟩
theorem C_nilS (w : World) : Kd.C Kd.string w none ([] : List ByteArray).length [] := ⟨rfl, by simp, fun h => absurd h (Nat.lt_irrefl 0)⟩
theorem isAF_z (w : World) (ok : Nat → Prop) : IsAF w ok (.agg #[.string ⟨#[]⟩, .slice none 0 0, .int .i64 0, .slice none 0 0, .string ⟨#[]⟩, .bool false, .int .i64 0]) zA :=
  ⟨none, 0, none, 0, rfl, Nat.le_refl _, fun W _ => C_nilI W, Nat.le_refl _, fun W _ => C_nilS W⟩
theorem topB_tri (t : S29) :
    ((t.f0 == 3) = false ∧ topB t = false) ∨ ((t.f0 == 3) = true ∧ ¬ t.f3.length = 3 ∧ topB t = false) ∨ ((t.f0 == 3) = true ∧ t.f3.length = 3 ∧ t.f1.toList.isEmpty = false ∧ topB t = false) ∨
    ((t.f0 == 3) = true ∧ t.f3.length = 3 ∧ t.f1.toList.isEmpty = true ∧ (t.f2 == 0) = false ∧ topB t = false) ∨ ((t.f0 == 3) = true ∧ t.f3.length = 3 ∧ t.f1.toList.isEmpty = true ∧ (t.f2 == 0) = true ∧ topB t = true) := by
  unfold topB
  cases t.f0 == 3 <;> by_cases h : t.f3.length = 3 <;> cases t.f1.toList.isEmpty <;> cases t.f2 == 0 <;> simp only [h, decide_true, decide_false, Bool.true_and, Bool.false_and, Bool.and_true, Bool.and_false, not_true_eq_false, not_false_eq_true, true_and, and_true, false_and, and_false, or_false, false_or, true_or, or_true, reduceCtorEq]
theorem Rd.alloc {w0 w : World} {g : Nat} {l : List S29} {o : Bool} (h : Rd w0 w g l o) (ob : Obj) : Rd w0 (w.alloc ob) g l o := by
  obtain ⟨A, c, h1, h2, h3⟩ := h
  exact ⟨A, c, blk_alloc h1 ob, h2, h3⟩
theorem Rd.up {w0 w w' : World} {g a : Nat} {l : List S29} {o : Bool} (h : Rd w0 w g l o) (hu : Up w w' a) (hne : g ≠ a) : Rd w0 w' g l o := by
  obtain ⟨A, c, h1, h2, h3⟩ := h
  exact ⟨A, c, hu.blk hne h1, h2, h3⟩
theorem info3 : (Tryd.prog.info? 3).map (fun i => (i.zero, i.size, i.bytes)) = some (some (.int .i64 0), 1, 8) := by kernel_rfl
theorem cut_first (A : Option Addr) (l : List S29) (c : Nat) (h3 : l.length = 3) (hc : l.length ≤ c) (W : World) : (Instr.slice 27 (.slice A 3 c) none (some (.int .i64 1)) none).run Tryd.prog W = .ok (.slice A 1 c) W := by
  obtain ⟨i, hi, hsz⟩ := info29_size
  exact cut_to (P := Tryd.prog) 27 29 .i64 Tryd.underlying27 hi A 3 c 1 (by decide) (by decide) (by omega) W
structure St (w W : World) (gR gA lo : Nat) (l : List S29) (o : Bool) (cs : Array Value) (vg : Value) (g : List Int) (vt : Value) (tr : List ByteArray) : Prop where
  rd : Rd w W gR l o
  xa : W.heap[gA]? = some (.cells cs 25 (0, 0))
  xr : W.heap[w.heap.size + 1]? = some (.cells #[.string ⟨#[]⟩, .slice none 0 0, .int .i64 0, .slice none 0 0, .string ⟨#[]⟩, .bool false, .int .i64 0] 25 (0, 0))
  rg : Kd.R (Kd.int .i64) 3 W gA (fun k => lo ≤ k) vg g
  rt : Kd.R Kd.string 9 W gA (fun k => lo ≤ k) vt tr
  bl : Below w.heap.size w W
  n1 : w.heap.size + 1 < gR
  n2 : gR < gA
  n3 : gA < lo
  n4 : lo ≤ W.heap.size
theorem St.up {w W W' : World} {gR gA lo : Nat} {l l' : List S29} {o o' : Bool} {cs : Array Value} {vg vt : Value} {g : List Int} {tr : List ByteArray} (h : St w W gR gA lo l o cs vg g vt tr) (hu : Up W W' gR) (hr : Rd w W' gR l' o') : St w W' gR gA lo l' o' cs vg g vt tr := by
  have h1 := h.n1
  have h2 := h.n2
  have h3 := h.n3
  exact ⟨hr, hu.blk (by omega) h.xa, hu.blk (by omega) h.xr, Kd.R_step h.rg (fun k hk hs => hu.1.2 k hs (by omega) (by simp)), Kd.R_step h.rt (fun k hk hs => hu.1.2 k hs (by omega) (by simp)), hu.2 _ _ h.bl (by omega), h1, h2, h3, Nat.le_trans h.n4 hu.size⟩
theorem St.set {w W : World} {gR gA lo : Nat} {l : List S29} {o : Bool} {cs : Array Value} {vg vt : Value} {g : List Int} {tr : List ByteArray} (h : St w W gR gA lo l o cs vg g vt tr) (j : Nat) (u : Value) {cs' : Array Value} (hc : cs.setIfInBounds j u = cs') : St w (W.setCell ⟨gA, j, none⟩ u) gR gA lo l o cs' vg g vt tr := by
  have h1 := h.n1
  have h2 := h.n2
  have h3 := h.n3
  have hs : ∀ k, k ≠ gA → (W.setCell ⟨gA, j, none⟩ u).heap[k]? = W.heap[k]? := fun k hk => Below.heap_setCell W ⟨gA, j, none⟩ u k hk
  exact ⟨Rd.kept h.rd (hs _ (by omega)), blk_put h.xa j u hc, (hs _ (by omega)).trans h.xr, Kd.R_step h.rg (fun k hk _ => hs k (by omega)), Kd.R_step h.rt (fun k hk _ => hs k (by omega)), h.bl.setCell (p := ⟨gA, j, none⟩) (by show w.heap.size ≤ gA; omega) u, h1, h2, h3, by simpa using h.n4⟩
theorem St.mid {w W W' : World} {gR gA lo : Nat} {l : List S29} {o : Bool} {cs cs' : Array Value} {vg vt vt' : Value} {g : List Int} {tr tr' : List ByteArray} (h : St w W gR gA lo l o cs vg g vt tr) (hu : Up W W' gA) (hb : Below gA W W')
    (hx : W'.heap[gA]? = some (.cells cs' 25 (0, 0))) (hr : Kd.R Kd.string 9 W' gA (fun k => lo ≤ k) vt' tr') : St w W' gR gA lo l o cs' vg g vt' tr' := by
  have h1 := h.n1
  have h2 := h.n2
  have h3 := h.n3
  exact ⟨h.rd.up hu (by omega), hx, hu.blk (by omega) h.xr, Kd.R_step h.rg (fun k hk hs => hu.1.2 k hs (by omega) (by simp)), hr, h.bl.trans (hb.mono (by omega)), h1, h2, h3, Nat.le_trans h.n4 hu.size⟩
set_option maxHeartbeats 8000000 in
set_option maxRecDepth 100000 in
theorem Read_calls {t : S29} {A : Option Addr} {c : Nat} (w : World) (hn : nT t ≤ 100000000) (h : IsT w (.agg #[.int .i64 t.f0, .string t.f1, .int .i64 t.f2, .slice A t.f3.length c]) t) :
    Calls Tryd.prog 19 #[.agg #[.int .i64 t.f0, .string t.f1, .int .i64 t.f2, .slice A t.f3.length c]] w fun e w' => ∃ v, e = .returned (.tuple #[v, .int .i64 (readE t)]) ∧ IsAF w' (fun k => w.heap.size + 2 ≤ k) v (readA t) ∧ Below w.heap.size w w' := by
  have hu25 := Tryd.underlying25
  have hu29 := Tryd.underlying29
  have hu64 := Tryd.underlying64
  have hC : t.f3.length ≤ c ∧ Kd.C k29 w A t.f3.length t.f3 := by
    obtain ⟨At, ct, et, h1, h2⟩ := h
    simp only [Value.agg.injEq, Array.mk.injEq, List.cons.injEq, Value.slice.injEq, and_true, true_and] at et
    obtain ⟨rfl, rfl⟩ := et
    exact ⟨h1, h2⟩
  clear h
  obtain ⟨hl, hC⟩ := hC
  have HC := Aside0.mk hC
  have HN := Aside0.mk hn
  have hnl := nL_len t.f3
  have hnt := nT_eq t
  clear hC
  have HF : Aside0 (canR t = false → readA t = zA ∧ readE t = 50) := ⟨fun h => by unfold readA readE; rw [h]; exact ⟨rfl, rfl⟩⟩
  have HT : Aside0 (canR t = true → readA t = (rdTop t).1 ∧ readE t = 0) := ⟨fun h => by unfold readA readE; rw [if_pos h, if_pos h]; exact ⟨rfl, rfl⟩⟩
  have HCR : Aside0 (canR t = (topB t && okRd (rdTop t))) := ⟨rfl⟩
  have zbox : Aside0 (∀ o : Obj, ((w.alloc o).alloc (.cells #[.string ⟨#[]⟩, .slice none 0 0, .int .i64 0, .slice none 0 0, .string ⟨#[]⟩, .bool false, .int .i64 0] 25)).heap[w.heap.size + 1]? = some (.cells #[.string ⟨#[]⟩, .slice none 0 0, .int .i64 0, .slice none 0 0, .string ⟨#[]⟩, .bool false, .int .i64 0] 25 (0, 0))) :=
    ⟨fun o => by have := box_new (w.alloc o) (.cells #[.string ⟨#[]⟩, .slice none 0 0, .int .i64 0, .slice none 0 0, .string ⟨#[]⟩, .bool false, .int .i64 0] 25); simpa using this⟩
  have FIN0 : Aside0 (∀ W, canR t = false → Below w.heap.size w W → W.heap[w.heap.size + 1]? = some (.cells #[.string ⟨#[]⟩, .slice none 0 0, .int .i64 0, .slice none 0 0, .string ⟨#[]⟩, .bool false, .int .i64 0] 25 (0, 0)) → ∃ v, Ending.returned (.tuple #[.agg #[.string ⟨#[]⟩, .slice none 0 0, .int .i64 0, .slice none 0 0, .string ⟨#[]⟩, .bool false, .int .i64 0], .int .i64 50]) = .returned (.tuple #[v, .int .i64 (readE t)]) ∧ IsAF W (fun k => w.heap.size + 2 ≤ k) v (readA t) ∧ Below w.heap.size w W) :=
    ⟨fun W h1 h2 h3 => by obtain ⟨e1, e2⟩ := HF.out h1; rw [e1, e2]; exact ⟨_, rfl, isAF_z W _, h2⟩⟩
  rcases topB_tri t with ⟨k0, hp⟩ | ⟨k0, k1, hp⟩ | ⟨k0, k1, k2, hp⟩ | ⟨k0, k1, k2, k3, hp⟩ | ⟨k0, k1, k2, k3, hp⟩
  case inr.inr.inr.inr =>
    have k0' : (t.f0 != 3) = false := by rw [bne, k0]; rfl
    have k1' : ((t.f3.length : Int) != 3) = false := by simp; omega
    have k3' : (t.f2 != 0) = false := by rw [bne, k3]; rfl
    have HP := Aside0.mk hp
    have hcut : ∀ W, (Instr.slice 27 (.slice A t.f3.length c) none (some (.int .i64 1)) none).run Tryd.prog W = .ok (.slice A 1 c) W := fun W => by rw [k1]; exact cut_first A t.f3 c k1 hl W
    clear hp
    go_enter Tryd.func19, Tryd.ntmps19
    go_wp2_with fail
    have hlt3 : (t.f3.take 1).length = 1 := by rw [List.length_take, k1]; rfl
    have hCt := Kd.C_take (m := 1) HC.out (by omega)
    rw [hlt3] at hCt
    refine (next_calls w _ (w.heap.size + 2) (t.f3.take 1) false 3 ⟨A, c, ?hbx, by omega, by rw [hlt3]; exact hCt⟩ ?hB (by omega)).mono ?_
    case hbx => rw [hlt3]; have := box_new ((w.alloc (.cells #[.int .i64 t.f0, .string t.f1, .int .i64 t.f2, .slice A 3 c] 29)).alloc (.cells #[.string ⟨#[]⟩, .slice none 0 0, .int .i64 0, .slice none 0 0, .string ⟨#[]⟩, .bool false, .int .i64 0] 25)) (.cells #[.slice A 1 c, .bool false] 64); simpa using this
    case hB => exact below_alloc (below_alloc (below_alloc (Below.refl _ _) _) _) _
    rintro e w4 ⟨v4, rfl, ⟨Ax, cx, rfl, hlx, hCx⟩, RW4, u4⟩
    have B4 := Aside0.mk (u4.2 w.heap.size w (below_alloc (below_alloc (below_alloc (Below.refl _ _) _) _) _) (by omega))
    have XR4 := Aside0.mk (u4.blk (k := w.heap.size + 1) (by omega) (blk_alloc (zbox.out _) _))
    have hRT : rdTop t = rdAll (nx (t.f3.take 1) false 3).1.f3 (nx (t.f3.take 1) false 3).2.2 := rfl
    have hN0 : nT (nx (t.f3.take 1) false 3).1 ≤ 100000000 := by
      have h2 := nx_n (t.f3.take 1) false 3
      have h3 : nL (t.f3.take 1) ≤ nL t.f3 := by
        cases t.f3 with
        | nil => exact Nat.le_refl _
        | cons x r => rw [List.take_succ_cons, List.take_zero, nL, nL, nL]; omega
      omega
    generalize nx (t.f3.take 1) false 3 = X at hlx hCx RW4 hRT hN0
    obtain ⟨x0, l0, o0⟩ := X
    have HNX := Aside0.mk (show nL x0.f3 ≤ 100000000 by have := nT_eq x0; dsimp only at hN0; omega)
    clear hN0
    have HRT := Aside0.mk (show rdTop t = rdAll x0.f3 o0 from hRT)
    have HCX := Aside0.mk (show Kd.C k29 w Ax x0.f3.length x0.f3 from hCx)
    obtain ⟨Aw, cw, hw4, _, _⟩ := RW4
    have hw4' := blk_lt hw4
    have HW4 := Aside0.mk (show w4.heap[w.heap.size + 2]? = some (.cells #[.slice Aw l0.length cw, .bool o0] 64 (0, 0)) from hw4)
    dsimp only at hlx
    clear u4 hRT hCx hw4 hCt hcut zbox
    go_wp2_with fail
    obtain ⟨w5, hw5⟩ : ∃ w5, w5 = w4.alloc (.cells #[.int .i64 x0.f0, .string x0.f1, .int .i64 x0.f2, .slice Ax x0.f3.length cx] 29) := ⟨_, rfl⟩
    have b5 : Below w4.heap.size w4 w5 := hw5 ▸ below_alloc (Below.refl _ _) _
    have B5 := Aside0.mk (B4.out.trans (b5.mono B4.out.size))
    have XR5 := Aside0.mk (blk_below XR4.out b5)
    have hx5 : w5.cell? ⟨w4.heap.size, 3, none⟩ = some (.slice Ax x0.f3.length cx) := (blk_cell (show w5.heap[w4.heap.size]? = some (.cells #[.int .i64 x0.f0, .string x0.f1, .int .i64 x0.f2, .slice Ax x0.f3.length cx] 29 (0, 0)) from hw5 ▸ box_new w4 _) 3).trans rfl
    have hy5 : w5.cell? ⟨w.heap.size + 2, 1, none⟩ = some (.bool o0) := (blk_cell (blk_below HW4.out b5) 1).trans rfl
    have hy5' : w5.cell? ⟨w.heap.size + 1 + 1, 1, none⟩ = some (.bool o0) := hy5
    have hz5 : w.heap.size + 3 ≤ w5.heap.size := by have := b5.size; omega
    rw [← hw5]
    clear hw5 b5 B4 XR4 HW4 hw4'
    go_region_held3 (fun w' => w'.cell? ⟨w4.heap.size, 3, none⟩ = some (.slice Ax x0.f3.length cx) ∧ w'.cell? ⟨w.heap.size + 1 + 1, 1, none⟩ = some (.bool o0))
      (first | (with_reducible (go_split_ands; exact ⟨pw_cell_below (below_alloc (Below.refl _ _) _) (by assumption), pw_cell_below (below_alloc (Below.refl _ _) _) (by assumption)⟩)) | (with_reducible (go_split_ands; refine ⟨?_, ?_⟩ <;> assumption)) | (go_keep; done))
      (fail)
    go_wp2_with fail
    have RD5 : Rd w ((w5.alloc (.cells #[.slice Ax x0.f3.length cx, .bool o0] 64)).drew) w5.heap.size x0.f3 o0 := ⟨Ax, cx, box_new w5 _, hlx, HCX.out⟩
    have BD5 : Below w.heap.size w ((w5.alloc (.cells #[.slice Ax x0.f3.length cx, .bool o0] 64)).drew) := below_drew (B5.out.trans ((below_alloc (Below.refl _ _) _).mono B5.out.size))
    refine (next_calls w _ w5.heap.size x0.f3 o0 0 RD5 BD5 B5.out.size).mono ?_
    rintro e w6 ⟨v6, rfl, ⟨Ay, cy, rfl, _, _⟩, rd6, u6⟩
    have B6 := Aside0.mk (u6.2 _ _ BD5 B5.out.size)
    have XR6 := Aside0.mk (u6.blk (k := w.heap.size + 1) (by omega) (show ((w5.alloc (.cells #[.slice Ax x0.f3.length cx, .bool o0] 64)).drew).heap[w.heap.size + 1]? = _ from blk_alloc XR5.out _))
    obtain ⟨na, hna⟩ : ∃ na, na = nx x0.f3 o0 0 := ⟨_, rfl⟩
    rw [← hna] at rd6 ⊢
    have E1 := Aside0.mk hna
    have hg6 : w5.heap.size < w6.heap.size := by have := u6.size; have h2 : ((w5.alloc (.cells #[.slice Ax x0.f3.length cx, .bool o0] 64)).drew).heap.size = w5.heap.size + 1 := World.size_alloc w5 _; omega
    have RD6 := Aside0.mk rd6
    have hgw : w.heap.size ≤ w5.heap.size := B5.out.size
    clear hna rd6 u6 RD5 BD5 B5 XR5 hx5 hy5 hy5' hlx
    go_wp2_with fail
    have HNA := Aside0.mk (show nL na.2.1 ≤ 100000000 by have := (nx_n x0.f3 o0 0).2; rw [← E1.out] at this; have := HNX.out; omega)
    refine (each_calls w _ w5.heap.size na.2.1 na.2.2 1 (RD6.out.alloc _) (B6.out.trans ((below_alloc (Below.refl _ _) _).mono B6.out.size)) hgw (by have := (nx_n na.2.1 na.2.2 3).1; rw [nT_eq] at this; have h2 := nL_len (nx na.2.1 na.2.2 3).1.f3; have := HNA.out; omega)).mono ?_
    rintro e ws ⟨v8, rfl, r8, rd8, u8⟩
    obtain ⟨nb, hnb⟩ : ∃ nb, nb = ec na.2.1 na.2.2 1 := ⟨_, rfl⟩
    have E2 := Aside0.mk hnb
    have RX8 : Aside0 (Kd.R (Kd.fixed k29 w) 29 ws (w6.heap.size + 1) (fun _ => True) v8 nb.1) := ⟨by rw [hnb]; rw [World.size_alloc] at r8; exact r8⟩
    have RD8 : Aside0 (Rd w ws w5.heap.size nb.2.1 nb.2.2) := ⟨by rw [hnb]; exact rd8⟩
    have B8 := Aside0.mk (u8.2 _ _ (B6.out.trans ((below_alloc (Below.refl _ _) _).mono B6.out.size)) hgw)
    have XA8 := Aside0.mk (u8.blk (k := w6.heap.size) (by omega) (box_new w6 _))
    have XR8 := Aside0.mk (u8.blk (k := w.heap.size + 1) (by omega) (blk_alloc XR6.out _))
    have hs8 : w6.heap.size < ws.heap.size := by have := u8.size; rw [World.size_alloc] at this; omega
    obtain ⟨AX, cX, rfl⟩ := Kd.R_slice RX8.out
    have hNB := ec_n na.2.1 na.2.2 1
    rw [← hnb] at hNB
    have HNB := Aside0.mk (show nL nb.1 ≤ 100000002 ∧ nL nb.2.1 ≤ 100000000 by have := HNA.out; omega)
    have hlb := nL_len nb.1
    clear hnb r8 rd8 u8 RD6 B6 XR6 HNA hNB
    go_wp2_with fail
    go_loopg [9, 54] nb.1.length (fun gg _ s54 wr => ∃ (kk : Nat) (Ag : Option Addr) (cg : Nat), kk ≤ nb.1.length ∧ nb.1.length - kk ≤ gg ∧ s54 = .int .i64 kk ∧ Aside0 (Up ws wr w6.heap.size) ∧ Aside0 (Below w6.heap.size ws wr) ∧
      Aside0 (wr.heap[w6.heap.size]? = some (.cells #[.string na.1.f1, .slice Ag kk cg, .int .i64 0, .slice none 0 0, .string ⟨#[]⟩, .bool false, .int .i64 0] 25 (0, 0))) ∧ Aside0 (Kd.R (Kd.int .i64) 3 wr w6.heap.size (fun k => ws.heap.size ≤ k) (.slice Ag kk cg) ((nb.1.take kk).map (·.f2))))
    case atStart => exact ⟨0, none, 0, Nat.zero_le _, by omega, rfl, ⟨Up.refl _ _⟩, ⟨Below.refl _ _⟩, XA8, ⟨Kd.R_nil _ _ _ _ _⟩⟩
    case round =>
      obtain ⟨kk, Ag, cg, hkk, hgg, rfl, UW, BW, XA, RG⟩ := hrel
      obtain ⟨ha0, ha1, ha2, ha3, ha4, ha5, ha6⟩ := boxA_cells XA.out
      have hzs := UW.out.size
      by_cases hlt : kk < nb.1.length
      · have RXw := Kd.R_step (Kd.R_bound RX8.out) (w1 := wr) (fun q hq hqs => UW.out.1.2 q hqs (by have := hq.2.1; omega) (by simp))
        have CX := fixed_C (Kd.R_reads' RXw).2.2 (B8.out.trans (BW.out.mono (by have := B8.out.size; omega)) : Below w.heap.size w wr)
        obtain ⟨ad, A9, c9, e9, hx0, hx1, hx2, hx3, hl9, hC9⟩ := at_T29 CX (kk : Int) (by omega) (by omega)
        cases e9
        have hrd : rd_T29 nb.1 (kk : Int) = nb.1[kk] := by rw [rd_bang, getElem!_pos nb.1 kk hlt]
        rw [hrd] at hx0 hx1 hx2 hx3 hl9
        obtain ⟨y, hy⟩ : ∃ y, y = nb.1[kk] := ⟨_, rfl⟩
        rw [← hy] at hx0 hx1 hx2 hx3 hl9
        have HY := Aside0.mk hy
        clear hy RXw CX hC9 hrd
        simp only [Int.toNat_natCast] at hx0 hx1 hx2 hx3
        have hin : (kk : Int) < nb.1.length := by omega
        have ha1' : ∀ o, (wr.alloc o).cell? ⟨w6.heap.size, 1, none⟩ = some (.slice Ag kk cg) := fun o => (blk_cell (blk_alloc XA.out o) 1).trans rfl
        have hlen0 : ((nb.1.take kk).map (·.f2)).length = kk := by rw [List.length_map, List.length_take]; omega
        have HL0 := Aside0.mk hlen0
        have hNb := HNB.out.1
        have hxal := blk_lt XA.out
        clear hlen0
        go_wp2_with (at_builtin; refine Kd.R_append (Kd.int .i64) (w0 := ws) w6.heap.size rfl (.tmp 59) (.tmp 62) 22 3 (.int .i64 0) 8 rfl Tryd.underlying22 info3 rfl (show 0 < 1 from by decide) (by decide) (.slice Ag kk cg) ((nb.1.take kk).map (·.f2)) y.f2 [.int .i64 y.f2] (fun k => ws.heap.size ≤ k) (fun _ => False) rfl ?hx ?hM (fun _ hk => hk.elim) ?hfr ?HO ?HB ?hbs ?hl ?_; (case hx => rw [World.size_alloc]; rfl); (case hM => exact rfl); (case hfr => intro q hq; rw [World.size_alloc] at hq; omega); (case HO => exact Kd.R_alloc RG.out _); (case HB => exact BW.out.alloc (by omega) _); (case hbs => rw [World.size_alloc]; omega); (case hl => rw [HL0.out]; omega); intro v1 w7 ho hb7 hg7 hat; have HO := Aside0.mk ho; have HB7 := Aside0.mk hb7; have hXA7 : w7.heap[w6.heap.size]? = some (.cells #[.string na.1.f1, .slice Ag kk cg, .int .i64 0, .slice none 0 0, .string ⟨#[]⟩, .bool false, .int .i64 0] 25 (0, 0)) := (hg7.block _ (by rw [World.size_alloc]; omega) (fun e => by have := RG.out.1 _ e.symm; omega)).trans (blk_alloc XA.out _); have HXA7 := Aside0.mk hXA7; have HU7 : Aside0 (Up ws w7 w6.heap.size) := ⟨⟨⟨hb7.size, fun q hq hqa hqr => ((hg7.block q (by rw [World.size_alloc]; omega) (fun e => by have := RG.out.1 _ e.symm; omega)).trans (((below_alloc (Below.refl wr.heap.size wr) _).block q (by omega)).trans (UW.out.1.2 q hq hqa hqr)))⟩, fun B0 w00 hb00 hB00 => hb00.trans (hb7.mono hB00)⟩⟩; clear ho hb7 hg7 hat; obtain ⟨A7, c7, rfl⟩ := Kd.R_slice HO.out; obtain ⟨hd0, hd1, hd2, hd3, hd4, hd5, hd6⟩ := boxA_cells hXA7; have hdf := blk_frozen hXA7 1; clear hXA7)
        have hlen : ((nb.1.take kk).map (·.f2) ++ [y.f2]).length = kk + 1 := by rw [List.length_append, HL0.out]; rfl
        have htk : (nb.1.take kk).map (·.f2) ++ [y.f2] = (nb.1.take (kk + 1)).map (·.f2) := by rw [List.take_succ_eq_append_getElem hlt, List.map_append, HY.out]; rfl
        go_roundg (nb.1.length - (kk + 1))
        case measure => omega
        case rel =>
          refine ⟨kk + 1, A7, c7, by omega, by omega, by go_num, ⟨HU7.out.set 1 _⟩, ⟨HB7.out.setCell (p := ⟨w6.heap.size, 1, none⟩) (Nat.le_refl _) _⟩, ⟨?_⟩, ⟨?_⟩⟩
          · rw [← hlen]; exact blk_put HXA7.out 1 _ rfl
          · have h := HO.out
            rw [hlen, htk] at h
            exact Kd.R_step h (fun q hq _ => Below.heap_setCell w7 ⟨w6.heap.size, 1, none⟩ _ q (by show q ≠ w6.heap.size; omega))
      · obtain rfl : kk = nb.1.length := by omega
        have hxa := blk_lt XA.out
        have SA : Aside0 (St w wr w5.heap.size w6.heap.size ws.heap.size nb.2.1 nb.2.2 #[.string na.1.f1, .slice Ag nb.1.length cg, .int .i64 0, .slice none 0 0, .string ⟨#[]⟩, .bool false, .int .i64 0] (.slice Ag nb.1.length cg) (nb.1.map (·.f2)) (.slice none 0 0) []) :=
          ⟨⟨RD8.out.up UW.out (by omega), XA.out, UW.out.blk (by omega) XR8.out, by have h := RG.out; rw [List.take_length] at h; exact h, Kd.R_nil _ _ _ _ _, B8.out.trans (BW.out.mono (by omega)), by omega, by omega, by omega, hzs⟩⟩
        clear UW BW XA RG RX8 RD8 B8 XA8 XR8 ha0 ha1 ha2 ha3 ha4 ha5 ha6
        go_wp2_with fail
        refine (next_calls w _ w5.heap.size nb.2.1 nb.2.2 1 SA.out.rd SA.out.bl hgw).mono ?_
        rintro e w10 ⟨v10, rfl, ⟨Ay, cy, rfl, _, _⟩, rd10, u10⟩
        obtain ⟨nc, hnc⟩ : ∃ nc, nc = nx nb.2.1 nb.2.2 1 := ⟨_, rfl⟩
        rw [← hnc] at rd10 ⊢
        have E3 := Aside0.mk hnc
        have S10 := Aside0.mk (SA.out.up u10 rd10)
        clear hnc rd10 u10 SA
        obtain ⟨ha0, ha1, ha2, ha3, ha4, ha5, ha6⟩ := boxA_cells S10.out.xa
        have hf2 := blk_frozen S10.out.xa 2
        go_wp2_with fail
        have S11 := Aside0.mk (S10.out.set 2 (.int .i64 nc.1.f2) rfl)
        have HNC := Aside0.mk (show nL nc.2.1 ≤ 100000000 by have := (nx_n nb.2.1 nb.2.2 1).2; rw [← E3.out] at this; have := HNB.out.2; omega)
        refine (each_calls w _ w5.heap.size nc.2.1 nc.2.2 0 S11.out.rd S11.out.bl hgw (by have := (nx_n nc.2.1 nc.2.2 3).1; rw [nT_eq] at this; have h2 := nL_len (nx nc.2.1 nc.2.2 3).1.f3; have := HNC.out; omega)).mono ?_
        rintro e wt ⟨v12, rfl, r12, rd12, u12⟩
        obtain ⟨nd, hnd⟩ : ∃ nd, nd = ec nc.2.1 nc.2.2 0 := ⟨_, rfl⟩
        have E4 := Aside0.mk hnd
        have n4 := S10.out.n4
        have RX12 : Aside0 (Kd.R (Kd.fixed k29 w) 29 wt w10.heap.size (fun _ => True) v12 nd.1) := ⟨by rw [hnd]; have h := r12; rw [show (w10.setCell ⟨w6.heap.size, 2, none⟩ (.int .i64 nc.1.f2)).heap.size = w10.heap.size from by simp] at h; exact h⟩
        have S12 : Aside0 (St w wt w5.heap.size w6.heap.size ws.heap.size nd.2.1 nd.2.2 #[.string na.1.f1, .slice Ag nb.1.length cg, .int .i64 nc.1.f2, .slice none 0 0, .string ⟨#[]⟩, .bool false, .int .i64 0] (.slice Ag nb.1.length cg) (nb.1.map (·.f2)) (.slice none 0 0) []) := ⟨S11.out.up u12 (by rw [hnd]; exact rd12)⟩
        obtain ⟨AY, cY, rfl⟩ := Kd.R_slice RX12.out
        have hND := ec_n nc.2.1 nc.2.2 0
        rw [← hnd] at hND
        have HND := Aside0.mk (show nL nd.1 ≤ 100000002 ∧ nL nd.2.1 ≤ 100000000 by have := HNC.out; omega)
        have hld := nL_len nd.1
        have n4t := S12.out.n4
        clear hnd r12 rd12 u12 S10 S11 HNC hND ha0 ha1 ha2 ha3 ha4 ha5 ha6 hf2
        go_wp2_with fail
        go_loopg [11, 73] nd.1.length (fun gg _ s73 wr => ∃ (kk : Nat) (At : Option Addr) (ct : Nat), kk ≤ nd.1.length ∧ nd.1.length - kk ≤ gg ∧ s73 = .int .i64 kk ∧ Aside0 (Up wt wr w6.heap.size) ∧ Aside0 (Below w6.heap.size wt wr) ∧
          Aside0 (wr.heap[w6.heap.size]? = some (.cells #[.string na.1.f1, .slice Ag nb.1.length cg, .int .i64 nc.1.f2, .slice At kk ct, .string ⟨#[]⟩, .bool false, .int .i64 0] 25 (0, 0))) ∧ Aside0 (Kd.R Kd.string 9 wr w6.heap.size (fun k => wt.heap.size ≤ k) (.slice At kk ct) ((nd.1.take kk).map (·.f1))))
        case atStart => exact ⟨0, none, 0, Nat.zero_le _, by omega, rfl, ⟨Up.refl _ _⟩, ⟨Below.refl _ _⟩, ⟨S12.out.xa⟩, ⟨Kd.R_nil _ _ _ _ _⟩⟩
        case round =>
          obtain ⟨kk, At, ct, hkk, hgg, rfl, UW, BW, XA, RG⟩ := hrel
          obtain ⟨ha0, ha1, ha2, ha3, ha4, ha5, ha6⟩ := boxA_cells XA.out
          have hzt := UW.out.size
          by_cases hlt : kk < nd.1.length
          · have RXw := Kd.R_step (Kd.R_bound RX12.out) (w1 := wr) (fun q hq hqs => UW.out.1.2 q hqs (by have := hq.2.1; omega) (by simp))
            have CX := fixed_C (Kd.R_reads' RXw).2.2 (S12.out.bl.trans (BW.out.mono (by have := S12.out.n1; have := S12.out.n2; omega)) : Below w.heap.size w wr)
            obtain ⟨ad, A9, c9, e9, hx0, hx1, hx2, hx3, hl9, hC9⟩ := at_T29 CX (kk : Int) (by omega) (by omega)
            cases e9
            have hrd : rd_T29 nd.1 (kk : Int) = nd.1[kk] := by rw [rd_bang, getElem!_pos nd.1 kk hlt]
            rw [hrd] at hx0 hx1 hx2 hx3 hl9
            obtain ⟨y, hy⟩ : ∃ y, y = nd.1[kk] := ⟨_, rfl⟩
            rw [← hy] at hx0 hx1 hx2 hx3 hl9
            have HY := Aside0.mk hy
            clear hy RXw CX hC9 hrd
            simp only [Int.toNat_natCast] at hx0 hx1 hx2 hx3
            have hin : (kk : Int) < nd.1.length := by omega
            have ha3' : ∀ o, (wr.alloc o).cell? ⟨w6.heap.size, 3, none⟩ = some (.slice At kk ct) := fun o => (blk_cell (blk_alloc XA.out o) 3).trans rfl
            have hlen0 : ((nd.1.take kk).map (·.f1)).length = kk := by rw [List.length_map, List.length_take]; omega
            have HL0 := Aside0.mk hlen0
            have hNd := HND.out.1
            have hxal := blk_lt XA.out
            clear hlen0
            go_wp2_with (at_builtin; refine Kd.R_append Kd.string (w0 := wt) w6.heap.size rfl (.tmp 78) (.tmp 81) 23 9 (.string ⟨#[]⟩) 16 rfl Tryd.underlying23 info9 rfl (show 0 < 1 from by decide) (by decide) (.slice At kk ct) ((nd.1.take kk).map (·.f1)) y.f1 [.string y.f1] (fun k => wt.heap.size ≤ k) (fun _ => False) rfl ?hx ?hM (fun _ hk => hk.elim) ?hfr ?HO ?HB ?hbs ?hl ?_; (case hx => rw [World.size_alloc]; rfl); (case hM => exact rfl); (case hfr => intro q hq; rw [World.size_alloc] at hq; omega); (case HO => exact Kd.R_alloc RG.out _); (case HB => exact BW.out.alloc (by omega) _); (case hbs => rw [World.size_alloc]; omega); (case hl => rw [HL0.out]; omega); intro v1 w7 ho hb7 hg7 hat; have HO := Aside0.mk ho; have HB7 := Aside0.mk hb7; have hXA7 : w7.heap[w6.heap.size]? = some (.cells #[.string na.1.f1, .slice Ag nb.1.length cg, .int .i64 nc.1.f2, .slice At kk ct, .string ⟨#[]⟩, .bool false, .int .i64 0] 25 (0, 0)) := (hg7.block _ (by rw [World.size_alloc]; omega) (fun e => by have := RG.out.1 _ e.symm; omega)).trans (blk_alloc XA.out _); have HXA7 := Aside0.mk hXA7; have HU7 : Aside0 (Up wt w7 w6.heap.size) := ⟨⟨⟨hb7.size, fun q hq hqa hqr => ((hg7.block q (by rw [World.size_alloc]; omega) (fun e => by have := RG.out.1 _ e.symm; omega)).trans (((below_alloc (Below.refl wr.heap.size wr) _).block q (by omega)).trans (UW.out.1.2 q hq hqa hqr)))⟩, fun B0 w00 hb00 hB00 => hb00.trans (hb7.mono hB00)⟩⟩; clear ho hb7 hg7 hat; obtain ⟨A7, c7, rfl⟩ := Kd.R_slice HO.out; obtain ⟨hd0, hd1, hd2, hd3, hd4, hd5, hd6⟩ := boxA_cells hXA7; have hdf := blk_frozen hXA7 3; clear hXA7)
            have hlen : ((nd.1.take kk).map (·.f1) ++ [y.f1]).length = kk + 1 := by rw [List.length_append, HL0.out]; rfl
            have htk : (nd.1.take kk).map (·.f1) ++ [y.f1] = (nd.1.take (kk + 1)).map (·.f1) := by rw [List.take_succ_eq_append_getElem hlt, List.map_append, HY.out]; rfl
            go_roundg (nd.1.length - (kk + 1))
            case measure => omega
            case rel =>
              refine ⟨kk + 1, A7, c7, by omega, by omega, by go_num, ⟨HU7.out.set 3 _⟩, ⟨HB7.out.setCell (p := ⟨w6.heap.size, 3, none⟩) (Nat.le_refl _) _⟩, ⟨?_⟩, ⟨?_⟩⟩
              · rw [← hlen]; exact blk_put HXA7.out 3 _ rfl
              · have h := HO.out
                rw [hlen, htk] at h
                exact Kd.R_step h (fun q hq _ => Below.heap_setCell w7 ⟨w6.heap.size, 3, none⟩ _ q (by show q ≠ w6.heap.size; omega))
          · obtain rfl : kk = nd.1.length := by omega
            have hlo : ws.heap.size ≤ wt.heap.size := S12.out.n4
            have SB := Aside0.mk (S12.out.mid UW.out BW.out XA.out (Kd.R_mono (by have h := RG.out; rw [List.take_length] at h; exact h) (fun k hk => Nat.le_trans hlo hk)))
            clear UW BW XA RG RX12 S12 ha0 ha1 ha2 ha3 ha4 ha5 ha6
            go_wp2_with fail
            refine (next_calls w _ w5.heap.size nd.2.1 nd.2.2 0 SB.out.rd SB.out.bl hgw).mono ?_
            rintro e w13 ⟨v13, rfl, ⟨Az, cz, rfl, _, _⟩, rd13, u13⟩
            obtain ⟨ne, hne⟩ : ∃ ne, ne = nx nd.2.1 nd.2.2 0 := ⟨_, rfl⟩
            rw [← hne] at rd13 ⊢
            have E5 := Aside0.mk hne
            have S13 := Aside0.mk (SB.out.up u13 rd13)
            clear hne rd13 u13 SB
            obtain ⟨ha0, ha1, ha2, ha3, ha4, ha5, ha6⟩ := boxA_cells S13.out.xa
            have hf4 := blk_frozen S13.out.xa 4
            go_wp2_with fail
            have S14 := Aside0.mk (S13.out.set 4 (.string ne.1.f1) rfl)
            refine (flag_calls w _ w5.heap.size ne.2.1 ne.2.2 S14.out.rd S14.out.bl hgw).mono ?_
            rintro e w15 ⟨rfl, rd15, u15⟩
            obtain ⟨nf, hnf⟩ : ∃ nf, nf = nx ne.2.1 ne.2.2 1 := ⟨_, rfl⟩
            rw [← hnf] at rd15 ⊢
            have E6 := Aside0.mk hnf
            have S15 := Aside0.mk (S14.out.up u15 rd15)
            clear hnf rd15 u15 S13 S14 ha0 ha1 ha2 ha3 ha4 ha5 ha6 hf4
            obtain ⟨ha0, ha1, ha2, ha3, ha4, ha5, ha6⟩ := boxA_cells S15.out.xa
            have hf5 := blk_frozen S15.out.xa 5
            go_wp2_with fail
            have S16 := Aside0.mk (S15.out.set 5 (.bool (nf.1.f2 == 1)) rfl)
            refine (next_calls w _ w5.heap.size nf.2.1 (flOdd nf.1.f2 nf.2.2) 1 S16.out.rd S16.out.bl hgw).mono ?_
            rintro e w17 ⟨v17, rfl, ⟨Az2, cz2, rfl, _, _⟩, rd17, u17⟩
            obtain ⟨nh, hnh⟩ : ∃ nh, nh = nx nf.2.1 (flOdd nf.1.f2 nf.2.2) 1 := ⟨_, rfl⟩
            rw [← hnh] at rd17 ⊢
            have E7 := Aside0.mk hnh
            have S17 := Aside0.mk (S16.out.up u17 rd17)
            clear hnh rd17 u17 S15 S16 ha0 ha1 ha2 ha3 ha4 ha5 ha6 hf5
            have S18 := Aside0.mk (S17.out.set 6 (.int .i64 nh.1.f2) (cs' := #[.string na.1.f1, .slice Ag nb.1.length cg, .int .i64 nc.1.f2, .slice At nd.1.length ct, .string ne.1.f1, .bool (nf.1.f2 == 1), .int .i64 nh.1.f2]) rfl)
            obtain ⟨aF, haF⟩ : ∃ aF : Au, aF = ⟨na.1.f1, nb.1.map (·.f2), nc.1.f2, nd.1.map (·.f1), ne.1.f1, nf.1.f2 == 1, nh.1.f2⟩ := ⟨_, rfl⟩
            have HRD : Aside0 (rdTop t = (aF, nh.2.1, nh.2.2)) := ⟨by
              rw [HRT.out, haF]
              unfold rdAll
              dsimp only
              rw [← E1.out, ← E2.out, ← E3.out, ← E4.out, ← E5.out, ← E6.out, ← E7.out]⟩
            have HOK : Aside0 (canR t = (!nh.2.2 && (nh.2.1.isEmpty && validA aF))) := ⟨by rw [HCR.out, HP.out, HRD.out]; rfl⟩
            have HNF : Aside0 (nA aF ≤ 1000000000) := ⟨by have := rdTop_n t; rw [HRD.out] at this; dsimp only at this; omega⟩
            have HAF := Aside0.mk haF
            clear haF E1 E2 E3 E4 E5 E6 E7 HRT HCX HNX HNB HND HCR
            obtain ⟨ha0, ha1, ha2, ha3, ha4, ha5, ha6⟩ := boxA_cells S17.out.xa
            have hf6 := blk_frozen S17.out.xa 6
            obtain ⟨Ar, cr, hrx, hrl, _⟩ := S17.out.rd
            have hr0 : w17.cell? ⟨w5.heap.size, 0, none⟩ = some (.slice Ar nh.2.1.length cr) := (blk_cell hrx 0).trans rfl
            have hr1 : w17.cell? ⟨w5.heap.size, 1, none⟩ = some (.bool nh.2.2) := (blk_cell hrx 1).trans rfl
            obtain ⟨hz0, hz1, hz2, hz3, hz4, hz5, hz6⟩ := boxA_cells S17.out.xr
            clear hrx
            have hn1 : w.heap.size + 1 < w5.heap.size := S17.out.n1
            have hn2 : w5.heap.size < w6.heap.size := S17.out.n2
            have q1 : ¬ w5.heap.size = w6.heap.size := by omega
            have q2 : ¬ w6.heap.size = w5.heap.size := by omega
            have q3 : ¬ w.heap.size + 1 = w6.heap.size := by omega
            have q4 : ¬ w6.heap.size = w.heap.size + 1 := by omega
            generalize nh.2.2 = oo at hr1 S18 HRD HOK
            generalize nh.2.1 = ll at hr0 S18 HRD HOK
            have hzf0 := blk_frozen S17.out.xr 0
            have hzf1 := blk_frozen S17.out.xr 1
            have hzf2 := blk_frozen S17.out.xr 2
            have hzf3 := blk_frozen S17.out.xr 3
            have hzf4 := blk_frozen S17.out.xr 4
            have hzf5 := blk_frozen S17.out.xr 5
            have hzf6 := blk_frozen S17.out.xr 6
            cases oo with
            | true =>
              have hcan : canR t = false := by rw [HOK.out]; rfl
              have HCAN := Aside0.mk hcan
              clear hcan
              go_wp2_with fail
              refine bodyPost_ret (results_ct rfl _ _ (w.heap.size + 1) 25 #[.string ⟨#[]⟩, .slice none 0 0, .int .i64 0, .slice none 0 0, .string ⟨#[]⟩, .bool false, .int .i64 0] (0, 0) _ rfl (putA_block S18.out.xr) Tryd.underlying25 rfl (by kernel_rfl)) rfl ?_
              exact FIN0.out _ HCAN.out (putA_below S18.out.bl (by omega)) (putA_block S18.out.xr)
            | false =>
            cases ll with
            | cons y r =>
              have hpos : (0 : Int) < ((y :: r).length : Int) := by rw [List.length_cons]; omega
              have hcan : canR t = false := by rw [HOK.out]; rfl
              have HCAN := Aside0.mk hcan
              clear hcan
              go_wp2_with fail
              refine bodyPost_ret (results_ct rfl _ _ (w.heap.size + 1) 25 #[.string ⟨#[]⟩, .slice none 0 0, .int .i64 0, .slice none 0 0, .string ⟨#[]⟩, .bool false, .int .i64 0] (0, 0) _ rfl (putA_block S18.out.xr) Tryd.underlying25 rfl (by kernel_rfl)) rfl ?_
              exact FIN0.out _ HCAN.out (putA_below S18.out.bl (by omega)) (putA_block S18.out.xr)
            | nil =>
            have hAV : IsA (w17.setCell ⟨w6.heap.size, 6, none⟩ (.int .i64 nh.1.f2)) (.agg #[.string na.1.f1, .slice Ag nb.1.length cg, .int .i64 nc.1.f2, .slice At nd.1.length ct, .string ne.1.f1, .bool (nf.1.f2 == 1), .int .i64 nh.1.f2]) aF := by
              rw [HAF.out]
              have h1 := Kd.R_reads' S18.out.rg
              have h2 := Kd.R_reads' S18.out.rt
              exact ⟨Ag, cg, At, ct, by simp only [List.length_map], by rw [← h1.1]; exact h1.2.1, h1.2.2, by rw [← h2.1]; exact h2.2.1, h2.2.2⟩
            simp only [List.length_nil] at hr0
            have HAV := Aside0.mk hAV
            clear hAV
            go_wp2_with fail
            refine (Valid_calls _ HNF.out HAV.out).mono ?_
            rintro e w19 ⟨rfl, b19⟩
            have X19 := Aside0.mk (blk_below S18.out.xa b19)
            have R19 := Aside0.mk (blk_below S18.out.xr b19)
            have B19 := Aside0.mk (S18.out.bl.trans (b19.mono S18.out.bl.size))
            have G19 := Aside0.mk (Kd.R_below S18.out.rg b19)
            have T19 := Aside0.mk (Kd.R_below S18.out.rt b19)
            have hlo := S18.out.n3
            clear b19 S17 S18 ha0 ha1 ha2 ha3 ha4 ha5 ha6 hz0 hz1 hz2 hz3 hz4 hz5 hz6 hzf0 hzf1 hzf2 hzf3 hzf4 hzf5 hzf6 hr0 hr1 hf6 HAV
            obtain ⟨ha0, ha1, ha2, ha3, ha4, ha5, ha6⟩ := boxA_cells X19.out
            obtain ⟨hz0, hz1, hz2, hz3, hz4, hz5, hz6⟩ := boxA_cells R19.out
            have hzf0 := blk_frozen R19.out 0
            have hzf1 := blk_frozen R19.out 1
            have hzf2 := blk_frozen R19.out 2
            have hzf3 := blk_frozen R19.out 3
            have hzf4 := blk_frozen R19.out 4
            have hzf5 := blk_frozen R19.out 5
            have hzf6 := blk_frozen R19.out 6
            cases hva : validA aF with
            | false =>
              have hcan : canR t = false := by rw [HOK.out, hva]; rfl
              have HCAN := Aside0.mk hcan
              clear hcan
              go_wp2_with fail
              refine bodyPost_ret (results_ct rfl _ _ (w.heap.size + 1) 25 #[.string ⟨#[]⟩, .slice none 0 0, .int .i64 0, .slice none 0 0, .string ⟨#[]⟩, .bool false, .int .i64 0] (0, 0) _ rfl (putA_block R19.out) Tryd.underlying25 rfl (by kernel_rfl)) rfl ?_
              exact FIN0.out _ HCAN.out (putA_below B19.out (by omega)) (putA_block R19.out)
            | true =>
              have hcan : canR t = true := by rw [HOK.out, hva]; rfl
              have HCAN := Aside0.mk hcan
              clear hcan
              go_wp2_with fail
              refine bodyPost_ret (results_ct rfl _ _ (w.heap.size + 1) 25 #[.string na.1.f1, .slice Ag nb.1.length cg, .int .i64 nc.1.f2, .slice At nd.1.length ct, .string ne.1.f1, .bool (nf.1.f2 == 1), .int .i64 nh.1.f2] (0, 0) _ rfl (putA_block R19.out) Tryd.underlying25 rfl (by kernel_rfl)) rfl ?_
              obtain ⟨e1, e2⟩ := HT.out HCAN.out
              rw [e1, e2, HRD.out, HAF.out]
              have h1 := Kd.R_reads' G19.out
              have h2 := Kd.R_reads' T19.out
              refine ⟨_, rfl, ⟨Ag, cg, At, ct, by simp only [List.length_map], by rw [← h1.1]; exact h1.2.1, ?_, by rw [← h2.1]; exact h2.2.1, ?_⟩, putA_below B19.out (by omega)⟩
              · exact Kd.F_mono (Kd.F_step (by have h := Kd.R_F G19.out; rw [h1.1] at h; exact h) (fun k hk _ => putA_other (by omega))) (fun k hk => by omega)
              · exact Kd.F_mono (Kd.F_step (by have h := Kd.R_F T19.out; rw [h2.1] at h; exact h) (fun k hk _ => putA_other (by omega))) (fun k hk => by omega)
  all_goals
    have hcan : canR t = false := by rw [HCR.out, hp]; rfl
    have HCAN := Aside0.mk hcan
    clear hp hcan
  case inl =>
    have k0' : (t.f0 != 3) = true := by rw [bne, k0]; rfl
    go_enter Tryd.func19, Tryd.ntmps19
    go_wp2_with fail
    refine bodyPost_ret (results_ct rfl _ _ (w.heap.size + 1) 25 #[.string ⟨#[]⟩, .slice none 0 0, .int .i64 0, .slice none 0 0, .string ⟨#[]⟩, .bool false, .int .i64 0] (0, 0) _ rfl (zbox.out _) Tryd.underlying25 rfl (by kernel_rfl)) rfl ?_
    exact FIN0.out _ HCAN.out (below_alloc (below_alloc (Below.refl _ _) _) _) (zbox.out _)
  case inr.inl =>
    have k0' : (t.f0 != 3) = false := by rw [bne, k0]; rfl
    have k1' : ((t.f3.length : Int) != 3) = true := by simp; omega
    go_enter Tryd.func19, Tryd.ntmps19
    go_wp2_with fail
    refine bodyPost_ret (results_ct rfl _ _ (w.heap.size + 1) 25 #[.string ⟨#[]⟩, .slice none 0 0, .int .i64 0, .slice none 0 0, .string ⟨#[]⟩, .bool false, .int .i64 0] (0, 0) _ rfl (zbox.out _) Tryd.underlying25 rfl (by kernel_rfl)) rfl ?_
    exact FIN0.out _ HCAN.out (below_alloc (below_alloc (Below.refl _ _) _) _) (zbox.out _)
  case inr.inr.inl =>
    have k0' : (t.f0 != 3) = false := by rw [bne, k0]; rfl
    have k1' : ((t.f3.length : Int) != 3) = false := by simp; omega
    go_enter Tryd.func19, Tryd.ntmps19
    go_wp2_with fail
    refine bodyPost_ret (results_ct rfl _ _ (w.heap.size + 1) 25 #[.string ⟨#[]⟩, .slice none 0 0, .int .i64 0, .slice none 0 0, .string ⟨#[]⟩, .bool false, .int .i64 0] (0, 0) _ rfl (zbox.out _) Tryd.underlying25 rfl (by kernel_rfl)) rfl ?_
    exact FIN0.out _ HCAN.out (below_alloc (below_alloc (Below.refl _ _) _) _) (zbox.out _)
  case inr.inr.inr.inl =>
    have k0' : (t.f0 != 3) = false := by rw [bne, k0]; rfl
    have k1' : ((t.f3.length : Int) != 3) = false := by simp; omega
    have k3' : (t.f2 != 0) = true := by rw [bne, k3]; rfl
    go_enter Tryd.func19, Tryd.ntmps19
    go_wp2_with fail
    refine bodyPost_ret (results_ct rfl _ _ (w.heap.size + 1) 25 #[.string ⟨#[]⟩, .slice none 0 0, .int .i64 0, .slice none 0 0, .string ⟨#[]⟩, .bool false, .int .i64 0] (0, 0) _ rfl (zbox.out _) Tryd.underlying25 rfl (by kernel_rfl)) rfl ?_
    exact FIN0.out _ HCAN.out (below_alloc (below_alloc (Below.refl _ _) _) _) (zbox.out _)
end Go.Proofs.YtimommkbfbdkdaaDoor.P
end
section
namespace Go.Proofs.YtimommkbfbdkdaaDoor.P
open Go.RowKit Go.Proofs.YtimommkbfbdkdaaDoorW.PrintWords Go.Proofs.YtimommkbfbdkdaaDoorW.PrintLast Go.Proofs.YtimommkbfbdkdaaDoorW.PrintMore
set_option linter.unusedVariables false
set_option linter.unusedSimpArgs false
def sumB (t k : S29) (n : Int) (u : S29) : Bool := k.f0 == 2 && oT t (sumT k n u) == 0
theorem three_boxes {w w1 : World} {o o2 o3 : Obj} (hb : Below (((w.alloc o).alloc o2).alloc o3).heap.size (((w.alloc o).alloc o2).alloc o3) w1) :
    Below w.heap.size w w1 ∧ w.heap.size + 3 ≤ w1.heap.size ∧ w1.heap[w.heap.size]? = some o ∧ w1.heap[w.heap.size + 1]? = some o2 ∧ w1.heap[w.heap.size + 2]? = some o3 := by
  obtain ⟨h1, h2, h3⟩ := one_box hb
  obtain ⟨k1, k2, k3, k4⟩ := two_boxes h1
  have s1 : ((w.alloc o).alloc o2).heap.size = w.heap.size + 2 := by simp
  rw [s1] at h2 h3
  exact ⟨k1, by omega, k3, k4, h3⟩
set_option maxHeartbeats 8000000 in
set_option maxRecDepth 100000 in
theorem summed_calls {t k u : S29} {v1 v2 v3 : Value} (n : Int) (w : World) (h1 : IsT w v1 t) (h2 : IsT w v2 k) (h3 : IsT w v3 u) :
    Calls Tryd.prog 48 #[v1, v2, .int .i64 n, v3] w fun e w' => e = .returned (.bool (sumB t k n u)) ∧ Below w.heap.size w w' := by
  obtain ⟨At, ct, rfl, lt, Ct⟩ := h1
  obtain ⟨Ak, ck, rfl, lk, Ck⟩ := h2
  obtain ⟨Au, cu, rfl, lu, Cu⟩ := h3
  have hu29 := Tryd.underlying29
  have IT := Aside0.mk (show IsT w (.agg #[.int .i64 t.f0, .string t.f1, .int .i64 t.f2, .slice At t.f3.length ct]) t from ⟨At, ct, rfl, lt, Ct⟩)
  have IK := Aside0.mk (show IsT w (.agg #[.int .i64 k.f0, .string k.f1, .int .i64 k.f2, .slice Ak k.f3.length ck]) k from ⟨Ak, ck, rfl, lk, Ck⟩)
  have IU := Aside0.mk (show IsT w (.agg #[.int .i64 u.f0, .string u.f1, .int .i64 u.f2, .slice Au u.f3.length cu]) u from ⟨Au, cu, rfl, lu, Cu⟩)
  have HV : Aside0 (sumB t k n u = (k.f0 == 2 && oT t (sumT k n u) == 0)) := ⟨rfl⟩
  clear lt Ct lk Ck lu Cu
  go_enter Tryd.func48, Tryd.ntmps48
  go_wp2_with fail
  obtain ⟨w1, hw1⟩ : ∃ w1, w1 = ((w.alloc (.cells #[.int .i64 t.f0, .string t.f1, .int .i64 t.f2, .slice At t.f3.length ct] 29)).alloc (.cells #[.int .i64 k.f0, .string k.f1, .int .i64 k.f2, .slice Ak k.f3.length ck] 29)).alloc (.cells #[.int .i64 u.f0, .string u.f1, .int .i64 u.f2, .slice Au u.f3.length cu] 29) := ⟨_, rfl⟩
  obtain ⟨p1, _, xt, xk, xu⟩ := three_boxes (show Below (((w.alloc (.cells #[.int .i64 t.f0, .string t.f1, .int .i64 t.f2, .slice At t.f3.length ct] 29)).alloc (.cells #[.int .i64 k.f0, .string k.f1, .int .i64 k.f2, .slice Ak k.f3.length ck] 29)).alloc (.cells #[.int .i64 u.f0, .string u.f1, .int .i64 u.f2, .slice Au u.f3.length cu] 29)).heap.size (((w.alloc (.cells #[.int .i64 t.f0, .string t.f1, .int .i64 t.f2, .slice At t.f3.length ct] 29)).alloc (.cells #[.int .i64 k.f0, .string k.f1, .int .i64 k.f2, .slice Ak k.f3.length ck] 29)).alloc (.cells #[.int .i64 u.f0, .string u.f1, .int .i64 u.f2, .slice Au u.f3.length cu] 29)) w1 from hw1 ▸ Below.refl _ _)
  have B1 := Aside0.mk p1
  obtain ⟨ht0, ht1, ht2, ht3⟩ := box_cells xt
  obtain ⟨hk0, hk1, hk2, hk3⟩ := box_cells xk
  obtain ⟨hu0, hu1, hu2, hu3⟩ := box_cells xu
  rw [← hw1]
  clear hw1 p1 xt xk xu
  have HWc : Aside0 (Below w1.heap.size w1 w1) := ⟨Below.refl _ _⟩
  cases e0 : (k.f0 == 2) with
  | false =>
    rw [e0] at HV
    go_region
    all_goals go_wp2_with fail
    all_goals go_ret
    all_goals exact ⟨by rw [HV.out]; rfl, below_drew B1.out⟩
  | true =>
    rw [e0] at HV
    go_region_held3 (fun w' => w'.cell? ⟨w.heap.size, 0, none⟩ = some (.int .i64 t.f0) ∧ w'.cell? ⟨w.heap.size, 1, none⟩ = some (.string t.f1) ∧ w'.cell? ⟨w.heap.size, 2, none⟩ = some (.int .i64 t.f2) ∧ w'.cell? ⟨w.heap.size, 3, none⟩ = some (.slice At t.f3.length ct) ∧ w'.cell? ⟨w.heap.size + 1, 0, none⟩ = some (.int .i64 k.f0) ∧ w'.cell? ⟨w.heap.size + 1, 1, none⟩ = some (.string k.f1) ∧ w'.cell? ⟨w.heap.size + 1, 2, none⟩ = some (.int .i64 k.f2) ∧ w'.cell? ⟨w.heap.size + 1, 3, none⟩ = some (.slice Ak k.f3.length ck) ∧ w'.cell? ⟨w.heap.size + 1 + 1, 0, none⟩ = some (.int .i64 u.f0) ∧ w'.cell? ⟨w.heap.size + 1 + 1, 1, none⟩ = some (.string u.f1) ∧ w'.cell? ⟨w.heap.size + 1 + 1, 2, none⟩ = some (.int .i64 u.f2) ∧ w'.cell? ⟨w.heap.size + 1 + 1, 3, none⟩ = some (.slice Au u.f3.length cu))
      (first | (with_reducible (go_split_ands; exact ⟨pw_cell_below hb (by assumption), pw_cell_below hb (by assumption), pw_cell_below hb (by assumption), pw_cell_below hb (by assumption), pw_cell_below hb (by assumption), pw_cell_below hb (by assumption), pw_cell_below hb (by assumption), pw_cell_below hb (by assumption), pw_cell_below hb (by assumption), pw_cell_below hb (by assumption), pw_cell_below hb (by assumption), pw_cell_below hb (by assumption)⟩)) | (with_reducible (go_split_ands; exact ⟨pw_cell_below (below_alloc (Below.refl _ _) _) (by assumption), pw_cell_below (below_alloc (Below.refl _ _) _) (by assumption), pw_cell_below (below_alloc (Below.refl _ _) _) (by assumption), pw_cell_below (below_alloc (Below.refl _ _) _) (by assumption), pw_cell_below (below_alloc (Below.refl _ _) _) (by assumption), pw_cell_below (below_alloc (Below.refl _ _) _) (by assumption), pw_cell_below (below_alloc (Below.refl _ _) _) (by assumption), pw_cell_below (below_alloc (Below.refl _ _) _) (by assumption), pw_cell_below (below_alloc (Below.refl _ _) _) (by assumption), pw_cell_below (below_alloc (Below.refl _ _) _) (by assumption), pw_cell_below (below_alloc (Below.refl _ _) _) (by assumption), pw_cell_below (below_alloc (Below.refl _ _) _) (by assumption)⟩)) | (with_reducible (go_split_ands; refine ⟨?_, ?_, ?_, ?_, ?_, ?_, ?_, ?_, ?_, ?_, ?_, ?_⟩ <;> assumption)) | (go_keep; done))
      (first
        | (go_simp; go_at_call 28; refine (Sum_F n (sumT k n u) rfl _ ((IK.out.F).below (B1.out.trans (Below.mono (by repeat (first | exact HWc.out | apply below_alloc | apply pw_below_drewN | apply below_drew)) B1.out.size))) ((IU.out.F).below (B1.out.trans (Below.mono (by repeat (first | exact HWc.out | apply below_alloc | apply pw_below_drewN | apply below_drew)) B1.out.size)))).mono ?_; rintro e wz ⟨vz, rfl, hz, hb⟩; have HWn := Aside0.mk (below_step (by repeat (first | exact HWc.out | apply below_alloc | apply pw_below_drewN | apply below_drew)) hb); clear HWc; have HWc := HWn; clear HWn; obtain ⟨As, cs, rfl, ls, Fs⟩ := hz; have IS := Aside0.mk (show IsT wz (.agg #[.int .i64 (sumT k n u).f0, .string (sumT k n u).f1, .int .i64 (sumT k n u).f2, .slice As (sumT k n u).f3.length cs]) (sumT k n u) from IsF.now ⟨As, cs, rfl, ls, Fs⟩); clear ls Fs)
        | (go_simp; go_at_call 22; refine (Same_V _ (IT.out.below (B1.out.trans (Below.mono (by repeat (first | exact HWc.out | apply below_alloc | apply pw_below_drewN | apply below_drew)) B1.out.size))) IS.out).mono ?_; rintro e wz ⟨rfl, hb⟩; have HWn := Aside0.mk (below_step (by repeat (first | exact HWc.out | apply below_alloc | apply pw_below_drewN | apply below_drew)) hb); clear HWc; have HWc := HWn; clear HWn))
    go_wp2_with fail
    go_ret
    exact ⟨by rw [HV.out]; rfl, B1.out.trans (HWc.out.mono B1.out.size)⟩
end Go.Proofs.YtimommkbfbdkdaaDoor.P
namespace Go.Proofs.YtimommkbfbdkdaaDoor.P
open Go.RowKit Go.Proofs.YtimommkbfbdkdaaDoorW.PrintWords Go.Proofs.YtimommkbfbdkdaaDoorW.PrintLast Go.Proofs.YtimommkbfbdkdaaDoorW.PrintMore
set_option linter.unusedVariables false
set_option linter.unusedSimpArgs false
def okS (t sv : S29) : Bool := canR t && sumB t.f3[1]! sv 18 t.f3[0]!
def srvA (t sv : S29) : Au := if okS t sv = true then readA t else zA
def srvE (t sv : S29) : Int := if canR t = true then (if okS t sv = true then 0 else 62) else 50
def okV (t sv ce : S29) : Bool := okS t sv && sumB t.f3[2]! ce 19 t.f3[1]!
def verA (t sv ce : S29) : Au := if okV t sv ce = true then readA t else zA
def verE (t sv ce : S29) : Int := if okS t sv = true then (if okV t sv ce = true then 0 else 62) else srvE t sv
theorem isT_C {w : World} {t : S29} {A : Option Addr} {c : Nat} (h : IsT w (.agg #[.int .i64 t.f0, .string t.f1, .int .i64 t.f2, .slice A t.f3.length c]) t) : t.f3.length ≤ c ∧ Kd.C k29 w A t.f3.length t.f3 := by
  obtain ⟨At, ct, et, h1, h2⟩ := h
  simp only [Value.agg.injEq, Array.mk.injEq, List.cons.injEq, Value.slice.injEq, and_true, true_and] at et
  obtain ⟨rfl, rfl⟩ := et
  exact ⟨h1, h2⟩
theorem canR_len {t : S29} (h : canR t = true) : t.f3.length = 3 := by
  unfold canR topB at h
  simp only [Bool.and_eq_true, decide_eq_true_eq] at h
  exact h.1.2.1
theorem okS_len {t sv : S29} (h : okS t sv = true) : t.f3.length = 3 := by
  unfold okS at h
  rw [Bool.and_eq_true] at h
  exact canR_len h.1
theorem canR_E (t : S29) : (readE t == 0) = canR t := by unfold readE; cases canR t <;> rfl
theorem readE_no {t : S29} (h : canR t = false) : readE t = 50 := by unfold readE; rw [h]; rfl
theorem srv_no (t sv : S29) (h : canR t = false) : srvA t sv = zA ∧ srvE t sv = readE t := by
  rw [readE_no h]
  unfold srvA srvE okS
  rw [h]; exact ⟨rfl, rfl⟩
theorem srv_yes (t sv : S29) (b : Bool) (h : canR t = true) (hb : sumB t.f3[1]! sv 18 t.f3[0]! = b) : srvA t sv = (bif b then readA t else zA) ∧ srvE t sv = (bif b then 0 else 62) := by
  unfold srvA srvE okS
  rw [h, hb]
  cases b <;> exact ⟨rfl, rfl⟩
theorem ver_no (t sv ce : S29) (h : okS t sv = false) : verA t sv ce = zA ∧ verE t sv ce = srvE t sv := by
  unfold verA verE okV
  rw [h]; exact ⟨rfl, rfl⟩
theorem ver_yes (t sv ce : S29) (b : Bool) (h : okS t sv = true) (hb : sumB t.f3[2]! ce 19 t.f3[1]! = b) : verA t sv ce = (bif b then srvA t sv else zA) ∧ verE t sv ce = (bif b then 0 else 62) := by
  unfold verA verE okV srvA
  rw [h, hb]
  cases b <;> exact ⟨rfl, rfl⟩
theorem okS_E (t sv : S29) : (srvE t sv == 0) = okS t sv := by
  unfold srvE okS
  cases canR t <;> cases sumB t.f3[1]! sv 18 t.f3[0]! <;> rfl
set_option maxHeartbeats 2000000 in
set_option maxRecDepth 100000 in
theorem Server_calls {t sv : S29} {A As : Option Addr} {c cs : Nat} (w : World) (hn : nT t ≤ 100000000) (h0 : IsT w (.agg #[.int .i64 t.f0, .string t.f1, .int .i64 t.f2, .slice A t.f3.length c]) t) (h1 : IsT w (.agg #[.int .i64 sv.f0, .string sv.f1, .int .i64 sv.f2, .slice As sv.f3.length cs]) sv) :
    Calls Tryd.prog 20 #[(.agg #[.int .i64 t.f0, .string t.f1, .int .i64 t.f2, .slice A t.f3.length c]), (.agg #[.int .i64 sv.f0, .string sv.f1, .int .i64 sv.f2, .slice As sv.f3.length cs])] w fun e w' => ∃ v, e = .returned (.tuple #[v, .int .i64 (srvE t sv)]) ∧ IsAF w' (fun k => w.heap.size + 3 ≤ k) v (srvA t sv) ∧ Below w.heap.size w w' := by
  have hu25 := Tryd.underlying25
  have hu29 := Tryd.underlying29
  have HCt := Aside0.mk (isT_C h0).2
  have HI : Aside0 (∀ W, Below w.heap.size w W → Calls Tryd.prog 19 #[(.agg #[.int .i64 t.f0, .string t.f1, .int .i64 t.f2, .slice A t.f3.length c])] W fun e w' => ∃ v, e = .returned (.tuple #[v, .int .i64 (readE t)]) ∧ IsAF w' (fun k => W.heap.size ≤ k) v (readA t) ∧ Below W.heap.size W w') := ⟨fun W hW => (Read_calls W hn (h0.below hW)).mono fun e w' ⟨v, he, ha, hb⟩ => ⟨v, he, ha.mono (fun k hk => by omega), hb⟩⟩
  have HK : Aside0 (IsT w (.agg #[.int .i64 sv.f0, .string sv.f1, .int .i64 sv.f2, .slice As sv.f3.length cs]) sv) := ⟨h1⟩
  clear h0 h1
  have HC0 : Aside0 ((readE t == 0) = canR t) := ⟨canR_E t⟩
  have HNO : Aside0 (canR t = false → srvA t sv = zA ∧ srvE t sv = readE t) := ⟨srv_no t sv⟩
  have HYES : Aside0 (∀ b, canR t = true → sumB t.f3[1]! sv 18 t.f3[0]! = b → srvA t sv = (bif b then readA t else zA) ∧ srvE t sv = (bif b then 0 else 62)) := ⟨fun b h hb => srv_yes t sv b h hb⟩
  have HL3 : Aside0 (canR t = true → t.f3.length = 3) := ⟨canR_len⟩
  have hnl := nL_len t.f3
  go_enter Tryd.func20, Tryd.ntmps20
  go_wp2_with fail
  refine (HI.out _ (by repeat (first | exact Below.refl _ _ | apply below_alloc))).mono ?_
  clear HI
  rintro e w1 ⟨v1, rfl, ⟨Ag, cg, At, ct, rfl, lg, Fg, lt, Ft⟩, b1⟩
  obtain ⟨p1, q1, x0, x1, xr⟩ := three_boxes b1
  have hsz0 : ((((w.alloc (.cells #[.int .i64 t.f0, .string t.f1, .int .i64 t.f2, .slice A t.f3.length c] 29)).alloc (.cells #[.int .i64 sv.f0, .string sv.f1, .int .i64 sv.f2, .slice As sv.f3.length cs] 29)).alloc (.cells #[.string ⟨#[]⟩, .slice none 0 0, .int .i64 0, .slice none 0 0, .string ⟨#[]⟩, .bool false, .int .i64 0] 25))).heap.size = w.heap.size + 3 := by simp
  rw [hsz0] at Fg Ft
  obtain ⟨aF, haF⟩ : ∃ aF, aF = readA t := ⟨_, rfl⟩
  obtain ⟨eF, heF⟩ : ∃ eF : Int, eF = readE t := ⟨_, rfl⟩
  obtain ⟨cF, hcF⟩ : ∃ cF, cF = canR t := ⟨_, rfl⟩
  rw [← haF] at Fg Ft lg lt HYES ⊢
  rw [← heF] at HC0 HNO ⊢
  rw [← hcF] at HC0 HNO HYES HL3
  have IA1 := Aside0.mk (show IsAF w1 (fun k => w.heap.size + 3 ≤ k) (.agg #[.string aF.u, .slice Ag aF.g.length cg, .int .i64 aF.o, .slice At aF.tr.length ct, .string aF.s, .bool aF.fw, .int .i64 aF.tm]) aF from ⟨Ag, cg, At, ct, rfl, lg, Fg, lt, Ft⟩)
  have B1 := Aside0.mk p1
  have X0 := Aside0.mk x0
  have XK := Aside0.mk x1
  have XR := Aside0.mk xr
  clear b1 p1 x0 x1 xr haF heF hcF lg Fg lt Ft hsz0
  have hzc : ∀ o, ((w1.alloc o).cell? ⟨w.heap.size + 1 + 1, 0, none⟩ = some (.string ⟨#[]⟩) ∧ (w1.alloc o).cell? ⟨w.heap.size + 1 + 1, 1, none⟩ = some (.slice none 0 0) ∧ (w1.alloc o).cell? ⟨w.heap.size + 1 + 1, 2, none⟩ = some (.int .i64 0) ∧ (w1.alloc o).cell? ⟨w.heap.size + 1 + 1, 3, none⟩ = some (.slice none 0 0) ∧ (w1.alloc o).cell? ⟨w.heap.size + 1 + 1, 4, none⟩ = some (.string ⟨#[]⟩) ∧ (w1.alloc o).cell? ⟨w.heap.size + 1 + 1, 5, none⟩ = some (.bool false) ∧ (w1.alloc o).cell? ⟨w.heap.size + 1 + 1, 6, none⟩ = some (.int .i64 0)) := fun o => boxA_cells (blk_alloc XR.out o)
  have hz0 := fun o => (hzc o).1
  have hz1 := fun o => (hzc o).2.1
  have hz2 := fun o => (hzc o).2.2.1
  have hz3 := fun o => (hzc o).2.2.2.1
  have hz4 := fun o => (hzc o).2.2.2.2.1
  have hz5 := fun o => (hzc o).2.2.2.2.2.1
  have hz6 := fun o => (hzc o).2.2.2.2.2.2
  clear hzc
  have hzf0 : ∀ o, (w1.alloc o).frozen? ⟨w.heap.size + 1 + 1, 0, none⟩ = false := fun o => blk_frozen (blk_alloc XR.out o) 0
  have hzf1 : ∀ o, (w1.alloc o).frozen? ⟨w.heap.size + 1 + 1, 1, none⟩ = false := fun o => blk_frozen (blk_alloc XR.out o) 1
  have hzf2 : ∀ o, (w1.alloc o).frozen? ⟨w.heap.size + 1 + 1, 2, none⟩ = false := fun o => blk_frozen (blk_alloc XR.out o) 2
  have hzf3 : ∀ o, (w1.alloc o).frozen? ⟨w.heap.size + 1 + 1, 3, none⟩ = false := fun o => blk_frozen (blk_alloc XR.out o) 3
  have hzf4 : ∀ o, (w1.alloc o).frozen? ⟨w.heap.size + 1 + 1, 4, none⟩ = false := fun o => blk_frozen (blk_alloc XR.out o) 4
  have hzf5 : ∀ o, (w1.alloc o).frozen? ⟨w.heap.size + 1 + 1, 5, none⟩ = false := fun o => blk_frozen (blk_alloc XR.out o) 5
  have hzf6 : ∀ o, (w1.alloc o).frozen? ⟨w.heap.size + 1 + 1, 6, none⟩ = false := fun o => blk_frozen (blk_alloc XR.out o) 6
  cases cF with
  | false =>
    have he : (eF == 0) = false := HC0.out
    have he' : (eF != 0) = true := by rw [bne, he]; rfl
    go_wp2_with fail
    refine bodyPost_ret (results_ct rfl _ _ (w.heap.size + 1 + 1) 25 #[.string ⟨#[]⟩, .slice none 0 0, .int .i64 0, .slice none 0 0, .string ⟨#[]⟩, .bool false, .int .i64 0] (0, 0) _ rfl (putA_block (blk_alloc XR.out _)) Tryd.underlying25 rfl (by kernel_rfl)) rfl ?_
    obtain ⟨e1, e2⟩ := HNO.out (by first | rfl | trivial)
    rw [e1, e2]
    exact ⟨_, rfl, isAF_z _ _, putA_below (B1.out.trans ((below_alloc (Below.refl _ _) _).mono B1.out.size)) (by omega)⟩
  | true =>
    have he : (eF == 0) = true := HC0.out
    have he' : (eF != 0) = false := by rw [bne, he]; rfl
    go_wp2_with fail
    obtain ⟨w2, hw2⟩ : ∃ w2, w2 = w1.alloc (.cells #[.string aF.u, .slice Ag aF.g.length cg, .int .i64 aF.o, .slice At aF.tr.length ct, .string aF.s, .bool aF.fw, .int .i64 aF.tm] 25) := ⟨_, rfl⟩
    have b2 : Below w1.heap.size w1 w2 := hw2 ▸ below_alloc (Below.refl _ _) _
    have XA2 := Aside0.mk (show w2.heap[w1.heap.size]? = some (.cells #[.string aF.u, .slice Ag aF.g.length cg, .int .i64 aF.o, .slice At aF.tr.length ct, .string aF.s, .bool aF.fw, .int .i64 aF.tm] 25 (0, 0)) from hw2 ▸ box_new w1 _)
    have X02 := Aside0.mk (blk_below X0.out b2)
    have XK2 := Aside0.mk (blk_below XK.out b2)
    have XR2 := Aside0.mk (blk_below XR.out b2)
    have B2 := Aside0.mk (B1.out.trans (b2.mono B1.out.size))
    have IA2 := Aside0.mk (IA1.out.below b2)
    rw [← hw2]
    clear hw2 b2 X0 XK XR B1 IA1 hz0 hz1 hz2 hz3 hz4 hz5 hz6 hzf0 hzf1 hzf2 hzf3 hzf4 hzf5 hzf6 he he' HC0
    have h3 := HL3.out (by first | rfl | trivial)
    obtain ⟨ad, Ai, ci, e1, hi0, hi1, hi2, hi3, hli, hCi⟩ := at_T29 HCt.out (1 : Int) (by decide) (by omega)
    obtain ⟨ad2, Aj, cj, e2, hj0, hj1, hj2, hj3, hlj, hCj⟩ := at_T29 HCt.out (0 : Int) (by decide) (by omega)
    cases e1
    cases e2
    obtain ⟨ti, hti⟩ : ∃ x, x = t.f3[1]! := ⟨_, rfl⟩
    obtain ⟨tj, htj⟩ : ∃ x, x = t.f3[0]! := ⟨_, rfl⟩
    rw [show rd_T29 t.f3 1 = ti from by rw [hti]; exact rd_bang _ 1] at hi0 hi1 hi2 hi3 hli hCi
    rw [show rd_T29 t.f3 0 = tj from by rw [htj]; exact rd_bang _ 0] at hj0 hj1 hj2 hj3 hlj hCj
    have HTI := Aside0.mk (show IsT w (.agg #[.int .i64 ti.f0, .string ti.f1, .int .i64 ti.f2, .slice Ai ti.f3.length ci]) ti from ⟨Ai, ci, rfl, hli, hCi⟩)
    have HTJ := Aside0.mk (show IsT w (.agg #[.int .i64 tj.f0, .string tj.f1, .int .i64 tj.f2, .slice Aj tj.f3.length cj]) tj from ⟨Aj, cj, rfl, hlj, hCj⟩)
    obtain ⟨sb, hsb⟩ : ∃ sb, sb = sumB ti sv 18 tj := ⟨_, rfl⟩
    have HSB : Aside0 (sumB t.f3[1]! sv 18 t.f3[0]! = sb) := ⟨by rw [hsb, hti, htj]⟩
    have HSUM : Aside0 (∀ W, Below w2.heap.size w2 W → Calls Tryd.prog 48 #[(.agg #[.int .i64 ti.f0, .string ti.f1, .int .i64 ti.f2, .slice Ai ti.f3.length ci]), (.agg #[.int .i64 sv.f0, .string sv.f1, .int .i64 sv.f2, .slice As sv.f3.length cs]), .int .i64 18, (.agg #[.int .i64 tj.f0, .string tj.f1, .int .i64 tj.f2, .slice Aj tj.f3.length cj])] W fun e w' => e = .returned (.bool sb) ∧ Below W.heap.size W w') := ⟨fun W hW => by
      rw [hsb]
      exact summed_calls 18 W (HTI.out.below (B2.out.trans (hW.mono B2.out.size))) (HK.out.below (B2.out.trans (hW.mono B2.out.size))) (HTJ.out.below (B2.out.trans (hW.mono B2.out.size)))⟩
    replace hi0 := (B2.out.cell (World.block_lt_of_cell? w _ hi0)).trans hi0
    replace hi1 := (B2.out.cell (World.block_lt_of_cell? w _ hi1)).trans hi1
    replace hi2 := (B2.out.cell (World.block_lt_of_cell? w _ hi2)).trans hi2
    replace hi3 := (B2.out.cell (World.block_lt_of_cell? w _ hi3)).trans hi3
    replace hj0 := (B2.out.cell (World.block_lt_of_cell? w _ hj0)).trans hj0
    replace hj1 := (B2.out.cell (World.block_lt_of_cell? w _ hj1)).trans hj1
    replace hj2 := (B2.out.cell (World.block_lt_of_cell? w _ hj2)).trans hj2
    replace hj3 := (B2.out.cell (World.block_lt_of_cell? w _ hj3)).trans hj3
    obtain ⟨ht0, ht1, ht2, ht3⟩ := box_cells X02.out
    obtain ⟨hk0, hk1, hk2, hk3⟩ := box_cells XK2.out
    clear hsb hti htj hli hlj hCi hCj HTI HTJ HK
    rw [h3] at ht3
    have had1 : ad.add (Int.toNat 1 * 4) = ⟨ad.block, ad.off + 4, none⟩ := by simp [Addr.add]
    have had0 : ad.add (Int.toNat 0 * 4) = ad := by simp [Addr.add]
    have gi0 : w2.cell? ⟨ad.block, ad.off + 4, none⟩ = some (.int .i64 ti.f0) := by have h := hi0; rw [had1] at h; exact h
    have gi1 : w2.cell? ⟨ad.block, ad.off + 4 + 1, none⟩ = some (.string ti.f1) := by have h := hi1; rw [had1] at h; exact h
    have gi2 : w2.cell? ⟨ad.block, ad.off + 4 + 2, none⟩ = some (.int .i64 ti.f2) := by have h := hi2; rw [had1] at h; exact h
    have gi3 : w2.cell? ⟨ad.block, ad.off + 4 + 3, none⟩ = some (.slice Ai ti.f3.length ci) := by have h := hi3; rw [had1] at h; exact h
    have gj0 : w2.cell? ad = some (.int .i64 tj.f0) := by have h := hj0; rw [had0] at h; exact h
    have gj1 : w2.cell? ⟨ad.block, ad.off + 1, none⟩ = some (.string tj.f1) := by have h := hj1; rw [had0] at h; exact h
    have gj2 : w2.cell? ⟨ad.block, ad.off + 2, none⟩ = some (.int .i64 tj.f2) := by have h := hj2; rw [had0] at h; exact h
    have gj3 : w2.cell? ⟨ad.block, ad.off + 3, none⟩ = some (.slice Aj tj.f3.length cj) := by have h := hj3; rw [had0] at h; exact h
    clear hi0 hi1 hi2 hi3 hj0 hj1 hj2 hj3
    have HWc : Aside0 (Below w2.heap.size w2 w2) := ⟨Below.refl _ _⟩
    go_region_held3 (fun w' => w'.cell? ⟨w.heap.size, 3, none⟩ = some (.slice (some ad) 3 c) ∧ w'.cell? ⟨w.heap.size + 1, 0, none⟩ = some (.int .i64 sv.f0) ∧ w'.cell? ⟨w.heap.size + 1, 1, none⟩ = some (.string sv.f1) ∧ w'.cell? ⟨w.heap.size + 1, 2, none⟩ = some (.int .i64 sv.f2) ∧ w'.cell? ⟨w.heap.size + 1, 3, none⟩ = some (.slice As sv.f3.length cs) ∧ w'.cell? ⟨ad.block, ad.off + 4, none⟩ = some (.int .i64 ti.f0) ∧ w'.cell? ⟨ad.block, ad.off + 4 + 1, none⟩ = some (.string ti.f1) ∧ w'.cell? ⟨ad.block, ad.off + 4 + 2, none⟩ = some (.int .i64 ti.f2) ∧ w'.cell? ⟨ad.block, ad.off + 4 + 3, none⟩ = some (.slice Ai ti.f3.length ci) ∧ w'.cell? ad = some (.int .i64 tj.f0) ∧ w'.cell? ⟨ad.block, ad.off + 1, none⟩ = some (.string tj.f1) ∧ w'.cell? ⟨ad.block, ad.off + 2, none⟩ = some (.int .i64 tj.f2) ∧ w'.cell? ⟨ad.block, ad.off + 3, none⟩ = some (.slice Aj tj.f3.length cj))
      (first | (with_reducible (go_split_ands; exact ⟨pw_cell_below hb (by assumption), pw_cell_below hb (by assumption), pw_cell_below hb (by assumption), pw_cell_below hb (by assumption), pw_cell_below hb (by assumption), pw_cell_below hb (by assumption), pw_cell_below hb (by assumption), pw_cell_below hb (by assumption), pw_cell_below hb (by assumption), pw_cell_below hb (by assumption), pw_cell_below hb (by assumption), pw_cell_below hb (by assumption), pw_cell_below hb (by assumption)⟩)) | (with_reducible (go_split_ands; exact ⟨pw_cell_below (below_alloc (Below.refl _ _) _) (by assumption), pw_cell_below (below_alloc (Below.refl _ _) _) (by assumption), pw_cell_below (below_alloc (Below.refl _ _) _) (by assumption), pw_cell_below (below_alloc (Below.refl _ _) _) (by assumption), pw_cell_below (below_alloc (Below.refl _ _) _) (by assumption), pw_cell_below (below_alloc (Below.refl _ _) _) (by assumption), pw_cell_below (below_alloc (Below.refl _ _) _) (by assumption), pw_cell_below (below_alloc (Below.refl _ _) _) (by assumption), pw_cell_below (below_alloc (Below.refl _ _) _) (by assumption), pw_cell_below (below_alloc (Below.refl _ _) _) (by assumption), pw_cell_below (below_alloc (Below.refl _ _) _) (by assumption), pw_cell_below (below_alloc (Below.refl _ _) _) (by assumption), pw_cell_below (below_alloc (Below.refl _ _) _) (by assumption)⟩)) | (with_reducible (go_split_ands; refine ⟨?_, ?_, ?_, ?_, ?_, ?_, ?_, ?_, ?_, ?_, ?_, ?_, ?_⟩ <;> assumption)) | (go_keep; done))
      ((go_simp; go_at_call 48; refine (HSUM.out _ (by repeat (first | exact HWc.out | apply below_alloc | apply pw_below_drewN | apply below_drew))).mono ?_; rintro e wz ⟨rfl, hb⟩; have HWn := Aside0.mk (below_step (by repeat (first | exact HWc.out | apply below_alloc | apply pw_below_drewN | apply below_drew)) hb); clear HWc; have HWc := HWn; clear HWn))
    have X19 := Aside0.mk (blk_below XA2.out HWc.out)
    have R19 := Aside0.mk (blk_below XR2.out HWc.out)
    have B19 := Aside0.mk (B2.out.trans (HWc.out.mono B2.out.size))
    have I19 := Aside0.mk (IA2.out.below HWc.out)
    have z1 := B2.out.size
    clear gi0 gi1 gi2 gi3 gj0 gj1 gj2 gj3 ht0 ht1 ht2 ht3 hk0 hk1 hk2 hk3 XA2 X02 XK2 XR2 B2 IA2 HWc hb
    obtain ⟨ha0, ha1, ha2, ha3, ha4, ha5, ha6⟩ := boxA_cells X19.out
    obtain ⟨hz0, hz1, hz2, hz3, hz4, hz5, hz6⟩ := boxA_cells R19.out
    have hzf0 := blk_frozen R19.out 0
    have hzf1 := blk_frozen R19.out 1
    have hzf2 := blk_frozen R19.out 2
    have hzf3 := blk_frozen R19.out 3
    have hzf4 := blk_frozen R19.out 4
    have hzf5 := blk_frozen R19.out 5
    have hzf6 := blk_frozen R19.out 6
    cases sb with
    | false =>
      go_wp2_with fail
      refine bodyPost_ret (results_ct rfl _ _ (w.heap.size + 1 + 1) 25 #[.string ⟨#[]⟩, .slice none 0 0, .int .i64 0, .slice none 0 0, .string ⟨#[]⟩, .bool false, .int .i64 0] (0, 0) _ rfl (putA_block R19.out) Tryd.underlying25 rfl (by kernel_rfl)) rfl ?_
      obtain ⟨e1, e2⟩ := HYES.out _ (by first | rfl | trivial) HSB.out
      rw [e1, e2]
      exact ⟨_, rfl, isAF_z _ _, putA_below B19.out (by omega)⟩
    | true =>
      go_wp2_with fail
      refine bodyPost_ret (results_ct rfl _ _ (w.heap.size + 1 + 1) 25 #[.string aF.u, .slice Ag aF.g.length cg, .int .i64 aF.o, .slice At aF.tr.length ct, .string aF.s, .bool aF.fw, .int .i64 aF.tm] (0, 0) _ rfl (putA_block R19.out) Tryd.underlying25 rfl (by kernel_rfl)) rfl ?_
      obtain ⟨e1, e2⟩ := HYES.out _ (by first | rfl | trivial) HSB.out
      rw [e1, e2]
      exact ⟨_, rfl, I19.out.step (fun k hk _ => putA_other (by omega)), putA_below B19.out (by omega)⟩
set_option maxHeartbeats 2000000 in
set_option maxRecDepth 100000 in
theorem Verify_calls {t sv ce : S29} {A As Ac : Option Addr} {c cs cc : Nat} (w : World) (hn : nT t ≤ 100000000) (h0 : IsT w (.agg #[.int .i64 t.f0, .string t.f1, .int .i64 t.f2, .slice A t.f3.length c]) t) (h1 : IsT w (.agg #[.int .i64 sv.f0, .string sv.f1, .int .i64 sv.f2, .slice As sv.f3.length cs]) sv) (h2 : IsT w (.agg #[.int .i64 ce.f0, .string ce.f1, .int .i64 ce.f2, .slice Ac ce.f3.length cc]) ce) :
    Calls Tryd.prog 21 #[(.agg #[.int .i64 t.f0, .string t.f1, .int .i64 t.f2, .slice A t.f3.length c]), (.agg #[.int .i64 sv.f0, .string sv.f1, .int .i64 sv.f2, .slice As sv.f3.length cs]), (.agg #[.int .i64 ce.f0, .string ce.f1, .int .i64 ce.f2, .slice Ac ce.f3.length cc])] w fun e w' => ∃ v, e = .returned (.tuple #[v, .int .i64 (verE t sv ce)]) ∧ IsAF w' (fun k => w.heap.size + 4 ≤ k) v (verA t sv ce) ∧ Below w.heap.size w w' := by
  have hu25 := Tryd.underlying25
  have hu29 := Tryd.underlying29
  have HCt := Aside0.mk (isT_C h0).2
  have HI : Aside0 (∀ W, Below w.heap.size w W → Calls Tryd.prog 20 #[(.agg #[.int .i64 t.f0, .string t.f1, .int .i64 t.f2, .slice A t.f3.length c]), (.agg #[.int .i64 sv.f0, .string sv.f1, .int .i64 sv.f2, .slice As sv.f3.length cs])] W fun e w' => ∃ v, e = .returned (.tuple #[v, .int .i64 (srvE t sv)]) ∧ IsAF w' (fun k => W.heap.size ≤ k) v (srvA t sv) ∧ Below W.heap.size W w') := ⟨fun W hW => (Server_calls W hn (h0.below hW) (h1.below hW)).mono fun e w' ⟨v, he, ha, hb⟩ => ⟨v, he, ha.mono (fun k hk => by omega), hb⟩⟩
  have HK : Aside0 (IsT w (.agg #[.int .i64 ce.f0, .string ce.f1, .int .i64 ce.f2, .slice Ac ce.f3.length cc]) ce) := ⟨h2⟩
  clear h0 h1 h2
  have HC0 : Aside0 ((srvE t sv == 0) = okS t sv) := ⟨okS_E t sv⟩
  have HNO : Aside0 (okS t sv = false → verA t sv ce = zA ∧ verE t sv ce = srvE t sv) := ⟨ver_no t sv ce⟩
  have HYES : Aside0 (∀ b, okS t sv = true → sumB t.f3[2]! ce 19 t.f3[1]! = b → verA t sv ce = (bif b then srvA t sv else zA) ∧ verE t sv ce = (bif b then 0 else 62)) := ⟨fun b h hb => ver_yes t sv ce b h hb⟩
  have HL3 : Aside0 (okS t sv = true → t.f3.length = 3) := ⟨okS_len⟩
  have hnl := nL_len t.f3
  go_enter Tryd.func21, Tryd.ntmps21
  go_wp2_with fail
  refine (HI.out _ (by repeat (first | exact Below.refl _ _ | apply below_alloc))).mono ?_
  clear HI
  rintro e w1 ⟨v1, rfl, ⟨Ag, cg, At, ct, rfl, lg, Fg, lt, Ft⟩, b1⟩
  obtain ⟨p1, q1, x0, x1, x2, xr⟩ := four_boxes b1
  have hsz0 : (((((w.alloc (.cells #[.int .i64 t.f0, .string t.f1, .int .i64 t.f2, .slice A t.f3.length c] 29)).alloc (.cells #[.int .i64 sv.f0, .string sv.f1, .int .i64 sv.f2, .slice As sv.f3.length cs] 29)).alloc (.cells #[.int .i64 ce.f0, .string ce.f1, .int .i64 ce.f2, .slice Ac ce.f3.length cc] 29)).alloc (.cells #[.string ⟨#[]⟩, .slice none 0 0, .int .i64 0, .slice none 0 0, .string ⟨#[]⟩, .bool false, .int .i64 0] 25))).heap.size = w.heap.size + 4 := by simp
  rw [hsz0] at Fg Ft
  obtain ⟨aF, haF⟩ : ∃ aF, aF = srvA t sv := ⟨_, rfl⟩
  obtain ⟨eF, heF⟩ : ∃ eF : Int, eF = srvE t sv := ⟨_, rfl⟩
  obtain ⟨cF, hcF⟩ : ∃ cF, cF = okS t sv := ⟨_, rfl⟩
  rw [← haF] at Fg Ft lg lt HYES ⊢
  rw [← heF] at HC0 HNO ⊢
  rw [← hcF] at HC0 HNO HYES HL3
  have IA1 := Aside0.mk (show IsAF w1 (fun k => w.heap.size + 4 ≤ k) (.agg #[.string aF.u, .slice Ag aF.g.length cg, .int .i64 aF.o, .slice At aF.tr.length ct, .string aF.s, .bool aF.fw, .int .i64 aF.tm]) aF from ⟨Ag, cg, At, ct, rfl, lg, Fg, lt, Ft⟩)
  have B1 := Aside0.mk p1
  have X0 := Aside0.mk x0
  have XK := Aside0.mk x2
  have XR := Aside0.mk xr
  clear b1 p1 x0 x1 x2 xr haF heF hcF lg Fg lt Ft hsz0
  have hzc : ∀ o, ((w1.alloc o).cell? ⟨w.heap.size + 1 + 1 + 1, 0, none⟩ = some (.string ⟨#[]⟩) ∧ (w1.alloc o).cell? ⟨w.heap.size + 1 + 1 + 1, 1, none⟩ = some (.slice none 0 0) ∧ (w1.alloc o).cell? ⟨w.heap.size + 1 + 1 + 1, 2, none⟩ = some (.int .i64 0) ∧ (w1.alloc o).cell? ⟨w.heap.size + 1 + 1 + 1, 3, none⟩ = some (.slice none 0 0) ∧ (w1.alloc o).cell? ⟨w.heap.size + 1 + 1 + 1, 4, none⟩ = some (.string ⟨#[]⟩) ∧ (w1.alloc o).cell? ⟨w.heap.size + 1 + 1 + 1, 5, none⟩ = some (.bool false) ∧ (w1.alloc o).cell? ⟨w.heap.size + 1 + 1 + 1, 6, none⟩ = some (.int .i64 0)) := fun o => boxA_cells (blk_alloc XR.out o)
  have hz0 := fun o => (hzc o).1
  have hz1 := fun o => (hzc o).2.1
  have hz2 := fun o => (hzc o).2.2.1
  have hz3 := fun o => (hzc o).2.2.2.1
  have hz4 := fun o => (hzc o).2.2.2.2.1
  have hz5 := fun o => (hzc o).2.2.2.2.2.1
  have hz6 := fun o => (hzc o).2.2.2.2.2.2
  clear hzc
  have hzf0 : ∀ o, (w1.alloc o).frozen? ⟨w.heap.size + 1 + 1 + 1, 0, none⟩ = false := fun o => blk_frozen (blk_alloc XR.out o) 0
  have hzf1 : ∀ o, (w1.alloc o).frozen? ⟨w.heap.size + 1 + 1 + 1, 1, none⟩ = false := fun o => blk_frozen (blk_alloc XR.out o) 1
  have hzf2 : ∀ o, (w1.alloc o).frozen? ⟨w.heap.size + 1 + 1 + 1, 2, none⟩ = false := fun o => blk_frozen (blk_alloc XR.out o) 2
  have hzf3 : ∀ o, (w1.alloc o).frozen? ⟨w.heap.size + 1 + 1 + 1, 3, none⟩ = false := fun o => blk_frozen (blk_alloc XR.out o) 3
  have hzf4 : ∀ o, (w1.alloc o).frozen? ⟨w.heap.size + 1 + 1 + 1, 4, none⟩ = false := fun o => blk_frozen (blk_alloc XR.out o) 4
  have hzf5 : ∀ o, (w1.alloc o).frozen? ⟨w.heap.size + 1 + 1 + 1, 5, none⟩ = false := fun o => blk_frozen (blk_alloc XR.out o) 5
  have hzf6 : ∀ o, (w1.alloc o).frozen? ⟨w.heap.size + 1 + 1 + 1, 6, none⟩ = false := fun o => blk_frozen (blk_alloc XR.out o) 6
  cases cF with
  | false =>
    have he : (eF == 0) = false := HC0.out
    have he' : (eF != 0) = true := by rw [bne, he]; rfl
    go_wp2_with fail
    refine bodyPost_ret (results_ct rfl _ _ (w.heap.size + 1 + 1 + 1) 25 #[.string ⟨#[]⟩, .slice none 0 0, .int .i64 0, .slice none 0 0, .string ⟨#[]⟩, .bool false, .int .i64 0] (0, 0) _ rfl (putA_block (blk_alloc XR.out _)) Tryd.underlying25 rfl (by kernel_rfl)) rfl ?_
    obtain ⟨e1, e2⟩ := HNO.out (by first | rfl | trivial)
    rw [e1, e2]
    exact ⟨_, rfl, isAF_z _ _, putA_below (B1.out.trans ((below_alloc (Below.refl _ _) _).mono B1.out.size)) (by omega)⟩
  | true =>
    have he : (eF == 0) = true := HC0.out
    have he' : (eF != 0) = false := by rw [bne, he]; rfl
    go_wp2_with fail
    obtain ⟨w2, hw2⟩ : ∃ w2, w2 = w1.alloc (.cells #[.string aF.u, .slice Ag aF.g.length cg, .int .i64 aF.o, .slice At aF.tr.length ct, .string aF.s, .bool aF.fw, .int .i64 aF.tm] 25) := ⟨_, rfl⟩
    have b2 : Below w1.heap.size w1 w2 := hw2 ▸ below_alloc (Below.refl _ _) _
    have XA2 := Aside0.mk (show w2.heap[w1.heap.size]? = some (.cells #[.string aF.u, .slice Ag aF.g.length cg, .int .i64 aF.o, .slice At aF.tr.length ct, .string aF.s, .bool aF.fw, .int .i64 aF.tm] 25 (0, 0)) from hw2 ▸ box_new w1 _)
    have X02 := Aside0.mk (blk_below X0.out b2)
    have XK2 := Aside0.mk (blk_below XK.out b2)
    have XR2 := Aside0.mk (blk_below XR.out b2)
    have B2 := Aside0.mk (B1.out.trans (b2.mono B1.out.size))
    have IA2 := Aside0.mk (IA1.out.below b2)
    rw [← hw2]
    clear hw2 b2 X0 XK XR B1 IA1 hz0 hz1 hz2 hz3 hz4 hz5 hz6 hzf0 hzf1 hzf2 hzf3 hzf4 hzf5 hzf6 he he' HC0
    have h3 := HL3.out (by first | rfl | trivial)
    obtain ⟨ad, Ai, ci, e1, hi0, hi1, hi2, hi3, hli, hCi⟩ := at_T29 HCt.out (2 : Int) (by decide) (by omega)
    obtain ⟨ad2, Aj, cj, e2, hj0, hj1, hj2, hj3, hlj, hCj⟩ := at_T29 HCt.out (1 : Int) (by decide) (by omega)
    cases e1
    cases e2
    obtain ⟨ti, hti⟩ : ∃ x, x = t.f3[2]! := ⟨_, rfl⟩
    obtain ⟨tj, htj⟩ : ∃ x, x = t.f3[1]! := ⟨_, rfl⟩
    rw [show rd_T29 t.f3 2 = ti from by rw [hti]; exact rd_bang _ 2] at hi0 hi1 hi2 hi3 hli hCi
    rw [show rd_T29 t.f3 1 = tj from by rw [htj]; exact rd_bang _ 1] at hj0 hj1 hj2 hj3 hlj hCj
    have HTI := Aside0.mk (show IsT w (.agg #[.int .i64 ti.f0, .string ti.f1, .int .i64 ti.f2, .slice Ai ti.f3.length ci]) ti from ⟨Ai, ci, rfl, hli, hCi⟩)
    have HTJ := Aside0.mk (show IsT w (.agg #[.int .i64 tj.f0, .string tj.f1, .int .i64 tj.f2, .slice Aj tj.f3.length cj]) tj from ⟨Aj, cj, rfl, hlj, hCj⟩)
    obtain ⟨sb, hsb⟩ : ∃ sb, sb = sumB ti ce 19 tj := ⟨_, rfl⟩
    have HSB : Aside0 (sumB t.f3[2]! ce 19 t.f3[1]! = sb) := ⟨by rw [hsb, hti, htj]⟩
    have HSUM : Aside0 (∀ W, Below w2.heap.size w2 W → Calls Tryd.prog 48 #[(.agg #[.int .i64 ti.f0, .string ti.f1, .int .i64 ti.f2, .slice Ai ti.f3.length ci]), (.agg #[.int .i64 ce.f0, .string ce.f1, .int .i64 ce.f2, .slice Ac ce.f3.length cc]), .int .i64 19, (.agg #[.int .i64 tj.f0, .string tj.f1, .int .i64 tj.f2, .slice Aj tj.f3.length cj])] W fun e w' => e = .returned (.bool sb) ∧ Below W.heap.size W w') := ⟨fun W hW => by
      rw [hsb]
      exact summed_calls 19 W (HTI.out.below (B2.out.trans (hW.mono B2.out.size))) (HK.out.below (B2.out.trans (hW.mono B2.out.size))) (HTJ.out.below (B2.out.trans (hW.mono B2.out.size)))⟩
    replace hi0 := (B2.out.cell (World.block_lt_of_cell? w _ hi0)).trans hi0
    replace hi1 := (B2.out.cell (World.block_lt_of_cell? w _ hi1)).trans hi1
    replace hi2 := (B2.out.cell (World.block_lt_of_cell? w _ hi2)).trans hi2
    replace hi3 := (B2.out.cell (World.block_lt_of_cell? w _ hi3)).trans hi3
    replace hj0 := (B2.out.cell (World.block_lt_of_cell? w _ hj0)).trans hj0
    replace hj1 := (B2.out.cell (World.block_lt_of_cell? w _ hj1)).trans hj1
    replace hj2 := (B2.out.cell (World.block_lt_of_cell? w _ hj2)).trans hj2
    replace hj3 := (B2.out.cell (World.block_lt_of_cell? w _ hj3)).trans hj3
    obtain ⟨ht0, ht1, ht2, ht3⟩ := box_cells X02.out
    obtain ⟨hk0, hk1, hk2, hk3⟩ := box_cells XK2.out
    clear hsb hti htj hli hlj hCi hCj HTI HTJ HK
    rw [h3] at ht3
    have had2 : ad.add (Int.toNat 2 * 4) = ⟨ad.block, ad.off + 8, none⟩ := by simp [Addr.add]
    have had1 : ad.add (Int.toNat 1 * 4) = ⟨ad.block, ad.off + 4, none⟩ := by simp [Addr.add]
    have gi0 : w2.cell? ⟨ad.block, ad.off + 8, none⟩ = some (.int .i64 ti.f0) := by have h := hi0; rw [had2] at h; exact h
    have gi1 : w2.cell? ⟨ad.block, ad.off + 8 + 1, none⟩ = some (.string ti.f1) := by have h := hi1; rw [had2] at h; exact h
    have gi2 : w2.cell? ⟨ad.block, ad.off + 8 + 2, none⟩ = some (.int .i64 ti.f2) := by have h := hi2; rw [had2] at h; exact h
    have gi3 : w2.cell? ⟨ad.block, ad.off + 8 + 3, none⟩ = some (.slice Ai ti.f3.length ci) := by have h := hi3; rw [had2] at h; exact h
    have gj0 : w2.cell? ⟨ad.block, ad.off + 4, none⟩ = some (.int .i64 tj.f0) := by have h := hj0; rw [had1] at h; exact h
    have gj1 : w2.cell? ⟨ad.block, ad.off + 4 + 1, none⟩ = some (.string tj.f1) := by have h := hj1; rw [had1] at h; exact h
    have gj2 : w2.cell? ⟨ad.block, ad.off + 4 + 2, none⟩ = some (.int .i64 tj.f2) := by have h := hj2; rw [had1] at h; exact h
    have gj3 : w2.cell? ⟨ad.block, ad.off + 4 + 3, none⟩ = some (.slice Aj tj.f3.length cj) := by have h := hj3; rw [had1] at h; exact h
    clear hi0 hi1 hi2 hi3 hj0 hj1 hj2 hj3
    have HWc : Aside0 (Below w2.heap.size w2 w2) := ⟨Below.refl _ _⟩
    go_region_held3 (fun w' => w'.cell? ⟨w.heap.size, 3, none⟩ = some (.slice (some ad) 3 c) ∧ w'.cell? ⟨w.heap.size + 1 + 1, 0, none⟩ = some (.int .i64 ce.f0) ∧ w'.cell? ⟨w.heap.size + 1 + 1, 1, none⟩ = some (.string ce.f1) ∧ w'.cell? ⟨w.heap.size + 1 + 1, 2, none⟩ = some (.int .i64 ce.f2) ∧ w'.cell? ⟨w.heap.size + 1 + 1, 3, none⟩ = some (.slice Ac ce.f3.length cc) ∧ w'.cell? ⟨ad.block, ad.off + 8, none⟩ = some (.int .i64 ti.f0) ∧ w'.cell? ⟨ad.block, ad.off + 8 + 1, none⟩ = some (.string ti.f1) ∧ w'.cell? ⟨ad.block, ad.off + 8 + 2, none⟩ = some (.int .i64 ti.f2) ∧ w'.cell? ⟨ad.block, ad.off + 8 + 3, none⟩ = some (.slice Ai ti.f3.length ci) ∧ w'.cell? ⟨ad.block, ad.off + 4, none⟩ = some (.int .i64 tj.f0) ∧ w'.cell? ⟨ad.block, ad.off + 4 + 1, none⟩ = some (.string tj.f1) ∧ w'.cell? ⟨ad.block, ad.off + 4 + 2, none⟩ = some (.int .i64 tj.f2) ∧ w'.cell? ⟨ad.block, ad.off + 4 + 3, none⟩ = some (.slice Aj tj.f3.length cj))
      (first | (with_reducible (go_split_ands; exact ⟨pw_cell_below hb (by assumption), pw_cell_below hb (by assumption), pw_cell_below hb (by assumption), pw_cell_below hb (by assumption), pw_cell_below hb (by assumption), pw_cell_below hb (by assumption), pw_cell_below hb (by assumption), pw_cell_below hb (by assumption), pw_cell_below hb (by assumption), pw_cell_below hb (by assumption), pw_cell_below hb (by assumption), pw_cell_below hb (by assumption), pw_cell_below hb (by assumption)⟩)) | (with_reducible (go_split_ands; exact ⟨pw_cell_below (below_alloc (Below.refl _ _) _) (by assumption), pw_cell_below (below_alloc (Below.refl _ _) _) (by assumption), pw_cell_below (below_alloc (Below.refl _ _) _) (by assumption), pw_cell_below (below_alloc (Below.refl _ _) _) (by assumption), pw_cell_below (below_alloc (Below.refl _ _) _) (by assumption), pw_cell_below (below_alloc (Below.refl _ _) _) (by assumption), pw_cell_below (below_alloc (Below.refl _ _) _) (by assumption), pw_cell_below (below_alloc (Below.refl _ _) _) (by assumption), pw_cell_below (below_alloc (Below.refl _ _) _) (by assumption), pw_cell_below (below_alloc (Below.refl _ _) _) (by assumption), pw_cell_below (below_alloc (Below.refl _ _) _) (by assumption), pw_cell_below (below_alloc (Below.refl _ _) _) (by assumption), pw_cell_below (below_alloc (Below.refl _ _) _) (by assumption)⟩)) | (with_reducible (go_split_ands; refine ⟨?_, ?_, ?_, ?_, ?_, ?_, ?_, ?_, ?_, ?_, ?_, ?_, ?_⟩ <;> assumption)) | (go_keep; done))
      ((go_simp; go_at_call 48; refine (HSUM.out _ (by repeat (first | exact HWc.out | apply below_alloc | apply pw_below_drewN | apply below_drew))).mono ?_; rintro e wz ⟨rfl, hb⟩; have HWn := Aside0.mk (below_step (by repeat (first | exact HWc.out | apply below_alloc | apply pw_below_drewN | apply below_drew)) hb); clear HWc; have HWc := HWn; clear HWn))
    have X19 := Aside0.mk (blk_below XA2.out HWc.out)
    have R19 := Aside0.mk (blk_below XR2.out HWc.out)
    have B19 := Aside0.mk (B2.out.trans (HWc.out.mono B2.out.size))
    have I19 := Aside0.mk (IA2.out.below HWc.out)
    have z1 := B2.out.size
    clear gi0 gi1 gi2 gi3 gj0 gj1 gj2 gj3 ht0 ht1 ht2 ht3 hk0 hk1 hk2 hk3 XA2 X02 XK2 XR2 B2 IA2 HWc hb
    obtain ⟨ha0, ha1, ha2, ha3, ha4, ha5, ha6⟩ := boxA_cells X19.out
    obtain ⟨hz0, hz1, hz2, hz3, hz4, hz5, hz6⟩ := boxA_cells R19.out
    have hzf0 := blk_frozen R19.out 0
    have hzf1 := blk_frozen R19.out 1
    have hzf2 := blk_frozen R19.out 2
    have hzf3 := blk_frozen R19.out 3
    have hzf4 := blk_frozen R19.out 4
    have hzf5 := blk_frozen R19.out 5
    have hzf6 := blk_frozen R19.out 6
    cases sb with
    | false =>
      go_wp2_with fail
      refine bodyPost_ret (results_ct rfl _ _ (w.heap.size + 1 + 1 + 1) 25 #[.string ⟨#[]⟩, .slice none 0 0, .int .i64 0, .slice none 0 0, .string ⟨#[]⟩, .bool false, .int .i64 0] (0, 0) _ rfl (putA_block R19.out) Tryd.underlying25 rfl (by kernel_rfl)) rfl ?_
      obtain ⟨e1, e2⟩ := HYES.out _ (by first | rfl | trivial) HSB.out
      rw [e1, e2]
      exact ⟨_, rfl, isAF_z _ _, putA_below B19.out (by omega)⟩
    | true =>
      go_wp2_with fail
      refine bodyPost_ret (results_ct rfl _ _ (w.heap.size + 1 + 1 + 1) 25 #[.string aF.u, .slice Ag aF.g.length cg, .int .i64 aF.o, .slice At aF.tr.length ct, .string aF.s, .bool aF.fw, .int .i64 aF.tm] (0, 0) _ rfl (putA_block R19.out) Tryd.underlying25 rfl (by kernel_rfl)) rfl ?_
      obtain ⟨e1, e2⟩ := HYES.out _ (by first | rfl | trivial) HSB.out
      rw [e1, e2]
      exact ⟨_, rfl, I19.out.step (fun k hk _ => putA_other (by omega)), putA_below B19.out (by omega)⟩
end Go.Proofs.YtimommkbfbdkdaaDoor.P
end
section
namespace Go.Proofs.YtimommkbfbdkdaaDoor.P
open Go.RowKit Go.Proofs.YtimommkbfbdkdaaDoorW.PrintWords Go.Proofs.YtimommkbfbdkdaaDoorW.PrintLast Go.Proofs.YtimommkbfbdkdaaDoorW.PrintMore
set_option linter.unusedVariables false
theorem str_eq {a b : ByteArray} (h : a.toList = b.toList) : a = b := by
  rw [Lib.toList_data, Lib.toList_data] at h
  exact ByteArray.ext (Array.toList_inj.1 h)
def eqI : List Int → List Int → Bool
  | [], [] => true
  | a :: l, b :: m => a == b && eqI l m
  | _, _ => false
def eqB : List ByteArray → List ByteArray → Bool
  | [], [] => true
  | a :: l, b :: m => a.toList == b.toList && eqB l m
  | _, _ => false
theorem eqI_iff : ∀ l m : List Int, eqI l m = true ↔ l = m
  | [], [] => by simp [eqI]
  | [], b :: m => by simp [eqI]
  | a :: l, [] => by simp [eqI]
  | a :: l, b :: m => by simp [eqI, eqI_iff l m]
theorem eqB_iff : ∀ l m : List ByteArray, eqB l m = true ↔ l = m
  | [], [] => by simp [eqB]
  | [], b :: m => by simp [eqB]
  | a :: l, [] => by simp [eqB]
  | a :: l, b :: m => by
    simp only [eqB, Bool.and_eq_true, beq_iff_eq, eqB_iff l m, List.cons.injEq]
    exact ⟨fun h => ⟨str_eq h.1, h.2⟩, fun h => ⟨by rw [h.1], h.2⟩⟩
theorem eqI_len : ∀ l m : List Int, eqI l m = true → l.length = m.length := fun l m h => by rw [(eqI_iff l m).1 h]
theorem rEqI (l m : List Int) (hb : l.length ≤ 1000000000) (he : l.length = m.length) (d : Nat) : ∀ (i k : Nat), l.length - i = d → i ≤ l.length → d + 1 ≤ k → slices_Equal_int_int.l0 k l m (l.length : Int) i = some (eqI (l.drop i) (m.drop i)) := by
  induction d with
  | zero =>
    intro i k hd hi hk
    obtain ⟨k, rfl⟩ : ∃ k', k = k' + 1 := ⟨k - 1, by omega⟩
    obtain rfl : i = l.length := by omega
    rw [slices_Equal_int_int.l0, if_neg (by omega), List.drop_length, he, List.drop_length]; rfl
  | succ d ih =>
    intro i k hd hi hk
    obtain ⟨k, rfl⟩ : ∃ k', k = k' + 1 := ⟨k - 1, by omega⟩
    have h1 : i < l.length := by omega
    have h2 : i < m.length := by omega
    rw [slices_Equal_int_int.l0, if_pos (by omega), if_pos (by omega), if_pos (by omega), if_pos (by omega), List.drop_eq_getElem_cons h1, List.drop_eq_getElem_cons h2, eqI]
    have e1 : rd l (i : Int) = l[i] := by simp [rd, List.getD_eq_getElem?_getD, List.getElem?_eq_getElem h1]
    have e2 : rd m (i : Int) = m[i] := by simp [rd, List.getD_eq_getElem?_getD, List.getElem?_eq_getElem h2]
    rw [e1, e2]
    by_cases h : l[i] = m[i]
    · rw [if_pos h, IntWalk.wrap64_in _ (by omega), show ((i : Int) + 1) = ((i + 1 : Nat) : Int) from by omega, ih (i + 1) k (by omega) (by omega) (by omega)]
      rw [show (l[i] == m[i]) = true from by simpa using h]; rfl
    · rw [if_neg h, show (l[i] == m[i]) = false from by simpa using h]; rfl
theorem rEqB (l m : List ByteArray) (hb : l.length ≤ 1000000000) (he : l.length = m.length) (d : Nat) : ∀ (i k : Nat), l.length - i = d → i ≤ l.length → d + 1 ≤ k → slices_Equal_string_string.l0 k l m (l.length : Int) i = some (eqB (l.drop i) (m.drop i)) := by
  induction d with
  | zero =>
    intro i k hd hi hk
    obtain ⟨k, rfl⟩ : ∃ k', k = k' + 1 := ⟨k - 1, by omega⟩
    obtain rfl : i = l.length := by omega
    rw [slices_Equal_string_string.l0, if_neg (by omega), List.drop_length, he, List.drop_length]; rfl
  | succ d ih =>
    intro i k hd hi hk
    obtain ⟨k, rfl⟩ : ∃ k', k = k' + 1 := ⟨k - 1, by omega⟩
    have h1 : i < l.length := by omega
    have h2 : i < m.length := by omega
    rw [slices_Equal_string_string.l0, if_pos (by omega), if_pos (by omega), if_pos (by omega), if_pos (by omega), List.drop_eq_getElem_cons h1, List.drop_eq_getElem_cons h2, eqB]
    have e1 : rdOf ByteArray.empty l (i : Int) = l[i] := by simp [rdOf, List.getD_eq_getElem?_getD, List.getElem?_eq_getElem h1]
    have e2 : rdOf ByteArray.empty m (i : Int) = m[i] := by simp [rdOf, List.getD_eq_getElem?_getD, List.getElem?_eq_getElem h2]
    rw [e1, e2]
    by_cases h : l[i].toList = m[i].toList
    · rw [if_pos h, IntWalk.wrap64_in _ (by omega), show ((i : Int) + 1) = ((i + 1 : Nat) : Int) from by omega, ih (i + 1) k (by omega) (by omega) (by omega)]
      rw [show (l[i].toList == m[i].toList) = true from by simpa using h]; rfl
    · rw [if_neg h, show (l[i].toList == m[i].toList) = false from by simpa using h]; rfl
theorem rEqualI (l m : List Int) (hb : l.length ≤ 1000000000) (k : Nat) (hk : l.length + 1 ≤ k) : slices_Equal_int_int.f k l m = some (eqI l m) := by
  rw [slices_Equal_int_int.f]
  by_cases h : l.length = m.length
  · rw [if_pos (by omega)]
    have := rEqI l m hb h l.length 0 k (by omega) (by omega) hk
    rwa [List.drop_zero, List.drop_zero] at this
  · rw [if_neg (by omega)]
    cases hq : eqI l m with
    | false => rfl
    | true => exact absurd (by rw [(eqI_iff l m).1 hq]) h
theorem rEqualB (l m : List ByteArray) (hb : l.length ≤ 1000000000) (k : Nat) (hk : l.length + 1 ≤ k) : slices_Equal_string_string.f k l m = some (eqB l m) := by
  rw [slices_Equal_string_string.f]
  by_cases h : l.length = m.length
  · rw [if_pos (by omega)]
    have := rEqB l m hb h l.length 0 k (by omega) (by omega) hk
    rwa [List.drop_zero, List.drop_zero] at this
  · rw [if_neg (by omega)]
    cases hq : eqB l m with
    | false => rfl
    | true => exact absurd (by rw [(eqB_iff l m).1 hq]) h
def sameA (a b : Au) : Bool := a.u.toList == b.u.toList && (a.o == b.o && (a.s.toList == b.s.toList && (a.fw == b.fw && (a.tm == b.tm && (eqI a.g b.g && eqB a.tr b.tr)))))
theorem rSame (a b : Au) (h1 : a.g.length ≤ 1000000000) (h2 : a.tr.length ≤ 1000000000) : authz_Same.f (a.g.length + a.tr.length + 1) a.u a.g a.o a.tr a.s a.fw a.tm b.u b.g b.o b.tr b.s b.fw b.tm = some (sameA a b) := by
  unfold authz_Same.f sameA
  by_cases e1 : a.u.toList = b.u.toList
  · rw [if_pos e1, show (a.u.toList == b.u.toList) = true from by simpa using e1]
    by_cases e2 : a.o = b.o
    · rw [if_pos e2, show (a.o == b.o) = true from by simpa using e2]
      by_cases e3 : a.s.toList = b.s.toList
      · rw [if_pos e3, show (a.s.toList == b.s.toList) = true from by simpa using e3]
        cases e4 : a.fw == b.fw with
        | true =>
          rw [if_pos rfl]
          by_cases e5 : a.tm = b.tm
          · rw [if_pos e5, show (a.tm == b.tm) = true from by simpa using e5, rEqualI _ _ h1 _ (by omega), rEqualB _ _ h2 _ (by omega)]
            cases eqI a.g b.g <;> cases eqB a.tr b.tr <;> rfl
          · rw [if_neg e5, show (a.tm == b.tm) = false from by simpa using e5]; rfl
        | false => rw [if_neg (by decide)]; rfl
      · rw [if_neg e3, show (a.s.toList == b.s.toList) = false from by simpa using e3]; rfl
    · rw [if_neg e2, show (a.o == b.o) = false from by simpa using e2]; rfl
  · rw [if_neg e1, show (a.u.toList == b.u.toList) = false from by simpa using e1]; rfl
theorem Same_A {v u : Value} {a b : Au} (w : World) (hn : nA a ≤ 1000000000) (h : IsA w v a) (h2 : IsA w u b) : Calls Tryd.prog 17 #[v, u] w fun e w' => e = .returned (.bool (sameA a b)) ∧ Below w.heap.size w w' := by
  obtain ⟨A, c, B, d, rfl, k1, k2, k3, k4⟩ := h
  obtain ⟨A', c', B', d', rfl, j1, j2, j3, j4⟩ := h2
  have hts := nS_len a.tr
  unfold nA at hn
  exact authz_Same.calls _ a.u A c a.g a.o B d a.tr a.s a.fw a.tm b.u A' c' b.g b.o B' d' b.tr b.s b.fw b.tm _ w k2 k1 k4 k3 j2 j1 j4 j3 (rSame a b (by omega) (by omega))
end Go.Proofs.YtimommkbfbdkdaaDoor.P
namespace Go.Proofs.YtimommkbfbdkdaaDoor.P
open Go.RowKit
end Go.Proofs.YtimommkbfbdkdaaDoor.P
end
section
namespace Go.Proofs.YtimommkbfbdkdaaDoor.P
open Go.RowKit Go.Proofs.YtimommkbfbdkdaaDoorW.PrintWords Go.Proofs.YtimommkbfbdkdaaDoorW.PrintLast Go.Proofs.YtimommkbfbdkdaaDoorW.PrintMore
set_option linter.unusedVariables false
set_option linter.unusedSimpArgs false
def exA : Au := ⟨⟨#[97, 110, 110]⟩, [], 0, [], ⟨#[119, 101, 98]⟩, false, 0⟩
def keyT (s : ByteArray) (n : Int) : S29 := ⟨2, s, n, []⟩
def exW : S29 := keyT ⟨#[119, 101, 98]⟩ 1
def exC : S29 := keyT ⟨#[99, 101, 110, 116, 114, 101]⟩ 1
def exW2 : S29 := keyT ⟨#[119, 101, 98]⟩ 2
def exT : S29 := builtA exA exW exC
theorem ex_n : nA exA ≤ 1000000000 := by decide +kernel
theorem ex_nT : nT exT ≤ 100000000 := by decide +kernel
theorem ex_build : buildA exA exW exC = exT ∧ buildE exA exW exC = 0 := by
  have h : canA exA exW exC = true := by decide +kernel
  unfold buildA buildE
  rw [if_pos h, if_pos h]; exact ⟨rfl, rfl⟩
theorem ex_verE : verE exT exW exC = 0 := by decide +kernel
theorem ex_verA : sameA exA (verA exT exW exC) = true := by decide +kernel
theorem ex_srvE : srvE exT exW2 = 62 := by decide +kernel
theorem ex_readE : readE exT = 0 := by decide +kernel
theorem ex_readA : sameA exA (readA exT) = true := by decide +kernel
theorem ex_valid : validA exA = true := by decide +kernel
theorem ex_text : textB (dataA exA) = ⟨#[91, 97, 110, 110, 32, 91, 93, 32, 48, 32, 91, 93, 32, 119, 101, 98, 32, 48, 32, 48, 93]⟩ := by decide +kernel
theorem ex_dn : nT (dataA exA) ≤ 1000000000 := by decide +kernel
theorem ex_dok : okT (dataA exA) := by simp [dataA, dataL, exA, listT, rowT, ofT, numT, bitI, okT, okL, i64]
theorem cell_setA {W : World} {g k o : Nat} {a b c d e f' h u : Value} (hk : k ≠ g) (hc : W.cell? ⟨k, o, none⟩ = some u) : (((((((W.setCell ⟨g, 0, none⟩ a).setCell ⟨g, 1, none⟩ b).setCell ⟨g, 2, none⟩ c).setCell ⟨g, 3, none⟩ d).setCell ⟨g, 4, none⟩ e).setCell ⟨g, 5, none⟩ f').setCell ⟨g, 6, none⟩ h).cell? ⟨k, o, none⟩ = some u := by
  have f : ∀ (W : World) (j : Nat) (x : Value), (W.setCell ⟨g, j, none⟩ x).cell? ⟨k, o, none⟩ = W.cell? ⟨k, o, none⟩ := fun W j x => World.cell?_setCell_far W _ _ _ (fun e => hk e.symm)
  rw [f, f, f, f, f, f, f]
  exact hc
theorem Key_F (s : ByteArray) (n : Int) (w : World) : Calls Tryd.prog 25 #[.string s, .int .i64 n] w fun e w' => ∃ A c, e = .returned (.agg #[.int .i64 2, .string s, .int .i64 n, .slice A 0 c]) ∧ (∀ W ok, IsF W ok (.agg #[.int .i64 2, .string s, .int .i64 n, .slice A 0 c]) (keyT s n)) ∧ Below w.heap.size w w' := by
  refine (Key_T s n w).mono ?_
  rintro e w' ⟨v, rfl, ⟨A, c, rfl, hl, _⟩, hb⟩
  exact ⟨A, c, rfl, fun W ok => ⟨A, c, rfl, hl, F_nil0 W ok A⟩, hb⟩
set_option maxHeartbeats 6000000 in
set_option maxRecDepth 100000 in
theorem works_gen (w : World) (hL : Laid w) (tX : S29) (vX rX : Au) (hb1 : buildA exA exW exC = tX) (hb2 : buildE exA exW exC = 0) (hnt : nT tX ≤ 100000000) (hva : verA tX exW exC = vX) (hve : verE tX exW exC = 0) (hse : srvE tX exW2 = 62)
    (hra : readA tX = rX) (hre : readE tX = 0) (hs1 : sameA exA vX = true) (hs2 : sameA exA rX = true) : V_ 7 #[] w (.bool true) := by
  have hBU := Aside0.mk (And.intro hb1 hb2)
  have hNT := Aside0.mk hnt
  have hVA := Aside0.mk (And.intro hva hve)
  have hSE := Aside0.mk hse
  have hRA := Aside0.mk (And.intro hra hre)
  have hSM := Aside0.mk (And.intro hs1 hs2)
  clear hb1 hb2 hnt hva hve hse hra hre hs1 hs2
  have hu25 := Tryd.underlying25
  have hu29 := Tryd.underlying29
  have HL := Aside0.mk hL
  clear hL
  unfold V_
  go_enter Tryd.func7, Tryd.ntmps7
  go_upto_region 2 with fail
  obtain ⟨w1, hw1⟩ : ∃ w1, w1 = w.alloc (.cells #[.string ⟨#[97, 110, 110]⟩, .slice none 0 0, .int .i64 0, .slice none 0 0, .string ⟨#[119, 101, 98]⟩, .bool false, .int .i64 0] 25) := ⟨_, rfl⟩
  have b1 : Below w.heap.size w w1 := hw1 ▸ below_alloc (Below.refl _ _) _
  have B1 := Aside0.mk b1
  have X1 := Aside0.mk (show w1.heap[w.heap.size]? = some (.cells #[.string ⟨#[97, 110, 110]⟩, .slice none 0 0, .int .i64 0, .slice none 0 0, .string ⟨#[119, 101, 98]⟩, .bool false, .int .i64 0] 25 (0, 0)) from hw1 ▸ box_new w _)
  have hlt1 : w.heap.size < w1.heap.size := blk_lt X1.out
  rw [← hw1]
  clear hw1 b1
  go_cut [2, 3] from 11 to 17 (fun s2 s3 wx => ∃ (g2 : Nat) (AT : Option Addr) (cT : Nat), s2 = .pointer (some ⟨g2, 0, none⟩) ∧ s3 = .int .i64 0 ∧ Aside0 (Below w.heap.size w wx) ∧ Aside0 (wx.heap[w.heap.size]? = some (.cells #[.string ⟨#[97, 110, 110]⟩, .slice none 0 0, .int .i64 0, .slice none 0 0, .string ⟨#[119, 101, 98]⟩, .bool false, .int .i64 0] 25 (0, 0))) ∧
    Aside0 (wx.heap[g2]? = some (.cells #[.int .i64 tX.f0, .string tX.f1, .int .i64 tX.f2, .slice AT tX.f3.length cT] 29 (0, 0))) ∧ Aside0 (IsT wx (.agg #[.int .i64 tX.f0, .string tX.f1, .int .i64 tX.f2, .slice AT tX.f3.length cT]) tX) ∧ Aside0 (w.heap.size < g2))
  case first =>
    obtain ⟨ha0, ha1, ha2, ha3, ha4, ha5, ha6⟩ := boxA_cells X1.out
    have HWc : Aside0 (Below w1.heap.size w1 w1) := ⟨Below.refl _ _⟩
    go_region_held3 (fun w' => w'.cell? ⟨w.heap.size, 0, none⟩ = some (.string ⟨#[97, 110, 110]⟩) ∧ w'.cell? ⟨w.heap.size, 1, none⟩ = some (.slice none 0 0) ∧ w'.cell? ⟨w.heap.size, 2, none⟩ = some (.int .i64 0) ∧ w'.cell? ⟨w.heap.size, 3, none⟩ = some (.slice none 0 0) ∧ w'.cell? ⟨w.heap.size, 4, none⟩ = some (.string ⟨#[119, 101, 98]⟩) ∧ w'.cell? ⟨w.heap.size, 5, none⟩ = some (.bool false) ∧ w'.cell? ⟨w.heap.size, 6, none⟩ = some (.int .i64 0))
      (first | (with_reducible (go_split_ands; exact ⟨pw_cell_below hb (by assumption), pw_cell_below hb (by assumption), pw_cell_below hb (by assumption), pw_cell_below hb (by assumption), pw_cell_below hb (by assumption), pw_cell_below hb (by assumption), pw_cell_below hb (by assumption)⟩)) | (with_reducible (go_split_ands; exact ⟨pw_cell_below (below_alloc (Below.refl _ _) _) (by assumption), pw_cell_below (below_alloc (Below.refl _ _) _) (by assumption), pw_cell_below (below_alloc (Below.refl _ _) _) (by assumption), pw_cell_below (below_alloc (Below.refl _ _) _) (by assumption), pw_cell_below (below_alloc (Below.refl _ _) _) (by assumption), pw_cell_below (below_alloc (Below.refl _ _) _) (by assumption), pw_cell_below (below_alloc (Below.refl _ _) _) (by assumption)⟩)) | (with_reducible (go_split_ands; refine ⟨?_, ?_, ?_, ?_, ?_, ?_, ?_⟩ <;> assumption)) | (with_reducible exact HXA.out _) | (with_reducible (go_split_ands; refine ⟨?_, ?_, ?_, ?_, ?_, ?_, ?_⟩ <;> exact cell_set4 (by omega) (by assumption))) | (go_keep; done))
      (first
        | (go_simp; go_at_call 25; refine (Key_F ⟨#[119, 101, 98]⟩ 1 _).mono ?_; rintro e wzW ⟨AW, cW, rfl, iW, hb⟩; (try (have bq := blk_below BQ.out hb; clear BQ; have BQ := Aside0.mk bq; clear bq)); (try (have bq := (one_box (w := w1) (o := (.cells #[.int .i64 0, .string ⟨#[]⟩, .int .i64 0, .slice none 0 0] 29)) hb).2.2; have BQ := Aside0.mk bq; clear bq)); (try (have bq := (one_box (w := w1) (o := (.cells #[.int .i64 0, .string ⟨#[]⟩, .int .i64 0, .slice none 0 0] 29)) ((below_drew (Below.refl (w1.alloc ((.cells #[.int .i64 0, .string ⟨#[]⟩, .int .i64 0, .slice none 0 0] 29))).heap.size (w1.alloc ((.cells #[.int .i64 0, .string ⟨#[]⟩, .int .i64 0, .slice none 0 0] 29))))).trans hb)).2.2; have BQ := Aside0.mk bq; clear bq)); have HWn := Aside0.mk (below_step (by repeat (first | exact HWc.out | apply below_alloc | apply pw_below_drewN | apply below_drew)) hb); clear HWc; have HWc := HWn; clear HWn; have hszW := HWc.out.size; have IW := Aside0.mk iW; clear iW)
        | (go_simp; go_at_call 25; refine (Key_F ⟨#[99, 101, 110, 116, 114, 101]⟩ 1 _).mono ?_; rintro e wzC ⟨AC, cC, rfl, iC, hb⟩; (try (have bq := blk_below BQ.out hb; clear BQ; have BQ := Aside0.mk bq; clear bq)); (try (have bq := (one_box (w := wzW) (o := (.cells #[.int .i64 0, .string ⟨#[]⟩, .int .i64 0, .slice none 0 0] 29)) hb).2.2; have BQ := Aside0.mk bq; clear bq)); (try (have bq := (one_box (w := wzW) (o := (.cells #[.int .i64 0, .string ⟨#[]⟩, .int .i64 0, .slice none 0 0] 29)) ((below_drew (Below.refl (wzW.alloc ((.cells #[.int .i64 0, .string ⟨#[]⟩, .int .i64 0, .slice none 0 0] 29))).heap.size (wzW.alloc ((.cells #[.int .i64 0, .string ⟨#[]⟩, .int .i64 0, .slice none 0 0] 29))))).trans hb)).2.2; have BQ := Aside0.mk bq; clear bq)); have HWn := Aside0.mk (below_step (by repeat (first | exact HWc.out | apply below_alloc | apply pw_below_drewN | apply below_drew)) hb); clear HWc; have HWc := HWn; clear HWn; have hszC := HWc.out.size; have IC := Aside0.mk iC; clear iC)
        | (go_simp; go_at_call 10; refine (Build_calls (a := exA) (sv := exW) (ce := exC) (okS := fun _ => False) (okC := fun _ => False) _ ex_n ?ha (IW.out _ _) (IC.out _ _) ?h1 ?h2).mono ?_; (case h1 => exact fun _ hk => hk.elim); (case h2 => exact fun _ hk => hk.elim); (case ha => exact ⟨none, 0, none, 0, rfl, Nat.le_refl _, C_nilI _, Nat.le_refl _, C_nilS _⟩); rw [hBU.out.1, hBU.out.2]; rintro e wz ⟨vz, rfl, hz, hb⟩; (try (have hbql := blk_lt BQ.out)); (try (have bq := blk_below BQ.out hb; clear BQ; have BQ := Aside0.mk bq; clear bq)); (try (have bq := (one_box (w := wzC) (o := (.cells #[.int .i64 0, .string ⟨#[]⟩, .int .i64 0, .slice none 0 0] 29)) hb).2.2; have BQ := Aside0.mk bq; clear bq)); (try (have bq := (one_box (w := wzC) (o := (.cells #[.int .i64 0, .string ⟨#[]⟩, .int .i64 0, .slice none 0 0] 29)) ((below_drew (Below.refl (wzC.alloc ((.cells #[.int .i64 0, .string ⟨#[]⟩, .int .i64 0, .slice none 0 0] 29))).heap.size (wzC.alloc ((.cells #[.int .i64 0, .string ⟨#[]⟩, .int .i64 0, .slice none 0 0] 29))))).trans hb)).2.2; have BQ := Aside0.mk bq; clear bq)); have hsz := hb.size; have HWn := Aside0.mk (below_step (by repeat (first | exact HWc.out | apply below_alloc | apply pw_below_drewN | apply below_drew)) hb); clear HWc; have HWc := HWn; clear HWn; have IT := Aside0.mk hz; obtain ⟨AT, cT, hv, lT, CT⟩ := hz; subst hv; clear lT CT; have HXA := Aside0.mk (fun o => boxA_cells (blk_alloc (blk_below X1.out HWc.out) o)); (try (obtain ⟨hq0, hq1, hq2, hq3⟩ := box_cells BQ.out; have hqf0 := blk_frozen BQ.out 0; have hqf1 := blk_frozen BQ.out 1; have hqf2 := blk_frozen BQ.out 2; have hqf3 := blk_frozen BQ.out 3))))
    all_goals go_wp2_with fail
    all_goals go_meet
    all_goals first
      | exact ⟨wz.heap.size, AT, cT, rfl, rfl, ⟨B1.out.trans ((HWc.out.trans ((below_alloc (Below.refl _ _) _).mono HWc.out.size)).mono B1.out.size)⟩, ⟨blk_alloc (blk_below X1.out HWc.out) _⟩, ⟨box_new wz _⟩, ⟨(IT.out.below (below_alloc (Below.refl _ _) _)).now⟩, ⟨by have := HWc.out.size; omega⟩⟩
      | exact ⟨_, AT, cT, rfl, rfl, ⟨put4_below (B1.out.trans (HWc.out.mono B1.out.size)) (by omega)⟩, ⟨(put4_other (by omega)).trans (blk_below X1.out HWc.out)⟩, ⟨put4_block BQ.out⟩, ⟨(IT.out.step (fun k hk _ => put4_other (by rcases hk with (hk | hk) | hk; exact hk.elim; exact hk.elim; (try rw [World.size_alloc] at hk); omega))).now⟩, ⟨by omega⟩⟩
  case rest =>
    obtain ⟨g2, AT, cT, rfl, rfl, B2, X12, X2, IT2, hg2⟩ := hcut
    go_upto_region 3 with fail
    go_cut [4, 5] from 18 to 24 (fun s4 s5 wx => ∃ (g4 : Nat) (AG : Option Addr) (cG : Nat) (AR : Option Addr) (cR : Nat), s4 = .pointer (some ⟨g4, 0, none⟩) ∧ s5 = .int .i64 0 ∧ Aside0 (Below w.heap.size w wx) ∧ Aside0 (wx.heap[w.heap.size]? = some (.cells #[.string ⟨#[97, 110, 110]⟩, .slice none 0 0, .int .i64 0, .slice none 0 0, .string ⟨#[119, 101, 98]⟩, .bool false, .int .i64 0] 25 (0, 0))) ∧
      Aside0 (wx.heap[g2]? = some (.cells #[.int .i64 tX.f0, .string tX.f1, .int .i64 tX.f2, .slice AT tX.f3.length cT] 29 (0, 0))) ∧ Aside0 (IsT wx (.agg #[.int .i64 tX.f0, .string tX.f1, .int .i64 tX.f2, .slice AT tX.f3.length cT]) tX) ∧ Aside0 (wx.heap[g4]? = some (.cells #[.string (vX).u, .slice AG (vX).g.length cG, .int .i64 (vX).o, .slice AR (vX).tr.length cR, .string (vX).s, .bool (vX).fw, .int .i64 (vX).tm] 25 (0, 0))) ∧ Aside0 (IsA wx (.agg #[.string (vX).u, .slice AG (vX).g.length cG, .int .i64 (vX).o, .slice AR (vX).tr.length cR, .string (vX).s, .bool (vX).fw, .int .i64 (vX).tm]) (vX)) ∧ Aside0 (g2 < g4))
    case first =>
      have hgl := blk_lt X2.out
      have hwl := blk_lt X12.out
      obtain ⟨ht0, ht1, ht2, ht3⟩ := box_cells X2.out
      have HWc : Aside0 (Below wc.heap.size wc wc) := ⟨Below.refl _ _⟩
      go_region_held3 (fun w' => w'.cell? ⟨g2, 0, none⟩ = some (.int .i64 tX.f0) ∧ w'.cell? ⟨g2, 1, none⟩ = some (.string tX.f1) ∧ w'.cell? ⟨g2, 2, none⟩ = some (.int .i64 tX.f2) ∧ w'.cell? ⟨g2, 3, none⟩ = some (.slice AT tX.f3.length cT))
        (first | (with_reducible (go_split_ands; exact ⟨pw_cell_below hb (by assumption), pw_cell_below hb (by assumption), pw_cell_below hb (by assumption), pw_cell_below hb (by assumption)⟩)) | (with_reducible (go_split_ands; exact ⟨pw_cell_below (below_alloc (Below.refl _ _) _) (by assumption), pw_cell_below (below_alloc (Below.refl _ _) _) (by assumption), pw_cell_below (below_alloc (Below.refl _ _) _) (by assumption), pw_cell_below (below_alloc (Below.refl _ _) _) (by assumption)⟩)) | (with_reducible (go_split_ands; refine ⟨?_, ?_, ?_, ?_⟩ <;> assumption)) | (with_reducible exact HXA.out _) | (with_reducible (go_split_ands; refine ⟨?_, ?_, ?_, ?_⟩ <;> exact cell_setA (by omega) (by assumption))) | (go_keep; done))
        (first
          | (go_simp; go_at_call 25; refine (Key_F ⟨#[119, 101, 98]⟩ 1 _).mono ?_; rintro e wzW ⟨AW, cW, rfl, iW, hb⟩; (try (have bq := blk_below BQ.out hb; clear BQ; have BQ := Aside0.mk bq; clear bq)); (try (have bq := (one_box (w := wc) (o := (.cells #[.string ⟨#[]⟩, .slice none 0 0, .int .i64 0, .slice none 0 0, .string ⟨#[]⟩, .bool false, .int .i64 0] 25)) hb).2.2; have BQ := Aside0.mk bq; clear bq)); (try (have bq := (one_box (w := wc) (o := (.cells #[.string ⟨#[]⟩, .slice none 0 0, .int .i64 0, .slice none 0 0, .string ⟨#[]⟩, .bool false, .int .i64 0] 25)) ((below_drew (Below.refl (wc.alloc ((.cells #[.string ⟨#[]⟩, .slice none 0 0, .int .i64 0, .slice none 0 0, .string ⟨#[]⟩, .bool false, .int .i64 0] 25))).heap.size (wc.alloc ((.cells #[.string ⟨#[]⟩, .slice none 0 0, .int .i64 0, .slice none 0 0, .string ⟨#[]⟩, .bool false, .int .i64 0] 25))))).trans hb)).2.2; have BQ := Aside0.mk bq; clear bq)); have HWn := Aside0.mk (below_step (by repeat (first | exact HWc.out | apply below_alloc | apply pw_below_drewN | apply below_drew)) hb); clear HWc; have HWc := HWn; clear HWn; have hszW := HWc.out.size; have IW := Aside0.mk iW; clear iW)
          | (go_simp; go_at_call 25; refine (Key_F ⟨#[99, 101, 110, 116, 114, 101]⟩ 1 _).mono ?_; rintro e wzC ⟨AC, cC, rfl, iC, hb⟩; (try (have bq := blk_below BQ.out hb; clear BQ; have BQ := Aside0.mk bq; clear bq)); (try (have bq := (one_box (w := wzW) (o := (.cells #[.string ⟨#[]⟩, .slice none 0 0, .int .i64 0, .slice none 0 0, .string ⟨#[]⟩, .bool false, .int .i64 0] 25)) hb).2.2; have BQ := Aside0.mk bq; clear bq)); (try (have bq := (one_box (w := wzW) (o := (.cells #[.string ⟨#[]⟩, .slice none 0 0, .int .i64 0, .slice none 0 0, .string ⟨#[]⟩, .bool false, .int .i64 0] 25)) ((below_drew (Below.refl (wzW.alloc ((.cells #[.string ⟨#[]⟩, .slice none 0 0, .int .i64 0, .slice none 0 0, .string ⟨#[]⟩, .bool false, .int .i64 0] 25))).heap.size (wzW.alloc ((.cells #[.string ⟨#[]⟩, .slice none 0 0, .int .i64 0, .slice none 0 0, .string ⟨#[]⟩, .bool false, .int .i64 0] 25))))).trans hb)).2.2; have BQ := Aside0.mk bq; clear bq)); have HWn := Aside0.mk (below_step (by repeat (first | exact HWc.out | apply below_alloc | apply pw_below_drewN | apply below_drew)) hb); clear HWc; have HWc := HWn; clear HWn; have hszC := HWc.out.size; have IC := Aside0.mk iC; clear iC)
          | (go_simp; go_at_call 21; refine (Verify_calls (t := tX) (sv := exW) (ce := exC) _ hNT.out ?h0 ((IW.out _ (fun _ => True)).now) ((IC.out _ (fun _ => True)).now)).mono ?_; (case h0 => exact IT2.out.below (by repeat (first | exact HWc.out | apply below_alloc | apply pw_below_drewN | apply below_drew))); rw [hVA.out.1, hVA.out.2]; rintro e wz ⟨vz, rfl, hz, hb⟩; (try (have hbql := blk_lt BQ.out)); (try (have bq := blk_below BQ.out hb; clear BQ; have BQ := Aside0.mk bq; clear bq)); (try (have bq := (one_box (w := wzC) (o := (.cells #[.string ⟨#[]⟩, .slice none 0 0, .int .i64 0, .slice none 0 0, .string ⟨#[]⟩, .bool false, .int .i64 0] 25)) hb).2.2; have BQ := Aside0.mk bq; clear bq)); (try (have bq := (one_box (w := wzC) (o := (.cells #[.string ⟨#[]⟩, .slice none 0 0, .int .i64 0, .slice none 0 0, .string ⟨#[]⟩, .bool false, .int .i64 0] 25)) ((below_drew (Below.refl (wzC.alloc ((.cells #[.string ⟨#[]⟩, .slice none 0 0, .int .i64 0, .slice none 0 0, .string ⟨#[]⟩, .bool false, .int .i64 0] 25))).heap.size (wzC.alloc ((.cells #[.string ⟨#[]⟩, .slice none 0 0, .int .i64 0, .slice none 0 0, .string ⟨#[]⟩, .bool false, .int .i64 0] 25))))).trans hb)).2.2; have BQ := Aside0.mk bq; clear bq)); have hsz := hb.size; have HWn := Aside0.mk (below_step (by repeat (first | exact HWc.out | apply below_alloc | apply pw_below_drewN | apply below_drew)) hb); clear HWc; have HWc := HWn; clear HWn; have IV := Aside0.mk hz; obtain ⟨AG, cG, AR, cR, hv, lG, FG, lR, FR⟩ := hz; subst hv; clear lG FG lR FR; have HXA := Aside0.mk (fun o => box_cells (blk_alloc (blk_below X2.out HWc.out) o)); (try (obtain ⟨hq0, hq1, hq2, hq3, hq4, hq5, hq6⟩ := boxA_cells BQ.out; have hqf0 := blk_frozen BQ.out 0; have hqf1 := blk_frozen BQ.out 1; have hqf2 := blk_frozen BQ.out 2; have hqf3 := blk_frozen BQ.out 3; have hqf4 := blk_frozen BQ.out 4; have hqf5 := blk_frozen BQ.out 5; have hqf6 := blk_frozen BQ.out 6))))
      all_goals go_wp2_with fail
      all_goals go_meet
      all_goals first
        | (refine ⟨wz.heap.size, AG, cG, AR, cR, rfl, rfl, ?_, ?_, ?_, ?_, ?_, ?_, ?_⟩; exact ⟨B2.out.trans ((HWc.out.trans ((below_alloc (Below.refl _ _) _).mono HWc.out.size)).mono B2.out.size)⟩; exact ⟨blk_alloc (blk_below X12.out HWc.out) _⟩; exact ⟨blk_alloc (blk_below X2.out HWc.out) _⟩; exact ⟨IT2.out.below (HWc.out.trans ((below_alloc (Below.refl _ _) _).mono HWc.out.size))⟩; exact ⟨box_new wz _⟩; exact ⟨(IV.out.below (below_alloc (Below.refl _ _) _)).now⟩; exact ⟨by have := HWc.out.size; omega⟩)
        | (refine ⟨_, AG, cG, AR, cR, rfl, rfl, ?_, ?_, ?_, ?_, ?_, ?_, ?_⟩; exact ⟨putA_below (B2.out.trans (HWc.out.mono B2.out.size)) (by omega)⟩; exact ⟨(putA_other (by omega)).trans (blk_below X12.out HWc.out)⟩; exact ⟨(putA_other (by omega)).trans (blk_below X2.out HWc.out)⟩; exact ⟨IT2.out.below (putA_below HWc.out (by omega))⟩; exact ⟨putA_block BQ.out⟩; exact ⟨(IV.out.step (fun k hk _ => putA_other (by (try rw [World.size_alloc] at hk); omega))).now⟩; exact ⟨by omega⟩)
    case rest =>
      obtain ⟨g4, AG, cG, AR, cR, rfl, rfl, B3, X13, X23, IT3, X4, IV, hg4⟩ := hcut
      clear B2 X12 X2 IT2
      have B2 := B3
      have X12 := X13
      have X2 := X23
      have IT2 := IT3
      clear B3 X13 X23 IT3
      go_upto_region 4 with fail
      go_cut [6, 7] from 25 to 30 (fun s6 s7 wy => s7 = .int .i64 62 ∧ Aside0 (Below w.heap.size w wy) ∧ Aside0 (wy.heap[w.heap.size]? = some (.cells #[.string ⟨#[97, 110, 110]⟩, .slice none 0 0, .int .i64 0, .slice none 0 0, .string ⟨#[119, 101, 98]⟩, .bool false, .int .i64 0] 25 (0, 0))) ∧
        Aside0 (wy.heap[g2]? = some (.cells #[.int .i64 tX.f0, .string tX.f1, .int .i64 tX.f2, .slice AT tX.f3.length cT] 29 (0, 0))) ∧ Aside0 (IsT wy (.agg #[.int .i64 tX.f0, .string tX.f1, .int .i64 tX.f2, .slice AT tX.f3.length cT]) tX) ∧ Aside0 (wy.heap[g4]? = some (.cells #[.string (vX).u, .slice AG (vX).g.length cG, .int .i64 (vX).o, .slice AR (vX).tr.length cR, .string (vX).s, .bool (vX).fw, .int .i64 (vX).tm] 25 (0, 0))) ∧ Aside0 (IsA wy (.agg #[.string (vX).u, .slice AG (vX).g.length cG, .int .i64 (vX).o, .slice AR (vX).tr.length cR, .string (vX).s, .bool (vX).fw, .int .i64 (vX).tm]) (vX)))
      case first =>
        obtain ⟨sX, hsX⟩ : ∃ sX, srvA tX exW2 = sX := ⟨_, rfl⟩
        have hgl := blk_lt X2.out
        have hwl := blk_lt X12.out
        have hgl4 := blk_lt X4.out
        obtain ⟨ht0, ht1, ht2, ht3⟩ := box_cells X2.out
        have HWc : Aside0 (Below wc.heap.size wc wc) := ⟨Below.refl _ _⟩
        go_region_held3 (fun w' => w'.cell? ⟨g2, 0, none⟩ = some (.int .i64 tX.f0) ∧ w'.cell? ⟨g2, 1, none⟩ = some (.string tX.f1) ∧ w'.cell? ⟨g2, 2, none⟩ = some (.int .i64 tX.f2) ∧ w'.cell? ⟨g2, 3, none⟩ = some (.slice AT tX.f3.length cT))
          (first | (with_reducible (go_split_ands; exact ⟨pw_cell_below hb (by assumption), pw_cell_below hb (by assumption), pw_cell_below hb (by assumption), pw_cell_below hb (by assumption)⟩)) | (with_reducible (go_split_ands; exact ⟨pw_cell_below (below_alloc (Below.refl _ _) _) (by assumption), pw_cell_below (below_alloc (Below.refl _ _) _) (by assumption), pw_cell_below (below_alloc (Below.refl _ _) _) (by assumption), pw_cell_below (below_alloc (Below.refl _ _) _) (by assumption)⟩)) | (with_reducible (go_split_ands; refine ⟨?_, ?_, ?_, ?_⟩ <;> assumption)) | (with_reducible exact HXA.out _) | (with_reducible (go_split_ands; refine ⟨?_, ?_, ?_, ?_⟩ <;> exact cell_setA (by omega) (by assumption))) | (go_keep; done))
          (first
            | (go_simp; go_at_call 25; refine (Key_F ⟨#[119, 101, 98]⟩ 2 _).mono ?_; rintro e wzW ⟨AW, cW, rfl, iW, hb⟩; (try (have bq := blk_below BQ.out hb; clear BQ; have BQ := Aside0.mk bq; clear bq)); (try (have bq := (one_box (w := wc) (o := (.cells #[.string ⟨#[]⟩, .slice none 0 0, .int .i64 0, .slice none 0 0, .string ⟨#[]⟩, .bool false, .int .i64 0] 25)) hb).2.2; have BQ := Aside0.mk bq; clear bq)); (try (have bq := (one_box (w := wc) (o := (.cells #[.string ⟨#[]⟩, .slice none 0 0, .int .i64 0, .slice none 0 0, .string ⟨#[]⟩, .bool false, .int .i64 0] 25)) ((below_drew (Below.refl (wc.alloc ((.cells #[.string ⟨#[]⟩, .slice none 0 0, .int .i64 0, .slice none 0 0, .string ⟨#[]⟩, .bool false, .int .i64 0] 25))).heap.size (wc.alloc ((.cells #[.string ⟨#[]⟩, .slice none 0 0, .int .i64 0, .slice none 0 0, .string ⟨#[]⟩, .bool false, .int .i64 0] 25))))).trans hb)).2.2; have BQ := Aside0.mk bq; clear bq)); have HWn := Aside0.mk (below_step (by repeat (first | exact HWc.out | apply below_alloc | apply pw_below_drewN | apply below_drew)) hb); clear HWc; have HWc := HWn; clear HWn; have hszW := HWc.out.size; have IW := Aside0.mk iW; clear iW)
            | (go_simp; go_at_call 20; refine (Server_calls (t := tX) (sv := exW2) _ hNT.out ?h0 ((IW.out _ (fun _ => True)).now)).mono ?_; (case h0 => exact IT2.out.below (by repeat (first | exact HWc.out | apply below_alloc | apply pw_below_drewN | apply below_drew))); rw [hSE.out]; rintro e wz ⟨vz, rfl, hz, hb⟩; (try (have hbql := blk_lt BQ.out)); (try (have bq := blk_below BQ.out hb; clear BQ; have BQ := Aside0.mk bq; clear bq)); (try (have bq := (one_box (w := wzW) (o := (.cells #[.string ⟨#[]⟩, .slice none 0 0, .int .i64 0, .slice none 0 0, .string ⟨#[]⟩, .bool false, .int .i64 0] 25)) hb).2.2; have BQ := Aside0.mk bq; clear bq)); (try (have bq := (one_box (w := wzW) (o := (.cells #[.string ⟨#[]⟩, .slice none 0 0, .int .i64 0, .slice none 0 0, .string ⟨#[]⟩, .bool false, .int .i64 0] 25)) ((below_drew (Below.refl (wzW.alloc ((.cells #[.string ⟨#[]⟩, .slice none 0 0, .int .i64 0, .slice none 0 0, .string ⟨#[]⟩, .bool false, .int .i64 0] 25))).heap.size (wzW.alloc ((.cells #[.string ⟨#[]⟩, .slice none 0 0, .int .i64 0, .slice none 0 0, .string ⟨#[]⟩, .bool false, .int .i64 0] 25))))).trans hb)).2.2; have BQ := Aside0.mk bq; clear bq)); have hsz := hb.size; have HWn := Aside0.mk (below_step (by repeat (first | exact HWc.out | apply below_alloc | apply pw_below_drewN | apply below_drew)) hb); clear HWc; have HWc := HWn; clear HWn; obtain ⟨AG2, cG2, AR2, cR2, hv, lG, FG, lR, FR⟩ := hz; rw [hsX] at hv; subst hv; clear lG FG lR FR; have HXA := Aside0.mk (fun o => box_cells (blk_alloc (blk_below X2.out HWc.out) o)); (try (obtain ⟨hq0, hq1, hq2, hq3, hq4, hq5, hq6⟩ := boxA_cells BQ.out; have hqf0 := blk_frozen BQ.out 0; have hqf1 := blk_frozen BQ.out 1; have hqf2 := blk_frozen BQ.out 2; have hqf3 := blk_frozen BQ.out 3; have hqf4 := blk_frozen BQ.out 4; have hqf5 := blk_frozen BQ.out 5; have hqf6 := blk_frozen BQ.out 6))))
        all_goals go_wp2_with fail
        all_goals go_meet
        all_goals first
          | (refine ⟨rfl, ?_, ?_, ?_, ?_, ?_, ?_⟩; with_reducible exact ⟨B2.out.trans ((HWc.out.trans ((below_alloc (Below.refl _ _) _).mono HWc.out.size)).mono B2.out.size)⟩; exact ⟨blk_alloc (blk_below X12.out HWc.out) _⟩; exact ⟨blk_alloc (blk_below X2.out HWc.out) _⟩; exact ⟨IT2.out.below (HWc.out.trans ((below_alloc (Below.refl _ _) _).mono HWc.out.size))⟩; exact ⟨blk_alloc (blk_below X4.out HWc.out) _⟩; exact ⟨IV.out.below (HWc.out.trans ((below_alloc (Below.refl _ _) _).mono HWc.out.size))⟩)
          | (refine ⟨rfl, ?_, ?_, ?_, ?_, ?_, ?_⟩; exact ⟨putA_below (B2.out.trans (HWc.out.mono B2.out.size)) (by omega)⟩; exact ⟨(putA_other (by omega)).trans (blk_below X12.out HWc.out)⟩; exact ⟨(putA_other (by omega)).trans (blk_below X2.out HWc.out)⟩; exact ⟨IT2.out.below (putA_below HWc.out (by omega))⟩; exact ⟨(putA_other (by omega)).trans (blk_below X4.out HWc.out)⟩; exact ⟨IV.out.below (putA_below HWc.out (by omega))⟩)
      case rest =>
        obtain ⟨rfl, B3, X13, X23, IT3, X43, IV3⟩ := hcut
        clear B2 X12 X2 IT2 X4 IV
        obtain ⟨ht0, ht1, ht2, ht3⟩ := box_cells X23.out
        go_wp2_with fail
        refine (Read_calls (t := tX) _ hNT.out IT3.out).mono ?_
        rw [hRA.out.1, hRA.out.2]
        rintro e wz ⟨vz, rfl, hz, hb⟩
        obtain ⟨AR, cR, BR, dR, rfl, lG, FG, lR, FR⟩ := hz
        have IR : Aside0 (IsAF wz (fun k => wc.heap.size + 2 ≤ k) _ rX) := ⟨⟨AR, cR, BR, dR, rfl, lG, FG, lR, FR⟩⟩
        have B5 := Aside0.mk (B3.out.trans (hb.mono B3.out.size))
        have X15 := Aside0.mk (blk_below X13.out hb)
        have X45 := Aside0.mk (blk_below X43.out hb)
        have IV5 := Aside0.mk (IV3.out.below hb)
        clear lG FG lR FR B3 X13 X23 IT3 X43 IV3 ht0 ht1 ht2 ht3 hb
        obtain ⟨ha0, ha1, ha2, ha3, ha4, ha5, ha6⟩ := boxA_cells (blk_alloc X15.out (.cells #[.string rX.u, .slice AR rX.g.length cR, .int .i64 rX.o, .slice BR rX.tr.length dR, .string rX.s, .bool rX.fw, .int .i64 rX.tm] 25))
        have IA0 : Aside0 (∀ W, IsA W (.agg #[.string ⟨#[97, 110, 110]⟩, .slice none 0 0, .int .i64 0, .slice none 0 0, .string ⟨#[119, 101, 98]⟩, .bool false, .int .i64 0]) exA) := ⟨fun W => ⟨none, 0, none, 0, rfl, Nat.le_refl _, C_nilI _, Nat.le_refl _, C_nilS _⟩⟩
        go_wp2_with fail
        refine (Data_F (a := exA) _ ex_n (IA0.out _)).mono ?_
        rintro e w6 ⟨v6, rfl, h6, b6⟩
        obtain ⟨p6, z6, x6⟩ := one_box b6
        have B6 := Aside0.mk (B5.out.trans (p6.mono B5.out.size))
        have X16 := Aside0.mk (blk_below X15.out p6)
        have X46 := Aside0.mk (blk_below X45.out p6)
        have X86 := Aside0.mk x6
        have IV6 := Aside0.mk (IV5.out.below p6)
        have IR6 := Aside0.mk (IR.out.now.below p6)
        have L6 : Aside0 (Laid w6) := ⟨HL.out.below B6.out⟩
        clear p6 z6 x6 b6 B5 X15 X45 IV5 IR ha0 ha1 ha2 ha3 ha4 ha5 ha6
        have hT := Text_V w6 ex_dn ex_dok L6.out h6.now
        rw [ex_text] at hT
        go_wp2_with fail
        refine hT.mono ?_
        rintro e w7 ⟨rfl, b7⟩
        have B7 := Aside0.mk (B6.out.trans (b7.mono B6.out.size))
        have X17 := Aside0.mk (blk_below X16.out b7)
        have X47 := Aside0.mk (blk_below X46.out b7)
        have X87 := Aside0.mk (blk_below X86.out b7)
        have IV7 := Aside0.mk (IV6.out.below b7)
        have IR7 := Aside0.mk (IR6.out.below b7)
        clear B6 X16 X46 X86 IV6 IR6
        have L7 : Aside0 (Laid w7) := ⟨HL.out.below B7.out⟩
        clear h6 hT b7
        obtain ⟨ha0, ha1, ha2, ha3, ha4, ha5, ha6⟩ := boxA_cells X17.out
        obtain ⟨hd0, hd1, hd2, hd3, hd4, hd5, hd6⟩ := boxA_cells X47.out
        go_wp2_with fail
        refine (Same_A (a := exA) (b := vX) _ ex_n (IA0.out _) IV7.out).mono ?_
        rw [hSM.out.1]
        rintro e w8 ⟨rfl, b8⟩
        have B8 := Aside0.mk (B7.out.trans (b8.mono B7.out.size))
        have X18 := Aside0.mk (blk_below X17.out b8)
        have X48 := Aside0.mk (blk_below X47.out b8)
        have X88 := Aside0.mk (blk_below X87.out b8)
        have IV8 := Aside0.mk (IV7.out.below b8)
        have IR8 := Aside0.mk (IR7.out.below b8)
        clear B7 X17 X47 X87 IV7 IR7
        clear b8 ha0 ha1 ha2 ha3 ha4 ha5 ha6 hd0 hd1 hd2 hd3 hd4 hd5 hd6
        obtain ⟨ha0, ha1, ha2, ha3, ha4, ha5, ha6⟩ := boxA_cells X18.out
        obtain ⟨hd0, hd1, hd2, hd3, hd4, hd5, hd6⟩ := boxA_cells X88.out
        go_wp2_with fail
        refine (Same_A (a := exA) (b := rX) _ ex_n (IA0.out _) IR8.out).mono ?_
        rw [hSM.out.2]
        rintro e w9 ⟨rfl, b9⟩
        have B9 := Aside0.mk (B8.out.trans (b9.mono B8.out.size))
        have X19 := Aside0.mk (blk_below X18.out b9)
        have X49 := Aside0.mk (blk_below X48.out b9)
        have X89 := Aside0.mk (blk_below X88.out b9)
        have IV9 := Aside0.mk (IV8.out.below b9)
        have IR9 := Aside0.mk (IR8.out.below b9)
        clear B8 X18 X48 X88 IV8 IR8
        clear b9 ha0 ha1 ha2 ha3 ha4 ha5 ha6 hd0 hd1 hd2 hd3 hd4 hd5 hd6
        obtain ⟨ha0, ha1, ha2, ha3, ha4, ha5, ha6⟩ := boxA_cells X19.out
        go_wp2_with fail
        refine (Valid_calls (a := exA) _ ex_n (IA0.out _)).mono ?_
        rw [ex_valid]
        rintro e w10 ⟨rfl, b10⟩
        go_wp2_with fail
        go_ret
        exact ⟨rfl, B9.out.trans (b10.mono B9.out.size)⟩
theorem works_calls (w : World) (hL : Laid w) : V_ 7 #[] w (.bool true) :=
  works_gen w hL exT _ _ ex_build.1 ex_build.2 ex_nT rfl ex_verE ex_srvE rfl ex_readE ex_verA ex_readA
end Go.Proofs.YtimommkbfbdkdaaDoor.P
end
section
namespace Go.Proofs.YtimommkbfbdkdaaDoor.P
open Go.RowKit Go.Proofs.YtimommkbfbdkdaaDoorW.PrintWords Go.Proofs.YtimommkbfbdkdaaDoorW.PrintLast Go.Proofs.YtimommkbfbdkdaaDoorW.PrintMore
def fuelA (a : Au) : Nat := a.tr.length + 1
def largeA (a : Au) : Bool := (legateref13_Large.f (fuelA a) a.u a.g a.o a.tr a.s a.fw a.tm).getD false
theorem largeA_some (a : Au) (hn : nA a ≤ 1000000000) : legateref13_Large.f (fuelA a) a.u a.g a.o a.tr a.s a.fw a.tm = some (largeA a) := by
  have key : ∀ (j i : Nat) (x : Int), a.tr.length - i = j → i ≤ a.tr.length → ∃ r, legateref13_Large.l0 (j + 1) x i a.u a.g a.o a.tr a.s a.fw a.tm = some r := by
    have hts := nS_len a.tr
    unfold nA at hn
    intro j
    induction j with
    | zero =>
      intro i x hj hi
      obtain rfl : i = a.tr.length := by omega
      rw [legateref13_Large.l0, if_neg (by omega)]
      exact ⟨_, rfl⟩
    | succ j ih =>
      intro i x hj hi
      rw [legateref13_Large.l0, if_pos (by omega), if_pos (by omega), IntWalk.wrap64_in ((i : Int) + 1) (by omega)]
      have := ih (i + 1) (wrap64 ((wrap64 (x + 1)) + ((rdOf ByteArray.empty a.tr i).size : Int))) (by omega) (by omega)
      rwa [show (((i + 1 : Nat)) : Int) = (i : Int) + 1 from by omega] at this
  obtain ⟨r, hr⟩ := key a.tr.length 0 (wrap64 ((a.u.size : Int) + (a.s.size : Int))) (by omega) (by omega)
  have hr' : legateref13_Large.f (fuelA a) a.u a.g a.o a.tr a.s a.fw a.tm = some r := hr
  unfold largeA
  rw [hr']; rfl
theorem LargeA_V {v : Value} {a : Au} (w : World) (hn : nA a ≤ 1000000000) (h : IsA w v a) : V_ 8 #[v] w (.bool (largeA a)) := by
  obtain ⟨A, c, B, d, rfl, h1, h2, h3, h4⟩ := h
  exact legateref13_Large.calls (fuelA a) a.u A c a.g a.o B d a.tr a.s a.fw a.tm _ w h2 h1 h4 h3 (largeA_some a hn)
theorem build_no {a : Au} {sv ce : S29} (h : canA a sv ce = false) : buildA a sv ce = z29 ∧ buildE a sv ce = 1 := by
  unfold buildA buildE; rw [h]; exact ⟨rfl, rfl⟩
theorem build_yes {a : Au} {sv ce : S29} (h : canA a sv ce = true) : buildA a sv ce = builtA a sv ce ∧ buildE a sv ce = 0 := by
  unfold buildA buildE; rw [h]; exact ⟨rfl, rfl⟩
end Go.Proofs.YtimommkbfbdkdaaDoor.P
namespace Go.Proofs.YtimommkbfbdkdaaDoor.P
open Go.RowKit Go.Proofs.YtimommkbfbdkdaaDoorW.PrintWords Go.Proofs.YtimommkbfbdkdaaDoorW.PrintLast Go.Proofs.YtimommkbfbdkdaaDoorW.PrintMore
theorem nT_num (n : Int) : nT (numT n) = 1 := rfl
theorem nT_of (s : ByteArray) : nT (ofT s) = 1 + s.size := rfl
theorem e_size : (⟨#[]⟩ : ByteArray).size = 0 := rfl
theorem nT_list (l : List S29) : nT (listT l) = 1 + nL l := by show 1 + (⟨#[]⟩ : ByteArray).size + nL l = _; rw [e_size]
theorem nT_sum (k t : S29) (n : Int) : nT (sumT k n t) = 1 + (nT k + (nT t + 0)) := by show 1 + (⟨#[]⟩ : ByteArray).size + nL [k, t] = _; rw [e_size]; rfl
theorem nL_nums : ∀ l : List Int, nL (l.map numT) = l.length
  | [] => rfl
  | n :: l => by rw [List.map_cons, nL, nT_num, nL_nums l, List.length_cons]; omega
theorem nL_names : ∀ l : List ByteArray, nL (l.map ofT) = nS l
  | [] => rfl
  | s :: l => by rw [List.map_cons, nL, nT_of, nL_names l, nS]
theorem nT_data (a : Au) : nT (dataA a) ≤ 10 + nA a := by
  show nT (listT (dataL a)) ≤ _
  rw [nT_list]
  unfold dataL rowT
  simp only [nL, nT_of, nT_num, nT_list, nL_nums, nL_names]
  unfold nA
  omega
theorem nT_built (a : Au) (sv ce : S29) : nT (builtA a sv ce) ≤ 100 + 3 * nA a + 2 * nT sv + nT ce := by
  show nT (listT [dataA a, sumT sv 18 (dataA a), sumT ce 19 (sumT sv 18 (dataA a))]) ≤ _
  rw [nT_list]
  simp only [nL, nT_sum]
  have := nT_data a
  omega
end Go.Proofs.YtimommkbfbdkdaaDoor.P
end
