/- The Go functions slices.Clone at lists of terms, term.List and term.Row make the lists that they should. -/
import Derived.Test.YtimommkbfbdkdaaDoorPHe
import Derived.WalkSpells
namespace Go.Proofs.YtimommkbfbdkdaaDoor.P
open Go.RowKit Go.Proofs.YtimommkbfbdkdaaDoorW.PrintWords Go.Proofs.YtimommkbfbdkdaaDoorW.PrintLast Go.Proofs.YtimommkbfbdkdaaDoorW.PrintMore

/-- Elements that were read in an earlier world are read now. -/
theorem fixed_C {w w1 : World} {A : Option Addr} {n : Nat} {l : List S29} (h : Kd.C (Kd.fixed k29 w) w1 A n l) (hb : Below w.heap.size w w1) : Kd.C k29 w1 A n l :=
  ReadsRow.imp_ h (Below.refl _ _) (fun _ _ hp => k29.K_below hb hp)
theorem fixed_row {w w1 : World} {A : Option Addr} {n : Nat} {l : List S29} (h : Kd.C k29 w A n l) (hb : Below w.heap.size w w1) : ReadsRow (k29.K w) 4 w1 A n l :=
  ReadsRow.imp_ h hb (fun _ _ hp => hp)

set_option maxHeartbeats 1000000 in
set_option maxRecDepth 100000 in
theorem Clone_calls (A : Option Addr) (c : Nat) (l : List S29) (w0 w : World) (hn : l.length ≤ 1000000000) (hC : Kd.C k29 w0 A l.length l) (hb0 : Below w0.heap.size w0 w) :
    Calls Tryd.prog 51 #[.slice A l.length c] w fun e w' => ∃ v : Value, e = .returned v ∧ Kd.R (Kd.fixed k29 w0) 29 w' w.heap.size (fun _ => True) v l ∧ Below w.heap.size w w' := by
  have hu29 := Tryd.underlying29
  have HC := Aside0.mk hC
  have HB0 := Aside0.mk hb0
  clear hC hb0
  rcases A with _ | ad
  · have hl0 : l = [] := by
      rcases Nat.eq_zero_or_pos l.length with h | h
      · exact List.eq_nil_of_length_eq_zero h
      · obtain ⟨ad, e, _⟩ := HC.out.2.2 h; cases e
    subst hl0
    have heq := fun W => Lib.run_eql_slice_nil (P := Tryd.prog) W 27 29 none 0 c 0 0 Tryd.underlying27
    go_enter Tryd.func51, Tryd.ntmps51
    go_wp2_with fail
    go_ret
    exact ⟨_, rfl, Kd.R_nil _ _ _ _ _, Below.refl _ _⟩
  · have heq := fun W => Lib.run_eql_slice_nil (P := Tryd.prog) W 27 29 (some ad) l.length c 0 0 Tryd.underlying27
    go_enter Tryd.func51, Tryd.ntmps51
    go_wp2_with (at_builtin; refine Kd.R_append_rows (Kd.fixed k29 w0) (Rr := k29.K w0) (w0 := w) w.heap.size rfl (.tmp 5) (.tmp 6) 27 29 (.agg #[(.int .i64 0), (.string ⟨#[]⟩), (.int .i64 0), (.slice none 0 0)]) 56 rfl Tryd.underlying27 info29 rfl (show 0 < 4 from by decide) (by decide) (.slice (some ⟨w.heap.size, 0, none⟩) 0 0) [] l (some ad) l.length c (fun _ => True) (fun _ => False) rfl rfl ?aO ?aR (fun _ _ h => h) (fun _ hk => hk.elim) (fun _ _ => trivial) ?aB ?aS ?aL ?_; (case aO => exact ⟨fun _ _ => trivial, [], World.ownsRow_lit (base := w.heap.size) (e := 29) (size := 4) w #[] 0 (Nat.le_refl _) (by simp) rfl, Reps.none _ _⟩); (case aR => exact fixed_row HC.out (HB0.out.trans ((below_alloc (Below.refl _ _) _).mono HB0.out.size))); (case aB => exact below_alloc (Below.refl _ _) _); (case aS => simp); (case aL => simp; omega); intro v1 w1 ho hb hg hat; have HO := Aside0.mk ho; have HB := Aside0.mk hb; clear ho hb hg hat)
    go_ret
    exact ⟨v1, rfl, HO.out, HB.out⟩

theorem List_calls (A : Option Addr) (c : Nat) (l : List S29) (w0 w : World) (hn : l.length ≤ 1000000000) (hC : Kd.C k29 w0 A l.length l) (hb0 : Below w0.heap.size w0 w) :
    Calls Tryd.prog 24 #[.slice A l.length c] w fun e w' => ∃ v : Value, e = .returned (.agg #[.int .i64 3, .string ⟨#[]⟩, .int .i64 0, v]) ∧ Kd.R (Kd.fixed k29 w0) 29 w' w.heap.size (fun _ => True) v l ∧ Below w.heap.size w w' := by
  have hu29 := Tryd.underlying29
  have HC := Aside0.mk hC
  have HB0 := Aside0.mk hb0
  clear hC hb0
  go_enter Tryd.func24, Tryd.ntmps24
  go_wp2_with fail
  refine (Clone_calls A c l w0 _ hn HC.out (HB0.out.trans ((below_alloc (Below.refl _ _) _).mono HB0.out.size))).mono ?_
  rintro e w1 ⟨v, rfl, hR, hb⟩
  obtain ⟨hb0, hsz, ht1⟩ := one_box hb
  obtain ⟨A1, c1, rfl⟩ := Kd.R_slice hR
  rw [World.size_alloc] at hR
  have HR := Aside0.mk hR
  have HB := Aside0.mk hb0
  have HT := Aside0.mk ht1
  obtain ⟨hc0, hc1, hc2, hc3⟩ := box_cells ht1
  have hf0 := blk_frozen ht1 0
  have hf1 := blk_frozen ht1 1
  have hf2 := blk_frozen ht1 2
  have hf3 := blk_frozen ht1 3
  clear hb hb0 ht1 hR
  go_wp2_with fail
  refine bodyPost_ret (results_cell_row rfl _ _ w.heap.size 29 #[.int .i64 3, .string (⟨#[]⟩ : ByteArray), .int .i64 0, .slice A1 l.length c1] (0, 0) _ rfl (put4_block HT.out) Tryd.underlying29 rfl (by kernel_rfl)) rfl ?_
  exact ⟨_, rfl, Kd.R_lower (R_put4 HR.out (Nat.lt_succ_self _)) (Nat.le_succ _), put4_below HB.out (Nat.le_refl _)⟩

/-- An empty list. -/
theorem List0_calls (w : World) : Calls Tryd.prog 24 #[.slice none 0 0] w fun e w' => e = .returned (.agg #[.int .i64 3, .string ⟨#[]⟩, .int .i64 0, .slice none 0 0]) ∧ Below w.heap.size w w' := by
  have hu29 := Tryd.underlying29
  have heq := fun W => Lib.run_eql_slice_nil (P := Tryd.prog) W 27 29 none 0 0 0 0 Tryd.underlying27
  have HK : Aside0 (∀ W, Calls Tryd.prog 51 #[.slice none 0 0] W fun e w' => e = .returned (.slice none 0 0) ∧ W = w') := ⟨fun W => by
    go_enter Tryd.func51, Tryd.ntmps51
    go_wp2_with fail
    go_ret
    exact ⟨rfl, rfl⟩⟩
  clear heq
  go_enter Tryd.func24, Tryd.ntmps24
  go_wp2_with fail
  refine (HK.out _).mono ?_
  rintro e w1 ⟨rfl, rfl⟩
  go_wp2_with fail
  refine bodyPost_ret (results_cell_row rfl _ _ w.heap.size 29 #[.int .i64 3, .string (⟨#[]⟩ : ByteArray), .int .i64 0, .slice none 0 0] (0, 0) _ rfl (box_new w _) Tryd.underlying29 rfl (by kernel_rfl)) rfl ?_
  exact ⟨rfl, below_alloc (Below.refl _ _) _⟩
end Go.Proofs.YtimommkbfbdkdaaDoor.P
