/- The law TermNames comes out true. -/
import Derived.Test.YtlhfekhmfeafbaaDoorPHq
import Derived.Test.YtlhfekhmfeafbaaDoorPHs
namespace Go.Proofs.YtlhfekhmfeafbaaDoor.P
open Go.RowKit Go.Proofs.YtlhfekhmfeafbaaDoorW.PrintWords Go.Proofs.YtlhfekhmfeafbaaDoorW.PrintLast Go.Proofs.YtlhfekhmfeafbaaDoorW.PrintMore
set_option linter.unusedVariables false
set_option linter.unusedSimpArgs false

def rowOf (l : List ByteArray) : List S25 := l.map fun s => ⟨0, s, 0, []⟩
theorem rowOf_row (l : List ByteArray) : isRow ⟨3, ⟨#[]⟩, 0, rowOf l⟩ = true := by simp [isRow, rowOf]
theorem rowOf_names (l : List ByteArray) : namesOf ⟨3, ⟨#[]⟩, 0, rowOf l⟩ = l := by
  rw [namesOf_yes (rowOf_row l)]; simp [rowOf, Function.comp_def]
theorem rowOf_more (l : List ByteArray) (t : S25) : isRow ⟨3, ⟨#[]⟩, 0, rowOf l ++ [t]⟩ = (t.f0 == 0) := by
  simp only [isRow, rowOf, List.any_append, List.any_map, List.any_cons, List.any_nil, Bool.or_false]
  rw [show (List.any l ((fun x : S25 => x.f0 != 0) ∘ fun s => (⟨0, s, 0, []⟩ : S25))) = false from by simp]
  simp only [Bool.false_or, bne, Bool.not_not]
  simp
theorem nL_rowOf (l : List ByteArray) : (rowOf l).length = l.length := by simp [rowOf]
/-- A row made by the program, its elements told of an elder world. -/
theorem row_fixed (w0 : World) {w : World} {base : Nat} {ok : Nat → Prop} {v : Value} (l : List ByteArray) (h : Kd.R k25 25 w base ok v (rowOf l)) : Kd.R (Kd.fixed k25 w0) 25 w base ok v (rowOf l) := by
  obtain ⟨h0, inner, ho, hr⟩ := h
  refine ⟨h0, inner, ho, hr.1, fun j p hj => ?_⟩
  have hM := hr.2 j p hj
  have hp : ∃ s, p = ⟨0, s, 0, []⟩ := by
    simp only [rowOf, List.getElem?_map, Option.map_eq_some_iff] at hj
    obtain ⟨s, _, rfl⟩ := hj
    exact ⟨s, rfl⟩
  obtain ⟨s, rfl⟩ := hp
  obtain ⟨v3, e, hR3⟩ := k25_openM hM
  obtain ⟨A3, c3, rfl⟩ := Kd.R_slice hR3
  change k25.K w0 _ (List.take k25.sz (List.drop (j * k25.sz) inner))
  rw [e]
  exact k25_mk w0 ⟨0, s, 0, []⟩ (Nat.zero_le _) ⟨rfl, by simp, fun h => absurd h (Nat.lt_irrefl 0)⟩

theorem strs_at {w : World} {A : Option Addr} {n : Nat} {l : List ByteArray} (h : Kd.C Kd.string w A n l) (k : Nat) (hk : k < n) : ∃ ad, A = some ad ∧ w.cell? (ad.add k) = some (.string l[k]!) := by
  obtain ⟨h1, _, h3⟩ := h
  obtain ⟨ad, e, hc⟩ := h3 (by omega)
  obtain ⟨c, hl, hK, hcell⟩ := hc k l[k]! (by rw [List.getElem?_eq_getElem (by omega), getElem!_pos l k (by omega)])
  have hK' : c = [.string l[k]!] := hK
  subst hK'
  have := hcell 0 _ rfl
  exact ⟨ad, e, by simpa [Kd.string, Kd.scalar] using this⟩

set_option maxHeartbeats 4000000 in
set_option maxRecDepth 100000 in
theorem TermNames_calls (A0 : Option Addr) (l : List ByteArray) (c0 : Nat) (t : S25) (A : Option Addr) (c : Nat) (w : World) (hL : Laid w) (hl0 : l.length ≤ c0) (hC0 : Kd.C Kd.string w A0 l.length l) (hln : l.length ≤ 1000000000) (hn : nT t ≤ 1000000000)
    (hT : IsT w (.agg #[.int .i64 t.f0, .string t.f1, .int .i64 t.f2, .slice A t.f3.length c]) t) :
    V_ 9 #[.slice A0 l.length c0, .agg #[.int .i64 t.f0, .string t.f1, .int .i64 t.f2, .slice A t.f3.length c]] w (.bool true) := by
  have hu25 := Tryd.underlying25
  have HL := Aside0.mk hL
  have HT := Aside0.mk hT
  have HC := Aside0.mk hC0
  clear hL hT hC0
  unfold V_
  have HW : Aside0 (∀ W, Below w.heap.size w W → V_ 10 #[] W (.bool true)) := ⟨fun W hW => works_calls W (HL.out.below hW)⟩
  go_enter Tryd.func9, Tryd.ntmps9
  go_wp2_with fail
  refine (HW.out _ (below_alloc (Below.refl _ _) _)).mono ?_
  clear HW
  rintro e w1 ⟨rfl, b1⟩
  obtain ⟨p1, q1, r1⟩ := one_box b1
  have B1 := Aside0.mk p1
  have X1 := Aside0.mk r1
  have T1 := Aside0.mk (HT.out.below p1)
  obtain ⟨hc0, hc1, hc2, hc3⟩ := box_cells r1
  clear b1 p1 r1
  by_cases hlong : (l.length : Int) > 200
  · have hd : decide ((l.length : Int) > 200) = true := decide_eq_true hlong
    have hd2 : 200 < l.length := by omega
    go_wp2_with fail
    go_ret
    exact ⟨rfl, B1.out⟩
  · have hd : decide ((l.length : Int) > 200) = false := decide_eq_false hlong
    have hd2 : ¬ 200 < l.length := by omega
    go_wp2_with fail
    refine (Large_V _ 200 hn T1.out).mono ?_
    rintro e w2 ⟨rfl, b2⟩
    have B2 := Aside0.mk (B1.out.trans (b2.mono B1.out.size))
    have X2 := Aside0.mk (blk_below X1.out b2)
    have T2 := Aside0.mk (T1.out.below b2)
    clear hc0 hc1 hc2 hc3 b2 B1 X1 T1
    obtain ⟨hc0, hc1, hc2, hc3⟩ := box_cells X2.out
    obtain ⟨L1, hL1⟩ : ∃ b, b = decide (((partsT t).length : Int) > 200) := ⟨_, rfl⟩
    rw [← hL1]
    clear hL1
    cases L1 with
    | true =>
      go_wp2_with fail
      go_ret
      exact ⟨rfl, B2.out⟩
    | false =>
    go_wp2_with fail
    refine (Row_T A0 c0 l _ hln hl0 (Kd.C_below HC.out B2.out)).mono ?_
    rintro e w3 ⟨v3, rfl, i3, b3⟩
    have B3 := Aside0.mk (B2.out.trans (b3.mono B2.out.size))
    have X3 := Aside0.mk (blk_below X2.out b3)
    have T3 := Aside0.mk (T2.out.below b3)
    clear hc0 hc1 hc2 hc3 b3 B2 X2 T2
    obtain ⟨hc0, hc1, hc2, hc3⟩ := box_cells X3.out
    go_wp2_with fail
    refine (Names_V _ (by show (rowOf l).length ≤ _; rw [nL_rowOf]; exact hln) i3).mono ?_
    rw [show (⟨3, ⟨#[]⟩, 0, l.map fun s => ⟨0, s, 0, []⟩⟩ : S25) = ⟨3, ⟨#[]⟩, 0, rowOf l⟩ from rfl, rowOf_names, rowOf_row]
    rintro e w4 ⟨A4, c4, rfl, hl4, C4, b4⟩
    have B4 := Aside0.mk (B3.out.trans (b4.mono B3.out.size))
    have X4 := Aside0.mk (blk_below X3.out b4)
    have T4 := Aside0.mk (T3.out.below b4)
    have C4' := Aside0.mk C4
    clear hc0 hc1 hc2 hc3 b4 B3 X3 T3 i3 C4
    obtain ⟨hc0, hc1, hc2, hc3⟩ := box_cells X4.out
    have qn : ((l.length : Int) != l.length) = false := by simp
    go_wp2_with fail
    go_loopg [8] l.length (fun gg i wr => ∃ kk : Nat, kk ≤ l.length ∧ l.length - kk ≤ gg ∧ i = .int .i64 kk ∧ Aside0 (Below w4.heap.size w4 wr))
    case atStart => exact ⟨0, Nat.zero_le _, by omega, rfl, ⟨Below.refl _ _⟩⟩
    case round =>
      obtain ⟨kk, hkk, hg, rfl, BW⟩ := hrel
      clear hc0 hc1 hc2 hc3
      by_cases hlt : kk < l.length
      · obtain ⟨ad, e1, k1⟩ := strs_at (Kd.C_below HC.out (B4.out.trans (BW.out.mono B4.out.size))) kk hlt
        obtain ⟨ad2, e2, k2⟩ := strs_at (Kd.C_below C4'.out BW.out) kk hlt
        cases e1
        cases e2
        generalize l[kk]! = s at k1 k2
        have hin : (kk : Int) < l.length := by omega
        have hN2 : l.length ≤ 200 := by omega
        go_wp2_with fail
        go_region_held3 (fun w' => w'.cell? (ad.add kk) = some (.string s) ∧ w'.cell? (ad2.add kk) = some (.string s))
          (first | (go_keep; done) | (go_split_ands; refine ⟨?_, ?_⟩ <;> assumption)) (fail)
        go_wp2_with fail
        go_roundg (l.length - (kk + 1))
        case measure => omega
        case rel => exact ⟨kk + 1, by omega, by omega, by go_num, ⟨below_drew BW.out⟩⟩
      · obtain rfl : kk = l.length := by omega
        have BR := Aside0.mk (B4.out.trans (BW.out.mono B4.out.size))
        have XR := Aside0.mk (blk_below X4.out BW.out)
        have TR := Aside0.mk (T4.out.below BW.out)
        clear B4 X4 T4 BW C4'
        go_wp2_with fail
        refine (term_Row_calls A0 c0 l _ hln hl0 (Kd.C_below HC.out BR.out)).mono ?_
        rintro e w5 ⟨v5, rfl, hR5, b5⟩
        obtain ⟨A5, c5, rfl⟩ := Kd.R_slice hR5
        rw [show (l.map fun s => (⟨0, s, 0, []⟩ : S25)) = rowOf l from rfl] at hR5
        rw [show (l.map fun s => (⟨0, s, 0, []⟩ : S25)).length = l.length from by simp]
        rw [nL_rowOf] at hR5
        have R5 : Aside0 (Kd.R (Kd.fixed k25 wr) 25 w5 wr.heap.size (fun k => k ≠ w5.heap.size) (.slice A5 l.length c5) (rowOf l)) := ⟨Kd.R_mono (Kd.R_bound (row_fixed wr l hR5)) (fun k hk => by have := hk.2.2.1; omega)⟩
        have B5 := Aside0.mk b5
        have X5 := Aside0.mk (blk_below XR.out b5)
        obtain ⟨At, ct, et, hlt', hCt⟩ := TR.out
        have TK : Aside0 (k25.K wr t [.int .i64 t.f0, .string t.f1, .int .i64 t.f2, .slice A t.f3.length c]) := ⟨by
          simp only [Value.agg.injEq, Array.mk.injEq, List.cons.injEq, Value.slice.injEq, and_true, true_and] at et
          obtain ⟨rfl, rfl⟩ := et
          exact k25_mk wr t hlt' hCt⟩
        clear hR5 b5 et hlt' hCt
        obtain ⟨hc0, hc1, hc2, hc3⟩ := box_cells (blk_alloc X5.out (.cells #[.int .i64 3, .string ⟨#[]⟩, .int .i64 0, .slice A5 l.length c5] 25 (0, 0)))
        go_wp2_with (at_builtin; refine Kd.R_append (Kd.fixed k25 wr) (w0 := wr) wr.heap.size rfl (.tmp 56) (.tmp 58) 23 25 (.agg #[(.int .i64 0), (.string ⟨#[]⟩), (.int .i64 0), (.slice none 0 0)]) 56 rfl Tryd.underlying23 info25 rfl (show 0 < 4 from by decide) (by decide) (.slice A5 l.length c5) (rowOf l) t [.int .i64 t.f0, .string t.f1, .int .i64 t.f2, .slice A t.f3.length c] (fun k => k ≠ w5.heap.size) (fun _ => False) rfl ?hx TK.out (fun _ hk => hk.elim) ?hfr ?HO ?HB ?hbs ?hl ?_; (case hx => rw [World.size_alloc]; rfl); (case hfr => intro k hk; rw [World.size_alloc] at hk; omega); (case HO => exact Kd.R_alloc R5.out _); (case HB => exact below_alloc (B5.out) _); (case hbs => rw [World.size_alloc]; have := B5.out.size; omega); (case hl => rw [nL_rowOf]; omega); intro v1 w6 ho hb hg hat; have HO := Aside0.mk ho; have HB6 := Aside0.mk hb; have HG6 := Aside0.mk hg; clear ho hb hg hat; obtain ⟨A6, c6, rfl⟩ := Kd.R_slice HO.out; have hb9 : w6.heap[w5.heap.size]? = some (.cells #[.int .i64 3, .string ⟨#[]⟩, .int .i64 0, .slice A5 l.length c5] 25 (0, 0)) := (HG6.out.block _ (by rw [World.size_alloc]; omega) (fun e => R5.out.1 _ e.symm rfl)).trans (box_new w5 _); have H9 := Aside0.mk hb9; have hd0 := (blk_cell hb9 0).trans rfl; have hd1 := (blk_cell hb9 1).trans rfl; have hd2' := (blk_cell hb9 2).trans rfl; have hd3 := (blk_cell hb9 3).trans rfl; have hdf := blk_frozen hb9 3; clear hb9)
        have hwr : w.heap.size < wr.heap.size := blk_lt XR.out
        have hX6 : w6.heap[w.heap.size]? = some (.cells #[.int .i64 t.f0, .string t.f1, .int .i64 t.f2, .slice A t.f3.length c] 25 (0, 0)) :=
          (HG6.out.block _ (by rw [World.size_alloc]; have := B5.out.size; omega) (fun e => by have := ((Kd.R_bound R5.out).1 _ e.symm).2.1; omega)).trans (blk_alloc X5.out _)
        obtain ⟨W7, hW7⟩ : ∃ W7, w6.setCell ⟨w5.heap.size, 3, none⟩ (.slice A6 ((rowOf l).length + 1) c6) = W7 := ⟨_, rfl⟩
        have hlen : (rowOf l ++ [t]).length = (rowOf l).length + 1 := by simp
        have B7 : Below wr.heap.size wr W7 := by rw [← hW7]; exact HB6.out.setCell (p := ⟨w5.heap.size, 3, none⟩) (by have := B5.out.size; exact this) _
        have hX7 : W7.heap[w.heap.size]? = some (.cells #[.int .i64 t.f0, .string t.f1, .int .i64 t.f2, .slice A t.f3.length c] 25 (0, 0)) := by
          rw [← hW7]; exact (Below.heap_setCell w6 ⟨w5.heap.size, 3, none⟩ _ _ (by show w.heap.size ≠ w5.heap.size; have := B5.out.size; omega)).trans hX6
        have I7 : IsT W7 (.agg #[.int .i64 3, .string ⟨#[]⟩, .int .i64 0, .slice A6 ((rowOf l).length + 1) c6]) ⟨3, ⟨#[]⟩, 0, rowOf l ++ [t]⟩ := by
          refine IsT.mk (isL_fixed (w0 := wr) (base := wr.heap.size) (ok := fun k => k ≠ w5.heap.size) ?_ B7)
          rw [← hlen, ← hW7]
          exact Kd.R_step HO.out (fun k hk _ => Below.heap_setCell w6 ⟨w5.heap.size, 3, none⟩ _ _ hk)
        rw [hW7]
        have HB7 := Aside0.mk (BR.out.trans (B7.mono (Nat.le_of_lt (Nat.lt_of_le_of_lt (Nat.le_refl _) hwr))))
        have HX7 := Aside0.mk hX7
        clear hX6 hW7 hlen hX7 B7 hc0 hc1 hc2 hc3 hd0 hd1 hd2' hd3 hdf H9 HO HB6 HG6 R5 TK
        refine (Names_V _ (by show (rowOf l ++ [t]).length ≤ _; rw [List.length_append, nL_rowOf]; simp; omega) I7).mono ?_
        clear I7
        rintro e w8 ⟨A8, c8, rfl, hl8, C8, b8⟩
        have B8 := Aside0.mk (HB7.out.trans (b8.mono HB7.out.size))
        obtain ⟨hc0, hc1, hc2, hc3⟩ := box_cells (blk_below HX7.out b8)
        clear hl8 C8 b8
        by_cases hk0 : t.f0 = 0
        · have hr : isRow ⟨3, ⟨#[]⟩, 0, rowOf l ++ [t]⟩ = true := by rw [rowOf_more, hk0]; rfl
          have q0 : (t.f0 == 0) = true := by rw [hk0]; rfl
          rw [hr]
          clear hr
          go_wp2_with fail
          go_ret
          exact ⟨rfl, B8.out⟩
        · have q0 : (t.f0 == 0) = false := beq_eq_false_iff_ne.2 hk0
          have hr : isRow ⟨3, ⟨#[]⟩, 0, rowOf l ++ [t]⟩ = false := by rw [rowOf_more, q0]
          rw [namesOf_no hr, hr]
          clear hr
          go_wp2_with fail
          go_ret
          exact ⟨rfl, B8.out⟩
end Go.Proofs.YtlhfekhmfeafbaaDoor.P
