/- The laws' example, legatelaw08.works: it comes out true. -/
import Derived.Test.YtlhfekhmfeafbaaDoorPHp
namespace Go.Proofs.YtlhfekhmfeafbaaDoor.P
open Go.RowKit Go.Proofs.YtlhfekhmfeafbaaDoorW.PrintWords Go.Proofs.YtlhfekhmfeafbaaDoorW.PrintLast Go.Proofs.YtlhfekhmfeafbaaDoorW.PrintMore
set_option linter.unusedVariables false
set_option linter.unusedSimpArgs false

/-- A list literal of two terms. -/
theorem lit2 (w : World) {A B : Option Addr} {c d : Nat} {t u : S25} (hl : t.f3.length ≤ c) (hC : Kd.C k25 w A t.f3.length t.f3) (hl2 : u.f3.length ≤ d) (hC2 : Kd.C k25 w B u.f3.length u.f3) :
    IsL (w.alloc (.cells #[.int .i64 t.f0, .string t.f1, .int .i64 t.f2, .slice A t.f3.length c, .int .i64 u.f0, .string u.f1, .int .i64 u.f2, .slice B u.f3.length d] 25)) (.slice (some ⟨w.heap.size, 0, none⟩) 2 2) [t, u] := by
  refine isL_fixed (w0 := w) (base := w.heap.size) (ok := fun _ => True) (l := [t, u]) ⟨fun _ _ => trivial, [.int .i64 t.f0, .string t.f1, .int .i64 t.f2, .slice A t.f3.length c] ++ [.int .i64 u.f0, .string u.f1, .int .i64 u.f2, .slice B u.f3.length d],
    World.ownsRow_lit (base := w.heap.size) (e := 25) (size := 4) w _ 2 (Nat.le_refl _) (by simp [maxLen]) rfl, ?_⟩ (below_alloc (Below.refl _ _) _)
  exact ((Reps.none (k25.K w) 4).snoc (p := t) (k25_mk w t hl hC) rfl).snoc (p := u) (k25_mk w u hl2 hC2) rfl
theorem lits2 (w : World) (a b : ByteArray) : Kd.C Kd.string (w.alloc (.cells #[.string a, .string b] 9)) (some ⟨w.heap.size, 0, none⟩) 2 [a, b] := by
  have h : Kd.R Kd.string 9 (w.alloc (.cells #[.string a, .string b] 9)) w.heap.size (fun _ => True) (.slice (some ⟨w.heap.size, 0, none⟩) 2 2) [a, b] :=
    ⟨fun _ _ => trivial, [.string a] ++ [.string b], World.ownsRow_lit (base := w.heap.size) (e := 9) (size := 1) w _ 2 (Nat.le_refl _) (by simp [maxLen]) rfl, ((Reps.none _ 1).snoc (p := a) (c := [.string a]) rfl rfl).snoc (p := b) (c := [.string b]) rfl rfl⟩
  exact (Kd.R_reads' h).2.2
def exT : S25 := ⟨4, ⟨#[]⟩, 2, [⟨2, ⟨#[97, 110, 110]⟩, 1, []⟩, ⟨3, ⟨#[]⟩, 0, [⟨0, ⟨#[120]⟩, 0, []⟩, ⟨1, ⟨#[]⟩, -3, []⟩]⟩]⟩
theorem exT_text : textB exT = ⟨#[115, 101, 97, 108, 40, 107, 101, 121, 40, 97, 110, 110, 32, 49, 41, 32, 50, 32, 91, 120, 32, 45, 51, 93, 41]⟩ := by decide +kernel
theorem exT_valid : vT exT 0 = true := by decide +kernel
theorem exT_parts : (partsT exT).length = 5 := by decide +kernel
theorem exT_same : oT exT exT = 0 := by decide +kernel

def exS : S25 := ⟨5, ⟨#[]⟩, 3, [⟨2, ⟨#[]⟩, 2, []⟩, ⟨1, ⟨#[]⟩, 0, []⟩]⟩
theorem exS_text : textB exS = ⟨#[115, 117, 109, 40, 107, 101, 121, 40, 32, 50, 41, 32, 51, 32, 48, 41]⟩ := by decide +kernel
theorem exT_nT : nT exT ≤ 1000000000 := by decide +kernel
theorem exS_nT : nT exS ≤ 1000000000 := by decide +kernel
theorem exT_ok : okT exT := by simp [exT, okT, okL, i64]
theorem exS_ok : okT exS := by simp [exS, okT, okL, i64]
theorem exT_Text {w : World} {v : Value} (hL : Laid w) (h : IsT w v exT) : V_ 19 #[v] w (.string ⟨#[115, 101, 97, 108, 40, 107, 101, 121, 40, 97, 110, 110, 32, 49, 41, 32, 50, 32, 91, 120, 32, 45, 51, 93, 41]⟩) := exT_text ▸ Text_V w exT_nT exT_ok hL h
theorem exS_Text {w : World} {v : Value} (hL : Laid w) (h : IsT w v exS) : V_ 19 #[v] w (.string ⟨#[115, 117, 109, 40, 107, 101, 121, 40, 32, 50, 41, 32, 51, 32, 48, 41]⟩) := exS_text ▸ Text_V w exS_nT exS_ok hL h
theorem exT_Valid {w : World} {v : Value} (h : IsT w v exT) : V_ 18 #[v] w (.bool true) := exT_valid ▸ Valid_V w exT_nT h
theorem exT_Size {w : World} {v : Value} (h : IsT w v exT) : V_ 21 #[v] w (.int .i64 5) := by
  have := Size_V w exT_nT h
  rwa [exT_parts] at this
theorem exT_Same {w : World} {v : Value} (h : IsT w v exT) : V_ 41 #[v, v] w (.bool true) := by
  have := Same_V w h h
  rwa [exT_same] at this
theorem exT_Parts {w : World} {v : Value} (h : IsT w v exT) : Calls Tryd.prog 12 #[v] w fun e w' => ∃ A c, e = .returned (.slice A 5 c) ∧ Below w.heap.size w w' := by
  refine (Parts_L w exT_nT h).mono ?_
  rintro e w' ⟨v, rfl, ⟨A, c, rfl, _, _⟩, hb⟩
  rw [exT_parts]
  exact ⟨A, c, rfl, hb⟩
theorem ex_Order {w : World} {v u : Value} (h : IsT w v ⟨1, ⟨#[]⟩, 1, []⟩) (h2 : IsT w u ⟨1, ⟨#[]⟩, 2, []⟩) : V_ 39 #[v, u] w (.int .i64 (-1)) := by
  have := Order_V w h h2
  rwa [show oT ⟨1, ⟨#[]⟩, 1, []⟩ ⟨1, ⟨#[]⟩, 2, []⟩ = -1 from by decide +kernel] at this
theorem ex_Name (w : World) : V_ 23 #[.string ⟨#[97, 45, 49]⟩] w (.bool true) := by
  have := Name_V ⟨#[97, 45, 49]⟩ w (by decide)
  rwa [show nameB ⟨#[97, 45, 49]⟩ = true from by decide +kernel] at this
theorem ex_Names {w : World} {v : Value} (h : IsT w v ⟨3, ⟨#[]⟩, 0, [(⟨#[97]⟩ : ByteArray), ⟨#[98]⟩].map fun s => ⟨0, s, 0, []⟩⟩) : Calls Tryd.prog 15 #[v] w fun e w' => ∃ A c, e = .returned (.tuple #[.slice A 2 c, .bool true]) ∧ Below w.heap.size w w' := by
  refine (Names_V w (by decide) h).mono ?_
  rintro e w' ⟨A, c, rfl, _, _, hb⟩
  exact ⟨A, c, rfl, hb⟩

set_option maxHeartbeats 4000000 in
set_option maxRecDepth 100000 in
theorem works_calls (w : World) (hL : Laid w) : V_ 10 #[] w (.bool true) := by
  have hu25 := Tryd.underlying25
  have hu9 := Tryd.underlying9
  have HL := Aside0.mk hL
  clear hL
  unfold V_
  go_enter Tryd.func10, Tryd.ntmps10
  go_wp2_with fail
  refine (Key_T _ _ _).mono ?_
  rintro e w1 ⟨v1, rfl, h1, b1⟩
  have I1 := Aside0.mk h1
  have B1 := Aside0.mk b1
  clear h1 b1
  go_wp2_with fail
  refine (Of_T _ _).mono ?_
  rintro e w2 ⟨v2, rfl, h2, b2⟩
  have I2 := Aside0.mk h2
  have B2 := Aside0.mk b2
  clear h2 b2
  go_wp2_with fail
  refine (Num_T _ _).mono ?_
  rintro e w3 ⟨v3, rfl, h3, b3⟩
  obtain ⟨A2, c2, rfl, l2, C2⟩ := I2.out.below b3
  obtain ⟨A3, c3, rfl, l3, C3⟩ := h3
  have J4 := Aside0.mk (lit2 w3 l2 C2 l3 C3)
  have B3 := Aside0.mk b3
  clear b3 l2 C2 l3 C3 I2
  go_wp2_with fail
  refine (List_T _ (by decide) J4.out).mono ?_
  rintro e w4 ⟨v4, rfl, h4, b4⟩
  obtain ⟨b4', _, _⟩ := one_box b4
  have I1' := ((I1.out.below B2.out).below B3.out).below b4'
  have BW := Aside0.mk (((B1.out.trans (B2.out.mono B1.out.size)).trans (B3.out.mono (Nat.le_trans B1.out.size B2.out.size))).trans (b4'.mono (Nat.le_trans B1.out.size (Nat.le_trans B2.out.size B3.out.size))))
  have I1 := Aside0.mk I1'
  have I4 := Aside0.mk h4
  clear I1' h4 b4 b4' J4 B1 B2 B3
  go_wp2_with fail
  refine (Seal_T _ _ I1.out I4.out).mono ?_
  rintro e w5 ⟨v5, rfl, h5, b5⟩
  obtain ⟨A, c, rfl, hl5, hC5⟩ := h5
  have BW5 := Aside0.mk (BW.out.trans (b5.mono BW.out.size))
  have I5 := Aside0.mk (show IsT w5 (.agg #[.int .i64 exT.f0, .string exT.f1, .int .i64 exT.f2, .slice A 2 c]) exT from ⟨A, c, rfl, hl5, hC5⟩)
  clear hl5 hC5 b5 BW I1 I4
  go_wp2_with fail
  refine (Row_T (some ⟨w5.heap.size + 1, 0, none⟩) 2 [⟨#[97]⟩, ⟨#[98]⟩] _ (by decide) (by decide) ?hr).mono ?_
  case hr => 
    have := lits2 (w5.alloc (.cells #[.int .i64 4, .string ⟨#[]⟩, .int .i64 2, .slice A 2 c] 25)) ⟨#[97]⟩ ⟨#[98]⟩
    rw [World.size_alloc] at this
    exact this
  rintro e w6 ⟨v6, rfl, h6, b6⟩
  obtain ⟨q1, q2, q3, _⟩ := two_boxes b6
  have HX := Aside0.mk q3
  have BX := Aside0.mk (BW5.out.trans (q1.mono BW5.out.size))
  have TX := Aside0.mk (I5.out.below q1)
  have HLX := Aside0.mk (HL.out.below BX.out)
  have I6 := Aside0.mk h6
  clear q1 q2 q3 b6 h6 BW5 I5
  go_wp2_with fail
  refine (ex_Names I6.out).mono ?_
  rintro e w7 ⟨A7, c7, rfl, b7⟩
  have hx7 := blk_below HX.out b7
  obtain ⟨hc0, hc1, hc2, hc3⟩ := box_cells hx7
  have T7 : Aside0 (IsT w7 (.agg #[.int .i64 exT.f0, .string exT.f1, .int .i64 exT.f2, .slice A 2 c]) exT) := ⟨TX.out.below b7⟩
  have L7 : Aside0 (Laid w7) := ⟨HLX.out.below b7⟩
  have B7 : Aside0 (Below w.heap.size w w7) := ⟨BX.out.trans (b7.mono BX.out.size)⟩
  clear b7 HX TX HLX BX
  have HX := Aside0.mk hx7
  have TX := T7
  have HLX := L7
  have BX := B7
  clear hx7 T7 L7 B7
  clear I6
  go_wp2_with fail
  refine (exT_Text HLX.out TX.out).mono ?_
  rintro e w8 ⟨rfl, b8⟩
  clear hc0 hc1 hc2 hc3
  have hx8 := blk_below HX.out b8
  obtain ⟨hc0, hc1, hc2, hc3⟩ := box_cells hx8
  have T8 : Aside0 (IsT w8 (.agg #[.int .i64 exT.f0, .string exT.f1, .int .i64 exT.f2, .slice A 2 c]) exT) := ⟨TX.out.below b8⟩
  have L8 : Aside0 (Laid w8) := ⟨HLX.out.below b8⟩
  have B8 : Aside0 (Below w.heap.size w w8) := ⟨BX.out.trans (b8.mono BX.out.size)⟩
  clear b8 HX TX HLX BX
  have HX := Aside0.mk hx8
  have TX := T8
  have HLX := L8
  have BX := B8
  clear hx8 T8 L8 B8
  go_wp2_with fail
  refine (exT_Valid TX.out).mono ?_
  rintro e w9 ⟨rfl, b9⟩
  clear hc0 hc1 hc2 hc3
  have hx9 := blk_below HX.out b9
  obtain ⟨hc0, hc1, hc2, hc3⟩ := box_cells hx9
  have T9 : Aside0 (IsT w9 (.agg #[.int .i64 exT.f0, .string exT.f1, .int .i64 exT.f2, .slice A 2 c]) exT) := ⟨TX.out.below b9⟩
  have L9 : Aside0 (Laid w9) := ⟨HLX.out.below b9⟩
  have B9 : Aside0 (Below w.heap.size w w9) := ⟨BX.out.trans (b9.mono BX.out.size)⟩
  clear b9 HX TX HLX BX
  have HX := Aside0.mk hx9
  have TX := T9
  have HLX := L9
  have BX := B9
  clear hx9 T9 L9 B9
  go_wp2_with fail
  refine (exT_Size TX.out).mono ?_
  rintro e w10 ⟨rfl, b10⟩
  clear hc0 hc1 hc2 hc3
  have hx10 := blk_below HX.out b10
  obtain ⟨hc0, hc1, hc2, hc3⟩ := box_cells hx10
  have T10 : Aside0 (IsT w10 (.agg #[.int .i64 exT.f0, .string exT.f1, .int .i64 exT.f2, .slice A 2 c]) exT) := ⟨TX.out.below b10⟩
  have L10 : Aside0 (Laid w10) := ⟨HLX.out.below b10⟩
  have B10 : Aside0 (Below w.heap.size w w10) := ⟨BX.out.trans (b10.mono BX.out.size)⟩
  clear b10 HX TX HLX BX
  have HX := Aside0.mk hx10
  have TX := T10
  have HLX := L10
  have BX := B10
  clear hx10 T10 L10 B10
  go_wp2_with fail
  refine (exT_Same TX.out).mono ?_
  rintro e w11 ⟨rfl, b11⟩
  clear hc0 hc1 hc2 hc3
  have hx11 := blk_below HX.out b11
  obtain ⟨hc0, hc1, hc2, hc3⟩ := box_cells hx11
  have T11 : Aside0 (IsT w11 (.agg #[.int .i64 exT.f0, .string exT.f1, .int .i64 exT.f2, .slice A 2 c]) exT) := ⟨TX.out.below b11⟩
  have L11 : Aside0 (Laid w11) := ⟨HLX.out.below b11⟩
  have B11 : Aside0 (Below w.heap.size w w11) := ⟨BX.out.trans (b11.mono BX.out.size)⟩
  clear b11 HX TX HLX BX
  have HX := Aside0.mk hx11
  have TX := T11
  have HLX := L11
  have BX := B11
  clear hx11 T11 L11 B11
  go_wp2_with fail
  refine (ex_Name _).mono ?_
  rintro e w12 ⟨rfl, b12⟩
  clear hc0 hc1 hc2 hc3
  have hx12 := blk_below HX.out b12
  obtain ⟨hc0, hc1, hc2, hc3⟩ := box_cells hx12
  have T12 : Aside0 (IsT w12 (.agg #[.int .i64 exT.f0, .string exT.f1, .int .i64 exT.f2, .slice A 2 c]) exT) := ⟨TX.out.below b12⟩
  have L12 : Aside0 (Laid w12) := ⟨HLX.out.below b12⟩
  have B12 : Aside0 (Below w.heap.size w w12) := ⟨BX.out.trans (b12.mono BX.out.size)⟩
  clear b12 HX TX HLX BX
  have HX := Aside0.mk hx12
  have TX := T12
  have HLX := L12
  have BX := B12
  clear hx12 T12 L12 B12
  go_wp2_with fail
  refine (Num_T 1 _).mono ?_
  rintro e w13 ⟨v13, rfl, h13, b13⟩
  clear hc0 hc1 hc2 hc3
  have I13 := Aside0.mk h13
  clear h13
  have hx13 := blk_below HX.out b13
  obtain ⟨hc0, hc1, hc2, hc3⟩ := box_cells hx13
  have T13 : Aside0 (IsT w13 (.agg #[.int .i64 exT.f0, .string exT.f1, .int .i64 exT.f2, .slice A 2 c]) exT) := ⟨TX.out.below b13⟩
  have L13 : Aside0 (Laid w13) := ⟨HLX.out.below b13⟩
  have B13 : Aside0 (Below w.heap.size w w13) := ⟨BX.out.trans (b13.mono BX.out.size)⟩
  clear b13 HX TX HLX BX
  have HX := Aside0.mk hx13
  have TX := T13
  have HLX := L13
  have BX := B13
  clear hx13 T13 L13 B13
  go_wp2_with fail
  refine (Num_T 2 _).mono ?_
  rintro e w14 ⟨v14, rfl, h14, b14⟩
  clear hc0 hc1 hc2 hc3
  have I14 := Aside0.mk h14
  have I13' := Aside0.mk (I13.out.below b14)
  clear h14 I13
  have hx14 := blk_below HX.out b14
  obtain ⟨hc0, hc1, hc2, hc3⟩ := box_cells hx14
  have T14 : Aside0 (IsT w14 (.agg #[.int .i64 exT.f0, .string exT.f1, .int .i64 exT.f2, .slice A 2 c]) exT) := ⟨TX.out.below b14⟩
  have L14 : Aside0 (Laid w14) := ⟨HLX.out.below b14⟩
  have B14 : Aside0 (Below w.heap.size w w14) := ⟨BX.out.trans (b14.mono BX.out.size)⟩
  clear b14 HX TX HLX BX
  have HX := Aside0.mk hx14
  have TX := T14
  have HLX := L14
  have BX := B14
  clear hx14 T14 L14 B14
  go_wp2_with fail
  refine (ex_Order I13'.out I14.out).mono ?_
  rintro e w15 ⟨rfl, b15⟩
  clear hc0 hc1 hc2 hc3
  have hx15 := blk_below HX.out b15
  obtain ⟨hc0, hc1, hc2, hc3⟩ := box_cells hx15
  have T15 : Aside0 (IsT w15 (.agg #[.int .i64 exT.f0, .string exT.f1, .int .i64 exT.f2, .slice A 2 c]) exT) := ⟨TX.out.below b15⟩
  have L15 : Aside0 (Laid w15) := ⟨HLX.out.below b15⟩
  have B15 : Aside0 (Below w.heap.size w w15) := ⟨BX.out.trans (b15.mono BX.out.size)⟩
  clear b15 HX TX HLX BX
  have HX := Aside0.mk hx15
  have TX := T15
  have HLX := L15
  have BX := B15
  clear hx15 T15 L15 B15
  go_wp2_with fail
  refine (exT_Parts TX.out).mono ?_
  rintro e w16 ⟨A16, c16, rfl, b16⟩
  clear hc0 hc1 hc2 hc3
  have hx16 := blk_below HX.out b16
  obtain ⟨hc0, hc1, hc2, hc3⟩ := box_cells hx16
  have T16 : Aside0 (IsT w16 (.agg #[.int .i64 exT.f0, .string exT.f1, .int .i64 exT.f2, .slice A 2 c]) exT) := ⟨TX.out.below b16⟩
  have L16 : Aside0 (Laid w16) := ⟨HLX.out.below b16⟩
  have B16 : Aside0 (Below w.heap.size w w16) := ⟨BX.out.trans (b16.mono BX.out.size)⟩
  clear b16 HX TX HLX BX
  have HX := Aside0.mk hx16
  have TX := T16
  have HLX := L16
  have BX := B16
  clear hx16 T16 L16 B16
  go_wp2_with fail
  refine (Key_T ⟨#[]⟩ 2 _).mono ?_
  rintro e w17 ⟨v17, rfl, h17, b17⟩
  clear hc0 hc1 hc2 hc3
  have I17 := Aside0.mk h17
  clear h17
  have hx17 := blk_below HX.out b17
  obtain ⟨hc0, hc1, hc2, hc3⟩ := box_cells hx17
  have T17 : Aside0 (IsT w17 (.agg #[.int .i64 exT.f0, .string exT.f1, .int .i64 exT.f2, .slice A 2 c]) exT) := ⟨TX.out.below b17⟩
  have L17 : Aside0 (Laid w17) := ⟨HLX.out.below b17⟩
  have B17 : Aside0 (Below w.heap.size w w17) := ⟨BX.out.trans (b17.mono BX.out.size)⟩
  clear b17 HX TX HLX BX
  have HX := Aside0.mk hx17
  have TX := T17
  have HLX := L17
  have BX := B17
  clear hx17 T17 L17 B17
  go_wp2_with fail
  refine (Num_T 0 _).mono ?_
  rintro e w18 ⟨v18, rfl, h18, b18⟩
  clear hc0 hc1 hc2 hc3
  have I18 := Aside0.mk h18
  have I17' := Aside0.mk (I17.out.below b18)
  clear h18 I17
  have hx18 := blk_below HX.out b18
  obtain ⟨hc0, hc1, hc2, hc3⟩ := box_cells hx18
  have T18 : Aside0 (IsT w18 (.agg #[.int .i64 exT.f0, .string exT.f1, .int .i64 exT.f2, .slice A 2 c]) exT) := ⟨TX.out.below b18⟩
  have L18 : Aside0 (Laid w18) := ⟨HLX.out.below b18⟩
  have B18 : Aside0 (Below w.heap.size w w18) := ⟨BX.out.trans (b18.mono BX.out.size)⟩
  clear b18 HX TX HLX BX
  have HX := Aside0.mk hx18
  have TX := T18
  have HLX := L18
  have BX := B18
  clear hx18 T18 L18 B18
  go_wp2_with fail
  refine (Sum_T 3 _ I17'.out I18.out).mono ?_
  rintro e w19 ⟨v19, rfl, h19, b19⟩
  clear hc0 hc1 hc2 hc3
  have I19 := Aside0.mk h19
  clear h19
  have hx19 := blk_below HX.out b19
  obtain ⟨hc0, hc1, hc2, hc3⟩ := box_cells hx19
  have T19 : Aside0 (IsT w19 (.agg #[.int .i64 exT.f0, .string exT.f1, .int .i64 exT.f2, .slice A 2 c]) exT) := ⟨TX.out.below b19⟩
  have L19 : Aside0 (Laid w19) := ⟨HLX.out.below b19⟩
  have B19 : Aside0 (Below w.heap.size w w19) := ⟨BX.out.trans (b19.mono BX.out.size)⟩
  clear b19 HX TX HLX BX
  have HX := Aside0.mk hx19
  have TX := T19
  have HLX := L19
  have BX := B19
  clear hx19 T19 L19 B19
  go_wp2_with fail
  refine (exS_Text HLX.out I19.out).mono ?_
  rintro e w20 ⟨rfl, b20⟩
  clear hc0 hc1 hc2 hc3
  have hx20 := blk_below HX.out b20
  obtain ⟨hc0, hc1, hc2, hc3⟩ := box_cells hx20
  have T20 : Aside0 (IsT w20 (.agg #[.int .i64 exT.f0, .string exT.f1, .int .i64 exT.f2, .slice A 2 c]) exT) := ⟨TX.out.below b20⟩
  have L20 : Aside0 (Laid w20) := ⟨HLX.out.below b20⟩
  have B20 : Aside0 (Below w.heap.size w w20) := ⟨BX.out.trans (b20.mono BX.out.size)⟩
  clear b20 HX TX HLX BX
  have HX := Aside0.mk hx20
  have TX := T20
  have HLX := L20
  have BX := B20
  clear hx20 T20 L20 B20
  go_wp2_with fail
  go_ret
  exact ⟨rfl, BX.out⟩
end Go.Proofs.YtlhfekhmfeafbaaDoor.P
