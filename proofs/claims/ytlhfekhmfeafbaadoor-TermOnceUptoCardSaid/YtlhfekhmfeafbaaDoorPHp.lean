/- One form of contract for all functions of the layer that take or make a term: a value that reads as the term. -/
import Derived.Test.YtlhfekhmfeafbaaDoorPHo
import Derived.Test.YtlhfekhmfeafbaaDoorPHj
import Derived.Test.YtlhfekhmfeafbaaDoorPHf
import Derived.Test.YtlhfekhmfeafbaaDoorPHh
namespace Go.Proofs.YtlhfekhmfeafbaaDoor.P
open Go.RowKit Go.Proofs.YtlhfekhmfeafbaaDoorW.PrintWords Go.Proofs.YtlhfekhmfeafbaaDoorW.PrintLast Go.Proofs.YtlhfekhmfeafbaaDoorW.PrintMore
set_option linter.unusedVariables false

theorem heap25 : Kd.Heap k25 := Kd.heap_fix (fun _ hd => Kd.heap_iso _ (Kd.heap_pair (Kd.heap_int _) (Kd.heap_pair Kd.heap_string (Kd.heap_pair (Kd.heap_int _) (Kd.heap_slice 25 hd)))))

/-- A value that reads as the term t. -/
def IsT (w : World) (v : Value) (t : S25) : Prop := ∃ A c, v = .agg #[.int .i64 t.f0, .string t.f1, .int .i64 t.f2, .slice A t.f3.length c] ∧ t.f3.length ≤ c ∧ Kd.C k25 w A t.f3.length t.f3
/-- A list of terms. -/
def IsL (w : World) (v : Value) (l : List S25) : Prop := ∃ A c, v = .slice A l.length c ∧ l.length ≤ c ∧ Kd.C k25 w A l.length l
theorem IsT.below {w w' : World} {v : Value} {t : S25} (h : IsT w v t) (hb : Below w.heap.size w w') : IsT w' v t := by
  obtain ⟨A, c, rfl, hl, hC⟩ := h; exact ⟨A, c, rfl, hl, Kd.C_below hC hb⟩
theorem IsL.below {w w' : World} {v : Value} {l : List S25} (h : IsL w v l) (hb : Below w.heap.size w w') : IsL w' v l := by
  obtain ⟨A, c, rfl, hl, hC⟩ := h; exact ⟨A, c, rfl, hl, Kd.C_below hC hb⟩
theorem IsT.mk {w : World} {k : Int} {s : ByteArray} {n : Int} {l : List S25} {v : Value} (h : IsL w v l) : IsT w (.agg #[.int .i64 k, .string s, .int .i64 n, v]) ⟨k, s, n, l⟩ := by
  obtain ⟨A, c, rfl, hl, hC⟩ := h; exact ⟨A, c, rfl, hl, hC⟩
theorem isL_R {w : World} {base : Nat} {ok : Nat → Prop} {v : Value} {l : List S25} (h : Kd.R k25 25 w base ok v l) : IsL w v l := Kd.R_reads h
theorem isL_N {w : World} {base : Nat} {ok : Nat → Prop} {v : Value} {l : List S25} (h : Kd.N k25 25 w base ok v l) : IsL w v l := Kd.N_reads h
theorem isL_fixed {w0 w : World} {base : Nat} {ok : Nat → Prop} {v : Value} {l : List S25} (h : Kd.R (Kd.fixed k25 w0) 25 w base ok v l) (hb : Below w0.heap.size w0 w) : IsL w v l := by
  obtain ⟨A, c, rfl, hl, hC⟩ := Kd.R_reads h; exact ⟨A, c, rfl, hl, fixed_C hC hb⟩
theorem isL_nil (w : World) : IsL w (.slice none 0 0) [] := ⟨none, 0, rfl, Nat.le_refl _, Kd.C_nil _ _⟩

def T_ (f : Nat) (args : Array Value) (w : World) (t : S25) : Prop := Calls Tryd.prog f args w fun e w' => ∃ v, e = .returned v ∧ IsT w' v t ∧ Below w.heap.size w w'
def V_ (f : Nat) (args : Array Value) (w : World) (v : Value) : Prop := Calls Tryd.prog f args w fun e w' => e = .returned v ∧ Below w.heap.size w w'
def L_ (f : Nat) (args : Array Value) (w : World) (l : List S25) : Prop := Calls Tryd.prog f args w fun e w' => ∃ v, e = .returned v ∧ IsL w' v l ∧ Below w.heap.size w w'

theorem Key_T (s : ByteArray) (n : Int) (w : World) : T_ 26 #[.string s, .int .i64 n] w ⟨2, s, n, []⟩ :=
  (term_Key.calls s n _ _ _ _ w rfl).mono fun _ _ ⟨v, he, hR, hb⟩ => ⟨_, he, .mk (isL_R hR), hb⟩
theorem Of_T (s : ByteArray) (w : World) : T_ 27 #[.string s] w ⟨0, s, 0, []⟩ :=
  (term_Of.calls s _ _ _ _ w rfl).mono fun _ _ ⟨v, he, hR, hb⟩ => ⟨_, he, .mk (isL_R hR), hb⟩
theorem Num_T (n : Int) (w : World) : T_ 29 #[.int .i64 n] w ⟨1, ⟨#[]⟩, n, []⟩ :=
  (term_Num.calls n _ _ _ _ w rfl).mono fun _ _ ⟨v, he, hR, hb⟩ => ⟨_, he, .mk (isL_R hR), hb⟩
theorem Seal_T {v1 v2 : Value} {t u : S25} (n : Int) (w : World) (h1 : IsT w v1 t) (h2 : IsT w v2 u) : T_ 35 #[v1, .int .i64 n, v2] w ⟨4, ⟨#[]⟩, n, [t, u]⟩ := by
  obtain ⟨A, c, rfl, hl, hC⟩ := h1
  obtain ⟨B, d, rfl, hl2, hC2⟩ := h2
  cases t; cases u
  exact (term_Seal.calls _ _ _ (fun k => k < w.heap.size) A c _ n _ _ _ (fun k => k < w.heap.size) B d _ _ _ _ _ w (Kd.V_mk hl (Kd.C_F heap25 hC)) (Kd.V_mk hl2 (Kd.C_F heap25 hC2)) rfl).mono fun _ _ ⟨v, he, hR, hb⟩ => ⟨_, he, .mk (isL_N hR), hb⟩
theorem Sum_T {v1 v2 : Value} {t u : S25} (n : Int) (w : World) (h1 : IsT w v1 t) (h2 : IsT w v2 u) : T_ 37 #[v1, .int .i64 n, v2] w ⟨5, ⟨#[]⟩, n, [t, u]⟩ := by
  obtain ⟨A, c, rfl, hl, hC⟩ := h1
  obtain ⟨B, d, rfl, hl2, hC2⟩ := h2
  cases t; cases u
  exact (term_Sum.calls _ _ _ (fun k => k < w.heap.size) A c _ n _ _ _ (fun k => k < w.heap.size) B d _ _ _ _ _ w (Kd.V_mk hl (Kd.C_F heap25 hC)) (Kd.V_mk hl2 (Kd.C_F heap25 hC2)) rfl).mono fun _ _ ⟨v, he, hR, hb⟩ => ⟨_, he, .mk (isL_N hR), hb⟩
theorem List_T {v : Value} {l : List S25} (w : World) (hn : l.length ≤ 1000000000) (h : IsL w v l) : T_ 32 #[v] w ⟨3, ⟨#[]⟩, 0, l⟩ := by
  obtain ⟨A, c, rfl, hl, hC⟩ := h
  exact (List_calls A c l w w hn hC (Below.refl _ _)).mono fun _ _ ⟨v, he, hR, hb⟩ => ⟨_, he, .mk (isL_fixed hR hb), hb⟩
theorem Row_T (A : Option Addr) (c : Nat) (l : List ByteArray) (w : World) (hn : l.length ≤ 1000000000) (hl : l.length ≤ c) (hC : Kd.C Kd.string w A l.length l) : T_ 33 #[.slice A l.length c] w ⟨3, ⟨#[]⟩, 0, l.map fun s => ⟨0, s, 0, []⟩⟩ :=
  (term_Row_calls A c l w hn hl hC).mono fun _ _ ⟨v, he, hR, hb⟩ => ⟨_, he, .mk (isL_R hR), hb⟩
theorem Names_V {v : Value} {t : S25} (w : World) (hn : t.f3.length ≤ 1000000000) (h : IsT w v t) : Calls Tryd.prog 15 #[v] w fun e w' => ∃ A c, e = .returned (.tuple #[.slice A (namesOf t).length c, .bool (isRow t)]) ∧ (namesOf t).length ≤ c ∧ Kd.C Kd.string w' A (namesOf t).length (namesOf t) ∧ Below w.heap.size w w' := by
  obtain ⟨A, c, rfl, hl, hC⟩ := h
  refine (term_Names_calls t A c w hn hl hC).mono ?_
  rintro e w' ⟨v, rfl, hR, hb⟩
  obtain ⟨B, d, rfl, hl2, hC2⟩ := Kd.R_reads hR
  exact ⟨B, d, rfl, hl2, hC2, hb⟩
theorem Text_V {v : Value} {t : S25} (w : World) (hn : nT t ≤ 1000000000) (hok : okT t) (hL : Laid w) (h : IsT w v t) : V_ 19 #[v] w (.string (textB t)) := by
  obtain ⟨A, c, rfl, hl, hC⟩ := h
  exact term_Text_calls _ t A c w (Nat.le_refl _) hn hok hL hl hC
theorem Valid_V {v : Value} {t : S25} (w : World) (hn : nT t ≤ 1000000000) (h : IsT w v t) : V_ 18 #[v] w (.bool (vT t 0)) := by
  obtain ⟨A, c, rfl, hl, hC⟩ := h
  exact term_Valid_calls t A c w (by omega) hl hC
theorem Size_V {v : Value} {t : S25} (w : World) (hn : nT t ≤ 1000000000) (h : IsT w v t) : V_ 21 #[v] w (.int .i64 (partsT t).length) := by
  obtain ⟨A, c, rfl, hl, hC⟩ := h
  exact Size_calls t A c w (by omega) hl hC
theorem Order_V {v u : Value} {t s : S25} (w : World) (h : IsT w v t) (h2 : IsT w u s) : V_ 39 #[v, u] w (.int .i64 (oT t s)) := by
  obtain ⟨A, c, rfl, hl, hC⟩ := h
  obtain ⟨B, d, rfl, hl2, hC2⟩ := h2
  exact term_Order_calls _ t s A c B d w (Nat.le_refl _) hl hC hl2 hC2
theorem Same_V {v u : Value} {t s : S25} (w : World) (h : IsT w v t) (h2 : IsT w u s) : V_ 41 #[v, u] w (.bool (oT t s == 0)) := by
  obtain ⟨A, c, rfl, hl, hC⟩ := h
  obtain ⟨B, d, rfl, hl2, hC2⟩ := h2
  exact term_Same_calls t s A c B d w hl hC hl2 hC2
theorem Name_V (s : ByteArray) (w : World) (hs : s.size ≤ 9223372036854775806) : V_ 23 #[.string s] w (.bool (nameB s)) :=
  (term_Name_calls s w hs).mono fun _ _ ⟨he, hw⟩ => ⟨he, by subst hw; exact Below.refl _ _⟩
theorem Parts_L {v : Value} {t : S25} (w : World) (hn : nT t ≤ 1000000000) (h : IsT w v t) : L_ 12 #[v] w (partsT t) := by
  obtain ⟨A, c, rfl, hl, hC⟩ := h
  exact (Parts_calls t A c w hn hl hC).mono fun _ _ ⟨v, he, hR, hb⟩ => ⟨_, he, isL_fixed hR hb, hb⟩
end Go.Proofs.YtlhfekhmfeafbaaDoor.P
