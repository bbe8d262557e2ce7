/- The Go function term.Same answers just as the plain order. One form of contract for all functions of the layer that take or make a term: a value that reads as the term. -/
import Derived.Test.YtimommkbfbdkdaaDoorPHe
import Derived.Test.YtimommkbfbdkdaaDoorPHj
import Derived.Test.YtimommkbfbdkdaaDoorPHh
namespace Go.Proofs.YtimommkbfbdkdaaDoor.P
open Go.RowKit Go.Proofs.YtimommkbfbdkdaaDoorW.PrintWords Go.Proofs.YtimommkbfbdkdaaDoorW.PrintLast Go.Proofs.YtimommkbfbdkdaaDoorW.PrintMore

set_option maxRecDepth 100000 in
theorem term_Same_calls (t u : S29) (A : Option Addr) (c : Nat) (B : Option Addr) (d : Nat) (w : World) (hl : t.f3.length ≤ c) (hC : Kd.C k29 w A t.f3.length t.f3) (hl2 : u.f3.length ≤ d) (hD : Kd.C k29 w B u.f3.length u.f3) :
    Calls Tryd.prog 22 #[.agg #[.int .i64 t.f0, .string t.f1, .int .i64 t.f2, .slice A t.f3.length c], .agg #[.int .i64 u.f0, .string u.f1, .int .i64 u.f2, .slice B u.f3.length d]] w
      fun e w' => e = .returned (.bool (oT t u == 0)) ∧ Below w.heap.size w w' := by
  have hu29 := Tryd.underlying29
  have HK := Aside0.mk (fun (w1 : World) h1 h2 => term_Order_calls (nT t) t u A c B d w1 (Nat.le_refl _) hl h1 hl2 h2)
  have HC := Aside0.mk hC
  have HD := Aside0.mk hD
  clear hC hD
  go_enter Tryd.func22, Tryd.ntmps22
  go_wp2_with fail
  refine (HK.out _ (Kd.C_below HC.out (below_alloc (below_alloc (Below.refl _ _) _) _)) (Kd.C_below HD.out (below_alloc (below_alloc (Below.refl _ _) _) _))).mono ?_
  rintro e w1 ⟨rfl, hb⟩
  obtain ⟨hb0, _, _, _⟩ := two_boxes hb
  clear hb
  go_wp2_with fail
  go_ret
  exact ⟨rfl, hb0⟩

end Go.Proofs.YtimommkbfbdkdaaDoor.P
namespace Go.Proofs.YtimommkbfbdkdaaDoor.P
open Go.RowKit Go.Proofs.YtimommkbfbdkdaaDoorW.PrintWords Go.Proofs.YtimommkbfbdkdaaDoorW.PrintLast Go.Proofs.YtimommkbfbdkdaaDoorW.PrintMore
set_option linter.unusedVariables false

theorem heap29 : Kd.Heap k29 := Kd.heap_fix (fun _ hd => Kd.heap_iso _ (Kd.heap_pair (Kd.heap_int _) (Kd.heap_pair Kd.heap_string (Kd.heap_pair (Kd.heap_int _) (Kd.heap_slice 29 hd)))))

/-- A value that reads as the term t. -/
def IsT (w : World) (v : Value) (t : S29) : Prop := ∃ A c, v = .agg #[.int .i64 t.f0, .string t.f1, .int .i64 t.f2, .slice A t.f3.length c] ∧ t.f3.length ≤ c ∧ Kd.C k29 w A t.f3.length t.f3
/-- A list of terms. -/
def IsL (w : World) (v : Value) (l : List S29) : Prop := ∃ A c, v = .slice A l.length c ∧ l.length ≤ c ∧ Kd.C k29 w A l.length l
theorem IsT.below {w w' : World} {v : Value} {t : S29} (h : IsT w v t) (hb : Below w.heap.size w w') : IsT w' v t := by
  obtain ⟨A, c, rfl, hl, hC⟩ := h; exact ⟨A, c, rfl, hl, Kd.C_below hC hb⟩
theorem IsL.below {w w' : World} {v : Value} {l : List S29} (h : IsL w v l) (hb : Below w.heap.size w w') : IsL w' v l := by
  obtain ⟨A, c, rfl, hl, hC⟩ := h; exact ⟨A, c, rfl, hl, Kd.C_below hC hb⟩
theorem IsT.mk {w : World} {k : Int} {s : ByteArray} {n : Int} {l : List S29} {v : Value} (h : IsL w v l) : IsT w (.agg #[.int .i64 k, .string s, .int .i64 n, v]) ⟨k, s, n, l⟩ := by
  obtain ⟨A, c, rfl, hl, hC⟩ := h; exact ⟨A, c, rfl, hl, hC⟩
theorem isL_R {w : World} {base : Nat} {ok : Nat → Prop} {v : Value} {l : List S29} (h : Kd.R k29 29 w base ok v l) : IsL w v l := Kd.R_reads h
theorem isL_N {w : World} {base : Nat} {ok : Nat → Prop} {v : Value} {l : List S29} (h : Kd.N k29 29 w base ok v l) : IsL w v l := Kd.N_reads h
theorem isL_fixed {w0 w : World} {base : Nat} {ok : Nat → Prop} {v : Value} {l : List S29} (h : Kd.R (Kd.fixed k29 w0) 29 w base ok v l) (hb : Below w0.heap.size w0 w) : IsL w v l := by
  obtain ⟨A, c, rfl, hl, hC⟩ := Kd.R_reads h; exact ⟨A, c, rfl, hl, fixed_C hC hb⟩
theorem isL_nil (w : World) : IsL w (.slice none 0 0) [] := ⟨none, 0, rfl, Nat.le_refl _, Kd.C_nil _ _⟩

/-! The parts of a term, itself the first. -/
mutual
def partsT : S29 → List S29
  | ⟨a, b, c, l⟩ => ⟨a, b, c, l⟩ :: partsL l
def partsL : List S29 → List S29
  | [] => []
  | x :: r => partsT x ++ partsL r
end
theorem partsT_eq (t : S29) : partsT t = t :: partsL t.f3 := by cases t; rw [partsT]
theorem partsL_len : ∀ l : List S29, (∀ x ∈ l, (partsT x).length ≤ nT x) → (partsL l).length ≤ nL l
  | [], _ => by simp [partsL]
  | x :: r, h => by
    rw [partsL, nL, List.length_append]
    have := h x (List.mem_cons_self ..)
    have := partsL_len r (fun y hy => h y (List.mem_cons_of_mem _ hy))
    omega
theorem partsT_len : ∀ (n : Nat) (t : S29), nT t ≤ n → (partsT t).length ≤ nT t := by
  intro n
  induction n with
  | zero => intro t h; rw [nT_eq] at h; omega
  | succ n ih =>
    intro t h
    rw [nT_eq] at h ⊢
    rw [partsT_eq, List.length_cons]
    have := partsL_len t.f3 (fun x hx => ih x (by have := nT_mem hx; omega))
    omega

def T_ (f : Nat) (args : Array Value) (w : World) (t : S29) : Prop := Calls Tryd.prog f args w fun e w' => ∃ v, e = .returned v ∧ IsT w' v t ∧ Below w.heap.size w w'
def V_ (f : Nat) (args : Array Value) (w : World) (v : Value) : Prop := Calls Tryd.prog f args w fun e w' => e = .returned v ∧ Below w.heap.size w w'
def L_ (f : Nat) (args : Array Value) (w : World) (l : List S29) : Prop := Calls Tryd.prog f args w fun e w' => ∃ v, e = .returned v ∧ IsL w' v l ∧ Below w.heap.size w w'

theorem Key_T (s : ByteArray) (n : Int) (w : World) : T_ 25 #[.string s, .int .i64 n] w ⟨2, s, n, []⟩ :=
  (term_Key.calls s n _ _ _ _ w rfl).mono fun _ _ ⟨v, he, hR, hb⟩ => ⟨_, he, .mk (isL_R hR), hb⟩
theorem Of_T (s : ByteArray) (w : World) : T_ 33 #[.string s] w ⟨0, s, 0, []⟩ :=
  (term_Of.calls s _ _ _ _ w rfl).mono fun _ _ ⟨v, he, hR, hb⟩ => ⟨_, he, .mk (isL_R hR), hb⟩
theorem Num_T (n : Int) (w : World) : T_ 32 #[.int .i64 n] w ⟨1, ⟨#[]⟩, n, []⟩ :=
  (term_Num.calls n _ _ _ _ w rfl).mono fun _ _ ⟨v, he, hR, hb⟩ => ⟨_, he, .mk (isL_R hR), hb⟩
theorem Sum_T {v1 v2 : Value} {t u : S29} (n : Int) (w : World) (h1 : IsT w v1 t) (h2 : IsT w v2 u) : T_ 28 #[v1, .int .i64 n, v2] w ⟨5, ⟨#[]⟩, n, [t, u]⟩ := by
  obtain ⟨A, c, rfl, hl, hC⟩ := h1
  obtain ⟨B, d, rfl, hl2, hC2⟩ := h2
  cases t; cases u
  exact (term_Sum.calls _ _ _ (fun k => k < w.heap.size) A c _ n _ _ _ (fun k => k < w.heap.size) B d _ _ _ _ _ w (Kd.V_mk hl (Kd.C_F heap29 hC)) (Kd.V_mk hl2 (Kd.C_F heap29 hC2)) rfl).mono fun _ _ ⟨v, he, hR, hb⟩ => ⟨_, he, .mk (isL_N hR), hb⟩
theorem List_T {v : Value} {l : List S29} (w : World) (hn : l.length ≤ 1000000000) (h : IsL w v l) : T_ 24 #[v] w ⟨3, ⟨#[]⟩, 0, l⟩ := by
  obtain ⟨A, c, rfl, hl, hC⟩ := h
  exact (List_calls A c l w w hn hC (Below.refl _ _)).mono fun _ _ ⟨v, he, hR, hb⟩ => ⟨_, he, .mk (isL_fixed hR hb), hb⟩
theorem Row_T (A : Option Addr) (c : Nat) (l : List ByteArray) (w : World) (hn : l.length ≤ 1000000000) (hl : l.length ≤ c) (hC : Kd.C Kd.string w A l.length l) : T_ 34 #[.slice A l.length c] w ⟨3, ⟨#[]⟩, 0, l.map fun s => ⟨0, s, 0, []⟩⟩ :=
  (term_Row_calls A c l w hn hl hC).mono fun _ _ ⟨v, he, hR, hb⟩ => ⟨_, he, .mk (isL_R hR), hb⟩
theorem Text_V {v : Value} {t : S29} (w : World) (hn : nT t ≤ 1000000000) (hok : okT t) (hL : Laid w) (h : IsT w v t) : V_ 26 #[v] w (.string (textB t)) := by
  obtain ⟨A, c, rfl, hl, hC⟩ := h
  exact term_Text_calls _ t A c w (Nat.le_refl _) hn hok hL hl hC
theorem Valid_V {v : Value} {t : S29} (w : World) (hn : nT t ≤ 1000000000) (h : IsT w v t) : V_ 23 #[v] w (.bool (vT t 0)) := by
  obtain ⟨A, c, rfl, hl, hC⟩ := h
  exact term_Valid_calls t A c w (by omega) hl hC
theorem Order_V {v u : Value} {t s : S29} (w : World) (h : IsT w v t) (h2 : IsT w u s) : V_ 49 #[v, u] w (.int .i64 (oT t s)) := by
  obtain ⟨A, c, rfl, hl, hC⟩ := h
  obtain ⟨B, d, rfl, hl2, hC2⟩ := h2
  exact term_Order_calls _ t s A c B d w (Nat.le_refl _) hl hC hl2 hC2
theorem Same_V {v u : Value} {t s : S29} (w : World) (h : IsT w v t) (h2 : IsT w u s) : V_ 22 #[v, u] w (.bool (oT t s == 0)) := by
  obtain ⟨A, c, rfl, hl, hC⟩ := h
  obtain ⟨B, d, rfl, hl2, hC2⟩ := h2
  exact term_Same_calls t s A c B d w hl hC hl2 hC2
theorem Name_V (s : ByteArray) (w : World) (hs : s.size ≤ 9223372036854775806) : V_ 40 #[.string s] w (.bool (nameB s)) :=
  (term_Name_calls s w hs).mono fun _ _ ⟨he, hw⟩ => ⟨he, by subst hw; exact Below.refl _ _⟩
end Go.Proofs.YtimommkbfbdkdaaDoor.P
