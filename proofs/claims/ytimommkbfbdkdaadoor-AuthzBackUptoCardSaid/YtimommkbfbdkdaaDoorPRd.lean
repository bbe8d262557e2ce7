/- What an argument that the row reads as a container is. -/
import Derived.Test.YtimommkbfbdkdaaDoorPRc
import Derived.Test.YtimommkbfbdkdaaDoorPAa
namespace Go.Proofs.YtimommkbfbdkdaaDoor.P
set_option maxRecDepth 100000
open Go.ChangeShapes Go.WideShapes Go.ChangeAt Go.RowKit Go.Proofs.YtimommkbfbdkdaaDoorW.PrintWords Go.Proofs.YtimommkbfbdkdaaDoorW.PrintLast Go.Proofs.YtimommkbfbdkdaaDoorW.PrintMore

/-- Whole numbers that fit. -/
def okI : List Int → Prop
  | [] => True
  | n :: l => i64 n ∧ okI l
theorem openI {H : Type} {enc : TypeId × Value → H} {w : World} {sp : Nat → Bool} (n : Nat) (a : Addr) :
    ∀ (elems : List (DataW H × List MemPlace)) (o : Nat), (∀ i, i < elems.length → (w.cells? 0 (a.add ((o + i) * 1)) 1).bind (DataW.trod enc Tryd.prog w 0 sp true n 3) = elems[i]?) →
      ∃ l : List Int, l.length = elems.length ∧ l.length ≤ Rows.uptoBulkAll (elems.map (·.1)) ∧ okI l ∧
        ∀ j p, l[j]? = some p → ∃ c : List Value, c.length = 1 ∧ (Kd.int .i64).K w p c ∧ ∀ i u, c[i]? = some u → w.cell? (a.add ((o + j) * 1 + i)) = some u
  | [], _, _ => ⟨[], rfl, Nat.zero_le _, trivial, fun j p h => by simp at h⟩
  | x :: r, o, h => by
    have h0 := h 0 (by simp)
    simp only [Nat.add_zero, List.getElem?_cons_zero, Option.bind_eq_some_iff] at h0
    obtain ⟨cs, hcs, hx⟩ := h0
    obtain ⟨_, hlen, hcell⟩ := World.cells?_some hcs
    obtain ⟨m, rfl, rfl, hm⟩ := DataW.trod_int Tryd.underlying3 hx
    have hm' : i64 m := by have h := hm; simp only [Lit.wf, show IntKind.i64.min = -9223372036854775808 from rfl, show IntKind.i64.max = 9223372036854775807 from rfl, Bool.and_eq_true, decide_eq_true_eq] at h; exact h
    obtain ⟨l, hll, hnl, hol, hr⟩ := openI n a r (o + 1) (fun i hi => by
      have := h (i + 1) (by simp; omega)
      rw [show o + (i + 1) = o + 1 + i from by omega] at this
      simpa using this)
    refine ⟨m :: l, by simp [hll], ?_, ⟨hm', hol⟩, ?_⟩
    · simp only [List.map_cons, Rows.uptoBulkAll, Rows.uptoBulk, List.length_cons]
      omega
    · intro j p hj
      match j, hj with
      | 0, hj =>
        simp only [List.getElem?_cons_zero, Option.some.injEq] at hj
        subst hj
        refine ⟨[.int .i64 m], rfl, rfl, fun i u hu => ?_⟩
        have hi : i < 1 := by
          have := (List.getElem?_eq_some_iff.1 hu).1
          simpa using this
        have := hcell i hi
        rw [hu] at this
        rw [Nat.add_zero, ← this]
        obtain rfl : i = 0 := by omega
        simp [Addr.add]
      | j + 1, hj =>
        simp only [List.getElem?_cons_succ] at hj
        obtain ⟨c', h1, h2, h3⟩ := hr j p hj
        refine ⟨c', h1, h2, fun i u hu => ?_⟩
        have := h3 i u hu
        rwa [show o + 1 + j = o + (j + 1) from by omega] at this
theorem openSn {H : Type} {enc : TypeId × Value → H} {w : World} {sp : Nat → Bool} (n : Nat) (a : Addr) :
    ∀ (elems : List (DataW H × List MemPlace)) (o : Nat), (∀ i, i < elems.length → (w.cells? 0 (a.add ((o + i) * 1)) 1).bind (DataW.trod enc Tryd.prog w 0 sp true n 9) = elems[i]?) →
      ∃ l : List ByteArray, l.length = elems.length ∧ nS l ≤ Rows.uptoBulkAll (elems.map (·.1)) ∧
        ∀ j p, l[j]? = some p → ∃ c : List Value, c.length = 1 ∧ Kd.string.K w p c ∧ ∀ i u, c[i]? = some u → w.cell? (a.add ((o + j) * 1 + i)) = some u
  | [], _, _ => ⟨[], rfl, Nat.le_refl _, fun j p h => by simp at h⟩
  | x :: r, o, h => by
    have h0 := h 0 (by simp)
    simp only [Nat.add_zero, List.getElem?_cons_zero, Option.bind_eq_some_iff] at h0
    obtain ⟨cs, hcs, hx⟩ := h0
    obtain ⟨_, hlen, hcell⟩ := World.cells?_some hcs
    obtain ⟨s, rfl, rfl, hs⟩ := DataW.trod_string Tryd.underlying9 hx
    obtain ⟨l, hll, hnl, hr⟩ := openSn n a r (o + 1) (fun i hi => by
      have := h (i + 1) (by simp; omega)
      rw [show o + (i + 1) = o + 1 + i from by omega] at this
      simpa using this)
    have hsz : s.data.toList.length = s.size := by rw [Array.length_toList]; rfl
    refine ⟨s :: l, by simp [hll], ?_, ?_⟩
    · simp only [List.map_cons, Rows.uptoBulkAll, Rows.uptoBulk, nS]
      omega
    · intro j p hj
      match j, hj with
      | 0, hj =>
        simp only [List.getElem?_cons_zero, Option.some.injEq] at hj
        subst hj
        refine ⟨[.string s], rfl, rfl, fun i u hu => ?_⟩
        have hi : i < 1 := by
          have := (List.getElem?_eq_some_iff.1 hu).1
          simpa using this
        have := hcell i hi
        rw [hu] at this
        rw [Nat.add_zero, ← this]
        obtain rfl : i = 0 := by omega
        simp [Addr.add]
      | j + 1, hj =>
        simp only [List.getElem?_cons_succ] at hj
        obtain ⟨c', h1, h2, h3⟩ := hr j p hj
        refine ⟨c', h1, h2, fun i u hu => ?_⟩
        have := h3 i u hu
        rwa [show o + 1 + j = o + (j + 1) from by omega] at this


/-- A slice of whole numbers, of texts, as the row reads it. -/
theorem sliceI {H : Type} {enc : TypeId × Value → H} {w : World} {sp : Nat → Bool} {fuel : Nat} {v : Value} {x : DataW H × List MemPlace} (hf : DataW.trod enc Tryd.prog w 0 sp true fuel 22 [v] = some x) :
    ∃ (A : Option Addr) (l : List Int) (c : Nat), v = .slice A l.length c ∧ l.length ≤ c ∧ Kd.C (Kd.int .i64) w A l.length l ∧ okI l ∧ l.length ≤ Rows.uptoBulk x.1 := by
  have c3 : Tryd.prog.cellsOf 3 = 1 := by kernel_rfl
  rcases DataW.trod_slice Tryd.underlying22 hf with ⟨e, e2⟩ | ⟨a, len, cap, elems, rest, n', rfl, e, e2, _, hlc, hcm, hel, hat, _, _⟩
  · cases e2
    simp only [List.cons.injEq, and_true] at e
    subst e
    exact ⟨none, [], 0, rfl, Nat.le_refl _, Kd.C_nil _ _, trivial, Nat.zero_le _⟩
  · cases e2
    simp only [List.cons.injEq, and_true] at e
    subst e
    rw [c3] at hat
    obtain ⟨l, hll, hnl, hol, hr⟩ := openI n' a elems 0 (fun i hi => by rw [Nat.zero_add]; exact hat i (by omega))
    have hlen : l.length = len := by omega
    refine ⟨some a, l, cap, by rw [hlen], by omega, ⟨rfl, by simp only [maxLen] at hcm; omega, fun _ => ⟨a, rfl, fun j p hj => ?_⟩⟩, hol, ?_⟩
    · obtain ⟨cc, h1, h2, h3⟩ := hr j p hj
      rw [Nat.zero_add] at h3
      exact ⟨cc, h1, h2, h3⟩
    · simp only [Rows.uptoBulk]; omega
theorem sliceS {H : Type} {enc : TypeId × Value → H} {w : World} {sp : Nat → Bool} {fuel : Nat} {v : Value} {x : DataW H × List MemPlace} (hf : DataW.trod enc Tryd.prog w 0 sp true fuel 23 [v] = some x) :
    ∃ (A : Option Addr) (l : List ByteArray) (c : Nat), v = .slice A l.length c ∧ l.length ≤ c ∧ Kd.C Kd.string w A l.length l ∧ nS l ≤ Rows.uptoBulk x.1 := by
  have c9 : Tryd.prog.cellsOf 9 = 1 := by kernel_rfl
  rcases DataW.trod_slice Tryd.underlying23 hf with ⟨e, e2⟩ | ⟨a, len, cap, elems, rest, n', rfl, e, e2, _, hlc, hcm, hel, hat, _, _⟩
  · cases e2
    simp only [List.cons.injEq, and_true] at e
    subst e
    exact ⟨none, [], 0, rfl, Nat.le_refl _, Kd.C_nil _ _, Nat.zero_le _⟩
  · cases e2
    simp only [List.cons.injEq, and_true] at e
    subst e
    rw [c9] at hat
    obtain ⟨l, hll, hnl, hr⟩ := openSn n' a elems 0 (fun i hi => by rw [Nat.zero_add]; exact hat i (by omega))
    have hlen : l.length = len := by omega
    refine ⟨some a, l, cap, by rw [hlen], by omega, ⟨rfl, by simp only [maxLen] at hcm; omega, fun _ => ⟨a, rfl, fun j p hj => ?_⟩⟩, ?_⟩
    · obtain ⟨cc, h1, h2, h3⟩ := hr j p hj
      rw [Nat.zero_add] at h3
      exact ⟨cc, h1, h2, h3⟩
    · simp only [Rows.uptoBulk]; omega

def okAu (a : Au) : Prop := i64 a.o ∧ i64 a.tm ∧ okI a.g
theorem openA {H : Type} {enc : TypeId × Value → H} {w : World} {sp : Nat → Bool} (fuel : Nat) (cs : List Value) (x : DataW H × List MemPlace) (hx : DataW.trod enc Tryd.prog w 0 sp true fuel 25 cs = some x) :
    ∃ (a : Au) (A : Option Addr) (c : Nat) (B : Option Addr) (d : Nat), cs = [.string a.u, .slice A a.g.length c, .int .i64 a.o, .slice B a.tr.length d, .string a.s, .bool a.fw, .int .i64 a.tm] ∧
      a.g.length ≤ c ∧ Kd.C (Kd.int .i64) w A a.g.length a.g ∧ a.tr.length ≤ d ∧ Kd.C Kd.string w B a.tr.length a.tr ∧ okAu a ∧ nA a ≤ Rows.uptoBulk x.1 := by
  obtain ⟨xs, n, rfl, rfl, hcl, hxl, hf⟩ := DataW.trod_struct Tryd.underlying25 hx
  have c25 : Tryd.prog.cellsOf 25 = 7 := by kernel_rfl
  have c9 : Tryd.prog.cellsOf 9 = 1 := by kernel_rfl
  have c22 : Tryd.prog.cellsOf 22 = 1 := by kernel_rfl
  have c3 : Tryd.prog.cellsOf 3 = 1 := by kernel_rfl
  have c23 : Tryd.prog.cellsOf 23 = 1 := by kernel_rfl
  have c4 : Tryd.prog.cellsOf 4 = 1 := by kernel_rfl
  rw [c25] at hcl
  match cs, hcl with
  | [v0, v1, v2, v3, v4, v5, v6], _ =>
    have f0 : DataW.trod enc Tryd.prog w 0 sp true n 9 [v0] = xs[0]? := by have := hf 0 _ rfl; change DataW.trod enc Tryd.prog w 0 sp true n 9 (List.take (Tryd.prog.cellsOf 9) [v0, v1, v2, v3, v4, v5, v6]) = _ at this; rwa [c9] at this
    have f1 : DataW.trod enc Tryd.prog w 0 sp true n 22 [v1] = xs[1]? := by have := hf 1 _ rfl; change DataW.trod enc Tryd.prog w 0 sp true n 22 (List.take (Tryd.prog.cellsOf 22) [v1, v2, v3, v4, v5, v6]) = _ at this; rwa [c22] at this
    have f2 : DataW.trod enc Tryd.prog w 0 sp true n 3 [v2] = xs[2]? := by have := hf 2 _ rfl; change DataW.trod enc Tryd.prog w 0 sp true n 3 (List.take (Tryd.prog.cellsOf 3) [v2, v3, v4, v5, v6]) = _ at this; rwa [c3] at this
    have f3 : DataW.trod enc Tryd.prog w 0 sp true n 23 [v3] = xs[3]? := by have := hf 3 _ rfl; change DataW.trod enc Tryd.prog w 0 sp true n 23 (List.take (Tryd.prog.cellsOf 23) [v3, v4, v5, v6]) = _ at this; rwa [c23] at this
    have f4 : DataW.trod enc Tryd.prog w 0 sp true n 9 [v4] = xs[4]? := by have := hf 4 _ rfl; change DataW.trod enc Tryd.prog w 0 sp true n 9 (List.take (Tryd.prog.cellsOf 9) [v4, v5, v6]) = _ at this; rwa [c9] at this
    have f5 : DataW.trod enc Tryd.prog w 0 sp true n 4 [v5] = xs[5]? := by have := hf 5 _ rfl; change DataW.trod enc Tryd.prog w 0 sp true n 4 (List.take (Tryd.prog.cellsOf 4) [v5, v6]) = _ at this; rwa [c4] at this
    have f6 : DataW.trod enc Tryd.prog w 0 sp true n 3 [v6] = xs[6]? := by have := hf 6 _ rfl; change DataW.trod enc Tryd.prog w 0 sp true n 3 (List.take (Tryd.prog.cellsOf 3) [v6]) = _ at this; rwa [c3] at this
    match xs, hxl with
    | [y0, y1, y2, y3, y4, y5, y6], _ =>
      simp only [List.getElem?_cons_zero, List.getElem?_cons_succ] at f0 f1 f2 f3 f4 f5 f6
      obtain ⟨s0, e0, rfl, _⟩ := DataW.trod_string Tryd.underlying9 f0
      obtain ⟨A, g, c, e1, hg1, hg2, hg3, hg4⟩ := sliceI f1
      obtain ⟨m2, e2, rfl, h2⟩ := DataW.trod_int Tryd.underlying3 f2
      obtain ⟨B, tr, d, e3, ht1, ht2, ht3⟩ := sliceS f3
      obtain ⟨s4, e4, rfl, _⟩ := DataW.trod_string Tryd.underlying9 f4
      obtain ⟨b5, e5, rfl⟩ := DataW.trod_bool Tryd.underlying4 f5
      obtain ⟨m6, e6, rfl, h6⟩ := DataW.trod_int Tryd.underlying3 f6
      simp only [List.cons.injEq, and_true] at e0 e2 e4 e5 e6
      subst e0 e1 e2 e3 e4 e5 e6
      have hm2 : i64 m2 := by have h := h2; simp only [Lit.wf, show IntKind.i64.min = -9223372036854775808 from rfl, show IntKind.i64.max = 9223372036854775807 from rfl, Bool.and_eq_true, decide_eq_true_eq] at h; exact h
      have hm6 : i64 m6 := by have h := h6; simp only [Lit.wf, show IntKind.i64.min = -9223372036854775808 from rfl, show IntKind.i64.max = 9223372036854775807 from rfl, Bool.and_eq_true, decide_eq_true_eq] at h; exact h
      refine ⟨⟨s0, g, m2, tr, s4, b5, m6⟩, A, c, B, d, rfl, hg1, hg2, ht1, ht2, ⟨hm2, hm6, hg3⟩, ?_⟩
      have z0 : s0.data.toList.length = s0.size := by rw [Array.length_toList]; rfl
      have z4 : s4.data.toList.length = s4.size := by rw [Array.length_toList]; rfl
      unfold nA
      simp only [Rows.uptoBulk, Rows.uptoBulkAll, List.map_cons, List.map_nil, z0, z4]
      omega
/-- An argument of the type of containers. -/
theorem argA {H : Type} {enc : TypeId × Value → H} {W : World} {base : Nat} {v : Value} {d : DataW H} {ps : List MemPlace} (hval : Value.okWide Tryd.prog W .any base 25 v) (h : DataW.Trod enc Tryd.prog W 0 (fun _ => true) true 25 v d ps) :
    ∃ (a : Au), IsA W v a ∧ okAu a ∧ nA a ≤ Rows.uptoBulk d := by
  obtain ⟨cs, rfl, _⟩ := okWide_struct Tryd.underlying25 hval
  obtain ⟨fuel, hf⟩ := h
  obtain ⟨a, A, c, B, e, he, h1, h2, h3, h4, hok, hn⟩ := openA fuel _ _ hf
  have e' : cs = #[.string a.u, .slice A a.g.length c, .int .i64 a.o, .slice B a.tr.length e, .string a.s, .bool a.fw, .int .i64 a.tm] := by
    apply Array.toList_inj.1
    exact he
  subst e'
  exact ⟨a, ⟨A, c, B, e, rfl, h1, h2, h3, h4⟩, hok, hn⟩
theorem backA {H : Type} {enc : TypeId × Value → H} {W W' : World} {v : Value} {d : DataW H} {ps : List MemPlace} (h : DataW.Trod enc Tryd.prog W 0 (fun _ => true) true 25 v d ps) (hb : Below W.heap.size W W') :
    DataW.Trod enc Tryd.prog W' 0 (fun b => decide (b < W.heap.size)) true 25 v d ps :=
  Below.trod laidOut (by kernel_rfl) (of_decide_eq_true (by kernel_rfl)) h hb (by obtain ⟨m, hm⟩ := h; exact DataW.trod_lt m _ _ _ hm)
end Go.Proofs.YtimommkbfbdkdaaDoor.P
