/- What an argument that the row reads as a list of strings, or of terms, is. -/
import Derived.Test.YtimommkbfbdkdaaDoorPRb
namespace Go.Proofs.YtimommkbfbdkdaaDoor.P
set_option maxRecDepth 100000
open Go.ChangeShapes Go.WideShapes Go.ChangeAt Go.RowKit Go.Proofs.YtimommkbfbdkdaaDoorW.PrintWords Go.Proofs.YtimommkbfbdkdaaDoorW.PrintLast Go.Proofs.YtimommkbfbdkdaaDoorW.PrintMore

theorem openS {H : Type} {enc : TypeId × Value → H} {w : World} {sp : Nat → Bool} (n : Nat) (a : Addr) :
    ∀ (elems : List (DataW H × List MemPlace)) (o : Nat), (∀ i, i < elems.length → (w.cells? 0 (a.add ((o + i) * 1)) 1).bind (DataW.trod enc Tryd.prog w 0 sp true n 9) = elems[i]?) →
      ∃ l : List ByteArray, l.length = elems.length ∧ l.length ≤ Rows.uptoBulkAll (elems.map (·.1)) ∧ (∀ s ∈ l, s.size ≤ Rows.uptoBulkAll (elems.map (·.1))) ∧
        ∀ j p, l[j]? = some p → ∃ c : List Value, c.length = 1 ∧ Kd.string.K w p c ∧ ∀ i u, c[i]? = some u → w.cell? (a.add ((o + j) * 1 + i)) = some u
  | [], _, _ => ⟨[], rfl, Nat.zero_le _, (fun s h => by cases h), fun j p h => by simp at h⟩
  | x :: r, o, h => by
    have h0 := h 0 (by simp)
    simp only [Nat.add_zero, List.getElem?_cons_zero, Option.bind_eq_some_iff] at h0
    obtain ⟨cs, hcs, hx⟩ := h0
    obtain ⟨_, hlen, hcell⟩ := World.cells?_some hcs
    obtain ⟨s, rfl, rfl, hs⟩ := DataW.trod_string Tryd.underlying9 hx
    obtain ⟨l, hll, hnl, hsl, hr⟩ := openS n a r (o + 1) (fun i hi => by
      have := h (i + 1) (by simp; omega)
      rw [show o + (i + 1) = o + 1 + i from by omega] at this
      simpa using this)
    have hsz : s.data.toList.length = s.size := by rw [Array.length_toList]; rfl
    refine ⟨s :: l, by simp [hll], ?_, ?_, ?_⟩
    · simp only [List.map_cons, Rows.uptoBulkAll, Rows.uptoBulk, List.length_cons]
      omega
    · intro s' hs'
      simp only [List.map_cons, Rows.uptoBulkAll, Rows.uptoBulk]
      rcases List.mem_cons.1 hs' with rfl | hs'
      · omega
      · have := hsl s' hs'; omega
    · intro j p hj
      match j, hj with
      | 0, hj =>
        simp only [List.getElem?_cons_zero, Option.some.injEq] at hj
        subst hj
        refine ⟨[.string s], rfl, rfl, fun i u hu => ?_⟩
        have hi : i < 1 := by
          have := (List.getElem?_eq_some_iff.1 hu).1
          simpa using this
        have := hcell i hi
        rw [hu] at this
        rw [Nat.add_zero, ← this]
        obtain rfl : i = 0 := by omega
        simp [Addr.add]
      | j + 1, hj =>
        simp only [List.getElem?_cons_succ] at hj
        obtain ⟨c', h1, h2, h3⟩ := hr j p hj
        refine ⟨c', h1, h2, fun i u hu => ?_⟩
        have := h3 i u hu
        rwa [show o + 1 + j = o + (j + 1) from by omega] at this

/-- An argument of the type of lists of strings. -/
theorem argR {H : Type} {enc : TypeId × Value → H} {W : World} {base : Nat} {v : Value} {d : DataW H} {ps : List MemPlace} (hval : Value.okWide Tryd.prog W .any base 23 v) (h : DataW.Trod enc Tryd.prog W 0 (fun _ => true) true 23 v d ps) :
    ∃ (A : Option Addr) (l : List ByteArray) (c : Nat), v = .slice A l.length c ∧ l.length ≤ c ∧ Kd.C Kd.string W A l.length l ∧ l.length ≤ Rows.uptoBulk d := by
  obtain ⟨A, n, c, rfl⟩ := okWide_slice Tryd.underlying23 hval
  obtain ⟨fuel, hf⟩ := h
  have c9 : Tryd.prog.cellsOf 9 = 1 := by kernel_rfl
  rcases DataW.trod_slice Tryd.underlying23 hf with ⟨e, e2⟩ | ⟨a, len, cap, elems, rest, n', rfl, e, e2, _, hlc, hcm, hel, hat, _, _⟩
  · cases e2
    simp only [Value.cells, List.cons.injEq, and_true, Value.slice.injEq] at e
    obtain ⟨rfl, rfl, rfl⟩ := e
    exact ⟨none, [], 0, rfl, Nat.le_refl _, Kd.C_nil _ _, Nat.zero_le _⟩
  · cases e2
    simp only [Value.cells, List.cons.injEq, and_true, Value.slice.injEq] at e
    obtain ⟨rfl, rfl, rfl⟩ := e
    rw [c9] at hat
    obtain ⟨l, hll, hnl, hsl, hr⟩ := openS n' a elems 0 (fun i hi => by rw [Nat.zero_add]; exact hat i (by omega))
    have hlen : l.length = n := by omega
    refine ⟨some a, l, c, by rw [hlen], by omega, ⟨rfl, by simp only [maxLen] at hcm; omega, fun _ => ⟨a, rfl, fun j p hj => ?_⟩⟩, ?_⟩
    · obtain ⟨cc, h1, h2, h3⟩ := hr j p hj
      rw [Nat.zero_add] at h3
      exact ⟨cc, h1, h2, h3⟩
    · simp only [Rows.uptoBulk]; omega
theorem backR {H : Type} {enc : TypeId × Value → H} {W W' : World} {v : Value} {d : DataW H} {ps : List MemPlace} (h : DataW.Trod enc Tryd.prog W 0 (fun _ => true) true 23 v d ps) (hb : Below W.heap.size W W') :
    DataW.Trod enc Tryd.prog W' 0 (fun b => decide (b < W.heap.size)) true 23 v d ps :=
  Below.trod laidOut (by kernel_rfl) (of_decide_eq_true (by kernel_rfl)) h hb (by obtain ⟨m, hm⟩ := h; exact DataW.trod_lt m _ _ _ hm)
/-- An argument of the type of lists of terms. -/
theorem argL {H : Type} {enc : TypeId × Value → H} {W : World} {base : Nat} {v : Value} {d : DataW H} {ps : List MemPlace} (hval : Value.okWide Tryd.prog W .any base 27 v) (h : DataW.Trod enc Tryd.prog W 0 (fun _ => true) true 27 v d ps) :
    ∃ (l : List S29) (A : Option Addr) (c : Nat), v = .slice A l.length c ∧ IsL W (.slice A l.length c) l ∧ okL l ∧ nL l ≤ Rows.uptoBulk d := by
  obtain ⟨A, n, c, rfl⟩ := okWide_slice Tryd.underlying27 hval
  obtain ⟨fuel, hf⟩ := h
  have c25 : Tryd.prog.cellsOf 29 = 4 := by kernel_rfl
  rcases DataW.trod_slice Tryd.underlying27 hf with ⟨e, e2⟩ | ⟨a, len, cap, elems, rest, n', rfl, e, e2, _, hlc, hcm, hel, hat, _, _⟩
  · cases e2
    simp only [Value.cells, List.cons.injEq, and_true, Value.slice.injEq] at e
    obtain ⟨rfl, rfl, rfl⟩ := e
    exact ⟨[], none, 0, rfl, isL_nil _, by simp [okL], by simp [nL]⟩
  · cases e2
    simp only [Value.cells, List.cons.injEq, and_true, Value.slice.injEq] at e
    obtain ⟨rfl, rfl, rfl⟩ := e
    rw [c25] at hat
    obtain ⟨l, hll, hokl, hnl, hr⟩ := openL n' a (open29 n') elems 0 (fun i hi => by rw [Nat.zero_add]; exact hat i (by omega))
    have hlen : l.length = n := by omega
    refine ⟨l, some a, c, by rw [hlen], ⟨some a, c, rfl, by omega, ⟨rfl, by simp only [maxLen] at hcm; omega, fun _ => ⟨a, rfl, fun j p hj => ?_⟩⟩⟩, hokl, ?_⟩
    · obtain ⟨cc, h1, h2, h3⟩ := hr j p hj
      rw [Nat.zero_add] at h3
      exact ⟨cc, h1, h2, h3⟩
    · simp only [Rows.uptoBulk]; omega
theorem backL {H : Type} {enc : TypeId × Value → H} {W W' : World} {v : Value} {d : DataW H} {ps : List MemPlace} (h : DataW.Trod enc Tryd.prog W 0 (fun _ => true) true 27 v d ps) (hb : Below W.heap.size W W') :
    DataW.Trod enc Tryd.prog W' 0 (fun b => decide (b < W.heap.size)) true 27 v d ps :=
  Below.trod laidOut (by kernel_rfl) (of_decide_eq_true (by kernel_rfl)) h hb (by obtain ⟨m, hm⟩ := h; exact DataW.trod_lt m _ _ _ hm)
end Go.Proofs.YtimommkbfbdkdaaDoor.P
