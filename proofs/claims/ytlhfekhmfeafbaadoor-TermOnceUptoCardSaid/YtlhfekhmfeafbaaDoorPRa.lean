/- What an argument that the row reads as a term is: a value that reads as the term, of a size that the bound keeps small. -/
import Derived.Test.YtlhfekhmfeafbaaDoorRows
import Derived.Test.YtlhfekhmfeafbaaDoorPHp
import Derived.WalkKit
import Derived.ProofKit
import Derived.OpenShut
import Derived.Deep.DeepHandedRow
import Derived.Lib.LaidTab
import Derived.LaidSub
import Derived.Deep.Slices
import Derived.ChangeMaps5
import Derived.Carry
import Derived.ChangeSame
namespace Go.Proofs.YtlhfekhmfeafbaaDoor.P
open Go.RowKit Go.Proofs.YtlhfekhmfeafbaaDoorW.PrintWords Go.Proofs.YtlhfekhmfeafbaaDoorW.PrintLast Go.Proofs.YtlhfekhmfeafbaaDoorW.PrintMore

theorem bulk_pos {H : Type} (d : DataW H) : 1 ≤ Rows.uptoBulk d := by
  cases d with
  | lit l => cases l <;> simp [Rows.uptoBulk]
  | nil => simp [Rows.uptoBulk]
  | ptr d => simp [Rows.uptoBulk]
  | slice elems spare => simp [Rows.uptoBulk]
  | agg parts => simp [Rows.uptoBulk]
  | iface t d => simp [Rows.uptoBulk]
  | map entries => simp [Rows.uptoBulk]
  | held h => simp [Rows.uptoBulk]

/-- What a list of readings as terms gives. -/
theorem openL {H : Type} {enc : TypeId × Value → H} {w : World} {sp : Nat → Bool} (n : Nat) (a : Addr)
    (ih : ∀ (cs : List Value) (x : DataW H × List MemPlace), DataW.trod enc Tryd.prog w 0 sp true n 25 cs = some x →
      ∃ (t : S25) (A : Option Addr) (c : Nat), cs = [.int .i64 t.f0, .string t.f1, .int .i64 t.f2, .slice A t.f3.length c] ∧ t.f3.length ≤ c ∧ Kd.C k25 w A t.f3.length t.f3 ∧ okT t ∧ nT t ≤ Rows.uptoBulk x.1) :
    ∀ (elems : List (DataW H × List MemPlace)) (o : Nat), (∀ i, i < elems.length → (w.cells? 0 (a.add ((o + i) * 4)) 4).bind (DataW.trod enc Tryd.prog w 0 sp true n 25) = elems[i]?) →
      ∃ l : List S25, l.length = elems.length ∧ okL l ∧ nL l ≤ Rows.uptoBulkAll (elems.map (·.1)) ∧
        ∀ j p, l[j]? = some p → ∃ c : List Value, c.length = 4 ∧ k25.K w p c ∧ ∀ i u, c[i]? = some u → w.cell? (a.add ((o + j) * 4 + i)) = some u
  | [], _, _ => ⟨[], rfl, by simp [okL], by simp [nL], fun j p h => by simp at h⟩
  | x :: r, o, h => by
    have h0 := h 0 (by simp)
    simp only [Nat.add_zero, List.getElem?_cons_zero, Option.bind_eq_some_iff] at h0
    obtain ⟨cs, hcs, hx⟩ := h0
    obtain ⟨_, hlen, hcell⟩ := World.cells?_some hcs
    obtain ⟨t, A, c, rfl, hl, hC, hok, hn⟩ := ih cs x hx
    obtain ⟨l, hll, hokl, hnl, hr⟩ := openL n a ih r (o + 1) (fun i hi => by
      have := h (i + 1) (by simp; omega)
      rw [show o + (i + 1) = o + 1 + i from by omega] at this
      simpa using this)
    refine ⟨t :: l, by simp [hll], by rw [okL]; exact ⟨hok, hokl⟩, ?_, ?_⟩
    · rw [nL]
      simp only [List.map_cons, Rows.uptoBulkAll]
      omega
    · intro j p hj
      match j, hj with
      | 0, hj =>
        simp only [List.getElem?_cons_zero, Option.some.injEq] at hj
        subst hj
        refine ⟨_, rfl, k25_mk w t hl hC, fun i u hu => ?_⟩
        have hi : i < 4 := by
          have := (List.getElem?_eq_some_iff.1 hu).1
          simpa using this
        have := hcell i hi
        rw [hu] at this
        rw [Nat.add_zero, ← this]
        congr 1
        unfold Addr.add
        by_cases h1 : o * 4 = 0 <;> by_cases h2 : i = 0 <;> simp [h1, h2, Nat.add_assoc]
      | j + 1, hj =>
        simp only [List.getElem?_cons_succ] at hj
        obtain ⟨c', h1, h2, h3⟩ := hr j p hj
        refine ⟨c', h1, h2, fun i u hu => ?_⟩
        have := h3 i u hu
        rwa [show o + 1 + j = o + (j + 1) from by omega] at this

theorem open25 {H : Type} {enc : TypeId × Value → H} {w : World} {sp : Nat → Bool} : ∀ (fuel : Nat) (cs : List Value) (x : DataW H × List MemPlace), DataW.trod enc Tryd.prog w 0 sp true fuel 25 cs = some x →
    ∃ (t : S25) (A : Option Addr) (c : Nat), cs = [.int .i64 t.f0, .string t.f1, .int .i64 t.f2, .slice A t.f3.length c] ∧ t.f3.length ≤ c ∧ Kd.C k25 w A t.f3.length t.f3 ∧ okT t ∧ nT t ≤ Rows.uptoBulk x.1 := by
  intro fuel
  induction fuel using Nat.strongRecOn with
  | ind fuel ih =>
    intro cs x hx
    obtain ⟨xs, n, rfl, rfl, hcl, hxl, hf⟩ := DataW.trod_struct Tryd.underlying25 hx
    have c25 : Tryd.prog.cellsOf 25 = 4 := by kernel_rfl
    have c22 : Tryd.prog.cellsOf 22 = 1 := by kernel_rfl
    have c9 : Tryd.prog.cellsOf 9 = 1 := by kernel_rfl
    have c3 : Tryd.prog.cellsOf 3 = 1 := by kernel_rfl
    have c23 : Tryd.prog.cellsOf 23 = 1 := by kernel_rfl
    rw [c25] at hcl
    match cs, hcl with
    | [v0, v1, v2, v3], _ =>
      have f0 : DataW.trod enc Tryd.prog w 0 sp true n 22 [v0] = xs[0]? := by have := hf 0 _ rfl; change DataW.trod enc Tryd.prog w 0 sp true n 22 (List.take (Tryd.prog.cellsOf 22) [v0, v1, v2, v3]) = _ at this; rwa [c22] at this
      have f1 : DataW.trod enc Tryd.prog w 0 sp true n 9 [v1] = xs[1]? := by have := hf 1 _ rfl; change DataW.trod enc Tryd.prog w 0 sp true n 9 (List.take (Tryd.prog.cellsOf 9) [v1, v2, v3]) = _ at this; rwa [c9] at this
      have f2 : DataW.trod enc Tryd.prog w 0 sp true n 3 [v2] = xs[2]? := by have := hf 2 _ rfl; change DataW.trod enc Tryd.prog w 0 sp true n 3 (List.take (Tryd.prog.cellsOf 3) [v2, v3]) = _ at this; rwa [c3] at this
      have f3 : DataW.trod enc Tryd.prog w 0 sp true n 23 [v3] = xs[3]? := by have := hf 3 _ rfl; change DataW.trod enc Tryd.prog w 0 sp true n 23 (List.take (Tryd.prog.cellsOf 23) [v3]) = _ at this; rwa [c23] at this
      match xs, hxl with
      | [y0, y1, y2, y3], _ =>
        simp only [List.getElem?_cons_zero, List.getElem?_cons_succ] at f0 f1 f2 f3
        obtain ⟨k, e0, rfl, hk⟩ := DataW.trod_int Tryd.underlying22 f0
        obtain ⟨s, e1, rfl, hs⟩ := DataW.trod_string Tryd.underlying9 f1
        obtain ⟨m, e2, rfl, hm⟩ := DataW.trod_int Tryd.underlying3 f2
        simp only [List.cons.injEq, and_true] at e0 e1 e2
        subst e0 e1 e2
        have hk' : i64 k := by have h := hk; simp only [Lit.wf, show IntKind.i64.min = -9223372036854775808 from rfl, show IntKind.i64.max = 9223372036854775807 from rfl, Bool.and_eq_true, decide_eq_true_eq] at h; exact h
        have hm' : i64 m := by have h := hm; simp only [Lit.wf, show IntKind.i64.min = -9223372036854775808 from rfl, show IntKind.i64.max = 9223372036854775807 from rfl, Bool.and_eq_true, decide_eq_true_eq] at h; exact h
        rcases DataW.trod_slice Tryd.underlying23 f3 with ⟨e3, rfl⟩ | ⟨a, len, cap, elems, rest, n', rfl, e3, rfl, _, hlc, hcm, hel, hat, _, _⟩
        · simp only [List.cons.injEq, and_true] at e3
          subst e3
          refine ⟨⟨k, s, m, []⟩, none, 0, rfl, Nat.le_refl _, Kd.C_nil _ _, ?_, ?_⟩
          · rw [okT_eq]; exact ⟨hk', hm', by simp [okL]⟩
          · rw [nT_eq]
            have hsz : s.data.toList.length = s.size := by rw [Array.length_toList]; rfl
            simp only [nL, Rows.uptoBulk, Rows.uptoBulkAll, List.map_cons, List.map_nil, hsz]
            omega
        · simp only [List.cons.injEq, and_true] at e3
          subst e3
          rw [c25] at hat
          obtain ⟨l, hll, hokl, hnl, hr⟩ := openL n' a (ih n' (by omega)) elems 0 (fun i hi => by rw [Nat.zero_add]; exact hat i (by omega))
          have hlen : l.length = len := by omega
          refine ⟨⟨k, s, m, l⟩, some a, cap, by rw [hlen], by simp only; omega, ?_, ?_, ?_⟩
          · refine ⟨rfl, by simp only [maxLen] at hcm; simp only; omega, fun _ => ⟨a, rfl, fun j p hj => ?_⟩⟩
            obtain ⟨c, h1, h2, h3⟩ := hr j p hj
            rw [Nat.zero_add] at h3
            exact ⟨c, h1, h2, h3⟩
          · rw [okT_eq]; exact ⟨hk', hm', hokl⟩
          · rw [nT_eq]
            have hsz : s.data.toList.length = s.size := by rw [Array.length_toList]; rfl
            simp only [Rows.uptoBulk, Rows.uptoBulkAll, List.map_cons, List.map_nil, hsz]
            omega
end Go.Proofs.YtlhfekhmfeafbaaDoor.P
