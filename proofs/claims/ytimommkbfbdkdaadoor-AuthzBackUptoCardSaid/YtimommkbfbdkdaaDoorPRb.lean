/- What an argument that the row reads as a term is: a value that reads as the term, of a size that the bound keeps small. What all rows of this seat share: the laid tables' fact, a world for the witness. -/
import Derived.Test.YtimommkbfbdkdaaDoorRows
import Derived.Test.YtimommkbfbdkdaaDoorPHp
import Derived.WalkKit
import Derived.ProofKit
import Derived.OpenShut
import Derived.Deep.DeepHandedRow
import Derived.Lib.LaidTab
import Derived.LaidSub
import Derived.Deep.Slices
import Derived.ChangeMaps5
import Derived.Carry
import Derived.ChangeSame
import Derived.Test.YtimommkbfbdkdaaDoorCards
import Derived.Test.YtimommkbfbdkdaaDoorTie
import Derived.WideShapes
namespace Go.Proofs.YtimommkbfbdkdaaDoor.P
open Go.RowKit Go.Proofs.YtimommkbfbdkdaaDoorW.PrintWords Go.Proofs.YtimommkbfbdkdaaDoorW.PrintLast Go.Proofs.YtimommkbfbdkdaaDoorW.PrintMore

theorem bulk_pos {H : Type} (d : DataW H) : 1 ≤ Rows.uptoBulk d := by
  cases d with
  | lit l => cases l <;> simp [Rows.uptoBulk]
  | nil => simp [Rows.uptoBulk]
  | ptr d => simp [Rows.uptoBulk]
  | slice elems spare => simp [Rows.uptoBulk]
  | agg parts => simp [Rows.uptoBulk]
  | iface t d => simp [Rows.uptoBulk]
  | map entries => simp [Rows.uptoBulk]
  | held h => simp [Rows.uptoBulk]

/-- What a list of readings as terms gives. -/
theorem openL {H : Type} {enc : TypeId × Value → H} {w : World} {sp : Nat → Bool} (n : Nat) (a : Addr)
    (ih : ∀ (cs : List Value) (x : DataW H × List MemPlace), DataW.trod enc Tryd.prog w 0 sp true n 29 cs = some x →
      ∃ (t : S29) (A : Option Addr) (c : Nat), cs = [.int .i64 t.f0, .string t.f1, .int .i64 t.f2, .slice A t.f3.length c] ∧ t.f3.length ≤ c ∧ Kd.C k29 w A t.f3.length t.f3 ∧ okT t ∧ nT t ≤ Rows.uptoBulk x.1) :
    ∀ (elems : List (DataW H × List MemPlace)) (o : Nat), (∀ i, i < elems.length → (w.cells? 0 (a.add ((o + i) * 4)) 4).bind (DataW.trod enc Tryd.prog w 0 sp true n 29) = elems[i]?) →
      ∃ l : List S29, l.length = elems.length ∧ okL l ∧ nL l ≤ Rows.uptoBulkAll (elems.map (·.1)) ∧
        ∀ j p, l[j]? = some p → ∃ c : List Value, c.length = 4 ∧ k29.K w p c ∧ ∀ i u, c[i]? = some u → w.cell? (a.add ((o + j) * 4 + i)) = some u
  | [], _, _ => ⟨[], rfl, by simp [okL], by simp [nL], fun j p h => by simp at h⟩
  | x :: r, o, h => by
    have h0 := h 0 (by simp)
    simp only [Nat.add_zero, List.getElem?_cons_zero, Option.bind_eq_some_iff] at h0
    obtain ⟨cs, hcs, hx⟩ := h0
    obtain ⟨_, hlen, hcell⟩ := World.cells?_some hcs
    obtain ⟨t, A, c, rfl, hl, hC, hok, hn⟩ := ih cs x hx
    obtain ⟨l, hll, hokl, hnl, hr⟩ := openL n a ih r (o + 1) (fun i hi => by
      have := h (i + 1) (by simp; omega)
      rw [show o + (i + 1) = o + 1 + i from by omega] at this
      simpa using this)
    refine ⟨t :: l, by simp [hll], by rw [okL]; exact ⟨hok, hokl⟩, ?_, ?_⟩
    · rw [nL]
      simp only [List.map_cons, Rows.uptoBulkAll]
      omega
    · intro j p hj
      match j, hj with
      | 0, hj =>
        simp only [List.getElem?_cons_zero, Option.some.injEq] at hj
        subst hj
        refine ⟨_, rfl, k29_mk w t hl hC, fun i u hu => ?_⟩
        have hi : i < 4 := by
          have := (List.getElem?_eq_some_iff.1 hu).1
          simpa using this
        have := hcell i hi
        rw [hu] at this
        rw [Nat.add_zero, ← this]
        congr 1
        unfold Addr.add
        by_cases h1 : o * 4 = 0 <;> by_cases h2 : i = 0 <;> simp [h1, h2, Nat.add_assoc]
      | j + 1, hj =>
        simp only [List.getElem?_cons_succ] at hj
        obtain ⟨c', h1, h2, h3⟩ := hr j p hj
        refine ⟨c', h1, h2, fun i u hu => ?_⟩
        have := h3 i u hu
        rwa [show o + 1 + j = o + (j + 1) from by omega] at this

set_option maxRecDepth 100000 in
theorem open29 {H : Type} {enc : TypeId × Value → H} {w : World} {sp : Nat → Bool} : ∀ (fuel : Nat) (cs : List Value) (x : DataW H × List MemPlace), DataW.trod enc Tryd.prog w 0 sp true fuel 29 cs = some x →
    ∃ (t : S29) (A : Option Addr) (c : Nat), cs = [.int .i64 t.f0, .string t.f1, .int .i64 t.f2, .slice A t.f3.length c] ∧ t.f3.length ≤ c ∧ Kd.C k29 w A t.f3.length t.f3 ∧ okT t ∧ nT t ≤ Rows.uptoBulk x.1 := by
  intro fuel
  induction fuel using Nat.strongRecOn with
  | ind fuel ih =>
    intro cs x hx
    obtain ⟨xs, n, rfl, rfl, hcl, hxl, hf⟩ := DataW.trod_struct Tryd.underlying29 hx
    have c25 : Tryd.prog.cellsOf 29 = 4 := by kernel_rfl
    have c22 : Tryd.prog.cellsOf 26 = 1 := by kernel_rfl
    have c9 : Tryd.prog.cellsOf 9 = 1 := by kernel_rfl
    have c3 : Tryd.prog.cellsOf 3 = 1 := by kernel_rfl
    have c23 : Tryd.prog.cellsOf 27 = 1 := by kernel_rfl
    rw [c25] at hcl
    match cs, hcl with
    | [v0, v1, v2, v3], _ =>
      have f0 : DataW.trod enc Tryd.prog w 0 sp true n 26 [v0] = xs[0]? := by have := hf 0 _ rfl; change DataW.trod enc Tryd.prog w 0 sp true n 26 (List.take (Tryd.prog.cellsOf 26) [v0, v1, v2, v3]) = _ at this; rwa [c22] at this
      have f1 : DataW.trod enc Tryd.prog w 0 sp true n 9 [v1] = xs[1]? := by have := hf 1 _ rfl; change DataW.trod enc Tryd.prog w 0 sp true n 9 (List.take (Tryd.prog.cellsOf 9) [v1, v2, v3]) = _ at this; rwa [c9] at this
      have f2 : DataW.trod enc Tryd.prog w 0 sp true n 3 [v2] = xs[2]? := by have := hf 2 _ rfl; change DataW.trod enc Tryd.prog w 0 sp true n 3 (List.take (Tryd.prog.cellsOf 3) [v2, v3]) = _ at this; rwa [c3] at this
      have f3 : DataW.trod enc Tryd.prog w 0 sp true n 27 [v3] = xs[3]? := by have := hf 3 _ rfl; change DataW.trod enc Tryd.prog w 0 sp true n 27 (List.take (Tryd.prog.cellsOf 27) [v3]) = _ at this; rwa [c23] at this
      match xs, hxl with
      | [y0, y1, y2, y3], _ =>
        simp only [List.getElem?_cons_zero, List.getElem?_cons_succ] at f0 f1 f2 f3
        obtain ⟨k, e0, rfl, hk⟩ := DataW.trod_int Tryd.underlying26 f0
        obtain ⟨s, e1, rfl, hs⟩ := DataW.trod_string Tryd.underlying9 f1
        obtain ⟨m, e2, rfl, hm⟩ := DataW.trod_int Tryd.underlying3 f2
        simp only [List.cons.injEq, and_true] at e0 e1 e2
        subst e0 e1 e2
        have hk' : i64 k := by have h := hk; simp only [Lit.wf, show IntKind.i64.min = -9223372036854775808 from rfl, show IntKind.i64.max = 9223372036854775807 from rfl, Bool.and_eq_true, decide_eq_true_eq] at h; exact h
        have hm' : i64 m := by have h := hm; simp only [Lit.wf, show IntKind.i64.min = -9223372036854775808 from rfl, show IntKind.i64.max = 9223372036854775807 from rfl, Bool.and_eq_true, decide_eq_true_eq] at h; exact h
        rcases DataW.trod_slice Tryd.underlying27 f3 with ⟨e3, rfl⟩ | ⟨a, len, cap, elems, rest, n', rfl, e3, rfl, _, hlc, hcm, hel, hat, _, _⟩
        · simp only [List.cons.injEq, and_true] at e3
          subst e3
          refine ⟨⟨k, s, m, []⟩, none, 0, rfl, Nat.le_refl _, Kd.C_nil _ _, ?_, ?_⟩
          · rw [okT_eq]; exact ⟨hk', hm', by simp [okL]⟩
          · rw [nT_eq]
            have hsz : s.data.toList.length = s.size := by rw [Array.length_toList]; rfl
            simp only [nL, Rows.uptoBulk, Rows.uptoBulkAll, List.map_cons, List.map_nil, hsz]
            omega
        · simp only [List.cons.injEq, and_true] at e3
          subst e3
          rw [c25] at hat
          obtain ⟨l, hll, hokl, hnl, hr⟩ := openL n' a (ih n' (by omega)) elems 0 (fun i hi => by rw [Nat.zero_add]; exact hat i (by omega))
          have hlen : l.length = len := by omega
          refine ⟨⟨k, s, m, l⟩, some a, cap, by rw [hlen], by simp only; omega, ?_, ?_, ?_⟩
          · refine ⟨rfl, by simp only [maxLen] at hcm; simp only; omega, fun _ => ⟨a, rfl, fun j p hj => ?_⟩⟩
            obtain ⟨c, h1, h2, h3⟩ := hr j p hj
            rw [Nat.zero_add] at h3
            exact ⟨c, h1, h2, h3⟩
          · rw [okT_eq]; exact ⟨hk', hm', hokl⟩
          · rw [nT_eq]
            have hsz : s.data.toList.length = s.size := by rw [Array.length_toList]; rfl
            simp only [Rows.uptoBulk, Rows.uptoBulkAll, List.map_cons, List.map_nil, hsz]
            omega
end Go.Proofs.YtimommkbfbdkdaaDoor.P
namespace Go.Proofs.YtimommkbfbdkdaaDoor.P
set_option maxRecDepth 100000
open Go.ChangeShapes Go.WideShapes Go.ChangeAt Go.RowKit

theorem own : ownKnob Tryd.prog.godebug = none := by kernel_rfl
theorem laidOut : laidOutB Tryd.prog = true := by kernel_rfl
def laidL : List (String × DataW Unit) := [("math/bits.deBruijn32tab", Rows.laid_math_bits_deBruijn32tab), ("math/bits.deBruijn64tab", Rows.laid_math_bits_deBruijn64tab), ("internal/strconv.uint64pow10", Rows.laid_internal_strconv_uint64pow10)]

/-- WHAT THE ROW's LIST GIVES: the table of powers of ten. -/
theorem laid_table {W : World} (h : laidMetH Tryd.prog laidL W) : Laid W := by
  have h1 := h.filter (fun x => x.1 == "internal/strconv.uint64pow10")
  have e : (laidL.filter fun x => x.1 == "internal/strconv.uint64pow10") = [("internal/strconv.uint64pow10", Lib.tabData .u64 Lib.pow10Tab)] := by kernel_rfl
  rw [e] at h1
  exact Lib.tabIs_of_head (rest := []) gPow (show (Tryd.prog.globals[1]?).map (·.type) = some 104 by kernel_rfl) Tryd.underlying104 Tryd.underlying97 (by kernel_rfl) (by kernel_rfl) h1

def litCell : DataW Unit → Value
  | .lit (.int k n) => .int k n
  | _ => undef
def rowCells : DataW Unit → Array Value
  | .agg l => (l.map litCell).toArray
  | _ => #[]
def putCells (cs : Array Value) : Obj → Obj
  | .cells _ t frozen => .cells cs t frozen
  | o => o
/-- A WORLD FOR THE WITNESS: the settled one, the tables holding what their initialisers lay. -/
noncomputable def laidWorld (os : Os) : World :=
  { World.holding Tryd.prog os ⟨#[], #[], []⟩ with heap := (((World.holding Tryd.prog os ⟨#[], #[], []⟩).heap.modify 1 (putCells (rowCells Rows.laid_internal_strconv_uint64pow10))).modify 2 (putCells (rowCells Rows.laid_math_bits_deBruijn32tab))).modify 3 (putCells (rowCells Rows.laid_math_bits_deBruijn64tab)) }

/-- An argument of the type of terms. -/
theorem argT {H : Type} {enc : TypeId × Value → H} {W : World} {base : Nat} {v : Value} {d : DataW H} {ps : List MemPlace} (hval : Value.okWide Tryd.prog W .any base 29 v) (h : DataW.Trod enc Tryd.prog W 0 (fun _ => true) true 29 v d ps) :
    ∃ (t : S29) (A : Option Addr) (c : Nat), v = .agg #[.int .i64 t.f0, .string t.f1, .int .i64 t.f2, .slice A t.f3.length c] ∧ IsT W v t ∧ okT t ∧ nT t ≤ Rows.uptoBulk d := by
  obtain ⟨cs, rfl, _⟩ := okWide_struct Tryd.underlying29 hval
  obtain ⟨fuel, hf⟩ := h
  obtain ⟨t, A, c, e, hl, hC, hok, hn⟩ := open29 fuel _ _ hf
  have e' : cs = #[.int .i64 t.f0, .string t.f1, .int .i64 t.f2, .slice A t.f3.length c] := by
    apply Array.toList_inj.1
    exact e
  subst e'
  exact ⟨t, A, c, rfl, ⟨A, c, rfl, hl, hC⟩, hok, hn⟩
/-- A term argument reads behind the call as it read before. -/
theorem backT {H : Type} {enc : TypeId × Value → H} {W W' : World} {v : Value} {d : DataW H} {ps : List MemPlace} (h : DataW.Trod enc Tryd.prog W 0 (fun _ => true) true 29 v d ps) (hb : Below W.heap.size W W') :
    DataW.Trod enc Tryd.prog W' 0 (fun b => decide (b < W.heap.size)) true 29 v d ps :=
  Below.trod laidOut (by kernel_rfl) (of_decide_eq_true (by kernel_rfl)) h hb (by obtain ⟨m, hm⟩ := h; exact DataW.trod_lt m _ _ _ hm)
theorem bound {H : Type} {l : List (DataW H)} (hk : Rows.uptoSmall H l = true) : Rows.uptoBulkAll l ≤ 1048576 := by
  simpa [Rows.uptoSmall] using hk
def wit : Value := .agg #[.int .i64 0, .string ⟨#[]⟩, .int .i64 0, .slice none 0 0]
end Go.Proofs.YtimommkbfbdkdaaDoor.P
