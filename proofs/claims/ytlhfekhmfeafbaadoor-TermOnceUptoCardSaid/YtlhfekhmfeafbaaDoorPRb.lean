/- What all rows of this seat share: the laid tables' fact, a world for the witness. -/
import Derived.Test.YtlhfekhmfeafbaaDoorPRa
import Derived.Test.YtlhfekhmfeafbaaDoorCards
import Derived.Test.YtlhfekhmfeafbaaDoorTie
import Derived.WideShapes
namespace Go.Proofs.YtlhfekhmfeafbaaDoor.P
open Go.ChangeShapes Go.WideShapes Go.ChangeAt Go.RowKit

theorem own : ownKnob Tryd.prog.godebug = none := by kernel_rfl
theorem laidOut : laidOutB Tryd.prog = true := by kernel_rfl
def laidL : List (String × DataW Unit) := [("math/bits.deBruijn32tab", Rows.laid_math_bits_deBruijn32tab), ("math/bits.deBruijn64tab", Rows.laid_math_bits_deBruijn64tab), ("internal/strconv.uint64pow10", Rows.laid_internal_strconv_uint64pow10)]

/-- WHAT THE ROW's LIST GIVES: the table of powers of ten. -/
theorem laid_table {W : World} (h : laidMetH Tryd.prog laidL W) : Laid W := by
  have h1 := h.filter (fun x => x.1 == "internal/strconv.uint64pow10")
  have e : (laidL.filter fun x => x.1 == "internal/strconv.uint64pow10") = [("internal/strconv.uint64pow10", Lib.tabData .u64 Lib.pow10Tab)] := by kernel_rfl
  rw [e] at h1
  exact Lib.tabIs_of_head (rest := []) gPow (show (Tryd.prog.globals[1]?).map (·.type) = some 90 by kernel_rfl) Tryd.underlying90 Tryd.underlying83 (by kernel_rfl) (by kernel_rfl) h1

def litCell : DataW Unit → Value
  | .lit (.int k n) => .int k n
  | _ => undef
def rowCells : DataW Unit → Array Value
  | .agg l => (l.map litCell).toArray
  | _ => #[]
def putCells (cs : Array Value) : Obj → Obj
  | .cells _ t frozen => .cells cs t frozen
  | o => o
/-- A WORLD FOR THE WITNESS: the settled one, the tables holding what their initialisers lay. -/
noncomputable def laidWorld (os : Os) : World :=
  { World.holding Tryd.prog os ⟨#[], #[], []⟩ with heap := (((World.holding Tryd.prog os ⟨#[], #[], []⟩).heap.modify 1 (putCells (rowCells Rows.laid_internal_strconv_uint64pow10))).modify 2 (putCells (rowCells Rows.laid_math_bits_deBruijn32tab))).modify 3 (putCells (rowCells Rows.laid_math_bits_deBruijn64tab)) }

/-- An argument of the type of terms. -/
theorem argT {H : Type} {enc : TypeId × Value → H} {W : World} {base : Nat} {v : Value} {d : DataW H} {ps : List MemPlace} (hval : Value.okWide Tryd.prog W .any base 25 v) (h : DataW.Trod enc Tryd.prog W 0 (fun _ => true) true 25 v d ps) :
    ∃ (t : S25) (A : Option Addr) (c : Nat), v = .agg #[.int .i64 t.f0, .string t.f1, .int .i64 t.f2, .slice A t.f3.length c] ∧ IsT W v t ∧ okT t ∧ nT t ≤ Rows.uptoBulk d := by
  obtain ⟨cs, rfl, _⟩ := okWide_struct Tryd.underlying25 hval
  obtain ⟨fuel, hf⟩ := h
  obtain ⟨t, A, c, e, hl, hC, hok, hn⟩ := open25 fuel _ _ hf
  have e' : cs = #[.int .i64 t.f0, .string t.f1, .int .i64 t.f2, .slice A t.f3.length c] := by
    apply Array.toList_inj.1
    exact e
  subst e'
  exact ⟨t, A, c, rfl, ⟨A, c, rfl, hl, hC⟩, hok, hn⟩
/-- A term argument reads behind the call as it read before. -/
theorem backT {H : Type} {enc : TypeId × Value → H} {W W' : World} {v : Value} {d : DataW H} {ps : List MemPlace} (h : DataW.Trod enc Tryd.prog W 0 (fun _ => true) true 25 v d ps) (hb : Below W.heap.size W W') :
    DataW.Trod enc Tryd.prog W' 0 (fun b => decide (b < W.heap.size)) true 25 v d ps :=
  Below.trod laidOut (by kernel_rfl) (of_decide_eq_true (by kernel_rfl)) h hb (by obtain ⟨m, hm⟩ := h; exact DataW.trod_lt m _ _ _ hm)
theorem bound {H : Type} {l : List (DataW H)} (hk : Rows.uptoSmall H l = true) : Rows.uptoBulkAll l ≤ 1048576 := by
  simpa [Rows.uptoSmall] using hk
def wit : Value := .agg #[.int .i64 0, .string ⟨#[]⟩, .int .i64 0, .slice none 0 0]
end Go.Proofs.YtlhfekhmfeafbaaDoor.P
