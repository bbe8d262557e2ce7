/- Small facts on worlds behind boxes that a call lays: what lay there, and what the boxes hold. -/
import Derived.Test.YtimommkbfbdkdaaDoorPx0
namespace Go.Proofs.YtimommkbfbdkdaaDoor.P
open Go.RowKit Go.Proofs.YtimommkbfbdkdaaDoorW.PrintWords Go.Proofs.YtimommkbfbdkdaaDoorW.PrintLast Go.Proofs.YtimommkbfbdkdaaDoorW.PrintMore

theorem info9 : (Tryd.prog.info? 9).map (fun i => (i.zero, i.size, i.bytes)) = some (some (.string ⟨#[]⟩), 1, 16) := by kernel_rfl
theorem box_new (w : World) (o : Obj) : (w.alloc o).heap[w.heap.size]? = some o := heap_alloc_new w o
theorem one_box {w w1 : World} {o : Obj} (hb : Below (w.alloc o).heap.size (w.alloc o) w1) : Below w.heap.size w w1 ∧ w.heap.size + 1 ≤ w1.heap.size ∧ w1.heap[w.heap.size]? = some o := by
  have h0 : (w.alloc o).heap.size = w.heap.size + 1 := World.size_alloc w o
  refine ⟨((Below.refl _ w).alloc (Nat.le_refl _) _).trans (hb.mono (by omega)), by have := hb.size; omega, ?_⟩
  rw [hb.block _ (by omega)]
  exact box_new w o
theorem two_boxes {w w1 : World} {o o2 : Obj} (hb : Below ((w.alloc o).alloc o2).heap.size ((w.alloc o).alloc o2) w1) :
    Below w.heap.size w w1 ∧ w.heap.size + 2 ≤ w1.heap.size ∧ w1.heap[w.heap.size]? = some o ∧ w1.heap[w.heap.size + 1]? = some o2 := by
  have h0 : (w.alloc o).heap.size = w.heap.size + 1 := World.size_alloc w o
  obtain ⟨h1, h2, h3⟩ := one_box hb
  refine ⟨((Below.refl _ w).alloc (Nat.le_refl _) _).trans (h1.mono (by omega)), by omega, ?_, ?_⟩
  · rw [h1.block _ (by omega)]
    exact box_new w o
  · rw [← h0]; exact h3
/-- A box of a term's cells, as the walk reads it. -/
theorem box_cells {w : World} {g : Nat} {a : Int} {b : ByteArray} {n : Int} {v : Value} (h : w.heap[g]? = some (.cells #[.int .i64 a, .string b, .int .i64 n, v] 29 (0, 0))) :
    w.cell? ⟨g, 0, none⟩ = some (.int .i64 a) ∧ w.cell? ⟨g, 1, none⟩ = some (.string b) ∧ w.cell? ⟨g, 2, none⟩ = some (.int .i64 n) ∧ w.cell? ⟨g, 3, none⟩ = some v :=
  ⟨(blk_cell h 0).trans rfl, (blk_cell h 1).trans rfl, (blk_cell h 2).trans rfl, (blk_cell h 3).trans rfl⟩
/-- The four cells of a term's box, stored anew. -/
def put4 (w : World) (g : Nat) (a b n v : Value) : World := (((w.setCell ⟨g, 0, none⟩ a).setCell ⟨g, 1, none⟩ b).setCell ⟨g, 2, none⟩ n).setCell ⟨g, 3, none⟩ v
theorem put4_block {w : World} {g : Nat} {a b n v a' b' n' v' : Value} (h : w.heap[g]? = some (.cells #[a, b, n, v] 29 (0, 0))) : (put4 w g a' b' n' v').heap[g]? = some (.cells #[a', b', n', v'] 29 (0, 0)) :=
  blk_put (cs := #[a', b', n', v]) (blk_put (cs := #[a', b', n, v]) (blk_put (cs := #[a', b, n, v]) (blk_put (cs := #[a, b, n, v]) h 0 _ rfl) 1 _ rfl) 2 _ rfl) 3 _ rfl
theorem put4_below {B : Nat} {w W : World} {g : Nat} {a b n v : Value} (h : Below B w W) (hg : B ≤ g) : Below B w (put4 W g a b n v) :=
  (((h.setCell (p := ⟨g, 0, none⟩) hg a).setCell (p := ⟨g, 1, none⟩) hg b).setCell (p := ⟨g, 2, none⟩) hg n).setCell (p := ⟨g, 3, none⟩) hg v
theorem put4_other {w : World} {g k : Nat} {a b n v : Value} (hk : k ≠ g) : (put4 w g a b n v).heap[k]? = w.heap[k]? := by
  unfold put4
  rw [Below.heap_setCell _ _ _ _ hk, Below.heap_setCell _ _ _ _ hk, Below.heap_setCell _ _ _ _ hk, Below.heap_setCell _ _ _ _ hk]
theorem R_put4 {α : Type} {d : Kd α} {e : Nat} {w : World} {base : Nat} {ok : Nat → Prop} {u : Value} {xs : List α} (h : d.R e w base ok u xs) {g : Nat} {a b n v : Value} (hg : g < base) : d.R e (put4 w g a b n v) base ok u xs :=
  Kd.R_mono (Kd.R_step (Kd.R_bound h) (fun k hk _ => put4_other (by have := hk.2.1; omega))) (fun _ hk => hk.1)
end Go.Proofs.YtimommkbfbdkdaaDoor.P
