/- The reader of a container's words: plain, next, each, flag answer as plain functions. The reader's next, each and flag answer as plain functions. The reader's each and flag answer as plain functions. -/
import Derived.Test.YtimommkbfbdkdaaDoorPAb
import Derived.Test.YtimommkbfbdkdaaDoorPAd
namespace Go.Proofs.YtimommkbfbdkdaaDoor.P
open Go.RowKit Go.Proofs.YtimommkbfbdkdaaDoorW.PrintWords Go.Proofs.YtimommkbfbdkdaaDoorW.PrintLast Go.Proofs.YtimommkbfbdkdaaDoorW.PrintMore
set_option linter.unusedVariables false
set_option linter.unusedSimpArgs false

/-- All but the block g lies as it lay. -/
def Up (w w' : World) (g : Nat) : Prop := KeepBut w w' g none ∧ ∀ B w0, Below B w0 w → B ≤ g → Below B w0 w'
theorem Up.refl (w : World) (g : Nat) : Up w w g := ⟨KeepBut.refl _ _ _, fun _ _ h _ => h⟩
theorem Up.size {w w' : World} {g : Nat} (h : Up w w' g) : w.heap.size ≤ w'.heap.size := h.1.1
theorem Up.blk {w w' : World} {g k : Nat} {o : Obj} (h : Up w w' g) (hk : k ≠ g) (hb : w.heap[k]? = some o) : w'.heap[k]? = some o := (h.1.2 k (blk_lt hb) hk (by simp)).trans hb
theorem Up.trans {w w1 w2 : World} {g : Nat} (h : Up w w1 g) (k : Up w1 w2 g) : Up w w2 g :=
  ⟨⟨Nat.le_trans h.size k.size, fun i hi hg hr => (k.1.2 i (Nat.lt_of_lt_of_le hi h.size) hg hr).trans (h.1.2 i hi hg hr)⟩, fun B w0 hb hB => k.2 B w0 (h.2 B w0 hb hB) hB⟩
theorem Up.of_below {w w' : World} (g : Nat) (h : Below w.heap.size w w') (hg : g < w.heap.size) : Up w w' g :=
  ⟨KeepBut.of_below h g none, fun B w0 hb hB => hb.trans (h.mono (by omega))⟩
theorem Up.set {w w' : World} {g : Nat} (h : Up w w' g) (j : Nat) (u : Value) : Up w (w'.setCell ⟨g, j, none⟩ u) g :=
  ⟨h.1.set_ j u, fun B w0 hb hB => (h.2 B w0 hb hB).setCell (p := ⟨g, j, none⟩) hB u⟩
theorem Up.alloc {w w' : World} {g : Nat} (h : Up w w' g) (hg : g < w.heap.size) (o : Obj) : Up w (w'.alloc o) g :=
  ⟨h.1.trans (KeepBut.of_below (below_alloc (Below.refl _ _) o) g none) (.inl rfl), fun B w0 hb hB => (h.2 B w0 hb hB).alloc (by have := h.size; omega) o⟩

/-! plain: has a word just the fields of its kind? -/
def pOdd (t : S29) : Bool := if t.f0 = 0 then (t.f2 != 0 || decide (0 < (t.f3.length : Int))) else if t.f0 = 1 then ((!t.f1.toList.isEmpty) || decide (0 < (t.f3.length : Int))) else ((!t.f1.toList.isEmpty) || t.f2 != 0)

theorem pOdd_tri (t : S29) :
    ((t.f0 == 0) = true ∧ (t.f2 != 0) = true ∧ pOdd t = true) ∨
    ((t.f0 == 0) = true ∧ (t.f2 != 0) = false ∧ (0 < (t.f3.length : Int)) ∧ pOdd t = true) ∨
    ((t.f0 == 0) = true ∧ (t.f2 != 0) = false ∧ ¬ (0 < (t.f3.length : Int)) ∧ pOdd t = false) ∨
    ((t.f0 == 0) = false ∧ (t.f0 == 1) = true ∧ (!t.f1.toList.isEmpty) = true ∧ pOdd t = true) ∨
    ((t.f0 == 0) = false ∧ (t.f0 == 1) = true ∧ (!t.f1.toList.isEmpty) = false ∧ (0 < (t.f3.length : Int)) ∧ pOdd t = true) ∨
    ((t.f0 == 0) = false ∧ (t.f0 == 1) = true ∧ (!t.f1.toList.isEmpty) = false ∧ ¬ (0 < (t.f3.length : Int)) ∧ pOdd t = false) ∨
    ((t.f0 == 0) = false ∧ (t.f0 == 1) = false ∧ (!t.f1.toList.isEmpty) = true ∧ pOdd t = true) ∨
    ((t.f0 == 0) = false ∧ (t.f0 == 1) = false ∧ (!t.f1.toList.isEmpty) = false ∧ (t.f2 != 0) = true ∧ pOdd t = true) ∨
    ((t.f0 == 0) = false ∧ (t.f0 == 1) = false ∧ (!t.f1.toList.isEmpty) = false ∧ (t.f2 != 0) = false ∧ pOdd t = false) := by
  have e0 : ∀ n : Int, (t.f0 == n) = true → t.f0 = n := fun n h => by simpa using h
  have n0 : ∀ n : Int, (t.f0 == n) = false → ¬ t.f0 = n := fun n h => by simpa using h
  cases k0 : (t.f0 == 0) with
  | true =>
    have hv : pOdd t = ((t.f2 != 0) || decide (0 < (t.f3.length : Int))) := by unfold pOdd; rw [if_pos (e0 0 k0)]
    rw [hv]
    cases k2 : (t.f2 != 0) <;> by_cases k4 : (0 < (t.f3.length : Int)) <;> simp only [k4, decide_true, decide_false, Bool.or_true, Bool.true_or, Bool.or_false, Bool.false_or, true_and, and_true, false_and, and_false, or_false, false_or, true_or, or_true, not_true_eq_false, not_false_eq_true, reduceCtorEq]
  | false =>
    cases k1 : (t.f0 == 1) with
    | true =>
      have hv : pOdd t = ((!t.f1.toList.isEmpty) || decide (0 < (t.f3.length : Int))) := by unfold pOdd; rw [if_neg (n0 0 k0), if_pos (e0 1 k1)]
      rw [hv]
      cases k3 : (!t.f1.toList.isEmpty) <;> by_cases k4 : (0 < (t.f3.length : Int)) <;> simp only [k4, decide_true, decide_false, Bool.or_true, Bool.true_or, Bool.or_false, Bool.false_or, true_and, and_true, false_and, and_false, or_false, false_or, true_or, or_true, not_true_eq_false, not_false_eq_true, reduceCtorEq]
    | false =>
      have hv : pOdd t = ((!t.f1.toList.isEmpty) || (t.f2 != 0)) := by unfold pOdd; rw [if_neg (n0 0 k0), if_neg (n0 1 k1)]
      rw [hv]
      cases k3 : (!t.f1.toList.isEmpty) <;> cases k2 : (t.f2 != 0) <;> simp only [Bool.or_true, Bool.true_or, Bool.or_false, Bool.false_or, true_and, and_true, false_and, and_false, or_false, false_or, true_or, or_true, reduceCtorEq]

set_option maxHeartbeats 4000000 in
set_option maxRecDepth 100000 in
theorem plain_calls (g : Nat) (u : Value) (t : S29) (A : Option Addr) (c : Nat) (w : World) (hg : w.heap[g]? = some (.cells #[u, .bool false] 64 (0, 0))) :
    Calls Tryd.prog 58 #[.pointer (some ⟨g, 0, none⟩), .agg #[.int .i64 t.f0, .string t.f1, .int .i64 t.f2, .slice A t.f3.length c]] w fun e w' => e = .returned (.tuple #[]) ∧ w'.heap[g]? = some (.cells #[u, .bool (pOdd t)] 64 (0, 0)) ∧ Up w w' g := by
  have hu29 := Tryd.underlying29
  have hu64 := Tryd.underlying64
  have hgl := blk_lt hg
  have hgo : ∀ o, (w.alloc o).cell? ⟨g, 1, none⟩ = some (.bool false) := fun o => (blk_cell (blk_alloc hg o) 1).trans rfl
  have hfo : ∀ o, (w.alloc o).frozen? ⟨g, 1, none⟩ = false := fun o => blk_frozen (blk_alloc hg o) 1
  have FIN : Aside0 (∀ o b, pOdd t = b → ((w.setCell ⟨g, 1, none⟩ (.bool b)).alloc o).heap[g]? = some (.cells #[u, .bool (pOdd t)] 64 (0, 0)) ∧ Up w ((w.setCell ⟨g, 1, none⟩ (.bool b)).alloc o) g) :=
    ⟨fun o b hb => ⟨by rw [hb]; exact blk_alloc (blk_put (cs := #[u, .bool false]) hg 1 _ rfl) o, ((Up.refl w g).set 1 _).alloc hgl o⟩⟩
  clear hg
  rcases pOdd_tri t with ⟨k0, k2, hp⟩ | ⟨k0, k2, k4, hp⟩ | ⟨k0, k2, k4, hp⟩ | ⟨k0, k1, k3, hp⟩ | ⟨k0, k1, k3, k4, hp⟩ | ⟨k0, k1, k3, k4, hp⟩ | ⟨k0, k1, k3, hp⟩ | ⟨k0, k1, k3, k2, hp⟩ | ⟨k0, k1, k3, k2, hp⟩
  all_goals
    have HP := Aside0.mk hp
    clear hp
    go_enter Tryd.func58, Tryd.ntmps58
  all_goals go_wp2_with fail
  all_goals (first | go_end0 | ((try simp only [Exit.inBlock, Exit.then]); refine bodyPost_ret (results_none rfl _ _ _) rfl ?_))
  all_goals first | exact ⟨rfl, FIN.out _ _ HP.out⟩ | exact ⟨rfl, FIN.out _ _ (by rw [HP.out]; first | rfl | (symm; exact decide_eq_true (by omega)) | (symm; exact decide_eq_false (by omega)))⟩
end Go.Proofs.YtimommkbfbdkdaaDoor.P
namespace Go.Proofs.YtimommkbfbdkdaaDoor.P
open Go.RowKit Go.Proofs.YtimommkbfbdkdaaDoorW.PrintWords Go.Proofs.YtimommkbfbdkdaaDoorW.PrintLast Go.Proofs.YtimommkbfbdkdaaDoorW.PrintMore
set_option linter.unusedVariables false
set_option linter.unusedSimpArgs false

/-- A reader at the block g: what is left, of terms of the elder world w0, and whether a word was odd. -/
def Rd (w0 w : World) (g : Nat) (l : List S29) (odd : Bool) : Prop := ∃ A c, w.heap[g]? = some (.cells #[.slice A l.length c, .bool odd] 64 (0, 0)) ∧ l.length ≤ c ∧ Kd.C k29 w0 A l.length l
def nx : List S29 → Bool → Int → S29 × List S29 × Bool
  | x :: r, false, k => if x.f0 = k then (x, r, pOdd x) else (z29, x :: r, true)
  | [], _, _ => (z29, [], true)
  | x :: r, true, _ => (z29, x :: r, true)
theorem nx_odd (l : List S29) (k : Int) : nx l true k = (z29, l, true) := by cases l <;> rfl
theorem nx_nil (o : Bool) (k : Int) : nx [] o k = (z29, [], true) := by cases o <;> rfl
theorem isT_z (w : World) : IsT w (.agg #[.int .i64 0, .string ⟨#[]⟩, .int .i64 0, .slice none 0 0]) z29 := ⟨none, 0, rfl, Nat.le_refl _, C_nil0 _ _⟩
theorem info29_size : ∃ i, Tryd.prog.info? 29 = some i ∧ i.size = 4 := by
  have h := info29
  cases hi : Tryd.prog.info? 29 with
  | none => rw [hi] at h; simp at h
  | some i => rw [hi] at h; simp at h; exact ⟨i, rfl, h.2.1⟩
theorem cut_one (A : Option Addr) (r : List S29) (c : Nat) (w0 : World) (t : S29) (hC : Kd.C k29 w0 A (t :: r).length (t :: r)) (hc : (t :: r).length ≤ c) :
    ∃ A', (∀ W : World, (Instr.slice 27 (.slice A (r.length + 1) c) (some (.int .i64 1)) none none).run Tryd.prog W = .ok (.slice A' r.length (c - 1)) W) ∧ Kd.C k29 w0 A' r.length r ∧ r.length ≤ c - 1 := by
  obtain ⟨i, hi, hsz⟩ := info29_size
  refine ⟨if c = 1 then A else A.map (·.add (1 * 4)), fun W => ?_, ?_, by rw [List.length_cons] at hc; omega⟩
  · have := cut_from (P := Tryd.prog) 27 29 .i64 Tryd.underlying27 hi 4 hsz A (r.length + 1) c 1 (by decide) (by omega) W
    simpa using this
  · have := Kd.C_drop (m := 1) (c := c) hC (by rw [List.length_cons]; omega) hc
    exact this

theorem Up.far4 {w w' : World} {g h : Nat} {a b n v : Value} (hu : Up w w' g) (hh : w.heap.size ≤ h) (hg : g < w.heap.size) : Up w (put4 w' h a b n v) g := by
  refine ⟨⟨?_, fun i hi hne hr => (put4_other (by omega)).trans (hu.1.2 i hi hne hr)⟩, fun B w0 hb hB => put4_below (hu.2 B w0 hb hB) (by omega)⟩
  unfold put4; simpa using hu.size

set_option maxHeartbeats 4000000 in
set_option maxRecDepth 100000 in
theorem next_calls (w0 w : World) (g : Nat) (l : List S29) (odd : Bool) (k : Int) (hR : Rd w0 w g l odd) (hB : Below w0.heap.size w0 w) (hg0 : w0.heap.size ≤ g) :
    Calls Tryd.prog 45 #[.pointer (some ⟨g, 0, none⟩), .int .i64 k] w fun e w' => ∃ v, e = .returned v ∧ IsT w0 v (nx l odd k).1 ∧ Rd w0 w' g (nx l odd k).2.1 (nx l odd k).2.2 ∧ Up w w' g := by
  obtain ⟨A, c, hg, hl, hC⟩ := hR
  have hu29 := Tryd.underlying29
  have hu64 := Tryd.underlying64
  have hgl := blk_lt hg
  have hg0' : ∀ o, (w.alloc o).cell? ⟨g, 0, none⟩ = some (.slice A l.length c) := fun o => (blk_cell (blk_alloc hg o) 0).trans rfl
  have hg1' : ∀ o, (w.alloc o).cell? ⟨g, 1, none⟩ = some (.bool odd) := fun o => (blk_cell (blk_alloc hg o) 1).trans rfl
  have hfo : ∀ o, (w.alloc o).frozen? ⟨g, 1, none⟩ = false := fun o => blk_frozen (blk_alloc hg o) 1
  have hf00 : ∀ o, (w.alloc o).frozen? ⟨g, 0, none⟩ = false := fun o => blk_frozen (blk_alloc hg o) 0
  have hf000 : ∀ o o2, ((w.alloc o).alloc o2).frozen? ⟨g, 0, none⟩ = false := fun o o2 => blk_frozen (blk_alloc (blk_alloc hg o) o2) 0
  have hne : ¬ w.heap.size = g := by omega
  have hne2 : ¬ g = w.heap.size := by omega
  have HC := Aside0.mk hC
  have HG := Aside0.mk hg
  -- an odd word: it is told, and a bare term handed out
  have FIN : Aside0 (∀ o, (w.setCell ⟨g, 1, none⟩ (.bool true)).alloc o |>.heap[g]? = some (.cells #[.slice A l.length c, .bool true] 64 (0, 0))) := ⟨fun o => blk_alloc (blk_put (cs := #[.slice A l.length c, .bool odd]) hg 1 _ rfl) o⟩
  have FIU : Aside0 (∀ o, Up w ((w.setCell ⟨g, 1, none⟩ (.bool true)).alloc o) g) := ⟨fun o => ((Up.refl w g).set 1 _).alloc hgl o⟩
  clear hg hC
  have HN : Aside0 (∀ {o : Obj}, ((w.setCell ⟨g, 1, none⟩ (.bool true)).alloc o).heap[w.heap.size]? = some o) := ⟨fun {o} => by have := box_new (w.setCell ⟨g, 1, none⟩ (.bool true)) o; simpa using this⟩
  cases odd with
  | true =>
    rw [nx_odd]
    go_enter Tryd.func45, Tryd.ntmps45
    go_wp2_with fail
    refine bodyPost_ret (results_cell_row rfl _ _ w.heap.size 29 #[.int .i64 0, .string (⟨#[]⟩ : ByteArray), .int .i64 0, .slice none 0 0] (0, 0) _ rfl HN.out Tryd.underlying29 rfl (by kernel_rfl)) rfl ?_
    exact ⟨_, rfl, isT_z w0, ⟨A, c, FIN.out _, hl, HC.out⟩, FIU.out _⟩
  | false =>
  cases l with
  | nil =>
    rw [nx_nil]
    go_enter Tryd.func45, Tryd.ntmps45
    go_wp2_with fail
    refine bodyPost_ret (results_cell_row rfl _ _ w.heap.size 29 #[.int .i64 0, .string (⟨#[]⟩ : ByteArray), .int .i64 0, .slice none 0 0] (0, 0) _ rfl HN.out Tryd.underlying29 rfl (by kernel_rfl)) rfl ?_
    exact ⟨_, rfl, isT_z w0, ⟨A, c, FIN.out _, hl, HC.out⟩, FIU.out _⟩
  | cons x r =>
  obtain ⟨ad, A3, c3, e1, hx0, hx1, hx2, hx3, hl3, hi3⟩ := at_T29 HC.out 0 (by decide) (by rw [List.length_cons]; omega)
  cases e1
  have hrd : rd_T29 (x :: r) 0 = x := rfl
  rw [hrd] at hx0 hx1 hx2 hx3 hl3 hi3
  have hz4 : ad.add (Int.toNat 0 * 4) = ad := by simp [Addr.add]
  rw [hz4] at hx0 hx1 hx2 hx3
  have hadd : ad.add 0 = ad := by simp [Addr.add]
  replace hx0 := (hB.cell (World.block_lt_of_cell? w0 _ hx0)).trans hx0
  replace hx1 := (hB.cell (World.block_lt_of_cell? w0 _ hx1)).trans hx1
  replace hx2 := (hB.cell (World.block_lt_of_cell? w0 _ hx2)).trans hx2
  replace hx3 := (hB.cell (World.block_lt_of_cell? w0 _ hx3)).trans hx3
  have hx0' : ∀ o, (w.alloc o).cell? ad = some (.int .i64 x.f0) := fun o => pw_cell_below (below_alloc (Below.refl _ _) o) hx0
  have hx1' : ∀ o, (w.alloc o).cell? ⟨ad.block, ad.off + 1, none⟩ = some (.string x.f1) := fun o => pw_cell_below (below_alloc (Below.refl _ _) o) hx1
  have hx2' : ∀ o, (w.alloc o).cell? ⟨ad.block, ad.off + 2, none⟩ = some (.int .i64 x.f2) := fun o => pw_cell_below (below_alloc (Below.refl _ _) o) hx2
  have hx3' : ∀ o, (w.alloc o).cell? ⟨ad.block, ad.off + 3, none⟩ = some (.slice A3 x.f3.length c3) := fun o => pw_cell_below (below_alloc (Below.refl _ _) o) hx3
  have hin : (0 : Int) < (r.length : Int) + 1 := by omega
  have hz0 : ((r.length : Int) + 1 == 0) = false := by simp; omega
  have hlen0 : ((r.length + 1 : Nat) : Int) = (r.length : Int) + 1 := by omega
  simp only [List.length_cons] at hg0' FIN HG hl
  by_cases hk : x.f0 = k
  · have hk2 : (x.f0 != k) = false := by simp [hk]
    obtain ⟨A', hcut, hC', hl'⟩ := cut_one (some ad) r c w0 x HC.out (by simpa using hl)
    have hnx : nx (x :: r) false k = (x, r, pOdd x) := by rw [nx, if_pos hk]
    rw [hnx]
    clear FIN FIU HN hk
    go_enter Tryd.func45, Tryd.ntmps45
    go_wp2_with fail
    refine (plain_calls g (.slice A' r.length (c - 1)) x A3 c3 _ ?hg).mono ?_
    case hg => exact blk_alloc (blk_alloc (blk_put (cs := #[.slice (some ad) (r.length + 1) c, .bool false]) HG.out 0 _ rfl) _) _
    rintro e w7 ⟨rfl, h7, u7⟩
    have H7 := Aside0.mk h7
    have U7 := Aside0.mk u7
    have X0 : Aside0 (w7.heap[w.heap.size]? = some (.cells #[.int .i64 0, .string ⟨#[]⟩, .int .i64 0, .slice none 0 0] 29 (0, 0))) := ⟨u7.blk (k := w.heap.size) (by omega) (blk_alloc (by have := box_new (w.setCell ⟨g, 0, none⟩ (.slice A' r.length (c - 1))) (.cells #[.int .i64 0, .string ⟨#[]⟩, .int .i64 0, .slice none 0 0] 29); simpa using this) _)⟩
    have X1 : Aside0 (w7.heap[w.heap.size + 1]? = some (.cells #[.int .i64 x.f0, .string x.f1, .int .i64 x.f2, .slice A3 x.f3.length c3] 29 (0, 0))) := ⟨u7.blk (k := w.heap.size + 1) (by omega) (by have := box_new ((w.setCell ⟨g, 0, none⟩ (.slice A' r.length (c - 1))).alloc (.cells #[.int .i64 0, .string ⟨#[]⟩, .int .i64 0, .slice none 0 0] 29)) (.cells #[.int .i64 x.f0, .string x.f1, .int .i64 x.f2, .slice A3 x.f3.length c3] 29); simpa using this)⟩
    have UU : Aside0 (Up w w7 g) := ⟨(((Up.refl w g).set 0 (.slice A' r.length (c - 1))).alloc hgl _ |>.alloc hgl _).trans u7⟩
    clear h7 u7 hg0' hg1' hfo hf00 hf000 hx0' hx1' hx2' hx3' hx0 hx1 hx2 hx3 hcut
    obtain ⟨ha0, ha1, ha2, ha3⟩ := box_cells X0.out
    obtain ⟨hb0, hb1, hb2, hb3⟩ := box_cells X1.out
    have hf0 := blk_frozen X0.out 0
    have hf1 := blk_frozen X0.out 1
    have hf2 := blk_frozen X0.out 2
    have hf3 := blk_frozen X0.out 3
    go_wp2_with fail
    refine bodyPost_ret (results_cell_row rfl _ _ w.heap.size 29 #[.int .i64 x.f0, .string x.f1, .int .i64 x.f2, .slice A3 x.f3.length c3] (0, 0) _ rfl (put4_block X0.out) Tryd.underlying29 rfl (by kernel_rfl)) rfl ?_
    exact ⟨_, rfl, ⟨A3, c3, rfl, hl3, hi3⟩, ⟨A', c - 1, (put4_other (by omega)).trans H7.out, hl', hC'⟩, Up.far4 UU.out (by omega) (by omega)⟩
  · have hk2 : (x.f0 != k) = true := by simp [hk]
    have hnx : nx (x :: r) false k = (z29, x :: r, true) := by rw [nx, if_neg hk]
    rw [hnx]
    go_enter Tryd.func45, Tryd.ntmps45
    go_wp2_with fail
    refine bodyPost_ret (results_cell_row rfl _ _ w.heap.size 29 #[.int .i64 0, .string (⟨#[]⟩ : ByteArray), .int .i64 0, .slice none 0 0] (0, 0) _ rfl HN.out Tryd.underlying29 rfl (by kernel_rfl)) rfl ?_
    exact ⟨_, rfl, isT_z w0, ⟨some ad, c, FIN.out _, hl, HC.out⟩, FIU.out _⟩
end Go.Proofs.YtimommkbfbdkdaaDoor.P
namespace Go.Proofs.YtimommkbfbdkdaaDoor.P
open Go.RowKit Go.Proofs.YtimommkbfbdkdaaDoorW.PrintWords Go.Proofs.YtimommkbfbdkdaaDoorW.PrintLast Go.Proofs.YtimommkbfbdkdaaDoorW.PrintMore
set_option linter.unusedVariables false
set_option linter.unusedSimpArgs false

theorem field1 (a b c d : Value) (W : World) : (Instr.field 29 (.agg #[a, b, c, d]) 1).run Tryd.prog W = .ok b W := by kernel_rfl
theorem field2 (a b c d : Value) (W : World) : (Instr.field 29 (.agg #[a, b, c, d]) 2).run Tryd.prog W = .ok c W := by kernel_rfl
theorem field3 (a b c d : Value) (W : World) : (Instr.field 29 (.agg #[a, b, c, d]) 3).run Tryd.prog W = .ok d W := by kernel_rfl
attribute [local go_sem] field1 field2 field3

/-! flag -/
def flOdd (n : Int) (o : Bool) : Bool := o || (n != 0 && n != 1)

set_option maxHeartbeats 4000000 in
set_option maxRecDepth 100000 in
theorem flag_calls (w0 w : World) (g : Nat) (l : List S29) (odd : Bool) (hR : Rd w0 w g l odd) (hB : Below w0.heap.size w0 w) (hg0 : w0.heap.size ≤ g) :
    Calls Tryd.prog 47 #[.pointer (some ⟨g, 0, none⟩)] w fun e w' => e = .returned (.bool ((nx l odd 1).1.f2 == 1)) ∧ Rd w0 w' g (nx l odd 1).2.1 (flOdd (nx l odd 1).1.f2 (nx l odd 1).2.2) ∧ Up w w' g := by
  have HN := Aside0.mk (next_calls w0 w g l odd 1 hR hB hg0)
  clear hR
  have hu29 := Tryd.underlying29
  have hu64 := Tryd.underlying64
  generalize nx l odd 1 = X at HN ⊢
  obtain ⟨x, l1, o1⟩ := X
  go_enter Tryd.func47, Tryd.ntmps47
  go_wp2_with fail
  refine HN.out.mono ?_
  rintro e w1 ⟨v, rfl, ⟨A, c, rfl, hl, hC⟩, ⟨A1, c1, h1, hl1, hC1⟩, u1⟩
  obtain ⟨n, hn⟩ : ∃ n, n = x.f2 := ⟨_, rfl⟩
  have H1 := Aside0.mk h1
  have U1 := Aside0.mk u1
  have HC1 := Aside0.mk hC1
  have hc0 : w1.cell? ⟨g, 0, none⟩ = some (.slice A1 l1.length c1) := (blk_cell h1 0).trans rfl
  have hc1 : w1.cell? ⟨g, 1, none⟩ = some (.bool o1) := (blk_cell h1 1).trans rfl
  have hf1 := blk_frozen h1 1
  have HNN := Aside0.mk hn
  clear h1 u1 hC1 hC hl HN
  rw [← hn]
  clear hn
  cases o1 with
  | true =>
    go_wp2_with fail
    go_ret
    exact ⟨by rw [← HNN.out]; rfl, ⟨A1, c1, by rw [← HNN.out]; exact blk_put H1.out 1 _ rfl, hl1, HC1.out⟩, U1.out.set 1 _⟩
  | false =>
  cases e0 : (n != 0) with
  | false =>
    have hfo : flOdd n false = false := by unfold flOdd; rw [e0]; rfl
    have HFO := Aside0.mk hfo
    clear hfo
    go_wp2_with fail
    go_ret
    exact ⟨by rw [← HNN.out]; rfl, ⟨A1, c1, by rw [← HNN.out, HFO.out]; exact blk_put H1.out 1 _ rfl, hl1, HC1.out⟩, U1.out.set 1 _⟩
  | true =>
    have hfo : flOdd n false = (n != 1) := by unfold flOdd; rw [e0]; rfl
    have HFO := Aside0.mk hfo
    clear hfo
    go_wp2_with fail
    go_ret
    exact ⟨by rw [← HNN.out]; rfl, ⟨A1, c1, by rw [← HNN.out, HFO.out]; exact blk_put H1.out 1 _ rfl, hl1, HC1.out⟩, U1.out.set 1 _⟩

/-! each -/
def eL (k : Int) : List S29 → List S29 × Bool
  | [] => ([], false)
  | x :: r => if x.f0 = k then (if pOdd x = true then ([x], true) else (x :: (eL k r).1, (eL k r).2)) else ([z29], true)
def eS (k : Int) (l : List S29) (o : Bool) : List S29 × Bool := if o = true then ([], true) else eL k l
theorem nx_cons (x : S29) (r : List S29) (k : Int) : nx (x :: r) false k = if x.f0 = k then (x, r, pOdd x) else (z29, x :: r, true) := rfl
theorem eS_step (k : Int) (x : S29) (r : List S29) : eS k (x :: r) false = ((nx (x :: r) false k).1 :: (eS k (nx (x :: r) false k).2.1 (nx (x :: r) false k).2.2).1, (eS k (nx (x :: r) false k).2.1 (nx (x :: r) false k).2.2).2) := by
  rw [nx_cons]
  unfold eS
  rw [if_neg (by decide), eL]
  by_cases h : x.f0 = k
  · rw [if_pos h, if_pos h]
    cases hp : pOdd x <;> simp
  · rw [if_neg h, if_neg h]; simp
def mu (l : List S29) (o : Bool) : Nat := if o = true then 0 else l.length
theorem mu_step (k : Int) (x : S29) (r : List S29) : mu (nx (x :: r) false k).2.1 (nx (x :: r) false k).2.2 < mu (x :: r) false := by
  have h0 : mu (x :: r) false = r.length + 1 := rfl
  rw [h0, nx_cons]
  unfold mu
  by_cases h : x.f0 = k
  · rw [if_pos h]; dsimp only; split <;> omega
  · rw [if_neg h]; simp
theorem Rd.kept {w0 w w' : World} {g : Nat} {l : List S29} {o : Bool} (h : Rd w0 w g l o) (hk : w'.heap[g]? = w.heap[g]?) : Rd w0 w' g l o := by
  obtain ⟨A, c, h1, h2, h3⟩ := h
  exact ⟨A, c, hk.trans h1, h2, h3⟩

set_option maxHeartbeats 4000000 in
set_option maxRecDepth 100000 in
theorem each_calls (w0 w : World) (g : Nat) (l : List S29) (odd : Bool) (k : Int) (hR : Rd w0 w g l odd) (hB : Below w0.heap.size w0 w) (hg0 : w0.heap.size ≤ g) (hn : (nx l odd 3).1.f3.length ≤ 1000000000) :
    Calls Tryd.prog 46 #[.pointer (some ⟨g, 0, none⟩), .int .i64 k] w fun e w' => ∃ v, e = .returned v ∧ Kd.R (Kd.fixed k29 w0) 29 w' w.heap.size (fun _ => True) v (eL k (nx l odd 3).1.f3).1 ∧
      Rd w0 w' g (nx l odd 3).2.1 ((nx l odd 3).2.2 || (eL k (nx l odd 3).1.f3).2) ∧ Up w w' g := by
  have HN := Aside0.mk (next_calls w0 w g l odd 3 hR hB hg0)
  have hgl : g < w.heap.size := by obtain ⟨A, c, h, _⟩ := hR; exact blk_lt h
  clear hR
  have hu29 := Tryd.underlying29
  have hu64 := Tryd.underlying64
  generalize nx l odd 3 = X at HN hn ⊢
  obtain ⟨x, l1, o1⟩ := X
  go_enter Tryd.func46, Tryd.ntmps46
  go_wp2_with fail
  refine HN.out.mono ?_
  clear HN
  rintro e w1 ⟨v, rfl, ⟨A, c, rfl, hl, hC⟩, hr1, u1⟩
  have R1 := Aside0.mk hr1
  have U1 := Aside0.mk u1
  have B1 := Aside0.mk (u1.2 _ _ hB hg0)
  have z1 := u1.size
  clear hr1 u1
  obtain ⟨T, hT⟩ : ∃ T, T = eL k x.f3 := ⟨_, rfl⟩
  have HT := Aside0.mk hT
  clear hT
  go_wp2_with fail
  go_loopg [6] (x.f3.length + 1) (fun gg s6 wr => ∃ (l' : List S29) (o' : Bool) (acc : List S29) (A6 : Option Addr) (c6 : Nat), mu l' o' ≤ gg ∧ s6 = .slice A6 acc.length c6 ∧ Aside0 (Rd w0 wr w1.heap.size l' o') ∧ Aside0 (Below w1.heap.size w1 wr) ∧
    Aside0 (acc.length + mu l' o' ≤ x.f3.length) ∧ Aside0 (T = (acc ++ (eS k l' o').1, (eS k l' o').2)) ∧
    Aside0 (Kd.R (Kd.fixed k29 w0) 29 wr w1.heap.size (fun k => k ≠ w1.heap.size) (.slice A6 acc.length c6) acc))
  case atStart =>
    refine ⟨x.f3, false, [], none, 0, ?_, rfl, ⟨⟨A, c, box_new w1 _, hl, hC⟩⟩, ⟨below_alloc (Below.refl _ _) _⟩, ⟨?_⟩, ⟨HT.out⟩, ⟨Kd.R_nil _ _ _ _ _⟩⟩
    · show x.f3.length ≤ _; omega
    · show 0 + x.f3.length ≤ _; omega
  case round =>
    obtain ⟨l', o', acc, A6, c6, hmu, rfl, RD, BW, HLn, HTT, RL⟩ := hrel
    obtain ⟨Ai, ci, hi, hli, hCi⟩ := RD.out
    have RDg := blk_lt hi
    have hi0 : wr.cell? ⟨w1.heap.size, 0, none⟩ = some (.slice Ai l'.length ci) := (blk_cell hi 0).trans rfl
    have hi1 : wr.cell? ⟨w1.heap.size, 1, none⟩ = some (.bool o') := (blk_cell hi 1).trans rfl
    have HI := Aside0.mk hi
    clear hi hCi
    by_cases hgo : o' = false ∧ l' ≠ []
    · obtain ⟨rfl, hne⟩ := hgo
      cases l' with
      | nil => exact absurd rfl hne
      | cons y r =>
        have hm := mu_step k y r
        have he := eS_step k y r
        rw [he] at HTT
        have HNX := Aside0.mk (next_calls w0 wr w1.heap.size (y :: r) false k RD.out (B1.out.trans (BW.out.mono B1.out.size)) B1.out.size)
        generalize nx (y :: r) false k = Y at hm HTT HNX
        obtain ⟨z, l2, o2⟩ := Y
        have HM := Aside0.mk hm
        have hpos : (0 : Int) < ((y :: r).length : Int) := by rw [List.length_cons]; omega
        clear hm he hne RD
        go_wp2_with fail
        refine HNX.out.mono ?_
        rintro e w2 ⟨vz, rfl, ⟨Az, cz, rfl, hlz, hCz⟩, hr2, u2⟩
        have BW2 := Aside0.mk (u2.2 _ _ BW.out (Nat.le_refl _))
        have RL2 := Aside0.mk (Kd.R_step RL.out (fun q hq hlt => u2.1.2 q hlt hq (by simp)))
        have RD2 := Aside0.mk hr2
        have KZ := Aside0.mk (k29_mk w0 z hlz hCz)
        have hsz2 := u2.size
        have HLN : Aside0 (acc.length + 1 ≤ 1000000000) := ⟨by have := HLn.out; have h0 : mu (y :: r) false = r.length + 1 := rfl; omega⟩
        clear BW RL hr2 u2 HNX hCz hlz hi0 hi1 HI
        go_wp2_with (at_builtin; refine Kd.R_append (Kd.fixed k29 w0) (w0 := w1) w1.heap.size rfl (.tmp 25) (.tmp 29) 27 29 (.agg #[(.int .i64 0), (.string ⟨#[]⟩), (.int .i64 0), (.slice none 0 0)]) 56 rfl Tryd.underlying27 info29 rfl (show 0 < 4 from by decide) (by decide) (.slice A6 acc.length c6) acc z [.int .i64 z.f0, .string z.f1, .int .i64 z.f2, .slice Az z.f3.length cz] (fun k => k ≠ w1.heap.size) (fun _ => False) rfl rfl KZ.out (fun _ hk => hk.elim) ?hfr ?HO ?HB ?hbs ?hl ?_; (case hfr => intro q hq; omega); (case HO => exact RL2.out); (case HB => exact BW2.out); (case hbs => omega); (case hl => have := HLN.out; omega); intro v1 w6 ho hb6 hg6 hat; have HO := Aside0.mk ho; have HB6 := Aside0.mk hb6; have HR6 := Aside0.mk (Rd.kept RD2.out (hg6.block w1.heap.size (by omega) (fun e => RL2.out.1 _ e.symm rfl))); clear ho hb6 hg6 hat; obtain ⟨A7, c7, rfl⟩ := Kd.R_slice HO.out)
        go_roundg (mu l2 o2)
        case measure => have := HM.out; omega
        case rel =>
          have hlen : (acc ++ [z]).length = acc.length + 1 := by simp
          exact ⟨l2, o2, acc ++ [z], A7, c7, Nat.le_refl _, by rw [hlen], HR6, HB6, ⟨by have h1 := HM.out; have h2 := HLn.out; rw [hlen]; omega⟩, ⟨by rw [HTT.out, List.append_assoc]; rfl⟩, ⟨HO.out⟩⟩
    · have hES : eS k l' o' = ([], o') := by
        cases o' with
        | true => rfl
        | false =>
          cases l' with
          | nil => rfl
          | cons y r => exact absurd ⟨rfl, by simp⟩ hgo
      rw [hES, List.append_nil] at HTT
      obtain ⟨Ag, cg, h1g, hlg, hCg⟩ := R1.out
      have hg1 := (BW.out.block g (blk_lt h1g)).trans h1g
      have HG1 := Aside0.mk hg1
      have hgo0 : wr.cell? ⟨g, 0, none⟩ = some (.slice Ag l1.length cg) := (blk_cell hg1 0).trans rfl
      have hgo1 : wr.cell? ⟨g, 1, none⟩ = some (.bool o1) := (blk_cell hg1 1).trans rfl
      have hgf := blk_frozen hg1 1
      have hgz := blk_lt h1g
      have UW := Aside0.mk (U1.out.trans (Up.of_below g BW.out hgz))
      have HRR : Aside0 (∀ b, Kd.R (Kd.fixed k29 w0) 29 (wr.setCell ⟨g, 1, none⟩ (.bool b)) w.heap.size (fun _ => True) (.slice A6 acc.length c6) acc) := ⟨fun b => Kd.R_lower (Kd.R_mono (Kd.R_step (Kd.R_bound RL.out) (fun q hq _ => Below.heap_setCell wr ⟨g, 1, none⟩ _ q (by have := hq.2.1; show q ≠ g; omega))) (fun _ _ => trivial)) z1⟩
      have HFIN : Aside0 (∀ b, b = (o1 || o') → Rd w0 (wr.setCell ⟨g, 1, none⟩ (.bool b)) g l1 (o1 || T.2)) := ⟨fun b hb => by rw [HTT.out]; exact ⟨Ag, cg, by rw [← hb]; exact blk_put HG1.out 1 _ rfl, hlg, hCg⟩⟩
      have HTE : Aside0 (T.1 = acc) := ⟨by rw [HTT.out]⟩
      clear h1g hg1 RL RD hCg
      have hFE : Aside0 (∀ b, b = (o1 || o') → ∃ v, Ending.returned (.slice A6 acc.length c6) = .returned v ∧ Kd.R (Kd.fixed k29 w0) 29 (wr.setCell ⟨g, 1, none⟩ (.bool b)) w.heap.size (fun _ => True) v (eL k x.f3).1 ∧ Rd w0 (wr.setCell ⟨g, 1, none⟩ (.bool b)) g l1 (o1 || (eL k x.f3).2) ∧ Up w (wr.setCell ⟨g, 1, none⟩ (.bool b)) g) := ⟨fun b hb => ⟨_, rfl, by rw [← HT.out, HTE.out]; exact HRR.out b, by rw [← HT.out]; exact HFIN.out b hb, UW.out.set 1 _⟩⟩
      clear HRR HFIN HTE
      cases l' with
      | nil =>
        simp only [List.length_nil] at hi0
        cases o1 with
        | true =>
          go_wp2_with fail
          go_ret
          exact hFE.out _ rfl
        | false =>
          go_wp2_with fail
          go_ret
          exact hFE.out _ rfl
      | cons y r =>
        have ho' : o' = true := by
          cases o' with
          | true => rfl
          | false => exact absurd ⟨rfl, by simp⟩ hgo
        subst ho'
        have hpos : (0 : Int) < ((y :: r).length : Int) := by rw [List.length_cons]; omega
        clear hgo
        cases o1 with
        | true =>
          go_wp2_with fail
          go_ret
          exact hFE.out _ rfl
        | false =>
          go_wp2_with fail
          go_ret
          exact hFE.out _ rfl
end Go.Proofs.YtimommkbfbdkdaaDoor.P
