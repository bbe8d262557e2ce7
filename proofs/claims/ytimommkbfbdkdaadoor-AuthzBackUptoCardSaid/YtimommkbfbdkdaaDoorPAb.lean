/- Terms read within a footprint; list literals of terms; term.List, term.Row, term.Sum over footprints. -/
import Derived.Test.YtimommkbfbdkdaaDoorPAa
import Derived.Test.YtimommkbfbdkdaaDoorPHp
import Derived.Test.YtimommkbfbdkdaaDoorPLa
namespace Go.Proofs.YtimommkbfbdkdaaDoor.P
open Go.RowKit Go.Proofs.YtimommkbfbdkdaaDoorW.PrintWords Go.Proofs.YtimommkbfbdkdaaDoorW.PrintLast Go.Proofs.YtimommkbfbdkdaaDoorW.PrintMore
set_option linter.unusedVariables false
set_option linter.unusedSimpArgs false

def ofT (s : ByteArray) : S29 := ⟨0, s, 0, []⟩
def numT (n : Int) : S29 := ⟨1, ⟨#[]⟩, n, []⟩
def listT (l : List S29) : S29 := ⟨3, ⟨#[]⟩, 0, l⟩
def rowT (l : List ByteArray) : S29 := listT (l.map ofT)
def sumT (k : S29) (n : Int) (t : S29) : S29 := ⟨5, ⟨#[]⟩, n, [k, t]⟩
def bitI (b : Bool) : Int := if b = true then 1 else 0
def dataL (a : Au) : List S29 := [ofT a.u, listT (a.g.map numT), numT a.o, rowT a.tr, ofT a.s, numT (bitI a.fw), numT a.tm]
def dataA (a : Au) : S29 := listT (dataL a)

/-- A value that reads as the term t in every world that agrees on the blocks that ok names. -/
def IsF (w : World) (ok : Nat → Prop) (v : Value) (t : S29) : Prop := ∃ A c, v = .agg #[.int .i64 t.f0, .string t.f1, .int .i64 t.f2, .slice A t.f3.length c] ∧ t.f3.length ≤ c ∧ Kd.F k29 w ok A t.f3.length t.f3
theorem IsF.now {w : World} {ok : Nat → Prop} {v : Value} {t : S29} (h : IsF w ok v t) : IsT w v t := by
  obtain ⟨A, c, rfl, hl, hF⟩ := h; exact ⟨A, c, rfl, hl, Kd.F_now hF⟩
theorem IsF.mono {w : World} {ok ok' : Nat → Prop} {v : Value} {t : S29} (h : IsF w ok v t) (hk : ∀ k, ok k → ok' k) : IsF w ok' v t := by
  obtain ⟨A, c, rfl, hl, hF⟩ := h; exact ⟨A, c, rfl, hl, Kd.F_mono hF hk⟩
theorem IsF.step {w w' : World} {ok : Nat → Prop} {v : Value} {t : S29} (h : IsF w ok v t) (hm : ∀ k, ok k → k < w.heap.size → w'.heap[k]? = w.heap[k]?) : IsF w' ok v t := by
  obtain ⟨A, c, rfl, hl, hF⟩ := h; exact ⟨A, c, rfl, hl, Kd.F_step hF hm⟩
theorem IsF.below {w w' : World} {ok : Nat → Prop} {v : Value} {t : S29} (h : IsF w ok v t) (hb : Below w.heap.size w w') : IsF w' ok v t := h.step fun k _ hlt => hb.block k hlt
theorem IsT.F {w : World} {v : Value} {t : S29} (h : IsT w v t) : IsF w (fun k => k < w.heap.size) v t := by
  obtain ⟨A, c, rfl, hl, hC⟩ := h; exact ⟨A, c, rfl, hl, Kd.C_F heap29 hC⟩
theorem C_nil0 (w : World) (A : Option Addr) : Kd.C k29 w A ([] : List S29).length [] := ⟨rfl, by simp, fun h => absurd h (Nat.lt_irrefl 0)⟩
theorem F_nil0 (w : World) (ok : Nat → Prop) (A : Option Addr) : Kd.F k29 w ok A ([] : List S29).length [] := fun W' _ => C_nil0 W' A
/-- A term without parts is read everywhere. -/
theorem isF_any {w : World} {v : Value} {k : Int} {s : ByteArray} {n : Int} (h : IsT w v ⟨k, s, n, []⟩) (W : World) (ok : Nat → Prop) : IsF W ok v ⟨k, s, n, []⟩ := by
  obtain ⟨A, c, rfl, hl, _⟩ := h
  exact ⟨A, c, rfl, hl, F_nil0 W ok A⟩

/-- A value's cells, if it reads as a term. -/
def cellsOf4 : Value → List Value
  | .agg a => a.toList
  | _ => []
theorem isF_FK {w : World} {ok : Nat → Prop} {v : Value} {t : S29} (h : IsF w ok v t) : Kd.FK k29 w ok t (cellsOf4 v) ∧ (cellsOf4 v).length = 4 := by
  obtain ⟨A, c, rfl, hl, hF⟩ := h
  exact ⟨k29_mkF w ok t hl hF, rfl⟩
theorem FK_len {w : World} {ok : Nat → Prop} {x : S29} {cs : List Value} (h : Kd.FK k29 w ok x cs) : cs.length = 4 := k29.K_len (Kd.FK_now h)
theorem FK_one {w : World} {ok : Nat → Prop} {x : S29} {cs : List Value} (h : Kd.FK k29 w ok x cs) : ∀ u ∈ cs, u.oneCell' = true := k29.K_one (Kd.FK_now h)
/-- The kind of terms that are read within a footprint. -/
def kF (w : World) (ok : Nat → Prop) : Kd S29 := kRel (Kd.FK k29 w ok) FK_len FK_one
/-- Values that read as terms, one by one. -/
def AllF (w : World) (ok : Nat → Prop) : List Value → List S29 → Prop
  | [], [] => True
  | v :: vs, t :: ts => IsF w ok v t ∧ AllF w ok vs ts
  | _, _ => False
theorem lits_Reps (w : World) (ok : Nat → Prop) : ∀ (vs : List Value) (ts : List S29), AllF w ok vs ts → Reps (Kd.FK k29 w ok) 4 ts (vs.flatMap cellsOf4)
  | [], [], _ => Reps.none _ _
  | [], _ :: _, h => h.elim
  | _ :: _, [], h => h.elim
  | v :: vs, t :: ts, h => by
    obtain ⟨h1, h2⟩ := h
    have ih := lits_Reps w ok vs ts h2
    obtain ⟨hK, h4⟩ := isF_FK h1
    refine ⟨by rw [List.flatMap_cons, List.length_append, h4, ih.1, List.length_cons]; omega, fun j p hj => ?_⟩
    cases j with
    | zero =>
      simp only [List.getElem?_cons_zero, Option.some.injEq] at hj
      subst hj
      rw [List.flatMap_cons, Nat.zero_mul, List.drop_zero, List.take_left' h4]
      exact hK
    | succ j =>
      rw [List.getElem?_cons_succ] at hj
      have := ih.2 j p hj
      rw [List.flatMap_cons, Nat.succ_mul, Nat.add_comm, ← List.drop_drop, List.drop_left' h4]
      exact this
/-- A list literal of terms. -/
theorem lits_row (w : World) (ok : Nat → Prop) (vs : List Value) (ts : List S29) (h : AllF w ok vs ts) (hm : ts.length ≤ 1000) :
    ReadsRow (Kd.FK k29 w ok) 4 (w.alloc (.cells (vs.flatMap cellsOf4).toArray 29)) (some ⟨w.heap.size, 0, none⟩) ts.length ts := by
  have hR := lits_Reps w ok vs ts h
  have hh : Kd.R (kF w ok) 29 (w.alloc (.cells (vs.flatMap cellsOf4).toArray 29)) w.heap.size (fun _ => True) (.slice (some ⟨w.heap.size, 0, none⟩) ts.length ts.length) ts :=
    ⟨fun _ _ => trivial, vs.flatMap cellsOf4, World.ownsRow_lit (base := w.heap.size) (e := 29) (size := 4) w _ ts.length (Nat.le_refl _) (by simp [maxLen]; omega) (by simp [hR.1]), hR⟩
  exact (Kd.R_reads' hh).2.2
/-- A row made over elements within a footprint is read within it, and the row's own blocks. -/
theorem F_of_rel {wr w5 W' : World} {ok : Nat → Prop} {base : Nat} {A : Option Addr} {c : Nat} {l : List S29} (hR : Kd.R (kF wr ok) 29 w5 base ok (.slice A l.length c) l)
    (hs : w5.heap.size ≤ W'.heap.size) (ha : ∀ k, ok k → k < w5.heap.size → W'.heap[k]? = w5.heap[k]?) (hs2 : wr.heap.size ≤ w5.heap.size) (hb : ∀ k, ok k → k < wr.heap.size → w5.heap[k]? = wr.heap[k]?) :
    l.length ≤ c ∧ Kd.F k29 W' ok A l.length l := by
  refine ⟨(Kd.R_reads' hR).2.1, fun W'' hW => ?_⟩
  have h1 : ∀ k, ok k → k < w5.heap.size → W''.heap[k]? = w5.heap[k]? := fun k hk hlt => (hW k hk (Nat.lt_of_lt_of_le hlt hs)).trans (ha k hk hlt)
  have h2 := (Kd.R_reads' (Kd.R_step hR h1)).2.2
  obtain ⟨e1, e2, e3⟩ := h2
  refine ⟨e1, e2, fun hp => ?_⟩
  obtain ⟨ad, e, hc⟩ := e3 hp
  refine ⟨ad, e, fun j p hj => ?_⟩
  obtain ⟨cc, k1, k2, k3⟩ := hc j p hj
  exact ⟨cc, k1, k2 W'' (fun k hk hlt => (h1 k hk (Nat.lt_of_lt_of_le hlt hs2)).trans (hb k hk hlt)), k3⟩

/-- term.List (and the reference's), over a footprint. -/
theorem List_F (w0 : World) (ok : Nat → Prop) (A : Option Addr) (c : Nat) (l : List S29) (w : World) (hn : l.length ≤ 1000000000) (hb0 : Below w0.heap.size w0 w) (hC : ReadsRow (Kd.FK k29 w0 ok) 4 w A l.length l) :
    Calls Tryd.prog 24 #[.slice A l.length c] w fun e w' => ∃ v, e = .returned v ∧ IsF w' (fun k => ok k ∨ w.heap.size ≤ k) v (listT l) ∧ Below w.heap.size w w' := by
  refine (ListR_calls (Kd.FK k29 w0 fun k => ok k ∨ w.heap.size ≤ k) FK_len FK_one A c l w hn (ReadsRow.imp_ hC (Below.refl _ _) (fun _ _ hp => Kd.FK_mono hp fun _ hk => .inl hk))).mono ?_
  rintro e w' ⟨v, rfl, hR, hb⟩
  obtain ⟨A5, c5, rfl⟩ := Kd.R_slice hR
  have hR' : Kd.R (kF w0 fun k => ok k ∨ w.heap.size ≤ k) 29 w' w.heap.size (fun k => ok k ∨ w.heap.size ≤ k) (.slice A5 l.length c5) l := Kd.R_mono (Kd.R_bound hR) fun k hk => .inr hk.2.1
  obtain ⟨h1, h2⟩ := F_of_rel hR' (Nat.le_refl _) (fun _ _ _ => rfl) (Nat.le_trans hb0.size hb.size) (fun k _ hlt => ((hb.block k (Nat.lt_of_lt_of_le hlt hb0.size)).trans (hb0.block k hlt)))
  exact ⟨_, rfl, ⟨A5, c5, rfl, h1, h2⟩, hb⟩
/-- term.Row makes all that it hands out. -/
theorem Row_F (A : Option Addr) (c : Nat) (l : List ByteArray) (w : World) (hn : l.length ≤ 1000000000) (hl : l.length ≤ c) (hC : Kd.C Kd.string w A l.length l) :
    Calls Tryd.prog 34 #[.slice A l.length c] w fun e w' => ∃ v, e = .returned v ∧ IsF w' (fun k => w.heap.size ≤ k) v (rowT l) ∧ Below w.heap.size w w' := by
  refine (term_Row_calls A c l w hn hl hC).mono ?_
  rintro e w' ⟨v, rfl, hR, hb⟩
  obtain ⟨A5, c5, rfl⟩ := Kd.R_slice hR
  have hR' := Kd.R_mono (Kd.R_bound hR) (ok' := fun k => w.heap.size ≤ k) fun k hk => hk.2.1
  exact ⟨_, rfl, ⟨A5, c5, rfl, (Kd.R_reads' hR).2.1, Kd.R_F hR'⟩, hb⟩
end Go.Proofs.YtimommkbfbdkdaaDoor.P
