/- A range over a function whose iterator keeps cells of its own from round to round: my own law of the walk, from the kit's laws of the statement and of one round: the caller's invariant is told which blocks are the iterator's. -/
import Derived.RangeFuncNested
import Derived.RangeFuncBound
import Derived.RangeFuncCalls
import Derived.RangeFuncLeaves
import Derived.Shelf.Abstract
import Derived.WalkKit
import Derived.OwnWalkIn
import Derived.TacticsInMore
import Derived.Test.YtlhfekhmfeafbaaDoorPHi
namespace Go.Proofs.YtlhfekhmfeafbaaDoor.P
open Go.RowKit

/-- A step of the iterator's: its own blocks (Pr) and new ones alone turn. -/
structure ItStep (n₀ : Nat) (Pr : Nat → Prop) (W W' : World) : Prop where
  below : Below n₀ W W'
  keep : ∀ i, i < W.heap.size → ¬ Pr i → W'.heap[i]? = W.heap[i]?
/-- The iterator's blocks behind a step. -/
def grow (Pr : Nat → Prop) (W W' : World) : Nat → Prop := fun i => Pr i ∨ (W.heap.size ≤ i ∧ i < W'.heap.size)
/-- A caller's invariant that abides the iterator's steps, and that asks less where fewer blocks are the iterator's. -/
structure Steady {α : Type} (n₀ : Nat) (J : (Nat → Prop) → List α → World → Prop) : Prop where
  less : ∀ Pr Pr' pre W, J Pr pre W → (∀ i, Pr' i → Pr i) → J Pr' pre W
  step : ∀ Pr pre W W', J Pr pre W → ItStep n₀ Pr W W' → J (grow Pr W W') pre W'
/-- What a round leaves as it was. -/
structure Leaves (n₀ : Nat) (Pr : Nat → Prop) (W W' : World) : Prop where
  below : Below n₀ W W'
  keep : ∀ i, i < W.heap.size → Pr i → W'.heap[i]? = W.heap[i]?
def YieldOk {α : Type} (n₀ N : Nat) (enc : α → Value) (l : Nat) (J : (Nat → Prop) → List α → World → Prop) : Prop :=
  ∀ Pr pre (x : α) W, J Pr pre W → pre.length < N → YieldAt Fence.wide 0 Tryd.prog l #[enc x] W fun e W' => e = .returned (.bool true) ∧ J Pr (pre ++ [x]) W' ∧ Leaves n₀ Pr W W'
/-- An iterator's contract. -/
def IterAt {α : Type} (n₀ : Nat) (enc : α → Value) (g : Nat) (lb : Array Value) (Ok : (Nat → Prop) → World → Prop) (xs : List α) : Prop :=
  ∀ (l : Nat) (J : (Nat → Prop) → List α → World → Prop) (Pr : Nat → Prop) (W : World), Steady n₀ J → YieldOk n₀ xs.length enc l J → J Pr [] W → Ok Pr W → (∀ i, Pr i → i < W.heap.size) →
    CallsIn Fence.wide 0 Tryd.prog g (#[.func (.yield l) #[] #[]] ++ lb) W fun e W' => (∃ v, e = .returned v) ∧ Below n₀ W W' ∧ ∃ Pr', (∀ i, Pr i → Pr' i) ∧ (∀ i, Pr' i → i < W'.heap.size) ∧ J Pr' xs W'

theorem ItStep.more {n₀ : Nat} {Pr Pr' : Nat → Prop} {W W' : World} (h : ItStep n₀ Pr W W') (hp : ∀ i, Pr i → Pr' i) : ItStep n₀ Pr' W W' := ⟨h.below, fun i hi hn => h.keep i hi (fun hq => hn (hp i hq))⟩
theorem ItStep.putObj {n₀ : Nat} {Pr : Nat → Prop} {W : World} {l : Nat} (o : Obj) (hl : Pr l) (hn : n₀ ≤ l) : ItStep n₀ Pr W (W.putObj l o) :=
  ⟨⟨rfl, rfl, rfl, by simp, fun k hk => World.putObj_heap_other (by omega)⟩, fun i _ hi => World.putObj_heap_other (fun e => hi (e ▸ hl))⟩
theorem ItStep.alloc {n₀ : Nat} {Pr : Nat → Prop} {W : World} (o : Obj) (hn : n₀ ≤ W.heap.size) : ItStep n₀ Pr W (W.alloc o) :=
  ⟨(Below.refl _ _).alloc hn o, fun i hi _ => Below.heap_alloc W o i hi⟩
theorem Leaves.trans {n₀ : Nat} {Pr : Nat → Prop} {A B C : World} (h : Leaves n₀ Pr A B) (k : Leaves n₀ Pr B C) : Leaves n₀ Pr A C :=
  ⟨h.below.trans k.below, fun i hi hp => (k.keep i (Nat.lt_of_lt_of_le hi h.below.size) hp).trans (h.keep i hi hp)⟩
theorem Leaves.less {n₀ : Nat} {Pr Pr' : Nat → Prop} {A B : World} (h : Leaves n₀ Pr A B) (hp : ∀ i, Pr' i → Pr i) : Leaves n₀ Pr' A B := ⟨h.below, fun i hi hq => h.keep i hi (hp i hq)⟩
theorem Leaves.putObj {n₀ : Nat} {Pr : Nat → Prop} {W : World} {l : Nat} (o : Obj) (hl : ¬ Pr l) (hn : n₀ ≤ l) : Leaves n₀ Pr W (W.putObj l o) :=
  ⟨⟨rfl, rfl, rfl, by simp, fun k hk => World.putObj_heap_other (by omega)⟩, fun i _ hi => World.putObj_heap_other (fun e => hl (e ▸ hi))⟩

/-- THE STATEMENT over such an iterator. -/
theorem range_own {α : Type} {n₀ : Nat} {enc : α → Value} {gf : Nat} {lb : Array Value} {Ok : (Nat → Prop) → World → Prop} {xs : List α}
    {g : Operand} {ps : Array Tmp} {assign body : Code} {Q : Exit → Act → World → Prop} {a : Act} {w : World}
    (hg : a.eval g = .func (.func gf) #[] lb) (eg : ∀ args w, (callFunc gf args).run Tryd.prog w = .ok (.enter gf args) w) (hps : ps.size = 1)
    (hit : IterAt n₀ enc gf lb Ok xs) (hn₀ : n₀ ≤ w.heap.size) (Pr0 : Nat → Prop) (hbd : ∀ i, Pr0 i → i < w.heap.size)
    (hOk : ∀ W, Below n₀ w W → (∀ i, i < w.heap.size → W.heap[i]? = w.heap[i]?) → Ok Pr0 W)
    (I : (Nat → Prop) → List α → World → Prop) (hI : Steady n₀ I) (h0 : I Pr0 [] w)
    (hround : ∀ (l : Nat) (x : α) (Pr : Nat → Prop) (pre : List α) (W : World) (K : Act → World → Prop), I Pr pre W → n₀ ≤ W.heap.size → pre.length < xs.length →
      (∀ a₁ W₁, Leaves n₀ Pr W W₁ → (∀ (o : Obj) (R : Exit → Act → World → Prop), Pr l → n₀ ≤ l → l < W.heap.size → (∀ a₂ W₂, I Pr (pre ++ [x]) W₂ → Leaves n₀ Pr (W₁.putObj l o) W₂ → R .normal a₂ W₂) → body.wpIn (Fence.wide.inRound l) 0 Tryd.prog R a₁ (W₁.putObj l o)) → K a₁ W₁) →
      assign.wpIn (Fence.wide.inRound l) 0 Tryd.prog (Exit.then K (fun _ _ _ => False)) { tmps := (ps.zip #[enc x]).foldl (fun t (p, v) => t.setIfInBounds p v) a.tmps, defers := [] } W)
    (hdone : ∀ (D : Nat) (Pr : Nat → Prop) (W : World), w.heap.size ≤ D → I Pr xs W → W.heap[D]? = some (.deferred (some [])) → Pr D → (∀ i, Pr0 i → Pr i) → (∀ i, Pr i → i < W.heap.size) → Below n₀ w W →
      Q .normal { a with defers := { target := .collected D, args := #[] } :: a.defers } W) :
    (Code.rangeFunc g ps assign body).wpIn Fence.wide 0 Tryd.prog Q a w := by
  refine wpIn_rangeFunc ?_
  intro fn hfn
  obtain ⟨rec, hrec⟩ : ∃ rec : LoopState → Option Code → Loop, rec = fun st pe => { state := st, pending := pe, fn, tmps := a.tmps, params := ps, assign, body, defers := w.heap.size } := ⟨_, rfl⟩
  obtain ⟨W1, hW1⟩ : ∃ W1, (w.alloc (.deferred (some []))).alloc (.loop (rec .ready none)) = W1 := ⟨_, rfl⟩
  have hs1 : W1.heap.size = w.heap.size + 2 := by rw [← hW1]; simp
  have hL1 : W1.heap[w.heap.size + 1]? = some (.loop (rec .ready none)) := by
    rw [← hW1]; have := World.alloc_heap_new (w.alloc (.deferred (some []))) (.loop (rec .ready none)); rwa [World.size_alloc] at this
  have hK1 : W1.heap[w.heap.size]? = some (.deferred (some [])) := by
    rw [← hW1]; exact (Below.heap_alloc _ _ _ (by simp)).trans (World.alloc_heap_new w _)
  have hold : ∀ i, i < w.heap.size → W1.heap[i]? = w.heap[i]? := fun i hi => by
    rw [← hW1]; exact (Below.heap_alloc _ _ _ (by simp; omega)).trans (Below.heap_alloc _ _ _ hi)
  have hb1 : Below n₀ w W1 := by
    rw [← hW1]; exact ((Below.refl n₀ w).alloc hn₀ _).alloc (by simp; omega) _
  have hI1 : I (fun i => Pr0 i ∨ i = w.heap.size ∨ i = w.heap.size + 1) [] W1 :=
    hI.less _ _ _ _ (hI.step Pr0 [] w W1 h0 ⟨hb1, fun i hi _ => hold i hi⟩) (fun i h => by
      rcases h with h | h | h
      · exact .inl h
      · exact .inr (by omega)
      · exact .inr (by omega))
  refine ⟨w.heap.size + 1, [{ target := .collected w.heap.size, args := #[] }], W1, { target := .fn (.func gf) lb, args := #[.func (.yield (w.heap.size + 1)) #[] #[]] }, W1, gf,
    #[.func (.yield (w.heap.size + 1)) #[] #[]] ++ lb, W1, ?_, ?_, ?_, ?_, fun h => (by cases h), ?_⟩
  · rw [← hW1, hrec]; exact run_enterLoop_outer _ _ _ _ _
  · simp only [resolve, hg]
    simp [go_sem]
  · intro f' _; trivial
  · simp [invoke, go_sem, eg]
  · obtain ⟨D, hD⟩ : ∃ D, D = w.heap.size := ⟨_, rfl⟩
    have hJ : Steady n₀ (fun Pr pre W => I (fun i => Pr i ∨ i = D ∨ i = D + 1) pre W ∧ ¬ Pr D ∧ ¬ Pr (D + 1) ∧ W.heap[D + 1]? = some (.loop (rec .ready none)) ∧ W.heap[D]? = some (.deferred (some [])) ∧ n₀ ≤ W.heap.size) := by
      constructor
      · rintro Pr Pr' pre W ⟨hi, hnD, hnl, hlo, hdo, hn⟩ hp
        exact ⟨hI.less _ _ _ _ hi (fun i h => h.imp (hp i) id), fun h => hnD (hp _ h), fun h => hnl (hp _ h), hlo, hdo, hn⟩
      · rintro Pr pre W W' ⟨hi, hnD, hnl, hlo, hdo, hn⟩ hs
        have hl1 : D + 1 < W.heap.size := (Array.getElem?_eq_some_iff.1 hlo).1
        refine ⟨hI.less _ _ _ _ (hI.step _ _ _ _ hi (hs.more (fun i h => .inl h))) (fun i h => ?_), fun h => ?_, fun h => ?_, (hs.keep _ hl1 hnl).trans hlo, (hs.keep _ (by omega) hnD).trans hdo, Nat.le_trans hn hs.below.size⟩
        · rcases h with (h | h) | h
          · exact .inl (.inl h)
          · exact .inr h
          · exact .inl (.inr h)
        · rcases h with h | h
          · exact hnD h
          · omega
        · rcases h with h | h
          · exact hnl h
          · omega
    rw [← hD] at hs1 hL1 hK1 hI1 ⊢
    refine (hit (D + 1) _ Pr0 W1 hJ ?_ ⟨hI1, fun h => ?_, fun h => ?_, hL1, hK1, ?_⟩ (hOk W1 hb1 hold) (fun i h => ?_)).mono ?_
    · rintro Pr pre x W ⟨hi, hnD, hnl, hlo, hdo, hn⟩ hlen
      have hl1 : D + 1 < W.heap.size := (Array.getElem?_eq_some_iff.1 hlo).1
      have hy := run_yield (P := Tryd.prog) (args := #[enc x]) hlo (by rw [hrec]; simp [hps])
      rw [hrec] at hy
      refine ⟨fn, _, assign, body, hy, roundIn_of_wpIn hfn (hround (D + 1) x _ pre W _ hi hn hlen ?_)⟩
      intro a₁ W₁ hle hgo
      have hlo1 := (hle.keep _ hl1 (.inr (.inr rfl))).trans hlo
      have hl2 : D + 1 < W₁.heap.size := (Array.getElem?_eq_some_iff.1 hlo1).1
      have hb := run_beginRound (P := Tryd.prog) hlo1 (by rw [hrec])
      refine ⟨_, hb, hgo _ _ (.inr (.inr rfl)) (by omega) hl1 ?_⟩
      intro a₂ W₂ hi2 hle2
      have hlo2 := (hle2.keep (D + 1) (by simpa using hl2) (.inr (.inr rfl))).trans (World.putObj_heap_same hl2)
      have hl3 : D + 1 < W₂.heap.size := (Array.getElem?_eq_some_iff.1 hlo2).1
      have he := run_endRound (P := Tryd.prog) none hlo2
      have hst := ItStep.putObj (n₀ := n₀) (Pr := fun i => Pr i ∨ i = D ∨ i = D + 1) (W := W₂) (l := D + 1) (.loop { rec .ready none with state := .ready, pending := none }) (.inr (.inr rfl)) (by omega)
      have hD1 : W₁.heap[D]? = some (.deferred (some [])) := (hle.keep D (by omega) (.inr (.inl rfl))).trans hdo
      have hD2 : W₂.heap[D]? = some (.deferred (some [])) := (hle2.keep D (by simp; omega) (.inr (.inl rfl))).trans ((World.putObj_heap_other (by omega)).trans hD1)
      refine ⟨_, _, he, rfl, ⟨hI.less _ _ _ _ (hI.step _ _ _ _ hi2 hst) (fun i h => .inl h), hnD, hnl, ?_, ?_, ?_⟩, ?_⟩
      · rw [hrec]; exact World.putObj_heap_same hl3
      · exact (World.putObj_heap_other (by omega)).trans hD2
      · simp; omega
      · exact ((hle.less (fun i h => .inl h)).trans (Leaves.putObj _ hnl (by omega))).trans ((hle2.less (fun i h => .inl h)).trans (Leaves.putObj _ hnl (by omega)))
    · have := hbd _ h; omega
    · have := hbd _ h; omega
    · have := hb1.size; omega
    · have := hbd _ h; omega
    · rintro e W2 ⟨⟨v, rfl⟩, hb2, Pr', hsub, hbd', hi, hnD, hnl, hlo, hdo, hn⟩
      have hl2 : D + 1 < W2.heap.size := (Array.getElem?_eq_some_iff.1 hlo).1
      have hst := fun o => ItStep.putObj (n₀ := n₀) (Pr := fun i => Pr' i ∨ i = D ∨ i = D + 1) (W := W2) (l := D + 1) o (.inr (.inr rfl)) (by omega)
      have he := run_endLoop (P := Tryd.prog) hlo (by rw [hrec]; simp)
      refine ⟨(rec .ready none).pending, _, he, ?_⟩
      rw [hrec]
      refine hdone D _ _ (by omega) (hI.less _ _ _ _ (hI.step _ _ _ _ hi (hst _)) (fun i h => .inl h)) ((World.putObj_heap_other (by omega)).trans hdo) (.inr (.inl rfl)) (fun i h => .inl (hsub i h)) ?_ (hb1.trans (hb2.trans (hst _).below))
      rintro i (h | h | h)
      · simp; exact hbd' i h
      · simp; omega
      · simp; omega

/-- The marks of the loops that have run. -/
def marks (Ds : List Nat) : List Deferred := Ds.map fun D => { target := .collected D, args := #[] }

/-- A function that leaves behind such loops: each mark shuts its block; no more. -/
theorem leaves_marks {n₀ : Nat} {Pr : Nat → Prop} {fn : Func} {tmps : Array Value} {R : Ending → World → Prop} : ∀ (Ds : List Nat) (W : World), Ds.Nodup →
    (∀ D ∈ Ds, n₀ ≤ D ∧ Pr D ∧ W.heap[D]? = some (.deferred (some []))) → (∀ W', ItStep n₀ Pr W W' → LeavesIn Fence.wide 0 Tryd.prog fn tmps R [] .returning W') →
    LeavesInM Fence.wide 0 Tryd.prog fn tmps R (marks Ds) .returning W
  | [], W, _, _, h => h W ⟨Below.refl _ _, fun _ _ _ => rfl⟩
  | D :: Ds, W, hn, hD, h => by
    obtain ⟨h1, h2, h3⟩ := hD D (List.mem_cons_self ..)
    have hst := ItStep.putObj (n₀ := n₀) (Pr := Pr) (W := W) (l := D) (.deferred none) h2 h1
    refine ⟨by simp, .inl ⟨D, _, rfl, run_takeDeferred h3, ?_⟩⟩
    refine leaves_marks (n₀ := n₀) (Pr := Pr) Ds _ (List.nodup_cons.1 hn).2 (fun E hE => ?_) (fun W' hs => h W' ?_)
    · obtain ⟨k1, k2, k3⟩ := hD E (List.mem_cons_of_mem _ hE)
      refine ⟨k1, k2, (World.putObj_heap_other (fun e => ?_)).trans k3⟩
      subst e
      exact (List.nodup_cons.1 hn).1 hE
    · exact ⟨hst.below.trans hs.below, fun i hi hp => (hs.keep i (by simpa using hi) hp).trans (hst.keep i hi hp)⟩

end Go.Proofs.YtlhfekhmfeafbaaDoor.P
