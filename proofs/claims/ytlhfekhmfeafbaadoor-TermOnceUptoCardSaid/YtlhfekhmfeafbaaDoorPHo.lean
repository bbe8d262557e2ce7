/- The Go functions slices.Collect over the iterator of a term's parts, and term.Parts: the list of all parts. -/
import Derived.Test.YtlhfekhmfeafbaaDoorPHn
namespace Go.Proofs.YtlhfekhmfeafbaaDoor.P
open Go.RowKit Go.Proofs.YtlhfekhmfeafbaaDoorW.PrintWords Go.Proofs.YtlhfekhmfeafbaaDoorW.PrintLast Go.Proofs.YtlhfekhmfeafbaaDoorW.PrintMore

/-- What lies in the row reads as the terms. -/
theorem els_reps (w0 : World) : ∀ (n : Nat) (xs : List (ElAt w0)), xs.length = n → Reps (k25.K w0) 4 (xs.map (·.1.t)) (xs.flatMap fun x => x.1.cells)
  | 0, xs, h => by
    obtain rfl := List.eq_nil_of_length_eq_zero h
    exact Reps.none _ _
  | n + 1, xs, h => by
    rcases List.eq_nil_or_concat xs with rfl | ⟨l, x, rfl⟩
    · cases h
    · rw [List.concat_eq_append] at h ⊢
      rw [List.length_append] at h
      have ih := els_reps w0 n l (by simpa using h)
      rw [List.map_append, List.flatMap_append]
      simp only [List.map_cons, List.map_nil, List.flatMap_cons, List.flatMap_nil, List.append_nil]
      exact ih.snoc (k25_mk w0 x.1.t x.2.1 x.2.2) rfl

theorem Collect_calls (w0 : World) (gf : Nat) (lb : Array Value) (eg : ∀ args w, (callFunc gf args).run Tryd.prog w = .ok (.enter gf args) w) (Ok : (Nat → Prop) → World → Prop) (xs : List (ElAt w0)) (hN : xs.length ≤ 1000000000)
    (hit : IterAt w0.heap.size (fun y : ElAt w0 => y.1.val) gf lb Ok xs) (w : World) (hw : Below w0.heap.size w0 w) (Pr0 : Nat → Prop) (hbd : ∀ i, Pr0 i → i < w.heap.size)
    (hOk : ∀ W, Below w0.heap.size w W → (∀ i, i < w.heap.size → W.heap[i]? = w.heap[i]?) → Ok Pr0 W) :
    Calls Tryd.prog 44 #[.func (.func gf) #[] lb] w fun e w' => ∃ v, e = .returned v ∧ Kd.R (Kd.fixed k25 w0) 25 w' w0.heap.size (fun _ => True) v (xs.map (·.1.t)) ∧ Below w0.heap.size w0 w' := by
  have H := (callsIn_wide (n := 0)).mp (AppendSeq_walk w0 gf lb eg Ok xs hN hit w hw.size Pr0 hbd hOk)
  have HK := Aside0.mk H
  clear H hit hOk
  go_enter Tryd.func44, Tryd.ntmps44
  go_wp2_with fail
  refine HK.out.mono ?_
  rintro e w1 ⟨v, rfl, ho, hb⟩
  go_wp2_with fail
  go_ret
  refine ⟨_, rfl, ⟨fun _ _ => trivial, _, ?_, els_reps w0 _ xs rfl⟩, hw.trans hb⟩
  rw [List.length_map]
  exact ho

/-- term.Parts -/
theorem Parts_calls (t : S25) (A : Option Addr) (c : Nat) (w : World) (hn : nT t ≤ 1000000000) (hl : t.f3.length ≤ c) (hC : Kd.C k25 w A t.f3.length t.f3) :
    Calls Tryd.prog 12 #[.agg #[.int .i64 t.f0, .string t.f1, .int .i64 t.f2, .slice A t.f3.length c]] w fun e w' =>
      ∃ v, e = .returned v ∧ Kd.R (Kd.fixed k25 w) 25 w' w.heap.size (fun _ => True) v (partsT t) ∧ Below w.heap.size w w' := by
  obtain ⟨xs, hxs⟩ := nT_parts (nT t) w ⟨t, A, c⟩ (Nat.le_refl _) ⟨hl, hC⟩
  have hlen : (partsT t).length = xs.length := by have := congrArg List.length hxs.1; simpa using this.symm
  have hle := partsT_len _ t (Nat.le_refl _)
  obtain ⟨bt, hbt⟩ : ∃ bt : Obj, bt = .cells #[.int .i64 t.f0, .string t.f1, .int .i64 t.f2, .slice A t.f3.length c] 25 := ⟨_, rfl⟩
  have hb1 : Below w.heap.size w ((w.alloc bt).alloc bt) := below_alloc ((Below.refl _ _).alloc (Nat.le_refl _) _) _
  have hx1 : ((w.alloc bt).alloc bt).heap[w.heap.size + 1]? = some bt := by
    have := box_new (w.alloc bt) bt
    rwa [World.size_alloc] at this
  have hsz : ((w.alloc bt).alloc bt).heap.size = w.heap.size + 2 := by simp
  have HC := Aside0.mk (Collect_calls w 63 #[.pointer (some ⟨w.heap.size + 1, 0, none⟩)] (enters_of Tryd.func63 (by kernel_rfl) rfl) (boxOk w (w.heap.size + 1) ⟨t, A, c⟩) xs (by omega) (hxs.2 _ (by omega)) ((w.alloc bt).alloc bt) hb1
    (fun i => i = w.heap.size + 1) (by intro i hi; omega) (fun V hV hs => ⟨rfl, hb1.trans hV, (hs _ (by omega)).trans (hx1.trans (by rw [hbt]))⟩))
  rw [hxs.1, hbt] at HC
  clear hxs hC hbt hb1 hx1 hsz
  have hu25 := Tryd.underlying25
  go_enter Tryd.func12, Tryd.ntmps12
  go_wp2_with fail
  refine (parts_calls t A c _).mono ?_
  rintro e w3 ⟨rfl, rfl⟩
  go_wp2_with fail
  refine HC.out.mono ?_
  rintro e w4 ⟨v, rfl, hR, hb⟩
  go_wp2_with fail
  go_ret
  exact ⟨_, rfl, hR, hb⟩
end Go.Proofs.YtlhfekhmfeafbaaDoor.P
