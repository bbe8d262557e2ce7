/- The Go function term.Size counts the parts. -/
import Derived.Test.YtlhfekhmfeafbaaDoorPHl
import Derived.IntWalk
namespace Go.Proofs.YtlhfekhmfeafbaaDoor.P
open Go.RowKit Go.Proofs.YtlhfekhmfeafbaaDoorW.PrintWords Go.Proofs.YtlhfekhmfeafbaaDoorW.PrintLast Go.Proofs.YtlhfekhmfeafbaaDoorW.PrintMore
attribute [local go_sem] Oper.semAt_some

theorem wrap_step (a : Int) : wrap64 (wrap64 a + 1) = wrap64 (a + 1) := by unfold wrap64; omega

set_option maxHeartbeats 4000000 in
set_option maxRecDepth 100000 in
theorem Size_calls0 (t : S25) (A : Option Addr) (c : Nat) (w : World) (hl : t.f3.length ≤ c) (hC : Kd.C k25 w A t.f3.length t.f3) :
    Calls Tryd.prog 21 #[.agg #[.int .i64 t.f0, .string t.f1, .int .i64 t.f2, .slice A t.f3.length c]] w fun e w' => e = .returned (.int .i64 (wrap64 (partsT t).length)) ∧ Below w.heap.size w w' := by
  refine (callsIn_wide (n := 0)).mp ?_
  obtain ⟨xs, hxs⟩ := nT_parts (nT t) w ⟨t, A, c⟩ (Nat.le_refl _) ⟨hl, hC⟩
  have hlen : (partsT t).length = xs.length := by have := congrArg List.length hxs.1; simpa using this.symm
  rw [hlen]
  have HX := Aside0.mk hxs
  clear hxs hlen hC
  have hu25 := Tryd.underlying25
  refine callsIn_of_wp_marks Tryd.func21 rfl trivial ?_ rfl
  simp only [Tryd.ntmps21, List.size_toArray, List.length_cons, List.length_nil, Nat.reduceAdd, Nat.reduceSub, Array.replicate_succ, Array.replicate_zero, List.push_toArray, List.append_toArray, List.nil_append, List.cons_append]
  gi_wp2_with fail
  refine ⟨trivial, rfl, (callsIn_wide.mpr (parts_calls t A c _)).mono ?_⟩
  rintro e w3 ⟨rfl, rfl⟩
  gi_wp2_with fail
  obtain ⟨bt, hbt⟩ : ∃ bt : Obj, bt = .cells #[.int .i64 t.f0, .string t.f1, .int .i64 t.f2, .slice A t.f3.length c] 25 := ⟨_, rfl⟩
  obtain ⟨ob, hob⟩ : ∃ ob : Obj, ob = .cells #[.int .i64 0] 3 (0, 0) := ⟨_, rfl⟩
  obtain ⟨W1, hW1⟩ : ∃ W1, ((w.alloc bt).alloc ob).alloc bt = W1 := ⟨_, rfl⟩
  rw [← hbt, ← hob, hW1]
  have hs1 : W1.heap.size = w.heap.size + 3 := by rw [← hW1]; simp
  have hb1 : Below w.heap.size w W1 := by rw [← hW1]; exact below_alloc (below_alloc ((Below.refl _ _).alloc (Nat.le_refl _) _) _) _
  have hc1 : W1.heap[w.heap.size + 1]? = some ob := by
    rw [← hW1]
    have := box_new (w.alloc bt) ob
    rw [World.size_alloc] at this
    exact blk_alloc this _
  have hx1 : W1.heap[w.heap.size + 1 + 1]? = some bt := by
    rw [← hW1]
    have := box_new ((w.alloc bt).alloc ob) bt
    rwa [World.size_alloc, World.size_alloc] at this
  refine range_own (gf := 63) (lb := #[.pointer (some ⟨w.heap.size + 1 + 1, 0, none⟩)]) (xs := xs) (n₀ := w.heap.size) rfl (enters_of Tryd.func63 (by kernel_rfl) rfl) rfl (HX.out.2 (w.heap.size + 1 + 1) (by omega)) (by omega)
        (fun i => i = w.heap.size + 1 + 1) (by intro i hi; omega) ?ok
        (fun Pr pre V => V.heap[w.heap.size + 1]? = some (.cells #[.int .i64 (wrap64 pre.length)] 3 (0, 0)) ∧ ¬ Pr (w.heap.size + 1))
        ?steady ?h0 ?round ?done
  case ok =>
    intro V hV hsame
    exact ⟨rfl, hb1.trans hV, (hsame _ (by omega)).trans (hx1.trans (by rw [hbt]))⟩
  case steady =>
    constructor
    · rintro P1 P2 pre V ⟨h1, h2⟩ hp
      exact ⟨h1, fun h => h2 (hp _ h)⟩
    · rintro P1 pre V V' ⟨h1, h2⟩ hs
      refine ⟨(hs.keep _ (blk_lt h1) h2).trans h1, fun h => ?_⟩
      rcases h with h | h
      · exact h2 h
      · have := blk_lt h1; omega
  case h0 => exact ⟨hc1.trans (by rw [hob]; simp [IntWalk.wrap64_in]), by omega⟩
  case round =>
    rintro l x P1 pre V K ⟨h1, h2⟩ hn _ hK
    gi_wp2_with fail
    refine hK _ _ ⟨Below.refl _ _, fun _ _ _ => rfl⟩ ?_
    clear hK
    intro o R hPl hnl hlV hR
    have hne : w.heap.size + 1 ≠ l := fun e => h2 (by rw [e]; exact hPl)
    have hc := (World.putObj_heap_other (w := V) (o := o) hne).trans h1
    have hc0 := (blk_cell hc 0).trans rfl
    have hf0 := blk_frozen hc 0
    gi_wp2_with fail
    refine hR _ _ ⟨?_, h2⟩ ⟨(Below.refl _ _).setCell (p := ⟨w.heap.size + 1, 0, none⟩) (by simp) _, fun i _ hi => Below.heap_setCell _ _ _ _ (fun e => h2 (by have e' : i = w.heap.size + 1 := e; rw [← e']; exact hi))⟩
    refine blk_put hc 0 _ ?_
    rw [wrap_step]
    simp
  case done =>
    rintro D P2 V hDV ⟨h1, h2⟩ hDD hPD hsub2 hbd2 hbV
    have hc0 := (blk_cell h1 0).trans rfl
    gi_wp2_with fail
    refine leaves_marks (n₀ := w.heap.size) (Pr := P2) [D] _ (by simp) (by simp; exact ⟨by omega, hPD, hDD⟩) (fun W' hs => ?_)
    exact ⟨_, results_tmp rfl _ _ _, rfl, (hb1.trans hbV).trans hs.below⟩

theorem partsL_len : ∀ l : List S25, (∀ x ∈ l, (partsT x).length ≤ nT x) → (partsL l).length ≤ nL l
  | [], _ => by simp [partsL]
  | x :: r, h => by
    rw [partsL, nL, List.length_append]
    have := h x (List.mem_cons_self ..)
    have := partsL_len r (fun y hy => h y (List.mem_cons_of_mem _ hy))
    omega
theorem partsT_len : ∀ (n : Nat) (t : S25), nT t ≤ n → (partsT t).length ≤ nT t := by
  intro n
  induction n with
  | zero => intro t h; rw [nT_eq] at h; omega
  | succ n ih =>
    intro t h
    rw [nT_eq] at h ⊢
    rw [partsT_eq, List.length_cons]
    have := partsL_len t.f3 (fun x hx => ih x (by have := nT_mem hx; omega))
    omega
theorem Size_calls (t : S25) (A : Option Addr) (c : Nat) (w : World) (hn : nT t ≤ 9223372036854775807) (hl : t.f3.length ≤ c) (hC : Kd.C k25 w A t.f3.length t.f3) :
    Calls Tryd.prog 21 #[.agg #[.int .i64 t.f0, .string t.f1, .int .i64 t.f2, .slice A t.f3.length c]] w fun e w' => e = .returned (.int .i64 (partsT t).length) ∧ Below w.heap.size w w' := by
  have h := Size_calls0 t A c w hl hC
  have := partsT_len _ t (Nat.le_refl _)
  rwa [IntWalk.wrap64_in _ (by omega)] at h
end Go.Proofs.YtlhfekhmfeafbaaDoor.P
