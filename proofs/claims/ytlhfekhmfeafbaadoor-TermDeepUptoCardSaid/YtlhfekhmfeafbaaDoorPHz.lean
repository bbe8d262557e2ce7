/- Plain facts on how deep a term is; the law's depth. -/
import Derived.Test.YtlhfekhmfeafbaaDoorPHs
import Derived.Test.YtlhfekhmfeafbaaDoorPx10
namespace Go.Proofs.YtlhfekhmfeafbaaDoor.P
open Go.RowKit Go.Proofs.YtlhfekhmfeafbaaDoorW.PrintWords Go.Proofs.YtlhfekhmfeafbaaDoorW.PrintLast Go.Proofs.YtlhfekhmfeafbaaDoorW.PrintMore

mutual
def dT : S25 → Nat
  | ⟨_, _, _, l⟩ => dL l
def dL : List S25 → Nat
  | [] => 0
  | x :: r => max (1 + dT x) (dL r)
end
mutual
def sT : S25 → Bool
  | ⟨a, b, c, l⟩ => shapeB ⟨a, b, c, l⟩ && sL l
def sL : List S25 → Bool
  | [] => true
  | x :: r => sT x && sL r
end
theorem dT_eq (t : S25) : dT t = dL t.f3 := by cases t; rw [dT]
mutual
theorem vT_deep : ∀ (t : S25) (d : Int), vT t d = (sT t && decide ((dT t : Int) + d ≤ 16))
  | ⟨a, b, c, l⟩, d => by
    rw [vT, sT, dT]
    by_cases h : d ≤ 16
    · rw [vL_deep l (d + 1) (by omega)]
      simp only [h, decide_true, Bool.true_and]
      rw [Bool.and_assoc]
      congr 2
      exact decide_eq_decide.2 (by omega)
    · have : ¬ ((dL l : Int) + d ≤ 16) := by omega
      simp [h, this]
theorem vL_deep : ∀ (l : List S25) (d : Int), d ≤ 17 → vL l d = (sL l && decide ((dL l : Int) + d ≤ 17))
  | [], d, h => by rw [vL, sL, dL]; simp; omega
  | x :: r, d, h => by
    rw [vL, sL, dL, vT_deep x d, vL_deep r d h]
    have e : decide (((max (1 + dT x) (dL r) : Nat) : Int) + d ≤ 17) = (decide ((dT x : Int) + d ≤ 16) && decide ((dL r : Int) + d ≤ 17)) := by
      rw [← Bool.decide_and]
      exact decide_eq_decide.2 (by omega)
    rw [e]
    cases sT x <;> cases sL r <;> simp
end
theorem shape_list (l : List S25) : shapeB ⟨3, ⟨#[]⟩, 0, l⟩ = decide (l.length ≤ 64) := by
  simp [shapeB, term_shape.f]
  omega
def wrapT (t : S25) : Nat → S25
  | 0 => t
  | n + 1 => ⟨3, ⟨#[]⟩, 0, [wrapT t n]⟩
theorem wrapT_s (t : S25) : ∀ n, sT (wrapT t n) = sT t
  | 0 => rfl
  | n + 1 => by rw [wrapT, sT, sL, sL, shape_list, wrapT_s t n]; simp
theorem wrapT_d (t : S25) : ∀ n, dT (wrapT t n) = dT t + n
  | 0 => rfl
  | n + 1 => by rw [wrapT, dT, dL, dL, wrapT_d t n]; omega
theorem wrapT_n (t : S25) : ∀ n, nT (wrapT t n) = nT t + n
  | 0 => rfl
  | n + 1 => by rw [wrapT, nT, nL, nL, wrapT_n t n]; simp [ByteArray.size]; omega
theorem wrapT_valid (t : S25) (n : Nat) : vT (wrapT t n) 0 = (vT t 0 && decide ((dT t : Int) + n ≤ 16)) := by
  rw [vT_deep, vT_deep, wrapT_s, wrapT_d]
  rw [Bool.and_assoc, ← Bool.decide_and]
  congr 1
  exact decide_eq_decide.2 (by omega)
theorem rep_s (t : S25) : ∀ n, sL (List.replicate (n + 1) t) = sT t
  | 0 => by simp [List.replicate, sL]
  | n + 1 => by rw [List.replicate_succ, sL, rep_s t n]; simp
theorem rep_d (t : S25) : ∀ n, dL (List.replicate (n + 1) t) = 1 + dT t
  | 0 => by simp [List.replicate, dL]
  | n + 1 => by rw [List.replicate_succ, dL, rep_d t n]; omega
theorem rep_n (t : S25) : ∀ n, nL (List.replicate n t) = n * nT t
  | 0 => by simp [nL]
  | n + 1 => by rw [List.replicate_succ, nL, rep_n t n, Nat.succ_mul]; omega
theorem rep_valid (t : S25) (n : Nat) : vT ⟨3, ⟨#[]⟩, 0, List.replicate (n + 1) t⟩ 0 = (decide (n < 64) && (vT t 0 && decide (dT t < 16))) := by
  rw [vT_deep, vT_deep, sT, dT, shape_list, rep_s, rep_d, List.length_replicate]
  by_cases h : n < 64
  · have h2 : n + 1 ≤ 64 := h
    simp only [h, h2, decide_true, Bool.true_and]
    rw [Bool.and_assoc, ← Bool.decide_and]
    congr 1
    exact decide_eq_decide.2 (by omega)
  · have h2 : ¬ n + 1 ≤ 64 := by omega
    simp [h, h2]

mutual
theorem dT_len : ∀ (t : S25), dT t < nT t
  | ⟨_, b, _, l⟩ => by rw [dT, nT]; have := dL_len l; omega
theorem dL_len : ∀ (l : List S25), dL l ≤ nL l
  | [] => by rw [dL]; omega
  | x :: r => by rw [dL, nL]; have := dT_len x; have := dL_len r; omega
end
theorem dL_drop (l : List S25) (i : Nat) (h : i < l.length) : dL (l.drop i) = max (1 + dT l[i]!) (dL (l.drop (i + 1))) := by
  rw [List.drop_eq_getElem_cons h, dL, getElem!_pos l i h]

theorem rDepth (n : Nat) : ∀ t : S25, nT t ≤ n → nT t ≤ 1000000000 → ∀ k, cT t ≤ k → legatelaw08_depth.f k t.f0 t.f1 t.f2 t.f3 = some (dT t : Int) := by
  induction n with
  | zero => intro t h; rw [nT_eq] at h; omega
  | succ n ih =>
    intro t h hb k hk
    have h0 := h
    rw [nT_eq] at h0
    have hb0 := hb
    rw [nT_eq] at hb0
    have hll := nL_len t.f3
    rw [cT_eq] at hk
    obtain ⟨k, rfl⟩ : ∃ k', k = k' + 1 := ⟨k - 1, by omega⟩
    rw [legatelaw08_depth.f]
    have key : ∀ (j i : Nat), t.f3.length - i = j → i ≤ t.f3.length → ∀ (k m : Nat), cL (t.f3.drop i) ≤ k →
        legatelaw08_depth.l0 k (m : Int) i t.f0 t.f1 t.f2 t.f3 = some ((max m (dL (t.f3.drop i)) : Nat) : Int) := by
      intro j
      induction j with
      | zero =>
        intro i hj hi k m hk
        obtain rfl : i = t.f3.length := by omega
        obtain ⟨k, rfl⟩ : ∃ k', k = k' + 1 := ⟨k - 1, by have := cL_pos (t.f3.drop t.f3.length); omega⟩
        rw [legatelaw08_depth.l0, if_neg (by omega), List.drop_length, dL]
        simp
      | succ j ihj =>
        intro i hj hi k m hk
        have hlt : i < t.f3.length := by omega
        rw [cL_drop _ _ hlt] at hk
        rw [dL_drop _ _ hlt]
        obtain ⟨k, rfl⟩ : ∃ k', k = k' + 1 := ⟨k - 1, by omega⟩
        have hn := nL_at t.f3 i hlt
        have hdl := dT_len t.f3[i]!
        have hc := ih t.f3[i]! (by omega) (by omega) k (by omega)
        rw [legatelaw08_depth.l0, if_pos (by omega), if_pos (by omega), rd_bang, hc]
        simp only [Option.bind_some]
        rw [IntWalk.wrap64_in _ (by omega), IntWalk.wrap64_in _ (by omega)]
        have hm : mx (m : Int) (1 + (dT t.f3[i]! : Int)) = ((max m (1 + dT t.f3[i]!) : Nat) : Int) := by unfold mx; split <;> omega
        rw [hm, show ((i : Int) + 1) = ((i + 1 : Nat) : Int) from by omega, ihj (i + 1) (by omega) (by omega) k _ (by omega)]
        congr 2
        omega
    have := key t.f3.length 0 (by omega) (by omega) k 0 (by rw [List.drop_zero]; omega)
    rw [List.drop_zero] at this
    rw [show (0 : Int) = ((0 : Nat) : Int) from rfl, this, dT_eq, Nat.zero_max]
theorem depth_V {v : Value} {t : S25} (w : World) (hn : nT t ≤ 1000000000) (h : IsT w v t) : V_ 43 #[v] w (.int .i64 (dT t)) := by
  obtain ⟨A, c, rfl, hl, hC⟩ := h
  exact (legatelaw08_depth.calls (cT t) t.f0 t.f1 t.f2 A c t.f3 _ w hC hl (rDepth _ t (Nat.le_refl _) hn _ (Nat.le_refl _))).mono fun _ _ ⟨he, hb⟩ => ⟨he, hb⟩
end Go.Proofs.YtlhfekhmfeafbaaDoor.P
