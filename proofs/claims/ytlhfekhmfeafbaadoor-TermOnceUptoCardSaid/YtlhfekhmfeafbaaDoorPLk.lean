/- The law's digits comes to the plain gT. -/
import Derived.Test.YtlhfekhmfeafbaaDoorPLj
import Derived.Test.YtlhfekhmfeafbaaDoorPx9
import Derived.Test.YtlhfekhmfeafbaaDoorPHp
import Derived.IntWalk
namespace Go.Proofs.YtlhfekhmfeafbaaDoor.P
open Go.RowKit Go.Proofs.YtlhfekhmfeafbaaDoorW.PrintWords Go.Proofs.YtlhfekhmfeafbaaDoorW.PrintLast Go.Proofs.YtlhfekhmfeafbaaDoorW.PrintMore

theorem gL_drop (l : List S25) (i : Nat) (h : i < l.length) : gL (l.drop i) = (gT l[i]! || gL (l.drop (i + 1))) := by
  rw [List.drop_eq_getElem_cons h, gL, getElem!_pos l i h]
theorem dig_step (k i : Nat) (b : Bool) (s : ByteArray) (a n : Int) (l : List S25) (h1 : (i : Int) < s.size) :
    legatelaw08_digits.l0 (k + 1) b i a s n l = legatelaw08_digits.l0 k (b && dgc i (bt s i)) (wrap64 (i + 1)) a s n l := by
  rw [legatelaw08_digits.l0, if_pos h1, if_pos (by omega : (0 : Int) ≤ i)]
  generalize bt s i = c
  cases b with
  | false => simp
  | true =>
    rw [if_pos rfl, Bool.true_and]
    unfold dgc
    by_cases e1 : c ≥ 48 <;> by_cases e2 : c ≤ 57 <;> by_cases e3 : i = 0 <;> simp [e1, e2, e3]
theorem rDig (n : Nat) : ∀ t : S25, nT t ≤ n → nT t ≤ 1000000000 → ∀ k, cT t ≤ k → legatelaw08_digits.f k t.f0 t.f1 t.f2 t.f3 = some (gT t) := by
  induction n with
  | zero => intro t h; rw [nT_eq] at h; omega
  | succ n ih =>
    intro t h hb k hk
    have h0 := h
    rw [nT_eq] at h0
    have hb0 := hb
    rw [nT_eq] at hb0
    have hll := nL_len t.f3
    rw [cT_eq] at hk
    have key : ∀ (j i : Nat), t.f3.length - i = j → i ≤ t.f3.length → ∀ (k : Nat), cL (t.f3.drop i) ≤ k →
        legatelaw08_digits.l1 k i t.f0 t.f1 t.f2 t.f3 = some (gL (t.f3.drop i)) := by
      intro j
      induction j with
      | zero =>
        intro i hj hi k hk
        obtain rfl : i = t.f3.length := by omega
        obtain ⟨k, rfl⟩ : ∃ k', k = k' + 1 := ⟨k - 1, by have := cL_pos (t.f3.drop t.f3.length); omega⟩
        rw [legatelaw08_digits.l1, if_neg (by omega), List.drop_length, gL]
      | succ j ihj =>
        intro i hj hi k hk
        have hlt : i < t.f3.length := by omega
        rw [cL_drop _ _ hlt] at hk
        rw [gL_drop _ _ hlt]
        obtain ⟨k, rfl⟩ : ∃ k', k = k' + 1 := ⟨k - 1, by omega⟩
        have hn := nL_at t.f3 i hlt
        have hc := ih t.f3[i]! (by omega) (by omega) k (by omega)
        rw [legatelaw08_digits.l1, if_pos (by omega), if_pos (by omega), rd_bang, hc]
        simp only [Option.bind_some]
        cases gT t.f3[i]! with
        | true => rfl
        | false =>
          rw [if_neg (by decide), IntWalk.wrap64_in _ (by omega), show ((i : Int) + 1) = ((i + 1 : Nat) : Int) from by omega, ihj (i + 1) (by omega) (by omega) k (by omega)]
          rfl
    have K2 : ∀ k, cL t.f3 + 1 ≤ k → legatelaw08_digits.j2 k t.f0 t.f1 t.f2 t.f3 = some (gL t.f3) := by
      intro k hk
      obtain ⟨k, rfl⟩ : ∃ k', k = k' + 1 := ⟨k - 1, by omega⟩
      rw [legatelaw08_digits.j2]
      have := key t.f3.length 0 (by omega) (by omega) k (by rw [List.drop_zero]; omega)
      rw [List.drop_zero] at this
      exact this
    have key2 : ∀ (j i : Nat), t.f1.size - i = j → i ≤ t.f1.size → ∀ (k : Nat) (b : Bool), j + cL t.f3 + 2 ≤ k → b = dgA t.f1 i →
        legatelaw08_digits.l0 k b i t.f0 t.f1 t.f2 t.f3 = some (dgA t.f1 t.f1.size || gL t.f3) := by
      intro j
      induction j with
      | zero =>
        intro i hj hi k b hk hbb
        obtain rfl : i = t.f1.size := by omega
        obtain ⟨k, rfl⟩ : ∃ k', k = k' + 1 := ⟨k - 1, by omega⟩
        rw [legatelaw08_digits.l0, if_neg (by omega), ← hbb]
        cases b with
        | true => rfl
        | false => rw [if_neg (by decide), K2 k (by omega)]; rfl
      | succ j ihj =>
        intro i hj hi k b hk hbb
        obtain ⟨k, rfl⟩ : ∃ k', k = k' + 1 := ⟨k - 1, by omega⟩
        rw [dig_step k i b _ _ _ _ (by omega), IntWalk.wrap64_in _ (by omega), show ((i : Int) + 1) = ((i + 1 : Nat) : Int) from by omega]
        exact ihj (i + 1) (by omega) (by omega) k _ (by omega) (by rw [dgA, hbb])
    have K0 : ∀ k (b : Bool), t.f1.size + cL t.f3 + 3 ≤ k → legatelaw08_digits.j0 k b t.f0 t.f1 t.f2 t.f3 = some ((b && dgA t.f1 t.f1.size) || gL t.f3) := by
      intro k b hk
      obtain ⟨k, rfl⟩ : ∃ k', k = k' + 1 := ⟨k - 1, by omega⟩
      rw [legatelaw08_digits.j0]
      cases b with
      | true =>
        rw [if_pos rfl]
        exact key2 t.f1.size 0 (by omega) (by omega) k true (by omega) rfl
      | false => rw [if_neg (by decide), K2 k (by omega)]; rfl
    obtain ⟨k, rfl⟩ : ∃ k', k = k' + 1 := ⟨k - 1, by omega⟩
    rw [legatelaw08_digits.f, gT_eq]
    have hs : (t.f1.toList != ([] : List UInt8)) = decide (t.f1.size ≠ 0) := by
      rw [Lib.toList_data]
      have hl : t.f1.data.toList.length = t.f1.size := by rw [Array.length_toList]; rfl
      cases hh : t.f1.data.toList with
      | nil => rw [hh] at hl; simp at hl; simp [← hl]
      | cons c r => rw [hh] at hl; simp at hl; simp [← hl]
    by_cases h0 : t.f0 = 0
    · rw [if_pos h0, K0 k _ (by omega), hs, h0]; unfold digB; simp
    · rw [if_neg h0, K0 k _ (by omega)]; simp [h0]
theorem dig_V {v : Value} {t : S25} (w : World) (hn : nT t ≤ 1000000000) (h : IsT w v t) : V_ 42 #[v] w (.bool (gT t)) := by
  obtain ⟨A, c, rfl, hl, hC⟩ := h
  exact (legatelaw08_digits.calls (cT t) t.f0 t.f1 t.f2 A c t.f3 _ w hC hl (rDig _ t (Nat.le_refl _) hn _ (Nat.le_refl _))).mono fun _ _ ⟨he, hb⟩ => ⟨he, hb⟩
end Go.Proofs.YtlhfekhmfeafbaaDoor.P
