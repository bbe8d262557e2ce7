/- The reference's Order and Same come to the plain order. -/
import Derived.Test.YtlhfekhmfeafbaaDoorPHs
import Derived.Test.YtlhfekhmfeafbaaDoorPx3
namespace Go.Proofs.YtlhfekhmfeafbaaDoor.P
open Go.RowKit

theorem bytes_less : ∀ l m : List UInt8, Lib.compareBytes l m = if l = m then 0 else if Op.bytesLess l m = true then -1 else 1
  | [], [] => by simp [Lib.compareBytes]
  | [], b :: m => by simp [Lib.compareBytes, Op.bytesLess]
  | a :: l, [] => by simp [Lib.compareBytes, Op.bytesLess]
  | a :: l, b :: m => by
    rw [Lib.compareBytes, bytes_less l m]
    by_cases h1 : a < b
    · have hne : a ≠ b := fun e => by subst e; exact absurd h1 (by simp)
      simp [h1, Op.bytesLess, hne]
    · by_cases h2 : b < a
      · have hne : a ≠ b := fun e => by subst e; exact absurd h2 (by simp)
        simp [h1, h2, Op.bytesLess, hne]
      · have he : a = b := by
          apply UInt8.toNat_inj.1
          rw [UInt8.lt_iff_toNat_lt] at h1 h2
          omega
        subst he
        simp [Op.bytesLess]
theorem sign_some (b : Bool) : legateref08_sign.f b = some (if b = true then -1 else 1) := by unfold legateref08_sign.f; split <;> rfl

theorem rOrder (n : Nat) : ∀ t u : S25, nT t ≤ n → nT t ≤ 1000000000 → nT u ≤ 1000000000 → ∀ k, cT t ≤ k → legateref08_Order.f k t.f0 t.f1 t.f2 t.f3 u.f0 u.f1 u.f2 u.f3 = some (oT t u) := by
  induction n with
  | zero => intro t u h; rw [nT_eq] at h; omega
  | succ n ih =>
    intro t u h hb hbu k hk
    have h0 := h
    rw [nT_eq] at h0
    have hb0 := hb
    rw [nT_eq] at hb0
    have hbu0 := hbu
    rw [nT_eq] at hbu0
    have hll := nL_len t.f3
    have hlu := nL_len u.f3
    rw [cT_eq] at hk
    obtain ⟨k, rfl⟩ : ∃ k', k = k' + 1 := ⟨k - 1, by omega⟩
    rw [legateref08_Order.f, oT_eq]
    by_cases e0 : t.f0 = u.f0
    · rw [if_pos e0, show cmpI t.f0 u.f0 = 0 from by rw [e0]; exact cmpI_self _]
      by_cases e1 : t.f1.toList = u.f1.toList
      · have e1' : cmpS t.f1 u.f1 = 0 := by
          unfold cmpS
          rw [← Lib.toList_data, ← Lib.toList_data, e1]; exact cmpBytes_self _
        rw [if_pos e1, e1']
        by_cases e2 : t.f2 = u.f2
        · rw [if_pos e2, show cmpI t.f2 u.f2 = 0 from by rw [e2]; exact cmpI_self _]
          have key : ∀ (j i : Nat), t.f3.length - i = j → i ≤ t.f3.length → i ≤ u.f3.length → ∀ (k : Nat), cL (t.f3.drop i) ≤ k →
              legateref08_Order.l0 k i t.f0 t.f1 t.f2 t.f3 u.f0 u.f1 u.f2 u.f3 = some (oL (t.f3.drop i) (u.f3.drop i)) := by
            intro j
            induction j with
            | zero =>
              intro i hj hi hiu k hk
              obtain rfl : i = t.f3.length := by omega
              obtain ⟨k, rfl⟩ : ∃ k', k = k' + 1 + 1 := ⟨k - 2, by have := cL_pos (t.f3.drop t.f3.length); omega⟩
              rw [legateref08_Order.l0, if_neg (by omega), legateref08_Order.j1, if_neg (by simp), List.drop_length]
              by_cases e : (t.f3.length : Int) = u.f3.length
              · have : u.f3.drop t.f3.length = [] := List.drop_eq_nil_of_le (by omega)
                rw [if_pos e, this, oL]
              · rw [if_neg e, sign_some, List.drop_eq_getElem_cons (by omega : t.f3.length < u.f3.length), oL]
                simp
                omega
            | succ j ihj =>
              intro i hj hi hiu k hk
              have hlt : i < t.f3.length := by omega
              rw [cL_drop _ _ hlt] at hk
              obtain ⟨k, rfl⟩ : ∃ k', k = k' + 1 + 1 := ⟨k - 2, by omega⟩
              rw [legateref08_Order.l0, if_pos (by omega), legateref08_Order.j1]
              by_cases hu : i < u.f3.length
              · have hn := nL_at t.f3 i hlt
                have hnu := nL_at u.f3 i hu
                have hc := ih t.f3[i]! u.f3[i]! (by omega) (by omega) (by omega) k (by omega)
                have hih := ihj (i + 1) (by omega) (by omega) (by omega) k (by omega)
                rw [if_pos (by simp; omega), if_pos (by omega), if_pos (by omega), if_pos (by omega), rd_bang, rd_bang, hc]
                rw [List.drop_eq_getElem_cons hlt, List.drop_eq_getElem_cons hu, oL, ← getElem!_pos t.f3 i hlt, ← getElem!_pos u.f3 i hu]
                simp only [Option.bind_some]
                rw [IntWalk.wrap64_in _ (by omega), show ((i : Int) + 1) = ((i + 1 : Nat) : Int) from by omega, hih]
                split <;> rfl
              · have : u.f3.drop i = [] := List.drop_eq_nil_of_le (by omega)
                rw [if_neg (by simp; omega), this, List.drop_eq_getElem_cons hlt, oL, if_neg (by omega), sign_some]
                simp
                omega
          have := key t.f3.length 0 (by omega) (by omega) (by omega) k (by rw [List.drop_zero]; omega)
          rw [show (0 : Int) = ((0 : Nat) : Int) from rfl, this, List.drop_zero, List.drop_zero]
          simp [or4]
        · rw [if_neg e2, sign_some]
          simp only [Option.bind_some, or4, if_true]
          unfold cmpI
          by_cases hl : t.f2 < u.f2
          · simp [hl]
          · simp only [hl, decide_false, if_false]
            rw [if_pos (show t.f2 > u.f2 by omega)]
            rfl
      · rw [if_neg e1, sign_some]
        have e1' : cmpS t.f1 u.f1 = if Op.bytesLess t.f1.toList u.f1.toList = true then -1 else 1 := by
          unfold cmpS
          rw [← Lib.toList_data, ← Lib.toList_data, bytes_less, if_neg e1]
        rw [e1']
        simp only [Option.bind_some, or4, if_true]
        split <;> rfl
    · rw [if_neg e0, sign_some]
      simp only [Option.bind_some, or4]
      unfold cmpI
      by_cases hl : t.f0 < u.f0
      · simp [hl]
      · simp only [hl, decide_false, if_false]
        rw [if_pos (show t.f0 > u.f0 by omega)]
        rfl
theorem refOrder_V {v u : Value} {t s : S25} (w : World) (hn : nT t ≤ 1000000000) (hn2 : nT s ≤ 1000000000) (h : IsT w v t) (h2 : IsT w u s) : V_ 40 #[v, u] w (.int .i64 (oT t s)) := by
  obtain ⟨A, c, rfl, hl, hC⟩ := h
  obtain ⟨B, d, rfl, hl2, hC2⟩ := h2
  exact (legateref08_Order.calls (cT t) t.f0 t.f1 t.f2 A c t.f3 s.f0 s.f1 s.f2 B d s.f3 _ w hC hl hC2 hl2 (rOrder _ t s (Nat.le_refl _) hn hn2 _ (Nat.le_refl _))).mono fun _ _ ⟨he, hb⟩ => ⟨he, hb⟩
theorem refSame_V {v u : Value} {t s : S25} (w : World) (hn : nT t ≤ 1000000000) (hn2 : nT s ≤ 1000000000) (h : IsT w v t) (h2 : IsT w u s) : V_ 14 #[v, u] w (.bool (oT t s == 0)) := by
  obtain ⟨A, c, rfl, hl, hC⟩ := h
  obtain ⟨B, d, rfl, hl2, hC2⟩ := h2
  exact (legateref08_Same.calls (cT t) t.f0 t.f1 t.f2 A c t.f3 s.f0 s.f1 s.f2 B d s.f3 _ w hC hl hC2 hl2 (by rw [legateref08_Same.f, rOrder _ t s (Nat.le_refl _) hn hn2 _ (Nat.le_refl _)]; rfl)).mono fun _ _ ⟨he, hb⟩ => ⟨he, hb⟩
end Go.Proofs.YtlhfekhmfeafbaaDoor.P
