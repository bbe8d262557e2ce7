/- The reference's Size counts the parts; facts on parts that the laws name. Plain facts on terms and their parts. -/
import Derived.Test.YtimommkbfbdkdaaDoorPHp
import Derived.Test.YtimommkbfbdkdaaDoorPx3
import Derived.IntWalk
namespace Go.Proofs.YtimommkbfbdkdaaDoor.P
open Go.RowKit Go.Proofs.YtimommkbfbdkdaaDoorW.PrintWords Go.Proofs.YtimommkbfbdkdaaDoorW.PrintLast Go.Proofs.YtimommkbfbdkdaaDoorW.PrintMore

/-! Fuel enough for a walk over a term. -/
mutual
def cT : S29 → Nat
  | ⟨_, b, _, l⟩ => 100 + b.size + cL l
def cL : List S29 → Nat
  | [] => 100
  | x :: r => 100 + cT x + cL r
end
theorem cT_eq (t : S29) : cT t = 100 + t.f1.size + cL t.f3 := by cases t; rw [cT]
theorem cL_drop (l : List S29) (i : Nat) (h : i < l.length) : cL (l.drop i) = 100 + cT l[i]! + cL (l.drop (i + 1)) := by
  rw [List.drop_eq_getElem_cons h, cL, getElem!_pos l i h]
theorem cL_pos (l : List S29) : 100 ≤ cL l := by cases l <;> rw [cL] <;> omega
theorem partsL_drop (l : List S29) (i : Nat) (h : i < l.length) : partsL (l.drop i) = partsT l[i]! ++ partsL (l.drop (i + 1)) := by
  rw [List.drop_eq_getElem_cons h, partsL, getElem!_pos l i h]
theorem nL_at (l : List S29) (i : Nat) (h : i < l.length) : nT l[i]! ≤ nL l := by
  rw [getElem!_pos l i h]; exact nT_mem (List.getElem_mem h)

theorem nL_len : ∀ l : List S29, l.length ≤ nL l
  | [] => Nat.zero_le _
  | x :: r => by rw [nL, nT_eq, List.length_cons]; have := nL_len r; omega

theorem rSize (n : Nat) : ∀ t : S29, nT t ≤ n → nT t ≤ 1000000000 → ∀ k, cT t ≤ k → legateref08_Size.f k t.f0 t.f1 t.f2 t.f3 = some ((partsT t).length : Int) := by
  induction n with
  | zero => intro t h; rw [nT_eq] at h; omega
  | succ n ih =>
    intro t h hb k hk
    have hlen := partsT_len _ t (Nat.le_refl _)
    rw [partsT_eq, List.length_cons] at hlen
    have h0 := h
    rw [nT_eq] at h0
    have hb0 := hb
    rw [nT_eq] at hb0
    have hll := nL_len t.f3
    rw [cT_eq] at hk
    obtain ⟨k, rfl⟩ : ∃ k', k = k' + 1 := ⟨k - 1, by omega⟩
    rw [legateref08_Size.f]
    have key : ∀ (j i : Nat), t.f3.length - i = j → i ≤ t.f3.length → ∀ (k : Nat) (s : Int), cL (t.f3.drop i) ≤ k → 0 ≤ s → s + (partsL (t.f3.drop i)).length ≤ 1000000000 →
        legateref08_Size.l0 k s i t.f0 t.f1 t.f2 t.f3 = some (s + ((partsL (t.f3.drop i)).length : Int)) := by
      intro j
      induction j with
      | zero =>
        intro i hj hi k s hk hs hle
        obtain rfl : i = t.f3.length := by omega
        obtain ⟨k, rfl⟩ : ∃ k', k = k' + 1 := ⟨k - 1, by have := cL_pos (t.f3.drop t.f3.length); omega⟩
        rw [legateref08_Size.l0, if_neg (by omega)]
        simp [partsL]
      | succ j ihj =>
        intro i hj hi k s hk hs hle
        have hlt : i < t.f3.length := by omega
        rw [cL_drop _ _ hlt] at hk
        rw [partsL_drop _ _ hlt, List.length_append] at hle ⊢
        obtain ⟨k, rfl⟩ : ∃ k', k = k' + 1 := ⟨k - 1, by omega⟩
        have hn := nL_at t.f3 i hlt
        have hc := ih t.f3[i]! (by omega) (by omega) k (by omega)
        rw [legateref08_Size.l0, if_pos (by omega), if_pos (by omega), rd_bang, hc]
        try simp only [Option.bind_some]
        rw [IntWalk.wrap64_in _ (by omega), IntWalk.wrap64_in _ (by omega)]
        have := ihj (i + 1) (by omega) (by omega) k (s + (partsT t.f3[i]!).length) (by omega) (by omega) (by omega)
        rw [show ((i : Int) + 1) = ((i + 1 : Nat) : Int) from by omega, this]
        congr 1
        omega
    have := key t.f3.length 0 (by omega) (by omega) k 1 (by simpa using (by omega : cL t.f3 ≤ k)) (by omega) (by simp; omega)
    rw [List.drop_zero] at this
    rw [show (0 : Int) = ((0 : Nat) : Int) from rfl, this, partsT_eq, List.length_cons]
    congr 1
    omega
theorem Large_V {v : Value} {t : S29} (w : World) (m : Int) (hn : nT t ≤ 1000000000) (h : IsT w v t) : V_ 9 #[v, .int .i64 m] w (.bool (decide (((partsT t).length : Int) > m))) := by
  obtain ⟨A, c, rfl, hl, hC⟩ := h
  refine (legateref08_Large.calls (cT t) t.f0 t.f1 t.f2 A c t.f3 m _ w hC hl (by rw [legateref08_Large.f, rSize _ t (Nat.le_refl _) hn _ (Nat.le_refl _)]; rfl)).mono ?_
  rintro e w' ⟨he, hb⟩
  exact ⟨he, hb⟩
end Go.Proofs.YtimommkbfbdkdaaDoor.P
namespace Go.Proofs.YtimommkbfbdkdaaDoor.P
open Go.RowKit

theorem cmpI_self (a : Int) : cmpI a a = 0 := by simp [cmpI]
theorem cmpBytes_self : ∀ l : List UInt8, Lib.compareBytes l l = 0
  | [] => rfl
  | x :: r => by rw [Lib.compareBytes]; simp [cmpBytes_self r]
theorem cmpS_self (a : ByteArray) : cmpS a a = 0 := cmpBytes_self _
mutual
theorem oT_self : ∀ t : S29, oT t t = 0
  | ⟨a, b, c, l⟩ => by rw [oT]; simp only [cmpI_self, cmpS_self, or4, if_true, oL_self l]
theorem oL_self : ∀ l : List S29, oL l l = 0
  | [] => rfl
  | x :: r => by rw [oL, if_pos (oT_self x), oL_self r]
end

/-! What is valid so deep is valid less deep. -/
mutual
theorem vT_less : ∀ (t : S29) (d e : Int), e ≤ d → vT t d = true → vT t e = true
  | ⟨a, b, c, l⟩, d, e, h, hv => by
    rw [vT] at hv ⊢
    simp only [Bool.and_eq_true, decide_eq_true_eq] at hv ⊢
    exact ⟨by omega, hv.2.1, vL_less l _ _ (by omega) hv.2.2⟩
theorem vL_less : ∀ (l : List S29) (d e : Int), e ≤ d → vL l d = true → vL l e = true
  | [], _, _, _, _ => by rw [vL]
  | x :: r, d, e, h, hv => by
    rw [vL] at hv ⊢
    simp only [Bool.and_eq_true] at hv ⊢
    exact ⟨vT_less x d e h hv.1, vL_less r d e h hv.2⟩
end
mutual
theorem vT_parts : ∀ (t : S29) (d : Int), vT t d = true → ∀ x ∈ partsT t, vT x d = true
  | ⟨a, b, c, l⟩, d, hv, x, hx => by
    rw [partsT] at hx
    rcases List.mem_cons.1 hx with rfl | hx
    · exact hv
    · rw [vT] at hv
      simp only [Bool.and_eq_true] at hv
      exact vT_less x _ _ (by omega) (vL_parts l (d + 1) hv.2.2 x hx)
theorem vL_parts : ∀ (l : List S29) (d : Int), vL l d = true → ∀ x ∈ partsL l, vT x d = true
  | [], _, _, _, hx => by rw [partsL] at hx; cases hx
  | y :: r, d, hv, x, hx => by
    rw [partsL] at hx
    rw [vL] at hv
    simp only [Bool.and_eq_true] at hv
    rcases List.mem_append.1 hx with hx | hx
    · exact vT_parts y d hv.1 x hx
    · exact vL_parts r d hv.2 x hx
end
mutual
theorem sizeT_parts : ∀ (t : S29) (i : Nat) (h : i < (partsT t).length), (partsT (partsT t)[i]).length + i ≤ (partsT t).length
  | ⟨a, b, c, l⟩, 0, h => by simp [partsT]
  | ⟨a, b, c, l⟩, i + 1, h => by
    simp only [partsT, List.getElem_cons_succ, List.length_cons] at h ⊢
    have := sizeL_parts l i (by omega)
    omega
theorem sizeL_parts : ∀ (l : List S29) (i : Nat) (h : i < (partsL l).length), (partsT (partsL l)[i]).length + i ≤ (partsL l).length
  | [], i, h => by simp [partsL] at h
  | x :: r, i, h => by
    simp only [partsL, List.length_append] at h ⊢
    by_cases hx : i < (partsT x).length
    · rw [List.getElem_append_left hx]
      have := sizeT_parts x i hx
      omega
    · rw [List.getElem_append_right (by omega)]
      have := sizeL_parts r (i - (partsT x).length) (by omega)
      omega
end
mutual
theorem nT_parts_le : ∀ (t : S29), ∀ x ∈ partsT t, nT x ≤ nT t
  | ⟨a, b, c, l⟩, x, hx => by
    rw [partsT] at hx
    rcases List.mem_cons.1 hx with rfl | hx
    · exact Nat.le_refl _
    · have := nL_parts_le l x hx; rw [nT]; omega
theorem nL_parts_le : ∀ (l : List S29), ∀ x ∈ partsL l, nT x ≤ nL l
  | [], _, hx => by rw [partsL] at hx; cases hx
  | y :: r, x, hx => by
    rw [partsL] at hx
    rw [nL]
    rcases List.mem_append.1 hx with hx | hx
    · have := nT_parts_le y x hx; omega
    · have := nL_parts_le r x hx; omega
end
end Go.Proofs.YtimommkbfbdkdaaDoor.P
