/- Plain facts on terms and their parts. -/
import Derived.Test.YtlhfekhmfeafbaaDoorPHr
namespace Go.Proofs.YtlhfekhmfeafbaaDoor.P
open Go.RowKit

theorem cmpI_self (a : Int) : cmpI a a = 0 := by simp [cmpI]
theorem cmpBytes_self : ∀ l : List UInt8, Lib.compareBytes l l = 0
  | [] => rfl
  | x :: r => by rw [Lib.compareBytes]; simp [cmpBytes_self r]
theorem cmpS_self (a : ByteArray) : cmpS a a = 0 := cmpBytes_self _
mutual
theorem oT_self : ∀ t : S25, oT t t = 0
  | ⟨a, b, c, l⟩ => by rw [oT]; simp only [cmpI_self, cmpS_self, or4, if_true, oL_self l]
theorem oL_self : ∀ l : List S25, oL l l = 0
  | [] => rfl
  | x :: r => by rw [oL, if_pos (oT_self x), oL_self r]
end

/-! What is valid so deep is valid less deep. -/
mutual
theorem vT_less : ∀ (t : S25) (d e : Int), e ≤ d → vT t d = true → vT t e = true
  | ⟨a, b, c, l⟩, d, e, h, hv => by
    rw [vT] at hv ⊢
    simp only [Bool.and_eq_true, decide_eq_true_eq] at hv ⊢
    exact ⟨by omega, hv.2.1, vL_less l _ _ (by omega) hv.2.2⟩
theorem vL_less : ∀ (l : List S25) (d e : Int), e ≤ d → vL l d = true → vL l e = true
  | [], _, _, _, _ => by rw [vL]
  | x :: r, d, e, h, hv => by
    rw [vL] at hv ⊢
    simp only [Bool.and_eq_true] at hv ⊢
    exact ⟨vT_less x d e h hv.1, vL_less r d e h hv.2⟩
end
mutual
theorem vT_parts : ∀ (t : S25) (d : Int), vT t d = true → ∀ x ∈ partsT t, vT x d = true
  | ⟨a, b, c, l⟩, d, hv, x, hx => by
    rw [partsT] at hx
    rcases List.mem_cons.1 hx with rfl | hx
    · exact hv
    · rw [vT] at hv
      simp only [Bool.and_eq_true] at hv
      exact vT_less x _ _ (by omega) (vL_parts l (d + 1) hv.2.2 x hx)
theorem vL_parts : ∀ (l : List S25) (d : Int), vL l d = true → ∀ x ∈ partsL l, vT x d = true
  | [], _, _, _, hx => by rw [partsL] at hx; cases hx
  | y :: r, d, hv, x, hx => by
    rw [partsL] at hx
    rw [vL] at hv
    simp only [Bool.and_eq_true] at hv
    rcases List.mem_append.1 hx with hx | hx
    · exact vT_parts y d hv.1 x hx
    · exact vL_parts r d hv.2 x hx
end
mutual
theorem sizeT_parts : ∀ (t : S25) (i : Nat) (h : i < (partsT t).length), (partsT (partsT t)[i]).length + i ≤ (partsT t).length
  | ⟨a, b, c, l⟩, 0, h => by simp [partsT]
  | ⟨a, b, c, l⟩, i + 1, h => by
    simp only [partsT, List.getElem_cons_succ, List.length_cons] at h ⊢
    have := sizeL_parts l i (by omega)
    omega
theorem sizeL_parts : ∀ (l : List S25) (i : Nat) (h : i < (partsL l).length), (partsT (partsL l)[i]).length + i ≤ (partsL l).length
  | [], i, h => by simp [partsL] at h
  | x :: r, i, h => by
    simp only [partsL, List.length_append] at h ⊢
    by_cases hx : i < (partsT x).length
    · rw [List.getElem_append_left hx]
      have := sizeT_parts x i hx
      omega
    · rw [List.getElem_append_right (by omega)]
      have := sizeL_parts r (i - (partsT x).length) (by omega)
      omega
end
mutual
theorem nT_parts_le : ∀ (t : S25), ∀ x ∈ partsT t, nT x ≤ nT t
  | ⟨a, b, c, l⟩, x, hx => by
    rw [partsT] at hx
    rcases List.mem_cons.1 hx with rfl | hx
    · exact Nat.le_refl _
    · have := nL_parts_le l x hx; rw [nT]; omega
theorem nL_parts_le : ∀ (l : List S25), ∀ x ∈ partsL l, nT x ≤ nL l
  | [], _, hx => by rw [partsL] at hx; cases hx
  | y :: r, x, hx => by
    rw [partsL] at hx
    rw [nL]
    rcases List.mem_append.1 hx with hx | hx
    · have := nT_parts_le y x hx; omega
    · have := nL_parts_le r x hx; omega
end
end Go.Proofs.YtlhfekhmfeafbaaDoor.P
