/- The reference's Size counts the parts; facts on parts that the laws name. -/
import Derived.Test.YtlhfekhmfeafbaaDoorPHp
import Derived.Test.YtlhfekhmfeafbaaDoorPx2
import Derived.IntWalk
namespace Go.Proofs.YtlhfekhmfeafbaaDoor.P
open Go.RowKit Go.Proofs.YtlhfekhmfeafbaaDoorW.PrintWords Go.Proofs.YtlhfekhmfeafbaaDoorW.PrintLast Go.Proofs.YtlhfekhmfeafbaaDoorW.PrintMore

/-! Fuel enough for a walk over a term. -/
mutual
def cT : S25 → Nat
  | ⟨_, b, _, l⟩ => 100 + b.size + cL l
def cL : List S25 → Nat
  | [] => 100
  | x :: r => 100 + cT x + cL r
end
theorem cT_eq (t : S25) : cT t = 100 + t.f1.size + cL t.f3 := by cases t; rw [cT]
theorem cL_drop (l : List S25) (i : Nat) (h : i < l.length) : cL (l.drop i) = 100 + cT l[i]! + cL (l.drop (i + 1)) := by
  rw [List.drop_eq_getElem_cons h, cL, getElem!_pos l i h]
theorem cL_pos (l : List S25) : 100 ≤ cL l := by cases l <;> rw [cL] <;> omega
theorem partsL_drop (l : List S25) (i : Nat) (h : i < l.length) : partsL (l.drop i) = partsT l[i]! ++ partsL (l.drop (i + 1)) := by
  rw [List.drop_eq_getElem_cons h, partsL, getElem!_pos l i h]
theorem nL_at (l : List S25) (i : Nat) (h : i < l.length) : nT l[i]! ≤ nL l := by
  rw [getElem!_pos l i h]; exact nT_mem (List.getElem_mem h)

theorem nL_len : ∀ l : List S25, l.length ≤ nL l
  | [] => Nat.zero_le _
  | x :: r => by rw [nL, nT_eq, List.length_cons]; have := nL_len r; omega

theorem rSize (n : Nat) : ∀ t : S25, nT t ≤ n → nT t ≤ 1000000000 → ∀ k, cT t ≤ k → legateref08_Size.f k t.f0 t.f1 t.f2 t.f3 = some ((partsT t).length : Int) := by
  induction n with
  | zero => intro t h; rw [nT_eq] at h; omega
  | succ n ih =>
    intro t h hb k hk
    have hlen := partsT_len _ t (Nat.le_refl _)
    rw [partsT_eq, List.length_cons] at hlen
    have h0 := h
    rw [nT_eq] at h0
    have hb0 := hb
    rw [nT_eq] at hb0
    have hll := nL_len t.f3
    rw [cT_eq] at hk
    obtain ⟨k, rfl⟩ : ∃ k', k = k' + 1 := ⟨k - 1, by omega⟩
    rw [legateref08_Size.f]
    have key : ∀ (j i : Nat), t.f3.length - i = j → i ≤ t.f3.length → ∀ (k : Nat) (s : Int), cL (t.f3.drop i) ≤ k → 0 ≤ s → s + (partsL (t.f3.drop i)).length ≤ 1000000000 →
        legateref08_Size.l0 k s i t.f0 t.f1 t.f2 t.f3 = some (s + ((partsL (t.f3.drop i)).length : Int)) := by
      intro j
      induction j with
      | zero =>
        intro i hj hi k s hk hs hle
        obtain rfl : i = t.f3.length := by omega
        obtain ⟨k, rfl⟩ : ∃ k', k = k' + 1 := ⟨k - 1, by have := cL_pos (t.f3.drop t.f3.length); omega⟩
        rw [legateref08_Size.l0, if_neg (by omega)]
        simp [partsL]
      | succ j ihj =>
        intro i hj hi k s hk hs hle
        have hlt : i < t.f3.length := by omega
        rw [cL_drop _ _ hlt] at hk
        rw [partsL_drop _ _ hlt, List.length_append] at hle ⊢
        obtain ⟨k, rfl⟩ : ∃ k', k = k' + 1 := ⟨k - 1, by omega⟩
        have hn := nL_at t.f3 i hlt
        have hc := ih t.f3[i]! (by omega) (by omega) k (by omega)
        rw [legateref08_Size.l0, if_pos (by omega), if_pos (by omega), rd_bang, hc]
        try simp only [Option.bind_some]
        rw [IntWalk.wrap64_in _ (by omega), IntWalk.wrap64_in _ (by omega)]
        have := ihj (i + 1) (by omega) (by omega) k (s + (partsT t.f3[i]!).length) (by omega) (by omega) (by omega)
        rw [show ((i : Int) + 1) = ((i + 1 : Nat) : Int) from by omega, this]
        congr 1
        omega
    have := key t.f3.length 0 (by omega) (by omega) k 1 (by simpa using (by omega : cL t.f3 ≤ k)) (by omega) (by simp; omega)
    rw [List.drop_zero] at this
    rw [show (0 : Int) = ((0 : Nat) : Int) from rfl, this, partsT_eq, List.length_cons]
    congr 1
    omega
theorem Large_V {v : Value} {t : S25} (w : World) (m : Int) (hn : nT t ≤ 1000000000) (h : IsT w v t) : V_ 11 #[v, .int .i64 m] w (.bool (decide (((partsT t).length : Int) > m))) := by
  obtain ⟨A, c, rfl, hl, hC⟩ := h
  refine (legateref08_Large.calls (cT t) t.f0 t.f1 t.f2 A c t.f3 m _ w hC hl (by rw [legateref08_Large.f, rSize _ t (Nat.le_refl _) hn _ (Nat.le_refl _)]; rfl)).mono ?_
  rintro e w' ⟨he, hb⟩
  exact ⟨he, hb⟩
end Go.Proofs.YtlhfekhmfeafbaaDoor.P
