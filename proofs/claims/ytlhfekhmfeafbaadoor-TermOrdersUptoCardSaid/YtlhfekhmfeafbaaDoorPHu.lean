/- Plain facts on the order of terms: it is the reference's, it turns round, and it goes on. -/
import Derived.Test.YtlhfekhmfeafbaaDoorPHs
import Derived.Test.YtlhfekhmfeafbaaDoorPx3
namespace Go.Proofs.YtlhfekhmfeafbaaDoor.P
open Go.RowKit

def lex (a b : Int) : Int := if a = 0 then b else a
theorem or4_lex (a b c d : Int) : or4 a b c d = lex a (lex b (lex c d)) := by
  unfold or4 lex
  by_cases h1 : a = 0 <;> by_cases h2 : b = 0 <;> by_cases h3 : c = 0 <;> simp [h1, h2, h3]
theorem oL_lex (x y : S25) (r s : List S25) : oL (x :: r) (y :: s) = lex (oT x y) (oL r s) := by
  rw [oL]; unfold lex; rfl

/-! Turned round -/
theorem lex_neg (a b : Int) : lex (-a) (-b) = -lex a b := by unfold lex; by_cases h : a = 0 <;> simp [h]
theorem cmpI_neg (a b : Int) : cmpI b a = -cmpI a b := by unfold cmpI; repeat' split <;> omega
theorem cmpB_neg : ∀ l m : List UInt8, Lib.compareBytes m l = -Lib.compareBytes l m
  | [], [] => rfl
  | [], _ :: _ => rfl
  | _ :: _, [] => rfl
  | a :: l, b :: m => by
    rw [Lib.compareBytes, Lib.compareBytes, cmpB_neg l m]
    by_cases h : a < b
    · have h2 : ¬ b < a := by
        rw [UInt8.lt_iff_toNat_lt] at h ⊢; omega
      simp [h, h2]
    · by_cases h2 : b < a <;> simp [h, h2]
theorem cmpS_neg (a b : ByteArray) : cmpS b a = -cmpS a b := cmpB_neg _ _
mutual
theorem oT_neg : ∀ t u : S25, oT u t = -oT t u
  | ⟨a, b, c, l⟩, ⟨a', b', c', l'⟩ => by
    rw [oT, oT]
    simp only [or4_lex]
    rw [cmpI_neg a a', cmpS_neg b b', cmpI_neg c c', oL_neg l l', lex_neg, lex_neg, lex_neg]
theorem oL_neg : ∀ l m : List S25, oL m l = -oL l m
  | [], [] => rfl
  | [], _ :: _ => rfl
  | _ :: _, [] => rfl
  | x :: r, y :: s => by rw [oL_lex, oL_lex, oT_neg x y, oL_neg r s, lex_neg]
end
/-! Its three answers -/
def In3 (x : Int) : Prop := -1 ≤ x ∧ x ≤ 1
instance (x : Int) : Decidable (In3 x) := by unfold In3; infer_instance
theorem lex_in {a b : Int} (ha : In3 a) (hb : In3 b) : In3 (lex a b) := by unfold lex; split <;> assumption
theorem cmpI_in (a b : Int) : In3 (cmpI a b) := by unfold cmpI In3; repeat' split <;> omega
theorem cmpB_in : ∀ l m : List UInt8, In3 (Lib.compareBytes l m)
  | [], [] => by decide
  | [], _ :: _ => by simp only [Lib.compareBytes]; decide
  | _ :: _, [] => by simp only [Lib.compareBytes]; decide
  | a :: l, b :: m => by
    rw [Lib.compareBytes]
    split
    · decide
    · split
      · decide
      · exact cmpB_in l m
mutual
theorem oT_in : ∀ t u : S25, In3 (oT t u)
  | ⟨a, b, c, l⟩, ⟨a', b', c', l'⟩ => by
    rw [oT]
    simp only [or4_lex]
    exact lex_in (cmpI_in _ _) (lex_in (cmpB_in _ _) (lex_in (cmpI_in _ _) (oL_in l l')))
theorem oL_in : ∀ l m : List S25, In3 (oL l m)
  | [], [] => by rw [oL]; decide
  | [], _ :: _ => by rw [oL]; decide
  | _ :: _, [] => by rw [oL]; decide
  | x :: r, y :: s => by rw [oL_lex]; exact lex_in (oT_in x y) (oL_in r s)
end
/-! It goes on -/
def Tri (x y z : Int) : Prop := (x ≤ 0 → y ≤ 0 → z ≤ 0) ∧ (x = 0 → y = 0 → z = 0) ∧ (x < 0 → y ≤ 0 → z < 0) ∧ (x ≤ 0 → y < 0 → z < 0)
theorem Tri.lex {a b c a' b' c' : Int} (h : Tri a b c) (h' : Tri a' b' c') : Tri (lex a a') (lex b b') (lex c c') := by
  obtain ⟨h1, h2, h3, h4⟩ := h
  obtain ⟨k1, k2, k3, k4⟩ := h'
  unfold P.lex
  by_cases e1 : a = 0 <;> by_cases e2 : b = 0 <;> by_cases e3 : c = 0 <;> simp only [e1, e2, e3, if_true, if_false] <;> refine ⟨fun x y => ?_, fun x y => ?_, fun x y => ?_, fun x y => ?_⟩ <;> omega
theorem cmpI_tri (a b c : Int) : Tri (cmpI a b) (cmpI b c) (cmpI a c) := by
  unfold cmpI
  refine ⟨?_, ?_, ?_, ?_⟩ <;> (repeat' split) <;> omega
theorem cmpB_tri : ∀ l m n : List UInt8, Tri (Lib.compareBytes l m) (Lib.compareBytes m n) (Lib.compareBytes l n)
  | [], [], [] => by simp only [Lib.compareBytes]; unfold Tri; omega
  | [], [], _ :: _ => by simp only [Lib.compareBytes]; unfold Tri; omega
  | [], _ :: _, [] => by simp only [Lib.compareBytes]; unfold Tri; omega
  | [], _ :: _, _ :: _ => by
    have := cmpB_in
    simp only [show ∀ (x : UInt8) r, Lib.compareBytes [] (x :: r) = -1 from fun _ _ => rfl]; unfold Tri; omega
  | _ :: _, [], [] => by simp only [Lib.compareBytes]; unfold Tri; omega
  | _ :: _, [], _ :: _ => by
    simp only [show ∀ (x : UInt8) r, Lib.compareBytes [] (x :: r) = -1 from fun _ _ => rfl, show ∀ (x : UInt8) r, Lib.compareBytes (x :: r) [] = 1 from fun _ _ => rfl]; unfold Tri; omega
  | _ :: _, _ :: _, [] => by
    simp only [show ∀ (x : UInt8) r, Lib.compareBytes (x :: r) [] = 1 from fun _ _ => rfl]; unfold Tri; omega
  | a :: l, b :: m, c :: n => by
    have ih := cmpB_tri l m n
    simp only [Lib.compareBytes, UInt8.lt_iff_toNat_lt]
    generalize a.toNat = A at *
    generalize b.toNat = B at *
    generalize c.toNat = C at *
    obtain ⟨k1, k2, k3, k4⟩ := ih
    refine ⟨?_, ?_, ?_, ?_⟩ <;> (repeat' split) <;> omega
mutual
theorem oT_tri : ∀ t u v : S25, Tri (oT t u) (oT u v) (oT t v)
  | ⟨a, b, c, l⟩, ⟨a', b', c', l'⟩, ⟨a'', b'', c'', l''⟩ => by
    rw [oT, oT, oT]
    simp only [or4_lex]
    exact (cmpI_tri _ _ _).lex ((cmpB_tri _ _ _).lex ((cmpI_tri _ _ _).lex (oL_tri l l' l'')))
theorem oL_tri : ∀ l m n : List S25, Tri (oL l m) (oL m n) (oL l n)
  | [], [], [] => by simp only [oL]; unfold Tri; omega
  | [], [], _ :: _ => by simp only [oL]; unfold Tri; omega
  | [], _ :: _, [] => by simp only [oL]; unfold Tri; omega
  | [], y :: s, z :: q => by
    simp only [show ∀ (x : S25) r, oL [] (x :: r) = -1 from fun _ _ => by rw [oL]]; unfold Tri; omega
  | _ :: _, [], [] => by simp only [oL]; unfold Tri; omega
  | _ :: _, [], _ :: _ => by
    simp only [show ∀ (x : S25) r, oL [] (x :: r) = -1 from fun _ _ => by rw [oL], show ∀ (x : S25) r, oL (x :: r) [] = 1 from fun _ _ => by rw [oL]]; unfold Tri; omega
  | _ :: _, _ :: _, [] => by
    simp only [show ∀ (x : S25) r, oL (x :: r) [] = 1 from fun _ _ => by rw [oL]]; unfold Tri; omega
  | x :: r, y :: s, z :: q => by
    rw [oL_lex, oL_lex, oL_lex]
    exact (oT_tri x y z).lex (oL_tri r s q)
end
end Go.Proofs.YtlhfekhmfeafbaaDoor.P
