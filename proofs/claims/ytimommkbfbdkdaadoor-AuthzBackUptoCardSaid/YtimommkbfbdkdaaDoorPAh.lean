/- What a container tells, plainly (readA), and how big it can be. -/
import Derived.Test.YtimommkbfbdkdaaDoorPAg
import Derived.Test.YtimommkbfbdkdaaDoorPHs
namespace Go.Proofs.YtimommkbfbdkdaaDoor.P
open Go.RowKit Go.Proofs.YtimommkbfbdkdaaDoorW.PrintWords Go.Proofs.YtimommkbfbdkdaaDoorW.PrintLast Go.Proofs.YtimommkbfbdkdaaDoorW.PrintMore

def ec (l : List S29) (o : Bool) (k : Int) : List S29 × List S29 × Bool := ((eL k (nx l o 3).1.f3).1, (nx l o 3).2.1, (nx l o 3).2.2 || (eL k (nx l o 3).1.f3).2)
def rdAll (l : List S29) (o : Bool) : Au × List S29 × Bool :=
  let a := nx l o 0
  let b := ec a.2.1 a.2.2 1
  let c := nx b.2.1 b.2.2 1
  let d := ec c.2.1 c.2.2 0
  let e := nx d.2.1 d.2.2 0
  let f := nx e.2.1 e.2.2 1
  let h := nx f.2.1 (flOdd f.1.f2 f.2.2) 1
  (⟨a.1.f1, b.1.map (·.f2), c.1.f2, d.1.map (·.f1), e.1.f1, f.1.f2 == 1, h.1.f2⟩, h.2.1, h.2.2)
def topB (t : S29) : Bool := t.f0 == 3 && (decide (t.f3.length = 3) && (t.f1.toList.isEmpty && t.f2 == 0))
def okRd (r : Au × List S29 × Bool) : Bool := !r.2.2 && (r.2.1.isEmpty && validA r.1)
def rdTop (t : S29) : Au × List S29 × Bool := rdAll (nx (t.f3.take 1) false 3).1.f3 (nx (t.f3.take 1) false 3).2.2
def canR (t : S29) : Bool := topB t && okRd (rdTop t)
def readA (t : S29) : Au := if canR t = true then (rdTop t).1 else zA
def readE (t : S29) : Int := if canR t = true then 0 else 50

theorem nT_z : nT z29 = 1 := rfl
theorem nx_n (l : List S29) (o : Bool) (k : Int) : nT (nx l o k).1 ≤ 1 + nL l ∧ nL (nx l o k).2.1 ≤ nL l := by
  cases l with
  | nil => rw [nx_nil]; exact ⟨by rw [nT_z]; omega, Nat.le_refl _⟩
  | cons x r =>
    cases o with
    | true => rw [nx_odd]; exact ⟨by rw [nT_z]; omega, Nat.le_refl _⟩
    | false =>
      rw [nx_cons, nL]
      by_cases h : x.f0 = k
      · rw [if_pos h]; exact ⟨by dsimp only; omega, by dsimp only; omega⟩
      · rw [if_neg h]; exact ⟨by dsimp only; rw [nT_z]; omega, by dsimp only; rw [nL]; omega⟩
theorem eL_n (k : Int) : ∀ l : List S29, nL (eL k l).1 ≤ 1 + nL l
  | [] => by rw [eL, nL]; omega
  | x :: r => by
    have ih := eL_n k r
    rw [eL, nL]
    by_cases h : x.f0 = k
    · rw [if_pos h]
      cases hp : pOdd x with
      | true => rw [if_pos rfl]; dsimp only; rw [nL, nL]; omega
      | false => rw [if_neg (by decide)]; dsimp only; rw [nL]; omega
    · rw [if_neg h]; dsimp only; rw [nL, nL, nT_z]; omega
theorem ec_n (l : List S29) (o : Bool) (k : Int) : nL (ec l o k).1 ≤ 2 + nL l ∧ nL (ec l o k).2.1 ≤ nL l := by
  obtain ⟨h1, h2⟩ := nx_n l o 3
  have h3 := eL_n k (nx l o 3).1.f3
  rw [nT_eq] at h1
  exact ⟨by unfold ec; dsimp only; omega, h2⟩
theorem nS_map : ∀ l : List S29, nS (l.map (·.f1)) ≤ nL l
  | [] => Nat.le_refl _
  | x :: r => by have := nS_map r; rw [List.map_cons, nS, nL, nT_eq]; omega
theorem rdAll_n (l : List S29) (o : Bool) : nA (rdAll l o).1 ≤ 10 + 4 * nL l := by
  unfold rdAll
  dsimp only
  have h1 := nx_n l o 0
  generalize nx l o 0 = a at h1 ⊢
  have h2 := ec_n a.2.1 a.2.2 1
  generalize ec a.2.1 a.2.2 1 = b at h2 ⊢
  have h3 := nx_n b.2.1 b.2.2 1
  generalize nx b.2.1 b.2.2 1 = c at h3 ⊢
  have h4 := ec_n c.2.1 c.2.2 0
  generalize ec c.2.1 c.2.2 0 = d at h4 ⊢
  have h5 := nx_n d.2.1 d.2.2 0
  generalize nx d.2.1 d.2.2 0 = e at h5 ⊢
  unfold nA
  dsimp only
  rw [List.length_map]
  have e1 := nT_eq a.1
  have e2 := nL_len b.1
  have e3 := nS_map d.1
  have e4 := nT_eq e.1
  omega
theorem rdTop_n (t : S29) : nA (rdTop t).1 ≤ 20 + 4 * nT t := by
  have h1 := rdAll_n (nx (t.f3.take 1) false 3).1.f3 (nx (t.f3.take 1) false 3).2.2
  have h2 := nx_n (t.f3.take 1) false 3
  have h3 : nL (t.f3.take 1) ≤ nL t.f3 := by
    cases t.f3 with
    | nil => exact Nat.le_refl _
    | cons x r => rw [List.take_succ_cons, List.take_zero, nL, nL, nL]; omega
  have e0 := nT_eq t
  have e1 := nT_eq (nx (t.f3.take 1) false 3).1
  unfold rdTop
  omega
end Go.Proofs.YtimommkbfbdkdaaDoor.P
