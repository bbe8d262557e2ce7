/- The Go function term.Text answers just as the plain Lean function textB, at every term whose numbers are 64 bit numbers and that is not too large, where strconv's table lies as it is laid. -/
import Derived.Test.YtimommkbfbdkdaaDoorPHe
import Derived.WalkSmall
import Derived.Lib.AppendIntMem
namespace Go.Proofs.YtimommkbfbdkdaaDoor.P
open Go.RowKit Go.Proofs.YtimommkbfbdkdaaDoorW.PrintWords Go.Proofs.YtimommkbfbdkdaaDoorW.PrintLast Go.Proofs.YtimommkbfbdkdaaDoorW.PrintMore

/-- strconv's table of powers lies as its initialiser lays it. -/
def Laid (w : World) : Prop := Lib.TabIs Tryd.prog w "internal/strconv.uint64pow10" .u64 Lib.pow10Tab
theorem gPow : Tryd.prog.globalNamed "internal/strconv.uint64pow10" = some 1 := by kernel_rfl
theorem Laid.below {w w' : World} (h : Laid w) (hb : Below w.heap.size w w') : Laid w' := by
  refine var?_below hb gPow ?_ h
  unfold Laid Lib.TabIs World.var? at h
  rw [gPow] at h
  simp only [Option.bind_some] at h
  rcases Nat.lt_or_ge 1 w.heap.size with h1 | h1
  · exact h1
  · rw [Array.getElem?_eq_none h1] at h; exact absurd h (by simp)
def itoaB (n : Int) : ByteArray := ⟨(Lib.itoa n).toArray⟩
theorem Itoa_calls (n : Int) (h0 : -9223372036854775808 ≤ n) (h1 : n ≤ 9223372036854775807) (w : World) (hL : Laid w) :
    Calls Tryd.prog 52 #[.int .i64 n] w fun e w' => e = .returned (.string (itoaB n)) ∧ Below w.heap.size w w' :=
  (Tryd.strconv_Itoa n h0 h1 w hL).mono fun e w' ⟨he, k, os, hw⟩ => ⟨he, by subst hw; exact Lib.below_grow _ w (Nat.le_refl _) k os⟩

/-! Numbers that fit -/
def i64 (n : Int) : Prop := -9223372036854775808 ≤ n ∧ n ≤ 9223372036854775807
mutual
def okT : S29 → Prop
  | ⟨a, _, c, l⟩ => i64 a ∧ i64 c ∧ okL l
def okL : List S29 → Prop
  | [] => True
  | x :: r => okT x ∧ okL r
end
theorem okT_eq (t : S29) : okT t = (i64 t.f0 ∧ i64 t.f2 ∧ okL t.f3) := by cases t; rw [okT]
theorem okL_mem : ∀ {l : List S29} {x : S29}, okL l → x ∈ l → okT x
  | y :: r, x, h, hx => by
    rw [okL] at h
    rcases List.mem_cons.1 hx with rfl | hx
    · exact h.1
    · exact okL_mem h.2 hx

/-! The text -/
def joinB (l : List ByteArray) : ByteArray := ⟨(Lib.join (l.map (·.data.toList)) [32]).toArray⟩
def keyB (s : ByteArray) (n : Int) : ByteArray := (((⟨#[107, 101, 121, 40]⟩ ++ s) ++ ⟨#[32]⟩) ++ itoaB n) ++ ⟨#[41]⟩
def sealB (head a : ByteArray) (n : Int) (b : ByteArray) : ByteArray := (((((head ++ a) ++ ⟨#[32]⟩) ++ itoaB n) ++ ⟨#[32]⟩) ++ b) ++ ⟨#[41]⟩
mutual
def textB : S29 → ByteArray
  | ⟨k, s, n, l⟩ => if k = 0 then s else if k = 1 then itoaB n else if k = 2 then keyB s n else if k = 3 then (⟨#[91]⟩ ++ joinB (textL l)) ++ ⟨#[93]⟩ else
    if k = 5 ∨ k = 4 then (match textL l with
      | [a, b] => sealB (if k = 5 then ⟨#[115, 117, 109, 40]⟩ else ⟨#[115, 101, 97, 108, 40]⟩) a n b
      | _ => ⟨#[63]⟩) else ⟨#[63]⟩
def textL : List S29 → List ByteArray
  | [] => []
  | x :: r => textB x :: textL r
end
theorem textL_map : ∀ l : List S29, textL l = l.map textB
  | [] => by rw [textL]; rfl
  | x :: r => by rw [textL, textL_map r]; rfl

/-! How long it is -/
theorem digits_le : ∀ (k n : Nat), n < 10 ^ (k + 1) → (Lib.decDigits n).length ≤ k + 1
  | 0, n, h => by rw [Lib.decDigits_one (by simpa using h)]; simp
  | k + 1, n, h => by
    unfold Lib.decDigits
    split
    · simp
    · have h2 := digits_le k (n / 10) (by rw [Nat.pow_succ] at h; omega)
      simp only [List.length_append, List.length_singleton]
      omega
theorem itoaB_le (n : Int) (h : i64 n) : (itoaB n).size ≤ 20 := by
  show (Lib.itoa n).toArray.size ≤ 20
  obtain ⟨h0, h1⟩ := h
  unfold Lib.itoa
  rw [List.size_toArray]
  split
  · have := digits_le 18 n.natAbs (by omega)
    simp only [List.length_cons]; omega
  · have := digits_le 18 n.toNat (by omega)
    omega
def sumL : List ByteArray → Nat
  | [] => 0
  | x :: r => x.size + 1 + sumL r
theorem join_len : ∀ l : List ByteArray, (Lib.join (l.map (·.data.toList)) [32]).length ≤ sumL l
  | [] => by simp [Lib.join_nil, sumL]
  | x :: r => by
    have hx : x.data.toList.length = x.size := data_length x
    have h2 : ∀ r : List ByteArray, (Lib.joinTail [32] (r.map (·.data.toList))).length ≤ sumL r := by
      intro r
      induction r with
      | nil => simp [Lib.joinTail, sumL]
      | cons y r ih =>
        have hy : y.data.toList.length = y.size := data_length y
        simp only [Lib.joinTail, sumL, List.map_cons, List.flatten_cons, List.length_append, List.length_singleton, hy] at ih ⊢
        omega
    have := h2 r
    rw [List.map_cons, Lib.join_cons, List.length_append, hx, sumL]
    omega
theorem joinB_size (l : List ByteArray) : (joinB l).size ≤ sumL l := by
  show (Lib.join (l.map (·.data.toList)) [32]).toArray.size ≤ _
  rw [List.size_toArray]; exact join_len l
mutual
theorem textB_le : ∀ t : S29, okT t → (textB t).size + 1 ≤ 32 * nT t
  | ⟨k, s, n, l⟩, h => by
    rw [okT] at h
    have hi := itoaB_le n h.2.1
    have hl := textL_le l h.2.2
    rw [textB, nT]
    split
    · omega
    · split
      · omega
      · split
        · simp only [keyB, ByteArray.size_append, show (⟨#[107, 101, 121, 40]⟩ : ByteArray).size = 4 from rfl, show (⟨#[32]⟩ : ByteArray).size = 1 from rfl, show (⟨#[41]⟩ : ByteArray).size = 1 from rfl]; omega
        · split
          · have := joinB_size (textL l)
            simp only [ByteArray.size_append, show (⟨#[91]⟩ : ByteArray).size = 1 from rfl, show (⟨#[93]⟩ : ByteArray).size = 1 from rfl]; omega
          · split
            · split
              · rename_i a b e
                rw [e] at hl
                simp only [sumL] at hl
                have hh : ∀ b : Bool, (if b = true then (⟨#[115, 117, 109, 40]⟩ : ByteArray) else ⟨#[115, 101, 97, 108, 40]⟩).size ≤ 5 := by decide
                have hk : (if k = 5 then (⟨#[115, 117, 109, 40]⟩ : ByteArray) else ⟨#[115, 101, 97, 108, 40]⟩).size ≤ 5 := by
                  split
                  · exact hh true
                  · exact hh false
                simp only [sealB, ByteArray.size_append, show (⟨#[32]⟩ : ByteArray).size = 1 from rfl, show (⟨#[41]⟩ : ByteArray).size = 1 from rfl]; omega
              · simp only [show (⟨#[63]⟩ : ByteArray).size = 1 from rfl]; omega
            · simp only [show (⟨#[63]⟩ : ByteArray).size = 1 from rfl]; omega
theorem textL_le : ∀ l : List S29, okL l → sumL (textL l) ≤ 32 * nL l
  | [], _ => by simp [textL, sumL]
  | x :: r, h => by
    rw [okL] at h
    have h1 := textB_le x h.1
    have h2 := textL_le r h.2
    rw [textL, sumL, nL]
    omega
end

theorem Join_calls (v : Value) (xs : List ByteArray) (w : World) (base : Nat) (ok : Nat → Prop) (h : Kd.R Kd.string 9 w base ok v xs) (hN : sumL xs ≤ 140737488355328) :
    Calls Tryd.prog 68 #[v, .string ⟨#[32]⟩] w fun e w' => e = .returned (.string (joinB xs)) ∧ Below w.heap.size w w' := by
  cases xs with
  | nil =>
    obtain ⟨A, c, rfl, _⟩ := Kd.R_reads h
    exact (Tryd.strings_Join_none A c ⟨#[32]⟩ w).mono fun e w' ⟨he, hw⟩ => ⟨he, by subst hw; exact Below.refl _ _⟩
  | cons x r =>
    obtain ⟨g, cap, rfl, hb, hlt, _⟩ := Kd.R_form h (by simp)
    obtain ⟨_, hc, hC⟩ := Kd.R_reads' h
    have hR := Kd.reads_of_C (d := ByteArray.empty) hC
    obtain ⟨ad, e, hcell⟩ := hR.2.2 (by simp)
    cases e
    have hlen : (x :: r).length ≤ sumL (x :: r) := by
      have : ∀ l : List ByteArray, l.length ≤ sumL l := by
        intro l; induction l with
        | nil => simp [sumL]
        | cons y l ih => simp only [sumL, List.length_cons]; omega
      exact this _
    refine (Tryd.strings_Join g 0 cap (x :: r) ⟨#[32]⟩ w (fun j y hj => ?_) hlt (by omega) hc (Nat.le_trans (join_len (x :: r)) hN)).mono fun e w' h => h
    have hl := (List.getElem?_eq_some_iff.1 hj).1
    have h2 := hcell j hl
    rw [add_plain] at h2
    rw [Nat.zero_add, h2, List.getD_eq_getElem?_getD, hj]; rfl
end Go.Proofs.YtimommkbfbdkdaaDoor.P
