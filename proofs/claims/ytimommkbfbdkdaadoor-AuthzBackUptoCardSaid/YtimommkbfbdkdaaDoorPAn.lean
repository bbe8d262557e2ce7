/- authz.Same answers just as the plain sameA: are two containers one? Plain laws on containers: the words as a term tell the container; what Read, Server, Verify tell of each other. -/
import Derived.Test.YtimommkbfbdkdaaDoorPAa
import Derived.Test.YtimommkbfbdkdaaDoorPx2
import Derived.IntWalk
import Derived.Test.YtimommkbfbdkdaaDoorPAk
import Derived.Test.YtimommkbfbdkdaaDoorPHs
namespace Go.Proofs.YtimommkbfbdkdaaDoor.P
open Go.RowKit Go.Proofs.YtimommkbfbdkdaaDoorW.PrintWords Go.Proofs.YtimommkbfbdkdaaDoorW.PrintLast Go.Proofs.YtimommkbfbdkdaaDoorW.PrintMore
set_option linter.unusedVariables false

theorem str_eq {a b : ByteArray} (h : a.toList = b.toList) : a = b := by
  rw [Lib.toList_data, Lib.toList_data] at h
  exact ByteArray.ext (Array.toList_inj.1 h)
def eqI : List Int → List Int → Bool
  | [], [] => true
  | a :: l, b :: m => a == b && eqI l m
  | _, _ => false
def eqB : List ByteArray → List ByteArray → Bool
  | [], [] => true
  | a :: l, b :: m => a.toList == b.toList && eqB l m
  | _, _ => false
theorem eqI_iff : ∀ l m : List Int, eqI l m = true ↔ l = m
  | [], [] => by simp [eqI]
  | [], b :: m => by simp [eqI]
  | a :: l, [] => by simp [eqI]
  | a :: l, b :: m => by simp [eqI, eqI_iff l m]
theorem eqB_iff : ∀ l m : List ByteArray, eqB l m = true ↔ l = m
  | [], [] => by simp [eqB]
  | [], b :: m => by simp [eqB]
  | a :: l, [] => by simp [eqB]
  | a :: l, b :: m => by
    simp only [eqB, Bool.and_eq_true, beq_iff_eq, eqB_iff l m, List.cons.injEq]
    exact ⟨fun h => ⟨str_eq h.1, h.2⟩, fun h => ⟨by rw [h.1], h.2⟩⟩
theorem eqI_len : ∀ l m : List Int, eqI l m = true → l.length = m.length := fun l m h => by rw [(eqI_iff l m).1 h]
theorem rEqI (l m : List Int) (hb : l.length ≤ 1000000000) (he : l.length = m.length) (d : Nat) : ∀ (i k : Nat), l.length - i = d → i ≤ l.length → d + 1 ≤ k → slices_Equal_int_int.l0 k l m (l.length : Int) i = some (eqI (l.drop i) (m.drop i)) := by
  induction d with
  | zero =>
    intro i k hd hi hk
    obtain ⟨k, rfl⟩ : ∃ k', k = k' + 1 := ⟨k - 1, by omega⟩
    obtain rfl : i = l.length := by omega
    rw [slices_Equal_int_int.l0, if_neg (by omega), List.drop_length, he, List.drop_length]; rfl
  | succ d ih =>
    intro i k hd hi hk
    obtain ⟨k, rfl⟩ : ∃ k', k = k' + 1 := ⟨k - 1, by omega⟩
    have h1 : i < l.length := by omega
    have h2 : i < m.length := by omega
    rw [slices_Equal_int_int.l0, if_pos (by omega), if_pos (by omega), if_pos (by omega), if_pos (by omega), List.drop_eq_getElem_cons h1, List.drop_eq_getElem_cons h2, eqI]
    have e1 : rd l (i : Int) = l[i] := by simp [rd, List.getD_eq_getElem?_getD, List.getElem?_eq_getElem h1]
    have e2 : rd m (i : Int) = m[i] := by simp [rd, List.getD_eq_getElem?_getD, List.getElem?_eq_getElem h2]
    rw [e1, e2]
    by_cases h : l[i] = m[i]
    · rw [if_pos h, IntWalk.wrap64_in _ (by omega), show ((i : Int) + 1) = ((i + 1 : Nat) : Int) from by omega, ih (i + 1) k (by omega) (by omega) (by omega)]
      rw [show (l[i] == m[i]) = true from by simpa using h]; rfl
    · rw [if_neg h, show (l[i] == m[i]) = false from by simpa using h]; rfl
theorem rEqB (l m : List ByteArray) (hb : l.length ≤ 1000000000) (he : l.length = m.length) (d : Nat) : ∀ (i k : Nat), l.length - i = d → i ≤ l.length → d + 1 ≤ k → slices_Equal_string_string.l0 k l m (l.length : Int) i = some (eqB (l.drop i) (m.drop i)) := by
  induction d with
  | zero =>
    intro i k hd hi hk
    obtain ⟨k, rfl⟩ : ∃ k', k = k' + 1 := ⟨k - 1, by omega⟩
    obtain rfl : i = l.length := by omega
    rw [slices_Equal_string_string.l0, if_neg (by omega), List.drop_length, he, List.drop_length]; rfl
  | succ d ih =>
    intro i k hd hi hk
    obtain ⟨k, rfl⟩ : ∃ k', k = k' + 1 := ⟨k - 1, by omega⟩
    have h1 : i < l.length := by omega
    have h2 : i < m.length := by omega
    rw [slices_Equal_string_string.l0, if_pos (by omega), if_pos (by omega), if_pos (by omega), if_pos (by omega), List.drop_eq_getElem_cons h1, List.drop_eq_getElem_cons h2, eqB]
    have e1 : rdOf ByteArray.empty l (i : Int) = l[i] := by simp [rdOf, List.getD_eq_getElem?_getD, List.getElem?_eq_getElem h1]
    have e2 : rdOf ByteArray.empty m (i : Int) = m[i] := by simp [rdOf, List.getD_eq_getElem?_getD, List.getElem?_eq_getElem h2]
    rw [e1, e2]
    by_cases h : l[i].toList = m[i].toList
    · rw [if_pos h, IntWalk.wrap64_in _ (by omega), show ((i : Int) + 1) = ((i + 1 : Nat) : Int) from by omega, ih (i + 1) k (by omega) (by omega) (by omega)]
      rw [show (l[i].toList == m[i].toList) = true from by simpa using h]; rfl
    · rw [if_neg h, show (l[i].toList == m[i].toList) = false from by simpa using h]; rfl
theorem rEqualI (l m : List Int) (hb : l.length ≤ 1000000000) (k : Nat) (hk : l.length + 1 ≤ k) : slices_Equal_int_int.f k l m = some (eqI l m) := by
  rw [slices_Equal_int_int.f]
  by_cases h : l.length = m.length
  · rw [if_pos (by omega)]
    have := rEqI l m hb h l.length 0 k (by omega) (by omega) hk
    rwa [List.drop_zero, List.drop_zero] at this
  · rw [if_neg (by omega)]
    cases hq : eqI l m with
    | false => rfl
    | true => exact absurd (by rw [(eqI_iff l m).1 hq]) h
theorem rEqualB (l m : List ByteArray) (hb : l.length ≤ 1000000000) (k : Nat) (hk : l.length + 1 ≤ k) : slices_Equal_string_string.f k l m = some (eqB l m) := by
  rw [slices_Equal_string_string.f]
  by_cases h : l.length = m.length
  · rw [if_pos (by omega)]
    have := rEqB l m hb h l.length 0 k (by omega) (by omega) hk
    rwa [List.drop_zero, List.drop_zero] at this
  · rw [if_neg (by omega)]
    cases hq : eqB l m with
    | false => rfl
    | true => exact absurd (by rw [(eqB_iff l m).1 hq]) h

def sameA (a b : Au) : Bool := a.u.toList == b.u.toList && (a.o == b.o && (a.s.toList == b.s.toList && (a.fw == b.fw && (a.tm == b.tm && (eqI a.g b.g && eqB a.tr b.tr)))))
theorem sameA_iff (a b : Au) : sameA a b = true ↔ a = b := by
  unfold sameA
  simp only [Bool.and_eq_true, beq_iff_eq, eqI_iff, eqB_iff]
  constructor
  · rintro ⟨h1, h2, h3, h4, h5, h6, h7⟩
    cases a; cases b
    dsimp only at h1 h2 h3 h4 h5 h6 h7
    cases str_eq h1; cases h2; cases str_eq h3; cases h4; cases h5; cases h6; cases h7
    rfl
  · rintro rfl; exact ⟨rfl, rfl, rfl, rfl, rfl, rfl, rfl⟩
theorem rSame (a b : Au) (h1 : a.g.length ≤ 1000000000) (h2 : a.tr.length ≤ 1000000000) : authz_Same.f (a.g.length + a.tr.length + 1) a.u a.g a.o a.tr a.s a.fw a.tm b.u b.g b.o b.tr b.s b.fw b.tm = some (sameA a b) := by
  unfold authz_Same.f sameA
  by_cases e1 : a.u.toList = b.u.toList
  · rw [if_pos e1, show (a.u.toList == b.u.toList) = true from by simpa using e1]
    by_cases e2 : a.o = b.o
    · rw [if_pos e2, show (a.o == b.o) = true from by simpa using e2]
      by_cases e3 : a.s.toList = b.s.toList
      · rw [if_pos e3, show (a.s.toList == b.s.toList) = true from by simpa using e3]
        cases e4 : a.fw == b.fw with
        | true =>
          rw [if_pos rfl]
          by_cases e5 : a.tm = b.tm
          · rw [if_pos e5, show (a.tm == b.tm) = true from by simpa using e5, rEqualI _ _ h1 _ (by omega), rEqualB _ _ h2 _ (by omega)]
            cases eqI a.g b.g <;> cases eqB a.tr b.tr <;> rfl
          · rw [if_neg e5, show (a.tm == b.tm) = false from by simpa using e5]; rfl
        | false => rw [if_neg (by decide)]; rfl
      · rw [if_neg e3, show (a.s.toList == b.s.toList) = false from by simpa using e3]; rfl
    · rw [if_neg e2, show (a.o == b.o) = false from by simpa using e2]; rfl
  · rw [if_neg e1, show (a.u.toList == b.u.toList) = false from by simpa using e1]; rfl
theorem Same_A {v u : Value} {a b : Au} (w : World) (hn : nA a ≤ 1000000000) (h : IsA w v a) (h2 : IsA w u b) : Calls Tryd.prog 17 #[v, u] w fun e w' => e = .returned (.bool (sameA a b)) ∧ Below w.heap.size w w' := by
  obtain ⟨A, c, B, d, rfl, k1, k2, k3, k4⟩ := h
  obtain ⟨A', c', B', d', rfl, j1, j2, j3, j4⟩ := h2
  have hts := nS_len a.tr
  unfold nA at hn
  exact authz_Same.calls _ a.u A c a.g a.o B d a.tr a.s a.fw a.tm b.u A' c' b.g b.o B' d' b.tr b.s b.fw b.tm _ w k2 k1 k4 k3 j2 j1 j4 j3 (rSame a b (by omega) (by omega))
end Go.Proofs.YtimommkbfbdkdaaDoor.P
namespace Go.Proofs.YtimommkbfbdkdaaDoor.P
open Go.RowKit

theorem bitI_inj {a b : Bool} (h : bitI a = bitI b) : a = b := by
  cases a <;> cases b <;> simp [bitI] at h <;> rfl
theorem map_numT_inj : ∀ l m : List Int, l.map numT = m.map numT → l = m
  | [], [], _ => rfl
  | [], _ :: _, h => by cases h
  | _ :: _, [], h => by cases h
  | a :: l, b :: m, h => by
    rw [List.map_cons, List.map_cons, List.cons.injEq] at h
    have h1 : a = b := congrArg S29.f2 h.1
    rw [h1, map_numT_inj l m h.2]
theorem map_ofT_inj : ∀ l m : List ByteArray, l.map ofT = m.map ofT → l = m
  | [], [], _ => rfl
  | [], _ :: _, h => by cases h
  | _ :: _, [], h => by cases h
  | a :: l, b :: m, h => by
    rw [List.map_cons, List.map_cons, List.cons.injEq] at h
    have h1 : a = b := congrArg S29.f1 h.1
    rw [h1, map_ofT_inj l m h.2]
/-- The words as a term tell the container. -/
theorem dataA_inj {a b : Au} (h : dataA a = dataA b) : a = b := by
  have h0 : dataL a = dataL b := congrArg S29.f3 h
  unfold dataL at h0
  simp only [List.cons.injEq, and_true] at h0
  obtain ⟨h1, h2, h3, h4, h5, h6, h7⟩ := h0
  have e1 : a.u = b.u := congrArg S29.f1 h1
  have e2 : a.g = b.g := map_numT_inj _ _ (congrArg S29.f3 h2)
  have e3 : a.o = b.o := congrArg S29.f2 h3
  have e4 : a.tr = b.tr := map_ofT_inj _ _ (congrArg S29.f3 h4)
  have e5 : a.s = b.s := congrArg S29.f1 h5
  have e6 : a.fw = b.fw := bitI_inj (congrArg S29.f2 h6)
  have e7 : a.tm = b.tm := congrArg S29.f2 h7
  cases a; cases b
  dsimp only at e1 e2 e3 e4 e5 e6 e7
  subst e1 e2 e3 e4 e5 e6 e7
  rfl
theorem sumT_inj {k k' : S29} {n n' : Int} {t t' : S29} (h : sumT k n t = sumT k' n' t') : k = k' ∧ n = n' ∧ t = t' := by
  have h1 : [k, t] = [k', t'] := congrArg S29.f3 h
  have h2 : n = n' := congrArg S29.f2 h
  simp only [List.cons.injEq, and_true] at h1
  exact ⟨h1.1, h2, h1.2⟩
theorem sameA_self (a : Au) : sameA a a = true := (sameA_iff a a).2 rfl
theorem oT_iff (t u : S29) (hz : ∀ t u : S29, oT t u = 0 → t = u) : (oT t u == 0) = true ↔ t = u := by
  rw [beq_iff_eq]
  exact ⟨hz t u, fun h => by rw [h, oT_self]⟩
theorem canR_valid {t : S29} (h : canR t = true) : validA (readA t) = true := by
  unfold readA
  rw [if_pos h]
  unfold canR okRd at h
  simp only [Bool.and_eq_true] at h
  exact h.2.2.2

/-! What was built is read back -/
theorem f0_of (s : ByteArray) : (ofT s).f0 = 0 := rfl
theorem f0_num (n : Int) : (numT n).f0 = 1 := rfl
theorem f0_list (l : List S29) : (listT l).f0 = 3 := rfl
theorem e_empty : (⟨#[]⟩ : ByteArray).toList.isEmpty = true := by rw [Lib.toList_data]; rfl
theorem pOdd_of (s : ByteArray) : pOdd (ofT s) = false := rfl
theorem pOdd_num (n : Int) : pOdd (numT n) = false := by
  unfold pOdd
  rw [f0_num, if_neg (by decide), if_pos rfl]
  show (!(⟨#[]⟩ : ByteArray).toList.isEmpty || _) = false
  rw [e_empty]; rfl
theorem pOdd_list (l : List S29) : pOdd (listT l) = false := by
  unfold pOdd
  rw [f0_list, if_neg (by decide), if_neg (by decide)]
  show (!(⟨#[]⟩ : ByteArray).toList.isEmpty || _) = false
  rw [e_empty]; rfl
theorem nx_of (s : ByteArray) (r : List S29) : nx (ofT s :: r) false 0 = (ofT s, r, false) := by
  rw [nx_cons, if_pos (f0_of s), pOdd_of]
theorem nx_num (n : Int) (r : List S29) : nx (numT n :: r) false 1 = (numT n, r, false) := by
  rw [nx_cons, if_pos (f0_num n), pOdd_num]
theorem nx_list (l : List S29) (r : List S29) : nx (listT l :: r) false 3 = (listT l, r, false) := by
  rw [nx_cons, if_pos (f0_list l), pOdd_list]
theorem eL_nums : ∀ l : List Int, eL 1 (l.map numT) = (l.map numT, false)
  | [] => rfl
  | n :: l => by
    rw [List.map_cons, eL, if_pos (f0_num n), pOdd_num, if_neg (by decide), eL_nums l]
theorem eL_names : ∀ l : List ByteArray, eL 0 (l.map ofT) = (l.map ofT, false)
  | [] => rfl
  | s :: l => by
    rw [List.map_cons, eL, if_pos (f0_of s), pOdd_of, if_neg (by decide), eL_names l]
theorem ec_nums (l : List Int) (r : List S29) : ec (listT (l.map numT) :: r) false 1 = (l.map numT, r, false) := by
  unfold ec
  rw [nx_list]
  dsimp only [listT]
  rw [eL_nums]; rfl
theorem ec_names (l : List ByteArray) (r : List S29) : ec (rowT l :: r) false 0 = (l.map ofT, r, false) := by
  unfold ec rowT
  rw [nx_list]
  dsimp only [listT]
  rw [eL_names]; rfl
theorem map_nums (l : List Int) : (l.map numT).map (·.f2) = l := by
  rw [List.map_map]; exact List.map_id'' (fun _ => rfl) l
theorem map_names (l : List ByteArray) : (l.map ofT).map (·.f1) = l := by
  rw [List.map_map]; exact List.map_id'' (fun _ => rfl) l
theorem flOdd_bit (b : Bool) : flOdd (bitI b) false = false := by cases b <;> rfl
theorem bit_one (b : Bool) : (bitI b == 1) = b := by cases b <;> rfl
theorem rdAll_data (a : Au) : rdAll (dataL a) false = (a, [], false) := by
  unfold rdAll dataL
  simp only [nx_of, nx_num, ec_nums, ec_names, map_nums, map_names]
  have h1 : (ofT a.u).f1 = a.u := rfl
  have h2 : (numT a.o).f2 = a.o := rfl
  have h3 : (ofT a.s).f1 = a.s := rfl
  have h4 : (numT (bitI a.fw)).f2 = bitI a.fw := rfl
  rw [h4, flOdd_bit, nx_num, bit_one, h1, h2, h3]
  rfl
theorem rdTop_built (a : Au) (x y : S29) : rdTop (listT [dataA a, x, y]) = (a, [], false) := by
  unfold rdTop
  have h : (listT [dataA a, x, y]).f3.take 1 = [listT (dataL a)] := rfl
  rw [h, nx_list]
  exact rdAll_data a
theorem canR_built (a : Au) (x y : S29) : canR (listT [dataA a, x, y]) = validA a := by
  unfold canR
  rw [rdTop_built]
  have h : topB (listT [dataA a, x, y]) = true := by
    unfold topB
    show (true && (true && ((⟨#[]⟩ : ByteArray).toList.isEmpty && true))) = true
    rw [e_empty]; rfl
  rw [h]; rfl
theorem readA_built (a : Au) (x y : S29) (h : validA a = true) : readA (listT [dataA a, x, y]) = a ∧ readE (listT [dataA a, x, y]) = 0 := by
  unfold readA readE
  rw [canR_built, h, if_pos rfl, if_pos rfl, rdTop_built]
  exact ⟨rfl, rfl⟩
end Go.Proofs.YtimommkbfbdkdaaDoor.P
