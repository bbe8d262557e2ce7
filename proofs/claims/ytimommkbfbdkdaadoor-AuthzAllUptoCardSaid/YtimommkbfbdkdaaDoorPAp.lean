/- Plain law: the order of two terms is zero just where they are the same; what is built tells what it was built of. -/
import Derived.Test.YtimommkbfbdkdaaDoorPAm
import Derived.Test.YtimommkbfbdkdaaDoorPAn
import Derived.Test.YtimommkbfbdkdaaDoorPx3
namespace Go.Proofs.YtimommkbfbdkdaaDoor.P
open Go.RowKit Go.Proofs.YtimommkbfbdkdaaDoorW.PrintWords Go.Proofs.YtimommkbfbdkdaaDoorW.PrintLast Go.Proofs.YtimommkbfbdkdaaDoorW.PrintMore
theorem S25_ext {t u : S29} (h0 : t.f0 = u.f0) (h1 : t.f1 = u.f1) (h2 : t.f2 = u.f2) (h3 : t.f3 = u.f3) : t = u := by cases t; cases u; cases h0; cases h1; cases h2; cases h3; rfl
theorem cmpB_zero : ∀ l m : List UInt8, Lib.compareBytes l m = 0 → l = m
  | [], [], _ => rfl
  | [], b :: m, h => by simp [Lib.compareBytes] at h
  | a :: l, [], h => by simp [Lib.compareBytes] at h
  | a :: l, b :: m, h => by
    rw [Lib.compareBytes] at h
    split at h
    · cases h
    · split at h
      · cases h
      · rename_i h1 h2
        rw [cmpB_zero l m h]
        have e1 : ¬ a.toNat < b.toNat := h1
        have e2 : ¬ b.toNat < a.toNat := h2
        rw [UInt8.toNat_inj.1 (by omega : a.toNat = b.toNat)]
theorem or4_zero {a b c d : Int} (h : or4 a b c d = 0) : a = 0 ∧ b = 0 ∧ c = 0 ∧ d = 0 := by
  unfold or4 at h
  split at h <;> (try split at h) <;> (try split at h) <;> simp_all
theorem cmpI_zero {a b : Int} (h : cmpI a b = 0) : a = b := by
  unfold cmpI at h
  split at h
  · cases h
  · split at h
    · cases h
    · omega
mutual
theorem oT_zero : ∀ t u : S29, oT t u = 0 → t = u
  | ⟨a, b, c, l⟩, u, h => by
    rw [oT] at h
    obtain ⟨h0, h1, h2, h3⟩ := or4_zero h
    exact S25_ext (cmpI_zero h0) (ByteArray.ext (Array.toList_inj.1 (cmpB_zero _ _ h1))) (cmpI_zero h2) (oL_zero l u.f3 h3)
theorem oL_zero : ∀ l m : List S29, oL l m = 0 → l = m
  | [], [], _ => rfl
  | [], _ :: _, h => by rw [oL] at h; cases h
  | _ :: _, [], h => by rw [oL] at h; cases h
  | x :: r, y :: s, h => by
    rw [oL] at h
    split at h
    · rename_i h1
      rw [oT_zero x y h1, oL_zero r s h]
    · rename_i h1; exact absurd h h1
end
theorem oT_iff0 (t u : S29) : (oT t u == 0) = true ↔ t = u := oT_iff t u oT_zero
theorem oT_sameA {t u : S29} (a b : Au) (h : t = u ↔ a = b) : (oT t u == 0) = sameA a b := by
  rw [Bool.eq_iff_iff, oT_iff0, sameA_iff]; exact h

/-! The reference's Large of a container -/
def fuelA (a : Au) : Nat := a.tr.length + 1
def largeA (a : Au) : Bool := (legateref13_Large.f (fuelA a) a.u a.g a.o a.tr a.s a.fw a.tm).getD false
theorem largeA_some (a : Au) (hn : nA a ≤ 1000000000) : legateref13_Large.f (fuelA a) a.u a.g a.o a.tr a.s a.fw a.tm = some (largeA a) := by
  have key : ∀ (j i : Nat) (x : Int), a.tr.length - i = j → i ≤ a.tr.length → ∃ r, legateref13_Large.l0 (j + 1) x i a.u a.g a.o a.tr a.s a.fw a.tm = some r := by
    have hts := nS_len a.tr
    unfold nA at hn
    intro j
    induction j with
    | zero =>
      intro i x hj hi
      obtain rfl : i = a.tr.length := by omega
      rw [legateref13_Large.l0, if_neg (by omega)]
      exact ⟨_, rfl⟩
    | succ j ih =>
      intro i x hj hi
      rw [legateref13_Large.l0, if_pos (by omega), if_pos (by omega), IntWalk.wrap64_in ((i : Int) + 1) (by omega)]
      have := ih (i + 1) (wrap64 ((wrap64 (x + 1)) + ((rdOf ByteArray.empty a.tr i).size : Int))) (by omega) (by omega)
      rwa [show (((i + 1 : Nat)) : Int) = (i : Int) + 1 from by omega] at this
  obtain ⟨r, hr⟩ := key a.tr.length 0 (wrap64 ((a.u.size : Int) + (a.s.size : Int))) (by omega) (by omega)
  have hr' : legateref13_Large.f (fuelA a) a.u a.g a.o a.tr a.s a.fw a.tm = some r := hr
  unfold largeA
  rw [hr']; rfl
theorem LargeA_V {v : Value} {a : Au} (w : World) (hn : nA a ≤ 1000000000) (h : IsA w v a) : V_ 8 #[v] w (.bool (largeA a)) := by
  obtain ⟨A, c, B, d, rfl, h1, h2, h3, h4⟩ := h
  exact legateref13_Large.calls (fuelA a) a.u A c a.g a.o B d a.tr a.s a.fw a.tm _ w h2 h1 h4 h3 (largeA_some a hn)

/-! What is built -/
theorem build_no {a : Au} {sv ce : S29} (h : canA a sv ce = false) : buildA a sv ce = z29 ∧ buildE a sv ce = 1 := by
  unfold buildA buildE; rw [h]; exact ⟨rfl, rfl⟩
theorem build_yes {a : Au} {sv ce : S29} (h : canA a sv ce = true) : buildA a sv ce = builtA a sv ce ∧ buildE a sv ce = 0 := by
  unfold buildA buildE; rw [h]; exact ⟨rfl, rfl⟩
theorem s1A_inj {a b : Au} {sv sv' : S29} (h : s1A a sv = s1A b sv') : sv = sv' ∧ a = b := by
  have h1 := sumT_inj h
  exact ⟨h1.1, dataA_inj h1.2.2⟩
theorem s2A_inj {a b : Au} {sv ce sv' ce' : S29} (h : s2A a sv ce = s2A b sv' ce') : ce = ce' ∧ sv = sv' ∧ a = b := by
  have h1 := sumT_inj h
  exact ⟨h1.1, s1A_inj h1.2.2⟩
theorem builtA_inj {a b : Au} {sv ce sv' ce' : S29} (h : builtA a sv ce = builtA b sv' ce') : a = b := by
  have h1 : [dataA a, s1A a sv, s2A a sv ce] = [dataA b, s1A b sv', s2A b sv' ce'] := congrArg S29.f3 h
  simp only [List.cons.injEq] at h1
  exact dataA_inj h1.1
/-- Two containers built with the same keys. -/
theorem both_yes (a b : Au) (sv ce : S29) : ∃ x y x0 x1 x2 y0 y1 y2 : S29, builtA a sv ce = x ∧ builtA b sv ce = y ∧ x.f3 = [x0, x1, x2] ∧ y.f3 = [y0, y1, y2] ∧
    (oT x y == 0) = sameA a b ∧ (oT x1 y1 == 0) = sameA a b ∧ (oT x2 y2 == 0) = sameA a b := by
  refine ⟨_, _, _, _, _, _, _, _, rfl, rfl, rfl, rfl, ?_, ?_, ?_⟩
  · exact oT_sameA a b ⟨builtA_inj, fun h => by rw [h]⟩
  · exact oT_sameA a b ⟨fun h => (s1A_inj h).2, fun h => by rw [h]⟩
  · exact oT_sameA a b ⟨fun h => (s2A_inj h).2.2, fun h => by rw [h]⟩

/-! The parts of a term, read at the machine -/
theorem part1 {w : World} {t x0 x1 x2 : S29} {A : Option Addr} {c : Nat} (h : IsT w (.agg #[.int .i64 t.f0, .string t.f1, .int .i64 t.f2, .slice A t.f3.length c]) t) (e : t.f3 = [x0, x1, x2]) :
    ∃ ad A1 c1, A = some ad ∧ w.cell? ⟨ad.block, ad.off + 4, none⟩ = some (.int .i64 x1.f0) ∧ w.cell? ⟨ad.block, ad.off + 4 + 1, none⟩ = some (.string x1.f1) ∧ w.cell? ⟨ad.block, ad.off + 4 + 2, none⟩ = some (.int .i64 x1.f2) ∧ w.cell? ⟨ad.block, ad.off + 4 + 3, none⟩ = some (.slice A1 x1.f3.length c1) ∧
      IsT w (.agg #[.int .i64 x1.f0, .string x1.f1, .int .i64 x1.f2, .slice A1 x1.f3.length c1]) x1 := by
  obtain ⟨ad, A1, c1, h1, k0, k1, k2, k3, l3, g3⟩ := at_T29 (isT_C h).2 (1 : Int) (by decide) (by rw [e]; exact Int.ofNat_lt.2 (by decide : _ < 3))
  rw [show rd_T29 t.f3 1 = x1 from by rw [e]; rfl] at k0 k1 k2 k3 l3 g3
  rw [show ad.add (Int.toNat 1 * 4) = ⟨ad.block, ad.off + 4, none⟩ from by simp [Addr.add]] at k0 k1 k2 k3
  exact ⟨ad, A1, c1, h1, k0, k1, k2, k3, ⟨A1, c1, rfl, l3, g3⟩⟩
theorem part2 {w : World} {t x0 x1 x2 : S29} {A : Option Addr} {c : Nat} (h : IsT w (.agg #[.int .i64 t.f0, .string t.f1, .int .i64 t.f2, .slice A t.f3.length c]) t) (e : t.f3 = [x0, x1, x2]) :
    ∃ ad A1 c1, A = some ad ∧ w.cell? ⟨ad.block, ad.off + 8, none⟩ = some (.int .i64 x2.f0) ∧ w.cell? ⟨ad.block, ad.off + 8 + 1, none⟩ = some (.string x2.f1) ∧ w.cell? ⟨ad.block, ad.off + 8 + 2, none⟩ = some (.int .i64 x2.f2) ∧ w.cell? ⟨ad.block, ad.off + 8 + 3, none⟩ = some (.slice A1 x2.f3.length c1) ∧
      IsT w (.agg #[.int .i64 x2.f0, .string x2.f1, .int .i64 x2.f2, .slice A1 x2.f3.length c1]) x2 := by
  obtain ⟨ad, A1, c1, h1, k0, k1, k2, k3, l3, g3⟩ := at_T29 (isT_C h).2 (2 : Int) (by decide) (by rw [e]; exact Int.ofNat_lt.2 (by decide : _ < 3))
  rw [show rd_T29 t.f3 2 = x2 from by rw [e]; rfl] at k0 k1 k2 k3 l3 g3
  rw [show ad.add (Int.toNat 2 * 4) = ⟨ad.block, ad.off + 8, none⟩ from by simp [Addr.add]] at k0 k1 k2 k3
  exact ⟨ad, A1, c1, h1, k0, k1, k2, k3, ⟨A1, c1, rfl, l3, g3⟩⟩
theorem five_boxes {w w1 : World} {o o2 o3 o4 o5 : Obj} (hb : Below (((((w.alloc o).alloc o2).alloc o3).alloc o4).alloc o5).heap.size (((((w.alloc o).alloc o2).alloc o3).alloc o4).alloc o5) w1) :
    Below w.heap.size w w1 ∧ w.heap.size + 5 ≤ w1.heap.size ∧ w1.heap[w.heap.size]? = some o ∧ w1.heap[w.heap.size + 1]? = some o2 ∧ w1.heap[w.heap.size + 2]? = some o3 ∧ w1.heap[w.heap.size + 3]? = some o4 ∧ w1.heap[w.heap.size + 4]? = some o5 := by
  obtain ⟨h1, h2, h3⟩ := one_box hb
  obtain ⟨k1, k2, k3, k4, k5, k6⟩ := four_boxes h1
  have s1 : ((((w.alloc o).alloc o2).alloc o3).alloc o4).heap.size = w.heap.size + 4 := by simp
  rw [s1] at h2 h3
  exact ⟨k1, by omega, k3, k4, k5, k6, h3⟩
end Go.Proofs.YtimommkbfbdkdaaDoor.P
