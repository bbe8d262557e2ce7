/- Plain law: the order of two terms is zero just where they are the same; what is built tells what it was built of. Plain laws: what is built is a valid term; who can verify it. -/
import Derived.Test.YtimommkbfbdkdaaDoorPAm
import Derived.Test.YtimommkbfbdkdaaDoorPAn
import Derived.Test.YtimommkbfbdkdaaDoorPx3
namespace Go.Proofs.YtimommkbfbdkdaaDoor.P
open Go.RowKit Go.Proofs.YtimommkbfbdkdaaDoorW.PrintWords Go.Proofs.YtimommkbfbdkdaaDoorW.PrintLast Go.Proofs.YtimommkbfbdkdaaDoorW.PrintMore
theorem S25_ext {t u : S29} (h0 : t.f0 = u.f0) (h1 : t.f1 = u.f1) (h2 : t.f2 = u.f2) (h3 : t.f3 = u.f3) : t = u := by cases t; cases u; cases h0; cases h1; cases h2; cases h3; rfl
theorem cmpB_zero : ∀ l m : List UInt8, Lib.compareBytes l m = 0 → l = m
  | [], [], _ => rfl
  | [], b :: m, h => by simp [Lib.compareBytes] at h
  | a :: l, [], h => by simp [Lib.compareBytes] at h
  | a :: l, b :: m, h => by
    rw [Lib.compareBytes] at h
    split at h
    · cases h
    · split at h
      · cases h
      · rename_i h1 h2
        rw [cmpB_zero l m h]
        have e1 : ¬ a.toNat < b.toNat := h1
        have e2 : ¬ b.toNat < a.toNat := h2
        rw [UInt8.toNat_inj.1 (by omega : a.toNat = b.toNat)]
theorem or4_zero {a b c d : Int} (h : or4 a b c d = 0) : a = 0 ∧ b = 0 ∧ c = 0 ∧ d = 0 := by
  unfold or4 at h
  split at h <;> (try split at h) <;> (try split at h) <;> simp_all
theorem cmpI_zero {a b : Int} (h : cmpI a b = 0) : a = b := by
  unfold cmpI at h
  split at h
  · cases h
  · split at h
    · cases h
    · omega
mutual
theorem oT_zero : ∀ t u : S29, oT t u = 0 → t = u
  | ⟨a, b, c, l⟩, u, h => by
    rw [oT] at h
    obtain ⟨h0, h1, h2, h3⟩ := or4_zero h
    exact S25_ext (cmpI_zero h0) (ByteArray.ext (Array.toList_inj.1 (cmpB_zero _ _ h1))) (cmpI_zero h2) (oL_zero l u.f3 h3)
theorem oL_zero : ∀ l m : List S29, oL l m = 0 → l = m
  | [], [], _ => rfl
  | [], _ :: _, h => by rw [oL] at h; cases h
  | _ :: _, [], h => by rw [oL] at h; cases h
  | x :: r, y :: s, h => by
    rw [oL] at h
    split at h
    · rename_i h1
      rw [oT_zero x y h1, oL_zero r s h]
    · rename_i h1; exact absurd h h1
end
theorem oT_iff0 (t u : S29) : (oT t u == 0) = true ↔ t = u := oT_iff t u oT_zero
theorem oT_sameA {t u : S29} (a b : Au) (h : t = u ↔ a = b) : (oT t u == 0) = sameA a b := by
  rw [Bool.eq_iff_iff, oT_iff0, sameA_iff]; exact h

/-! The reference's Large of a container -/
def fuelA (a : Au) : Nat := a.tr.length + 1
def largeA (a : Au) : Bool := (legateref13_Large.f (fuelA a) a.u a.g a.o a.tr a.s a.fw a.tm).getD false
theorem largeA_some (a : Au) (hn : nA a ≤ 1000000000) : legateref13_Large.f (fuelA a) a.u a.g a.o a.tr a.s a.fw a.tm = some (largeA a) := by
  have key : ∀ (j i : Nat) (x : Int), a.tr.length - i = j → i ≤ a.tr.length → ∃ r, legateref13_Large.l0 (j + 1) x i a.u a.g a.o a.tr a.s a.fw a.tm = some r := by
    have hts := nS_len a.tr
    unfold nA at hn
    intro j
    induction j with
    | zero =>
      intro i x hj hi
      obtain rfl : i = a.tr.length := by omega
      rw [legateref13_Large.l0, if_neg (by omega)]
      exact ⟨_, rfl⟩
    | succ j ih =>
      intro i x hj hi
      rw [legateref13_Large.l0, if_pos (by omega), if_pos (by omega), IntWalk.wrap64_in ((i : Int) + 1) (by omega)]
      have := ih (i + 1) (wrap64 ((wrap64 (x + 1)) + ((rdOf ByteArray.empty a.tr i).size : Int))) (by omega) (by omega)
      rwa [show (((i + 1 : Nat)) : Int) = (i : Int) + 1 from by omega] at this
  obtain ⟨r, hr⟩ := key a.tr.length 0 (wrap64 ((a.u.size : Int) + (a.s.size : Int))) (by omega) (by omega)
  have hr' : legateref13_Large.f (fuelA a) a.u a.g a.o a.tr a.s a.fw a.tm = some r := hr
  unfold largeA
  rw [hr']; rfl
theorem LargeA_V {v : Value} {a : Au} (w : World) (hn : nA a ≤ 1000000000) (h : IsA w v a) : V_ 8 #[v] w (.bool (largeA a)) := by
  obtain ⟨A, c, B, d, rfl, h1, h2, h3, h4⟩ := h
  exact legateref13_Large.calls (fuelA a) a.u A c a.g a.o B d a.tr a.s a.fw a.tm _ w h2 h1 h4 h3 (largeA_some a hn)

/-! What is built -/
theorem build_no {a : Au} {sv ce : S29} (h : canA a sv ce = false) : buildA a sv ce = z29 ∧ buildE a sv ce = 1 := by
  unfold buildA buildE; rw [h]; exact ⟨rfl, rfl⟩
theorem build_yes {a : Au} {sv ce : S29} (h : canA a sv ce = true) : buildA a sv ce = builtA a sv ce ∧ buildE a sv ce = 0 := by
  unfold buildA buildE; rw [h]; exact ⟨rfl, rfl⟩
theorem s1A_inj {a b : Au} {sv sv' : S29} (h : s1A a sv = s1A b sv') : sv = sv' ∧ a = b := by
  have h1 := sumT_inj h
  exact ⟨h1.1, dataA_inj h1.2.2⟩
theorem s2A_inj {a b : Au} {sv ce sv' ce' : S29} (h : s2A a sv ce = s2A b sv' ce') : ce = ce' ∧ sv = sv' ∧ a = b := by
  have h1 := sumT_inj h
  exact ⟨h1.1, s1A_inj h1.2.2⟩
theorem builtA_inj {a b : Au} {sv ce sv' ce' : S29} (h : builtA a sv ce = builtA b sv' ce') : a = b := by
  have h1 : [dataA a, s1A a sv, s2A a sv ce] = [dataA b, s1A b sv', s2A b sv' ce'] := congrArg S29.f3 h
  simp only [List.cons.injEq] at h1
  exact dataA_inj h1.1
/-- Two containers built with the same keys. -/
theorem both_yes (a b : Au) (sv ce : S29) : ∃ x y x0 x1 x2 y0 y1 y2 : S29, builtA a sv ce = x ∧ builtA b sv ce = y ∧ x.f3 = [x0, x1, x2] ∧ y.f3 = [y0, y1, y2] ∧
    (oT x y == 0) = sameA a b ∧ (oT x1 y1 == 0) = sameA a b ∧ (oT x2 y2 == 0) = sameA a b := by
  refine ⟨_, _, _, _, _, _, _, _, rfl, rfl, rfl, rfl, ?_, ?_, ?_⟩
  · exact oT_sameA a b ⟨builtA_inj, fun h => by rw [h]⟩
  · exact oT_sameA a b ⟨fun h => (s1A_inj h).2, fun h => by rw [h]⟩
  · exact oT_sameA a b ⟨fun h => (s2A_inj h).2.2, fun h => by rw [h]⟩

/-! The parts of a term, read at the machine -/
theorem part1 {w : World} {t x0 x1 x2 : S29} {A : Option Addr} {c : Nat} (h : IsT w (.agg #[.int .i64 t.f0, .string t.f1, .int .i64 t.f2, .slice A t.f3.length c]) t) (e : t.f3 = [x0, x1, x2]) :
    ∃ ad A1 c1, A = some ad ∧ w.cell? ⟨ad.block, ad.off + 4, none⟩ = some (.int .i64 x1.f0) ∧ w.cell? ⟨ad.block, ad.off + 4 + 1, none⟩ = some (.string x1.f1) ∧ w.cell? ⟨ad.block, ad.off + 4 + 2, none⟩ = some (.int .i64 x1.f2) ∧ w.cell? ⟨ad.block, ad.off + 4 + 3, none⟩ = some (.slice A1 x1.f3.length c1) ∧
      IsT w (.agg #[.int .i64 x1.f0, .string x1.f1, .int .i64 x1.f2, .slice A1 x1.f3.length c1]) x1 := by
  obtain ⟨ad, A1, c1, h1, k0, k1, k2, k3, l3, g3⟩ := at_T29 (isT_C h).2 (1 : Int) (by decide) (by rw [e]; exact Int.ofNat_lt.2 (by decide : _ < 3))
  rw [show rd_T29 t.f3 1 = x1 from by rw [e]; rfl] at k0 k1 k2 k3 l3 g3
  rw [show ad.add (Int.toNat 1 * 4) = ⟨ad.block, ad.off + 4, none⟩ from by simp [Addr.add]] at k0 k1 k2 k3
  exact ⟨ad, A1, c1, h1, k0, k1, k2, k3, ⟨A1, c1, rfl, l3, g3⟩⟩
theorem part2 {w : World} {t x0 x1 x2 : S29} {A : Option Addr} {c : Nat} (h : IsT w (.agg #[.int .i64 t.f0, .string t.f1, .int .i64 t.f2, .slice A t.f3.length c]) t) (e : t.f3 = [x0, x1, x2]) :
    ∃ ad A1 c1, A = some ad ∧ w.cell? ⟨ad.block, ad.off + 8, none⟩ = some (.int .i64 x2.f0) ∧ w.cell? ⟨ad.block, ad.off + 8 + 1, none⟩ = some (.string x2.f1) ∧ w.cell? ⟨ad.block, ad.off + 8 + 2, none⟩ = some (.int .i64 x2.f2) ∧ w.cell? ⟨ad.block, ad.off + 8 + 3, none⟩ = some (.slice A1 x2.f3.length c1) ∧
      IsT w (.agg #[.int .i64 x2.f0, .string x2.f1, .int .i64 x2.f2, .slice A1 x2.f3.length c1]) x2 := by
  obtain ⟨ad, A1, c1, h1, k0, k1, k2, k3, l3, g3⟩ := at_T29 (isT_C h).2 (2 : Int) (by decide) (by rw [e]; exact Int.ofNat_lt.2 (by decide : _ < 3))
  rw [show rd_T29 t.f3 2 = x2 from by rw [e]; rfl] at k0 k1 k2 k3 l3 g3
  rw [show ad.add (Int.toNat 2 * 4) = ⟨ad.block, ad.off + 8, none⟩ from by simp [Addr.add]] at k0 k1 k2 k3
  exact ⟨ad, A1, c1, h1, k0, k1, k2, k3, ⟨A1, c1, rfl, l3, g3⟩⟩
theorem five_boxes {w w1 : World} {o o2 o3 o4 o5 : Obj} (hb : Below (((((w.alloc o).alloc o2).alloc o3).alloc o4).alloc o5).heap.size (((((w.alloc o).alloc o2).alloc o3).alloc o4).alloc o5) w1) :
    Below w.heap.size w w1 ∧ w.heap.size + 5 ≤ w1.heap.size ∧ w1.heap[w.heap.size]? = some o ∧ w1.heap[w.heap.size + 1]? = some o2 ∧ w1.heap[w.heap.size + 2]? = some o3 ∧ w1.heap[w.heap.size + 3]? = some o4 ∧ w1.heap[w.heap.size + 4]? = some o5 := by
  obtain ⟨h1, h2, h3⟩ := one_box hb
  obtain ⟨k1, k2, k3, k4, k5, k6⟩ := four_boxes h1
  have s1 : ((((w.alloc o).alloc o2).alloc o3).alloc o4).heap.size = w.heap.size + 4 := by simp
  rw [s1] at h2 h3
  exact ⟨k1, by omega, k3, k4, k5, k6, h3⟩
end Go.Proofs.YtimommkbfbdkdaaDoor.P
namespace Go.Proofs.YtimommkbfbdkdaaDoor.P
open Go.RowKit Go.Proofs.YtimommkbfbdkdaaDoorW.PrintWords Go.Proofs.YtimommkbfbdkdaaDoorW.PrintLast Go.Proofs.YtimommkbfbdkdaaDoorW.PrintMore

theorem shape_of (s : ByteArray) (hs : s.size ≤ 9223372036854775806) : shapeB (ofT s) = nameB s := by
  show (term_shape.f 0 s 0 []).getD false = _
  unfold term_shape.f
  rw [if_pos rfl, term_Name.f, if_pos hs]
  cases nameB s <;> rfl
theorem e_nil : (⟨#[]⟩ : ByteArray).toList = [] := by rw [Lib.toList_data]
theorem shape_num (n : Int) : shapeB (numT n) = true := by
  show (term_shape.f 1 ⟨#[]⟩ n []).getD false = _
  unfold term_shape.f
  rw [if_neg (by decide), if_pos rfl, if_pos e_nil]; rfl
theorem shape_list (l : List S29) (h : l.length ≤ 64) : shapeB (listT l) = true := by
  show (term_shape.f 3 ⟨#[]⟩ 0 l).getD false = _
  unfold term_shape.f
  rw [if_neg (by decide), if_neg (by decide), if_neg (by decide), if_pos rfl, if_pos e_nil, if_pos rfl]
  exact decide_eq_true (by omega)
theorem shape_sum (k t : S29) (n : Int) (h1 : 1 ≤ n) (h2 : n ≤ 255) (hk : k.f0 = 2) : shapeB (sumT k n t) = true := by
  show (term_shape.f 5 ⟨#[]⟩ n [k, t]).getD false = _
  unfold term_shape.f
  rw [if_neg (by decide), if_neg (by decide), if_neg (by decide), if_neg (by decide), if_neg (by decide), if_pos rfl, if_pos e_nil, if_pos h1, if_pos h2, show (([k, t].length : Nat) : Int) = 2 from rfl, if_pos rfl, if_pos (by decide : (0 : Int) < 2)]
  show (k.f0 == 2) = true
  rw [hk]; rfl
theorem key_leaf {k : S29} (hz : k.f1.size ≤ 9223372036854775806) (h : shapeB k = true) (h2 : k.f0 = 2) : k.f3 = [] := by
  have h3 : (term_shape.f k.f0 k.f1 k.f2 k.f3).getD false = true := h
  unfold term_shape.f at h3
  rw [h2, if_neg (by decide), if_neg (by decide), if_pos rfl, term_Name.f, if_pos hz] at h3
  have hl : k.f3.length = 0 := by
    have key : ((k.f3.length : Int) == 0) = true → k.f3.length = 0 := fun h => by have := eq_of_beq h; omega
    by_cases e1 : k.f1.toList = []
    · rw [if_pos e1] at h3
      by_cases e2 : k.f2 ≥ 1
      · rw [if_pos e2] at h3; exact key h3
      · rw [if_neg e2] at h3; cases h3
    · rw [if_neg e1, Option.bind_some] at h3
      cases e3 : nameB k.f1 with
      | false => rw [e3, if_neg (by decide)] at h3; cases h3
      | true =>
        rw [e3, if_pos rfl] at h3
        by_cases e2 : k.f2 ≥ 1
        · rw [if_pos e2] at h3; exact key h3
        · rw [if_neg e2] at h3; cases h3
  exact List.length_eq_zero_iff.1 hl
theorem vT_key {k : S29} (hz : nT k ≤ 1000000000) (h : vT k 0 = true) (h2 : k.f0 = 2) (d : Int) (hd : d ≤ 16) : vT k d = true := by
  rw [vT_eq] at h ⊢
  simp only [Bool.and_eq_true] at h
  rw [nT_eq] at hz
  have hl := key_leaf (by omega) h.2.1 h2
  rw [decide_eq_true hd, h.2.1, hl, vL]; rfl
theorem vT_of (s : ByteArray) (hs : s.size ≤ 1000000000) (h : nameB s = true) (d : Int) (hd : d ≤ 16) : vT (ofT s) d = true := by
  rw [vT_eq, decide_eq_true hd, shape_of s (by omega), h]; rfl
theorem vT_num (n : Int) (d : Int) (hd : d ≤ 16) : vT (numT n) d = true := by
  rw [vT_eq, decide_eq_true hd, shape_num]; rfl
theorem vT_list (l : List S29) (d : Int) (hl : l.length ≤ 64) (hd : d ≤ 16) (h : vL l (d + 1) = true) : vT (listT l) d = true := by
  rw [vT_eq, decide_eq_true hd, shape_list l hl]; exact h
theorem vT_sum (k t : S29) (n : Int) (d : Int) (h1 : 1 ≤ n) (h2 : n ≤ 255) (hk : k.f0 = 2) (hd : d ≤ 16) (h3 : vT k (d + 1) = true) (h4 : vT t (d + 1) = true) : vT (sumT k n t) d = true := by
  rw [vT_eq, decide_eq_true hd, shape_sum k t n h1 h2 hk]
  show (vT k (d + 1) && (vT t (d + 1) && true)) = true
  rw [h3, h4]; rfl
theorem vL_nums (d : Int) (hd : d ≤ 16) : ∀ l : List Int, vL (l.map numT) d = true
  | [] => rfl
  | n :: l => by rw [List.map_cons, vL, vT_num n d hd, vL_nums d hd l]; rfl
theorem vL_names (d : Int) (hd : d ≤ 16) : ∀ l : List ByteArray, nS l ≤ 1000000000 → l.all nameB = true → vL (l.map ofT) d = true
  | [], _, _ => rfl
  | s :: l, hn, h => by
    rw [nS] at hn
    rw [List.all_cons, Bool.and_eq_true] at h
    rw [List.map_cons, vL, vT_of s (by omega) h.1 d hd, vL_names d hd l (by omega) h.2]; rfl
theorem vT_data {a : Au} (hn : nA a ≤ 1000000000) (h : validA a = true) (d : Int) (hd : d ≤ 10) : vT (dataA a) d = true := by
  unfold nA at hn
  unfold validA at h
  simp only [Bool.and_eq_true, decide_eq_true_eq] at h
  obtain ⟨h1, h2, h3, h4, h5, h6, h7, h8⟩ := h
  refine vT_list _ d (by simp [dataL]) (by omega) ?_
  unfold dataL
  simp only [vL, Bool.and_eq_true, and_true]
  exact ⟨vT_of _ (by omega) h1 _ (by omega), vT_list _ _ (by rw [List.length_map]; omega) (by omega) (vL_nums _ (by omega) _), vT_num _ _ (by omega), vT_list _ _ (by rw [List.length_map]; omega) (by omega) (vL_names _ (by omega) _ (by omega) h3), vT_of _ (by omega) h2 _ (by omega), vT_num _ _ (by omega), vT_num _ _ (by omega)⟩
theorem vT_built {a : Au} {sv ce : S29} (hn : nA a ≤ 1000000000) (hs : nT sv ≤ 1000000000) (hc : nT ce ≤ 1000000000) (h : canA a sv ce = true) (h1 : vT sv 0 = true) (h2 : vT ce 0 = true) : vT (builtA a sv ce) 0 = true := by
  unfold canA at h
  simp only [Bool.and_eq_true, beq_iff_eq] at h
  obtain ⟨h3, h4, h5⟩ := h
  refine vT_list _ 0 (by simp) (by decide) ?_
  have e1 : vT (s1A a sv) 1 = true := vT_sum _ _ _ _ (by decide) (by decide) h4 (by decide) (vT_key hs h1 h4 _ (by decide)) (vT_data hn h3 _ (by decide))
  have e2 : vT (s1A a sv) 2 = true := vT_sum _ _ _ _ (by decide) (by decide) h4 (by decide) (vT_key hs h1 h4 _ (by decide)) (vT_data hn h3 _ (by decide))
  have e3 : vT (s2A a sv ce) 1 = true := vT_sum _ _ _ _ (by decide) (by decide) h5 (by decide) (vT_key hc h2 h5 _ (by decide)) e2
  simp only [vL, Bool.and_eq_true, and_true]
  exact ⟨vT_data hn h3 _ (by decide), e1, e3⟩

/-! Sizes -/
theorem nT_num (n : Int) : nT (numT n) = 1 := rfl
theorem nT_of (s : ByteArray) : nT (ofT s) = 1 + s.size := rfl
theorem e_size : (⟨#[]⟩ : ByteArray).size = 0 := rfl
theorem nT_list (l : List S29) : nT (listT l) = 1 + nL l := by show 1 + (⟨#[]⟩ : ByteArray).size + nL l = _; rw [e_size]
theorem nT_sum (k t : S29) (n : Int) : nT (sumT k n t) = 1 + (nT k + (nT t + 0)) := by show 1 + (⟨#[]⟩ : ByteArray).size + nL [k, t] = _; rw [e_size]; rfl
theorem nL_nums : ∀ l : List Int, nL (l.map numT) = l.length
  | [] => rfl
  | n :: l => by rw [List.map_cons, nL, nT_num, nL_nums l, List.length_cons]; omega
theorem nL_names : ∀ l : List ByteArray, nL (l.map ofT) = nS l
  | [] => rfl
  | s :: l => by rw [List.map_cons, nL, nT_of, nL_names l, nS]
theorem nT_data (a : Au) : nT (dataA a) ≤ 10 + nA a := by
  show nT (listT (dataL a)) ≤ _
  rw [nT_list]
  unfold dataL rowT
  simp only [nL, nT_of, nT_num, nT_list, nL_nums, nL_names]
  unfold nA
  omega
theorem nT_built (a : Au) (sv ce : S29) : nT (builtA a sv ce) ≤ 100 + 3 * nA a + 2 * nT sv + nT ce := by
  show nT (listT [dataA a, sumT sv 18 (dataA a), sumT ce 19 (sumT sv 18 (dataA a))]) ≤ _
  rw [nT_list]
  simp only [nL, nT_sum]
  have := nT_data a
  omega

/-! Who can verify -/
theorem sumB_eq (k k' u u' : S29) (n : Int) (hk : k.f0 = 2) : sumB (sumT k n u) k' n u' = true ↔ k' = k ∧ u' = u := by
  unfold sumB
  rw [Bool.and_eq_true, oT_iff0, beq_iff_eq]
  constructor
  · intro ⟨_, h⟩
    have := sumT_inj h
    exact ⟨this.1.symm, this.2.2.symm⟩
  · intro ⟨h1, h2⟩
    rw [h1, h2]; exact ⟨hk, rfl⟩
theorem okV_parts (d x y sv ce : S29) : okV (listT [d, x, y]) sv ce = (canR (listT [d, x, y]) && sumB x sv 18 d && sumB y ce 19 x) := rfl
theorem okS_parts (d x y sv : S29) : okS (listT [d, x, y]) sv = (canR (listT [d, x, y]) && sumB x sv 18 d) := rfl
/-- Words b behind the sums that a was built with, verified with any keys. -/
theorem ok_iff (a b : Au) (sv ce sv' ce' : S29) (h : canA a sv ce = true) :
    okV (listT [dataA b, s1A a sv, s2A a sv ce]) sv' ce' = true ↔ sv' = sv ∧ ce' = ce ∧ a = b := by
  unfold canA at h
  simp only [Bool.and_eq_true, beq_iff_eq] at h
  obtain ⟨h1, h2, h3⟩ := h
  rw [okV_parts, canR_built, Bool.and_eq_true, Bool.and_eq_true]
  unfold s1A s2A s1A
  rw [sumB_eq _ _ _ _ _ h2, sumB_eq _ _ _ _ _ h3]
  constructor
  · intro ⟨⟨_, h4, h5⟩, h6, _⟩
    exact ⟨h4, h6, (dataA_inj h5).symm⟩
  · intro ⟨h4, h5, h6⟩
    rw [← h6]; exact ⟨⟨h1, h4, rfl⟩, h5, rfl⟩
theorem verE_iff (t sv ce : S29) : verE t sv ce = 0 ↔ okV t sv ce = true := by
  unfold verE srvE
  cases h : okS t sv with
  | false =>
    have hv : okV t sv ce = false := by unfold okV; rw [h]; rfl
    rw [hv, if_neg (by decide)]
    cases canR t <;> simp
  | true =>
    cases okV t sv ce <;> simp
theorem ver_any (t sv ce : S29) (b : Bool) (h : okV t sv ce = b) : ∃ a z, verA t sv ce = a ∧ verE t sv ce = z ∧ (z == 0) = b := by
  refine ⟨_, _, rfl, rfl, ?_⟩
  rw [Bool.eq_iff_iff, beq_iff_eq, verE_iff, h]
theorem ver_known {t sv ce : S29} (b : Bool) (h : okV t sv ce = b) : (b = true → verE t sv ce = 0) ∧ (b = false → (verE t sv ce == 0) = false) := by
  refine ⟨fun hb => (verE_iff t sv ce).2 (by rw [h, hb]), fun hb => ?_⟩
  cases e : (verE t sv ce == 0) with
  | false => rfl
  | true => have := (verE_iff t sv ce).1 (eq_of_beq e); rw [h, hb] at this; cases this

theorem back_facts (a : Au) (sv ce : S29) (hn : nA a ≤ 1100000) (hs : nT sv ≤ 1100000) (hc : nT ce ≤ 1100000) (h : canA a sv ce = true) (h1 : vT sv 0 = true) (h2 : vT ce 0 = true) :
    ∃ x x0 x1 x2 : S29, builtA a sv ce = x ∧ x.f3 = [x0, x1, x2] ∧ nT x ≤ 100000000 ∧ vT x 0 = true ∧ verA x sv ce = a ∧ verE x sv ce = 0 ∧
      (∀ ot, ∃ c z, verA x ot ce = c ∧ verE x ot ce = z ∧ (z == 0) = (oT ot sv == 0)) ∧ (∀ ot, ∃ c z, verA x sv ot = c ∧ verE x sv ot = z ∧ (z == 0) = (oT ot ce == 0)) ∧
      (∀ b, nA b ≤ 1100000 → ∃ y c z, listT [dataA b, x1, x2] = y ∧ nT y ≤ 100000000 ∧ verA y sv ce = c ∧ verE y sv ce = z ∧ (z == 0) = sameA a b) := by
  have hv : validA a = true := by unfold canA at h; simp only [Bool.and_eq_true] at h; exact h.1
  have hk : okV (builtA a sv ce) sv ce = true := (ok_iff a a sv ce sv ce h).2 ⟨rfl, rfl, rfl⟩
  refine ⟨_, _, _, _, rfl, rfl, ?_, vT_built (by omega) (by omega) (by omega) h h1 h2, ?_, (verE_iff _ _ _).2 hk, fun ot => ?_, fun ot => ?_, fun b hb => ?_⟩
  · have := nT_built a sv ce; omega
  · unfold verA; rw [if_pos hk]; exact (readA_built a _ _ hv).1
  · refine ver_any _ _ _ _ ?_
    rw [Bool.eq_iff_iff, oT_iff0]
    exact (ok_iff a a sv ce ot ce h).trans ⟨fun h => h.1, fun h => ⟨h, rfl, rfl⟩⟩
  · refine ver_any _ _ _ _ ?_
    rw [Bool.eq_iff_iff, oT_iff0]
    exact (ok_iff a a sv ce sv ot h).trans ⟨fun h => h.2.1, fun h => ⟨rfl, h, rfl⟩⟩
  · have hy : nT (listT [dataA b, s1A a sv, s2A a sv ce]) ≤ 100000000 := by
      show nT (listT [dataA b, sumT sv 18 (dataA a), sumT ce 19 (sumT sv 18 (dataA a))]) ≤ _
      rw [nT_list]
      simp only [nL, nT_sum]
      have := nT_data a
      have := nT_data b
      omega
    obtain ⟨c, z, e1, e2, e3⟩ := ver_any (listT [dataA b, s1A a sv, s2A a sv ce]) sv ce (sameA a b) (by
      rw [Bool.eq_iff_iff, sameA_iff]
      exact (ok_iff a b sv ce sv ce h).trans ⟨fun h => h.2.2, fun h => ⟨rfl, rfl, h⟩⟩)
    exact ⟨_, c, z, rfl, hy, e1, e2, e3⟩

/-! Footprints named -/
theorem IsF.tight {w : World} {ok : Nat → Prop} {v : Value} {t : S29} (h : IsF w ok v t) : IsF w (fun k => ok k ∧ k < w.heap.size) v t := by
  obtain ⟨A, c, rfl, hl, hF⟩ := h
  exact ⟨A, c, rfl, hl, fun W' hW => hF W' (fun k hk hlt => hW k ⟨hk, hlt⟩ hlt)⟩
theorem Data_M {v : Value} {a : Au} (w : World) (hn : nA a ≤ 1000000000) (h : IsA w v a) :
    Calls Tryd.prog 13 #[v] w fun e w' => ∃ v m, e = .returned v ∧ m = w.heap.size ∧ IsF w' (fun k => m ≤ k ∧ k < w'.heap.size) v (dataA a) ∧ Below w.heap.size w w' := by
  refine (Data_F w hn h).mono ?_
  rintro e w' ⟨v, rfl, hF, hb⟩
  exact ⟨v, _, rfl, rfl, hF.tight, hb⟩
theorem List_M (w0 : World) (ok : Nat → Prop) (A : Option Addr) (c : Nat) (l : List S29) (w : World) (hn : l.length ≤ 1000000000) (hb0 : Below w0.heap.size w0 w) (hC : ReadsRow (Kd.FK k29 w0 ok) 4 w A l.length l) :
    Calls Tryd.prog 24 #[.slice A l.length c] w fun e w' => ∃ v m, e = .returned v ∧ m = w.heap.size ∧ IsF w' (fun k => ok k ∨ m ≤ k) v (listT l) ∧ Below w.heap.size w w' := by
  refine (List_F w0 ok A c l w hn hb0 hC).mono ?_
  rintro e w' ⟨v, rfl, hF, hb⟩
  exact ⟨v, _, rfl, rfl, hF, hb⟩
/-- A list literal of terms that are read in an elder world. -/
theorem lits_row2 (wk w : World) (ok : Nat → Prop) (vs : List Value) (ts : List S29) (h : AllF wk ok vs ts) (hm : ts.length ≤ 1000) :
    ReadsRow (Kd.FK k29 wk ok) 4 (w.alloc (.cells (vs.flatMap cellsOf4).toArray 29)) (some ⟨w.heap.size, 0, none⟩) ts.length ts := by
  have hR := lits_Reps wk ok vs ts h
  have hh : Kd.R (kF wk ok) 29 (w.alloc (.cells (vs.flatMap cellsOf4).toArray 29)) w.heap.size (fun _ => True) (.slice (some ⟨w.heap.size, 0, none⟩) ts.length ts.length) ts :=
    ⟨fun _ _ => trivial, vs.flatMap cellsOf4, World.ownsRow_lit (base := w.heap.size) (e := 29) (size := 4) w _ ts.length (Nat.le_refl _) (by simp [maxLen]; omega) (by simp [hR.1]), hR⟩
  exact (Kd.R_reads' hh).2.2
end Go.Proofs.YtimommkbfbdkdaaDoor.P
