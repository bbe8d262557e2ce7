/- Plain law: the text of a valid term that has no name of digits tells the term; what is the same has the same text. -/
import Derived.Test.YtlhfekhmfeafbaaDoorPHs
import Derived.Test.YtlhfekhmfeafbaaDoorPHg
namespace Go.Proofs.YtlhfekhmfeafbaaDoor.P
open Go.RowKit Go.Proofs.YtlhfekhmfeafbaaDoorW.PrintWords Go.Proofs.YtlhfekhmfeafbaaDoorW.PrintLast Go.Proofs.YtlhfekhmfeafbaaDoorW.PrintMore

/-! Names of digits -/
def dgc (i : Nat) (c : Int) : Bool := (decide (48 ≤ c) && decide (c ≤ 57)) || (decide (i = 0) && c == 45)
def dgA (s : ByteArray) : Nat → Bool
  | 0 => true
  | k + 1 => dgA s k && dgc k (bt s k)
def digB (s : ByteArray) : Bool := decide (s.size ≠ 0) && dgA s s.size
theorem dgA_all (s : ByteArray) : ∀ n, (∀ k, k < n → dgc k (bt s k) = true) → dgA s n = true
  | 0, _ => rfl
  | n + 1, h => by rw [dgA, dgA_all s n (fun k hk => h k (by omega)), h n (by omega)]; rfl
theorem dgA_false (s : ByteArray) (k : Nat) (h : dgc k (bt s k) = false) : ∀ n, k < n → dgA s n = false
  | 0, hn => by omega
  | n + 1, hn => by
    rcases Nat.lt_or_ge k n with h1 | h1
    · rw [dgA, dgA_false s k h n h1]; rfl
    · obtain rfl : k = n := by omega
      rw [dgA, h]; simp
mutual
def gT : S25 → Bool
  | ⟨a, b, _, l⟩ => (decide (a = 0) && digB b) || gL l
def gL : List S25 → Bool
  | [] => false
  | x :: r => gT x || gL r
end

/-! Bytes of names -/
def wd (b : UInt8) : Bool := (decide (97 ≤ b.toNat) && decide (b.toNat ≤ 122)) || (decide (48 ≤ b.toNat) && decide (b.toNat ≤ 57)) || b == 45 || b == 46 || b == 47
theorem okB_wd : ∀ k : Fin 256, okB (k.val : Int) = wd (UInt8.ofNat k.val) := by decide +kernel
theorem bt_get (s : ByteArray) (k : Nat) (h : k < s.size) : bt s k = ((s.data.toList[k]'(by simpa using h)).toNat : Int) := by
  unfold bt
  rw [dif_pos (by simpa using h)]
  rfl
theorem okB_byte (b : UInt8) : okB (b.toNat : Int) = wd b := by
  have := okB_wd ⟨b.toNat, b.toNat_lt⟩
  simpa using this
theorem allB_at (s : ByteArray) : ∀ n, allB s n = true → ∀ k, k < n → okB (bt s k) = true
  | 0, _, k, hk => by omega
  | n + 1, h, k, hk => by
    rw [allB, Bool.and_eq_true] at h
    rcases Nat.lt_or_ge k n with h1 | h1
    · exact allB_at s n h.1 k h1
    · obtain rfl : k = n := by omega
      exact h.2
theorem name_wd {s : ByteArray} (h : nameB s = true) : (∀ c ∈ s.data.toList, wd c = true) ∧ s.data.toList ≠ [] := by
  unfold nameB at h
  simp only [Bool.and_eq_true, decide_eq_true_eq] at h
  have hl : s.data.toList.length = s.size := by rw [Array.length_toList]; rfl
  refine ⟨fun c hc => ?_, fun h0 => ?_⟩
  · obtain ⟨k, hk, rfl⟩ := List.getElem_of_mem hc
    have h1 := allB_at s _ h.1 k (by omega)
    rw [bt_get s k (by omega), okB_byte] at h1
    exact h1
  · rw [h0] at hl; simp at hl; omega

/-! Numerals -/
theorem dec_range : ∀ (u : Nat), ∀ c ∈ Lib.decDigits u, 48 ≤ c.toNat ∧ c.toNat ≤ 57 := by
  intro u
  induction u using Nat.strongRecOn with
  | _ u ih =>
    intro c hc
    rw [Lib.decDigits] at hc
    split at hc
    · simp only [List.mem_singleton] at hc
      subst hc
      rw [UInt8.toNat_ofNat']
      omega
    · rw [List.mem_append] at hc
      rcases hc with hc | hc
      · exact ih _ (by omega) c hc
      · simp only [List.mem_singleton] at hc
        subst hc
        rw [UInt8.toNat_ofNat']
        omega
theorem dec_ne (u : Nat) : Lib.decDigits u ≠ [] := by
  rw [Lib.decDigits]
  split <;> simp
def decV (l : List UInt8) : Nat := l.foldl (fun a c => 10 * a + (c.toNat - 48)) 0
theorem dec_val : ∀ (u : Nat), decV (Lib.decDigits u) = u := by
  intro u
  induction u using Nat.strongRecOn with
  | _ u ih =>
    rw [Lib.decDigits]
    split
    · simp only [decV, List.foldl_cons, List.foldl_nil, UInt8.toNat_ofNat']
      omega
    · have := ih (u / 10) (by omega)
      unfold decV at this ⊢
      rw [List.foldl_append, this]
      simp only [List.foldl_cons, List.foldl_nil, UInt8.toNat_ofNat']
      omega
theorem dec_inj {u v : Nat} (h : Lib.decDigits u = Lib.decDigits v) : u = v := by rw [← dec_val u, ← dec_val v, h]
theorem itoa_cases (n : Int) : (∃ u : Nat, n = u ∧ Lib.itoa n = Lib.decDigits u) ∨ (∃ u : Nat, n = -(u : Int) ∧ n < 0 ∧ Lib.itoa n = 45 :: Lib.decDigits u) := by
  unfold Lib.itoa
  split
  · right; exact ⟨n.natAbs, by omega, by omega, rfl⟩
  · left; exact ⟨n.toNat, by omega, rfl⟩
theorem dec_head (u : Nat) : ∃ c r, Lib.decDigits u = c :: r ∧ 48 ≤ c.toNat ∧ c.toNat ≤ 57 := by
  cases h : Lib.decDigits u with
  | nil => exact absurd h (dec_ne u)
  | cons c r => exact ⟨c, r, rfl, dec_range u c (by rw [h]; exact List.mem_cons_self ..)⟩
theorem itoa_inj {n m : Int} (h : Lib.itoa n = Lib.itoa m) : n = m := by
  rcases itoa_cases n with ⟨u, rfl, e⟩ | ⟨u, hn, hn0, e⟩ <;> rcases itoa_cases m with ⟨v, rfl, f⟩ | ⟨v, hm, hm0, f⟩ <;> rw [e, f] at h
  · rw [dec_inj h]
  · obtain ⟨c, r, e2, h1, h2⟩ := dec_head u
    rw [e2, List.cons.injEq] at h
    rw [h.1] at h1; exact absurd h1 (by decide)
  · obtain ⟨c, r, e2, h1, h2⟩ := dec_head v
    rw [e2, List.cons.injEq] at h
    rw [← h.1] at h1; exact absurd h1 (by decide)
  · rw [List.cons.injEq] at h
    rw [hn, hm, dec_inj h.2]
theorem wd_dig {c : UInt8} (h : 48 ≤ c.toNat ∧ c.toNat ≤ 57) : wd c = true := by simp [wd, h.1, h.2]
theorem itoa_wd (n : Int) : (∀ c ∈ Lib.itoa n, wd c = true) ∧ Lib.itoa n ≠ [] := by
  rcases itoa_cases n with ⟨u, _, e⟩ | ⟨u, _, _, e⟩ <;> rw [e]
  · exact ⟨fun c hc => wd_dig (dec_range u c hc), dec_ne u⟩
  · refine ⟨fun c hc => ?_, by simp⟩
    rcases List.mem_cons.1 hc with rfl | hc
    · decide
    · exact wd_dig (dec_range u c hc)
theorem itoa_dig {s : ByteArray} {n : Int} (h : s.data.toList = Lib.itoa n) : digB s = true := by
  have hl : s.data.toList.length = s.size := by rw [Array.length_toList]; rfl
  unfold digB
  rw [Bool.and_eq_true]
  constructor
  · have h1 := (itoa_wd n).2
    rw [← h] at h1
    have : s.data.toList.length ≠ 0 := fun h2 => h1 (List.eq_nil_of_length_eq_zero h2)
    exact decide_eq_true (by omega)
  · refine dgA_all s _ fun k hk => ?_
    rw [bt_get s k hk]
    have hk' : k < s.data.toList.length := by omega
    have key : ∀ (l : List UInt8) (e : s.data.toList = l) (hl : k < l.length), dgc k ((l[k]'hl).toNat : Int) = true → dgc k ((s.data.toList[k]'hk').toNat : Int) = true := by
      intro l e hl h; subst e; exact h
    rcases itoa_cases n with ⟨u, _, e⟩ | ⟨u, _, _, e⟩
    · refine key _ (h.trans e) (by rw [← e, ← h]; exact hk') ?_
      have := dec_range u _ (List.getElem_mem (by rw [← e, ← h]; exact hk' : k < (Lib.decDigits u).length))
      unfold dgc
      simp; left; omega
    · refine key _ (h.trans e) (by rw [← e, ← h]; exact hk') ?_
      cases k with
      | zero => show dgc 0 ((45 : UInt8).toNat : Int) = true; decide
      | succ k =>
        have hk2 : k < (Lib.decDigits u).length := by have : k + 1 < (45 :: Lib.decDigits u).length := by rw [← e, ← h]; exact hk'
                                                      simpa using this
        have := dec_range u _ (List.getElem_mem hk2)
        unfold dgc
        simp; omega

/-! The longest row of such bytes -/
def Nw (x : List UInt8) : Prop := ∀ c r, x = c :: r → wd c = false
theorem span_eq : ∀ {p q x y : List UInt8}, (∀ c ∈ p, wd c = true) → (∀ c ∈ q, wd c = true) → Nw x → Nw y → p ++ x = q ++ y → p = q ∧ x = y
  | [], [], x, y, _, _, _, _, h => ⟨rfl, h⟩
  | [], d :: q, x, y, _, hq, hx, _, h => by
    have := hx d (q ++ y) h
    rw [hq d (List.mem_cons_self ..)] at this; cases this
  | c :: p, [], x, y, hp, _, _, hy, h => by
    have := hy c (p ++ x) h.symm
    rw [hp c (List.mem_cons_self ..)] at this; cases this
  | c :: p, d :: q, x, y, hp, hq, hx, hy, h => by
    rw [List.cons_append, List.cons_append, List.cons.injEq] at h
    obtain ⟨h1, h2⟩ := span_eq (fun c hc => hp c (List.mem_cons_of_mem _ hc)) (fun c hc => hq c (List.mem_cons_of_mem _ hc)) hx hy h.2
    exact ⟨by rw [h.1, h1], h2⟩
theorem Nw.cons {c : UInt8} {r : List UInt8} (h : wd c = false) : Nw (c :: r) := by
  intro d s e; rw [List.cons.injEq] at e; rw [← e.1]; exact h
/-- Empty, or it begins with a blank, ')' or ']'. -/
def Dl (x : List UInt8) : Prop := x = [] ∨ ∃ c r, x = c :: r ∧ (c = 32 ∨ c = 41 ∨ c = 93)
theorem Dl.nw {x : List UInt8} (h : Dl x) : Nw x := by
  intro c r e
  rcases h with h | ⟨d, s, h, h1⟩
  · rw [h] at e; cases e
  · rw [h, List.cons.injEq] at e
    rw [← e.1]
    rcases h1 with rfl | rfl | rfl <;> decide
theorem Dl.not {x : List UInt8} (h : Dl x) {c : UInt8} {r : List UInt8} (e : x = c :: r) (h1 : c ≠ 32) (h2 : c ≠ 41) (h3 : c ≠ 93) : False := by
  rcases h with h | ⟨d, s, h, hd⟩
  · rw [h] at e; cases e
  · rw [h, List.cons.injEq] at e
    rcases hd with rfl | rfl | rfl
    · exact h1 e.1.symm
    · exact h2 e.1.symm
    · exact h3 e.1.symm

/-! The text as a list of bytes -/
def tx (t : S25) : List UInt8 := (textB t).data.toList
def kt : List S25 → List UInt8 → List UInt8
  | [], x => 93 :: x
  | a :: r, x => 32 :: (tx a ++ kt r x)
/-- The texts of a list, with blanks between, up to the ']' and what follows. -/
def jt : List S25 → List UInt8 → List UInt8
  | [], x => 93 :: x
  | a :: r, x => tx a ++ kt r x
theorem tail_kt (x : List UInt8) : ∀ l : List S25, Lib.joinTail [32] ((textL l).map (·.data.toList)) ++ 93 :: x = kt l x
  | [] => by rw [textL, kt]; rfl
  | a :: r => by
    rw [textL, kt, ← tail_kt x r]
    simp [Lib.joinTail, tx]
theorem join_jt (x : List UInt8) (l : List S25) : Lib.join ((textL l).map (·.data.toList)) [32] ++ 93 :: x = jt l x := by
  cases l with
  | nil => rw [textL, jt]; rfl
  | cons a r => rw [textL, jt, List.map_cons, Lib.join_cons, List.append_assoc, tail_kt]; rfl
/-- What the text of a term is, up to what follows. -/
inductive Sh6 (t : S25) : Prop
  | name (h0 : t.f0 = 0) (hn : nameB t.f1 = true) (h2 : t.f2 = 0) (h3 : t.f3 = []) (e : ∀ x, tx t ++ x = t.f1.data.toList ++ x)
  | num (h0 : t.f0 = 1) (h1 : t.f1 = ⟨#[]⟩) (h3 : t.f3 = []) (e : ∀ x, tx t ++ x = Lib.itoa t.f2 ++ x)
  | key (h0 : t.f0 = 2) (hn : ∀ c ∈ t.f1.data.toList, wd c = true) (h3 : t.f3 = []) (e : ∀ x, tx t ++ x = [107, 101, 121] ++ 40 :: (t.f1.data.toList ++ 32 :: (Lib.itoa t.f2 ++ 41 :: x)))
  | list (h0 : t.f0 = 3) (h1 : t.f1 = ⟨#[]⟩) (h2 : t.f2 = 0) (e : ∀ x, tx t ++ x = [] ++ 91 :: jt t.f3 x)
  | seal4 (h0 : t.f0 = 4) (h1 : t.f1 = ⟨#[]⟩) (a b : S25) (h3 : t.f3 = [a, b]) (e : ∀ x, tx t ++ x = [115, 101, 97, 108] ++ 40 :: (tx a ++ 32 :: (Lib.itoa t.f2 ++ 32 :: (tx b ++ 41 :: x))))
  | sum5 (h0 : t.f0 = 5) (h1 : t.f1 = ⟨#[]⟩) (a b : S25) (h3 : t.f3 = [a, b]) (e : ∀ x, tx t ++ x = [115, 117, 109] ++ 40 :: (tx a ++ 32 :: (Lib.itoa t.f2 ++ 32 :: (tx b ++ 41 :: x))))
theorem toList_nil {s : ByteArray} (h : s.toList = []) : s = ⟨#[]⟩ := by
  have h1 : s.data.toList = [] := by rw [← Lib.toList_data]; exact h
  apply ByteArray.ext
  exact Array.toList_eq_nil_iff.1 h1
theorem two_list {l : List S25} (h : l.length = 2) : ∃ a b, l = [a, b] := by
  match l, h with
  | [a, b], _ => exact ⟨a, b, rfl⟩
theorem shape6 (t : S25) (hs : t.f1.size ≤ 9223372036854775806) (h : shapeB t = true) : Sh6 t := by
  obtain ⟨a, s, n, l⟩ := t
  simp only at hs
  unfold shapeB at h
  simp only at h
  rw [term_shape.f, show term_Name.f s = some (nameB s) by rw [term_Name.f, if_pos hs]] at h
  simp only [Option.bind_some] at h
  by_cases e0 : a = 0
  · subst e0
    by_cases hN : nameB s = true <;> by_cases hn : n = 0 <;> simp [hN, hn] at h
    subst hn
    exact .name rfl hN rfl h fun x => by simp [tx, textB]
  by_cases e1 : a = 1
  · subst e1
    by_cases hT : s.toList = [] <;> simp [hT] at h
    exact .num rfl (toList_nil hT) h fun x => by simp [tx, textB, itoaB]
  by_cases e2 : a = 2
  · subst e2
    by_cases hT : s.toList = [] <;> by_cases hN : nameB s = true <;> by_cases hn : n ≥ 1 <;> simp [hT, hN, hn] at h
    all_goals refine .key rfl ?_ h fun x => ?_
    all_goals first
      | exact (name_wd hN).1
      | (simp only [toList_nil hT]; intro c hc; cases hc)
      | simp [tx, textB, keyB, itoaB]
  by_cases e3 : a = 3
  · subst e3
    by_cases hT : s.toList = [] <;> by_cases hn : n = 0 <;> simp [hT, hn] at h
    refine .list rfl (toList_nil hT) hn fun x => ?_
    rw [← join_jt]
    simp [tx, textB, joinB]
  by_cases e4 : a = 4
  · subst e4
    by_cases hT : s.toList = [] <;> by_cases hn : 1 ≤ n <;> by_cases hm : n ≤ 255 <;> by_cases hl : (l.length : Int) = 2 <;> simp [hT, hn, hm, hl] at h
    obtain ⟨a, b, rfl⟩ := two_list (l := l) (by omega)
    exact .seal4 rfl (toList_nil hT) a b rfl fun x => by simp [tx, textB, textL, sealB, itoaB]
  by_cases e5 : a = 5
  · subst e5
    by_cases hT : s.toList = [] <;> by_cases hn : 1 ≤ n <;> by_cases hm : n ≤ 255 <;> by_cases hl : (l.length : Int) = 2 <;> simp [hT, hn, hm, hl] at h
    obtain ⟨a, b, rfl⟩ := two_list (l := l) (by omega)
    exact .sum5 rfl (toList_nil hT) a b rfl fun x => by simp [tx, textB, textL, sealB, itoaB]
  · simp [e0, e1, e2, e3, e4, e5] at h

theorem Dl.kt (x : List UInt8) : ∀ l : List S25, Dl (kt l x)
  | [] => .inr ⟨93, x, rfl, .inr (.inr rfl)⟩
  | _ :: _ => .inr ⟨32, _, rfl, .inl rfl⟩
theorem first_ne (t : S25) (h : Sh6 t) (x : List UInt8) : ∃ c r, tx t ++ x = c :: r ∧ c ≠ 93 := by
  have hw : ∀ (p q : List UInt8), (∀ c ∈ p, wd c = true) → p ≠ [] → ∃ c r, p ++ q = c :: r ∧ c ≠ 93 := by
    intro p q hp h0
    cases p with
    | nil => exact absurd rfl h0
    | cons c r => exact ⟨c, r ++ q, rfl, fun e => by have := hp c (List.mem_cons_self ..); rw [e] at this; exact absurd this (by decide)⟩
  cases h with
  | name h0 hn h2 h3 e => rw [e]; exact hw _ _ (name_wd hn).1 (name_wd hn).2
  | num h0 h1 h3 e => rw [e]; exact hw _ _ (itoa_wd _).1 (itoa_wd _).2
  | key h0 hn h3 e => rw [e]; exact hw _ _ (by decide) (by decide)
  | list h0 h1 h2 e => rw [e]; exact ⟨91, _, rfl, by decide⟩
  | seal4 h0 h1 a b h3 e => rw [e]; exact hw _ _ (by decide) (by decide)
  | sum5 h0 h1 a b h3 e => rw [e]; exact hw _ _ (by decide) (by decide)
theorem vT_shape {t : S25} {d : Int} (h : vT t d = true) : shapeB t = true ∧ vL t.f3 (d + 1) = true := by
  rw [vT_eq, Bool.and_eq_true, Bool.and_eq_true] at h
  exact h.2
theorem gT_eq (t : S25) : gT t = ((decide (t.f0 = 0) && digB t.f1) || gL t.f3) := by cases t; rw [gT]
theorem S25_ext {t u : S25} (h0 : t.f0 = u.f0) (h1 : t.f1 = u.f1) (h2 : t.f2 = u.f2) (h3 : t.f3 = u.f3) : t = u := by cases t; cases u; cases h0; cases h1; cases h2; cases h3; rfl

set_option maxHeartbeats 2000000 in
theorem text_tells (n : Nat) : ∀ (t u : S25) (d e : Int) (x y : List UInt8), nT t ≤ n → nT t ≤ 1000000000 → nT u ≤ 1000000000 → vT t d = true → vT u e = true → gT t = false → gT u = false → Dl x → Dl y →
    tx t ++ x = tx u ++ y → t = u ∧ x = y := by
  induction n with
  | zero => intro t u d e x y h; rw [nT_eq] at h; omega
  | succ n ih =>
    intro t u d e x y hn hb hc hv hw hg hk hx hy h
    rw [nT_eq] at hn hb hc
    obtain ⟨v1, v2⟩ := vT_shape hv
    obtain ⟨w1, w2⟩ := vT_shape hw
    rw [gT_eq, Bool.or_eq_false_iff] at hg hk
    have sh := shape6 t (by omega) v1
    have sg := shape6 u (by omega) w1
    have hlist : ∀ (l m : List S25) (x y : List UInt8), nL l ≤ n → nL l ≤ 1000000000 → nL m ≤ 1000000000 → vL l (d + 1) = true → vL m (e + 1) = true → gL l = false → gL m = false → jt l x = jt m y → l = m ∧ x = y := by
      intro l
      induction l with
      | nil =>
        intro m x y _ _ hm _ vm _ _ hj
        cases m with
        | nil => rw [jt, jt, List.cons.injEq] at hj; exact ⟨rfl, hj.2⟩
        | cons b r =>
          exfalso
          rw [vL, Bool.and_eq_true] at vm
          rw [nL, nT_eq] at hm
          obtain ⟨c, s, e1, e2⟩ := first_ne b (shape6 b (by omega) (vT_shape vm.1).1) (kt r y)
          rw [jt, jt, e1, List.cons.injEq] at hj
          exact e2 hj.1.symm
      | cons a l ihl =>
        intro m x y hl hl2 hm vl vm gl gm hj
        rw [vL, Bool.and_eq_true] at vl
        rw [gL, Bool.or_eq_false_iff] at gl
        rw [nL] at hl hl2
        cases m with
        | nil =>
          exfalso
          have ha := nT_eq a
          obtain ⟨c, s, e1, e2⟩ := first_ne a (shape6 a (by omega) (vT_shape vl.1).1) (kt l x)
          rw [jt, jt, e1, List.cons.injEq] at hj
          exact e2 hj.1
        | cons b m =>
          rw [vL, Bool.and_eq_true] at vm
          rw [gL, Bool.or_eq_false_iff] at gm
          rw [nL] at hm
          rw [jt, jt] at hj
          obtain ⟨rfl, hj2⟩ := ih a b _ _ _ _ (by omega) (by omega) (by omega) vl.1 vm.1 gl.1 gm.1 (.kt _ _) (.kt _ _) hj
          have hj3 : l = m ∧ x = y := by
            cases l with
            | nil =>
              cases m with
              | nil => rw [kt, kt, List.cons.injEq] at hj2; exact ⟨rfl, hj2.2⟩
              | cons b m => rw [kt, kt, List.cons.injEq] at hj2; exact absurd hj2.1 (by decide)
            | cons a l =>
              cases m with
              | nil => rw [kt, kt, List.cons.injEq] at hj2; exact absurd hj2.1 (by decide)
              | cons b m =>
                rw [kt, kt, List.cons.injEq] at hj2
                exact ihl (b :: m) x y (by omega) (by omega) (by omega) vl.2 vm.2 gl.2 gm.2 hj2.2
          exact ⟨by rw [hj3.1], hj3.2⟩
    have pair : ∀ (a b a' b' : S25) (i j : Int), t.f3 = [a, b] → u.f3 = [a', b'] → tx a ++ 32 :: (Lib.itoa i ++ 32 :: (tx b ++ 41 :: x)) = tx a' ++ 32 :: (Lib.itoa j ++ 32 :: (tx b' ++ 41 :: y)) → t.f3 = u.f3 ∧ i = j ∧ x = y := by
      intro a b a' b' i j e1 e2 hh
      rw [e1] at v2 hg hn hb
      rw [e2] at w2 hk hc
      simp only [vL, Bool.and_eq_true] at v2 w2
      simp only [gL, Bool.or_eq_false_iff] at hg hk
      simp only [nL] at hn hb hc
      obtain ⟨rfl, h2⟩ := ih a a' _ _ _ _ (by omega) (by omega) (by omega) v2.1 w2.1 hg.2.1 hk.2.1 (.inr ⟨32, _, rfl, .inl rfl⟩) (.inr ⟨32, _, rfl, .inl rfl⟩) hh
      rw [List.cons.injEq] at h2
      obtain ⟨h3, h4⟩ := span_eq (itoa_wd _).1 (itoa_wd _).1 (.cons (by decide)) (.cons (by decide)) h2.2
      rw [List.cons.injEq] at h4
      obtain ⟨rfl, h5⟩ := ih b b' _ _ _ _ (by omega) (by omega) (by omega) v2.2.1 w2.2.1 hg.2.2.1 hk.2.2.1 (.inr ⟨41, _, rfl, .inr (.inl rfl)⟩) (.inr ⟨41, _, rfl, .inr (.inl rfl)⟩) h4.2
      rw [List.cons.injEq] at h5
      exact ⟨by rw [e1, e2], itoa_inj h3, h5.2⟩
    have n40 : ∀ r, Nw (40 :: r) := fun r => .cons (by decide)
    have n91 : ∀ r, Nw (91 :: r) := fun r => .cons (by decide)
    cases sh with
    | name h0 hn' h2 h3 e =>
      cases sg with
      | name k0 kn k2 k3 f =>
        rw [e, f] at h
        obtain ⟨h4, h5⟩ := span_eq (name_wd hn').1 (name_wd kn).1 hx.nw hy.nw h
        exact ⟨S25_ext (h0.trans k0.symm) (ByteArray.ext (Array.toList_inj.1 h4)) (h2.trans k2.symm) (h3.trans k3.symm), h5⟩
      | num k0 k1 k3 f =>
        rw [e, f] at h
        obtain ⟨h4, h5⟩ := span_eq (name_wd hn').1 (itoa_wd _).1 hx.nw hy.nw h
        have := hg.1
        rw [itoa_dig h4, h0] at this
        cases this
      | key k0 kn k3 f => rw [e, f] at h; exact (hx.not (span_eq (name_wd hn').1 (by decide) hx.nw (n40 _) h).2 (by decide) (by decide) (by decide)).elim
      | list k0 k1 k2 f => rw [e, f] at h; exact (hx.not (span_eq (name_wd hn').1 (by decide) hx.nw (n91 _) h).2 (by decide) (by decide) (by decide)).elim
      | seal4 k0 k1 a b k3 f => rw [e, f] at h; exact (hx.not (span_eq (name_wd hn').1 (by decide) hx.nw (n40 _) h).2 (by decide) (by decide) (by decide)).elim
      | sum5 k0 k1 a b k3 f => rw [e, f] at h; exact (hx.not (span_eq (name_wd hn').1 (by decide) hx.nw (n40 _) h).2 (by decide) (by decide) (by decide)).elim
    | num h0 h1 h3 e =>
      cases sg with
      | name k0 kn k2 k3 f =>
        rw [e, f] at h
        obtain ⟨h4, h5⟩ := span_eq (itoa_wd _).1 (name_wd kn).1 hx.nw hy.nw h
        have := hk.1
        rw [itoa_dig h4.symm, k0] at this
        cases this
      | num k0 k1 k3 f =>
        rw [e, f] at h
        obtain ⟨h4, h5⟩ := span_eq (itoa_wd _).1 (itoa_wd _).1 hx.nw hy.nw h
        exact ⟨S25_ext (h0.trans k0.symm) (h1.trans k1.symm) (itoa_inj h4) (h3.trans k3.symm), h5⟩
      | key k0 kn k3 f => rw [e, f] at h; exact (hx.not (span_eq (itoa_wd _).1 (by decide) hx.nw (n40 _) h).2 (by decide) (by decide) (by decide)).elim
      | list k0 k1 k2 f => rw [e, f] at h; exact (hx.not (span_eq (itoa_wd _).1 (by decide) hx.nw (n91 _) h).2 (by decide) (by decide) (by decide)).elim
      | seal4 k0 k1 a b k3 f => rw [e, f] at h; exact (hx.not (span_eq (itoa_wd _).1 (by decide) hx.nw (n40 _) h).2 (by decide) (by decide) (by decide)).elim
      | sum5 k0 k1 a b k3 f => rw [e, f] at h; exact (hx.not (span_eq (itoa_wd _).1 (by decide) hx.nw (n40 _) h).2 (by decide) (by decide) (by decide)).elim
    | key h0 hn' h3 e =>
      cases sg with
      | name k0 kn k2 k3 f => rw [e, f] at h; exact (hy.not (span_eq (by decide) (name_wd kn).1 (n40 _) hy.nw h).2.symm (by decide) (by decide) (by decide)).elim
      | num k0 k1 k3 f => rw [e, f] at h; exact (hy.not (span_eq (by decide) (itoa_wd _).1 (n40 _) hy.nw h).2.symm (by decide) (by decide) (by decide)).elim
      | key k0 kn k3 f =>
        rw [e, f] at h
        obtain ⟨h4, h5⟩ := span_eq (by decide) (by decide) (n40 _) (n40 _) h
        rw [List.cons.injEq] at h5
        obtain ⟨h6, h7⟩ := span_eq hn' kn (.cons (by decide)) (.cons (by decide)) h5.2
        rw [List.cons.injEq] at h7
        obtain ⟨h8, h9⟩ := span_eq (itoa_wd _).1 (itoa_wd _).1 (.cons (by decide)) (.cons (by decide)) h7.2
        rw [List.cons.injEq] at h9
        exact ⟨S25_ext (h0.trans k0.symm) (ByteArray.ext (Array.toList_inj.1 h6)) (itoa_inj h8) (h3.trans k3.symm), h9.2⟩
      | list k0 k1 k2 f => rw [e, f] at h; exact absurd (span_eq (by decide) (by decide) (n40 _) (n91 _) h).1 (by decide)
      | seal4 k0 k1 a b k3 f => rw [e, f] at h; exact absurd (span_eq (by decide) (by decide) (n40 _) (n40 _) h).1 (by decide)
      | sum5 k0 k1 a b k3 f => rw [e, f] at h; exact absurd (span_eq (by decide) (by decide) (n40 _) (n40 _) h).1 (by decide)
    | list h0 h1 h2 e =>
      cases sg with
      | name k0 kn k2 k3 f => rw [e, f] at h; exact absurd (span_eq (by decide) (name_wd kn).1 (n91 _) hy.nw h).1.symm (name_wd kn).2
      | num k0 k1 k3 f => rw [e, f] at h; exact absurd (span_eq (by decide) (itoa_wd _).1 (n91 _) hy.nw h).1.symm (itoa_wd _).2
      | key k0 kn k3 f => rw [e, f] at h; exact absurd (span_eq (by decide) (by decide) (n91 _) (n40 _) h).1 (by decide)
      | list k0 k1 k2 f =>
        rw [e, f, List.nil_append, List.nil_append, List.cons.injEq] at h
        obtain ⟨h4, h5⟩ := hlist t.f3 u.f3 x y (by omega) (by omega) (by omega) v2 w2 hg.2 hk.2 h.2
        exact ⟨S25_ext (h0.trans k0.symm) (h1.trans k1.symm) (h2.trans k2.symm) h4, h5⟩
      | seal4 k0 k1 a b k3 f => rw [e, f] at h; exact absurd (span_eq (by decide) (by decide) (n91 _) (n40 _) h).1 (by decide)
      | sum5 k0 k1 a b k3 f => rw [e, f] at h; exact absurd (span_eq (by decide) (by decide) (n91 _) (n40 _) h).1 (by decide)
    | seal4 h0 h1 a b h3 e =>
      cases sg with
      | name k0 kn k2 k3 f => rw [e, f] at h; exact (hy.not (span_eq (by decide) (name_wd kn).1 (n40 _) hy.nw h).2.symm (by decide) (by decide) (by decide)).elim
      | num k0 k1 k3 f => rw [e, f] at h; exact (hy.not (span_eq (by decide) (itoa_wd _).1 (n40 _) hy.nw h).2.symm (by decide) (by decide) (by decide)).elim
      | key k0 kn k3 f => rw [e, f] at h; exact absurd (span_eq (by decide) (by decide) (n40 _) (n40 _) h).1 (by decide)
      | list k0 k1 k2 f => rw [e, f] at h; exact absurd (span_eq (by decide) (by decide) (n40 _) (n91 _) h).1 (by decide)
      | seal4 k0 k1 a' b' k3 f =>
        rw [e, f] at h
        have h5 := (span_eq (by decide) (by decide) (n40 _) (n40 _) h).2
        rw [List.cons.injEq] at h5
        obtain ⟨h6, h7, h8⟩ := pair a b a' b' _ _ h3 k3 h5.2
        exact ⟨S25_ext (h0.trans k0.symm) (h1.trans k1.symm) h7 h6, h8⟩
      | sum5 k0 k1 a b k3 f => rw [e, f] at h; exact absurd (span_eq (by decide) (by decide) (n40 _) (n40 _) h).1 (by decide)
    | sum5 h0 h1 a b h3 e =>
      cases sg with
      | name k0 kn k2 k3 f => rw [e, f] at h; exact (hy.not (span_eq (by decide) (name_wd kn).1 (n40 _) hy.nw h).2.symm (by decide) (by decide) (by decide)).elim
      | num k0 k1 k3 f => rw [e, f] at h; exact (hy.not (span_eq (by decide) (itoa_wd _).1 (n40 _) hy.nw h).2.symm (by decide) (by decide) (by decide)).elim
      | key k0 kn k3 f => rw [e, f] at h; exact absurd (span_eq (by decide) (by decide) (n40 _) (n40 _) h).1 (by decide)
      | list k0 k1 k2 f => rw [e, f] at h; exact absurd (span_eq (by decide) (by decide) (n40 _) (n91 _) h).1 (by decide)
      | seal4 k0 k1 a b k3 f => rw [e, f] at h; exact absurd (span_eq (by decide) (by decide) (n40 _) (n40 _) h).1 (by decide)
      | sum5 k0 k1 a' b' k3 f =>
        rw [e, f] at h
        have h5 := (span_eq (by decide) (by decide) (n40 _) (n40 _) h).2
        rw [List.cons.injEq] at h5
        obtain ⟨h6, h7, h8⟩ := pair a b a' b' _ _ h3 k3 h5.2
        exact ⟨S25_ext (h0.trans k0.symm) (h1.trans k1.symm) h7 h6, h8⟩
theorem text_once {t u : S25} (hb : nT t ≤ 1000000000) (hc : nT u ≤ 1000000000) (hv : vT t 0 = true) (hw : vT u 0 = true) (hg : gT t = false) (hk : gT u = false) (h : textB t = textB u) : t = u :=
  (text_tells _ t u 0 0 [] [] (Nat.le_refl _) hb hc hv hw hg hk (.inl rfl) (.inl rfl) (by unfold tx; rw [h])).1

/-! What is the same is one -/
theorem cmpB_zero : ∀ l m : List UInt8, Lib.compareBytes l m = 0 → l = m
  | [], [], _ => rfl
  | [], b :: m, h => by simp [Lib.compareBytes] at h
  | a :: l, [], h => by simp [Lib.compareBytes] at h
  | a :: l, b :: m, h => by
    rw [Lib.compareBytes] at h
    split at h
    · cases h
    · split at h
      · cases h
      · rename_i h1 h2
        rw [cmpB_zero l m h]
        have e1 : ¬ a.toNat < b.toNat := h1
        have e2 : ¬ b.toNat < a.toNat := h2
        rw [UInt8.toNat_inj.1 (by omega : a.toNat = b.toNat)]
theorem or4_zero {a b c d : Int} (h : or4 a b c d = 0) : a = 0 ∧ b = 0 ∧ c = 0 ∧ d = 0 := by
  unfold or4 at h
  split at h <;> (try split at h) <;> (try split at h) <;> simp_all
theorem cmpI_zero {a b : Int} (h : cmpI a b = 0) : a = b := by
  unfold cmpI at h
  split at h
  · cases h
  · split at h
    · cases h
    · omega
mutual
theorem oT_zero : ∀ t u : S25, oT t u = 0 → t = u
  | ⟨a, b, c, l⟩, u, h => by
    rw [oT] at h
    obtain ⟨h0, h1, h2, h3⟩ := or4_zero h
    exact S25_ext (cmpI_zero h0) (ByteArray.ext (Array.toList_inj.1 (cmpB_zero _ _ h1))) (cmpI_zero h2) (oL_zero l u.f3 h3)
theorem oL_zero : ∀ l m : List S25, oL l m = 0 → l = m
  | [], [], _ => rfl
  | [], _ :: _, h => by rw [oL] at h; cases h
  | _ :: _, [], h => by rw [oL] at h; cases h
  | x :: r, y :: s, h => by
    rw [oL] at h
    split at h
    · rename_i h1
      rw [oT_zero x y h1, oL_zero r s h]
    · rename_i h1; exact absurd h h1
end
end Go.Proofs.YtlhfekhmfeafbaaDoor.P
