/- The reference's Parts, Names and Name come to the plain ones. The reference's Name and Valid come to the plain ones. The reference's Valid comes to the plain one. The reference's Digits come to the decimal numeral. The reference's Text comes to the plain one. -/
import Derived.Test.YtlhfekhmfeafbaaDoorPHs
import Derived.Test.YtlhfekhmfeafbaaDoorPx4
import Derived.Test.YtlhfekhmfeafbaaDoorPx6
import Derived.Test.YtlhfekhmfeafbaaDoorPHg
import Derived.IntWalk
import Derived.Test.YtlhfekhmfeafbaaDoorPx7
namespace Go.Proofs.YtlhfekhmfeafbaaDoor.P
open Go.RowKit Go.Proofs.YtlhfekhmfeafbaaDoorW.PrintWords Go.Proofs.YtlhfekhmfeafbaaDoorW.PrintLast Go.Proofs.YtlhfekhmfeafbaaDoorW.PrintMore

theorem rParts (n : Nat) : ∀ t : S25, nT t ≤ n → nT t ≤ 1000000000 → ∀ k, cT t ≤ k → legateref08_Parts.f k t.f0 t.f1 t.f2 t.f3 = some (partsT t) := by
  induction n with
  | zero => intro t h; rw [nT_eq] at h; omega
  | succ n ih =>
    intro t h hb k hk
    have hlen := partsT_len _ t (Nat.le_refl _)
    rw [partsT_eq, List.length_cons] at hlen
    have h0 := h
    rw [nT_eq] at h0
    have hb0 := hb
    rw [nT_eq] at hb0
    have hll := nL_len t.f3
    rw [cT_eq] at hk
    obtain ⟨k, rfl⟩ : ∃ k', k = k' + 1 := ⟨k - 1, by omega⟩
    rw [legateref08_Parts.f]
    have key : ∀ (j i : Nat), t.f3.length - i = j → i ≤ t.f3.length → ∀ (k : Nat) (s : List S25), cL (t.f3.drop i) ≤ k → s.length + (partsL (t.f3.drop i)).length ≤ 1000000000 →
        legateref08_Parts.l0 k s i t.f0 t.f1 t.f2 t.f3 = some (s ++ partsL (t.f3.drop i)) := by
      intro j
      induction j with
      | zero =>
        intro i hj hi k s hk hle
        obtain rfl : i = t.f3.length := by omega
        obtain ⟨k, rfl⟩ : ∃ k', k = k' + 1 := ⟨k - 1, by have := cL_pos (t.f3.drop t.f3.length); omega⟩
        rw [legateref08_Parts.l0, if_neg (by omega)]
        simp [partsL]
      | succ j ihj =>
        intro i hj hi k s hk hle
        have hlt : i < t.f3.length := by omega
        rw [cL_drop _ _ hlt] at hk
        rw [partsL_drop _ _ hlt, List.length_append] at hle
        rw [partsL_drop _ _ hlt]
        obtain ⟨k, rfl⟩ : ∃ k', k = k' + 1 := ⟨k - 1, by omega⟩
        have hn := nL_at t.f3 i hlt
        have hc := ih t.f3[i]! (by omega) (by omega) k (by omega)
        rw [legateref08_Parts.l0, if_pos (by omega), if_pos (by omega), rd_bang, hc]
        simp only [Option.bind_some]
        rw [if_pos (by omega), IntWalk.wrap64_in _ (by omega)]
        have := ihj (i + 1) (by omega) (by omega) k (s ++ partsT t.f3[i]!) (by omega) (by rw [List.length_append]; omega)
        rw [show ((i : Int) + 1) = ((i + 1 : Nat) : Int) from by omega, this, List.append_assoc]
    have := key t.f3.length 0 (by omega) (by omega) k [t] (by rw [List.drop_zero]; omega) (by rw [List.drop_zero]; simp; omega)
    rw [List.drop_zero] at this
    rw [show (0 : Int) = ((0 : Nat) : Int) from rfl, show ([⟨t.f0, t.f1, t.f2, t.f3⟩] : List S25) = [t] from by cases t; rfl, this, partsT_eq]
    rfl
theorem refParts_L {v : Value} {t : S25} (w : World) (hn : nT t ≤ 1000000000) (h : IsT w v t) : L_ 13 #[v] w (partsT t) := by
  obtain ⟨A, c, rfl, hl, hC⟩ := h
  exact (legateref08_Parts.calls (cT t) t.f0 t.f1 t.f2 (fun k => k < w.heap.size) A c t.f3 _ w (Kd.V_mk hl (Kd.C_F heap25 hC)) (rParts _ t (Nat.le_refl _) hn _ (Nat.le_refl _))).mono fun _ _ ⟨v, he, hR, hb⟩ => ⟨_, he, isL_N hR, hb⟩

theorem rNames (t : S25) (hn : t.f3.length ≤ 1000000000) : legateref08_Names.f (t.f3.length + 2) t.f0 t.f1 t.f2 t.f3 = some (namesOf t, isRow t) := by
  rw [legateref08_Names.f]
  by_cases h3 : t.f0 = 3
  · rw [if_pos h3]
    have key : ∀ (j i : Nat), t.f3.length - i = j → i ≤ t.f3.length → ∀ (k : Nat), j + 1 ≤ k → ((t.f3.take i).any fun x => x.f0 != 0) = false →
        legateref08_Names.l0 k ((t.f3.take i).map (·.f1)) i t.f0 t.f1 t.f2 t.f3 = some (namesOf t, isRow t) := by
      intro j
      induction j with
      | zero =>
        intro i hj hi k hk ha
        obtain rfl : i = t.f3.length := by omega
        obtain ⟨k, rfl⟩ : ∃ k', k = k' + 1 := ⟨k - 1, by omega⟩
        rw [List.take_length] at ha ⊢
        have hr : isRow t = true := by simp [isRow, h3, ha]
        rw [legateref08_Names.l0, if_neg (by omega), hr, namesOf_yes hr]
      | succ j ihj =>
        intro i hj hi k hk ha
        have hlt : i < t.f3.length := by omega
        obtain ⟨k, rfl⟩ : ∃ k', k = k' + 1 := ⟨k - 1, by omega⟩
        rw [legateref08_Names.l0, if_pos (by omega), if_pos (by omega), rd_bang, getElem!_pos t.f3 i hlt]
        by_cases h0 : t.f3[i].f0 = 0
        · rw [if_pos h0, if_pos (by simp; omega), IntWalk.wrap64_in _ (by omega), show ((i : Int) + 1) = ((i + 1 : Nat) : Int) from by omega]
          have := ihj (i + 1) (by omega) (by omega) k (by omega) (by rw [List.take_succ_eq_append_getElem hlt, List.any_append, ha]; simp [h0])
          rw [List.take_succ_eq_append_getElem hlt, List.map_append] at this
          exact this
        · have hr : isRow t = false := by
            have : (t.f3.any fun x => x.f0 != 0) = true := List.any_eq_true.2 ⟨t.f3[i], List.getElem_mem hlt, by simp [h0]⟩
            simp [isRow, this]
          rw [if_neg h0, hr, namesOf_no hr]
    exact key t.f3.length 0 (by omega) (by omega) _ (by omega) (by simp)
  · have hr : isRow t = false := by simp [isRow, h3]
    rw [if_neg h3, hr, namesOf_no hr]
theorem refNames_V {v : Value} {t : S25} (w : World) (hn : t.f3.length ≤ 1000000000) (h : IsT w v t) : Calls Tryd.prog 16 #[v] w fun e w' => ∃ A c, e = .returned (.tuple #[.slice A (namesOf t).length c, .bool (isRow t)]) ∧ (namesOf t).length ≤ c ∧ Kd.C Kd.string w' A (namesOf t).length (namesOf t) ∧ Below w.heap.size w w' := by
  obtain ⟨A, c, rfl, hl, hC⟩ := h
  refine (legateref08_Names.calls _ t.f0 t.f1 t.f2 A c t.f3 _ _ w hC hl (rNames t hn)).mono ?_
  rintro e w' ⟨v, rfl, hR, hb⟩
  obtain ⟨B, d, rfl, hl2, hC2⟩ := Kd.R_reads hR
  exact ⟨B, d, rfl, hl2, hC2, hb⟩
end Go.Proofs.YtlhfekhmfeafbaaDoor.P
namespace Go.Proofs.YtlhfekhmfeafbaaDoor.P
set_option linter.unusedSimpArgs false
open Go.RowKit Go.Proofs.YtlhfekhmfeafbaaDoorW.PrintWords Go.Proofs.YtlhfekhmfeafbaaDoorW.PrintLast Go.Proofs.YtlhfekhmfeafbaaDoorW.PrintMore

def okR (c : Int) : Prop := (97 ≤ c ∧ c ≤ 122) ∨ (48 ≤ c ∧ c ≤ 57) ∨ c = 45 ∨ c = 46 ∨ c = 47
instance (c : Int) : Decidable (okR c) := by unfold okR; infer_instance
theorem okB_all : ∀ k : Fin 256, okB (k.val : Int) = decide (okR (k.val : Int)) := by decide +kernel
theorem bt_range (s : ByteArray) (i : Int) : 0 ≤ bt s i ∧ bt s i < 256 := by
  unfold bt
  split
  · rename_i h
    have := (s[i.toNat]'h).toNat_lt
    omega
  · omega
theorem okB_eq (s : ByteArray) (i : Int) : okB (bt s i) = decide (okR (bt s i)) := by
  have h := bt_range s i
  have := okB_all ⟨(bt s i).toNat, by omega⟩
  simp only [Int.toNat_of_nonneg h.1] at this
  exact this
theorem name_step (k : Nat) (s : ByteArray) (i : Int) (h0 : 0 ≤ i) (h1 : i < s.size) : legateref08_Name.l0 (k + 1) s i = if okR (bt s i) then legateref08_Name.l0 k s (wrap64 (i + 1)) else some false := by
  rw [legateref08_Name.l0, if_pos h1, if_pos h0]
  generalize bt s i = c
  generalize legateref08_Name.l0 k s (wrap64 (i + 1)) = X
  unfold okR
  by_cases e1 : 97 ≤ c <;> by_cases e2 : c ≤ 122 <;> by_cases e3 : 48 ≤ c <;> by_cases e4 : c ≤ 57 <;> by_cases e5 : c = 45 <;> by_cases e6 : c = 46 <;> by_cases e7 : c = 47 <;> simp only [e1, e2, e3, e4, e5, e6, e7, ge_iff_le, if_true, if_false, true_and, false_and, and_true, and_false, and_self, or_false, or_true, false_or, true_or, or_self] <;> (try omega) <;> simp
theorem rName (s : ByteArray) (hs : s.size ≤ 1000000000) : legateref08_Name.f (s.size + 2) s = some (nameB s) := by
  rw [legateref08_Name.f]
  have key : ∀ (j i : Nat), s.size - i = j → i ≤ s.size → ∀ k, j + 1 ≤ k → allB s i = true → legateref08_Name.l0 k s i = some (nameB s) := by
    intro j
    induction j with
    | zero =>
      intro i hj hi k hk ha
      obtain rfl : i = s.size := by omega
      obtain ⟨k, rfl⟩ : ∃ k', k = k' + 1 := ⟨k - 1, by omega⟩
      rw [legateref08_Name.l0, if_neg (by omega)]
      unfold nameB
      rw [ha]
      by_cases h1 : (s.size : Int) ≥ 1
      · rw [if_pos h1]
        have : decide (1 ≤ (s.size : Int)) = true := decide_eq_true h1
        rw [this]; rfl
      · rw [if_neg h1]
        have : decide (1 ≤ (s.size : Int)) = false := decide_eq_false h1
        rw [this]; rfl
    | succ j ihj =>
      intro i hj hi k hk ha
      obtain ⟨k, rfl⟩ : ∃ k', k = k' + 1 := ⟨k - 1, by omega⟩
      rw [name_step k s i (by omega) (by omega)]
      have he := okB_eq s i
      by_cases ho : okR (bt s i)
      · rw [if_pos ho, IntWalk.wrap64_in _ (by omega), show ((i : Int) + 1) = ((i + 1 : Nat) : Int) from by omega]
        refine ihj (i + 1) (by omega) (by omega) k (by omega) ?_
        rw [allB, ha, he]; simp [ho]
      · rw [if_neg ho]
        have : allB s s.size = false := allB_false s i (by rw [ha, he]; simp [ho]) _ (by omega)
        unfold nameB
        rw [this]; rfl
  exact key s.size 0 (by omega) (by omega) _ (by omega) rfl
theorem refName_V (s : ByteArray) (w : World) (hs : s.size ≤ 1000000000) : V_ 24 #[.string s] w (.bool (nameB s)) :=
  (legateref08_Name.calls _ s _ w (rName s hs)).mono fun _ _ ⟨he, hd⟩ => ⟨he, by obtain ⟨m, rfl⟩ := hd; exact pw_below_drewN (Below.refl _ _) m⟩
end Go.Proofs.YtlhfekhmfeafbaaDoor.P
namespace Go.Proofs.YtlhfekhmfeafbaaDoor.P
open Go.RowKit Go.Proofs.YtlhfekhmfeafbaaDoorW.PrintWords Go.Proofs.YtlhfekhmfeafbaaDoorW.PrintLast Go.Proofs.YtlhfekhmfeafbaaDoorW.PrintMore

theorem rName_up (s : ByteArray) (hs : s.size ≤ 1000000000) : ∀ m, legateref08_Name.f (s.size + 2 + m) s = some (nameB s)
  | 0 => rName s hs
  | m + 1 => legateref08_Name.mono s (s.size + 2 + m) _ (rName_up s hs m)

set_option maxHeartbeats 1000000 in
theorem valid_shape (k : Nat) (a : Int) (s : ByteArray) (n : Int) (l : List S25) (d : Int) (hs : s.size ≤ 1000000000) (hk : s.size + 2 ≤ k) :
    legateref08_valid.f (k + 1) a s n l d = legateref08_valid.j0 k d (shapeB ⟨a, s, n, l⟩) a s n l := by
  have h1 : legateref08_Name.f k s = some (nameB s) := by
    have := rName_up s hs (k - (s.size + 2))
    rwa [show s.size + 2 + (k - (s.size + 2)) = k from by omega] at this
  have h2 : term_Name.f s = some (nameB s) := by rw [term_Name.f, if_pos (by omega)]
  unfold shapeB
  rw [legateref08_valid.f, term_shape.f, h1, h2]
  simp only [Option.bind_some]
  generalize nameB s = N
  generalize s.toList = T
  by_cases e0 : a = 0
  · subst e0
    by_cases hN : N = true <;> by_cases hn : n = 0 <;> simp [hN, hn]
  by_cases e1 : a = 1
  · subst e1
    by_cases hT : T = [] <;> simp [hT]
  by_cases e2 : a = 2
  · subst e2
    by_cases hT : T = [] <;> by_cases hN : N = true <;> by_cases hn : n ≥ 1 <;> simp [hT, hN, hn]
  by_cases e3 : a = 3
  · subst e3
    by_cases hT : T = [] <;> by_cases hn : n = 0 <;> simp [hT, hn]
  by_cases e4 : a = 4
  · subst e4
    by_cases hT : T = [] <;> by_cases hn : 1 ≤ n <;> by_cases hm : n ≤ 255 <;> by_cases hl : (l.length : Int) = 2 <;> simp [hT, hn, hm, hl]
  by_cases e5 : a = 5
  · subst e5
    by_cases hT : T = [] <;> by_cases hn : 1 ≤ n <;> by_cases hm : n ≤ 255 <;> by_cases hl : (l.length : Int) = 2 <;> simp [hT, hn, hm, hl]
  · simp [e0, e1, e2, e3, e4, e5]

theorem rValid (n : Nat) : ∀ (t : S25) (d : Int), nT t ≤ n → nT t ≤ 1000000000 → 0 ≤ d → d ≤ 1000000000 → ∀ k, cT t ≤ k → legateref08_valid.f k t.f0 t.f1 t.f2 t.f3 d = some (vT t d) := by
  induction n with
  | zero => intro t d h; rw [nT_eq] at h; omega
  | succ n ih =>
    intro t d h hb hd0 hd k hk
    have h0 := h
    rw [nT_eq] at h0
    have hb0 := hb
    rw [nT_eq] at hb0
    have hll := nL_len t.f3
    rw [cT_eq] at hk
    have hcl := cL_pos t.f3
    obtain ⟨k, rfl⟩ : ∃ k', k = k' + 1 + 1 + 1 := ⟨k - 3, by omega⟩
    rw [valid_shape (k + 1 + 1) _ _ _ _ _ (by omega) (by omega), show (⟨t.f0, t.f1, t.f2, t.f3⟩ : S25) = t from by cases t; rfl]
    rw [legateref08_valid.j0, vT_eq]
    by_cases h16 : d > 16
    · rw [if_pos h16, legateref08_valid.j1, if_pos rfl]
      have : ¬ d ≤ 16 := by omega
      simp [this]
    · rw [if_neg h16, legateref08_valid.j1]
      have hd16 : d ≤ 16 := by omega
      cases hs : shapeB t with
      | false => simp
      | true =>
        rw [if_neg (by simp)]
        simp only [hd16, decide_true, Bool.true_and]
        have key : ∀ (j i : Nat), t.f3.length - i = j → i ≤ t.f3.length → ∀ (k : Nat), cL (t.f3.drop i) ≤ k → legateref08_valid.l0 k d i t.f0 t.f1 t.f2 t.f3 = some (vL (t.f3.drop i) (d + 1)) := by
          intro j
          induction j with
          | zero =>
            intro i hj hi k hk
            obtain rfl : i = t.f3.length := by omega
            obtain ⟨k, rfl⟩ : ∃ k', k = k' + 1 := ⟨k - 1, by have := cL_pos (t.f3.drop t.f3.length); omega⟩
            rw [legateref08_valid.l0, if_neg (by omega), List.drop_length, vL]
          | succ j ihj =>
            intro i hj hi k hk
            have hlt : i < t.f3.length := by omega
            rw [cL_drop _ _ hlt] at hk
            obtain ⟨k, rfl⟩ : ∃ k', k = k' + 1 := ⟨k - 1, by omega⟩
            have hn := nL_at t.f3 i hlt
            have hc := ih t.f3[i]! (d + 1) (by omega) (by omega) (by omega) (by omega) k (by omega)
            rw [legateref08_valid.l0, if_pos (by omega), if_pos (by omega), rd_bang, IntWalk.wrap64_in (d + 1) (by omega), hc]
            simp only [Option.bind_some]
            rw [IntWalk.wrap64_in _ (by omega), show ((i : Int) + 1) = ((i + 1 : Nat) : Int) from by omega, ihj (i + 1) (by omega) (by omega) k (by omega)]
            rw [List.drop_eq_getElem_cons hlt, vL, ← getElem!_pos t.f3 i hlt]
            cases vT t.f3[i]! (d + 1) <;> rfl
        have := key t.f3.length 0 (by omega) (by omega) k (by rw [List.drop_zero]; omega)
        rw [List.drop_zero] at this
        rw [show (0 : Int) = ((0 : Nat) : Int) from rfl, this]
theorem refValid_V {v : Value} {t : S25} (w : World) (hn : nT t ≤ 1000000000) (h : IsT w v t) : V_ 17 #[v] w (.bool (vT t 0)) := by
  obtain ⟨A, c, rfl, hl, hC⟩ := h
  exact (legateref08_Valid.calls (cT t) t.f0 t.f1 t.f2 A c t.f3 _ w hC hl (by rw [legateref08_Valid.f, rValid _ t 0 (Nat.le_refl _) hn (by omega) (by omega) _ (Nat.le_refl _)]; rfl)).mono fun _ _ ⟨he, hb⟩ => ⟨he, hb⟩
end Go.Proofs.YtlhfekhmfeafbaaDoor.P
namespace Go.Proofs.YtlhfekhmfeafbaaDoor.P
open Go.RowKit Go.Proofs.YtlhfekhmfeafbaaDoorW.PrintWords Go.Proofs.YtlhfekhmfeafbaaDoorW.PrintLast Go.Proofs.YtlhfekhmfeafbaaDoorW.PrintMore

theorem bytes_app (l m : List UInt8) : (⟨l.toArray⟩ : ByteArray) ++ ⟨m.toArray⟩ = ⟨(l ++ m).toArray⟩ := by
  apply ByteArray.ext
  simp
theorem digit_one (u : Nat) (_h : u ≤ 9223372036854775808) : strOfNums [(wrap64 (48 + (Int.tmod (u : Int) 10))) % 256] = ⟨[UInt8.ofNat (48 + u % 10)].toArray⟩ := by
  have h1 : Int.tmod (u : Int) 10 = ((u % 10 : Nat) : Int) := rfl
  rw [h1, IntWalk.wrap64_in _ (by omega)]
  have h2 : ((48 : Int) + ((u % 10 : Nat) : Int)) % 256 = ((48 + u % 10 : Nat) : Int) := by omega
  rw [h2]
  rfl
theorem dig_loop : ∀ (m u : Nat) (s : List UInt8) (k : Nat), u < 10 ^ m → u ≤ 9223372036854775808 → 1 ≤ u → m + 1 ≤ k → s.length + m ≤ 1000 →
    legateref08_Digits.l0 k u ⟨s.toArray⟩ = some ⟨(Lib.decDigits u ++ s).toArray⟩
  | 0, u, s, k, h, _, h1, _, _ => by simp at h; omega
  | m + 1, u, s, k, h, hu, h1, hk, hs => by
    obtain ⟨k, rfl⟩ : ∃ k', k = k' + 1 := ⟨k - 1, by omega⟩
    rw [legateref08_Digits.l0, if_pos (by omega)]
    simp only [Option.bind_some]
    rw [digit_one u hu, bytes_app]
    have hd : Int.tdiv (u : Int) 10 = ((u / 10 : Nat) : Int) := rfl
    rw [if_pos (by show 1 + s.toArray.size ≤ _; simp; omega), hd, IntWalk.wrap64_in _ (by omega)]
    rw [Nat.pow_succ] at h
    by_cases h0 : u < 10
    · have e : u / 10 = 0 := by omega
      obtain ⟨k, rfl⟩ : ∃ k', k = k' + 1 := ⟨k - 1, by omega⟩
      rw [e, legateref08_Digits.l0, if_neg (by simp), if_neg (by rw [Lib.toList_data]; simp)]
      rw [Lib.decDigits, dif_pos h0, show u % 10 = u from by omega]
    · rw [dig_loop m (u / 10) _ k (by omega) (by omega) (by omega) (by omega) (by simp; omega)]
      rw [Lib.decDigits.eq_1 u, dif_neg h0]
      simp
theorem rDigits0 (u : Nat) (hu : u ≤ 9223372036854775808) (k : Nat) (hk : 25 ≤ k) : legateref08_Digits.l0 k u ⟨#[]⟩ = some ⟨(Lib.decDigits u).toArray⟩ := by
  by_cases h : u = 0
  · subst h
    obtain ⟨k, rfl⟩ : ∃ k', k = k' + 1 + 1 := ⟨k - 2, by omega⟩
    rw [legateref08_Digits.l0, if_neg (by simp), if_pos (by rw [Lib.toList_data])]
    have := digit_one 0 (by omega)
    simp only [Option.bind_some]
    rw [this, if_pos (by decide), legateref08_Digits.l0, if_neg (by show ¬ wrap64 0 > 0; rw [IntWalk.wrap64_in _ (by omega)]; omega), if_neg (by rw [Lib.toList_data]; decide)]
    rw [Lib.decDigits, dif_pos (by omega)]
    rfl
  · have := dig_loop 20 u [] k (by omega) hu (by omega) (by omega) (by simp)
    rw [List.append_nil] at this
    exact this
theorem rDigits (n : Int) (h : i64 n) (k : Nat) (hk : 30 ≤ k) : legateref08_Digits.f k n = some (itoaB n) := by
  obtain ⟨h0, h1⟩ := h
  obtain ⟨k, rfl⟩ : ∃ k', k = k' + 1 := ⟨k - 1, by omega⟩
  rw [legateref08_Digits.f]
  unfold itoaB Lib.itoa
  by_cases hn : n < 0
  · rw [if_pos hn, if_pos hn]
    by_cases hm : n = -9223372036854775808
    · subst hm
      rw [if_pos rfl]
      congr 1
      decide +kernel
    · rw [if_neg hm, IntWalk.wrap64_in _ (by omega)]
      obtain ⟨k, rfl⟩ : ∃ k', k = k' + 1 := ⟨k - 1, by omega⟩
      rw [legateref08_Digits.f, if_neg (by omega), show -n = ((n.natAbs : Nat) : Int) from by omega, rDigits0 n.natAbs (by omega) k (by omega)]
      simp only [Option.bind_some]
      have hsz : (Lib.decDigits n.natAbs).toArray.size ≤ 20 := by
        have := itoaB_le n ⟨h0, h1⟩
        unfold itoaB Lib.itoa at this
        rw [if_pos hn] at this
        simp [ByteArray.size] at this ⊢
        omega
      rw [if_pos (by show 1 + (Lib.decDigits n.natAbs).toArray.size ≤ _; omega)]
      congr 1
  · rw [if_neg hn, if_neg hn]
    have := rDigits0 n.toNat (by omega) k (by omega)
    rw [show ((n.toNat : Nat) : Int) = n from by omega] at this
    exact this
end Go.Proofs.YtlhfekhmfeafbaaDoor.P
namespace Go.Proofs.YtlhfekhmfeafbaaDoor.P
open Go.RowKit Go.Proofs.YtlhfekhmfeafbaaDoorW.PrintWords Go.Proofs.YtlhfekhmfeafbaaDoorW.PrintLast Go.Proofs.YtlhfekhmfeafbaaDoorW.PrintMore

theorem join_one (x : ByteArray) : joinB [x] = x := by
  unfold joinB; simp [Lib.join]
theorem join_more (x y : ByteArray) (r : List ByteArray) : joinB (x :: y :: r) = (x ++ ⟨#[32]⟩) ++ joinB (y :: r) := by
  unfold joinB
  apply ByteArray.ext
  simp [Lib.join]
theorem textL_len : ∀ l : List S25, (textL l).length = l.length
  | [] => by rw [textL]; rfl
  | x :: r => by rw [textL, List.length_cons, List.length_cons, textL_len r]

theorem join_nil0 : joinB [] = ⟨#[]⟩ := rfl
theorem empty_app (x : ByteArray) : x ++ ⟨#[]⟩ = x := by apply ByteArray.ext; simp
theorem text_drop (l : List S25) (i : Nat) (h : i < l.length) : textL (l.drop i) = textB l[i]! :: textL (l.drop (i + 1)) := by
  rw [List.drop_eq_getElem_cons h, textL, getElem!_pos l i h]
theorem sum_drop (l : List S25) (i : Nat) (h : i < l.length) : sumL (textL (l.drop i)) = sumL [textB l[i]!] + sumL (textL (l.drop (i + 1))) := by
  rw [text_drop l i h]; simp only [sumL]; try omega
theorem okL_at {l : List S25} (h : okL l) (i : Nat) (hi : i < l.length) : okT l[i]! := by
  rw [getElem!_pos l i hi]; exact okL_mem h (List.getElem_mem hi)
/-- What is still to come behind i elements. -/
def restB (l : List S25) (i : Nat) : ByteArray := if 0 < i ∧ i < l.length then ⟨#[32]⟩ ++ joinB (textL (l.drop i)) else joinB (textL (l.drop i))
theorem rest_step (l : List S25) (i : Nat) (h : i < l.length) (acc : ByteArray) :
    acc ++ restB l i = ((if 0 < i then acc ++ ⟨#[32]⟩ else acc) ++ textB l[i]!) ++ restB l (i + 1) := by
  have key : joinB (textL (l.drop i)) = textB l[i]! ++ restB l (i + 1) := by
    rw [text_drop l i h]
    unfold restB
    by_cases h2 : i + 1 < l.length
    · rw [if_pos ⟨by omega, h2⟩, text_drop l (i + 1) h2, join_more, ByteArray.append_assoc]
    · rw [if_neg (by omega), show l.drop (i + 1) = [] from List.drop_eq_nil_of_le (by omega), textL, join_one, join_nil0, empty_app]
  have e : restB l i = if 0 < i then ⟨#[32]⟩ ++ joinB (textL (l.drop i)) else joinB (textL (l.drop i)) := by
    unfold restB
    by_cases h0 : 0 < i
    · rw [if_pos ⟨h0, h⟩, if_pos h0]
    · rw [if_neg (by omega), if_neg h0]
  rw [e, key]
  split
  · rw [ByteArray.append_assoc, ByteArray.append_assoc]
  · rw [ByteArray.append_assoc]

theorem rText (n : Nat) : ∀ t : S25, nT t ≤ n → nT t ≤ 2000000 → okT t → ∀ k, cT t ≤ k → legateref08_Text.f k t.f0 t.f1 t.f2 t.f3 = some (textB t) := by
  induction n with
  | zero => intro t h; rw [nT_eq] at h; omega
  | succ n ih =>
    intro t h hb hok k hk
    have hsz := textB_le t hok
    have h0 := h
    rw [nT_eq] at h0
    have hb0 := hb
    rw [nT_eq] at hb0
    have hll := nL_len t.f3
    have hcl := cL_pos t.f3
    rw [cT_eq] at hk
    rw [okT_eq] at hok
    obtain ⟨ok0, ok2, okl⟩ := hok
    have hsl := textL_le t.f3 okl
    have hdg := itoaB_le t.f2 ok2
    obtain ⟨k, rfl⟩ : ∃ k', k = k' + 1 + 1 := ⟨k - 2, by omega⟩
    have HT : textB t = textB ⟨t.f0, t.f1, t.f2, t.f3⟩ := by cases t; rfl
    have s32 : (⟨#[32]⟩ : ByteArray).size = 1 := rfl
    rw [legateref08_Text.f, HT, textB]
    by_cases e0 : t.f0 = 0
    · rw [if_pos e0, if_pos e0]
    rw [if_neg e0, if_neg e0]
    by_cases e1 : t.f0 = 1
    · rw [if_pos e1, if_pos e1, rDigits t.f2 ok2 _ (by omega)]; rfl
    rw [if_neg e1, if_neg e1]
    by_cases e2 : t.f0 = 2
    · rw [if_pos e2, if_pos e2, if_pos (by omega), if_pos (by rw [ByteArray.size_append]; show 4 + t.f1.size + 1 ≤ _; omega), rDigits t.f2 ok2 _ (by omega)]
      simp only [Option.bind_some]
      rw [if_pos (by rw [ByteArray.size_append, ByteArray.size_append]; show 4 + t.f1.size + 1 + _ ≤ _; omega), if_pos (by rw [ByteArray.size_append, ByteArray.size_append, ByteArray.size_append]; show 4 + t.f1.size + 1 + _ + 1 ≤ _; omega)]
      rfl
    rw [if_neg e2, if_neg e2]
    by_cases e3 : t.f0 = 3
    · rw [if_pos e3, if_pos e3]
      have key : ∀ (j i : Nat), t.f3.length - i = j → i ≤ t.f3.length → ∀ (k : Nat) (acc : ByteArray), cL (t.f3.drop i) ≤ k → acc.size + sumL (textL (t.f3.drop i)) + (t.f3.length - i) ≤ 1000000000 →
          legateref08_Text.l0 k acc i t.f0 t.f1 t.f2 t.f3 = some ((acc ++ restB t.f3 i) ++ ⟨#[93]⟩) := by
        intro j
        induction j with
        | zero =>
          intro i hj hi k acc hk hle
          obtain rfl : i = t.f3.length := by omega
          obtain ⟨k, rfl⟩ : ∃ k', k = k' + 1 := ⟨k - 1, by have := cL_pos (t.f3.drop t.f3.length); omega⟩
          rw [legateref08_Text.l0, if_neg (by omega), if_pos (by omega)]
          unfold restB
          rw [if_neg (by omega), List.drop_length, textL, join_nil0, empty_app]
        | succ j ihj =>
          intro i hj hi k acc hk hle
          have hlt : i < t.f3.length := by omega
          rw [cL_drop _ _ hlt] at hk
          rw [sum_drop _ _ hlt] at hle
          simp only [sumL] at hle
          obtain ⟨k, rfl⟩ : ∃ k', k = k' + 1 := ⟨k - 1, by omega⟩
          have hn := nL_at t.f3 i hlt
          have hc := ih t.f3[i]! (by omega) (by omega) (okL_at okl i hlt) k (by omega)
          rw [rest_step t.f3 i hlt acc, legateref08_Text.l0, if_pos (by omega)]
          by_cases hi0 : 0 < i
          · rw [if_pos (by omega), if_pos (by omega), if_pos (by omega), rd_bang, hc, if_pos hi0]
            simp only [Option.bind_some]
            rw [if_pos (by rw [ByteArray.size_append, s32]; omega), IntWalk.wrap64_in _ (by omega), show ((i : Int) + 1) = ((i + 1 : Nat) : Int) from by omega]
            exact ihj (i + 1) (by omega) (by omega) k _ (by omega) (by rw [ByteArray.size_append, ByteArray.size_append, s32]; omega)
          · rw [if_neg (by omega), if_pos (by omega), rd_bang, hc, if_neg hi0]
            simp only [Option.bind_some]
            rw [if_pos (by omega), IntWalk.wrap64_in _ (by omega), show ((i : Int) + 1) = ((i + 1 : Nat) : Int) from by omega]
            exact ihj (i + 1) (by omega) (by omega) k _ (by omega) (by rw [ByteArray.size_append]; omega)
      have := key t.f3.length 0 (by omega) (by omega) (k + 1) ⟨#[91]⟩ (by rw [List.drop_zero]; omega) (by rw [List.drop_zero]; show 1 + _ + _ ≤ _; omega)
      rw [show (0 : Int) = ((0 : Nat) : Int) from rfl, this]
      unfold restB
      rw [if_neg (by omega), List.drop_zero]
    rw [if_neg e3, if_neg e3]
    have s4 : (⟨#[115, 117, 109, 40]⟩ : ByteArray).size = 4 := rfl
    have s5 : (⟨#[115, 101, 97, 108, 40]⟩ : ByteArray).size = 5 := rfl
    by_cases h2 : t.f3.length = 2
    · obtain ⟨x, y, hxy⟩ : ∃ x y, t.f3 = [x, y] := by
        rcases hh : t.f3 with _ | ⟨x, _ | ⟨y, _ | ⟨z, r⟩⟩⟩
        · rw [hh] at h2; simp at h2
        · rw [hh] at h2; simp at h2
        · exact ⟨x, y, rfl⟩
        · rw [hh] at h2; simp at h2
      have hb2 : ((t.f3.length : Int) == 2) = true := by rw [h2]; rfl
      have rd_T0 : rd_T25 t.f3 0 = x := by rw [hxy]; rfl
      have rd_T1 : rd_T25 t.f3 1 = y := by rw [hxy]; rfl
      have hcL : cL t.f3 = 100 + cT x + (100 + cT y + 100) := by rw [hxy, cL, cL, cL]
      have hnL : nL t.f3 = nT x + (nT y + 0) := by rw [hxy, nL, nL, nL]
      rw [hxy, okL, okL] at okl
      have hx := ih x (by omega) (by omega) okl.1 k (by omega)
      have hy := ih y (by omega) (by omega) okl.2.1 k (by omega)
      have hsx := textB_le x okl.1
      have hsy := textB_le y okl.2.1
      have hTL : textL t.f3 = [textB x, textB y] := by rw [hxy, textL, textL, textL]
      by_cases e4 : t.f0 = 4
      · have e5 : ¬ t.f0 = 5 := by omega
        rw [if_pos e4, hb2, legateref08_Text.j1, if_pos rfl, if_neg e5, if_pos (Or.inr e4), hTL]
        simp only [e5, if_false]
        rw [if_pos (by omega), rd_T0, hx]
        simp only [Option.bind_some]
        rw [if_pos (by omega), if_pos (by simp only [ByteArray.size_append, s5]; omega), rDigits t.f2 ok2 _ (by omega)]
        simp only [Option.bind_some]
        rw [if_pos (by simp only [ByteArray.size_append, s32, s5]; omega), if_pos (by simp only [ByteArray.size_append, s32, s5]; omega), if_pos (by omega), rd_T1, hy]
        simp only [Option.bind_some]
        rw [if_pos (by simp only [ByteArray.size_append, s32, s5]; omega), if_pos (by simp only [ByteArray.size_append, s32, s5]; omega)]
        rfl
      rw [if_neg e4]
      by_cases e5 : t.f0 = 5
      · rw [if_pos e5, hb2, legateref08_Text.j1, if_pos rfl, if_pos e5, if_pos (Or.inl e5), hTL]
        simp only [e5, if_true]
        rw [if_pos (by omega), rd_T0, hx]
        simp only [Option.bind_some]
        rw [if_pos (by omega), if_pos (by simp only [ByteArray.size_append, s4]; omega), rDigits t.f2 ok2 _ (by omega)]
        simp only [Option.bind_some]
        rw [if_pos (by simp only [ByteArray.size_append, s32, s4]; omega), if_pos (by simp only [ByteArray.size_append, s32, s4]; omega), if_pos (by omega), rd_T1, hy]
        simp only [Option.bind_some]
        rw [if_pos (by simp only [ByteArray.size_append, s32, s4]; omega), if_pos (by simp only [ByteArray.size_append, s32, s4]; omega)]
        rfl
      · rw [if_neg e5, legateref08_Text.j1, if_neg (by simp), if_neg (by omega)]
    · have hb2 : ((t.f3.length : Int) == 2) = false := beq_eq_false_iff_ne.2 (by omega)
      have hne : ∀ a b, textL t.f3 ≠ [a, b] := fun a b e => by
        have := textL_len t.f3
        rw [e] at this
        simp at this
        omega
      generalize textL t.f3 = L at hne
      rw [hb2]
      by_cases e4 : t.f0 = 4
      · rw [if_pos e4, legateref08_Text.j1, if_neg (by simp), if_pos (Or.inr e4)]
        rcases L with _ | ⟨a, _ | ⟨b, _ | ⟨c, r⟩⟩⟩ <;> first | rfl | exact absurd rfl (hne _ _)
      rw [if_neg e4]
      by_cases e5 : t.f0 = 5
      · rw [if_pos e5, legateref08_Text.j1, if_neg (by simp), if_pos (Or.inl e5)]
        rcases L with _ | ⟨a, _ | ⟨b, _ | ⟨c, r⟩⟩⟩ <;> first | rfl | exact absurd rfl (hne _ _)
      · rw [if_neg e5, legateref08_Text.j1, if_neg (by simp), if_neg (by omega)]
theorem refText_V {v : Value} {t : S25} (w : World) (hn : nT t ≤ 2000000) (hok : okT t) (h : IsT w v t) : V_ 20 #[v] w (.string (textB t)) := by
  obtain ⟨A, c, rfl, hl, hC⟩ := h
  exact (legateref08_Text.calls (cT t) t.f0 t.f1 t.f2 A c t.f3 _ w hC hl (rText _ t (Nat.le_refl _) hn hok _ (Nat.le_refl _))).mono fun _ _ ⟨he, hb⟩ => ⟨he, hb⟩
end Go.Proofs.YtlhfekhmfeafbaaDoor.P
