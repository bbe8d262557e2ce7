/- Containers as plain values, how a Go value reads as one, and slices.ContainsFunc at texts; authz.Valid answers just as the plain validA. -/
import Derived.Test.YtimommkbfbdkdaaDoorPHw
import Derived.Test.YtimommkbfbdkdaaDoorPHa
import Derived.Lib.SlBy
import Derived.Deep.RegionHeld3
namespace Go.Proofs.YtimommkbfbdkdaaDoor.P
open Go.RowKit Go.Proofs.YtimommkbfbdkdaaDoorW.PrintWords Go.Proofs.YtimommkbfbdkdaaDoorW.PrintLast Go.Proofs.YtimommkbfbdkdaaDoorW.PrintMore
set_option linter.unusedVariables false
set_option linter.unusedSimpArgs false

/-- A container. -/
structure Au where
  u : ByteArray
  g : List Int
  o : Int
  tr : List ByteArray
  s : ByteArray
  fw : Bool
  tm : Int
def zA : Au := ⟨⟨#[]⟩, [], 0, [], ⟨#[]⟩, false, 0⟩
/-- A value that reads as the container a. -/
def IsA (w : World) (v : Value) (a : Au) : Prop := ∃ A c B d, v = .agg #[.string a.u, .slice A a.g.length c, .int .i64 a.o, .slice B a.tr.length d, .string a.s, .bool a.fw, .int .i64 a.tm] ∧
  a.g.length ≤ c ∧ Kd.C (Kd.int .i64) w A a.g.length a.g ∧ a.tr.length ≤ d ∧ Kd.C Kd.string w B a.tr.length a.tr
theorem IsA.below {w w' : World} {v : Value} {a : Au} (h : IsA w v a) (hb : Below w.heap.size w w') : IsA w' v a := by
  obtain ⟨A, c, B, d, rfl, h1, h2, h3, h4⟩ := h; exact ⟨A, c, B, d, rfl, h1, Kd.C_below h2 hb, h3, Kd.C_below h4 hb⟩
def nS : List ByteArray → Nat
  | [] => 0
  | x :: r => 1 + x.size + nS r
theorem nS_mem : ∀ {l : List ByteArray} {x : ByteArray}, x ∈ l → 1 + x.size ≤ nS l
  | y :: r, x, h => by
    rw [nS]
    rcases List.mem_cons.1 h with rfl | h
    · omega
    · have := nS_mem h; omega
theorem nS_len : ∀ l : List ByteArray, l.length ≤ nS l
  | [] => Nat.le_refl _
  | x :: r => by have := nS_len r; rw [nS, List.length_cons]; omega
/-- How many letters and items a container holds. -/
def nA (a : Au) : Nat := 1 + a.u.size + a.g.length + nS a.tr + a.s.size
def validA (a : Au) : Bool := nameB a.u && (nameB a.s && (a.tr.all nameB && (decide ((a.g.length : Int) ≤ 20) && (decide ((a.tr.length : Int) ≤ 8) && ((a.o == 0 || a.o == 1) && (decide (0 ≤ a.tm) && decide (a.tm ≤ 1099511627776)))))))

theorem strs_at {w : World} {A : Option Addr} {n : Nat} {l : List ByteArray} (h : Kd.C Kd.string w A n l) (k : Nat) (hk : k < n) : ∃ ad, A = some ad ∧ w.cell? (ad.add k) = some (.string l[k]!) := by
  obtain ⟨h1, _, h3⟩ := h
  obtain ⟨ad, e, hc⟩ := h3 (by omega)
  obtain ⟨c, hl, hK, hcell⟩ := hc k l[k]! (by rw [List.getElem?_eq_getElem (by omega), getElem!_pos l k (by omega)])
  have hK' : c = [.string l[k]!] := hK
  subst hK'
  have := hcell 0 _ rfl
  exact ⟨ad, e, by simpa [Kd.string, Kd.scalar] using this⟩

/-- The closure of authz.Valid: is a text no name? -/
theorem odd_calls (s : ByteArray) (w : World) (hs : s.size ≤ 9223372036854775806) : Calls Tryd.prog 39 #[.string s] w fun e w' => e = .returned (.bool (!nameB s)) ∧ Below w.heap.size w w' := by
  have H := Aside0.mk (term_Name_calls s · hs)
  go_enter Tryd.func39, Tryd.ntmps39
  go_wp2_with fail
  refine (H.out _).mono ?_
  rintro e w1 ⟨rfl, rfl⟩
  go_wp2_with fail
  go_ret
  exact ⟨rfl, Below.refl _ _⟩

set_option maxHeartbeats 1000000 in
set_option maxRecDepth 100000 in
theorem IndexS_calls (A : Option Addr) (c : Nat) (l : List ByteArray) (w : World) (hs : nS l ≤ 1000000000) (hC : Kd.C Kd.string w A l.length l) :
    Calls Tryd.prog 57 #[.slice A l.length c, .func (.func 39) #[] #[]] w fun e w' => e = .returned (.int .i64 (Lib.idxBy (fun _ y => !nameB y) (l.take l.length) default)) ∧ Below w.heap.size w w' := by
  have HC := Aside0.mk hC
  have hN := hC.2.1
  have eg := enters_of Tryd.func39 (by kernel_rfl) rfl
  clear hC
  go_enter Tryd.func57, Tryd.ntmps57
  go_wp2_with fail
  go_loopg [5, 8] l.length (fun gg _ s8 wr => ∃ kk : Nat, kk ≤ l.length ∧ l.length - kk ≤ gg ∧ s8 = .int .i64 kk ∧ Aside0 (Below w.heap.size w wr) ∧ Aside0 (∀ j, j < kk → (!nameB l[j]!) = false))
  case atStart => exact ⟨0, Nat.zero_le _, by omega, rfl, ⟨Below.refl _ w⟩, ⟨fun j hj => absurd hj (Nat.not_lt_zero _)⟩⟩
  case round =>
    obtain ⟨kk, hkk, hg, rfl, BW, HA⟩ := hrel
    by_cases hlt : kk < l.length
    · obtain ⟨ad, e1, hx0⟩ := strs_at (Kd.C_below HC.out BW.out) kk hlt
      have hm := nS_mem (l := l) (x := l[kk]!) (by rw [getElem!_pos l kk hlt]; exact List.getElem_mem hlt)
      have hcall := odd_calls l[kk]! wr (by omega)
      cases e1
      generalize hy : l[kk]! = y at hx0 hcall hm
      have B : Aside0 (l[kk]! = y) := ⟨hy⟩
      clear hy
      cases hq : nameB y with
      | false =>
        rw [hq] at hcall
        have HQ := Aside0.mk hq
        clear hq
        go_wp2_with (go_at_call 39; refine hcall.mono ?_; rintro e w' ⟨rfl, hb'⟩)
        go_ret
        refine ⟨?_, BW.out.trans (hb'.mono BW.out.size)⟩
        rw [Lib.idxBy_hit (fun _ y => !nameB y) l l.length kk default hlt (Nat.le_refl _) (by show (!nameB l[kk]!) = true; rw [B.out, HQ.out]; rfl) HA.out]
        rfl
      | true =>
        rw [hq] at hcall
        have HQ := Aside0.mk hq
        clear hq
        go_wp2_with (go_at_call 39; refine hcall.mono ?_; rintro e w' ⟨rfl, hb'⟩)
        go_roundg (l.length - (kk + 1))
        case measure => omega
        case rel =>
          refine ⟨kk + 1, by omega, by omega, by go_num, ⟨BW.out.trans (hb'.mono BW.out.size)⟩, ⟨fun j hj => ?_⟩⟩
          by_cases e : j = kk
          · subst e
            rw [B.out, HQ.out]; rfl
          · exact HA.out j (by omega)
    · obtain rfl : kk = l.length := by omega
      go_wp2_with fail
      go_ret
      refine ⟨?_, BW.out⟩
      rw [Lib.idxBy_miss (fun _ y => !nameB y) l l.length default HA.out]
      rfl

theorem ContainsS_calls (A : Option Addr) (c : Nat) (l : List ByteArray) (w : World) (hs : nS l ≤ 1000000000) (hC : Kd.C Kd.string w A l.length l) :
    Calls Tryd.prog 41 #[.slice A l.length c, .func (.func 39) #[] #[]] w fun e w' => e = .returned (.bool (!l.all nameB)) ∧ Below w.heap.size w w' := by
  have h := IndexS_calls A c l w hs hC
  rw [show (!l.all nameB) = decide (0 ≤ Lib.idxBy (fun _ y => !nameB y) (l.take l.length) default) from by rw [Lib.idxBy_nonneg_iff, List.take_length]; simp [List.any_eq_not_all_not]]
  generalize Lib.idxBy (fun _ y => !nameB y) (l.take l.length) default = i at h ⊢
  have H := Aside0.mk h
  clear h hC
  go_enter Tryd.func41, Tryd.ntmps41
  go_wp2_with (go_at_call 57; refine H.out.mono ?_; rintro e w' ⟨rfl, hb'⟩)
  go_ret
  exact ⟨by rfl, hb'⟩

/-! Small facts on a container's box -/
theorem boxA_cells {w : World} {g : Nat} {v0 v1 v2 v3 v4 v5 v6 : Value} (h : w.heap[g]? = some (.cells #[v0, v1, v2, v3, v4, v5, v6] 25 (0, 0))) :
    w.cell? ⟨g, 0, none⟩ = some v0 ∧ w.cell? ⟨g, 1, none⟩ = some v1 ∧ w.cell? ⟨g, 2, none⟩ = some v2 ∧ w.cell? ⟨g, 3, none⟩ = some v3 ∧ w.cell? ⟨g, 4, none⟩ = some v4 ∧ w.cell? ⟨g, 5, none⟩ = some v5 ∧ w.cell? ⟨g, 6, none⟩ = some v6 :=
  ⟨(blk_cell h 0).trans rfl, (blk_cell h 1).trans rfl, (blk_cell h 2).trans rfl, (blk_cell h 3).trans rfl, (blk_cell h 4).trans rfl, (blk_cell h 5).trans rfl, (blk_cell h 6).trans rfl⟩

theorem validA_tri (a : Au) (h1 : nameB a.u = true) (h2 : nameB a.s = true) (h3 : a.tr.all nameB = true) :
    (¬ (a.g.length : Int) ≤ 20 ∧ validA a = false) ∨
    ((a.g.length : Int) ≤ 20 ∧ ¬ (a.tr.length : Int) ≤ 8 ∧ validA a = false) ∨
    ((a.g.length : Int) ≤ 20 ∧ (a.tr.length : Int) ≤ 8 ∧ (a.o == 0) = false ∧ (a.o == 1) = false ∧ validA a = false) ∨
    ((a.g.length : Int) ≤ 20 ∧ (a.tr.length : Int) ≤ 8 ∧ (a.o == 0) = true ∧ ¬ 0 ≤ a.tm ∧ validA a = false) ∨
    ((a.g.length : Int) ≤ 20 ∧ (a.tr.length : Int) ≤ 8 ∧ (a.o == 0) = true ∧ 0 ≤ a.tm ∧ ¬ a.tm ≤ 1099511627776 ∧ validA a = false) ∨
    ((a.g.length : Int) ≤ 20 ∧ (a.tr.length : Int) ≤ 8 ∧ (a.o == 0) = true ∧ 0 ≤ a.tm ∧ a.tm ≤ 1099511627776 ∧ validA a = true) ∨
    ((a.g.length : Int) ≤ 20 ∧ (a.tr.length : Int) ≤ 8 ∧ (a.o == 0) = false ∧ (a.o == 1) = true ∧ ¬ 0 ≤ a.tm ∧ validA a = false) ∨
    ((a.g.length : Int) ≤ 20 ∧ (a.tr.length : Int) ≤ 8 ∧ (a.o == 0) = false ∧ (a.o == 1) = true ∧ 0 ≤ a.tm ∧ ¬ a.tm ≤ 1099511627776 ∧ validA a = false) ∨
    ((a.g.length : Int) ≤ 20 ∧ (a.tr.length : Int) ≤ 8 ∧ (a.o == 0) = false ∧ (a.o == 1) = true ∧ 0 ≤ a.tm ∧ a.tm ≤ 1099511627776 ∧ validA a = true) := by
  have hv : validA a = (decide ((a.g.length : Int) ≤ 20) && (decide ((a.tr.length : Int) ≤ 8) && (((a.o == 0) || (a.o == 1)) && (decide (0 ≤ a.tm) && decide (a.tm ≤ 1099511627776))))) := by unfold validA; rw [h1, h2, h3]; rfl
  rw [hv]
  by_cases k1 : (a.g.length : Int) ≤ 20
  · by_cases k2 : (a.tr.length : Int) ≤ 8
    · cases k3 : (a.o == 0) <;> cases k4 : (a.o == 1) <;> by_cases k5 : 0 ≤ a.tm <;> by_cases k6 : a.tm ≤ 1099511627776 <;> simp only [k1, k2, k5, k6, decide_true, decide_false, Bool.true_and, Bool.and_true, Bool.false_and, Bool.and_false, Bool.or_true, Bool.true_or, Bool.or_false, Bool.false_or, not_true_eq_false, not_false_eq_true, true_and, and_true, false_and, and_false, or_false, false_or, true_or, or_true, reduceCtorEq]
    · simp [k1, k2]
  · simp [k1]

set_option maxHeartbeats 4000000 in
set_option maxRecDepth 100000 in
theorem Valid_calls {v : Value} {a : Au} (w : World) (hn : nA a ≤ 1000000000) (h : IsA w v a) : Calls Tryd.prog 15 #[v] w fun e w' => e = .returned (.bool (validA a)) ∧ Below w.heap.size w w' := by
  obtain ⟨A, c, B, d, rfl, h1, h2, h3, h4⟩ := h
  have hu25 := Tryd.underlying25
  unfold nA at hn
  have HA : Aside0 (∀ W, Below w.heap.size w W → Calls Tryd.prog 41 #[.slice B a.tr.length d, .func (.func 39) #[] #[]] W fun e w' => e = .returned (.bool (!a.tr.all nameB)) ∧ Below W.heap.size W w') := ⟨fun W hW => ContainsS_calls B d a.tr W (by omega) (Kd.C_below h4 hW)⟩
  have HU : Aside0 (∀ W, Calls Tryd.prog 39 #[.string a.u] W fun e w' => e = .returned (.bool (!nameB a.u)) ∧ Below W.heap.size W w') := ⟨fun W => odd_calls a.u W (by omega)⟩
  have HS : Aside0 (∀ W, Calls Tryd.prog 39 #[.string a.s] W fun e w' => e = .returned (.bool (!nameB a.s)) ∧ Below W.heap.size W w') := ⟨fun W => odd_calls a.s W (by omega)⟩
  have HV : Aside0 (validA a = (nameB a.u && (nameB a.s && (a.tr.all nameB && (decide ((a.g.length : Int) ≤ 20) && (decide ((a.tr.length : Int) ≤ 8) && ((a.o == 0 || a.o == 1) && (decide (0 ≤ a.tm) && decide (a.tm ≤ 1099511627776))))))))) := ⟨rfl⟩
  clear h1 h2 h3 h4
  cases e1 : nameB a.u with
  | false =>
    rw [e1] at HU HV
    go_enter Tryd.func15, Tryd.ntmps15
    go_wp2_with fail
    refine (HU.out _).mono ?_
    rintro e w1 ⟨rfl, b1⟩
    obtain ⟨p1, _, _⟩ := one_box b1
    go_wp2_with fail
    go_ret
    exact ⟨by rw [HV.out]; rfl, p1⟩
  | true =>
  cases e2 : nameB a.s with
  | false =>
    rw [e1, e2] at HV
    rw [e1] at HU
    rw [e2] at HS
    go_enter Tryd.func15, Tryd.ntmps15
    go_wp2_with fail
    refine (HU.out _).mono ?_
    rintro e w1 ⟨rfl, b1⟩
    obtain ⟨p1, _, q1⟩ := one_box b1
    obtain ⟨hc0, hc1, hc2, hc3, hc4, hc5, hc6⟩ := boxA_cells q1
    have P1 := Aside0.mk p1
    clear b1 p1 q1
    go_wp2_with fail
    refine (HS.out _).mono ?_
    rintro e w2 ⟨rfl, b2⟩
    have P2 := Aside0.mk (P1.out.trans (b2.mono P1.out.size))
    clear hc0 hc1 hc2 hc3 hc4 hc5 hc6 b2
    go_wp2_with fail
    go_ret
    exact ⟨by rw [HV.out]; rfl, P2.out⟩
  | true =>
  rw [e1, e2] at HV
  rw [e1] at HU
  rw [e2] at HS
  go_enter Tryd.func15, Tryd.ntmps15
  go_wp2_with fail
  refine (HU.out _).mono ?_
  rintro e w1 ⟨rfl, b1⟩
  obtain ⟨p1, _, q1⟩ := one_box b1
  obtain ⟨hc0, hc1, hc2, hc3, hc4, hc5, hc6⟩ := boxA_cells q1
  have P1 := Aside0.mk p1
  have Q1 := Aside0.mk q1
  clear b1 p1 q1
  go_wp2_with fail
  refine (HS.out _).mono ?_
  rintro e w2 ⟨rfl, b2⟩
  have P2 := Aside0.mk (P1.out.trans (b2.mono P1.out.size))
  have Q2 := Aside0.mk (blk_below Q1.out b2)
  clear hc0 hc1 hc2 hc3 hc4 hc5 hc6 b2 Q1
  obtain ⟨hc0, hc1, hc2, hc3, hc4, hc5, hc6⟩ := boxA_cells Q2.out
  go_wp2_with fail
  refine (HA.out _ P2.out).mono ?_
  rintro e w3 ⟨rfl, b3⟩
  have P3 := Aside0.mk (P2.out.trans (b3.mono P2.out.size))
  have Q3 := Aside0.mk (blk_below Q2.out b3)
  clear hc0 hc1 hc2 hc3 hc4 hc5 hc6 b3 Q2
  obtain ⟨hc0, hc1, hc2, hc3, hc4, hc5, hc6⟩ := boxA_cells Q3.out
  cases e3 : a.tr.all nameB with
  | false =>
    rw [e3] at HV
    go_wp2_with fail
    go_ret
    exact ⟨by rw [HV.out]; rfl, P3.out⟩
  | true =>
  rw [e3] at HV
  rcases validA_tri a e1 e2 e3 with ⟨k1, hx⟩ | ⟨k1, k2, hx⟩ | ⟨k1, k2, k3, k4, hx⟩ | ⟨k1, k2, k3, k5, hx⟩ | ⟨k1, k2, k3, k5, k6, hx⟩ | ⟨k1, k2, k3, k5, k6, hx⟩ | ⟨k1, k2, k3, k4, k5, hx⟩ | ⟨k1, k2, k3, k4, k5, k6, hx⟩ | ⟨k1, k2, k3, k4, k5, k6, hx⟩
  all_goals
    have HX := Aside0.mk hx
    clear hx HV
  all_goals go_wp2_with fail
  all_goals go_ret
  all_goals exact ⟨by rw [HX.out]; first | done | rfl | simp [*], P3.out⟩
end Go.Proofs.YtimommkbfbdkdaaDoor.P
