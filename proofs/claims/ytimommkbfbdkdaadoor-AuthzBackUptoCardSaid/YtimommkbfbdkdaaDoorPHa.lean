/- The Go function term.Name answers just as the plain Lean function nameB, at every text shorter than 2^63 - 1 bytes. -/
import Derived.Test.YtimommkbfbdkdaaDoorPx0
import Derived.Test.YtimommkbfbdkdaaDoorSh
namespace Go.Proofs.YtimommkbfbdkdaaDoor.P
open Go.RowKit Go.Proofs.YtimommkbfbdkdaaDoorW.PrintWords Go.Proofs.YtimommkbfbdkdaaDoorW.PrintLast Go.Proofs.YtimommkbfbdkdaaDoorW.PrintMore

def okB (c : Int) : Bool := (decide (97 ≤ c) && decide (c ≤ 122)) || (decide (48 ≤ c) && decide (c ≤ 57)) || decide (0 ≤ Lib.indexByte [45, 46, 47] c.toNat.toUInt8)

set_option maxRecDepth 100000 in
theorem term_Name1_calls (c : Int) (w : World) : Calls Tryd.prog 55 #[.int .u8 c] w fun e w' => e = .returned (.bool (okB c)) ∧ w = w' := by
  by_cases h1 : 97 ≤ c <;> by_cases h2 : c ≤ 122 <;> by_cases h3 : 48 ≤ c <;> by_cases h4 : c ≤ 57
  all_goals
    go_enter Tryd.func55, Tryd.ntmps55
    go_wp2_with (go_at_call 56; refine (Tryd.strings_IndexByte _ _ _).mono ?_; rintro e w' ⟨rfl, rfl⟩)
    go_ret
    exact ⟨by first | (simp [okB, h1, h2, h3, h4]; done) | (simp [okB]; omega), rfl⟩

def allB (s : ByteArray) : Nat → Bool
  | 0 => true
  | k + 1 => allB s k && okB (bt s k)
def nameB (s : ByteArray) : Bool := allB s s.size && (decide (1 ≤ (s.size : Int)) && decide ((s.size : Int) ≤ 40))
theorem allB_false (s : ByteArray) (k : Nat) (h : (allB s k && okB (bt s k)) = false) : ∀ n, k < n → allB s n = false
  | 0, hn => by omega
  | n + 1, hn => by
    rcases Nat.lt_or_ge k n with h1 | h1
    · rw [allB, allB_false s k h n h1]; rfl
    · obtain rfl : k = n := by omega
      rw [allB, h]

set_option maxRecDepth 100000 in
theorem term_Name_calls (s : ByteArray) (w : World) (hs : s.size ≤ 9223372036854775806) : Calls Tryd.prog 40 #[.string s] w fun e w' => e = .returned (.bool (nameB s)) ∧ w = w' := by
  go_enter Tryd.func40, Tryd.ntmps40
  go_wp2_with fail
  go_loop [4, 7] (fun _ i => ∃ k : Nat, k ≤ s.size ∧ i = .int .i64 k ∧ Aside0 (allB s k = true)) (fun _ i => s.size - (intOf i).toNat)
  case atStart => exact ⟨0, Nat.zero_le _, rfl, ⟨rfl⟩⟩
  case round =>
    obtain ⟨k, hk, rfl, hA⟩ := hrel
    by_cases hlt : k < s.size
    · have hx : ∀ h : k < s.size, ((s[k]'h).toNat : Int) = bt s k := fun h => by simpa using bt_at s k h
      cases hb : okB (bt s k) with
      | true =>
        go_wp2_with (go_at_call 55; refine (term_Name1_calls _ _).mono ?_; rintro e w' ⟨rfl, rfl⟩)
        go_round
        case rel => exact ⟨k + 1, by omega, by go_num, ⟨by rw [allB, hA.out, hb]; rfl⟩⟩
        case measure => simp [intOf]; omega
      | false =>
        have HF := Aside0.mk (allB_false s k (by rw [hb]; simp) s.size hlt)
        go_wp2_with (go_at_call 55; refine (term_Name1_calls _ _).mono ?_; rintro e w' ⟨rfl, rfl⟩)
        go_ret
        exact ⟨by rw [nameB, HF.out]; rfl, rfl⟩
    · obtain rfl : k = s.size := by omega
      have HA := hA.out
      clear hA
      by_cases h1 : 1 ≤ (s.size : Int) <;> by_cases h2 : (s.size : Int) ≤ 40
      all_goals
        have HF : nameB s = (decide (1 ≤ (s.size : Int)) && decide ((s.size : Int) ≤ 40)) := by rw [nameB, HA]; rfl
        have HG : nameB s = _ := HF.trans (by first | rw [decide_eq_true h1, decide_eq_true h2] | rw [decide_eq_true h1, decide_eq_false h2] | rw [decide_eq_false h1, decide_eq_true h2] | rw [decide_eq_false h1, decide_eq_false h2])
        have HH := Aside0.mk HG
        clear HF HG HA
        go_wp2_with fail
        go_ret
        exact ⟨by rw [HH.out]; rfl, rfl⟩

def term_Name.f (a0 : ByteArray) : Option Bool := if a0.size ≤ 9223372036854775806 then some (nameB a0) else none
theorem term_Name.calls (a0 : ByteArray) (r : Bool) (w : World) (h : term_Name.f a0 = some r) :
    Calls Tryd.prog 40 #[.string a0] w fun e w' => e = .returned (.bool r) ∧ Drawn0 w w' := by
  unfold term_Name.f at h
  by_cases hs : a0.size ≤ 9223372036854775806
  · rw [if_pos hs] at h
    obtain rfl := Option.some.inj h
    exact (term_Name_calls a0 w hs).mono fun e w' ⟨he, hw⟩ => ⟨he, by subst hw; exact Drawn0.refl _⟩
  · rw [if_neg hs] at h; exact absurd h (by simp)
end Go.Proofs.YtimommkbfbdkdaaDoor.P
