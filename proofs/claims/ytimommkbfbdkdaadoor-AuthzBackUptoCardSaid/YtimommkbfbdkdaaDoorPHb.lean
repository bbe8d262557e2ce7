/- The Go function slices.ContainsFunc at lists of terms tells whether a predicate holds of any of them, whatever closure computes the predicate. -/
import Derived.Test.YtimommkbfbdkdaaDoorPx0
import Derived.Lib.SlBy
import Derived.Shelf.RegionOpenPlain
namespace Go.Proofs.YtimommkbfbdkdaaDoor.P
open Go.RowKit Go.Proofs.YtimommkbfbdkdaaDoorW.PrintWords Go.Proofs.YtimommkbfbdkdaaDoorW.PrintLast Go.Proofs.YtimommkbfbdkdaaDoorW.PrintMore

instance : Inhabited S29 := ⟨z29⟩
theorem rd_bang (l : List S29) (k : Nat) : rd_T29 l (k : Int) = l[k]! := by simp [rd_T29, List.getD_eq_getElem?_getD, getElem!_def]; cases l[k]? <;> rfl

/-- What is asked of a predicate's closure: at each element, in each world in which all that lay in w lies as it lay. -/
def PredT (g : Nat) (lb : Array Value) (p : S29 → Bool) (l : List S29) (w : World) : Prop :=
  ∀ (W : World) (x : S29) (A : Option Addr) (c : Nat), x ∈ l → Below w.heap.size w W → x.f3.length ≤ c → Kd.C k29 W A x.f3.length x.f3 →
    Calls Tryd.prog g (#[.agg #[.int .i64 x.f0, .string x.f1, .int .i64 x.f2, .slice A x.f3.length c]] ++ lb) W fun e w' => e = .returned (.bool (p x)) ∧ Below w.heap.size w w'

set_option maxHeartbeats 1000000 in
set_option maxRecDepth 100000 in
theorem IndexFunc_calls (g : Nat) (lb : Array Value) (eg : ∀ args w, (callFunc g args).run Tryd.prog w = .ok (.enter g args) w) (p : S29 → Bool) (A : Option Addr) (c : Nat) (l : List S29) (w : World)
    (hC : Kd.C k29 w A l.length l) (hp : PredT g lb p l w) :
    Calls Tryd.prog 73 #[.slice A l.length c, .func (.func g) #[] lb] w fun e w' => e = .returned (.int .i64 (Lib.idxBy (fun _ y => p y) (l.take l.length) default)) ∧ Below w.heap.size w w' := by
  have hu29 := Tryd.underlying29
  have HC := Aside0.mk hC
  have HP := Aside0.mk hp
  have HN := Aside0.mk hC.2.1
  have hN := hC.2.1
  clear hC hp
  go_enter Tryd.func73, Tryd.ntmps73
  go_wp2_with fail
  go_loopg [5, 8] l.length (fun gg _ s8 wr => ∃ kk : Nat, kk ≤ l.length ∧ l.length - kk ≤ gg ∧ s8 = .int .i64 kk ∧ Aside0 (Below w.heap.size w wr) ∧ Aside0 (∀ j, j < kk → p l[j]! = false))
  case atStart => exact ⟨0, Nat.zero_le _, by omega, rfl, ⟨Below.refl _ w⟩, ⟨fun j hj => absurd hj (Nat.not_lt_zero _)⟩⟩
  case round =>
    obtain ⟨kk, hkk, hg, rfl, BW, HA⟩ := hrel
    by_cases hlt : kk < l.length
    · obtain ⟨ad, A3, c3, e1, hx0, hx1, hx2, hx3, hl3, hi3⟩ := at_T29 HC.out (kk : Int) (by omega) (by omega)
      have hcall := HP.out wr (rd_T29 l (kk : Int)) A3 c3 (by rw [rd_bang, getElem!_pos l kk hlt]; exact List.getElem_mem hlt) BW.out hl3 (Kd.C_below hi3 BW.out)
      cases e1
      clear HP hl3 hi3
      replace hx0 := (BW.out.cell (World.block_lt_of_cell? w _ hx0)).trans hx0
      replace hx1 := (BW.out.cell (World.block_lt_of_cell? w _ hx1)).trans hx1
      replace hx2 := (BW.out.cell (World.block_lt_of_cell? w _ hx2)).trans hx2
      replace hx3 := (BW.out.cell (World.block_lt_of_cell? w _ hx3)).trans hx3
      generalize hy : rd_T29 l (kk : Int) = y at hx0 hx1 hx2 hx3 hcall
      have B : Aside0 (l[kk]! = y) := ⟨by rw [← rd_bang]; exact hy⟩
      clear hy
      simp only [Int.toNat_natCast] at hx0 hx1 hx2 hx3
      cases hq : p y with
      | true =>
        rw [hq] at hcall
        have HQ := Aside0.mk hq
        clear hq
        go_wp2_with (go_at_fn g; refine hcall.mono ?_; rintro e w' ⟨rfl, hb'⟩)
        go_ret
        refine ⟨?_, hb'⟩
        rw [Lib.idxBy_hit (fun _ y => p y) l l.length kk default hlt (Nat.le_refl _) (by show p l[kk]! = true; rw [B.out]; exact HQ.out) HA.out]
        rfl
      | false =>
        rw [hq] at hcall
        have HQ := Aside0.mk hq
        clear hq
        go_wp2_with (go_at_fn g; refine hcall.mono ?_; rintro e w' ⟨rfl, hb'⟩)
        go_roundg (l.length - (kk + 1))
        case measure => omega
        case rel =>
          refine ⟨kk + 1, by omega, by omega, by go_num, ⟨hb'⟩, ⟨fun j hj => ?_⟩⟩
          by_cases e : j = kk
          · subst e
            rw [B.out]; exact HQ.out
          · exact HA.out j (by omega)
    · obtain rfl : kk = l.length := by omega
      clear HP
      go_wp2_with fail
      go_ret
      refine ⟨?_, BW.out⟩
      rw [Lib.idxBy_miss (fun _ y => p y) l l.length default HA.out]
      rfl

theorem ContainsFunc_calls (g : Nat) (lb : Array Value) (eg : ∀ args w, (callFunc g args).run Tryd.prog w = .ok (.enter g args) w) (p : S29 → Bool) (A : Option Addr) (c : Nat) (l : List S29) (w : World)
    (hC : Kd.C k29 w A l.length l) (hp : PredT g lb p l w) :
    Calls Tryd.prog 65 #[.slice A l.length c, .func (.func g) #[] lb] w fun e w' => e = .returned (.bool (l.any p)) ∧ Below w.heap.size w w' := by
  have h := IndexFunc_calls g lb eg p A c l w hC hp
  rw [show l.any p = decide (0 ≤ Lib.idxBy (fun _ y => p y) (l.take l.length) default) from by rw [Lib.idxBy_nonneg_iff, List.take_length]]
  generalize Lib.idxBy (fun _ y => p y) (l.take l.length) default = i at h ⊢
  have H := Aside0.mk h
  clear h hp hC
  go_enter Tryd.func65, Tryd.ntmps65
  go_wp2_with (go_at_call 73; refine H.out.mono ?_; rintro e w' ⟨rfl, hb'⟩)
  go_ret
  exact ⟨by rfl, hb'⟩
end Go.Proofs.YtimommkbfbdkdaaDoor.P
