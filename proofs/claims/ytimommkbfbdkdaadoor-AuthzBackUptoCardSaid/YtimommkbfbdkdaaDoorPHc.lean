/- The Go function term.Valid answers just as the plain Lean function vT, at every term whose texts are shorter than 2^63 - 1 bytes. -/
import Derived.Test.YtimommkbfbdkdaaDoorPHb
import Derived.Test.YtimommkbfbdkdaaDoorPHw
import Derived.Test.YtimommkbfbdkdaaDoorPx8
namespace Go.Proofs.YtimommkbfbdkdaaDoor.P
open Go.RowKit Go.Proofs.YtimommkbfbdkdaaDoorW.PrintWords Go.Proofs.YtimommkbfbdkdaaDoorW.PrintLast Go.Proofs.YtimommkbfbdkdaaDoorW.PrintMore

/-! How many terms and letters a term holds -/
mutual
def nT : S29 → Nat
  | ⟨_, b, _, l⟩ => 1 + b.size + nL l
def nL : List S29 → Nat
  | [] => 0
  | x :: r => nT x + nL r
end
theorem nT_eq (t : S29) : nT t = 1 + t.f1.size + nL t.f3 := by cases t; rw [nT]
theorem nT_mem : ∀ {l : List S29} {x : S29}, x ∈ l → nT x ≤ nL l
  | y :: r, x, h => by
    rw [nL]
    rcases List.mem_cons.1 h with rfl | h
    · omega
    · have := nT_mem h; omega

/-! Valid -/
def shapeB (t : S29) : Bool := (term_shape.f t.f0 t.f1 t.f2 t.f3).getD false
theorem shape_some (t : S29) (h : t.f1.size ≤ 9223372036854775806) : term_shape.f t.f0 t.f1 t.f2 t.f3 = some (shapeB t) := by
  have hn : term_Name.f t.f1 = some (nameB t.f1) := by rw [term_Name.f, if_pos h]
  unfold shapeB
  cases hh : term_shape.f t.f0 t.f1 t.f2 t.f3 with
  | some b => rfl
  | none =>
    exfalso
    unfold term_shape.f at hh
    rw [hn] at hh
    simp only [Option.bind_some] at hh
    repeat' (first | (cases hh; done) | omega | split at hh)
mutual
def vT : S29 → Int → Bool
  | ⟨a, b, c, l⟩, d => decide (d ≤ 16) && (shapeB ⟨a, b, c, l⟩ && vL l (d + 1))
def vL : List S29 → Int → Bool
  | [], _ => true
  | x :: r, d => vT x d && vL r d
end
theorem vT_eq (t : S29) (d : Int) : vT t d = (decide (d ≤ 16) && (shapeB t && vL t.f3 (d + 1))) := by cases t; rw [vT]
theorem vL_any (d : Int) : ∀ l : List S29, (!l.any fun x => !vT x d) = vL l d
  | [] => rfl
  | x :: r => by rw [vL, ← vL_any d r]; simp

set_option maxHeartbeats 1000000 in
set_option maxRecDepth 100000 in
theorem term_valid_calls (n : Nat) : ∀ (t : S29) (d : Int) (A : Option Addr) (c : Nat) (w : World), nT t ≤ n → n ≤ 9223372036854775806 → 0 ≤ d → d ≤ 17 → t.f3.length ≤ c → Kd.C k29 w A t.f3.length t.f3 →
    Calls Tryd.prog 50 #[.agg #[.int .i64 t.f0, .string t.f1, .int .i64 t.f2, .slice A t.f3.length c], .int .i64 d] w fun e w' => e = .returned (.bool (vT t d)) ∧ Below w.heap.size w w' := by
  induction n with
  | zero => intro t d A c w hn; rw [nT_eq] at hn; omega
  | succ n ih =>
    intro t d A c w hn hbig h0 h17 hl hC
    rw [nT_eq] at hn
    have hsh := shape_some t (by omega)
    have hu29 := Tryd.underlying29
    by_cases h16 : d ≤ 16
    · cases hs : shapeB t with
      | true =>
        rw [hs] at hsh
        have HS := Aside0.mk hsh
        have HC := Aside0.mk hC
        have HV := Aside0.mk (show vT t d = !(t.f3.any fun x => !vT x (d + 1)) by rw [vT_eq, vL_any, hs]; simp [h16])
        have HM := Aside0.mk (fun (x : S29) (hx : x ∈ t.f3) => show nT x ≤ n by have := nT_mem hx; omega)
        have HI := Aside0.mk ih
        have HT := Aside0.mk hn
        clear hsh hs hC ih hn
        go_enter Tryd.func50, Tryd.ntmps50
        go_wp2_with fail
        refine (term_shape.calls t.f0 t.f1 t.f2 A c t.f3 true _ ?hr hl HS.out).mono ?_
        case hr => exact Kd.C_below HC.out (below_alloc (below_alloc (Below.refl _ _) _) _)
        rintro e w1 ⟨rfl, hb⟩
        obtain ⟨hb0, hsz, ht1, hd1⟩ := two_boxes hb
        obtain ⟨hc0, hc1, hc2, hc3⟩ := box_cells ht1
        have HB0 := Aside0.mk hb0
        have HD1 := Aside0.mk hd1
        clear hb hb0 hd1 ht1
        go_wp2_with fail
        refine (ContainsFunc_calls 66 #[.pointer (some ⟨w.heap.size + 1, 0, none⟩)] (enters_of Tryd.func66 (by kernel_rfl) rfl) (fun x => !vT x (d + 1)) A c t.f3 w1 (Kd.C_below HC.out HB0.out) ?hp).mono ?_
        case hp =>
          intro W x A' c' hx hW hl' hC'
          have hn' := HM.out x hx
          have HC' := Aside0.mk hC'
          have HW := Aside0.mk hW
          have hdW := blk_below HD1.out hW
          have hcd : ∀ o, (W.alloc o).cell? ⟨w.heap.size + 1, 0, none⟩ = some (.int .i64 d) := fun o => (blk_cell (blk_alloc hdW o) 0).trans rfl
          have hcall := HI.out x (d + 1) A' c'
          have HK := Aside0.mk (fun (w3 : World) h => hcall w3 hn' (by omega) (by omega) (by omega) hl' h)
          clear hC' hW hdW hcall hn' HI HM HT HS HV HB0 HD1 hc0 hc1 hc2 hc3
          go_enter Tryd.func66, Tryd.ntmps66
          go_wp2_with fail
          refine (HK.out _ (Kd.C_below HC'.out (below_alloc (Below.refl _ _) _))).mono ?_
          rintro e w3 ⟨rfl, hb3⟩
          obtain ⟨h3, _, _⟩ := one_box hb3
          go_wp2_with fail
          go_ret
          exact ⟨rfl, HW.out.trans (h3.mono HW.out.size)⟩
        rintro e w2 ⟨rfl, hb2⟩
        go_wp2_with fail
        go_ret
        exact ⟨by rw [HV.out]; rfl, HB0.out.trans (hb2.mono (by omega))⟩
      | false =>
        rw [hs] at hsh
        have HS := Aside0.mk hsh
        have HC := Aside0.mk hC
        have HV := Aside0.mk (show vT t d = false by rw [vT_eq, hs]; simp)
        clear hsh hs hC ih hn
        go_enter Tryd.func50, Tryd.ntmps50
        go_wp2_with fail
        refine (term_shape.calls t.f0 t.f1 t.f2 A c t.f3 false _ ?hr hl HS.out).mono ?_
        case hr => exact Kd.C_below HC.out (below_alloc (below_alloc (Below.refl _ _) _) _)
        rintro e w1 ⟨rfl, hb⟩
        obtain ⟨hb0, _, _, _⟩ := two_boxes hb
        clear hb
        go_wp2_with fail
        go_ret
        exact ⟨by rw [HV.out]; rfl, hb0⟩
    · obtain rfl : d = 17 := by omega
      have HV := Aside0.mk (show vT t 17 = false by rw [vT_eq]; simp)
      clear hsh hC ih hn
      go_enter Tryd.func50, Tryd.ntmps50
      go_wp2_with fail
      go_ret
      exact ⟨by rw [HV.out]; rfl, below_alloc (below_alloc (Below.refl _ _) _) _⟩

theorem term_Valid_calls (t : S29) (A : Option Addr) (c : Nat) (w : World) (hn : nT t ≤ 9223372036854775806) (hl : t.f3.length ≤ c) (hC : Kd.C k29 w A t.f3.length t.f3) :
    Calls Tryd.prog 23 #[.agg #[.int .i64 t.f0, .string t.f1, .int .i64 t.f2, .slice A t.f3.length c]] w fun e w' => e = .returned (.bool (vT t 0)) ∧ Below w.heap.size w w' := by
  have hu29 := Tryd.underlying29
  have H := fun (w1 : World) h => term_valid_calls (nT t) t 0 A c w1 (Nat.le_refl _) hn (by omega) (by omega) hl h
  have HK := Aside0.mk H
  have HC := Aside0.mk hC
  clear H hC
  go_enter Tryd.func23, Tryd.ntmps23
  go_wp2_with fail
  refine (HK.out _ (Kd.C_below HC.out (below_alloc (Below.refl _ _) _))).mono ?_
  rintro e w1 ⟨rfl, hb⟩
  obtain ⟨hb0, _, _⟩ := one_box hb
  go_wp2_with fail
  go_ret
  exact ⟨rfl, hb0⟩
end Go.Proofs.YtimommkbfbdkdaaDoor.P
