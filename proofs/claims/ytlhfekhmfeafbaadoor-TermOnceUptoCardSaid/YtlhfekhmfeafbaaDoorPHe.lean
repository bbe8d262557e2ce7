/- The Go function term.Order answers just as the plain Lean function oT, at every two terms. -/
import Derived.Test.YtlhfekhmfeafbaaDoorPHd
namespace Go.Proofs.YtlhfekhmfeafbaaDoor.P
open Go.RowKit Go.Proofs.YtlhfekhmfeafbaaDoorW.PrintWords Go.Proofs.YtlhfekhmfeafbaaDoorW.PrintLast Go.Proofs.YtlhfekhmfeafbaaDoorW.PrintMore

def cmpI (a b : Int) : Int := if a < b then -1 else if a > b then 1 else 0
def cmpS (a b : ByteArray) : Int := Lib.compareBytes a.data.toList b.data.toList
def or4 (a b c d : Int) : Int := if a = 0 then if b = 0 then if c = 0 then d else c else b else a
mutual
def oT : S25 → S25 → Int
  | ⟨a, b, c, l⟩, t => or4 (cmpI a t.f0) (cmpS b t.f1) (cmpI c t.f2) (oL l t.f3)
def oL : List S25 → List S25 → Int
  | [], [] => 0
  | [], _ :: _ => -1
  | _ :: _, [] => 1
  | x :: r, y :: s => if oT x y = 0 then oL r s else oT x y
end
theorem oT_eq (t u : S25) : oT t u = or4 (cmpI t.f0 u.f0) (cmpS t.f1 u.f1) (cmpI t.f2 u.f2) (oL t.f3 u.f3) := by cases t; rw [oT]
theorem oL_cmpL : ∀ l m : List S25, oL l m = cmpL oT l m
  | [], [] => by rw [oL, cmpL]
  | [], _ :: _ => by rw [oL, cmpL]
  | _ :: _, [] => by rw [oL, cmpL]
  | x :: r, y :: s => by rw [oL, cmpL, oL_cmpL r s]

theorem cmpKind_some (a b : Int) : api_TermKind_57.f a b = some (cmpI a b) := by
  simp only [api_TermKind_57.f, api_TermKind_70.f, Option.bind_some, bne_self_eq_false, Bool.false_eq_true, if_false, cmpI]
  split
  · rfl
  · split <;> rfl
theorem cmpInt_some (a b : Int) : cmp_Compare_int.f a b = some (cmpI a b) := by
  simp only [cmp_Compare_int.f, cmp_isNaN_int.f, Option.bind_some, bne_self_eq_false, Bool.false_eq_true, if_false, cmpI]
  split
  · rfl
  · split <;> rfl
theorem or4_some (a b c d : Int) : cmp_Or_int.f 6 [a, b, c, d] = some (or4 a b c d) := by
  have w1 : wrap64 1 = 1 := by unfold wrap64; omega
  have w2 : wrap64 2 = 2 := by unfold wrap64; omega
  have w3 : wrap64 3 = 3 := by unfold wrap64; omega
  have w4 : wrap64 4 = 4 := by unfold wrap64; omega
  unfold or4 cmp_Or_int.f
  by_cases ha : a = 0
  · subst ha
    by_cases hb : b = 0
    · subst hb
      by_cases hc : c = 0
      · subst hc
        by_cases hd : d = 0
        · subst hd; simp [cmp_Or_int.l0, rd, w1, w2, w3, w4]
        · simp [cmp_Or_int.l0, rd, w1, w2, w3, hd]
      · simp [cmp_Or_int.l0, rd, w1, w2, hc]
    · simp [cmp_Or_int.l0, rd, w1, hb]
  · simp [cmp_Or_int.l0, rd, ha]

theorem C_ints4 {W : World} {g e : Nat} {a b c d : Int} (h : W.heap[g]? = some (.cells #[.int .i64 a, .int .i64 b, .int .i64 c, .int .i64 d] e (0, 0))) : Kd.C (Kd.int .i64) W (some ⟨g, 0, none⟩) [a, b, c, d].length [a, b, c, d] := by
  refine ⟨rfl, by simp, fun _ => ⟨_, rfl, fun j p hp => ⟨[.int .i64 p], rfl, rfl, fun i u hu => ?_⟩⟩⟩
  have hi : i = 0 := by
    rcases i with _ | i
    · rfl
    · simp at hu
  subst hi
  have hj : j < 4 := by have := (List.getElem?_eq_some_iff.1 hp).1; simpa using this
  rw [show j * (Kd.int .i64).sz + 0 = j from by show j * 1 + 0 = j; omega, add_plain, blk_cell h]
  rcases j with _ | _ | _ | _ | j
  · simp at hp hu; subst hp; subst hu; rfl
  · simp at hp hu; subst hp; subst hu; rfl
  · simp at hp hu; subst hp; subst hu; rfl
  · simp at hp hu; subst hp; subst hu; rfl
  · omega

set_option maxHeartbeats 2000000 in
set_option maxRecDepth 100000 in
theorem term_Order_calls (n : Nat) : ∀ (t u : S25) (A : Option Addr) (c : Nat) (B : Option Addr) (d : Nat) (w : World), nT t ≤ n → t.f3.length ≤ c → Kd.C k25 w A t.f3.length t.f3 → u.f3.length ≤ d → Kd.C k25 w B u.f3.length u.f3 →
    Calls Tryd.prog 39 #[.agg #[.int .i64 t.f0, .string t.f1, .int .i64 t.f2, .slice A t.f3.length c], .agg #[.int .i64 u.f0, .string u.f1, .int .i64 u.f2, .slice B u.f3.length d]] w
      fun e w' => e = .returned (.int .i64 (oT t u)) ∧ Below w.heap.size w w' := by
  induction n with
  | zero => intro t u A c B d w hn; rw [nT_eq] at hn; omega
  | succ n ih =>
    intro t u A c B d w hn hl hC hl2 hD
    rw [nT_eq] at hn
    have hu25 := Tryd.underlying25
    have HM := Aside0.mk (fun (x : S25) (hx : x ∈ t.f3) => show nT x ≤ n by have := nT_mem hx; omega)
    have HI := Aside0.mk ih
    have HC := Aside0.mk hC
    have HD := Aside0.mk hD
    have HO := Aside0.mk (oT_eq t u)
    have HL := Aside0.mk (oL_cmpL t.f3 u.f3)
    have HK : Aside0 (∀ W, Below w.heap.size w W → Calls Tryd.prog 60 #[.slice A t.f3.length c, .slice B u.f3.length d, .func (.func 39) #[] #[]] W fun e w' => e = .returned (.int .i64 (oL t.f3 u.f3)) ∧ Below W.heap.size W w') := ⟨fun W hW => by
      rw [HL.out]
      exact CompareFunc_calls 39 (enters_of Tryd.func39 (by kernel_rfl) rfl) oT A c t.f3 B d u.f3 W (Kd.C_below HC.out hW) (Kd.C_below HD.out hW)
        (fun W2 x y A2 c2 B2 d2 hx _ _ h1 h2 h3 h4 => HI.out x y A2 c2 B2 d2 W2 (HM.out x hx) h1 h2 h3 h4)⟩
    clear ih hn hC hD
    go_enter Tryd.func39, Tryd.ntmps39
    go_wp2_with fail
    go_region_held3 (fun w' => w'.cell? ⟨w.heap.size, 0, none⟩ = some (.int .i64 t.f0) ∧ w'.cell? ⟨w.heap.size, 1, none⟩ = some (.string t.f1) ∧ w'.cell? ⟨w.heap.size, 2, none⟩ = some (.int .i64 t.f2) ∧ w'.cell? ⟨w.heap.size, 3, none⟩ = some (.slice A t.f3.length c) ∧
        w'.cell? ⟨w.heap.size + 1, 0, none⟩ = some (.int .i64 u.f0) ∧ w'.cell? ⟨w.heap.size + 1, 1, none⟩ = some (.string u.f1) ∧ w'.cell? ⟨w.heap.size + 1, 2, none⟩ = some (.int .i64 u.f2) ∧ w'.cell? ⟨w.heap.size + 1, 3, none⟩ = some (.slice B u.f3.length d))
      (first
        | (go_keep; done)
        | (go_split_ands; exact ⟨pw_cell_below hb (by assumption), pw_cell_below hb (by assumption), pw_cell_below hb (by assumption), pw_cell_below hb (by assumption), pw_cell_below hb (by assumption), pw_cell_below hb (by assumption), pw_cell_below hb (by assumption), pw_cell_below hb (by assumption)⟩)
        | (go_split_ands; refine ⟨?_, ?_, ?_, ?_, ?_, ?_, ?_, ?_⟩ <;> assumption))
      (first
        | (go_simp; go_at_call 57; refine (api_TermKind_57.calls _ _ _ _ (cmpKind_some _ _)).mono ?_; rintro e w1 ⟨rfl, ⟨n1, rfl⟩⟩)
        | (go_simp; go_at_call 58; refine (Tryd.strings_Compare _ _ _).mono ?_; rintro e w1 ⟨rfl, rfl⟩)
        | (go_simp; go_at_call 59; refine (cmp_Compare_int.calls _ _ _ _ (cmpInt_some _ _)).mono ?_; rintro e w1 ⟨rfl, ⟨n1, rfl⟩⟩)
        | (go_simp; go_at_call 60; refine (HK.out _ (by repeat (first | exact Below.refl _ _ | apply below_alloc | apply pw_below_drewN | apply below_drew))).mono ?_; rintro e w1 ⟨rfl, hb⟩; have HB1 : Aside0 (Below w.heap.size w w1) := ⟨below_step (by repeat (first | exact Below.refl _ _ | apply below_alloc | apply pw_below_drewN | apply below_drew)) hb⟩)
        | (go_simp; go_at_call 56; refine (cmp_Or_int.calls 6 _ 4 [cmpI t.f0 u.f0, cmpS t.f1 u.f1, cmpI t.f2 u.f2, oL t.f3 u.f3] _ _ (C_ints4 (heap_alloc_new _ _)) (Nat.le_refl _) (or4_some _ _ _ _)).mono ?_; rintro e w2 ⟨rfl, ⟨n2, rfl⟩⟩))
    go_wp2_with fail
    go_ret
    exact ⟨by rw [HO.out]; rfl, pw_below_drewN (below_alloc HB1.out _) _⟩
end Go.Proofs.YtlhfekhmfeafbaaDoor.P
