/- The Go iterator term.parts, and the closure that it hands back: each part of the term, once, in order. -/
import Derived.Test.YtlhfekhmfeafbaaDoorPHk
namespace Go.Proofs.YtlhfekhmfeafbaaDoor.P
open Go.RowKit Go.Proofs.YtlhfekhmfeafbaaDoorW.PrintWords Go.Proofs.YtlhfekhmfeafbaaDoorW.PrintLast Go.Proofs.YtlhfekhmfeafbaaDoorW.PrintMore
attribute [local go_sem] Oper.semAt_some

/-! The parts of a term, itself the first. -/
mutual
def partsT : S25 → List S25
  | ⟨a, b, c, l⟩ => ⟨a, b, c, l⟩ :: partsL l
def partsL : List S25 → List S25
  | [] => []
  | x :: r => partsT x ++ partsL r
end
theorem partsT_eq (t : S25) : partsT t = t :: partsL t.f3 := by cases t; rw [partsT]
theorem partsL_snoc (l : List S25) (x : S25) : partsL (l ++ [x]) = partsL l ++ partsT x := by
  induction l with
  | nil => simp [partsL]
  | cons y r ih => simp [partsL, ih]

/-- A term's value that reads well in the world w0. -/
structure El where
  t : S25
  A : Option Addr
  c : Nat
def El.val (x : El) : Value := .agg #[.int .i64 x.t.f0, .string x.t.f1, .int .i64 x.t.f2, .slice x.A x.t.f3.length x.c]
def El.ok (w0 : World) (x : El) : Prop := x.t.f3.length ≤ x.c ∧ Kd.C k25 w0 x.A x.t.f3.length x.t.f3
abbrev ElAt (w0 : World) := { x : El // x.ok w0 }

/-- term.parts: the box, and the closure over it. -/
theorem parts_calls (t : S25) (A : Option Addr) (c : Nat) (w : World) :
    Calls Tryd.prog 45 #[.agg #[.int .i64 t.f0, .string t.f1, .int .i64 t.f2, .slice A t.f3.length c]] w fun e w' =>
      e = .returned (.func (.func 63) #[] #[.pointer (some ⟨w.heap.size, 0, none⟩)]) ∧ w' = w.alloc (.cells #[.int .i64 t.f0, .string t.f1, .int .i64 t.f2, .slice A t.f3.length c] 25) := by
  have hu25 := Tryd.underlying25
  go_enter Tryd.func45, Tryd.ntmps45
  go_wp2_with fail
  go_ret
  exact ⟨rfl, rfl⟩

def boxOk (w0 : World) (B : Nat) (x : El) (Pr : Nat → Prop) (W : World) : Prop :=
  Pr B ∧ Below w0.heap.size w0 W ∧ W.heap[B]? = some (.cells #[.int .i64 x.t.f0, .string x.t.f1, .int .i64 x.t.f2, .slice x.A x.t.f3.length x.c] 25 (0, 0))

theorem flat_len {α : Type} (f : Nat → List α) (k : Nat) : ∀ n, k < n → ((List.range k).flatMap f).length + (f k).length ≤ ((List.range n).flatMap f).length
  | 0, h => absurd h (Nat.not_lt_zero _)
  | n + 1, h => by
    rw [List.range_succ, List.flatMap_append, List.length_append]
    by_cases e : k = n
    · subst e; simp
    · have := flat_len f k n (by omega); omega
def slotNat (a : Act) (i : Nat) : Nat := match a.tmps.getD i undef with | .int _ v => v.toNat | _ => 0

/-- What the parts of one element come to. -/
def PartsOf (w0 : World) (x : El) (xs : List (ElAt w0)) : Prop :=
  xs.map (·.1.t) = partsT x.t ∧ ∀ B, w0.heap.size ≤ B → IterAt w0.heap.size (fun y : ElAt w0 => y.1.val) 63 #[.pointer (some ⟨B, 0, none⟩)] (boxOk w0 B x) xs

set_option maxHeartbeats 4000000 in
set_option maxRecDepth 100000 in
theorem parts1_walk (w0 : World) (x : El) (hx : x.ok w0) (el : Nat → El × List (ElAt w0))
    (hel : ∀ k, k < x.t.f3.length → ∃ ad, x.A = some ad ∧ (el k).1.t = rd_T25 x.t.f3 k ∧ (el k).1.ok w0 ∧ PartsOf w0 (el k).1 (el k).2 ∧
      w0.cell? (ad.add (k * 4)) = some (.int .i64 (el k).1.t.f0) ∧ w0.cell? ⟨(ad.add (k * 4)).block, (ad.add (k * 4)).off + 1, none⟩ = some (.string (el k).1.t.f1) ∧
      w0.cell? ⟨(ad.add (k * 4)).block, (ad.add (k * 4)).off + 2, none⟩ = some (.int .i64 (el k).1.t.f2) ∧ w0.cell? ⟨(ad.add (k * 4)).block, (ad.add (k * 4)).off + 3, none⟩ = some (.slice (el k).1.A (el k).1.t.f3.length (el k).1.c)) 
    (B : Nat) (_hB : w0.heap.size ≤ B) :
    IterAt w0.heap.size (fun y : ElAt w0 => y.1.val) 63 #[.pointer (some ⟨B, 0, none⟩)] (boxOk w0 B x) (⟨x, hx⟩ :: (List.range x.t.f3.length).flatMap fun k => (el k).2) := by
  intro l J Pr W hJ hY hj ⟨hPB, hbW, hbox⟩ hbd
  have hlen := hx.2.2.1
  have hu25 := Tryd.underlying25
  have hu33 := Tryd.underlying33
  have hdd : ∀ k : Nat, (Fence.wide.depth.isSome = true → 1 ≤ k) := fun k h => by cases h
  have hn : w0.heap.size ≤ W.heap.size := hbW.size
  have hst0 := ItStep.alloc (n₀ := w0.heap.size) (Pr := Pr) (W := W) (.cells #[.func (.yield l) #[] #[]] 33) hn
  have hj1 := hJ.step _ _ _ _ hj hst0
  obtain ⟨fn, tmps, assign, body, hy, hR⟩ := hY _ [] ⟨x, hx⟩ _ hj1 (by simp)
  have hbox1 := blk_alloc hbox (.cells #[.func (.yield l) #[] #[]] 33)
  obtain ⟨hc0, hc1, hc2, hc3⟩ := box_cells hbox1
  have hcy : (W.alloc (.cells #[.func (.yield l) #[] #[]] 33)).cell? ⟨W.heap.size, 0, none⟩ = some (.func (.yield l) #[] #[]) := (blk_cell (box_new W _) 0).trans rfl
  simp only [El.val] at hy
  refine callsIn_of_wp_marks Tryd.func63 rfl trivial ?_ rfl
  simp only [Tryd.ntmps63, List.size_toArray, List.length_cons, List.length_nil, Nat.reduceAdd, Nat.reduceSub, Array.replicate_succ, Array.replicate_zero, List.push_toArray, List.append_toArray, List.nil_append, List.cons_append]
  have HJ := Aside0.mk hJ
  have HY := Aside0.mk hY
  have HE := Aside0.mk hel
  have HB := Aside0.mk hbox1
  have HS := Aside0.mk hst0
  have HD := Aside0.mk hbd
  have HW := Aside0.mk hbW
  clear hJ hY hel hj hj1 hbox hbox1 hst0 hbd hbW hdd
  gi_wp2_with fail
  refine ⟨rfl, ?_⟩
  refine hR.mono ?_
  clear hR hy hc0 hc1 hc2 hc3 hcy
  rintro e W2 ⟨rfl, hj2, hle⟩
  have hbox2 := (hle.keep B (blk_lt HB.out) (.inl hPB)).trans HB.out
  have hyb2 := (hle.keep W.heap.size (by simp) (.inr ⟨Nat.le_refl _, by simp⟩)).trans (box_new W _)
  obtain ⟨hc0, hc1, hc2, hc3⟩ := box_cells hbox2
  have HB2 := Aside0.mk hbox2
  have HYB2 := Aside0.mk hyb2
  have HJ2 := Aside0.mk hj2
  have HL2 := Aside0.mk hle
  clear hbox2 hyb2 hj2 hle
  gi_wp2_with fail
  refine wpIn_loop (fun a' w' => ∃ (kk : Nat) (Ds : List Nat) (Pr' : Nat → Prop) (u4 u14 u15 u16 u17 u18 u19 u24 : Value), kk ≤ x.t.f3.length ∧
      a' = { tmps := #[.func (.yield l) #[] #[], .pointer (some ⟨B, 0, none⟩), .pointer (some ⟨W.heap.size, 0, none⟩), undef, u4, undef, .func (.yield l) #[] #[], x.val, .bool true, .bool false, .pointer (some ⟨B, 3, none⟩), .slice x.A x.t.f3.length x.c, .int .i64 x.t.f3.length, .int .i64 kk, u14, u15, u16, u17, u18, u19, undef, undef, undef, undef, u24], defers := marks Ds } ∧
      J Pr' (⟨x, hx⟩ :: (List.range kk).flatMap fun k => (el k).2) w' ∧ (∀ i, Pr i → Pr' i) ∧ (∀ i, Pr' i → i < w'.heap.size) ∧ Below w0.heap.size W w' ∧ Ds.Nodup ∧ (∀ D ∈ Ds, w0.heap.size ≤ D ∧ Pr' D ∧ w'.heap[D]? = some (.deferred (some []))) ∧
      Pr' B ∧ Pr' W.heap.size ∧ w'.heap[B]? = some (.cells #[.int .i64 x.t.f0, .string x.t.f1, .int .i64 x.t.f2, .slice x.A x.t.f3.length x.c] 25 (0, 0)) ∧ w'.heap[W.heap.size]? = some (.cells #[.func (.yield l) #[] #[]] 33 (0, 0)))
    (fun a' _ => x.t.f3.length - slotNat a' 13) ?start ?round
  case start => 
    refine ⟨0, [], grow Pr W (W.alloc (.cells #[.func (.yield l) #[] #[]] 33)), undef, undef, undef, undef, undef, undef, undef, undef, Nat.zero_le _, rfl, HJ2.out, fun i h => .inl h, ?_, HS.out.below.trans HL2.out.below, List.nodup_nil, (fun D h => by cases h), .inl hPB, .inr ⟨Nat.le_refl _, by simp⟩, HB2.out, HYB2.out⟩
    rintro i (h | h)
    · have := HD.out i h; have := HL2.out.below.size; simp at this; omega
    · have := HL2.out.below.size; omega
  case round =>
    rintro a' w' ⟨kk, Ds, Pr', u4, u14, u15, u16, u17, u18, u19, u24, hk, rfl, hj, hsub, hbd, hbw, hnd, hD, hPB', hPY', hb, hyb⟩
    by_cases hlt : kk < x.t.f3.length
    · obtain ⟨ad, hA, het, heok, hpo, hx0, hx1, hx2, hx3⟩ := HE.out kk hlt
      have hbw0 := HW.out.trans hbw
      replace hx0 := (hbw0.cell (World.block_lt_of_cell? w0 _ hx0)).trans hx0
      replace hx1 := (hbw0.cell (World.block_lt_of_cell? w0 _ hx1)).trans hx1
      replace hx2 := (hbw0.cell (World.block_lt_of_cell? w0 _ hx2)).trans hx2
      replace hx3 := (hbw0.cell (World.block_lt_of_cell? w0 _ hx3)).trans hx3
      rw [hA]
      generalize hy : (el kk).1 = y at hx0 hx1 hx2 hx3 hpo heok
      generalize hz : (el kk).2 = ys at hpo
      have HPO := Aside0.mk hpo
      have HEY := Aside0.mk (And.intro hy hz)
      have HEO := Aside0.mk heok
      have HJ3 := Aside0.mk hj
      have HSUB := Aside0.mk hsub
      have HBD := Aside0.mk hbd
      have HBW := Aside0.mk hbw
      have HBW0 := Aside0.mk hbw0
      have HDS := Aside0.mk hD
      have HND := Aside0.mk hnd
      have HBX := Aside0.mk hb
      have HYB := Aside0.mk hyb
      clear hpo hy hz heok hj hsub hbd hbw hbw0 hD hnd hb hyb het
      gi_wp2_with fail
      refine ⟨trivial, rfl, (callsIn_wide.mpr (parts_calls y.t y.A y.c _)).mono ?_⟩
      rintro e w3 ⟨rfl, rfl⟩
      gi_wp2_with fail
      obtain ⟨W3, hW3⟩ : ∃ W3, ((w'.alloc (.cells #[.int .i64 y.t.f0, .string y.t.f1, .int .i64 y.t.f2, .slice y.A y.t.f3.length y.c] 25)).alloc (.cells #[.int .i64 y.t.f0, .string y.t.f1, .int .i64 y.t.f2, .slice y.A y.t.f3.length y.c] 25)) = W3 := ⟨_, rfl⟩
      have hs3 : W3.heap.size = w'.heap.size + 2 := by rw [← hW3]; simp
      have hb3 : Below w'.heap.size w' W3 := by rw [← hW3]; exact below_alloc ((Below.refl _ _).alloc (Nat.le_refl _) _) _
      have hbx3 : W3.heap[w'.heap.size + 1]? = some (.cells #[.int .i64 y.t.f0, .string y.t.f1, .int .i64 y.t.f2, .slice y.A y.t.f3.length y.c] 25 (0, 0)) := by
        rw [← hW3]; have := box_new (w'.alloc (.cells #[.int .i64 y.t.f0, .string y.t.f1, .int .i64 y.t.f2, .slice y.A y.t.f3.length y.c] 25)) (.cells #[.int .i64 y.t.f0, .string y.t.f1, .int .i64 y.t.f2, .slice y.A y.t.f3.length y.c] 25); rwa [World.size_alloc] at this
      have hnw : w0.heap.size ≤ w'.heap.size := HBW0.out.size
      have hj3 := HJ.out.step _ _ _ W3 HJ3.out ⟨hb3.mono hnw, fun i hi _ => hb3.block i hi⟩
      have HB3 := Aside0.mk hb3
      have HBX3 := Aside0.mk hbx3
      have HJW3 := Aside0.mk hj3
      have HS3 := Aside0.mk hs3
      have hsz3 : ((w'.alloc (.cells #[.int .i64 y.t.f0, .string y.t.f1, .int .i64 y.t.f2, .slice y.A y.t.f3.length y.c] 25)).heap.size) = w'.heap.size + 1 := by simp
      simp only [hW3]
      clear hb3 hbx3 hj3 hsz3 hs3
      refine range_own (gf := 63) (lb := #[.pointer (some ⟨w'.heap.size + 1, 0, none⟩)]) (xs := ys) (n₀ := w0.heap.size) rfl (enters_of Tryd.func63 (by kernel_rfl) rfl) rfl (HPO.out.2 (w'.heap.size + 1) (by omega)) (by have := HS3.out; omega)
        (fun i => i = w'.heap.size + 1) (by intro i hi; have := HS3.out; omega) ?ok
        (fun Pr'' pre'' V => J (fun i => (Pr' i ∨ i = w'.heap.size) ∨ Pr'' i) ((⟨x, hx⟩ :: (List.range kk).flatMap fun k => (el k).2) ++ pre'') V ∧ (∀ i, (Pr' i ∨ i = w'.heap.size) → ¬ Pr'' i ∧ V.heap[i]? = W3.heap[i]?) ∧ W3.heap.size ≤ V.heap.size)
        ?steady ?h0 ?round ?done
      case ok => 
        intro V hV hsame
        exact ⟨rfl, HBW0.out.trans ((HB3.out.mono hnw).trans hV), (hsame _ (by have := HS3.out; omega)).trans HBX3.out⟩
      case steady => 
        constructor
        · rintro P1 P2 pre V ⟨hj, hm, hz⟩ hp
          exact ⟨HJ.out.less _ _ _ _ hj (fun i h => h.imp id (hp i)), fun i h => ⟨fun h2 => (hm i h).1 (hp i h2), (hm i h).2⟩, hz⟩
        · rintro P1 pre V V' ⟨hj, hm, hz⟩ hs
          refine ⟨HJ.out.less _ _ _ _ (HJ.out.step _ _ _ _ hj (hs.more (fun i h => .inr h))) (fun i h => ?_), fun i h => ?_, Nat.le_trans hz hs.below.size⟩
          · rcases h with h | h | h
            · exact .inl (.inl h)
            · exact .inl (.inr h)
            · exact .inr h
          · have hlt' : i < V.heap.size := by
              have := HS3.out
              rcases h with h | h
              · have := HBD.out i h; omega
              · omega
            refine ⟨fun h2 => ?_, (hs.keep i hlt' (hm i h).1).trans (hm i h).2⟩
            rcases h2 with h2 | h2
            · exact (hm i h).1 h2
            · omega
      case h0 => 
        refine ⟨?_, fun i h => ⟨?_, rfl⟩, Nat.le_refl _⟩
        · refine HJ.out.less _ _ _ _ (by simpa using HJW3.out) (fun i h => ?_)
          have := HS3.out
          rcases h with (h | h) | h
          · exact .inl h
          · exact .inr (by omega)
          · exact .inr (by omega)
        · rcases h with h | h
          · have := HBD.out i h; omega
          · omega
      case round => 
        intro l' z P1 pre V K hI hnV hplen hK
        have HI := Aside0.mk hI
        have HKK := Aside0.mk hK
        clear hI hK
        simp only [El.val]
        gi_wp2_with fail
        obtain ⟨zo, hzo⟩ : ∃ zo : Obj, zo = .cells #[.int .i64 z.1.t.f0, .string z.1.t.f1, .int .i64 z.1.t.f2, .slice z.1.A z.1.t.f3.length z.1.c] 25 (0, 0) := ⟨_, rfl⟩
        refine HKK.out _ _ ⟨(Below.refl _ _).alloc hnV _, fun i hi _ => Below.heap_alloc V _ i hi⟩ ?_
        clear HKK
        intro o R hPl hnl hlV hR
        rw [← hzo] at hR
        have hI := HI.out
        have hzb : ((V.alloc zo).putObj l' o).heap[V.heap.size]? = some zo := (World.putObj_heap_other (by omega)).trans (box_new V zo)
        have hyv : ((V.alloc zo).putObj l' o).heap[W.heap.size]? = some (.cells #[.func (.yield l) #[] #[]] 33 (0, 0)) := by
          have h1 := hI.2.1 W.heap.size (.inl hPY')
          have h2 := (hI.2.1 W.heap.size (.inl hPY')).2.trans ((HB3.out.block _ (HBD.out _ hPY')).trans HYB.out)
          exact (World.putObj_heap_other (fun e => h1.1 (by rw [e]; exact hPl))).trans ((Below.heap_alloc V zo _ (blk_lt h2)).trans h2)
        have hstV : ItStep w0.heap.size (fun i => (Pr' i ∨ i = w'.heap.size) ∨ P1 i) V ((V.alloc zo).putObj l' o) :=
          ⟨((Below.refl _ _).alloc hnV _).trans (ItStep.putObj (Pr := P1) o hPl hnl).below, fun i hi hni => (World.putObj_heap_other (fun e => hni (.inr (by rw [e]; exact hPl)))).trans (Below.heap_alloc V zo i hi)⟩
        have hjV := HJ.out.step _ _ _ _ hI.1 hstV
        obtain ⟨fn2, tmps2, assign2, body2, hy2, hR2⟩ := HY.out _ _ z _ hjV (by
          have h1 := flat_len (fun k => (el k).2) kk x.t.f3.length hlt
          simp only [HEY.out.2] at h1
          simp only [List.length_append, List.length_cons]
          omega)
        have hmine : ∀ i, (Pr' i ∨ i = w'.heap.size) → ((V.alloc zo).putObj l' o).heap[i]? = W3.heap[i]? ∧ i < ((V.alloc zo).putObj l' o).heap.size := fun i h => by
          have h1 := hI.2.1 i h
          have hiv : i < V.heap.size := by
            have := HS3.out
            have := hI.2.2
            rcases h with h | h
            · have := HBD.out i h; omega
            · omega
          exact ⟨((World.putObj_heap_other (fun e => h1.1 (by rw [e]; exact hPl))).trans (Below.heap_alloc V zo _ hiv)).trans h1.2, by simp; omega⟩
        have hszV : V.heap.size ≤ ((V.alloc zo).putObj l' o).heap.size := by simp
        have hcont : ∀ a₂ W₂, J (grow (fun i => (Pr' i ∨ i = w'.heap.size) ∨ P1 i) V ((V.alloc zo).putObj l' o)) ((⟨x, hx⟩ :: (List.range kk).flatMap fun k => (el k).2) ++ pre ++ [z]) W₂ →
            Leaves w0.heap.size (grow (fun i => (Pr' i ∨ i = w'.heap.size) ∨ P1 i) V ((V.alloc zo).putObj l' o)) ((V.alloc zo).putObj l' o) W₂ → R .normal a₂ W₂ := fun a₂ W₂ h1 h2 => by
          refine hR a₂ W₂ ⟨HJ.out.less (grow (fun i => (Pr' i ∨ i = w'.heap.size) ∨ P1 i) V ((V.alloc zo).putObj l' o)) _ _ _ (by simpa [List.append_assoc] using h1) (fun i h => .inl h), fun i h => ⟨(hI.2.1 i h).1, (h2.keep i (hmine i h).2 (.inl (.inl h))).trans (hmine i h).1⟩, Nat.le_trans hI.2.2 (Nat.le_trans hszV h2.below.size)⟩ (h2.less (fun i h => .inl (.inr h)))
        have HC := Aside0.mk hcont
        have HI2 := Aside0.mk hI
        clear hcont hmine hstV hjV hI hR HI
        rw [hzo] at hzb hyv hy2 hR2 HC
        obtain ⟨hz0, hz1, hz2, hz3⟩ := box_cells hzb
        have hzy := (blk_cell hyv 0).trans rfl
        simp only [El.val] at hy2
        clear hzb hyv
        gi_wp2_with fail
        refine ⟨rfl, ?_⟩
        refine hR2.mono ?_
        clear hR2 hy2 hz0 hz1 hz2 hz3 hzy
        rintro e W4 ⟨rfl, hj4, hle4⟩
        gi_wp2_with fail
        exact HC.out _ _ hj4 hle4
      case done =>
        intro D P2 V hDV hI hDD hPD hsub2 hbd2 hbV
        have HI := Aside0.mk hI
        have HDD := Aside0.mk hDD
        have HSUB2 := Aside0.mk hsub2
        have HBD2 := Aside0.mk hbd2
        have HBV := Aside0.mk hbV
        clear hI hDD hsub2 hbd2 hbV
        gi_wp2_with fail
        have hI := HI.out
        have hV3 : W3.heap.size ≤ V.heap.size := hI.2.2
        have hs3 := HS3.out
        have hold : ∀ i, Pr' i → V.heap[i]? = w'.heap[i]? := fun i h => ((hI.2.1 i (.inl h)).2).trans (HB3.out.block i (HBD.out i h))
        refine ⟨⟨kk + 1, D :: Ds, fun i => (Pr' i ∨ i = w'.heap.size) ∨ P2 i, _, _, _, _, _, _, _, _, hlt, rfl, ?_, fun i h => .inl (.inl (HSUB.out i h)), fun i h => ?_, HBW.out.trans ((HB3.out.mono hnw).trans HBV.out), ?_, ?_, .inl (.inl hPB'), .inl (.inl hPY'), (hold _ hPB').trans (HBX.out.trans (by rw [hA])), (hold _ hPY').trans HYB.out⟩, ?_⟩
        · rw [List.range_succ, List.flatMap_append]
          simp only [List.flatMap_cons, List.flatMap_nil, List.append_nil, HEY.out.2]
          exact hI.1
        · rcases h with (h | h) | h
          · have := HBD.out i h; omega
          · omega
          · exact HBD2.out i h
        · refine List.nodup_cons.2 ⟨fun h => ?_, HND.out⟩
          have := HBD.out D (HDS.out D h).2.1
          omega
        · intro E hE
          rcases List.mem_cons.1 hE with rfl | hE
          · exact ⟨by omega, .inr hPD, HDD.out⟩
          · obtain ⟨h1, h2, h3⟩ := HDS.out E hE
            exact ⟨h1, .inl (.inl h2), (hold _ h2).trans h3⟩
        · show x.t.f3.length - ((kk : Int) + 1).toNat < x.t.f3.length - ((kk : Int)).toNat
          omega
    · obtain rfl : kk = x.t.f3.length := by omega
      have HJ3 := Aside0.mk hj
      have HSUB := Aside0.mk hsub
      have HBD := Aside0.mk hbd
      have HBW := Aside0.mk hbw
      have HDS := Aside0.mk hD
      have HND := Aside0.mk hnd
      clear HE HY hj hsub hbd hbw hD hnd
      gi_wp2_with fail
      refine leaves_marks (n₀ := w0.heap.size) (Pr := Pr') Ds _ HND.out HDS.out (fun W' hs => ?_)
      refine ⟨_, results_none rfl _ _ _, ⟨_, rfl⟩, HBW.out.trans hs.below, grow Pr' w' W', fun i h => .inl (HSUB.out i h), fun i h => ?_, HJ.out.step _ _ _ _ HJ3.out hs⟩
      rcases h with h | h
      · exact Nat.lt_of_lt_of_le (HBD.out i h) hs.below.size
      · exact h.2

theorem nT_parts : ∀ (n : Nat) (w0 : World) (x : El), nT x.t ≤ n → x.ok w0 → ∃ xs : List (ElAt w0), PartsOf w0 x xs := by
  intro n
  induction n with
  | zero => intro w0 x hn; rw [nT_eq] at hn; omega
  | succ n ih =>
    intro w0 x hn hx
    have hn' := hn
    rw [nT_eq] at hn'
    have H : ∀ k : Nat, ∃ p : El × List (ElAt w0), k < x.t.f3.length → ∃ ad, x.A = some ad ∧ p.1.t = rd_T25 x.t.f3 k ∧ p.1.ok w0 ∧ PartsOf w0 p.1 p.2 ∧
        w0.cell? (ad.add (k * 4)) = some (.int .i64 p.1.t.f0) ∧ w0.cell? ⟨(ad.add (k * 4)).block, (ad.add (k * 4)).off + 1, none⟩ = some (.string p.1.t.f1) ∧
        w0.cell? ⟨(ad.add (k * 4)).block, (ad.add (k * 4)).off + 2, none⟩ = some (.int .i64 p.1.t.f2) ∧ w0.cell? ⟨(ad.add (k * 4)).block, (ad.add (k * 4)).off + 3, none⟩ = some (.slice p.1.A p.1.t.f3.length p.1.c) := by
      intro k
      by_cases hk : k < x.t.f3.length
      · obtain ⟨ad, A3, c3, e1, hx0, hx1, hx2, hx3, hl3, hi3⟩ := at_T25 hx.2 (k : Int) (by omega) (by omega)
        have hmem : rd_T25 x.t.f3 (k : Int) ∈ x.t.f3 := by rw [rd_bang, getElem!_pos x.t.f3 k hk]; exact List.getElem_mem hk
        obtain ⟨ys, hys⟩ := ih w0 ⟨rd_T25 x.t.f3 k, A3, c3⟩ (by have := nT_mem hmem; simp only; omega) ⟨hl3, hi3⟩
        simp only [Int.toNat_natCast] at hx0 hx1 hx2 hx3
        exact ⟨⟨⟨rd_T25 x.t.f3 k, A3, c3⟩, ys⟩, fun _ => ⟨ad, e1, rfl, ⟨hl3, hi3⟩, hys, hx0, hx1, hx2, hx3⟩⟩
      · exact ⟨⟨x, []⟩, fun h => absurd h hk⟩
    obtain ⟨el, hel⟩ := Classical.axiomOfChoice H
    refine ⟨_, ?_, fun B hB => parts1_walk w0 x hx el hel B hB⟩
    have key : ∀ k, k ≤ x.t.f3.length → ((List.range k).flatMap fun k => (el k).2).map (·.1.t) = partsL (x.t.f3.take k) := by
      intro k
      induction k with
      | zero => intro _; simp [partsL]
      | succ k ihk =>
        intro hk
        rw [List.range_succ, List.flatMap_append, List.map_append, ihk (by omega), List.take_succ_eq_append_getElem (by omega), partsL_snoc]
        obtain ⟨ad, _, het, _, hpo, _⟩ := hel k (by omega)
        simp only [List.flatMap_cons, List.flatMap_nil, List.append_nil]
        rw [hpo.1, het, rd_bang, getElem!_pos x.t.f3 k (by omega)]
    rw [List.map_cons, key _ (Nat.le_refl _), List.take_length, partsT_eq]

end Go.Proofs.YtlhfekhmfeafbaaDoor.P
