/- The Go functions slices.AppendSeq and slices.Collect at an iterator over terms: all that has come, in order; and term.Parts. -/
import Derived.Shelf.RegionOpen
import Derived.Test.YtlhfekhmfeafbaaDoorPHm
namespace Go.Proofs.YtlhfekhmfeafbaaDoor.P
open Go.RowKit Go.Proofs.YtlhfekhmfeafbaaDoorW.PrintWords Go.Proofs.YtlhfekhmfeafbaaDoorW.PrintLast Go.Proofs.YtlhfekhmfeafbaaDoorW.PrintMore
set_option linter.unusedVariables false
set_option linter.unusedSimpArgs false
attribute [local go_sem] Oper.semAt_some
/-- The model's append, under a name that the walk leaves alone. -/
def appendB (ats : Array TypeId) (ty : TypeId) (args : Array Value) : Sem Value := Builtin.append_ ats ty args
theorem builtin_appendB (ats : Array TypeId) (ty : TypeId) (cs : Array Bool) (args : Array Value) : builtin .append ats ty cs args = (do pure (.value (← appendB ats ty args))) := rfl
attribute [local go_sem ↓ high] builtin_appendB

def El.cells (x : El) : List Value := [.int .i64 x.t.f0, .string x.t.f1, .int .i64 x.t.f2, .slice x.A x.t.f3.length x.c]
theorem ownsRow_step {w w' : World} {base : Nat} {e : TypeId} {size : Nat} {v : Value} {k : Nat} {xs : List Value} (h : w.ownsRow base e size v k xs) (hk : ∀ g, v.ownBlock = some g → w'.heap[g]? = w.heap[g]?) : w'.ownsRow base e size v k xs := by
  obtain ⟨h1, h2⟩ := h
  refine ⟨h1, ?_⟩
  rcases h2 with h2 | ⟨g, cap, cur, rfl, hg, hh, r⟩
  · exact .inl h2
  · exact .inr ⟨g, cap, cur, rfl, hg, (hk g rfl).trans hh, r⟩
theorem ownsRow_blk {w : World} {base : Nat} {e : TypeId} {size : Nat} {v : Value} {k : Nat} {xs : List Value} (h : w.ownsRow base e size v k xs) {g : Nat} (hg : v.ownBlock = some g) : base ≤ g ∧ ∃ cur, w.heap[g]? = some (.cells cur e (0, 0)) := by
  rcases h.2 with ⟨rfl, _⟩ | ⟨g', cap, cur, rfl, hb, hh, r⟩
  · cases hg
  · cases hg; exact ⟨hb, cur, hh⟩

theorem set4_take {cur : Array Value} {n : Nat} {ys : List Value} {a b c d a' b' c' d' : Value} (h : cur.toList.take ((n + 1) * 4) = ys ++ [a, b, c, d]) (hy : ys.length = n * 4) :
    ((((cur.setIfInBounds (n * 4) a').setIfInBounds (n * 4 + 1) b').setIfInBounds (n * 4 + 2) c').setIfInBounds (n * 4 + 3) d').toList.take ((n + 1) * 4) = ys ++ [a', b', c', d'] := by
  simp only [Array.toList_setIfInBounds, List.take_set, h]
  rw [← hy]
  simp [List.set_append]

set_option maxHeartbeats 4000000 in
set_option maxRecDepth 100000 in
theorem AppendSeq_walk (w0 : World) (gf : Nat) (lb : Array Value) (eg : ∀ args w, (callFunc gf args).run Tryd.prog w = .ok (.enter gf args) w) (Ok : (Nat → Prop) → World → Prop) (xs : List (ElAt w0)) (hN : xs.length ≤ 1000000000)
    (hit : IterAt w0.heap.size (fun y : ElAt w0 => y.1.val) gf lb Ok xs) (w : World) (hw : w0.heap.size ≤ w.heap.size) (Pr0 : Nat → Prop) (hbd : ∀ i, Pr0 i → i < w.heap.size)
    (hOk : ∀ W, Below w0.heap.size w W → (∀ i, i < w.heap.size → W.heap[i]? = w.heap[i]?) → Ok Pr0 W) :
    CallsIn Fence.wide 0 Tryd.prog 62 #[.slice none 0 0, .func (.func gf) #[] lb] w fun e w' =>
      ∃ v, e = .returned v ∧ w'.ownsRow w0.heap.size 25 4 v xs.length (xs.flatMap fun x => x.1.cells) ∧ Below w0.heap.size w w' := by
  have hu25 := Tryd.underlying25
  have hu23 := Tryd.underlying23
  have hmixed : Tryd.prog.follows .mixedOrders = true := by kernel_rfl
  have HIT := Aside0.mk hit
  have HOK := Aside0.mk hOk
  clear hit hOk
  refine callsIn_of_wp_marks Tryd.func62 rfl trivial ?_ rfl
  simp only [Tryd.ntmps62, List.size_toArray, List.length_cons, List.length_nil, Nat.reduceAdd, Nat.reduceSub, Array.replicate_succ, Array.replicate_zero, List.push_toArray, List.append_toArray, List.nil_append, List.cons_append]
  gi_wp2_with fail
  obtain ⟨ob, hob⟩ : ∃ ob : Obj, ob = .cells #[.slice none 0 0] 23 (0, 0) := ⟨_, rfl⟩
  rw [← hob]
  have hc1 := box_new w ob
  have hold : ∀ i, i < w.heap.size → (w.alloc ob).heap[i]? = w.heap[i]? := fun i hi => Below.heap_alloc w ob i hi
  have hbb : Below w0.heap.size w (w.alloc ob) := (Below.refl _ _).alloc hw _
  have hsz : (w.alloc ob).heap.size = w.heap.size + 1 := by simp
  refine range_own (gf := gf) (lb := lb) (xs := xs) (n₀ := w0.heap.size) rfl eg rfl HIT.out (by omega)
        Pr0 (by intro i hi; have := hbd i hi; omega) ?ok
        (fun Pr pre V => ∃ v, V.heap[w.heap.size]? = some (.cells #[v] 23 (0, 0)) ∧ ¬ Pr w.heap.size ∧ V.ownsRow w0.heap.size 25 4 v pre.length (pre.flatMap fun x => x.1.cells) ∧ (∀ g, v.ownBlock = some g → ¬ Pr g) ∧ (∀ i, Pr i → i < V.heap.size))
        ?steady ?h0 ?round ?done
  case ok =>
    intro V hV hsame
    exact HOK.out V (hbb.trans hV) (fun i hi => (hsame i (by omega)).trans (hold i hi))
  case steady =>
    constructor
    · rintro P1 P2 pre V ⟨v, h1, h2, h3, h4, h5⟩ hp
      exact ⟨v, h1, fun h => h2 (hp _ h), h3, fun g hg h => h4 g hg (hp _ h), fun i h => h5 i (hp i h)⟩
    · rintro P1 pre V V' ⟨v, h1, h2, h3, h4, h5⟩ hs
      refine ⟨v, (hs.keep _ (blk_lt h1) h2).trans h1, fun h => ?_, ownsRow_step h3 (fun g hg => ?_), fun g hg h => ?_, fun i h => ?_⟩
      · rcases h with h | h
        · exact h2 h
        · have := blk_lt h1; omega
      · obtain ⟨_, cur, hh⟩ := ownsRow_blk h3 hg
        exact hs.keep _ (blk_lt hh) (h4 g hg)
      · obtain ⟨_, cur, hh⟩ := ownsRow_blk h3 hg
        rcases h with h | h
        · exact h4 g hg h
        · have := blk_lt hh; omega
      · rcases h with h | h
        · exact Nat.lt_of_lt_of_le (h5 i h) hs.below.size
        · exact h.2
  case h0 => 
    refine ⟨_, hc1.trans (by rw [hob]), fun h => ?_, ⟨by simp, .inl ⟨rfl, rfl⟩⟩, (fun g hg => by cases hg), fun i h => ?_⟩
    · have := hbd _ h; omega
    · have := hbd _ h; omega
  case round =>
    rintro l x P1 pre V K ⟨v, h1, h2, h3, h4, h5⟩ hn hplen hK
    have HK := Aside0.mk hK
    have H3 := Aside0.mk h3
    clear hK h3
    simp only [El.val]
    gi_wp2_with fail
    refine HK.out _ _ ⟨(Below.refl _ _).alloc hn _, fun i hi _ => Below.heap_alloc V _ i hi⟩ ?_
    clear HK
    intro o R hPl hnl hlV hR
    have HR := Aside0.mk hR
    clear hR
    obtain ⟨zo, hzo⟩ : ∃ zo : Obj, zo = .cells #[.int .i64 x.1.t.f0, .string x.1.t.f1, .int .i64 x.1.t.f2, .slice x.1.A x.1.t.f3.length x.1.c] 25 (0, 0) := ⟨_, rfl⟩
    rw [← hzo] at HR ⊢
    obtain ⟨Vb, hVb⟩ : ∃ Vb, (V.alloc zo).putObj l o = Vb := ⟨_, rfl⟩
    rw [hVb] at HR ⊢
    have hkV : ∀ i, i < V.heap.size → i ≠ l → Vb.heap[i]? = V.heap[i]? := fun i hi hne => by rw [← hVb]; exact (World.putObj_heap_other hne).trans (Below.heap_alloc V zo i hi)
    have hsVb : Vb.heap.size = V.heap.size + 1 := by rw [← hVb]; simp
    have hbx : Vb.heap[w.heap.size]? = some (.cells #[v] 23 (0, 0)) := (hkV _ (blk_lt h1) (fun e => h2 (by rw [e]; exact hPl))).trans h1
    have hvx : Vb.heap[V.heap.size]? = some (.cells #[.int .i64 x.1.t.f0, .string x.1.t.f1, .int .i64 x.1.t.f2, .slice x.1.A x.1.t.f3.length x.1.c] 25 (0, 0)) := by rw [← hVb, ← hzo]; exact (World.putObj_heap_other (by omega)).trans (box_new V zo)
    have hown : Vb.ownsRow w0.heap.size 25 4 v pre.length (pre.flatMap fun x => x.1.cells) := ownsRow_step H3.out (fun g hg => by
        obtain ⟨_, cur, hh⟩ := ownsRow_blk H3.out hg
        exact hkV g (blk_lt hh) (fun e => h4 g hg (by rw [e]; exact hPl)))
    obtain ⟨i0, hi, hzz⟩ := Option.map_eq_some_iff.1 info25
    simp only [Prod.mk.injEq] at hzz
    obtain ⟨hz0, hz1, hz2⟩ := hzz
    obtain ⟨zz, hzz⟩ : ∃ zz : Obj, zz = .cells #[.int .i64 0, .string ⟨#[]⟩, .int .i64 0, .slice none 0 0] 25 (0, 0) := ⟨_, rfl⟩
    obtain ⟨g, cap, w1, hr, hown1, hg1, hat1, hlt1⟩ := run_append_lies (P := Tryd.prog) (Vb.alloc zz).drew 23 23 w0.heap.size 25 i0 _ 4 56 Tryd.underlying23 hi hz0 hz1 hz2 rfl (by decide) v pre.length _ 
      (show (Vb.alloc zz).drew.ownsRow w0.heap.size 25 4 v pre.length (pre.flatMap fun x => x.1.cells) from World.ownsRow.alloc hown _) ⟨Vb.heap.size, 0, none⟩ 1 1 [.int .i64 0, .string ⟨#[]⟩, .int .i64 0, .slice none 0 0] rfl
      (World.news_of_block (cs := #[.int .i64 0, .string ⟨#[]⟩, .int .i64 0, .slice none 0 0]) (t := 25) (fr := (0, 0)) (by rw [hzz]; exact box_new Vb.drew _)) (by simp [Value.oneCell']) (by decide) (by simp only [maxLen]; omega) (by omega) (by simp; omega) (Vb.heap.size + 1) (by simp)
    obtain ⟨A, c, rfl⟩ : ∃ A c, v = .slice A pre.length c := by
      rcases hown.2 with ⟨rfl, h0⟩ | ⟨g', cap', cur', rfl, _⟩
      · exact ⟨none, 0, by rw [h0]⟩
      · exact ⟨_, _, rfl⟩
    have hbxd : Vb.drew.cell? ⟨w.heap.size, 0, none⟩ = some (.slice A pre.length c) := (blk_cell hbx 0).trans rfl
    obtain ⟨hd0, hd1, hd2, hd3⟩ := box_cells (show Vb.drew.heap[V.heap.size]? = _ from hvx)
    have hbxz : (Vb.alloc (.cells #[.int .i64 0, .string ⟨#[]⟩, .int .i64 0, .slice none 0 0] 25 (0, 0))).drew.cell? ⟨w.heap.size, 0, none⟩ = some (.slice A pre.length c) := (blk_cell (blk_alloc hbx _) 0).trans rfl
    obtain ⟨hz0', hz1', hz2', hz3'⟩ := box_cells (show (Vb.alloc (.cells #[.int .i64 0, .string ⟨#[]⟩, .int .i64 0, .slice none 0 0] 25 (0, 0))).drew.heap[V.heap.size]? = _ from blk_alloc hvx _)
    rw [hzz] at hr
    replace hr : Sem.run Tryd.prog (appendB _ _ _) _ = _ := hr

    have HSV := Aside0.mk hsVb
    have HOWN := Aside0.mk hown
    have HOWN1 := Aside0.mk hown1
    have HG1 := Aside0.mk hg1
    have HAT := Aside0.mk hat1
    have HKV := Aside0.mk hkV
    clear hsVb hown hown1 hg1 hat1 hkV
    have hbxv : some w.heap.size ≠ (Value.slice A pre.length c).ownBlock := own_ne HOWN.out hbx (by decide)
    have hbx1 : w1.heap[w.heap.size]? = some (.cells #[.slice A pre.length c] 23 (0, 0)) :=
      (HG1.out.block _ (by have := blk_lt h1; have := HSV.out; simp; omega) hbxv).trans ((Below.heap_alloc Vb zz _ (by have := blk_lt h1; have := HSV.out; omega)).trans hbx)
    have hne : g ≠ w.heap.size := by
      rcases HAT.out with h | h
      · intro e; exact hbxv (by rw [← e]; exact h.symm)
      · have := blk_lt h1; have := HSV.out; omega
    obtain ⟨cur, hcur, hcsz, hk1, hgb, hcm, hct⟩ : ∃ cur : Array Value, w1.heap[g]? = some (.cells cur 25 (0, 0)) ∧ cur.size = cap * 4 ∧ pre.length + 1 ≤ cap ∧ w0.heap.size ≤ g ∧ cap ≤ maxLen ∧ cur.toList.take ((pre.length + 1) * 4) = (pre.flatMap fun x => x.1.cells) ++ [.int .i64 0, .string ⟨#[]⟩, .int .i64 0, .slice none 0 0] := by
      rcases HOWN1.out.2 with ⟨h, _⟩ | ⟨g', cap', cur', e, hgb, hh, hk, hcm, hsz, ht⟩
      · cases h
      · cases e; exact ⟨cur', hh, hsz, hk, hgb, hcm, ht⟩
    have hplen4 : (pre.flatMap fun x => x.1.cells).length = pre.length * 4 := HOWN.out.1
    have hcg : ∀ j u, [Value.int .i64 0, .string ⟨#[]⟩, .int .i64 0, .slice none 0 0][j]? = some u → j < 4 → w1.cell? ⟨g, pre.length * 4 + j, none⟩ = some u := fun j u hu hj => by
      refine (blk_cell hcur _).trans ?_
      have h1 : (cur.toList.take ((pre.length + 1) * 4))[pre.length * 4 + j]? = some u := by
        rw [hct, List.getElem?_append_right (by omega), hplen4, Nat.add_sub_cancel_left]; exact hu
      rw [List.getElem?_take_of_lt (by omega)] at h1
      rw [← Array.getElem?_toList]; exact h1
    have hg0 := hcg 0 _ rfl (by decide)
    have hg1 := hcg 1 _ rfl (by decide)
    have hg2 := hcg 2 _ rfl (by decide)
    have hg3 := hcg 3 _ rfl (by decide)
    rw [Nat.add_zero] at hg0
    have hf0 := blk_frozen hcur (pre.length * 4)
    have hf1 := blk_frozen hcur (pre.length * 4 + 1)
    have hf2 := blk_frozen hcur (pre.length * 4 + 2)
    have hf3 := blk_frozen hcur (pre.length * 4 + 3)
    have hb1 := (blk_cell hbx1 0).trans (rfl : _ = some (Value.slice A pre.length c))
    have hb2 := blk_frozen hbx1 0
    have HBX1 := Aside0.mk hbx1
    have HCUR := Aside0.mk hcur
    have HCT := Aside0.mk hct
    clear hcg hbx1 hcur hct
    have hPw : ∀ i, i < V.heap.size → P1 i → w1.heap[i]? = Vb.heap[i]? ∧ i ≠ g ∧ i ≠ w.heap.size := fun i hi hp => by
      have hiv : some i ≠ (Value.slice A pre.length c).ownBlock := fun e => h4 i e.symm hp
      refine ⟨(HG1.out.block _ (by have := HSV.out; simp; omega) hiv).trans (Below.heap_alloc Vb zz _ (by have := HSV.out; omega)), fun e => ?_, fun e => h2 (by rw [← e]; exact hp)⟩
      rcases HAT.out with h | h
      · exact hiv (by rw [e]; exact h.symm)
      · have := HSV.out; omega
    have hbw1 : Below w0.heap.size Vb w1 := by
      refine (((Below.refl w0.heap.size Vb).alloc (by have := HSV.out; omega) zz).drew).grown HG1.out (by have := HSV.out; simp; omega) (fun k e => (ownsRow_blk HOWN.out e).1)
    have hfin : ∀ w2 : World, w2.heap[w.heap.size]? = some (.cells #[.slice (some ⟨g, 0, none⟩) (pre.length + 1) cap] 23 (0, 0)) → (∀ i, i ≠ g → i ≠ w.heap.size → w2.heap[i]? = w1.heap[i]?) → Below w0.heap.size w1 w2 →
        w2.heap[g]? = some (.cells ((((cur.setIfInBounds (pre.length * 4) (.int .i64 x.1.t.f0)).setIfInBounds (pre.length * 4 + 1) (.string x.1.t.f1)).setIfInBounds (pre.length * 4 + 2) (.int .i64 x.1.t.f2)).setIfInBounds (pre.length * 4 + 3) (.slice x.1.A x.1.t.f3.length x.1.c)) 25 (0, 0)) → ∀ a, R .normal a w2 := fun w2 e1 e2 e3 e4 a => by
      refine HR.out a w2 ⟨_, e1, h2, ⟨?_, .inr ⟨g, cap, _, by simp, hgb, e4, by simpa using hk1, hcm, by simpa using hcsz, ?_⟩⟩, fun g' hg' hp => ?_, fun i hi => ?_⟩ ⟨hbw1.trans e3, fun i hi hp => ?_⟩
      · have h := HOWN.out.1
        simp only [List.flatMap_append, List.length_append, h]
        simp [El.cells]
        omega
      · have := set4_take (a' := .int .i64 x.1.t.f0) (b' := .string x.1.t.f1) (c' := .int .i64 x.1.t.f2) (d' := .slice x.1.A x.1.t.f3.length x.1.c) HCT.out HOWN.out.1
        simpa [El.cells, List.flatMap_append] using this
      · have e : g' = g := by simpa [Value.ownBlock] using hg'.symm
        subst e
        rcases HAT.out with h | h
        · exact h4 _ h hp
        · have := h5 _ hp; have := HSV.out; omega
      · have := h5 _ hi; have := hbw1.size; have := e3.size; have := HSV.out; omega
      · have hiV := h5 i hp
        obtain ⟨k1, k2, k3⟩ := hPw i hiV hp
        exact (e2 i k2 k3).trans k1
    have hnn : w0.heap.size ≤ w.heap.size := hw
    have hput : ∀ W : World, W.heap[g]? = some (.cells cur 25 (0, 0)) → ((((W.setCell ⟨g, pre.length * 4, none⟩ (.int .i64 x.1.t.f0)).setCell ⟨g, pre.length * 4 + 1, none⟩ (.string x.1.t.f1)).setCell ⟨g, pre.length * 4 + 2, none⟩ (.int .i64 x.1.t.f2)).setCell ⟨g, pre.length * 4 + 3, none⟩ (.slice x.1.A x.1.t.f3.length x.1.c)).heap[g]? =
        some (.cells ((((cur.setIfInBounds (pre.length * 4) (.int .i64 x.1.t.f0)).setIfInBounds (pre.length * 4 + 1) (.string x.1.t.f1)).setIfInBounds (pre.length * 4 + 2) (.int .i64 x.1.t.f2)).setIfInBounds (pre.length * 4 + 3) (.slice x.1.A x.1.t.f3.length x.1.c)) 25 (0, 0)) := fun W h =>
      blk_set (blk_set (blk_set (blk_set h _ _) _ _) _ _) _ _
    have hbel : ∀ (B : Nat) (W : World) (u : Value) (o : Nat), B ≤ g → Below B W (W.setCell ⟨g, o, none⟩ u) := fun B W u o h => (Below.refl _ _).setCell (p := ⟨g, o, none⟩) h u
    have hbelw : ∀ (W : World) (u : Value), Below w0.heap.size W (W.setCell ⟨w.heap.size, 0, none⟩ u) := fun W u => (Below.refl _ _).setCell (p := ⟨w.heap.size, 0, none⟩) hnn u
    have hfar : ∀ (W : World) (i o : Nat) (u : Value), i ≠ g → (W.setCell ⟨g, o, none⟩ u).heap[i]? = W.heap[i]? := fun W i o u h => Below.heap_setCell W ⟨g, o, none⟩ u i h
    have hfarw : ∀ (W : World) (i : Nat) (u : Value), i ≠ w.heap.size → (W.setCell ⟨w.heap.size, 0, none⟩ u).heap[i]? = W.heap[i]? := fun W i u h => Below.heap_setCell W ⟨w.heap.size, 0, none⟩ u i h
    have FA := hfin ((((((w1.setCell ⟨w.heap.size, 0, none⟩ (.slice (some ⟨g, 0, none⟩) (pre.length + 1) cap)).setCell ⟨g, pre.length * 4, none⟩ (.int .i64 x.1.t.f0)).setCell ⟨g, pre.length * 4 + 1, none⟩ (.string x.1.t.f1)).setCell ⟨g, pre.length * 4 + 2, none⟩ (.int .i64 x.1.t.f2)).setCell ⟨g, pre.length * 4 + 3, none⟩ (.slice x.1.A x.1.t.f3.length x.1.c)))
      (by rw [hfar _ _ _ _ hne.symm, hfar _ _ _ _ hne.symm, hfar _ _ _ _ hne.symm, hfar _ _ _ _ hne.symm]; exact blk_put HBX1.out 0 _ rfl)
      (fun i h1 h2 => by rw [hfar _ _ _ _ h1, hfar _ _ _ _ h1, hfar _ _ _ _ h1, hfar _ _ _ _ h1, hfarw _ _ _ h2])
      ((hbelw _ _).trans ((hbel _ _ _ _ hgb).trans ((hbel _ _ _ _ hgb).trans ((hbel _ _ _ _ hgb).trans (hbel _ _ _ _ hgb)))))
      (hput _ ((hfarw _ _ _ hne).trans HCUR.out))
    have FB := hfin ((((((w1.setCell ⟨g, pre.length * 4, none⟩ (.int .i64 x.1.t.f0)).setCell ⟨g, pre.length * 4 + 1, none⟩ (.string x.1.t.f1)).setCell ⟨g, pre.length * 4 + 2, none⟩ (.int .i64 x.1.t.f2)).setCell ⟨g, pre.length * 4 + 3, none⟩ (.slice x.1.A x.1.t.f3.length x.1.c)).setCell ⟨w.heap.size, 0, none⟩ (.slice (some ⟨g, 0, none⟩) (pre.length + 1) cap)))
      (blk_put (cs := #[.slice A pre.length c]) (by rw [hfar _ _ _ _ hne.symm, hfar _ _ _ _ hne.symm, hfar _ _ _ _ hne.symm, hfar _ _ _ _ hne.symm]; exact HBX1.out) 0 _ rfl)
      (fun i h1 h2 => by rw [hfarw _ _ _ h2, hfar _ _ _ _ h1, hfar _ _ _ _ h1, hfar _ _ _ _ h1, hfar _ _ _ _ h1])
      ((hbel _ _ _ _ hgb).trans ((hbel _ _ _ _ hgb).trans ((hbel _ _ _ _ hgb).trans ((hbel _ _ _ _ hgb).trans (hbelw _ _)))))
      ((hfarw _ _ _ hne).trans (hput _ HCUR.out))
    have HFA := Aside0.mk FA
    have HFB := Aside0.mk FB
    have HBX := Aside0.mk hbx
    have HVX := Aside0.mk hvx
    clear hfin hPw hbw1 FA FB hput hbel hbelw hfar hfarw
    gi_wp2_with fail
    gi_region_with_o fail
    all_goals (simp only [Exit.inBlock]; first | with_reducible exact HFA.out _ | with_reducible exact HFB.out _)
  case done =>
    rintro D P2 V hDV ⟨v, h1, h2, h3, h4, h5⟩ hDD hPD hsub2 hbd2 hbV
    have hc0 := (blk_cell h1 0).trans (rfl : _ = some v)
    gi_wp2_with fail
    refine leaves_marks (n₀ := w0.heap.size) (Pr := P2) [D] _ (by simp) (by simp; exact ⟨by omega, hPD, hDD⟩) (fun W' hs => ?_)
    refine ⟨_, results_tmp rfl _ _ _, _, rfl, ownsRow_step h3 (fun g hg => ?_), (hbb.trans hbV).trans hs.below⟩
    obtain ⟨_, cur, hh⟩ := ownsRow_blk h3 hg
    exact hs.keep _ (blk_lt hh) (h4 g hg)

end Go.Proofs.YtlhfekhmfeafbaaDoor.P
