/- The statement AuthzBackUptoCardSaid: the law AuthzBack comes out true for all arguments of bulk at most 1048576, where the laid tables hold what the program's text lays. -/
import Derived.Test.YtimommkbfbdkdaaDoorPRb
import Derived.Test.YtimommkbfbdkdaaDoorPRd
import Derived.Test.YtimommkbfbdkdaaDoorPAt
namespace Go.Proofs.YtimommkbfbdkdaaDoor.authzBack
open Go.ChangeShapes Go.WideShapes Go.ChangeAt Go.RowKit Go.Proofs.YtimommkbfbdkdaaDoor.P
open Go.ChangeMaps (open_string shut_string)

theorem laid_met (os : Os) : laidMet Tryd.prog Rows.authzBackUptoRow.laid ((laidWorld os).forCall (fun _ _ => 0) ⟨#[], #[.agg #[.string ⟨#[]⟩, .slice none 0 0, .int .i64 0, .slice none 0 0, .string ⟨#[]⟩, .bool false, .int .i64 0], wit, wit, wit, .agg #[.string ⟨#[]⟩, .slice none 0 0, .int .i64 0, .slice none 0 0, .string ⟨#[]⟩, .bool false, .int .i64 0]], []⟩).memory :=
  laidMet_of_run' 8 (by kernel_rfl) (by kernel_rfl)
theorem reads (os : Os) {H : Type} (enc : TypeId × Value → H) : ∃ ds places, DataW.whole enc Tryd.prog ((laidWorld os).forCall (fun _ _ => 0) ⟨#[], #[.agg #[.string ⟨#[]⟩, .slice none 0 0, .int .i64 0, .slice none 0 0, .string ⟨#[]⟩, .bool false, .int .i64 0], wit, wit, wit, .agg #[.string ⟨#[]⟩, .slice none 0 0, .int .i64 0, .slice none 0 0, .string ⟨#[]⟩, .bool false, .int .i64 0]], []⟩).memory Tryd.f6.params.toList Rows.authzBackSpec.vars false #[.agg #[.string ⟨#[]⟩, .slice none 0 0, .int .i64 0, .slice none 0 0, .string ⟨#[]⟩, .bool false, .int .i64 0], wit, wit, wit, .agg #[.string ⟨#[]⟩, .slice none 0 0, .int .i64 0, .slice none 0 0, .string ⟨#[]⟩, .bool false, .int .i64 0]].toList 8 = some (ds, [], places) ∧ Rows.uptoSmall H ds = true :=
  ⟨[.agg [.lit (.string []), .nil, .lit (.int .i64 0), .nil, .lit (.string []), .lit (.bool false), .lit (.int .i64 0)], .agg [.lit (.int .i64 0), .lit (.string []), .lit (.int .i64 0), .nil], .agg [.lit (.int .i64 0), .lit (.string []), .lit (.int .i64 0), .nil], .agg [.lit (.int .i64 0), .lit (.string []), .lit (.int .i64 0), .nil], .agg [.lit (.string []), .nil, .lit (.int .i64 0), .nil, .lit (.string []), .lit (.bool false), .lit (.int .i64 0)]], [], by kernel_rfl, by kernel_rfl⟩

set_option maxRecDepth 100000 in
theorem contract (H : Type) (enc : TypeId × Value → H) (W : World) (base : Nat) (args : Array Value) (ds gs : List (DataW H)) (before : List MemPlace)
    (hval : ∀ (j : Nat) t v, Tryd.f6.params[j]? = some t → args[j]? = some v → Value.okWide Tryd.prog W .any base t v)
    (hW : DataW.Whole enc Tryd.prog Tryd.f6.params.toList Rows.authzBackSpec.vars false W args.toList ds gs before) (hL : laidMetH Tryd.prog Rows.authzBackUptoRow.laid W) (hk : Rows.uptoSmall H (ds ++ gs) = true) :
    Calls Tryd.prog 6 args W fun e W' => ∃ v, e = .returned v ∧ Rows.authzBackSpec.post enc Tryd.prog Tryd.f6 false true false false W args v W' := by
  have hW' := hW
  obtain ⟨p, q, hA0, hV, rfl, hfz, hnd⟩ := hW
  have hA : DataW.TrodAll enc Tryd.prog W 0 (fun _ => true) true Tryd.f6.params.toList args.toList ds p := hA0
  rw [Tryd.params6] at hA hval
  obtain ⟨v0, vs0, d0, ds0, p0, q0, hargs, rfl, rfl, h0, r0⟩ := trodAll_cons hA
  obtain ⟨v1, vs1, d1, ds1, p1, q1, rfl, rfl, rfl, h1, r1⟩ := trodAll_cons r0
  obtain ⟨v2, vs2, d2, ds2, p2, q2, rfl, rfl, rfl, h2, r2⟩ := trodAll_cons r1
  obtain ⟨v3, vs3, d3, ds3, p3, q3, rfl, rfl, rfl, h3, r3⟩ := trodAll_cons r2
  obtain ⟨v4, vs4, d4, ds4, p4, q4, rfl, rfl, rfl, h4, r4⟩ := trodAll_cons r3
  obtain ⟨rfl, rfl, rfl⟩ := trodAll_nil r4
  obtain rfl : args = #[v0, v1, v2, v3, v4] := by cases args; simp_all
  obtain ⟨rfl, rfl⟩ := trodVars_none hV
  obtain ⟨a0, hA0, hok0, hn0⟩ := argA (hval 0 25 _ rfl rfl) h0
  obtain ⟨A0, c0, B0, d0x, rfl, kA0⟩ := hA0
  obtain ⟨t1, A1, c1, rfl, hT1, hok1, hn1⟩ := argT (hval 1 29 _ rfl rfl) h1
  obtain ⟨t2, A2, c2, rfl, hT2, hok2, hn2⟩ := argT (hval 2 29 _ rfl rfl) h2
  obtain ⟨t3, A3, c3, rfl, hT3, hok3, hn3⟩ := argT (hval 3 29 _ rfl rfl) h3
  obtain ⟨a4, hA4, hok4, hn4⟩ := argA (hval 4 25 _ rfl rfl) h4
  obtain ⟨A4, c4, B4, d4x, rfl, kA4⟩ := hA4
  have hb := bound hk
  simp only [List.append_nil, Rows.uptoBulkAll] at hb
  refine (AuthzBack_calls W (laid_table hL) (by omega) (by omega) (by omega) (by omega) (by omega) ⟨A0, c0, B0, d0x, rfl, kA0⟩ hT1 hT2 hT3 ⟨A4, c4, B4, d4x, rfl, kA4⟩).mono fun e W' ⟨he, bel⟩ => ?_
  subst he
  exact ⟨_, rfl, _, _, _, [], _, [], hW', trodAll_mk1 (shut_bool Tryd.underlying4 _), (trodAll_cons_mk (backA h0 bel) (trodAll_cons_mk (backT h1 bel) (trodAll_cons_mk (backT h2 bel) (trodAll_cons_mk (backT h3 bel) (trodAll_cons_mk (backA h4 bel) trodAll_mk0))))), rfl, bel.frame _, fun h => by cases h⟩

set_option maxRecDepth 100000 in
theorem liftedUpto (os : Os) (started : os.Started) (H : Type) (enc : TypeId × Value → H) (F : Stop.Interp) :
    ReturnsInHanded {} Tryd.checked os 6 .any ((Rows.OpenSpec.upto Rows.authzBackSpec).preRow enc Tryd.prog Tryd.f6 Rows.authzBackUptoRow.domain false Rows.authzBackUptoRow.laid) (((Rows.OpenSpec.upto Rows.authzBackSpec).at F).post enc Tryd.prog Tryd.f6 false true false false) := by
  obtain ⟨ds, places, hx, hsm⟩ := reads os enc
  refine returnsInHanded_of_row (C := Tryd.checked) (s := Rows.OpenSpec.upto Rows.authzBackSpec) own started (by kernel_rfl) Tryd.func6
    (witness_row_at (enc := enc) (C := Tryd.checked) false (laidWorld os) #[.agg #[.string ⟨#[]⟩, .slice none 0 0, .int .i64 0, .slice none 0 0, .string ⟨#[]⟩, .bool false, .int .i64 0], wit, wit, wit, .agg #[.string ⟨#[]⟩, .slice none 0 0, .int .i64 0, .slice none 0 0, .string ⟨#[]⟩, .bool false, .int .i64 0]] rfl (by kernel_rfl) (by kernel_rfl) (by kernel_rfl)
      (OpenSpec.preRow_of_cond 8 hx (by kernel_rfl) (fun k hk => by cases hk; rw [List.append_nil]; exact hsm) (by kernel_rfl) (laid_met os))) ?_
  intro W base args ds gs before hval hW h1 h2 h3 hL h4 h5
  exact contract H enc W base args ds gs before hval hW hL (by first | exact h2 _ rfl | exact h3 _ rfl | exact h4 _ rfl | exact h5 _ rfl)

theorem saidUpto : Rows.AuthzBackUptoSaid :=
  OpenClaim.holds_of_cond 6 Tryd.f6 rfl rfl rfl rfl rfl rfl rfl ⟨rfl, rfl, rfl, rfl, rfl⟩ rfl rfl rfl rfl rfl (by kernel_rfl) Tryd.func6 (by kernel_rfl)
    (of_decide_eq_true (by kernel_rfl)) (by unfold Func.isWrapper; first | (rw [if_pos (by decide +kernel)]; kernel_rfl) | (rw [if_neg (by decide +kernel)]; exact ⟨rfl, rfl⟩))
    (fun os started H enc _ F => by rw [OpenClaim.pre_eq_preRow]; exact liftedUpto os started H enc F)

theorem plain (f : FuncId) (fn : Func) (hf : Tryd.pinned.checked.prog.funcNamed Rows.authzBackUptoRow.func = some f) (hfn : Tryd.pinned.checked.prog.funcs[f]? = some fn) :
    false = Tryd.pinned.checked.prog.looks [] ∧ ∀ (j : Nat) t, fn.params[j]? = some t → Tryd.pinned.checked.prog.wantsStandIn t = false := by
  obtain rfl : f = 6 := Option.some.inj ((show Tryd.prog.funcNamed Rows.authzBackUptoRow.func = some 6 by kernel_rfl).symm.trans hf) |>.symm
  obtain rfl : fn = Tryd.f6 := (Option.some.inj (Tryd.func6.symm.trans hfn)).symm
  refine ⟨by kernel_rfl, fun j t ht => ?_⟩
  rw [Tryd.params6] at ht
  have hm : ∀ x ∈ ([25, 29, 29, 29, 25] : List Nat), Tryd.prog.wantsStandIn x = false := by
    intro x hx
    simp only [List.mem_cons, List.not_mem_nil, or_false] at hx
    rcases hx with rfl | rfl | rfl | rfl | rfl <;> kernel_rfl
  exact hm t (by simpa using Array.mem_of_getElem? ht)

theorem cardUpto : Rows.AuthzBackUptoCardSaid :=
  Claim7.holds_tied_plain_at .later [] _ _ _ _ saidUpto (fun _ h => by cases h) (by kernel_rfl) (fun _ h => by cases h) authzBackUpto_row_tie rfl ⟨rfl, rfl⟩ (by kernel_rfl) rfl plain (by kernel_rfl)
end Go.Proofs.YtimommkbfbdkdaaDoor.authzBack
namespace Go.Proofs.YtimommkbfbdkdaaDoor
theorem authzBack_holds : Rows.AuthzBackUptoCardSaid := authzBack.cardUpto
end Go.Proofs.YtimommkbfbdkdaaDoor
#print axioms Go.Proofs.YtimommkbfbdkdaaDoor.authzBack_holds
