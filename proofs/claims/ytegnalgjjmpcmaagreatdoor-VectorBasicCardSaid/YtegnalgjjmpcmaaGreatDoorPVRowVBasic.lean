/- VectorBasic: Valid, Add, Sub, Neg, Zero and Cmp give the specified results, for any two vectors whose integers have at most 12 bytes, valid or not, and Of for any three integers: the card of the given row, without a condition of its own. -/
import Derived.Test.YtegnalgjjmpcmaaGreatDoorPVLawVB
import Derived.Test.YtegnalgjjmpcmaaGreatDoorPVRowV
namespace Go.Proofs.YtegnalgjjmpcmaaGreatDoor.vectorBasic
open Go.ChangeShapes Go.WideShapes Go.ChangeAt Go.RowKit Go.Joins Go.Proofs.YtegnalgjjmpcmaaGreatDoor
open Go.ChangeMaps (open_string shut_string)
set_option maxRecDepth 100000
set_option linter.unusedVariables false
theorem contract (H : Type) (enc : TypeId × Value → H) (W : World) (base : Nat) (args : Array Value) (ds gs : List (DataW H)) (before : List MemPlace)
    (hval : ∀ (j : Nat) t v, Tryz.f8.params[j]? = some t → args[j]? = some v → Value.okWide Tryz.prog W .any base t v)
    (hW : DataW.Whole enc Tryz.prog Tryz.f8.params.toList Rows.vectorBasicSpec.vars false W args.toList ds gs before) (hL : laidMetH Tryz.prog Rows.vectorBasicRow.laid W) :
    Calls Tryz.prog 8 args W fun e W' => ∃ v, e = .returned v ∧ Rows.vectorBasicSpec.post enc Tryz.prog Tryz.f8 false true false false W args v W' := by
  have hT : HasTab W := tab_of_row (by kernel_rfl) (by kernel_rfl) hL
  have hW' := hW
  obtain ⟨p, q, hA0, hV, rfl, hfz, hnd⟩ := hW
  have hA : DataW.TrodAll enc Tryz.prog W 0 (fun _ => true) true Tryz.f8.params.toList args.toList ds p := hA0
  rw [Tryz.params8] at hA hval
  obtain ⟨v0, vs0, d0, ds0, p0, q0, hargs, rfl, rfl, h0, r0⟩ := trodAll_cons hA
  obtain ⟨v1, vs1, d1, ds1, p1, q1, rfl, rfl, rfl, h1, r1⟩ := trodAll_cons r0
  obtain ⟨v2, vs2, d2, ds2, p2, q2, rfl, rfl, rfl, h2, r2⟩ := trodAll_cons r1
  obtain ⟨rfl, rfl, rfl⟩ := trodAll_nil r2
  obtain rfl : args = #[v0, v1, v2] := by cases args; simp_all
  obtain ⟨rfl, rfl⟩ := trodVars_none hV
  obtain ⟨a0, rfl, rfl, rfl, m0⟩ := open_Vec (hval 0 28 v0 rfl rfl) h0
  obtain ⟨a1, rfl, rfl, rfl, m1⟩ := open_Vec (hval 1 28 v1 rfl rfl) h1
  obtain ⟨a2, b2, c2, rfl, rfl, rfl, m2, n2, o2⟩ := open_P3 (hval 2 45 v2 rfl rfl) h2
  clear hA0
  simp only [List.append_nil] at hW'
  refine (VB_all a0 a1 a2 b2 c2 W hT (bounds_i64 m2).1 (bounds_i64 m2).2 (bounds_i64 n2).1 (bounds_i64 n2).2 (bounds_i64 o2).1 (bounds_i64 o2).2).mono fun e W' ⟨he, bel⟩ => ?_
  subst he
  exact ⟨_, rfl, _, _, _, [], _, [], hW', trodAll_mk1 (shut_bool Tryz.underlying4 _), (trodAll_cons_mk (shut_Vec a0 m0) (trodAll_cons_mk (shut_Vec a1 m1) (trodAll_cons_mk (shut_P3 a2 b2 c2 m2 n2 o2) trodAll_mk0))), rfl, bel.frame _, fun h => by cases h⟩
def wit : Array Value := #[zeroVec, zeroVec, .agg #[.int .i64 0, .int .i64 0, .int .i64 0]]
theorem reads (os : Os) {H : Type} (enc : TypeId × Value → H) : ∃ places, DataW.whole enc Tryz.prog ((World.laidAll Tryz.prog os Rows.vectorBasicRow.laid).forCall (fun _ _ => 0) ⟨#[], wit, []⟩).memory Tryz.f8.params.toList Rows.vectorBasicSpec.vars false wit.toList 8 = some ([zeroVD, zeroVD, .agg [.lit (.int .i64 0), .lit (.int .i64 0), .lit (.int .i64 0)]], [], places) :=
  ⟨[], by kernel_rfl⟩
theorem lifted (os : Os) (started : os.Started) (H : Type) (enc : TypeId × Value → H) (F : Stop.Interp) :
    ReturnsInHanded {} Tryz.checked os 8 .any ((OpenSpec.ofChange Rows.vectorBasicSpec).preRow enc Tryz.prog Tryz.f8 Rows.vectorBasicRow.domain false Rows.vectorBasicRow.laid) (((OpenSpec.ofChange Rows.vectorBasicSpec).at F).post enc Tryz.prog Tryz.f8 false true false false) := by
  obtain ⟨places, hx⟩ := reads os enc
  refine returnsInHanded_of_row (C := Tryz.checked) (s := OpenSpec.ofChange Rows.vectorBasicSpec) rowOwn started (by kernel_rfl) Tryz.func8
    (witness_row_at (enc := enc) (C := Tryz.checked) false (World.laidAll Tryz.prog os Rows.vectorBasicRow.laid) wit (World.laidAll_os _ _ _) (by kernel_rfl) (by kernel_rfl) (by kernel_rfl)
      (OpenSpec.preRow_of_cond 8 hx (by kernel_rfl) (fun k hk => by cases hk) (by kernel_rfl) (laidMet_laidAll _ (by kernel_rfl) (by kernel_rfl)))) ?_
  intro W base args ds gs before hval hW _ _ _ hL _ _
  exact contract H enc W base args ds gs before hval hW hL
theorem said : Rows.VectorBasicSaid :=
  OpenClaim.holds_of_cond 8 Tryz.f8 rfl rfl rfl rfl rfl rfl rfl ⟨rfl, rfl, rfl, rfl, rfl⟩ rfl rfl rfl rfl rfl (by kernel_rfl) Tryz.func8 (by kernel_rfl)
    (of_decide_eq_true (by kernel_rfl)) (by unfold Func.isWrapper; first | (rw [if_pos (by decide +kernel)]; kernel_rfl) | (rw [if_neg (by decide +kernel)]; exact ⟨rfl, rfl⟩))
    (fun os started H enc _ F => by rw [OpenClaim.pre_eq_preRow]; exact lifted os started H enc F)
theorem plain (f : FuncId) (fn : Func) (hf : Tryz.pinned.checked.prog.funcNamed "culet/culetlaw04.VectorBasic" = some f) (hfn : Tryz.pinned.checked.prog.funcs[f]? = some fn) :
    false = Tryz.pinned.checked.prog.looks [] ∧ ∀ (j : Nat) t, fn.params[j]? = some t → Tryz.pinned.checked.prog.wantsStandIn t = false := by
  obtain rfl : f = 8 := Option.some.inj ((show Tryz.prog.funcNamed "culet/culetlaw04.VectorBasic" = some 8 by kernel_rfl).symm.trans hf) |>.symm
  obtain rfl : fn = Tryz.f8 := (Option.some.inj (Tryz.func8.symm.trans hfn)).symm
  refine ⟨by kernel_rfl, fun j t ht => ?_⟩
  rw [Tryz.params8] at ht
  have h : t = 28 ∨ t = 45 := by
    have h9 := Array.mem_of_getElem? ht
    simp at h9
    (first | (rcases h9 with rfl | rfl | rfl | rfl <;> simp) | (rcases h9 with rfl | rfl | rfl <;> simp) | (rcases h9 with rfl | rfl <;> simp))
  rcases h with rfl | rfl
  · exact (show Tryz.prog.wantsStandIn 28 = false by kernel_rfl)
  · exact (show Tryz.prog.wantsStandIn 45 = false by kernel_rfl)
end Go.Proofs.YtegnalgjjmpcmaaGreatDoor.vectorBasic
namespace Go.Proofs.YtegnalgjjmpcmaaGreatDoor
set_option maxRecDepth 100000
theorem vectorBasic_holds : Rows.VectorBasicCardSaid :=
  Claim7.holds_tied_plain_at .later [] _ _ _ _ vectorBasic.said (fun _ h => by cases h) (by kernel_rfl) (fun _ h => by cases h) vectorBasic_row_tie rfl ⟨rfl, rfl⟩ (by kernel_rfl) rfl vectorBasic.plain (by kernel_rfl)
#print axioms vectorBasic_holds
end Go.Proofs.YtegnalgjjmpcmaaGreatDoor
