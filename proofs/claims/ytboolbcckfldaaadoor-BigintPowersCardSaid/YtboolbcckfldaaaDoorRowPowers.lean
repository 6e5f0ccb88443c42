/- BigintPowers: Of, Int64, Pow and Sqrt answer alike with the plain reference, for whatever machine integer, whatever integer, valid or not, and whatever power -/
import Derived.Test.YtboolbcckfldaaaDoorLawPowers
import Derived.Test.YtboolbcckfldaaaDoorRowA
namespace Go.Proofs.YtboolbcckfldaaaDoor.bigintPowers
open Go.ChangeShapes Go.WideShapes Go.ChangeAt Go.RowKit Go.Joins Go.Proofs.YtboolbcckfldaaaDoor
open Go.ChangeMaps (open_string shut_string)
set_option linter.unusedVariables false

set_option maxRecDepth 100000 in
theorem contract (H : Type) (enc : TypeId × Value → H) (W : World) (base : Nat) (args : Array Value) (ds gs : List (DataW H)) (before : List MemPlace)
    (hval : ∀ (j : Nat) t v, Tryd.f6.params[j]? = some t → args[j]? = some v → Value.okWide Tryd.prog W .any base t v)
    (hW : DataW.Whole enc Tryd.prog Tryd.f6.params.toList Rows.bigintPowersSpec.vars false W args.toList ds gs before) (hL : laidMetH Tryd.prog Rows.bigintPowersRow.laid W) :
    Calls Tryd.prog 6 args W fun e W' => ∃ v, e = .returned v ∧ Rows.bigintPowersSpec.post enc Tryd.prog Tryd.f6 false true false false W args v W' := by
  have hT : HasTab W := tab_of_row (by kernel_rfl) (by kernel_rfl) hL
  have hW' := hW
  obtain ⟨p, q, hA0, hV, rfl, hfz, hnd⟩ := hW
  have hA : DataW.TrodAll enc Tryd.prog W 0 (fun _ => true) true Tryd.f6.params.toList args.toList ds p := hA0
  rw [Tryd.params6] at hA hval
  obtain ⟨v0, vs0, d0, ds0, p0, q0, hargs, rfl, rfl, h0, r0⟩ := trodAll_cons hA
  obtain ⟨v1, vs1, d1, ds1, p1, q1, rfl, rfl, rfl, h1, r1⟩ := trodAll_cons r0
  obtain ⟨v2, vs2, d2, ds2, p2, q2, rfl, rfl, rfl, h2, r2⟩ := trodAll_cons r1
  obtain ⟨rfl, rfl, rfl⟩ := trodAll_nil r2
  obtain rfl : args = #[v0, v1, v2] := by cases args; simp_all
  obtain ⟨rfl, rfl⟩ := trodVars_none hV
  obtain ⟨a0, rfl, rfl, rfl, m0⟩ := open_int Tryd.underlying3 (hval 0 3 v0 rfl rfl) h0
  obtain ⟨a1, s1, rfl, rfl, rfl, m1⟩ := open_Int (hval 1 23 v1 rfl rfl) h1
  obtain ⟨a2, rfl, rfl, rfl, m2⟩ := open_int Tryd.underlying3 (hval 2 3 v2 rfl rfl) h2
  clear hA0
  simp only [List.append_nil] at hW'
  refine (Powers_i64 a0 a1 s1 a2 m0 m2 W hT).mono fun e W' ⟨he, bel⟩ => ?_
  subst he
  exact ⟨_, rfl, _, _, _, [], _, [], hW', trodAll_mk1 (shut_bool Tryd.underlying4 _), (trodAll_cons_mk (shut_int Tryd.underlying3 m0) (trodAll_cons_mk (shut_Int a1 s1 m1) (trodAll_cons_mk (shut_int Tryd.underlying3 m2) trodAll_mk0))), rfl, bel.frame _, fun h => by cases h⟩

def wit : Array Value := #[.int .i64 0, zeroInt, .int .i64 0]
theorem reads (os : Os) {H : Type} (enc : TypeId × Value → H) : ∃ places, DataW.whole enc Tryd.prog ((World.laidAll Tryd.prog os Rows.bigintPowersRow.laid).forCall (fun _ _ => 0) ⟨#[], wit, []⟩).memory Tryd.f6.params.toList Rows.bigintPowersSpec.vars false wit.toList 8 = some ([.lit (.int .i64 0), zeroD, .lit (.int .i64 0)], [], places) :=
  ⟨[], by kernel_rfl⟩

set_option maxRecDepth 100000 in
theorem lifted (os : Os) (started : os.Started) (H : Type) (enc : TypeId × Value → H) (F : Stop.Interp) :
    ReturnsInHanded {} Tryd.checked os 6 .any ((OpenSpec.ofChange Rows.bigintPowersSpec).preRow enc Tryd.prog Tryd.f6 Rows.bigintPowersRow.domain false Rows.bigintPowersRow.laid) (((OpenSpec.ofChange Rows.bigintPowersSpec).at F).post enc Tryd.prog Tryd.f6 false true false false) := by
  obtain ⟨places, hx⟩ := reads os enc
  refine returnsInHanded_of_row (C := Tryd.checked) (s := OpenSpec.ofChange Rows.bigintPowersSpec) rowOwn started (by kernel_rfl) Tryd.func6
    (witness_row_at (enc := enc) (C := Tryd.checked) false (World.laidAll Tryd.prog os Rows.bigintPowersRow.laid) wit (World.laidAll_os _ _ _) (by kernel_rfl) (by kernel_rfl) (by kernel_rfl)
      (OpenSpec.preRow_of_cond 8 hx (by kernel_rfl) (fun k hk => by cases hk) (by kernel_rfl) (laidMet_laidAll _ (by kernel_rfl) (by kernel_rfl)))) ?_
  intro W base args ds gs before hval hW _ _ _ hL _ _
  exact contract H enc W base args ds gs before hval hW hL

theorem said : Rows.BigintPowersSaid :=
  OpenClaim.holds_of_cond 6 Tryd.f6 rfl rfl rfl rfl rfl rfl rfl ⟨rfl, rfl, rfl, rfl, rfl⟩ rfl rfl rfl rfl rfl (by kernel_rfl) Tryd.func6 (by kernel_rfl)
    (of_decide_eq_true (by kernel_rfl)) (by unfold Func.isWrapper; first | (rw [if_pos (by decide +kernel)]; kernel_rfl) | (rw [if_neg (by decide +kernel)]; exact ⟨rfl, rfl⟩))
    (fun os started H enc _ F => by rw [OpenClaim.pre_eq_preRow]; exact lifted os started H enc F)

theorem plain (f : FuncId) (fn : Func) (hf : Tryd.pinned.checked.prog.funcNamed "culet/culetlaw01.BigintPowers" = some f) (hfn : Tryd.pinned.checked.prog.funcs[f]? = some fn) :
    false = Tryd.pinned.checked.prog.looks [] ∧ ∀ (j : Nat) t, fn.params[j]? = some t → Tryd.pinned.checked.prog.wantsStandIn t = false := by
  obtain rfl : f = 6 := Option.some.inj ((show Tryd.prog.funcNamed "culet/culetlaw01.BigintPowers" = some 6 by kernel_rfl).symm.trans hf) |>.symm
  obtain rfl : fn = Tryd.f6 := (Option.some.inj (Tryd.func6.symm.trans hfn)).symm
  refine ⟨by kernel_rfl, fun j t ht => ?_⟩
  rw [Tryd.params6] at ht
  have h : t = 3 ∨ t = 23 := by
    have h9 := Array.mem_of_getElem? ht
    simp at h9
    (first | (rcases h9 with rfl | rfl | rfl | rfl <;> simp) | (rcases h9 with rfl | rfl | rfl <;> simp) | (rcases h9 with rfl | rfl <;> simp))
  rcases h with rfl | rfl
  · exact (show Tryd.prog.wantsStandIn 3 = false by kernel_rfl)
  · exact (show Tryd.prog.wantsStandIn 23 = false by kernel_rfl)

end Go.Proofs.YtboolbcckfldaaaDoor.bigintPowers
namespace Go.Proofs.YtboolbcckfldaaaDoor
theorem bigintPowers_holds : Rows.BigintPowersCardSaid :=
  Claim7.holds_tied_plain_at .later [] _ _ _ _ bigintPowers.said (fun _ h => by cases h) (by kernel_rfl) (fun _ h => by cases h) bigintPowers_row_tie rfl ⟨rfl, rfl⟩ (by kernel_rfl) rfl bigintPowers.plain (by kernel_rfl)
#print axioms bigintPowers_holds
end Go.Proofs.YtboolbcckfldaaaDoor
