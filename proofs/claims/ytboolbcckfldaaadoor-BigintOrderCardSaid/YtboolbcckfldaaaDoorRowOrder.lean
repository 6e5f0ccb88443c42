/- BigintOrder: Cmp is a total order that addition and multiplication by positive integers keep, and Bits counts binary digits, for whatever three integers, valid or not: the card of the given row, without a condition of its own. -/
import Derived.Test.YtboolbcckfldaaaDoorLawOrder
import Derived.Test.YtboolbcckfldaaaDoorRowA
namespace Go.Proofs.YtboolbcckfldaaaDoor.bigintOrder
open Go.ChangeShapes Go.WideShapes Go.ChangeAt Go.RowKit Go.Joins Go.Proofs.YtboolbcckfldaaaDoor
open Go.ChangeMaps (open_string shut_string)
set_option linter.unusedVariables false

set_option maxRecDepth 100000 in
theorem contract (H : Type) (enc : TypeId × Value → H) (W : World) (base : Nat) (args : Array Value) (ds gs : List (DataW H)) (before : List MemPlace)
    (hval : ∀ (j : Nat) t v, Tryd.f5.params[j]? = some t → args[j]? = some v → Value.okWide Tryd.prog W .any base t v)
    (hW : DataW.Whole enc Tryd.prog Tryd.f5.params.toList Rows.bigintOrderSpec.vars false W args.toList ds gs before) (hL : laidMetH Tryd.prog Rows.bigintOrderRow.laid W) :
    Calls Tryd.prog 5 args W fun e W' => ∃ v, e = .returned v ∧ Rows.bigintOrderSpec.post enc Tryd.prog Tryd.f5 false true false false W args v W' := by
  have hT : HasTab W := tab_of_row (by kernel_rfl) (by kernel_rfl) hL
  have hW' := hW
  obtain ⟨p, q, hA0, hV, rfl, hfz, hnd⟩ := hW
  have hA : DataW.TrodAll enc Tryd.prog W 0 (fun _ => true) true Tryd.f5.params.toList args.toList ds p := hA0
  rw [Tryd.params5] at hA hval
  obtain ⟨v0, vs0, d0, ds0, p0, q0, hargs, rfl, rfl, h0, r0⟩ := trodAll_cons hA
  obtain ⟨v1, vs1, d1, ds1, p1, q1, rfl, rfl, rfl, h1, r1⟩ := trodAll_cons r0
  obtain ⟨v2, vs2, d2, ds2, p2, q2, rfl, rfl, rfl, h2, r2⟩ := trodAll_cons r1
  obtain ⟨rfl, rfl, rfl⟩ := trodAll_nil r2
  obtain rfl : args = #[v0, v1, v2] := by cases args; simp_all
  obtain ⟨rfl, rfl⟩ := trodVars_none hV
  obtain ⟨a0, s0, rfl, rfl, rfl, m0⟩ := open_Int (hval 0 23 v0 rfl rfl) h0
  obtain ⟨a1, s1, rfl, rfl, rfl, m1⟩ := open_Int (hval 1 23 v1 rfl rfl) h1
  obtain ⟨a2, s2, rfl, rfl, rfl, m2⟩ := open_Int (hval 2 23 v2 rfl rfl) h2
  clear hA0
  simp only [List.append_nil] at hW'
  refine (Order_all a0 a1 a2 s0 s1 s2 W hT).mono fun e W' ⟨he, bel⟩ => ?_
  subst he
  exact ⟨_, rfl, _, _, _, [], _, [], hW', trodAll_mk1 (shut_bool Tryd.underlying4 _), (trodAll_cons_mk (shut_Int a0 s0 m0) (trodAll_cons_mk (shut_Int a1 s1 m1) (trodAll_cons_mk (shut_Int a2 s2 m2) trodAll_mk0))), rfl, bel.frame _, fun h => by cases h⟩

def wit : Array Value := #[zeroInt, zeroInt, zeroInt]
theorem reads (os : Os) {H : Type} (enc : TypeId × Value → H) : ∃ places, DataW.whole enc Tryd.prog ((World.laidAll Tryd.prog os Rows.bigintOrderRow.laid).forCall (fun _ _ => 0) ⟨#[], wit, []⟩).memory Tryd.f5.params.toList Rows.bigintOrderSpec.vars false wit.toList 8 = some ([zeroD, zeroD, zeroD], [], places) :=
  ⟨[], by kernel_rfl⟩

set_option maxRecDepth 100000 in
theorem lifted (os : Os) (started : os.Started) (H : Type) (enc : TypeId × Value → H) (F : Stop.Interp) :
    ReturnsInHanded {} Tryd.checked os 5 .any ((OpenSpec.ofChange Rows.bigintOrderSpec).preRow enc Tryd.prog Tryd.f5 Rows.bigintOrderRow.domain false Rows.bigintOrderRow.laid) (((OpenSpec.ofChange Rows.bigintOrderSpec).at F).post enc Tryd.prog Tryd.f5 false true false false) := by
  obtain ⟨places, hx⟩ := reads os enc
  refine returnsInHanded_of_row (C := Tryd.checked) (s := OpenSpec.ofChange Rows.bigintOrderSpec) rowOwn started (by kernel_rfl) Tryd.func5
    (witness_row_at (enc := enc) (C := Tryd.checked) false (World.laidAll Tryd.prog os Rows.bigintOrderRow.laid) wit (World.laidAll_os _ _ _) (by kernel_rfl) (by kernel_rfl) (by kernel_rfl)
      (OpenSpec.preRow_of_cond 8 hx (by kernel_rfl) (fun k hk => by cases hk) (by kernel_rfl) (laidMet_laidAll _ (by kernel_rfl) (by kernel_rfl)))) ?_
  intro W base args ds gs before hval hW _ _ _ hL _ _
  exact contract H enc W base args ds gs before hval hW hL

theorem said : Rows.BigintOrderSaid :=
  OpenClaim.holds_of_cond 5 Tryd.f5 rfl rfl rfl rfl rfl rfl rfl ⟨rfl, rfl, rfl, rfl, rfl⟩ rfl rfl rfl rfl rfl (by kernel_rfl) Tryd.func5 (by kernel_rfl)
    (of_decide_eq_true (by kernel_rfl)) (by unfold Func.isWrapper; first | (rw [if_pos (by decide +kernel)]; kernel_rfl) | (rw [if_neg (by decide +kernel)]; exact ⟨rfl, rfl⟩))
    (fun os started H enc _ F => by rw [OpenClaim.pre_eq_preRow]; exact lifted os started H enc F)

theorem plain (f : FuncId) (fn : Func) (hf : Tryd.pinned.checked.prog.funcNamed "culet/culetlaw01.BigintOrder" = some f) (hfn : Tryd.pinned.checked.prog.funcs[f]? = some fn) :
    false = Tryd.pinned.checked.prog.looks [] ∧ ∀ (j : Nat) t, fn.params[j]? = some t → Tryd.pinned.checked.prog.wantsStandIn t = false := by
  obtain rfl : f = 5 := Option.some.inj ((show Tryd.prog.funcNamed "culet/culetlaw01.BigintOrder" = some 5 by kernel_rfl).symm.trans hf) |>.symm
  obtain rfl : fn = Tryd.f5 := (Option.some.inj (Tryd.func5.symm.trans hfn)).symm
  refine ⟨by kernel_rfl, fun j t ht => ?_⟩
  rw [Tryd.params5] at ht
  have h : t = 23 := by simpa using Array.mem_of_getElem? ht
  subst h
  exact (show Tryd.prog.wantsStandIn 23 = false by kernel_rfl)

end Go.Proofs.YtboolbcckfldaaaDoor.bigintOrder
namespace Go.Proofs.YtboolbcckfldaaaDoor
theorem bigintOrder_holds : Rows.BigintOrderCardSaid :=
  Claim7.holds_tied_plain_at .later [] _ _ _ _ bigintOrder.said (fun _ h => by cases h) (by kernel_rfl) (fun _ h => by cases h) bigintOrder_row_tie rfl ⟨rfl, rfl⟩ (by kernel_rfl) rfl bigintOrder.plain (by kernel_rfl)
#print axioms bigintOrder_holds
end Go.Proofs.YtboolbcckfldaaaDoor
