/- BigintRoots: powers multiply, and Sqrt gives the root rounded down, for whatever integer, valid or not, and whatever two powers: the card of the given row, without a condition of its own. -/
import Derived.Test.YtboolbcckfldaaaDoorLawRoots
import Derived.Test.YtboolbcckfldaaaDoorRowA
namespace Go.Proofs.YtboolbcckfldaaaDoor.roots
open Go.ChangeShapes Go.WideShapes Go.ChangeAt Go.RowKit Go.Joins Go.Proofs.YtboolbcckfldaaaDoor
set_option linter.unusedVariables false

theorem Roots_u8 (n : Bool) (s : ByteArray) (j k : Int) (hj : (Lit.int .u8 j).wf = true) (hk : (Lit.int .u8 k).wf = true) (w : World) (ht : HasTab w) : Calls Tryd.prog 4 #[.agg #[.bool n, .string s], .int .u8 j, .int .u8 k] w (RetB true w) := by
  have h1 : 0 ≤ j ∧ j ≤ 255 := by simpa [Lit.wf, IntKind.min, IntKind.max, IntKind.signed, IntKind.bits] using hj
  have h2 : 0 ≤ k ∧ k ≤ 255 := by simpa [Lit.wf, IntKind.min, IntKind.max, IntKind.signed, IntKind.bits] using hk
  obtain ⟨j', rfl⟩ : ∃ m : Nat, j = m := ⟨j.toNat, by omega⟩
  obtain ⟨k', rfl⟩ : ∃ m : Nat, k = m := ⟨k.toNat, by omega⟩
  exact Roots_all n s j' k' (by omega) (by omega) w ht
set_option maxRecDepth 100000 in
theorem contract (H : Type) (enc : TypeId × Value → H) (W : World) (base : Nat) (args : Array Value) (ds gs : List (DataW H)) (before : List MemPlace)
    (hval : ∀ (j : Nat) t v, Tryd.f4.params[j]? = some t → args[j]? = some v → Value.okWide Tryd.prog W .any base t v)
    (hW : DataW.Whole enc Tryd.prog Tryd.f4.params.toList Rows.bigintRootsSpec.vars false W args.toList ds gs before) (hL : laidMetH Tryd.prog Rows.bigintRootsRow.laid W) :
    Calls Tryd.prog 4 args W fun e W' => ∃ v, e = .returned v ∧ Rows.bigintRootsSpec.post enc Tryd.prog Tryd.f4 false true false false W args v W' := by
  have hT : HasTab W := tab_of_row (by kernel_rfl) (by kernel_rfl) hL
  have hW' := hW
  obtain ⟨p, q, hA0, hV, rfl, hfz, hnd⟩ := hW
  have hA : DataW.TrodAll enc Tryd.prog W 0 (fun _ => true) true Tryd.f4.params.toList args.toList ds p := hA0
  rw [Tryd.params4] at hA hval
  obtain ⟨v0, vs0, d0, ds0, p0, q0, hargs, rfl, rfl, h0, r0⟩ := trodAll_cons hA
  obtain ⟨v1, vs1, d1, ds1, p1, q1, rfl, rfl, rfl, h1, r1⟩ := trodAll_cons r0
  obtain ⟨v2, vs2, d2, ds2, p2, q2, rfl, rfl, rfl, h2, r2⟩ := trodAll_cons r1
  obtain ⟨rfl, rfl, rfl⟩ := trodAll_nil r2
  obtain rfl : args = #[v0, v1, v2] := by cases args; simp_all
  obtain ⟨rfl, rfl⟩ := trodVars_none hV
  obtain ⟨a, r, rfl, rfl, rfl, m0⟩ := open_Int (hval 0 23 v0 rfl rfl) h0
  obtain ⟨b, rfl, rfl, rfl, m1⟩ := open_int Tryd.underlying5 (hval 1 5 v1 rfl rfl) h1
  obtain ⟨c, rfl, rfl, rfl, m2⟩ := open_int Tryd.underlying5 (hval 2 5 v2 rfl rfl) h2
  clear hA0
  simp only [List.append_nil] at hW'
  refine (Roots_u8 a r b c m1 m2 W hT).mono fun e W' ⟨he, bel⟩ => ?_
  subst he
  exact ⟨_, rfl, _, _, _, [], _, [], hW', trodAll_mk1 (shut_bool Tryd.underlying4 _), trodAll_cons_mk (shut_Int a r m0) (trodAll_cons_mk (shut_int Tryd.underlying5 m1) (trodAll_cons_mk (shut_int Tryd.underlying5 m2) trodAll_mk0)), rfl, bel.frame _, fun h => by cases h⟩

def wit : Array Value := #[zeroInt, .int .u8 0, .int .u8 0]
theorem reads (os : Os) {H : Type} (enc : TypeId × Value → H) : ∃ places, DataW.whole enc Tryd.prog ((World.laidAll Tryd.prog os Rows.bigintRootsRow.laid).forCall (fun _ _ => 0) ⟨#[], wit, []⟩).memory Tryd.f4.params.toList Rows.bigintRootsSpec.vars false wit.toList 8 = some ([zeroD, .lit (.int .u8 0), .lit (.int .u8 0)], [], places) :=
  ⟨[], by kernel_rfl⟩

set_option maxRecDepth 100000 in
theorem lifted (os : Os) (started : os.Started) (H : Type) (enc : TypeId × Value → H) (F : Stop.Interp) :
    ReturnsInHanded {} Tryd.checked os 4 .any ((OpenSpec.ofChange Rows.bigintRootsSpec).preRow enc Tryd.prog Tryd.f4 Rows.bigintRootsRow.domain false Rows.bigintRootsRow.laid) (((OpenSpec.ofChange Rows.bigintRootsSpec).at F).post enc Tryd.prog Tryd.f4 false true false false) := by
  obtain ⟨places, hx⟩ := reads os enc
  refine returnsInHanded_of_row (C := Tryd.checked) (s := OpenSpec.ofChange Rows.bigintRootsSpec) rowOwn started (by kernel_rfl) Tryd.func4
    (witness_row_at (enc := enc) (C := Tryd.checked) false (World.laidAll Tryd.prog os Rows.bigintRootsRow.laid) wit (World.laidAll_os _ _ _) (by kernel_rfl) (by kernel_rfl) (by kernel_rfl)
      (OpenSpec.preRow_of_cond 8 hx (by kernel_rfl) (fun k hk => by cases hk) (by kernel_rfl) (laidMet_laidAll _ (by kernel_rfl) (by kernel_rfl)))) ?_
  intro W base args ds gs before hval hW _ _ _ hL _ _
  exact contract H enc W base args ds gs before hval hW hL

theorem said : Rows.BigintRootsSaid :=
  OpenClaim.holds_of_cond 4 Tryd.f4 rfl rfl rfl rfl rfl rfl rfl ⟨rfl, rfl, rfl, rfl, rfl⟩ rfl rfl rfl rfl rfl (by kernel_rfl) Tryd.func4 (by kernel_rfl)
    (of_decide_eq_true (by kernel_rfl)) (by unfold Func.isWrapper; first | (rw [if_pos (by decide +kernel)]; kernel_rfl) | (rw [if_neg (by decide +kernel)]; exact ⟨rfl, rfl⟩))
    (fun os started H enc _ F => by rw [OpenClaim.pre_eq_preRow]; exact lifted os started H enc F)

theorem plain (f : FuncId) (fn : Func) (hf : Tryd.pinned.checked.prog.funcNamed "culet/culetlaw01.BigintRoots" = some f) (hfn : Tryd.pinned.checked.prog.funcs[f]? = some fn) :
    false = Tryd.pinned.checked.prog.looks [] ∧ ∀ (j : Nat) t, fn.params[j]? = some t → Tryd.pinned.checked.prog.wantsStandIn t = false := by
  obtain rfl : f = 4 := Option.some.inj ((show Tryd.prog.funcNamed "culet/culetlaw01.BigintRoots" = some 4 by kernel_rfl).symm.trans hf) |>.symm
  obtain rfl : fn = Tryd.f4 := (Option.some.inj (Tryd.func4.symm.trans hfn)).symm
  refine ⟨by kernel_rfl, fun j t ht => ?_⟩
  rw [Tryd.params4] at ht
  have h : t = 23 ∨ t = 5 := by simpa using Array.mem_of_getElem? ht
  rcases h with rfl | rfl
  · exact (show Tryd.prog.wantsStandIn 23 = false by kernel_rfl)
  · exact (show Tryd.prog.wantsStandIn 5 = false by kernel_rfl)

end Go.Proofs.YtboolbcckfldaaaDoor.roots
namespace Go.Proofs.YtboolbcckfldaaaDoor
theorem bigintRoots_holds : Rows.BigintRootsCardSaid :=
  Claim7.holds_tied_plain_at .later [] _ _ _ _ roots.said (fun _ h => by cases h) (by kernel_rfl) (fun _ h => by cases h) bigintRoots_row_tie rfl ⟨rfl, rfl⟩ (by kernel_rfl) rfl roots.plain (by kernel_rfl)
#print axioms bigintRoots_holds
end Go.Proofs.YtboolbcckfldaaaDoor
