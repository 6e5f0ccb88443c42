/- FieldMake: Of, Ratio, Root and Make return the specified numbers or errors for any integers of up to 20 bytes, valid or not, and any machine integers: the card of the given row, without a condition of its own. -/
import Derived.Test.YtegnalgjjmpcmaaGreatDoorPMLawFK
import Derived.Test.YtegnalgjjmpcmaaGreatDoorPMRowF
namespace Go.Proofs.YtegnalgjjmpcmaaGreatDoor.fieldMake
open Go.ChangeShapes Go.WideShapes Go.ChangeAt Go.RowKit Go.Joins Go.Proofs.YtegnalgjjmpcmaaGreatDoor
open Go.ChangeMaps (open_string shut_string)
set_option linter.unusedVariables false

set_option maxRecDepth 100000 in
theorem contract (H : Type) (enc : TypeId × Value → H) (W : World) (base : Nat) (args : Array Value) (ds gs : List (DataW H)) (before : List MemPlace)
    (hval : ∀ (j : Nat) t v, Tryz.f11.params[j]? = some t → args[j]? = some v → Value.okWide Tryz.prog W .any base t v)
    (hW : DataW.Whole enc Tryz.prog Tryz.f11.params.toList Rows.fieldMakeSpec.vars false W args.toList ds gs before) (hL : laidMetH Tryz.prog Rows.fieldMakeRow.laid W) :
    Calls Tryz.prog 11 args W fun e W' => ∃ v, e = .returned v ∧ Rows.fieldMakeSpec.post enc Tryz.prog Tryz.f11 false true false false W args v W' := by
  have hT : HasTab W := tab_of_row (by kernel_rfl) (by kernel_rfl) hL
  have hW' := hW
  obtain ⟨p, q, hA0, hV, rfl, hfz, hnd⟩ := hW
  have hA : DataW.TrodAll enc Tryz.prog W 0 (fun _ => true) true Tryz.f11.params.toList args.toList ds p := hA0
  rw [Tryz.params11] at hA hval
  obtain ⟨v0, vs0, d0, ds0, p0, q0, hargs, rfl, rfl, h0, r0⟩ := trodAll_cons hA
  obtain ⟨v1, vs1, d1, ds1, p1, q1, rfl, rfl, rfl, h1, r1⟩ := trodAll_cons r0
  obtain ⟨v2, vs2, d2, ds2, p2, q2, rfl, rfl, rfl, h2, r2⟩ := trodAll_cons r1
  obtain ⟨rfl, rfl, rfl⟩ := trodAll_nil r2
  obtain rfl : args = #[v0, v1, v2] := by cases args; simp_all
  obtain ⟨rfl, rfl⟩ := trodVars_none hV
  obtain ⟨n00, s00, n01, s01, n02, s02, n03, s03, rfl, rfl, rfl, m00, m01, m02, m03⟩ := open_A4 (hval 0 24 v0 rfl rfl) h0
  obtain ⟨a1, s1, rfl, rfl, rfl, m1⟩ := open_Int (hval 1 23 v1 rfl rfl) h1
  obtain ⟨a2, b2, rfl, rfl, rfl, m2, n2⟩ := open_P64 (hval 2 57 v2 rfl rfl) h2
  clear hA0
  simp only [List.append_nil] at hW'
  refine (FK_all ⟨n00, s00, n01, s01, n02, s02, n03, s03, a1, s1⟩ a2 b2 W hT (bounds_i64 m2).1 (bounds_i64 m2).2 (bounds_i64 n2).1 (bounds_i64 n2).2).mono fun e W' ⟨he, bel⟩ => ?_
  subst he
  exact ⟨_, rfl, _, _, _, [], _, [], hW', trodAll_mk1 (shut_bool Tryz.underlying4 _), (trodAll_cons_mk (shut_A4 n00 n01 n02 n03 s00 s01 s02 s03 m00 m01 m02 m03) (trodAll_cons_mk (shut_Int a1 s1 m1) (trodAll_cons_mk (shut_P64 a2 b2 m2 n2) trodAll_mk0))), rfl, bel.frame _, fun h => by cases h⟩

def wit : Array Value := #[zeroA4, zeroInt, .agg #[.int .i64 0, .int .i64 0]]
theorem reads (os : Os) {H : Type} (enc : TypeId × Value → H) : ∃ places, DataW.whole enc Tryz.prog ((World.laidAll Tryz.prog os Rows.fieldMakeRow.laid).forCall (fun _ _ => 0) ⟨#[], wit, []⟩).memory Tryz.f11.params.toList Rows.fieldMakeSpec.vars false wit.toList 8 = some ([zeroA4D, zeroD, .agg [.lit (.int .i64 0), .lit (.int .i64 0)]], [], places) :=
  ⟨[], by kernel_rfl⟩

set_option maxRecDepth 100000 in
theorem lifted (os : Os) (started : os.Started) (H : Type) (enc : TypeId × Value → H) (F : Stop.Interp) :
    ReturnsInHanded {} Tryz.checked os 11 .any ((OpenSpec.ofChange Rows.fieldMakeSpec).preRow enc Tryz.prog Tryz.f11 Rows.fieldMakeRow.domain false Rows.fieldMakeRow.laid) (((OpenSpec.ofChange Rows.fieldMakeSpec).at F).post enc Tryz.prog Tryz.f11 false true false false) := by
  obtain ⟨places, hx⟩ := reads os enc
  refine returnsInHanded_of_row (C := Tryz.checked) (s := OpenSpec.ofChange Rows.fieldMakeSpec) rowOwn started (by kernel_rfl) Tryz.func11
    (witness_row_at (enc := enc) (C := Tryz.checked) false (World.laidAll Tryz.prog os Rows.fieldMakeRow.laid) wit (World.laidAll_os _ _ _) (by kernel_rfl) (by kernel_rfl) (by kernel_rfl)
      (OpenSpec.preRow_of_cond 8 hx (by kernel_rfl) (fun k hk => by cases hk) (by kernel_rfl) (laidMet_laidAll _ (by kernel_rfl) (by kernel_rfl)))) ?_
  intro W base args ds gs before hval hW _ _ _ hL _ _
  exact contract H enc W base args ds gs before hval hW hL

theorem said : Rows.FieldMakeSaid :=
  OpenClaim.holds_of_cond 11 Tryz.f11 rfl rfl rfl rfl rfl rfl rfl ⟨rfl, rfl, rfl, rfl, rfl⟩ rfl rfl rfl rfl rfl (by kernel_rfl) Tryz.func11 (by kernel_rfl)
    (of_decide_eq_true (by kernel_rfl)) (by unfold Func.isWrapper; first | (rw [if_pos (by decide +kernel)]; kernel_rfl) | (rw [if_neg (by decide +kernel)]; exact ⟨rfl, rfl⟩))
    (fun os started H enc _ F => by rw [OpenClaim.pre_eq_preRow]; exact lifted os started H enc F)

theorem plain (f : FuncId) (fn : Func) (hf : Tryz.pinned.checked.prog.funcNamed "culet/culetlaw02.FieldMake" = some f) (hfn : Tryz.pinned.checked.prog.funcs[f]? = some fn) :
    false = Tryz.pinned.checked.prog.looks [] ∧ ∀ (j : Nat) t, fn.params[j]? = some t → Tryz.pinned.checked.prog.wantsStandIn t = false := by
  obtain rfl : f = 11 := Option.some.inj ((show Tryz.prog.funcNamed "culet/culetlaw02.FieldMake" = some 11 by kernel_rfl).symm.trans hf) |>.symm
  obtain rfl : fn = Tryz.f11 := (Option.some.inj (Tryz.func11.symm.trans hfn)).symm
  refine ⟨by kernel_rfl, fun j t ht => ?_⟩
  rw [Tryz.params11] at ht
  have h : t = 24 ∨ t = 23 ∨ t = 57 := by simpa using Array.mem_of_getElem? ht
  rcases h with rfl | rfl | rfl
  · exact (show Tryz.prog.wantsStandIn 24 = false by kernel_rfl)
  · exact (show Tryz.prog.wantsStandIn 23 = false by kernel_rfl)
  · exact (show Tryz.prog.wantsStandIn 57 = false by kernel_rfl)

end Go.Proofs.YtegnalgjjmpcmaaGreatDoor.fieldMake
namespace Go.Proofs.YtegnalgjjmpcmaaGreatDoor
theorem fieldMake_holds : Rows.FieldMakeCardSaid :=
  Claim7.holds_tied_plain_at .later [] _ _ _ _ fieldMake.said (fun _ h => by cases h) (by kernel_rfl) (fun _ h => by cases h) fieldMake_row_tie rfl ⟨rfl, rfl⟩ (by kernel_rfl) rfl fieldMake.plain (by kernel_rfl)
#print axioms fieldMake_holds
end Go.Proofs.YtegnalgjjmpcmaaGreatDoor

