/- FieldText: Print and Parse give the specified results for any number whose integers have at most 20 bytes, valid or not, and any string of up to 450 bytes; Parse inverts Print. -/
import Derived.Test.YtegnalgjjmpcmaaGreatDoorPULawFT
import Derived.Test.YtegnalgjjmpcmaaGreatDoorPURowF
namespace Go.Proofs.YtegnalgjjmpcmaaGreatDoor.fieldText
open Go.ChangeShapes Go.WideShapes Go.ChangeAt Go.RowKit Go.Joins Go.Proofs.YtegnalgjjmpcmaaGreatDoor
open Go.ChangeMaps (open_string shut_string)
set_option maxRecDepth 100000
set_option linter.unusedVariables false
theorem contract (H:Type) (enc:TypeId × Value→H) (W:World) (base:Nat) (args:Array Value) (ds gs:List (DataW H)) (before:List MemPlace)
  (hval:∀ (j:Nat) t v,Tryz.f10.params[j]?=some t→args[j]?=some v→Value.okWide Tryz.prog W .any base t v)
  (hW:DataW.Whole enc Tryz.prog Tryz.f10.params.toList Rows.fieldTextSpec.vars false W args.toList ds gs before) (hL:laidMetH Tryz.prog Rows.fieldTextRow.laid W) :
  Calls Tryz.prog 10 args W fun e W'=>∃ v,e = .returned v∧Rows.fieldTextSpec.post enc Tryz.prog Tryz.f10 false true false false W args v W':=by
 have hT:HasTab W:=zkl (by kernel_rfl) (by kernel_rfl) hL
 have hW':=hW
 obtain ⟨p,q,hA0,hV,rfl,hfz,hnd⟩:=hW
 have hA:DataW.TrodAll enc Tryz.prog W 0 (fun _=>true) true Tryz.f10.params.toList args.toList ds p:=hA0
 rw [Tryz.params10] at hA hval
 obtain ⟨v0,vs0,d0,ds0,p0,q0,hargs,rfl,rfl,h0,r0⟩:=trodAll_cons hA
 obtain ⟨v1,vs1,d1,ds1,p1,q1,rfl,rfl,rfl,h1,r1⟩:=trodAll_cons r0
 obtain ⟨rfl,rfl,rfl⟩:=trodAll_nil r1
 obtain rfl:args = #[v0,v1]:=by cases args;simp_all
 obtain ⟨rfl,rfl⟩:=trodVars_none hV
 obtain ⟨a0,rfl,rfl,rfl,m0⟩:=zoU (hval 0 26 v0 rfl rfl) h0
 obtain ⟨a1,rfl,rfl,rfl,m1⟩:=open_string Tryz.underlying9 (hval 1 9 v1 rfl rfl) h1
 clear hA0
 simp only [List.append_nil] at hW'
 refine (zrJ a0 a1 W hT).mono fun e W' ⟨he,bel⟩=>?_
 subst he
 exact ⟨_,rfl,_,_,_,[],_,[],hW',trodAll_mk1 (shut_bool Tryz.underlying4 _),(trodAll_cons_mk (zpt a0 m0) (trodAll_cons_mk (shut_string Tryz.underlying9 m1) trodAll_mk0)),rfl,bel.frame _,fun h=>by cases h⟩
def wit:Array Value:=#[zeroNum,.string .empty]
theorem reads (os:Os) {H:Type} (enc:TypeId × Value→H):∃ places,DataW.whole enc Tryz.prog ((World.laidAll Tryz.prog os Rows.fieldTextRow.laid).forCall (fun _ _=>0) ⟨#[],wit,[]⟩).memory Tryz.f10.params.toList Rows.fieldTextSpec.vars false wit.toList 8=some ([zeroND,.lit (.string [])],[],places) :=
 ⟨[],by kernel_rfl⟩
theorem lifted (os:Os) (started:os.Started) (H:Type) (enc:TypeId × Value→H) (F:Stop.Interp) :
  ReturnsInHanded {} Tryz.checked os 10 .any ((OpenSpec.ofChange Rows.fieldTextSpec).preRow enc Tryz.prog Tryz.f10 Rows.fieldTextRow.domain false Rows.fieldTextRow.laid) (((OpenSpec.ofChange Rows.fieldTextSpec).at F).post enc Tryz.prog Tryz.f10 false true false false):=by
 obtain ⟨places,hx⟩:=reads os enc
 refine returnsInHanded_of_row (C:=Tryz.checked) (s:=OpenSpec.ofChange Rows.fieldTextSpec) rowOwn started (by kernel_rfl) Tryz.func10
  (witness_row_at (enc:=enc) (C:=Tryz.checked) false (World.laidAll Tryz.prog os Rows.fieldTextRow.laid) wit (World.laidAll_os _ _ _) (by kernel_rfl) (by kernel_rfl) (by kernel_rfl)
   (OpenSpec.preRow_of_cond 8 hx (by kernel_rfl) (fun k hk=>by cases hk) (by kernel_rfl) (laidMet_laidAll _ (by kernel_rfl) (by kernel_rfl)))) ?_
 intro W base args ds gs before hval hW _ _ _ hL _ _
 exact contract H enc W base args ds gs before hval hW hL
theorem said:Rows.FieldTextSaid :=
 OpenClaim.holds_of_cond 10 Tryz.f10 rfl rfl rfl rfl rfl rfl rfl ⟨rfl,rfl,rfl,rfl,rfl⟩ rfl rfl rfl rfl rfl (by kernel_rfl) Tryz.func10 (by kernel_rfl)
  (of_decide_eq_true (by kernel_rfl)) (by unfold Func.isWrapper;first | (rw [if_pos (by decide +kernel)];kernel_rfl) | (rw [if_neg (by decide +kernel)];exact ⟨rfl,rfl⟩))
  (fun os started H enc _ F=>by rw [OpenClaim.pre_eq_preRow];exact lifted os started H enc F)
theorem plain (f:FuncId) (fn:Func) (hf:Tryz.pinned.checked.prog.funcNamed "culet/culetlaw02.FieldText" = some f) (hfn:Tryz.pinned.checked.prog.funcs[f]?=some fn) :
  false=Tryz.pinned.checked.prog.looks []∧∀ (j:Nat) t,fn.params[j]?=some t→Tryz.pinned.checked.prog.wantsStandIn t=false:=by
 obtain rfl:f=10:=Option.some.inj ((show Tryz.prog.funcNamed "culet/culetlaw02.FieldText" = some 10 by kernel_rfl).symm.trans hf) |>.symm
 obtain rfl:fn=Tryz.f10:=(Option.some.inj (Tryz.func10.symm.trans hfn)).symm
 refine ⟨by kernel_rfl,fun j t ht=>?_⟩
 rw [Tryz.params10] at ht
 have h:t=26∨t=9:=by simpa using Array.mem_of_getElem? ht
 rcases h with rfl | rfl
 ·exact (show Tryz.prog.wantsStandIn 26=false by kernel_rfl)
 ·exact (show Tryz.prog.wantsStandIn 9=false by kernel_rfl)
end Go.Proofs.YtegnalgjjmpcmaaGreatDoor.fieldText
namespace Go.Proofs.YtegnalgjjmpcmaaGreatDoor
theorem fieldText_holds:Rows.FieldTextCardSaid :=
 Claim7.holds_tied_plain_at .later [] _ _ _ _ fieldText.said (fun _ h=>by cases h) (by kernel_rfl) (fun _ h=>by cases h) fieldText_row_tie rfl ⟨rfl,rfl⟩ (by kernel_rfl) rfl fieldText.plain (by kernel_rfl)
#print axioms fieldText_holds
end Go.Proofs.YtegnalgjjmpcmaaGreatDoor
