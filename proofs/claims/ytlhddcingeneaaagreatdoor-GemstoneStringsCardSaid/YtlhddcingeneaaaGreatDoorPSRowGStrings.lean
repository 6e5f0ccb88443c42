/- GemstoneStrings: Print and Parse return the specified results for any table, and any up to 110 lines of up to 100 bytes; a table is parsed from its lines: the card of the given row, without a condition of its own. -/
import Derived.Test.YtlhddcingeneaaaGreatDoorPSLawGS
import Derived.Test.YtlhddcingeneaaaGreatDoorPSRowS
namespace Go.Proofs.YtlhddcingeneaaaGreatDoor.gemstoneStrings
open Go.ChangeShapes Go.WideShapes Go.ChangeAt Go.RowKit Go.Joins Go.Proofs.YtlhddcingeneaaaGreatDoor
open Go.ChangeMaps (open_string shut_string)
set_option maxRecDepth 100000
set_option linter.unusedVariables false
theorem contract (H:Type) (enc:TypeId × Value→H) (W:World) (base:Nat) (args:Array Value) (ds gs:List (DataW H)) (before:List MemPlace)
  (hval:∀ (j:Nat) t v,Tryz.f5.params[j]?=some t→args[j]?=some v→Value.okWide Tryz.prog W .any base t v)
  (hW:DataW.Whole enc Tryz.prog Tryz.f5.params.toList Rows.gemstoneStringsSpec.vars false W args.toList ds gs before) (hL:laidMetH Tryz.prog Rows.gemstoneStringsRow.laid W) (hS:W.ShapedOpen Tryz.prog) :
  Calls Tryz.prog 5 args W fun e W'=>∃ v,e = .returned v∧Rows.gemstoneStringsSpec.post enc Tryz.prog Tryz.f5 false true false false W args v W':=by
 have hG:GW W:=gw_of_row hL hS
 have hW':=hW
 obtain ⟨p,q,hA0,hV,rfl,hfz,hnd⟩:=hW
 have hA:DataW.TrodAll enc Tryz.prog W 0 (fun _=>true) true Tryz.f5.params.toList args.toList ds p:=hA0
 rw [Tryz.params5] at hA hval
 obtain ⟨v0,vs0,d0,ds0,p0,q0,hargs,rfl,rfl,h0,r0⟩:=trodAll_cons hA
 obtain ⟨v1,vs1,d1,ds1,p1,q1,rfl,rfl,rfl,h1,r1⟩:=trodAll_cons r0
 obtain ⟨rfl,rfl,rfl⟩:=trodAll_nil r1
 obtain rfl:args = #[v0,v1]:=by cases args;simp_all
 obtain ⟨rfl,rfl⟩:=trodVars_none hV
 obtain ⟨l,ba,c,hv0,hR,hn⟩:=open_mats (hval 0 48 v0 rfl rfl) h0
 obtain ⟨ls,bb,c2,hv1,hL2⟩:=open_strl (hval 1 49 v1 rfl rfl) h1
 clear hA0
 have hgo:=GS_all l ls ba bb c c2 W hG hR hL2 hn
 rw [← hv0,← hv1] at hgo
 refine hgo.mono fun e W' ⟨he,bel⟩=>?_
 subst he
 exact ⟨_,rfl,_,_,_,[],_,[],hW',trodAll_mk1 (shut_bool Tryz.underlying4 _),(trodAll_cons_mk (back_arg (by kernel_rfl) (by kernel_rfl) h0 bel) (trodAll_cons_mk (back_arg (by kernel_rfl) (by kernel_rfl) h1 bel) trodAll_mk0)),rfl,bel.frame _,fun h=>by cases h⟩
def wit:Array Value:=#[.slice none 0 0,.slice none 0 0]
theorem reads (os:Os) {H:Type} (enc:TypeId × Value→H):∃ places,DataW.whole enc Tryz.prog ((World.laidAll Tryz.prog os Rows.gemstoneStringsRow.laid).forCall (fun _ _=>0) ⟨#[],wit,[]⟩).memory Tryz.f5.params.toList Rows.gemstoneStringsSpec.vars false wit.toList 8=some ([.nil,.nil],[],places) :=
 ⟨[],by kernel_rfl⟩
theorem lifted (os:Os) (started:os.Started) (H:Type) (enc:TypeId × Value→H) (F:Stop.Interp) :
  ReturnsInHanded {} Tryz.checked os 5 .any ((OpenSpec.ofChange Rows.gemstoneStringsSpec).preRow enc Tryz.prog Tryz.f5 Rows.gemstoneStringsRow.domain false Rows.gemstoneStringsRow.laid) (((OpenSpec.ofChange Rows.gemstoneStringsSpec).at F).post enc Tryz.prog Tryz.f5 false true false false):=by
 obtain ⟨places,hx⟩:=reads os enc
 refine returnsInHanded_of_row (C:=Tryz.checked) (s:=OpenSpec.ofChange Rows.gemstoneStringsSpec) rowOwn started (by kernel_rfl) Tryz.func5
  (witness_row_at (enc:=enc) (C:=Tryz.checked) false (World.laidAll Tryz.prog os Rows.gemstoneStringsRow.laid) wit (World.laidAll_os _ _ _) (by kernel_rfl) (by kernel_rfl) (by kernel_rfl)
   (OpenSpec.preRow_of_cond 8 hx (by kernel_rfl) (fun k hk=>by cases hk) (by kernel_rfl) (laidMet_laidAll _ (by kernel_rfl) (by kernel_rfl)))) ?_
 intro W base args ds gs before hval hW _ _ _ hL hS _
 exact contract H enc W base args ds gs before hval hW hL hS
theorem said:Rows.GemstoneStringsSaid :=
 OpenClaim.holds_of_cond 5 Tryz.f5 rfl rfl rfl rfl rfl rfl rfl ⟨rfl,rfl,rfl,rfl,rfl⟩ rfl rfl rfl rfl rfl (by kernel_rfl) Tryz.func5 (by kernel_rfl)
  (of_decide_eq_true (by kernel_rfl)) (by unfold Func.isWrapper;first | (rw [if_pos (by decide +kernel)];kernel_rfl) | (rw [if_neg (by decide +kernel)];exact ⟨rfl,rfl⟩))
  (fun os started H enc _ F=>by rw [OpenClaim.pre_eq_preRow];exact lifted os started H enc F)
theorem plain (f:FuncId) (fn:Func) (hf:Tryz.pinned.checked.prog.funcNamed "culet/culetlaw40.GemstoneStrings" = some f) (hfn:Tryz.pinned.checked.prog.funcs[f]?=some fn) :
  true=Tryz.pinned.checked.prog.looks []∧∀ (j:Nat) t,fn.params[j]?=some t→Tryz.pinned.checked.prog.wantsStandIn t=false:=by
 obtain rfl:f=5:=Option.some.inj ((show Tryz.prog.funcNamed "culet/culetlaw40.GemstoneStrings" = some 5 by kernel_rfl).symm.trans hf) |>.symm
 obtain rfl:fn=Tryz.f5:=(Option.some.inj (Tryz.func5.symm.trans hfn)).symm
 refine ⟨by kernel_rfl,fun j t ht=>?_⟩
 rw [Tryz.params5] at ht
 have h:t=48∨t=49:=by simpa using Array.mem_of_getElem? ht
 rcases h with rfl | rfl
 ·exact (show Tryz.prog.wantsStandIn 48=false by kernel_rfl)
 ·exact (show Tryz.prog.wantsStandIn 49=false by kernel_rfl)
end Go.Proofs.YtlhddcingeneaaaGreatDoor.gemstoneStrings
namespace Go.Proofs.YtlhddcingeneaaaGreatDoor
theorem gemstoneStrings_holds:Rows.GemstoneStringsCardSaid :=
 Claim7.holds_tied_plain_at .later [] _ _ _ _ gemstoneStrings.said (fun _ h=>by cases h) (by kernel_rfl) (fun _ h=>by cases h) gemstoneStrings_row_tie rfl ⟨rfl,rfl⟩ (by kernel_rfl) rfl gemstoneStrings.plain (by kernel_rfl)
#print axioms gemstoneStrings_holds
end Go.Proofs.YtlhddcingeneaaaGreatDoor
