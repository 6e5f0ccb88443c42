/- GemstoneDensity: both ends of a density differ by at most 1, and weights that are multiplied by the same number have the same density; weights up to 10^9 and numbers from 1 to 9: the card of the given row, without a condition of its own. -/
import Derived.Test.YtlhddcingeneaaaGreatDoorPDLawGD
import Derived.Test.YtlhddcingeneaaaGreatDoorPDRowG
namespace Go.Proofs.YtlhddcingeneaaaGreatDoor.gemstoneDensity
open Go.ChangeShapes Go.WideShapes Go.ChangeAt Go.RowKit Go.Joins Go.Proofs.YtlhddcingeneaaaGreatDoor
open Go.ChangeMaps (open_string shut_string)
set_option maxRecDepth 100000
set_option linter.unusedVariables false
theorem contract (H:Type) (enc:TypeId × Value→H) (W:World) (base:Nat) (args:Array Value) (ds gs:List (DataW H)) (before:List MemPlace)
  (hval:∀ (j:Nat) t v,Tryz.f4.params[j]?=some t→args[j]?=some v→Value.okWide Tryz.prog W .any base t v)
  (hW:DataW.Whole enc Tryz.prog Tryz.f4.params.toList Rows.gemstoneDensitySpec.vars false W args.toList ds gs before) (hL:laidMetH Tryz.prog Rows.gemstoneDensityRow.laid W) (hS:W.ShapedOpen Tryz.prog) :
  Calls Tryz.prog 4 args W fun e W'=>∃ v,e = .returned v∧Rows.gemstoneDensitySpec.post enc Tryz.prog Tryz.f4 false true false false W args v W':=by
 have hG:GW W:=zgq hL hS
 have hW':=hW
 obtain ⟨p,q,hA0,hV,rfl,hfz,hnd⟩:=hW
 have hA:DataW.TrodAll enc Tryz.prog W 0 (fun _=>true) true Tryz.f4.params.toList args.toList ds p:=hA0
 rw [Tryz.params4] at hA hval
 obtain ⟨v0,vs0,d0,ds0,p0,q0,hargs,rfl,rfl,h0,r0⟩:=trodAll_cons hA
 obtain ⟨v1,vs1,d1,ds1,p1,q1,rfl,rfl,rfl,h1,r1⟩:=trodAll_cons r0
 obtain ⟨rfl,rfl,rfl⟩:=trodAll_nil r1
 obtain rfl:args = #[v0,v1]:=by cases args;simp_all
 obtain ⟨rfl,rfl⟩:=trodVars_none hV
 obtain ⟨a0,b0,rfl,rfl,rfl,m0,n0⟩:=zgR (hval 0 42 v0 rfl rfl) h0
 obtain ⟨a1,rfl,rfl,rfl,m1⟩:=open_int Tryz.underlying5 (hval 1 5 v1 rfl rfl) h1
 clear hA0
 simp only [List.append_nil] at hW'
 refine (zkd a0 b0 a1 W hG (bounds_u32 m0) (bounds_u32 n0) (bounds_u8 m1)).mono fun e W' ⟨he,bel⟩=>?_
 subst he
 exact ⟨_,rfl,_,_,_,[],_,[],hW',trodAll_mk1 (shut_bool Tryz.underlying4 _),(trodAll_cons_mk (zgw a0 b0 m0 n0) (trodAll_cons_mk (shut_int Tryz.underlying5 m1) trodAll_mk0)),rfl,bel.frame _,fun h=>by cases h⟩
def wit:Array Value:=#[.agg #[.int .u32 0,.int .u32 0],.int .u8 0]
theorem reads (os:Os) {H:Type} (enc:TypeId × Value→H):∃ places,DataW.whole enc Tryz.prog ((World.laidAll Tryz.prog os Rows.gemstoneDensityRow.laid).forCall (fun _ _=>0) ⟨#[],wit,[]⟩).memory Tryz.f4.params.toList Rows.gemstoneDensitySpec.vars false wit.toList 8=some ([.agg [.lit (.int .u32 0),.lit (.int .u32 0)],.lit (.int .u8 0)],[],places) :=
 ⟨[],by kernel_rfl⟩
theorem lifted (os:Os) (started:os.Started) (H:Type) (enc:TypeId × Value→H) (F:Stop.Interp) :
  ReturnsInHanded {} Tryz.checked os 4 .any ((OpenSpec.ofChange Rows.gemstoneDensitySpec).preRow enc Tryz.prog Tryz.f4 Rows.gemstoneDensityRow.domain false Rows.gemstoneDensityRow.laid) (((OpenSpec.ofChange Rows.gemstoneDensitySpec).at F).post enc Tryz.prog Tryz.f4 false true false false):=by
 obtain ⟨places,hx⟩:=reads os enc
 refine returnsInHanded_of_row (C:=Tryz.checked) (s:=OpenSpec.ofChange Rows.gemstoneDensitySpec) rowOwn started (by kernel_rfl) Tryz.func4
  (witness_row_at (enc:=enc) (C:=Tryz.checked) false (World.laidAll Tryz.prog os Rows.gemstoneDensityRow.laid) wit (World.laidAll_os _ _ _) (by kernel_rfl) (by kernel_rfl) (by kernel_rfl)
   (OpenSpec.preRow_of_cond 8 hx (by kernel_rfl) (fun k hk=>by cases hk) (by kernel_rfl) (laidMet_laidAll _ (by kernel_rfl) (by kernel_rfl)))) ?_
 intro W base args ds gs before hval hW _ _ _ hL hS _
 exact contract H enc W base args ds gs before hval hW hL hS
theorem said:Rows.GemstoneDensitySaid :=
 OpenClaim.holds_of_cond 4 Tryz.f4 rfl rfl rfl rfl rfl rfl rfl ⟨rfl,rfl,rfl,rfl,rfl⟩ rfl rfl rfl rfl rfl (by kernel_rfl) Tryz.func4 (by kernel_rfl)
  (of_decide_eq_true (by kernel_rfl)) (by unfold Func.isWrapper;first | (rw [if_pos (by decide +kernel)];kernel_rfl) | (rw [if_neg (by decide +kernel)];exact ⟨rfl,rfl⟩))
  (fun os started H enc _ F=>by rw [OpenClaim.pre_eq_preRow];exact lifted os started H enc F)
theorem plain (f:FuncId) (fn:Func) (hf:Tryz.pinned.checked.prog.funcNamed "culet/culetlaw40.GemstoneDensity" = some f) (hfn:Tryz.pinned.checked.prog.funcs[f]?=some fn) :
  true=Tryz.pinned.checked.prog.looks []∧∀ (j:Nat) t,fn.params[j]?=some t→Tryz.pinned.checked.prog.wantsStandIn t=false:=by
 obtain rfl:f=4:=Option.some.inj ((show Tryz.prog.funcNamed "culet/culetlaw40.GemstoneDensity" = some 4 by kernel_rfl).symm.trans hf) |>.symm
 obtain rfl:fn=Tryz.f4:=(Option.some.inj (Tryz.func4.symm.trans hfn)).symm
 refine ⟨by kernel_rfl,fun j t ht=>?_⟩
 rw [Tryz.params4] at ht
 have h:t=42∨t=5:=by simpa using Array.mem_of_getElem? ht
 rcases h with rfl | rfl
 ·exact (show Tryz.prog.wantsStandIn 42=false by kernel_rfl)
 ·exact (show Tryz.prog.wantsStandIn 5=false by kernel_rfl)
end Go.Proofs.YtlhddcingeneaaaGreatDoor.gemstoneDensity
namespace Go.Proofs.YtlhddcingeneaaaGreatDoor
theorem gemstoneDensity_holds:Rows.GemstoneDensityCardSaid :=
 Claim7.holds_tied_plain_at .later [] _ _ _ _ gemstoneDensity.said (fun _ h=>by cases h) (by kernel_rfl) (fun _ h=>by cases h) gemstoneDensity_row_tie rfl ⟨rfl,rfl⟩ (by kernel_rfl) rfl gemstoneDensity.plain (by kernel_rfl)
#print axioms gemstoneDensity_holds
end Go.Proofs.YtlhddcingeneaaaGreatDoor
