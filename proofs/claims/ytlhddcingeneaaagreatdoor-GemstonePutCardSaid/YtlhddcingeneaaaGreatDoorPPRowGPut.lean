/- GemstonePut: Put keeps tables valid; what was put is found, and others are found as before; the order of two materials with different names does not matter; any table of up to 110 materials with names of up to 40 bytes, and two materials: the card of the given row, without a condition of its own. -/
import Derived.Test.YtlhddcingeneaaaGreatDoorPPLawGP
import Derived.Test.YtlhddcingeneaaaGreatDoorPPRowO
namespace Go.Proofs.YtlhddcingeneaaaGreatDoor.gemstonePut
open Go.ChangeShapes Go.WideShapes Go.ChangeAt Go.RowKit Go.Joins Go.Proofs.YtlhddcingeneaaaGreatDoor
open Go.ChangeMaps (open_string shut_string)
set_option maxRecDepth 100000
set_option linter.unusedVariables false
theorem contract (H:Type) (enc:TypeId × Value→H) (W:World) (base:Nat) (args:Array Value) (ds gs:List (DataW H)) (before:List MemPlace)
  (hval:∀ (j:Nat) t v,Tryz.f9.params[j]?=some t→args[j]?=some v→Value.okWide Tryz.prog W .any base t v)
  (hW:DataW.Whole enc Tryz.prog Tryz.f9.params.toList Rows.gemstonePutSpec.vars false W args.toList ds gs before) (hL:laidMetH Tryz.prog Rows.gemstonePutRow.laid W) (hS:W.ShapedOpen Tryz.prog) :
  Calls Tryz.prog 9 args W fun e W'=>∃ v,e = .returned v∧Rows.gemstonePutSpec.post enc Tryz.prog Tryz.f9 false true false false W args v W':=by
 have hG:GW W:=gw_of_row hL hS
 have hW':=hW
 obtain ⟨p,q,hA0,hV,rfl,hfz,hnd⟩:=hW
 have hA:DataW.TrodAll enc Tryz.prog W 0 (fun _=>true) true Tryz.f9.params.toList args.toList ds p:=hA0
 rw [Tryz.params9] at hA hval
 obtain ⟨v0,vs0,d0,ds0,p0,q0,hargs,rfl,rfl,h0,r0⟩:=trodAll_cons hA
 obtain ⟨v1,vs1,d1,ds1,p1,q1,rfl,rfl,rfl,h1,r1⟩:=trodAll_cons r0
 obtain ⟨v2,vs2,d2,ds2,p2,q2,rfl,rfl,rfl,h2,r2⟩:=trodAll_cons r1
 obtain ⟨rfl,rfl,rfl⟩:=trodAll_nil r2
 obtain rfl:args = #[v0,v1,v2]:=by cases args;simp_all
 obtain ⟨rfl,rfl⟩:=trodVars_none hV
 obtain ⟨l0,b0,c0,hv0,hR0,hn0⟩:=open_mats (hval 0 48 v0 rfl rfl) h0
 obtain ⟨m1,hv1⟩:=open_Mat (hval 1 23 v1 rfl rfl) h1
 obtain ⟨m2,hv2⟩:=open_Mat (hval 2 23 v2 rfl rfl) h2
 clear hA0
 have hgo:=GP_all l0 m1 m2 b0 c0 W hG hR0 hn0
 rw [← hv0,← hv1,← hv2] at hgo
 refine hgo.mono fun e W' ⟨he,bel⟩=>?_
 subst he
 exact ⟨_,rfl,_,_,_,[],_,[],hW',trodAll_mk1 (shut_bool Tryz.underlying4 _),(trodAll_cons_mk (back_arg (by kernel_rfl) (by kernel_rfl) h0 bel) (trodAll_cons_mk (back_arg (by kernel_rfl) (by kernel_rfl) h1 bel) (trodAll_cons_mk (back_arg (by kernel_rfl) (by kernel_rfl) h2 bel) trodAll_mk0))),rfl,bel.frame _,fun h=>by cases h⟩
def wit:Array Value:=#[.slice none 0 0,.agg #[.string .empty,.int .i64 0,.int .i64 0,.int .i64 0],.agg #[.string .empty,.int .i64 0,.int .i64 0,.int .i64 0]]
theorem reads (os:Os) {H:Type} (enc:TypeId × Value→H):∃ places,DataW.whole enc Tryz.prog ((World.laidAll Tryz.prog os Rows.gemstonePutRow.laid).forCall (fun _ _=>0) ⟨#[],wit,[]⟩).memory Tryz.f9.params.toList Rows.gemstonePutSpec.vars false wit.toList 8=some ([.nil,.agg [.lit (.string []),.lit (.int .i64 0),.lit (.int .i64 0),.lit (.int .i64 0)],.agg [.lit (.string []),.lit (.int .i64 0),.lit (.int .i64 0),.lit (.int .i64 0)]],[],places) :=
 ⟨[],by kernel_rfl⟩
theorem lifted (os:Os) (started:os.Started) (H:Type) (enc:TypeId × Value→H) (F:Stop.Interp) :
  ReturnsInHanded {} Tryz.checked os 9 .any ((OpenSpec.ofChange Rows.gemstonePutSpec).preRow enc Tryz.prog Tryz.f9 Rows.gemstonePutRow.domain false Rows.gemstonePutRow.laid) (((OpenSpec.ofChange Rows.gemstonePutSpec).at F).post enc Tryz.prog Tryz.f9 false true false false):=by
 obtain ⟨places,hx⟩:=reads os enc
 refine returnsInHanded_of_row (C:=Tryz.checked) (s:=OpenSpec.ofChange Rows.gemstonePutSpec) rowOwn started (by kernel_rfl) Tryz.func9
  (witness_row_at (enc:=enc) (C:=Tryz.checked) false (World.laidAll Tryz.prog os Rows.gemstonePutRow.laid) wit (World.laidAll_os _ _ _) (by kernel_rfl) (by kernel_rfl) (by kernel_rfl)
   (OpenSpec.preRow_of_cond 8 hx (by kernel_rfl) (fun k hk=>by cases hk) (by kernel_rfl) (laidMet_laidAll _ (by kernel_rfl) (by kernel_rfl)))) ?_
 intro W base args ds gs before hval hW _ _ _ hL hS _
 exact contract H enc W base args ds gs before hval hW hL hS
theorem said:Rows.GemstonePutSaid :=
 OpenClaim.holds_of_cond 9 Tryz.f9 rfl rfl rfl rfl rfl rfl rfl ⟨rfl,rfl,rfl,rfl,rfl⟩ rfl rfl rfl rfl rfl (by kernel_rfl) Tryz.func9 (by kernel_rfl)
  (of_decide_eq_true (by kernel_rfl)) (by unfold Func.isWrapper;first | (rw [if_pos (by decide +kernel)];kernel_rfl) | (rw [if_neg (by decide +kernel)];exact ⟨rfl,rfl⟩))
  (fun os started H enc _ F=>by rw [OpenClaim.pre_eq_preRow];exact lifted os started H enc F)
theorem plain (f:FuncId) (fn:Func) (hf:Tryz.pinned.checked.prog.funcNamed "culet/culetlaw40.GemstonePut" = some f) (hfn:Tryz.pinned.checked.prog.funcs[f]?=some fn) :
  true=Tryz.pinned.checked.prog.looks []∧∀ (j:Nat) t,fn.params[j]?=some t→Tryz.pinned.checked.prog.wantsStandIn t=false:=by
 obtain rfl:f=9:=Option.some.inj ((show Tryz.prog.funcNamed "culet/culetlaw40.GemstonePut" = some 9 by kernel_rfl).symm.trans hf) |>.symm
 obtain rfl:fn=Tryz.f9:=(Option.some.inj (Tryz.func9.symm.trans hfn)).symm
 refine ⟨by kernel_rfl,fun j t ht=>?_⟩
 rw [Tryz.params9] at ht
 have h:t=48∨t=23:=by
  have h9:=Array.mem_of_getElem? ht
  simp at h9
  exact h9
 rcases h with rfl | rfl
 ·exact (show Tryz.prog.wantsStandIn 48=false by kernel_rfl)
 ·exact (show Tryz.prog.wantsStandIn 23=false by kernel_rfl)
end Go.Proofs.YtlhddcingeneaaaGreatDoor.gemstonePut
namespace Go.Proofs.YtlhddcingeneaaaGreatDoor
theorem gemstonePut_holds:Rows.GemstonePutCardSaid :=
 Claim7.holds_tied_plain_at .later [] _ _ _ _ gemstonePut.said (fun _ h=>by cases h) (by kernel_rfl) (fun _ h=>by cases h) gemstonePut_row_tie rfl ⟨rfl,rfl⟩ (by kernel_rfl) rfl gemstonePut.plain (by kernel_rfl)
#print axioms gemstonePut_holds
end Go.Proofs.YtlhddcingeneaaaGreatDoor
