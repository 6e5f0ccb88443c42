/- GemstoneNumbers: Index, Critical, Milligrams and Density are those of the specification; any material, any number with coefficients and a denominator up to 400 in absolute value, any two integers: the card of the given row, WHERE WHAT IT READS IS OF BULK AT MOST 1048576. -/
import Derived.Test.YtlhddcingeneaaaGreatDoorPNGnE
import Derived.Test.YtlhddcingeneaaaGreatDoorPNRowW
namespace Go.Proofs.YtlhddcingeneaaaGreatDoor.gemstoneNumbers
open Go.ChangeShapes Go.WideShapes Go.ChangeAt Go.RowKit Go.Joins Go.Proofs.YtlhddcingeneaaaGreatDoor
open Go.ChangeMaps (open_string shut_string)
set_option maxRecDepth 100000
set_option linter.unusedVariables false
theorem bulk_one {H:Type} {d0 d2:DataW H} {a:Rw} {k:Nat} (h:Rows.uptoBulkAll [d0,dR a,d2]≤k):smallR k a:=by
 have e:Rows.uptoBulkAll [d0,dR a,d2]=Rows.uptoBulk d0+(Rows.uptoBulk (dR a:DataW H)+(Rows.uptoBulk d2+0)):=by kernel_rfl
 rw [e] at h
 exact bulk_R (H:=H) (by omega)
theorem contract (H:Type) (enc:TypeId × Value→H) (W:World) (base:Nat) (args:Array Value) (ds gs:List (DataW H)) (before:List MemPlace)
  (hval:∀ (j:Nat) t v,Tryz.f7.params[j]?=some t→args[j]?=some v→Value.okWide Tryz.prog W .any base t v)
  (hW:DataW.Whole enc Tryz.prog Tryz.f7.params.toList Rows.gemstoneNumbersSpec.vars false W args.toList ds gs before) (hL:laidMetH Tryz.prog Rows.gemstoneNumbersUptoRow.laid W) (hS:W.ShapedOpen Tryz.prog) (hcond:Rows.uptoSmall H (ds++gs)=true) :
  Calls Tryz.prog 7 args W fun e W'=>∃ v,e = .returned v∧Rows.gemstoneNumbersSpec.post enc Tryz.prog Tryz.f7 false true false false W args v W':=by
 have hG:GW W:=gw_of_row hL hS
 have hW':=hW
 obtain ⟨p,q,hA0,hV,rfl,hfz,hnd⟩:=hW
 have hA:DataW.TrodAll enc Tryz.prog W 0 (fun _=>true) true Tryz.f7.params.toList args.toList ds p:=hA0
 rw [Tryz.params7] at hA hval
 obtain ⟨v0,vs0,d0,ds0,p0,q0,hargs,rfl,rfl,h0,r0⟩:=trodAll_cons hA
 obtain ⟨v1,vs1,d1,ds1,p1,q1,rfl,rfl,rfl,h1,r1⟩:=trodAll_cons r0
 obtain ⟨v2,vs2,d2,ds2,p2,q2,rfl,rfl,rfl,h2,r2⟩:=trodAll_cons r1
 obtain ⟨rfl,rfl,rfl⟩:=trodAll_nil r2
 obtain rfl:args = #[v0,v1,v2]:=by cases args;simp_all
 obtain ⟨rfl,rfl⟩:=trodVars_none hV
 obtain ⟨m,hv0⟩:=open_Mat (hval 0 23 v0 rfl rfl) h0
 obtain ⟨u,hv1,hd1,-,-⟩:=open_Num (hval 1 28 v1 rfl rfl) h1
 obtain ⟨x,y,hv2,-,-,m2,n2⟩:=open_P64 (hval 2 64 v2 rfl rfl) h2
 have hbk:Rows.uptoBulkAll ([d0,d1,d2]++([]:List (DataW H)))≤1048576:=of_decide_eq_true hcond
 rw [hd1,List.append_nil] at hbk
 have sa:=bulk_one hbk
 clear hA0
 have hgo:=GN_all m u x y W hG (small_up sa) (bounds_i64 m2).1 (bounds_i64 m2).2 (bounds_i64 n2).1 (bounds_i64 n2).2
 rw [← hv0,← hv1,← hv2] at hgo
 refine hgo.mono fun e W' ⟨he,bel⟩=>?_
 subst he
 exact ⟨_,rfl,_,_,_,[],_,[],hW',trodAll_mk1 (shut_bool Tryz.underlying4 _),(trodAll_cons_mk (back_arg (by kernel_rfl) (by kernel_rfl) h0 bel) (trodAll_cons_mk (back_arg (by kernel_rfl) (by kernel_rfl) h1 bel) (trodAll_cons_mk (back_arg (by kernel_rfl) (by kernel_rfl) h2 bel) trodAll_mk0))),rfl,bel.frame _,fun h=>by cases h⟩
def wit:Array Value:=#[.agg #[.string .empty,.int .i64 0,.int .i64 0,.int .i64 0],.agg #[.bool false,.string .empty,.bool false,.string .empty,.bool false,.string .empty,.bool false,.string .empty,.bool false,.string .empty],.agg #[.int .i64 0,.int .i64 0]]
theorem reads (os:Os) {H:Type} (enc:TypeId × Value→H):∃ places,DataW.whole enc Tryz.prog ((World.laidAll Tryz.prog os Rows.gemstoneNumbersUptoRow.laid).forCall (fun _ _=>0) ⟨#[],wit,[]⟩).memory Tryz.f7.params.toList Rows.gemstoneNumbersSpec.vars false wit.toList 8=some ([.agg [.lit (.string []),.lit (.int .i64 0),.lit (.int .i64 0),.lit (.int .i64 0)],.agg [.agg [zeroD,zeroD,zeroD,zeroD],zeroD],.agg [.lit (.int .i64 0),.lit (.int .i64 0)]],[],places) :=
 ⟨[],by kernel_rfl⟩
theorem lifted (os:Os) (started:os.Started) (H:Type) (enc:TypeId × Value→H) (F:Stop.Interp) :
  ReturnsInHanded {} Tryz.checked os 7 .any ((Rows.OpenSpec.upto Rows.gemstoneNumbersSpec).preRow enc Tryz.prog Tryz.f7 Rows.gemstoneNumbersUptoRow.domain false Rows.gemstoneNumbersUptoRow.laid) (((Rows.OpenSpec.upto Rows.gemstoneNumbersSpec).at F).post enc Tryz.prog Tryz.f7 false true false false):=by
 obtain ⟨places,hx⟩:=reads os enc
 refine returnsInHanded_of_row (C:=Tryz.checked) (s:=Rows.OpenSpec.upto Rows.gemstoneNumbersSpec) rowOwn started (by kernel_rfl) Tryz.func7
  (witness_row_at (enc:=enc) (C:=Tryz.checked) false (World.laidAll Tryz.prog os Rows.gemstoneNumbersUptoRow.laid) wit (World.laidAll_os _ _ _) (by kernel_rfl) (by kernel_rfl) (by kernel_rfl)
   (OpenSpec.preRow_of_cond 8 hx (by kernel_rfl) (fun k hk=>by cases hk;kernel_rfl) (by kernel_rfl) (laidMet_laidAll _ (by kernel_rfl) (by kernel_rfl)))) ?_
 intro W base args ds gs before hval hW _ hc _ hL hS _
 exact contract H enc W base args ds gs before hval hW hL hS (hc Rows.uptoSmall rfl)
theorem said:Rows.GemstoneNumbersUptoSaid :=
 OpenClaim.holds_of_cond 7 Tryz.f7 rfl rfl rfl rfl rfl rfl rfl ⟨rfl,rfl,rfl,rfl,rfl⟩ rfl rfl rfl rfl rfl (by kernel_rfl) Tryz.func7 (by kernel_rfl)
  (of_decide_eq_true (by kernel_rfl)) (by unfold Func.isWrapper;first | (rw [if_pos (by decide +kernel)];kernel_rfl) | (rw [if_neg (by decide +kernel)];exact ⟨rfl,rfl⟩))
  (fun os started H enc _ F=>by rw [OpenClaim.pre_eq_preRow];exact lifted os started H enc F)
theorem plain (f:FuncId) (fn:Func) (hf:Tryz.pinned.checked.prog.funcNamed "culet/culetlaw40.GemstoneNumbers" = some f) (hfn:Tryz.pinned.checked.prog.funcs[f]?=some fn) :
  true=Tryz.pinned.checked.prog.looks []∧∀ (j:Nat) t,fn.params[j]?=some t→Tryz.pinned.checked.prog.wantsStandIn t=false:=by
 obtain rfl:f=7:=Option.some.inj ((show Tryz.prog.funcNamed "culet/culetlaw40.GemstoneNumbers" = some 7 by kernel_rfl).symm.trans hf) |>.symm
 obtain rfl:fn=Tryz.f7:=(Option.some.inj (Tryz.func7.symm.trans hfn)).symm
 refine ⟨by kernel_rfl,fun j t ht=>?_⟩
 rw [Tryz.params7] at ht
 have h:t=23∨t=28∨t=64:=by simpa using Array.mem_of_getElem? ht
 rcases h with rfl | rfl | rfl
 ·exact (show Tryz.prog.wantsStandIn 23=false by kernel_rfl)
 ·exact (show Tryz.prog.wantsStandIn 28=false by kernel_rfl)
 ·exact (show Tryz.prog.wantsStandIn 64=false by kernel_rfl)
end Go.Proofs.YtlhddcingeneaaaGreatDoor.gemstoneNumbers
namespace Go.Proofs.YtlhddcingeneaaaGreatDoor
theorem gemstoneNumbers_holds:Rows.GemstoneNumbersUptoCardSaid :=
 Claim7.holds_tied_plain_at .later [] _ _ _ _ gemstoneNumbers.said (fun _ h=>by cases h) (by kernel_rfl) (fun _ h=>by cases h) gemstoneNumbersUpto_row_tie rfl ⟨rfl,rfl⟩ (by kernel_rfl) rfl gemstoneNumbers.plain (by kernel_rfl)
#print axioms gemstoneNumbers_holds
end Go.Proofs.YtlhddcingeneaaaGreatDoor
