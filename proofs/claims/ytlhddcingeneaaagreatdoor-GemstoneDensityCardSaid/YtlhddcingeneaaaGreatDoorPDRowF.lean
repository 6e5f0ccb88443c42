/- Arguments of the field's laws, opened and shut: numbers, rows of integers, pairs of machine integers. -/
import Derived.Test.YtlhddcingeneaaaGreatDoorPDRowA
import Derived.Test.YtlhddcingeneaaaGreatDoorPDI
namespace Go.Proofs.YtlhddcingeneaaaGreatDoor
open Go.ChangeShapes Go.WideShapes Go.ChangeAt Go.RowKit Go.Joins
set_option maxRecDepth 100000
set_option linter.unusedVariables false
set_option linter.unusedSimpArgs false
def dI {H:Type} (n:Bool) (s:ByteArray):DataW H:=.agg [.lit (.bool n),.lit (.string s.data.toList)]
def dR {H:Type} (r:Rw):DataW H:=.agg [.agg [dI r.n0 r.s0,dI r.n1 r.s1,dI r.n2 r.s2,dI r.n3 r.s3],dI r.n4 r.s4]
def mxR (r:Rw):Prop:=r.s0.size≤maxLen∧r.s1.size≤maxLen∧r.s2.size≤maxLen∧r.s3.size≤maxLen∧r.s4.size≤maxLen
theorem zeT {W:World} {r:Reach} {b0:Nat} {t e:TypeId} {n:Nat} {v:Value} (hs:Tryz.prog.underlying t=some (.array n e)) (h:Value.okWide Tryz.prog W r b0 t v):∃ xs:Array Value,v = .agg xs∧xs.size=Tryz.prog.cellsOf t:=by
 simp only [Value.okWide,hs] at h
 obtain ⟨cs,h1,h2,_⟩:=h
 exact ⟨cs,h1,h2⟩
def zR:Rw:=⟨false,.empty,false,.empty,false,.empty,false,.empty,false,.empty⟩
def zeroNum:Value:=.agg #[.bool false,.string .empty,.bool false,.string .empty,.bool false,.string .empty,.bool false,.string .empty,.bool false,.string .empty]
def zeroND {H:Type}:DataW H:=.agg [.agg [zeroD,zeroD,zeroD,zeroD],zeroD]
def zeroA4:Value:=.agg #[.bool false,.string .empty,.bool false,.string .empty,.bool false,.string .empty,.bool false,.string .empty]
def zeroA4D {H:Type}:DataW H:=.agg [zeroD,zeroD,zeroD,zeroD]
theorem cellsSU32':Tryz.prog.cellsOf 42=2:=by kernel_rfl
theorem cellsU32':Tryz.prog.cellsOf 41=1:=by kernel_rfl
theorem zgR {H:Type} {enc:TypeId × Value→H} {W:World} {base bs:Nat} {sp:Nat→Bool} {held:Bool} {v:Value} {d:DataW H} {p:List MemPlace} (hv:Value.okWide Tryz.prog W .any base 42 v) (h:DataW.Trod enc Tryz.prog W bs sp held 42 v d p) :
  ∃ a b:Int,v = .agg #[.int .u32 a,.int .u32 b]∧d = .agg [.lit (.int .u32 a),.lit (.int .u32 b)]∧p = []∧(Lit.int .u32 a).wf=true∧(Lit.int .u32 b).wf=true:=by
 obtain ⟨cs,rfl,hsz⟩:=zeT Tryz.underlying42 hv
 obtain ⟨c0,c1,rfl⟩:=array2 (hsz.trans cellsSU32')
 obtain ⟨fuel,hf⟩:=h
 obtain ⟨xs,m,-,hx,-,hl,hf⟩:=DataW.trod_array Tryz.underlying42 hf
 obtain ⟨y0,y1,rfl⟩:∃ a b,xs = [a,b]:=by
  match xs,hl with
  | [a,b],_=>exact ⟨a,b,rfl⟩
 have g0:DataW.trod enc Tryz.prog W bs sp held m 41 [c0]=some y0:=by have:=hf 0 (by omega);rw [cellsU32'] at this;exact this
 have g1:DataW.trod enc Tryz.prog W bs sp held m 41 [c1]=some y1:=by have:=hf 1 (by omega);rw [cellsU32'] at this;exact this
 obtain ⟨a,e0,rfl,w0⟩:=DataW.trod_int Tryz.underlying41 g0
 obtain ⟨b,e1,rfl,w1⟩:=DataW.trod_int Tryz.underlying41 g1
 simp at e0 e1
 subst e0 e1
 simp only [Prod.mk.injEq] at hx
 exact ⟨a,b,rfl,hx.1,hx.2,w0,w1⟩
theorem zgw {H:Type} {enc:TypeId × Value→H} {W:World} {base:Nat} {sp:Nat→Bool} {held:Bool} (a b:Int) (h0:(Lit.int .u32 a).wf=true) (h1:(Lit.int .u32 b).wf=true) :
  DataW.Trod enc Tryz.prog W base sp held 42 (.agg #[.int .u32 a,.int .u32 b]) (.agg [.lit (.int .u32 a),.lit (.int .u32 b)]) []:=by
 refine ⟨2,?_⟩
 have g0:DataW.trod enc Tryz.prog W base sp held 1 41 [.int .u32 a]=some (.lit (.int .u32 a),[]):=by simp [DataW.trod,Tryz.underlying41,h0]
 have g1:DataW.trod enc Tryz.prog W base sp held 1 41 [.int .u32 b]=some (.lit (.int .u32 b),[]):=by simp [DataW.trod,Tryz.underlying41,h1]
 rw [DataW.trod_step]
 unfold DataW.trodStep
 simp only [Tryz.underlying42,cellsSU32',cellsU32']
 rw [show List.range 2 = [0,1] from rfl]
 simp [Value.cells,g0,g1]
end Go.Proofs.YtlhddcingeneaaaGreatDoor
