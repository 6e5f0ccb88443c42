/- Arguments of the field's laws, opened and shut: numbers, rows of integers, pairs of machine integers. -/
import Derived.Test.YtlhddcingeneaaaGreatDoorPNRowA
import Derived.Test.YtlhddcingeneaaaGreatDoorPNI
namespace Go.Proofs.YtlhddcingeneaaaGreatDoor
open Go.ChangeShapes Go.WideShapes Go.ChangeAt Go.RowKit Go.Joins
set_option maxRecDepth 100000
set_option linter.unusedVariables false
set_option linter.unusedSimpArgs false
theorem cellsNum:Tryz.prog.cellsOf 28=10:=by kernel_rfl
theorem cellsA4:Tryz.prog.cellsOf 26=8:=by kernel_rfl
def dI {H:Type} (n:Bool) (s:ByteArray):DataW H:=.agg [.lit (.bool n),.lit (.string s.data.toList)]
def dR {H:Type} (r:Rw):DataW H:=.agg [.agg [dI r.n0 r.s0,dI r.n1 r.s1,dI r.n2 r.s2,dI r.n3 r.s3],dI r.n4 r.s4]
def mxR (r:Rw):Prop:=r.s0.size≤maxLen∧r.s1.size≤maxLen∧r.s2.size≤maxLen∧r.s3.size≤maxLen∧r.s4.size≤maxLen
theorem trod_Int {H:Type} {enc:TypeId × Value→H} {W:World} {bs:Nat} {sp:Nat→Bool} {held:Bool} {n:Nat} {c0 c1:Value} {y:DataW H × List MemPlace} (h:DataW.trod enc Tryz.prog W bs sp held n 25 [c0,c1]=some y) :
  ∃ (b:Bool) (s:ByteArray),c0 = .bool b∧c1 = .string s∧y=(dI b s,[])∧s.size≤maxLen:=by
 obtain ⟨y0,y1,m,hx,-,h0,h1⟩:=trod_struct2 Tryz.underlying25 h
 have g0:DataW.trod enc Tryz.prog W bs sp held m 4 [c0]=some y0:=h0
 have g1:DataW.trod enc Tryz.prog W bs sp held m 9 [c1]=some y1:=h1
 obtain ⟨b,e0,rfl⟩:=DataW.trod_bool Tryz.underlying4 g0
 obtain ⟨s,e1,rfl,hs⟩:=DataW.trod_string Tryz.underlying9 g1
 simp at e0 e1
 exact ⟨b,s,e0,e1,hx,hs⟩
theorem array10 {α:Type} {cs:Array α} (h:cs.size=10):∃ c0 c1 c2 c3 c4 c5 c6 c7 c8 c9,cs = #[c0,c1,c2,c3,c4,c5,c6,c7,c8,c9]:=by
 obtain ⟨l⟩:=cs
 match l,h with
 | [c0,c1,c2,c3,c4,c5,c6,c7,c8,c9],_=>exact ⟨c0,c1,c2,c3,c4,c5,c6,c7,c8,c9,rfl⟩
theorem okWide_arr' {W:World} {r:Reach} {b0:Nat} {t e:TypeId} {n:Nat} {v:Value} (hs:Tryz.prog.underlying t=some (.array n e)) (h:Value.okWide Tryz.prog W r b0 t v):∃ xs:Array Value,v = .agg xs∧xs.size=Tryz.prog.cellsOf t:=by
 simp only [Value.okWide,hs] at h
 obtain ⟨cs,h1,h2,_⟩:=h
 exact ⟨cs,h1,h2⟩
theorem list4 {α:Type} {xs:List α} (h:xs.length=4):∃ a b c d,xs = [a,b,c,d]:=by
 match xs,h with
 | [a,b,c,d],_=>exact ⟨a,b,c,d,rfl⟩
theorem trod_A4 {H:Type} {enc:TypeId × Value→H} {W:World} {bs:Nat} {sp:Nat→Bool} {held:Bool} {n:Nat} {c0 c1 c2 c3 c4 c5 c6 c7:Value} {y:DataW H × List MemPlace} (h:DataW.trod enc Tryz.prog W bs sp held n 26 [c0,c1,c2,c3,c4,c5,c6,c7]=some y) :
  ∃ (n0:Bool) (s0:ByteArray) (n1:Bool) (s1:ByteArray) (n2:Bool) (s2:ByteArray) (n3:Bool) (s3:ByteArray),[c0,c1,c2,c3,c4,c5,c6,c7] = [.bool n0,.string s0,.bool n1,.string s1,.bool n2,.string s2,.bool n3,.string s3]∧y=(.agg [dI n0 s0,dI n1 s1,dI n2 s2,dI n3 s3],[])∧s0.size≤maxLen∧s1.size≤maxLen∧s2.size≤maxLen∧s3.size≤maxLen:=by
 obtain ⟨xs,m,-,rfl,-,hl,hf⟩:=DataW.trod_array Tryz.underlying26 h
 obtain ⟨y0,y1,y2,y3,rfl⟩:=list4 hl
 have g0:DataW.trod enc Tryz.prog W bs sp held m 25 [c0,c1]=some y0:=by have:=hf 0 (by omega);rw [cellsInt] at this;exact this
 have g1:DataW.trod enc Tryz.prog W bs sp held m 25 [c2,c3]=some y1:=by have:=hf 1 (by omega);rw [cellsInt] at this;exact this
 have g2:DataW.trod enc Tryz.prog W bs sp held m 25 [c4,c5]=some y2:=by have:=hf 2 (by omega);rw [cellsInt] at this;exact this
 have g3:DataW.trod enc Tryz.prog W bs sp held m 25 [c6,c7]=some y3:=by have:=hf 3 (by omega);rw [cellsInt] at this;exact this
 obtain ⟨n0,s0,rfl,rfl,rfl,h0⟩:=trod_Int g0
 obtain ⟨n1,s1,rfl,rfl,rfl,h1⟩:=trod_Int g1
 obtain ⟨n2,s2,rfl,rfl,rfl,h2⟩:=trod_Int g2
 obtain ⟨n3,s3,rfl,rfl,rfl,h3⟩:=trod_Int g3
 exact ⟨n0,s0,n1,s1,n2,s2,n3,s3,rfl,rfl,h0,h1,h2,h3⟩
theorem open_Num {H:Type} {enc:TypeId × Value→H} {W:World} {base bs:Nat} {sp:Nat→Bool} {held:Bool} {v:Value} {d:DataW H} {p:List MemPlace} (hv:Value.okWide Tryz.prog W .any base 28 v) (h:DataW.Trod enc Tryz.prog W bs sp held 28 v d p) :
  ∃ r:Rw,v=vR r∧d=dR r∧p = []∧mxR r:=by
 obtain ⟨cs,rfl,hsz⟩:=okWide_struct Tryz.underlying28 hv
 obtain ⟨c0,c1,c2,c3,c4,c5,c6,c7,c8,c9,rfl⟩:=array10 (hsz.trans cellsNum)
 obtain ⟨fuel,hf⟩:=h
 obtain ⟨y0,y1,m,hx,-,h0,h1⟩:=trod_struct2 Tryz.underlying28 hf
 have g0:DataW.trod enc Tryz.prog W bs sp held m 26 [c0,c1,c2,c3,c4,c5,c6,c7]=some y0:=by rw [cellsA4] at h0;exact h0
 have g1:DataW.trod enc Tryz.prog W bs sp held m 25 [c8,c9]=some y1:=by rw [cellsInt] at h1;exact h1
 obtain ⟨n0,s0,n1,s1,n2,s2,n3,s3,e,rfl,k0,k1,k2,k3⟩:=trod_A4 g0
 obtain ⟨n4,s4,rfl,rfl,rfl,k4⟩:=trod_Int g1
 simp only [List.cons.injEq,and_true] at e
 obtain ⟨rfl,rfl,rfl,rfl,rfl,rfl,rfl,rfl⟩:=e
 simp only [Prod.mk.injEq] at hx
 exact ⟨⟨n0,s0,n1,s1,n2,s2,n3,s3,n4,s4⟩,rfl,hx.1,hx.2,k0,k1,k2,k3,k4⟩
def zR:Rw:=⟨false,.empty,false,.empty,false,.empty,false,.empty,false,.empty⟩
def zeroNum:Value:=.agg #[.bool false,.string .empty,.bool false,.string .empty,.bool false,.string .empty,.bool false,.string .empty,.bool false,.string .empty]
def zeroND {H:Type}:DataW H:=.agg [.agg [zeroD,zeroD,zeroD,zeroD],zeroD]
def zeroA4:Value:=.agg #[.bool false,.string .empty,.bool false,.string .empty,.bool false,.string .empty,.bool false,.string .empty]
def zeroA4D {H:Type}:DataW H:=.agg [zeroD,zeroD,zeroD,zeroD]
theorem cellsS64':Tryz.prog.cellsOf 64=2:=by kernel_rfl
theorem cells64':Tryz.prog.cellsOf 3=1:=by kernel_rfl
theorem open_P64 {H:Type} {enc:TypeId × Value→H} {W:World} {base bs:Nat} {sp:Nat→Bool} {held:Bool} {v:Value} {d:DataW H} {p:List MemPlace} (hv:Value.okWide Tryz.prog W .any base 64 v) (h:DataW.Trod enc Tryz.prog W bs sp held 64 v d p) :
  ∃ a b:Int,v = .agg #[.int .i64 a,.int .i64 b]∧d = .agg [.lit (.int .i64 a),.lit (.int .i64 b)]∧p = []∧(Lit.int .i64 a).wf=true∧(Lit.int .i64 b).wf=true:=by
 obtain ⟨cs,rfl,hsz⟩:=okWide_arr' Tryz.underlying64 hv
 obtain ⟨c0,c1,rfl⟩:=array2 (hsz.trans cellsS64')
 obtain ⟨fuel,hf⟩:=h
 obtain ⟨xs,m,-,hx,-,hl,hf⟩:=DataW.trod_array Tryz.underlying64 hf
 obtain ⟨y0,y1,rfl⟩:∃ a b,xs = [a,b]:=by
  match xs,hl with
  | [a,b],_=>exact ⟨a,b,rfl⟩
 have g0:DataW.trod enc Tryz.prog W bs sp held m 3 [c0]=some y0:=by have:=hf 0 (by omega);rw [cells64'] at this;exact this
 have g1:DataW.trod enc Tryz.prog W bs sp held m 3 [c1]=some y1:=by have:=hf 1 (by omega);rw [cells64'] at this;exact this
 obtain ⟨a,e0,rfl,w0⟩:=DataW.trod_int Tryz.underlying3 g0
 obtain ⟨b,e1,rfl,w1⟩:=DataW.trod_int Tryz.underlying3 g1
 simp at e0 e1
 subst e0 e1
 simp only [Prod.mk.injEq] at hx
 exact ⟨a,b,rfl,hx.1,hx.2,w0,w1⟩
end Go.Proofs.YtlhddcingeneaaaGreatDoor
