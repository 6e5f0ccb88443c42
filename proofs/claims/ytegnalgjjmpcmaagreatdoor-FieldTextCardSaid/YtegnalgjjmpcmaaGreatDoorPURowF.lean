/- Arguments of the field's laws, opened and shut: numbers, rows of integers, pairs of machine integers. -/
import Derived.Test.YtegnalgjjmpcmaaGreatDoorPURowA
import Derived.Test.YtegnalgjjmpcmaaGreatDoorPUI
namespace Go.Proofs.YtegnalgjjmpcmaaGreatDoor
open Go.ChangeShapes Go.WideShapes Go.ChangeAt Go.RowKit Go.Joins
set_option maxRecDepth 100000
set_option linter.unusedVariables false
set_option linter.unusedSimpArgs false
theorem cellsNum:Tryz.prog.cellsOf 26=10:=by kernel_rfl
theorem cellsA4:Tryz.prog.cellsOf 24=8:=by kernel_rfl
def dI {H:Type} (n:Bool) (s:ByteArray):DataW H:=.agg [.lit (.bool n),.lit (.string s.data.toList)]
def dR {H:Type} (r:Rw):DataW H:=.agg [.agg [dI r.n0 r.s0,dI r.n1 r.s1,dI r.n2 r.s2,dI r.n3 r.s3],dI r.n4 r.s4]
def mxR (r:Rw):Prop:=r.s0.size≤maxLen∧r.s1.size≤maxLen∧r.s2.size≤maxLen∧r.s3.size≤maxLen∧r.s4.size≤maxLen
theorem zdT {H:Type} {enc:TypeId × Value→H} {W:World} {bs:Nat} {sp:Nat→Bool} {held:Bool} {n:Nat} {c0 c1:Value} {y:DataW H × List MemPlace} (h:DataW.trod enc Tryz.prog W bs sp held n 23 [c0,c1]=some y) :
  ∃ (b:Bool) (s:ByteArray),c0 = .bool b∧c1 = .string s∧y=(dI b s,[])∧s.size≤maxLen:=by
 obtain ⟨y0,y1,m,hx,-,h0,h1⟩:=trod_struct2 Tryz.underlying23 h
 have g0:DataW.trod enc Tryz.prog W bs sp held m 4 [c0]=some y0:=h0
 have g1:DataW.trod enc Tryz.prog W bs sp held m 9 [c1]=some y1:=h1
 obtain ⟨b,e0,rfl⟩:=DataW.trod_bool Tryz.underlying4 g0
 obtain ⟨s,e1,rfl,hs⟩:=DataW.trod_string Tryz.underlying9 g1
 simp at e0 e1
 exact ⟨b,s,e0,e1,hx,hs⟩
theorem zb7 {H:Type} {enc:TypeId × Value→H} {W:World} {bs:Nat} {sp:Nat→Bool} {held:Bool} (n:Nat) (b:Bool) (s:ByteArray) (hs:s.size≤maxLen) :
  DataW.trod enc Tryz.prog W bs sp held (n+2) 23 [.bool b,.string s]=some (dI b s,[]):=by
 have h0:DataW.trod enc Tryz.prog W bs sp held (n+1) 4 [.bool b]=some (.lit (.bool b),[]):=by simp [DataW.trod,Tryz.underlying4]
 have h1:DataW.trod enc Tryz.prog W bs sp held (n+1) 9 [.string s]=some (.lit (.string s.data.toList),[]):=by simp [DataW.trod,Tryz.underlying9,hs]
 exact trod_struct2_mk (y0:=(.lit (.bool b),[])) (y1:=(.lit (.string s.data.toList),[])) Tryz.underlying23 (by rw [cellsInt];rfl) h0 h1
theorem array10 {α:Type} {cs:Array α} (h:cs.size=10):∃ c0 c1 c2 c3 c4 c5 c6 c7 c8 c9,cs = #[c0,c1,c2,c3,c4,c5,c6,c7,c8,c9]:=by
 obtain ⟨l⟩:=cs
 match l,h with
 | [c0,c1,c2,c3,c4,c5,c6,c7,c8,c9],_=>exact ⟨c0,c1,c2,c3,c4,c5,c6,c7,c8,c9,rfl⟩
theorem list4 {α:Type} {xs:List α} (h:xs.length=4):∃ a b c d,xs = [a,b,c,d]:=by
 match xs,h with
 | [a,b,c,d],_=>exact ⟨a,b,c,d,rfl⟩
theorem zqA {H:Type} {enc:TypeId × Value→H} {W:World} {bs:Nat} {sp:Nat→Bool} {held:Bool} {n:Nat} {c0 c1 c2 c3 c4 c5 c6 c7:Value} {y:DataW H × List MemPlace} (h:DataW.trod enc Tryz.prog W bs sp held n 24 [c0,c1,c2,c3,c4,c5,c6,c7]=some y) :
  ∃ (n0:Bool) (s0:ByteArray) (n1:Bool) (s1:ByteArray) (n2:Bool) (s2:ByteArray) (n3:Bool) (s3:ByteArray),[c0,c1,c2,c3,c4,c5,c6,c7] = [.bool n0,.string s0,.bool n1,.string s1,.bool n2,.string s2,.bool n3,.string s3]∧y=(.agg [dI n0 s0,dI n1 s1,dI n2 s2,dI n3 s3],[])∧s0.size≤maxLen∧s1.size≤maxLen∧s2.size≤maxLen∧s3.size≤maxLen:=by
 obtain ⟨xs,m,-,rfl,-,hl,hf⟩:=DataW.trod_array Tryz.underlying24 h
 obtain ⟨y0,y1,y2,y3,rfl⟩:=list4 hl
 have g0:DataW.trod enc Tryz.prog W bs sp held m 23 [c0,c1]=some y0:=by have:=hf 0 (by omega);rw [cellsInt] at this;exact this
 have g1:DataW.trod enc Tryz.prog W bs sp held m 23 [c2,c3]=some y1:=by have:=hf 1 (by omega);rw [cellsInt] at this;exact this
 have g2:DataW.trod enc Tryz.prog W bs sp held m 23 [c4,c5]=some y2:=by have:=hf 2 (by omega);rw [cellsInt] at this;exact this
 have g3:DataW.trod enc Tryz.prog W bs sp held m 23 [c6,c7]=some y3:=by have:=hf 3 (by omega);rw [cellsInt] at this;exact this
 obtain ⟨n0,s0,rfl,rfl,rfl,h0⟩:=zdT g0
 obtain ⟨n1,s1,rfl,rfl,rfl,h1⟩:=zdT g1
 obtain ⟨n2,s2,rfl,rfl,rfl,h2⟩:=zdT g2
 obtain ⟨n3,s3,rfl,rfl,rfl,h3⟩:=zdT g3
 exact ⟨n0,s0,n1,s1,n2,s2,n3,s3,rfl,rfl,h0,h1,h2,h3⟩
theorem zj7 {H:Type} {enc:TypeId × Value→H} {W:World} {bs:Nat} {sp:Nat→Bool} {held:Bool} (n:Nat) (n0 n1 n2 n3:Bool) (s0 s1 s2 s3:ByteArray) (h0:s0.size≤maxLen) (h1:s1.size≤maxLen) (h2:s2.size≤maxLen) (h3:s3.size≤maxLen) :
  DataW.trod enc Tryz.prog W bs sp held (n+3) 24 [.bool n0,.string s0,.bool n1,.string s1,.bool n2,.string s2,.bool n3,.string s3]=some (.agg [dI n0 s0,dI n1 s1,dI n2 s2,dI n3 s3],[]):=by
 have g0:=zb7 (enc:=enc) (W:=W) (bs:=bs) (sp:=sp) (held:=held) n n0 s0 h0
 have g1:=zb7 (enc:=enc) (W:=W) (bs:=bs) (sp:=sp) (held:=held) n n1 s1 h1
 have g2:=zb7 (enc:=enc) (W:=W) (bs:=bs) (sp:=sp) (held:=held) n n2 s2 h2
 have g3:=zb7 (enc:=enc) (W:=W) (bs:=bs) (sp:=sp) (held:=held) n n3 s3 h3
 rw [DataW.trod_step]
 unfold DataW.trodStep
 simp only [Tryz.underlying24,cellsA4,cellsInt]
 rw [show List.range 4 = [0,1,2,3] from rfl]
 simp [g0,g1,g2,g3]
theorem zoU {H:Type} {enc:TypeId × Value→H} {W:World} {base bs:Nat} {sp:Nat→Bool} {held:Bool} {v:Value} {d:DataW H} {p:List MemPlace} (hv:Value.okWide Tryz.prog W .any base 26 v) (h:DataW.Trod enc Tryz.prog W bs sp held 26 v d p) :
  ∃ r:Rw,v=vR r∧d=dR r∧p = []∧mxR r:=by
 obtain ⟨cs,rfl,hsz⟩:=okWide_struct Tryz.underlying26 hv
 obtain ⟨c0,c1,c2,c3,c4,c5,c6,c7,c8,c9,rfl⟩:=array10 (hsz.trans cellsNum)
 obtain ⟨fuel,hf⟩:=h
 obtain ⟨y0,y1,m,hx,-,h0,h1⟩:=trod_struct2 Tryz.underlying26 hf
 have g0:DataW.trod enc Tryz.prog W bs sp held m 24 [c0,c1,c2,c3,c4,c5,c6,c7]=some y0:=by rw [cellsA4] at h0;exact h0
 have g1:DataW.trod enc Tryz.prog W bs sp held m 23 [c8,c9]=some y1:=by rw [cellsInt] at h1;exact h1
 obtain ⟨n0,s0,n1,s1,n2,s2,n3,s3,e,rfl,k0,k1,k2,k3⟩:=zqA g0
 obtain ⟨n4,s4,rfl,rfl,rfl,k4⟩:=zdT g1
 simp only [List.cons.injEq,and_true] at e
 obtain ⟨rfl,rfl,rfl,rfl,rfl,rfl,rfl,rfl⟩:=e
 simp only [Prod.mk.injEq] at hx
 exact ⟨⟨n0,s0,n1,s1,n2,s2,n3,s3,n4,s4⟩,rfl,hx.1,hx.2,k0,k1,k2,k3,k4⟩
theorem zpt {H:Type} {enc:TypeId × Value→H} {W:World} {base:Nat} {sp:Nat→Bool} {held:Bool} (r:Rw) (h:mxR r):DataW.Trod enc Tryz.prog W base sp held 26 (vR r) (dR r) []:=by
 obtain ⟨h0,h1,h2,h3,h4⟩:=h
 have g0:=zj7 (enc:=enc) (W:=W) (bs:=base) (sp:=sp) (held:=held) 0 r.n0 r.n1 r.n2 r.n3 r.s0 r.s1 r.s2 r.s3 h0 h1 h2 h3
 have g1:=zb7 (enc:=enc) (W:=W) (bs:=base) (sp:=sp) (held:=held) 1 r.n4 r.s4 h4
 refine ⟨0+3+1,?_⟩
 have:=trod_struct2_mk (enc:=enc) (w:=W) (base:=base) (spare:=sp) (held:=held) (n:=0+3) (cs:=[.bool r.n0,.string r.s0,.bool r.n1,.string r.s1,.bool r.n2,.string r.s2,.bool r.n3,.string r.s3,.bool r.n4,.string r.s4]) Tryz.underlying26 (by rw [cellsNum];rfl)
  (by rw [cellsA4];exact g0) (by rw [cellsInt];exact g1)
 exact this
def zR:Rw:=⟨false,.empty,false,.empty,false,.empty,false,.empty,false,.empty⟩
def zeroNum:Value:=.agg #[.bool false,.string .empty,.bool false,.string .empty,.bool false,.string .empty,.bool false,.string .empty,.bool false,.string .empty]
def zeroND {H:Type}:DataW H:=.agg [.agg [zeroD,zeroD,zeroD,zeroD],zeroD]
def zeroA4:Value:=.agg #[.bool false,.string .empty,.bool false,.string .empty,.bool false,.string .empty,.bool false,.string .empty]
def zeroA4D {H:Type}:DataW H:=.agg [zeroD,zeroD,zeroD,zeroD]
end Go.Proofs.YtegnalgjjmpcmaaGreatDoor
