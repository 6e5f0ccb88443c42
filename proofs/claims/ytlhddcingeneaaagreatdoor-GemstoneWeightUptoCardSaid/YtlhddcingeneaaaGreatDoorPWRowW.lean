/- Pairs of numbers as arguments; the bulk of what is read. -/
import Derived.Test.YtlhddcingeneaaaGreatDoorPWRowO
import Derived.Test.YtlhddcingeneaaaGreatDoorPWRowF
namespace Go.Proofs.YtlhddcingeneaaaGreatDoor
open Go.ChangeShapes Go.WideShapes Go.ChangeAt Go.RowKit Go.Joins
set_option maxRecDepth 100000
set_option linter.unusedVariables false
set_option linter.unusedSimpArgs false
theorem trod_NumW {H:Type} {enc:TypeId × Value→H} {W:World} {bs:Nat} {sp:Nat→Bool} {held:Bool} {n:Nat} {c0 c1 c2 c3 c4 c5 c6 c7 c8 c9:Value} {y:DataW H × List MemPlace} (h:DataW.trod enc Tryz.prog W bs sp held n 28 [c0,c1,c2,c3,c4,c5,c6,c7,c8,c9]=some y) :
  ∃ r:Rw,[c0,c1,c2,c3,c4,c5,c6,c7,c8,c9] = [.bool r.n0,.string r.s0,.bool r.n1,.string r.s1,.bool r.n2,.string r.s2,.bool r.n3,.string r.s3,.bool r.n4,.string r.s4]∧y=(dR r,[]):=by
 obtain ⟨y0,y1,m,hx,-,h0,h1⟩:=trod_struct2 Tryz.underlying28 h
 have g0:DataW.trod enc Tryz.prog W bs sp held m 26 [c0,c1,c2,c3,c4,c5,c6,c7]=some y0:=by rw [cellsA4] at h0;exact h0
 have g1:DataW.trod enc Tryz.prog W bs sp held m 25 [c8,c9]=some y1:=by rw [cellsInt] at h1;exact h1
 obtain ⟨n0,s0,n1,s1,n2,s2,n3,s3,e,rfl,k0,k1,k2,k3⟩:=trod_A4 g0
 obtain ⟨n4,s4,rfl,rfl,rfl,k4⟩:=trod_Int g1
 simp only [List.cons.injEq,and_true] at e
 obtain ⟨rfl,rfl,rfl,rfl,rfl,rfl,rfl,rfl⟩:=e
 exact ⟨⟨n0,s0,n1,s1,n2,s2,n3,s3,n4,s4⟩,rfl,hx⟩
theorem array20 {α:Type} {cs:Array α} (h:cs.size=20):∃ c0 c1 c2 c3 c4 c5 c6 c7 c8 c9 d0 d1 d2 d3 d4 d5 d6 d7 d8 d9,cs = #[c0,c1,c2,c3,c4,c5,c6,c7,c8,c9,d0,d1,d2,d3,d4,d5,d6,d7,d8,d9]:=by
 obtain ⟨l⟩:=cs
 match l,h with
 | [c0,c1,c2,c3,c4,c5,c6,c7,c8,c9,d0,d1,d2,d3,d4,d5,d6,d7,d8,d9],_=>exact ⟨c0,c1,c2,c3,c4,c5,c6,c7,c8,c9,d0,d1,d2,d3,d4,d5,d6,d7,d8,d9,rfl⟩
theorem cellsN2:Tryz.prog.cellsOf 29=20:=by kernel_rfl
theorem open_N2 {H:Type} {enc:TypeId × Value→H} {W:World} {base bs:Nat} {sp:Nat→Bool} {held:Bool} {v:Value} {d:DataW H} {p:List MemPlace} (hv:Value.okWide Tryz.prog W .any base 29 v) (h:DataW.Trod enc Tryz.prog W bs sp held 29 v d p) :
  ∃ a b:Rw,v = .agg #[.bool a.n0,.string a.s0,.bool a.n1,.string a.s1,.bool a.n2,.string a.s2,.bool a.n3,.string a.s3,.bool a.n4,.string a.s4,.bool b.n0,.string b.s0,.bool b.n1,.string b.s1,.bool b.n2,.string b.s2,.bool b.n3,.string b.s3,.bool b.n4,.string b.s4]∧d = .agg [dR a,dR b]:=by
 obtain ⟨cs,rfl,hsz⟩:=okWide_arr' Tryz.underlying29 hv
 obtain ⟨c0,c1,c2,c3,c4,c5,c6,c7,c8,c9,e0,e1,e2,e3,e4,e5,e6,e7,e8,e9,rfl⟩:=array20 (hsz.trans cellsN2)
 obtain ⟨fuel,hf⟩:=h
 obtain ⟨xs,m,-,hx,-,hl,hf⟩:=DataW.trod_array Tryz.underlying29 hf
 obtain ⟨y0,y1,rfl⟩:∃ a b,xs = [a,b]:=by
  match xs,hl with
  | [a,b],_=>exact ⟨a,b,rfl⟩
 have g0:DataW.trod enc Tryz.prog W bs sp held m 28 [c0,c1,c2,c3,c4,c5,c6,c7,c8,c9]=some y0:=by have:=hf 0 (by omega);rw [cellsNum] at this;exact this
 have g1:DataW.trod enc Tryz.prog W bs sp held m 28 [e0,e1,e2,e3,e4,e5,e6,e7,e8,e9]=some y1:=by have:=hf 1 (by omega);rw [cellsNum] at this;exact this
 obtain ⟨a,q0,rfl⟩:=trod_NumW g0
 obtain ⟨b,q1,rfl⟩:=trod_NumW g1
 simp only [List.cons.injEq,and_true] at q0 q1
 obtain ⟨rfl,rfl,rfl,rfl,rfl,rfl,rfl,rfl,rfl,rfl⟩:=q0
 obtain ⟨rfl,rfl,rfl,rfl,rfl,rfl,rfl,rfl,rfl,rfl⟩:=q1
 simp only [Prod.mk.injEq] at hx
 exact ⟨a,b,rfl,hx.1⟩
theorem bulk_dI {H:Type} (n:Bool) (s:ByteArray):Rows.uptoBulk (dI n s:DataW H)=1+(s.data.toList.length+1+0)+1:=by kernel_rfl
theorem bulk_dR {H:Type} (r:Rw):Rows.uptoBulk (dR r:DataW H)=(Rows.uptoBulk (dI r.n0 r.s0:DataW H)+(Rows.uptoBulk (dI r.n1 r.s1:DataW H)+(Rows.uptoBulk (dI r.n2 r.s2:DataW H)+(Rows.uptoBulk (dI r.n3 r.s3:DataW H)+0)))+1)+(Rows.uptoBulk (dI r.n4 r.s4:DataW H)+0)+1:=by kernel_rfl
theorem bulk_R {H:Type} {r:Rw} {k:Nat} (h:Rows.uptoBulk (dR r:DataW H)≤k):smallR k r:=by
 have e:∀ s:ByteArray,s.data.toList.length=s.size:=fun s=>rfl
 rw [bulk_dR,bulk_dI,bulk_dI,bulk_dI,bulk_dI,bulk_dI,e,e,e,e,e] at h
 unfold smallR
 omega
theorem bulk_pair {H:Type} {d0 d2:DataW H} {a b:Rw} {k:Nat} (h:Rows.uptoBulkAll [d0,.agg [dR a,dR b],d2]≤k):smallR k a∧smallR k b:=by
 have e:Rows.uptoBulkAll [d0,.agg [dR a,dR b],d2]=Rows.uptoBulk d0+((Rows.uptoBulk (dR a:DataW H)+(Rows.uptoBulk (dR b:DataW H)+0)+1)+(Rows.uptoBulk d2+0)):=by kernel_rfl
 rw [e] at h
 exact ⟨bulk_R (H:=H) (by omega),bulk_R (H:=H) (by omega)⟩
theorem small_up {r:Rw} (h:smallR 1048576 r):smallR 80000000 r:=by unfold smallR at *;omega
end Go.Proofs.YtlhddcingeneaaaGreatDoor
