/- Fixed-point intervals (reference): floor, ceil, checked, Valid, Root, Square, Sub, Div, Sqrt, Ratio. -/
import Derived.Test.YtlhddcingeneaaaGreatDoorPNGnB
import Derived.Test.YtlhddcingeneaaaGreatDoorPND
import Derived.Test.YtlhddcingeneaaaGreatDoorPNG
import Derived.Test.YtlhddcingeneaaaGreatDoorPNL
namespace Go.Proofs.YtlhddcingeneaaaGreatDoor
open Go Go.RowKit
set_option maxRecDepth 100000
set_option linter.unusedVariables false
set_option linter.unusedSimpArgs false
theorem iufloor_any (a b:Int) (w:World) (hb:1≤b) (ha:a.natAbs<72057594037927936) (hb2:b≤4611686018427387904):Calls Tryz.prog 218 #[.int .i64 a,.int .i64 b] w (RetV (.int .i64 (a / b)) w):=by
 obtain ⟨e,p,n,l,u,s⟩:=tdm (a:=a) hb
 have Q1:=fun w=>quo_run a b w (by omega) ha
 have k:=@fl_uniq a b
 generalize a.tdiv b=T at *
 generalize a.tmod b=R at *
 have g1:decide (b<(0:Int))=false:=decide_eq_false (by omega)
 have k1:T * b≤a→a / b=T:=fun h=>k (q:=T) (by omega) h (by rw [Int.add_mul];omega)
 have k2:a<T * b→a / b=T - 1:=fun h=>k (q:=T - 1) (by omega) (by rw [Int.sub_mul];omega) (by rw [Int.add_mul,Int.sub_mul];omega)
 have v0:IntKind.i64.wrap (T * b)=T * b:=wr64 (by omega) (by omega)
 have v1:IntKind.i64.wrap (T - 1)=T - 1:=wr64 (by omega) (by omega)
 obtain ⟨p,hp⟩:∃ p,p=T * b:=⟨_,rfl⟩
 rw [← hp] at k1 k2
 have v0:IntKind.i64.wrap (T * b)=p:=by rw [v0,hp]
 cases h1:decide (a<p) with
 | false =>
  rw [k1 (by have:=of_decide_eq_false h1;omega)]
  exact vm_pure kr Tryz.func218 rfl [.int .i64 a,.int .i64 b] nle [(3,2),(4,2)] [(.p _ false g1),(.p _ false h1)] [lV (Op.intDiv .quo .i64 ((a):Int) ((b):Int)) (.int .i64 (T)) (fun w hC=>Q1 w),lE .i64 (((T):Int) * ((b):Int)) (p) (v0)]
 | true =>
  rw [k2 (of_decide_eq_true h1)]
  exact vm_pure kr Tryz.func218 rfl [.int .i64 a,.int .i64 b] nle [(3,2),(4,2),(5,1)] [(.p _ false g1),(.p _ true h1)] [lV (Op.intDiv .quo .i64 ((a):Int) ((b):Int)) (.int .i64 (T)) (fun w hC=>Q1 w),lE .i64 (((T):Int) * ((b):Int)) (p) (v0),lE .i64 (((T):Int) - ((1):Int)) (T - 1) (v1)]
theorem iuceil_any (a b:Int) (w:World) (hb:1≤b) (ha:a.natAbs<72057594037927936) (hb2:b≤4611686018427387904):Calls Tryz.prog 219 #[.int .i64 a,.int .i64 b] w (RetV (.int .i64 (-(-a / b))) w):=by
 have F:=fun w=>iufloor_any (-a) b w hb (by omega) hb2
 have N1:=neg_v (a:=-a) (b:=a) rfl (by omega)
 have N2:=neg_v (a:=-(-a / b)) (b:=-a / b) rfl (ediv_abs hb (by omega))
 generalize -a / b=q at *
 exact vm_pure kr Tryz.func219 rfl [.int .i64 a,.int .i64 b] nle [(1,1),(1,4)] [] [lP (.int .i64 (IntKind.i64.wrap (0 - a))) (.int .i64 (-a)) N1,cV (F),lP (.int .i64 (IntKind.i64.wrap (0 - q))) (.int .i64 (-q)) N2]
theorem iuValid_any (a b:Int) (w:World) (ha:-1073741824≤a) (hab:a≤b) (hb:b≤1073741824):Calls Tryz.prog 127 #[vIv a b] w (RetV (.bool true) w):=by
 have h0:decide ((-1073741824:Int)≤a)=true:=decide_eq_true (by omega)
 have h1:decide (a≤b)=true:=decide_eq_true (by omega)
 have h2:decide (b≤(1073741824:Int))=true:=decide_eq_true (by omega)
 exact vm_pure kr Tryz.func127 rfl [vIv a b] nle [(1,13)] [(.p _ true h0),(.p _ true h0),(.p _ true h0),(.p _ true h0),(.p _ true h0),(.p _ true h0),(.p _ true h1),(.p _ true h1),(.p _ true h1),(.p _ true h1)] [lP (.bool (decide (b≤(1073741824:Int)))) (.bool true) (congrArg Value.bool h2)]
theorem iuboth_any (a b c d:Int) (w:World) (ha:-1073741824≤a) (hab:a≤b) (hb:b≤1073741824) (hc:-1073741824≤c) (hcd:c≤d) (hd:d≤1073741824):Calls Tryz.prog 217 #[vIv a b,vIv c d] w (RetV (.bool true) w):=by
 have V0:=fun w=>iuValid_any a b w ha hab hb
 have V1:=fun w=>iuValid_any c d w hc hcd hd
 exact vm_pure kr Tryz.func217 rfl [vIv a b,vIv c d] nle [] [.t,.t,.t] [cV (V0),cV (V1)]
theorem iuchecked_any (a b:Int) (w:World) (ha:-1073741824≤a) (hab:a≤b) (hb:b≤1073741824):Calls Tryz.prog 169 #[.int .i64 a,.int .i64 b] w (RetV (.tuple #[vIv a b,.int .i64 0]) w):=by
 have V0:=fun w=>iuValid_any a b w ha hab hb
 exact vm_pure kr Tryz.func169 rfl [.int .i64 a,.int .i64 b] nle [] [.f] [cV (V0)]
theorem iuSquare_any (lo hi:Int) (w:World) (h0:16777216≤lo) (h:lo≤hi) (h1:hi≤67108864):Calls Tryz.prog 178 #[vIv lo hi] w (RetV (.tuple #[vIv (sqL lo) (sqH hi),.int .i64 0]) w):=by
 obtain ⟨b1,b2,b3⟩:=sq_in h0 h h1
 have V:=fun w=>iuValid_any lo hi w (by omega) h (by omega)
 have c1:decide (lo≤(0:Int))=false:=decide_eq_false (by omega)
 unfold sqL sqH
 have v1:IntKind.i64.wrap (lo * lo)=lo * lo:=wr64 (by omega) (by omega)
 have v2:IntKind.i64.wrap (hi * hi)=hi * hi:=wr64 (by omega) (by omega)
 have e1:(if hi * hi<lo * lo then hi * hi else lo * lo)=lo * lo:=by split <;> omega
 have e2:(if hi * hi > lo * lo then hi * hi else lo * lo)=hi * hi:=by split <;> omega
 have F:=fun w=>iufloor_any (lo * lo) 16777216 w (by omega) (by omega) (by omega)
 have C:=fun w=>iuceil_any (hi * hi) 16777216 w (by omega) (by omega) (by omega)
 have M:=fun w=>iuchecked_any (lo * lo / 16777216) (-(-(hi * hi) / 16777216)) w (by omega) (by omega) (by omega)
 generalize -(-(hi * hi) / 16777216)=d at *
 generalize lo * lo / 16777216=c at *
 obtain ⟨p,hp⟩:∃ p,p=lo * lo:=⟨_,rfl⟩
 obtain ⟨q,hq⟩:∃ q,q=hi * hi:=⟨_,rfl⟩
 rw [← hp,← hq] at e1 e2
 rw [← hp] at F
 rw [← hq] at C
 have v1:IntKind.i64.wrap (lo * lo)=p:=by rw [v1,hp]
 have v2:IntKind.i64.wrap (hi * hi)=q:=by rw [v2,hq]
 have E1:(Value.int .i64 (if q<p then q else p)) = .int .i64 p:=by rw [e1]
 have E2:(Value.int .i64 (if q > p then q else p)) = .int .i64 q:=by rw [e2]
 exact vm_pure kr Tryz.func178 rfl [vIv lo hi] nle [(3,4),(3,9),(4,2),(7,4)] [.f,(.p _ false c1),(.p _ false c1),(.p _ false c1),(.p _ false c1),.f] [cV (V),lE .i64 (((lo):Int) * ((lo):Int)) (p) (v1),lE .i64 (((hi):Int) * ((hi):Int)) (q) (v2),lP (.int .i64 (if q<p then q else p)) (.int .i64 p) E1,cV (F),lP (.int .i64 (if q > p then q else p)) (.int .i64 q) E2,cV (C),cV (M)]
theorem iuSub_any (a b c d:Int) (w:World) (ha:-1073741824≤a) (hab:a≤b) (hb:b≤1073741824) (hc:-1073741824≤c) (hcd:c≤d) (hd:d≤1073741824) (h0:-1073741824≤a - d) (h1:b - c≤1073741824):Calls Tryz.prog 176 #[vIv a b,vIv c d] w (RetV (.tuple #[vIv (a - d) (b - c),.int .i64 0]) w):=by
 have V:=fun w=>iuboth_any a b c d w ha hab hb hc hcd hd
 have v1:IntKind.i64.wrap (a - d)=a - d:=wr64 (by omega) (by omega)
 have v2:IntKind.i64.wrap (b - c)=b - c:=wr64 (by omega) (by omega)
 have M:=fun w=>iuchecked_any (a - d) (b - c) w h0 (by omega) h1
 obtain ⟨p,hp⟩:∃ p,p=a - d:=⟨_,rfl⟩
 obtain ⟨q,hq⟩:∃ q,q=b - c:=⟨_,rfl⟩
 rw [← hp,← hq] at M ⊢
 have v1:IntKind.i64.wrap (a - d)=p:=by rw [v1,hp]
 have v2:IntKind.i64.wrap (b - c)=q:=by rw [v2,hq]
 exact vm_pure kr Tryz.func176 rfl [vIv a b,vIv c d] nle [(3,4),(3,9)] [.f] [cV (V),lE .i64 (((a):Int) - ((d):Int)) (p) (v1),lE .i64 (((b):Int) - ((c):Int)) (q) (v2),cV (M)]
theorem iuDiv_any (c d:Int) (w:World) (hc:16777216≤c) (hcd:c≤d) (hd:d≤1073741824):Calls Tryz.prog 177 #[vIv 16777216 16777216,vIv c d] w (RetV (.tuple #[vIv (dvL d) (dvH c),.int .i64 0]) w):=by
 obtain ⟨a1,a2,a3,a4,a5⟩:=dv_in hc hcd
 have V:=fun w=>iuboth_any 16777216 16777216 c d w (by omega) (by omega) (by omega) (by omega) hcd (by omega)
 have F1:=fun w=>iufloor_any 281474976710656 c w (by omega) (by decide) (by omega)
 have F2:=fun w=>iufloor_any 281474976710656 d w (by omega) (by decide) (by omega)
 have C1:=fun w=>iuceil_any 281474976710656 c w (by omega) (by decide) (by omega)
 have C2:=fun w=>iuceil_any 281474976710656 d w (by omega) (by decide) (by omega)
 have M:=fun w=>iuchecked_any (dvL d) (dvH c) w (by omega) (by omega) (by omega)
 have g1:decide (c≤(0:Int))=false:=decide_eq_false (by omega)
 change ∀ w,Calls Tryz.prog 218 #[.int .i64 281474976710656,.int .i64 c] w (RetV (.int .i64 (dvL c)) w) at F1
 change ∀ w,Calls Tryz.prog 218 #[.int .i64 281474976710656,.int .i64 d] w (RetV (.int .i64 (dvL d)) w) at F2
 change ∀ w,Calls Tryz.prog 219 #[.int .i64 281474976710656,.int .i64 c] w (RetV (.int .i64 (dvH c)) w) at C1
 change ∀ w,Calls Tryz.prog 219 #[.int .i64 281474976710656,.int .i64 d] w (RetV (.int .i64 (dvH d)) w) at C2
 generalize dvL c=lc at *
 generalize dvL d=ld at *
 generalize dvH c=kc at *
 generalize dvH d=kd at *
 have e1:(if ld<lc then ld else lc)=ld:=by split <;> omega
 have e2:(if lc<ld then lc else ld)=ld:=by split <;> omega
 have e3:(if ld<ld then ld else ld)=ld:=ite_self _
 have E1:(Value.int .i64 (if ld<(if lc<(if ld<lc then ld else lc) then lc else (if ld<lc then ld else lc)) then ld else (if lc<(if ld<lc then ld else lc) then lc else (if ld<lc then ld else lc)))) = .int .i64 ld:=by rw [e1,e2,e3]
 have f1:(if kd > kc then kd else kc)=kc:=by split <;> omega
 have f2:(if kc > kc then kc else kc)=kc:=ite_self _
 have E2:(Value.int .i64 (if kd > (if kc > (if kd > kc then kd else kc) then kc else (if kd > kc then kd else kc)) then kd else (if kc > (if kd > kc then kd else kc) then kc else (if kd > kc then kd else kc)))) = .int .i64 kc:=by rw [f1,f2,f1]
 exact vm_pure kr Tryz.func177 rfl [vIv 16777216 16777216,vIv c d] nle [(6,16),(7,16)] [.f,(.p _ false g1),(.p _ false g1),(.p _ false g1),(.p _ false g1),.f] [cV (V),cV (F1),cV (F2),cV (F1),cV (F2),lP (.int .i64 (if ld<(if lc<(if ld<lc then ld else lc) then lc else (if ld<lc then ld else lc)) then ld else (if lc<(if ld<lc then ld else lc) then lc else (if ld<lc then ld else lc)))) (.int .i64 ld) E1,cV (C1),cV (C2),cV (C1),cV (C2),lP (.int .i64 (if kd > (if kc > (if kd > kc then kd else kc) then kc else (if kd > kc then kd else kc)) then kd else (if kc > (if kd > kc then kd else kc) then kc else (if kd > kc then kd else kc)))) (.int .i64 kc) E2,cV (M)]
noncomputable def iwN:Nat:=Tryz.f179.ntmps
noncomputable def iwC:Code:=Tryz.f179.body.getD .skip
noncomputable def iw0:Code:=cB 0 iwC
theorem iuRoot_any (n r:Int) (w:World) (hr:IsRt r n) (hn:n<1152921504606846976):Calls Tryz.prog 179 #[.int .i64 n] w (RetV (.int .i64 r) w):=by
 refine vm_start [.int .i64 n] (fn:=Tryz.f179) (c:=iwC) kr kr nle ?_
 intro a hS
 have hS:St iwN [(0,(.int .i64 n,0))] a:=hS
 have hn0:0≤n:=by
  have:=sq_le (x:=0) (y:=r) (by omega) hr.1
  have:=hr.2.1
  omega
 refine wp_cut 0 kr ?_
 refine vm_piece (E0:=[(0,(.int .i64 (n),0))]) kr [] iwN (cPre 0 iwC) kr hS [] [] (VEx.n) [(0,(.int .i64 (n),0)),(3,(.int .i64 ((0:Int)),0)),(4,(.int .i64 ((((32:Nat):Int) - 1)),0))] [] (hQ:=?_)
 intro a1 w1 hS1 hK1 hM1
 refine wp_for 0 kr kr (fun m a' w'=>∃ q:Int,0≤q∧q * q≤n∧n<(q+(2 ^ m:Nat)) * (q+(2 ^ m:Nat))∧m≤32∧St iwN [(0,(.int .i64 n,0)),(3,(.int .i64 q,0)),(4,(.int .i64 (((m:Nat):Int) - 1),0))] a'∧Below w.heap.size w w') 32 ⟨0,by omega,by omega,by show n<(0+(4294967296:Int)) * (0+4294967296);omega,by omega,hS1,hM1.bl0⟩ ?_
 clear hS1 hM1 hS hK1
 rintro m a2 w2 ⟨q,hq0,hq1,hq2,hm,hS2,hB2⟩
 refine wpL_one ?_
 have hq3:q≤1073741824:=sq_le' (by omega) (by omega)
 cases m with
 | zero =>
  obtain rfl:r=q:=hr.uniq ⟨hq0,hq1,hq2⟩
  have h1:decide ((0:Int)≤(((0:Nat):Int) - 1))=false:=by decide
  generalize (((0:Nat):Int) - 1)=bt at *
  refine vm_piece (E0:=[(0,(.int .i64 (n),0)),(3,(.int .i64 (r),0)),(4,(.int .i64 (bt),0))]) kr [] iwN [cI (cI iw0)] kr hS2 [(.p _ false h1)] [] (VEx.x 0) [(3,(.int .i64 (r),0))] [] (hQ:=?_)
  intro a3 w3 hS3 hK3 hM3
  refine exit_n (then_n ?_)
  have hB3:Below w.heap.size w w3:=hB2.trans (hM3.bl0.mono hB2.size)
  refine vm_piece (E0:=[(3,(.int .i64 (r),0))]) kr [] iwN (cPost 0 iwC) kr hS3 [] [] (VEx.r) [(2,(.int .i64 (r),0))] [] (hQ:=?_)
  intro a4 w4 hS4 hK4 hM4
  exact vm_out (fn:=Tryz.f179) hS4 (.int .i64 r) (fun g=>by kernel_rfl) ⟨rfl,hB3.trans (hM4.bl0.mono hB3.size)⟩
 | succ k =>
  have e2:2 ^ (k+1)=2 * 2 ^ k:=by rw [Nat.pow_succ];omega
  have p1:2 ^ k≤2 ^ 31:=Nat.pow_le_pow_right (by decide) (by omega)
  have p0:0<2 ^ k:=Nat.pow_pos (by decide)
  have H:=fun w=>shl_one k (by omega) w
  rw [show (((k+1:Nat):Int) - 1)=((k:Nat):Int) from by omega] at hS2
  rw [e2] at hq2
  have hfin:∀ q':Int,0≤q'→q' * q'≤n→n<(q'+(2 ^ k:Nat)) * (q'+(2 ^ k:Nat))→∀ a' w',St iwN [(0,(.int .i64 n,0)),(3,(.int .i64 q',0)),(4,(.int .i64 (((k:Nat):Int) - 1),0))] a'→Below w.heap.size w w'→∃ m,m<k+1∧∃ q:Int,0≤q∧q * q≤n∧n<(q+(2 ^ m:Nat)) * (q+(2 ^ m:Nat))∧m≤32∧St iwN [(0,(.int .i64 n,0)),(3,(.int .i64 q,0)),(4,(.int .i64 (((m:Nat):Int) - 1),0))] a'∧Below w.heap.size w w' :=
   fun q' x1 x2 x3 a' w' x4 x5=>⟨k,by omega,q',x1,x2,x3,by omega,x4,x5⟩
  generalize 2 ^ k=B at *
  have h1:decide ((0:Int)≤((k:Nat):Int))=true:=decide_eq_true (by omega)
  have v3:IntKind.i64.wrap (((k:Nat):Int) - 1)=((k:Nat):Int) - 1:=wr64 (by omega) (by omega)
  obtain ⟨x,hxx⟩:∃ x,x=q+(B:Int):=⟨_,rfl⟩
  have v1:IntKind.i64.wrap (q+((B:Nat):Int))=x:=by rw [hxx];exact wr64 (by omega) (by omega)
  have hx:0<x:=by omega
  have e4:q+((2 * B:Nat):Int)=x+(B:Int):=by omega
  rw [e4] at hq2
  cases h2:decide (x≤(3037000499:Int)) with
  | true =>
   have h22:=of_decide_eq_true h2
   have hxs:x * x≤3037000499 * 3037000499:=sq_le (by omega) h22
   have hxz:0≤x * x:=Int.mul_nonneg (by omega) (by omega)
   obtain ⟨y,hy⟩:∃ y,y=x * x:=⟨_,rfl⟩
   have v2:IntKind.i64.wrap (x * x)=y:=by rw [hy];exact wr64 (by omega) (by omega)
   cases h3:decide (y≤n) with
   | true =>
    have h4:x * x≤n:=by have:=of_decide_eq_true h3;omega
    refine vm_piece (E0:=[(0,(.int .i64 (n),0)),(3,(.int .i64 (q),0)),(4,(.int .i64 (((k:Nat):Int)),0))]) kr [(5,2),(5,3),(6,5),(4,1)] iwN [cI (cI iw0)] kr hS2 [(.p _ true h1),(.p _ true h2),(.p _ true h2),(.p _ true h2),(.p _ true h2),(.p _ true h2),(.p _ true h2),(.p _ true h3)] [lV (binOp .shl 3 (.int .i64 1) (.int .i64 ((k:Nat):Int))) (.int .i64 ((B:Nat):Int)) (fun w hC=>H w),lE .i64 (((q):Int)+((((B:Nat):Int)):Int)) (x) (v1),lE .i64 (((x):Int) * ((x):Int)) (y) (v2),lE .i64 (((((k:Nat):Int)):Int) - ((1):Int)) (((k:Nat):Int) - 1) (v3)] (VEx.n) [(0,(.int .i64 (n),0)),(3,(.int .i64 (x),0)),(4,(.int .i64 (((k:Nat):Int) - 1),0))] [] (hQ:=?_)
    intro a3 w3 hS3 hK3 hM3
    exact hfin x (by omega) h4 hq2 a3 w3 hS3 (hB2.trans (hM3.bl0.mono hB2.size))
   | false =>
    have h4:n<x * x:=by have:=of_decide_eq_false h3;omega
    refine vm_piece (E0:=[(0,(.int .i64 (n),0)),(3,(.int .i64 (q),0)),(4,(.int .i64 (((k:Nat):Int)),0))]) kr [(5,2),(5,3),(6,5),(4,1)] iwN [cI (cI iw0)] kr hS2 [(.p _ true h1),(.p _ true h2),(.p _ true h2),(.p _ true h2),(.p _ true h2),(.p _ true h2),(.p _ true h2),(.p _ false h3)] [lV (binOp .shl 3 (.int .i64 1) (.int .i64 ((k:Nat):Int))) (.int .i64 ((B:Nat):Int)) (fun w hC=>H w),lE .i64 (((q):Int)+((((B:Nat):Int)):Int)) (x) (v1),lE .i64 (((x):Int) * ((x):Int)) (y) (v2),lE .i64 (((((k:Nat):Int)):Int) - ((1):Int)) (((k:Nat):Int) - 1) (v3)] (VEx.n) [(0,(.int .i64 (n),0)),(3,(.int .i64 (q),0)),(4,(.int .i64 (((k:Nat):Int) - 1),0))] [] (hQ:=?_)
    intro a3 w3 hS3 hK3 hM3
    exact hfin q hq0 hq1 (by rw [← hxx];exact h4) a3 w3 hS3 (hB2.trans (hM3.bl0.mono hB2.size))
  | false =>
   have h22:=of_decide_eq_false h2
   have hxs:3037000500 * 3037000500≤x * x:=sq_le (by omega) (by omega)
   refine vm_piece (E0:=[(0,(.int .i64 (n),0)),(3,(.int .i64 (q),0)),(4,(.int .i64 (((k:Nat):Int)),0))]) kr [(5,2),(5,3),(4,1)] iwN [cI (cI iw0)] kr hS2 [(.p _ true h1),(.p _ false h2),(.p _ false h2),(.p _ false h2),(.p _ false h2),(.p _ false h2),(.p _ false h2),.f] [lV (binOp .shl 3 (.int .i64 1) (.int .i64 ((k:Nat):Int))) (.int .i64 ((B:Nat):Int)) (fun w hC=>H w),lE .i64 (((q):Int)+((((B:Nat):Int)):Int)) (x) (v1),lE .i64 (((((k:Nat):Int)):Int) - ((1):Int)) (((k:Nat):Int) - 1) (v3)] (VEx.n) [(0,(.int .i64 (n),0)),(3,(.int .i64 (q),0)),(4,(.int .i64 (((k:Nat):Int) - 1),0))] [] (hQ:=?_)
   intro a3 w3 hS3 hK3 hM3
   exact hfin q hq0 hq1 (by rw [← hxx];omega) a3 w3 hS3 (hB2.trans (hM3.bl0.mono hB2.size))
theorem iuSqrt_any (lo hi r s:Int) (w:World) (h0:0≤lo) (h:lo≤hi) (h1:hi≤16777216) (hr:IsRt r (lo * 16777216)) (hs:IsRt s (hi * 16777216)):Calls Tryz.prog 132 #[vIv lo hi] w (RetV (.tuple #[vIv r (upS s (hi * 16777216)),.int .i64 0]) w):=by
 have V:=fun w=>iuValid_any lo hi w (by omega) h (by omega)
 have c1:decide (lo<(0:Int))=false:=decide_eq_false (by omega)
 have v1:IntKind.i64.wrap (lo * 16777216)=lo * 16777216:=wr64 (by omega) (by omega)
 have v2:IntKind.i64.wrap (hi * 16777216)=hi * 16777216:=wr64 (by omega) (by omega)
 have R1:=fun w=>iuRoot_any (lo * 16777216) r w hr (by omega)
 have R2:=fun w=>iuRoot_any (hi * 16777216) s w hs (by omega)
 have b1:=rt_le hr (by omega)
 have b2:=rt_le hs (by omega)
 have b3:=hr.1
 have b4:=hs.1
 have b5:=hs.2.1
 have b6:0≤s * s:=Int.mul_nonneg b4 b4
 have b7:r≤s:=by
  rcases Int.lt_or_le s r with k | k
  ·have:=sq_le (x:=s+1) (y:=r) (by omega) (by omega)
   have:=hr.2.1
   have:=hs.2.2
   omega
  ·exact k
 have v3:IntKind.i64.wrap (s * s)=s * s:=wr64 (by omega) (by omega)
 have v4:IntKind.i64.wrap (s+1)=s+1:=wr64 (by omega) (by omega)
 unfold upS
 obtain ⟨p,hp⟩:∃ p,p=lo * 16777216:=⟨_,rfl⟩
 obtain ⟨q,hq⟩:∃ q,q=hi * 16777216:=⟨_,rfl⟩
 obtain ⟨t,ht⟩:∃ t,t=s * s:=⟨_,rfl⟩
 rw [← hp] at R1
 rw [← hq] at R2 ⊢
 rw [← ht]
 have v1:IntKind.i64.wrap (lo * 16777216)=p:=by rw [v1,hp]
 have v2:IntKind.i64.wrap (hi * 16777216)=q:=by rw [v2,hq]
 have v3:IntKind.i64.wrap (s * s)=t:=by rw [v3,ht]
 cases hc:decide (t<q) with
 | true =>
  rw [if_pos (of_decide_eq_true hc)]
  have M:=fun w=>iuchecked_any r (s+1) w (by omega) (by omega) (by omega)
  exact vm_pure kr Tryz.func132 rfl [vIv lo hi] nle [(5,2),(5,6),(6,2),(6,5),(7,1)] [.f,(.p _ false c1),(.p _ true hc)] [cV (V),lE .i64 (((lo):Int) * ((16777216):Int)) (p) (v1),cV (R1),lE .i64 (((hi):Int) * ((16777216):Int)) (q) (v2),cV (R2),lE .i64 (((s):Int) * ((s):Int)) (t) (v3),lE .i64 (((hi):Int) * ((16777216):Int)) (q) (v2),lE .i64 (((s):Int)+((1):Int)) (s+1) (v4),cV (M)]
 | false =>
  rw [if_neg (of_decide_eq_false hc)]
  have M:=fun w=>iuchecked_any r s w (by omega) (by omega) (by omega)
  exact vm_pure kr Tryz.func132 rfl [vIv lo hi] nle [(5,2),(5,6),(6,2),(6,5)] [.f,(.p _ false c1),(.p _ false hc)] [cV (V),lE .i64 (((lo):Int) * ((16777216):Int)) (p) (v1),cV (R1),lE .i64 (((hi):Int) * ((16777216):Int)) (q) (v2),cV (R2),lE .i64 (((s):Int) * ((s):Int)) (t) (v3),lE .i64 (((hi):Int) * ((16777216):Int)) (q) (v2),cV (M)]
theorem iuends_any (a b:Int) (w:World) (h0:-1073741824≤a) (h:a≤b) (h1:b≤1073741824):Calls Tryz.prog 118 #[vI a,vI b] w (RetV (.tuple #[vIv a b,.int .i64 0]) w):=by
 have I1:=fun w=>RInt64_any a w
 have I2:=fun w=>RInt64_any b w
 have M:=fun w=>iuchecked_any a b w h0 h h1
 rw [fits_small (by omega),if_pos rfl] at I1 I2
 exact vm_pure kr Tryz.func118 rfl [vI a,vI b] nle [] [.f,.f,.f,.f] [cV (I1),cV (I2),cV (M)]
theorem iuRatio_any (n:Int) (w:World) (h0:1000≤n) (h1:n≤4000):Calls Tryz.prog 70 #[.int .i64 n,.int .i64 1000] w (RetV (.tuple #[vIv (rtL n) (rtH n),.int .i64 0]) w):=by
 have O1:=fun w=>ROf_any n w (by omega) (by omega)
 have O2:=fun w=>ROf_any 16777216 w (by omega) (by omega)
 have O3:=fun w=>ROf_any 1000 w (by omega) (by omega)
 have P:=fun w=>RMul_any n 16777216 w ((bd_mid (by omega)).mono (by omega)) ((bd_mid (by omega)).mono (by omega))
 have D:=fun w=>RDivMod_any (n * 16777216) 1000 w ((bd_mid (by omega)).mono (by omega)) ((bd_mid (by omega)).mono (by omega)) (by omega)
 have D2:=fun w=>RDivMod_any (-(n * 16777216)) 1000 w ((bd_mid (by omega)).mono (by omega)) ((bd_mid (by omega)).mono (by omega)) (by omega)
 rw [Int.fdiv_eq_ediv_of_nonneg _ (by omega),Int.fmod_eq_emod_of_nonneg _ (by omega)] at D D2
 have N1:=fun w=>RNeg_any (n * 16777216) w
 have N2:=fun w=>RNeg_any (-(n * 16777216) / 1000) w
 have G:=fun w=>iuends_any (n * 16777216 / 1000) (-(-(n * 16777216) / 1000)) w (by omega) (by omega) (by omega)
 unfold rtL rtH
 unfold RetI at O1 O2 O3 P N1 N2
 unfold RetIIE at D D2
 generalize n * 16777216 / 1000=q at *
 generalize n * 16777216 % 1000=r at *
 generalize -(n * 16777216) / 1000=q2 at *
 generalize -(n * 16777216) % 1000=r2 at *
 generalize n * 16777216=p at *
 exact vm_pure kr Tryz.func70 rfl [.int .i64 n,.int .i64 1000] nle [] [.f] [cV (O1),cV (O2),cV (P),cV (O3),cV (D),cV (N1),cV (D2),cV (N2),cV (G)]
end Go.Proofs.YtlhddcingeneaaaGreatDoor
