/- GemstoneWeight: the law. -/
import Derived.Test.YtlhddcingeneaaaGreatDoorPWGwA
import Derived.Test.YtlhddcingeneaaaGreatDoorPWGwB
import Derived.Test.YtlhddcingeneaaaGreatDoorPWY
import Derived.Test.YtlhddcingeneaaaGreatDoorPWFieU
import Derived.Test.YtlhddcingeneaaaGreatDoorPWC2
namespace Go.Proofs.YtlhddcingeneaaaGreatDoor
open Go Go.RowKit
set_option maxRecDepth 100000
set_option linter.unusedVariables false
set_option linter.unusedSimpArgs false
theorem bigN_bd {k:Nat} {x:Nm} (h:BN k x):Bd (k+1) (bigN x):=by
 obtain ⟨h0,h1,h2,h3,h4⟩:=h
 unfold Bd bigN at *
 rw [Nat.pow_succ]
 generalize 256 ^ k=p at *
 omega
theorem fl_bd {k:Nat} {x:Nm} {f:Int} (hx:Ok x) (h:BN k x) (hf:Fl x f):Bd (k+1) f:=by
 have h1:=hf.bound hx
 have h2:=bigN_bd h
 unfold Bd at *
 omega
theorem bn_400 {x:Nm} (h:x.c0.natAbs≤400∧x.c1.natAbs≤400∧x.c2.natAbs≤400∧x.c3.natAbs≤400∧x.d.natAbs≤400):BN 2 x:=by
 obtain ⟨h0,h1,h2,h3,h4⟩:=h
 exact ⟨by unfold Bd;omega,by unfold Bd;omega,by unfold Bd;omega,by unfold Bd;omega,by unfold Bd;omega⟩
theorem gmMilligrams_argN (m:Mt) (x:Nm) (w:World) (hm:rightM m=false) (hl:m.nm.length≤1000000):Calls Tryz.prog 12 #[vMt m,vN x] w (RetV (.tuple #[zI,.int .i64 1]) w) :=
 gmMilligrams_arg1 m ⟨sg x.c0,mg x.c0,sg x.c1,mg x.c1,sg x.c2,mg x.c2,sg x.c3,mg x.c3,sg x.d,mg x.d⟩ w hm hl
theorem mg_any (m:Mt) (x:Nm) (hml:m.nm.length≤1000000) (hx:BN 1000 x) (ox:Ok x):∃ (n:Bool) (s:ByteArray) (e:Int),(∀ w,Calls Tryz.prog 12 #[vMt m,vN x] w (RetV (.tuple #[.agg #[.bool n,.string s],.int .i64 e]) w))∧(e=0→rightM m=true∧0≤sgnN x):=by
 cases hr:rightM m with
 | false=>exact ⟨false,⟨#[]⟩,1,fun w=>gmMilligrams_argN m x w hr hml,fun h=>by cases h⟩
 | true =>
  rcases Int.lt_or_le (sgnN x) 0 with h | h
  ·exact ⟨false,⟨#[]⟩,2,fun w=>gmMilligrams_neg m x w hr hml (hx.mono (by omega)) ox h,fun h=>by cases h⟩
  ·obtain ⟨f,hf⟩:=Fl.ex (mulN_ok ox (dnN_ok m))
   exact ⟨_,_,0,fun w=>gmMilligrams_yes m x f w hr hml (hx.mono (by omega)) ox h hf,fun _=>⟨rfl,h⟩⟩
theorem wconv (n:Nat) (h:n<65536) (w:World):(convert 30 3 (.int .u16 (n:Int))).run Tryz.prog w = .ok (.int .i64 (n:Int)) w:=by
 have:IntKind.i64.wrap (n:Int)=n:=wr64 (by omega) (by omega)
 go_simp
 try rw [this]
theorem wrem (k:Nat) (w:World):(Op.intDiv .rem .i64 (k:Int) 100).run Tryz.prog w = .ok (.int .i64 ((k % 100:Nat):Int)) w:=by
 have e:(k:Int).tmod 100=((k % 100:Nat):Int):=by rw [Int.tmod_eq_emod_of_nonneg (by omega)];rfl
 unfold Op.intDiv
 rw [if_neg (by decide)]
 simp only [e]
 rfl
section
variable (m:Mt) (u v:Rw) (k:Nat) (w:World)
theorem GW_all (hk:k<65536) (hG:GW w) (hu:smallR 80000000 u) (hv:smallR 80000000 v):Calls Tryz.prog 3 #[vMt m,.agg #[.bool u.n0,.string u.s0,.bool u.n1,.string u.s1,.bool u.n2,.string u.s2,.bool u.n3,.string u.s3,.bool u.n4,.string u.s4,.bool v.n0,.string v.s0,.bool v.n1,.string v.s1,.bool v.n2,.string v.s2,.bool v.n3,.string v.s3,.bool v.n4,.string v.s4],.int .u16 (k:Int)] w (RetV (.bool true) w):=by
 have HAW:∀ w',Chg [] w w'→Calls Tryz.prog 10 #[] w' (RetV (.bool true) w'):=fun w' hc=>gaawake_any w' (hG.below hc.bl0)
 have z1:((ByteArray.mk m.nm.toArray).size:Int)=(m.nm.length:Int):=by rw [str_size]
 have F1:=fun w=>gFew_any u w hu
 have F2:=fun w=>gFew_any v w hv
 cases g1:decide ((40:Int)<((ByteArray.mk m.nm.toArray).size:Int)) with
 | true =>
  clear F1 F2
  exact vm_pure kr Tryz.func3 rfl [vMt m,.agg #[.bool u.n0,.string u.s0,.bool u.n1,.string u.s1,.bool u.n2,.string u.s2,.bool u.n3,.string u.s3,.bool u.n4,.string u.s4,.bool v.n0,.string v.s0,.bool v.n1,.string v.s1,.bool v.n2,.string v.s2,.bool v.n3,.string v.s3,.bool v.n4,.string v.s4],.int .u16 (k:Int)] nle [] [.f,(.p _ true g1),(.p _ true g1),(.p _ true g1),(.p _ true g1),(.p _ true g1),.t,.t,.t,.t,.t,.t] [cW HAW]
 | false =>
 have k1:=of_decide_eq_false g1
 have hml:m.nm.length≤1000000:=by omega
 cases f1:fewR u with
 | false =>
  rw [f1] at F1
  exact vm_pure kr Tryz.func3 rfl [vMt m,.agg #[.bool u.n0,.string u.s0,.bool u.n1,.string u.s1,.bool u.n2,.string u.s2,.bool u.n3,.string u.s3,.bool u.n4,.string u.s4,.bool v.n0,.string v.s0,.bool v.n1,.string v.s1,.bool v.n2,.string v.s2,.bool v.n3,.string v.s3,.bool v.n4,.string v.s4],.int .u16 (k:Int)] nle [] [.f,(.p _ false g1),(.p _ false g1),(.p _ false g1),(.p _ false g1),(.p _ false g1),.t,.t,.t,.t,.t,.t] [cW HAW,cV (F1)]
 | true =>
 rw [f1] at F1
 cases f2:fewR v with
 | false =>
  rw [f2] at F2
  exact vm_pure kr Tryz.func3 rfl [vMt m,.agg #[.bool u.n0,.string u.s0,.bool u.n1,.string u.s1,.bool u.n2,.string u.s2,.bool u.n3,.string u.s3,.bool u.n4,.string u.s4,.bool v.n0,.string v.s0,.bool v.n1,.string v.s1,.bool v.n2,.string v.s2,.bool v.n3,.string v.s3,.bool v.n4,.string v.s4],.int .u16 (k:Int)] nle [] [.f,(.p _ false g1),(.p _ false g1),(.p _ false g1),(.p _ false g1),(.p _ false g1),.f,.f,.f,.f,.f,.t] [cW HAW,cV (F1),cV (F2)]
 | true =>
 rw [f2] at F2
 obtain ⟨eu,ou,bu⟩:=few_num f1
 obtain ⟨ev,ov,bv⟩:=few_num f2
 have bu:=bn_400 bu
 have bv:=bn_400 bv
 have HA:=fun w=>gAdd_any (nmR u) (nmR v) w (bu.mono (by omega)) (bv.mono (by omega)) ou ov
 have os:=addN_ok ou ov
 have bs:BN 5 (addN (nmR u) (nmR v)):=bu.addN bv ou.ne ov.ne
 obtain ⟨n1,s1,e1,M1,i1⟩:=mg_any m (nmR u) hml (bu.mono (by omega)) ou
 obtain ⟨n2,s2,e2,M2,i2⟩:=mg_any m (nmR v) hml (bv.mono (by omega)) ov
 obtain ⟨n3,s3,e3,M3,i3⟩:=mg_any m (addN (nmR u) (nmR v)) hml (bs.mono (by omega)) os
 cases q1:((e1:Int) != (0:Int)) with
 | true =>
  rw [← eu] at M1 HA
  rw [← ev] at M2 HA
  generalize addN (nmR u) (nmR v)=sm at *
  clear eu ev i1 i2 i3
  exact vm_pure kr Tryz.func3 rfl [vMt m,.agg #[.bool u.n0,.string u.s0,.bool u.n1,.string u.s1,.bool u.n2,.string u.s2,.bool u.n3,.string u.s3,.bool u.n4,.string u.s4,.bool v.n0,.string v.s0,.bool v.n1,.string v.s1,.bool v.n2,.string v.s2,.bool v.n3,.string v.s3,.bool v.n4,.string v.s4],.int .u16 (k:Int)] nle [] [.f,(.p _ false g1),(.p _ false g1),(.p _ false g1),(.p _ false g1),(.p _ false g1),.f,.f,.f,.f,.f,.f,(.p _ true q1),(.p _ true q1),(.p _ true q1),.t] [cW HAW,cV (F1),cV (F2),cV (M1),cV (M2),cV (HA),cV (M3)]
 | false =>
 cases q2:((e2:Int) != (0:Int)) with
 | true =>
  rw [← eu] at M1 HA
  rw [← ev] at M2 HA
  generalize addN (nmR u) (nmR v)=sm at *
  clear eu ev i1 i2 i3
  exact vm_pure kr Tryz.func3 rfl [vMt m,.agg #[.bool u.n0,.string u.s0,.bool u.n1,.string u.s1,.bool u.n2,.string u.s2,.bool u.n3,.string u.s3,.bool u.n4,.string u.s4,.bool v.n0,.string v.s0,.bool v.n1,.string v.s1,.bool v.n2,.string v.s2,.bool v.n3,.string v.s3,.bool v.n4,.string v.s4],.int .u16 (k:Int)] nle [] [.f,(.p _ false g1),(.p _ false g1),(.p _ false g1),(.p _ false g1),(.p _ false g1),.f,.f,.f,.f,.f,.f,(.p _ false q1),(.p _ false q1),(.p _ false q1),(.p _ true q2)] [cW HAW,cV (F1),cV (F2),cV (M1),cV (M2),cV (HA),cV (M3)]
 | false =>
 obtain ⟨hr,p1⟩:=i1 (by simpa using q1)
 obtain ⟨-,p2⟩:=i2 (by simpa using q2)
 clear M1 M2 M3 i1 i2 i3 q1 q2 n1 n2 n3 s1 s2 s3 e1 e2 e3
 have ok:=dnN_ok m
 have p3:=sgn_add_nn ou ov p1 p2
 have pk:=dn_pos hr
 obtain ⟨a,ha⟩:=Fl.ex (mulN_ok ou ok)
 obtain ⟨b,hb⟩:=Fl.ex (mulN_ok ov ok)
 obtain ⟨c,hc⟩:=Fl.ex (mulN_ok os ok)
 obtain ⟨l1,l2⟩:=wt_sum ou ov ok ha hb hc
 have a0:=fl_nonneg (mulN_ok ou ok) (sgn_mul_nn ou ok p1 pk) ha
 have b0:=fl_nonneg (mulN_ok ov ok) (sgn_mul_nn ov ok p2 pk) hb
 have c0:=fl_nonneg (mulN_ok os ok) (sgn_mul_nn os ok p3 pk) hc
 have bk:=dnN_bn hr
 have ba:Bd 100 a:=(fl_bd (mulN_ok ou ok) ((bu.mono (show 2≤5 by omega)).mulN (bk.mono (show 3≤5 by omega)) ou.ne ok.ne) ha).mono (by omega)
 have bb:Bd 100 b:=(fl_bd (mulN_ok ov ok) ((bv.mono (show 2≤5 by omega)).mulN (bk.mono (show 3≤5 by omega)) ov.ne ok.ne) hb).mono (by omega)
 have bc:Bd 100 c:=(fl_bd (mulN_ok os ok) (bs.mulN (bk.mono (show 3≤5 by omega)) os.ne ok.ne) hc).mono (by omega)
 have M1:=fun w=>gmMilligrams_yes m (nmR u) a w hr hml (bu.mono (by omega)) ou p1 ha
 have M2:=fun w=>gmMilligrams_yes m (nmR v) b w hr hml (bv.mono (by omega)) ov p2 hb
 have M3:=fun w=>gmMilligrams_yes m (addN (nmR u) (nmR v)) c w hr hml (bs.mono (by omega)) os p3 hc
 rw [show ((a.natAbs:Nat):Int)=a by omega] at M1
 rw [show ((b.natAbs:Nat):Int)=b by omega] at M2
 rw [show ((c.natAbs:Nat):Int)=c by omega] at M3
 have bab:Bd 101 (a+b):=ba.add bb
 have S1:=fun w=>RAdd_any a b w (ba.mono (by omega)) (bb.mono (by omega))
 have C1:=fun w=>RCmp_any (a+b) c w (bab.mono (by omega)) (bc.mono (by omega))
 have O1:=fun w=>ROf_any 1 w (by omega) (by omega)
 have S2:=fun w=>RAdd_any (a+b) 1 w (bab.mono (by omega)) ((Bd.one (show 1≤1 by omega)).mono (by omega))
 have bab1:Bd 102 (a+b+1):=bab.add ((Bd.one (show 1≤1 by omega)).mono (by omega))
 have C2:=fun w=>RCmp_any (a+b+1) c w (bab1.mono (by omega)) (bc.mono (by omega))
 have r1:decide ((0:Int)<(a+b - c).sign)=false:=decide_eq_false (by rw [Int.sign_pos_iff];omega)
 have r2:decide ((a+b+1 - c).sign<(0:Int))=false:=decide_eq_false (by rw [Int.sign_neg_iff];omega)
 obtain ⟨d1,d2⟩:=rightM_d hr
 obtain ⟨t,ht⟩:∃ t,t=m.d+((k % 100:Nat):Int):=⟨_,rfl⟩
 have v1:IntKind.i64.wrap (m.d+((k % 100:Nat):Int))=t:=by rw [ht];exact wr64 (by omega) (by omega)
 obtain ⟨m',hm'⟩:∃ m':Mt,m'=⟨m.nm,t,m.i,m.h⟩:=⟨_,rfl⟩
 have hdd:m.d≤m'.d:=by rw [hm'];show m.d≤t;omega
 have hml':m'.nm.length≤1000000:=by rw [hm'];exact hml
 have hvm:vMt m' = .agg #[.string ⟨m.nm.toArray⟩,.int .i64 t,.int .i64 m.i,.int .i64 m.h]:=by rw [hm'];rfl
 have W1:=fun w=>wconv k hk w
 have W2:=fun w=>wrem k w
 cases hr':rightM m' with
 | false =>
  have M4:=fun w=>gmMilligrams_arg1 m' u w hr' hml'
  rw [hvm] at M4
  rw [← eu] at M1 HA
  rw [← ev] at M2 HA
  unfold RetI at S1 S2 O1
  unfold RetN at C1 C2
  generalize addN (nmR u) (nmR v)=sm at *
  generalize (a+b - c).sign=y1 at *
  generalize (a+b+1 - c).sign=y2 at *
  clear eu ev hm' hvm ha hb hc
  exact vm_pure kr Tryz.func3 rfl [vMt m,.agg #[.bool u.n0,.string u.s0,.bool u.n1,.string u.s1,.bool u.n2,.string u.s2,.bool u.n3,.string u.s3,.bool u.n4,.string u.s4,.bool v.n0,.string v.s0,.bool v.n1,.string v.s1,.bool v.n2,.string v.s2,.bool v.n3,.string v.s3,.bool v.n4,.string v.s4],.int .u16 (k:Int)] nle [(13,3),(13,4),(13,5)] [.f,(.p _ false g1),(.p _ false g1),(.p _ false g1),(.p _ false g1),(.p _ false g1),.f,.f,.f,.f,.f,.f,.f,.f,.f,.f,.f,.f,.f,.f,.f,(.p _ false r1),(.p _ false r1),(.p _ false r1),(.p _ false r1),(.p _ false r1),(.p _ false r1),(.p _ false r1),(.p _ false r2),.t,.t,.t,.u,.u,.u,.u,.t,.t] [cW HAW,cV (F1),cV (F2),cV (M1),cV (M2),cV (HA),cV (M3),cV (S1),cV (C1),cV (O1),cV (S2),cV (C2),lV (convert 30 3 (.int .u16 (k:Int))) (.int .i64 (k:Int)) (fun w hC=>W1 w),lV (Op.intDiv .rem .i64 (((k:Int)):Int) ((100):Int)) (.int .i64 (((k % 100:Nat):Int))) (fun w hC=>W2 w),lE .i64 (((m.d):Int)+((((k % 100:Nat):Int)):Int)) (t) (v1),cV (M4)]
 | true =>
  obtain ⟨a',ha'⟩:=Fl.ex (mulN_ok ou (dnN_ok m'))
  have M4:=fun w=>gmMilligrams_yes m' (nmR u) a' w hr' hml' (bu.mono (by omega)) ou p1 ha'
  have hle:=wt_more ou ok (dnN_ok m') p1 (dn_le hdd) ha ha'
  rw [show ((a'.natAbs:Nat):Int)=a' by omega] at M4
  have bk':=dnN_bn hr'
  have ba':Bd 100 a':=(fl_bd (mulN_ok ou (dnN_ok m')) ((bu.mono (show 2≤5 by omega)).mulN (bk'.mono (show 3≤5 by omega)) ou.ne (dnN_ok m').ne) ha').mono (by omega)
  have C3:=fun w=>RCmp_any a' a w (ba'.mono (by omega)) (ba.mono (by omega))
  have r3:decide ((0:Int)≤(a' - a).sign)=true:=decide_eq_true (by rw [Int.sign_nonneg_iff];omega)
  rw [hvm] at M4
  rw [← eu] at M1 HA M4
  rw [← ev] at M2 HA
  unfold RetI at S1 S2 O1
  unfold RetN at C1 C2 C3
  generalize addN (nmR u) (nmR v)=sm at *
  generalize (a+b - c).sign=y1 at *
  generalize (a+b+1 - c).sign=y2 at *
  generalize (a' - a).sign=y3 at *
  clear eu ev hm' hvm ha hb hc ha'
  exact vm_pure kr Tryz.func3 rfl [vMt m,.agg #[.bool u.n0,.string u.s0,.bool u.n1,.string u.s1,.bool u.n2,.string u.s2,.bool u.n3,.string u.s3,.bool u.n4,.string u.s4,.bool v.n0,.string v.s0,.bool v.n1,.string v.s1,.bool v.n2,.string v.s2,.bool v.n3,.string v.s3,.bool v.n4,.string v.s4],.int .u16 (k:Int)] nle [(13,3),(13,4),(13,5),(15,9)] [.f,(.p _ false g1),(.p _ false g1),(.p _ false g1),(.p _ false g1),(.p _ false g1),.f,.f,.f,.f,.f,.f,.f,.f,.f,.f,.f,.f,.f,.f,.f,(.p _ false r1),(.p _ false r1),(.p _ false r1),(.p _ false r1),(.p _ false r1),(.p _ false r1),(.p _ false r1),(.p _ false r2),.f,.f,.f,.t,.t,.t,.t,.f,.t,.f] [cW HAW,cV (F1),cV (F2),cV (M1),cV (M2),cV (HA),cV (M3),cV (S1),cV (C1),cV (O1),cV (S2),cV (C2),lV (convert 30 3 (.int .u16 (k:Int))) (.int .i64 (k:Int)) (fun w hC=>W1 w),lV (Op.intDiv .rem .i64 (((k:Int)):Int) ((100):Int)) (.int .i64 (((k % 100:Nat):Int))) (fun w hC=>W2 w),lE .i64 (((m.d):Int)+((((k % 100:Nat):Int)):Int)) (t) (v1),cV (M4),cV (C3),lP (.bool (decide ((0:Int)≤y3))) (.bool true) (congrArg Value.bool r3)]
end
end Go.Proofs.YtlhddcingeneaaaGreatDoor
