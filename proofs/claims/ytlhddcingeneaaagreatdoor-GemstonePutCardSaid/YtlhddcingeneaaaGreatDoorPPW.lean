import Derived.Test.YtlhddcingeneaaaGreatDoorPPE
import Derived.Lib.Overlaps
/- Slices of elements of several cells: an append of many elements,a copy. No function of the program. -/
set_option linter.unusedVariables false
set_option linter.unusedSimpArgs false
set_option maxRecDepth 100000
set_option maxHeartbeats 8000000
namespace Go.Proofs.YtlhddcingeneaaaGreatDoor
open Go Go.RowKit
section
variable {P:Program}
theorem app_newS {t e ty:TypeId} {z:Value} {k:Nat} (T:SlT P t e z k) {w:World} (base:Option Addr) (n c p:Nat) (src:Value) (xs news:List Value) (hx:RdC w base xs) (hl:xs.length=n * k) (hb:base=none→n=0) (hs:Src P k t src p news w) (hc:c<n+p) (hN:n+p≤1000000) (hcN:c≤1000000) :
  ∃ m w',(Builtin.append_ #[t,t] ty #[.slice base n c,src]).run P w = .ok (.slice (some ⟨w.heap.size,0,none⟩) (n+p) (n+p+m)) w'∧Hc w' w.heap.size e (xs++news++zc z.cells m).toArray∧Chg [] w w':=by
 obtain ⟨i,hi,hz,hk,hby⟩:=T.info
 subst hk
 have hcap:=grownCap_ge w (n+p) c e
 have hfit:Builtin.nextslicecap (n+p) c * i.bytes≤281474976710656:=by
  have:Builtin.nextslicecap (n+p) c≤2 * (n+p):=nextslicecap_le (by omega)
  have:Builtin.nextslicecap (n+p) c * i.bytes≤2000002 * 100000:=Nat.mul_le_mul (by omega) hby
  omega
 have hold:(Builtin.firstCells i.size n (.slice base n c)).run P w.drew = .ok xs.toArray w.drew:=first_of (w:=w.drew) (by
  rcases hx with h | ⟨b,e1,h⟩
  ·exact .inl h
  ·exact .inr ⟨b,e1,fun j v hv=>by simpa using h j v hv⟩) hl hb
 have hrun:=run_append_grow_src (P:=P) w t t ty e i z T.u hi hz base n c xs hold src p news hs (by omega) (by omega) hfit
 obtain ⟨m,hm⟩:∃ m,grownCap w (n+p) c e=n+p+m:=⟨grownCap w (n+p) c e - (n+p),by omega⟩
 rw [hm,Nat.add_sub_cancel_left] at hrun
 refine ⟨m,_,hrun,?_,?_⟩
 ·have h2:=heap_alloc_new w.drew (.cells ((xs++news).toArray++Builtin.zeroCells z.cells m) e)
  unfold Hc zc
  rw [show (xs++news++(Builtin.zeroCells z.cells m).toList).toArray=(xs++news).toArray++Builtin.zeroCells z.cells m by simp]
  exact h2
 ·exact ⟨rfl,rfl,rfl,by simp,fun k hk _=>by
   show (w.heap.push _)[k]?=_
   rw [Array.getElem?_push,if_neg (by omega)]⟩
theorem src_at {t e:TypeId} {z:Value} {k:Nat} (T:SlT P t e z k) {w:World} (b o n c:Nat) (news:List Value) (hl:news.length=n * k) (h1:(news.all fun u=>u.oneCell')=true) (h:∀ j v,news[j]?=some v→w.cell? ⟨b,o+j,none⟩=some v):Src P k t (.slice (some ⟨b,o,none⟩) n c) n news w :=
 Src.ofSlice w T.u ⟨b,o,none⟩ n c news hl (fun j u hu=>by rw [Addr.add_lit];exact h j u hu) (fun u hu=>List.all_eq_true.1 h1 u hu)
theorem copy_put {t e ty:TypeId} {z:Value} {k:Nat} (T:SlT P t e z k) {w:World} (b o dl dc:Nat) (sb so sl sc m:Nat) (pre old rest cs:List Value) (hB:Hc w b e (pre++old++rest).toArray) (ho:o=pre.length) (hm:Nat.min sl dl=m) (hcs:cs.length=m * k) (hold:old.length=cs.length) (h1:(cs.all fun u=>u.oneCell')=true)
  (hsrc:∀ j v,cs[j]?=some v→w.cell? ⟨sb,so+j,none⟩=some v) :
  ∃ w',(Builtin.copy_ #[t,t] ty #[.slice (some ⟨b,o,none⟩) dl dc,.slice (some ⟨sb,so,none⟩) sl sc]).run P w = .ok (goInt m) w'∧Hc w' b e (pre++cs++rest).toArray∧Chg [b] w w':=by
 obtain ⟨i,hi,hz,hk,hby⟩:=T.info
 subst hk ho
 have hl:=run_loadCells_list (P:=P) w ⟨sb,so,none⟩ cs (fun j v hv=>by rw [Addr.add_lit];exact hsrc j v hv)
 have hst:=run_storeCells_cells (P:=P) b pre.length cs 0 w (fun j hj=>by
   rw [Nat.add_zero]
   rw [hB.cell (v:=(pre++old++rest)[pre.length+j]'(by simp;omega)) (List.getElem?_eq_getElem _)];rfl)
  (fun j _=>hB.free _) (fun v hv=>List.all_eq_true.1 h1 v hv)
 simp only [Nat.add_zero] at hst
 obtain ⟨h2,h3⟩:=Hc.setCells (news:=cs) (old:=old) (rest:=rest) hold hB
 refine ⟨_,?_,h2,h3⟩
 simp [Builtin.copy_,run_underlying T.u,Builtin.lenOf,Builtin.firstCells,sizeOf,typeInfo,hi,hm,← hcs,hl,hst]
theorem slc_run {t e:TypeId} {z:Value} {k:Nat} (T:SlT P t e z k) (b o n c i j:Nat) (lo hi:Option Value) (w:World) (hlo:lo=some (.int .i64 (i:Int))∨(lo=none∧i=0)) (hhi:hi=some (.int .i64 (j:Int))∨(hi=none∧j=n)) (hij:i≤j) (hjc:j≤c) :
  (Instr.sliceAt t (.slice (some ⟨b,o,none⟩) n c) lo hi none).run P w = .ok (.slice (some ⟨b,if c=i then o else o+i * k,none⟩) (j - i) (c - i)) w:=by
 obtain ⟨q,hq,hz,hk,hby⟩:=T.info
 subst hk
 have h1:(0:Int)≤(i:Int):=by omega
 have h2:(i:Int)≤(j:Int):=by omega
 have h3:(j:Int)≤(c:Int):=by omega
 have h4:(0:Int)≤(j:Int):=by omega
 have hs:∀ w:World,(sizeOf e).run P w = .ok q.size w:=fun w=>by simp [sizeOf,typeInfo,hq]
 have e0:(if c=i then (some ⟨b,o,none⟩:Option Addr) else some (Addr.add ⟨b,o,none⟩ (i * q.size)))=some ⟨b,if c=i then o else o+i * q.size,none⟩:=by
  split
  ·rfl
  ·rw [Addr.add_lit]
 have hb1:∀ (y:Nat) (code:BoundsCode),i≤y→(Instr.sliceBound (.int .i64 (i:Int)) y code).run P w = .ok i w:=fun y code hy=>by
  have:(i:Int)≤(y:Int):=by omega
  simp [Instr.sliceBound,asIntOf,h1,this]
 have hb2:∀ (y:Nat) (code:BoundsCode),j≤y→(Instr.sliceBound (.int .i64 (j:Int)) y code).run P w = .ok j w:=fun y code hy=>by
  have:(j:Int)≤(y:Int):=by omega
  simp [Instr.sliceBound,asIntOf,h4,this]
 have hB:(Instr.sliceBounds true n c lo hi none).run P w = .ok (i,j,c) w:=by
  unfold Instr.sliceBounds
  rcases hlo with rfl | ⟨rfl,rfl⟩ <;> rcases hhi with rfl | ⟨rfl,rfl⟩ <;> simp [hb1,hb2,hij,hjc]
 unfold Instr.sliceAt Instr.slice
 simp [run_underlying T.u,hB,hs,← e0]
def lAC {X:Cx} {t e:TypeId} {z:Value} {k:Nat} (T:SlT P t e z k) (k1 n c p:Nat) (src:Value) (xs sp news:List Value) (hs:∀ w,Chg X.L X.w0 w→Src P k t src p news w) (hl:xs.length=n * k) (hc:c<n+p) (hN:n+p≤1000000) (hcN:c≤1000000):Item P X :=
 .look ⟨some k1,fun _=>(e,(xs++sp).toArray),fun b=>(do pure (.value (← Builtin.append_ #[t,t] t #[.slice (some ⟨b,0,none⟩) n c,src]))),none,fun m=>some (e,(xs++news++zc z.cells m).toArray),fun k=>k+1,fun _ j m=>.slice (some ⟨j,0,none⟩) (n+p) (n+p+m),fun b w hC hk=>by
  obtain ⟨m,w',h2,h3,h4⟩:=app_newS (ty:=t) T (some ⟨b,0,none⟩) n c p src xs news (RdC.of (hk rfl).2) hl (fun h=>by cases h) (hs w hC) hc hN hcN
  exact ⟨w.heap.size,m,.value (.slice (some ⟨w.heap.size,0,none⟩) (n+p) (n+p+m)),w',by simp [h2],rfl,fun t' c' h=>(by cases h;exact ⟨Nat.le_refl _,h3⟩),fun _ h=>(by cases h),h4⟩⟩
theorem app_zeros {t tn e ty:TypeId} {z:Value} {k:Nat} {kn:IntKind} (T:SlT P t e z k) (htn:P.underlying tn=some (.int kn)) (hk:z.cells.size=k) {w:World} (b n c p:Nat) (xs sp:List Value) (hB:Hc w b e (xs++sp).toArray) (hl:xs.length=n * k) (hp:0<p) (hk0:0<k) (hc:c<n+p) (hN:n+p≤1000000) (hcN:c≤1000000) :
  ∃ m w',(Builtin.append_ #[t,tn] ty #[.slice (some ⟨b,0,none⟩) n c,.int .i64 (p:Int)]).run P w = .ok (.slice (some ⟨w.heap.size,0,none⟩) (n+p) (n+p+m)) w'∧Hc w' w.heap.size e (xs++zc z.cells p++zc z.cells m).toArray∧Chg [] w w':=by
 obtain ⟨i,hi,hz,hki,hby⟩:=T.info
 subst hki
 have hcap:=grownCap_ge w (n+p) c e
 have hfit:Builtin.nextslicecap (n+p) c * i.bytes≤281474976710656:=by
  have:Builtin.nextslicecap (n+p) c≤2 * (n+p):=nextslicecap_le (by omega)
  have:Builtin.nextslicecap (n+p) c * i.bytes≤2000002 * 100000:=Nat.mul_le_mul (by omega) hby
  omega
 have hold:(Builtin.firstCells i.size n (.slice (some ⟨b,0,none⟩) n c)).run P w.drew = .ok xs.toArray w.drew:=first_of (w:=w.drew) (by
  rcases RdC.of hB with h | ⟨b,e1,h⟩
  ·exact .inl h
  ·exact .inr ⟨b,e1,fun j v hv=>by simpa using h j v hv⟩) hl (fun h=>by cases h)
 have hn:¬ (n+p≤c):=by omega
 have h63':¬ (9223372036854775807<((n:Int)+(p:Int))):=by omega
 have h48':¬ (281474976710656<Builtin.nextslicecap (n+p) c * i.bytes):=by omega
 have hw:IntKind.i64.wrap (p:Int)=p:=by rw [IntKind.wrap_i64];omega
 have hpz:p≠0:=by omega
 have h48i:¬ (281474976710656<(p:Int) * (i.bytes:Int)):=by
  rw [← Int.natCast_mul]
  have:p * i.bytes≤1000000 * 100000:=Nat.mul_le_mul (by omega) hby
  omega
 have hneg:¬ ((p:Int)<0):=by omega
 have hns:¬ (p * i.size=0):=Nat.mul_ne_zero hpz (by omega)
 obtain ⟨m,hm⟩:∃ m,grownCap w (n+p) c e=n+p+m:=⟨grownCap w (n+p) c e - (n+p),by omega⟩
 refine ⟨m,w.drew.alloc (.cells ((xs++zc z.cells p).toArray++Builtin.zeroCells z.cells m) e),?_,?_,?_⟩
 ·rw [← hm,show m=grownCap w (n+p) c e - (n+p) by omega]
  simp [Builtin.append_,run_underlying T.u,run_underlying htn,sizeOf,typeInfo,zeroValue,hi,hz,asInt,asIntOf,hw,hpz,hneg,hns,h63',h48',h48i,hn,Question.forced,hold,newRow,grownCap,zc]
  congr 2
  apply Array.ext'
  simp
 ·have h2:=heap_alloc_new w.drew (.cells ((xs++zc z.cells p).toArray++Builtin.zeroCells z.cells m) e)
  unfold Hc
  rw [show (xs++zc z.cells p++zc z.cells m).toArray=(xs++zc z.cells p).toArray++Builtin.zeroCells z.cells m by simp [zc]]
  exact h2
 ·exact ⟨rfl,rfl,rfl,by simp,fun k hk _=>by
   show (w.heap.push _)[k]?=_
   rw [Array.getElem?_push,if_neg (by omega)]⟩
theorem slc_lt {t e:TypeId} {z:Value} {k:Nat} (T:SlT P t e z k) (b o n c i j:Nat) (lo hi:Option Value) (w:World) (hlo:lo=some (.int .i64 (i:Int))∨(lo=none∧i=0)) (hhi:hi=some (.int .i64 (j:Int))∨(hi=none∧j=n)) (hij:i≤j) (hjc:j≤c) (hic:i<c) :
  (Instr.sliceAt t (.slice (some ⟨b,o,none⟩) n c) lo hi none).run P w = .ok (.slice (some ⟨b,o+i * k,none⟩) (j - i) (c - i)) w:=by
 rw [slc_run T b o n c i j lo hi w hlo hhi hij hjc,if_neg (by omega)]
theorem slc_to {t e:TypeId} {z:Value} {k:Nat} (T:SlT P t e z k) (b o n c j:Nat) (hi:Option Value) (w:World) (hhi:hi=some (.int .i64 (j:Int))∨(hi=none∧j=n)) (hjc:j≤c) :
  (Instr.sliceAt t (.slice (some ⟨b,o,none⟩) n c) none hi none).run P w = .ok (.slice (some ⟨b,o,none⟩) j c) w:=by
 rw [slc_run T b o n c 0 j none hi w (.inr ⟨rfl,rfl⟩) hhi (Nat.zero_le _) hjc,Nat.zero_mul,Nat.add_zero,ite_self]
 rfl
def lAZ {X:Cx} {t tn e:TypeId} {z:Value} {k:Nat} {kn:IntKind} (T:SlT P t e z k) (htn:P.underlying tn=some (.int kn)) (hk:z.cells.size=k) (k1 n c p:Nat) (xs sp:List Value) (hl:xs.length=n * k) (hp:0<p) (hk0:0<k) (hc:c<n+p) (hN:n+p≤1000000) (hcN:c≤1000000):Item P X :=
 .look ⟨some k1,fun _=>(e,(xs++sp).toArray),fun b=>(do pure (.value (← Builtin.append_ #[t,tn] t #[.slice (some ⟨b,0,none⟩) n c,.int .i64 (p:Int)]))),none,fun m=>some (e,(xs++zc z.cells p++zc z.cells m).toArray),fun k=>k+1,fun _ j m=>.slice (some ⟨j,0,none⟩) (n+p) (n+p+m),fun b w hC hk'=>by
  obtain ⟨m,w',h2,h3,h4⟩:=app_zeros (ty:=t) T htn hk b n c p xs sp (hk' rfl).2 hl hp hk0 hc hN hcN
  exact ⟨w.heap.size,m,.value (.slice (some ⟨w.heap.size,0,none⟩) (n+p) (n+p+m)),w',by simp [h2],rfl,fun t' c' h=>(by cases h;exact ⟨Nat.le_refl _,h3⟩),fun _ h=>(by cases h),h4⟩⟩
def lCq {X:Cx} {t e:TypeId} {z:Value} {k:Nat} (T:SlT P t e z k) (tn:TypeId) (k1 k2 o dl dc so sl sc m:Nat) (c0 c1 src:Array Value) (pre old rest cs:List Value) (e0:c0=(pre++old++rest).toArray) (e1:c1=(pre++cs++rest).toArray) (ho:o=pre.length) (hm:Nat.min sl dl=m) (hcs:cs.length=m * k) (hold:old.length=cs.length) (h1:(cs.all fun u=>u.oneCell')=true) (hsrc:∀ j v,cs[j]?=some v→src[so+j]?=some v):Item P X :=
 .two ⟨some k1,k2,(e,c0),(e,src),fun b d=>(do pure (.value (← Builtin.copy_ #[t,t] tn #[.slice (some ⟨b,o,none⟩) dl dc,.slice (some ⟨d,so,none⟩) sl sc]))),some c1,fun _=>none,fun _=>0,fun _ _ _=>goInt m,fun b d w hC hB hd=>by
  subst e0 e1
  obtain ⟨w',h2,h3,h4⟩:=copy_put (ty:=tn) T b o dl dc d so sl sc m pre old rest cs (hB rfl).2 ho hm hcs hold h1 (fun j v hv=>hd.cells (hsrc j v hv))
  exact ⟨0,0,.value (goInt m),w',by simp [h2],rfl,fun _ _ h=>(by cases h),fun g hg=>(by cases hg;exact h3),h4⟩⟩
def lCp {X:Cx} {t e:TypeId} {z:Value} {k:Nat} (T:SlT P t e z k) (tn:TypeId) (k1 o dl dc so sl sc m:Nat) (c0 c1:Array Value) (pre old rest cs:List Value) (e0:c0=(pre++old++rest).toArray) (e1:c1=(pre++cs++rest).toArray) (ho:o=pre.length) (hm:Nat.min sl dl=m) (hcs:cs.length=m * k) (hold:old.length=cs.length) (h1:(cs.all fun u=>u.oneCell')=true) (hsrc:∀ j v,cs[j]?=some v→(pre++old++rest)[so+j]?=some v):Item P X :=
 .look ⟨some k1,fun _=>(e,c0),fun b=>(do pure (.value (← Builtin.copy_ #[t,t] tn #[.slice (some ⟨b,o,none⟩) dl dc,.slice (some ⟨b,so,none⟩) sl sc]))),some (fun _=>c1),fun _=>none,fun _=>0,fun _ _ _=>goInt m,fun b w hC hB=>by
  subst e0 e1
  obtain ⟨w',h2,h3,h4⟩:=copy_put (ty:=tn) T b o dl dc b so sl sc m pre old rest cs (hB rfl).2 ho hm hcs hold h1 (fun j v hv=>(hB rfl).2.cell (hsrc j v hv))
  exact ⟨0,0,.value (goInt m),w',by simp [h2],rfl,fun _ _ h=>(by cases h),fun g hg=>(by cases hg;exact h3),h4⟩⟩
def lOv {X:Cx} {t tR e:TypeId} {z:Value} {k:Nat} {f:FuncId} {fn:Func} (T:SlT P t e z k) (hf:P.funcs[f]?=some fn) (hname:(fn.name == "runtime.NumGoroutine")=false) (hb:fn.body.isNone=true) (hn:Extern.findNext fn=none) (he:Extern.find fn=some (Extern.SlicesOverlaps.overlaps #[t,t] #[tR])) (k1 k2 o la ca lb cb:Nat) (c1 c2:Array Value) (hne:c1.size≠c2.size) (h0:c1.size≠0):Item P X :=
 .two ⟨some k1,k2,(e,c1),(e,c2),fun b d=>callFunc f #[.slice (some ⟨d,0,none⟩) la ca,.slice (some ⟨b,o,none⟩) lb cb],none,fun _=>none,fun _=>0,fun _ _ _=>.bool false,fun b d w hC hB hd=>by
  have hB:=(hB rfl).2
  obtain ⟨i,hi,hz,hk,hby⟩:=T.info
  have hs:∀ w:World,(sizeOf e).run P w = .ok i.size w:=fun w=>by simp [sizeOf,typeInfo,hi]
  have hbd:d≠b:=fun h=>by
   subst h
   unfold Hc at hB hd
   rw [hB] at hd
   cases hd
   exact hne rfl
  have hsb:w.shape? b=some (e,c1.size):=by
   unfold Hc at hB
   simp only [World.shape?,hB]
  have hsd:w.shape? d=some (e,c2.size):=by
   unfold Hc at hd
   simp only [World.shape?,hd]
  have hr:=run_callFunc_extern hf hname hb hn he #[.slice (some ⟨d,0,none⟩) la ca,.slice (some ⟨b,o,none⟩) lb cb] w
  rw [Lib.run_overlaps_apart w t tR e T.u i.size hs ⟨d,0,none⟩ ⟨b,o,none⟩ la ca lb cb hbd e e c2.size c1.size hsd hsb h0 (hd.free 0) (hd.free _)] at hr
  exact ⟨0,0,.value (.bool false),w,hr,rfl,fun _ _ h=>(by cases h),fun _ h=>(by cases h),Chg.refl _ _⟩⟩
end
theorem st_put {P:Program} {t e:TypeId} {z:Value} {k:Nat} (T:SlT P t e z k) {w:World} (b o:Nat) (v:Value) (pre old rest news:List Value) (hB:Hc w b e (pre++old++rest).toArray) (ho:o=pre.length) (hv:v.cells=news.toArray) (hn:news.length=k) (hold:old.length=news.length) (h1:(news.all fun u=>u.oneCell')=true) :
  ∃ w',(Instr.storeAt e (.pointer (some ⟨b,o,none⟩)) v).run P w = .ok () w'∧Hc w' b e (pre++news++rest).toArray∧Chg [b] w w':=by
 obtain ⟨i,hi,hz,hk,hby⟩:=T.info
 subst hk ho
 have hst:=run_storeCells_cells (P:=P) b pre.length news 0 w (fun j hj=>by
   rw [Nat.add_zero]
   rw [hB.cell (v:=(pre++old++rest)[pre.length+j]'(by simp;omega)) (List.getElem?_eq_getElem _)];rfl)
  (fun j _=>hB.free _) (fun v hv=>List.all_eq_true.1 h1 v hv)
 simp only [Nat.add_zero] at hst
 obtain ⟨h2,h3⟩:=Hc.setCells (news:=news) (old:=old) (rest:=rest) hold hB
 refine ⟨_,?_,h2,h3⟩
 simp [Instr.storeAt,Instr.sureAddr,asAddr,storeVar,sizeOf,typeInfo,hi,hv,hn,hst]
/-! two and three told blocks -/
def r2 (b d:Nat):Rn:=fun k=>(bif Nat.beq k 0 then b else d,0)
def r3 (b d e:Nat):Rn:=fun k=>(bif Nat.beq k 0 then b else bif Nat.beq k 1 then d else e,0)
theorem memOk2 {w:World} {b d:Nat} {t1 t2:TypeId} {c1 c2:Array Value} (h1:Hc w b t1 c1) (h2:Hc w d t2 c2) (hne:b≠d):MemOk ⟨w,[b,d]⟩ (rB (r2 b d)) [(0,(t1,c1)),(1,(t2,c2))] w:=by
 refine ⟨Chg.refl _ _,fun k x h=>?_,fun k k' x x' h h' e=>?_⟩
 ·have:=look_mem h
  simp only [List.mem_cons,Prod.mk.injEq,List.not_mem_nil,or_false] at this
  rcases this with ⟨rfl,rfl⟩ | ⟨rfl,rfl⟩
  ·exact ⟨h1,.inr (show b ∈ [b,d] by simp)⟩
  ·exact ⟨h2,.inr (show d ∈ [b,d] by simp)⟩
 ·have g:=look_mem h
  have g':=look_mem h'
  simp only [List.mem_cons,Prod.mk.injEq,List.not_mem_nil,or_false] at g g'
  rcases g with ⟨rfl,-⟩ | ⟨rfl,-⟩ <;> rcases g' with ⟨rfl,-⟩ | ⟨rfl,-⟩ <;> simp [rB,r2] at e ⊢
  ·exact hne e
  ·exact hne e.symm
theorem memOk3 {w:World} {b d f:Nat} {t1 t2 t3:TypeId} {c1 c2 c3:Array Value} (h1:Hc w b t1 c1) (h2:Hc w d t2 c2) (h3:Hc w f t3 c3) (n1:b≠d) (n2:b≠f) (n3:d≠f):MemOk ⟨w,[b,d,f]⟩ (rB (r3 b d f)) [(0,(t1,c1)),(1,(t2,c2)),(2,(t3,c3))] w:=by
 refine ⟨Chg.refl _ _,fun k x h=>?_,fun k k' x x' h h' e=>?_⟩
 ·have:=look_mem h
  simp only [List.mem_cons,Prod.mk.injEq,List.not_mem_nil,or_false] at this
  rcases this with ⟨rfl,rfl⟩ | ⟨rfl,rfl⟩ | ⟨rfl,rfl⟩
  ·exact ⟨h1,.inr (show b ∈ [b,d,f] by simp)⟩
  ·exact ⟨h2,.inr (show d ∈ [b,d,f] by simp)⟩
  ·exact ⟨h3,.inr (show f ∈ [b,d,f] by simp)⟩
 ·have g:=look_mem h
  have g':=look_mem h'
  simp only [List.mem_cons,Prod.mk.injEq,List.not_mem_nil,or_false] at g g'
  rcases g with ⟨rfl,-⟩ | ⟨rfl,-⟩ | ⟨rfl,-⟩ <;> rcases g' with ⟨rfl,-⟩ | ⟨rfl,-⟩ | ⟨rfl,-⟩ <;> simp [rB,r3] at e ⊢
  ·exact n1 e
  ·exact n2 e
  ·exact n1 e.symm
  ·exact n3 e
  ·exact n2 e.symm
  ·exact n3 e.symm
/-! into one arm of a condition -/
def isCond (t:Nat):Code→Bool
 | .cond (.tmp k) _ _=>Nat.beq k t
 | _=>false
theorem wpL_if {P:Program} {c:Code} {l:List Code} (t:Nat) (b:Bool) (g:Nat) {nt:Nat} {env:Env} {Q:Exit→Act→World→Prop} {a:Act} {w:World} (h:isCond t c=true) (hS:St nt env a) (hm:(t,(.bool b,g)) ∈ env) (k:(bif b then cT c else cF c).wp P (Exit.then (fun a w=>wpL P l Q a w) Q) a w):wpL P (c :: l) Q a w:=by
 unfold isCond at h
 split at h
 ·rename_i j x y
  have:=Nat.eq_of_beq_eq_true h
  subst this
  have hv:=hS.has _ hm
  refine wp_cond (t:=b) hv ?_
  cases b <;> exact k
 ·cases h
theorem get_mid {α:Type} {a c r:List α} {j:Nat} {v:α} (h:c[j]?=some v):(a++(c++r))[a.length+j]?=some v:=by
 rw [List.getElem?_append_right (by omega),Nat.add_sub_cancel_left,List.getElem?_append_left (List.getElem?_eq_some_iff.1 h).1]
 exact h

def rgL (id:Nat):Code→List Oper
 | .region i ops _=>bif Nat.beq i id then ops.toList else []
 | .seq a b=>match rgL id a with
  | []=>rgL id b
  | l=>l
 | .cond _ a b=>match rgL id a with
  | []=>rgL id b
  | l=>l
 | .block _ c=>rgL id c
 | .loop c=>rgL id c
 | _=>[]
def opsW (l:List Oper) (j k:Nat):Array Oper:=((l.drop j).take (k - j)).toArray
def opAt (l:List Oper) (i:Nat):Oper:=match l[i]? with
 | some o=>o
 | none=>{ dst:=none,op:=.move (.tmp 0),type:=0,pos:="",after:=#[],guard:=none }
section
variable {P:Program} {X:Cx}
theorem vm_opsA (lk:List (Nat × Nat)) (nt:Nat) (id:Nat) (ops:Array Oper) (E0:Rn→Env) (M0:Rn→Mem) (c0:Nat) (r0:Rn) {a:Act} {w:World} (hS:St nt (E0 r0) a) (hM:MemOk X (rB r0) (M0 r0) w)
  (hE:∀ r,(∀ k,k<c0→r k=r0 k)→E0 r0=E0 r∧M0 r0=M0 r) (hk:KeysLt (M0 r0) c0) (ds:List Dec) (ps:List (Item P X)) (l':Rn→Env) (ks:List Nat) (out:Rn→Mem) {Q:Exit→Act→World→Prop}
  (h:∀ r g,vmL (vmQ lk nt (.region id ops false) (E0 r) (M0 r) c0 r g ds ps .n (l' r) ks (out r))=vmR (vmQ lk nt (.region id ops false) (E0 r) (M0 r) c0 r g ds ps .n (l' r) ks (out r)))
  (h2:∀ r g,vmSL (vmQ lk nt (.region id ops false) (E0 r) (M0 r) c0 r g ds ps .n (l' r) ks (out r))=vmSR (vmQ lk nt (.region id ops false) (E0 r) (M0 r) c0 r g ds ps .n (l' r) ks (out r)))
  (hQ:∀ r a' w',(∀ k,k<c0→r k=r0 k)→St nt (l' r) a'→Kp ks a a'→MemOk X (rB r) (out r) w'→Q .normal a' w'):wpOps P ops Q (List.range' 0 ops.size) a w :=
 vm_fragG lk nt (.region id ops false) E0 M0 c0 r0 hS hM hE hk ds ps .n l' ks out (fun s h1 h2 h3 h4 h5=>vmC_ops (n:=99999) s r0 a w h1 h2 h3 h4 h5) h h2 hQ
theorem upon_q {o:Oper} {a:Act} {K K':Act→World→Prop} {Q:Exit→Act→World→Prop} {x:Result Next} (h:o.upon P a K (Exit.then K' Q) x):o.upon P a K Q x:=by
 cases x with
 | ok n w' =>
  cases n <;> simp only [Oper.upon] at h ⊢ <;>
   first
    | exact h
    | exact Calls.mono h (fun e w'' he=>by cases e <;> exact he)
 | halt x w'=>cases x <;> simp only [Oper.upon] at h ⊢ <;> exact h
theorem ops_sub {ops sub:Array Oper} {Q:Exit→Act→World→Prop} (hg:∀ o,o ∈ ops.toList→o.guard=none) (L:List Nat):∀ (m j i:Nat) (a:Act) (w:World),(∀ k,k<m→sub[i+k]?=ops[j+k]?) →
  wpOps P sub (Exit.then (fun a w=>wpOps P ops Q L a w) Q) (List.range' i m) a w→wpOps P ops Q (List.range' j m++L) a w
 | 0,j,i,a,w,_,h=>h
 | m+1,j,i,a,w,he,h=>by
  have h0:=he 0 (by omega)
  rw [Nat.add_zero,Nat.add_zero] at h0
  have hr:List.range' j (m+1)++L=j :: (List.range' (j+1) m++L):=rfl
  have hr2:List.range' i (m+1)=i :: List.range' (i+1) m:=rfl
  rw [hr]
  rw [hr2] at h
  have ih:=fun a w=>ops_sub (Q:=Q) hg L m (j+1) (i+1) a w (fun k hk=>by
   have:=he (k+1) (by omega)
   rw [show i+1+k=i+(k+1) by omega,show j+1+k=j+(k+1) by omega]
   exact this)
  unfold wpOps at h ⊢
  rw [h0] at h
  cases ho:ops[j]? with
  | none =>
   rw [ho] at h
   exact ih a w h
  | some o =>
   rw [ho] at h
   have hgo:o.guard=none:=hg o (by
    rw [← Array.getElem?_toList] at ho
    exact List.mem_of_getElem? ho)
   have hw:∀ ops:Array Oper,Region.wanted o (yielded ops a.tmps)=true:=fun ops=>by unfold Region.wanted;rw [hgo]
   simp only [hw,if_true] at h ⊢
   rcases h with h | ⟨h1,h2⟩
   ·exact .inl (Oper.wp_mono (Q:=Q) ih (upon_q h))
   ·exact .inr ⟨h1,h2⟩
theorem ops_call {ops:Array Oper} {Q:Exit→Act→World→Prop} {f:FuncId} {args:Array Value} {post:Ending→World→Prop} (hg:∀ o,o ∈ ops.toList→o.guard=none) (L:List Nat) (j:Nat) (o:Oper) (ho:ops[j]?=some o) {a:Act} {w:World}
  (hx:execOp a.eval o=callFunc f args) (hb:(P.funcs[f]?.map fun fn=>fn.body.isNone)=some false) (hn:(P.funcs[f]?.map fun fn=>fn.name == "runtime.NumGoroutine")=some false) (hc:Calls P f args w post) (hr:∀ e w',post e w'→∃ v,e = .returned v) (k:∀ v w',post (.returned v) w'→wpOps P ops Q L (a.put o.dst v) w'):wpOps P ops Q (j :: L) a w:=by
 have hgo:o.guard=none:=hg o (by
  rw [← Array.getElem?_toList] at ho
  exact List.mem_of_getElem? ho)
 unfold wpOps
 rw [ho]
 have hw:Region.wanted o (yielded ops a.tmps)=true:=by unfold Region.wanted;rw [hgo]
 simp only [hw,if_true]
 refine .inl ?_
 unfold Oper.wp
 have he:(execOp a.eval o).run P w = .ok (.enter f args) w:=by
  rw [hx]
  cases hf:P.funcs[f]? with
  | none=>rw [hf] at hb;cases hb
  | some fn =>
   rw [hf] at hb hn
   simp only [Option.map_some,Option.some.injEq] at hb hn
   have h1:fn.name ≠ "runtime.NumGoroutine":=by simpa using hn
   have h2:¬ fn.body=none:=fun e=>by rw [e] at hb;cases hb
   simp [callFunc,hf,h1,h2]
 rw [he]
 refine Calls.mono hc (fun e w' h=>?_)
 obtain ⟨v,rfl⟩:=hr e w' h
 exact k v w' h
end
theorem rput_defers (a:Act) (d:Option Tmp) (v:Value):(a.put d v).defers=a.defers:=by unfold Act.put;cases d <;> rfl
theorem rput_size (a:Act) (d:Option Tmp) (v:Value):(a.put d v).tmps.size=a.tmps.size:=by unfold Act.put;cases d <;> simp
theorem rgetD_put (a:Act) (d t:Nat) (v:Value) (h:d<a.tmps.size):(a.put (some d) v).tmps.getD t undef=if d=t then v else a.tmps.getD t undef:=by
 unfold Act.put
 simp only [Array.getD_eq_getD_getElem?,Array.getElem?_setIfInBounds]
 by_cases e:d=t
 ·subst e
  rw [if_pos rfl,if_pos rfl,if_pos h];rfl
 ·rw [if_neg e,if_neg e]
theorem St.putR {nt:Nat} {l:Env} {a:Act} (h:St nt l a) (d:Nat) (v:Value) (hd:d<nt) (hn:(l.all fun p=>!Nat.beq p.1 d)=true):St nt ((d,(v,0)) :: l) (a.put (some d) v):=by
 refine ⟨(rput_defers _ _ _).trans h.defers,(rput_size _ _ _).trans h.size,fun p hp=>?_⟩
 rw [rgetD_put a d p.1 v (by rw [h.size];exact hd)]
 rcases List.mem_cons.1 hp with rfl | hp
 ·rw [if_pos rfl]
 ·have:=List.all_eq_true.1 hn p hp
  simp only [Bool.not_eq_true'] at this
  rw [if_neg (fun e=>by rw [← e] at this;simp at this)]
  exact h.has p hp
section
variable {P:Program} {X:Cx} {Q:Exit→Act→World→Prop} {a:Act} {w:World}
def allPlain (l:List Oper):Bool:=l.all fun o=>o.guard.isNone
theorem plain_of {l:List Oper} (h:allPlain l=true):∀ o,o ∈ l.toArray.toList→o.guard=none:=fun o ho=>by
 have:=List.all_eq_true.1 h o (by simpa using ho)
 simpa using this
theorem wp_rg {c:Code} (id:Nat) (l:List Oper) (hc:c = .region id l.toArray false) (h:wpOps P l.toArray Q (List.range' 0 (l.length - 0)) a w):c.wp P Q a w:=by
 rw [hc]
 refine wp_region ?_
 rw [List.range_eq_range',List.size_toArray]
 exact h
theorem opsW_size (l:List Oper) (j k:Nat) (hk:k≤l.length):(opsW l j k).size=k - j:=by
 unfold opsW
 rw [List.size_toArray,List.length_take,List.length_drop]
 omega
theorem opsW_get (l:List Oper) (j k i:Nat) (hi:i<k - j):(opsW l j k)[i]?=l.toArray[j+i]?:=by
 unfold opsW
 rw [List.getElem?_toArray,List.getElem?_toArray,List.getElem?_take,if_pos hi,List.getElem?_drop]
theorem ops_win (l:List Oper) (hg:allPlain l=true) (j k:Nat) (hjk:j≤k) (hk:k≤l.length) (h:wpOps P (opsW l j k) (Exit.then (fun a w=>wpOps P l.toArray Q (List.range' k (l.length - k)) a w) Q) (List.range' 0 (opsW l j k).size) a w):wpOps P l.toArray Q (List.range' j (l.length - j)) a w:=by
 rw [opsW_size l j k hk] at h
 have e:List.range' j (l.length - j)=List.range' j (k - j)++List.range' k (l.length - k):=by
  rw [show l.length - j=(k - j)+(l.length - k) by omega,← List.range'_append_1,show j+(k - j)=k by omega]
 rw [e]
 exact ops_sub (plain_of hg) _ (k - j) j 0 a w (fun i hi=>by rw [Nat.zero_add];exact opsW_get l j k i hi) h
theorem ops_one (l:List Oper) (hg:allPlain l=true) (k:Nat) (hk:k<l.length) {f:FuncId} {args:Array Value} {post:Ending→World→Prop}
  (hx:execOp a.eval (opAt l k)=callFunc f args) (hb:(P.funcs[f]?.map fun fn=>fn.body.isNone)=some false) (hn:(P.funcs[f]?.map fun fn=>fn.name == "runtime.NumGoroutine")=some false) (hc:Calls P f args w post) (hr:∀ e w',post e w'→∃ v,e = .returned v)
  (h:∀ v w',post (.returned v) w'→wpOps P l.toArray Q (List.range' (k+1) (l.length - (k+1))) (a.put (opAt l k).dst v) w'):wpOps P l.toArray Q (List.range' k (l.length - k)) a w:=by
 have e:List.range' k (l.length - k)=k :: List.range' (k+1) (l.length - (k+1)):=by
  rw [show l.length - k=(l.length - (k+1))+1 by omega];rfl
 rw [e]
 refine ops_call (plain_of hg) _ k (opAt l k) ?_ hx hb hn hc hr h
 unfold opAt
 rw [List.getElem?_toArray,List.getElem?_eq_getElem hk]
theorem ops_fin (l:List Oper) (h:Q .normal a w):wpOps P l.toArray Q (List.range' l.length (l.length - l.length)) a w:=by
 rw [Nat.sub_self];exact h
theorem eval_St {nt:Nat} {env:Env} (hS:St nt env a) (t:Tmp) (v:Value) (g:Nat) (h:(t,(v,g)) ∈ env):a.eval (.tmp t)=v:=hS.has _ h
end
def isCallOf:Op→Option (FuncId × Array Operand)
 | .call c=>match c.callee with
  | .value x=>match x with
   | .func f=>some (f,c.args)
   | _=>none
  | _=>none
 | _=>none
theorem exec_call {ev:Operand→Value} {o:Oper} {f:FuncId} {xs:Array Operand} {vs:Array Value} (ho:isCallOf o.op=some (f,xs)) (hf:ev (.func f) = .func (.func f) #[] #[]) (ha:xs.map ev=vs):execOp ev o=callFunc f vs:=by
 unfold isCallOf at ho
 split at ho
 ·rename_i c hc
  split at ho
  ·rename_i x hx
   split at ho
   ·simp only [Option.some.injEq,Prod.mk.injEq] at ho
    obtain ⟨rfl,rfl⟩:=ho
    unfold execOp
    rw [hc]
    simp only [resolve,hx,Deferred.ofValue,hf,ha,invoke]
    show callFunc _ ((#[]++vs) ++ #[])=_
    simp
   ·cases ho
  ·cases ho
 ·cases ho
theorem Chg.less {b:Nat} {t:TypeId} {cs:Array Value} {w w':World} (h:Chg [b] w w') (h0:Hc w b t cs) (h1:Hc w' b t cs):Chg [] w w' :=
 ⟨h.os,h.tape,h.output,h.size,fun k hk _=>by
  by_cases e:k=b
  ·subst e;exact (show w'.heap[k]?=_ from h1).trans (show w.heap[k]?=_ from h0).symm
  ·exact h.block k hk (by simpa using e)⟩
theorem zc_get' (z:Array Value) (n i:Nat):(zc z n)[i]?=if i<n * z.size then some z[i % z.size]! else none:=by
 unfold zc Builtin.zeroCells
 rw [Array.getElem?_toList,Array.getElem?_map]
 by_cases h:i<n * z.size
 ·rw [if_pos h,Array.getElem?_eq_getElem (by simpa using h)];simp
 ·rw [if_neg h,Array.getElem?_eq_none (by simpa using h)];rfl
theorem zc_succ' (z:Array Value) (n:Nat):zc z (n+1)=z.toList++zc z n:=by
 apply List.ext_getElem?
 intro i
 rw [zc_get',List.getElem?_append,Nat.succ_mul,Array.length_toList]
 by_cases h:i<z.size
 ·rw [if_pos (by omega),if_pos h,Nat.mod_eq_of_lt h,Array.getElem?_toList,Array.getElem?_eq_getElem h];simp [h]
 ·rw [if_neg h,zc_get']
  by_cases h2:i<n * z.size+z.size
  ·rw [if_pos h2,if_pos (by omega),Nat.mod_eq_sub_mod (by omega)]
  ·rw [if_neg h2,if_neg (by omega)]
/-! a slice that grows,as a whole: nil,full or with room -/
def SlO (t:TypeId) (z:Array Value) (w0 w:World) (sv:Value) (n:Nat) (xs:List Value):Prop :=
 (n=0∧xs = []∧sv = .slice none 0 0)∨∃ b m,sv = .slice (some ⟨b,0,none⟩) n (n+m)∧w0.heap.size≤b∧Hc w b t (xs++zc z m).toArray
def slB:Value→List Nat
 | .slice (some a) _ _=>[a.block]
 | _=>[]
theorem slo_app {P:Program} {t e ty:TypeId} {z:Value} {k:Nat} (T:SlT P t e z k) (hzk:z.cells.size=k) {w0 w:World} {sv:Value} {n d:Nat} {xs news:List Value} (h0:w0.heap.size≤w.heap.size) (h:SlO e z.cells w0 w sv n xs) (hl:xs.length=n * k) (hn:news.length=k) (h1:(news.all fun u=>u.oneCell')=true) (hd:Hc w d e news.toArray) (hN:n≤1000000) :
  ∃ sv' w',(Builtin.append_ #[t,t] ty #[sv,.slice (some ⟨d,0,none⟩) 1 1]).run P w = .ok sv' w'∧SlO e z.cells w0 w' sv' (n+1) (xs++news)∧Chg (slB sv) w w'∧(∀ y,y ∈ slB sv'→y ∈ slB sv∨w.heap.size≤y):=by
 have hzl:z.cells.toList.length=k:=by rw [Array.length_toList];exact hzk
 rcases h with ⟨rfl,rfl,rfl⟩ | ⟨b,m,rfl,hb,hB⟩
 ·obtain ⟨m,w',h2,h3,h4⟩:=app_new (ty:=ty) T none 0 0 d [] news (.inl rfl) hl (fun _=>rfl) hn h1 hd (Nat.le_refl 0) hN
  refine ⟨_,w',h2,.inr ⟨w.heap.size,m,rfl,h0,h3⟩,h4.mono (fun x hx=>by cases hx),fun y hy=>.inr ?_⟩
  rw [List.mem_singleton.1 hy]
  exact Nat.le_refl _
 ·cases m with
  | zero =>
   obtain ⟨m,w',h2,h3,h4⟩:=app_new (ty:=ty) T (some ⟨b,0,none⟩) n (n+0) d xs news (RdC.of hB) hl (fun h=>by cases h) hn h1 hd (Nat.le_refl n) hN
   refine ⟨_,w',h2,.inr ⟨w.heap.size,m,rfl,h0,h3⟩,h4.mono (fun x hx=>by cases hx),fun y hy=>.inr ?_⟩
   rw [List.mem_singleton.1 hy]
   exact Nat.le_refl _
  | succ m =>
   have e1:zc z.cells (m+1)=z.cells.toList++zc z.cells m:=zc_succ' z.cells m
   rw [e1,← List.append_assoc] at hB
   obtain ⟨w',h2,h3,h4⟩:=app_put (ty:=ty) T b n (n+(m+1)) d xs z.cells.toList (zc z.cells m) news hB hl hzl hn h1 hd (by omega)
   exact ⟨_,w',h2,.inr ⟨b,m,by rw [show n+1+m=n+(m+1) by omega],hb,h3⟩,h4,fun y hy=>.inl hy⟩
def isAppOf:Op→Option (Tmp × Tmp × Array TypeId)
 | .call c=>match c.callee with
  | .builtin b=>match b with
   | .append=>match c.args.toList with
    | [.tmp s,.tmp x]=>some (s,x,c.argTypes)
    | _=>none
   | _=>none
  | _=>none
 | _=>none
theorem exec_app {ev:Operand→Value} {o:Oper} {s x:Tmp} {ts:Array TypeId} (ho:isAppOf o.op=some (s,x,ts)):execOp ev o=(do pure (.value (← Builtin.append_ ts o.type #[ev (.tmp s),ev (.tmp x)]))):=by
 unfold isAppOf at ho
 split at ho
 ·rename_i c hc
  split at ho
  ·rename_i b hb
   split at ho
   ·split at ho
    ·rename_i s' x' ha
     simp only [Option.some.injEq,Prod.mk.injEq] at ho
     obtain ⟨rfl,rfl,rfl⟩:=ho
     have ha':c.args = #[.tmp s',.tmp x']:=by
      rw [← ha]
     unfold execOp
     rw [hc]
     simp [resolve,hb,ha',invoke,builtin]
    ·cases ho
   ·cases ho
  ·cases ho
 ·cases ho
section
variable {P:Program} {X:Cx} {Q:Exit→Act→World→Prop} {a:Act} {w:World}
theorem ops_val (l:List Oper) (hg:allPlain l=true) (k:Nat) (hk:k<l.length) {v:Value} {w':World} (hx:(execOp a.eval (opAt l k)).run P w = .ok (.value v) w') (h:wpOps P l.toArray Q (List.range' (k+1) (l.length - (k+1))) (a.put (opAt l k).dst v) w'):wpOps P l.toArray Q (List.range' k (l.length - k)) a w:=by
 have e:List.range' k (l.length - k)=k :: List.range' (k+1) (l.length - (k+1)):=by
  rw [show l.length - k=(l.length - (k+1))+1 by omega];rfl
 have ho:l.toArray[k]?=some (opAt l k):=by
  unfold opAt
  rw [List.getElem?_toArray,List.getElem?_eq_getElem hk]
 have hgo:(opAt l k).guard=none:=plain_of hg _ (by
  rw [← Array.getElem?_toList] at ho
  exact List.mem_of_getElem? ho)
 rw [e]
 unfold wpOps
 rw [ho]
 have hw:Region.wanted (opAt l k) (yielded l.toArray a.tmps)=true:=by unfold Region.wanted;rw [hgo]
 simp only [hw,if_true]
 refine .inl ?_
 unfold Oper.wp
 rw [hx]
 exact h
theorem ops_app {t e:TypeId} {z:Value} {kz:Nat} (T:SlT P t e z kz) (hzk:z.cells.size=kz) (l:List Oper) (hg:allPlain l=true) (k:Nat) (hk:k<l.length) (s x:Tmp) (ho:isAppOf (opAt l k).op=some (s,x,#[t,t])) {w0:World} {sv:Value} {n d:Nat} {xs news:List Value}
  (es:a.eval (.tmp s)=sv) (ex:a.eval (.tmp x) = .slice (some ⟨d,0,none⟩) 1 1) (h0:w0.heap.size≤w.heap.size) (h:SlO e z.cells w0 w sv n xs) (hl:xs.length=n * kz) (hn:news.length=kz) (h1:(news.all fun u=>u.oneCell')=true) (hd:Hc w d e news.toArray) (hN:n≤1000000)
  (K:∀ sv' w',SlO e z.cells w0 w' sv' (n+1) (xs++news)→Chg (slB sv) w w'→(∀ y,y ∈ slB sv'→y ∈ slB sv∨w.heap.size≤y)→wpOps P l.toArray Q (List.range' (k+1) (l.length - (k+1))) (a.put (opAt l k).dst sv') w'):wpOps P l.toArray Q (List.range' k (l.length - k)) a w:=by
 obtain ⟨sv',w',h2,h3,h4,h5⟩:=slo_app (ty:=(opAt l k).type) T hzk h0 h hl hn h1 hd hN
 refine ops_val l hg k hk (v:=sv') (w':=w') ?_ (K sv' w' h3 h4 h5)
 rw [exec_app ho,es,ex]
 simp [h2]
end
end Go.Proofs.YtlhddcingeneaaaGreatDoor
