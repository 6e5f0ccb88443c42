import Derived.Test.YtlhddcingeneaaaGreatDoorPND
import Derived.Test.YtlhddcingeneaaaGreatDoorPNE
import Derived.Deep.AppendSrc
/- Long division to the base 2^24: the guess,what is taken away with a carry that is not positive,what is added back. -/
set_option linter.unusedVariables false
set_option linter.unusedSimpArgs false
set_option maxRecDepth 100000
set_option maxHeartbeats 8000000
namespace Go.Proofs.YtlhddcingeneaaaGreatDoor
open Go.RowKit
theorem bits_and_i64 (a b:Int):bits .and .i64 a b=IntKind.i64.wrap ((BitVec.ofInt 64 a &&& BitVec.ofInt 64 b).toNat:Int):=rfl
theorem and_mask (x:Int):bits .and .i64 x 16777215=x % 16777216:=by
 have h2:(BitVec.ofInt 64 (16777215:Int)).toNat=2 ^ 24 - 1:=by decide
 rw [bits_and_i64,BitVec.toNat_and,h2,Nat.and_two_pow_sub_one_eq_mod,BitVec.toNat_ofInt,IntKind.wrap_i64]
 simp only [Nat.reducePow]
 omega
def GI (v1 top qt q r:Nat):Prop:=q * v1+r=top∧r<33554432∧qt≤q∧q≤16777215
def GS (v1 v0 top u0 qt q:Nat):Prop:=q≤16777215∧qt≤q∧q * (v1 * 16777216+v0)≤top * 16777216+u0
theorem gi_start {v1 top qt:Nat} (hv0:0<v1) (hv:v1<16777216) (htop:top≤v1 * 16777216+16777215) (hqt:qt * v1≤top) (hq:qt<16777216):GI v1 top qt (min (top / v1) 16777215) (top - min (top / v1) 16777215 * v1):=by
 have h1:=Nat.div_mul_le_self top v1
 rcases Nat.le_total (top / v1) 16777215 with h | h
 ·rw [Nat.min_eq_left h]
  have h2:=Nat.lt_div_mul_add (a:=top) hv0
  refine ⟨by omega,by omega,?_,h⟩
  rw [Nat.le_div_iff_mul_le hv0];exact hqt
 ·rw [Nat.min_eq_right h]
  have h2:16777215 * v1≤top / v1 * v1:=Nat.mul_le_mul_right _ h
  exact ⟨by omega,by omega,by omega,Nat.le_refl _⟩
theorem gi_down {v1 v0 top u0 qt q r:Nat} (h:GI v1 top qt q r) (hK:qt * (v1 * 16777216+v0)≤top * 16777216+u0) (hv:v1<16777216) (hc:r * 16777216+u0<q * v0) (hr:r<16777216):1≤q∧GI v1 top qt (q - 1) (r+v1):=by
 obtain ⟨h1,h2,h3,h4⟩:=h
 have hlt:qt<q:=by
  rcases Nat.lt_or_ge qt q with h' | h'
  ·exact h'
  ·exfalso
   have:qt=q:=by omega
   subst this
   rw [two_mul_top] at hK
   have:(qt * v1+r) * 16777216=top * 16777216:=by rw [h1]
   rw [Nat.add_mul] at this
   omega
 obtain ⟨m,rfl⟩:∃ m,q=m+1:=⟨q - 1,by omega⟩
 rw [Nat.add_mul,Nat.one_mul] at h1
 exact ⟨by omega,by rw [Nat.add_sub_cancel];omega,by omega,by omega,by omega⟩
theorem gi_exit {v1 v0 top u0 qt q r:Nat} (h:GI v1 top qt q r) (ht:q * v0≤r * 16777216+u0):GS v1 v0 top u0 qt q:=by
 obtain ⟨h1,h2,h3,h4⟩:=h
 refine ⟨h4,h3,?_⟩
 rw [two_mul_top]
 have:(q * v1+r) * 16777216=top * 16777216:=by rw [h1]
 rw [Nat.add_mul] at this
 omega
theorem gi_far {q v0 r u0:Nat} (hq:q≤16777215) (hv:v0<16777216) (hc:r * 16777216+u0<q * v0):r<16777216:=by
 have h3:q * v0≤16777215 * 16777215:=Nat.mul_le_mul hq (by omega)
 omega
theorem facts24 {us vs:List Nat} (n:Nat) (hu:us.length=n+3) (hv:vs.length=n+2) (du:Dig 16777216 us) (dv:Dig 16777216 vs) (hn:8388608≤gd vs (n+1)) (h:val 16777216 us<16777216 * val 16777216 vs) :
  val 16777216 us / val 16777216 vs<16777216 ∧
  (val 16777216 us / val 16777216 vs) * (gd vs (n+1) * 16777216+gd vs n)≤(gd us (n+2) * 16777216+gd us (n+1)) * 16777216+gd us n ∧
  gd us (n+2) * 16777216+gd us (n+1)≤gd vs (n+1) * 16777216+16777215 ∧
  (val 16777216 us / val 16777216 vs) * gd vs (n+1)≤gd us (n+2) * 16777216+gd us (n+1):=by
 have hP:0<16777216 ^ n:=Nat.pow_pos (by decide)
 have hV:=top_two (by decide) n hv dv
 have hU:=top_three (by decide) n hu du
 have gv0:=dv.gd (by decide) n
 have gu1:=du.gd (by decide) (n+1)
 have gu0:=du.gd (by decide) n
 have hV0:0<val 16777216 vs:=by
  have:1 * 16777216 ^ n≤(gd vs (n+1) * 16777216+gd vs n) * 16777216 ^ n:=Nat.mul_le_mul_right _ (by omega)
  omega
 have hq:val 16777216 us / val 16777216 vs<16777216:=by rw [Nat.div_lt_iff_lt_mul hV0];exact h
 have hk:=guess_not_below hP hU.2 hV.1 (Nat.div_mul_le_self (val 16777216 us) (val 16777216 vs))
 have htop:gd us (n+2)≤gd vs (n+1):=by
  have h1:((gd us (n+2) * 16777216+gd us (n+1)) * 16777216+gd us n) * 16777216 ^ n<16777216 * ((gd vs (n+1) * 16777216+gd vs n+1) * 16777216 ^ n) :=
   Nat.lt_of_le_of_lt hU.1 (Nat.lt_of_lt_of_le h (Nat.mul_le_mul_left _ (Nat.le_of_lt hV.2)))
  rw [← Nat.mul_assoc] at h1
  have:=Nat.lt_of_mul_lt_mul_right h1
  omega
 refine ⟨hq,hk,by omega,?_⟩
 generalize val 16777216 us / val 16777216 vs=qt at *
 rw [two_mul_top] at hk
 have h1:qt * gd vs (n+1) * 16777216<(gd us (n+2) * 16777216+gd us (n+1)+1) * 16777216:=by omega
 have:=Nat.lt_of_mul_lt_mul_right h1
 omega
theorem good24 {us vs:List Nat} (n q:Nat) (hu:us.length=n+3) (hv:vs.length=n+2) (du:Dig 16777216 us) (dv:Dig 16777216 vs) (hn:8388608≤gd vs (n+1))
  (h:GS (gd vs (n+1)) (gd vs n) (gd us (n+2) * 16777216+gd us (n+1)) (gd us n) (val 16777216 us / val 16777216 vs) q):q≤val 16777216 us / val 16777216 vs+1:=by
 have hP:0<16777216 ^ n:=Nat.pow_pos (by decide)
 have hV:=top_two (by decide) n hv dv
 have hU:=top_three (by decide) n hu du
 have hV0:0<val 16777216 vs:=by
  have:1 * 16777216 ^ n≤(gd vs (n+1) * 16777216+gd vs n) * 16777216 ^ n:=Nat.mul_le_mul_right _ (by omega)
  omega
 obtain ⟨h1,h2,h3⟩:=h
 exact guess_near hP hU.1 hV.2 h3 (by omega) (by
  rw [Nat.add_mul,Nat.one_mul]
  have:=Nat.div_add_mod (val 16777216 us) (val 16777216 vs)
  have h4:=Nat.mod_lt (val 16777216 us) hV0
  rw [Nat.mul_comm] at this;omega)
theorem owe_arith {M P q x y K s K' X Y Z:Nat} (h:Z+q * Y=X+P * K) (h2:s+q * y+K=x+M * K'):Z+P * s+q * (Y+P * y)=X+P * x+P * M * K':=by
 have h5:=congrArg (P * ·) h2
 simp only [Nat.mul_add,← Nat.mul_assoc] at h5 h ⊢
 have h6:q * P * y=P * q * y:=by rw [Nat.mul_comm q P]
 omega
theorem owe_step (M:Nat) (zs us vs:List Nat) (i q K s K':Nat) (hi:i<zs.length) (h:val M (zs.take i)+q * val M (vs.take i)=val M (us.take i)+M ^ i * K) (h2:s+q * gd vs i+K=gd us i+M * K') :
  val M ((zs.set i s).take (i+1))+q * val M (vs.take (i+1))=val M (us.take (i+1))+M ^ (i+1) * K':=by
 rw [val_set_take M s hi,val_take_succ',val_take_succ',Nat.pow_succ]
 exact owe_arith h h2
def BlkX (w:World) (k:IntKind) (t:TypeId) (b:Nat) (xs:List Nat) (p:Nat) (v:Value):Prop:=w.heap[b]?=some (.cells ((arr k xs).setIfInBounds p v) t (0,0))
theorem BlkX.cell {w:World} {k:IntKind} {t:TypeId} {b p:Nat} {xs:List Nat} {v:Value} (h:BlkX w k t b xs p v) {i:Nat} (hi:i<xs.length) (hne:i≠p):w.cell? ⟨b,i,none⟩=some (.int k (gd xs i:Nat)):=by
 unfold BlkX at h
 simp only [World.cell?,h,Option.isSome_none]
 have:=arr_get k xs i hi
 simp only [Bool.false_eq_true,if_false]
 rw [Array.getElem?_setIfInBounds_ne (Ne.symm hne)];exact this
theorem BlkX.self {w:World} {k:IntKind} {t:TypeId} {b p:Nat} {xs:List Nat} {v:Value} (h:BlkX w k t b xs p v) (hp:p<xs.length):w.cell? ⟨b,p,none⟩=some v:=by
 unfold BlkX at h
 simp only [World.cell?,h,Option.isSome_none,Bool.false_eq_true,if_false]
 simp [arr_size,hp]
theorem BlkX.free {w:World} {k:IntKind} {t:TypeId} {b p:Nat} {xs:List Nat} {v:Value} (h:BlkX w k t b xs p v) (i:Nat):w.frozen? ⟨b,i,none⟩=false:=by
 unfold BlkX at h
 simp [World.frozen?,h]
theorem BlkX.set {w:World} {k:IntKind} {t:TypeId} {b p:Nat} {xs:List Nat} {v:Value} (h:BlkX w k t b xs p v) (i x:Nat) (hne:i≠p):BlkX (w.setCell ⟨b,i,none⟩ (.int k (x:Nat))) k t b (xs.set i x) p v:=by
 have:=Hc.set (w:=w) (b:=b) (t:=t) (cs:=(arr k xs).setIfInBounds p v) h i (.int k (x:Nat))
 unfold BlkX
 unfold Hc at this
 rw [this,Array.setIfInBounds_comm _ _ (Ne.symm hne),arr_set]
theorem BlkX.back {w:World} {k:IntKind} {t:TypeId} {b p:Nat} {xs:List Nat} {v:Value} (h:BlkX w k t b xs p v) (x:Nat):Blk (w.setCell ⟨b,p,none⟩ (.int k (x:Nat))) k t b (xs.set p x):=by
 have:=Hc.set (w:=w) (b:=b) (t:=t) (cs:=(arr k xs).setIfInBounds p v) h p (.int k (x:Nat))
 unfold Blk
 unfold Hc at this
 rw [this,Array.setIfInBounds_setIfInBounds,arr_set]
theorem BlkX.drewN {w:World} {k:IntKind} {t:TypeId} {b p:Nat} {xs:List Nat} {v:Value} (h:BlkX w k t b xs p v) (n:Nat):BlkX (w.drewN n) k t b xs p v:=by
 unfold BlkX at h ⊢;simpa using h
theorem norm24 {y t n:Nat} (h1:t * 16777216 ^ n≤y) (h2:y<(t+1) * 16777216 ^ n) (ht0:0<t) (ht:t<16777216) :
  8388608 * 16777216 ^ n≤y * (16777216 / (t+1))∧y * (16777216 / (t+1))<16777216 ^ (n+1):=by
 have hf:=Nat.div_mul_le_self 16777216 (t+1)
 have hf2:=Nat.lt_div_mul_add (a:=16777216) (b:=t+1) (by omega)
 obtain ⟨f,hfe⟩:∃ f,f=16777216 / (t+1):=⟨_,rfl⟩
 rw [← hfe] at hf hf2 ⊢
 have hf0:0<f:=by rw [hfe];exact Nat.div_pos (by omega) (by omega)
 constructor
 ·have h3:8388608≤t * f:=by
   rw [Nat.mul_comm t f]
   rw [Nat.mul_add] at hf hf2
   rcases Nat.lt_or_ge (f * t) 8388608 with h | h
   ·exfalso
    have h5:f≤f * t:=Nat.le_mul_of_pos_right f ht0
    have h6:t≤f * t:=Nat.le_mul_of_pos_left t hf0
    rcases Nat.lt_or_ge t 2 with h7 | h7
    ·have:t=1:=by omega
     subst this;omega
    ·have h8:f * 2≤f * t:=Nat.mul_le_mul_left f h7
     rcases Nat.lt_or_ge f 2 with h9 | h9
     ·have:f=1:=by omega
      subst this;omega
     ·have h10:2 * t≤f * t:=Nat.mul_le_mul_right t h9
      omega
   ·exact h
  have h4:t * 16777216 ^ n * f≤y * f:=Nat.mul_le_mul_right f h1
  rw [Nat.mul_right_comm] at h4
  exact Nat.le_trans (Nat.mul_le_mul_right _ h3) h4
 ·have h4:y * f<(t+1) * 16777216 ^ n * f:=Nat.mul_lt_mul_of_pos_right h2 hf0
  rw [Nat.mul_right_comm,Nat.mul_comm (t+1) f] at h4
  have h5:f * (t+1) * 16777216 ^ n≤16777216 * 16777216 ^ n:=Nat.mul_le_mul_right _ hf
  rw [Nat.pow_succ,Nat.mul_comm (16777216 ^ n)]
  omega

def icells (xs:List Nat):List Value:=xs.map fun x:Nat=>Value.int .i64 (x:Int)
theorem icells_length (xs:List Nat):(icells xs).length=xs.length:=by simp [icells]
theorem icells_get {xs:List Nat} {j:Nat} {u:Value} (h:(icells xs)[j]?=some u):j<xs.length∧u = .int .i64 ((gd xs j:Nat):Int):=by
 have hj:j<xs.length:=by
  have:=(List.getElem?_eq_some_iff.1 h).1
  rwa [icells_length] at this
 refine ⟨hj,?_⟩
 have:(icells xs)[j]?=some (.int .i64 ((gd xs j:Nat):Int)):=by simp [icells,List.getElem?_eq_getElem hj,gd_get hj]
 rw [this] at h
 exact (Option.some.inj h).symm
theorem src_ints (w:World) {A:Option Addr} {ys:List Nat} (d:Nat) (h:RdAt w .i64 A ys) (h0:0<ys.length):Src Tryz.prog 1 94 (.slice A ys.length d) ys.length (icells ys) w:=by
 obtain ⟨b,o,rfl,_⟩:=h 0 h0
 refine Src.ofSlice w Tryz.underlying94 ⟨b,o,none⟩ ys.length d (icells ys) (by rw [icells_length,Nat.mul_one]) (fun j u hu=>?_) (fun u hu=>by obtain ⟨x,_,rfl⟩:=List.mem_map.1 hu;rfl)
 obtain ⟨hj,rfl⟩:=icells_get hu
 obtain ⟨b',o',e,hc⟩:=h j hj
 have e2:=Option.some.inj e
 obtain ⟨rfl,rfl⟩:b=b'∧o=o':=⟨congrArg Addr.block e2,congrArg Addr.off e2⟩
 rw [Addr.add_lit];exact hc
theorem grownCap_le (w:World) (need old:Nat) (e:TypeId):need≤grownCap w need old e:=by
 unfold grownCap Question.cut;exact Nat.le_add_right _ _
theorem info_int3:(Tryz.prog.info? 3).map (fun i=>(i.zero,i.size,i.bytes))=some (some (.int .i64 0),1,8):=by kernel_rfl
theorem zeroCells_int (n:Nat):Builtin.zeroCells (Value.int .i64 0).cells n=arr .i64 (List.replicate n 0):=by
 apply Array.ext
 ·simp [Builtin.zeroCells,Value.cells,arr]
 ·intro i h1 h2
  simp [Builtin.zeroCells,Value.cells,arr,Nat.mod_one]
theorem app_grow (w:World) (D A:Option Addr) (xs ys:List Nat) (c d ty:Nat) (hx:RdAt w .i64 D xs) (hD:∃ b,D=some ⟨b,0,none⟩) (hy:RdAt w .i64 A ys) (h0:0<ys.length) (hl:xs.length+ys.length≤3000000000) (hc:c<xs.length+ys.length) :
  ∃ cap w',(Builtin.append_ #[94,94] ty #[.slice D xs.length c,.slice A ys.length d]).run Tryz.prog w = .ok (.slice (some ⟨w.heap.size,0,none⟩) (xs.length+ys.length) cap) w' ∧
   xs.length+ys.length≤cap∧Blk w' .i64 3 w.heap.size (xs++ys++List.replicate (cap - (xs.length+ys.length)) 0)∧Below w.heap.size w w'∧w'.heap.size=w.heap.size+1:=by
 obtain ⟨i,hi,hz,hs,hb⟩:=info_parts info_int3
 obtain ⟨b,rfl⟩:=hD
 have hsrc:=src_ints w d hy h0
 rw [← hs] at hsrc
 have hold:(Builtin.firstCells i.size xs.length (.slice (some ⟨b,0,none⟩) xs.length c)).run Tryz.prog w.drew = .ok (icells xs).toArray w.drew :=
  run_firstCells_some (P:=Tryz.prog) w.drew i.size xs.length ⟨b,0,none⟩ xs.length c (icells xs) (by rw [icells_length,hs,Nat.mul_one]) (fun j v hv=>by
   obtain ⟨hj,rfl⟩:=icells_get hv
   obtain ⟨b',o',e,hc⟩:=hx j hj
   have e2:=Option.some.inj e
   obtain ⟨rfl,rfl⟩:b=b'∧0=o':=⟨congrArg Addr.block e2,congrArg Addr.off e2⟩
   rw [Addr.add_lit];exact hc)
 have hnc:Builtin.nextslicecap (xs.length+ys.length) c≤6000000000:=by
  unfold Builtin.nextslicecap
  split
  ·omega
  ·split
   ·omega
   ·rename_i h1 h2
    simp only [Builtin.growBy]
    repeat' (split)
    all_goals omega
 have hrun:=run_append_grow_src (P:=Tryz.prog) w 94 94 ty 3 i (.int .i64 0) Tryz.underlying94 hi hz (some ⟨b,0,none⟩) xs.length c (icells xs) hold (.slice A ys.length d) ys.length (icells ys) hsrc hc (by omega) (by
  have:Builtin.nextslicecap (xs.length+ys.length) c * i.bytes≤6000000000 * 8:=Nat.mul_le_mul hnc (by omega)
  omega)
 refine ⟨_,_,hrun,grownCap_le _ _ _ _,?_,?_,by simp⟩
 ·have h1:=heap_alloc_new w.drew (.cells ((icells xs++icells ys).toArray++Builtin.zeroCells (Value.int .i64 0).cells (grownCap w (xs.length+ys.length) c 3 - (xs.length+ys.length))) 3)
  unfold Blk
  rw [zeroCells_int] at h1 ⊢
  have e1:(icells xs++icells ys).toArray++arr .i64 (List.replicate (grownCap w (xs.length+ys.length) c 3 - (xs.length+ys.length)) 0)=arr .i64 (xs++ys++List.replicate (grownCap w (xs.length+ys.length) c 3 - (xs.length+ys.length)) 0):=by
   simp [arr,icells]
  rw [e1] at h1 ⊢
  exact h1
 ·exact (Below.refl _ _).drew.alloc (by simp) _
theorem set_same {xs:List Nat} {i x:Nat} (h:gd xs i=x):xs.set i x=xs:=by
 rcases Nat.lt_or_ge i xs.length with h1 | h1
 ·refine ext_gd (by simp) (fun j hj=>?_)
  by_cases e:i=j
  ·subst e;rw [gd_set_eq _ h1,h]
  ·rw [gd_set_ne _ _ e]
 ·rw [List.set_eq_of_length_le h1]
theorem app_room (w:World) (b:Nat) (A:Option Addr) (zs:List Nat) (n c d ty:Nat) (hb:Blk w .i64 3 b zs) (hy:RdAt w .i64 A [0,0]) (hc:n+2≤c) (hz:zs.length=c) (h0:∀ i,n≤i→gd zs i=0) :
  ∃ w',(Builtin.append_ #[94,94] ty #[.slice (some ⟨b,0,none⟩) n c,.slice A 2 d]).run Tryz.prog w = .ok (.slice (some ⟨b,0,none⟩) (n+2) c) w'∧Blk w' .i64 3 b zs∧Only b w w':=by
 obtain ⟨i,hi,hzz,hs,hbb⟩:=info_parts info_int3
 have hsrc:=src_ints w d hy (by simp)
 rw [← hs] at hsrc
 have hrun:=run_append_room_src (P:=Tryz.prog) w 94 94 ty 3 i Tryz.underlying94 hi b 0 n c (.slice A 2 d) 2 (icells [0,0]) hsrc hc
  (fun j hj=>by
   have hj2:j<2:=by simpa [icells] using hj
   rw [hb.cell (i:=0+n * i.size+j) (by rw [hs];omega)];rfl)
  (fun j hj=>hb.free _)
 refine ⟨_,hrun,?_,?_⟩
 ·rw [hs,Nat.mul_one,Nat.zero_add]
  show Blk ((w.setCell ⟨b,n,none⟩ (.int .i64 ((0:Nat):Int))).setCell ⟨b,n+1,none⟩ (.int .i64 ((0:Nat):Int))) .i64 3 b zs
  have h1:=(hb.set n 0).set (n+1) 0
  rw [set_same (h0 n (Nat.le_refl _)),set_same (h0 (n+1) (by omega))] at h1
  exact h1
 ·rw [hs,Nat.mul_one,Nat.zero_add]
  exact ((Only.refl b w).set _ _).set _ _
def RetRDiv (q r:Nat) (w:World) (e:Ending) (w':World):Prop :=
 ∃ A c B d,e = .returned (.tuple #[.slice A (digs 16777216 q).length c,.slice B (digs 16777216 r).length d])∧(digs 16777216 q).length≤c∧(digs 16777216 r).length≤d∧RdAt w' .i64 A (digs 16777216 q)∧RdAt w' .i64 B (digs 16777216 r)∧Below w.heap.size w w'
theorem Rdivide_less (A B:Option Addr) (c d x y:Nat) (w:World) (hx:RdAt w .i64 A (digs 16777216 x)) (hy:RdAt w .i64 B (digs 16777216 y)) (hl:(digs 16777216 x).length≤1000000000) (hm:(digs 16777216 y).length≤1000000000) (hc:(digs 16777216 x).length≤c) (hlt:x<y) :
  Calls Tryz.prog 168 #[.slice A (digs 16777216 x).length c,.slice B (digs 16777216 y).length d] w (RetRDiv (x / y) (x % y) w):=by
 have HC:=Lib.hid (Rorder_any A B c d x y w hx hy hl hm)
 have HX:=Lib.hid hx
 have hc0:=cmpN_lt hlt
 clear hx hy
 go_enter Tryz.func168,Tryz.ntmps168
 go_wp2_with fail
 refine HC.out.mono ?_
 rintro e w' ⟨rfl,n,rfl⟩
 rw [hc0]
 go_wp2
 go_ret2
 have e1:digs 16777216 (x / y) = []:=by rw [Nat.div_eq_of_lt hlt];exact digs_zero _
 have e2:x % y=x:=Nat.mod_eq_of_lt hlt
 refine ⟨none,0,A,c,ret_slices (by rw [e1];rfl) (by rw [e2]),by rw [e1];exact Nat.le_refl _,by rw [e2];exact hc,by rw [e1];exact RdAt.nil _ _ _,by rw [e2];exact HX.out.below (below_drewN (Below.refl _ _) _),below_drewN (Below.refl _ _) _⟩
theorem Rdivide_one (A B:Option Addr) (c d x y:Nat) (w:World) (hx:RdAt w .i64 A (digs 16777216 x)) (hy:RdAt w .i64 B (digs 16777216 y)) (hl:(digs 16777216 x).length≤1000000000) (h1:(digs 16777216 y).length=1) (hge:y≤x) :
  Calls Tryz.prog 168 #[.slice A (digs 16777216 x).length c,.slice B (digs 16777216 y).length d] w (RetRDiv (x / y) (x % y) w):=by
 have hylt:y<16777216:=by have:=lt_pow_digs (B:=16777216) (by decide) y;rw [h1,Nat.pow_one] at this;exact this
 have hy0:y≠0:=by rintro rfl;rw [digs_zero] at h1;simp at h1
 have hyd:digs 16777216 y = [y]:=digs_one (by decide) hy0 hylt
 have HC:=Lib.hid (Rorder_any A B c d x y w hx hy hl (by omega))
 have HX:=Lib.hid hx
 have hcmp:¬ cmpN x y<0:=by
  unfold cmpN
  rw [if_neg (by omega)]
  split <;> omega
 rw [hyd] at hy
 obtain ⟨b,o,rfl,hcy⟩:=hy 0 (by simp)
 have hcy':w.cell? ⟨b,o,none⟩=some (.int .i64 (y:Int)):=by simpa [gd] using hcy
 clear hy hcy hx
 rw [hyd] at HC ⊢
 have h1':(([y].length:Nat):Int)=1:=rfl
 have HS:=fun W h=>Lib.hid (Rshort_any A c x y W h hl (by omega) (by omega))
 go_enter Tryz.func168,Tryz.ntmps168
 go_wp2_with fail
 refine HC.out.mono ?_
 rintro e w' ⟨he,n,rfl⟩
 subst he
 have hcy2:(w.drewN n).cell? ⟨b,o,none⟩=some (.int .i64 (y:Int)):=hcy'
 go_wp2_with fail
 refine (HS _ (HX.out.drewN n)).out.mono ?_
 rintro e W5 ⟨Q,c5,rfl,hc5,hr5,hb5⟩
 have hb:=(below_drewN (Below.refl w.heap.size w) n).trans hb5
 have HR5:=Lib.hid hr5
 have hrd:=rd_one W5 .i64 3 (x % y)
 have hsz:=hb5.size
 have HTR:=Lib.hid (Rtrim_any (some ⟨W5.heap.size,0,none⟩) 1 1 [x % y] (W5.alloc (.cells #[.int .i64 ((x % y:Nat):Int)] 3)) (by simp [Hid]) (Lib.hid hrd) (by omega) (by omega))
 have HRD:=Lib.hid hrd
 clear hb5 hr5 hrd hcy2 hcy' HX HC HS
 go_wp2_with fail
 refine HTR.out.mono ?_
 rintro e W6 ⟨rfl,rfl⟩
 go_wp2_with fail
 go_ret2
 have hmy:x % y<y:=Nat.mod_lt _ (Nat.pos_of_ne_zero hy0)
 have htr:trimL [x % y]=digs 16777216 (x % y):=by
  have:=digs_val (B:=16777216) (by decide) (xs:=[x % y]) (Dig.cons (by omega) (Dig.nil _))
  simp only [val,Nat.mul_zero,Nat.add_zero] at this
  exact this.symm
 refine ⟨Q,c5,some ⟨W5.heap.size,0,none⟩,1,ret_slices rfl (by rw [htr]),hc5,by rw [← htr];exact trimL_length_le [x % y],HR5.out.below ((Below.refl _ _).alloc (Nat.le_refl _) _),by rw [← htr];exact HRD.out.trimL,hb.alloc (by simpa using hsz) _⟩
theorem take_away {us vs us':List Nat} {n q K:Nat} (hu:us.length=n+3) (hv:vs.length=n+2) (hl:us'.length=n+3) (du:Dig 16777216 us) (dv:Dig 16777216 vs) (hd:Dig 16777216 us') (hsame:gd us' (n+2)=gd us (n+2))
  (h:val 16777216 (us'.take (n+2))+q * val 16777216 (vs.take (n+2))=val 16777216 (us.take (n+2))+16777216 ^ (n+2) * K) (hV:0<val 16777216 vs) (hq1:val 16777216 us / val 16777216 vs≤q) (hq2:q≤val 16777216 us / val 16777216 vs+1) :
  (q=val 16777216 us / val 16777216 vs∧gd us (n+2)=K∧val 16777216 (us'.set (n+2) 0)=val 16777216 us % val 16777216 vs) ∨
  (q=val 16777216 us / val 16777216 vs+1∧gd us (n+2)+1=K∧val 16777216 (us'.take (n+2))+val 16777216 vs=val 16777216 us % val 16777216 vs+16777216 ^ (n+2)):=by
 have hP:0<16777216 ^ (n+2):=Nat.pow_pos (by decide)
 have e1:val 16777216 (vs.take (n+2))=val 16777216 vs:=val_full _ _ _ (by omega)
 have e2:val 16777216 us=val 16777216 (us.take (n+2))+16777216 ^ (n+2) * gd us (n+2):=by
  have:=val_take_succ' 16777216 us (n+2)
  rwa [List.take_of_length_le (by omega)] at this
 have hZ:val 16777216 (us'.take (n+2))<16777216 ^ (n+2):=by
  have:=val_lt (hd.take (n+2))
  rwa [List.length_take,Nat.min_eq_left (by omega)] at this
 have hVl:val 16777216 vs<16777216 ^ (n+2):=by have:=val_lt dv;rwa [hv] at this
 rw [e1] at h
 have hdm:=Nat.div_add_mod (val 16777216 us) (val 16777216 vs)
 have hml:=Nat.mod_lt (val 16777216 us) hV
 have hset:∀ x,val 16777216 (us'.set (n+2) x)=val 16777216 (us'.take (n+2))+16777216 ^ (n+2) * x:=fun x=>by
  have:=val_set_take 16777216 (xs:=us') (k:=n+2) x (by omega)
  rwa [List.take_of_length_le (by rw [List.length_set];omega)] at this
 generalize val 16777216 (us'.take (n+2))=Z at *
 generalize hU:val 16777216 us=U at *
 generalize hVV:val 16777216 vs=V at *
 generalize U % V=R at *
 generalize 16777216 ^ (n+2)=P at *
 generalize val 16777216 (us.take (n+2))=T at *
 generalize gd us (n+2)=g at *
 have key:Z+q * V+P * g=U+P * K:=by omega
 rcases Nat.lt_or_ge (U / V) q with hlt | hge
 ·right
  have hq:q=U / V+1:=by omega
  subst hq
  rw [Nat.add_mul,Nat.one_mul,Nat.mul_comm (U / V)] at key
  have k2:Z+V+P * g=R+P * K:=by omega
  refine ⟨rfl,?_,?_⟩
  ·rcases Nat.lt_trichotomy (g+1) K with h1 | h1 | h1
   ·exfalso
    have:P * (g+2)≤P * K:=Nat.mul_le_mul_left _ h1
    rw [Nat.mul_add] at this;omega
   ·exact h1
   ·exfalso
    have:P * K≤P * g:=Nat.mul_le_mul_left _ (by omega)
    omega
  ·have hK:g+1=K:=by
    rcases Nat.lt_trichotomy (g+1) K with h1 | h1 | h1
    ·exfalso
     have:P * (g+2)≤P * K:=Nat.mul_le_mul_left _ h1
     rw [Nat.mul_add] at this;omega
    ·exact h1
    ·exfalso
     have:P * K≤P * g:=Nat.mul_le_mul_left _ (by omega)
     omega
   subst hK
   rw [Nat.mul_add] at k2;omega
 ·left
  have hq:q=U / V:=by omega
  subst hq
  rw [Nat.mul_comm (U / V)] at key
  have k2:Z+P * g=R+P * K:=by omega
  have hK:g=K:=by
   rcases Nat.lt_trichotomy g K with h1 | h1 | h1
   ·exfalso
    have:P * (g+1)≤P * K:=Nat.mul_le_mul_left _ h1
    rw [Nat.mul_add] at this;omega
   ·exact h1
   ·exfalso
    have:P * (K+1)≤P * g:=Nat.mul_le_mul_left _ h1
    rw [Nat.mul_add] at this;omega
  subst hK
  exact ⟨rfl,rfl,by rw [hset,Nat.mul_zero];omega⟩
theorem add_back24 {us' uz vs:List Nat} {n c V R:Nat} (hl:us'.length=n+3) (hz:uz.length=n+3) (hv:vs.length=n+2) (h:val 16777216 (us'.take (n+2))+16777216 ^ (n+2) * c=val 16777216 (uz.take (n+2))+val 16777216 (vs.take (n+2))) (hd:Dig 16777216 us') (hV:val 16777216 vs=V)
  (hR:val 16777216 (uz.take (n+2))+V=R+16777216 ^ (n+2)) (hRl:R<16777216 ^ (n+2)) (hc:c≤1):c=1∧val 16777216 (us'.set (n+2) 0)=R:=by
 have e1:val 16777216 (vs.take (n+2))=val 16777216 vs:=val_full _ _ _ (by omega)
 have hZ:val 16777216 (us'.take (n+2))<16777216 ^ (n+2):=by
  have:=val_lt (hd.take (n+2))
  rwa [List.length_take,Nat.min_eq_left (by omega)] at this
 have hset:val 16777216 (us'.set (n+2) 0)=val 16777216 (us'.take (n+2)):=by
  have:=val_set_take 16777216 (xs:=us') (k:=n+2) 0 (by omega)
  rw [List.take_of_length_le (by rw [List.length_set];omega),Nat.mul_zero,Nat.add_zero] at this
  exact this
 rw [e1,hV,hR] at h
 generalize 16777216 ^ (n+2)=P at *
 have hc2:c=0∨c=1:=by omega
 rcases hc2 with rfl | rfl
 ·omega
 ·exact ⟨rfl,by rw [hset];omega⟩
theorem list_told {P:Program} {ops:Array Oper} {o:Oper} {rest:List Oper} {a:Act} {w w':World} {Q:Exit→Act→World→Prop} {x:Sem Value} {v:Value} (hr:x.run P w = .ok v w') (hgd:o.guard=none)
  (ho:execOp a.eval o=(do pure (.value (← x)))) (h:wpList P ops Q rest (a.put o.dst v) w'):wpList P ops Q (o :: rest) a w:=by
 have hw:Region.wanted o (yielded ops a.tmps)=true:=by simp [Region.wanted,hgd]
 unfold wpList
 rw [if_pos hw]
 left
 unfold Oper.wp
 rw [ho]
 simp only [Sem.run_bind,hr,Result.andThen_ok,Sem.run_pure]
 exact h
theorem app_all (w:World) (b:Nat) (U:Option Addr) (us:List Nat) (cu ty:Nat) (hu:RdAt w .i64 U us) (h0:0<us.length) (hl:us.length≤1000000000) :
  ∃ cap w1 ub cw w2 post,(Builtin.append_ #[94,94] ty #[.slice (some ⟨b,0,none⟩) 0 0,.slice U us.length cu]).run Tryz.prog w = .ok (.slice (some ⟨w.heap.size,0,none⟩) us.length cap) w1 ∧
   (Builtin.append_ #[94,94] ty #[.slice (some ⟨w.heap.size,0,none⟩) us.length cap,.slice (some ⟨w1.heap.size,0,none⟩) 2 2]).run Tryz.prog (w1.alloc (.cells #[.int .i64 0,.int .i64 0] 3)) = .ok (.slice (some ⟨ub,0,none⟩) (us.length+2) cw) w2 ∧
   Blk w2 .i64 3 ub ((us ++ [0,0])++post)∧us.length+2≤cw∧w.heap.size≤ub∧Below w.heap.size w w2∧Dig 16777216 post:=by
 obtain ⟨cap,w1,h1,h2,h3,h4,h5⟩:=app_grow w (some ⟨b,0,none⟩) U [] us 0 cu ty (RdAt.nil _ _ _) ⟨_,rfl⟩ hu h0 (by simp;omega) (by simp;omega)
 simp only [List.length_nil,Nat.zero_add,List.nil_append] at h1 h2 h3
 have hz:RdAt (w1.alloc (.cells #[.int .i64 0,.int .i64 0] 3)) .i64 (some ⟨w1.heap.size,0,none⟩) [0,0]:=fun i hi=>by
  have:i=0∨i=1:=by simp at hi;omega
  rcases this with rfl | rfl
  all_goals exact ⟨w1.heap.size,0,rfl,by simp [World.cell?_alloc_at,gd]⟩
 have h3':=h3.alloc (.cells #[.int .i64 0,.int .i64 0] 3)
 have hb':Below w.heap.size w (w1.alloc (.cells #[.int .i64 0,.int .i64 0] 3)):=h4.alloc (by omega) _
 have hs':(w1.alloc (.cells #[.int .i64 0,.int .i64 0] 3)).heap.size=w1.heap.size+1:=by simp
 generalize hW:w1.alloc (.cells #[.int .i64 0,.int .i64 0] 3)=w1' at *
 by_cases hroom:us.length+2≤cap
 ·obtain ⟨w2,r1,r2,r3⟩:=app_room w1' w.heap.size (some ⟨w1.heap.size,0,none⟩) _ us.length cap 2 ty h3' hz hroom (by simp;omega) (fun i hi=>by
   rw [gd_append_right hi,gd_replicate])
  refine ⟨cap,w1,w.heap.size,cap,w2,List.replicate (cap - us.length - 2) 0,h1,by rw [hW];exact r1,?_,hroom,Nat.le_refl _,hb'.trans (r3.below (Nat.le_refl _)),Dig.replicate (by decide) _⟩
  have e1:us++List.replicate (cap - us.length) 0=(us ++ [0,0])++List.replicate (cap - us.length - 2) 0:=by
   obtain ⟨k,hk⟩:∃ k,cap - us.length=k+2:=⟨cap - us.length - 2,by omega⟩
   rw [hk,Nat.add_sub_cancel,List.append_assoc]
   rfl
  rw [← e1];exact r2
 ·have hrd:RdAt w1' .i64 (some ⟨w.heap.size,0,none⟩) us:=fun i hi=>⟨w.heap.size,0,rfl,by
   rw [Nat.zero_add,h3'.cell (by rw [List.length_append];omega),gd_append_left hi]⟩
  obtain ⟨cw,w2,r1,r2,r3,r4,r5⟩:=app_grow w1' (some ⟨w.heap.size,0,none⟩) (some ⟨w1.heap.size,0,none⟩) us [0,0] cap 2 ty hrd ⟨_,rfl⟩ hz (by simp) (by simp;omega) (by simp;omega)
  simp only [List.length_cons,List.length_nil,Nat.zero_add,Nat.reduceAdd] at r1 r2 r3
  exact ⟨cap,w1,w1'.heap.size,cw,w2,_,h1,by rw [hW];exact r1,r3,r2,by omega,hb'.trans (r4.mono (by omega)),Dig.replicate (by decide) _⟩
def findB (id:Nat):Code→Option Code
 | .block i c=>if i=id then some (.block i c) else findB id c
 | .seq a b=>match findB id a with
  | some c=>some c
  | none=>findB id b
 | .cond _ a b=>match findB id a with
  | some c=>some c
  | none=>findB id b
 | .loop c=>findB id c
 | _=>none
theorem World.cell?_alloc_new1 (w:World) (v:Value) (t:TypeId):(w.alloc (.cells #[v] t)).cell? ⟨w.heap.size,0,none⟩=some v:=by simp [World.cell?_alloc_at]

open Go Go.RowKit
theorem idx_nat {b o n c:Nat} {i:Int} (j:Nat) (w:World) (h0:0≤i) (h1:i<(n:Int)) (hj:i.toNat=j):(Instr.indexAt 94 (.slice (some ⟨b,o,none⟩) n c) (.int .i64 i)).run Tryz.prog w = .ok (.pointer (some ⟨b,o+j,none⟩)) w:=by
 subst hj
 go_simp
theorem ld_int {a:Addr} {v:Int} {w:World} (h:w.cell? a=some (.int .i64 v)):(Instr.loadAt 3 (.pointer (some a))).run Tryz.prog w = .ok (.int .i64 v) w:=by
 go_simp
noncomputable def dvN:Nat:=Tryz.f168.ntmps
noncomputable def dvC:Code:=Tryz.f168.body.getD .skip
noncomputable def dv2:Code:=cB 2 dvC
theorem Rdiv_guess {vb vo n cv ub m cw j top q r qt v0 v1 u0:Nat} {a:Act} {w:World} {Q:Exit→Act→World→Prop}
  (hm:j+n+2<m+2) (hml:m≤1000000000) (htl:top<281474976710656) (gv1:v1<16777216) (gv0:v0<16777216) (gu0:u0<16777216)
  (hcv1:w.cell? ⟨vb,vo+(n+1),none⟩=some (.int .i64 (v1:Int))) (hcv0:w.cell? ⟨vb,vo+n,none⟩=some (.int .i64 (v0:Int))) (hcu0:w.cell? ⟨ub,0+(j+n),none⟩=some (.int .i64 (u0:Int)))
  (hG:GI v1 top qt q r) (hK:qt * (v1 * 16777216+v0)≤top * 16777216+u0)
  (hS:St dvN [(9,(.slice (some ⟨vb,vo,none⟩) (n+2) cv,0)),(10,(.int .i64 ((n:Int)+2),0)),(11,(.slice (some ⟨ub,0,none⟩) (m+2) cw,0)),(13,(.int .i64 (j:Int),0)),(14,(.int .i64 (top:Int),0)),(15,(.int .i64 (q:Int),0))] a)
  (hQ:∀ (q:Nat) a' w',St dvN [(15,(.int .i64 (q:Int),0))] a'→Kp (keeps dv2 dvN) a a'→Chg [] w w'→GS v1 v0 top u0 qt q→Q .normal a' w'):dv2.wp Tryz.prog Q a w:=by
 refine wp_for 2 kr kr (fun k a' w'=>∃ q r:Nat,q=k∧GI v1 top qt q r∧Chg [] w w'∧Kp (keeps dv2 dvN) a a'∧St dvN [(9,(.slice (some ⟨vb,vo,none⟩) (n+2) cv,0)),(10,(.int .i64 ((n:Int)+2),0)),(11,(.slice (some ⟨ub,0,none⟩) (m+2) cw,0)),(13,(.int .i64 (j:Int),0)),(14,(.int .i64 (top:Int),0)),(15,(.int .i64 (q:Int),0))] a') q ⟨q,r,rfl,hG,Chg.refl _ _,Kp.refl _ _,hS⟩ ?_
 rintro k a1 w1 ⟨q,r,rfl,hG,hC1,hK1,hS1⟩
 refine wpL_one ?_
 obtain ⟨hG1,hr,hG2,hq⟩:=id hG
 obtain ⟨p0,hp0⟩:∃ p:Nat,p=q * v0:=⟨_,rfl⟩
 obtain ⟨p1,hp1⟩:∃ p:Nat,p=q * v1:=⟨_,rfl⟩
 have hp0l:p0≤281474943156225:=by rw [hp0];exact Nat.le_trans (Nat.mul_le_mul hq (Nat.le_of_lt_succ gv0)) (by decide)
 have hp0I:(q:Int) * (v0:Int)=(p0:Int):=by rw [hp0,Int.natCast_mul]
 have hp1I:(q:Int) * (v1:Int)=(p1:Int):=by rw [hp1,Int.natCast_mul]
 rw [← hp1] at hG1
 by_cases hc:r * 16777216+u0<p0
 ·have hrM:r<16777216:=gi_far (v0:=v0) hq gv0 (by rw [← hp0];exact hc)
  have HD:=gi_down hG (v0:=v0) (u0:=u0) hK gv1 (by rw [← hp0];exact hc) hrM
  have hq1:=HD.1
  have hcI:decide ((p0:Int) > (r:Int) * 16777216+(u0:Int))=true:=decide_eq_true (by omega)
  have hrI:decide ((r:Int)<16777216)=true:=decide_eq_true (by omega)
  have wn2:IntKind.i64.wrap (((n:Int)+2:Int) - (2:Int))=(n:Int):=by rw [wr64 (by omega) (by omega)];omega
  have wn1:IntKind.i64.wrap (((n:Int)+2:Int) - (1:Int))=(n:Int)+1:=by rw [wr64 (by omega) (by omega)];omega
  have wp0:IntKind.i64.wrap ((q:Int) * (v0:Int))=(p0:Int):=by rw [hp0I];exact wr64 (by omega) (by omega)
  have wp1:IntKind.i64.wrap ((q:Int) * (v1:Int))=(p1:Int):=by rw [hp1I];exact wr64 (by omega) (by omega)
  have wr0:IntKind.i64.wrap ((top:Int) - (p1:Int))=(r:Int):=by rw [wr64 (by omega) (by omega)];omega
  have wr1:IntKind.i64.wrap ((r:Int) * 16777216)=(r:Int) * 16777216:=wr64 (by omega) (by omega)
  have wr2:IntKind.i64.wrap ((r:Int) * 16777216+(u0:Int))=(r:Int) * 16777216+(u0:Int):=wr64 (by omega) (by omega)
  have wj2:IntKind.i64.wrap ((j:Int)+((n:Int)+2))=(j:Int)+((n:Int)+2):=wr64 (by omega) (by omega)
  have wj0:IntKind.i64.wrap ((j:Int)+((n:Int)+2) - 2)=(j:Int)+(n:Int):=by rw [wr64 (by omega) (by omega)];omega
  have wq1:IntKind.i64.wrap ((q:Int) - 1)=((q - 1:Nat):Int):=by rw [wr64 (by omega) (by omega)];omega
  refine vm_piece (E0:=[(9,(.slice (some ⟨vb,vo,none⟩) (n+2) (cv),0)),(10,(.int .i64 ((n:Int)+2),0)),(11,(.slice (some ⟨ub,0,none⟩) (m+2) (cw),0)),(13,(.int .i64 (j:Int),0)),(14,(.int .i64 (top:Int),0)),(15,(.int .i64 (q:Int),0))]) kr [(16,3),(16,4),(16,5),(16,6),(16,11),(16,12),(16,13),(16,14),(16,15),(16,16),(16,20),(16,21),(16,22),(16,23),(16,24),(16,31),(16,32),(16,33),(16,34),(16,35),(17,1)] dvN [cI (cI dv2)] kr hS1 [(.p _ true hcI),(.p _ true hcI),(.p _ true hcI),(.p _ true hcI),(.p _ true hcI),(.p _ true hcI),(.p _ true hcI),(.p _ true hcI),(.p _ true hcI),(.p _ true hcI),(.p _ true hcI),(.p _ true hrI)] [lE .i64 ((((n:Int)+2):Int) - ((2):Int)) ((n:Int)) (wn2),lV (Instr.indexAt 94 (.slice (some ⟨vb,vo,none⟩) (n+2) (cv)) (.int .i64 ((n:Int)))) (.pointer (some ⟨vb,vo+n,none⟩)) (fun w hC=>idx_nat n w (by omega) (by omega) (by omega)),lV (Instr.loadAt 3 (.pointer (some ⟨vb,vo+n,none⟩))) (.int .i64 (v0:Int)) (fun w hC=>ld_int ((hC1.trans hC).cell0 hcv0)),lE .i64 (((q:Int):Int) * ((v0:Int):Int)) ((p0:Int)) (wp0),lE .i64 ((((n:Int)+2):Int) - ((1):Int)) ((n:Int)+1) (wn1),lV (Instr.indexAt 94 (.slice (some ⟨vb,vo,none⟩) (n+2) (cv)) (.int .i64 ((n:Int)+1))) (.pointer (some ⟨vb,vo+(n+1),none⟩)) (fun w hC=>idx_nat (n+1) w (by omega) (by omega) (by omega)),lV (Instr.loadAt 3 (.pointer (some ⟨vb,vo+(n+1),none⟩))) (.int .i64 (v1:Int)) (fun w hC=>ld_int ((hC1.trans hC).cell0 hcv1)),lE .i64 (((q:Int):Int) * ((v1:Int):Int)) ((p1:Int)) (wp1),lE .i64 (((top:Int):Int) - (((p1:Int)):Int)) ((r:Int)) (wr0),lE .i64 ((((r:Int)):Int) * ((16777216):Int)) ((r:Int) * 16777216) (wr1),lE .i64 (((j:Int):Int)+(((n:Int)+2):Int)) ((j:Int)+((n:Int)+2)) (wj2),lE .i64 ((((j:Int)+((n:Int)+2)):Int) - ((2):Int)) ((j:Int)+(n:Int)) (wj0),lV (Instr.indexAt 94 (.slice (some ⟨ub,0,none⟩) (m+2) (cw)) (.int .i64 ((j:Int)+(n:Int)))) (.pointer (some ⟨ub,0+(j+n),none⟩)) (fun w hC=>idx_nat (j+n) w (by omega) (by omega) (by omega)),lV (Instr.loadAt 3 (.pointer (some ⟨ub,0+(j+n),none⟩))) (.int .i64 (u0:Int)) (fun w hC=>ld_int ((hC1.trans hC).cell0 hcu0)),lE .i64 ((((r:Int) * 16777216):Int)+((u0:Int):Int)) ((r:Int) * 16777216+(u0:Int)) (wr2),lE .i64 ((((n:Int)+2):Int) - ((1):Int)) ((n:Int)+1) (wn1),lV (Instr.indexAt 94 (.slice (some ⟨vb,vo,none⟩) (n+2) (cv)) (.int .i64 ((n:Int)+1))) (.pointer (some ⟨vb,vo+(n+1),none⟩)) (fun w hC=>idx_nat (n+1) w (by omega) (by omega) (by omega)),lV (Instr.loadAt 3 (.pointer (some ⟨vb,vo+(n+1),none⟩))) (.int .i64 (v1:Int)) (fun w hC=>ld_int ((hC1.trans hC).cell0 hcv1)),lE .i64 (((q:Int):Int) * ((v1:Int):Int)) ((p1:Int)) (wp1),lE .i64 (((top:Int):Int) - (((p1:Int)):Int)) ((r:Int)) (wr0),lE .i64 (((q:Int):Int) - ((1):Int)) (((q - 1:Nat):Int)) (wq1)] (VEx.n) [(9,(.slice (some ⟨vb,vo,none⟩) (n+2) (cv),0)),(10,(.int .i64 ((n:Int)+2),0)),(11,(.slice (some ⟨ub,0,none⟩) (m+2) (cw),0)),(13,(.int .i64 (j:Int),0)),(14,(.int .i64 (top:Int),0)),(15,(.int .i64 (((q - 1:Nat):Int)),0))] (keeps dv2 dvN) (hQ:=?_)
  exact fun a' w' hS' hK' hC'=>⟨q - 1,by omega,q - 1,r+v1,rfl,HD.2,hC1.trans hC',hK1.trans hK',hS'⟩
 ·have hcI:decide ((p0:Int) > (r:Int) * 16777216+(u0:Int))=false:=decide_eq_false (by omega)
  have HE:=gi_exit hG (v0:=v0) (u0:=u0) (by rw [← hp0];omega)
  have wn2:IntKind.i64.wrap (((n:Int)+2:Int) - (2:Int))=(n:Int):=by rw [wr64 (by omega) (by omega)];omega
  have wn1:IntKind.i64.wrap (((n:Int)+2:Int) - (1:Int))=(n:Int)+1:=by rw [wr64 (by omega) (by omega)];omega
  have wp0:IntKind.i64.wrap ((q:Int) * (v0:Int))=(p0:Int):=by rw [hp0I];exact wr64 (by omega) (by omega)
  have wp1:IntKind.i64.wrap ((q:Int) * (v1:Int))=(p1:Int):=by rw [hp1I];exact wr64 (by omega) (by omega)
  have wr0:IntKind.i64.wrap ((top:Int) - (p1:Int))=(r:Int):=by rw [wr64 (by omega) (by omega)];omega
  have wr1:IntKind.i64.wrap ((r:Int) * 16777216)=(r:Int) * 16777216:=wr64 (by omega) (by omega)
  have wr2:IntKind.i64.wrap ((r:Int) * 16777216+(u0:Int))=(r:Int) * 16777216+(u0:Int):=wr64 (by omega) (by omega)
  have wj2:IntKind.i64.wrap ((j:Int)+((n:Int)+2))=(j:Int)+((n:Int)+2):=wr64 (by omega) (by omega)
  have wj0:IntKind.i64.wrap ((j:Int)+((n:Int)+2) - 2)=(j:Int)+(n:Int):=by rw [wr64 (by omega) (by omega)];omega
  refine vm_piece (E0:=[(9,(.slice (some ⟨vb,vo,none⟩) (n+2) (cv),0)),(10,(.int .i64 ((n:Int)+2),0)),(11,(.slice (some ⟨ub,0,none⟩) (m+2) (cw),0)),(13,(.int .i64 (j:Int),0)),(14,(.int .i64 (top:Int),0)),(15,(.int .i64 (q:Int),0))]) kr [(16,3),(16,4),(16,5),(16,6),(16,11),(16,12),(16,13),(16,14),(16,15),(16,16),(16,20),(16,21),(16,22),(16,23),(16,24)] dvN [cI (cI dv2)] kr hS1 [(.p _ false hcI),(.p _ false hcI),(.p _ false hcI),(.p _ false hcI),(.p _ false hcI),(.p _ false hcI),(.p _ false hcI),(.p _ false hcI),(.p _ false hcI),(.p _ false hcI),(.p _ false hcI),.f] [lE .i64 ((((n:Int)+2):Int) - ((2):Int)) ((n:Int)) (wn2),lV (Instr.indexAt 94 (.slice (some ⟨vb,vo,none⟩) (n+2) (cv)) (.int .i64 ((n:Int)))) (.pointer (some ⟨vb,vo+n,none⟩)) (fun w hC=>idx_nat n w (by omega) (by omega) (by omega)),lV (Instr.loadAt 3 (.pointer (some ⟨vb,vo+n,none⟩))) (.int .i64 (v0:Int)) (fun w hC=>ld_int ((hC1.trans hC).cell0 hcv0)),lE .i64 (((q:Int):Int) * ((v0:Int):Int)) ((p0:Int)) (wp0),lE .i64 ((((n:Int)+2):Int) - ((1):Int)) ((n:Int)+1) (wn1),lV (Instr.indexAt 94 (.slice (some ⟨vb,vo,none⟩) (n+2) (cv)) (.int .i64 ((n:Int)+1))) (.pointer (some ⟨vb,vo+(n+1),none⟩)) (fun w hC=>idx_nat (n+1) w (by omega) (by omega) (by omega)),lV (Instr.loadAt 3 (.pointer (some ⟨vb,vo+(n+1),none⟩))) (.int .i64 (v1:Int)) (fun w hC=>ld_int ((hC1.trans hC).cell0 hcv1)),lE .i64 (((q:Int):Int) * ((v1:Int):Int)) ((p1:Int)) (wp1),lE .i64 (((top:Int):Int) - (((p1:Int)):Int)) ((r:Int)) (wr0),lE .i64 ((((r:Int)):Int) * ((16777216):Int)) ((r:Int) * 16777216) (wr1),lE .i64 (((j:Int):Int)+(((n:Int)+2):Int)) ((j:Int)+((n:Int)+2)) (wj2),lE .i64 ((((j:Int)+((n:Int)+2)):Int) - ((2):Int)) ((j:Int)+(n:Int)) (wj0),lV (Instr.indexAt 94 (.slice (some ⟨ub,0,none⟩) (m+2) (cw)) (.int .i64 ((j:Int)+(n:Int)))) (.pointer (some ⟨ub,0+(j+n),none⟩)) (fun w hC=>idx_nat (j+n) w (by omega) (by omega) (by omega)),lV (Instr.loadAt 3 (.pointer (some ⟨ub,0+(j+n),none⟩))) (.int .i64 (u0:Int)) (fun w hC=>ld_int ((hC1.trans hC).cell0 hcu0)),lE .i64 ((((r:Int) * 16777216):Int)+((u0:Int):Int)) ((r:Int) * 16777216+(u0:Int)) (wr2)] (VEx.x 2) [(9,(.slice (some ⟨vb,vo,none⟩) (n+2) (cv),0)),(10,(.int .i64 ((n:Int)+2),0)),(11,(.slice (some ⟨ub,0,none⟩) (m+2) (cw),0)),(13,(.int .i64 (j:Int),0)),(14,(.int .i64 (top:Int),0)),(15,(.int .i64 (q:Int),0))] (keeps dv2 dvN) (hQ:=?_)
  exact fun a' w' hS' hK' hC'=>hQ q a' w' (hS'.sub (by simp)) (hK1.trans hK') (hC1.trans hC') HE
theorem idx_nat0 {b n c:Nat} {i:Int} (j:Nat) (w:World) (h0:0≤i) (h1:i<(n:Int)) (hj:i.toNat=j):(Instr.indexAt 94 (.slice (some ⟨b,0,none⟩) n c) (.int .i64 i)).run Tryz.prog w = .ok (.pointer (some ⟨b,j,none⟩)) w:=by
 have:=idx_nat (b:=b) (o:=0) (n:=n) (c:=c) j w h0 h1 hj
 rwa [Nat.zero_add] at this
theorem st_int {b p x:Nat} {xs:List Nat} {w:World} (h:Hc w b 3 (arr .i64 xs)) (hp:p<xs.length):∃ w',(Instr.storeAt 3 (.pointer (some ⟨b,p,none⟩)) (.int .i64 (x:Int))).run Tryz.prog w = .ok () w'∧Hc w' b 3 (arr .i64 (xs.set p x))∧Chg [b] w w':=by
 have hb:Blk w .i64 3 b xs:=h
 have hc:=hb.cell hp
 have hf:=hb.free p
 refine ⟨w.setCell ⟨b,p,none⟩ (.int .i64 (x:Int)),by go_simp,hb.set p x,Chg.setCell w b p _ (by simp)⟩
theorem icell {w:World} {b p:Nat} {xs:List Nat} (h:Hc w b 3 (arr .i64 xs)) (hp:p<xs.length):w.cell? ⟨b,p,none⟩=some (.int .i64 ((gd xs p:Nat):Int)):=Blk.cell (k:=.i64) (t:=3) h hp
noncomputable def dv4:Code:=cB 4 dvC
theorem Rdiv_sub {vb vo n cv ub m cw j q:Nat} {xs vs:List Nat} {a:Act} {w:World} {Q:Exit→Act→World→Prop}
  (hm:j+n+2<m+2) (hml:m≤1000000000) (hq:q≤16777215) (hxl:m+2≤xs.length) (hvl:vs.length=n+2) (dx:Dig 16777216 xs) (dv:Dig 16777216 vs) (hne:vb≠ub)
  (hV:∀ i,i<n+2→w.cell? ⟨vb,vo+i,none⟩=some (.int .i64 ((gd vs i:Nat):Int))) (hB:Blk w .i64 3 ub xs)
  (hS:St dvN [(9,(.slice (some ⟨vb,vo,none⟩) (n+2) cv,0)),(10,(.int .i64 ((n:Int)+2),0)),(11,(.slice (some ⟨ub,0,none⟩) (m+2) cw,1)),(13,(.int .i64 (j:Int),0)),(15,(.int .i64 (q:Int),0)),(16,(.int .i64 (-((0:Nat):Int)),0)),(17,(.int .i64 ((0:Nat):Int),0))] a)
  (hQ:∀ (zs:List Nat) (K:Nat) a' w',zs.length=xs.length→Dig 16777216 zs→zs.take j=xs.take j→zs.drop (j+(n+2))=xs.drop (j+(n+2))→K≤16777215 →
   val 16777216 ((zs.drop j).take (n+2))+q * val 16777216 (vs.take (n+2))=val 16777216 ((xs.drop j).take (n+2))+16777216 ^ (n+2) * K→Blk w' .i64 3 ub zs→St dvN [(16,(.int .i64 (-(K:Int)),0))] a'→Kp (keeps dv4 dvN) a a'→Chg [ub] w w'→Q .normal a' w'):dv4.wp Tryz.prog Q a w:=by
 refine wp_for 4 kr kr (fun k a' w'=>∃ (i:Nat) (zs:List Nat) (K:Nat),n+2 - i=k∧i≤n+2∧zs.length=xs.length∧Dig 16777216 zs∧zs.take j=xs.take j∧zs.drop (j+i)=xs.drop (j+i)∧K≤16777215 ∧
   val 16777216 ((zs.drop j).take i)+q * val 16777216 (vs.take i)=val 16777216 ((xs.drop j).take i)+16777216 ^ i * K∧Blk w' .i64 3 ub zs∧Chg [ub] w w'∧Kp (keeps dv4 dvN) a a' ∧
   St dvN [(9,(.slice (some ⟨vb,vo,none⟩) (n+2) cv,0)),(10,(.int .i64 ((n:Int)+2),0)),(11,(.slice (some ⟨ub,0,none⟩) (m+2) cw,1)),(13,(.int .i64 (j:Int),0)),(15,(.int .i64 (q:Int),0)),(16,(.int .i64 (-(K:Int)),0)),(17,(.int .i64 (i:Int),0))] a') (n+2)
  ⟨0,xs,0,rfl,by omega,rfl,dx,rfl,rfl,by omega,by simp [val],hB,Chg.refl _ _,Kp.refl _ _,hS⟩ ?_
 rintro k a1 w1 ⟨i,zs,K,rfl,hin,hzl,dz,hz1,hz2,hK,hval,hB1,hC1,hK1,hS1⟩
 refine wpL_one ?_
 rcases Nat.lt_or_ge i (n+2) with hi | hi
 ·have hI:decide ((i:Int)<(n:Int)+2)=true:=decide_eq_true (by omega)
  have gu:=dz.gd (by decide) (j+i)
  have gv:=dv.gd (by decide) i
  obtain ⟨p,hp⟩:∃ p:Nat,p=q * gd vs i:=⟨_,rfl⟩
  have hpl:p≤281474943156225:=by rw [hp];exact Nat.le_trans (Nat.mul_le_mul hq (Nat.le_of_lt_succ gv)) (by decide)
  have hpI:(q:Int) * ((gd vs i:Nat):Int)=(p:Int):=by rw [hp,Int.natCast_mul]
  obtain ⟨c,hc⟩:∃ c:Int,c = -(K:Int)+(((gd zs (j+i):Nat):Int) - (p:Int)):=⟨_,rfl⟩
  obtain ⟨s,hs⟩:∃ s:Nat,c % 16777216=(s:Int):=⟨(c % 16777216).toNat,by omega⟩
  obtain ⟨K',hK'⟩:∃ K':Nat,c.fdiv (2 ^ (24:Nat)) = -(K':Int):=⟨(-(c / 16777216)).toNat,by
   rw [show (2 ^ (24:Nat):Int)=16777216 from rfl,Int.fdiv_eq_ediv_of_nonneg _ (by decide)]
   omega⟩
  have hK2:c / 16777216 = -(K':Int):=by
   rw [← hK',show (2 ^ (24:Nat):Int)=16777216 from rfl,Int.fdiv_eq_ediv_of_nonneg _ (by decide)]
  have hKl:K'≤16777215:=by omega
  have hsl:s<16777216:=by omega
  have hstep:s+p+K=gd zs (j+i)+16777216 * K':=by omega
  have wji:IntKind.i64.wrap ((j:Int)+(i:Int))=(j:Int)+(i:Int):=wr64 (by omega) (by omega)
  have wp:IntKind.i64.wrap ((q:Int) * ((gd vs i:Nat):Int))=(p:Int):=by rw [hpI];exact wr64 (by omega) (by omega)
  have wu:IntKind.i64.wrap (((gd zs (j+i):Nat):Int) - (p:Int))=((gd zs (j+i):Nat):Int) - (p:Int):=wr64 (by omega) (by omega)
  have wc:IntKind.i64.wrap (-(K:Int)+(((gd zs (j+i):Nat):Int) - (p:Int)))=c:=by rw [← hc];exact wr64 (by omega) (by omega)
  have wi1:IntKind.i64.wrap ((i:Int)+1)=((i+1:Nat):Int):=wr64 (by omega) (by omega)
  refine vm_one (E0:=fun b=>[(9,(.slice (some ⟨vb,vo,none⟩) (n+2) (cv),0)),(10,(.int .i64 ((n:Int)+2),0)),(11,(.slice (some ⟨b,0,none⟩) (m+2) (cw),1)),(13,(.int .i64 (j:Int),0)),(15,(.int .i64 (q:Int),0)),(16,(.int .i64 (-(K:Int)),0)),(17,(.int .i64 (i:Int),0))]) kr [(22,4),(22,5),(22,6),(22,10),(22,11),(22,12),(22,13),(22,14),(23,3),(23,5),(23,6),(23,7),(24,1),(21,1)] dvN [cI (cI dv4)] kr ub 3 (arr .i64 zs) (arr .i64 (zs.set (j+i) s)) hS1 hB1 [(.p _ true hI)] [lE .i64 (((j:Int):Int)+((i:Int):Int)) ((j:Int)+(i:Int)) (wji),lB 0 3 (arr .i64 zs) (fun b=>Instr.indexAt 94 (.slice (some ⟨b,0,none⟩) (m+2) (cw)) (.int .i64 ((j:Int)+(i:Int)))) (fun b=>.pointer (some ⟨b,j+i,none⟩)) 1 (fun b w hC hB=>idx_nat0 (j+i) w (by omega) (by omega) (by omega)),lB 0 3 (arr .i64 zs) (fun b=>Instr.loadAt 3 (.pointer (some ⟨b,j+i,none⟩))) (fun b=>.int .i64 ((gd zs (j+i):Nat))) 0 (fun b w hC hB=>ld_int (icell hB (by omega))),lV (Instr.indexAt 94 (.slice (some ⟨vb,vo,none⟩) (n+2) (cv)) (.int .i64 (i:Int))) (.pointer (some ⟨vb,vo+i,none⟩)) (fun w hC=>idx_nat i w (by omega) (by omega) (by omega)),lV (Instr.loadAt 3 (.pointer (some ⟨vb,vo+i,none⟩))) (.int .i64 ((gd vs i:Nat))) (fun w hC=>ld_int ((hC1.trans hC).cell (by simpa using hne) (hV i hi))),lE .i64 (((q:Int):Int) * (((gd vs i:Nat)):Int)) ((p:Int)) (wp),lE .i64 ((((gd zs (j+i):Nat)):Int) - (((p:Int)):Int)) (((gd zs (j+i):Nat):Int) - (p:Int)) (wu),lE .i64 (((-(K:Int)):Int)+((((gd zs (j+i):Nat):Int) - (p:Int)):Int)) (c) (wc),lE .i64 (((j:Int):Int)+((i:Int):Int)) ((j:Int)+(i:Int)) (wji),lP (.int .i64 (bits .and .i64 c 16777215)) (.int .i64 ((s:Int))) (congrArg (Value.int .i64) ((and_mask c).trans hs)),lB 0 3 (arr .i64 zs) (fun b=>Instr.indexAt 94 (.slice (some ⟨b,0,none⟩) (m+2) (cw)) (.int .i64 ((j:Int)+(i:Int)))) (fun b=>.pointer (some ⟨b,j+i,none⟩)) 1 (fun b w hC hB=>idx_nat0 (j+i) w (by omega) (by omega) (by omega)),lS 0 3 (arr .i64 zs) (arr .i64 (zs.set (j+i) s)) (fun b=>Instr.storeAt 3 (.pointer (some ⟨b,j+i,none⟩)) (.int .i64 ((s:Int)))) (fun b w hC hB=>st_int hB (by omega)),lP (.int .i64 (c.fdiv (2 ^ (24:Nat)))) (.int .i64 (-(K':Int))) (congrArg (Value.int .i64) hK'),lE .i64 (((i:Int):Int)+((1):Int)) (((i+1:Nat):Int)) (wi1)] (VEx.n) (fun b=>[(9,(.slice (some ⟨vb,vo,none⟩) (n+2) (cv),0)),(10,(.int .i64 ((n:Int)+2),0)),(11,(.slice (some ⟨b,0,none⟩) (m+2) (cw),1)),(13,(.int .i64 (j:Int),0)),(15,(.int .i64 (q:Int),0)),(16,(.int .i64 (-(K':Int)),0)),(17,(.int .i64 (((i+1:Nat):Int)),0))]) (keeps dv4 dvN) (hQ:=?_)
  intro a' w' hS' hK2' hC' hB'
  have hgu:gd zs (j+i)=gd (xs.drop j) i:=by
   have h1:=congrArg (fun l=>gd l 0) hz2
   simp only [gd_drop] at h1 ⊢
   simpa using h1
  refine ⟨n+2 - (i+1),by omega,i+1,zs.set (j+i) s,K',rfl,by omega,by simpa using hzl,dz.set (j+i) s hsl,?_,?_,hKl,?_,hB',hC1.trans hC',hK1.trans hK2',hS'⟩
  ·rw [List.take_set_of_le (by omega)];exact hz1
  ·rw [List.drop_set_of_lt (by omega)]
   have:=congrArg (List.drop 1) hz2
   simpa [List.drop_drop,Nat.add_assoc] using this
  ·have h3:=owe_step 16777216 (zs.drop j) (xs.drop j) vs i q K s K' (by rw [List.length_drop];omega) hval (by rw [← hp,← hgu];exact hstep)
   rwa [List.set_drop] at h3
 ·have hie:i=n+2:=by omega
  subst hie
  have hI:decide (((n+2:Nat):Int)<(n:Int)+2)=false:=decide_eq_false (by omega)
  refine vm_one (E0:=fun b=>[(9,(.slice (some ⟨vb,vo,none⟩) (n+2) (cv),0)),(10,(.int .i64 ((n:Int)+2),0)),(11,(.slice (some ⟨b,0,none⟩) (m+2) (cw),1)),(13,(.int .i64 (j:Int),0)),(15,(.int .i64 (q:Int),0)),(16,(.int .i64 (-(K:Int)),0)),(17,(.int .i64 (((n+2:Nat):Int)),0))]) kr [] dvN [cI (cI dv4)] kr ub 3 (arr .i64 zs) (arr .i64 zs) hS1 hB1 [(.p _ false hI)] [] (VEx.x 4) (fun b=>[(9,(.slice (some ⟨vb,vo,none⟩) (n+2) (cv),0)),(10,(.int .i64 ((n:Int)+2),0)),(11,(.slice (some ⟨b,0,none⟩) (m+2) (cw),1)),(13,(.int .i64 (j:Int),0)),(15,(.int .i64 (q:Int),0)),(16,(.int .i64 (-(K:Int)),0)),(17,(.int .i64 (((n+2:Nat):Int)),0))]) (keeps dv4 dvN) (hQ:=?_)
  exact fun a' w' hS' hK2' hC' hB'=>hQ zs K a' w' hzl dz hz1 hz2 hK hval hB' (hS'.sub (by simp)) (hK1.trans hK2') (hC1.trans hC')
theorem add_step24 (M:Nat) (zs us vs:List Nat) (i c s c':Nat) (hi:i<zs.length) (h:val M (zs.take i)+M ^ i * c=val M (us.take i)+val M (vs.take i)) (h2:s+M * c'=c+(gd us i+gd vs i)) :
  val M ((zs.set i s).take (i+1))+M ^ (i+1) * c'=val M (us.take (i+1))+val M (vs.take (i+1)):=by
 rw [val_set_take M s hi,val_take_succ',val_take_succ',Nat.pow_succ]
 have h5:=congrArg (M ^ i * ·) h2
 simp only [Nat.mul_add,← Nat.mul_assoc] at h5 ⊢
 omega
theorem xcell {w:World} {b p q:Nat} {xs:List Nat} {v:Value} (h:Hc w b 3 ((arr .i64 xs).setIfInBounds p v)) (hq:q<xs.length) (hne:q≠p):w.cell? ⟨b,q,none⟩=some (.int .i64 ((gd xs q:Nat):Int)):=BlkX.cell (k:=.i64) (t:=3) h hq hne
theorem xst_int {b p q x:Nat} {xs:List Nat} {v:Value} {w:World} (h:Hc w b 3 ((arr .i64 xs).setIfInBounds p v)) (hq:q<xs.length) (hne:q≠p):∃ w',(Instr.storeAt 3 (.pointer (some ⟨b,q,none⟩)) (.int .i64 (x:Int))).run Tryz.prog w = .ok () w'∧Hc w' b 3 ((arr .i64 (xs.set q x)).setIfInBounds p v)∧Chg [b] w w':=by
 have hb:BlkX w .i64 3 b xs p v:=h
 have hc:=hb.cell hq hne
 have hf:=hb.free q
 refine ⟨w.setCell ⟨b,q,none⟩ (.int .i64 (x:Int)),by go_simp,hb.set q x hne,Chg.setCell w b q _ (by simp)⟩
noncomputable def dv6:Code:=cB 6 dvC
theorem Rdiv_back {vb vo n cv ub m cw j:Nat} {v:Value} {xs vs:List Nat} {a:Act} {w:World} {Q:Exit→Act→World→Prop}
  (hm:j+n+2<m+2) (hml:m≤1000000000) (hxl:m+2≤xs.length) (hvl:vs.length=n+2) (dx:Dig 16777216 xs) (dv:Dig 16777216 vs) (hne:vb≠ub)
  (hV:∀ i,i<n+2→w.cell? ⟨vb,vo+i,none⟩=some (.int .i64 ((gd vs i:Nat):Int))) (hB:BlkX w .i64 3 ub xs (j+(n+2)) v)
  (hS:St dvN [(9,(.slice (some ⟨vb,vo,none⟩) (n+2) cv,0)),(10,(.int .i64 ((n:Int)+2),0)),(11,(.slice (some ⟨ub,0,none⟩) (m+2) cw,1)),(13,(.int .i64 (j:Int),0)),(16,(.int .i64 ((0:Nat):Int),0)),(18,(.int .i64 ((0:Nat):Int),0))] a)
  (hQ:∀ (zs:List Nat) (c:Nat) a' w',zs.length=xs.length→Dig 16777216 zs→zs.take j=xs.take j→zs.drop (j+(n+2))=xs.drop (j+(n+2))→c≤1 →
   val 16777216 ((zs.drop j).take (n+2))+16777216 ^ (n+2) * c=val 16777216 ((xs.drop j).take (n+2))+val 16777216 (vs.take (n+2))→BlkX w' .i64 3 ub zs (j+(n+2)) v→St dvN [(16,(.int .i64 (c:Int),0))] a'→Kp (keeps dv6 dvN) a a'→Chg [ub] w w'→Q .normal a' w'):dv6.wp Tryz.prog Q a w:=by
 refine wp_for 6 kr kr (fun k a' w'=>∃ (i:Nat) (zs:List Nat) (c:Nat),n+2 - i=k∧i≤n+2∧zs.length=xs.length∧Dig 16777216 zs∧zs.take j=xs.take j∧zs.drop (j+i)=xs.drop (j+i)∧c≤1 ∧
   val 16777216 ((zs.drop j).take i)+16777216 ^ i * c=val 16777216 ((xs.drop j).take i)+val 16777216 (vs.take i)∧BlkX w' .i64 3 ub zs (j+(n+2)) v∧Chg [ub] w w'∧Kp (keeps dv6 dvN) a a' ∧
   St dvN [(9,(.slice (some ⟨vb,vo,none⟩) (n+2) cv,0)),(10,(.int .i64 ((n:Int)+2),0)),(11,(.slice (some ⟨ub,0,none⟩) (m+2) cw,1)),(13,(.int .i64 (j:Int),0)),(16,(.int .i64 (c:Int),0)),(18,(.int .i64 (i:Int),0))] a') (n+2)
  ⟨0,xs,0,rfl,by omega,rfl,dx,rfl,rfl,by omega,by simp [val],hB,Chg.refl _ _,Kp.refl _ _,hS⟩ ?_
 rintro k a1 w1 ⟨i,zs,c,rfl,hin,hzl,dz,hz1,hz2,hc,hval,hB1,hC1,hK1,hS1⟩
 refine wpL_one ?_
 rcases Nat.lt_or_ge i (n+2) with hi | hi
 ·have hI:decide ((i:Int)<(n:Int)+2)=true:=decide_eq_true (by omega)
  have gu:=dz.gd (by decide) (j+i)
  have gv:=dv.gd (by decide) i
  obtain ⟨e,he⟩:∃ e:Nat,e=c+(gd zs (j+i)+gd vs i):=⟨_,rfl⟩
  obtain ⟨s,hs⟩:∃ s:Nat,(e:Int) % 16777216=(s:Int):=⟨e % 16777216,by omega⟩
  obtain ⟨c',hc'⟩:∃ c':Nat,(e:Int).fdiv (2 ^ (24:Nat))=(c':Int):=⟨e / 16777216,by
   rw [show (2 ^ (24:Nat):Int)=16777216 from rfl,Int.fdiv_eq_ediv_of_nonneg _ (by decide)]
   omega⟩
  have hK2:(e:Int) / 16777216=(c':Int):=by
   rw [← hc',show (2 ^ (24:Nat):Int)=16777216 from rfl,Int.fdiv_eq_ediv_of_nonneg _ (by decide)]
  have hcl:c'≤1:=by omega
  have hsl:s<16777216:=by omega
  have hstep:s+16777216 * c'=c+(gd zs (j+i)+gd vs i):=by omega
  have wji:IntKind.i64.wrap ((j:Int)+(i:Int))=(j:Int)+(i:Int):=wr64 (by omega) (by omega)
  have wu:IntKind.i64.wrap (((gd zs (j+i):Nat):Int)+((gd vs i:Nat):Int))=((gd zs (j+i):Nat):Int)+((gd vs i:Nat):Int):=wr64 (by omega) (by omega)
  have wc:IntKind.i64.wrap ((c:Int)+(((gd zs (j+i):Nat):Int)+((gd vs i:Nat):Int)))=(e:Int):=by rw [wr64 (by omega) (by omega)];omega
  have wi1:IntKind.i64.wrap ((i:Int)+1)=((i+1:Nat):Int):=wr64 (by omega) (by omega)
  refine vm_one (E0:=fun b=>[(9,(.slice (some ⟨vb,vo,none⟩) (n+2) (cv),0)),(10,(.int .i64 ((n:Int)+2),0)),(11,(.slice (some ⟨b,0,none⟩) (m+2) (cw),1)),(13,(.int .i64 (j:Int),0)),(16,(.int .i64 (c:Int),0)),(18,(.int .i64 (i:Int),0))]) kr [(32,4),(32,5),(32,6),(32,9),(32,10),(32,11),(32,12),(33,3),(33,5),(33,6),(33,7),(34,1),(31,1)] dvN [cI (cI dv6)] kr ub 3 ((arr .i64 zs).setIfInBounds (j+(n+2)) v) ((arr .i64 (zs.set (j+i) s)).setIfInBounds (j+(n+2)) v) hS1 hB1 [(.p _ true hI)] [lE .i64 (((j:Int):Int)+((i:Int):Int)) ((j:Int)+(i:Int)) (wji),lB 0 3 ((arr .i64 zs).setIfInBounds (j+(n+2)) v) (fun b=>Instr.indexAt 94 (.slice (some ⟨b,0,none⟩) (m+2) (cw)) (.int .i64 ((j:Int)+(i:Int)))) (fun b=>.pointer (some ⟨b,j+i,none⟩)) 1 (fun b w hC hB=>idx_nat0 (j+i) w (by omega) (by omega) (by omega)),lB 0 3 ((arr .i64 zs).setIfInBounds (j+(n+2)) v) (fun b=>Instr.loadAt 3 (.pointer (some ⟨b,j+i,none⟩))) (fun b=>.int .i64 ((gd zs (j+i):Nat))) 0 (fun b w hC hB=>ld_int (xcell hB (by omega) (by omega))),lV (Instr.indexAt 94 (.slice (some ⟨vb,vo,none⟩) (n+2) (cv)) (.int .i64 (i:Int))) (.pointer (some ⟨vb,vo+i,none⟩)) (fun w hC=>idx_nat i w (by omega) (by omega) (by omega)),lV (Instr.loadAt 3 (.pointer (some ⟨vb,vo+i,none⟩))) (.int .i64 ((gd vs i:Nat))) (fun w hC=>ld_int ((hC1.trans hC).cell (by simpa using hne) (hV i hi))),lE .i64 ((((gd zs (j+i):Nat)):Int)+(((gd vs i:Nat)):Int)) (((gd zs (j+i):Nat):Int)+((gd vs i:Nat):Int)) (wu),lE .i64 (((c:Int):Int)+((((gd zs (j+i):Nat):Int)+((gd vs i:Nat):Int)):Int)) ((e:Int)) (wc),lE .i64 (((j:Int):Int)+((i:Int):Int)) ((j:Int)+(i:Int)) (wji),lP (.int .i64 (bits .and .i64 e 16777215)) (.int .i64 ((s:Int))) (congrArg (Value.int .i64) ((and_mask e).trans hs)),lB 0 3 ((arr .i64 zs).setIfInBounds (j+(n+2)) v) (fun b=>Instr.indexAt 94 (.slice (some ⟨b,0,none⟩) (m+2) (cw)) (.int .i64 ((j:Int)+(i:Int)))) (fun b=>.pointer (some ⟨b,j+i,none⟩)) 1 (fun b w hC hB=>idx_nat0 (j+i) w (by omega) (by omega) (by omega)),lS 0 3 ((arr .i64 zs).setIfInBounds (j+(n+2)) v) ((arr .i64 (zs.set (j+i) s)).setIfInBounds (j+(n+2)) v) (fun b=>Instr.storeAt 3 (.pointer (some ⟨b,j+i,none⟩)) (.int .i64 ((s:Int)))) (fun b w hC hB=>xst_int hB (by omega) (by omega)),lP (.int .i64 ((e:Int).fdiv (2 ^ (24:Nat)))) (.int .i64 ((c':Int))) (congrArg (Value.int .i64) hc'),lE .i64 (((i:Int):Int)+((1):Int)) (((i+1:Nat):Int)) (wi1)] (VEx.n) (fun b=>[(9,(.slice (some ⟨vb,vo,none⟩) (n+2) (cv),0)),(10,(.int .i64 ((n:Int)+2),0)),(11,(.slice (some ⟨b,0,none⟩) (m+2) (cw),1)),(13,(.int .i64 (j:Int),0)),(16,(.int .i64 ((c':Int)),0)),(18,(.int .i64 (((i+1:Nat):Int)),0))]) (keeps dv6 dvN) (hQ:=?_)
  intro a' w' hS' hK2' hC' hB'
  have hgu:gd zs (j+i)=gd (xs.drop j) i:=by
   have h1:=congrArg (fun l=>gd l 0) hz2
   simp only [gd_drop] at h1 ⊢
   simpa using h1
  refine ⟨n+2 - (i+1),by omega,i+1,zs.set (j+i) s,c',rfl,by omega,by simpa using hzl,dz.set (j+i) s hsl,?_,?_,hcl,?_,hB',hC1.trans hC',hK1.trans hK2',hS'⟩
  ·rw [List.take_set_of_le (by omega)];exact hz1
  ·rw [List.drop_set_of_lt (by omega)]
   have:=congrArg (List.drop 1) hz2
   simpa [List.drop_drop,Nat.add_assoc] using this
  ·have h3:=add_step24 16777216 (zs.drop j) (xs.drop j) vs i c s c' (by rw [List.length_drop];omega) hval (by rw [← hgu];exact hstep)
   rwa [List.set_drop] at h3
 ·have hie:i=n+2:=by omega
  subst hie
  have hI:decide (((n+2:Nat):Int)<(n:Int)+2)=false:=decide_eq_false (by omega)
  refine vm_one (E0:=fun b=>[(9,(.slice (some ⟨vb,vo,none⟩) (n+2) (cv),0)),(10,(.int .i64 ((n:Int)+2),0)),(11,(.slice (some ⟨b,0,none⟩) (m+2) (cw),1)),(13,(.int .i64 (j:Int),0)),(16,(.int .i64 (c:Int),0)),(18,(.int .i64 (((n+2:Nat):Int)),0))]) kr [] dvN [cI (cI dv6)] kr ub 3 ((arr .i64 zs).setIfInBounds (j+(n+2)) v) ((arr .i64 zs).setIfInBounds (j+(n+2)) v) hS1 hB1 [(.p _ false hI)] [] (VEx.x 6) (fun b=>[(9,(.slice (some ⟨vb,vo,none⟩) (n+2) (cv),0)),(10,(.int .i64 ((n:Int)+2),0)),(11,(.slice (some ⟨b,0,none⟩) (m+2) (cw),1)),(13,(.int .i64 (j:Int),0)),(16,(.int .i64 (c:Int),0)),(18,(.int .i64 (((n+2:Nat):Int)),0))]) (keeps dv6 dvN) (hQ:=?_)
  exact fun a' w' hS' hK2' hC' hB'=>hQ zs c a' w' hzl dz hz1 hz2 hc hval hB' (hS'.sub (by simp)) (hK1.trans hK2') (hC1.trans hC')

theorem St.reM {nt:Nat} {l l':Env} {a:Act} (h:St nt l a) (hl:∀ p,p ∈ l'→(p.1,p.2.1) ∈ l.map (fun p=>(p.1,p.2.1))):St nt l' a:=⟨h.defers,h.size,fun p hp=>by
 obtain ⟨q,hq,he⟩:=List.mem_map.1 (hl p hp)
 simp only [Prod.mk.injEq] at he
 have:=h.has q hq
 rw [he.1,he.2] at this
 exact this⟩
theorem yst_int {b p:Nat} {d:Int} {xs:List Nat} {w:World} (h:Hc w b 3 (arr .i64 xs)) (hp:p<xs.length):∃ w',(Instr.storeAt 3 (.pointer (some ⟨b,p,none⟩)) (.int .i64 d)).run Tryz.prog w = .ok () w'∧Hc w' b 3 ((arr .i64 xs).setIfInBounds p (.int .i64 d))∧Chg [b] w w':=by
 have hb:Blk w .i64 3 b xs:=h
 have hc:=hb.cell hp
 have hf:=hb.free p
 exact ⟨w.setCell ⟨b,p,none⟩ (.int .i64 d),by go_simp,Hc.set h p _,Chg.setCell w b p _ (by simp)⟩
theorem zst_int {b p x:Nat} {v:Value} {xs:List Nat} {w:World} (h:Hc w b 3 ((arr .i64 xs).setIfInBounds p v)) (hp:p<xs.length):∃ w',(Instr.storeAt 3 (.pointer (some ⟨b,p,none⟩)) (.int .i64 (x:Int))).run Tryz.prog w = .ok () w'∧Hc w' b 3 (arr .i64 (xs.set p x))∧Chg [b] w w':=by
 have hb:BlkX w .i64 3 b xs p v:=h
 have hc:=hb.self hp
 have hf:=hb.free p
 exact ⟨w.setCell ⟨b,p,none⟩ (.int .i64 (x:Int)),by go_simp,hb.back x,Chg.setCell w b p _ (by simp)⟩
def cA:Code→Code
 | .seq a _=>a
 | c=>c
def cD:Code→Code
 | .seq _ b=>b
 | c=>c
def isSeq:Code→Bool
 | .seq _ _=>true
 | _=>false
theorem wp_sq {P:Program} {c:Code} (h:isSeq c=true) {Q:Exit→Act→World→Prop} {a:Act} {w:World} (k:(cA c).wp P (Exit.then (fun a w=>(cD c).wp P Q a w) Q) a w):c.wp P Q a w:=by
 unfold isSeq at h
 split at h
 ·exact wp_seq k
 ·cases h
def isCond (t:Nat):Code→Bool
 | .cond (.tmp u) _ _=>Nat.beq u t
 | _=>false
theorem wp_yes {P:Program} {c:Code} (t:Nat) (h:isCond t c=true) {Q:Exit→Act→World→Prop} {a:Act} {w:World} (ht:a.tmps.getD t undef = .bool true) (k:(cT c).wp P Q a w):c.wp P Q a w:=by
 unfold isCond at h
 split at h
 ·have:=Nat.eq_of_beq_eq_true h
  subst this
  exact wp_cond_true ht k
 ·cases h
noncomputable def dv1:Code:=cB 1 dvC
noncomputable def dvR1:Code:=(cPost 2 (cI dv1)).headD .skip
noncomputable def dvR2:Code:=(cPost 4 dvR1).headD .skip
theorem Rdiv_top {vb vo n cv ub m cw j top:Nat} {xs vs:List Nat} {a:Act} {w:World} {Q:Exit→Act→World→Prop}
  (hm:j+n+2<m+2) (hml:m≤1000000000) (hxl:m+2≤xs.length) (hvl:vs.length=n+2) (dx:Dig 16777216 xs) (dv:Dig 16777216 vs) (hv0:0<gd vs (n+1)) (htop:top=gd xs (j+(n+2)) * 16777216+gd xs (j+(n+1)))
  (hV:∀ i,i<n+2→w.cell? ⟨vb,vo+i,none⟩=some (.int .i64 ((gd vs i:Nat):Int))) (hB:Blk w .i64 3 ub xs)
  (hS:St dvN [(9,(.slice (some ⟨vb,vo,none⟩) (n+2) cv,0)),(10,(.int .i64 ((n:Int)+2),0)),(11,(.slice (some ⟨ub,0,none⟩) (m+2) cw,0)),(13,(.int .i64 (j:Int),0))] a)
  (hQ:∀ a' w',St dvN [(14,(.int .i64 (top:Int),0)),(15,(.int .i64 ((min (top / gd vs (n+1)) 16777215:Nat):Int),0))] a'→Kp (keeps dv1 dvN) a a'→Chg [] w w'→Q .normal a' w'):wpL Tryz.prog (cPre 2 (cI dv1)) Q a w:=by
 have g2:=dx.gd (by decide) (j+(n+2))
 have g1:=dx.gd (by decide) (j+(n+1))
 have gv:=dv.gd (by decide) (n+1)
 have hx2:w.cell? ⟨ub,j+(n+2),none⟩=some (.int .i64 ((gd xs (j+(n+2)):Nat):Int)):=icell hB (by omega)
 have hx1:w.cell? ⟨ub,j+(n+1),none⟩=some (.int .i64 ((gd xs (j+(n+1)):Nat):Int)):=icell hB (by omega)
 have hv1:=hV (n+1) (by omega)
 have hmin:(if (16777215:Int)<((top / gd vs (n+1):Nat):Int) then 16777215 else ((top / gd vs (n+1):Nat):Int))=((min (top / gd vs (n+1)) 16777215:Nat):Int):=by
  generalize top / gd vs (n+1)=z
  split <;> omega
 have hquo:∀ w,(Op.intDiv .quo .i64 (top:Int) ((gd vs (n+1):Nat):Int)).run Tryz.prog w = .ok (.int .i64 ((top / gd vs (n+1):Nat):Int)) w:=fun w=>by
  have h1:top / gd vs (n+1)≤top:=Nat.div_le_self _ _
  have h2:((top:Int)).tdiv ((gd vs (n+1):Nat):Int)=((top / gd vs (n+1):Nat):Int):=by rw [Int.tdiv_eq_ediv_of_nonneg (by omega),Int.natCast_ediv]
  unfold Op.intDiv
  rw [if_neg (by omega)]
  simp only [h2]
  generalize top / gd vs (n+1)=z at h1
  rw [wr64 (by omega) (by omega)]
  rfl
 have wj2:IntKind.i64.wrap ((j:Int)+((n:Int)+2))=(j:Int)+((n:Int)+2):=wr64 (by omega) (by omega)
 have wj1:IntKind.i64.wrap ((j:Int)+((n:Int)+2) - 1)=(j:Int)+(n:Int)+1:=by rw [wr64 (by omega) (by omega)];omega
 have wn1:IntKind.i64.wrap ((n:Int)+2 - 1)=(n:Int)+1:=by rw [wr64 (by omega) (by omega)];omega
 have wt1:IntKind.i64.wrap (((gd xs (j+(n+2)):Nat):Int) * 16777216)=((gd xs (j+(n+2)):Nat):Int) * 16777216:=wr64 (by omega) (by omega)
 have wt2:IntKind.i64.wrap (((gd xs (j+(n+2)):Nat):Int) * 16777216+((gd xs (j+(n+1)):Nat):Int))=(top:Int):=by rw [wr64 (by omega) (by omega)];omega
 refine vm_piece (E0:=[(9,(.slice (some ⟨vb,vo,none⟩) (n+2) (cv),0)),(10,(.int .i64 ((n:Int)+2),0)),(11,(.slice (some ⟨ub,0,none⟩) (m+2) (cw),0)),(13,(.int .i64 (j:Int),0))]) kr [(14,3),(14,4),(14,5),(14,6),(14,10),(14,11),(14,12),(14,13),(14,14),(15,3),(15,4),(15,5),(15,6),(15,7)] dvN (cPre 2 (cI dv1)) kr hS [] [lE .i64 (((j:Int):Int)+(((n:Int)+2):Int)) ((j:Int)+((n:Int)+2)) (wj2),lV (Instr.indexAt 94 (.slice (some ⟨ub,0,none⟩) (m+2) (cw)) (.int .i64 ((j:Int)+((n:Int)+2)))) (.pointer (some ⟨ub,j+(n+2),none⟩)) (fun w hC=>idx_nat0 (j+(n+2)) w (by omega) (by omega) (by omega)),lV (Instr.loadAt 3 (.pointer (some ⟨ub,j+(n+2),none⟩))) (.int .i64 ((gd xs (j+(n+2)):Nat))) (fun w hC=>ld_int (hC.cell0 hx2)),lE .i64 ((((gd xs (j+(n+2)):Nat)):Int) * ((16777216):Int)) (((gd xs (j+(n+2)):Nat):Int) * 16777216) (wt1),lE .i64 (((j:Int):Int)+(((n:Int)+2):Int)) ((j:Int)+((n:Int)+2)) (wj2),lE .i64 ((((j:Int)+((n:Int)+2)):Int) - ((1):Int)) ((j:Int)+(n:Int)+1) (wj1),lV (Instr.indexAt 94 (.slice (some ⟨ub,0,none⟩) (m+2) (cw)) (.int .i64 ((j:Int)+(n:Int)+1))) (.pointer (some ⟨ub,j+(n+1),none⟩)) (fun w hC=>idx_nat0 (j+(n+1)) w (by omega) (by omega) (by omega)),lV (Instr.loadAt 3 (.pointer (some ⟨ub,j+(n+1),none⟩))) (.int .i64 ((gd xs (j+(n+1)):Nat))) (fun w hC=>ld_int (hC.cell0 hx1)),lE .i64 (((((gd xs (j+(n+2)):Nat):Int) * 16777216):Int)+(((gd xs (j+(n+1)):Nat)):Int)) ((top:Int)) (wt2),lE .i64 ((((n:Int)+2):Int) - ((1):Int)) ((n:Int)+1) (wn1),lV (Instr.indexAt 94 (.slice (some ⟨vb,vo,none⟩) (n+2) (cv)) (.int .i64 ((n:Int)+1))) (.pointer (some ⟨vb,vo+(n+1),none⟩)) (fun w hC=>idx_nat (n+1) w (by omega) (by omega) (by omega)),lV (Instr.loadAt 3 (.pointer (some ⟨vb,vo+(n+1),none⟩))) (.int .i64 ((gd vs (n+1):Nat))) (fun w hC=>ld_int (hC.cell0 hv1)),lV (Op.intDiv .quo .i64 (((top:Int)):Int) (((gd vs (n+1):Nat)):Int)) (.int .i64 (((top / gd vs (n+1):Nat):Int))) (fun w hC=>hquo w),lP (.int .i64 (if (16777215:Int)<((top / gd vs (n+1):Nat):Int) then 16777215 else ((top / gd vs (n+1):Nat):Int))) (.int .i64 (((min (top / gd vs (n+1)) 16777215:Nat):Int))) (congrArg (Value.int .i64) hmin)] (VEx.n) [(14,(.int .i64 (top:Int),0)),(15,(.int .i64 (((min (top / gd vs (n+1)) 16777215:Nat):Int)),0))] (keeps dv1 dvN) (hQ:=?_)
 exact fun a' w' hS' hK' hC'=>hQ a' w' hS' hK' hC'
def isSkip:Code→Bool
 | .skip=>true
 | _=>false
theorem wp_sk {P:Program} {c:Code} (h:isSkip c=true) {Q:Exit→Act→World→Prop} {a:Act} {w:World} (k:Q .normal a w):c.wp P Q a w:=by
 unfold isSkip at h
 split at h
 ·exact wp_skip k
 ·cases h
theorem wp_no {P:Program} {c:Code} (t:Nat) (h:isCond t c=true) {Q:Exit→Act→World→Prop} {a:Act} {w:World} (ht:a.tmps.getD t undef = .bool false) (k:(cF c).wp P Q a w):c.wp P Q a w:=by
 unfold isCond at h
 split at h
 ·have:=Nat.eq_of_beq_eq_true h
  subst this
  exact wp_cond_false ht k
 ·cases h
noncomputable def dvR3:Code:=cD dvR2
noncomputable def dvK:Code:=cD (cA dvR3)
theorem Rdiv_carry {n ub m cw j:Nat} {zs:List Nat} {d:Int} {K:Nat} {a:Act} {w:World} {Q:Exit→Act→World→Prop}
  (hm:j+n+2<m+2) (hml:m≤1000000000) (hzl:m+2≤zs.length) (dz:Dig 16777216 zs) (hK:K≤16777216) (hd:d=((gd zs (j+(n+2)):Nat):Int) - (K:Int)) (hB:Blk w .i64 3 ub zs)
  (hS:St dvN [(10,(.int .i64 ((n:Int)+2),0)),(11,(.slice (some ⟨ub,0,none⟩) (m+2) cw,1)),(13,(.int .i64 (j:Int),0)),(16,(.int .i64 (-(K:Int)),0))] a)
  (hQ:∀ a' w',a'.tmps.size=dvN→a'.defers = []→Kp (keeps dv1 dvN) a a'→a'.tmps.getD 15 undef=a.tmps.getD 15 undef→Hc w' ub 3 ((arr .i64 zs).setIfInBounds (j+(n+2)) (.int .i64 d))→Chg [ub] w w'→Q .normal a' w'):wpL Tryz.prog [cA dvR2] Q a w:=by
 have g:=dz.gd (by decide) (j+(n+2))
 have wj2:IntKind.i64.wrap ((j:Int)+((n:Int)+2))=(j:Int)+((n:Int)+2):=wr64 (by omega) (by omega)
 have wd:IntKind.i64.wrap (((gd zs (j+(n+2)):Nat):Int) + -(K:Int))=d:=by rw [wr64 (by omega) (by omega)];omega
 refine vm_one (E0:=fun b=>[(10,(.int .i64 ((n:Int)+2),0)),(11,(.slice (some ⟨b,0,none⟩) (m+2) (cw),1)),(13,(.int .i64 (j:Int),0)),(16,(.int .i64 (-(K:Int)),0))]) kr [(25,3),(25,4),(25,5),(25,7),(25,8),(25,9)] dvN [cA dvR2] kr ub 3 (arr .i64 zs) ((arr .i64 zs).setIfInBounds (j+(n+2)) (.int .i64 d)) hS hB [] [lE .i64 (((j:Int):Int)+(((n:Int)+2):Int)) ((j:Int)+((n:Int)+2)) (wj2),lB 0 3 (arr .i64 zs) (fun b=>Instr.indexAt 94 (.slice (some ⟨b,0,none⟩) (m+2) (cw)) (.int .i64 ((j:Int)+((n:Int)+2)))) (fun b=>.pointer (some ⟨b,j+(n+2),none⟩)) 1 (fun b w hC hB=>idx_nat0 (j+(n+2)) w (by omega) (by omega) (by omega)),lB 0 3 (arr .i64 zs) (fun b=>Instr.loadAt 3 (.pointer (some ⟨b,j+(n+2),none⟩))) (fun b=>.int .i64 ((gd zs (j+(n+2)):Nat))) 0 (fun b w hC hB=>ld_int (icell hB (by omega))),lE .i64 ((((gd zs (j+(n+2)):Nat)):Int)+((-(K:Int)):Int)) (d) (wd),lB 0 3 (arr .i64 zs) (fun b=>Instr.indexAt 94 (.slice (some ⟨b,0,none⟩) (m+2) (cw)) (.int .i64 ((j:Int)+((n:Int)+2)))) (fun b=>.pointer (some ⟨b,j+(n+2),none⟩)) 1 (fun b w hC hB=>idx_nat0 (j+(n+2)) w (by omega) (by omega) (by omega)),lS 0 3 (arr .i64 zs) ((arr .i64 zs).setIfInBounds (j+(n+2)) (.int .i64 d)) (fun b=>Instr.storeAt 3 (.pointer (some ⟨b,j+(n+2),none⟩)) (.int .i64 (d))) (fun b w hC hB=>yst_int hB (by omega))] (VEx.n) (fun b=>[]) (15 :: keeps dv1 dvN) (hQ:=?_)
 exact fun a' w' hS' hK' hC' hB'=>hQ a' w' hS'.size hS'.defers (fun t ht=>hK' t (List.mem_cons_of_mem _ ht)) (hK' 15 (by simp)) hB' hC'
theorem Rdiv_test {n ub m cw j:Nat} {d:Int} {a:Act} {w:World} {Q:Exit→Act→World→Prop}
  (hm:j+n+2<m+2) (hml:m≤1000000000) (hd:w.cell? ⟨ub,j+(n+2),none⟩=some (.int .i64 d))
  (hS:St dvN [(10,(.int .i64 ((n:Int)+2),0)),(11,(.slice (some ⟨ub,0,none⟩) (m+2) cw,0)),(13,(.int .i64 (j:Int),0))] a)
  (hQ:∀ a' w',a'.tmps.getD 183 undef = .bool (decide (d<0))→a'.tmps.size=dvN→a'.defers = []→Kp (keeps dv1 dvN) a a'→a'.tmps.getD 15 undef=a.tmps.getD 15 undef→Chg [] w w'→Q .normal a' w'):(cA (cA dvR3)).wp Tryz.prog Q a w:=by
 refine wpL_one ?_
 have wj2:IntKind.i64.wrap ((j:Int)+((n:Int)+2))=(j:Int)+((n:Int)+2):=wr64 (by omega) (by omega)
 refine vm_piece (E0:=[(10,(.int .i64 ((n:Int)+2),0)),(11,(.slice (some ⟨ub,0,none⟩) (m+2) (cw),0)),(13,(.int .i64 (j:Int),0))]) kr [(26,3),(26,4),(26,5)] dvN [cA (cA dvR3)] kr hS [] [lE .i64 (((j:Int):Int)+(((n:Int)+2):Int)) ((j:Int)+((n:Int)+2)) (wj2),lV (Instr.indexAt 94 (.slice (some ⟨ub,0,none⟩) (m+2) (cw)) (.int .i64 ((j:Int)+((n:Int)+2)))) (.pointer (some ⟨ub,j+(n+2),none⟩)) (fun w hC=>idx_nat0 (j+(n+2)) w (by omega) (by omega) (by omega)),lV (Instr.loadAt 3 (.pointer (some ⟨ub,j+(n+2),none⟩))) (.int .i64 (d)) (fun w hC=>ld_int (hC.cell0 hd))] (VEx.n) [(183,(.bool (decide (d<0)),0))] (15 :: keeps dv1 dvN) (hQ:=?_)
 exact fun a' w' hS' hK' hC'=>hQ a' w' (hS'.has (183,(.bool (decide (d<0)),0)) (by simp)) hS'.size hS'.defers (fun t ht=>hK' t (List.mem_cons_of_mem _ ht)) (hK' 15 (by simp)) hC'
theorem Rdiv_put {qb L cq j q:Nat} {qs:List Nat} {a:Act} {w:World} {Q:Exit→Act→World→Prop}
  (hj:j<L) (hql:qs.length=L) (hB:Blk w .i64 3 qb qs)
  (hS:St dvN [(12,(.slice (some ⟨qb,0,none⟩) L cq,1)),(13,(.int .i64 (j:Int),0)),(15,(.int .i64 (q:Int),0))] a)
  (hQ:∀ a' w',a'.tmps.size=dvN→a'.defers = []→Kp (keeps dv1 dvN) a a'→Blk w' .i64 3 qb (qs.set j q)→Chg [qb] w w'→Q .normal a' w'):(cD dvR3).wp Tryz.prog Q a w:=by
 refine wpL_one ?_
 refine vm_one (E0:=fun b=>[(12,(.slice (some ⟨b,0,none⟩) (L) (cq),1)),(13,(.int .i64 (j:Int),0)),(15,(.int .i64 (q:Int),0))]) kr [(36,3),(36,4)] dvN [cD dvR3] kr qb 3 (arr .i64 qs) (arr .i64 (qs.set j q)) hS hB [] [lB 0 3 (arr .i64 qs) (fun b=>Instr.indexAt 94 (.slice (some ⟨b,0,none⟩) (L) (cq)) (.int .i64 (j:Int))) (fun b=>.pointer (some ⟨b,j,none⟩)) 1 (fun b w hC hB=>idx_nat0 j w (by omega) (by omega) (by omega)),lS 0 3 (arr .i64 qs) (arr .i64 (qs.set j q)) (fun b=>Instr.storeAt 3 (.pointer (some ⟨b,j,none⟩)) (.int .i64 (q:Int))) (fun b w hC hB=>st_int hB (by omega))] (VEx.n) (fun b=>[]) (keeps dv1 dvN) (hQ:=?_)
 exact fun a' w' hS' hK' hC' hB'=>hQ a' w' hS'.size hS'.defers hK' hB' hC'
theorem Rdiv_less {q:Nat} {a:Act} {w:World} {Q:Exit→Act→World→Prop} (hq:1≤q) (hql:q≤16777215)
  (hS:St dvN [(15,(.int .i64 (q:Int),0))] a)
  (hQ:∀ a' w',St dvN [(15,(.int .i64 ((q - 1:Nat):Int),0)),(16,(.int .i64 ((0:Nat):Int),0)),(18,(.int .i64 ((0:Nat):Int),0))] a'→Kp (keeps dv1 dvN) a a'→Chg [] w w'→Q .normal a' w'):wpL Tryz.prog (cPre 6 (cT dvK)) Q a w:=by
 have wq:IntKind.i64.wrap ((q:Int) - 1)=((q - 1:Nat):Int):=by rw [wr64 (by omega) (by omega)];omega
 refine vm_piece (E0:=[(15,(.int .i64 (q:Int),0))]) kr [(27,1)] dvN (cPre 6 (cT dvK)) kr hS [] [lE .i64 (((q:Int):Int) - ((1):Int)) (((q - 1:Nat):Int)) (wq)] (VEx.n) [(15,(.int .i64 (((q - 1:Nat):Int)),0)),(16,(.int .i64 (((0:Nat):Int)),0)),(18,(.int .i64 (((0:Nat):Int)),0))] (keeps dv1 dvN) (hQ:=?_)
 exact hQ
theorem Rdiv_last {n ub m cw j:Nat} {zs:List Nat} {a:Act} {w:World} {Q:Exit→Act→World→Prop}
  (hm:j+n+2<m+2) (hml:m≤1000000000) (hzl:m+2≤zs.length) (hB:BlkX w .i64 3 ub zs (j+(n+2)) (.int .i64 (-1)))
  (hS:St dvN [(10,(.int .i64 ((n:Int)+2),0)),(11,(.slice (some ⟨ub,0,none⟩) (m+2) cw,1)),(13,(.int .i64 (j:Int),0)),(16,(.int .i64 ((1:Nat):Int),0))] a)
  (hQ:∀ a' w',a'.tmps.size=dvN→a'.defers = []→Kp (keeps dv1 dvN) a a'→a'.tmps.getD 15 undef=a.tmps.getD 15 undef→Blk w' .i64 3 ub (zs.set (j+(n+2)) 0)→Chg [ub] w w'→Q .normal a' w'):wpL Tryz.prog (cPost 6 (cT dvK)) Q a w:=by
 have wj2:IntKind.i64.wrap ((j:Int)+((n:Int)+2))=(j:Int)+((n:Int)+2):=wr64 (by omega) (by omega)
 refine vm_one (E0:=fun b=>[(10,(.int .i64 ((n:Int)+2),0)),(11,(.slice (some ⟨b,0,none⟩) (m+2) (cw),1)),(13,(.int .i64 (j:Int),0)),(16,(.int .i64 (((1:Nat):Int)),0))]) kr [(35,3),(35,4),(35,5),(35,7),(35,8),(35,9)] dvN (cPost 6 (cT dvK)) kr ub 3 ((arr .i64 zs).setIfInBounds (j+(n+2)) (.int .i64 (-1))) (arr .i64 (zs.set (j+(n+2)) 0)) hS hB [] [lE .i64 (((j:Int):Int)+(((n:Int)+2):Int)) ((j:Int)+((n:Int)+2)) (wj2),lB 0 3 ((arr .i64 zs).setIfInBounds (j+(n+2)) (.int .i64 (-1))) (fun b=>Instr.indexAt 94 (.slice (some ⟨b,0,none⟩) (m+2) (cw)) (.int .i64 ((j:Int)+((n:Int)+2)))) (fun b=>.pointer (some ⟨b,j+(n+2),none⟩)) 1 (fun b w hC hB=>idx_nat0 (j+(n+2)) w (by omega) (by omega) (by omega)),lB 0 3 ((arr .i64 zs).setIfInBounds (j+(n+2)) (.int .i64 (-1))) (fun b=>Instr.loadAt 3 (.pointer (some ⟨b,j+(n+2),none⟩))) (fun b=>.int .i64 (-1)) 0 (fun b w hC hB=>ld_int (BlkX.self (k:=.i64) (t:=3) hB (by omega))),lE .i64 (((-1):Int)+((((1:Nat):Int)):Int)) (((0:Nat):Int)) ((by decide)),lB 0 3 ((arr .i64 zs).setIfInBounds (j+(n+2)) (.int .i64 (-1))) (fun b=>Instr.indexAt 94 (.slice (some ⟨b,0,none⟩) (m+2) (cw)) (.int .i64 ((j:Int)+((n:Int)+2)))) (fun b=>.pointer (some ⟨b,j+(n+2),none⟩)) 1 (fun b w hC hB=>idx_nat0 (j+(n+2)) w (by omega) (by omega) (by omega)),lS 0 3 ((arr .i64 zs).setIfInBounds (j+(n+2)) (.int .i64 (-1))) (arr .i64 (zs.set (j+(n+2)) 0)) (fun b=>Instr.storeAt 3 (.pointer (some ⟨b,j+(n+2),none⟩)) (.int .i64 (((0:Nat):Int)))) (fun b w hC hB=>zst_int hB (by omega))] (VEx.n) (fun b=>[]) (15 :: keeps dv1 dvN) (hQ:=?_)
 exact fun a' w' hS' hK' hC' hB'=>hQ a' w' hS'.size hS'.defers (fun t ht=>hK' t (List.mem_cons_of_mem _ ht)) (hK' 15 (by simp)) hB' hC'
end Go.Proofs.YtlhddcingeneaaaGreatDoor

namespace Go.Proofs.YtlhddcingeneaaaGreatDoor
open Go.RowKit

end Go.Proofs.YtlhddcingeneaaaGreatDoor
