import Derived.Test.YtlhddcingeneaaaGreatDoorPNA
import Derived.Test.YtlhddcingeneaaaGreatDoorPNShelf
import Derived.Deep.RegionHeld3
import Derived.Deep.QuietTactic
import Derived.BigQuiet
import Derived.StillTail
import Derived.OrdersHeld
import Derived.Deep.Quiet
import Derived.Deep.DeepCutAuto
import Derived.Outline
import Derived.Lib.ItoaMem
import Derived.Lib.Repeat
import Derived.Lib.AppendIntMem
/- Long division of the program's natural numbers. -/
set_option linter.unusedVariables false
set_option linter.unusedSimpArgs false
set_option maxRecDepth 100000
set_option maxHeartbeats 8000000
namespace Go.Proofs.YtlhddcingeneaaaGreatDoor
open Go.RowKit
theorem bitLenAux_spec:∀ (f x:Nat),x<2 ^ f→x≠0→1≤Lib.bitLenAux f x∧Lib.bitLenAux f x≤f∧2 ^ (Lib.bitLenAux f x - 1)≤x∧x<2 ^ Lib.bitLenAux f x
 | 0,x,h,h0=>by simp at h;omega
 | f+1,x,h,h0=>by
  simp only [Lib.bitLenAux,if_neg h0]
  by_cases h1:x / 2=0
  ·have:x=1:=by omega
   subst this
   have:Lib.bitLenAux f (1 / 2)=0:=by cases f <;> simp [Lib.bitLenAux]
   rw [this];simp
  ·obtain ⟨a,b,c,d⟩:=bitLenAux_spec f (x / 2) (by rw [Nat.pow_succ] at h;omega) h1
   obtain ⟨m,hm⟩:∃ m,Lib.bitLenAux f (x / 2)=m+1:=⟨_,(Nat.sub_add_cancel a).symm⟩
   rw [hm] at b c d ⊢
   simp only [Nat.add_sub_cancel] at c
   refine ⟨by omega,by omega,?_,?_⟩
   ·rw [show 1+(m+1) - 1=m+1 from by omega,Nat.pow_succ];omega
   ·rw [show 1+(m+1)=m+1+1 from by omega,Nat.pow_succ];omega
theorem bitLen32 {x:Nat} (h:x<4294967296) (h0:x≠0):1≤Lib.bitLen x∧Lib.bitLen x≤32∧2147483648≤x * 2 ^ (32 - Lib.bitLen x)∧(x+1) * 2 ^ (32 - Lib.bitLen x)≤4294967296:=by
 obtain ⟨a,_,c,d⟩:=bitLenAux_spec 64 x (by omega) h0
 have e:Lib.bitLen x=Lib.bitLenAux 64 x:=rfl
 rw [← e] at a c d
 have b:Lib.bitLen x≤32:=by
  rcases Nat.lt_or_ge 32 (Lib.bitLen x) with h1 | h1
  ·have:2 ^ 32≤2 ^ (Lib.bitLen x - 1):=Nat.pow_le_pow_right (by decide) (by omega)
   omega
  ·exact h1
 refine ⟨a,b,?_,?_⟩
 ·have h1:2 ^ (Lib.bitLen x - 1) * 2 ^ (32 - Lib.bitLen x)≤x * 2 ^ (32 - Lib.bitLen x):=Nat.mul_le_mul_right _ c
  rw [← Nat.pow_add,show Lib.bitLen x - 1+(32 - Lib.bitLen x)=31 from by omega] at h1
  exact h1
 ·have h1:(x+1) * 2 ^ (32 - Lib.bitLen x)≤2 ^ Lib.bitLen x * 2 ^ (32 - Lib.bitLen x):=Nat.mul_le_mul_right _ d
  rw [← Nat.pow_add,show Lib.bitLen x+(32 - Lib.bitLen x)=32 from by omega] at h1
  exact h1
def RetDiv (q r:Nat) (w:World) (e:Ending) (w':World):Prop :=
 ∃ A c B d,e = .returned (.tuple #[.slice A (digs 4294967296 q).length c,.slice B (digs 4294967296 r).length d])∧(digs 4294967296 q).length≤c∧(digs 4294967296 r).length≤d∧RdAt w' .u32 A (digs 4294967296 q)∧RdAt w' .u32 B (digs 4294967296 r)∧Below w.heap.size w w'
theorem ret_slices {A B:Option Addr} {n n' c m m' d:Nat} (h:n=n') (h':m=m'):Ending.returned (.tuple #[.slice A n c,.slice B m d]) = .returned (.tuple #[.slice A n' c,.slice B m' d]):=by rw [h,h']
theorem divide_less (A B:Option Addr) (c d x y:Nat) (w:World) (hx:RdAt w .u32 A (digs 4294967296 x)) (hy:RdAt w .u32 B (digs 4294967296 y)) (hl:(digs 4294967296 x).length≤1000000000) (hm:(digs 4294967296 y).length≤1000000000) (hc:(digs 4294967296 x).length≤c) (hlt:x<y) :
  Calls Tryz.prog 157 #[.slice A (digs 4294967296 x).length c,.slice B (digs 4294967296 y).length d] w (RetDiv (x / y) (x % y) w):=by
 have HC:=Lib.hid (compare_any A B c d x y w hx hy hl hm)
 have HX:=Lib.hid hx
 clear hx hy
 go_enter Tryz.func157,Tryz.ntmps157
 go_wp2_with fail
 refine HC.out.mono ?_
 rintro e w' ⟨r,rfl,h1,h2,n,rfl⟩
 have hr:r<0:=h1.2 hlt
 clear h1 h2
 go_wp2
 go_ret2
 have e1:digs 4294967296 (x / y) = []:=by rw [Nat.div_eq_of_lt hlt];exact digs_zero _
 have e2:x % y=x:=Nat.mod_eq_of_lt hlt
 refine ⟨none,0,A,c,ret_slices (by rw [e1];rfl) (by rw [e2]),by rw [e1];exact Nat.le_refl _,by rw [e2];exact hc,by rw [e1];exact RdAt.nil _ _ _,by rw [e2];exact HX.out.below (below_drewN (Below.refl _ _) _),below_drewN (Below.refl _ _) _⟩
theorem digs_one {M x:Nat} (hM:2≤M) (h0:x≠0) (h:x<M):digs M x = [x]:=by
 rw [digs_step hM h0,Nat.mod_eq_of_lt h,Nat.div_eq_of_lt h,digs_zero]
theorem rd_one (w:World) (k:IntKind) (t:TypeId) (x:Nat):RdAt (w.alloc (.cells #[.int k (x:Int)] t)) k (some ⟨w.heap.size,0,none⟩) [x]:=fun i hi=>by
 have:i=0:=by simpa using hi
 subst this
 exact ⟨w.heap.size,0,rfl,by rw [Nat.zero_add];simp [World.cell?_alloc_at,gd]⟩
theorem divide_one (A B:Option Addr) (c d x y:Nat) (w:World) (hx:RdAt w .u32 A (digs 4294967296 x)) (hy:RdAt w .u32 B (digs 4294967296 y)) (hl:(digs 4294967296 x).length≤1000000000) (hm:(digs 4294967296 y).length=1) (hge:y≤x) :
  Calls Tryz.prog 157 #[.slice A (digs 4294967296 x).length c,.slice B (digs 4294967296 y).length d] w (RetDiv (x / y) (x % y) w):=by
 have HC:=Lib.hid (compare_any A B c d x y w hx hy hl (by omega))
 have hy0:y≠0:=by rintro rfl;rw [digs_zero] at hm;simp at hm
 have hyM:y<4294967296:=by have:=lt_pow_digs (B:=4294967296) (by decide) y;rw [hm] at this;omega
 have hyd:=digs_one (M:=4294967296) (by decide) hy0 hyM
 rw [hyd] at HC hy ⊢
 obtain ⟨bb,oo,rfl,hcb⟩:=hy 0 (by simp)
 rw [show gd [y] 0=y from rfl,Nat.add_zero] at hcb
 have HX:=Lib.hid hx
 have HE:=Lib.hid hyd
 clear hx hy hyd hm
 go_enter Tryz.func157,Tryz.ntmps157
 go_wp2_with fail
 refine HC.out.mono ?_
 rintro e w' ⟨r,rfl,h1,h2,n,rfl⟩
 have hr:¬ r<0:=fun h=>by have:=h1.1 h;omega
 have hr':0≤r:=by omega
 clear h1 h2 hr
 go_wp2_with fail
 refine (small_any A c x y (w.drewN n) (HX.out.below (below_drewN (Below.refl _ _) _)) hl (by omega) (by omega)).mono ?_
 rintro e w1 ⟨A1,c1,rfl,hc1,hrd,hbl⟩
 have HR:=Lib.hid hrd
 have HRB:=Lib.hid (rd_one w1 .u32 41 (x % y))
 have hmm:((x:Int) % (y:Int))=((x % y:Nat):Int):=(Int.natCast_emod x y).symm
 rw [hmm]
 generalize hrr:x % y=rr at *
 have HRR:=Lib.hid hrr
 rw [Int.toNat_natCast] at hc1 HR
 generalize hqq:x / y=qq at *
 rw [show ((y:Int)).toNat=y from Int.toNat_natCast y,hqq]
 clear hrd hrr hmm hqq
 go_wp2_with (go_at_call 189;refine (trim_any _ 1 1 [rr] _ rfl (Lib.hid HRB.out) (by omega) (by omega)).mono ?_;rintro e w' ⟨rfl,rfl⟩)
 go_ret2
 have hrd:trimL [rr]=digs 4294967296 rr:=by
  have h1:rr<4294967296:=by rw [← HRR.out];have:=Nat.mod_lt x (show 0<y by omega);omega
  have:=digs_val (B:=4294967296) (by decide) (xs:=[rr]) (Dig.cons h1 (Dig.nil _))
  simp only [val,Nat.mul_zero,Nat.add_zero] at this
  exact this.symm
 have hal:=((Below.refl w1.heap.size w1).alloc (Nat.le_refl _) (.cells #[Value.int .u32 (rr:Int)] 41))
 refine ⟨A1,c1,some ⟨w1.heap.size,0,none⟩,1,ret_slices rfl (by rw [hrd]),hc1,?_,HR.out.below hal,?_,?_⟩
 ·rw [← hrd];exact trimL_length_le [rr]
 ·rw [← hrd];exact HRB.out.trimL
 ·exact ((below_drewN (Below.refl _ _) n).trans hbl).alloc hbl.size _

theorem lz32_any (x:Nat) (w:World) (h:x<4294967296) (h0:x≠0) :
  Calls Tryz.prog 196 #[.int .u32 (x:Int)] w fun e w'=>e = .returned (.int .i64 ((32 - Lib.bitLen x:Nat):Int))∧w=w':=by
 refine (Tryz.bits_LeadingZeros32 x w (by omega) (by omega)).mono ?_
 rintro e w' ⟨rfl,rfl⟩
 have:=(bitLen32 h h0).2.1
 exact ⟨ret_int (by rw [Int.toNat_natCast];omega),rfl⟩
theorem norm_facts {ys:List Nat} (n:Nat) (hl:ys.length=n+2) (d:Dig 4294967296 ys) (h0:gd ys (n+1)≠0) :
  4294967296 ^ (n+1) * 2147483648≤val 4294967296 ys * 2 ^ (32 - Lib.bitLen (gd ys (n+1)))∧val 4294967296 ys * 2 ^ (32 - Lib.bitLen (gd ys (n+1)))<4294967296 ^ (n+2):=by
 obtain ⟨_,_,h1,h2⟩:=bitLen32 (d.gd (by decide) (n+1)) h0
 generalize 2 ^ (32 - Lib.bitLen (gd ys (n+1)))=p at *
 have h3:=val_split 4294967296 ys (n+1) (by omega)
 have h4:=val_drop 4294967296 ys (n+1) (by omega)
 rw [List.drop_of_length_le (show ys.length≤n+1+1 by omega)] at h4
 simp only [val,Nat.mul_zero,Nat.add_zero] at h4
 have h5:=val_lt (d.take (n+1))
 rw [List.length_take,Nat.min_eq_left (by omega)] at h5
 rw [h4] at h3
 generalize gd ys (n+1)=g at *
 generalize hP:4294967296 ^ (n+1)=P at *
 have hP2:4294967296 ^ (n+2)=P * 4294967296:=by rw [← hP,← Nat.pow_succ]
 rw [hP2,h3]
 have a1:P * 2147483648≤P * (g * p):=Nat.mul_le_mul_left _ h1
 have a2:P * ((g+1) * p)≤P * 4294967296:=Nat.mul_le_mul_left _ h2
 have hp:0<p:=by
  rcases Nat.eq_zero_or_pos p with h | h
  ·subst h;omega
  ·exact h
 have a3:(val 4294967296 (ys.take (n+1))+P * g) * p<(P+P * g) * p:=Nat.mul_lt_mul_of_pos_right (by omega) hp
 have e1:(P+P * g) * p=P * ((g+1) * p):=by
  rw [Nat.add_mul g 1,Nat.one_mul,Nat.mul_add,Nat.add_mul,← Nat.mul_assoc P g p,Nat.add_comm]
 have e2:(val 4294967296 (ys.take (n+1))+P * g) * p=val 4294967296 (ys.take (n+1)) * p+P * (g * p):=by rw [Nat.add_mul,Nat.mul_assoc]
 omega
theorem cast_unshift (a b s:Nat):((a:Int) * 4294967296+(b:Int)) / 2 ^ s % 4294967296=(((a * 4294967296+b) / 2 ^ s % 4294967296:Nat):Int):=by
 have e:((2:Int) ^ s)=((2 ^ s:Nat):Int):=by rw [Int.natCast_pow];rfl
 rw [e,Int.natCast_emod,Int.natCast_ediv,Int.natCast_add,Int.natCast_mul];rfl
theorem divide_long (A B:Option Addr) (c d n e':Nat) (xs ys:List Nat) (w:World) (hx:RdAt w .u32 A xs) (hy:RdAt w .u32 B ys) (hxl:xs.length=n+2+e') (hyl:ys.length=n+2) (hl:n+e'≤900000000) (dx:Dig 4294967296 xs) (dy:Dig 4294967296 ys)
  (hc:n+2+e'≤c) (hd:n+2≤d) (h0:gd ys (n+1)≠0)
  (hcmp:∀ w:World,RdAt w .u32 A xs→RdAt w .u32 B ys→Calls Tryz.prog 153 #[.slice A (n+2+e') c,.slice B (n+2) d] w (RetCmp (val 4294967296 xs) (val 4294967296 ys) w)) (hge:val 4294967296 ys≤val 4294967296 xs) :
  Calls Tryz.prog 157 #[.slice A (n+2+e') c,.slice B (n+2) d] w (RetDiv (val 4294967296 xs / val 4294967296 ys) (val 4294967296 xs % val 4294967296 ys) w):=by
 have HC:=Lib.hid (hcmp w hx hy)
 have HX:=Lib.hid hx
 have HY:=Lib.hid hy
 have HXL:=Lib.hid hxl
 have HYL:=Lib.hid hyl
 have HDX:=Lib.hid dx
 have HDY:=Lib.hid dy
 have HN:=Lib.hid (norm_facts n hyl dy h0)
 have HBL:=Lib.hid (bitLen32 (dy.gd (by decide) (n+1)) h0)
 obtain ⟨b,o,rfl,hct⟩:=hy (n+1) (by omega)
 have gt:=dy.gd (by decide) (n+1)
 obtain ⟨s,hs⟩:∃ s,s=32 - Lib.bitLen (gd ys (n+1)):=⟨_,rfl⟩
 have hs31:s≤31:=by have:=HBL.out.1;omega
 have HS:=Lib.hid hs
 have h1f:((n:Int)+2 == 1)=false:=by rw [beq_eq_false_iff_ne];omega
 clear hx hy hxl hyl dx dy hcmp hs
 go_enter Tryz.func157,Tryz.ntmps157
 go_wp2_with fail
 refine HC.out.mono ?_
 rintro e w' ⟨r,rfl,h1,h2,nd,rfl⟩
 have hr:¬ r<0:=fun h=>by have:=h1.1 h;omega
 have hr':0≤r:=by omega
 clear h1 h2 hr HC
 go_wp2_with fail
 refine (lz32_any _ _ gt h0).mono ?_
 rintro e w' ⟨rfl,rfl⟩
 rw [← HS.out]
 go_wp2_with fail
 rw [← HYL.out]
 refine (shift_lists (some ⟨b,o,none⟩) d s ys _ (HY.out.below (below_drewN (Below.refl _ _) _)) (by rw [HYL.out];omega) HDY.out hs31).mono ?_
 rintro e w1 ⟨b1,zs1,rfl,hz1l,hd1,hv1,hB1,hb1,hbl1⟩
 rw [HYL.out] at hz1l ⊢
 have hN:=HN.out
 rw [← HS.out,← hv1] at hN
 obtain ⟨hN1,hN2⟩:=hN
 obtain ⟨vs,hvs⟩:∃ vs,vs=trimL zs1:=⟨_,rfl⟩
 have HVL:Hid (vs.length=n+2):=by
  have h1:=digs_val (by decide) hd1
  rw [← hvs] at h1
  have h2:=digs_length_le (B:=4294967296) (by decide) hN2
  have h3:¬ (digs 4294967296 (val 4294967296 zs1)).length≤n+1:=fun h=>by
   have h4:=lt_pow_digs (B:=4294967296) (by decide) (val 4294967296 zs1)
   have h5:4294967296 ^ (digs 4294967296 (val 4294967296 zs1)).length≤4294967296 ^ (n+1):=Nat.pow_le_pow_right (by decide) h
   have h6:4294967296 ^ (n+1) * 1≤4294967296 ^ (n+1) * 2147483648:=Nat.mul_le_mul_left _ (by decide)
   omega
  rw [h1] at h2 h3
  exact Lib.hid (by omega)
 have HVV:Hid (val 4294967296 vs=val 4294967296 ys * 2 ^ s):=Lib.hid (by rw [hvs,val_trimL,hv1])
 have HVD:Hid (Dig 4294967296 vs):=Lib.hid (by rw [hvs];exact hd1.trimL)
 have HVR:Hid (RdAt w1 .u32 (some ⟨b1,0,none⟩) vs):=Lib.hid (by rw [hvs];exact hB1.rd.trimL)
 have HVT:2147483648≤gd vs (n+1):=by
  have:=top_shift (M:=4294967296) (n:=n+1) (y:=val 4294967296 ys) (p:=2 ^ s) (by decide) HVD.out HVL.out HVV.out (by rw [← hv1];exact hN1)
  omega
 have HN1:=Lib.hid hN1
 have HN2:=Lib.hid hN2
 have HV1:=Lib.hid hv1
 have hb1lt:=hB1.lt
 have HTR:=Lib.hid (trim_any (some ⟨b1,0,none⟩) (n+2+1) (n+2+1) zs1 w1 (Lib.hid hz1l) (Lib.hid hB1.rd) (by omega) (by omega))
 rw [← hvs,HVL.out] at HTR
 clear hz1l hd1 hv1 hB1 hN1 hN2 hvs
 go_wp2_with fail
 refine HTR.out.mono ?_
 rintro e w' ⟨rfl,rfl⟩
 go_wp2_with fail
 have hbl1':=(below_drewN (Below.refl w.heap.size w) nd).trans hbl1
 rw [← HXL.out]
 refine (shift_lists A c s xs _ (HX.out.below hbl1') (by rw [HXL.out];omega) HDX.out hs31).mono ?_
 rintro e w2 ⟨b2,us,rfl,hul,hud,huv,hB2,hb2,hbl2⟩
 rw [HXL.out] at hul ⊢
 obtain ⟨w3,hmk,hbk,HW,hsz⟩:=make_nat w2 ((n:Int)+2+e'+1 - (n+2)) (by omega) (by omega)
 rw [show ((n:Int)+2+e'+1 - (n+2)).toNat=e'+1 from by omega] at hmk hbk
 have hb2lt:=hB2.lt
 have hs2:=hbl2.size
 have hs1:=hbl1.size
 simp only [World.heap_drewN] at hs1
 have HU3:Hid (Blk w3 .u32 41 b2 us):=Lib.hid (hB2.below HW hb2lt)
 have HV3:Hid (RdAt w3 .u32 (some ⟨b1,0,none⟩) vs):=Lib.hid ((HVR.out.below hbl2).below HW)
 have hbl3:=(hbl1'.trans (hbl2.mono (by omega))).trans (HW.mono (by omega))
 have HQ3:=Lib.hid hbk
 have HSZ:=Lib.hid hsz
 have HUL:=Lib.hid hul
 have HUD:=Lib.hid hud
 have HUV:=Lib.hid huv
 have hb3:b2<w2.heap.size:=hb2lt
 clear hB2 hbk hsz hul hud huv hbl1 hbl2 hbl1' HW HTR HVR hct
 go_wp2_with fail
 have hwb2:w.heap.size≤b2:=by omega
 generalize hB3:w2.heap.size=b3 at *
 have hwb3:w.heap.size≤b3:=by omega
 have HSTART:Hid (val 4294967296 us<val 4294967296 vs * 4294967296 ^ (e'+1)):=by
  have h1:=val_lt HDX.out
  rw [HXL.out] at h1
  have h2:val 4294967296 xs * 2 ^ s<4294967296 ^ (n+2+e') * 2 ^ s:=Nat.mul_lt_mul_of_pos_right h1 (Nat.pow_pos (by decide))
  have h3:4294967296 ^ (n+2+e') * 2 ^ s≤4294967296 ^ (n+2+e') * 2147483648:=Nat.mul_le_mul_left _ (pow_le_31 hs31)
  have h4:4294967296 ^ (n+1) * 2147483648 * 4294967296 ^ (e'+1)≤val 4294967296 vs * 4294967296 ^ (e'+1):=Nat.mul_le_mul_right _ (by rw [HVV.out,← HV1.out];exact HN1.out)
  have h5:4294967296 ^ (n+1) * 2147483648 * 4294967296 ^ (e'+1)=4294967296 ^ (n+2+e') * 2147483648:=by
   rw [Nat.mul_right_comm,← Nat.pow_add,show n+1+(e'+1)=n+2+e' from by omega]
  rw [HUV.out]
  exact Lib.hid (by omega)
 go_loopw [13] (fun v13 wr=>∃ (k:Nat) (zs qs:List Nat),k≤e'+1∧v13 = .int .i64 ((k:Int) - 1)∧Hid (Blk wr .u32 41 b2 zs)∧Hid (Blk wr .u32 41 b3 qs)∧Hid (RdAt wr .u32 (some ⟨b1,0,none⟩) vs)∧Hid (zs.length=n+2+e'+1)∧Hid (qs.length=e'+1)∧Hid (Dig 4294967296 zs)∧Hid (Dig 4294967296 qs) ∧
   Hid (val 4294967296 xs * 2 ^ s=val 4294967296 vs * 4294967296 ^ k * val 4294967296 (qs.drop k)+val 4294967296 zs)∧Hid (val 4294967296 zs<val 4294967296 vs * 4294967296 ^ k)∧Below w.heap.size w wr) (fun v13 _=>(intOf v13+1).toNat)
 case atStart =>
  refine ⟨e'+1,us,_,Nat.le_refl _,congrArg (Value.int .i64) (by omega),HU3,HQ3,HV3,HUL,Lib.hid (by simp),HUD,Lib.hid (Dig.replicate (by decide) _),Lib.hid ?_,HSTART,hbl3⟩
  rw [List.drop_of_length_le (by simp),HUV.out];simp [val]
 case round =>
  obtain ⟨k,zs,qs,hk,rfl,hZ,hQ,hV,hzl,hql,hzd,hqd,hI,hlt,hbl⟩:=hrel
  clear HU3 HQ3 HV3 HUD HSTART hbl3 hmk hb2lt hs1 hs2 HUL HSZ
  rcases Nat.eq_zero_or_pos k with rfl | hkp
  ·rw [show (((0:Nat):Int) - 1) = -1 from rfl]
   have hI0:=hI.out
   have hlt0:=hlt.out
   rw [Nat.pow_zero,Nat.mul_one,List.drop_zero] at hI0
   rw [Nat.pow_zero,Nat.mul_one] at hlt0
   have hend:=long_end (Nat.pow_pos (by decide)) rfl HVV.out hI0 hlt0
   have HE1:=Lib.hid hend.1
   have HE2:=Lib.hid hend.2
   have HZN:Hid (val 4294967296 zs<4294967296 ^ (n+2)):=Lib.hid (Nat.lt_trans hlt0 (by rw [HVV.out,← HV1.out];exact HN2.out))
   clear hI0 hlt0 hend hI hlt hV
   obtain ⟨wo,hwo⟩:∃ wo:World,wo=wr:=⟨_,rfl⟩
   subst hwo
   go_wp2_with fail
   go_loopw [83] (fun v83 wr=>∃ (i:Nat) (ws:List Nat),i≤n+2∧v83 = .int .i64 i∧Hid (Blk wr .u32 41 b2 ws)∧Hid (Blk wr .u32 41 b3 qs)∧Hid (ws.length=n+2+e'+1)∧Hid (Dig 4294967296 ws)∧Hid (∀ k,i≤k→gd ws k=gd zs k) ∧
     Hid (val 4294967296 (ws.take i)=val 4294967296 zs / 2 ^ s % 4294967296 ^ i)∧Below w.heap.size w wr) (fun v83 _=>n+2 - (intOf v83).toNat)
   case atStart=>exact ⟨0,zs,by omega,rfl,hZ,hQ,hzl,hzd,Lib.hid (fun _ _=>rfl),Lib.hid (by simp [val,Nat.mod_one]),hbl⟩
   case round =>
    clear hZ hQ hbl
    obtain ⟨i,ws,hi,rfl,hW,hQ,hwl,hwd,hsame,hval,hbl⟩:=hrel
    by_cases hil:i<n+2
    ·have hc0:=hW.out.cell (i:=i) (by rw [hwl.out];omega)
     have hf0:=hW.out.free i
     have hc1:=hW.out.cell (i:=i+1) (by rw [hwl.out];omega)
     rw [hsame.out i (Nat.le_refl _)] at hc0
     rw [hsame.out (i+1) (by omega)] at hc1
     have g0:=hzd.out.gd (by decide) i
     have g1:=hzd.out.gd (by decide) (i+1)
     have ho:=or_hi (gd zs (i+1)) (gd zs i) (by omega) (by omega) (by omega) (by omega)
     go_wp2_with fail
     have j1:(i:Int)+1<(n:Int)+2+e'+1:=by omega
     have j2:(i:Int)<(n:Int)+2+e'+1:=by omega
     have j3:(0:Int)≤(i:Int)+1:=by omega
     have j4:((i:Int)+1).toNat=i+1:=by omega
     have j5:(i:Int)<(n:Int)+2:=by omega
     have q1:IntKind.i64.wrap ((i:Int)+1)=(i:Int)+1:=wr64 (by omega) (by omega)
     have q2:IntKind.u64.wrap (((gd zs (i+1):Nat):Int) * 4294967296)=((gd zs (i+1):Nat):Int) * 4294967296:=wru64 (by omega) (by omega)
     refine region_tail 19 (by kernel_rfl) (by kernel_rfl) ?_
     simp only [List.take_succ_cons,List.take_zero,List.drop_succ_cons,List.drop_zero]
     repeat still_step
     refine wpStill_nil ?_
     clear q1 q2 j4
     go_wp2
     go_roundw
     case rel =>
      rw [cast_unshift]
      have hM:(4294967296:Nat)=2 ^ s * 2 ^ (32 - s):=by rw [← Nat.pow_add,show s+(32 - s)=32 from by omega]
      have hun:=unshift_digit (M:=4294967296) (by decide) (Nat.pow_pos (by decide)) hM zs hzd.out i
      refine ⟨i+1,ws.set i ((gd zs (i+1) * 4294967296+gd zs i) / 2 ^ s % 4294967296),by omega,by go_num,Lib.hid ((hW.out.drewN 1).set i _),Lib.hid ((hQ.out.drewN 1).far (by simp;omega) _),Lib.hid (by rw [List.length_set];exact hwl.out),Lib.hid (hwd.out.set _ _ (Nat.mod_lt _ (by decide))),Lib.hid ?_,Lib.hid ?_,(below_drewN hbl 1).setCell (by simp;omega) _⟩
      ·intro k hk
       rw [gd_set_ne _ _ (by omega)];exact hsame.out k (by omega)
      ·rw [val_set_take _ _ (by rw [hwl.out];omega),hval.out,hun,← take_mod]
     case measure=>simp [intOf];omega
    ·obtain rfl:i=n+2:=by omega
     have HT1:=Lib.hid (trim_any (some ⟨b3,0,none⟩) (e'+1) (e'+1) qs wr hql (Lib.hid hQ.out.rd) (by omega) (Nat.le_refl _))
     have HT2:=Lib.hid (trim_any (some ⟨b2,0,none⟩) (n+2) (n+2+e'+1) (ws.take (n+2)) wr (by rw [Hid,List.length_take,hwl.out];omega) (Lib.hid (hW.out.rd.take _)) (by omega) (by omega))
     go_wp2_with fail
     refine HT1.out.mono ?_
     rintro e w' ⟨rfl,rfl⟩
     go_wp2_with fail
     refine HT2.out.mono ?_
     rintro e w' ⟨rfl,rfl⟩
     go_wp2_with fail
     go_ret2
     have hq:trimL qs=digs 4294967296 (val 4294967296 xs / val 4294967296 ys):=by rw [← digs_val (by decide) hqd.out,HE1.out]
     have hr:trimL (ws.take (n+2))=digs 4294967296 (val 4294967296 xs % val 4294967296 ys):=by
      rw [← digs_val (by decide) (hwd.out.take _),hval.out,HE2.out,Nat.mul_div_cancel _ (Nat.pow_pos (by decide))]
      congr 1
      apply Nat.mod_eq_of_lt
      have h1:val 4294967296 xs % val 4294967296 ys≤val 4294967296 zs:=by
       rw [HE2.out];exact Nat.le_mul_of_pos_right _ (Nat.pow_pos (by decide))
      exact Nat.lt_of_le_of_lt h1 HZN.out
     refine ⟨some ⟨b3,0,none⟩,e'+1,some ⟨b2,0,none⟩,n+2+e'+1,ret_slices (by rw [hq]) (by rw [hr]),?_,?_,?_,?_,hbl⟩
     ·rw [← hq,← hql.out];exact trimL_length_le qs
     ·rw [← hr];have h1:=trimL_length_le (ws.take (n+2));rw [List.length_take] at h1;omega
     ·rw [← hq];exact hQ.out.rd.trimL
     ·rw [← hr];exact (hW.out.rd.take _).trimL
  ·obtain ⟨m,rfl⟩:∃ m,k=m+1:=⟨k - 1,by omega⟩
   rw [show (((m+1:Nat):Int) - 1)=(m:Int) from by omega]
   have hpl:(zs.take m).length=m:=by rw [List.length_take,hzl.out];omega
   have husl:((zs.drop m).take (n+3)).length=n+3:=by rw [List.length_take,List.length_drop,hzl.out];omega
   have hsplit:zs=zs.take m++((zs.drop m).take (n+3)++(zs.drop m).drop (n+3)):=by rw [List.take_append_drop,List.take_append_drop]
   obtain ⟨pre,hpre⟩:∃ pre,pre=zs.take m:=⟨_,rfl⟩
   obtain ⟨us',hus'⟩:∃ us',us'=(zs.drop m).take (n+3):=⟨_,rfl⟩
   obtain ⟨post,hpost⟩:∃ post,post=(zs.drop m).drop (n+3):=⟨_,rfl⟩
   rw [← hpre,← hus',← hpost] at hsplit
   rw [← hpre] at hpl
   rw [← hus'] at husl
   have hVn:val 4294967296 vs<4294967296 ^ (n+2):=by rw [HVV.out,← HV1.out];exact HN2.out
   have hV0:0<val 4294967296 vs:=by
    rw [HVV.out,← HV1.out]
    have h1:0<4294967296 ^ (n+1) * 2147483648:=Nat.mul_pos (Nat.pow_pos (by decide)) (by decide)
    exact Nat.lt_of_lt_of_le h1 HN1.out
   have hzd':Dig 4294967296 us':=by rw [hus'];exact (hzd.out.drop _).take _
   have hstep:=fun (us2:List Nat) (h1:us2.length=n+3) (h2:val 4294967296 us2=val 4294967296 us' % val 4294967296 vs)=>long_step (n:=n+2) (by decide) hsplit hpl husl h1 hzd.out hVn hV0 (by rw [hql.out];omega) hI.out hlt.out h2
   have hlt2:=long_seg (n:=n+2) (by decide) hsplit hpl husl hlt.out
   have hcall:=digit_walk (some ⟨b1,0,none⟩) b2 (n+2+e'+1 - m) (n+2+1) n pre us' post vs wr (by rw [← hsplit];exact hZ) hV (fun bb oo h=>by have:=congrArg Addr.block (Option.some.inj h);simp at this;omega)
    husl HVL.out (by omega) (by rw [hpl];omega) hzd' HVD (by omega) (by omega) HVT hlt2
   rw [hpl] at hcall
   have HCALL:=Lib.hid hcall
   have HSPLIT:=Lib.hid hsplit
   have HUSL:=Lib.hid husl
   have HV0:=Lib.hid hV0
   have HLT2:=Lib.hid hlt2
   have HSTEP:=Lib.hid hstep
   clear hcall hstep hpl husl hsplit hpre hus' hpost hVn hV0 hzd' hlt2
   go_wp2_with fail
   rw [show m+(n+2)+1 - m=n+3 from by omega]
   refine HCALL.out.mono ?_
   rintro e w' ⟨rfl,us2,h1,h2,h3,h4,h5⟩
   obtain ⟨_,hs1,hs2⟩:=HSTEP.out us2 h1 h3
   have hqv:val 4294967296 us' / val 4294967296 vs<4294967296:=by
    rw [Nat.div_lt_iff_lt_mul HV0.out];exact HLT2.out
   have hQ':Hid (Blk w' .u32 41 b3 qs):=by
    have:=hQ.out
    unfold Blk at this ⊢
    rw [h5.block b3 (by omega)];exact Lib.hid this
   have hV':Hid (RdAt w' .u32 (some ⟨b1,0,none⟩) vs):=Lib.hid (fun i hi=>by
    obtain ⟨bb,oo,e,hc⟩:=hV.out i hi
    have e1:=congrArg Addr.block (Option.some.inj e)
    simp at e1
    exact ⟨bb,oo,e,h5.cell hc (by simp;omega)⟩)
   have hbl':=hbl.trans (h5.below (B:=w.heap.size) (by omega))
   have hcq:=hQ'.out.cell (i:=m) (by rw [hql.out];omega)
   have hfq:=hQ'.out.free m
   have hZ':=Lib.hid h4
   have hZl:Hid ((pre++(us2++post)).length=n+2+e'+1):=by
    rw [List.length_append,List.length_append,h1,← HUSL.out,← List.length_append,← List.length_append,← HSPLIT.out];exact hzl
   have hZd:Hid (Dig 4294967296 (pre++(us2++post))):=by
    refine Lib.hid (Dig.append ?_ (Dig.append h2 ?_))
    ·intro x hx;exact hzd.out x (by rw [HSPLIT.out];exact List.mem_append_left _ hx)
    ·intro x hx;exact hzd.out x (by rw [HSPLIT.out];exact List.mem_append_right _ (List.mem_append_right _ hx))
   have HS1:=Lib.hid hs1
   have HS2:=Lib.hid hs2
   have HQV:=Lib.hid hqv
   clear h1 h2 h3 h4 h5 hs1 hs2 hqv hZ hQ hV hzl hzd hI hlt HCALL HSTEP HSPLIT HUSL
   go_wp2
   go_roundw
   case rel =>
    refine ⟨m,pre++(us2++post),qs.set m (val 4294967296 us' / val 4294967296 vs),by omega,rfl,Lib.hid (hZ'.out.far (by simp;omega) _),Lib.hid (hQ'.out.set m (val 4294967296 us' / val 4294967296 vs)),Lib.hid ?_,hZl,Lib.hid (by rw [List.length_set];exact hql.out),hZd,Lib.hid (hqd.out.set _ _ HQV.out),HS1,HS2,hbl'.setCell (by simp;omega) _⟩
    intro i hi
    obtain ⟨bb,oo,e,hc⟩:=hV'.out i hi
    have e1:=congrArg Addr.block (Option.some.inj e)
    simp at e1
    exact ⟨bb,oo,e,by rw [World.cell?_of_block (w:=w') (Below.heap_setCell _ _ _ _ (by simp;omega))];exact hc⟩
   case measure=>simp [intOf]
theorem divide_any (A B:Option Addr) (c d x y:Nat) (w:World) (hx:RdAt w .u32 A (digs 4294967296 x)) (hy:RdAt w .u32 B (digs 4294967296 y)) (hl:(digs 4294967296 x).length≤900000000) (hm:(digs 4294967296 y).length≤900000000) (hc:(digs 4294967296 x).length≤c) (hd:(digs 4294967296 y).length≤d) (hy0:y≠0) :
  Calls Tryz.prog 157 #[.slice A (digs 4294967296 x).length c,.slice B (digs 4294967296 y).length d] w (RetDiv (x / y) (x % y) w):=by
 by_cases hlt:x<y
 ·exact divide_less A B c d x y w hx hy (by omega) (by omega) hc hlt
 ·have hge:y≤x:=by omega
  by_cases h1:(digs 4294967296 y).length=1
  ·exact divide_one A B c d x y w hx hy (by omega) h1 hge
  ·have h0:(digs 4294967296 y).length≠0:=fun h=>hy0 ((digs_nil_iff (B:=4294967296) (by decide) y).1 (List.eq_nil_of_length_eq_zero h))
   have hmono:=digs_len_mono (B:=4294967296) (by decide) hge
   obtain ⟨n,hn⟩:∃ n,(digs 4294967296 y).length=n+2:=⟨(digs 4294967296 y).length - 2,by omega⟩
   obtain ⟨e',he'⟩:∃ e',(digs 4294967296 x).length=n+2+e':=⟨(digs 4294967296 x).length - (n+2),by omega⟩
   have vx:=val_digs (B:=4294967296) (by decide) x
   have vy:=val_digs (B:=4294967296) (by decide) y
   have hlast:=digs_last (B:=4294967296) (by decide) y hy0
   rw [hn,show n+2 - 1=n+1 from by omega] at hlast
   have:=divide_long A B c d n e' (digs 4294967296 x) (digs 4294967296 y) w hx hy he' hn (by omega) (digs_Dig (by decide) x) (digs_Dig (by decide) y) (by omega) (by omega) hlast
    (fun w hx hy=>by
     have:=compare_any A B c d x y w hx hy (by omega) (by omega)
     rw [he',hn] at this
     rw [vx,vy];exact this) (by rw [vx,vy];exact hge)
   rw [vx,vy] at this
   rw [he',hn];exact this

abbrev vI (z:Int):Value:=.agg #[.bool (sg z),.string (mg z)]
def RetB (b:Bool) (w:World) (e:Ending) (w':World):Prop:=e = .returned (.bool b)∧Below w.heap.size w w'
def RetI (z:Int) (w:World) (e:Ending) (w':World):Prop:=e = .returned (vI z)∧Below w.heap.size w w'
theorem ret_bool {a b:Bool} (h:a=b):Ending.returned (.bool a) = .returned (.bool b):=by rw [h]
theorem ret_vI {b c:Bool} {s t:ByteArray} (h:b=c) (h':s=t):Ending.returned (.agg #[.bool b,.string s]) = .returned (.agg #[.bool c,.string t]):=by rw [h,h']
theorem bcell {W w1:World} (hb:Below W.heap.size W w1):(∀ b o,b<W.heap.size→w1.cell? ⟨b,o,none⟩=W.cell? ⟨b,o,none⟩)∧(∀ b o,b<W.heap.size→w1.frozen? ⟨b,o,none⟩=W.frozen? ⟨b,o,none⟩) :=
 ⟨fun b o h=>hb.cell (p:=⟨b,o,none⟩) h,fun b o h=>hb.frozen (p:=⟨b,o,none⟩) h⟩
theorem byte_ne (c:UInt8):((c.toNat:Int) != 0)=(c != 0):=by
 rw [Bool.eq_iff_iff,bne_iff_ne,bne_iff_ne]
 constructor
 ·intro h e;subst e;exact h rfl
 ·intro h e;exact h (UInt8.toNat_inj.1 (by rw [show (0:UInt8).toNat=0 from rfl];omega))
theorem Valid_any (n:Bool) (s:ByteArray) (w:World) :
  Calls Tryz.prog 87 #[.agg #[.bool n,.string s]] w (RetB (vld n s) w):=by
 by_cases h0:s.size=0
 ·obtain ⟨e1,e2⟩:=str_empty h0
  have hv:Hid (vld n s = !n):=by unfold vld;rw [dif_neg (by omega)];exact rfl
  go_enter Tryz.func87,Tryz.ntmps87
  go_wp2
  go_ret
  exact ⟨ret_bool hv.out.symm,(Below.refl _ _).alloc (Nat.le_refl _) _⟩
 ·obtain ⟨e1,e2⟩:=str_full (s:=s) (by omega)
  have hpos:0<s.size:=by omega
  have hv:Hid (vld n s=(s[0] != 0)):=by unfold vld;rw [dif_pos hpos];exact rfl
  go_enter Tryz.func87,Tryz.ntmps87
  go_wp2
  go_ret
  refine ⟨ret_bool ?_,(Below.refl _ _).alloc (Nat.le_refl _) _⟩
  rw [hv.out]
  exact byte_ne _
def sgnd (b:Bool) (n:Nat):Int:=if b then -(n:Int) else n
theorem sgnd_natAbs (b:Bool) (n:Nat):(sgnd b n).natAbs=n:=by cases b <;> simp [sgnd]
theorem sg_sgnd_pos (b:Bool) {n:Nat} (h:n≠0):sg (sgnd b n)=b:=by cases b <;> simp [sgnd,sg] <;> omega
theorem sg_sgnd_zero (b:Bool):sg (sgnd b 0)=false:=by cases b <;> rfl
theorem mg_sgnd (b:Bool) (n:Nat):mg (sgnd b n)=magB n:=by unfold mg;rw [sgnd_natAbs]
def Two (w:World) (b:Nat) (t:TypeId) (x y:Value):Prop:=w.heap[b]?=some (.cells #[x,y] t (0,0))
theorem Two.new (w:World) (t:TypeId) (x y:Value):Two (w.alloc (.cells #[x,y] t)) w.heap.size t x y:=heap_alloc_new w _
theorem Two.below {B:Nat} {w w':World} {b:Nat} {t:TypeId} {x y:Value} (h:Two w b t x y) (hb:Below B w w') (hB:b<B):Two w' b t x y:=by unfold Two at *;rw [hb.block b hB];exact h
theorem Two.cells {w:World} {b:Nat} {t:TypeId} {x y:Value} (h:Two w b t x y):w.cell? ⟨b,0,none⟩=some x∧w.cell? ⟨b,1,none⟩=some y:=by
 unfold Two at h
 exact ⟨by simp [World.cell?,h],by simp [World.cell?,h]⟩
theorem Two.free {w:World} {b:Nat} {t:TypeId} {x y:Value} (h:Two w b t x y):w.frozen? ⟨b,0,none⟩=false∧w.frozen? ⟨b,1,none⟩=false:=by
 unfold Two at h
 exact ⟨by simp [World.frozen?,h],by simp [World.frozen?,h]⟩
theorem Two.lt {w:World} {b:Nat} {t:TypeId} {x y:Value} (h:Two w b t x y):b<w.heap.size:=lt_of_block h
theorem cells_set {w:World} {b:Nat} {c:Array Value} {t:TypeId} {fr:Nat × Nat} (h:w.heap[b]?=some (.cells c t fr)) (i:Nat) (u:Value):(w.setCell ⟨b,i,none⟩ u).heap[b]?=some (.cells (c.setIfInBounds i u) t fr):=by
 have hlt:=lt_of_block h
 have h':w.heap[b] = .cells c t fr:=by simpa [Array.getElem?_eq_getElem hlt] using h
 show (w.heap.modify b _)[b]?=_
 rw [Array.getElem?_eq_getElem (by simpa using hlt),Array.getElem_modify_self,h']
 simp
theorem Two.set {w:World} {b:Nat} {t:TypeId} {x y:Value} (h:Two w b t x y) (u v:Value):Two ((w.setCell ⟨b,0,none⟩ u).setCell ⟨b,1,none⟩ v) b t u v:=cells_set (cells_set h 0 u) 1 v
theorem Two.read {w:World} {b:Nat} {t:TypeId} {x y:Value} (h:Two w b t x y) (u v:Value):(w.setCell ⟨b,0,none⟩ u).cell? ⟨b,0,none⟩=some u∧((w.setCell ⟨b,0,none⟩ u).setCell ⟨b,1,none⟩ v).cell? ⟨b,1,none⟩=some v:=by
 have h0:=cells_set h 0 u
 exact ⟨by simp [World.cell?,h0],(h.set u v).cells.2⟩
theorem Two.far {w:World} {b:Nat} {t:TypeId} {x y:Value} (h:Two w b t x y) {p:Addr} (hp:b≠p.block) (v:Value):Two (w.setCell p v) b t x y:=by
 unfold Two at *;rw [Below.heap_setCell _ _ _ _ hp];exact h
theorem Two.alloc {w:World} {b:Nat} {t:TypeId} {x y:Value} (h:Two w b t x y) (o:Obj):Two (w.alloc o) b t x y:=by
 have:=h.lt
 unfold Two at *;rw [Below.heap_alloc _ _ _ this];exact h
theorem Two.drewN {w:World} {b:Nat} {t:TypeId} {x y:Value} (h:Two w b t x y) (n:Nat):Two (w.drewN n) b t x y:=h
theorem below_alloc1 {w w':World} {o:Obj} (h:Below (w.alloc o).heap.size (w.alloc o) w'):Below w.heap.size w w' :=
 ((Below.refl _ _).alloc (Nat.le_refl _) o).trans (h.mono (by simp))
theorem with_any (A:Option Addr) (c n:Nat) (b:Bool) (w:World) (hx:RdAt w .u32 A (digs 4294967296 n)) (hl:(digs 4294967296 n).length≤1000000000) :
  Calls Tryz.prog 149 #[.slice A (digs 4294967296 n).length c,.bool b] w (RetI (sgnd b n) w):=by
 have hx1:=hx.below ((Below.refl _ _).alloc (Nat.le_refl _) (.cells #[.bool false,.string ⟨#[]⟩] 25))
 have HX:=Lib.hid hx1
 clear hx hx1
 by_cases hn:n=0
 ·have hz:(magB n).size=0:=by rw [size_magB,hn,digs_zero];rfl
  obtain ⟨e1,e2⟩:=str_empty hz
  have HN:=Lib.hid hn
  clear hn hz
  go_enter Tryz.func149,Tryz.ntmps149
  go_wp2_with fail
  refine (mag_any A c n _ HX.out hl).mono ?_
  rintro e w' ⟨rfl,hb⟩
  obtain ⟨hc,hf⟩:=bcell hb
  have hz:w.heap.size+1≤w'.heap.size:=by have:=hb.size;simp at this;omega
  have HT:=Lib.hid ((Two.new w 25 (.bool false) (.string ⟨#[]⟩)).below hb (by simp))
  have HB:=Lib.hid (below_alloc1 hb)
  clear hb
  go_wp2_with fail
  all_goals
   obtain ⟨r0,r1⟩:=HT.out.read (.bool false) (.string (magB n))
   exact bodyPost_ret (v:=.agg #[.bool false,.string (magB n)]) (by simp [results,Tryz.results149,go_sem,r0,r1]) rfl ⟨ret_vI (by rw [HN.out,sg_sgnd_zero]) (mg_sgnd _ _).symm,(HB.out.setCell (Nat.le_refl _) _).setCell (Nat.le_refl _) _⟩
 ·have hz:0<(magB n).size:=by
   rw [size_magB]
   have:digs 256 n ≠ []:=fun e=>hn ((digs_nil_iff (B:=256) (by decide) n).1 e)
   exact List.length_pos_iff.2 this
  obtain ⟨e1,e2⟩:=str_full hz
  have HN:=Lib.hid hn
  clear hn hz
  go_enter Tryz.func149,Tryz.ntmps149
  go_wp2_with fail
  refine (mag_any A c n _ HX.out hl).mono ?_
  rintro e w' ⟨rfl,hb⟩
  obtain ⟨hc,hf⟩:=bcell hb
  have hz:w.heap.size+1≤w'.heap.size:=by have:=hb.size;simp at this;omega
  have HT:=Lib.hid ((Two.new w 25 (.bool false) (.string ⟨#[]⟩)).below hb (by simp))
  have HB:=Lib.hid (below_alloc1 hb)
  clear hb
  cases b
  ·go_wp2_with fail
   obtain ⟨r0,r1⟩:=HT.out.read (.bool false) (.string (magB n))
   exact bodyPost_ret (v:=.agg #[.bool false,.string (magB n)]) (by simp [results,Tryz.results149,go_sem,r0,r1]) rfl ⟨ret_vI (by rw [sg_sgnd_pos _ HN.out]) (mg_sgnd _ _).symm,(HB.out.setCell (Nat.le_refl _) _).setCell (Nat.le_refl _) _⟩
  ·go_wp2_with fail
   obtain ⟨r0,r1⟩:=HT.out.read (.bool true) (.string (magB n))
   exact bodyPost_ret (v:=.agg #[.bool true,.string (magB n)]) (by simp [results,Tryz.results149,go_sem,r0,r1]) rfl ⟨ret_vI (by rw [sg_sgnd_pos _ HN.out]) (mg_sgnd _ _).symm,(HB.out.setCell (Nat.le_refl _) _).setCell (Nat.le_refl _) _⟩

theorem rd_two (w:World) (k:IntKind) (t:TypeId) (x y:Nat):RdAt (w.alloc (.cells #[.int k (x:Int),.int k (y:Int)] t)) k (some ⟨w.heap.size,0,none⟩) [x,y]:=fun i hi=>by
 have:i=0∨i=1:=by simp at hi;omega
 rcases this with rfl | rfl
 ·exact ⟨w.heap.size,0,rfl,by simp [World.cell?_alloc_at,gd]⟩
 ·exact ⟨w.heap.size,0,rfl,by simp [World.cell?_alloc_at,gd]⟩
theorem word_any (n:Int) (w:World) (h0:0≤n) (h1:n<18446744073709551616) :
  Calls Tryz.prog 148 #[.int .u64 n] w (RetD .u32 4294967296 n.toNat w):=by
 obtain ⟨N,rfl⟩:=Int.eq_ofNat_of_zero_le h0
 have hr:=rd_two w .u32 41 (N % 4294967296) (N / 4294967296)
 have e1:((N:Int) % 4294967296)=((N % 4294967296:Nat):Int):=by omega
 have e2:((N:Int) / 4294967296)=((N / 4294967296:Nat):Int):=by omega
 rw [← e1,← e2] at hr
 have HR:=Lib.hid hr
 clear e1 e2 hr
 rw [Int.toNat_natCast]
 have hdv:(N:Int) / 4294967296<4294967296:=by omega
 have hdv0:0≤(N:Int) / 4294967296:=by omega
 go_enter Tryz.func148,Tryz.ntmps148
 go_wp2_with fail
 refine (trim_any _ 2 2 [N % 4294967296,N / 4294967296] _ rfl HR (by omega) (Nat.le_refl _)).mono ?_
 rintro e w' ⟨rfl,rfl⟩
 go_wp2
 go_ret
 have hd:Dig 4294967296 [N % 4294967296,N / 4294967296]:=Dig.cons (Nat.mod_lt _ (by decide)) (Dig.cons (by omega) (Dig.nil _))
 have h:=digs_val (by decide) hd
 have hv:val 4294967296 [N % 4294967296,N / 4294967296]=N:=by simp only [val];omega
 rw [hv] at h
 refine ⟨some ⟨w.heap.size,0,none⟩,2,ret_slice (by rw [h]),?_,?_,(Below.refl _ _).alloc (Nat.le_refl _) _⟩
 ·rw [h];exact trimL_length_le _
 ·rw [h];exact HR.out.trimL
theorem u64_wrap (x:Int):IntKind.u64.wrap x=x % 18446744073709551616:=by simp [IntKind.wrap,IntKind.bits,IntKind.signed]
theorem Of_any (n:Int) (w:World) (h0:-9223372036854775808≤n) (h1:n≤9223372036854775807) :
  Calls Tryz.prog 90 #[.int .i64 n] w (RetI n w):=by
 by_cases hn:n<0
 ·have hW:=Lib.hid (word_any (-n) (w.alloc (.cells #[.bool false,.string ⟨#[]⟩] 25)) (by omega) (by omega))
  have q1:IntKind.u64.wrap n=n+18446744073709551616:=by rw [u64_wrap];omega
  have q2:IntKind.u64.wrap (-(n+18446744073709551616)) = -n:=by rw [u64_wrap];omega
  go_enter Tryz.func90,Tryz.ntmps90
  go_wp2_with fail
  clear q1 q2
  refine hW.out.mono ?_
  rintro e w1 ⟨A,c,rfl,hc,hrd,hb1⟩
  have hl:(digs 4294967296 (-n).toNat).length≤2:=digs_length_le (by decide) (by omega)
  have HT1:=Lib.hid ((Two.new w 25 (.bool false) (.string ⟨#[]⟩)).below hb1 (by simp))
  have hz1:w.heap.size+1≤w1.heap.size:=by have:=hb1.size;simp at this;omega
  have HB1:=Lib.hid (below_alloc1 hb1)
  have HR:=Lib.hid hrd
  clear hrd hb1 hc hW
  go_wp2_with fail
  refine (with_any A c _ true w1 HR.out (by omega)).mono ?_
  rintro e w2 ⟨rfl,hb2⟩
  have HT2:=Lib.hid (HT1.out.below hb2 (by omega))
  have HB2:=Lib.hid (HB1.out.trans (hb2.mono (by omega)))
  have hz2:w.heap.size+1≤w2.heap.size:=by have:=hb2.size;omega
  obtain ⟨hf0,hf1⟩:=HT2.out.free
  have hcc:=HT2.out.cells
  obtain ⟨hc0,hc1⟩:=hcc
  have hval:Hid (sgnd true (-n).toNat=n):=Lib.hid (by simp only [sgnd,if_true];omega)
  rw [hval.out]
  clear hb2
  go_wp2_with fail
  obtain ⟨r0,r1⟩:=HT2.out.read (.bool (sg n)) (.string (mg n))
  exact bodyPost_ret (v:=vI n) (by simp [results,Tryz.results90,go_sem,r0,r1]) rfl ⟨rfl,(HB2.out.setCell (Nat.le_refl _) _).setCell (Nat.le_refl _) _⟩
 ·have hW:=Lib.hid (word_any n (w.alloc (.cells #[.bool false,.string ⟨#[]⟩] 25)) (by omega) (by omega))
  have q1:IntKind.u64.wrap n=n:=by rw [u64_wrap];omega
  go_enter Tryz.func90,Tryz.ntmps90
  go_wp2_with fail
  clear q1
  refine hW.out.mono ?_
  rintro e w1 ⟨A,c,rfl,hc,hrd,hb1⟩
  have hl:(digs 4294967296 n.toNat).length≤2:=digs_length_le (by decide) (by omega)
  have HT1:=Lib.hid ((Two.new w 25 (.bool false) (.string ⟨#[]⟩)).below hb1 (by simp))
  have hz1:w.heap.size+1≤w1.heap.size:=by have:=hb1.size;simp at this;omega
  have HB1:=Lib.hid (below_alloc1 hb1)
  have HR:=Lib.hid hrd
  clear hrd hb1 hc hW
  go_wp2_with fail
  refine (with_any A c _ false w1 HR.out (by omega)).mono ?_
  rintro e w2 ⟨rfl,hb2⟩
  have HT2:=Lib.hid (HT1.out.below hb2 (by omega))
  have HB2:=Lib.hid (HB1.out.trans (hb2.mono (by omega)))
  have hz2:w.heap.size+1≤w2.heap.size:=by have:=hb2.size;omega
  obtain ⟨hf0,hf1⟩:=HT2.out.free
  have hcc:=HT2.out.cells
  obtain ⟨hc0,hc1⟩:=hcc
  have hval:Hid (sgnd false n.toNat=n):=Lib.hid (by simp only [sgnd];simp;omega)
  rw [hval.out]
  clear hb2
  go_wp2_with fail
  obtain ⟨r0,r1⟩:=HT2.out.read (.bool (sg n)) (.string (mg n))
  exact bodyPost_ret (v:=vI n) (by simp [results,Tryz.results90,go_sem,r0,r1]) rfl ⟨rfl,(HB2.out.setCell (Nat.le_refl _) _).setCell (Nat.le_refl _) _⟩

structure Box3 (w W:World) (t:TypeId) (x y:Int):Prop where
 x:Two W w.heap.size t (.bool (sg x)) (.string (mg x))
 y:Two W (w.heap.size+1) t (.bool (sg y)) (.string (mg y))
 z:Two W (w.heap.size+1+1) t (.bool false) (.string ⟨#[]⟩)
 b:Below w.heap.size w W
 s:w.heap.size+3≤W.heap.size
theorem Box3.new (w:World) (t:TypeId) (x y:Int):Box3 w (((w.alloc (.cells #[.bool (sg x),.string (mg x)] t)).alloc (.cells #[.bool (sg y),.string (mg y)] t)).alloc (.cells #[.bool false,.string ⟨#[]⟩] t)) t x y:=by
 have h1:=Two.new w t (.bool (sg x)) (.string (mg x))
 have h2:=Two.new (w.alloc (.cells #[.bool (sg x),.string (mg x)] t)) t (.bool (sg y)) (.string (mg y))
 have h3:=Two.new ((w.alloc (.cells #[.bool (sg x),.string (mg x)] t)).alloc (.cells #[.bool (sg y),.string (mg y)] t)) t (.bool false) (.string ⟨#[]⟩)
 refine ⟨(h1.alloc _).alloc _,?_,?_,(((Below.refl _ _).alloc (Nat.le_refl _) _).alloc (by simp) _).alloc (by simp;omega) _,by simp⟩
 ·have:=h2.alloc (.cells #[.bool false,.string ⟨#[]⟩] t);simpa using this
 ·simpa using h3
theorem Box3.below {w W W':World} {t:TypeId} {x y:Int} (h:Box3 w W t x y) (hb:Below W.heap.size W W'):Box3 w W' t x y :=
 ⟨h.x.below hb h.x.lt,h.y.below hb h.y.lt,h.z.below hb h.z.lt,h.b.trans (hb.mono (by have:=h.s;omega)),by have:=hb.size;have:=h.s;omega⟩
theorem Box3.drewN {w W:World} {t:TypeId} {x y:Int} (h:Box3 w W t x y) (n:Nat):Box3 w (W.drewN n) t x y:=⟨h.x,h.y,h.z,below_drewN h.b n,h.s⟩
theorem Box3.seen {w W:World} {t:TypeId} {x y:Int} (h:Box3 w W t x y):W.cell? ⟨w.heap.size,0,none⟩=some (.bool (sg x))∧W.cell? ⟨w.heap.size,1,none⟩=some (.string (mg x))∧W.cell? ⟨w.heap.size+1,0,none⟩=some (.bool (sg y))∧W.cell? ⟨w.heap.size+1,1,none⟩=some (.string (mg y)) :=
 ⟨h.x.cells.1,h.x.cells.2,h.y.cells.1,h.y.cells.2⟩
theorem Box3.seen_set {w W:World} {t:TypeId} {x y:Int} (h:Box3 w W t x y) (u v:Value):((W.setCell ⟨w.heap.size+1+1,0,none⟩ u).setCell ⟨w.heap.size+1+1,1,none⟩ v).cell? ⟨w.heap.size,0,none⟩=some (.bool (sg x))∧((W.setCell ⟨w.heap.size+1+1,0,none⟩ u).setCell ⟨w.heap.size+1+1,1,none⟩ v).cell? ⟨w.heap.size,1,none⟩=some (.string (mg x)) ∧
  ((W.setCell ⟨w.heap.size+1+1,0,none⟩ u).setCell ⟨w.heap.size+1+1,1,none⟩ v).cell? ⟨w.heap.size+1,0,none⟩=some (.bool (sg y))∧((W.setCell ⟨w.heap.size+1+1,0,none⟩ u).setCell ⟨w.heap.size+1+1,1,none⟩ v).cell? ⟨w.heap.size+1,1,none⟩=some (.string (mg y)):=by
 have hx:=(h.x.far (p:=⟨w.heap.size+1+1,0,none⟩) (by simp;omega) u).far (p:=⟨w.heap.size+1+1,1,none⟩) (by simp;omega) v
 have hy:=(h.y.far (p:=⟨w.heap.size+1+1,0,none⟩) (by simp) u).far (p:=⟨w.heap.size+1+1,1,none⟩) (by simp) v
 exact ⟨hx.cells.1,hx.cells.2,hy.cells.1,hy.cells.2⟩
theorem Box3.ret {w W:World} {t:TypeId} {x y:Int} (h:Box3 w W t x y) (u v:Value):(W.setCell ⟨w.heap.size+1+1,0,none⟩ u).cell? ⟨w.heap.size+1+1,0,none⟩=some u∧((W.setCell ⟨w.heap.size+1+1,0,none⟩ u).setCell ⟨w.heap.size+1+1,1,none⟩ v).cell? ⟨w.heap.size+1+1,1,none⟩=some v ∧
  Below w.heap.size w ((W.setCell ⟨w.heap.size+1+1,0,none⟩ u).setCell ⟨w.heap.size+1+1,1,none⟩ v) :=
 ⟨(h.z.read u v).1,(h.z.read u v).2,(h.b.setCell (by simp;omega) _).setCell (by simp;omega) _⟩
theorem Valid_yes (z:Int) (w:World):Calls Tryz.prog 87 #[vI z] w (RetB true w):=by
 have:=Valid_any (sg z) (mg z) w
 rwa [vld_sg] at this
theorem of_mg (z:Int) (w:World) (h:Bd 1900000000 z):Calls Tryz.prog 151 #[.string (mg z)] w (RetD .u32 4294967296 z.natAbs w):=by
 have:=of_any (mg z) w (by have:=h.size;omega)
 rwa [sv_mg] at this
theorem sgnd_mul (x y:Int):sgnd (!(sg x == sg y)) (x.natAbs * y.natAbs)=x * y:=by
 unfold sgnd sg
 rw [← Int.natAbs_mul]
 by_cases hx:x<0 <;> by_cases hy:y<0
 ·have:=Int.mul_nonneg_of_nonpos_of_nonpos (Int.le_of_lt hx) (Int.le_of_lt hy)
  simp [hx,hy];omega
 ·have:=Int.mul_nonpos_of_nonpos_of_nonneg (Int.le_of_lt hx) (show 0≤y by omega)
  simp [hx,hy];omega
 ·have:=Int.mul_nonpos_of_nonneg_of_nonpos (show 0≤x by omega) (Int.le_of_lt hy)
  simp [hx,hy];omega
 ·have:=Int.mul_nonneg (show 0≤x by omega) (show 0≤y by omega)
  simp [hx,hy];omega
theorem Mul_any (x y:Int) (w:World) (hx:Bd 400000000 x) (hy:Bd 400000000 y):Calls Tryz.prog 113 #[vI x,vI y] w (RetI (x * y) w):=by
 have h0:=Box3.new w 25 x y
 have lx:=hx.digs
 have ly:=hy.digs
 have lz:=(hx.mul hy).digs
 rw [Int.natAbs_mul] at lz
 have LZ:(digs 4294967296 (x.natAbs * y.natAbs)).length≤1000000000:=by omega
 have HX:=fun W=>Lib.hid (of_mg x W (hx.mono (by omega)))
 have HY:=fun W=>Lib.hid (of_mg y W (hy.mono (by omega)))
 clear hx hy lz
 go_enter Tryz.func113,Tryz.ntmps113
 go_wp2_with fail
 obtain ⟨W0,hW0⟩:∃ W0,W0=(((w.alloc (.cells #[.bool (sg x),.string (mg x)] 25)).alloc (.cells #[.bool (sg y),.string (mg y)] 25)).alloc (.cells #[.bool false,.string ⟨#[]⟩] 25)):=⟨_,rfl⟩
 rw [← hW0] at h0 ⊢
 clear hW0
 refine (Valid_yes x W0).mono ?_
 rintro e W1 ⟨rfl,hb⟩
 have h1:=h0.below hb
 obtain ⟨y0,y1⟩:=h1.y.cells
 clear hb h0
 go_wp2_with fail
 refine (Valid_yes y W1).mono ?_
 rintro e W2 ⟨rfl,hb⟩
 have h2:=h1.below hb
 clear hb h1 y0 y1
 obtain ⟨x0,x1⟩:=h2.x.cells
 obtain ⟨y0,y1⟩:=h2.y.cells
 go_wp2_with fail
 have hd:Box3 w W2.drew 25 x y:=h2.drewN 1
 go_region_held3 (fun W=>W.cell? ⟨w.heap.size,0,none⟩=some (.bool (sg x))∧W.cell? ⟨w.heap.size,1,none⟩=some (.string (mg x))∧W.cell? ⟨w.heap.size+1,0,none⟩=some (.bool (sg y))∧W.cell? ⟨w.heap.size+1,1,none⟩=some (.string (mg y)))
  (first | exact Box3.seen (by assumption) | exact Box3.seen_set (by assumption) _ _)
  (first
   | (go_at_call_of 151 (Value.string (mg x));refine (HX _).out.mono ?_;rintro e W' ⟨A,c,rfl,hc,hrx,hb⟩;have hS:=Box3.below (by assumption) hb)
   | (go_at_call_of 151 (Value.string (mg y));refine (HY _).out.mono ?_;rintro e W'' ⟨B,d,rfl,hd',hry,hb2⟩;have hS:=Box3.below (by assumption) hb2;have hrx2:=hrx.below hb2)
   | (go_at_call 163;refine (mul_any A B c d _ _ _ hrx2 hry (by omega) (by omega)).mono ?_;rintro e W3 ⟨C,k,rfl,hk,hrz,hb3⟩;have hS:=Box3.below (by assumption) hb3)
   | (go_at_call 149;refine (with_any C k _ _ _ hrz LZ).mono ?_;rintro e W4 ⟨rfl,hb4⟩;have hS:=Box3.below (by assumption) hb4;obtain ⟨f0,f1⟩:=hS.z.free;obtain ⟨z0,z1⟩:=hS.z.cells))
 go_wp2_with fail
 rw [sgnd_mul]
 obtain ⟨r0,r1,r2⟩:=hS.ret (.bool (sg (x * y))) (.string (mg (x * y)))
 exact bodyPost_ret (v:=vI (x * y)) (by simp [results,Tryz.results113,go_sem,r0,r1]) rfl ⟨rfl,r2⟩

theorem sgnd_same {x y:Int} (h:sg x=sg y):sgnd (sg x) (x.natAbs+y.natAbs)=x+y:=by
 unfold sgnd sg at *
 by_cases hx:x<0 <;> by_cases hy:y<0 <;> simp [hx,hy] at h ⊢ <;> omega
theorem sgnd_left {x y:Int} (h:sg x≠sg y) (hl:y.natAbs≤x.natAbs):sgnd (sg x) (x.natAbs - y.natAbs)=x+y:=by
 unfold sgnd sg at *
 by_cases hx:x<0 <;> by_cases hy:y<0 <;> simp [hx,hy] at h ⊢ <;> omega
theorem sgnd_right {x y:Int} (h:sg x≠sg y) (hl:x.natAbs<y.natAbs):sgnd (sg y) (y.natAbs - x.natAbs)=x+y:=by
 unfold sgnd sg at *
 by_cases hx:x<0 <;> by_cases hy:y<0 <;> simp [hx,hy] at h ⊢ <;> omega
theorem digs_len_add (x y:Int):(digs 4294967296 (x.natAbs+y.natAbs)).length≤(digs 4294967296 x.natAbs).length+(digs 4294967296 y.natAbs).length+1:=by
 apply digs_length_le (by decide)
 have h1:=lt_pow_digs (B:=4294967296) (by decide) x.natAbs
 have h2:=lt_pow_digs (B:=4294967296) (by decide) y.natAbs
 generalize (digs 4294967296 x.natAbs).length=a at *
 generalize (digs 4294967296 y.natAbs).length=b at *
 have h3:4294967296 ^ a≤4294967296 ^ (a+b):=Nat.pow_le_pow_right (by decide) (by omega)
 have h4:4294967296 ^ b≤4294967296 ^ (a+b):=Nat.pow_le_pow_right (by decide) (by omega)
 rw [Nat.pow_succ];omega
theorem Add_same (x y:Int) (w:World) (hx:Bd 400000000 x) (hy:Bd 400000000 y) (hs:sg x=sg y):Calls Tryz.prog 94 #[vI x,vI y] w (RetI (x+y) w):=by
 have h0:=Box3.new w 25 x y
 have lx:=hx.digs
 have ly:=hy.digs
 have HX:=fun W=>Lib.hid (of_mg x W (hx.mono (by omega)))
 have HY:=fun W=>Lib.hid (of_mg y W (hy.mono (by omega)))
 have hq:(sg x == sg y)=true:=by simpa using hs
 have HV:=Lib.hid (sgnd_same hs)
 have LZ:Hid ((digs 4294967296 (x.natAbs+y.natAbs)).length≤1000000000):=Lib.hid (by have:=(digs_len_add x y);omega)
 clear hx hy hs
 go_enter Tryz.func94,Tryz.ntmps94
 go_wp2_with fail
 obtain ⟨W0,hW0⟩:∃ W0,W0=(((w.alloc (.cells #[.bool (sg x),.string (mg x)] 25)).alloc (.cells #[.bool (sg y),.string (mg y)] 25)).alloc (.cells #[.bool false,.string ⟨#[]⟩] 25)):=⟨_,rfl⟩
 rw [← hW0] at h0 ⊢
 clear hW0
 refine (Valid_yes x W0).mono ?_
 rintro e W1 ⟨rfl,hb⟩
 have h1:=h0.below hb
 obtain ⟨y0,y1⟩:=h1.y.cells
 clear hb h0
 go_wp2_with fail
 refine (Valid_yes y W1).mono ?_
 rintro e W2 ⟨rfl,hb⟩
 have h2:=h1.below hb
 clear hb h1 y0 y1
 go_wp2_with fail
 have hd:Box3 w W2.drew 25 x y:=h2.drewN 1
 go_region_held3 (fun W=>W.cell? ⟨w.heap.size,0,none⟩=some (.bool (sg x))∧W.cell? ⟨w.heap.size,1,none⟩=some (.string (mg x))∧W.cell? ⟨w.heap.size+1,0,none⟩=some (.bool (sg y))∧W.cell? ⟨w.heap.size+1,1,none⟩=some (.string (mg y)))
  (first | exact Box3.seen (by assumption) | exact Box3.seen_set (by assumption) _ _)
  (first
   | (go_at_call_of 151 (Value.string (mg x));refine (HX _).out.mono ?_;rintro e W' ⟨A,c,rfl,hc1,hrx,hb⟩;have hS:=Box3.below (by assumption) hb)
   | (go_at_call_of 151 (Value.string (mg y));refine (HY _).out.mono ?_;rintro e W'' ⟨B,d,rfl,hc2,hry,hb2⟩;have hS2:=Box3.below (by assumption) hb2;have hrx2:=hrx.below hb2))
 obtain ⟨x0,x1⟩:=hS2.x.cells
 obtain ⟨y0,y1⟩:=hS2.y.cells
 go_wp2_with fail
 have hd:Box3 w (_:World).drew 25 x y:=hS2.drewN 1
 go_region_held3 (fun W=>W.cell? ⟨w.heap.size,0,none⟩=some (.bool (sg x))∧W.cell? ⟨w.heap.size,1,none⟩=some (.string (mg x))∧W.cell? ⟨w.heap.size+1,0,none⟩=some (.bool (sg y))∧W.cell? ⟨w.heap.size+1,1,none⟩=some (.string (mg y)))
  (first | exact Box3.seen (by assumption) | exact Box3.seen_set (by assumption) _ _)
  (first
   | (go_at_call 152;refine (add_any A B c d _ _ _ hrx2.drew hry.drew (by omega) (by omega) hc1 hc2).mono ?_;rintro e W5 ⟨C,k,rfl,hk,hrz,hb3⟩;have hS:=Box3.below (by assumption) hb3)
   | (go_at_call 149;refine (with_any C k _ _ _ hrz LZ.out).mono ?_;rintro e W4 ⟨rfl,hb4⟩;have hS:=Box3.below (by assumption) hb4;obtain ⟨f0,f1⟩:=hS.z.free;obtain ⟨z0,z1⟩:=hS.z.cells))
 go_wp2_with fail
 rw [HV.out]
 obtain ⟨r0,r1,r2⟩:=hS.ret (.bool (sg (x+y))) (.string (mg (x+y)))
 exact bodyPost_ret (v:=vI (x+y)) (by simp [results,Tryz.results94,go_sem,r0,r1]) rfl ⟨rfl,r2⟩
theorem Add_left (x y:Int) (w:World) (hx:Bd 400000000 x) (hy:Bd 400000000 y) (hs:sg x≠sg y) (hc:y.natAbs≤x.natAbs):Calls Tryz.prog 94 #[vI x,vI y] w (RetI (x+y) w):=by
 have h0:=Box3.new w 25 x y
 have lx:=hx.digs
 have ly:=hy.digs
 have HX:=fun W=>Lib.hid (of_mg x W (hx.mono (by omega)))
 have HY:=fun W=>Lib.hid (of_mg y W (hy.mono (by omega)))
 have hq:(sg x == sg y)=false:=by simpa using hs
 have HV:=Lib.hid (sgnd_left hs hc)
 have LZ:Hid ((digs 4294967296 (x.natAbs - y.natAbs)).length≤1000000000):=Lib.hid (by have:=digs_len_mono (B:=4294967296) (by decide) (show x.natAbs - y.natAbs≤x.natAbs by omega);omega)
 clear hx hy hs
 go_enter Tryz.func94,Tryz.ntmps94
 go_wp2_with fail
 obtain ⟨W0,hW0⟩:∃ W0,W0=(((w.alloc (.cells #[.bool (sg x),.string (mg x)] 25)).alloc (.cells #[.bool (sg y),.string (mg y)] 25)).alloc (.cells #[.bool false,.string ⟨#[]⟩] 25)):=⟨_,rfl⟩
 rw [← hW0] at h0 ⊢
 clear hW0
 refine (Valid_yes x W0).mono ?_
 rintro e W1 ⟨rfl,hb⟩
 have h1:=h0.below hb
 obtain ⟨y0,y1⟩:=h1.y.cells
 clear hb h0
 go_wp2_with fail
 refine (Valid_yes y W1).mono ?_
 rintro e W2 ⟨rfl,hb⟩
 have h2:=h1.below hb
 clear hb h1 y0 y1
 go_wp2_with fail
 have hd:Box3 w W2.drew 25 x y:=h2.drewN 1
 go_region_held3 (fun W=>W.cell? ⟨w.heap.size,0,none⟩=some (.bool (sg x))∧W.cell? ⟨w.heap.size,1,none⟩=some (.string (mg x))∧W.cell? ⟨w.heap.size+1,0,none⟩=some (.bool (sg y))∧W.cell? ⟨w.heap.size+1,1,none⟩=some (.string (mg y)))
  (first | exact Box3.seen (by assumption) | exact Box3.seen_set (by assumption) _ _)
  (first
   | (go_at_call_of 151 (Value.string (mg x));refine (HX _).out.mono ?_;rintro e W' ⟨A,c,rfl,hc1,hrx,hb⟩;have hS:=Box3.below (by assumption) hb)
   | (go_at_call_of 151 (Value.string (mg y));refine (HY _).out.mono ?_;rintro e W'' ⟨B,d,rfl,hc2,hry,hb2⟩;have hS2:=Box3.below (by assumption) hb2;have hrx2:=hrx.below hb2))
 obtain ⟨x0,x1⟩:=hS2.x.cells
 obtain ⟨y0,y1⟩:=hS2.y.cells
 go_wp2_with fail
 refine (compare_any A B _ _ _ _ _ hrx2 hry (by omega) (by omega)).mono ?_
 rintro e W3 ⟨r,rfl,hr1,hr2,n,rfl⟩
 have hr:0≤r:=by omega
 clear hr1 hr2
 have hS3:=hS2.drewN n
 have hrx3:=hrx2.below (below_drewN (Below.refl _ _) n)
 have hry3:=hry.below (below_drewN (Below.refl _ _) n)
 clear hS2
 go_wp2_with fail
 have hd:Box3 w (_:World).drew 25 x y:=hS3.drewN 1
 go_region_held3 (fun W=>W.cell? ⟨w.heap.size,0,none⟩=some (.bool (sg x))∧W.cell? ⟨w.heap.size,1,none⟩=some (.string (mg x))∧W.cell? ⟨w.heap.size+1,0,none⟩=some (.bool (sg y))∧W.cell? ⟨w.heap.size+1,1,none⟩=some (.string (mg y)))
  (first | exact Box3.seen (by assumption) | exact Box3.seen_set (by assumption) _ _)
  (first
   | (go_at_call 154;refine (less_any A B c d _ _ _ hrx3.drew hry3.drew (by omega) hc).mono ?_;rintro e W5 ⟨C,k,rfl,hk,hrz,hb3⟩;have hS:=Box3.below (by assumption) hb3)
   | (go_at_call 149;refine (with_any C k _ _ _ hrz LZ.out).mono ?_;rintro e W4 ⟨rfl,hb4⟩;have hS:=Box3.below (by assumption) hb4;obtain ⟨f0,f1⟩:=hS.z.free;obtain ⟨z0,z1⟩:=hS.z.cells))
 go_wp2_with fail
 rw [HV.out]
 obtain ⟨r0,r1,r2⟩:=hS.ret (.bool (sg (x+y))) (.string (mg (x+y)))
 exact bodyPost_ret (v:=vI (x+y)) (by simp [results,Tryz.results94,go_sem,r0,r1]) rfl ⟨rfl,r2⟩
theorem Add_right (x y:Int) (w:World) (hx:Bd 400000000 x) (hy:Bd 400000000 y) (hs:sg x≠sg y) (hc:x.natAbs<y.natAbs):Calls Tryz.prog 94 #[vI x,vI y] w (RetI (x+y) w):=by
 have h0:=Box3.new w 25 x y
 have lx:=hx.digs
 have ly:=hy.digs
 have HX:=fun W=>Lib.hid (of_mg x W (hx.mono (by omega)))
 have HY:=fun W=>Lib.hid (of_mg y W (hy.mono (by omega)))
 have hq:(sg x == sg y)=false:=by simpa using hs
 have HV:=Lib.hid (sgnd_right hs hc)
 have LZ:Hid ((digs 4294967296 (y.natAbs - x.natAbs)).length≤1000000000):=Lib.hid (by have:=digs_len_mono (B:=4294967296) (by decide) (show y.natAbs - x.natAbs≤y.natAbs by omega);omega)
 clear hx hy hs
 go_enter Tryz.func94,Tryz.ntmps94
 go_wp2_with fail
 obtain ⟨W0,hW0⟩:∃ W0,W0=(((w.alloc (.cells #[.bool (sg x),.string (mg x)] 25)).alloc (.cells #[.bool (sg y),.string (mg y)] 25)).alloc (.cells #[.bool false,.string ⟨#[]⟩] 25)):=⟨_,rfl⟩
 rw [← hW0] at h0 ⊢
 clear hW0
 refine (Valid_yes x W0).mono ?_
 rintro e W1 ⟨rfl,hb⟩
 have h1:=h0.below hb
 obtain ⟨y0,y1⟩:=h1.y.cells
 clear hb h0
 go_wp2_with fail
 refine (Valid_yes y W1).mono ?_
 rintro e W2 ⟨rfl,hb⟩
 have h2:=h1.below hb
 clear hb h1 y0 y1
 go_wp2_with fail
 have hd:Box3 w W2.drew 25 x y:=h2.drewN 1
 go_region_held3 (fun W=>W.cell? ⟨w.heap.size,0,none⟩=some (.bool (sg x))∧W.cell? ⟨w.heap.size,1,none⟩=some (.string (mg x))∧W.cell? ⟨w.heap.size+1,0,none⟩=some (.bool (sg y))∧W.cell? ⟨w.heap.size+1,1,none⟩=some (.string (mg y)))
  (first | exact Box3.seen (by assumption) | exact Box3.seen_set (by assumption) _ _)
  (first
   | (go_at_call_of 151 (Value.string (mg x));refine (HX _).out.mono ?_;rintro e W' ⟨A,c,rfl,hc1,hrx,hb⟩;have hS:=Box3.below (by assumption) hb)
   | (go_at_call_of 151 (Value.string (mg y));refine (HY _).out.mono ?_;rintro e W'' ⟨B,d,rfl,hc2,hry,hb2⟩;have hS2:=Box3.below (by assumption) hb2;have hrx2:=hrx.below hb2))
 obtain ⟨x0,x1⟩:=hS2.x.cells
 obtain ⟨y0,y1⟩:=hS2.y.cells
 go_wp2_with fail
 refine (compare_any A B _ _ _ _ _ hrx2 hry (by omega) (by omega)).mono ?_
 rintro e W3 ⟨r,rfl,hr1,hr2,n,rfl⟩
 have hr:r<0:=by omega
 clear hr1 hr2
 have hS3:=hS2.drewN n
 have hrx3:=hrx2.below (below_drewN (Below.refl _ _) n)
 have hry3:=hry.below (below_drewN (Below.refl _ _) n)
 clear hS2
 go_wp2_with fail
 have hd:Box3 w (_:World).drew 25 x y:=hS3.drewN 1
 go_region_held3 (fun W=>W.cell? ⟨w.heap.size,0,none⟩=some (.bool (sg x))∧W.cell? ⟨w.heap.size,1,none⟩=some (.string (mg x))∧W.cell? ⟨w.heap.size+1,0,none⟩=some (.bool (sg y))∧W.cell? ⟨w.heap.size+1,1,none⟩=some (.string (mg y)))
  (first | exact Box3.seen (by assumption) | exact Box3.seen_set (by assumption) _ _)
  (first
   | (go_at_call 154;refine (less_any B A d c _ _ _ hry3.drew hrx3.drew (by omega) (by omega)).mono ?_;rintro e W5 ⟨C,k,rfl,hk,hrz,hb3⟩;have hS:=Box3.below (by assumption) hb3)
   | (go_at_call 149;refine (with_any C k _ _ _ hrz LZ.out).mono ?_;rintro e W4 ⟨rfl,hb4⟩;have hS:=Box3.below (by assumption) hb4;obtain ⟨f0,f1⟩:=hS.z.free;obtain ⟨z0,z1⟩:=hS.z.cells))
 go_wp2_with fail
 rw [HV.out]
 obtain ⟨r0,r1,r2⟩:=hS.ret (.bool (sg (x+y))) (.string (mg (x+y)))
 exact bodyPost_ret (v:=vI (x+y)) (by simp [results,Tryz.results94,go_sem,r0,r1]) rfl ⟨rfl,r2⟩
theorem Add_any (x y:Int) (w:World) (hx:Bd 400000000 x) (hy:Bd 400000000 y):Calls Tryz.prog 94 #[vI x,vI y] w (RetI (x+y) w):=by
 by_cases hs:sg x=sg y
 ·exact Add_same x y w hx hy hs
 ·by_cases hc:y.natAbs≤x.natAbs
  ·exact Add_left x y w hx hy hs hc
  ·exact Add_right x y w hx hy hs (by omega)

structure Box2 (w W:World) (t:TypeId) (a b:Value):Prop where
 x:Two W w.heap.size t a b
 z:Two W (w.heap.size+1) t (.bool false) (.string ⟨#[]⟩)
 b:Below w.heap.size w W
 s:w.heap.size+2≤W.heap.size
theorem Box2.new (w:World) (t:TypeId) (a b:Value):Box2 w ((w.alloc (.cells #[a,b] t)).alloc (.cells #[.bool false,.string ⟨#[]⟩] t)) t a b:=by
 have h1:=Two.new w t a b
 have h2:=Two.new (w.alloc (.cells #[a,b] t)) t (.bool false) (.string ⟨#[]⟩)
 refine ⟨h1.alloc _,?_,((Below.refl _ _).alloc (Nat.le_refl _) _).alloc (by simp) _,by simp⟩
 simpa using h2
theorem Box2.below {w W W':World} {t:TypeId} {a b:Value} (h:Box2 w W t a b) (hb:Below W.heap.size W W'):Box2 w W' t a b :=
 ⟨h.x.below hb h.x.lt,h.z.below hb h.z.lt,h.b.trans (hb.mono (by have:=h.s;omega)),by have:=hb.size;have:=h.s;omega⟩
theorem Box2.ret {w W:World} {t:TypeId} {a b:Value} (h:Box2 w W t a b) (u v:Value):(W.setCell ⟨w.heap.size+1,0,none⟩ u).cell? ⟨w.heap.size+1,0,none⟩=some u∧((W.setCell ⟨w.heap.size+1,0,none⟩ u).setCell ⟨w.heap.size+1,1,none⟩ v).cell? ⟨w.heap.size+1,1,none⟩=some v ∧
  Below w.heap.size w ((W.setCell ⟨w.heap.size+1,0,none⟩ u).setCell ⟨w.heap.size+1,1,none⟩ v) :=
 ⟨(h.z.read u v).1,(h.z.read u v).2,(h.b.setCell (by simp) _).setCell (by simp) _⟩
structure Box1 (w W:World) (t:TypeId) (a b:Value):Prop where
 x:Two W w.heap.size t a b
 b:Below w.heap.size w W
 s:w.heap.size+1≤W.heap.size
theorem Box1.new (w:World) (t:TypeId) (a b:Value):Box1 w (w.alloc (.cells #[a,b] t)) t a b :=
 ⟨Two.new w t a b,(Below.refl _ _).alloc (Nat.le_refl _) _,by simp⟩
theorem Box1.below {w W W':World} {t:TypeId} {a b:Value} (h:Box1 w W t a b) (hb:Below W.heap.size W W'):Box1 w W' t a b :=
 ⟨h.x.below hb h.x.lt,h.b.trans (hb.mono (by have:=h.s;omega)),by have:=hb.size;have:=h.s;omega⟩
theorem Valid_ok (n:Bool) (s:ByteArray) (w:World) (h:vld n s=true):Calls Tryz.prog 87 #[.agg #[.bool n,.string s]] w (RetB true w):=by
 have:=Valid_any n s w
 rwa [h] at this
structure BoxG (w W:World) (t:TypeId) (a b c d:Value):Prop where
 x:Two W w.heap.size t a b
 y:Two W (w.heap.size+1) t c d
 z:Two W (w.heap.size+1+1) t (.bool false) (.string ⟨#[]⟩)
 b:Below w.heap.size w W
 s:w.heap.size+3≤W.heap.size
theorem BoxG.new (w:World) (t:TypeId) (a b c d:Value):BoxG w (((w.alloc (.cells #[a,b] t)).alloc (.cells #[c,d] t)).alloc (.cells #[.bool false,.string ⟨#[]⟩] t)) t a b c d:=by
 have h1:=Two.new w t a b
 have h2:=Two.new (w.alloc (.cells #[a,b] t)) t c d
 have h3:=Two.new ((w.alloc (.cells #[a,b] t)).alloc (.cells #[c,d] t)) t (.bool false) (.string ⟨#[]⟩)
 refine ⟨(h1.alloc _).alloc _,?_,?_,(((Below.refl _ _).alloc (Nat.le_refl _) _).alloc (by simp) _).alloc (by simp;omega) _,by simp⟩
 ·have:=h2.alloc (.cells #[.bool false,.string ⟨#[]⟩] t);simpa using this
 ·simpa using h3
theorem BoxG.below {w W W':World} {t:TypeId} {a b c d:Value} (h:BoxG w W t a b c d) (hb:Below W.heap.size W W'):BoxG w W' t a b c d :=
 ⟨h.x.below hb h.x.lt,h.y.below hb h.y.lt,h.z.below hb h.z.lt,h.b.trans (hb.mono (by have:=h.s;omega)),by have:=hb.size;have:=h.s;omega⟩
theorem BoxG.ret {w W:World} {t:TypeId} {a b c d:Value} (h:BoxG w W t a b c d) (u v:Value):(W.setCell ⟨w.heap.size+1+1,0,none⟩ u).cell? ⟨w.heap.size+1+1,0,none⟩=some u∧((W.setCell ⟨w.heap.size+1+1,0,none⟩ u).setCell ⟨w.heap.size+1+1,1,none⟩ v).cell? ⟨w.heap.size+1+1,1,none⟩=some v ∧
  Below w.heap.size w ((W.setCell ⟨w.heap.size+1+1,0,none⟩ u).setCell ⟨w.heap.size+1+1,1,none⟩ v) :=
 ⟨(h.z.read u v).1,(h.z.read u v).2,(h.b.setCell (by simp;omega) _).setCell (by simp;omega) _⟩
def RetN (n:Int) (w:World) (e:Ending) (w':World):Prop:=e = .returned (.int .i64 n)∧Below w.heap.size w w'
theorem mg_empty {z:Int} (h:z=0):(mg z).toList = []∧(mg z).toList.isEmpty=true:=str_empty ((mg_size_zero z).2 h)
theorem mg_full {z:Int} (h:z≠0):¬ (mg z).toList = []∧(mg z).toList.isEmpty=false:=str_full (Nat.pos_of_ne_zero fun e=>h ((mg_size_zero z).1 e))
theorem RetI.zero {w w':World} (h:Below w.heap.size w w'):RetI 0 w (.returned (.agg #[.bool false,.string ⟨#[]⟩])) w' :=
 ⟨ret_vI rfl mg_zero.symm,h⟩
theorem sg_neg (x:Int) (h:x≠0):sg (-x) = !sg x:=by
 unfold sg
 by_cases hx:x<0
 ·simp [hx];omega
 ·simp [hx];omega
theorem Neg_zero (x:Int) (w:World) (h:x=0):Calls Tryz.prog 114 #[vI x] w (RetI (-x) w):=by
 have h0:=Box2.new w 25 (.bool (sg x)) (.string (mg x))
 obtain ⟨e1,e2⟩:=mg_empty h
 have HSG:Hid (sg x=false):=Lib.hid (by unfold sg;simp;omega)
 have hn:sg (-x)=false:=by unfold sg;simp;omega
 have HN:=Lib.hid hn
 clear hn h
 go_enter Tryz.func114,Tryz.ntmps114
 go_wp2_with fail
 obtain ⟨W0,hW0⟩:∃ W0,W0=((w.alloc (.cells #[.bool (sg x),.string (mg x)] 25)).alloc (.cells #[.bool false,.string ⟨#[]⟩] 25)):=⟨_,rfl⟩
 rw [← hW0] at h0 ⊢
 clear hW0
 refine (Valid_yes x W0).mono ?_
 rintro e W1 ⟨rfl,hb⟩
 have h1:=h0.below hb
 obtain ⟨x0,x1⟩:=h1.x.cells
 obtain ⟨f0,f1⟩:=h1.z.free
 obtain ⟨z0,z1⟩:=h1.z.cells
 have hs:=HSG.out
 go_wp2_with fail
 obtain ⟨r0,r1,r2⟩:=h1.ret (.bool false) (.string (mg x))
 exact bodyPost_ret (v:=.agg #[.bool false,.string (mg x)]) (by simp [results,Tryz.results114,go_sem,r0,r1]) rfl ⟨ret_vI HN.out.symm (mg_neg x).symm,r2⟩
theorem Neg_neg (x:Int) (w:World) (h:x<0):Calls Tryz.prog 114 #[vI x] w (RetI (-x) w):=by
 have h0:=Box2.new w 25 (.bool (sg x)) (.string (mg x))
 obtain ⟨e1,e2⟩:=mg_full (show x≠0 by omega)
 have HSG:Hid (sg x=true):=Lib.hid (by unfold sg;simp;omega)
 have hn:sg (-x)=false:=by unfold sg;simp;omega
 have HN:=Lib.hid hn
 clear hn h
 go_enter Tryz.func114,Tryz.ntmps114
 go_wp2_with fail
 obtain ⟨W0,hW0⟩:∃ W0,W0=((w.alloc (.cells #[.bool (sg x),.string (mg x)] 25)).alloc (.cells #[.bool false,.string ⟨#[]⟩] 25)):=⟨_,rfl⟩
 rw [← hW0] at h0 ⊢
 clear hW0
 refine (Valid_yes x W0).mono ?_
 rintro e W1 ⟨rfl,hb⟩
 have h1:=h0.below hb
 obtain ⟨x0,x1⟩:=h1.x.cells
 obtain ⟨f0,f1⟩:=h1.z.free
 obtain ⟨z0,z1⟩:=h1.z.cells
 have hs:=HSG.out
 go_wp2_with fail
 obtain ⟨r0,r1,r2⟩:=h1.ret (.bool false) (.string (mg x))
 exact bodyPost_ret (v:=.agg #[.bool false,.string (mg x)]) (by simp [results,Tryz.results114,go_sem,r0,r1]) rfl ⟨ret_vI HN.out.symm (mg_neg x).symm,r2⟩
theorem Neg_pos (x:Int) (w:World) (h:0<x):Calls Tryz.prog 114 #[vI x] w (RetI (-x) w):=by
 have h0:=Box2.new w 25 (.bool (sg x)) (.string (mg x))
 obtain ⟨e1,e2⟩:=mg_full (show x≠0 by omega)
 have HSG:Hid (sg x=false):=Lib.hid (by unfold sg;simp;omega)
 have hn:sg (-x)=true:=by unfold sg;simp;omega
 have HN:=Lib.hid hn
 clear hn h
 go_enter Tryz.func114,Tryz.ntmps114
 go_wp2_with fail
 obtain ⟨W0,hW0⟩:∃ W0,W0=((w.alloc (.cells #[.bool (sg x),.string (mg x)] 25)).alloc (.cells #[.bool false,.string ⟨#[]⟩] 25)):=⟨_,rfl⟩
 rw [← hW0] at h0 ⊢
 clear hW0
 refine (Valid_yes x W0).mono ?_
 rintro e W1 ⟨rfl,hb⟩
 have h1:=h0.below hb
 obtain ⟨x0,x1⟩:=h1.x.cells
 obtain ⟨f0,f1⟩:=h1.z.free
 obtain ⟨z0,z1⟩:=h1.z.cells
 have hs:=HSG.out
 go_wp2_with fail
 obtain ⟨r0,r1,r2⟩:=h1.ret (.bool true) (.string (mg x))
 exact bodyPost_ret (v:=.agg #[.bool true,.string (mg x)]) (by simp [results,Tryz.results114,go_sem,r0,r1]) rfl ⟨ret_vI HN.out.symm (mg_neg x).symm,r2⟩
theorem Neg_any (x:Int) (w:World):Calls Tryz.prog 114 #[vI x] w (RetI (-x) w):=by
 rcases Int.lt_trichotomy x 0 with h | h | h
 ·exact Neg_neg x w h
 ·exact Neg_zero x w h
 ·exact Neg_pos x w h
theorem abs_facts (x:Int):sg (x.natAbs:Int)=false∧mg (x.natAbs:Int)=mg x:=by
 refine ⟨by unfold sg;simp,by unfold mg;simp⟩
theorem Abs_any (x:Int) (w:World):Calls Tryz.prog 47 #[vI x] w (RetI (x.natAbs:Int) w):=by
 have h0:=Box2.new w 25 (.bool (sg x)) (.string (mg x))
 go_enter Tryz.func47,Tryz.ntmps47
 go_wp2_with fail
 obtain ⟨W0,hW0⟩:∃ W0,W0=((w.alloc (.cells #[.bool (sg x),.string (mg x)] 25)).alloc (.cells #[.bool false,.string ⟨#[]⟩] 25)):=⟨_,rfl⟩
 rw [← hW0] at h0 ⊢
 clear hW0
 refine (Valid_yes x W0).mono ?_
 rintro e W1 ⟨rfl,hb⟩
 have h1:=h0.below hb
 obtain ⟨x0,x1⟩:=h1.x.cells
 obtain ⟨f0,f1⟩:=h1.z.free
 obtain ⟨z0,z1⟩:=h1.z.cells
 go_wp2_with fail
 obtain ⟨r0,r1,r2⟩:=h1.ret (.bool false) (.string (mg x))
 exact bodyPost_ret (v:=.agg #[.bool false,.string (mg x)]) (by simp [results,Tryz.results47,go_sem,r0,r1]) rfl ⟨ret_vI (abs_facts x).1.symm (abs_facts x).2.symm,r2⟩
theorem Sign_zero (x:Int) (w:World) (h:x=0):Calls Tryz.prog 88 #[vI x] w (RetN x.sign w):=by
 have h0:=Box1.new w 25 (.bool (sg x)) (.string (mg x))
 obtain ⟨e1,e2⟩:=mg_empty h
 have HSG:Hid (sg x=false):=Lib.hid (by unfold sg;simp;omega)
 have HV:Hid (x.sign=(0)):=Lib.hid (by first | (subst h;rfl) | exact Int.sign_eq_neg_one_of_neg h | exact Int.sign_eq_one_of_pos h)
 rw [HV.out]
 clear h
 go_enter Tryz.func88,Tryz.ntmps88
 go_wp2_with fail
 obtain ⟨W0,hW0⟩:∃ W0,W0=(w.alloc (.cells #[.bool (sg x),.string (mg x)] 25)):=⟨_,rfl⟩
 rw [← hW0] at h0 ⊢
 clear hW0
 refine (Valid_yes x W0).mono ?_
 rintro e W1 ⟨rfl,hb⟩
 have h1:=h0.below hb
 obtain ⟨x0,x1⟩:=h1.x.cells
 have hs:=HSG.out
 go_wp2_with fail
 go_ret
 exact ⟨rfl,h1.b⟩
theorem Sign_neg (x:Int) (w:World) (h:x<0):Calls Tryz.prog 88 #[vI x] w (RetN x.sign w):=by
 have h0:=Box1.new w 25 (.bool (sg x)) (.string (mg x))
 obtain ⟨e1,e2⟩:=mg_full (show x≠0 by omega)
 have HSG:Hid (sg x=true):=Lib.hid (by unfold sg;simp;omega)
 have HV:Hid (x.sign=(-1)):=Lib.hid (by first | (subst h;rfl) | exact Int.sign_eq_neg_one_of_neg h | exact Int.sign_eq_one_of_pos h)
 rw [HV.out]
 clear h
 go_enter Tryz.func88,Tryz.ntmps88
 go_wp2_with fail
 obtain ⟨W0,hW0⟩:∃ W0,W0=(w.alloc (.cells #[.bool (sg x),.string (mg x)] 25)):=⟨_,rfl⟩
 rw [← hW0] at h0 ⊢
 clear hW0
 refine (Valid_yes x W0).mono ?_
 rintro e W1 ⟨rfl,hb⟩
 have h1:=h0.below hb
 obtain ⟨x0,x1⟩:=h1.x.cells
 have hs:=HSG.out
 go_wp2_with fail
 go_ret
 exact ⟨rfl,h1.b⟩
theorem Sign_pos (x:Int) (w:World) (h:0<x):Calls Tryz.prog 88 #[vI x] w (RetN x.sign w):=by
 have h0:=Box1.new w 25 (.bool (sg x)) (.string (mg x))
 obtain ⟨e1,e2⟩:=mg_full (show x≠0 by omega)
 have HSG:Hid (sg x=false):=Lib.hid (by unfold sg;simp;omega)
 have HV:Hid (x.sign=(1)):=Lib.hid (by first | (subst h;rfl) | exact Int.sign_eq_neg_one_of_neg h | exact Int.sign_eq_one_of_pos h)
 rw [HV.out]
 clear h
 go_enter Tryz.func88,Tryz.ntmps88
 go_wp2_with fail
 obtain ⟨W0,hW0⟩:∃ W0,W0=(w.alloc (.cells #[.bool (sg x),.string (mg x)] 25)):=⟨_,rfl⟩
 rw [← hW0] at h0 ⊢
 clear hW0
 refine (Valid_yes x W0).mono ?_
 rintro e W1 ⟨rfl,hb⟩
 have h1:=h0.below hb
 obtain ⟨x0,x1⟩:=h1.x.cells
 have hs:=HSG.out
 go_wp2_with fail
 go_ret
 exact ⟨rfl,h1.b⟩
theorem Sign_any (x:Int) (w:World):Calls Tryz.prog 88 #[vI x] w (RetN x.sign w):=by
 rcases Int.lt_trichotomy x 0 with h | h | h
 ·exact Sign_neg x w h
 ·exact Sign_zero x w h
 ·exact Sign_pos x w h
theorem Sub_any (x y:Int) (w:World) (hx:Bd 400000000 x) (hy:Bd 400000000 y):Calls Tryz.prog 93 #[vI x,vI y] w (RetI (x - y) w):=by
 have h0:=Box3.new w 25 x y
 have HA:=fun W=>Lib.hid (Add_any x (-y) W hx hy.neg)
 clear hx hy
 go_enter Tryz.func93,Tryz.ntmps93
 go_wp2_with fail
 obtain ⟨W0,hW0⟩:∃ W0,W0=(((w.alloc (.cells #[.bool (sg x),.string (mg x)] 25)).alloc (.cells #[.bool (sg y),.string (mg y)] 25)).alloc (.cells #[.bool false,.string ⟨#[]⟩] 25)):=⟨_,rfl⟩
 rw [← hW0] at h0 ⊢
 clear hW0
 refine (Valid_yes x W0).mono ?_
 rintro e W1 ⟨rfl,hb⟩
 have h1:=h0.below hb
 obtain ⟨y0,y1⟩:=h1.y.cells
 clear hb h0
 go_wp2_with fail
 refine (Valid_yes y W1).mono ?_
 rintro e W2 ⟨rfl,hb⟩
 have h2:=h1.below hb
 clear hb h1 y0 y1
 go_wp2_with fail
 have hd:Box3 w W2.drew 25 x y:=h2.drewN 1
 go_region_held3 (fun W=>W.cell? ⟨w.heap.size,0,none⟩=some (.bool (sg x))∧W.cell? ⟨w.heap.size,1,none⟩=some (.string (mg x))∧W.cell? ⟨w.heap.size+1,0,none⟩=some (.bool (sg y))∧W.cell? ⟨w.heap.size+1,1,none⟩=some (.string (mg y)))
  (first | exact Box3.seen (by assumption) | exact Box3.seen_set (by assumption) _ _)
  (first
   | (go_at_call 114;refine (Neg_any y _).mono ?_;rintro e W5 ⟨rfl,hb3⟩;have hS:=Box3.below (by assumption) hb3)
   | (go_at_call 94;refine (HA _).out.mono ?_;rintro e W4 ⟨rfl,hb4⟩;have hS:=Box3.below (by assumption) hb4;obtain ⟨f0,f1⟩:=hS.z.free;obtain ⟨z0,z1⟩:=hS.z.cells))
 go_wp2_with fail
 obtain ⟨r0,r1,r2⟩:=hS.ret (.bool (sg (x + -y))) (.string (mg (x + -y)))
 exact bodyPost_ret (v:=vI (x + -y)) (by simp [results,Tryz.results93,go_sem,r0,r1]) rfl ⟨by rw [Int.sub_eq_add_neg],r2⟩

theorem Cmp_any (x y:Int) (w:World) (hx:Bd 400000000 x) (hy:Bd 400000000 y):Calls Tryz.prog 150 #[vI x,vI y] w (RetN ((x - y).sign) w):=by
 have HC:=fun W=>Lib.hid (Sub_any x y W hx hy)
 have hb:Below w.heap.size w ((w.alloc (.cells #[.bool (sg x),.string (mg x)] 25)).alloc (.cells #[.bool (sg y),.string (mg y)] 25)):=((Below.refl _ _).alloc (Nat.le_refl _) _).alloc (by simp) _
 go_enter Tryz.func150,Tryz.ntmps150
 go_wp2_with fail
 obtain ⟨W0,hW0⟩:∃ W0,W0=((w.alloc (.cells #[.bool (sg x),.string (mg x)] 25)).alloc (.cells #[.bool (sg y),.string (mg y)] 25)):=⟨_,rfl⟩
 rw [← hW0] at hb ⊢
 clear hW0
 refine (HC W0).out.mono ?_
 rintro e W1 ⟨rfl,hb1⟩
 go_wp2_with fail
 refine (Sign_any (x - y) W1).mono ?_
 rintro e W2 ⟨rfl,hb2⟩
 have hbl:=(hb.trans (hb1.mono hb.size)).trans (hb2.mono (Nat.le_trans hb.size hb1.size))
 clear hb hb1 hb2
 go_wp2_with fail
 go_ret
 exact ⟨rfl,hbl⟩
theorem bitLenAux_le:∀ f x,Lib.bitLenAux f x≤f
 | 0,_=>Nat.le_refl _
 | f+1,x=>by
  simp only [Lib.bitLenAux]
  have:=bitLenAux_le f (x / 2)
  split <;> omega
theorem bitLen_le (x:Nat):Lib.bitLen x≤64:=bitLenAux_le 64 x
def nbits (n:Nat):Nat:=if n=0 then 0 else Nat.log2 n+1
theorem nbits_bytes (n:Nat) (h:0<(magB n).size):8 * ((magB n).size - 1)+Lib.bitLen (magB n)[0].toNat=nbits n:=by
 have hs:=size_magB n
 have hn:n≠0:=by
  rintro rfl
  have:(digs 256 0).length=0:=by rw [digs_zero];rfl
  omega
 obtain ⟨k,hk⟩:∃ k,(digs 256 n).length=k+1:=⟨(digs 256 n).length - 1,by omega⟩
 have htop:(magB n)[0].toNat=gd (digs 256 n) k:=by
  have:=gd_rb (magB n) k (by omega)
  have hrb:rb (magB n)=digs 256 n:=rb_mk _ (digs_Dig (by decide) n)
  rw [hrb] at this
  rw [this]
  congr 2;omega
 have h0:gd (digs 256 n) k≠0:=by have:=digs_last (B:=256) (by decide) n hn;rw [hk] at this;simpa using this
 have hlt:=(digs_Dig (B:=256) (by decide) n).gd (by decide) k
 have h1:=val_split 256 (digs 256 n) k (by omega)
 have h2:=val_drop 256 (digs 256 n) k (by omega)
 rw [List.drop_of_length_le (show (digs 256 n).length≤k+1 by omega)] at h2
 simp only [val,Nat.mul_zero,Nat.add_zero] at h2
 have h3:=val_lt ((digs_Dig (B:=256) (by decide) n).take k)
 rw [List.length_take,Nat.min_eq_left (by omega)] at h3
 rw [h2,val_digs (by decide)] at h1
 rw [htop,hs,hk,Nat.add_sub_cancel]
 generalize gd (digs 256 n) k=g at *
 generalize val 256 ((digs 256 n).take k)=L at *
 obtain ⟨a,_,c,d⟩:=bitLenAux_spec 64 g (by omega) h0
 have e:Lib.bitLen g=Lib.bitLenAux 64 g:=rfl
 rw [← e] at a c d
 generalize Lib.bitLen g=b at *
 have hp:(256:Nat) ^ k=2 ^ (8 * k):=by rw [Nat.pow_mul]
 rw [hp] at h1 h3
 unfold nbits
 rw [if_neg hn]
 have h4:2 ^ (8 * k+(b - 1))≤n:=by
  rw [Nat.pow_add]
  have:=Nat.mul_le_mul_left (2 ^ (8 * k)) c
  omega
 have h5:n<2 ^ (8 * k+b):=by
  rw [Nat.pow_add]
  have:2 ^ (8 * k) * (g+1)≤2 ^ (8 * k) * 2 ^ b:=Nat.mul_le_mul_left _ d
  rw [Nat.mul_add] at this;omega
 have h6:=(Nat.le_log2 hn).2 h4
 have h7:=(Nat.log2_lt hn).2 h5
 omega
theorem Bits_any (x:Int) (w:World) (hb:Bd 400000000 x):Calls Tryz.prog 194 #[vI x] w (RetN (nbits x.natAbs) w):=by
 have h0:=Box1.new w 25 (.bool (sg x)) (.string (mg x))
 by_cases h:x=0
 ·obtain ⟨e1,e2⟩:=mg_empty h
  have HV:Hid (nbits x.natAbs=0):=Lib.hid (by rw [h];rfl)
  rw [HV.out]
  clear h
  go_enter Tryz.func194,Tryz.ntmps194
  go_wp2_with fail
  obtain ⟨W0,hW0⟩:∃ W0,W0=(w.alloc (.cells #[.bool (sg x),.string (mg x)] 25)):=⟨_,rfl⟩
  rw [← hW0] at h0 ⊢
  clear hW0
  refine (Valid_yes x W0).mono ?_
  rintro e W1 ⟨rfl,hb⟩
  have h1:=h0.below hb
  obtain ⟨x0,x1⟩:=h1.x.cells
  go_wp2_with fail
  go_ret
  exact ⟨rfl,h1.b⟩
 ·obtain ⟨e1,e2⟩:=mg_full h
  have hpos:0<(mg x).size:=Nat.pos_of_ne_zero fun e=>h ((mg_size_zero x).1 e)
  have HV:Hid (8 * ((mg x).size - 1)+Lib.bitLen (mg x)[0].toNat=nbits x.natAbs):=nbits_bytes x.natAbs hpos
  have hsz:=hb.size
  have hlt:=(mg x)[0].toNat_lt
  clear h hb
  go_enter Tryz.func194,Tryz.ntmps194
  go_wp2_with fail
  obtain ⟨W0,hW0⟩:∃ W0,W0=(w.alloc (.cells #[.bool (sg x),.string (mg x)] 25)):=⟨_,rfl⟩
  rw [← hW0] at h0 ⊢
  clear hW0
  refine (Valid_yes x W0).mono ?_
  rintro e W1 ⟨rfl,hb⟩
  have h1:=h0.below hb
  obtain ⟨x0,x1⟩:=h1.x.cells
  go_wp2_with fail
  go_quiet ((go_at_call 222;exact Calls.quiet_of_same (Tryz.bits_Len8 _ _ (by omega) (by omega))))
  go_wp2_with fail
  go_ret
  refine ⟨ret_int ?_,below_drewN h1.b _⟩
  have hbl:Lib.bitLen (mg x)[0].toNat≤64:=bitLen_le _
  rw [← HV.out]
  unfold wrap64
  omega
end Go.Proofs.YtlhddcingeneaaaGreatDoor

namespace Go.Proofs.YtlhddcingeneaaaGreatDoor
theorem sq_le_of {x m:Nat}:4 * (x * m)≤(x+m) * (x+m):=by
 have h:∀ a d:Nat,4 * (a * (a+d))≤(a+(a+d)) * (a+(a+d)):=fun a d=>by
  have e:(a+(a+d)) * (a+(a+d))=4 * (a * (a+d))+d * d:=by
   simp only [Nat.mul_add,Nat.add_mul,Nat.mul_comm d a];omega
  omega
 rcases Nat.le_total x m with h1 | h1
 ·obtain ⟨d,rfl⟩:=Nat.le.dest h1;exact h x d
 ·obtain ⟨d,rfl⟩:=Nat.le.dest h1
  have:=h m d
  rw [Nat.mul_comm (m+d) m,Nat.add_comm (m+d) m];exact this
theorem sqrt_step {n x:Nat} (hx:0<x):n<((x+n / x) / 2+1) * ((x+n / x) / 2+1):=by
 have h1:n<x * (n / x+1):=by
  have:=Nat.div_add_mod n x
  have:=Nat.mod_lt n hx
  rw [Nat.mul_add];omega
 have h2:=sq_le_of (x:=x) (m:=n / x+1)
 have h3:x+(n / x+1)≤2 * ((x+n / x) / 2+1):=by omega
 generalize (x+n / x) / 2+1=y at *
 generalize x+(n / x+1)=s at *
 have h4:s * s≤(2 * y) * (2 * y):=Nat.mul_le_mul h3 h3
 have h5:(2 * y) * (2 * y)=4 * (y * y):=by
  rw [Nat.mul_assoc,Nat.mul_left_comm y 2 y];omega
 omega
theorem sqrt_end {n x:Nat} (h:x≤(x+n / x) / 2):x * x≤n:=by
 have h1:x≤n / x:=by omega
 have:=Nat.mul_le_mul_left x h1
 have:=Nat.div_mul_le_self n x
 rw [Nat.mul_comm] at this
 omega
theorem sqrt_uniq {n a b:Nat} (ha:a * a≤n) (ha':n<(a+1) * (a+1)) (hb:b * b≤n) (hb':n<(b+1) * (b+1)):a=b:=by
 have h:∀ a b:Nat,a * a≤n→n<(b+1) * (b+1)→a≤b:=fun a b h1 h2=>by
  apply Nat.le_of_not_lt
  intro hlt
  have:=Nat.mul_le_mul (show b+1≤a from hlt) (show b+1≤a from hlt)
  omega
 exact Nat.le_antisymm (h a b ha hb') (h b a hb ha')
theorem set_top (m d:Nat):(List.replicate (m+1) 0).set m d=List.replicate m 0 ++ [d]:=by
 rw [List.replicate_succ',List.set_append_right _ _ (by simp)]
 simp
theorem trimL_set_top (m d:Nat) (hd:d≠0):trimL ((List.replicate (m+1) 0).set m d)=(List.replicate (m+1) 0).set m d:=by
 rw [set_top,trimL_snoc_pos _ _ hd]
theorem val_set_top (M m d:Nat):val M ((List.replicate (m+1) 0).set m d)=M ^ m * d:=by
 rw [set_top,val_append,val_replicate,List.length_replicate]
 simp [val]
theorem digs_pow2 (k:Nat):(List.replicate (k / 32+1) 0).set (k / 32) (2 ^ (k % 32))=digs 4294967296 (2 ^ k):=by
 have hlt:2 ^ (k % 32)<4294967296:=by
  have:(2:Nat) ^ (k % 32)<2 ^ 32:=Nat.pow_lt_pow_right (by decide) (Nat.mod_lt _ (by decide))
  exact this
 have hd:Dig 4294967296 ((List.replicate (k / 32+1) 0).set (k / 32) (2 ^ (k % 32))):=(Dig.replicate (by decide) _).set _ _ hlt
 have h:=digs_val (B:=4294967296) (by decide) hd
 rw [trimL_set_top _ _ (Nat.pos_iff_ne_zero.1 (Nat.pow_pos (by decide))),val_set_top] at h
 rw [← h]
 congr 1
 rw [show (4294967296:Nat)=2 ^ 32 from rfl,← Nat.pow_mul,← Nat.pow_add]
 congr 1;omega
theorem nbits_lt (n:Nat):n<2 ^ (2 * ((nbits n+1) / 2)):=by
 have h:n<2 ^ nbits n:=by
  unfold nbits
  split
  ·omega
  ·exact Nat.lt_log2_self
 exact Nat.lt_of_lt_of_le h (Nat.pow_le_pow_right (by decide) (by omega))

open Go.RowKit Go
section
variable {P:Program} {ops:Array Oper} {Q:Exit→Act→World→Prop} {md:Region.Mode} {S:World→Prop}
def wpFore (P:Program) (md:Region.Mode) (ops:Array Oper) (Q:Exit→Act→World→Prop) (S:World→Prop) (n:Nat) (L:Array Bool→Act→World→Prop):Nat→Array Bool→Act→World→Prop
 | 0,d,a,w=>L d a w
 | f+1,d,a,w=>Region.ready md ops d ≠ []∧∀ i,i ∈ Region.ready md ops d→i<n∧wpOp P ops Q i (fun a' w'=>S w'∧wpFore P md ops Q S n L f (d.setIfInBounds i true) a' w') a w
theorem wpFore.any {n g:Nat} {L:Array Bool→Act→World→Prop} (hL:∀ d a w,L d a w→wpAny P md ops Q g d a w) :
  ∀ (f:Nat) (d:Array Bool) (a:Act) (w:World),wpFore P md ops Q S n L f d a w→wpAny P md ops Q (f+g) d a w:=by
 intro f
 induction f with
 | zero=>intro d a w h;rw [Nat.zero_add];exact hL _ _ _ h
 | succ f ih =>
  intro d a w h
  have e:f+1+g=(f+g)+1:=by omega
  rw [e]
  exact ⟨fun h0=>absurd h0 h.1,fun i hi=>wpOp_mono (fun a' w' h'=>ih _ _ _ h'.2) (h.2 i hi).2⟩
theorem wpFore.early {n i:Nat} {o:Oper} {v:Value} {L:Array Bool→Act→World→Prop} (hi:ops[i]?=some o) (hsel:Region.noSelect ops=true)
  (hs:Region.sinkB md ops n=true) (hc:Region.chainB md ops n=true) (hn:n<ops.size) (hin:i<n)
  (hQ:∀ c a w,Q (.panic c) (a.put o.dst v) w→Q (.panic c) a w)
  (hL:∀ d a w,L d a w→∀ j,j ∈ Region.ready md ops d→n≤j) :
  ∀ (f:Nat) (d:Array Bool) (a:Act) (w:World),HeadInv md ops n d →
   (∀ j oj,ops[j]?=some oj→j≠i→d.getD j true=false→(∀ e ∈ oj.after,Region.binds md e=true→e.on≠i)→o.apart ops oj=true) →
   i ∈ Region.ready md ops d→YieldsIf P ops S o v a→S w →
   wpFore P md ops Q S n L f (d.setIfInBounds i true) (a.put o.dst v) w→wpFore P md ops Q S n L (f+1) d a w:=by
 intro f
 induction f with
 | zero =>
  intro d a w inv _ hr hy hS H
  refine ⟨fun h=>(by rw [h] at hr;cases hr),fun j hj=>?_⟩
  have hjn:j<n:=by
   rcases Nat.lt_or_ge j n with h | h
   ·exact h
   ·exact absurd hj (tail_waits hs hc hn inv _ i rfl hin (mem_ready.1 hr).1 j h)
  by_cases hji:j=i
  ·rw [hji] at hjn ⊢;exact ⟨hjn,hy.wpOp hi hS ⟨hS,H⟩⟩
  ·have:=hL _ _ _ H j (ready_mono hj hji);omega
 | succ f ih =>
  intro d a w inv hfree hr hy hS H
  have hun:=(mem_ready.1 hr).1
  refine ⟨fun h=>(by rw [h] at hr;cases hr),fun j hj=>?_⟩
  have hjn:j<n:=by
   rcases Nat.lt_or_ge j n with h | h
   ·exact h
   ·exact absurd hj (tail_waits hs hc hn inv _ i rfl hin hun j h)
  refine ⟨hjn,?_⟩
  by_cases hji:j=i
  ·rw [hji];exact hy.wpOp hi hS ⟨hS,H⟩
  ·obtain ⟨hjun,oj,hoj,hall⟩:=mem_ready.1 hj
   have hno:∀ e ∈ oj.after,Region.binds md e=true→e.on≠i:=fun e he hb heq=>by
    have:=hall e he hb
    rw [heq,getD_both hun] at this
    cases this
   have h2:=wpOp_putIf hoj (hfree j oj hoj hji hjun hno) (fun cs b=>Region.noSelect_spec hsel i o cs b hi) (fun cs b=>Region.noSelect_spec hsel j oj cs b hoj) hQ hy (H.2 j (ready_mono hj hji)).2
   refine wpOp_mono (fun a' w' h3=>⟨h3.2.1,?_⟩) h2
   refine ih (d.setIfInBounds j true) a' w' (inv.set hj hjn) (fun k ok hk hki hkun hkno=>hfree k ok hk hki ?_ hkno) (ready_mono hr (Ne.symm hji)) h3.1 h3.2.1 ?_
   ·by_cases hjk:j=k
    ·rw [← hjk];exact hjun
    ·rwa [getD_set_ne true hjk] at hkun
   ·rw [Array.setIfInBounds_comm _ _ hji];exact h3.2.2
def wpBy (P:Program) (ops:Array Oper) (Q:Exit→Act→World→Prop) (S:World→Prop) (K:Act→World→Prop):List (Nat × Bool)→Act→World→Prop
 | [],a,w=>K a w
 | (i,true) :: l,a,w=>∃ o v,ops[i]?=some o∧YieldsIf P ops S o v a∧wpBy P ops Q S K l (a.put o.dst v) w
 | (i,false) :: l,a,w=>wpOp P ops Q i (fun a' w'=>S w'∧wpBy P ops Q S K l a' w') a w
def byB (md:Region.Mode) (ops:Array Oper) (n:Nat):List (Nat × Bool)→Array Bool→Bool
 | [],d=>Region.seqB md ops (ops.size - n) n d
 | (i,b) :: l,d=>decide (i<n) && (Region.ready md ops d).contains i && (if b then Region.free md ops d i else decide (Region.ready md ops d = [i])) && byB md ops n l (d.setIfInBounds i true)
def byOk (md:Region.Mode) (ops:Array Oper) (n:Nat) (l:List (Nat × Bool)):Bool :=
 Region.noSelect ops && decide (n<ops.size) && Region.sinkB md ops n && Region.chainB md ops n && decide (l.length=n) && byB md ops n l (Array.replicate ops.size false)
theorem wpBy.fore {n:Nat} {K:Act→World→Prop} (hsel:Region.noSelect ops=true)
  (hs:Region.sinkB md ops n=true) (hc:Region.chainB md ops n=true) (hn:n<ops.size)
  (hQ:∀ c a d v w,Q (.panic c) (Act.put a d v) w→Q (.panic c) a w) :
  ∀ (l:List (Nat × Bool)) (d:Array Bool) (a:Act) (w:World),HeadInv md ops n d→byB md ops n l d=true→S w→wpBy P ops Q S K l a w →
   wpFore P md ops Q S n (fun d' a' w'=>Region.seqB md ops (ops.size - n) n d'=true∧K a' w') l.length d a w:=by
 intro l
 induction l with
 | nil=>intro d a w _ hB _ h;exact ⟨hB,h⟩
 | cons x l ih =>
  obtain ⟨i,b⟩:=x
  intro d a w inv hB hS h
  simp only [byB,Bool.and_eq_true,decide_eq_true_eq] at hB
  obtain ⟨⟨⟨hin,hr⟩,hf⟩,hB'⟩:=hB
  have hr':i ∈ Region.ready md ops d:=by simpa using hr
  cases b with
  | true =>
   obtain ⟨o,v,ho,hy,hK⟩:=h
   simp only [if_true] at hf
   exact wpFore.early ho hsel hs hc hn hin (fun c a w=>hQ c a _ v w) (fun d' a' w' hL=>seqB_ready hL.1) l.length d a w inv (Region.free_spec ho hf) hr' hy hS (ih _ _ _ (inv.set hr' hin) hB' hS hK)
  | false =>
   simp only [Bool.false_eq_true,if_false,decide_eq_true_eq] at hf
   refine ⟨fun h0=>(by rw [h0] at hr';cases hr'),fun j hj=>?_⟩
   rw [hf] at hj
   have hj':j=i:=by simpa using hj
   subst hj'
   exact ⟨hin,wpOp_mono (fun a' w' h'=>⟨h'.1,ih _ _ _ (inv.set hr' hin) hB' h'.1 h'.2⟩) h⟩
theorem region_by {id:Nat} {a:Act} {w:World} {ol:List Oper} (S:World→Prop) (n:Nat) (l:List (Nat × Bool)) (hm:P.follows .mixedOrders=true) (hB:byOk .any ol.toArray n l=true)
  (hS:S w.drew)
  (h:wpBy P ol.toArray (NoPanic Q) S (fun a' w'=>wpList P ol.toArray (NoPanic Q) (ol.drop n) a' w') l a w.drew):(Code.region id ol.toArray true).wp P Q a w:=by
 simp only [byOk,Bool.and_eq_true,decide_eq_true_eq] at hB
 obtain ⟨⟨⟨⟨⟨hsel,hn⟩,hs⟩,hc⟩,hl⟩,hB⟩:=hB
 have inv0:HeadInv .any ol.toArray n (Array.replicate ol.toArray.size false) :=
  ⟨by simp,fun j oj _ hl=>(by rw [getD_replicate_false] at hl;cases hl),fun t _ ht=>getD_in (by simpa using ht) (getD_replicate_false _ _)⟩
 refine wp_region_noPanic (wp_region_any hm ?_)
 have hdl:(ol.drop n).length=ol.toArray.size - n:=by simp
 have H:=wpFore.any (g:=ol.toArray.size - n) (fun d' a' w' hL=>by
  have:=wpAny_of_seq (md:=.any) (ol.drop n) n d' a' w' (fun j=>by simp [List.getElem?_drop]) (by rw [hdl];exact hL.1) hL.2
  rwa [hdl] at this) _ _ _ _ (wpBy.fore hsel hs hc hn (fun _ _ _ _ _ h=>h) l _ a w.drew inv0 hB hS h)
 rw [hl] at H
 have e:n+(ol.toArray.size - n)=ol.toArray.size:=by omega
 rw [e] at H
 exact H
theorem wpBy.look {K:Act→World→Prop} {i:Nat} {l:List (Nat × Bool)} {a:Act} {w:World} (o:Oper) (v:Value) (ho:ops[i]?=some o)
  (hw:Region.wanted o (yielded ops a.tmps)=true) (hy:∀ w,S w→(execOp a.eval o).run P w = .ok (.value v) w) (h:wpBy P ops Q S K l (a.put o.dst v) w):wpBy P ops Q S K ((i,true) :: l) a w :=
 ⟨o,v,ho,.inl ⟨hw,hy⟩,h⟩
theorem wpBy.do {K:Act→World→Prop} {i:Nat} {l:List (Nat × Bool)} {a:Act} {w:World} (o:Oper) (ho:ops[i]?=some o)
  (h:∀ K':Act→World→Prop,Shut (∀ a w,S w→wpBy P ops Q S K l a w→K' a w)→if Region.wanted o (yielded ops a.tmps)=true then Oper.wp P o a w K' Q else K' (a.put o.dst undef) w):wpBy P ops Q S K ((i,false) :: l) a w :=
 wpOp_step ho (fun K' hK=>h K' (fun a w hS hW=>hK a w ⟨hS,hW⟩))
end
end Go.Proofs.YtlhddcingeneaaaGreatDoor
/-! A region that draws its order,whose operations only read and whose callees leave what stands below as it was: one walk in the order of the text. -/
namespace Go.Proofs.YtlhddcingeneaaaGreatDoor
open Go.RowKit Go
section
variable {P:Program} {ops:Array Oper} {C:World→Prop} {Q:Act→Prop} {a:Act} {o:Oper} {rest:List Oper}
theorem qb_run (v:Value) (hw:Region.wanted o (yielded ops a.tmps)=true) (hy:∀ w,C w→(execOp a.eval o).run P w = .ok (.value v) w) (h:wpQuiet P ops C Q rest (a.put o.dst v)):wpQuiet P ops C Q (o :: rest) a :=
 BigFrame.wpQuiet_want hw fun K hK=>⟨v,fun w hC=>by unfold Oper.quietAt;rw [hy w hC];exact ⟨rfl,rfl⟩,hK _ h⟩
theorem qb_call (v:Value) (f:FuncId) (args:Array Value) (hw:Region.wanted o (yielded ops a.tmps)=true) (hf:∀ w,(execOp a.eval o).run P w = .ok (.enter f args) w) (hy:∀ w,C w→Calls P f args w (fun e w'=>e = .returned v∧C w'))
  (h:wpQuiet P ops C Q rest (a.put o.dst v)):wpQuiet P ops C Q (o :: rest) a :=
 BigFrame.wpQuiet_want hw fun K hK=>⟨v,fun w hC=>by unfold Oper.quietAt;rw [hf w];exact ⟨rfl,hy w hC⟩,hK _ h⟩
theorem qb_mv (v:Value) (x:Operand) (ho:(o.op = .move x∨o.op = .assign x)) (hw:Region.wanted o (yielded ops a.tmps)=true) (hv:a.eval x=v) (h:wpQuiet P ops C Q rest (a.put o.dst v)):wpQuiet P ops C Q (o :: rest) a :=
 BigFrame.wpQuiet_want hw fun K hK=>ho.elim (fun ho=>BigFrame.quiet_move x ho (hK _ (by rw [hv];exact h))) (fun ho=>BigFrame.quiet_assign x ho (hK _ (by rw [hv];exact h)))
end
def CB (W w:World):Prop:=Below W.heap.size W w
theorem CB.refl (W:World):CB W W:=Below.refl _ _
theorem CB.drew0 (W:World):CB W W.drew:=(Below.refl _ _).drew
theorem CB.of_drew {W w:World} (h:Below W.drew.heap.size W.drew w):CB W w:=(CB.drew0 W).trans h
theorem CB.step {W w w':World} (h:CB W w) (hb:Below w.heap.size w w'):CB W w':=h.trans (hb.mono h.size)
theorem region_qb {P:Program} {id:Nat} {Q:Exit→Act→World→Prop} {a:Act} {W:World} {l:List Oper} (hm:P.follows .mixedOrders=true) (hB:Region.lexB .any l.toArray=true)
  (h:wpQuiet P l.toArray (CB W) (fun a'=>∀ w,CB W w→Q .normal a' w) l a):(Code.region id l.toArray true).wp P Q a W :=
 wp_region_quiet (C:=CB W) hm hB ⟨rfl,rfl,rfl,Nat.le_refl _,fun _ _=>rfl⟩ (by simpa using h)
end Go.Proofs.YtlhddcingeneaaaGreatDoor
/-! A region that draws its order,whose first operations only read (their callees leave what stands below as it was),and whose last ones come one behind the other: the first in the order of the text,the last as a list. -/
namespace Go.Proofs.YtlhddcingeneaaaGreatDoor
open Go.RowKit Go
section
variable {P:Program} {ops:Array Oper} {C:World→Prop} {md:Region.Mode}
def wpHeadQ (P:Program) (md:Region.Mode) (ops:Array Oper) (C:World→Prop) (n:Nat) (L:Array Bool→Act→Prop):Nat→Array Bool→Act→Prop
 | 0,d,a=>L d a
 | f+1,d,a=>Region.ready md ops d ≠ []∧∀ i ∈ Region.ready md ops d,i<n∧qOp P ops C i (wpHeadQ P md ops C n L f (d.setIfInBounds i true)) a
theorem wpHeadQ.any {n g:Nat} {L:Array Bool→Act→Prop} {Q':Exit→Act→World→Prop} (hL:∀ d a w,C w→L d a→wpAny P md ops Q' g d a w) :
  ∀ (f:Nat) (d:Array Bool) (a:Act) (w:World),C w→wpHeadQ P md ops C n L f d a→wpAny P md ops Q' (f+g) d a w:=by
 intro f
 induction f with
 | zero=>intro d a w hC h;rw [Nat.zero_add];exact hL _ _ _ hC h
 | succ f ih =>
  intro d a w hC h
  rw [show f+1+g=(f+g)+1 by omega]
  exact ⟨fun h0=>absurd h0 h.1,fun i hi=>wpOp_of_qOp hC (fun a' w' hC' h'=>ih _ a' w' hC' h') (h.2 i hi).2⟩
theorem wpHeadQ.first {n i:Nat} {oi:Oper} {v:Value} {L:Array Bool→Act→Prop} (hi:ops[i]?=some oi) (hsel:Region.noSelect ops=true)
  (hs:Region.sinkB md ops n=true) (hc:Region.chainB md ops n=true) (hn:n<ops.size) (hin:i<n)
  (hL:∀ d a,L d a→∀ j ∈ Region.ready md ops d,n≤j) :
  ∀ (f:Nat) (d:Array Bool) (a:Act),HeadInv md ops n d →
   (∀ j oj,ops[j]?=some oj→j≠i→d.getD j true=false→(∀ e ∈ oj.after,Region.binds md e=true→e.on≠i)→oi.apart ops oj=true) →
   i ∈ Region.ready md ops d→YieldsIn P ops C oi v a →
   wpHeadQ P md ops C n L f (d.setIfInBounds i true) (a.put oi.dst v)→wpHeadQ P md ops C n L (f+1) d a:=by
 intro f
 induction f with
 | zero =>
  intro d a inv _ hr hy H
  refine ⟨fun h=>(by rw [h] at hr;cases hr),fun j hj=>?_⟩
  have hjn:j<n:=by
   rcases Nat.lt_or_ge j n with h | h
   ·exact h
   ·exact absurd hj (tail_waits hs hc hn inv _ i rfl hin (mem_ready.1 hr).1 j h)
  by_cases hji:j=i
  ·rw [hji] at hjn ⊢;exact ⟨hjn,hy.qOp hi H⟩
  ·have:=hL _ _ H j (ready_mono hj hji);omega
 | succ f ih =>
  intro d a inv hfree hr hy H
  have hun:=(mem_ready.1 hr).1
  refine ⟨fun h=>(by rw [h] at hr;cases hr),fun j hj=>?_⟩
  have hjn:j<n:=by
   rcases Nat.lt_or_ge j n with h | h
   ·exact h
   ·exact absurd hj (tail_waits hs hc hn inv _ i rfl hin hun j h)
  refine ⟨hjn,?_⟩
  by_cases hji:j=i
  ·rw [hji];exact hy.qOp hi H
  ·obtain ⟨hjun,oj,hoj,hall⟩:=mem_ready.1 hj
   have hno:∀ e ∈ oj.after,Region.binds md e=true→e.on≠i:=fun e he hb heq=>by
    have:=hall e he hb
    rw [heq,getD_both hun] at this
    cases this
   have h2:=qOp_put hoj (hfree j oj hoj hji hjun hno) (fun cs b=>Region.noSelect_spec hsel i oi cs b hi) (fun cs b=>Region.noSelect_spec hsel j oj cs b hoj) hy (H.2 j (ready_mono hj hji)).2
   refine qOp_mono (fun a' h3=>ih (d.setIfInBounds j true) a' (inv.set hj hjn) (fun k ok hk hki hkun hkno=>hfree k ok hk hki ?_ hkno) (ready_mono hr (Ne.symm hji)) h3.1 ?_) h2
   ·by_cases hjk:j=k
    ·rw [← hjk];exact hjun
    ·rwa [getD_set_ne true hjk] at hkun
   ·rw [Array.setIfInBounds_comm _ _ hji];exact h3.2
theorem wpHeadQ.lex {n g:Nat} {K:Act→Prop} (hsel:Region.noSelect ops=true) (hs:Region.sinkB md ops n=true) (hc:Region.chainB md ops n=true) (hn:n<ops.size) :
  ∀ (l:List Oper) (k:Nat) (d:Array Bool) (a:Act),(∀ j,j<l.length→l[j]?=ops[k+j]?)→k+l.length=n→HeadInv md ops n d →
  Region.lexHead md ops g l.length k d=true→wpQuiet P ops C K l a →
  wpHeadQ P md ops C n (fun d' a'=>Region.seqB md ops g n d'=true∧K a') l.length d a:=by
 intro l
 induction l with
 | nil =>
  intro k d a _ hk _ hB h
  obtain rfl:k=n:=by simpa using hk
  exact ⟨by simpa [Region.lexHead] using hB,h⟩
 | cons o l ih =>
  intro k d a hl hk inv hB h
  have h0:ops[k]?=some o:=by simpa using (hl 0 (by simp)).symm
  simp only [List.length_cons,Region.lexHead,Bool.and_eq_true] at hB
  obtain ⟨⟨hr,hf⟩,hB'⟩:=hB
  have hkn:k<n:=by simp only [List.length_cons] at hk;omega
  have hr':k ∈ Region.ready md ops d:=by simpa using hr
  have hst:qOp P ops C k (wpQuiet P ops C K l) a:=by unfold qOp;simp only [h0];exact h
  obtain ⟨v,hy,hK⟩:=yieldsIn_of_qOp h0 hst
  exact wpHeadQ.first h0 hsel hs hc hn hkn (fun d' a' hL=>seqB_ready hL.1) l.length d a inv (Region.free_spec h0 hf) hr' hy
   (ih (k+1) _ _ (fun j hj=>by have:=hl (j+1) (by simp;omega);simpa [Nat.add_assoc,Nat.add_comm 1 j] using this) (by simp only [List.length_cons] at hk;omega) (inv.set hr' hkn) hB' hK)
end
end Go.Proofs.YtlhddcingeneaaaGreatDoor
/-! A region that draws its order: first operations that only read (their callees leave what stands below as it was),then new blocks for the results,then stores,one behind the other. The new blocks may come up at any time: their places are whatever places. -/
namespace Go.Proofs.YtlhddcingeneaaaGreatDoor
open Go.RowKit Go
section
variable {P:Program} {ops:Array Oper} {md:Region.Mode} {W:World} {al:Nat→Option Obj}
def YieldsB (P:Program) (ops:Array Oper) (W:World) (o:Oper) (v:Value) (a:Act):Prop :=
 (Region.wanted o (yielded ops a.tmps)=true∧∀ w,CB W w→o.quietAt P a (CB w) w v)∨(Region.wanted o (yielded ops a.tmps)=false∧v=undef)
theorem YieldsB.of_same {o:Oper} {v:Value} {a a':Act} (hy:YieldsB P ops W o v a) (he:execOp a'.eval o=execOp a.eval o)
  (hw:Region.wanted o (yielded ops a'.tmps)=Region.wanted o (yielded ops a.tmps)):YieldsB P ops W o v a':=by
 unfold YieldsB Oper.quietAt at *
 rw [he,hw]
 exact hy
abbrev Gh:=Nat→Option Nat
def Gh.set (g:Gh) (i b:Nat):Gh:=fun j=>if j=i then some b else g j
theorem Gh.set_comm (g:Gh) {i j:Nat} (h:i≠j) (b c:Nat):Gh.set (Gh.set g i b) j c=Gh.set (Gh.set g j c) i b:=by
 funext k
 unfold Gh.set
 by_cases h1:k=j
 ·subst h1;simp [Ne.symm h]
 ·by_cases h2:k=i
  ·subst h2;simp [h1]
  ·simp [h1,h2]
def ptr (b:Nat):Value:=.pointer (some ⟨b,0,none⟩)
def bqOp (P:Program) (ops:Array Oper) (W:World) (al:Nat→Option Obj) (i:Nat) (K:Act→Gh→Prop) (a:Act) (g:Gh):Prop :=
 match ops[i]? with
 | none=>False
 | some o=>match al i with
  | some _=>∀ b,W.heap.size≤b→K (a.put o.dst (ptr b)) (g.set i b)
  | none=>∃ v,YieldsB P ops W o v a∧K (a.put o.dst v) g
theorem bqOp_mono {i:Nat} {K K':Act→Gh→Prop} {a:Act} {g:Gh} (h:∀ a g,K a g→K' a g) (hh:bqOp P ops W al i K a g):bqOp P ops W al i K' a g:=by
 unfold bqOp at *
 split
 ·rename_i h0;simp only [h0] at hh
 ·rename_i o h0
  simp only [h0] at hh
  split
  ·rename_i h1;simp only [h1] at hh;exact fun b hb=>h _ _ (hh b hb)
  ·rename_i h1;simp only [h1] at hh;obtain ⟨v,h2,h3⟩:=hh;exact ⟨v,h2,h _ _ h3⟩
def InvG (W:World) (al:Nat→Option Obj) (g:Gh) (w:World):Prop :=
 CB W w∧(∀ i b ob,g i=some b→al i=some ob→w.heap[b]?=some ob)∧(∀ i b,g i=some b→W.heap.size≤b∧b<w.heap.size)∧∀ i j b,g i=some b→g j=some b→i=j
theorem InvG.step {g:Gh} {w w':World} (h:InvG W al g w) (hb:CB w w'):InvG W al g w':=by
 obtain ⟨h1,h2,h3,h4⟩:=h
 refine ⟨h1.step hb,fun i b ob hi ho=>?_,fun i b hi=>⟨(h3 i b hi).1,Nat.lt_of_lt_of_le (h3 i b hi).2 hb.size⟩,h4⟩
 rw [hb.block b (h3 i b hi).2];exact h2 i b ob hi ho
theorem InvG.alloc {g:Gh} {w:World} (h:InvG W al g w) {i:Nat} {ob:Obj} (hi:al i=some ob):InvG W al (g.set i w.heap.size) (w.alloc ob):=by
 have hb:CB w (w.alloc ob):=(Below.refl _ _).alloc (Nat.le_refl _) ob
 obtain ⟨h1,h2,h3,h4⟩:=h.step hb
 obtain ⟨g1,g2,g3,g4⟩:=h
 have hlt:∀ j b,g j=some b→b<w.heap.size:=fun j b hj=>(g3 j b hj).2
 refine ⟨h1,fun j b o hj ho=>?_,fun j b hj=>?_,fun j k b hj hk=>?_⟩
 ·unfold Gh.set at hj
  by_cases e:j=i
  ·subst e
   simp at hj
   subst hj
   rw [hi] at ho
   cases ho
   exact heap_alloc_new w _
  ·simp [e] at hj;exact h2 j b o hj ho
 ·unfold Gh.set at hj
  by_cases e:j=i
  ·simp [e] at hj;subst hj;exact ⟨g1.size,by simp⟩
  ·simp [e] at hj;exact h3 j b hj
 ·unfold Gh.set at hj hk
  by_cases e:j=i <;> by_cases e':k=i
  ·rw [e,e']
  ·simp [e] at hj;simp [e'] at hk;have:=hlt k b hk;omega
  ·simp [e] at hj;simp [e'] at hk;have:=hlt j b hj;omega
  ·simp [e] at hj;simp [e'] at hk;exact h4 j k b hj hk
def Allocs (P:Program) (ops:Array Oper) (al:Nat→Option Obj):Prop :=
 ∀ i o ob,ops[i]?=some o→al i=some ob→∀ a:Act,Region.wanted o (yielded ops a.tmps)=true∧∀ w,(execOp a.eval o).run P w = .ok (.value (ptr w.heap.size)) (w.alloc ob)
theorem wpOp_of_bqOp (hA:Allocs P ops al) {i:Nat} {K:Act→Gh→Prop} {K':Act→World→Prop} {Q':Exit→Act→World→Prop} {a:Act} {g:Gh} {w:World} (hI:InvG W al g w)
  (h:∀ a' g' w',InvG W al g' w'→K a' g'→K' a' w') (hh:bqOp P ops W al i K a g):wpOp P ops Q' i K' a w:=by
 unfold bqOp at hh
 unfold wpOp
 split
 ·rename_i h0;simp only [h0] at hh
 ·rename_i o h0
  simp only [h0] at hh
  cases h1:al i with
  | some ob =>
   simp only [h1] at hh
   obtain ⟨hw,hr⟩:=hA i o ob h0 h1 a
   rw [if_pos hw]
   refine .inl ?_
   unfold Oper.wp
   rw [hr w]
   exact h _ _ _ (hI.alloc h1) (hh _ hI.1.size)
  | none =>
   simp only [h1] at hh
   obtain ⟨v,hy,hK⟩:=hh
   rcases hy with ⟨hw,hq⟩ | ⟨hw,rfl⟩
   ·rw [if_pos hw]
    refine .inl ?_
    have h3:=hq w hI.1
    unfold Oper.quietAt at h3
    unfold Oper.wp
    generalize (execOp a.eval o).run P w=r at *
    cases r with
    | ok n w' =>
     cases n <;> simp only [Oper.quietUpon] at h3 <;> simp only [Oper.upon]
     case value u=>obtain ⟨e1,e2⟩:=h3;rw [e1,e2];exact h _ _ _ hI hK
     case skip=>obtain ⟨e1,e2⟩:=h3;rw [e1,← e2];exact h _ _ _ hI hK
     case enter f args =>
      obtain ⟨e1,hc⟩:=h3
      rw [e1]
      exact hc.mono fun e w'' ⟨he,hw''⟩=>by subst he;exact h _ _ _ (hI.step hw'') hK
    | halt x w'=>simp only [Oper.quietUpon] at h3
   ·rw [if_neg (by simp [hw])]
    exact h _ _ _ hI hK
def wpHeadB (P:Program) (md:Region.Mode) (ops:Array Oper) (W:World) (al:Nat→Option Obj) (n:Nat) (L:Array Bool→Act→Gh→Prop):Nat→Array Bool→Act→Gh→Prop
 | 0,d,a,g=>L d a g
 | f+1,d,a,g=>Region.ready md ops d ≠ []∧∀ i ∈ Region.ready md ops d,i<n∧bqOp P ops W al i (fun a' g'=>wpHeadB P md ops W al n L f (d.setIfInBounds i true) a' g') a g
theorem wpHeadB.any (hA:Allocs P ops al) {n k:Nat} {L:Array Bool→Act→Gh→Prop} {Q':Exit→Act→World→Prop} (hL:∀ d a g w,InvG W al g w→L d a g→wpAny P md ops Q' k d a w) :
  ∀ (f:Nat) (d:Array Bool) (a:Act) (g:Gh) (w:World),InvG W al g w→wpHeadB P md ops W al n L f d a g→wpAny P md ops Q' (f+k) d a w:=by
 intro f
 induction f with
 | zero=>intro d a g w hI h;rw [Nat.zero_add];exact hL _ _ _ _ hI h
 | succ f ih =>
  intro d a g w hI h
  rw [show f+1+k=(f+k)+1 by omega]
  exact ⟨fun h0=>absurd h0 h.1,fun i hi=>wpOp_of_bqOp hA hI (fun a' g' w' hI' h'=>ih _ a' g' w' hI' h') (h.2 i hi).2⟩
theorem bqOp_put {j:Nat} {oi oj:Oper} {v:Value} (hj:ops[j]?=some oj) (hap:oi.apart ops oj=true)
  (hsi:∀ cs b,oi.op ≠ .select cs b) (hsj:∀ cs b,oj.op ≠ .select cs b) {K:Act→Gh→Prop} {a:Act} {g:Gh}
  (hy:YieldsB P ops W oi v a) (h:bqOp P ops W al j K (a.put oi.dst v) g) :
  bqOp P ops W al j (fun a' g'=>YieldsB P ops W oi v a'∧K (a'.put oi.dst v) g') a g:=by
 obtain ⟨h1,h2,h3⟩:=Oper.apart_spec hap
 have keep:∀ (a:Act),YieldsB P ops W oi v a→∀ u,YieldsB P ops W oi v (a.put oj.dst u):=fun a hy u =>
  hy.of_same (execOp_put oi hsi a oj.dst u h3) (wanted_put oi a oj.dst u h3)
 unfold bqOp at *
 simp only [hj] at *
 cases ha:al j with
 | some ob =>
  simp only [ha] at *
  exact fun b hb=>⟨keep a hy _,by rw [← Act.put_comm a v (ptr b) h2];exact h b hb⟩
 | none =>
  simp only [ha] at *
  obtain ⟨u,hu,hn⟩:=h
  refine ⟨u,?_,keep a hy u,by rw [← Act.put_comm a v u h2];exact hn⟩
  unfold YieldsB Oper.quietAt at *
  rw [wanted_put oj a oi.dst v h1,execOp_put oj hsj a oi.dst v h1] at hu
  exact hu
theorem wpHeadB.first {n i:Nat} {oi:Oper} {v:Value} {L:Array Bool→Act→Gh→Prop} (hi:ops[i]?=some oi) (hai:al i=none) (hsel:Region.noSelect ops=true)
  (hs:Region.sinkB md ops n=true) (hc:Region.chainB md ops n=true) (hn:n<ops.size) (hin:i<n)
  (hL:∀ d a g,L d a g→∀ j ∈ Region.ready md ops d,n≤j) :
  ∀ (f:Nat) (d:Array Bool) (a:Act) (g:Gh),HeadInv md ops n d →
   (∀ j oj,ops[j]?=some oj→j≠i→d.getD j true=false→(∀ e ∈ oj.after,Region.binds md e=true→e.on≠i)→oi.apart ops oj=true) →
   i ∈ Region.ready md ops d→YieldsB P ops W oi v a →
   wpHeadB P md ops W al n L f (d.setIfInBounds i true) (a.put oi.dst v) g→wpHeadB P md ops W al n L (f+1) d a g:=by
 intro f
 induction f with
 | zero =>
  intro d a g inv _ hr hy H
  refine ⟨fun h=>(by rw [h] at hr;cases hr),fun j hj=>?_⟩
  have hjn:j<n:=by
   rcases Nat.lt_or_ge j n with h | h
   ·exact h
   ·exact absurd hj (tail_waits hs hc hn inv _ i rfl hin (mem_ready.1 hr).1 j h)
  by_cases hji:j=i
  ·rw [hji] at hjn ⊢;refine ⟨hjn,?_⟩;unfold bqOp;simp only [hi,hai];exact ⟨v,hy,H⟩
  ·have:=hL _ _ _ H j (ready_mono hj hji);omega
 | succ f ih =>
  intro d a g inv hfree hr hy H
  have hun:=(mem_ready.1 hr).1
  refine ⟨fun h=>(by rw [h] at hr;cases hr),fun j hj=>?_⟩
  have hjn:j<n:=by
   rcases Nat.lt_or_ge j n with h | h
   ·exact h
   ·exact absurd hj (tail_waits hs hc hn inv _ i rfl hin hun j h)
  refine ⟨hjn,?_⟩
  by_cases hji:j=i
  ·rw [hji];unfold bqOp;simp only [hi,hai];exact ⟨v,hy,H⟩
  ·obtain ⟨hjun,oj,hoj,hall⟩:=mem_ready.1 hj
   have hno:∀ e ∈ oj.after,Region.binds md e=true→e.on≠i:=fun e he hb heq=>by
    have:=hall e he hb
    rw [heq,getD_both hun] at this
    cases this
   have h2:=bqOp_put hoj (hfree j oj hoj hji hjun hno) (fun cs b=>Region.noSelect_spec hsel i oi cs b hi) (fun cs b=>Region.noSelect_spec hsel j oj cs b hoj) hy (H.2 j (ready_mono hj hji)).2
   refine bqOp_mono (fun a' g' h3=>ih (d.setIfInBounds j true) a' g' (inv.set hj hjn) (fun k ok hk hki hkun hkno=>hfree k ok hk hki ?_ hkno) (ready_mono hr (Ne.symm hji)) h3.1 ?_) h2
   ·by_cases hjk:j=k
    ·rw [← hjk];exact hjun
    ·rwa [getD_set_ne true hjk] at hkun
   ·rw [Array.setIfInBounds_comm _ _ hji];exact h3.2
theorem wpHeadB.firstA {n i:Nat} {oi:Oper} {ob:Obj} {L:Array Bool→Act→Gh→Prop} (hi:ops[i]?=some oi) (hai:al i=some ob)
  (hs:Region.sinkB md ops n=true) (hc:Region.chainB md ops n=true) (hn:n<ops.size) (hin:i<n)
  (hL:∀ d a g,L d a g→∀ j ∈ Region.ready md ops d,n≤j) :
  ∀ (f:Nat) (d:Array Bool) (a:Act) (g:Gh),HeadInv md ops n d →
   (∀ j,j<n→d.getD j true=false→(al j).isSome=true) →
   (∀ j oj,ops[j]?=some oj→j≠i→d.getD j true=false→(∀ e ∈ oj.after,Region.binds md e=true→e.on≠i)→oi.apart ops oj=true) →
   i ∈ Region.ready md ops d →
   (∀ b,W.heap.size≤b→wpHeadB P md ops W al n L f (d.setIfInBounds i true) (a.put oi.dst (ptr b)) (g.set i b))→wpHeadB P md ops W al n L (f+1) d a g:=by
 intro f
 induction f with
 | zero =>
  intro d a g inv hall _ hr H
  refine ⟨fun h=>(by rw [h] at hr;cases hr),fun j hj=>?_⟩
  have hjn:j<n:=by
   rcases Nat.lt_or_ge j n with h | h
   ·exact h
   ·exact absurd hj (tail_waits hs hc hn inv _ i rfl hin (mem_ready.1 hr).1 j h)
  by_cases hji:j=i
  ·rw [hji] at hjn ⊢;refine ⟨hjn,?_⟩;unfold bqOp;simp only [hi,hai];exact H
  ·have:=hL _ _ _ (H _ (Nat.le_refl _)) j (ready_mono hj hji);omega
 | succ f ih =>
  intro d a g inv hal hfree hr H
  have hun:=(mem_ready.1 hr).1
  refine ⟨fun h=>(by rw [h] at hr;cases hr),fun j hj=>?_⟩
  have hjn:j<n:=by
   rcases Nat.lt_or_ge j n with h | h
   ·exact h
   ·exact absurd hj (tail_waits hs hc hn inv _ i rfl hin hun j h)
  refine ⟨hjn,?_⟩
  by_cases hji:j=i
  ·rw [hji];unfold bqOp;simp only [hi,hai];exact H
  ·obtain ⟨hjun,oj,hoj,hall⟩:=mem_ready.1 hj
   have hno:∀ e ∈ oj.after,Region.binds md e=true→e.on≠i:=fun e he hb heq=>by
    have:=hall e he hb
    rw [heq,getD_both hun] at this
    cases this
   obtain ⟨h1,h2,h3⟩:=Oper.apart_spec (hfree j oj hoj hji hjun hno)
   have hja:=hal j hjn hjun
   obtain ⟨obj,haj⟩:=Option.isSome_iff_exists.1 hja
   unfold bqOp
   simp only [hoj,haj]
   intro c hcc
   refine ih (d.setIfInBounds j true) _ _ (inv.set hj hjn) (fun k hk hkun=>hal k hk ?_) (fun k ok hk hki hkun hkno=>hfree k ok hk hki ?_ hkno) (ready_mono hr (Ne.symm hji)) (fun b hb=>?_)
   ·by_cases hjk:j=k
    ·rw [← hjk];exact hjun
    ·rwa [getD_set_ne true hjk] at hkun
   ·by_cases hjk:j=k
    ·rw [← hjk];exact hjun
    ·rwa [getD_set_ne true hjk] at hkun
   ·have h4:=((H b hb).2 j (ready_mono hj hji)).2
    unfold bqOp at h4
    simp only [hoj,haj] at h4
    have h5:=h4 c hcc
    rw [Array.setIfInBounds_comm _ _ hji,← Act.put_comm a (ptr b) (ptr c) h2,Gh.set_comm g hji]
    exact h5
theorem getD_set_self (d:Array Bool) (i:Nat):(d.setIfInBounds i true).getD i true=true:=by
 rcases Nat.lt_or_ge i d.size with h | h
 ·simp [h]
 ·simp
def wpQB (P:Program) (ops:Array Oper) (W:World) (K:Act→Prop):List Oper→Act→Prop
 | [],a=>K a
 | o :: rest,a=>∃ v,YieldsB P ops W o v a∧wpQB P ops W K rest (a.put o.dst v)
def wpAl (W:World) (K:Act→Gh→Prop):List Oper→Nat→Act→Gh→Prop
 | [],_,a,g=>K a g
 | o :: rest,i,a,g=>∀ b,W.heap.size≤b→wpAl W K rest (i+1) (a.put o.dst (ptr b)) (g.set i b)
def alOf (m:Nat) (obs:List Obj) (i:Nat):Option Obj:=if m≤i then obs[i - m]? else none
theorem wpHeadB.lexA {m n k:Nat} {obs:List Obj} {K:Act→Gh→Prop} (hs:Region.sinkB md ops n=true) (hc:Region.chainB md ops n=true) (hn:n<ops.size) (hm:m+obs.length=n) :
  ∀ (l:List Oper) (i:Nat) (d:Array Bool) (a:Act) (g:Gh),(∀ j,j<l.length→l[j]?=ops[i+j]?)→i+l.length=n→m≤i→HeadInv md ops n d→(∀ j,j<i→d.getD j true=true) →
  Region.lexHead md ops k l.length i d=true→wpAl W K l i a g →
  wpHeadB P md ops W (alOf m obs) n (fun d' a' g'=>Region.seqB md ops k n d'=true∧K a' g') l.length d a g:=by
 intro l
 induction l with
 | nil =>
  intro i d a g _ hi _ _ _ hB h
  obtain rfl:i=n:=by simpa using hi
  exact ⟨by simpa [Region.lexHead] using hB,h⟩
 | cons o l ih =>
  intro i d a g hl hi hmi inv hdone hB h
  have h0:ops[i]?=some o:=by simpa using (hl 0 (by simp)).symm
  simp only [List.length_cons,Region.lexHead,Bool.and_eq_true] at hB
  obtain ⟨⟨hr,hf⟩,hB'⟩:=hB
  have hin:i<n:=by simp only [List.length_cons] at hi;omega
  have hr':i ∈ Region.ready md ops d:=by simpa using hr
  have hso:∀ j,m≤j→j<n→(alOf m obs j).isSome=true:=fun j h1 h2=>by
   unfold alOf;rw [if_pos h1];simp;omega
  obtain ⟨ob,hob⟩:=Option.isSome_iff_exists.1 (hso i hmi hin)
  refine wpHeadB.firstA h0 hob hs hc hn hin (fun d' a' g' hL=>seqB_ready hL.1) l.length d a g inv (fun j hj hju=>?_) (Region.free_spec h0 hf) hr' (fun b hb=>?_)
  ·rcases Nat.lt_or_ge j i with h1 | h1
   ·rw [hdone j h1] at hju;cases hju
   ·exact hso j (by omega) hj
  ·refine ih (i+1) _ _ _ (fun j hj=>by have:=hl (j+1) (by simp;omega);simpa [Nat.add_assoc,Nat.add_comm 1 j] using this) (by simp only [List.length_cons] at hi;omega) (by omega) (inv.set hr' hin) (fun j hj=>?_) hB' (h b hb)
   by_cases hji:i=j
   ·subst hji;exact getD_set_self d i
   ·rw [getD_set_ne true hji];exact hdone j (by omega)
theorem wpHeadB.lex {m n k:Nat} {obs:List Obj} {K:Act→Gh→Prop} (hsel:Region.noSelect ops=true) (hs:Region.sinkB md ops n=true) (hc:Region.chainB md ops n=true) (hn:n<ops.size) (hm:m+obs.length=n)
  (la:List Oper) (hla:∀ j,j<la.length→la[j]?=ops[m+j]?) (hlm:m+la.length=n) :
  ∀ (l:List Oper) (i:Nat) (d:Array Bool) (a:Act) (g:Gh),(∀ j,j<l.length→l[j]?=ops[i+j]?)→i+l.length=m→HeadInv md ops n d→(∀ j,j<i→d.getD j true=true) →
  Region.lexHead md ops k (l.length+la.length) i d=true→wpQB P ops W (fun a'=>wpAl W K la m a' g) l a →
  wpHeadB P md ops W (alOf m obs) n (fun d' a' g'=>Region.seqB md ops k n d'=true∧K a' g') (l.length+la.length) d a g:=by
 intro l
 induction l with
 | nil =>
  intro i d a g _ hi inv hdone hB h
  obtain rfl:i=m:=by simpa using hi
  simp only [List.length_nil,Nat.zero_add] at hB ⊢
  exact wpHeadB.lexA hs hc hn hm la i d a g hla hlm (Nat.le_refl _) inv hdone hB h
 | cons o l ih =>
  intro i d a g hl hi inv hdone hB h
  have h0:ops[i]?=some o:=by simpa using (hl 0 (by simp)).symm
  simp only [List.length_cons] at hi
  rw [List.length_cons,show l.length+1+la.length=(l.length+la.length)+1 by omega] at hB ⊢
  simp only [Region.lexHead,Bool.and_eq_true] at hB
  obtain ⟨⟨hr,hf⟩,hB'⟩:=hB
  have hin:i<n:=by omega
  have hr':i ∈ Region.ready md ops d:=by simpa using hr
  have hno:alOf m obs i=none:=by unfold alOf;rw [if_neg (by omega)]
  obtain ⟨v,hy,hK⟩:=h
  refine wpHeadB.first h0 hno hsel hs hc hn hin (fun d' a' g' hL=>seqB_ready hL.1) (l.length+la.length) d a g inv (Region.free_spec h0 hf) hr' hy ?_
  refine ih (i+1) _ _ _ (fun j hj=>by have:=hl (j+1) (by simp;omega);simpa [Nat.add_assoc,Nat.add_comm 1 j] using this) (by omega) (inv.set hr' hin) (fun j hj=>?_) hB' hK
  by_cases hji:i=j
  ·subst hji;exact getD_set_self d i
  ·rw [getD_set_ne true hji];exact hdone j (by omega)
theorem region_bq {id:Nat} {Q:Exit→Act→World→Prop} {a:Act} {l:List Oper} (m:Nat) (obs:List Obj) (hmm:P.follows .mixedOrders=true) (hB:Region.lexTailB .any l.toArray (m+obs.length)=true)
  (hA:Allocs P l.toArray (alOf m obs))
  (h:wpQB P l.toArray W (fun a'=>wpAl W (fun a' g'=>∀ w',InvG W (alOf m obs) g' w'→wpList P l.toArray Q (l.drop (m+obs.length)) a' w') ((l.drop m).take obs.length) m a' (fun _=>none)) (l.take m) a):(Code.region id l.toArray true).wp P Q a W:=by
 simp only [Region.lexTailB,Bool.and_eq_true,decide_eq_true_eq] at hB
 obtain ⟨⟨⟨⟨hsel,hn⟩,hs⟩,hc⟩,hlex⟩:=hB
 have hn':m+obs.length<l.length:=by simpa using hn
 have htl:(l.take m).length=m:=by simp;omega
 have hal:((l.drop m).take obs.length).length=obs.length:=by simp;omega
 have hdl:(l.drop (m+obs.length)).length=l.toArray.size - (m+obs.length):=by simp
 have inv0:HeadInv .any l.toArray (m+obs.length) (Array.replicate l.toArray.size false) :=
  ⟨by simp,fun j oj _ hl=>(by rw [getD_replicate_false] at hl;cases hl),fun t _ ht=>getD_in (by simpa using ht) (getD_replicate_false _ _)⟩
 have H:=wpHeadB.lex (md:=.any) (k:=l.toArray.size - (m+obs.length)) (obs:=obs) hsel hs hc hn rfl ((l.drop m).take obs.length) (fun j hj=>by
   rw [hal] at hj
   simp [List.getElem?_drop,hj]) (by rw [hal]) (l.take m) 0 _ a (fun _=>none) (fun j hj=>by
   have hj':j<m:=by rw [htl] at hj;exact hj
   simp [hj']) (by simpa using htl) inv0 (fun j hj=>by omega) (by rw [htl,hal];exact hlex) h
 refine wp_region_any hmm ?_
 have hI:InvG W (alOf m obs) (fun _=>none) { W with drawn:=W.drawn+1 }:=⟨⟨rfl,rfl,rfl,Nat.le_refl _,fun _ _=>rfl⟩,fun _ _ _ h=>(by cases h),fun _ _ h=>(by cases h),fun _ _ _ h=>by cases h⟩
 have:=wpHeadB.any (Q':=Q) (k:=l.toArray.size - (m+obs.length)) hA (fun d a' g' w' hI' hL=>by
  have:=wpAny_of_seq (md:=.any) (Q':=Q) (l.drop (m+obs.length)) (m+obs.length) d a' w' (fun j=>by simp [List.getElem?_drop]) (by rw [hdl];exact hL.1) (hL.2 w' hI')
  rwa [hdl] at this) _ _ _ _ _ hI H
 rw [htl,hal,show m+obs.length+(l.toArray.size - (m+obs.length))=l.toArray.size by omega] at this
 exact this
variable {K:Act→Prop} {a:Act} {o:Oper} {rest:List Oper}
theorem bq_run (v:Value) (hw:Region.wanted o (yielded ops a.tmps)=true) (hy:∀ w,CB W w→(execOp a.eval o).run P w = .ok (.value v) w) (h:wpQB P ops W K rest (a.put o.dst v)):wpQB P ops W K (o :: rest) a :=
 ⟨v,.inl ⟨hw,fun w hC=>by unfold Oper.quietAt;rw [hy w hC];exact ⟨rfl,rfl⟩⟩,h⟩
theorem bq_call (v:Value) (f:FuncId) (args:Array Value) (hw:Region.wanted o (yielded ops a.tmps)=true) (hf:∀ w,(execOp a.eval o).run P w = .ok (.enter f args) w) (hy:∀ w,CB W w→Calls P f args w (fun e w'=>e = .returned v∧Below w.heap.size w w'))
  (h:wpQB P ops W K rest (a.put o.dst v)):wpQB P ops W K (o :: rest) a :=
 ⟨v,.inl ⟨hw,fun w hC=>by unfold Oper.quietAt;rw [hf w];exact ⟨rfl,hy w hC⟩⟩,h⟩
theorem bq_nil (h:K a):wpQB P ops W K [] a:=h
theorem InvG.at0 {m:Nat} {w:World} (h:InvG W (alOf m []) (fun _=>none) w):CB W w:=h.1
end
end Go.Proofs.YtlhddcingeneaaaGreatDoor

namespace Go.Proofs.YtlhddcingeneaaaGreatDoor
open Go.RowKit
structure Box4 (w W:World) (t:TypeId) (a b c d q r u v:Value):Prop where
 x:Two W w.heap.size t a b
 y:Two W (w.heap.size+1) t c d
 z:Two W (w.heap.size+1+1) t q r
 u:Two W (w.heap.size+1+1+1) t u v
 b:Below w.heap.size w W
 s:w.heap.size+4≤W.heap.size
theorem Box4.new (w:World) (t:TypeId) (a b c d q r u v:Value):Box4 w ((((w.alloc (.cells #[a,b] t)).alloc (.cells #[c,d] t)).alloc (.cells #[q,r] t)).alloc (.cells #[u,v] t)) t a b c d q r u v:=by
 have h1:=Two.new w t a b
 have h2:=Two.new (w.alloc (.cells #[a,b] t)) t c d
 have h3:=Two.new ((w.alloc (.cells #[a,b] t)).alloc (.cells #[c,d] t)) t q r
 have h4:=Two.new (((w.alloc (.cells #[a,b] t)).alloc (.cells #[c,d] t)).alloc (.cells #[q,r] t)) t u v
 refine ⟨((h1.alloc _).alloc _).alloc _,?_,?_,?_,((((Below.refl _ _).alloc (Nat.le_refl _) _).alloc (by simp) _).alloc (by simp;omega) _).alloc (by simp;omega) _,by simp⟩
 ·have:=(h2.alloc (.cells #[q,r] t)).alloc (.cells #[u,v] t);simpa using this
 ·have:=h3.alloc (.cells #[u,v] t);simpa using this
 ·simpa using h4
theorem Box4.below {w W W':World} {t:TypeId} {a b c d q r u v:Value} (h:Box4 w W t a b c d q r u v) (hb:Below W.heap.size W W'):Box4 w W' t a b c d q r u v :=
 ⟨h.x.below hb h.x.lt,h.y.below hb h.y.lt,h.z.below hb h.z.lt,h.u.below hb h.u.lt,h.b.trans (hb.mono (by have:=h.s;omega)),by have:=hb.size;have:=h.s;omega⟩
theorem Box4.drewN {w W:World} {t:TypeId} {a b c d q r u v:Value} (h:Box4 w W t a b c d q r u v) (n:Nat):Box4 w (W.drewN n) t a b c d q r u v:=⟨h.x,h.y,h.z,h.u,below_drewN h.b n,h.s⟩
theorem Box4.drew {w W:World} {t:TypeId} {a b c d q r u v:Value} (h:Box4 w W t a b c d q r u v):Box4 w W.drew t a b c d q r u v:=h.drewN 1
theorem Box4.setq {w W:World} {t:TypeId} {a b c d q r u v:Value} (h:Box4 w W t a b c d q r u v) (q' r':Value):Box4 w ((W.setCell ⟨w.heap.size+1+1,0,none⟩ q').setCell ⟨w.heap.size+1+1,1,none⟩ r') t a b c d q' r' u v :=
 ⟨(h.x.far (by simp;omega) _).far (by simp;omega) _,(h.y.far (by simp) _).far (by simp) _,h.z.set q' r',(h.u.far (by simp) _).far (by simp) _,(h.b.setCell (by simp;omega) _).setCell (by simp;omega) _,by have:=h.s;simpa [World.setCell] using this⟩
theorem Box4.setr {w W:World} {t:TypeId} {a b c d q r u v:Value} (h:Box4 w W t a b c d q r u v) (u' v':Value):Box4 w ((W.setCell ⟨w.heap.size+1+1+1,0,none⟩ u').setCell ⟨w.heap.size+1+1+1,1,none⟩ v') t a b c d q r u' v' :=
 ⟨(h.x.far (by simp;omega) _).far (by simp;omega) _,(h.y.far (by simp) _).far (by simp) _,(h.z.far (by simp) _).far (by simp) _,h.u.set u' v',(h.b.setCell (by simp;omega) _).setCell (by simp;omega) _,by have:=h.s;simpa [World.setCell] using this⟩
theorem Box4.seen {w W:World} {t:TypeId} {a b c d q r u v:Value} (h:Box4 w W t a b c d q r u v):W.cell? ⟨w.heap.size,0,none⟩=some a∧W.cell? ⟨w.heap.size,1,none⟩=some b∧W.cell? ⟨w.heap.size+1,0,none⟩=some c∧W.cell? ⟨w.heap.size+1,1,none⟩=some d :=
 ⟨h.x.cells.1,h.x.cells.2,h.y.cells.1,h.y.cells.2⟩
theorem Box4.seen2 {w W:World} {t:TypeId} {a b c d q r u v:Value} (h:Box4 w W t a b c d q r u v):W.cell? ⟨w.heap.size+1,0,none⟩=some c∧W.cell? ⟨w.heap.size+1,1,none⟩=some d∧W.cell? ⟨w.heap.size+1+1,0,none⟩=some q∧W.cell? ⟨w.heap.size+1+1,1,none⟩=some r∧W.cell? ⟨w.heap.size+1+1+1,0,none⟩=some u∧W.cell? ⟨w.heap.size+1+1+1,1,none⟩=some v :=
 ⟨h.y.cells.1,h.y.cells.2,h.z.cells.1,h.z.cells.2,h.u.cells.1,h.u.cells.2⟩
theorem tdiv_sgnd (x y:Int):sgnd (!(sg x == sg y)) (x.natAbs / y.natAbs)=x.tdiv y:=by
 unfold sgnd sg
 rcases Int.lt_or_le x 0 with hx | hx <;> rcases Int.lt_or_le y 0 with hy | hy
 ·obtain ⟨a,rfl⟩:∃ a:Nat,x = -(a:Int):=⟨x.natAbs,by omega⟩
  obtain ⟨b,rfl⟩:∃ b:Nat,y = -(b:Int):=⟨y.natAbs,by omega⟩
  simp only [hx,hy,decide_true,beq_self_eq_true,Bool.not_true,Int.natAbs_neg,Int.natAbs_natCast,Int.tdiv_neg,Int.neg_tdiv,Int.neg_neg]
  simp [Int.ofNat_tdiv]
 ·obtain ⟨a,rfl⟩:∃ a:Nat,x = -(a:Int):=⟨x.natAbs,by omega⟩
  obtain ⟨b,rfl⟩:=Int.eq_ofNat_of_zero_le hy
  have hy':¬ ((b:Int)<0):=by omega
  simp only [hx,hy',decide_true,decide_false,Int.natAbs_neg,Int.natAbs_natCast,Int.neg_tdiv]
  simp [Int.ofNat_tdiv]
 ·obtain ⟨a,rfl⟩:=Int.eq_ofNat_of_zero_le hx
  obtain ⟨b,rfl⟩:∃ b:Nat,y = -(b:Int):=⟨y.natAbs,by omega⟩
  have hx':¬ ((a:Int)<0):=by omega
  simp only [hx',hy,decide_true,decide_false,Int.natAbs_neg,Int.natAbs_natCast,Int.tdiv_neg]
  simp [Int.ofNat_tdiv]
 ·obtain ⟨a,rfl⟩:=Int.eq_ofNat_of_zero_le hx
  obtain ⟨b,rfl⟩:=Int.eq_ofNat_of_zero_le hy
  have hx':¬ ((a:Int)<0):=by omega
  have hy':¬ ((b:Int)<0):=by omega
  simp only [hx',hy',decide_false,Int.natAbs_natCast]
  simp [Int.ofNat_tdiv]
theorem tmod_sgnd (x y:Int):sgnd (sg x) (x.natAbs % y.natAbs)=x.tmod y:=by
 unfold sgnd sg
 rcases Int.lt_or_le x 0 with hx | hx
 ·obtain ⟨a,rfl⟩:∃ a:Nat,x = -(a:Int):=⟨x.natAbs,by omega⟩
  have hk:(-(a:Int)).tmod y = -((a:Int).tmod (y.natAbs:Int)):=by
   rcases Int.natAbs_eq y with hy | hy
   ·rw [Int.neg_tmod,← hy]
   ·rw [Int.neg_tmod];conv=>lhs;rw [hy,Int.tmod_neg]
  rw [hk,Int.tmod_eq_emod_of_nonneg (by omega),← Int.natCast_emod]
  simp only [hx,decide_true,if_true,Int.natAbs_neg,Int.natAbs_natCast]
 ·obtain ⟨a,rfl⟩:=Int.eq_ofNat_of_zero_le hx
  have hx':¬ ((a:Int)<0):=by omega
  have hk:(a:Int).tmod y=(a:Int).tmod (y.natAbs:Int):=by
   rcases Int.natAbs_eq y with hy | hy
   ·rw [← hy]
   ·conv=>lhs;rw [hy,Int.tmod_neg]
  rw [hk,Int.tmod_eq_emod_of_nonneg (by omega),← Int.natCast_emod]
  simp [hx']
theorem fdiv_unique {x y q r:Int} (h:x=q * y+r) (hp:0<y→0≤r∧r<y) (hn:y<0→y<r∧r≤0) (hy:y≠0):x.fdiv y=q∧x.fmod y=r:=by
 rcases Int.lt_or_gt_of_ne hy with h1 | h1
 ·obtain ⟨a,b⟩:=hn h1
  exact (Int.fdiv_fmod_unique' h1).2 ⟨by rw [Int.mul_comm,Int.add_comm];exact h.symm,a,b⟩
 ·obtain ⟨a,b⟩:=hp h1
  exact (Int.fdiv_fmod_unique h1).2 ⟨by rw [Int.mul_comm,Int.add_comm];exact h.symm,a,b⟩
theorem tmod_facts (x y:Int) (hy:y≠0):x=(x.tdiv y) * y+x.tmod y∧(x.tmod y).natAbs<y.natAbs∧(0≤x→0≤x.tmod y)∧(x<0→x.tmod y≤0):=by
 refine ⟨by have:=Int.tdiv_mul_add_tmod x y;omega,?_,fun h=>Int.tmod_nonneg y h,fun h=>?_⟩
 ·rw [← tmod_sgnd,sgnd_natAbs];exact Nat.mod_lt _ (by omega)
 ·rw [← tmod_sgnd];unfold sgnd sg;simp [h];omega
theorem fdiv_same {x y:Int} (hy:y≠0) (h:x.tmod y=0∨sg x=sg y):x.fdiv y=x.tdiv y∧x.fmod y=x.tmod y:=by
 obtain ⟨h1,h2,h3,h4⟩:=tmod_facts x y hy
 have hs:x.tmod y=0∨(x<0↔y<0):=h.imp id (fun h=>by unfold sg at h;simpa using h)
 exact fdiv_unique h1 (fun _=>by omega) (fun _=>by omega) hy
theorem fdiv_less {x y:Int} (hy:y≠0) (h:x.tmod y≠0) (h':sg x≠sg y):x.fdiv y=x.tdiv y - 1∧x.fmod y=x.tmod y+y:=by
 obtain ⟨h1,h2,h3,h4⟩:=tmod_facts x y hy
 have hs:¬ (x<0↔y<0):=fun e=>h' (by unfold sg;simp [e])
 refine fdiv_unique ?_ (fun _=>by omega) (fun _=>by omega) hy
 rw [Int.sub_mul,Int.one_mul];omega
theorem Bd.tdiv {k:Nat} {x y:Int} (h:Bd k x):Bd k (x.tdiv y):=h.le (by rw [← tdiv_sgnd,sgnd_natAbs];exact Nat.div_le_self _ _)
theorem Bd.tmod {k:Nat} {x y:Int} (h:Bd k x):Bd k (x.tmod y):=h.le (by rw [← tmod_sgnd,sgnd_natAbs];exact Nat.mod_le _ _)
theorem Bd.one {k:Nat} (h:1≤k):Bd k 1:=by
 unfold Bd
 have:256 ^ 1≤256 ^ k:=Nat.pow_le_pow_right (by decide) h
 exact Nat.lt_of_lt_of_le (by decide) this
theorem DivMod_any (x y:Int) (w:World) (hx:Bd 100000000 x) (hy:Bd 100000000 y) (hy0:y≠0) :
  Calls Tryz.prog 98 #[vI x,vI y] w fun e w'=>e = .returned (.tuple #[vI (x.fdiv y),vI (x.fmod y),.int .i64 0])∧Below w.heap.size w w':=by
 have h0:=Box4.new w 25 (.bool (sg x)) (.string (mg x)) (.bool (sg y)) (.string (mg y)) (.bool false) (.string ⟨#[]⟩) (.bool false) (.string ⟨#[]⟩)
 have lx:=hx.digs
 have ly:=hy.digs
 have HX:=fun W=>Lib.hid (of_mg x W (hx.mono (by omega)))
 have HY:=fun W=>Lib.hid (of_mg y W (hy.mono (by omega)))
 obtain ⟨e1,e2⟩:=mg_full hy0
 have hyn:y.natAbs≠0:=by omega
 have hy00:=Lib.hid hy0
 have HSUB:=fun W=>Lib.hid (Sub_any (x.tdiv y) 1 W (hx.tdiv.mono (by omega)) (Bd.one (by omega)))
 have HADD:=fun W=>Lib.hid (Add_any (x.tmod y) y W (hx.tmod.mono (by omega)) (hy.mono (by omega)))
 clear hx hy hy0
 go_enter Tryz.func98,Tryz.ntmps98
 go_wp2_with fail
 obtain ⟨W0,hW0⟩:∃ W0,W0=((((w.alloc (.cells #[.bool (sg x),.string (mg x)] 25)).alloc (.cells #[.bool (sg y),.string (mg y)] 25)).alloc (.cells #[.bool false,.string ⟨#[]⟩] 25)).alloc (.cells #[.bool false,.string ⟨#[]⟩] 25)):=⟨_,rfl⟩
 rw [← hW0] at h0 ⊢
 clear hW0
 refine (Valid_yes x W0).mono ?_
 rintro e W1 ⟨rfl,hb⟩
 have h1:=h0.below hb
 obtain ⟨y0,y1⟩:=h1.y.cells
 clear hb h0
 go_wp2_with fail
 refine (Valid_yes y W1).mono ?_
 rintro e W2 ⟨rfl,hb⟩
 have h2:=h1.below hb
 clear hb h1 y0 y1
 obtain ⟨y0,y1⟩:=h2.y.cells
 go_wp2_with fail
 have hd:Box4 w W2.drew 25 (.bool (sg x)) (.string (mg x)) (.bool (sg y)) (.string (mg y)) (.bool false) (.string ⟨#[]⟩) (.bool false) (.string ⟨#[]⟩):=h2.drewN 1
 clear y0 y1
 go_region_held3 (fun W=>W.cell? ⟨w.heap.size,0,none⟩=some (.bool (sg x))∧W.cell? ⟨w.heap.size,1,none⟩=some (.string (mg x))∧W.cell? ⟨w.heap.size+1,0,none⟩=some (.bool (sg y))∧W.cell? ⟨w.heap.size+1,1,none⟩=some (.string (mg y)))
  (first | exact Box4.seen (by assumption))
  (first
   | (go_at_call_of 151 (Value.string (mg x));refine (HX _).out.mono ?_;rintro e W' ⟨A,c,rfl,hc1,hrx,hb⟩;have hS:=Box4.below (by assumption) hb)
   | (go_at_call_of 151 (Value.string (mg y));refine (HY _).out.mono ?_;rintro e W'' ⟨B,d,rfl,hc2,hry,hb2⟩;have hS2:=Box4.below (by assumption) hb2;have hrx2:=hrx.below hb2)
   | (go_at_call 157;refine (divide_any A B c d _ _ _ hrx2 hry (by omega) (by omega) hc1 hc2 hyn).mono ?_;rintro e W3 ⟨C,k,D,l,rfl,hk,hl,hrq,hrr,hb3⟩;have hS3:=Box4.below (by assumption) hb3))
 go_upto_region 6 with fail
 go_cut [7] (fun v7 wx=>Box4 w wx 25 (.bool (sg x)) (.string (mg x)) (.bool (sg y)) (.string (mg y)) (.bool (sg (x.tdiv y))) (.string (mg (x.tdiv y))) (.bool (sg (x.tmod y))) (.string (mg (x.tmod y))))
 case first =>
  have hd:Box4 w (_:World).drew 25 (.bool (sg x)) (.string (mg x)) (.bool (sg y)) (.string (mg y)) (.bool false) (.string ⟨#[]⟩) (.bool false) (.string ⟨#[]⟩):=hS3.drewN 1
  have lq:(digs 4294967296 (x.natAbs / y.natAbs)).length≤1000000000:=by
   have:=digs_len_mono (B:=4294967296) (by decide) (Nat.div_le_self x.natAbs y.natAbs);omega
  have lr:(digs 4294967296 (x.natAbs % y.natAbs)).length≤1000000000:=by
   have:=digs_len_mono (B:=4294967296) (by decide) (Nat.mod_le x.natAbs y.natAbs);omega
  have hrq':=hrq.drew
  have hrr':=hrr.drew
  go_region_held3 (fun W=>W.cell? ⟨w.heap.size,0,none⟩=some (.bool (sg x))∧W.cell? ⟨w.heap.size,1,none⟩=some (.string (mg x))∧W.cell? ⟨w.heap.size+1,0,none⟩=some (.bool (sg y))∧W.cell? ⟨w.heap.size+1,1,none⟩=some (.string (mg y)))
   (first | with_reducible exact hd.seen | with_reducible exact hS5.seen | with_reducible exact hS6.seen | with_reducible exact (hS6.setq _ _).seen | with_reducible exact ((hS6.setq _ _).setr _ _).seen)
   (first
    | (go_at_call_of 149 (Value.slice C (digs 4294967296 (x.natAbs / y.natAbs)).length k);refine (with_any C k _ _ _ hrq' lq).mono ?_;rintro e W5 ⟨rfl,hb5⟩;have hS5:=hd.below hb5;have hrr2:=hrr'.below hb5)
    | (go_at_call_of 149 (Value.slice D (digs 4294967296 (x.natAbs % y.natAbs)).length l);refine (with_any D l _ _ _ hrr2 lr).mono ?_;rintro e W6 ⟨rfl,hb6⟩;have hS6:=hS5.below hb6;obtain ⟨f0,f1⟩:=hS6.z.free;obtain ⟨z0,z1⟩:=hS6.z.cells;obtain ⟨g0,g1⟩:=hS6.u.free;obtain ⟨u0,u1⟩:=hS6.u.cells))
  go_wp2_with fail
  go_meet
  rw [tdiv_sgnd,tmod_sgnd]
  exact (hS6.setq _ _).setr _ _
 case rest =>
  have h3:=hcut
  clear hcut h2
  obtain ⟨x0,x1⟩:=h3.x.cells
  obtain ⟨y0,y1⟩:=h3.y.cells
  obtain ⟨z0,z1⟩:=h3.z.cells
  obtain ⟨u0,u1⟩:=h3.u.cells
  clear HX HY e1 e2 lx ly hyn
  by_cases hm:x.tmod y=0
  rotate_left 1
  by_cases hs:sg x=sg y
  rotate_left 1
  focus
   have hs':(sg x == sg y)=false:=by simpa using hs
   obtain ⟨m1,m2⟩:=mg_full hm
   have hf:=Lib.hid (fdiv_less hy00.out hm hs)
   clear hm hs
   go_wp2_with fail
   clear x0 x1 y0 y1 z0 z1 u0 u1
   have hd:=h3.drewN 1
   obtain ⟨z0,z1⟩:=hd.z.cells
   obtain ⟨u0,u1⟩:=hd.u.cells
   clear z0 z1 u0 u1
   refine region_by (fun W=>W.cell? ⟨w.heap.size+1,0,none⟩=some (.bool (sg y))∧W.cell? ⟨w.heap.size+1,1,none⟩=some (.string (mg y))∧W.cell? ⟨w.heap.size+1+1,0,none⟩=some (.bool (sg (x.tdiv y)))∧W.cell? ⟨w.heap.size+1+1,1,none⟩=some (.string (mg (x.tdiv y)))∧W.cell? ⟨w.heap.size+1+1+1,0,none⟩=some (.bool (sg (x.tmod y)))∧W.cell? ⟨w.heap.size+1+1+1,1,none⟩=some (.string (mg (x.tmod y)))) 6 [(0,true),(3,true),(4,true),(1,false),(2,false),(5,false)] (by kernel_rfl) (by kernel_rfl) hd.seen2 ?_
   refine wpBy.look _ (vI (x.tdiv y)) rfl (by kernel_rfl) (by intro W hW;obtain ⟨s1,s2,s3,s4,s5,s6⟩:=hW;go_simp) ?_
   try simp only [Act.put,sIt,sIz,sIs]
   refine wpBy.look _ (vI (x.tmod y)) rfl (by kernel_rfl) (by intro W hW;obtain ⟨s1,s2,s3,s4,s5,s6⟩:=hW;go_simp) ?_
   try simp only [Act.put,sIt,sIz,sIs]
   refine wpBy.look _ (vI y) rfl (by kernel_rfl) (by intro W hW;obtain ⟨s1,s2,s3,s4,s5,s6⟩:=hW;go_simp) ?_
   try simp only [Act.put,sIt,sIz,sIs]
   refine wpBy.do _ rfl (fun K hK=>?_)
   go_simp
   refine (Of_any 1 _ (by omega) (by omega)).mono ?_
   rintro e W5 ⟨rfl,hb5⟩
   have hA:=hd.below hb5
   dsimp only
   refine hK.out _ _ hA.seen2 ?_
   clear hK K
   try simp only [Act.put,sIt,sIz,sIs]
   refine wpBy.do _ rfl (fun K hK=>?_)
   go_simp
   refine (HSUB _).out.mono ?_
   rintro e W6 ⟨rfl,hb6⟩
   have hB:=hA.below hb6
   dsimp only
   refine hK.out _ _ hB.seen2 ?_
   clear hK K
   try simp only [Act.put,sIt,sIz,sIs]
   refine wpBy.do _ rfl (fun K hK=>?_)
   go_simp
   refine (HADD _).out.mono ?_
   rintro e W7 ⟨rfl,hb7⟩
   have hC:=hB.below hb7
   dsimp only
   refine hK.out _ _ hC.seen2 ?_
   clear hK K
   try simp only [Act.put,sIt,sIz,sIs]
   obtain ⟨f0,f1⟩:=hC.z.free
   obtain ⟨z0,z1⟩:=hC.z.cells
   obtain ⟨g0,g1⟩:=hC.u.free
   obtain ⟨u0,u1⟩:=hC.u.cells
   simp only [wpBy,List.drop_succ_cons,List.drop_zero]
   go_wp2_with fail
   refine NoPanic.normal ?_
   have hF:=(hC.setq (.bool (sg (x.tdiv y - 1))) (.string (mg (x.tdiv y - 1)))).setr (.bool (sg (x.tmod y+y))) (.string (mg (x.tmod y+y)))
   rw [← hf.out.1,← hf.out.2] at hF
   rw [← hf.out.1,← hf.out.2]
   obtain ⟨wx,hwx⟩:∃ wx,wx=((((W7.setCell ⟨w.heap.size+1+1,0,none⟩ (.bool (sg (x.fdiv y)))).setCell ⟨w.heap.size+1+1,1,none⟩ (.string (mg (x.fdiv y)))).setCell ⟨w.heap.size+1+1+1,0,none⟩ (.bool (sg (x.fmod y)))).setCell ⟨w.heap.size+1+1+1,1,none⟩ (.string (mg (x.fmod y)))):=⟨_,rfl⟩
   rw [← hwx] at hF ⊢
   clear hwx z0 z1 u0 u1 f0 f1 g0 g1 hC hB hA hd h3
   go_wp2_with fail
  rotate_left 1
  focus
   obtain ⟨m1,m2⟩:=mg_empty hm
   have hf:=fdiv_same hy00.out (.inl hm)
   have hF:=h3
   rw [← hf.1,← hf.2] at hF
   clear hm hf
   go_wp2_with fail
   clear x0 x1 y0 y1 z0 z1 u0 u1 h3
  rotate_left 1
  focus
   obtain ⟨m1,m2⟩:=mg_full hm
   have hs':(sg x == sg y)=true:=by simpa using hs
   have hf:=fdiv_same hy00.out (.inr hs)
   have hF:=h3
   rw [← hf.1,← hf.2] at hF
   clear hm hs hf
   go_wp2_with fail
   clear x0 x1 y0 y1 z0 z1 u0 u1 h3
  all_goals
    have hd:=hF.drew
    obtain ⟨z0,z1⟩:=hF.z.cells
    obtain ⟨f0,f1⟩:=hF.z.free
    obtain ⟨u0,u1⟩:=hF.u.cells
    obtain ⟨g0,g1⟩:=hF.u.free
    go_region_held3 (fun W=>W.cell? ⟨w.heap.size+1+1,0,none⟩=some (.bool (sg (x.fdiv y)))∧W.cell? ⟨w.heap.size+1+1,1,none⟩=some (.string (mg (x.fdiv y)))∧W.cell? ⟨w.heap.size+1+1+1,0,none⟩=some (.bool (sg (x.fmod y)))∧W.cell? ⟨w.heap.size+1+1+1,1,none⟩=some (.string (mg (x.fmod y))))
     (first | with_reducible exact hd.seen2.2.2 | with_reducible exact (hF.setq _ _).drew.seen2.2.2 | with_reducible exact ((hF.setq _ _).setr _ _).drew.seen2.2.2)
     (fail)
    go_wp2_with fail
    have hG:=((hF.setq (.bool (sg (x.fdiv y))) (.string (mg (x.fdiv y)))).setr (.bool (sg (x.fmod y))) (.string (mg (x.fmod y)))).drew
    generalize World.drew (World.setCell _ _ _)=W9 at hG ⊢
    clear z0 z1 u0 u1 f0 f1 g0 g1 hd hF
    obtain ⟨z0,z1⟩:=hG.z.cells
    obtain ⟨u0,u1⟩:=hG.u.cells
    exact bodyPost_ret (v:=.tuple #[vI (x.fdiv y),vI (x.fmod y),.int .i64 0]) (by simp [results,Tryz.results98,go_sem,vI,z0,z1,u0,u1]) rfl ⟨rfl,hG.b⟩

def RetIE (z:Int) (n:Int) (w:World) (e:Ending) (w':World):Prop:=e = .returned (.tuple #[vI z,.int .i64 n])∧Below w.heap.size w w'
theorem Bd.pow {k:Nat} {x:Int} (h:Bd k x) (hk:1≤k) (i n:Nat) (hi:i≤n) (hn:1≤n):Bd (k * n) (x ^ i):=by
 unfold Bd at *
 rw [Int.natAbs_pow,Nat.pow_mul]
 have h1:x.natAbs ^ i≤(256 ^ k) ^ i:=Nat.pow_le_pow_left (by omega) i
 have h2:(256 ^ k:Nat) ^ i≤(256 ^ k) ^ n:=Nat.pow_le_pow_right (by have:=Nat.pow_pos (n:=k) (show 0<256 by decide);omega) hi
 rcases Nat.eq_zero_or_pos i with h0 | h0
 ·subst h0
  rw [Nat.pow_zero,← Nat.pow_mul]
  exact Nat.one_lt_pow (by have:=Nat.mul_pos (show 0<k by omega) (show 0<n by omega);omega) (by decide)
 ·have h3:x.natAbs ^ i<(256 ^ k) ^ i:=Nat.pow_lt_pow_left h (by omega)
  omega
structure BoxP (w W:World) (t:TypeId) (b:Nat) (x o:Int):Prop where
 a:Two W w.heap.size t (.bool (sg x)) (.string (mg x))
 z:Two W (w.heap.size+1) t (.bool false) (.string ⟨#[]⟩)
 u:Two W b t (.bool (sg o)) (.string (mg o))
 n:w.heap.size+2≤b
 b:Below w.heap.size w W
theorem BoxP.below {w W W':World} {t:TypeId} {b:Nat} {x o:Int} (h:BoxP w W t b x o) (hb:Below W.heap.size W W'):BoxP w W' t b x o :=
 ⟨h.a.below hb h.a.lt,h.z.below hb h.z.lt,h.u.below hb h.u.lt,h.n,h.b.trans (hb.mono h.b.size)⟩
theorem BoxP.new {w W:World} {t:TypeId} {x o:Int} (h:Box2 w W t (.bool (sg x)) (.string (mg x))):BoxP w (W.alloc (.cells #[.bool (sg o),.string (mg o)] t)) t W.heap.size x o :=
 ⟨h.x.alloc _,h.z.alloc _,Two.new _ _ _ _,h.s,h.b.alloc (by have:=h.s;omega) _⟩
def PowInv (x a o:Int) (k k0:Nat):Prop:=k≤k0∧∃ i j,o=x ^ i∧a=x ^ j∧i+j * k=k0∧(1≤k→j≤k0)∧(j≤100)
theorem vI_zero:vI 0 = .agg #[.bool false,.string ⟨#[]⟩]:=by
 have h:mg 0=⟨#[]⟩:=by
  apply ByteArray.ext
  exact Array.eq_empty_of_size_eq_zero ((mg_size_zero (z:=0)).2 rfl)
 unfold vI
 rw [h];rfl

theorem Sqrt_zero (w:World):Calls Tryz.prog 156 #[vI 0] w (RetIE 0 0 w):=by
 have h0:=Box2.new w 25 (.bool (sg 0)) (.string (mg 0))
 obtain ⟨e1,e2⟩:=mg_empty (z:=0) rfl
 go_enter Tryz.func156,Tryz.ntmps156
 go_wp2_with fail
 obtain ⟨W0,hW0⟩:∃ W0,W0=((w.alloc (.cells #[.bool (sg 0),.string (mg 0)] 25)).alloc (.cells #[.bool false,.string ⟨#[]⟩] 25)):=⟨_,rfl⟩
 rw [← hW0] at h0 ⊢
 clear hW0
 refine (Valid_yes 0 W0).mono ?_
 rintro e W1 ⟨rfl,hb⟩
 have h1:=h0.below hb
 clear hb h0
 obtain ⟨x0,x1⟩:=h1.x.cells
 rw [show sg 0=false from rfl] at x0
 obtain ⟨z0,z1⟩:=h1.z.cells
 obtain ⟨c0,c1⟩:=h1.z.free
 go_wp2_with fail
 obtain ⟨r0,r1,hbl⟩:=h1.ret (.bool false) (.string (mg 0))
 exact bodyPost_ret (v:=.tuple #[vI 0,.int .i64 0]) (by unfold vI;rw [show sg 0=false from rfl];simp [results,Tryz.results156,go_sem,r0,r1]) rfl ⟨rfl,hbl⟩
theorem Box4.fin {w W:World} {t:TypeId} {a b c d q r u v:Value} (h:Box4 w W t a b c d q r u v) (q' r' u' v':Value) :
  ((((W.setCell ⟨w.heap.size+1+1,0,none⟩ q').setCell ⟨w.heap.size+1+1,1,none⟩ r').setCell ⟨w.heap.size+1+1+1,0,none⟩ u').setCell ⟨w.heap.size+1+1+1,1,none⟩ v').cell? ⟨w.heap.size+1+1,0,none⟩=some q' ∧
  ((((W.setCell ⟨w.heap.size+1+1,0,none⟩ q').setCell ⟨w.heap.size+1+1,1,none⟩ r').setCell ⟨w.heap.size+1+1+1,0,none⟩ u').setCell ⟨w.heap.size+1+1+1,1,none⟩ v').cell? ⟨w.heap.size+1+1,1,none⟩=some r' ∧
  ((((W.setCell ⟨w.heap.size+1+1,0,none⟩ q').setCell ⟨w.heap.size+1+1,1,none⟩ r').setCell ⟨w.heap.size+1+1+1,0,none⟩ u').setCell ⟨w.heap.size+1+1+1,1,none⟩ v').cell? ⟨w.heap.size+1+1+1,0,none⟩=some u' ∧
  ((((W.setCell ⟨w.heap.size+1+1,0,none⟩ q').setCell ⟨w.heap.size+1+1,1,none⟩ r').setCell ⟨w.heap.size+1+1+1,0,none⟩ u').setCell ⟨w.heap.size+1+1+1,1,none⟩ v').cell? ⟨w.heap.size+1+1+1,1,none⟩=some v' ∧
  Below w.heap.size w ((((W.setCell ⟨w.heap.size+1+1,0,none⟩ q').setCell ⟨w.heap.size+1+1,1,none⟩ r').setCell ⟨w.heap.size+1+1+1,0,none⟩ u').setCell ⟨w.heap.size+1+1+1,1,none⟩ v') :=
 have k:=(h.setq q' r').setr u' v'
 ⟨k.z.cells.1,k.z.cells.2,k.u.cells.1,k.u.cells.2,k.b⟩
def RetIIE (x y:Int) (n:Int) (w:World) (e:Ending) (w':World):Prop:=e = .returned (.tuple #[vI x,vI y,.int .i64 n])∧Below w.heap.size w w'

def rdVal (w:World):Value→Nat
 | .slice (some ⟨b,o,none⟩) n _=>val 4294967296 ((List.range n).map fun i=>match w.cell? ⟨b,o+i,none⟩ with | some (.int _ k)=>k.toNat | _=>0)
 | _=>0
theorem rdVal_eq {w:World} {A:Option Addr} {xs:List Nat} (c:Nat) (h:RdAt w .u32 A xs):rdVal w (.slice A xs.length c)=val 4294967296 xs:=by
 rcases Nat.eq_zero_or_pos xs.length with h0 | h0
 ·have:xs = []:=List.eq_nil_of_length_eq_zero h0
  subst this
  rcases A with _ | ⟨b,o,_ | _⟩ <;> simp [rdVal,val]
 ·obtain ⟨b,o,rfl,_⟩:=h 0 h0
  show val 4294967296 ((List.range xs.length).map fun i=>match w.cell? ⟨b,o+i,none⟩ with | some (.int _ k)=>k.toNat | _=>0)=val 4294967296 xs
  congr 1
  apply List.ext_getElem (by simp)
  intro i h1 h2
  obtain ⟨b',o',e,hc⟩:=h i h2
  cases e
  simp only [List.getElem_map,List.getElem_range,hc,gd]
  simp [h2]
theorem nbits_le {k:Nat} {z:Int} (h:Bd k z):nbits z.natAbs≤8 * k:=by
 unfold Bd at h
 unfold nbits
 split
 ·omega
 ·rename_i h0
  have h2:z.natAbs<2 ^ (8 * k):=by rw [Nat.pow_mul];exact h
  exact (Nat.log2_lt h0).2 h2
theorem Sqrt_any (n:Nat) (w:World) (hx:Bd 100000000 n) (hn:n≠0):Calls Tryz.prog 156 #[vI n] w (fun e w'=>∃ r:Nat,RetIE r 0 w e w'∧r * r≤n∧n<(r+1) * (r+1)):=by
 have h0:=Box2.new w 25 (.bool (sg n)) (.string (mg n))
 have HOF:=fun W=>Lib.hid (of_mg n W (hx.mono (by omega)))
 have HBITS:=fun W=>Lib.hid (Bits_any n W (hx.mono (by omega)))
 have hl:=hx.digs
 have hb8:nbits n≤900000000:=by have:=nbits_le hx;rw [Int.natAbs_natCast] at this;omega
 have hpos:0<nbits n:=by unfold nbits;rw [if_neg hn];omega
 obtain ⟨e1,e2⟩:=mg_full (z:=(n:Int)) (by omega)
 have e3:Hid (sg (n:Int)=false):=Lib.hid (by unfold sg;simp)
 rw [Int.natAbs_natCast] at hl
 clear hx
 go_enter Tryz.func156,Tryz.ntmps156
 go_wp2_with fail
 obtain ⟨W0,hW0⟩:∃ W0,W0=((w.alloc (.cells #[.bool (sg n),.string (mg n)] 25)).alloc (.cells #[.bool false,.string ⟨#[]⟩] 25)):=⟨_,rfl⟩
 rw [← hW0] at h0 ⊢
 clear hW0
 refine (Valid_yes n W0).mono ?_
 rintro e W1 ⟨rfl,hb⟩
 have h1:=h0.below hb
 clear hb h0
 obtain ⟨x0,x1⟩:=h1.x.cells
 obtain ⟨y0,_⟩:=h1.x.cells
 rw [e3.out] at x0
 go_wp2_with fail
 refine (HOF W1).out.mono ?_
 rintro e W2 ⟨A,c,rfl,hc,hr,hb⟩
 rw [Int.natAbs_natCast] at hc hr ⊢
 have HR1:=Lib.hid hr
 clear hr
 have h2:=h1.below hb
 clear hb h1 x0 x1 y0
 obtain ⟨x0,x1⟩:=h2.x.cells
 go_wp2_with fail
 refine (HBITS W2).out.mono ?_
 rintro e W3 ⟨rfl,hb⟩
 rw [Int.natAbs_natCast]
 have h3:=h2.below hb
 have hr3:=HR1.out.below hb
 clear hb h2 HR1 x0 x1
 obtain ⟨k,hk⟩:∃ k,k=(nbits n+1) / 2:=⟨_,rfl⟩
 have hkI:((nbits n:Int)+1) / 2=(k:Int):=by omega
 have hk9:k≤900000000:=by omega
 obtain ⟨w4,hmk,hbk,HW,hsz⟩:=make_nat W3 ((k:Int) / 32+1) (by omega) (by omega)
 have HK:=Lib.hid hk
 have HR:=Lib.hid hr3
 have h4:=h3.below HW
 have H3:=Lib.hid h3
 have HB:=Lib.hid hbk
 clear hk hr3 h3 hbk
 rw [show ((k:Int) / 32+1).toNat=k / 32+1 from by omega] at HB
 have hc0:=HB.out.cell (i:=k / 32) (by simp)
 have hf0:=HB.out.free (k / 32)
 obtain ⟨x0,x1⟩:=h4.x.cells
 go_wp2_with fail
 try rw [hkI]
 clear hkI hb8 hpos
 have hP:=digs_pow2 k
 go_loopw [6] (fun v6 wr=>∃ (x:Nat) (B:Option Addr) (d:Nat),v6 = .slice B (digs 4294967296 x).length d∧(digs 4294967296 x).length≤d∧Hid (0<x)∧Hid (x≤2 ^ k)∧Hid (n<(x+1) * (x+1))∧Hid (RdAt wr .u32 B (digs 4294967296 x))∧Hid (RdAt wr .u32 A (digs 4294967296 n))∧Box2 w wr 25 (.bool (sg n)) (.string (mg n))) (fun v6 wr=>rdVal wr v6)
 case atStart =>
  have hv:((2:Int) ^ (k % 32) % 4294967296)=((2 ^ (k % 32):Nat):Int):=by
   have hlt:2 ^ (k % 32)<4294967296:=by
    have:(2:Nat) ^ (k % 32)<2 ^ 32:=Nat.pow_lt_pow_right (by decide) (Nat.mod_lt _ (by decide))
    exact this
   rw [show ((2:Int) ^ (k % 32))=((2 ^ (k % 32):Nat):Int) from by simp]
   generalize 2 ^ (k % 32)=g at *
   omega
  rw [hv]
  have hB2:=HB.out.set (k / 32) (2 ^ (k % 32))
  have hb2:Below W3.heap.size W3 (w4.setCell ⟨W3.heap.size,k / 32,none⟩ (.int .u32 ((2 ^ (k % 32):Nat):Int))):=HW.setCell (by simp) _
  have hl2:k / 32+1=(digs 4294967296 (2 ^ k)).length:=by rw [← hP];simp
  rw [hP] at hB2
  refine ⟨2 ^ k,some ⟨W3.heap.size,0,none⟩,k / 32+1,by rw [← hl2],by omega,Lib.hid (Nat.pow_pos (by decide)),Lib.hid (Nat.le_refl _),Lib.hid ?_,Lib.hid hB2.rd,Lib.hid (HR.out.below hb2),H3.out.below hb2⟩
  have:=nbits_lt n
  rw [← HK.out] at this
  have h2:2 ^ (2 * k)=2 ^ k * 2 ^ k:=by rw [← Nat.pow_add];congr 1;omega
  have h3:2 ^ k * 2 ^ k≤(2 ^ k+1) * (2 ^ k+1):=Nat.mul_le_mul (by omega) (by omega)
  omega
 case round =>
  obtain ⟨x,B,d,rfl,hd,hx0,hx2,hxn,hrx,hrn,hB⟩:=hrel
  have hlx:(digs 4294967296 x).length≤30000000:=by
   have h1:=digs_len_mono (B:=4294967296) (by decide) hx2.out
   have hl2:k / 32+1=(digs 4294967296 (2 ^ k)).length:=by rw [← hP];simp
   omega
  have hlq:(digs 4294967296 (n / x)).length≤100000000:=by
   have h1:=digs_len_mono (B:=4294967296) (by decide) (Nat.div_le_self n x)
   omega
  have hls:(digs 4294967296 (x+n / x)).length≤200000000:=by
   have h1:=digs_len_add (x:Int) ((n / x:Nat):Int)
   simp only [Int.natAbs_natCast] at h1
   omega
  clear h4 HB hc0 hf0 HW hsz hmk x0 x1 HR HK hP H3
  have HM:=Lib.hid (rdVal_eq d hrx.out)
  rw [val_digs (by decide)] at HM
  have HDIV:=Lib.hid (divide_any A B c d n x wr hrn.out hrx.out (by omega) (by omega) hc hd (by have:=hx0.out;omega))
  go_wp2_with fail
  refine HDIV.out.mono ?_
  rintro e W5 ⟨C,c1,D,d1,rfl,hc1,hd1,hq,hr,hb5⟩
  have hB5:=hB.below hb5
  have HX5:=Lib.hid (hrx.out.below hb5)
  have HN5:=Lib.hid (hrn.out.below hb5)
  have HQ5:=Lib.hid hq
  clear hb5 hrx hrn hB hq hr
  have HADD:=Lib.hid (add_any B C d c1 x (n / x) W5 HX5.out HQ5.out (by omega) (by omega) hd hc1)
  go_wp2_with fail
  refine HADD.out.mono ?_
  rintro e W6 ⟨S,s1,rfl,hs1,hs,hb6⟩
  have hB6:=hB5.below hb6
  have HX6:=Lib.hid (HX5.out.below hb6)
  have HN6:=Lib.hid (HN5.out.below hb6)
  have HSM:=Lib.hid (small_any S s1 (x+n / x) 2 W6 hs (by omega) (by omega) (by omega))
  clear hb6 hB5 HX5 HN5 HQ5 hs
  go_wp2_with fail
  refine HSM.out.mono ?_
  rintro e W7 ⟨Y,y1,rfl,hy1,hy,hb7⟩
  rw [show (2:Int).toNat=2 from rfl] at hy hy1 ⊢
  have hB7:=hB6.below hb7
  have HX7:=Lib.hid (HX6.out.below hb7)
  have HN7:=Lib.hid (HN6.out.below hb7)
  have HY7:=Lib.hid hy
  clear hb7 hB6 HX6 HN6 hy
  have hly:(digs 4294967296 ((x+n / x) / 2)).length≤200000000:=by
   have h1:=digs_len_mono (B:=4294967296) (by decide) (Nat.div_le_self (x+n / x) 2)
   omega
  obtain ⟨y,hyd⟩:∃ y,y=(x+n / x) / 2:=⟨_,rfl⟩
  rw [← hyd] at hly HY7 hy1 ⊢
  have HYD:=Lib.hid hyd
  clear hyd
  have HCMP:=Lib.hid (compare_any Y B y1 d y x W7 HY7.out HX7.out (by omega) (by omega))
  go_wp2_with fail
  refine HCMP.out.mono ?_
  rintro e W8 ⟨r,rfl,hr1,hr2,nn,rfl⟩
  by_cases hyx:y<x
  ·have hr0:=hr1.2 hyx
   have hr0':¬ 0≤r:=by omega
   clear hr1 hr2
   go_wp2_with fail
   go_roundw
   case rel =>
    refine ⟨y,Y,y1,rfl,hy1,Lib.hid ?_,Lib.hid ?_,Lib.hid ?_,HY7.out,HN7.out,hB7.below (below_drewN (Below.refl _ _) nn)⟩
    ·have:=hx0.out
     have h2:=HYD.out
     rcases Nat.lt_or_ge x 2 with h3 | h3
     ·obtain rfl:x=1:=by omega
      rw [Nat.div_one] at h2;omega
     ·generalize n / x=g at h2;omega
    ·have:=hx2.out;omega
    ·rw [HYD.out];exact sqrt_step hx0.out
   case measure =>
    show rdVal (W7.drewN nn) (.slice Y (digs 4294967296 y).length y1)<rdVal wr (.slice B (digs 4294967296 x).length d)
    rw [HM.out,rdVal_eq (w:=W7.drewN nn) y1 HY7.out,val_digs (by decide)]
    exact hyx
  ·have hr0:¬ r<0:=fun h=>hyx (hr1.1 h)
   have hr0':0≤r:=by omega
   clear hr1 hr2
   have HWI:=Lib.hid (with_any B d x false (W7.drewN nn) HX7.out (by omega))
   go_wp2_with fail
   refine HWI.out.mono ?_
   rintro e W9 ⟨rfl,hb9⟩
   have hB9:=hB7.below ((below_drewN (Below.refl _ _) nn).trans hb9)
   obtain ⟨z0,z1⟩:=hB9.z.cells
   obtain ⟨c0,c1⟩:=hB9.z.free
   go_wp2_with fail
   rw [show sgnd false x=(x:Int) from rfl]
   obtain ⟨q0,q1,hbl⟩:=hB9.ret (.bool (sg x)) (.string (mg x))
   exact bodyPost_ret (v:=.tuple #[vI x,.int .i64 0]) (by simp [results,Tryz.results156,go_sem,vI,q0,q1]) rfl ⟨x,⟨rfl,hbl⟩,sqrt_end (by have:=HYD.out;omega),hxn.out⟩
end Go.Proofs.YtlhddcingeneaaaGreatDoor

namespace Go.Proofs.YtlhddcingeneaaaGreatDoor
open Go.Lib
def padL:Nat→Nat→List UInt8
 | 0,_=>[]
 | k+1,n=>padL k (n / 10) ++ [UInt8.ofNat (48+n % 10)]
end Go.Proofs.YtlhddcingeneaaaGreatDoor

namespace Go.Proofs.YtlhddcingeneaaaGreatDoor
open Go.RowKit
def HasTab (w:World):Prop:=Lib.TabIs Tryz.prog w "internal/strconv.uint64pow10" .u64 Lib.pow10Tab
theorem HasTab.below {w w':World} (h:HasTab w) (hb:Below w.heap.size w w'):HasTab w':=by
 unfold HasTab Lib.TabIs World.var? at *
 cases hg:Program.globalNamed Tryz.prog "internal/strconv.uint64pow10" with
 | none=>rw [hg] at h;exact absurd h (by simp)
 | some g =>
  rw [hg] at h
  simp only [Option.bind_some] at h ⊢
  cases hh:w.heap[g]? with
  | none=>rw [hh] at h;exact absurd h (by simp)
  | some o =>
   rw [hh] at h
   have hlt:g<w.heap.size:=(Array.getElem?_eq_some_iff.1 hh).1
   rw [hb.block g hlt,hh]
   exact h
def strOf (l:List UInt8):Value:=.string ⟨l.toArray⟩
theorem Itoa_any (n:Int) (h0:-9223372036854775808≤n) (h1:n≤9223372036854775807) (w:World) (ht:HasTab w):Calls Tryz.prog 62 #[.int .i64 n] w fun e w'=>e = .returned (strOf (Lib.itoa n))∧Below w.heap.size w w':=by
 refine (Tryz.strconv_Itoa n h0 h1 w ht).mono ?_
 rintro e w' ⟨rfl,k,os,rfl⟩
 exact ⟨rfl,Lib.below_grow _ w (Nat.le_refl _) k os⟩

theorem word_mod (p q:Nat) (hp:p<18446744073709551616):p % q<18446744073709551616:=Nat.lt_of_le_of_lt (Nat.mod_le p q) hp
theorem Gcd_any (x y:Int) (w:World) (hx:Bd 80000000 x) (hy:Bd 80000000 y):Calls Tryz.prog 147 #[vI x,vI y] w (RetI (Nat.gcd x.natAbs y.natAbs:Nat) w):=by
 have h0:=Box3.new w 25 x y
 have lx:=hx.digs
 have ly:=hy.digs
 have HX:=fun W=>Lib.hid (of_mg x W (hx.mono (by omega)))
 have HY:=fun W=>Lib.hid (of_mg y W (hy.mono (by omega)))
 clear hx hy
 go_enter Tryz.func147,Tryz.ntmps147
 go_wp2_with fail
 obtain ⟨W0,hW0⟩:∃ W0,W0=(((w.alloc (.cells #[.bool (sg x),.string (mg x)] 25)).alloc (.cells #[.bool (sg y),.string (mg y)] 25)).alloc (.cells #[.bool false,.string ⟨#[]⟩] 25)):=⟨_,rfl⟩
 rw [← hW0] at h0 ⊢
 clear hW0
 refine (Valid_yes x W0).mono ?_
 rintro e W1 ⟨rfl,hb⟩
 have h1:=h0.below hb
 obtain ⟨y0,y1⟩:=h1.y.cells
 clear hb h0
 go_wp2_with fail
 refine (Valid_yes y W1).mono ?_
 rintro e W2 ⟨rfl,hb⟩
 have h2:=h1.below hb
 clear hb h1 y0 y1
 go_wp2_with fail
 have hd:Box3 w W2.drew 25 x y:=h2.drewN 1
 go_region_held3 (fun W=>W.cell? ⟨w.heap.size,0,none⟩=some (.bool (sg x))∧W.cell? ⟨w.heap.size,1,none⟩=some (.string (mg x))∧W.cell? ⟨w.heap.size+1,0,none⟩=some (.bool (sg y))∧W.cell? ⟨w.heap.size+1,1,none⟩=some (.string (mg y)))
  (first | exact Box3.seen (by assumption) | exact Box3.seen_set (by assumption) _ _)
  (first
   | (go_at_call_of 151 (Value.string (mg x));refine (HX _).out.mono ?_;rintro e W' ⟨A,c,rfl,hc1,hrx,hb⟩;have hS:=Box3.below (by assumption) hb)
   | (go_at_call_of 151 (Value.string (mg y));refine (HY _).out.mono ?_;rintro e W'' ⟨B,d,rfl,hc2,hry,hb2⟩;have hS2:=Box3.below (by assumption) hb2;have hrx2:=hrx.below hb2))
 have HRX:=Lib.hid hrx2
 have HRY:=Lib.hid hry
 clear hrx hrx2 hry hb hb2 hS hd h2 HX HY
 go_wp2_with fail
 go_loopw [5,6] (fun v5 v6 wr=>∃ (a b:Nat) (A B:Option Addr) (c d:Nat),v5 = .slice A (digs 4294967296 a).length c∧v6 = .slice B (digs 4294967296 b).length d∧(digs 4294967296 a).length≤c∧(digs 4294967296 b).length≤d∧(digs 4294967296 a).length≤80000000∧(digs 4294967296 b).length≤80000000∧Hid (Nat.gcd a b=Nat.gcd x.natAbs y.natAbs)∧Hid (RdAt wr .u32 A (digs 4294967296 a))∧Hid (RdAt wr .u32 B (digs 4294967296 b))∧Box3 w wr 25 x y) (fun _ v6 wr=>rdVal wr v6)
 case atStart=>exact ⟨x.natAbs,y.natAbs,A,B,c,d,rfl,rfl,hc1,hc2,by omega,by omega,Lib.hid rfl,HRX,HRY,hS2⟩
 case round =>
  clear HRX HRY hS2 hc1 hc2 lx ly
  obtain ⟨a,b,A,B,c,d,rfl,rfl,hc,hd,la,lb,hg,hra,hrb,hB⟩:=hrel
  have HM:=Lib.hid (rdVal_eq d hrb.out)
  rw [val_digs (by decide)] at HM
  by_cases hbody:2<(digs 4294967296 b).length∨((digs 4294967296 b).length≤2∧2<(digs 4294967296 a).length∧0<(digs 4294967296 b).length)
  ·have hb0:b≠0:=by
    rintro rfl
    rw [digs_zero] at hbody
    simp at hbody
   have HDIV:=Lib.hid (divide_any A B c d a b wr hra.out hrb.out (by omega) (by omega) hc hd hb0)
   have lr:(digs 4294967296 (a % b)).length≤80000000:=Nat.le_trans (digs_len_mono (by decide) (Nat.mod_le a b)) la
   have HB0:=Lib.hid hb0
   clear hb0
   rcases hbody with g1 | ⟨g0,g1,g2⟩
   all_goals
    go_wp2_with fail
    refine HDIV.out.mono ?_
    rintro e W5 ⟨C,c1,D,d1,rfl,hc1,hd1,hq,hr,hb5⟩
    have hB5:=hB.below hb5
    have HB5:=Lib.hid (hrb.out.below hb5)
    have HR5:=Lib.hid hr
    clear hb5 hq hr
    go_wp2_with fail
    go_roundw
    case rel=>exact ⟨b,a % b,B,D,d,d1,rfl,rfl,hd,hd1,lb,lr,Lib.hid (by rw [← gcd_step];exact hg.out),HB5,HR5,hB5⟩
    case measure =>
     show rdVal W5 (.slice D (digs 4294967296 (a % b)).length d1)<rdVal wr (.slice B (digs 4294967296 b).length d)
     rw [HM.out,rdVal_eq (w:=W5) d1 HR5.out,val_digs (by decide)]
     exact Nat.mod_lt _ (by have:=HB0.out;omega)
  ·by_cases hz:(digs 4294967296 b).length=0
   ·have hb0:b=0:=(digs_nil_iff (by decide) b).1 (List.eq_nil_of_length_eq_zero hz)
    have hzi:((digs 4294967296 b).length:Int)=0:=by omega
    have g1:¬ (2:Int)<((digs 4294967296 b).length:Int):=by omega
    have g2:¬ (0:Int)<((digs 4294967296 b).length:Int):=by omega
    have g3:(((digs 4294967296 b).length:Int) == 0)=true:=by rw [hzi];rfl
    have HWI:=Lib.hid (with_any A c a false wr hra.out (by omega))
    have HG:Hid ((Nat.gcd x.natAbs y.natAbs:Nat)=a):=Lib.hid (by rw [← hg.out,hb0,Nat.gcd_zero_right])
    have HZI:=Lib.hid hzi
    clear hbody hz hb0 hzi hg
    by_cases g4:(2:Int)<((digs 4294967296 a).length:Int)
    all_goals
     go_wp2_with fail
     refine HWI.out.mono ?_
     rintro e W9 ⟨rfl,hb9⟩
     have hB9:=hB.below hb9
     obtain ⟨z0,z1⟩:=hB9.z.cells
     obtain ⟨c0,c1⟩:=hB9.z.free
     go_wp2_with fail
     rw [show sgnd false a=(a:Int) from rfl]
     obtain ⟨q0,q1,hbl⟩:=hB9.ret (.bool (sg a)) (.string (mg a))
     rw [HG.out]
     exact bodyPost_ret (v:=vI a) (by simp [results,Tryz.results147,go_sem,vI,q0,q1]) rfl ⟨rfl,hbl⟩
   ·have g1:¬ (2:Int)<((digs 4294967296 b).length:Int):=by omega
    have g2:¬ (2:Int)<((digs 4294967296 a).length:Int):=by omega
    have g3:(((digs 4294967296 b).length:Int) == 0)=false:=by rw [beq_eq_false_iff_ne];omega
    have H1:=Lib.hid (single_any A c a wr hra.out (by omega))
    have H2:=Lib.hid (single_any B d b wr hrb.out (by omega))
    have pa:Hid (a<18446744073709551616):=Lib.hid (by
     have:=lt_pow_digs (B:=4294967296) (by decide) a
     have h2:4294967296 ^ (digs 4294967296 a).length≤4294967296 ^ 2:=Nat.pow_le_pow_right (by decide) (by omega)
     omega)
    have pb:Hid (b<18446744073709551616):=Lib.hid (by
     have:=lt_pow_digs (B:=4294967296) (by decide) b
     have h2:4294967296 ^ (digs 4294967296 b).length≤4294967296 ^ 2:=Nat.pow_le_pow_right (by decide) (by omega)
     omega)
    clear hbody hz
    go_wp2_with fail
    refine H1.out.mono ?_
    rintro e W5 ⟨rfl,rfl⟩
    go_wp2_with fail
    refine H2.out.mono ?_
    rintro e W5 ⟨rfl,rfl⟩
    clear H1 H2 g1 g2 g3 la lb hc hd hra hrb HM
    go_wp2_with fail
    obtain ⟨wo,rfl⟩:∃ wo:World,wo=wr:=⟨_,rfl⟩
    go_loopw [9,10] (fun v9 v10 wr=>∃ (p q n:Nat),v9 = .int .u64 p∧v10 = .int .u64 q∧Hid (p<18446744073709551616)∧Hid (q<18446744073709551616)∧Hid (Nat.gcd p q=Nat.gcd x.natAbs y.natAbs)∧wr=wo.drewN n) (fun _ v10 _=>(intOf v10).toNat)
    case atStart=>exact ⟨a,b,0,rfl,rfl,pa,pb,hg,rfl⟩
    case round =>
     clear hg pa pb
     obtain ⟨p,q,n,rfl,rfl,pp,pq,hg,rfl⟩:=hrel
     by_cases hq:q=0
     ·subst hq
      have HG:Hid ((Nat.gcd x.natAbs y.natAbs:Nat)=p):=Lib.hid (by rw [← hg.out,Nat.gcd_zero_right])
      have HW:=Lib.hid (word_any (p:Int) (wo.drewN n) (by omega) (by have:=pp.out;omega))
      rw [show ((p:Int)).toNat=p from rfl] at HW
      clear hg
      go_wp2_with fail
      refine HW.out.mono ?_
      rintro e W6 ⟨C,c1,rfl,hc1,hr,hb6⟩
      have hB6:=(hB.drewN n).below hb6
      have lp:(digs 4294967296 p).length≤1000000000:=by
       have:=digs_length_le (B:=4294967296) (n:=p) (k:=2) (by decide) (by have:=pp.out;omega)
       omega
      have HWI:=Lib.hid (with_any C c1 p false W6 hr lp)
      clear hb6 hr hB
      go_wp2_with fail
      refine HWI.out.mono ?_
      rintro e W9 ⟨rfl,hb9⟩
      have hB9:=hB6.below hb9
      obtain ⟨z0,z1⟩:=hB9.z.cells
      obtain ⟨c0,c1'⟩:=hB9.z.free
      go_wp2_with fail
      rw [show sgnd false p=(p:Int) from rfl]
      obtain ⟨q0,q1,hbl⟩:=hB9.ret (.bool (sg p)) (.string (mg p))
      rw [HG.out]
      exact bodyPost_ret (v:=vI p) (by simp [results,Tryz.results147,go_sem,vI,q0,q1]) rfl ⟨rfl,hbl⟩
     ·have hq':((q:Int) != 0)=true:=by rw [bne_iff_ne];omega
      have hq2:((q:Int) == 0)=false:=by rw [beq_eq_false_iff_ne];omega
      have HQ:=Lib.hid hq
      have hq3:¬ (q:Int)=0:=by omega
      have hr1:IntKind.u64.wrap ((p:Int) % (q:Int))=((p % q:Nat):Int):=by
       have:=word_mod p q pp.out
       rw [← Int.natCast_emod]
       exact wru64 (by omega) (by omega)
      have hr2:((p:Int)).tmod (q:Int)=(p:Int) % (q:Int):=Int.tmod_eq_emod_of_nonneg (by omega)
      clear hq
      go_wp2_with fail
      go_quiet (fail)
      go_wp2_with fail
      go_roundw
      case rel=>exact ⟨q,p % q,_,rfl,by first | rfl | (congr 1;omega),pq,Lib.hid (word_mod p q pp.out),Lib.hid (by rw [← gcd_step];exact hg.out),by first | rfl | (simp only [World.drewN_drewN];rfl)⟩
      case measure =>
       have:=Nat.mod_lt p (Nat.pos_of_ne_zero HQ.out)
       simp [intOf];omega

def Ob (w:World) (b:Nat) (t:TypeId) (cs:Array Value):Prop:=w.heap[b]?=some (.cells cs t (0,0))
theorem Ob.new (w:World) (t:TypeId) (cs:Array Value):Ob (w.alloc (.cells cs t)) w.heap.size t cs:=by
 exact heap_alloc_new w _
theorem Ob.lt {w:World} {b:Nat} {t:TypeId} {cs:Array Value} (h:Ob w b t cs):b<w.heap.size:=lt_of_block h
theorem Ob.below {B:Nat} {w w':World} {b:Nat} {t:TypeId} {cs:Array Value} (h:Ob w b t cs) (hb:Below B w w') (hB:b<B):Ob w' b t cs:=by
 unfold Ob at *;rw [hb.block b hB];exact h
theorem Ob.bl {w w':World} {b:Nat} {t:TypeId} {cs:Array Value} (h:Ob w b t cs) (hb:Below w.heap.size w w'):Ob w' b t cs:=h.below hb h.lt
theorem _root_.Go.RowKit.Below.upb {B:Nat} {a b c:World} (h:Below B a b) (k:Below b.heap.size b c) (g:B≤b.heap.size):Below B a c:=h.trans (k.mono g)
theorem sIt {α:Type} (l:List α) (i:Nat) (a:α):l.toArray.setIfInBounds i a=(l.set i a).toArray:=by simp
theorem sIz {α:Type} (a b:α) (l:List α):(a :: l).set 0 b=b :: l:=rfl
theorem sIs {α:Type} (a b:α) (l:List α) (n:Nat):(a :: l).set (n+1) b=a :: l.set n b:=rfl
theorem Ob.alloc {w:World} {b:Nat} {t:TypeId} {cs:Array Value} (h:Ob w b t cs) (o:Obj):Ob (w.alloc o) b t cs :=
 h.below ((Below.refl _ _).alloc (Nat.le_refl _) o) h.lt
theorem Ob.cell {w:World} {b:Nat} {t:TypeId} {cs:Array Value} (h:Ob w b t cs) (i:Nat) {v:Value} (hv:cs[i]?=some v):w.cell? ⟨b,i,none⟩=some v:=by
 unfold Ob at h;simp [World.cell?,h,hv]
theorem Ob.cells1 {w:World} {b:Nat} {t:TypeId} {a0:Value} (h:Ob w b t #[a0]):w.cell? ⟨b,0,none⟩=some a0:=h.cell 0 rfl
theorem Ob.cells2 {w:World} {b:Nat} {t:TypeId} {a0 a1:Value} (h:Ob w b t #[a0,a1]):w.cell? ⟨b,0,none⟩=some a0∧w.cell? ⟨b,1,none⟩=some a1:=⟨h.cell 0 rfl,h.cell 1 rfl⟩
theorem below_set {B:Nat} {a w:World} (h:Below B a w) {b:Nat} (hb:B≤b) (i:Nat) (v:Value):Below B a (w.setCell ⟨b,i,none⟩ v):=h.setCell hb v
theorem Ob.free {w:World} {b:Nat} {t:TypeId} {cs:Array Value} (h:Ob w b t cs) (i:Nat):w.frozen? ⟨b,i,none⟩=false:=by
 unfold Ob at h;simp [World.frozen?,h]
theorem Ob.setCell {w:World} {b:Nat} {t:TypeId} {cs:Array Value} (h:Ob w b t cs) (i:Nat) (u:Value):Ob (w.setCell ⟨b,i,none⟩ u) b t (cs.setIfInBounds i u):=cells_set h i u
theorem Ob.far {w:World} {b:Nat} {t:TypeId} {cs:Array Value} (h:Ob w b t cs) {c i:Nat} (hp:b≠c) (v:Value):Ob (w.setCell ⟨c,i,none⟩ v) b t cs:=by
 unfold Ob at *;rw [Below.heap_setCell _ _ _ _ hp];exact h
theorem Ob.set2 {w:World} {b:Nat} {t:TypeId} {a0 a1:Value} (h:Ob w b t #[a0,a1]) (u0 u1:Value):Ob ((w.setCell ⟨b,0,none⟩ u0).setCell ⟨b,1,none⟩ u1) b t #[u0,u1]:=(h.setCell 0 u0).setCell 1 u1
theorem Ob.far2 {w:World} {b:Nat} {t:TypeId} {cs:Array Value} (h:Ob w b t cs) {c:Nat} (hp:b≠c) (u0 u1:Value):Ob ((w.setCell ⟨c,0,none⟩ u0).setCell ⟨c,1,none⟩ u1) b t cs:=(h.far hp u0).far hp u1

def RetNB (n:Int) (b:Bool) (w:World) (e:Ending) (w':World):Prop:=e = .returned (.tuple #[.int .i64 n,.bool b])∧Below w.heap.size w w'
theorem ret_nb {a b:Int} {c:Bool} (h:a=b):Ending.returned (.tuple #[.int .i64 a,.bool c]) = .returned (.tuple #[.int .i64 b,.bool c]):=by rw [h]
theorem or_byte64 (a c:Nat) (ha:a<72057594037927936) (hc:c<256):bits BinOp.or IntKind.u64 ((a:Int) * 256) (c:Int)=((a * 256+c:Nat):Int):=by
 have h1:a * 256<18446744073709551616:=by omega
 have h2:=u64_or_nat (a * 256) c h1 (by omega)
 have h3:=Nat.shiftLeft_add_eq_or_of_lt (a:=a) (b:=c) (i:=8) (by omega)
 rw [Nat.shiftLeft_eq] at h3
 rw [show ((a:Int) * 256)=((a * 256:Nat):Int) from by omega,h2,← h3]
def fits64 (z:Int):Bool:=decide (-9223372036854775808≤z∧z<9223372036854775808)
theorem Int64_long (n:Bool) (s:ByteArray) (w:World) (h:vld n s=true) (hl:8<s.size):Calls Tryz.prog 164 #[.agg #[.bool n,.string s]] w (RetNB 0 false w):=by
 have h0:=Box1.new w 25 (.bool n) (.string s)
 have hl':(8:Int)<s.size:=by omega
 go_enter Tryz.func164,Tryz.ntmps164
 go_wp2_with fail
 obtain ⟨W0,hW0⟩:∃ W0,W0=(w.alloc (.cells #[.bool n,.string s] 25)):=⟨_,rfl⟩
 rw [← hW0] at h0 ⊢
 clear hW0
 refine (Valid_ok n s W0 h).mono ?_
 rintro e W1 ⟨rfl,hb⟩
 have h1:=h0.below hb
 obtain ⟨x0,x1⟩:=h1.x.cells
 go_wp2_with fail
 go_ret2
 exact ⟨rfl,h1.b⟩
theorem Int64_neg (s:ByteArray) (w:World) (h:vld true s=true) (hl:s.size≤8) (hm:sv s≤9223372036854775808):Calls Tryz.prog 164 #[.agg #[.bool true,.string s]] w (RetNB (-(sv s:Int)) true w):=by
 have h0:=Box1.new w 25 (.bool true) (.string s)
 have hl':¬ (8:Int)<s.size:=by omega
 have HM:=Lib.hid hm
 clear hm
 go_enter Tryz.func164,Tryz.ntmps164
 go_wp2_with fail
 obtain ⟨W0,hW0⟩:∃ W0,W0=(w.alloc (.cells #[.bool true,.string s] 25)):=⟨_,rfl⟩
 rw [← hW0] at h0 ⊢
 clear hW0
 refine (Valid_ok true s W0 h).mono ?_
 rintro e W1 ⟨rfl,hb⟩
 have h1:=h0.below hb
 clear hb h0 h
 obtain ⟨x0,x1⟩:=h1.x.cells
 go_wp2_with fail
 go_loop [4,18] (fun v4 v18=>∃ k:Nat,k≤s.size∧v18 = .int .i64 k∧v4 = .int .u64 ((be (s.data.toList.take k):Nat):Int)) (fun _ v18=>s.size - (intOf v18).toNat)
 case atStart=>exact ⟨0,Nat.zero_le _,rfl,rfl⟩
 case round =>
  obtain ⟨k,hk,rfl,rfl⟩:=hrel
  rcases Nat.lt_or_ge k s.size with hks | hks
  ·have e1:=be_take s k hks
   have e2:=be_take_lt s k
   have e3:=pow256_7 (k:=k) (by omega)
   have e4:=s[k].toNat_lt
   generalize be (s.data.toList.take k)=V at *
   have e5:V<72057594037927936:=by omega
   have E1:=Lib.hid e1
   clear e1 e2 e3
   have ho:=or_byte64 V s[k].toNat e5 e4
   have e6:IntKind.u64.wrap ((V:Int) * 256)=(V:Int) * 256:=by rw [u64_wrap];omega
   go_wp2_with fail
   go_round
   case rel=>exact ⟨k+1,by omega,by go_num,by rw [E1.out];exact congrArg (Value.int .u64) (by omega)⟩
   case measure=>simp [intOf];omega
  ·have e1:=be_take_all s k hks
   rw [e1]
   have hm:=HM.out
   have hm':sv s<18446744073709551616:=by
    rw [← e1]
    have:=be_take_lt s k
    have hk8:256 ^ k≤256 ^ 8:=Nat.pow_le_pow_right (by decide) (by omega)
    omega
   clear e1
   generalize sv s=m at *
   have hmI:0≤(m:Int)∧(m:Int)≤9223372036854775808:=by omega
   clear hm hm'
   go_wp2_with fail
   go_ret2
   exact ⟨ret_nb (by rw [u64_wrap];unfold wrap64;omega),h1.b⟩
theorem Int64_pos (s:ByteArray) (w:World) (h:vld false s=true) (hl:s.size≤8) (hm:sv s<9223372036854775808):Calls Tryz.prog 164 #[.agg #[.bool false,.string s]] w (RetNB ((sv s:Int)) true w):=by
 have h0:=Box1.new w 25 (.bool false) (.string s)
 have hl':¬ (8:Int)<s.size:=by omega
 have HM:=Lib.hid hm
 clear hm
 go_enter Tryz.func164,Tryz.ntmps164
 go_wp2_with fail
 obtain ⟨W0,hW0⟩:∃ W0,W0=(w.alloc (.cells #[.bool false,.string s] 25)):=⟨_,rfl⟩
 rw [← hW0] at h0 ⊢
 clear hW0
 refine (Valid_ok false s W0 h).mono ?_
 rintro e W1 ⟨rfl,hb⟩
 have h1:=h0.below hb
 clear hb h0 h
 obtain ⟨x0,x1⟩:=h1.x.cells
 go_wp2_with fail
 go_loop [4,18] (fun v4 v18=>∃ k:Nat,k≤s.size∧v18 = .int .i64 k∧v4 = .int .u64 ((be (s.data.toList.take k):Nat):Int)) (fun _ v18=>s.size - (intOf v18).toNat)
 case atStart=>exact ⟨0,Nat.zero_le _,rfl,rfl⟩
 case round =>
  obtain ⟨k,hk,rfl,rfl⟩:=hrel
  rcases Nat.lt_or_ge k s.size with hks | hks
  ·have e1:=be_take s k hks
   have e2:=be_take_lt s k
   have e3:=pow256_7 (k:=k) (by omega)
   have e4:=s[k].toNat_lt
   generalize be (s.data.toList.take k)=V at *
   have e5:V<72057594037927936:=by omega
   have E1:=Lib.hid e1
   clear e1 e2 e3
   have ho:=or_byte64 V s[k].toNat e5 e4
   have e6:IntKind.u64.wrap ((V:Int) * 256)=(V:Int) * 256:=by rw [u64_wrap];omega
   go_wp2_with fail
   go_round
   case rel=>exact ⟨k+1,by omega,by go_num,by rw [E1.out];exact congrArg (Value.int .u64) (by omega)⟩
   case measure=>simp [intOf];omega
  ·have e1:=be_take_all s k hks
   rw [e1]
   have hm:=HM.out
   have hm':sv s<18446744073709551616:=by
    rw [← e1]
    have:=be_take_lt s k
    have hk8:256 ^ k≤256 ^ 8:=Nat.pow_le_pow_right (by decide) (by omega)
    omega
   clear e1
   generalize sv s=m at *
   have hmI:0≤(m:Int)∧(m:Int)<9223372036854775808:=by omega
   clear hm hm'
   go_wp2_with fail
   go_ret2
   exact ⟨ret_nb (by first | rfl | (unfold wrap64;omega)),h1.b⟩
theorem Int64_bigneg (s:ByteArray) (w:World) (h:vld true s=true) (hl:s.size≤8) (hm:9223372036854775808<sv s):Calls Tryz.prog 164 #[.agg #[.bool true,.string s]] w (RetNB (0) false w):=by
 have h0:=Box1.new w 25 (.bool true) (.string s)
 have hl':¬ (8:Int)<s.size:=by omega
 have HM:=Lib.hid hm
 clear hm
 go_enter Tryz.func164,Tryz.ntmps164
 go_wp2_with fail
 obtain ⟨W0,hW0⟩:∃ W0,W0=(w.alloc (.cells #[.bool true,.string s] 25)):=⟨_,rfl⟩
 rw [← hW0] at h0 ⊢
 clear hW0
 refine (Valid_ok true s W0 h).mono ?_
 rintro e W1 ⟨rfl,hb⟩
 have h1:=h0.below hb
 clear hb h0 h
 obtain ⟨x0,x1⟩:=h1.x.cells
 go_wp2_with fail
 go_loop [4,18] (fun v4 v18=>∃ k:Nat,k≤s.size∧v18 = .int .i64 k∧v4 = .int .u64 ((be (s.data.toList.take k):Nat):Int)) (fun _ v18=>s.size - (intOf v18).toNat)
 case atStart=>exact ⟨0,Nat.zero_le _,rfl,rfl⟩
 case round =>
  obtain ⟨k,hk,rfl,rfl⟩:=hrel
  rcases Nat.lt_or_ge k s.size with hks | hks
  ·have e1:=be_take s k hks
   have e2:=be_take_lt s k
   have e3:=pow256_7 (k:=k) (by omega)
   have e4:=s[k].toNat_lt
   generalize be (s.data.toList.take k)=V at *
   have e5:V<72057594037927936:=by omega
   have E1:=Lib.hid e1
   clear e1 e2 e3
   have ho:=or_byte64 V s[k].toNat e5 e4
   have e6:IntKind.u64.wrap ((V:Int) * 256)=(V:Int) * 256:=by rw [u64_wrap];omega
   go_wp2_with fail
   go_round
   case rel=>exact ⟨k+1,by omega,by go_num,by rw [E1.out];exact congrArg (Value.int .u64) (by omega)⟩
   case measure=>simp [intOf];omega
  ·have e1:=be_take_all s k hks
   rw [e1]
   have hm:=HM.out
   have hm':sv s<18446744073709551616:=by
    rw [← e1]
    have:=be_take_lt s k
    have hk8:256 ^ k≤256 ^ 8:=Nat.pow_le_pow_right (by decide) (by omega)
    omega
   clear e1
   generalize sv s=m at *
   have hmI:¬ (m:Int)≤9223372036854775808:=by omega
   clear hm hm'
   go_wp2_with fail
   go_ret2
   exact ⟨ret_nb (by rfl),h1.b⟩
theorem Int64_bigpos (s:ByteArray) (w:World) (h:vld false s=true) (hl:s.size≤8) (hm:9223372036854775808≤sv s):Calls Tryz.prog 164 #[.agg #[.bool false,.string s]] w (RetNB (0) false w):=by
 have h0:=Box1.new w 25 (.bool false) (.string s)
 have hl':¬ (8:Int)<s.size:=by omega
 have HM:=Lib.hid hm
 clear hm
 go_enter Tryz.func164,Tryz.ntmps164
 go_wp2_with fail
 obtain ⟨W0,hW0⟩:∃ W0,W0=(w.alloc (.cells #[.bool false,.string s] 25)):=⟨_,rfl⟩
 rw [← hW0] at h0 ⊢
 clear hW0
 refine (Valid_ok false s W0 h).mono ?_
 rintro e W1 ⟨rfl,hb⟩
 have h1:=h0.below hb
 clear hb h0 h
 obtain ⟨x0,x1⟩:=h1.x.cells
 go_wp2_with fail
 go_loop [4,18] (fun v4 v18=>∃ k:Nat,k≤s.size∧v18 = .int .i64 k∧v4 = .int .u64 ((be (s.data.toList.take k):Nat):Int)) (fun _ v18=>s.size - (intOf v18).toNat)
 case atStart=>exact ⟨0,Nat.zero_le _,rfl,rfl⟩
 case round =>
  obtain ⟨k,hk,rfl,rfl⟩:=hrel
  rcases Nat.lt_or_ge k s.size with hks | hks
  ·have e1:=be_take s k hks
   have e2:=be_take_lt s k
   have e3:=pow256_7 (k:=k) (by omega)
   have e4:=s[k].toNat_lt
   generalize be (s.data.toList.take k)=V at *
   have e5:V<72057594037927936:=by omega
   have E1:=Lib.hid e1
   clear e1 e2 e3
   have ho:=or_byte64 V s[k].toNat e5 e4
   have e6:IntKind.u64.wrap ((V:Int) * 256)=(V:Int) * 256:=by rw [u64_wrap];omega
   go_wp2_with fail
   go_round
   case rel=>exact ⟨k+1,by omega,by go_num,by rw [E1.out];exact congrArg (Value.int .u64) (by omega)⟩
   case measure=>simp [intOf];omega
  ·have e1:=be_take_all s k hks
   rw [e1]
   have hm:=HM.out
   have hm':sv s<18446744073709551616:=by
    rw [← e1]
    have:=be_take_lt s k
    have hk8:256 ^ k≤256 ^ 8:=Nat.pow_le_pow_right (by decide) (by omega)
    omega
   clear e1
   generalize sv s=m at *
   have hmI:¬ (m:Int)<9223372036854775808:=by omega
   clear hm hm'
   generalize (m:Int)=M at *
   go_wp2_with fail
   go_ret2
   exact ⟨ret_nb (by rfl),h1.b⟩
theorem Int64_any (z:Int) (w:World):Calls Tryz.prog 164 #[vI z] w (RetNB (if fits64 z then z else 0) (fits64 z) w):=by
 have hv:=vld_sg z
 have hz:=sv_mg z
 rcases Nat.lt_or_ge 8 (mg z).size with h8 | h8
 ·have:fits64 z=false:=by
   unfold fits64
   rw [decide_eq_false_iff_not]
   intro h
   have hb:Bd 8 z:=by unfold Bd;omega
   have:=hb.size
   omega
  rw [this]
  exact Int64_long _ _ w hv h8
 ·by_cases hn:z<0
  ·have e:sg z=true:=by unfold sg;simpa using hn
   rw [e] at hv
   simp only [vI,e]
   by_cases hf:z.natAbs≤9223372036854775808
   ·have:fits64 z=true:=by unfold fits64;rw [decide_eq_true_iff];omega
    rw [this]
    have h:=Int64_neg (mg z) w hv h8 (by omega)
    rw [hz] at h
    rwa [show -((z.natAbs:Nat):Int)=z from by omega] at h
   ·have:fits64 z=false:=by unfold fits64;rw [decide_eq_false_iff_not];omega
    rw [this]
    exact Int64_bigneg (mg z) w hv h8 (by omega)
  ·have e:sg z=false:=by unfold sg;simpa using hn
   rw [e] at hv
   simp only [vI,e]
   by_cases hf:z.natAbs<9223372036854775808
   ·have:fits64 z=true:=by unfold fits64;rw [decide_eq_true_iff];omega
    rw [this]
    have h:=Int64_pos (mg z) w hv h8 (by omega)
    rw [hz] at h
    rwa [show ((z.natAbs:Nat):Int)=z from by omega] at h
   ·have:fits64 z=false:=by unfold fits64;rw [decide_eq_false_iff_not];omega
    rw [this]
    exact Int64_bigpos (mg z) w hv h8 (by omega)
end Go.Proofs.YtlhddcingeneaaaGreatDoor
