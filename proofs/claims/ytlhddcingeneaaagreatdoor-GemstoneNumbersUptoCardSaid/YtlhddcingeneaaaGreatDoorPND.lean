import Derived.Test.YtlhddcingeneaaaGreatDoorPNC2
import Derived.Test.YtlhddcingeneaaaGreatDoorPNLawB
import Derived.Test.YtlhddcingeneaaaGreatDoorPNE
import Derived.Test.YtlhddcingeneaaaGreatDoorPNB
import Derived.Test.YtlhddcingeneaaaGreatDoorPNA
set_option linter.unusedVariables false
set_option linter.unusedSimpArgs false
set_option maxRecDepth 100000
set_option maxHeartbeats 8000000
namespace Go.Proofs.YtlhddcingeneaaaGreatDoor
open Go.RowKit
theorem twice_step (M:Nat) (zs xs:List Nat) (k cy s c' bit:Nat) (hk:k<zs.length) (h:val M (zs.take k)+M ^ k * cy=2 * val M (xs.take k)+bit) (h2:s+M * c'=2 * gd xs k+cy) :
  val M ((zs.set k s).take (k+1))+M ^ (k+1) * c'=2 * val M (xs.take (k+1))+bit:=by
 rw [val_set_take M s hk,val_take_succ',Nat.pow_succ,Nat.mul_add,Nat.mul_assoc]
 have e:M ^ k * (s+M * c')=M ^ k * (2 * gd xs k+cy):=by rw [h2]
 rw [Nat.mul_add,Nat.mul_add] at e
 have e2:M ^ k * (2 * gd xs k)=2 * (M ^ k * gd xs k):=Nat.mul_left_comm _ _ _
 omega
theorem twice_end {M:Nat} (hM:2≤M) (zs xs:List Nat) (n cy bit:Nat) (hl:zs.length=n+1) (hx:xs.length≤n) (hd:Dig M zs) (hc:cy<M) (h:val M (zs.take n)+M ^ n * cy=2 * val M (xs.take n)+bit) :
  trimL (zs.set n cy)=digs M (2 * val M xs+bit):=by
 rw [← digs_val hM (hd.set n cy hc)]
 congr 1
 have h1:=val_set_take M cy (show n<zs.length by omega)
 rw [List.take_of_length_le (by simp;omega)] at h1
 rw [h1,h,List.take_of_length_le hx]
theorem Rtwice_any (A:Option Addr) (c x bit:Nat) (w:World) (hx:RdAt w .i64 A (digs 16777216 x)) (hl:(digs 16777216 x).length≤1000000000) (hb:bit≤1) :
  Calls Tryz.prog 144 #[.slice A (digs 16777216 x).length c,.int .i64 bit] w (RetD .i64 16777216 (2 * x+bit) w):=by
 have HX:=Lib.hid hx
 have HDX:=Lib.hid (digs_Dig (B:=16777216) (by decide) x)
 have HV:=Lib.hid (val_digs (B:=16777216) (by decide) x)
 generalize digs 16777216 x=xs at *
 obtain ⟨w1,hmk,hbk,HW,hsz⟩:=make_rnat w ((xs.length:Int)+1) (by omega) (by omega)
 have HS:=Lib.hid hsz
 have HB:=Lib.hid hbk
 clear hsz hbk hx
 go_enter Tryz.func144,Tryz.ntmps144
 go_wp2_with fail
 go_loopw [6,7] (fun v6 v7 wr=>∃ (k cy:Nat) (zs:List Nat),k≤xs.length∧cy≤1∧v7 = .int .i64 k∧v6 = .int .i64 cy∧Hid (Blk wr .i64 3 w.heap.size zs)∧Hid (zs.length=xs.length+1)∧Hid (Dig 16777216 zs)∧Hid (val 16777216 (zs.take k)+16777216 ^ k * cy=2 * val 16777216 (xs.take k)+bit)∧Below w.heap.size w wr) (fun _ v7 _=>xs.length - (intOf v7).toNat)
 case atStart=>exact ⟨0,bit,_,by omega,hb,rfl,rfl,HB,Lib.hid (by simp),Lib.hid (Dig.replicate (by decide) _),Lib.hid (by simp [val]),HW⟩
 case round =>
  obtain ⟨k,cy,zs,hk,hcy,rfl,rfl,hB,hz,hdz,hv,hbl⟩:=hrel
  clear HB HS HW hmk
  by_cases hkl:k<xs.length
  ·obtain ⟨b,o,rfl,hcl⟩:=HX.out k hkl
   have hcl':=below_cell hbl hcl (lt_of_cell hcl)
   have hg1:=HDX.out.gd (by decide) k
   have hlz:k<zs.length:=by rw [hz.out];omega
   have hcz:=hB.out.cell hlz
   have hfz:=hB.out.free k
   clear hcl hlz
   go_wp2_with fail
   go_roundw
   case rel =>
    refine ⟨k+1,((cy:Int)+2 * (gd xs k:Nat)).toNat / 16777216,zs.set k (((cy:Int)+2 * (gd xs k:Nat)) % 16777216).toNat,by omega,by omega,by go_num,?_,Lib.hid (hB.out.setI k (by omega)),Lib.hid (by simp [hz.out]),Lib.hid (hdz.out.set _ _ (by omega)),Lib.hid (twice_step _ _ _ _ _ _ _ _ (by rw [hz.out];omega) hv.out (by omega)),hbl.setCell (Nat.le_refl _) _⟩
    first | rfl | (congr 1;omega)
   case measure=>simp [intOf];omega
  ·obtain rfl:k=xs.length:=by omega
   have hcz:=hB.out.cell (i:=xs.length) (by rw [hz.out];omega)
   have hfz:=hB.out.free xs.length
   have hB2:=Lib.hid (hB.out.set xs.length cy)
   go_wp2_with (go_at_call 107;refine (Rtrim_any _ _ _ (zs.set xs.length cy) _ (by rw [Hid,List.length_set];exact hz.out) (Lib.hid hB2.out.rd) (by omega) (by omega)).mono ?_;rintro e w' ⟨rfl,rfl⟩)
   go_ret
   have h1:=twice_end (by decide) zs xs _ cy bit hz.out (Nat.le_refl _) hdz.out (by omega) hv.out
   rw [HV.out] at h1
   exact RetD.of_blk hB2.out (hbl.setCell (Nat.le_refl _) _) h1 (by simp [hz.out])
theorem RInt64_bigneg (s:ByteArray) (w:World) (h:vld true s=true) (hl:s.size≤8) (hm:9223372036854775808<sv s):Calls Tryz.prog 105 #[.agg #[.bool true,.string s]] w (RetNB 0 false w):=by
 have h0:=Ob.new w 25 #[.bool true,.string s]
 have b0:Below w.heap.size w (w.alloc (.cells #[.bool true,.string s] 25)):=(Below.refl _ _).alloc (Nat.le_refl _) _
 have hl':¬ (8:Int)<s.size:=by omega
 have HM:=Lib.hid hm
 have HV:=fun W=>Lib.hid (RValid_any true s W)
 rw [h] at HV
 clear hm h
 go_enter Tryz.func105,Tryz.ntmps105
 go_wp2_with fail
 generalize World.alloc w _=W0 at h0 b0 ⊢
 refine (HV W0).out.mono ?_
 rintro e W1 ⟨rfl,hb⟩
 have h1:=h0.below hb h0.lt
 have b1:=b0.trans (hb.mono b0.size)
 clear hb h0 b0 HV
 obtain ⟨x0,x1⟩:=h1.cells2
 go_wp2_with fail
 go_loop [4,5] (fun v4 v5=>∃ k:Nat,k≤s.size∧v5 = .int .i64 k∧v4 = .int .u64 ((be (s.data.toList.take k):Nat):Int)) (fun _ v5=>s.size - (intOf v5).toNat)
 case atStart=>exact ⟨0,Nat.zero_le _,rfl,rfl⟩
 case round =>
  obtain ⟨k,hk,rfl,rfl⟩:=hrel
  rcases Nat.lt_or_ge k s.size with hks | hks
  ·have e1:=be_take s k hks
   have e2:=be_take_lt s k
   have e3:=pow256_7 (k:=k) (by omega)
   have e4:=s[k].toNat_lt
   generalize be (s.data.toList.take k)=V at *
   have e5:V<72057594037927936:=by omega
   have E1:=Lib.hid e1
   clear e1 e2 e3
   have e6:IntKind.u64.wrap ((V:Int) * 256)=(V:Int) * 256:=by rw [u64_wrap];omega
   go_wp2_with fail
   go_round
   case rel=>exact ⟨k+1,by omega,by go_num,by rw [E1.out];exact congrArg (Value.int .u64) (by omega)⟩
   case measure=>simp [intOf];omega
  ·have e1:=be_take_all s k hks
   rw [e1]
   have hm:=HM.out
   clear e1
   generalize sv s=m at *
   have hmI:¬ (m:Int)≤9223372036854775808:=by omega
   clear hm
   generalize (m:Int)=M at *
   go_wp2_with fail
   go_ret2
   exact ⟨ret_nb (by rfl),b1⟩
theorem RInt64_bigpos (s:ByteArray) (w:World) (h:vld false s=true) (hl:s.size≤8) (hm:9223372036854775808≤sv s):Calls Tryz.prog 105 #[.agg #[.bool false,.string s]] w (RetNB 0 false w):=by
 have h0:=Ob.new w 25 #[.bool false,.string s]
 have b0:Below w.heap.size w (w.alloc (.cells #[.bool false,.string s] 25)):=(Below.refl _ _).alloc (Nat.le_refl _) _
 have hl':¬ (8:Int)<s.size:=by omega
 have HM:=Lib.hid hm
 have HV:=fun W=>Lib.hid (RValid_any false s W)
 rw [h] at HV
 clear hm h
 go_enter Tryz.func105,Tryz.ntmps105
 go_wp2_with fail
 generalize World.alloc w _=W0 at h0 b0 ⊢
 refine (HV W0).out.mono ?_
 rintro e W1 ⟨rfl,hb⟩
 have h1:=h0.below hb h0.lt
 have b1:=b0.trans (hb.mono b0.size)
 clear hb h0 b0 HV
 obtain ⟨x0,x1⟩:=h1.cells2
 go_wp2_with fail
 go_loop [4,5] (fun v4 v5=>∃ k:Nat,k≤s.size∧v5 = .int .i64 k∧v4 = .int .u64 ((be (s.data.toList.take k):Nat):Int)) (fun _ v5=>s.size - (intOf v5).toNat)
 case atStart=>exact ⟨0,Nat.zero_le _,rfl,rfl⟩
 case round =>
  obtain ⟨k,hk,rfl,rfl⟩:=hrel
  rcases Nat.lt_or_ge k s.size with hks | hks
  ·have e1:=be_take s k hks
   have e2:=be_take_lt s k
   have e3:=pow256_7 (k:=k) (by omega)
   have e4:=s[k].toNat_lt
   generalize be (s.data.toList.take k)=V at *
   have e5:V<72057594037927936:=by omega
   have E1:=Lib.hid e1
   clear e1 e2 e3
   have e6:IntKind.u64.wrap ((V:Int) * 256)=(V:Int) * 256:=by rw [u64_wrap];omega
   go_wp2_with fail
   go_round
   case rel=>exact ⟨k+1,by omega,by go_num,by rw [E1.out];exact congrArg (Value.int .u64) (by omega)⟩
   case measure=>simp [intOf];omega
  ·have e1:=be_take_all s k hks
   rw [e1]
   have hm:=HM.out
   clear e1
   generalize sv s=m at *
   have hmI:¬ (m:Int)<9223372036854775808:=by omega
   clear hm
   generalize (m:Int)=M at *
   go_wp2_with fail
   go_ret2
   exact ⟨ret_nb (by rfl),b1⟩
theorem RInt64_long (n:Bool) (s:ByteArray) (w:World) (h:vld n s=true) (hl:8<s.size):Calls Tryz.prog 105 #[.agg #[.bool n,.string s]] w (RetNB 0 false w):=by
 have H1:∀ W,Hid (Calls Tryz.prog 54 #[.agg #[.bool n,.string s]] W (RetB true W)):=fun W=>Lib.hid (by have:=RValid_any n s W;rwa [h] at this)
 have hl':(8:Int)<s.size:=by omega
 clear h
 go_enter Tryz.func105,Tryz.ntmps105
 go_wp2_with fail
 have t1:=Ob.new (w) 25 #[.bool n,.string s]
 have bl:=((Below.refl w.heap.size w).alloc (Nat.le_refl _) (.cells #[.bool n,.string s] 25))
 try simp only [World.size_alloc] at t1
 generalize World.alloc w _=W1 at t1 bl ⊢
 refine ((H1 W1).out).mono ?_
 rintro e W2 ⟨rfl,hb⟩
 have t1:=t1.bl hb
 have bl:=bl.upb hb bl.size
 clear hb
 obtain ⟨c0_0,c0_1⟩:=t1.cells2
 go_wp2_with fail
 clear c0_0 c0_1
 go_ret2
 exact ⟨rfl,bl⟩
theorem RInt64_any (z:Int) (w:World):Calls Tryz.prog 105 #[vI z] w (RetNB (if fits64 z then z else 0) (fits64 z) w):=by
 have hv:=vld_sg z
 have hz:=sv_mg z
 rcases Nat.lt_or_ge 8 (mg z).size with h8 | h8
 ·have:fits64 z=false:=by
   unfold fits64
   rw [decide_eq_false_iff_not]
   intro h
   have hb:Bd 8 z:=by unfold Bd;omega
   have:=hb.size
   omega
  rw [this]
  exact RInt64_long _ _ w hv h8
 ·by_cases hn:z<0
  ·have e:sg z=true:=by unfold sg;simpa using hn
   rw [e] at hv
   simp only [vI,e]
   by_cases hf:z.natAbs≤9223372036854775808
   ·have:fits64 z=true:=by unfold fits64;rw [decide_eq_true_iff];omega
    rw [this]
    have h:=RInt64_neg (mg z) w hv h8 (by omega)
    rw [hz] at h
    rwa [show -((z.natAbs:Nat):Int)=z from by omega] at h
   ·have:fits64 z=false:=by unfold fits64;rw [decide_eq_false_iff_not];omega
    rw [this]
    exact RInt64_bigneg (mg z) w hv h8 (by omega)
  ·have e:sg z=false:=by unfold sg;simpa using hn
   rw [e] at hv
   simp only [vI,e]
   by_cases hf:z.natAbs<9223372036854775808
   ·have:fits64 z=true:=by unfold fits64;rw [decide_eq_true_iff];omega
    rw [this]
    have h:=RInt64_pos (mg z) w hv h8 (by omega)
    rw [hz] at h
    rwa [show ((z.natAbs:Nat):Int)=z from by omega] at h
   ·have:fits64 z=false:=by unfold fits64;rw [decide_eq_false_iff_not];omega
    rw [this]
    exact RInt64_bigpos (mg z) w hv h8 (by omega)
theorem i64_and_nat (a b:Nat) (ha:a<9223372036854775808) (hb:b<9223372036854775808):bits .and .i64 (a:Int) (b:Int)=((a &&& b:Nat):Int):=by
 have hx:a &&& b<2 ^ 63:=Nat.and_lt_two_pow _ (by omega)
 show IntKind.i64.wrap ((BitVec.ofInt 64 (a:Int) &&& BitVec.ofInt 64 (b:Int)).toNat:Int)=_
 rw [BitVec.toNat_and,ofInt_u64 a (by omega),ofInt_u64 b (by omega),IntKind.wrap_i64]
 omega
theorem digit_bit (n i:Nat):(n / 16777216 ^ (i / 24) % 16777216) / 2 ^ (i % 24) % 2=n / 2 ^ i % 2:=by
 have h1:(16777216:Nat) ^ (i / 24)=2 ^ (24 * (i / 24)):=by rw [Nat.pow_mul]
 have h2:2 ^ i=2 ^ (24 * (i / 24)) * 2 ^ (i % 24):=by rw [← Nat.pow_add,Nat.div_add_mod]
 rw [h1,h2,← Nat.div_div_eq_div_mul]
 generalize n / 2 ^ (24 * (i / 24))=m
 have h3:i % 24<24:=Nat.mod_lt _ (by decide)
 have e:(16777216:Nat)=2 ^ (i % 24) * (2 * 2 ^ (23 - i % 24)):=by
  rw [show 2 * 2 ^ (23 - i % 24)=2 ^ (24 - i % 24) from by rw [← Nat.pow_succ'];congr 1;omega,← Nat.pow_add]
  rw [show i % 24+(24 - i % 24)=24 from by omega]
 rw [e,Nat.mod_mul_right_div_self,Nat.mod_mul_right_mod]
theorem nbits_len (n i:Nat) (h:i<nbits n):i / 24<(digs 16777216 n).length:=by
 rcases Nat.eq_zero_or_pos (digs 16777216 n).length with h0 | h0
 ·have hn:n=0:=(digs_nil_iff (by decide) n).1 (List.eq_nil_of_length_eq_zero h0)
  subst hn
  exact absurd h (by simp [nbits])
 ·obtain ⟨k,hk⟩:∃ k,(digs 16777216 n).length=k+1:=⟨(digs 16777216 n).length - 1,by omega⟩
  have h1:=lt_pow_digs (B:=16777216) (by decide) n
  rw [show (16777216:Nat) ^ (digs 16777216 n).length=2 ^ (24 * (digs 16777216 n).length) from by rw [Nat.pow_mul]] at h1
  have hn:n≠0:=by rintro rfl;simp [nbits] at h
  have h2:n.log2<24 * (digs 16777216 n).length:=(Nat.log2_lt hn).2 h1
  unfold nbits at h
  rw [if_neg hn] at h
  omega
theorem Rbit_any (A:Option Addr) (c n i:Nat) (w:World) (hx:RdAt w .i64 A (digs 16777216 n)) (hl:(digs 16777216 n).length≤1000000000) (hi:i<nbits n) :
  Calls Tryz.prog 181 #[.slice A (digs 16777216 n).length c,.int .i64 i] w (RetN ((n / 2 ^ i % 2:Nat):Int) w):=by
 have hil:=nbits_len n i hi
 have HV:=Lib.hid (digit_bit n i)
 have hg:=digs_gd (B:=16777216) (by decide) n (i / 24)
 rw [← hg] at HV
 obtain ⟨b,o,rfl,hc⟩:=hx (i / 24) hil
 have hgl:=(digs_Dig (B:=16777216) (by decide) n).gd (by decide) (i / 24)
 generalize gd (digs 16777216 n) (i / 24)=g at *
 generalize (digs 16777216 n).length=m at *
 clear hx hg hi
 go_enter Tryz.func181,Tryz.ntmps181
 go_wp2_with fail
 go_ret
 refine ⟨ret_int ?_,Below.refl _ _⟩
 rw [← HV.out]
 have e1:((g:Int) / 2 ^ (i % 24))=((g / 2 ^ (i % 24):Nat):Int):=by rw [Int.natCast_ediv,Int.natCast_pow];rfl
 have h2:g / 2 ^ (i % 24)≤g:=Nat.div_le_self _ _
 have e2:=i64_and_nat (g / 2 ^ (i % 24)) 1 (by omega) (by omega)
 rw [Nat.and_one_is_mod] at e2
 first | (rw [e1];exact e2) | skip
theorem RPow_any (x:Int) (k:Nat) (w:World) (hx:Bd 4000 x) (hk:k≤100):Calls Tryz.prog 138 #[vI x,.int .i64 k] w (RetIE (x ^ k) 0 w):=by
 have H1:=fun W=>Lib.hid (RValid_yes x W)
 have H2:∀ W,Hid (Calls Tryz.prog 16 #[.int .i64 1] W (RetI 1 W)):=fun W=>Lib.hid (ROf_any 1 W (by omega) (by omega))
 have hs:=hx.size
 have hs':¬ (4000:Int)<(mg x).size:=by omega
 have hk0:¬ (k:Int)<0:=by omega
 have hk1:¬ (100:Int)<(k:Int):=by omega
 have HM:∀ i W,i≤k→Hid (Calls Tryz.prog 52 #[vI (x ^ i),vI x] W (RetI (x ^ (i+1)) W)):=fun i W hi=>Lib.hid (by
  rw [Int.pow_succ]
  exact RMul_any (x ^ i) x W ((hx.pow (by omega) i 100 (by omega) (by omega)).mono (by omega)) (hx.mono (by omega)))
 clear hx hs
 go_enter Tryz.func138,Tryz.ntmps138
 go_wp2_with fail
 have t2:=(Ob.new (w) 25 #[.bool (sg x),.string (mg x)]).alloc (.cells #[.bool false,.string ⟨#[]⟩] 25)
 have t4:=Ob.new ((w.alloc (.cells #[.bool (sg x),.string (mg x)] 25))) 25 #[.bool false,.string ⟨#[]⟩]
 have bl:=(((Below.refl w.heap.size w).alloc (Nat.le_refl _) (.cells #[.bool (sg x),.string (mg x)] 25)).alloc (by simp only [World.size_alloc];omega) (.cells #[.bool false,.string ⟨#[]⟩] 25))
 try simp only [World.size_alloc] at t2 t4
 generalize World.alloc (World.alloc w _) _=W1 at t2 t4 bl ⊢
 refine ((H1 W1).out).mono ?_
 rintro e W2 ⟨rfl,hb⟩
 have t2:=t2.bl hb
 have t4:=t4.bl hb
 have bl:=bl.upb hb bl.size
 clear hb
 obtain ⟨c0_0,c0_1⟩:=t2.cells2
 go_wp2_with fail
 clear c0_0 c0_1
 refine ((H2 W2).out).mono ?_
 rintro e W3 ⟨rfl,hb⟩
 have t2:=t2.bl hb
 have t4:=t4.bl hb
 have bl:=bl.upb hb bl.size
 clear hb
 go_wp2_with fail
 have lt4_2:=t2.lt
 have lt4_4:=t4.lt
 have lw4:=bl.size
 have t2:=(t2.alloc (.cells #[.bool (sg 1),.string (mg 1)] 25))
 have t4:=(t4.alloc (.cells #[.bool (sg 1),.string (mg 1)] 25))
 have t6:=Ob.new (W3) 25 #[.bool (sg 1),.string (mg 1)]
 have bl:=(bl.alloc (by have:=bl.size;(try simp only [World.size_alloc] at *);omega) (.cells #[.bool (sg 1),.string (mg 1)] 25))
 try simp only [World.size_alloc] at t2 t4 t6
 generalize hn4:W3.heap.size=bk4 at t6 lt4_2 lt4_4 lw4 ⊢
 clear hn4
 generalize World.alloc W3 _=W4 at t2 t4 t6 bl ⊢
 clear H1 H2
 go_loopw [7] (fun v7 wr=>∃ i:Nat,i≤k∧v7 = .int .i64 i∧Ob wr w.heap.size 25 #[.bool (sg x),.string (mg x)]∧Ob wr (w.heap.size+1) 25 #[.bool false,.string ⟨#[]⟩]∧Ob wr bk4 25 #[.bool (sg (x ^ i)),.string (mg (x ^ i))]∧Below w.heap.size w wr) (fun v7 _=>k - (intOf v7).toNat)
 case atStart=>exact ⟨0,by omega,rfl,t2,t4,by rw [Int.pow_zero];exact t6,bl⟩
 case round =>
  clear t2 t4 t6 bl
  obtain ⟨i,hi,rfl,t2,t4,t6,bl⟩:=hrel
  by_cases hik:i<k
  ·obtain ⟨x0,x1⟩:=t2.cells2
   obtain ⟨o0,o1⟩:=t6.cells2
   have HMi:=HM i wr hi
   clear HM
   go_wp2_with fail
   refine HMi.out.mono ?_
   rintro e W5 ⟨rfl,hb⟩
   have t2:=t2.bl hb
   have t4:=t4.bl hb
   have t6:=t6.bl hb
   have bl:=bl.upb hb bl.size
   clear hb x0 x1 o0 o1 HMi
   have fr:=t6.free
   obtain ⟨z0,z1⟩:=t6.cells2
   go_wp2_with fail
   go_roundw
   case rel=>exact ⟨i+1,by omega,by go_num,t2.far2 (by omega) _ _,t4.far2 (by omega) _ _,t6.set2 _ _,below_set (below_set bl (by omega) _ _) (by omega) _ _⟩
   case measure=>simp [intOf];omega
  ·obtain rfl:i=k:=by omega
   obtain ⟨o0,o1⟩:=t6.cells2
   obtain ⟨z0,z1⟩:=t4.cells2
   have fr:=t4.free
   go_wp2_with fail
   obtain ⟨r0,r1⟩:=(t4.set2 (.bool (sg (x ^ i))) (.string (mg (x ^ i)))).cells2
   have bl:=below_set (below_set bl (show w.heap.size≤w.heap.size+1 by omega) 0 (.bool (sg (x ^ i)))) (show w.heap.size≤w.heap.size+1 by omega) 1 (.string (mg (x ^ i)))
   exact bodyPost_ret (v:=.tuple #[vI (x ^ i),.int .i64 0]) (by simp [results,Tryz.results138,go_sem,r0,r1]) rfl ⟨rfl,bl⟩

theorem nbits_half {x:Nat} (h:x≠0):nbits (x / 2)+1=nbits x:=by
 unfold nbits
 rw [if_neg h]
 by_cases h2:x / 2=0
 ·rw [if_pos h2]
  have:x=1:=by omega
  subst this;rfl
 ·rw [if_neg h2,Nat.log2_def x,if_pos (by omega)]
theorem nbits_top {k g L:Nat} (hg:g≠0) (hL:L<2 ^ (24 * k)):nbits (L+2 ^ (24 * k) * g)=24 * k+nbits g:=by
 have hp:0<2 ^ (24 * k):=Nat.pow_pos (by decide)
 have hn:L+2 ^ (24 * k) * g≠0:=by
  have:=Nat.mul_pos hp (Nat.pos_of_ne_zero hg);omega
 unfold nbits
 rw [if_neg hn,if_neg hg]
 have h1:=Nat.log2_self_le hg
 have h2:=Nat.lt_log2_self (n:=g)
 have h4:2 ^ (24 * k+g.log2)≤L+2 ^ (24 * k) * g:=by
  rw [Nat.pow_add]
  have:=Nat.mul_le_mul_left (2 ^ (24 * k)) h1
  omega
 have h5:L+2 ^ (24 * k) * g<2 ^ (24 * k+(g.log2+1)):=by
  rw [Nat.pow_add]
  have:2 ^ (24 * k) * (g+1)≤2 ^ (24 * k) * 2 ^ (g.log2+1):=Nat.mul_le_mul_left _ h2
  rw [Nat.mul_add] at this;omega
 have h6:=(Nat.le_log2 hn).2 h4
 have h7:=(Nat.log2_lt hn).2 h5
 omega
theorem nbits_digs (n:Nat) (k:Nat) (hk:(digs 16777216 n).length=k+1):nbits n=24 * k+nbits (gd (digs 16777216 n) k):=by
 have hn:n≠0:=by rintro rfl;rw [digs_zero] at hk;simp at hk
 have h0:gd (digs 16777216 n) k≠0:=by have:=digs_last (B:=16777216) (by decide) n hn;rw [hk] at this;simpa using this
 have h1:=val_split 16777216 (digs 16777216 n) k (by omega)
 have h2:=val_drop 16777216 (digs 16777216 n) k (by omega)
 rw [List.drop_of_length_le (show (digs 16777216 n).length≤k+1 by omega)] at h2
 simp only [val,Nat.mul_zero,Nat.add_zero] at h2
 have h3:=val_lt ((digs_Dig (B:=16777216) (by decide) n).take k)
 rw [List.length_take,Nat.min_eq_left (by omega)] at h3
 rw [h2,val_digs (by decide)] at h1
 rw [show (16777216:Nat) ^ k=2 ^ (24 * k) from by rw [Nat.pow_mul]] at h1 h3
 have:=nbits_top h0 h3
 rw [← h1] at this
 exact this
theorem Rbits_any (A:Option Addr) (c n:Nat) (w:World) (hx:RdAt w .i64 A (digs 16777216 n)) (hl:(digs 16777216 n).length≤1000000000) :
  Calls Tryz.prog 180 #[.slice A (digs 16777216 n).length c] w (RetN (nbits n) w):=by
 rcases Nat.eq_zero_or_pos (digs 16777216 n).length with h0 | h0
 ·have hn:n=0:=(digs_nil_iff (by decide) n).1 (List.eq_nil_of_length_eq_zero h0)
  rw [h0]
  subst hn
  go_enter Tryz.func180,Tryz.ntmps180
  go_wp2_with fail
  go_ret
  exact ⟨rfl,Below.refl _ _⟩
 ·obtain ⟨k,hk⟩:∃ k,(digs 16777216 n).length=k+1:=⟨(digs 16777216 n).length - 1,by omega⟩
  have HN:=Lib.hid (nbits_digs n k hk)
  obtain ⟨b,o,rfl,hc⟩:=hx k (by omega)
  have hg:=(digs_Dig (B:=16777216) (by decide) n).gd (by decide) k
  generalize gd (digs 16777216 n) k=g at *
  rw [hk]
  have hq:(((k:Int)+1) == 0)=false:=by rw [beq_eq_false_iff_ne];omega
  have hkl:k≤1000000000:=by omega
  clear hk h0 hx hl
  go_enter Tryz.func180,Tryz.ntmps180
  go_wp2_with fail
  go_loop [3,4] (fun v3 v4=>∃ m x:Nat,v3 = .int .i64 m∧v4 = .int .i64 x∧x<16777216∧m≤24 * k+100000000 - x∧Hid (m+nbits x=24 * k+nbits g)) (fun _ v4=>(intOf v4).toNat)
  case atStart=>exact ⟨24 * k,g,by go_num,rfl,hg,by omega,Lib.hid rfl⟩
  case round =>
   obtain ⟨m,x,rfl,rfl,hx,hm,hv⟩:=hrel
   by_cases hx0:0<x
   ·have HX:=Lib.hid (nbits_half (x:=x) (by omega))
    go_wp2_with fail
    go_round
    case rel=>exact ⟨m+1,x / 2,by go_num,by go_num,by omega,by omega,Lib.hid (by have:=HX.out;have:=hv.out;omega)⟩
    case measure=>simp [intOf];omega
   ·go_wp2_with fail
    go_ret
    have h1:=hv.out
    have h2:=HN.out
    have h3:x=0:=by omega
    subst h3
    rw [show nbits 0=0 from rfl] at h1
    exact ⟨ret_int (by omega),Below.refl _ _⟩
theorem sign_cases (x:Int):x.sign = -1∧x<0∨x.sign=0∧x=0∨x.sign=1∧0<x:=by
 rcases Int.lt_trichotomy x 0 with h | h | h
 ·exact .inl ⟨Int.sign_eq_neg_one_of_neg h,h⟩
 ·exact .inr (.inl ⟨by rw [h];rfl,h⟩)
 ·exact .inr (.inr ⟨Int.sign_eq_one_of_pos h,h⟩)
theorem sub_sign_lt {x y:Int} (h:x<y):(x - y).sign = -1:=Int.sign_eq_neg_one_of_neg (by omega)
theorem sub_sign_gt {x y:Int} (h:y<x):(x - y).sign=1:=Int.sign_eq_one_of_pos (by omega)
theorem RCmp_lt (x y:Int) (w:World) (h:x.sign<y.sign):Calls Tryz.prog 15 #[vI x,vI y] w (RetN (x - y).sign w):=by
 have H1:=fun W=>Lib.hid (RValid_yes x W)
 have H2:=fun W=>Lib.hid (RValid_yes y W)
 have H3:=fun W=>Lib.hid (RSign_any x W)
 have H4:=fun W=>Lib.hid (RSign_any y W)
 have HV:Hid ((x - y).sign = -1):=Lib.hid (sub_sign_lt (by
  have h1:=sign_cases x
  have h2:=sign_cases y
  omega))
 have hq:(x.sign != y.sign)=true:=by rw [bne_iff_ne];omega
 rw [HV.out]
 clear HV
 generalize x.sign=sx at *
 generalize y.sign=sy at *
 go_enter Tryz.func15,Tryz.ntmps15
 go_wp2_with fail
 have t2:=(Ob.new (w) 25 #[.bool (sg x),.string (mg x)]).alloc (.cells #[.bool (sg y),.string (mg y)] 25)
 have t3:=Ob.new ((w.alloc (.cells #[.bool (sg x),.string (mg x)] 25))) 25 #[.bool (sg y),.string (mg y)]
 have bl:=(((Below.refl w.heap.size w).alloc (Nat.le_refl _) (.cells #[.bool (sg x),.string (mg x)] 25)).alloc (by simp only [World.size_alloc];omega) (.cells #[.bool (sg y),.string (mg y)] 25))
 try simp only [World.size_alloc] at t2 t3
 generalize World.alloc (World.alloc w _) _=W1 at t2 t3 bl ⊢
 refine ((H1 W1).out).mono ?_
 rintro e W2 ⟨rfl,hb⟩
 have t2:=t2.bl hb
 have t3:=t3.bl hb
 have bl:=bl.upb hb bl.size
 clear hb
 obtain ⟨c0_0,c0_1⟩:=t3.cells2
 go_wp2_with fail
 clear c0_0 c0_1
 refine ((H2 W2).out).mono ?_
 rintro e W3 ⟨rfl,hb⟩
 have t2:=t2.bl hb
 have t3:=t3.bl hb
 have bl:=bl.upb hb bl.size
 clear hb
 go_wp2_with fail
 refine region_qb (by kernel_rfl) (by kernel_rfl) ?_
 refine qb_run (vI x) (by kernel_rfl) (fun w' hC=>by obtain ⟨q0,q1⟩:=(t2.below hC t2.lt).cells2;go_simp) ?_
 simp only [Act.put,sIt,sIz,sIs]
 refine qb_call (.int .i64 sx) 61 #[vI x] (by kernel_rfl) (fun w'=>by go_simp) (fun w' hC=>((H3 w').out).mono (fun e w'' h=>⟨h.1,hC.step h.2⟩)) ?_
 simp only [Act.put,sIt,sIz,sIs]
 refine qb_run (vI y) (by kernel_rfl) (fun w' hC=>by obtain ⟨q0,q1⟩:=(t3.below hC t3.lt).cells2;go_simp) ?_
 simp only [Act.put,sIt,sIz,sIs]
 refine qb_call (.int .i64 sy) 61 #[vI y] (by kernel_rfl) (fun w'=>by go_simp) (fun w' hC=>((H4 w').out).mono (fun e w'' h=>⟨h.1,hC.step h.2⟩)) ?_
 simp only [Act.put,sIt,sIz,sIs]
 refine qb_mv (.int .i64 sx) _ (.inr rfl) (by kernel_rfl) (by rfl) ?_
 simp only [Act.put,sIt,sIz,sIs]
 refine qb_mv (.int .i64 sy) _ (.inr rfl) (by kernel_rfl) (by rfl) ?_
 simp only [Act.put,sIt,sIz,sIs]
 refine wpQuiet_nil (fun W4 hb=>?_)
 have t2:=t2.bl hb
 have t3:=t3.bl hb
 have bl:=bl.upb hb bl.size
 clear hb
 go_wp2_with fail
 go_ret
 exact ⟨rfl,bl⟩
theorem RCmp_gt (x y:Int) (w:World) (h:y.sign<x.sign):Calls Tryz.prog 15 #[vI x,vI y] w (RetN (x - y).sign w):=by
 have H1:=fun W=>Lib.hid (RValid_yes x W)
 have H2:=fun W=>Lib.hid (RValid_yes y W)
 have H3:=fun W=>Lib.hid (RSign_any x W)
 have H4:=fun W=>Lib.hid (RSign_any y W)
 have HV:Hid ((x - y).sign=1):=Lib.hid (sub_sign_gt (by
  have h1:=sign_cases x
  have h2:=sign_cases y
  omega))
 have hq:(x.sign != y.sign)=true:=by rw [bne_iff_ne];omega
 rw [HV.out]
 clear HV
 generalize x.sign=sx at *
 generalize y.sign=sy at *
 go_enter Tryz.func15,Tryz.ntmps15
 go_wp2_with fail
 have t2:=(Ob.new (w) 25 #[.bool (sg x),.string (mg x)]).alloc (.cells #[.bool (sg y),.string (mg y)] 25)
 have t3:=Ob.new ((w.alloc (.cells #[.bool (sg x),.string (mg x)] 25))) 25 #[.bool (sg y),.string (mg y)]
 have bl:=(((Below.refl w.heap.size w).alloc (Nat.le_refl _) (.cells #[.bool (sg x),.string (mg x)] 25)).alloc (by simp only [World.size_alloc];omega) (.cells #[.bool (sg y),.string (mg y)] 25))
 try simp only [World.size_alloc] at t2 t3
 generalize World.alloc (World.alloc w _) _=W1 at t2 t3 bl ⊢
 refine ((H1 W1).out).mono ?_
 rintro e W2 ⟨rfl,hb⟩
 have t2:=t2.bl hb
 have t3:=t3.bl hb
 have bl:=bl.upb hb bl.size
 clear hb
 obtain ⟨c0_0,c0_1⟩:=t3.cells2
 go_wp2_with fail
 clear c0_0 c0_1
 refine ((H2 W2).out).mono ?_
 rintro e W3 ⟨rfl,hb⟩
 have t2:=t2.bl hb
 have t3:=t3.bl hb
 have bl:=bl.upb hb bl.size
 clear hb
 go_wp2_with fail
 refine region_qb (by kernel_rfl) (by kernel_rfl) ?_
 refine qb_run (vI x) (by kernel_rfl) (fun w' hC=>by obtain ⟨q0,q1⟩:=(t2.below hC t2.lt).cells2;go_simp) ?_
 simp only [Act.put,sIt,sIz,sIs]
 refine qb_call (.int .i64 sx) 61 #[vI x] (by kernel_rfl) (fun w'=>by go_simp) (fun w' hC=>((H3 w').out).mono (fun e w'' h=>⟨h.1,hC.step h.2⟩)) ?_
 simp only [Act.put,sIt,sIz,sIs]
 refine qb_run (vI y) (by kernel_rfl) (fun w' hC=>by obtain ⟨q0,q1⟩:=(t3.below hC t3.lt).cells2;go_simp) ?_
 simp only [Act.put,sIt,sIz,sIs]
 refine qb_call (.int .i64 sy) 61 #[vI y] (by kernel_rfl) (fun w'=>by go_simp) (fun w' hC=>((H4 w').out).mono (fun e w'' h=>⟨h.1,hC.step h.2⟩)) ?_
 simp only [Act.put,sIt,sIz,sIs]
 refine qb_mv (.int .i64 sx) _ (.inr rfl) (by kernel_rfl) (by rfl) ?_
 simp only [Act.put,sIt,sIz,sIs]
 refine qb_mv (.int .i64 sy) _ (.inr rfl) (by kernel_rfl) (by rfl) ?_
 simp only [Act.put,sIt,sIz,sIs]
 refine wpQuiet_nil (fun W4 hb=>?_)
 have t2:=t2.bl hb
 have t3:=t3.bl hb
 have bl:=bl.upb hb bl.size
 clear hb
 go_wp2_with fail
 go_ret
 exact ⟨rfl,bl⟩
theorem cmp_same {x y:Int} (h:x.sign=y.sign):x.sign * cmpN x.natAbs y.natAbs=(x - y).sign:=by
 have h1:=sign_cases x
 have h2:=sign_cases y
 rcases Int.lt_trichotomy x y with h3 | h3 | h3
 ·rw [sub_sign_lt h3]
  rcases h1 with ⟨e,h1⟩ | ⟨e,h1⟩ | ⟨e,h1⟩
  ·rw [e,cmpN_gt (by omega)];rfl
  ·omega
  ·rw [e,cmpN_lt (by omega)];rfl
 ·subst h3
  rw [Int.sub_self,cmpN_eq rfl];simp
 ·rw [sub_sign_gt h3]
  rcases h1 with ⟨e,h1⟩ | ⟨e,h1⟩ | ⟨e,h1⟩
  ·rw [e,cmpN_lt (by omega)];rfl
  ·omega
  ·rw [e,cmpN_gt (by omega)];rfl
theorem RCmp_same (x y:Int) (w:World) (hx:Bd 400000000 x) (hy:Bd 400000000 y) (h:x.sign=y.sign):Calls Tryz.prog 15 #[vI x,vI y] w (RetN (x - y).sign w):=by
 have H1:=fun W=>Lib.hid (RValid_yes x W)
 have H2:=fun W=>Lib.hid (RValid_yes y W)
 have H3:=fun W=>Lib.hid (RSign_any x W)
 have H4:∀ W,Hid (Calls Tryz.prog 61 #[vI y] W (RetN x.sign W)):=fun W=>Lib.hid (by rw [h];exact RSign_any y W)
 have HX:=fun W=>Lib.hid (Rdigits_mg x W (hx.mono (by omega)))
 have HY:=fun W=>Lib.hid (Rdigits_mg y W (hy.mono (by omega)))
 have lx:=hx.digs24
 have ly:=hy.digs24
 have HV:=Lib.hid (cmp_same h)
 have hq:(x.sign != x.sign)=false:=by simp
 have HQ:Hid (IntKind.i64.wrap (x.sign * cmpN x.natAbs y.natAbs)=x.sign * cmpN x.natAbs y.natAbs):=Lib.hid (by
  rw [HV.out]
  have:=sign_cases (x - y)
  exact wr64 (by omega) (by omega))
 clear hx hy h
 rw [← HV.out]
 clear HV
 generalize x.sign=sx at *
 generalize hco:cmpN x.natAbs y.natAbs=co at *
 have HO:∀ (A1 A2:Option Addr) (c1 c2:Nat) W,RdAt W .i64 A1 (digs 16777216 x.natAbs)→RdAt W .i64 A2 (digs 16777216 y.natAbs)→Hid (Calls Tryz.prog 59 #[.slice A1 (digs 16777216 x.natAbs).length c1,.slice A2 (digs 16777216 y.natAbs).length c2] W (RetN co W)):=fun A1 A2 c1 c2 W r1 r2=>Lib.hid (by
  subst hco
  exact (Rorder_any A1 A2 c1 c2 x.natAbs y.natAbs W r1 r2 (by omega) (by omega)).mono (fun e w' h=>RetOrd.below h))
 clear hco
 go_enter Tryz.func15,Tryz.ntmps15
 go_wp2_with fail
 have t2:=(Ob.new (w) 25 #[.bool (sg x),.string (mg x)]).alloc (.cells #[.bool (sg y),.string (mg y)] 25)
 have t3:=Ob.new ((w.alloc (.cells #[.bool (sg x),.string (mg x)] 25))) 25 #[.bool (sg y),.string (mg y)]
 have bl:=(((Below.refl w.heap.size w).alloc (Nat.le_refl _) (.cells #[.bool (sg x),.string (mg x)] 25)).alloc (by simp only [World.size_alloc];omega) (.cells #[.bool (sg y),.string (mg y)] 25))
 try simp only [World.size_alloc] at t2 t3
 generalize World.alloc (World.alloc w _) _=W1 at t2 t3 bl ⊢
 refine ((H1 W1).out).mono ?_
 rintro e W2 ⟨rfl,hb⟩
 have t2:=t2.bl hb
 have t3:=t3.bl hb
 have bl:=bl.upb hb bl.size
 clear hb
 obtain ⟨c0_0,c0_1⟩:=t3.cells2
 go_wp2_with fail
 clear c0_0 c0_1
 refine ((H2 W2).out).mono ?_
 rintro e W3 ⟨rfl,hb⟩
 have t2:=t2.bl hb
 have t3:=t3.bl hb
 have bl:=bl.upb hb bl.size
 clear hb
 go_wp2_with fail
 refine region_qb (by kernel_rfl) (by kernel_rfl) ?_
 refine qb_run (vI x) (by kernel_rfl) (fun w' hC=>by obtain ⟨q0,q1⟩:=(t2.below hC t2.lt).cells2;go_simp) ?_
 simp only [Act.put,sIt,sIz,sIs]
 refine qb_call (.int .i64 sx) 61 #[vI x] (by kernel_rfl) (fun w'=>by go_simp) (fun w' hC=>((H3 w').out).mono (fun e w'' h=>⟨h.1,hC.step h.2⟩)) ?_
 simp only [Act.put,sIt,sIz,sIs]
 refine qb_run (vI y) (by kernel_rfl) (fun w' hC=>by obtain ⟨q0,q1⟩:=(t3.below hC t3.lt).cells2;go_simp) ?_
 simp only [Act.put,sIt,sIz,sIs]
 refine qb_call (.int .i64 sx) 61 #[vI y] (by kernel_rfl) (fun w'=>by go_simp) (fun w' hC=>((H4 w').out).mono (fun e w'' h=>⟨h.1,hC.step h.2⟩)) ?_
 simp only [Act.put,sIt,sIz,sIs]
 refine qb_mv (.int .i64 sx) _ (.inr rfl) (by kernel_rfl) (by rfl) ?_
 simp only [Act.put,sIt,sIz,sIs]
 refine qb_mv (.int .i64 sx) _ (.inr rfl) (by kernel_rfl) (by rfl) ?_
 simp only [Act.put,sIt,sIz,sIs]
 refine wpQuiet_nil (fun W4 hb=>?_)
 have t2:=t2.bl hb
 have t3:=t3.bl hb
 have bl:=bl.upb hb bl.size
 clear hb
 go_wp2_with fail
 have s2:=t2
 have s3:=t3
 refine region_by (CB W4) 9 [(0,true),(1,true),(2,true),(4,true),(5,true),(3,false),(6,false),(7,false),(8,true)] (by kernel_rfl) (by kernel_rfl) (CB.drew0 W4) ?_
 refine wpBy.look _ (.int .i64 sx) rfl (by kernel_rfl) (by intro w' hC;go_simp) ?_
 try simp only [Act.put,sIt,sIz,sIs]
 refine wpBy.look _ (.pointer (some ⟨w.heap.size,1,none⟩)) rfl (by kernel_rfl) (by intro w' hC;go_simp) ?_
 try simp only [Act.put,sIt,sIz,sIs]
 refine wpBy.look _ (.string (mg x)) rfl (by kernel_rfl) (by intro w' hC;obtain ⟨q0,q1⟩:=(s2.below hC s2.lt).cells2;go_simp) ?_
 try simp only [Act.put,sIt,sIz,sIs]
 refine wpBy.look _ (.pointer (some ⟨w.heap.size+1,1,none⟩)) rfl (by kernel_rfl) (by intro w' hC;go_simp) ?_
 try simp only [Act.put,sIt,sIz,sIs]
 refine wpBy.look _ (.string (mg y)) rfl (by kernel_rfl) (by intro w' hC;obtain ⟨q0,q1⟩:=(s3.below hC s3.lt).cells2;go_simp) ?_
 try simp only [Act.put,sIt,sIz,sIs]
 refine wpBy.do _ rfl (fun K hK=>?_)
 go_simp
 refine ((HX _).out).mono ?_
 rintro e W5 ⟨A1,c1,rfl,hc1,hr1,hb⟩
 have hb:CB W4 W5:=CB.of_drew hb
 have hS:=hb
 have t2:=t2.bl hb
 have t3:=t3.bl hb
 have bl:=bl.upb hb bl.size
 dsimp only
 refine hK.out _ _ hS ?_
 clear hK K hb
 try simp only [Act.put,sIt,sIz,sIs]
 refine wpBy.do _ rfl (fun K hK=>?_)
 go_simp
 refine ((HY W5).out).mono ?_
 rintro e W6 ⟨A2,c2,rfl,hc2,hr2,hb⟩
 have hS:=hS.step hb
 have t2:=t2.bl hb
 have t3:=t3.bl hb
 have hr1:=hr1.below hb
 have bl:=bl.upb hb bl.size
 dsimp only
 refine hK.out _ _ hS ?_
 clear hK K hb
 try simp only [Act.put,sIt,sIz,sIs]
 refine wpBy.do _ rfl (fun K hK=>?_)
 go_simp
 refine ((HO A1 A2 c1 c2 W6 hr1 hr2).out).mono ?_
 rintro e W7 ⟨rfl,hb⟩
 have hS:=hS.step hb
 have t2:=t2.bl hb
 have t3:=t3.bl hb
 have hr1:=hr1.below hb
 have hr2:=hr2.below hb
 have bl:=bl.upb hb bl.size
 dsimp only
 refine hK.out _ _ hS ?_
 clear hK K hb
 try simp only [Act.put,sIt,sIz,sIs]
 refine wpBy.look _ (.int .i64 (sx * co)) rfl (by kernel_rfl) (by intro w' hC;have q1:=HQ.out;go_simp) ?_
 try simp only [Act.put,sIt,sIz,sIs]
 clear hS s2 s3
 simp only [wpBy,List.drop_succ_cons,List.drop_zero]
 go_wp2_with fail
 refine NoPanic.normal ?_
 go_wp2_with fail
 go_ret
 exact ⟨rfl,bl⟩
theorem RCmp_any (x y:Int) (w:World) (hx:Bd 400000000 x) (hy:Bd 400000000 y):Calls Tryz.prog 15 #[vI x,vI y] w (RetN (x - y).sign w):=by
 rcases Int.lt_trichotomy x.sign y.sign with h | h | h
 ·exact RCmp_lt x y w h
 ·exact RCmp_same x y w hx hy h
 ·exact RCmp_gt x y w h

theorem root_even {R r X:Nat} (h:R+4 * (r * r)=X) (hlt:R<4 * r+1):(2 * r) * (2 * r)+R=X∧R≤2 * (2 * r):=by
 have e:(2 * r) * (2 * r)=4 * (r * r):=by rw [Nat.mul_mul_mul_comm]
 rw [e];omega
theorem root_odd {R r X:Nat} (h:R+4 * (r * r)=X) (hge:4 * r+1≤R) (hub:R≤8 * r+3):(2 * r+1) * (2 * r+1)+(R - (4 * r+1))=X∧R - (4 * r+1)≤2 * (2 * r+1):=by
 have e:(2 * r+1) * (2 * r+1)=4 * (r * r)+4 * r+1:=by
  have:(2 * r) * (2 * r)=4 * (r * r):=by rw [Nat.mul_mul_mul_comm]
  rw [Nat.add_mul,Nat.mul_add,this];omega
 rw [e];omega
theorem bits_zero {n i:Nat} (h:nbits n≤i):n / 2 ^ i % 2=0:=by
 have:n<2 ^ i:=by
  by_cases h0:n=0
  ·subst h0;exact Nat.pow_pos (by decide)
  ·unfold nbits at h
   rw [if_neg h0] at h
   exact (Nat.log2_lt h0).1 (by omega)
 rw [Nat.div_eq_of_lt this]
theorem half_step (n m:Nat) (h:0<m):n / 2 ^ (m - 1)=2 * (n / 2 ^ m)+n / 2 ^ (m - 1) % 2:=by
 obtain ⟨k,rfl⟩:∃ k,m=k+1:=⟨m - 1,by omega⟩
 rw [Nat.add_sub_cancel,Nat.pow_succ,← Nat.div_div_eq_div_mul]
 omega
theorem sqr_len (K n:Nat) (hK:(digs 16777216 n).length≤K) (v:Nat) (hv:v≤16 * n+16):(digs 16777216 v).length≤K+1:=by
 have h:=lt_pow_digs (B:=16777216) (by decide) n
 have h2:(16777216:Nat) ^ (digs 16777216 n).length≤16777216 ^ K:=Nat.pow_le_pow_right (by decide) hK
 refine digs_length_le (by decide) ?_
 rw [Nat.pow_succ]
 generalize (16777216:Nat) ^ K=P at *
 omega
theorem RSqrt_any (n q:Nat) (w:World) (hx:Bd 10000000 n) (hq1:q * q≤n) (hq2:n<(q+1) * (q+1)):Calls Tryz.prog 139 #[vI n] w (RetIE q 0 w):=by
 have e3:sg (n:Int)=false:=by unfold sg;simp
 have H1:∀ W,Hid (Calls Tryz.prog 54 #[.agg #[.bool false,.string (mg n)]] W (RetB true W)):=fun W=>Lib.hid (by have:=RValid_yes n W;rwa [vI,e3] at this)
 have HX:∀ W,Hid (Calls Tryz.prog 56 #[.string (mg n)] W (RetD .i64 16777216 n W)):=fun W=>Lib.hid (by have:=Rdigits_mg n W (hx.mono (by omega));rwa [Int.natAbs_natCast] at this)
 have ln:=hx.digs24
 rw [Int.natAbs_natCast] at ln
 have hnb:nbits n≤80000000:=by have:=nbits_le hx;rw [Int.natAbs_natCast] at this;omega
 have HQ1:=Lib.hid hq1
 have HQ2:=Lib.hid hq2
 rw [vI,e3]
 clear hx hq1 hq2 e3
 go_enter Tryz.func139,Tryz.ntmps139
 go_wp2_with fail
 have t1:=(Ob.new (w) 25 #[.bool false,.string (mg n)]).alloc (.cells #[.bool false,.string ⟨#[]⟩] 25)
 have t2:=Ob.new ((w.alloc (.cells #[.bool false,.string (mg n)] 25))) 25 #[.bool false,.string ⟨#[]⟩]
 have bl:=(((Below.refl w.heap.size w).alloc (Nat.le_refl _) (.cells #[.bool false,.string (mg n)] 25)).alloc (by simp only [World.size_alloc];omega) (.cells #[.bool false,.string ⟨#[]⟩] 25))
 try simp only [World.size_alloc] at t1 t2
 generalize World.alloc (World.alloc w _) _=W1 at t1 t2 bl ⊢
 refine ((H1 W1).out).mono ?_
 rintro e W2 ⟨rfl,hb⟩
 have t1:=t1.bl hb
 have t2:=t2.bl hb
 have bl:=bl.upb hb bl.size
 clear hb
 obtain ⟨c0_0,c0_1⟩:=t1.cells2
 go_wp2_with fail
 clear c0_0 c0_1
 refine ((HX W2).out).mono ?_
 rintro e W3 ⟨A1,c1,rfl,hc1,hr1,hb⟩
 have t1:=t1.bl hb
 have t2:=t2.bl hb
 have bl:=bl.upb hb bl.size
 clear hb
 go_wp2_with fail
 refine (Rbits_any A1 c1 n W3 hr1 (by omega)).mono ?_
 rintro e W4 ⟨rfl,hb⟩
 have t1:=t1.bl hb
 have t2:=t2.bl hb
 have hr1:=hr1.below hb
 have bl:=bl.upb hb bl.size
 clear hb
 go_wp2_with fail
 clear H1 HX
 have LN:=Lib.hid (fun v hv=>sqr_len 10000000 n ln v hv)
 have hnb2:=Lib.hid (nbits_lt n)
 obtain ⟨k0,hk0⟩:∃ k,k=(nbits n+1) / 2:=⟨_,rfl⟩
 have hkI:((nbits n:Int)+1) / 2=(k0:Int):=by omega
 have hk9:k0≤50000000:=by omega
 rw [← hk0] at hnb2
 try rw [hkI]
 clear hk0 hkI
 have HR1:=Lib.hid hr1
 clear hr1
 go_loopw [5,6,7] (fun v5 v6 v7 wr=>∃ (k r s:Nat) (A B:Option Addr) (c d:Nat),k≤k0∧v7 = .int .i64 k∧v5 = .slice A (digs 16777216 r).length c∧v6 = .slice B (digs 16777216 s).length d∧Hid ((digs 16777216 r).length≤c)∧Hid ((digs 16777216 s).length≤d)∧Hid (r * r+s=n / 2 ^ (2 * k))∧Hid (s≤2 * r)∧Hid (RdAt wr .i64 A (digs 16777216 r))∧Hid (RdAt wr .i64 B (digs 16777216 s))∧Hid (RdAt wr .i64 A1 (digs 16777216 n))∧Ob wr w.heap.size 25 #[.bool false,.string (mg n)]∧Ob wr (w.heap.size+1) 25 #[.bool false,.string ⟨#[]⟩]∧Below w.heap.size w wr) (fun _ _ v7 _=>(intOf v7).toNat)
 case atStart =>
  refine ⟨k0,0,0,none,none,0,0,Nat.le_refl _,rfl,by rw [digs_zero];rfl,by rw [digs_zero];rfl,Lib.hid (by rw [digs_zero];exact Nat.le_refl _),Lib.hid (by rw [digs_zero];exact Nat.le_refl _),Lib.hid ?_,Lib.hid (Nat.le_refl _),Lib.hid (by rw [digs_zero];exact RdAt.nil _ _ _),Lib.hid (by rw [digs_zero];exact RdAt.nil _ _ _),HR1,t1,t2,bl⟩
  rw [Nat.div_eq_of_lt hnb2.out]
 case round =>
  clear HR1 t1 t2 bl
  obtain ⟨k,r,s,A,B,c,d,hk,rfl,rfl,rfl,hc,hd,hv,hs,hrA,hrB,hrn,t1,t2,bl⟩:=hrel
  by_cases hk0':0<k
  ·obtain ⟨wo,rfl⟩:∃ wo:World,wo=wr:=⟨_,rfl⟩
   have hvx:Hid (r * r+s≤n):=Lib.hid (by rw [hv.out];exact Nat.div_le_self _ _)
   have hrr:Hid (r≤n):=Lib.hid (by have:=hvx.out;have:=Nat.le_mul_self r;omega)
   go_wp2_with fail
   go_loopw [6,8] (fun v6 v8 wr=>∃ (m R:Nat) (B:Option Addr) (d:Nat),m≤2 * k∧2 * k≤m+2∧v8 = .int .i64 ((m:Int) - 1)∧v6 = .slice B (digs 16777216 R).length d∧Hid ((digs 16777216 R).length≤d)∧Hid (R+r * r * 2 ^ (2 * k - m)=n / 2 ^ m)∧Hid (R≤2 ^ (2 * k - m) * (s+1) - 1)∧Hid (RdAt wr .i64 B (digs 16777216 R))∧Hid (RdAt wr .i64 A (digs 16777216 r))∧Hid (RdAt wr .i64 A1 (digs 16777216 n))∧Ob wr w.heap.size 25 #[.bool false,.string (mg n)]∧Ob wr (w.heap.size+1) 25 #[.bool false,.string ⟨#[]⟩]∧Below w.heap.size w wr) (fun _ v8 _=>(intOf v8+1).toNat)
   case atStart =>
    refine ⟨2 * k,s,B,d,Nat.le_refl _,by omega,by go_num,rfl,hd,Lib.hid ?_,Lib.hid ?_,hrB,hrA,hrn,t1,t2,bl⟩
    ·rw [Nat.sub_self,Nat.pow_zero,Nat.mul_one,Nat.add_comm];exact hv.out
    ·rw [Nat.sub_self,Nat.pow_zero,Nat.one_mul];omega
   case round =>
    clear hrB hrA hrn t1 t2 bl hd
    obtain ⟨m,R,B,d,hm1,hm2,rfl,rfl,hd,hV,hU,hrB,hrA,hrn,t1,t2,bl⟩:=hrel
    by_cases hm:2 * k<m+2
    ·have hRn:Hid (R≤n):=Lib.hid (by
      have h1:=hV.out
      have h2:=Nat.div_le_self n (2 ^ m)
      omega)
     have hm0:0<m:=by omega
     have HB1:=fun W h=>Lib.hid (Rbits_any A1 c1 n W h (by omega))
     have lR:=LN.out R (by have:=hRn.out;omega)
     have hmi:((m:Int) - 1)<(m:Int):=by omega
     by_cases hib:m - 1<nbits n
     ·have HB2:∀ W,RdAt W .i64 A1 (digs 16777216 n)→Hid (Calls Tryz.prog 181 #[.slice A1 (digs 16777216 n).length c1,.int .i64 ((m:Int) - 1)] W (RetN ((n / 2 ^ (m - 1) % 2:Nat):Int) W)):=fun W h=>Lib.hid (by
       rw [show ((m:Int) - 1)=((m - 1:Nat):Int) from by omega]
       exact Rbit_any A1 c1 n (m - 1) W h (by omega) hib)
      have hit:((m:Int) - 1)<(nbits n:Int):=by omega
      obtain ⟨b,hbv⟩:∃ b,b=n / 2 ^ (m - 1) % 2:=⟨_,rfl⟩
      rw [← hbv] at HB2
      have HB1':Hid (b≤1):=Lib.hid (by omega)
      have HBV:=Lib.hid hbv
      have HTW:=fun W h=>Lib.hid (Rtwice_any B d R b W h (by omega) HB1'.out)
      clear hbv
      go_wp2_with fail
      refine (HB1 wr hrn.out).mono ?_
      rintro e W5 ⟨rfl,hb⟩
      have t1:=t1.bl hb
      have t2:=t2.bl hb
      have bl:=bl.upb hb bl.size
      have hrA:=Lib.hid (hrA.out.below hb)
      have hrB:=Lib.hid (hrB.out.below hb)
      have hrn:=Lib.hid (hrn.out.below hb)
      clear hb
      go_wp2_with fail
      refine (HB2 W5 hrn.out).out.mono ?_
      rintro e W6 ⟨rfl,hb⟩
      have t1:=t1.bl hb
      have t2:=t2.bl hb
      have bl:=bl.upb hb bl.size
      have hrA:=Lib.hid (hrA.out.below hb)
      have hrB:=Lib.hid (hrB.out.below hb)
      have hrn:=Lib.hid (hrn.out.below hb)
      clear hb
      go_wp2_with fail
      refine (HTW W6 hrB.out).out.mono ?_
      rintro e W7 ⟨B',d',rfl,hd',hrB',hb⟩
      have t1:=t1.bl hb
      have t2:=t2.bl hb
      have bl:=bl.upb hb bl.size
      have hrA':=Lib.hid (hrA.out.below hb)
      have hrn':=Lib.hid (hrn.out.below hb)
      have HD':=Lib.hid hd'
      have HRB':=Lib.hid hrB'
      clear hb hd' hrB' hrA hrn hrB
      go_wp2_with fail
      go_roundw
      case rel =>
       have hp:0<2 ^ (2 * k - m):=Nat.pow_pos (by decide)
       have e2:2 ^ (2 * k - (m - 1))=2 * 2 ^ (2 * k - m):=by rw [← Nat.pow_succ'];congr 1;omega
       have h1:=hV.out
       have h2:=half_step n m hm0
       have h3:=HBV.out
       have h4:=hU.out
       have h5:=HB1'.out
       refine ⟨m - 1,2 * R+b,B',d',by omega,by omega,by first | (congr 1;omega) | go_num,rfl,HD',Lib.hid ?_,Lib.hid ?_,HRB',hrA',hrn',t1,t2,bl⟩
       ·rw [h2,← h1,← h3,e2]
        have:r * r * (2 * 2 ^ (2 * k - m))=2 * (r * r * 2 ^ (2 * k - m)):=Nat.mul_left_comm _ _ _
        omega
       ·rw [e2,Nat.mul_assoc]
        have:2 ^ (2 * k - m) * 1≤2 ^ (2 * k - m) * (s+1):=Nat.mul_le_mul_left _ (by omega)
        generalize 2 ^ (2 * k - m) * (s+1)=P at *
        omega
      case measure=>simp [intOf];omega
     ·obtain ⟨b,hb0⟩:∃ b:Nat,b=0:=⟨0,rfl⟩
      have HB1':Hid (b≤1):=Lib.hid (by omega)
      have HBV:Hid (b=n / 2 ^ (m - 1) % 2):=Lib.hid (by rw [bits_zero (by omega),hb0])
      have HTW:∀ W,RdAt W .i64 B (digs 16777216 R)→Hid (Calls Tryz.prog 144 #[.slice B (digs 16777216 R).length d,.int .i64 0] W (RetD .i64 16777216 (2 * R+b) W)):=fun W h=>Lib.hid (by
       subst hb0
       exact Rtwice_any B d R 0 W h (by omega) (by omega))
      have hit:¬ ((m:Int) - 1)<(nbits n:Int):=by omega
      clear hb0
      go_wp2_with fail
      refine (HB1 wr hrn.out).mono ?_
      rintro e W5 ⟨rfl,hb⟩
      have t1:=t1.bl hb
      have t2:=t2.bl hb
      have bl:=bl.upb hb bl.size
      have hrA:=Lib.hid (hrA.out.below hb)
      have hrB:=Lib.hid (hrB.out.below hb)
      have hrn:=Lib.hid (hrn.out.below hb)
      clear hb
      go_wp2_with fail
      refine (HTW W5 hrB.out).out.mono ?_
      rintro e W7 ⟨B',d',rfl,hd',hrB',hb⟩
      have t1:=t1.bl hb
      have t2:=t2.bl hb
      have bl:=bl.upb hb bl.size
      have hrA':=Lib.hid (hrA.out.below hb)
      have hrn':=Lib.hid (hrn.out.below hb)
      have HD':=Lib.hid hd'
      have HRB':=Lib.hid hrB'
      clear hb hd' hrB' hrA hrn hrB
      go_wp2_with fail
      go_roundw
      case rel =>
       have hp:0<2 ^ (2 * k - m):=Nat.pow_pos (by decide)
       have e2:2 ^ (2 * k - (m - 1))=2 * 2 ^ (2 * k - m):=by rw [← Nat.pow_succ'];congr 1;omega
       have h1:=hV.out
       have h2:=half_step n m hm0
       have h3:=HBV.out
       have h4:=hU.out
       have h5:=HB1'.out
       refine ⟨m - 1,2 * R+b,B',d',by omega,by omega,by first | (congr 1;omega) | go_num,rfl,HD',Lib.hid ?_,Lib.hid ?_,HRB',hrA',hrn',t1,t2,bl⟩
       ·rw [h2,← h1,← h3,e2]
        have:r * r * (2 * 2 ^ (2 * k - m))=2 * (r * r * 2 ^ (2 * k - m)):=Nat.mul_left_comm _ _ _
        omega
       ·rw [e2,Nat.mul_assoc]
        have:2 ^ (2 * k - m) * 1≤2 ^ (2 * k - m) * (s+1):=Nat.mul_le_mul_left _ (by omega)
        generalize 2 ^ (2 * k - m) * (s+1)=P at *
        omega
      case measure=>simp [intOf];omega
    ·have hRn:Hid (R≤n):=Lib.hid (by
      have h1:=hV.out
      have h2:=Nat.div_le_self n (2 ^ m)
      omega)
     have hk1:2 * k - m=2:=by omega
     have hmk:m=2 * (k - 1):=by omega
     have hV2:Hid (R+4 * (r * r)=n / 2 ^ (2 * (k - 1))):=Lib.hid (by
      have h1:=hV.out
      rw [hk1,hmk] at h1
      rw [← h1];omega)
     have hU2:Hid (R≤8 * r+3):=Lib.hid (by
      have h1:=hU.out
      have h2:=hs.out
      rw [hk1] at h1
      omega)
     have l1:=LN.out (2 * r) (by have:=hrr.out;omega)
     have l2:=LN.out (4 * r+1) (by have:=hrr.out;omega)
     have l3:=LN.out R (by have:=hRn.out;omega)
     have l0:=LN.out r (by have:=hrr.out;omega)
     have HT0:∀ W,RdAt W .i64 A (digs 16777216 r)→Hid (Calls Tryz.prog 144 #[.slice A (digs 16777216 r).length c,.int .i64 0] W (RetD .i64 16777216 (2 * r) W)):=fun W h=>Lib.hid (Rtwice_any A c r 0 W h (by omega) (by omega))
     have HT1:∀ (D:Option Addr) e W,RdAt W .i64 D (digs 16777216 (2 * r))→Hid (Calls Tryz.prog 144 #[.slice D (digs 16777216 (2 * r)).length e,.int .i64 1] W (RetD .i64 16777216 (4 * r+1) W)):=fun D e W h=>Lib.hid (by
      have:=Rtwice_any D e (2 * r) 1 W h (by omega) (by omega)
      rwa [show 2 * (2 * r)+1=4 * r+1 from by omega] at this)
     have HT2:∀ W,RdAt W .i64 A (digs 16777216 r)→Hid (Calls Tryz.prog 144 #[.slice A (digs 16777216 r).length c,.int .i64 1] W (RetD .i64 16777216 (2 * r+1) W)):=fun W h=>Lib.hid (Rtwice_any A c r 1 W h (by omega) (by omega))
     clear hV hU hk1
     go_wp2_with fail
     refine (HT0 wr hrA.out).out.mono ?_
     rintro e W5 ⟨D,dd,rfl,hdd,hrD,hb⟩
     have t1:=t1.bl hb
     have t2:=t2.bl hb
     have bl:=bl.upb hb bl.size
     have hrA:=Lib.hid (hrA.out.below hb)
     have hrB:=Lib.hid (hrB.out.below hb)
     have hrn:=Lib.hid (hrn.out.below hb)
     have HRD:=Lib.hid hrD
     clear hb hdd hrD
     go_wp2_with fail
     refine (HT1 D dd W5 HRD.out).out.mono ?_
     rintro e W6 ⟨T,tt,rfl,htt,hrT,hb⟩
     have t1:=t1.bl hb
     have t2:=t2.bl hb
     have bl:=bl.upb hb bl.size
     have hrA:=Lib.hid (hrA.out.below hb)
     have hrB:=Lib.hid (hrB.out.below hb)
     have hrn:=Lib.hid (hrn.out.below hb)
     have HRT:=Lib.hid hrT
     clear hb htt hrT HRD
     go_wp2_with fail
     refine ((Rorder_any B T d tt R (4 * r+1) W6 hrB.out HRT.out (by omega) (by omega)).mono (fun e w' h=>RetOrd.below h)).mono ?_
     rintro e W7 ⟨rfl,hb⟩
     have t1:=t1.bl hb
     have t2:=t2.bl hb
     have bl:=bl.upb hb bl.size
     have hrA:=Lib.hid (hrA.out.below hb)
     have hrB:=Lib.hid (hrB.out.below hb)
     have hrn:=Lib.hid (hrn.out.below hb)
     have HRT:=Lib.hid (HRT.out.below hb)
     clear hb
     by_cases hge:4 * r+1≤R
     ·have hc0:0≤cmpN R (4 * r+1):=by unfold cmpN;split <;> (try split) <;> omega
      have HGE:=Lib.hid hge
      have HMI:=Lib.hid (Rminus_any B T d tt R (4 * r+1) W7 hrB.out HRT.out (by omega) hge)
      clear hge
      go_wp2_with fail
      refine HMI.out.mono ?_
      rintro e W8 ⟨M,mm,rfl,hmm,hrM,hb⟩
      have t1:=t1.bl hb
      have t2:=t2.bl hb
      have bl:=bl.upb hb bl.size
      have hrA:=Lib.hid (hrA.out.below hb)
      have hrn:=Lib.hid (hrn.out.below hb)
      have HRM:=Lib.hid hrM
      have HMM:=Lib.hid hmm
      clear hb hrM hmm HMI
      go_wp2_with fail
      refine (HT2 W8 hrA.out).out.mono ?_
      rintro e W9 ⟨N,nn,rfl,hnn,hrN,hb⟩
      have t1:=t1.bl hb
      have t2:=t2.bl hb
      have bl:=bl.upb hb bl.size
      have hrn:=Lib.hid (hrn.out.below hb)
      have HRM:=Lib.hid (HRM.out.below hb)
      have HRN:=Lib.hid hrN
      have HNN:=Lib.hid hnn
      clear hb hrN hnn
      go_wp2_with fail
      go_roundw
      case rel =>
       obtain ⟨g1,g2⟩:=root_odd hV2.out HGE.out hU2.out
       exact ⟨k - 1,2 * r+1,R - (4 * r+1),N,M,nn,mm,by omega,by first | (congr 1;omega) | go_num,rfl,rfl,HNN,HMM,Lib.hid g1,Lib.hid g2,HRN,HRM,hrn,t1,t2,bl⟩
      case measure=>simp [intOf];omega
     ·have hc0:¬ 0≤cmpN R (4 * r+1):=by rw [cmpN_lt (by omega)];omega
      have HGE:=Lib.hid hge
      clear hge
      go_wp2_with fail
      refine (HT0 W7 hrA.out).out.mono ?_
      rintro e W9 ⟨N,nn,rfl,hnn,hrN,hb⟩
      have t1:=t1.bl hb
      have t2:=t2.bl hb
      have bl:=bl.upb hb bl.size
      have hrn:=Lib.hid (hrn.out.below hb)
      have hrB:=Lib.hid (hrB.out.below hb)
      have HRN:=Lib.hid hrN
      have HNN:=Lib.hid hnn
      clear hb hrN hnn
      go_wp2_with fail
      go_roundw
      case rel =>
       obtain ⟨g1,g2⟩:=root_even hV2.out (by have:=HGE.out;omega)
       exact ⟨k - 1,2 * r,R,N,B,nn,d,by omega,by first | (congr 1;omega) | go_num,rfl,rfl,HNN,hd,Lib.hid g1,Lib.hid g2,HRN,hrB,hrn,t1,t2,bl⟩
      case measure=>simp [intOf];omega
  ·obtain rfl:k=0:=by omega
   have hV3:=hv.out
   rw [Nat.mul_zero,Nat.pow_zero,Nat.div_one] at hV3
   have hr:r=q:=by
    refine sqrt_uniq (n:=n) (by omega) ?_ HQ1.out HQ2.out
    have:=hs.out
    rw [Nat.add_mul,Nat.mul_add];omega
   subst hr
   have l0:=LN.out r (by have:=Nat.le_mul_self r;omega)
   have HS:∀ W,RdAt W .i64 A (digs 16777216 r)→Hid (Calls Tryz.prog 57 #[.bool false,.slice A (digs 16777216 r).length c] W (RetI (r:Int) W)):=fun W h=>Lib.hid (Rsigned_d A c r false W h (by omega))
   clear hv hV3 HQ1 HQ2 hs
   go_wp2_with fail
   refine (HS wr hrA.out).out.mono ?_
   rintro e W9 ⟨rfl,hb⟩
   have t1:=t1.bl hb
   have t2:=t2.bl hb
   have bl:=bl.upb hb bl.size
   have fr:=t2.free
   obtain ⟨z0,z1⟩:=t2.cells2
   clear hb
   go_wp2_with fail
   obtain ⟨r0,r1⟩:=(t2.set2 (.bool (sg r)) (.string (mg r))).cells2
   have bl:=below_set (below_set bl (show w.heap.size≤w.heap.size+1 by omega) 0 (.bool (sg r))) (show w.heap.size≤w.heap.size+1 by omega) 1 (.string (mg r))
   exact bodyPost_ret (v:=.tuple #[vI r,.int .i64 0]) (by simp [results,Tryz.results139,go_sem,r0,r1]) rfl ⟨rfl,bl⟩

theorem short_step {d P z q r rem V V' low low' m:Nat} (h:d * V+P * 16777216 * rem+low=m) (hl:low=low'+P * z) (hv:V'=V+P * q) (ht:d * q+r=rem * 16777216+z):d * V'+P * r+low'=m:=by
 have h1:d * (P * q)+P * r=P * 16777216 * rem+P * z:=by
  rw [← Nat.mul_assoc,Nat.mul_comm d P,Nat.mul_assoc,← Nat.mul_add,ht,Nat.mul_add,Nat.mul_comm rem,Nat.mul_assoc]
 rw [hv,Nat.mul_add]
 omega
theorem Rshort_any (A:Option Addr) (c n d:Nat) (w:World) (hr:RdAt w .i64 A (digs 16777216 n)) (hl:(digs 16777216 n).length≤1000000000) (hd0:0<d) (hd1:d≤16777216) :
  Calls Tryz.prog 216 #[.slice A (digs 16777216 n).length c,.int .i64 (d:Nat)] w (fun e w'=>∃ B c',e = .returned (.tuple #[.slice B (digs 16777216 (n / d)).length c',.int .i64 ((n % d:Nat):Int)])∧(digs 16777216 (n / d)).length≤c'∧RdAt w' .i64 B (digs 16777216 (n / d))∧Below w.heap.size w w'):=by
 obtain ⟨xs,hxs⟩:∃ xs,xs=digs 16777216 n:=⟨_,rfl⟩
 rw [← hxs] at hr hl ⊢
 have HXS:=Lib.hid hxs
 have HDX:Hid (Dig 16777216 xs):=Lib.hid (by rw [hxs];exact digs_Dig (by decide) n)
 have HVX:Hid (val 16777216 xs=n):=Lib.hid (by rw [hxs];exact val_digs (by decide) n)
 clear hxs
 have HX:=Lib.hid hr
 clear hr
 obtain ⟨w1,hmk,hbk,HW,hsz⟩:=make_rnat w (xs.length:Int) (by omega) (by omega)
 have HB:=Lib.hid hbk
 rw [Int.toNat_natCast] at HB
 clear hsz hbk
 go_enter Tryz.func216,Tryz.ntmps216
 go_wp2_with fail
 go_loopw [7,8] (fun v7 v8 wr=>∃ (k rem:Nat) (zs:List Nat),k≤xs.length∧rem<d∧v7 = .int .i64 rem∧v8 = .int .i64 ((k:Int) - 1)∧Hid (zs.length=xs.length)∧Hid (Dig 16777216 zs)∧Hid (∀ j,j<k→gd zs j=0)∧Hid (d * val 16777216 zs+16777216 ^ k * rem+val 16777216 (xs.take k)=n)∧Hid (Blk wr .i64 3 w.heap.size zs)∧Below w.heap.size w wr) (fun _ v8 _=>((intOf v8)+1).toNat)
 case atStart =>
  refine ⟨xs.length,0,List.replicate xs.length 0,Nat.le_refl _,hd0,rfl,rfl,Lib.hid (by simp),Lib.hid (Dig.replicate (by decide) _),Lib.hid (fun j hj=>?_),Lib.hid ?_,HB,HW⟩
  ·exact gd_zero_above (M:=16777216) (n:=0) (by decide) (by rw [val_replicate];simp) j (by omega)
  ·rw [List.take_length,HVX.out,val_replicate];simp
 case round =>
  clear HB HW hmk
  obtain ⟨k,rem,zs,hk,hrem,rfl,rfl,hz,hdz,hzero,hv,hB,bl⟩:=hrel
  by_cases hk0:0<k
  ·obtain ⟨b,o,rfl,hcl⟩:=HX.out (k - 1) (by omega)
   have hcl:=below_cell bl hcl (lt_of_cell hcl)
   have hge:(0:Int)≤(k:Int) - 1:=by omega
   have hlt:(k:Int) - 1<xs.length:=by omega
   have hi:((k:Int) - 1).toNat=k - 1:=by omega
   have hlz:k - 1<zs.length:=by rw [hz.out];omega
   have hfz:=hB.out.free (k - 1)
   have hcz:=hB.out.cell hlz
   have hg:=HDX.out.gd (by decide) (k - 1)
   have HG:=Lib.hid hg
   go_wp2_with fail
   go_roundw
   case rel =>
    have hg:=HG.out
    have hlow:=val_take_succ' 16777216 xs (k - 1)
    have hset:=val_set 16777216 zs (k - 1) ((rem * 16777216+gd xs (k - 1)) / d) hlz
    rw [hzero.out (k - 1) (by omega),Nat.mul_zero,Nat.add_zero] at hset
    have hP:16777216 ^ k=16777216 ^ (k - 1) * 16777216:=by rw [← Nat.pow_succ];congr 1;omega
    have h:=hv.out
    rw [hP] at h
    rw [show k - 1+1=k from by omega] at hlow
    have hq:(rem * 16777216+gd xs (k - 1)) / d<16777216:=Nat.div_lt_of_lt_mul (by
     have:(rem+1) * 16777216≤d * 16777216:=Nat.mul_le_mul_right _ hrem
     omega)
    refine ⟨k - 1,(rem * 16777216+gd xs (k - 1)) % d,zs.set (k - 1) ((rem * 16777216+gd xs (k - 1)) / d),by omega,Nat.mod_lt _ hd0,?_,?_,Lib.hid (by simp [hz.out]),Lib.hid (hdz.out.set _ _ hq),Lib.hid (fun j hj=>?_),Lib.hid (short_step h hlow hset (Nat.div_add_mod _ _)),Lib.hid ?_,bl.setCell (Nat.le_refl _) _⟩
    ·rw [Int.natCast_emod];rfl
    ·congr 1;omega
    ·rw [gd_set_ne _ _ (by omega)];exact hzero.out j (by omega)
    ·have hb:=hB.out.set (k - 1) ((rem * 16777216+gd xs (k - 1)) / d)
     rw [Int.natCast_ediv] at hb
     exact hb
   case measure=>simp [intOf];omega
  ·obtain rfl:k=0:=by omega
   have h:=hv.out
   rw [Nat.pow_zero,Nat.one_mul,List.take_zero] at h
   have h2:d * val 16777216 zs+rem=n:=by simpa [val] using h
   have hq:Hid (n / d=val 16777216 zs):=Lib.hid (by rw [← h2,Nat.mul_add_div hd0,Nat.div_eq_of_lt hrem];rfl)
   have hm:Hid (n % d=rem):=Lib.hid (by rw [← h2,Nat.mul_add_mod,Nat.mod_eq_of_lt hrem])
   clear h h2 hv
   have HTR:=Lib.hid (Rtrim_any (some ⟨w.heap.size,0,none⟩) xs.length xs.length zs wr hz (Lib.hid hB.out.rd) (by omega) (Nat.le_refl _))
   go_wp2_with fail
   refine HTR.out.mono ?_
   rintro e W9 ⟨rfl,rfl⟩
   go_wp2_with fail
   go_ret2
   rw [hq.out,hm.out,digs_val (by decide) hdz.out]
   exact ⟨some ⟨w.heap.size,0,none⟩,xs.length,rfl,by have:=trimL_length_le zs;rw [hz.out] at this;exact this,hB.out.rd.trimL,bl⟩

theorem Rdigits_own (s:ByteArray) (w:World) (hs:s.size≤2000000000) (hlen:(digs 16777216 (sv s)).length=(s.size+2) / 3) :
  Calls Tryz.prog 56 #[.string s] w (fun e w'=>∃ b,w.heap.size≤b∧e = .returned (.slice (some ⟨b,0,none⟩) (digs 16777216 (sv s)).length (digs 16777216 (sv s)).length)∧Blk w' .i64 3 b (digs 16777216 (sv s))∧Below w.heap.size w w'):=by
 obtain ⟨w1,hmk,hbk,HW,hsz⟩:=make_rnat w (((s.size:Int)+2) / 3) (by omega) (by omega)
 have HL:=Lib.hid hlen
 clear hlen
 have HS:=Lib.hid hsz
 have HB:=Lib.hid hbk
 clear hsz hbk
 go_enter Tryz.func56,Tryz.ntmps56
 go_wp2
 go_loopw [4] (fun v4 wr=>∃ (k:Nat) (zs:List Nat),k≤s.size∧v4 = .int .i64 k∧Hid (Blk wr .i64 3 w.heap.size zs)∧Hid (zs.length=(s.size+2) / 3)∧Hid (Dig 16777216 zs)∧Hid (val 16777216 zs=val 256 ((rb s).take k))∧Below w.heap.size w wr) (fun v4 _=>s.size - (intOf v4).toNat)
 case atStart=>exact ⟨0,_,by omega,rfl,HB,Lib.hid (by simp;omega),Lib.hid (Dig.replicate (by decide) _),Lib.hid (by simp [val,val_replicate]),HW⟩
 case round =>
  obtain ⟨k,zs,hk,rfl,hB,hz,hdz,hv,hbl⟩:=hrel
  clear HB HS HW hmk
  by_cases hkl:k<s.size
  ·have hcz:=hB.out.cell (i:=k / 3) (by rw [hz.out];omega)
   have hfz:=hB.out.free (k / 3)
   go_wp2_with fail
   have i1:(0:Int)≤(k:Int) / 3:=by omega
   have i2:(k:Int) / 3<((s.size:Int)+2) / 3:=by omega
   have i3:(0:Int)≤(s.size:Int) - 1 - k:=by omega
   have i4:(s.size:Int) - 1 - k<(s.size:Int):=by omega
   have i8:(k:Int)≤(s.size:Int) - 1:=by omega
   have i5:(0:Int)≤8 * ((k:Int) % 3):=by omega
   have i6:8 * ((k:Int) % 3)<24:=by omega
   have q1:IntKind.i64.wrap ((k:Int) / 3)=(k:Int) / 3:=wr64 (by omega) (by omega)
   have q2:IntKind.i64.wrap ((k:Int) % 3)=(k:Int) % 3:=wr64 (by omega) (by omega)
   have q3:IntKind.i64.wrap (8 * ((k:Int) % 3))=8 * ((k:Int) % 3):=wr64 (by omega) (by omega)
   have i7:((k:Int) / 3).toNat=k / 3:=by omega
   have q0:((k:Int)).tmod 3=(k:Int) % 3:=Int.tmod_eq_emod_of_nonneg (by omega)
   refine region_tail 14 kr kr ?_
   simp only [List.take_succ_cons,List.take_zero,List.drop_succ_cons,List.drop_zero]
   repeat still_step
   refine wpStill_nil ?_
   clear q0 q1 q2 q3 i7
   go_wp2
   go_roundw
   case rel =>
    have hk3:3 * (k / 3)+k % 3=k:=Nat.div_add_mod k 3
    have hv2:val 16777216 zs=val 256 ((rb s).take (3 * (k / 3)+k % 3)):=by rw [hk3];exact hv.out
    have hd:=of_digit3 zs (rb s) (k / 3) (k % 3) (by decide) hv2 (rb_Dig s)
    have hs1:=of_step3 zs (rb s) (k / 3) (k % 3) (by decide) (by rw [hz.out];omega) hv2
    rw [hk3,gd_rb s k hkl] at hs1
    have hb:=(s[s.size - 1 - k]'(by omega)).toNat_lt
    have hp:256 ^ (k % 3)≤65536:=by
     have:k % 3=0∨k % 3=1∨k % 3=2:=by omega
     rcases this with e | e | e <;> simp [e]
    have hm:(s[s.size - 1 - k]'(by omega)).toNat * 256 ^ (k % 3)≤255 * 256 ^ (k % 3):=Nat.mul_le_mul_right _ (by omega)
    refine ⟨k+1,_,by omega,by go_num,Lib.hid ?_,Lib.hid ?_,Lib.hid ?_,Lib.hid hs1,(hbl.trans ?_).setCell (Nat.le_refl _) _⟩
    ·rw [shl3 _ _ _ (Nat.mod_lt _ (by decide)) (by omega) hb]
     exact (hB.out.drewN 1).set _ _
    ·rw [List.length_set];exact hz.out
    ·exact hdz.out.set _ _ (by omega)
    ·exact ((Below.refl _ _).drew)
   case measure=>simp [intOf];omega
  ·obtain rfl:k=s.size:=by omega
   go_wp2_with fail
   go_ret
   have hd:digs 16777216 (sv s)=zs:=digs_full (by decide) hdz.out (by rw [hv.out,← rb_length,List.take_length];rfl) (HL.out.trans hz.out.symm)
   have hl:=hz.out
   rw [hd]
   exact ⟨w.heap.size,Nat.le_refl _,ret_slice2 (by omega) (by omega),hB.out,hbl⟩
theorem Rdigits_omg (z:Int) (w:World) (hz:Bd 1000000000 z):Calls Tryz.prog 56 #[.string (mg z)] w (fun e w'=>∃ b,w.heap.size≤b∧e = .returned (.slice (some ⟨b,0,none⟩) (digs 16777216 z.natAbs).length (digs 16777216 z.natAbs).length)∧Blk w' .i64 3 b (digs 16777216 z.natAbs)∧Below w.heap.size w w'):=by
 have h:=Rdigits_own (mg z) w (by have:=hz.size;omega) (by rw [sv_mg,digs3_len];unfold mg;rw [size_magB])
 rwa [sv_mg] at h
def strLen:Value→Nat
 | .string s=>s.size
 | _=>0

structure OwnD (w:World) (b o c n:Nat) (pre post:List Nat):Prop where
 blk:Blk w .i64 3 b (pre++(digs 16777216 n++post))
 off:pre.length=o
 cap:(digs 16777216 n).length≤c
theorem OwnD.rd {w:World} {b o c n:Nat} {pre post:List Nat} (h:OwnD w b o c n pre post):RdAt w .i64 (some ⟨b,o,none⟩) (digs 16777216 n):=fun i hi=>⟨b,o,rfl,by
 rw [← h.off,h.blk.cell (by rw [List.length_append,List.length_append];omega),gd_mid _ _ _ _ hi]⟩
theorem OwnD.below {B:Nat} {w w':World} {b o c n:Nat} {pre post:List Nat} (h:OwnD w b o c n pre post) (hb:Below B w w') (hB:b<B):OwnD w' b o c n pre post:=⟨h.blk.below hb hB,h.off,h.cap⟩
theorem OwnD.only {w w':World} {b b' o c n:Nat} {pre post:List Nat} (h:OwnD w b o c n pre post) (hb:Only b' w w') (hne:b≠b'):OwnD w' b o c n pre post:=⟨by unfold Blk at *;rw [hb.block b hne];exact h.blk,h.off,h.cap⟩
theorem Rminus_own (A B:Option Addr) (c d x y:Nat) (w:World) (hx:RdAt w .i64 A (digs 16777216 x)) (hy:RdAt w .i64 B (digs 16777216 y)) (hl:(digs 16777216 x).length≤1000000000) (hle:y≤x) :
  Calls Tryz.prog 60 #[.slice A (digs 16777216 x).length c,.slice B (digs 16777216 y).length d] w (fun e w'=>∃ b c' post,w.heap.size≤b∧e = .returned (.slice (some ⟨b,0,none⟩) (digs 16777216 (x - y)).length c')∧OwnD w' b 0 c' (x - y) [] post∧Below w.heap.size w w'):=by
 have hm:=digs_len_mono (B:=16777216) (by decide) hle
 have HDX:=Lib.hid (digs_Dig (B:=16777216) (by decide) x)
 have HDY:=Lib.hid (digs_Dig (B:=16777216) (by decide) y)
 have HVX:=Lib.hid (val_digs (B:=16777216) (by decide) x)
 have HVY:=Lib.hid (val_digs (B:=16777216) (by decide) y)
 generalize digs 16777216 x=xs at *
 generalize digs 16777216 y=ys at *
 obtain ⟨w1,hmk,hbk,HW,hsz⟩:=make_rnat w ((xs.length:Int)) (by omega) (by omega)
 have HS:=Lib.hid hsz
 have HB:=Lib.hid hbk
 clear hsz hbk
 have HX:=Lib.hid hx
 have HY:=Lib.hid hy
 have HLE:Hid (val 16777216 ys≤val 16777216 xs):=Lib.hid (by rw [HVX.out,HVY.out];exact hle)
 clear hx hy hle
 go_enter Tryz.func60,Tryz.ntmps60
 go_wp2
 go_loopw [6,7] (fun v6 v7 wr=>∃ (k cy:Nat) (zs:List Nat),k≤xs.length∧cy≤1∧v7 = .int .i64 k∧v6 = .int .i64 cy∧Hid (Blk wr .i64 3 w.heap.size zs)∧Hid (zs.length=xs.length)∧Hid (Dig 16777216 zs)∧Hid (val 16777216 (zs.take k)+val 16777216 (ys.take k)=val 16777216 (xs.take k)+16777216 ^ k * cy)∧Below w.heap.size w wr) (fun _ v7 _=>xs.length - (intOf v7).toNat)
 case atStart=>exact ⟨0,0,_,by omega,by omega,rfl,rfl,HB,Lib.hid (by simp),Lib.hid (Dig.replicate (by decide) _),Lib.hid (by simp [val]),HW⟩
 case round =>
  obtain ⟨k,cy,zs,hk,hcy,rfl,rfl,hB,hz,hdz,hv,hbl⟩:=hrel
  clear HB HS HW hmk
  by_cases hkl:k<xs.length
  ·obtain ⟨b,o,rfl,hcl⟩:=HX.out k hkl
   have hcl':=below_cell hbl hcl (lt_of_cell hcl)
   have hg1:=HDX.out.gd (by decide) k
   have hlz:k<zs.length:=by rw [hz.out];omega
   have hcz:=hB.out.cell hlz
   have hfz:=hB.out.free k
   by_cases hkx:k<ys.length
   ·obtain ⟨b1,o1,rfl,hcl1⟩:=HY.out k hkx
    have hcl1':=below_cell hbl hcl1 (lt_of_cell hcl1)
    have hg2:=HDY.out.gd (by decide) k
    clear hcl hcl1 hlz
    by_cases hneg:((gd xs k:Nat):Int) - cy - (gd ys k:Nat)<0
    ·go_wp2_with fail
     go_roundw
     case rel =>
      refine ⟨k+1,1,zs.set k (((gd xs k:Nat):Int) - cy - (gd ys k:Nat)+16777216).toNat,by omega,by omega,by go_num,rfl,Lib.hid (hB.out.setI k (by omega)),Lib.hid (by simp [hz.out]),Lib.hid (hdz.out.set _ _ (by omega)),Lib.hid (less_step _ _ _ _ _ _ _ _ (by rw [hz.out];omega) hv.out (by omega)),hbl.setCell (Nat.le_refl _) _⟩
     case measure=>simp [intOf];omega
    ·go_wp2_with fail
     go_roundw
     case rel =>
      refine ⟨k+1,0,zs.set k (((gd xs k:Nat):Int) - cy - (gd ys k:Nat)).toNat,by omega,by omega,by go_num,rfl,Lib.hid (hB.out.setI k (by omega)),Lib.hid (by simp [hz.out]),Lib.hid (hdz.out.set _ _ (by omega)),Lib.hid (less_step _ _ _ _ _ _ _ _ (by rw [hz.out];omega) hv.out (by omega)),hbl.setCell (Nat.le_refl _) _⟩
     case measure=>simp [intOf];omega
   ·have hg2:=gd_behind (Nat.le_of_not_lt hkx)
    have HG2:=Lib.hid hg2
    clear hcl hlz hg2
    by_cases hneg:((gd xs k:Nat):Int) - cy<0
    ·go_wp2_with fail
     go_roundw
     case rel =>
      have hg2:=HG2.out
      refine ⟨k+1,1,zs.set k (((gd xs k:Nat):Int) - cy+16777216).toNat,by omega,by omega,by go_num,rfl,Lib.hid (hB.out.setI k (by omega)),Lib.hid (by simp [hz.out]),Lib.hid (hdz.out.set _ _ (by omega)),Lib.hid (less_step _ _ _ _ _ _ _ _ (by rw [hz.out];omega) hv.out (by omega)),hbl.setCell (Nat.le_refl _) _⟩
     case measure=>simp [intOf];omega
    ·go_wp2_with fail
     go_roundw
     case rel =>
      have hg2:=HG2.out
      refine ⟨k+1,0,zs.set k (((gd xs k:Nat):Int) - cy).toNat,by omega,by omega,by go_num,rfl,Lib.hid (hB.out.setI k (by omega)),Lib.hid (by simp [hz.out]),Lib.hid (hdz.out.set _ _ (by omega)),Lib.hid (less_step _ _ _ _ _ _ _ _ (by rw [hz.out];omega) hv.out (by omega)),hbl.setCell (Nat.le_refl _) _⟩
     case measure=>simp [intOf];omega
  ·obtain rfl:k=xs.length:=by omega
   go_wp2_with (go_at_call 107;refine (Rtrim_any _ _ _ zs _ hz (Lib.hid hB.out.rd) (by omega) (by omega)).mono ?_;rintro e w' ⟨rfl,rfl⟩)
   go_ret
   have he:=less_end (by decide) zs xs ys cy hz.out hm hdz.out HLE.out hcy hv.out
   rw [HVX.out,HVY.out] at he
   refine ⟨w.heap.size,xs.length,zs.drop (trimL zs).length,Nat.le_refl _,by rw [he];rfl,⟨?_,rfl,?_⟩,hbl⟩
   ·rw [← he,List.nil_append]
    have e1:trimL zs++zs.drop (trimL zs).length=zs:=by
     conv=>lhs;arg 1;rw [trimL_take]
     exact List.take_append_drop _ _
    rw [e1];exact hB.out
   ·rw [← he]
    have:=trimL_length_le zs
    rw [hz.out] at this
    exact this
def tz:Nat→Nat→Nat
 | 0,_=>0
 | f+1,n=>if n % 2=0 then tz f (n / 2)+1 else 0
def two (n:Nat):Nat:=tz n n
theorem tz_enough:∀ f g n,n≤f→n≤g→n≠0→tz f n=tz g n
 | 0,g,n,h,_,h0=>by omega
 | f+1,0,n,_,h,h0=>by omega
 | f+1,g+1,n,h,h',h0=>by
  unfold tz
  split
  ·rw [tz_enough f g (n / 2) (by omega) (by omega) (by omega)]
  ·rfl
theorem two_even {n:Nat} (h0:n≠0) (h:n % 2=0):two n=two (n / 2)+1:=by
 unfold two
 obtain ⟨m,rfl⟩:∃ m,n=m+1:=⟨n - 1,by omega⟩
 rw [tz,if_pos h,tz_enough m ((m+1) / 2) ((m+1) / 2) (by omega) (by omega) (by omega)]
theorem two_odd {n:Nat} (h:n % 2=1):two n=0:=by
 unfold two
 obtain ⟨m,rfl⟩:∃ m,n=m+1:=⟨n - 1,by omega⟩
 rw [tz,if_neg (by omega)]
theorem two_pow (k m:Nat) (h0:m≠0):two (2 ^ k * m)=two m+k:=by
 induction k with
 | zero=>simp
 | succ k ih =>
  have hp:0<2 ^ k * m:=Nat.mul_pos (Nat.pow_pos (by decide)) (by omega)
  have e:2 ^ (k+1) * m=2 * (2 ^ k * m):=by rw [Nat.pow_succ,Nat.mul_comm (2 ^ k) 2,Nat.mul_assoc]
  rw [e,two_even (by omega) (by omega),Nat.mul_div_cancel_left _ (by decide),ih]
  omega
def odd (n:Nat):Nat:=n / 2 ^ two n
theorem two_le (n:Nat) (h0:n≠0):n=2 ^ two n * odd n∧odd n % 2=1:=by
 induction n using Nat.strongRecOn with
 | _ n ih =>
  by_cases h:n % 2=0
  ·obtain ⟨h1,h2⟩:=ih (n / 2) (by omega) (by omega)
   unfold odd at *
   rw [two_even h0 h]
   have e:n / 2 ^ (two (n / 2)+1)=n / 2 / 2 ^ two (n / 2):=by rw [Nat.pow_succ,Nat.mul_comm,Nat.div_div_eq_div_mul]
   rw [e]
   refine ⟨?_,h2⟩
   rw [Nat.pow_succ,Nat.mul_assoc,Nat.mul_left_comm,← h1]
   omega
  ·unfold odd
   rw [two_odd (by omega)]
   simp;omega
theorem odd_of {n k m:Nat} (h:n=2 ^ k * m) (hm:m % 2=1):two n=k∧odd n=m:=by
 have h1:two n=k:=by rw [h,two_pow k m (by omega),two_odd hm];omega
 refine ⟨h1,?_⟩
 unfold odd
 rw [h1,h,Nat.mul_div_cancel_left _ (Nat.pow_pos (by decide))]
theorem odd_pos {n:Nat} (h0:n≠0):0<odd n:=by have:=(two_le n h0).2;omega
theorem odd_le (n:Nat):odd n≤n:=Nat.div_le_self _ _
theorem shr_digit {z0 z1 k:Nat} (hk:k<24) (h0:z0<16777216):z0 / 2 ^ k+z1 * 2 ^ (24 - k) % 16777216=(z1 * 16777216+z0) / 2 ^ k % 16777216:=by
 have hM:16777216=2 ^ k * 2 ^ (24 - k):=by rw [← Nat.pow_add,show k+(24 - k)=24 by omega]
 have hp:0<2 ^ k:=Nat.pow_pos (by decide)
 have e1:(z1 * 16777216+z0) / 2 ^ k=z1 * 2 ^ (24 - k)+z0 / 2 ^ k:=by
  rw [hM,show z1 * (2 ^ k * 2 ^ (24 - k))=2 ^ k * (z1 * 2 ^ (24 - k)) from Nat.mul_left_comm _ _ _,Nat.mul_add_div hp]
 rw [e1]
 have hlt:z0 / 2 ^ k<2 ^ (24 - k):=Nat.div_lt_of_lt_mul (by rw [← hM];exact h0)
 have e2:z1 * 2 ^ (24 - k) % 16777216=z1 % 2 ^ k * 2 ^ (24 - k):=by rw [hM,Nat.mul_mod_mul_right]
 have hz:=Nat.mod_lt z1 hp
 have h3:(z1 % 2 ^ k+1) * 2 ^ (24 - k)≤16777216:=by
  have:=Nat.mul_le_mul_right (2 ^ (24 - k)) hz
  rw [← hM] at this;exact this
 rw [Nat.add_mod,e2]
 have h4:z0 / 2 ^ k % 16777216=z0 / 2 ^ k:=Nat.mod_eq_of_lt (by have:z0 / 2 ^ k≤z0:=Nat.div_le_self _ _;omega)
 rw [Nat.add_mul,Nat.one_mul] at h3
 have h5:z1 % 2 ^ k * 2 ^ (24 - k)+z0 / 2 ^ k<16777216:=by omega
 rw [h4,Nat.mod_eq_of_lt h5]
 exact Nat.add_comm _ _
theorem digs_ne {n:Nat} (h:n≠0):0<(digs 16777216 n).length:=by
 rcases Nat.eq_zero_or_pos (digs 16777216 n).length with h0 | h0
 ·exact absurd ((digs_nil_iff (by decide) n).1 (List.eq_nil_of_length_eq_zero h0)) h
 ·exact h0
theorem low_zero {xs:List Nat} {j:Nat} (hj:j≤xs.length) (h:∀ i,i<j→gd xs i=0):val 16777216 xs=16777216 ^ j * val 16777216 (xs.drop j):=by
 rw [val_split 16777216 xs j hj]
 have:val 16777216 (xs.take j)=0:=by
  have h1:trimL (xs.take j) = []:=(trimL_nil_iff _).2 (fun x hx=>by
   obtain ⟨i,hi,rfl⟩:=List.getElem_of_mem hx
   rw [List.length_take] at hi
   have:=h i (by omega)
   rw [← gd_take (n:=j) (by omega),gd_get (by rw [List.length_take];exact hi)] at this
   exact this)
  rw [← val_trimL,h1];rfl
 rw [this,Nat.zero_add]
theorem pow24_2 (j:Nat):16777216 ^ j=2 ^ (24 * j):=by rw [Nat.pow_mul]
theorem gd_mid' {pre us post:List Nat} {o i:Nat} (hp:pre.length=o) (h:i<us.length):gd (pre++(us++post)) (o+i)=gd us i:=by rw [← hp];exact gd_mid _ _ _ _ h
theorem low_bits {V g Y k:Nat} (hk:k<24) (h:V=g+16777216 * Y):V % 2 ^ k=g % 2 ^ k∧V / 2 ^ k % 2=g / 2 ^ k % 2:=by
 have hM:16777216=2 ^ k * (2 * 2 ^ (23 - k)):=by rw [← Nat.pow_succ',← Nat.pow_add,show k+(23 - k+1)=24 by omega]
 have hp:0<2 ^ k:=Nat.pow_pos (by decide)
 rw [hM,Nat.mul_assoc] at h
 subst h
 refine ⟨Nat.add_mul_mod_self_left _ _ _,?_⟩
 rw [Nat.add_mul_div_left _ _ hp,Nat.mul_assoc,Nat.add_mul_mod_self_left]
theorem val_digit0 (ys:List Nat) (d:Dig 16777216 ys):val 16777216 ys=gd ys 0+16777216 * (gd ys (0+1)+16777216 * (val 16777216 ys / 16777216 ^ (0+2))):=by
 have e1:=val_digit 16777216 (by decide) ys d 0
 rw [Nat.pow_zero,Nat.div_one] at e1
 exact e1
theorem Blk.cell' {w:World} {k:IntKind} {t:TypeId} {b o:Nat} {pre us post:List Nat} (h:Blk w k t b (pre++(us++post))) (hp:pre.length=o) {i:Nat} (hi:i<us.length):w.cell? ⟨b,o+i,none⟩=some (.int k (gd us i:Nat)):=by
 rw [← hp,h.cell (by rw [List.length_append,List.length_append];omega),gd_mid _ _ _ _ hi]
def RetOdd (b c n:Nat) (pre post:List Nat) (w:World) (e:Ending) (w':World):Prop :=
 ∃ o c' pre' post',e = .returned (.tuple #[.slice (some ⟨b,o,none⟩) (digs 16777216 (odd n)).length c',.int .i64 (two n:Nat)])∧OwnD w' b o c' (odd n) pre' post'∧Only b w w'
theorem Rodd_any (b o c n:Nat) (pre post:List Nat) (w:World) (hO:OwnD w b o c n pre post) (hl:(digs 16777216 n).length≤1000000000) (ho:o≤1000000000) (h0:n≠0) :
  Calls Tryz.prog 143 #[.slice (some ⟨b,o,none⟩) (digs 16777216 n).length c] w (RetOdd b c n pre post w):=by
 have hlen:=digs_ne h0
 have hlast:=digs_last (B:=16777216) (by decide) n h0
 have HDX:=Lib.hid (digs_Dig (B:=16777216) (by decide) n)
 have HVX:=Lib.hid (val_digs (B:=16777216) (by decide) n)
 obtain ⟨hblk,hoff,hcap⟩:=hO
 obtain ⟨xs,hxs⟩:∃ xs,xs=digs 16777216 n:=⟨_,rfl⟩
 rw [← hxs] at hlen hlast hblk hcap hl HDX HVX ⊢
 clear hxs
 have HL:=Lib.hid hlast
 have HB:=Lib.hid hblk
 clear hlast hblk
 have cu:∀ i,i<xs.length→w.cell? ⟨b,o+i,none⟩=some (.int .i64 ((gd xs i:Nat):Int)):=fun i hi=>by
  rw [← hoff,HB.out.cell (by rw [List.length_append,List.length_append];omega),gd_mid _ _ _ _ hi]
 have CU:=Lib.hid cu
 have HOF:=Lib.hid hoff
 clear cu hoff
 go_enter Tryz.func143,Tryz.ntmps143
 go_wp2_with fail
 go_loop [0,4] (fun v0 v4=>∃ j:Nat,j<xs.length∧v0 = .slice (some ⟨b,o+j,none⟩) (xs.length - j) (c - j)∧v4 = .int .i64 ((24 * j:Nat):Int)∧Hid (∀ i,i<j→gd xs i=0)) (fun v0 _=>lenOf v0)
 case atStart=>exact ⟨0,hlen,rfl,rfl,Lib.hid (fun i hi=>by omega)⟩
 case round =>
  obtain ⟨j,hj,rfl,rfl,hz⟩:=hrel
  have hcj:=CU.out j hj
  have j1:(0:Int)<((xs.length - j:Nat):Int):=by omega
  by_cases hg:gd xs j=0
  ·have hgI:(((gd xs j:Nat):Int) == 0)=true:=by rw [hg];rfl
   have hj1:j+1<xs.length:=by
    rcases Nat.lt_or_ge (j+1) xs.length with h | h
    ·exact h
    ·exact absurd (by rw [show xs.length - 1=j by omega];exact hg) HL.out
   have HG:=Lib.hid hg
   clear hg
   have hc1:¬ c - j=1:=by omega
   go_wp2_with fail
   go_round
   case rel =>
    refine ⟨j+1,hj1,?_,?_,Lib.hid (fun i hi=>?_)⟩
    ·first | rfl | (congr 1 <;> first | omega | (congr 2;omega))
    ·first | rfl | (congr 1;omega)
    ·by_cases e:i=j
     ·rw [e];exact HG.out
     ·exact hz.out i (by omega)
   case measure=>simp [lenOf];omega
  ·have hgI:(((gd xs j:Nat):Int) == 0)=false:=by rw [beq_eq_false_iff_ne];omega
   have hgl:=HDX.out.gd (by decide) j
   have HG:=Lib.hid hg
   clear hg
   go_wp2_with fail
   go_loopw [5] (fun v5 wr=>∃ k:Nat,k<24∧v5 = .int .i64 k∧Hid (gd xs j % 2 ^ k=0)∧∃ m,wr=w.drewN m) (fun v5 _=>24 - (intOf v5).toNat)
   case atStart=>exact ⟨0,by omega,rfl,Lib.hid (by simp;omega),0,rfl⟩
   case round =>
    obtain ⟨k,hk,rfl,hmod,m,rfl⟩:=hrel
    have hdl:gd xs j / 2 ^ k≤gd xs j:=Nat.div_le_self _ _
    have hba:=i64_and_nat (gd xs j / 2 ^ k) 1 (by omega) (by omega)
    rw [Nat.and_one_is_mod] at hba
    have hbc:((gd xs j / 2 ^ k:Nat):Int)=((gd xs j:Nat):Int) / 2 ^ k:=by rw [Int.natCast_ediv,Int.natCast_pow];rfl
    rw [hbc] at hba
    have hba':bits .and .i64 (((gd xs j:Nat):Int) / 2 ^ k) 1=((gd xs j / 2 ^ k % 2:Nat):Int):=hba
    have HBA:=Lib.hid hba'
    clear hba hbc hba' hdl
    by_cases hb:gd xs j / 2 ^ k % 2=0
    ·have hbt:(bits .and .i64 (((gd xs j:Nat):Int) / 2 ^ k) 1 == 0)=true:=by rw [HBA.out,hb];rfl
     have HB2:=Lib.hid hb
     clear hb
     go_wp2_with fail
     go_roundw
     case rel =>
      have h1:gd xs j % 2 ^ (k+1)=0:=by
       rw [Nat.pow_succ,Nat.mod_mul,hmod.out,HB2.out];simp
      refine ⟨k+1,?_,by go_num,Lib.hid h1,?_⟩
      ·rcases Nat.lt_or_ge (k+1) 24 with h | h
       ·exact h
       ·have hk24:k+1=24:=by omega
        rw [hk24] at h1
        have h2:gd xs j % 16777216=0:=h1
        rw [Nat.mod_eq_of_lt hgl] at h2
        exact absurd h2 HG.out
      ·first | exact ⟨_,rfl⟩ | (simp only [World.drewN_drewN];exact ⟨_,rfl⟩)
     case measure=>simp [intOf];omega
    ·have hbt:(bits .and .i64 (((gd xs j:Nat):Int) / 2 ^ k) 1 == 0)=false:=by rw [HBA.out,beq_eq_false_iff_ne];omega
     have HB2:Hid (gd xs j / 2 ^ k % 2=1):=Lib.hid (by omega)
     clear hb
     go_wp2_with fail
     obtain ⟨ys,hys⟩:∃ ys,ys=xs.drop j:=⟨_,rfl⟩
     have HYS:=Lib.hid hys
     have hyl:ys.length=xs.length - j:=by rw [hys,List.length_drop]
     have HYL:=Lib.hid hyl
     have HGY:Hid (∀ i,gd ys i=gd xs (j+i)):=Lib.hid (fun i=>by rw [hys,gd_drop])
     have HBY:Hid (Blk (w.drewN m) .i64 3 b ((pre++xs.take j)++(ys++post))):=Lib.hid (by
      have:=(HB.out.drewN m)
      rw [hys,List.append_assoc,← List.append_assoc (xs.take j),List.take_append_drop];exact this)
     have HPY:Hid ((pre++xs.take j).length=o+j):=Lib.hid (by rw [List.length_append,List.length_take,HOF.out];omega)
     have HDY:Hid (Dig 16777216 ys):=Lib.hid (by rw [hys];exact HDX.out.drop j)
     clear hys hyl hbt hcj
     generalize pre++xs.take j=pre2 at *
     have hLp:0<xs.length - j:=by omega
     have hLc:xs.length - j≤c - j:=by omega
     have hLm:xs.length - j≤1000000000:=by omega
     have ho3:o+j≤2000000000:=by omega
     generalize hL:xs.length - j=L at *
     generalize ho2:o+j=o2 at *
     generalize hc2:c - j=c2 at *
     have HLL:=Lib.hid hL
     have HO2:=Lib.hid ho2
     have HJ:=Lib.hid hj
     have HHL:=Lib.hid hl
     have HC2:=Lib.hid hc2
     clear hL ho2 hc2 hj hl hcap hlen j1 hgl hgI ho
     go_loopw [6] (fun v6 wr=>∃ (i:Nat) (zs:List Nat),i≤L∧v6 = .int .i64 i∧Hid (Blk wr .i64 3 b (pre2++(zs++post)))∧Hid (zs.length=L)∧Hid (∀ q,q<i→gd zs q=gd ys q / 2 ^ k+gd ys (q+1) * 2 ^ (24 - k) % 16777216)∧Hid (∀ q,i≤q→gd zs q=gd ys q)∧Only b w wr) (fun v6 _=>L - (intOf v6).toNat)
     case atStart=>exact ⟨0,ys,by omega,rfl,HBY,HYL,Lib.hid (fun q hq=>by omega),Lib.hid (fun q _=>rfl),(Only.refl b w).drewN m⟩
     case round =>
      clear HBY
      have hz0:=hz
      clear hz
      obtain ⟨i,zs,hi,rfl,hB,hz,hnew,hold,hon⟩:=hrel
      by_cases hiL:i<L
      ·have hlz:i<zs.length:=by rw [hz.out];exact hiL
       have hci:=hB.out.cell (mid_len (pre:=pre2) (post:=post) rfl i hlz)
       rw [HPY.out,gd_mid' HPY.out hlz,hold.out i (Nat.le_refl _)] at hci
       have hfr:=hB.out.free (o2+i)
       have hgy:=HDY.out.gd (by decide) i
       have hdv:((gd ys i:Nat):Int) / 2 ^ k=((gd ys i / 2 ^ k:Nat):Int):=by rw [Int.natCast_ediv,Int.natCast_pow];rfl
       have hdl:gd ys i / 2 ^ k≤gd ys i:=Nat.div_le_self _ _
       have HDV:=Lib.hid hdv
       clear hdv
       have hset:=hB.out.set (o2+i) (gd ys i / 2 ^ k)
       rw [← HPY.out,set_mid _ _ _ _ _ hlz,HPY.out,← HDV.out] at hset
       have HSET:=Lib.hid hset
       clear hset
       by_cases hi1:i+1<L
       ·have hi1I:(i:Int)+1<L:=by omega
        have hci2:=hB.out.cell (mid_len (pre:=pre2) (post:=post) rfl (i+1) (by rw [hz.out];exact hi1))
        rw [HPY.out,gd_mid' HPY.out (by rw [hz.out];exact hi1),hold.out (i+1) (by omega)] at hci2
        have hgy2:=HDY.out.gd (by decide) (i+1)
        go_wp2_with fail
        generalize hW2:wr.setCell ⟨b,o2+i,none⟩ (.int .i64 (((gd ys i:Nat):Int) / 2 ^ k))=W2 at *
        have hon2:Only b w W2:=by rw [← hW2];exact hon.set _ _
        clear hW2 hci hci2 hfr
        have hlz2:i<(zs.set i (gd ys i / 2 ^ k)).length:=by rw [List.length_set];exact hlz
        have hcA:=HSET.out.cell (mid_len (pre:=pre2) (post:=post) rfl i hlz2)
        rw [HPY.out,gd_mid' HPY.out hlz2,gd_set_eq _ hlz] at hcA
        have hcB:=HSET.out.cell (mid_len (pre:=pre2) (post:=post) rfl (i+1) (by rw [List.length_set,hz.out];exact hi1))
        rw [HPY.out,gd_mid' HPY.out (by rw [List.length_set,hz.out];exact hi1),gd_set_ne _ _ (by omega),hold.out (i+1) (by omega)] at hcB
        have hfr:=HSET.out.free (o2+i)
        obtain ⟨p,hp⟩:∃ p:Nat,p=gd ys (i+1) * 2 ^ (24 - k):=⟨_,rfl⟩
        have hpl:p<281474976710656:=by
         rw [hp]
         have h1:2 ^ (24 - k)≤2 ^ 24:=Nat.pow_le_pow_right (by decide) (by omega)
         calc gd ys (i+1) * 2 ^ (24 - k)≤gd ys (i+1) * 2 ^ 24:=Nat.mul_le_mul_left _ h1
          _<281474976710656:=by omega
        have hpI:((gd ys (i+1):Nat):Int) * 2 ^ (24 - k)=(p:Int):=by rw [hp,Int.natCast_mul,Int.natCast_pow];rfl
        obtain ⟨q0,hq0⟩:∃ q0:Nat,q0=gd ys i / 2 ^ k:=⟨_,rfl⟩
        rw [← hq0] at hcA hdl
        have HQ0:=Lib.hid hq0
        have HP:=Lib.hid hp
        clear hp hq0
        have j1:((24:Int) - k).toNat=24 - k:=by omega
        have j2:(0:Int)≤24 - (k:Int):=by omega
        have j3:(0:Int)≤(i:Int)+1:=by omega
        have j4:((i:Int)+1).toNat=i+1:=by omega
        have j5:(i:Int)<L:=by omega
        have q1:IntKind.i64.wrap ((i:Int)+1)=(i:Int)+1:=wr64 (by omega) (by omega)
        have q2:IntKind.i64.wrap ((24:Int) - k)=(24:Int) - k:=wr64 (by omega) (by omega)
        have q3:IntKind.i64.wrap (p:Int)=(p:Int):=wr64 (by omega) (by omega)
        have q4:((p:Int)).tmod 16777216=(p:Int) % 16777216:=Int.tmod_eq_emod_of_nonneg (by omega)
        have q5:IntKind.i64.wrap ((p:Int) % 16777216)=(p:Int) % 16777216:=wr64 (by omega) (by omega)
        have q6:IntKind.i64.wrap ((q0:Int)+(p:Int) % 16777216)=(q0:Int)+(p:Int) % 16777216:=wr64 (by omega) (by omega)
        refine region_tail 15 kr kr ?_
        simp only [List.take_succ_cons,List.take_zero,List.drop_succ_cons,List.drop_zero]
        repeat still_step
        refine wpStill_nil ?_
        clear q1 q2 q3 q4 q5 q6 j1 j2 j3 j4 j5
        go_wp2_with fail
        go_roundw
        case rel =>
         refine ⟨i+1,(zs.set i (gd ys i / 2 ^ k)).set i (q0+p % 16777216),by omega,by go_num,Lib.hid ?_,Lib.hid (by rw [List.length_set,List.length_set];exact hz.out),Lib.hid (fun q hq=>?_),Lib.hid (fun q hq=>?_),(hon2.drewN 1).set _ _⟩
         ·have h1:=(HSET.out.drewN 1).set (o2+i) (q0+p % 16777216)
          rw [← HPY.out,set_mid _ _ _ _ _ hlz2] at h1
          rw [HPY.out] at h1
          have e1:((q0+p % 16777216:Nat):Int)=(q0:Int)+(p:Int) % 16777216:=by omega
          rw [e1] at h1
          exact h1
         ·by_cases e:q=i
          ·rw [e,gd_set_eq _ hlz2,HQ0.out,HP.out]
          ·rw [gd_set_ne _ _ (by omega),gd_set_ne _ _ (by omega)];exact hnew.out q (by omega)
         ·rw [gd_set_ne _ _ (by omega),gd_set_ne _ _ (by omega)];exact hold.out q (by omega)
        case measure=>simp [intOf];omega
       ·go_wp2_with fail
        go_roundw
        case rel =>
         refine ⟨i+1,zs.set i (gd ys i / 2 ^ k),by omega,by go_num,HSET,Lib.hid (by rw [List.length_set];exact hz.out),Lib.hid (fun q hq=>?_),Lib.hid (fun q hq=>?_),hon.set _ _⟩
         ·by_cases e:q=i
          ·rw [e,gd_set_eq _ hlz]
           have hb2:gd ys (i+1)=0:=gd_behind (by rw [HYL.out];omega)
           rw [hb2];simp
          ·rw [gd_set_ne _ _ (by omega)];exact hnew.out q (by omega)
         ·rw [gd_set_ne _ _ (by omega)];exact hold.out q (by omega)
        case measure=>simp [intOf];omega
      ·obtain rfl:i=L:=by omega
       have HV:Hid (val 16777216 ys * 16777216 ^ j=n):=Lib.hid (by
        rw [← HVX.out,low_zero (Nat.le_of_lt HJ.out) hz0.out,HYS.out,Nat.mul_comm])
       have hy0:gd ys 0=gd xs j:=by rw [HGY.out 0,Nat.add_zero]
       have hdig:∀ q,gd zs q=val 16777216 ys / 2 ^ k / 16777216 ^ q % 16777216:=fun q=>by
        rw [← unshift_digit (M:=16777216) (p:=2 ^ k) (h:=2 ^ (24 - k)) (by decide) (Nat.pow_pos (by decide)) (by rw [← Nat.pow_add,show k+(24 - k)=24 by omega]) ys HDY.out q]
        rw [← shr_digit hk (HDY.out.gd (by decide) q)]
        by_cases hq:q<i
        ·exact hnew.out q hq
        ·rw [hold.out q (by omega),gd_behind (xs:=ys) (by rw [HYL.out];omega),gd_behind (xs:=ys) (i:=q+1) (by rw [HYL.out];omega)];simp
       have hdz:Dig 16777216 zs:=fun x hx=>by
        obtain ⟨q,hq,rfl⟩:=List.getElem_of_mem hx
        rw [← gd_get hq,hdig];exact Nat.mod_lt _ (by decide)
       have hvz:val 16777216 zs=val 16777216 ys / 2 ^ k:=by
        have h1:digs 16777216 (val 16777216 zs)=digs 16777216 (val 16777216 ys / 2 ^ k):=by
         have hlt:val 16777216 ys / 2 ^ k<16777216 ^ i:=by
          have h2:=val_lt HDY.out
          rw [HYL.out] at h2
          exact Nat.lt_of_le_of_lt (Nat.div_le_self _ _) h2
         have h3:∀ q,gd zs q=gd (digs 16777216 (val 16777216 ys / 2 ^ k)) q:=fun q=>by rw [hdig,digs_gd (by decide)]
         have h4:zs=digs 16777216 (val 16777216 ys / 2 ^ k)++List.replicate (i - (digs 16777216 (val 16777216 ys / 2 ^ k)).length) 0:=by
          have h5:=digs_length_le (B:=16777216) (by decide) hlt
          refine ext_gd (by rw [List.length_append,List.length_replicate,hz.out];omega) (fun q hq=>?_)
          rw [h3]
          rcases Nat.lt_or_ge q (digs 16777216 (val 16777216 ys / 2 ^ k)).length with h6 | h6
          ·rw [gd_append_left h6]
          ·rw [gd_append_right h6,gd_replicate,gd_behind h6]
         have h7:val 16777216 zs=val 16777216 ys / 2 ^ k:=by rw [h4,val_append,val_replicate,val_digs (by decide)];simp
         rw [h7]
        have:=congrArg (val 16777216) h1
        rwa [val_digs (by decide),val_digs (by decide)] at this
       have hlow:=low_bits (k:=k) hk (val_digit0 ys HDY.out)
       rw [hy0,hmod.out,HB2.out] at hlow
       have hy2:val 16777216 ys=2 ^ k * (val 16777216 ys / 2 ^ k):=by
        have:=Nat.div_add_mod (val 16777216 ys) (2 ^ k)
        rw [hlow.1] at this;omega
       have hn:n=2 ^ (24 * j+k) * (val 16777216 ys / 2 ^ k):=by
        rw [← HV.out,pow24_2,Nat.pow_add,Nat.mul_assoc,← hy2,Nat.mul_comm]
       obtain ⟨t1,t2⟩:=odd_of hn hlow.2
       have htr:Hid (trimL zs=digs 16777216 (odd n)):=Lib.hid (by rw [← digs_val (by decide) hdz,hvz,t2])
       have HT1:=Lib.hid t1
       clear hlow hy2 hn t1 t2 hdig hdz hvz hy0 HV
       have HRT:=Lib.hid (Rtrim_any (some ⟨b,o2,none⟩) i c2 zs wr hz (Lib.hid (fun q hq=>⟨b,o2,rfl,by
        rw [hB.out.cell' HPY.out hq]⟩)) (by omega) hLc)
       have hjl:j≤1000000000:=by have:=HJ.out;have:=HHL.out;omega
       go_wp2_with fail
       refine HRT.out.mono ?_
       rintro e W9 ⟨rfl,rfl⟩
       go_wp2_with fail
       go_ret2
       refine ⟨o2,c2,pre2,zs.drop (trimL zs).length++post,?_,⟨?_,HPY.out,?_⟩,hon⟩
       ·rw [htr.out,HT1.out]
        have e1:((24 * j+k:Nat):Int)=24 * (j:Int)+k:=by omega
        rw [e1];rfl
       ·rw [← htr.out,← List.append_assoc (trimL zs)]
        have e1:trimL zs++zs.drop (trimL zs).length=zs:=by
         conv=>lhs;arg 1;rw [trimL_take]
         exact List.take_append_drop _ _
        rw [e1];exact hB.out
       ·rw [← htr.out]
        have:=trimL_length_le zs
        rw [hz.out] at this;omega

theorem vI_abs (x:Int):Value.agg #[.bool false,.string (mg x)]=vI (x.natAbs:Int):=by
 unfold vI
 have h1:sg (x.natAbs:Int)=false:=by unfold sg;simp
 have h2:mg (x.natAbs:Int)=mg x:=by unfold mg;simp
 rw [h1,h2]
theorem mg_abs (x:Int):mg (x.natAbs:Int)=mg x:=by unfold mg;simp
theorem small_bd7 {x:Int} (h:(mg x).size≤7):x.natAbs<72057594037927936:=by
 have:=lt_pow_digs (B:=256) (by decide) x.natAbs
 rw [← size_magB] at this
 have h2:256 ^ (mg x).size≤256 ^ 7:=Nat.pow_le_pow_right (by decide) h
 have h3:x.natAbs<256 ^ 7:=Nat.lt_of_lt_of_le this h2
 omega
theorem RGcd_small (x y:Int) (w:World) (hx:(mg x).size≤7) (hy:(mg y).size≤7):Calls Tryz.prog 85 #[vI x,vI y] w (RetI (Nat.gcd x.natAbs y.natAbs:Nat) w):=by
 have h0:=Box3.new w 25 x y
 have px:=Lib.hid (small_bd7 hx)
 have py:=Lib.hid (small_bd7 hy)
 have HX:∀ W,Hid (Calls Tryz.prog 55 #[.agg #[.bool false,.string (mg x)]] W (RetNB (x.natAbs:Int) true W)):=fun W=>Lib.hid (by
  rw [vI_abs];exact Rsmall_yes _ W (by rw [mg_abs];exact hx))
 have HY:∀ W,Hid (Calls Tryz.prog 55 #[.agg #[.bool false,.string (mg y)]] W (RetNB (y.natAbs:Int) true W)):=fun W=>Lib.hid (by
  rw [vI_abs];exact Rsmall_yes _ W (by rw [mg_abs];exact hy))
 have hx7:((mg x).size:Int)≤7:=by omega
 have hy7:((mg y).size:Int)≤7:=by omega
 clear hx hy
 go_enter Tryz.func85,Tryz.ntmps85
 go_wp2_with fail
 obtain ⟨W0,hW0⟩:∃ W0,W0=(((w.alloc (.cells #[.bool (sg x),.string (mg x)] 25)).alloc (.cells #[.bool (sg y),.string (mg y)] 25)).alloc (.cells #[.bool false,.string ⟨#[]⟩] 25)):=⟨_,rfl⟩
 rw [← hW0] at h0 ⊢
 clear hW0
 refine (RValid_yes x W0).mono ?_
 rintro e W1 ⟨rfl,hb⟩
 have h1:=h0.below hb
 obtain ⟨y0,y1⟩:=h1.y.cells
 clear hb h0
 go_wp2_with fail
 refine (RValid_yes y W1).mono ?_
 rintro e W2 ⟨rfl,hb⟩
 have h2:=h1.below hb
 obtain ⟨x0,x1⟩:=h2.x.cells
 obtain ⟨y0',y1'⟩:=h2.y.cells
 clear hb h1 y0 y1
 go_wp2_with fail
 refine (HX W2).out.mono ?_
 rintro e W3 ⟨rfl,hb⟩
 have h3:=h2.below hb
 clear hb h2 x0 x1 y0' y1'
 obtain ⟨y0',y1'⟩:=h3.y.cells
 go_wp2_with fail
 refine (HY W3).out.mono ?_
 rintro e W4 ⟨rfl,hb⟩
 have h4:=h3.below hb
 clear hb h3 y0' y1' HX HY
 go_wp2_with fail
 go_loopw [5,7] (fun v5 v7 wr=>∃ (p q n:Nat),v5 = .int .i64 p∧v7 = .int .i64 q∧Hid (p<72057594037927936)∧Hid (q<72057594037927936)∧Hid (Nat.gcd p q=Nat.gcd x.natAbs y.natAbs)∧wr=W4.drewN n) (fun _ v7 _=>(intOf v7).toNat)
 case atStart=>exact ⟨x.natAbs,y.natAbs,0,rfl,rfl,px,py,Lib.hid rfl,rfl⟩
 case round =>
  clear px py
  obtain ⟨p,q,n,rfl,rfl,pp,pq,hg,rfl⟩:=hrel
  by_cases hq:q=0
  ·subst hq
   have HG:Hid ((Nat.gcd x.natAbs y.natAbs:Nat)=p):=Lib.hid (by rw [← hg.out,Nat.gcd_zero_right])
   have HW:=Lib.hid (ROf_any (p:Int) (W4.drewN n) (by omega) (by have:=pp.out;omega))
   clear hg
   go_wp2_with fail
   refine HW.out.mono ?_
   rintro e W6 ⟨rfl,hb6⟩
   have hB6:=(h4.drewN n).below hb6
   obtain ⟨z0,z1⟩:=hB6.z.cells
   obtain ⟨c0,c1⟩:=hB6.z.free
   clear hb6
   go_wp2_with fail
   obtain ⟨q0,q1,hbl⟩:=hB6.ret (.bool (sg p)) (.string (mg p))
   rw [HG.out]
   exact bodyPost_ret (v:=vI p) (by simp [results,Tryz.results85,go_sem,vI,q0,q1]) rfl ⟨rfl,hbl⟩
  ·have hq':((q:Int) != 0)=true:=by rw [bne_iff_ne];omega
   have hq2:((q:Int) == 0)=false:=by rw [beq_eq_false_iff_ne];omega
   have HQ:=Lib.hid hq
   have hq3:¬ (q:Int)=0:=by omega
   have hmm:p % q<72057594037927936:=Nat.lt_of_le_of_lt (Nat.mod_le _ _) pp.out
   have hr1:IntKind.i64.wrap ((p:Int) % (q:Int))=((p % q:Nat):Int):=by
    rw [← Int.natCast_emod]
    exact wr64 (by omega) (by omega)
   have hr2:((p:Int)).tmod (q:Int)=(p:Int) % (q:Int):=Int.tmod_eq_emod_of_nonneg (by omega)
   have HMM:=Lib.hid hmm
   clear hq hmm
   go_wp2_with fail
   go_quiet (fail)
   go_wp2_with fail
   go_roundw
   case rel=>exact ⟨q,p % q,_,rfl,by first | rfl | (congr 1;omega),pq,HMM,Lib.hid (by rw [← gcd_step];exact hg.out),by first | rfl | (simp only [World.drewN_drewN];rfl)⟩
   case measure =>
    have:=Nat.mod_lt p (Nat.pos_of_ne_zero HQ.out)
    simp [intOf];omega
theorem gcd_odd (a b k:Nat) (ha:a % 2=1):Nat.gcd a (2 ^ k * b)=Nat.gcd a b:=by
 have hc:Nat.Coprime (2 ^ k) a:=Nat.Coprime.pow_left k (by
  unfold Nat.Coprime
  rw [Nat.gcd_comm]
  have h1:Nat.gcd a 2∣2:=Nat.gcd_dvd_right a 2
  have h2:Nat.gcd a 2∣a:=Nat.gcd_dvd_left a 2
  have h3:Nat.gcd a 2≤2:=Nat.le_of_dvd (by decide) h1
  have h4:Nat.gcd a 2≠0:=fun h=>by rw [h] at h1;omega
  have h5:Nat.gcd a 2≠2:=fun h=>by rw [h] at h2;omega
  omega)
 exact Nat.Coprime.gcd_mul_left_cancel_right b hc
theorem gcd_step_odd {a b:Nat} (ha:a % 2=1) (hab:a<b):Nat.gcd a (odd (b - a))=Nat.gcd a b:=by
 have h:=two_le (b - a) (by omega)
 rw [← gcd_odd a (odd (b - a)) (two (b - a)) ha,← h.1,Nat.gcd_sub_self_right (by omega)]
theorem gcd_two (x y:Nat) (hx:x≠0) (hy:y≠0):Nat.gcd x y=2 ^ min (two x) (two y) * Nat.gcd (odd x) (odd y):=by
 obtain ⟨h1,h2⟩:=two_le x hx
 obtain ⟨h3,h4⟩:=two_le y hy
 rcases Nat.le_total (two x) (two y) with h | h
 ·rw [Nat.min_eq_left h]
  obtain ⟨d,hd⟩:∃ d,two y=two x+d:=⟨two y - two x,by omega⟩
  conv=>lhs;rw [h1,h3,hd,Nat.pow_add,Nat.mul_assoc]
  rw [Nat.gcd_mul_left,gcd_odd _ _ _ h2]
 ·rw [Nat.min_eq_right h]
  obtain ⟨d,hd⟩:∃ d,two x=two y+d:=⟨two x - two y,by omega⟩
  conv=>lhs;rw [h1,h3,hd,Nat.pow_add,Nat.mul_assoc]
  rw [Nat.gcd_mul_left,Nat.gcd_comm,gcd_odd _ _ _ h4,Nat.gcd_comm]
def rdV (w:World):Value→Nat
 | .slice (some ⟨b,o,none⟩) n _=>val 16777216 ((List.range n).map fun i=>match w.cell? ⟨b,o+i,none⟩ with | some (.int _ k)=>k.toNat | _=>0)
 | _=>0
theorem rdV_eq {w:World} {A:Option Addr} {xs:List Nat} (c:Nat) (h:RdAt w .i64 A xs):rdV w (.slice A xs.length c)=val 16777216 xs:=by
 rcases Nat.eq_zero_or_pos xs.length with h0 | h0
 ·have:xs = []:=List.eq_nil_of_length_eq_zero h0
  subst this
  rcases A with _ | ⟨b,o,_ | _⟩ <;> simp [rdV,val]
 ·obtain ⟨b,o,rfl,_⟩:=h 0 h0
  show val 16777216 ((List.range xs.length).map fun i=>match w.cell? ⟨b,o+i,none⟩ with | some (.int _ k)=>k.toNat | _=>0)=val 16777216 xs
  congr 1
  refine List.ext_getElem (by simp) (fun i h1 h2=>?_)
  obtain ⟨b',o',he,hc⟩:=h i h2
  have he2:=Option.some.inj he
  obtain ⟨rfl,rfl⟩:b=b'∧o=o':=⟨congrArg Addr.block he2,congrArg Addr.off he2⟩
  simp [hc,gd_get h2]
theorem RetOrd.n {x y:Nat} {w w':World} {e:Ending} (h:RetOrd x y w e w'):e = .returned (.int .i64 (cmpN x y))∧∃ n,w'=w.drewN n:=h
theorem RGcd_zero (x y:Int) (w:World) (hx:Bd 80000000 x) (hy:Bd 80000000 y) (hbig:7<(mg x).size∨((mg x).size≤7∧7<(mg y).size)) (hx0:x=0):Calls Tryz.prog 85 #[vI x,vI y] w (RetI (Nat.gcd x.natAbs y.natAbs:Nat) w):=by
 have h0:=Box3.new w 25 x y
 have HX:=fun W=>Lib.hid (Rdigits_omg x W (hx.mono (by omega)))
 have HY:=fun W=>Lib.hid (Rdigits_omg y W (hy.mono (by omega)))
 have lx:=hx.digs24
 have ly:=hy.digs24
 have hz1:(((digs 16777216 x.natAbs).length:Int) == 0)=true:=by rw [hx0];rfl
 have HG:Hid (Nat.gcd x.natAbs y.natAbs=x.natAbs+y.natAbs):=Lib.hid (by simp [hx0])
 have LS:Hid ((digs 16777216 (x.natAbs+y.natAbs)).length≤1000000000):=Lib.hid (Rdigs_add x y hx hy)
 have hb1:¬ ((mg x).size:Int)≤7∨(((mg x).size:Int)≤7∧¬ ((mg y).size:Int)≤7):=by omega
 clear hx hy hbig hx0
 rcases hb1 with g1 | ⟨g1,g2⟩
 all_goals
  go_enter Tryz.func85,Tryz.ntmps85
  go_wp2_with fail
  obtain ⟨W0,hW0⟩:∃ W0,W0=(((w.alloc (.cells #[.bool (sg x),.string (mg x)] 25)).alloc (.cells #[.bool (sg y),.string (mg y)] 25)).alloc (.cells #[.bool false,.string ⟨#[]⟩] 25)):=⟨_,rfl⟩
  rw [← hW0] at h0 ⊢
  clear hW0
  refine (RValid_yes x W0).mono ?_
  rintro e W1 ⟨rfl,hb⟩
  have h1:=h0.below hb
  obtain ⟨y0,y1⟩:=h1.y.cells
  clear hb h0
  go_wp2_with fail
  refine (RValid_yes y W1).mono ?_
  rintro e W2 ⟨rfl,hb⟩
  have h2:=h1.below hb
  obtain ⟨x0,x1⟩:=h2.x.cells
  obtain ⟨y0',y1'⟩:=h2.y.cells
  clear hb h1 y0 y1
  go_wp2_with fail
  clear x0 x1 y0' y1'
  have hd:Box3 w W2.drew 25 x y:=h2.drewN 1
  go_region_held3 (fun W=>W.cell? ⟨w.heap.size,0,none⟩=some (.bool (sg x))∧W.cell? ⟨w.heap.size,1,none⟩=some (.string (mg x))∧W.cell? ⟨w.heap.size+1,0,none⟩=some (.bool (sg y))∧W.cell? ⟨w.heap.size+1,1,none⟩=some (.string (mg y)))
   (first | exact Box3.seen (by assumption) | exact Box3.seen_set (by assumption) _ _)
   (first
    | (go_at_call_of 56 (Value.string (mg x));refine (HX _).out.mono ?_;rintro e W' ⟨b1,hb1,rfl,hB1,hb⟩;have hS:=Box3.below (by assumption) hb)
    | (go_at_call_of 56 (Value.string (mg y));refine (HY _).out.mono ?_;rintro e W'' ⟨b2,hb2,rfl,hB2,hbb2⟩;have hS2:=Box3.below (by assumption) hbb2;have hB1':=hB1.below hbb2 hB1.lt))
  have HB1:=Lib.hid hB1'
  have HB2:=Lib.hid hB2
  clear hB1 hB1' hB2 hb hbb2 hS hd h2 HX HY hb1 hb2
  go_wp2_with fail
  refine (Rplus_any _ _ _ _ x.natAbs y.natAbs _ HB1.out.rd HB2.out.rd (by omega) (by omega) (Nat.le_refl _) (Nat.le_refl _)).mono ?_
  rintro e W5 ⟨A5,c5,rfl,hc5,hr5,hb5⟩
  have hB5:=hS2.below hb5
  clear hb5
  go_wp2_with fail
  refine (Rsigned_d A5 c5 (x.natAbs+y.natAbs) false W5 hr5 LS.out).mono ?_
  rintro e W9 ⟨rfl,hb9⟩
  have hB9:=hB5.below hb9
  obtain ⟨z0,z1⟩:=hB9.z.cells
  obtain ⟨c0,c1⟩:=hB9.z.free
  clear hb9
  go_wp2_with fail
  rw [show sgnd false (x.natAbs+y.natAbs)=((x.natAbs+y.natAbs:Nat):Int) from rfl,← HG.out]
  obtain ⟨q0,q1,hbl⟩:=hB9.ret (.bool (sg ((Nat.gcd x.natAbs y.natAbs:Nat):Int))) (.string (mg ((Nat.gcd x.natAbs y.natAbs:Nat):Int)))
  exact bodyPost_ret (v:=vI ((Nat.gcd x.natAbs y.natAbs:Nat):Int)) (by simp [results,Tryz.results85,go_sem,vI,q0,q1]) rfl ⟨rfl,hbl⟩
theorem RGcd_one (x y:Int) (w:World) (hx:Bd 80000000 x) (hy:Bd 80000000 y) (hbig:7<(mg x).size∨((mg x).size≤7∧7<(mg y).size)) (hx0:x≠0) (hy0:y=0):Calls Tryz.prog 85 #[vI x,vI y] w (RetI (Nat.gcd x.natAbs y.natAbs:Nat) w):=by
 have h0:=Box3.new w 25 x y
 have HX:=fun W=>Lib.hid (Rdigits_omg x W (hx.mono (by omega)))
 have HY:=fun W=>Lib.hid (Rdigits_omg y W (hy.mono (by omega)))
 have lx:=hx.digs24
 have ly:=hy.digs24
 have hz1:(((digs 16777216 x.natAbs).length:Int) == 0)=false:=by rw [beq_eq_false_iff_ne];have:=digs_ne (n:=x.natAbs) (by omega);omega
 have hz2:(((digs 16777216 y.natAbs).length:Int) == 0)=true:=by rw [hy0];rfl
 have HG:Hid (Nat.gcd x.natAbs y.natAbs=x.natAbs+y.natAbs):=Lib.hid (by simp [hy0])
 have LS:Hid ((digs 16777216 (x.natAbs+y.natAbs)).length≤1000000000):=Lib.hid (Rdigs_add x y hx hy)
 have hb1:¬ ((mg x).size:Int)≤7∨(((mg x).size:Int)≤7∧¬ ((mg y).size:Int)≤7):=by omega
 clear hx hy hbig hx0 hy0
 rcases hb1 with g1 | ⟨g1,g2⟩
 all_goals
  go_enter Tryz.func85,Tryz.ntmps85
  go_wp2_with fail
  obtain ⟨W0,hW0⟩:∃ W0,W0=(((w.alloc (.cells #[.bool (sg x),.string (mg x)] 25)).alloc (.cells #[.bool (sg y),.string (mg y)] 25)).alloc (.cells #[.bool false,.string ⟨#[]⟩] 25)):=⟨_,rfl⟩
  rw [← hW0] at h0 ⊢
  clear hW0
  refine (RValid_yes x W0).mono ?_
  rintro e W1 ⟨rfl,hb⟩
  have h1:=h0.below hb
  obtain ⟨y0,y1⟩:=h1.y.cells
  clear hb h0
  go_wp2_with fail
  refine (RValid_yes y W1).mono ?_
  rintro e W2 ⟨rfl,hb⟩
  have h2:=h1.below hb
  obtain ⟨x0,x1⟩:=h2.x.cells
  obtain ⟨y0',y1'⟩:=h2.y.cells
  clear hb h1 y0 y1
  go_wp2_with fail
  clear x0 x1 y0' y1'
  have hd:Box3 w W2.drew 25 x y:=h2.drewN 1
  go_region_held3 (fun W=>W.cell? ⟨w.heap.size,0,none⟩=some (.bool (sg x))∧W.cell? ⟨w.heap.size,1,none⟩=some (.string (mg x))∧W.cell? ⟨w.heap.size+1,0,none⟩=some (.bool (sg y))∧W.cell? ⟨w.heap.size+1,1,none⟩=some (.string (mg y)))
   (first | exact Box3.seen (by assumption) | exact Box3.seen_set (by assumption) _ _)
   (first
    | (go_at_call_of 56 (Value.string (mg x));refine (HX _).out.mono ?_;rintro e W' ⟨b1,hb1,rfl,hB1,hb⟩;have hS:=Box3.below (by assumption) hb)
    | (go_at_call_of 56 (Value.string (mg y));refine (HY _).out.mono ?_;rintro e W'' ⟨b2,hb2,rfl,hB2,hbb2⟩;have hS2:=Box3.below (by assumption) hbb2;have hB1':=hB1.below hbb2 hB1.lt))
  have HB1:=Lib.hid hB1'
  have HB2:=Lib.hid hB2
  clear hB1 hB1' hB2 hb hbb2 hS hd h2 HX HY hb1 hb2
  go_wp2_with fail
  refine (Rplus_any _ _ _ _ x.natAbs y.natAbs _ HB1.out.rd HB2.out.rd (by omega) (by omega) (Nat.le_refl _) (Nat.le_refl _)).mono ?_
  rintro e W5 ⟨A5,c5,rfl,hc5,hr5,hb5⟩
  have hB5:=hS2.below hb5
  clear hb5
  go_wp2_with fail
  refine (Rsigned_d A5 c5 (x.natAbs+y.natAbs) false W5 hr5 LS.out).mono ?_
  rintro e W9 ⟨rfl,hb9⟩
  have hB9:=hB5.below hb9
  obtain ⟨z0,z1⟩:=hB9.z.cells
  obtain ⟨c0,c1⟩:=hB9.z.free
  clear hb9
  go_wp2_with fail
  rw [show sgnd false (x.natAbs+y.natAbs)=((x.natAbs+y.natAbs:Nat):Int) from rfl,← HG.out]
  obtain ⟨q0,q1,hbl⟩:=hB9.ret (.bool (sg ((Nat.gcd x.natAbs y.natAbs:Nat):Int))) (.string (mg ((Nat.gcd x.natAbs y.natAbs:Nat):Int)))
  exact bodyPost_ret (v:=vI ((Nat.gcd x.natAbs y.natAbs:Nat):Int)) (by simp [results,Tryz.results85,go_sem,vI,q0,q1]) rfl ⟨rfl,hbl⟩
theorem Box3.top {w W:World} {t:TypeId} {x y:Int} (h:Box3 w W t x y):w.heap.size+1+1<W.heap.size:=by have:=h.s;omega
theorem OwnD.box {w W W':World} {t:TypeId} {x y:Int} {b:Nat} (h:Box3 w W t x y) (ho:Only b W W') (hb:w.heap.size+1+1<b):Box3 w W' t x y:=by
 have two:∀ c u v,c<b→Two W c t u v→Two W' c t u v:=fun c u v hc h=>by
  unfold Two at *
  rw [ho.block c (by omega)];exact h
 exact ⟨two _ _ _ (by omega) h.x,two _ _ _ (by omega) h.y,two _ _ _ (by omega) h.z,h.b.trans (ho.below (by omega)),by rw [ho.size];exact h.s⟩
theorem OwnD.drewN {w:World} {b o c n:Nat} {pre post:List Nat} (h:OwnD w b o c n pre post) (m:Nat):OwnD (w.drewN m) b o c n pre post:=⟨h.blk.drewN m,h.off,h.cap⟩
theorem two_bound {n:Nat} (h0:n≠0):two n<24 * (digs 16777216 n).length:=by
 have h1:=lt_pow_digs (B:=16777216) (by decide) n
 rw [pow24_2] at h1
 have h2:2 ^ two n≤n:=by
  have h:=(two_le n h0).1
  have h3:=odd_pos h0
  have:2 ^ two n * 1≤2 ^ two n * odd n:=Nat.mul_le_mul_left _ h3
  omega
 exact (Nat.pow_lt_pow_iff_right (by decide)).1 (Nat.lt_of_le_of_lt h2 h1)
theorem RGcd_big (x y:Int) (w:World) (hx:Bd 80000000 x) (hy:Bd 80000000 y) (hbig:7<(mg x).size∨((mg x).size≤7∧7<(mg y).size)) (hx0:x≠0) (hy0:y≠0):Calls Tryz.prog 85 #[vI x,vI y] w (RetI (Nat.gcd x.natAbs y.natAbs:Nat) w):=by
 have h0:=Box3.new w 25 x y
 have HX:=fun W=>Lib.hid (Rdigits_omg x W (hx.mono (by omega)))
 have HY:=fun W=>Lib.hid (Rdigits_omg y W (hy.mono (by omega)))
 have lx:=hx.digs24
 have ly:=hy.digs24
 have hz1:(((digs 16777216 x.natAbs).length:Int) == 0)=false:=by rw [beq_eq_false_iff_ne];have:=digs_ne (n:=x.natAbs) (by omega);omega
 have hz2:(((digs 16777216 y.natAbs).length:Int) == 0)=false:=by rw [beq_eq_false_iff_ne];have:=digs_ne (n:=y.natAbs) (by omega);omega
 have HX0:Hid (x.natAbs≠0):=Lib.hid (by omega)
 have HY0:Hid (y.natAbs≠0):=Lib.hid (by omega)
 have HG:=Lib.hid (gcd_two x.natAbs y.natAbs (by omega) (by omega))
 have hb1:¬ ((mg x).size:Int)≤7∨(((mg x).size:Int)≤7∧¬ ((mg y).size:Int)≤7):=by omega
 clear hx hy hbig hx0 hy0
 rcases hb1 with g1 | ⟨g1,g2⟩
 all_goals
  go_enter Tryz.func85,Tryz.ntmps85
  go_wp2_with fail
  obtain ⟨W0,hW0⟩:∃ W0,W0=(((w.alloc (.cells #[.bool (sg x),.string (mg x)] 25)).alloc (.cells #[.bool (sg y),.string (mg y)] 25)).alloc (.cells #[.bool false,.string ⟨#[]⟩] 25)):=⟨_,rfl⟩
  rw [← hW0] at h0 ⊢
  clear hW0
  refine (RValid_yes x W0).mono ?_
  rintro e W1 ⟨rfl,hb⟩
  have h1:=h0.below hb
  obtain ⟨y0,y1⟩:=h1.y.cells
  clear hb h0
  go_wp2_with fail
  refine (RValid_yes y W1).mono ?_
  rintro e W2 ⟨rfl,hb⟩
  have h2:=h1.below hb
  obtain ⟨x0,x1⟩:=h2.x.cells
  obtain ⟨y0',y1'⟩:=h2.y.cells
  clear hb h1 y0 y1
  go_wp2_with fail
  clear x0 x1 y0' y1'
  have hd:Box3 w W2.drew 25 x y:=h2.drewN 1
  go_region_held3 (fun W=>W.cell? ⟨w.heap.size,0,none⟩=some (.bool (sg x))∧W.cell? ⟨w.heap.size,1,none⟩=some (.string (mg x))∧W.cell? ⟨w.heap.size+1,0,none⟩=some (.bool (sg y))∧W.cell? ⟨w.heap.size+1,1,none⟩=some (.string (mg y)))
   (first | exact Box3.seen (by assumption) | exact Box3.seen_set (by assumption) _ _)
   (first
    | (go_at_call_of 56 (Value.string (mg x));refine (HX _).out.mono ?_;rintro e W' ⟨b1,hb1,rfl,hB1,hb⟩;have hS:=Box3.below (by assumption) hb;have hb1:=Nat.lt_of_lt_of_le (Box3.top (by assumption)) hb1)
    | (go_at_call_of 56 (Value.string (mg y));refine (HY _).out.mono ?_;rintro e W'' ⟨b2,hb2,rfl,hB2,hbb2⟩;have hS2:=Box3.below (by assumption) hbb2;have hB1':=hB1.below hbb2 hB1.lt;have hb12:=Nat.lt_of_lt_of_le hB1.lt hb2))
  have HB1:=Lib.hid (OwnD.mk (pre:=[]) (post:=[]) (o:=0) (by simpa using hB1') rfl (Nat.le_refl _))
  have HB2:=Lib.hid (OwnD.mk (pre:=[]) (post:=[]) (o:=0) (by simpa using hB2) rfl (Nat.le_refl _))
  have hb22:w.heap.size+1+1<b2:=by omega
  clear hB1 hB1' hB2 hb hbb2 hS hd h2 HX HY hb2
  go_wp2_with fail
  refine (Rodd_any b1 0 _ x.natAbs [] [] _ HB1.out (by omega) (by omega) HX0.out).mono ?_
  rintro e W5 ⟨o1,c1,pre1,post1,rfl,hO1,hon1⟩
  have hB5:=OwnD.box hS2 hon1 hb1
  have HB2':=Lib.hid (HB2.out.only hon1 (by omega))
  clear HB1 HB2 hS2 hon1
  have HO1:=Lib.hid hO1
  clear hO1
  go_wp2_with fail
  refine (Rodd_any b2 0 _ y.natAbs [] [] _ HB2'.out (by omega) (by omega) HY0.out).mono ?_
  rintro e W6 ⟨o2,c2,pre2,post2,rfl,hO2,hon2⟩
  have hB6:=OwnD.box hB5 hon2 hb22
  have HO1':=Lib.hid (HO1.out.only hon2 (by omega))
  have HO2:=Lib.hid hO2
  clear HB2' HO1 hB5 hon2 hO2
  have lo1:(digs 16777216 (odd x.natAbs)).length≤80000000:=Nat.le_trans (digs_len_mono (by decide) (odd_le _)) lx
  have lo2:(digs 16777216 (odd y.natAbs)).length≤80000000:=Nat.le_trans (digs_len_mono (by decide) (odd_le _)) ly
  go_wp2_with fail
  go_loopw [9,10] (fun v9 v10 wr=>∃ (a b p q o o' c c':Nat) (pr po pr' po':List Nat),v9 = .slice (some ⟨p,o,none⟩) (digs 16777216 a).length c∧v10 = .slice (some ⟨q,o',none⟩) (digs 16777216 b).length c'∧p≠q∧w.heap.size+1+1<p∧w.heap.size+1+1<q∧(digs 16777216 a).length≤80000000∧(digs 16777216 b).length≤80000000 ∧
    Hid (a % 2=1)∧Hid (b % 2=1)∧Hid (Nat.gcd a b=Nat.gcd (odd x.natAbs) (odd y.natAbs))∧Hid (OwnD wr p o c a pr po)∧Hid (OwnD wr q o' c' b pr' po')∧Box3 w wr 25 x y) (fun v9 v10 wr=>rdV wr v9+rdV wr v10)
  case atStart=>exact ⟨_,_,b1,b2,_,_,_,_,_,_,_,_,rfl,rfl,by omega,hb1,hb22,lo1,lo2,Lib.hid (two_le _ HX0.out).2,Lib.hid (two_le _ HY0.out).2,Lib.hid rfl,HO1',HO2,hB6⟩
  case round =>
   clear HO1' HO2 hB6 lo1 lo2 hb1 hb22 hb12
   obtain ⟨a,b,p,q,o,o',c,c',pr,po,pr',po',rfl,rfl,hpq,hp,hq,la,lb,ha,hb,hg,hoa,hob,hB⟩:=hrel
   have HORD:=Lib.hid (Rorder_any (some ⟨p,o,none⟩) (some ⟨q,o',none⟩) c c' a b wr hoa.out.rd hob.out.rd (by omega) (by omega))
   have HMA:=Lib.hid (rdV_eq c hoa.out.rd)
   have HMB:=Lib.hid (rdV_eq c' hob.out.rd)
   rw [val_digs (by decide)] at HMA HMB
   rcases Nat.lt_trichotomy a b with hlt | heq | hgt
   ·have hc0:=cmpN_lt hlt
    have HLT:=Lib.hid hlt
    clear hlt
    go_wp2_with fail
    refine HORD.out.mono ?_
    rintro e W7 ⟨rfl,n7,rfl⟩
    rw [hc0]
    have HOA:=Lib.hid (OwnD.drewN hoa.out n7)
    have HOB:=Lib.hid (OwnD.drewN hob.out n7)
    have hB7:=hB.drewN n7
    have HMI:=Lib.hid (Rminus_own (some ⟨q,o',none⟩) (some ⟨p,o,none⟩) c' c b a (wr.drewN n7) HOB.out.rd HOA.out.rd (by omega) (by have:=HLT.out;omega))
    clear HORD hoa hob hB hc0
    go_wp2_with fail
    refine HMI.out.mono ?_
    rintro e W8 ⟨s,c8,po8,hs,rfl,hO8,hb8⟩
    have hB8:=hB7.below hb8
    have hps:p<s:=Nat.lt_of_lt_of_le HOA.out.blk.lt hs
    have HOA8:=Lib.hid (HOA.out.below hb8 HOA.out.blk.lt)
    have HO8:=Lib.hid hO8
    clear hb8 hs HMI hO8 HOA HOB hB7
    have hne:Hid (b - a≠0):=Lib.hid (by have:=HLT.out;omega)
    have l8:(digs 16777216 (b - a)).length≤80000000:=Nat.le_trans (digs_len_mono (by decide) (Nat.sub_le _ _)) lb
    have HOD:=Lib.hid (Rodd_any s 0 c8 (b - a) [] po8 W8 HO8.out (by omega) (by omega) hne.out)
    go_wp2_with fail
    refine HOD.out.mono ?_
    rintro e W9 ⟨o9,c9,pr9,po9,rfl,hO9,hon9⟩
    have hB9:=OwnD.box hB8 hon9 (by omega)
    have HOA9:=Lib.hid (HOA8.out.only hon9 (by omega))
    have HO9:=Lib.hid hO9
    have l9:(digs 16777216 (odd (b - a))).length≤80000000:=Nat.le_trans (digs_len_mono (by decide) (odd_le _)) l8
    clear HOD hon9 hO9 HOA8 HO8 hB8
    go_wp2_with fail
    go_roundw
    case rel=>exact ⟨a,odd (b - a),p,s,o,o9,c,c9,pr,po,pr9,po9,rfl,rfl,by omega,hp,by omega,la,l9,ha,Lib.hid (two_le _ hne.out).2,Lib.hid (by rw [gcd_step_odd ha.out HLT.out];exact hg.out),HOA9,HO9,hB9⟩
    case measure =>
     show rdV W9 (.slice (some ⟨p,o,none⟩) (digs 16777216 a).length c)+rdV W9 (.slice (some ⟨s,o9,none⟩) (digs 16777216 (odd (b - a))).length c9)<rdV wr (.slice (some ⟨p,o,none⟩) (digs 16777216 a).length c)+rdV wr (.slice (some ⟨q,o',none⟩) (digs 16777216 b).length c')
     rw [HMA.out,HMB.out,rdV_eq (w:=W9) c HOA9.out.rd,rdV_eq (w:=W9) c9 HO9.out.rd,val_digs (by decide),val_digs (by decide)]
     have h1:=odd_le (b - a)
     have h2:=HLT.out
     have h3:=ha.out
     omega
   ·subst heq
    have hc0:=cmpN_eq (x:=a) (y:=a) rfl
    go_wp2_with fail
    refine HORD.out.mono ?_
    rintro e W7 ⟨rfl,n7,rfl⟩
    rw [hc0]
    have HOA:=Lib.hid (OwnD.drewN hoa.out n7).rd
    have hB7:=hB.drewN n7
    have HR:=Lib.hid (OwnD.drewN hoa.out n7).cap
    obtain ⟨M,hM⟩:∃ M,M=min (two x.natAbs) (two y.natAbs):=⟨_,rfl⟩
    have hMI:min ((two x.natAbs:Nat):Int) ((two y.natAbs:Nat):Int)=(M:Int):=by rw [hM];omega
    have HGG:Hid (Nat.gcd x.natAbs y.natAbs=2 ^ M * a):=Lib.hid (by rw [HG.out,← hg.out,← hM,Nat.gcd_self])
    have HLE:Hid (∀ i,i≤M→(digs 16777216 (2 ^ i * a)).length≤80000000):=Lib.hid (fun i hi=>by
     refine Nat.le_trans (digs_len_mono (by decide) ?_) lx
     have h1:2 ^ i * a≤2 ^ M * a:=Nat.mul_le_mul_right _ (Nat.pow_le_pow_right (by decide) hi)
     rw [← HGG.out] at h1
     exact Nat.le_trans h1 (Nat.gcd_le_left _ (Nat.pos_of_ne_zero HX0.out)))
    have hMt:M≤two x.natAbs:=by omega
    have hMB:M≤9000000000:=by have:=two_bound HX0.out;omega
    clear HORD hoa hob hB hc0 HG hg HMA HMB ha hb hMt
    have HM:=Lib.hid hM
    clear hM
    go_wp2_with fail
    go_loopw [9,14] (fun v9 v14 wr=>∃ (i:Nat) (A:Option Addr) (c:Nat),i≤M∧v9 = .slice A (digs 16777216 (2 ^ i * a)).length c∧v14 = .int .i64 i∧Hid (RdAt wr .i64 A (digs 16777216 (2 ^ i * a)))∧Box3 w wr 25 x y) (fun _ v14 _=>M - (intOf v14).toNat)
    case atStart=>exact ⟨0,some ⟨p,o,none⟩,c,by omega,by simp,rfl,Lib.hid (by simpa using HOA.out),hB7⟩
    case round =>
     clear HOA hB7
     obtain ⟨i,A,c,hi,rfl,rfl,hr,hB⟩:=hrel
     by_cases hiM:i<M
     ·have HT:=Lib.hid (Rtwice_any A c (2 ^ i * a) 0 wr hr.out (by have:=HLE.out i hi;omega) (by omega))
      rw [show 2 * (2 ^ i * a)+0=2 ^ (i+1) * a from by rw [Nat.add_zero,Nat.pow_succ,Nat.mul_comm (2 ^ i) 2,Nat.mul_assoc]] at HT
      go_wp2_with fail
      refine HT.out.mono ?_
      rintro e W5 ⟨A5,c5,rfl,hc5,hr5,hb5⟩
      have hB5:=hB.below hb5
      have HR5:=Lib.hid hr5
      clear hb5 hr5 HT
      go_wp2_with fail
      go_roundw
      case rel=>exact ⟨i+1,A5,c5,by omega,rfl,by go_num,HR5,hB5⟩
      case measure=>simp [intOf];omega
     ·obtain rfl:i=M:=by omega
      have HS:=Lib.hid (Rsigned_d A c (2 ^ i * a) false wr hr.out (by have:=HLE.out i hi;omega))
      go_wp2_with fail
      refine HS.out.mono ?_
      rintro e W9 ⟨rfl,hb9⟩
      have hB9:=hB.below hb9
      obtain ⟨z0,z1⟩:=hB9.z.cells
      obtain ⟨c0,c1⟩:=hB9.z.free
      clear hb9 HS hB
      go_wp2_with fail
      rw [show sgnd false (2 ^ i * a)=((2 ^ i * a:Nat):Int) from rfl,← HGG.out]
      obtain ⟨q0,q1,hbl⟩:=hB9.ret (.bool (sg ((Nat.gcd x.natAbs y.natAbs:Nat):Int))) (.string (mg ((Nat.gcd x.natAbs y.natAbs:Nat):Int)))
      exact bodyPost_ret (v:=vI ((Nat.gcd x.natAbs y.natAbs:Nat):Int)) (by simp [results,Tryz.results85,go_sem,vI,q0,q1]) rfl ⟨rfl,hbl⟩
   ·have hc0:=cmpN_gt hgt
    have HLT:=Lib.hid hgt
    clear hgt
    go_wp2_with fail
    refine HORD.out.mono ?_
    rintro e W7 ⟨rfl,n7,rfl⟩
    rw [hc0]
    have HOA:=Lib.hid (OwnD.drewN hoa.out n7)
    have HOB:=Lib.hid (OwnD.drewN hob.out n7)
    have hB7:=hB.drewN n7
    have HMI:=Lib.hid (Rminus_own (some ⟨p,o,none⟩) (some ⟨q,o',none⟩) c c' a b (wr.drewN n7) HOA.out.rd HOB.out.rd (by omega) (by have:=HLT.out;omega))
    clear HORD hoa hob hB hc0
    go_wp2_with fail
    refine HMI.out.mono ?_
    rintro e W8 ⟨s,c8,po8,hs,rfl,hO8,hb8⟩
    have hB8:=hB7.below hb8
    have hps:q<s:=Nat.lt_of_lt_of_le HOB.out.blk.lt hs
    have HOA8:=Lib.hid (HOB.out.below hb8 HOB.out.blk.lt)
    have HO8:=Lib.hid hO8
    clear hb8 hs HMI hO8 HOA HOB hB7
    have hne:Hid (a - b≠0):=Lib.hid (by have:=HLT.out;omega)
    have l8:(digs 16777216 (a - b)).length≤80000000:=Nat.le_trans (digs_len_mono (by decide) (Nat.sub_le _ _)) la
    have HOD:=Lib.hid (Rodd_any s 0 c8 (a - b) [] po8 W8 HO8.out (by omega) (by omega) hne.out)
    go_wp2_with fail
    refine HOD.out.mono ?_
    rintro e W9 ⟨o9,c9,pr9,po9,rfl,hO9,hon9⟩
    have hB9:=OwnD.box hB8 hon9 (by omega)
    have HOA9:=Lib.hid (HOA8.out.only hon9 (by omega))
    have HO9:=Lib.hid hO9
    have l9:(digs 16777216 (odd (a - b))).length≤80000000:=Nat.le_trans (digs_len_mono (by decide) (odd_le _)) l8
    clear HOD hon9 hO9 HOA8 HO8 hB8
    go_wp2_with fail
    go_roundw
    case rel=>exact ⟨b,odd (a - b),q,s,o',o9,c',c9,pr',po',pr9,po9,rfl,rfl,by omega,hq,by omega,lb,l9,hb,Lib.hid (two_le _ hne.out).2,Lib.hid (by rw [gcd_step_odd hb.out HLT.out,Nat.gcd_comm];exact hg.out),HOA9,HO9,hB9⟩
    case measure =>
     show rdV W9 (.slice (some ⟨q,o',none⟩) (digs 16777216 b).length c')+rdV W9 (.slice (some ⟨s,o9,none⟩) (digs 16777216 (odd (a - b))).length c9)<rdV wr (.slice (some ⟨p,o,none⟩) (digs 16777216 a).length c)+rdV wr (.slice (some ⟨q,o',none⟩) (digs 16777216 b).length c')
     rw [HMA.out,HMB.out,rdV_eq (w:=W9) c' HOA9.out.rd,rdV_eq (w:=W9) c9 HO9.out.rd,val_digs (by decide),val_digs (by decide)]
     have h1:=odd_le (a - b)
     have h2:=HLT.out
     have h3:=hb.out
     omega
theorem RGcd_any (x y:Int) (w:World) (hx:Bd 80000000 x) (hy:Bd 80000000 y):Calls Tryz.prog 85 #[vI x,vI y] w (RetI (Nat.gcd x.natAbs y.natAbs:Nat) w):=by
 by_cases h:(mg x).size≤7∧(mg y).size≤7
 ·exact RGcd_small x y w h.1 h.2
 ·have hb:7<(mg x).size∨((mg x).size≤7∧7<(mg y).size):=by omega
  by_cases hx0:x=0
  ·exact RGcd_zero x y w hx hy hb hx0
  ·by_cases hy0:y=0
   ·exact RGcd_one x y w hx hy hb hx0 hy0
   ·exact RGcd_big x y w hx hy hb hx0 hy0
end Go.Proofs.YtlhddcingeneaaaGreatDoor
