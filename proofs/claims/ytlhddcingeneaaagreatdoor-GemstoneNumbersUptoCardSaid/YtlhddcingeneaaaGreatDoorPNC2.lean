import Derived.Test.YtlhddcingeneaaaGreatDoorPNC
import Derived.Test.YtlhddcingeneaaaGreatDoorPNA
import Derived.Test.YtlhddcingeneaaaGreatDoorPNB
set_option linter.unusedVariables false
set_option linter.unusedSimpArgs false
set_option maxRecDepth 100000
set_option maxHeartbeats 8000000
namespace Go.Proofs.YtlhddcingeneaaaGreatDoor
open Go.RowKit
theorem info_int:(Tryz.prog.info? 3).map (fun i=>(i.zero,i.size,i.bytes))=some (some (.int .i64 0),1,8):=by kernel_rfl
theorem make_rnat (w:World) (n:Int) (h0:0≤n) (hn:n≤10000000000):∃ w1,(Instr.makeSlice 94 (.int .i64 n) (.int .i64 n)).run Tryz.prog w = .ok (.slice (some ⟨w.heap.size,0,none⟩) n.toNat n.toNat) w1∧Blk w1 .i64 3 w.heap.size (List.replicate n.toNat 0)∧Below w.heap.size w w1∧w1.heap.size=w.heap.size+1:=by
 obtain ⟨i,hi,hz,hs,hb⟩:=info_parts info_int
 exact make_blk w Tryz.underlying94 hi hz hs (by omega) n h0 hn
theorem Rtrim_any (A:Option Addr) (n c:Nat) (xs:List Nat) (w:World) (hn:Hid (xs.length=n)) (hx:Hid (RdAt w .i64 A xs)) (hl:n≤2100000000) (hc:n≤c) :
  Calls Tryz.prog 107 #[.slice A n c] w fun e w'=>e = .returned (.slice A (trimL xs).length c)∧w=w':=by
 obtain rfl:=hn.out
 have H:Hid (trimL xs=trimL (xs.take xs.length)):=by rw [List.take_length];exact rfl
 go_enter Tryz.func107,Tryz.ntmps107
 go_wp2
 go_loop [0] (fun v=>∃ k:Nat,k≤xs.length∧v = .slice A k c∧Hid (trimL xs=trimL (xs.take k))) (fun v=>lenOf v)
 case atStart=>exact ⟨xs.length,Nat.le_refl _,rfl,H⟩
 case round =>
  obtain ⟨k,hk,rfl,ht⟩:=hrel
  clear H
  by_cases h0:0<k
  ·obtain ⟨b,o,rfl,hc1⟩:=hx.out (k - 1) (by omega)
   clear hx
   by_cases hz:gd xs (k - 1)=0
   ·have hz':(((gd xs (k - 1):Nat):Int) == 0)=true:=by rw [hz];rfl
    have HZ:=Lib.hid hz
    clear hz
    go_wp2
    go_round
    case rel=>exact ⟨k - 1,by omega,rfl,ht.out.trans (trimL_cut h0 hk HZ.out)⟩
    case measure=>simp [lenOf];omega
   ·have hz':(((gd xs (k - 1):Nat):Int) == 0)=false:=by rw [beq_eq_false_iff_ne];omega
    have HZ:=Lib.hid hz
    clear hz
    go_wp2
    go_ret
    exact ⟨ret_slice (by rw [ht.out,trimL_stop h0 hk HZ.out]),rfl⟩
  ·go_wp2
   go_ret
   obtain rfl:k=0:=by omega
   exact ⟨ret_slice (by rw [ht.out];rfl),rfl⟩
theorem shl3 (z c r:Nat) (hr:r<3) (hz:z<16777216) (hc:c<256):wrap64 ((z:Int)+wrap64 (wrap64 (c:Int) * 2 ^ (8 * r)))=((z+c * 256 ^ r:Nat):Int):=by
 have:r=0∨r=1∨r=2:=by omega
 rcases this with rfl | rfl | rfl
 all_goals (simp [wrap64];omega)
theorem ret_slice2 {A:Option Addr} {n m c d:Nat} (h:n=m) (h':c=d):Ending.returned (.slice A n c) = .returned (.slice A m d):=by rw [h,h']
theorem Rdigits_any (s:ByteArray) (w:World) (hs:s.size≤2000000000) (hlen:(digs 16777216 (sv s)).length=(s.size+2) / 3) :
  Calls Tryz.prog 56 #[.string s] w (RetD .i64 16777216 (sv s) w):=by
 obtain ⟨w1,hmk,hbk,HW,hsz⟩:=make_rnat w (((s.size:Int)+2) / 3) (by omega) (by omega)
 have HL:=Lib.hid hlen
 clear hlen
 have HS:=Lib.hid hsz
 have HB:=Lib.hid hbk
 clear hsz hbk
 go_enter Tryz.func56,Tryz.ntmps56
 go_wp2
 go_loopw [4] (fun v4 wr=>∃ (k:Nat) (zs:List Nat),k≤s.size∧v4 = .int .i64 k∧Hid (Blk wr .i64 3 w.heap.size zs)∧Hid (zs.length=(s.size+2) / 3)∧Hid (Dig 16777216 zs)∧Hid (val 16777216 zs=val 256 ((rb s).take k))∧Below w.heap.size w wr) (fun v4 _=>s.size - (intOf v4).toNat)
 case atStart=>exact ⟨0,_,by omega,rfl,HB,Lib.hid (by simp;omega),Lib.hid (Dig.replicate (by decide) _),Lib.hid (by simp [val,val_replicate]),HW⟩
 case round =>
  obtain ⟨k,zs,hk,rfl,hB,hz,hdz,hv,hbl⟩:=hrel
  clear HB HS HW hmk
  by_cases hkl:k<s.size
  ·have hcz:=hB.out.cell (i:=k / 3) (by rw [hz.out];omega)
   have hfz:=hB.out.free (k / 3)
   go_wp2_with fail
   have i1:(0:Int)≤(k:Int) / 3:=by omega
   have i2:(k:Int) / 3<((s.size:Int)+2) / 3:=by omega
   have i3:(0:Int)≤(s.size:Int) - 1 - k:=by omega
   have i4:(s.size:Int) - 1 - k<(s.size:Int):=by omega
   have i8:(k:Int)≤(s.size:Int) - 1:=by omega
   have i5:(0:Int)≤8 * ((k:Int) % 3):=by omega
   have i6:8 * ((k:Int) % 3)<24:=by omega
   have q1:IntKind.i64.wrap ((k:Int) / 3)=(k:Int) / 3:=wr64 (by omega) (by omega)
   have q2:IntKind.i64.wrap ((k:Int) % 3)=(k:Int) % 3:=wr64 (by omega) (by omega)
   have q3:IntKind.i64.wrap (8 * ((k:Int) % 3))=8 * ((k:Int) % 3):=wr64 (by omega) (by omega)
   have i7:((k:Int) / 3).toNat=k / 3:=by omega
   have q0:((k:Int)).tmod 3=(k:Int) % 3:=Int.tmod_eq_emod_of_nonneg (by omega)
   refine region_tail 14 (by kernel_rfl) (by kernel_rfl) ?_
   simp only [List.take_succ_cons,List.take_zero,List.drop_succ_cons,List.drop_zero]
   repeat still_step
   refine wpStill_nil ?_
   clear q0 q1 q2 q3 i7
   go_wp2
   go_roundw
   case rel =>
    have hk3:3 * (k / 3)+k % 3=k:=Nat.div_add_mod k 3
    have hv2:val 16777216 zs=val 256 ((rb s).take (3 * (k / 3)+k % 3)):=by rw [hk3];exact hv.out
    have hd:=of_digit3 zs (rb s) (k / 3) (k % 3) (by decide) hv2 (rb_Dig s)
    have hs1:=of_step3 zs (rb s) (k / 3) (k % 3) (by decide) (by rw [hz.out];omega) hv2
    rw [hk3,gd_rb s k hkl] at hs1
    have hb:=(s[s.size - 1 - k]'(by omega)).toNat_lt
    have hp:256 ^ (k % 3)≤65536:=by
     have:k % 3=0∨k % 3=1∨k % 3=2:=by omega
     rcases this with e | e | e <;> simp [e]
    have hm:(s[s.size - 1 - k]'(by omega)).toNat * 256 ^ (k % 3)≤255 * 256 ^ (k % 3):=Nat.mul_le_mul_right _ (by omega)
    refine ⟨k+1,_,by omega,by go_num,Lib.hid ?_,Lib.hid ?_,Lib.hid ?_,Lib.hid hs1,(hbl.trans ?_).setCell (Nat.le_refl _) _⟩
    ·rw [shl3 _ _ _ (Nat.mod_lt _ (by decide)) (by omega) hb]
     exact (hB.out.drewN 1).set _ _
    ·rw [List.length_set];exact hz.out
    ·exact hdz.out.set _ _ (by omega)
    ·exact ((Below.refl _ _).drew)
   case measure=>simp [intOf];omega
  ·obtain rfl:k=s.size:=by omega
   go_wp2_with fail
   go_ret
   have hd:digs 16777216 (sv s)=zs:=digs_full (by decide) hdz.out (by rw [hv.out,← rb_length,List.take_length];rfl) (HL.out.trans hz.out.symm)
   have hl:=hz.out
   refine ⟨some ⟨w.heap.size,0,none⟩,zs.length,?_,?_,?_,hbl⟩
   ·rw [hd];exact ret_slice2 (by omega) (by omega)
   ·rw [hd];exact Nat.le_refl _
   ·rw [hd];exact hB.out.rd

theorem Rplus_lists_lt (A B:Option Addr) (c d:Nat) (xs ys:List Nat) (w:World) (hx:RdAt w .i64 A xs) (hy:RdAt w .i64 B ys) (hl:xs.length≤1000000000) (hm:ys.length≤1000000000) (hc:xs.length≤c) (hd:ys.length≤d)
  (dx:Dig 16777216 xs) (dy:Dig 16777216 ys) (hlt:xs.length<ys.length) :
  Calls Tryz.prog 58 #[.slice A xs.length c,.slice B ys.length d] w (RetD .i64 16777216 (val 16777216 xs+val 16777216 ys) w):=by
 obtain ⟨w1,hmk,hbk,HW,hsz⟩:=make_rnat w ((ys.length:Int)+1) (by omega) (by omega)
 have HS:=Lib.hid hsz
 have HB:=Lib.hid hbk
 clear hsz hbk
 have HX:=Lib.hid hx
 have HY:=Lib.hid hy
 have HDX:=Lib.hid dx
 have HDY:=Lib.hid dy
 clear hx hy dx dy
 go_enter Tryz.func58,Tryz.ntmps58
 go_wp2
 go_loopw [6,7] (fun v6 v7 wr=>∃ (k cy:Nat) (zs:List Nat),k≤ys.length∧cy≤1∧v7 = .int .i64 k∧v6 = .int .i64 cy∧Hid (Blk wr .i64 3 w.heap.size zs)∧Hid (zs.length=ys.length+1)∧Hid (Dig 16777216 zs)∧Hid (val 16777216 (zs.take k)+16777216 ^ k * cy=val 16777216 (ys.take k)+val 16777216 (xs.take k))∧Below w.heap.size w wr) (fun _ v7 _=>ys.length - (intOf v7).toNat)
 case atStart=>exact ⟨0,0,_,by omega,by omega,rfl,rfl,HB,Lib.hid (by simp),Lib.hid (Dig.replicate (by decide) _),Lib.hid (by simp [val]),HW⟩
 case round =>
  obtain ⟨k,cy,zs,hk,hcy,rfl,rfl,hB,hz,hdz,hv,hbl⟩:=hrel
  clear HB HS HW hmk
  by_cases hkl:k<ys.length
  ·obtain ⟨b,o,rfl,hcl⟩:=HY.out k hkl
   have hcl':=below_cell hbl hcl (lt_of_cell hcl)
   have hg1:=HDY.out.gd (by decide) k
   have hlz:k<zs.length:=by rw [hz.out];omega
   have hcz:=hB.out.cell hlz
   have hfz:=hB.out.free k
   by_cases hkx:k<xs.length
   ·obtain ⟨b1,o1,rfl,hcl1⟩:=HX.out k hkx
    have hcl1':=below_cell hbl hcl1 (lt_of_cell hcl1)
    have hg2:=HDX.out.gd (by decide) k
    clear hcl hcl1 hlz
    go_wp2_with fail
    go_roundw
    case rel =>
     refine ⟨k+1,((cy:Int)+(gd ys k:Nat)+(gd xs k:Nat)).toNat / 16777216,zs.set k (((cy:Int)+(gd ys k:Nat)+(gd xs k:Nat)) % 16777216).toNat,by omega,by omega,by go_num,?_,Lib.hid (hB.out.setI k (by omega)),Lib.hid (by simp [hz.out]),Lib.hid (hdz.out.set _ _ (by omega)),Lib.hid (add_step _ _ _ _ _ _ _ _ (by rw [hz.out];omega) hv.out (by omega)),hbl.setCell (Nat.le_refl _) _⟩
     first | rfl | (congr 1;omega)
    case measure=>simp [intOf];omega
   ·have hg2:=gd_behind (Nat.le_of_not_lt hkx)
    have HG2:=Lib.hid hg2
    clear hcl hlz hg2
    go_wp2_with fail
    go_roundw
    case rel =>
     have hg2:=HG2.out
     refine ⟨k+1,((cy:Int)+(gd ys k:Nat)).toNat / 16777216,zs.set k (((cy:Int)+(gd ys k:Nat)) % 16777216).toNat,by omega,by omega,by go_num,?_,Lib.hid (hB.out.setI k (by omega)),Lib.hid (by simp [hz.out]),Lib.hid (hdz.out.set _ _ (by omega)),Lib.hid (add_step _ _ _ _ _ _ _ _ (by rw [hz.out];omega) hv.out (by omega)),hbl.setCell (Nat.le_refl _) _⟩
     first | rfl | (congr 1;omega)
    case measure=>simp [intOf];omega
  ·obtain rfl:k=ys.length:=by omega
   have hcz:=hB.out.cell (i:=ys.length) (by rw [hz.out];omega)
   have hfz:=hB.out.free ys.length
   have hB2:=Lib.hid (hB.out.set ys.length cy)
   have hle:xs.length≤ys.length:=by omega
   go_wp2_with (go_at_call 107;refine (Rtrim_any _ _ _ (zs.set ys.length cy) _ (by rw [Hid,List.length_set];exact hz.out) (Lib.hid hB2.out.rd) (by omega) (by omega)).mono ?_;rintro e w' ⟨rfl,rfl⟩)
   go_ret
   have:=add_end (by decide) zs ys xs _ cy hz.out (Nat.le_refl _) hle hdz.out (by omega) hv.out
   exact RetD.of_blk hB2.out (hbl.setCell (Nat.le_refl _) _) (this.trans (congrArg _ (by omega))) (by simp [hz.out])
theorem Rplus_lists_ge (A B:Option Addr) (c d:Nat) (xs ys:List Nat) (w:World) (hx:RdAt w .i64 A xs) (hy:RdAt w .i64 B ys) (hl:xs.length≤1000000000) (hm:ys.length≤1000000000) (hc:xs.length≤c) (hd:ys.length≤d)
  (dx:Dig 16777216 xs) (dy:Dig 16777216 ys) (hlt:¬ xs.length<ys.length) :
  Calls Tryz.prog 58 #[.slice A xs.length c,.slice B ys.length d] w (RetD .i64 16777216 (val 16777216 xs+val 16777216 ys) w):=by
 obtain ⟨w1,hmk,hbk,HW,hsz⟩:=make_rnat w ((xs.length:Int)+1) (by omega) (by omega)
 have HS:=Lib.hid hsz
 have HB:=Lib.hid hbk
 clear hsz hbk
 have HX:=Lib.hid hx
 have HY:=Lib.hid hy
 have HDX:=Lib.hid dx
 have HDY:=Lib.hid dy
 clear hx hy dx dy
 go_enter Tryz.func58,Tryz.ntmps58
 go_wp2
 go_loopw [6,7] (fun v6 v7 wr=>∃ (k cy:Nat) (zs:List Nat),k≤xs.length∧cy≤1∧v7 = .int .i64 k∧v6 = .int .i64 cy∧Hid (Blk wr .i64 3 w.heap.size zs)∧Hid (zs.length=xs.length+1)∧Hid (Dig 16777216 zs)∧Hid (val 16777216 (zs.take k)+16777216 ^ k * cy=val 16777216 (xs.take k)+val 16777216 (ys.take k))∧Below w.heap.size w wr) (fun _ v7 _=>xs.length - (intOf v7).toNat)
 case atStart=>exact ⟨0,0,_,by omega,by omega,rfl,rfl,HB,Lib.hid (by simp),Lib.hid (Dig.replicate (by decide) _),Lib.hid (by simp [val]),HW⟩
 case round =>
  obtain ⟨k,cy,zs,hk,hcy,rfl,rfl,hB,hz,hdz,hv,hbl⟩:=hrel
  clear HB HS HW hmk
  by_cases hkl:k<xs.length
  ·obtain ⟨b,o,rfl,hcl⟩:=HX.out k hkl
   have hcl':=below_cell hbl hcl (lt_of_cell hcl)
   have hg1:=HDX.out.gd (by decide) k
   have hlz:k<zs.length:=by rw [hz.out];omega
   have hcz:=hB.out.cell hlz
   have hfz:=hB.out.free k
   by_cases hkx:k<ys.length
   ·obtain ⟨b1,o1,rfl,hcl1⟩:=HY.out k hkx
    have hcl1':=below_cell hbl hcl1 (lt_of_cell hcl1)
    have hg2:=HDY.out.gd (by decide) k
    clear hcl hcl1 hlz
    go_wp2_with fail
    go_roundw
    case rel =>
     refine ⟨k+1,((cy:Int)+(gd xs k:Nat)+(gd ys k:Nat)).toNat / 16777216,zs.set k (((cy:Int)+(gd xs k:Nat)+(gd ys k:Nat)) % 16777216).toNat,by omega,by omega,by go_num,?_,Lib.hid (hB.out.setI k (by omega)),Lib.hid (by simp [hz.out]),Lib.hid (hdz.out.set _ _ (by omega)),Lib.hid (add_step _ _ _ _ _ _ _ _ (by rw [hz.out];omega) hv.out (by omega)),hbl.setCell (Nat.le_refl _) _⟩
     first | rfl | (congr 1;omega)
    case measure=>simp [intOf];omega
   ·have hg2:=gd_behind (Nat.le_of_not_lt hkx)
    have HG2:=Lib.hid hg2
    clear hcl hlz hg2
    go_wp2_with fail
    go_roundw
    case rel =>
     have hg2:=HG2.out
     refine ⟨k+1,((cy:Int)+(gd xs k:Nat)).toNat / 16777216,zs.set k (((cy:Int)+(gd xs k:Nat)) % 16777216).toNat,by omega,by omega,by go_num,?_,Lib.hid (hB.out.setI k (by omega)),Lib.hid (by simp [hz.out]),Lib.hid (hdz.out.set _ _ (by omega)),Lib.hid (add_step _ _ _ _ _ _ _ _ (by rw [hz.out];omega) hv.out (by omega)),hbl.setCell (Nat.le_refl _) _⟩
     first | rfl | (congr 1;omega)
    case measure=>simp [intOf];omega
  ·obtain rfl:k=xs.length:=by omega
   have hcz:=hB.out.cell (i:=xs.length) (by rw [hz.out];omega)
   have hfz:=hB.out.free xs.length
   have hB2:=Lib.hid (hB.out.set xs.length cy)
   have hle:ys.length≤xs.length:=by omega
   go_wp2_with (go_at_call 107;refine (Rtrim_any _ _ _ (zs.set xs.length cy) _ (by rw [Hid,List.length_set];exact hz.out) (Lib.hid hB2.out.rd) (by omega) (by omega)).mono ?_;rintro e w' ⟨rfl,rfl⟩)
   go_ret
   have:=add_end (by decide) zs xs ys _ cy hz.out (Nat.le_refl _) hle hdz.out (by omega) hv.out
   exact RetD.of_blk hB2.out (hbl.setCell (Nat.le_refl _) _) (this.trans (congrArg _ (by omega))) (by simp [hz.out])
theorem Rplus_any (A B:Option Addr) (c d x y:Nat) (w:World) (hx:RdAt w .i64 A (digs 16777216 x)) (hy:RdAt w .i64 B (digs 16777216 y)) (hl:(digs 16777216 x).length≤1000000000) (hm:(digs 16777216 y).length≤1000000000) (hc:(digs 16777216 x).length≤c) (hd:(digs 16777216 y).length≤d) :
  Calls Tryz.prog 58 #[.slice A (digs 16777216 x).length c,.slice B (digs 16777216 y).length d] w (RetD .i64 16777216 (x+y) w):=by
 have dx:=digs_Dig (B:=16777216) (by decide) x
 have dy:=digs_Dig (B:=16777216) (by decide) y
 have vx:=val_digs (B:=16777216) (by decide) x
 have vy:=val_digs (B:=16777216) (by decide) y
 by_cases hlt:(digs 16777216 x).length<(digs 16777216 y).length
 ·have:=Rplus_lists_lt A B c d _ _ w hx hy hl hm hc hd dx dy hlt
  rwa [vx,vy] at this
 ·have:=Rplus_lists_ge A B c d _ _ w hx hy hl hm hc hd dx dy hlt
  rwa [vx,vy] at this
theorem Rminus_lists (A B:Option Addr) (c d:Nat) (xs ys:List Nat) (w:World) (hx:RdAt w .i64 A xs) (hy:RdAt w .i64 B ys) (hl:xs.length≤1000000000) (hm:ys.length≤xs.length) (dx:Dig 16777216 xs) (dy:Dig 16777216 ys) (hle:val 16777216 ys≤val 16777216 xs) :
  Calls Tryz.prog 60 #[.slice A xs.length c,.slice B ys.length d] w (RetD .i64 16777216 (val 16777216 xs - val 16777216 ys) w):=by
 obtain ⟨w1,hmk,hbk,HW,hsz⟩:=make_rnat w ((xs.length:Int)) (by omega) (by omega)
 have HS:=Lib.hid hsz
 have HB:=Lib.hid hbk
 clear hsz hbk
 have HX:=Lib.hid hx
 have HY:=Lib.hid hy
 have HDX:=Lib.hid dx
 have HDY:=Lib.hid dy
 have HLE:=Lib.hid hle
 clear hx hy dx dy hle
 go_enter Tryz.func60,Tryz.ntmps60
 go_wp2
 go_loopw [6,7] (fun v6 v7 wr=>∃ (k cy:Nat) (zs:List Nat),k≤xs.length∧cy≤1∧v7 = .int .i64 k∧v6 = .int .i64 cy∧Hid (Blk wr .i64 3 w.heap.size zs)∧Hid (zs.length=xs.length)∧Hid (Dig 16777216 zs)∧Hid (val 16777216 (zs.take k)+val 16777216 (ys.take k)=val 16777216 (xs.take k)+16777216 ^ k * cy)∧Below w.heap.size w wr) (fun _ v7 _=>xs.length - (intOf v7).toNat)
 case atStart=>exact ⟨0,0,_,by omega,by omega,rfl,rfl,HB,Lib.hid (by simp),Lib.hid (Dig.replicate (by decide) _),Lib.hid (by simp [val]),HW⟩
 case round =>
  obtain ⟨k,cy,zs,hk,hcy,rfl,rfl,hB,hz,hdz,hv,hbl⟩:=hrel
  clear HB HS HW hmk
  by_cases hkl:k<xs.length
  ·obtain ⟨b,o,rfl,hcl⟩:=HX.out k hkl
   have hcl':=below_cell hbl hcl (lt_of_cell hcl)
   have hg1:=HDX.out.gd (by decide) k
   have hlz:k<zs.length:=by rw [hz.out];omega
   have hcz:=hB.out.cell hlz
   have hfz:=hB.out.free k
   by_cases hkx:k<ys.length
   ·obtain ⟨b1,o1,rfl,hcl1⟩:=HY.out k hkx
    have hcl1':=below_cell hbl hcl1 (lt_of_cell hcl1)
    have hg2:=HDY.out.gd (by decide) k
    clear hcl hcl1 hlz
    by_cases hneg:((gd xs k:Nat):Int) - cy - (gd ys k:Nat)<0
    ·go_wp2_with fail
     go_roundw
     case rel =>
      refine ⟨k+1,1,zs.set k (((gd xs k:Nat):Int) - cy - (gd ys k:Nat)+16777216).toNat,by omega,by omega,by go_num,rfl,Lib.hid (hB.out.setI k (by omega)),Lib.hid (by simp [hz.out]),Lib.hid (hdz.out.set _ _ (by omega)),Lib.hid (less_step _ _ _ _ _ _ _ _ (by rw [hz.out];omega) hv.out (by omega)),hbl.setCell (Nat.le_refl _) _⟩
     case measure=>simp [intOf];omega
    ·go_wp2_with fail
     go_roundw
     case rel =>
      refine ⟨k+1,0,zs.set k (((gd xs k:Nat):Int) - cy - (gd ys k:Nat)).toNat,by omega,by omega,by go_num,rfl,Lib.hid (hB.out.setI k (by omega)),Lib.hid (by simp [hz.out]),Lib.hid (hdz.out.set _ _ (by omega)),Lib.hid (less_step _ _ _ _ _ _ _ _ (by rw [hz.out];omega) hv.out (by omega)),hbl.setCell (Nat.le_refl _) _⟩
     case measure=>simp [intOf];omega
   ·have hg2:=gd_behind (Nat.le_of_not_lt hkx)
    have HG2:=Lib.hid hg2
    clear hcl hlz hg2
    by_cases hneg:((gd xs k:Nat):Int) - cy<0
    ·go_wp2_with fail
     go_roundw
     case rel =>
      have hg2:=HG2.out
      refine ⟨k+1,1,zs.set k (((gd xs k:Nat):Int) - cy+16777216).toNat,by omega,by omega,by go_num,rfl,Lib.hid (hB.out.setI k (by omega)),Lib.hid (by simp [hz.out]),Lib.hid (hdz.out.set _ _ (by omega)),Lib.hid (less_step _ _ _ _ _ _ _ _ (by rw [hz.out];omega) hv.out (by omega)),hbl.setCell (Nat.le_refl _) _⟩
     case measure=>simp [intOf];omega
    ·go_wp2_with fail
     go_roundw
     case rel =>
      have hg2:=HG2.out
      refine ⟨k+1,0,zs.set k (((gd xs k:Nat):Int) - cy).toNat,by omega,by omega,by go_num,rfl,Lib.hid (hB.out.setI k (by omega)),Lib.hid (by simp [hz.out]),Lib.hid (hdz.out.set _ _ (by omega)),Lib.hid (less_step _ _ _ _ _ _ _ _ (by rw [hz.out];omega) hv.out (by omega)),hbl.setCell (Nat.le_refl _) _⟩
     case measure=>simp [intOf];omega
  ·obtain rfl:k=xs.length:=by omega
   go_wp2_with (go_at_call 107;refine (Rtrim_any _ _ _ zs _ hz (Lib.hid hB.out.rd) (by omega) (by omega)).mono ?_;rintro e w' ⟨rfl,rfl⟩)
   go_ret
   exact RetD.of_blk hB.out hbl (less_end (by decide) zs xs ys cy hz.out hm hdz.out HLE.out hcy hv.out) (by rw [hz.out];exact Nat.le_refl _)
theorem Rminus_any (A B:Option Addr) (c d x y:Nat) (w:World) (hx:RdAt w .i64 A (digs 16777216 x)) (hy:RdAt w .i64 B (digs 16777216 y)) (hl:(digs 16777216 x).length≤1000000000) (hle:y≤x) :
  Calls Tryz.prog 60 #[.slice A (digs 16777216 x).length c,.slice B (digs 16777216 y).length d] w (RetD .i64 16777216 (x - y) w):=by
 have vx:=val_digs (B:=16777216) (by decide) x
 have vy:=val_digs (B:=16777216) (by decide) y
 have:=Rminus_lists A B c d _ _ w hx hy hl (digs_len_mono (by decide) hle) (digs_Dig (by decide) x) (digs_Dig (by decide) y) (by rw [vx,vy];exact hle)
 rwa [vx,vy] at this

def cmpN (x y:Nat):Int:=if x<y then -1 else if y<x then 1 else 0
theorem cmpN_lt {x y:Nat} (h:x<y):cmpN x y = -1:=if_pos h
theorem cmpN_gt {x y:Nat} (h:y<x):cmpN x y=1:=by unfold cmpN;rw [if_neg (by omega),if_pos h]
theorem cmpN_eq {x y:Nat} (h:x=y):cmpN x y=0:=by unfold cmpN;rw [if_neg (by omega),if_neg (by omega)]
def RetOrd (x y:Nat) (w:World) (e:Ending) (w':World):Prop:=e = .returned (.int .i64 (cmpN x y))∧∃ n,w'=w.drewN n
theorem RetOrd.mk {x y:Nat} {w w':World} {r:Int} (h:cmpN x y=r) (hw:∃ n,w'=w.drewN n):RetOrd x y w (.returned (.int .i64 r)) w':=⟨by rw [h],hw⟩
theorem RetOrd.below {x y:Nat} {w w':World} {e:Ending} (h:RetOrd x y w e w'):RetN (cmpN x y) w e w':=by
 obtain ⟨h1,n,rfl⟩:=h
 exact ⟨h1,below_drewN (Below.refl _ _) n⟩
theorem Rorder_any (A B:Option Addr) (c d x y:Nat) (w:World) (hx:RdAt w .i64 A (digs 16777216 x)) (hy:RdAt w .i64 B (digs 16777216 y)) (hl:(digs 16777216 x).length≤1000000000) (hm:(digs 16777216 y).length≤1000000000) :
  Calls Tryz.prog 59 #[.slice A (digs 16777216 x).length c,.slice B (digs 16777216 y).length d] w (RetOrd x y w):=by
 have HX:=Lib.hid hx
 have HY:=Lib.hid hy
 clear hx hy
 generalize hxs:digs 16777216 x=xs at *
 generalize hys:digs 16777216 y=ys at *
 have HXS:=Lib.hid hxs
 have HYS:=Lib.hid hys
 clear hxs hys
 by_cases hne:xs.length=ys.length
 ·have hq:((xs.length:Int) != (ys.length:Int))=false:=by simp [hne]
  have HN:=Lib.hid hne
  clear hne
  go_enter Tryz.func59,Tryz.ntmps59
  go_wp2_with fail
  go_loopw [5] (fun v5 wr=>∃ k n:Nat,k≤xs.length∧v5 = .int .i64 ((k:Int) - 1)∧Hid (val 16777216 (xs.drop k)=val 16777216 (ys.drop k))∧wr=w.drewN n) (fun v5 _=>(intOf v5+1).toNat)
  case atStart=>exact ⟨xs.length,0,Nat.le_refl _,rfl,Lib.hid (by rw [List.drop_length,HN.out,List.drop_length]),rfl⟩
  case round =>
   obtain ⟨k,n,hk,rfl,hv,rfl⟩:=hrel
   rcases Nat.eq_zero_or_pos k with rfl | hkp
   ·rw [show (((0:Nat):Int) - 1) = -1 from rfl]
    go_wp2_with fail
    go_ret
    have he:x=y:=by
     have:=hv.out
     rw [List.drop_zero,List.drop_zero,← HXS.out,← HYS.out,val_digs (by decide),val_digs (by decide)] at this
     exact this
    exact RetOrd.mk (cmpN_eq he) (by first | exact ⟨_,rfl⟩ | (simp only [World.drewN_drewN];exact ⟨_,rfl⟩))
   ·obtain ⟨m,rfl⟩:∃ m,k=m+1:=⟨k - 1,by omega⟩
    rw [show (((m+1:Nat):Int) - 1)=(m:Int) from by omega]
    obtain ⟨b,o,rfl,hcl⟩:=HX.out m (by omega)
    obtain ⟨b1,o1,rfl,hcl1⟩:=HY.out m (by rw [← HN.out];omega)
    have hmy:m<ys.length:=by rw [← HN.out];omega
    have hdx:Hid (Dig 16777216 xs):=by rw [← HXS.out];exact digs_Dig (by decide) x
    have hdy:Hid (Dig 16777216 ys):=by rw [← HYS.out];exact digs_Dig (by decide) y
    have hvx:Hid (val 16777216 xs=x):=by rw [← HXS.out];exact val_digs (by decide) x
    have hvy:Hid (val 16777216 ys=y):=by rw [← HYS.out];exact val_digs (by decide) y
    have j1:(m:Int)<(xs.length:Int):=by omega
    have j2:(m:Int)<(ys.length:Int):=by omega
    have j3:(0:Int)≤(m:Int):=by omega
    by_cases he:gd xs m=gd ys m
    ·have hg':(((gd xs m:Nat):Int) != ((gd ys m:Nat):Int))=false:=by rw [he];simp
     have HG:=Lib.hid he
     clear he
     go_wp2_with fail
     go_quiet (fail)
     go_wp2_with fail
     go_roundw
     case rel=>exact ⟨m,_,by omega,rfl,Lib.hid (val_drop_eq (by omega) HN.out hv.out HG.out),by first | rfl | (simp only [World.drewN_drewN];rfl)⟩
     case measure=>simp [intOf]
    ·have hg':(((gd xs m:Nat):Int) != ((gd ys m:Nat):Int))=true:=by rw [bne_iff_ne];omega
     by_cases hg:gd xs m<gd ys m
     ·have hg2':decide (gd xs m<gd ys m)=true:=by simpa using hg
      have HG:=Lib.hid hg
      clear hg he
      go_wp2_with fail
      go_quiet (fail)
      go_wp2_with fail
      go_quiet (fail)
      go_wp2_with fail
      go_ret
      have hlt:=val_top_lt hdx.out hdy.out (by omega) HN.out hv.out HG.out
      rw [hvx.out,hvy.out] at hlt
      exact RetOrd.mk (cmpN_lt hlt) (by first | exact ⟨_,rfl⟩ | (simp only [World.drewN_drewN];exact ⟨_,rfl⟩))
     ·have hg2':decide (gd xs m<gd ys m)=false:=by simpa using hg
      have HG:Hid (gd ys m<gd xs m):=Lib.hid (by omega)
      clear hg he
      go_wp2_with fail
      go_quiet (fail)
      go_wp2_with fail
      go_quiet (fail)
      go_wp2_with fail
      go_ret
      have hlt:=val_top_lt hdy.out hdx.out (by omega) HN.out.symm hv.out.symm HG.out
      rw [hvx.out,hvy.out] at hlt
      exact RetOrd.mk (cmpN_gt hlt) (by first | exact ⟨_,rfl⟩ | (simp only [World.drewN_drewN];exact ⟨_,rfl⟩))
 ·have hq:((xs.length:Int) != (ys.length:Int))=true:=by rw [bne_iff_ne];omega
  have HN:=Lib.hid hne
  clear hne
  by_cases hlt:xs.length<ys.length
  ·have h1:x<y:=by
    have:=hlt
    rw [← HXS.out,← HYS.out] at this;exact digs_len_lt (by decide) this
   go_enter Tryz.func59,Tryz.ntmps59
   go_wp2_with fail
   go_ret
   exact RetOrd.mk (cmpN_lt h1) ⟨0,rfl⟩
  ·have h1:y<x:=by
    have h3:=HN.out
    have:ys.length<xs.length:=by omega
    rw [← HXS.out,← HYS.out] at this;exact digs_len_lt (by decide) this
   go_enter Tryz.func59,Tryz.ntmps59
   go_wp2_with fail
   go_ret
   exact RetOrd.mk (cmpN_gt h1) ⟨0,rfl⟩

theorem gd_zero_above {M n:Nat} (hM:2≤M) {zs:List Nat} (h:val M zs<M ^ n) (j:Nat) (hj:n≤j):gd zs j=0:=by
 have h1:=gd_le_val M zs j
 have h2:M ^ n≤M ^ j:=Nat.pow_le_pow_right (by omega) hj
 rcases Nat.eq_zero_or_pos (gd zs j) with h3 | h3
 ·exact h3
 ·have:M ^ j * 1≤M ^ j * gd zs j:=Nat.mul_le_mul_left _ h3
  omega
theorem times_step {M i k P Yk x y cy g s c' Z Z':Nat} (h:Z+M ^ (i+k) * cy=P+M ^ i * (x * Yk)) (hs:Z'+M ^ (i+k+1) * c'=Z+M ^ (i+k) * (cy+x * y)) :
  Z'+M ^ (i+(k+1)) * c'=P+M ^ i * (x * (Yk+M ^ k * y)):=by
 have:=mul_row M i k P Yk x y (Z+M ^ (i+k) * cy) h
 rw [← this,← Nat.add_assoc i k 1,hs,Nat.mul_add];omega
theorem mulc_le {x y:Nat} (hx:x<16777216) (hy:y<16777216):x * y≤281474943156225 :=
 Nat.le_trans (Nat.mul_le_mul (Nat.le_of_lt_succ hx) (Nat.le_of_lt_succ hy)) (by decide)
theorem Rtimes_lists (A B:Option Addr) (c d:Nat) (xs ys:List Nat) (w:World) (hx:RdAt w .i64 A xs) (hy:RdAt w .i64 B ys) (hl:xs.length≤1000000000) (hm:ys.length≤1000000000) (dx:Dig 16777216 xs) (dy:Dig 16777216 ys) :
  Calls Tryz.prog 102 #[.slice A xs.length c,.slice B ys.length d] w (RetD .i64 16777216 (val 16777216 xs * val 16777216 ys) w):=by
 obtain ⟨w1,hmk,hbk,HW,hsz⟩:=make_rnat w ((xs.length:Int)+ys.length) (by omega) (by omega)
 have HS:=Lib.hid hsz
 have HB:=Lib.hid hbk
 clear hsz hbk
 have HX:=Lib.hid hx
 have HY:=Lib.hid hy
 have HDX:=Lib.hid dx
 have HDY:=Lib.hid dy
 clear hx hy dx dy
 go_enter Tryz.func102,Tryz.ntmps102
 go_wp2_with fail
 go_loopw [6] (fun v6 wr=>∃ (i:Nat) (zs:List Nat),i≤xs.length∧v6 = .int .i64 i∧Hid (Blk wr .i64 3 w.heap.size zs)∧Hid (zs.length=xs.length+ys.length)∧Hid (Dig 16777216 zs)∧Hid (val 16777216 zs=val 16777216 (xs.take i) * val 16777216 ys)∧Below w.heap.size w wr) (fun v6 _=>xs.length - (intOf v6).toNat)
 case atStart=>exact ⟨0,_,by omega,rfl,HB,Lib.hid (by simp;omega),Lib.hid (Dig.replicate (by decide) _),Lib.hid (by rw [val_replicate];simp [val]),HW⟩
 case round =>
  obtain ⟨i,zs,hi,rfl,hB,hz,hdz,hv,hbl⟩:=hrel
  clear HB HS HW hmk
  by_cases hil:i<xs.length
  ·obtain ⟨b,o,rfl,hcl⟩:=HX.out i hil
   have hg1:=HDX.out.gd (by decide) i
   have H0:Hid (∀ j,i+ys.length≤j→gd zs j=0):=Lib.hid (fun j hj=>by
    refine gd_zero_above (M:=16777216) (n:=i+ys.length) (by decide) ?_ j hj
    rw [hv.out,Nat.pow_add]
    have h1:=val_lt (HDX.out.take i)
    rw [List.length_take,Nat.min_eq_left hi] at h1
    exact Nat.mul_lt_mul'' h1 (val_lt HDY.out))
   obtain ⟨wo,rfl⟩:∃ wo:World,wo=wr:=⟨_,rfl⟩
   go_wp2_with fail
   go_loopw [7,8] (fun v7 v8 wr=>∃ (k cy:Nat) (zs:List Nat),k≤ys.length∧cy<16777216∧v8 = .int .i64 k∧v7 = .int .i64 cy∧Hid (Blk wr .i64 3 w.heap.size zs)∧Hid (zs.length=xs.length+ys.length)∧Hid (Dig 16777216 zs)∧Hid (∀ j,i+ys.length≤j→gd zs j=0)∧Hid (val 16777216 zs+16777216 ^ (i+k) * cy=val 16777216 (xs.take i) * val 16777216 ys+16777216 ^ i * (gd xs i * val 16777216 (ys.take k)))∧Below w.heap.size w wr) (fun _ v8 _=>ys.length - (intOf v8).toNat)
   case atStart=>exact ⟨0,0,zs,by omega,by omega,rfl,rfl,hB,hz,hdz,H0,Lib.hid (by rw [hv.out];simp [val]),hbl⟩
   case round =>
    clear hv hbl hB hz hdz H0
    obtain ⟨k,cy,zs,hk,hcy,rfl,rfl,hB,hz,hdz,H0,hv,hbl⟩:=hrel
    by_cases hkl:k<ys.length
    ·obtain ⟨b1,o1,rfl,hcl1⟩:=HY.out k hkl
     have hcl':=below_cell hbl hcl (lt_of_cell hcl)
     have hcl1':=below_cell hbl hcl1 (lt_of_cell hcl1)
     have hg2:=HDY.out.gd (by decide) k
     have hg3:=hdz.out.gd (by decide) (i+k)
     have hlz:i+k<zs.length:=by rw [hz.out];omega
     have hcz:=hB.out.cell hlz
     have hfz:=hB.out.free (i+k)
     have hpm:=mulc_le hg1 hg2
     clear hcl1 hcl
     go_wp2_with fail
     have i1:(0:Int)≤(i:Int)+k:=by omega
     have i2:(i:Int)+k<(xs.length:Int)+ys.length:=by omega
     have i3:((i:Int)+k).toNat=i+k:=by omega
     have i4:(0:Int)≤(i:Int):=by omega
     have i5:(i:Int)<xs.length:=by omega
     have i6:(0:Int)≤(k:Int):=by omega
     have i7:(k:Int)<ys.length:=by omega
     have hpn:((gd xs i:Nat):Int) * ((gd ys k:Nat):Int)=((gd xs i * gd ys k:Nat):Int):=by rw [Int.natCast_mul]
     have q1:IntKind.i64.wrap ((i:Int)+k)=(i:Int)+k:=wr64 (by omega) (by omega)
     have q2:IntKind.i64.wrap (((gd xs i:Nat):Int) * ((gd ys k:Nat):Int))=((gd xs i * gd ys k:Nat):Int):=by rw [hpn];exact wr64 (by omega) (by omega)
     have q3:IntKind.i64.wrap (((gd zs (i+k):Nat):Int)+((gd xs i * gd ys k:Nat):Int))=((gd zs (i+k):Nat):Int)+((gd xs i * gd ys k:Nat):Int):=wr64 (by omega) (by omega)
     have q4:IntKind.i64.wrap ((cy:Int)+(((gd zs (i+k):Nat):Int)+((gd xs i * gd ys k:Nat):Int)))=(cy:Int)+(((gd zs (i+k):Nat):Int)+((gd xs i * gd ys k:Nat):Int)):=wr64 (by omega) (by omega)
     have HPN:=Lib.hid hpn
     clear hpn
     go_quiet (fail)
     clear q1 q2 q3 q4 i3
     rw [HPN.out]
     clear HPN
     generalize hP:gd xs i * gd ys k=P at *
     have HP:=Lib.hid hP
     clear hP
     go_wp2_with fail
     go_roundw
     case rel =>
      have hs:=digit_add 16777216 zs (i+k) ((cy+(gd zs (i+k)+P)) % 16777216) ((cy+(gd zs (i+k)+P)) / 16777216) (cy+P) hlz (by omega)
      have hst:=times_step (g:=0) (s:=0) hv.out (c':=(cy+(gd zs (i+k)+P)) / 16777216) (y:=gd ys k) (Z':=val 16777216 (zs.set (i+k) ((cy+(gd zs (i+k)+P)) % 16777216))) (by rw [HP.out];exact hs)
      rw [← val_take_succ'] at hst
      refine ⟨k+1,(cy+(gd zs (i+k)+P)) / 16777216,zs.set (i+k) ((cy+(gd zs (i+k)+P)) % 16777216),by omega,by omega,by go_num,?_,Lib.hid ?_,Lib.hid (by simp [hz.out]),Lib.hid (hdz.out.set _ _ (Nat.mod_lt _ (by decide))),Lib.hid (fun j hj=>?_),Lib.hid hst,?_⟩
      ·first | rfl | (congr 1;omega)
      ·have hb:=(hB.out.drewN 1).set (i+k) ((cy+(gd zs (i+k)+P)) % 16777216)
       first | exact hb | exact (hB.out.drewN _).set (i+k) ((cy+(gd zs (i+k)+P)) % 16777216)
      ·rw [gd_set_ne _ _ (by omega)];exact H0.out j hj
      ·exact (below_drewN hbl _).setCell (Nat.le_refl _) _
     case measure=>simp [intOf];omega
    ·obtain rfl:k=ys.length:=by omega
     have hlz:i+ys.length<zs.length:=by rw [hz.out];omega
     have hcz:=hB.out.cell hlz
     have hfz:=hB.out.free (i+ys.length)
     go_wp2_with fail
     go_roundw
     case rel =>
      refine ⟨i+1,zs.set (i+ys.length) cy,by omega,by go_num,Lib.hid (hB.out.set _ _),Lib.hid (by simp [hz.out]),Lib.hid (hdz.out.set _ _ hcy),Lib.hid ?_,hbl.setCell (Nat.le_refl _) _⟩
      have h1:=val_set 16777216 zs (i+ys.length) cy hlz
      rw [H0.out _ (Nat.le_refl _)] at h1
      have h2:=hv.out
      rw [take_len_val] at h2
      rw [val_take_succ',Nat.add_mul,Nat.mul_assoc,← h2]
      omega
     case measure=>simp [intOf];omega
  ·obtain rfl:i=xs.length:=by omega
   go_wp2_with (go_at_call 107;refine (Rtrim_any _ _ _ zs _ hz (Lib.hid hB.out.rd) (by omega) (by omega)).mono ?_;rintro e w' ⟨rfl,rfl⟩)
   go_ret
   refine RetD.of_blk hB.out hbl ?_ (by rw [hz.out];exact Nat.le_refl _)
   rw [← digs_val (by decide) hdz.out,hv.out,take_len_val]
theorem Rtimes_any (A B:Option Addr) (c d x y:Nat) (w:World) (hx:RdAt w .i64 A (digs 16777216 x)) (hy:RdAt w .i64 B (digs 16777216 y)) (hl:(digs 16777216 x).length≤1000000000) (hm:(digs 16777216 y).length≤1000000000) :
  Calls Tryz.prog 102 #[.slice A (digs 16777216 x).length c,.slice B (digs 16777216 y).length d] w (RetD .i64 16777216 (x * y) w):=by
 have:=Rtimes_lists A B c d _ _ w hx hy hl hm (digs_Dig (by decide) x) (digs_Dig (by decide) y)
 rwa [val_digs (by decide),val_digs (by decide)] at this

theorem Rdigits_mg (z:Int) (w:World) (hz:Bd 1000000000 z):Calls Tryz.prog 56 #[.string (mg z)] w (RetD .i64 16777216 z.natAbs w):=by
 have h:=Rdigits_any (mg z) w (by have:=hz.size;omega) (by rw [sv_mg,digs3_len];unfold mg;rw [size_magB])
 rwa [sv_mg] at h
theorem RValid_yes (z:Int) (w:World):Calls Tryz.prog 54 #[vI z] w (RetB true w):=by
 have:=RValid_any (sg z) (mg z) w
 rwa [vld_sg] at this
theorem RValid_no (n:Bool) (s:ByteArray) (w:World) (h:vld n s=false):Calls Tryz.prog 54 #[.agg #[.bool n,.string s]] w (RetB false w):=by
 have:=RValid_any n s w
 rwa [h] at this
theorem RInt64_neg (s:ByteArray) (w:World) (h:vld true s=true) (hl:s.size≤8) (hm:0<sv s∧sv s≤9223372036854775808):Calls Tryz.prog 105 #[.agg #[.bool true,.string s]] w (RetNB (-(sv s:Int)) true w):=by
 have h0:=Ob.new w 25 #[.bool true,.string s]
 have b0:Below w.heap.size w (w.alloc (.cells #[.bool true,.string s] 25)):=(Below.refl _ _).alloc (Nat.le_refl _) _
 have hl':¬ (8:Int)<s.size:=by omega
 have HM:=Lib.hid hm
 have HV:=fun W=>Lib.hid (RValid_any true s W)
 rw [h] at HV
 clear hm h
 go_enter Tryz.func105,Tryz.ntmps105
 go_wp2_with fail
 generalize World.alloc w _=W0 at h0 b0 ⊢
 refine (HV W0).out.mono ?_
 rintro e W1 ⟨rfl,hb⟩
 have h1:=h0.below hb h0.lt
 have b1:=b0.trans (hb.mono b0.size)
 clear hb h0 b0 HV
 obtain ⟨x0,x1⟩:=h1.cells2
 go_wp2_with fail
 go_loop [4,5] (fun v4 v5=>∃ k:Nat,k≤s.size∧v5 = .int .i64 k∧v4 = .int .u64 ((be (s.data.toList.take k):Nat):Int)) (fun _ v5=>s.size - (intOf v5).toNat)
 case atStart=>exact ⟨0,Nat.zero_le _,rfl,rfl⟩
 case round =>
  obtain ⟨k,hk,rfl,rfl⟩:=hrel
  rcases Nat.lt_or_ge k s.size with hks | hks
  ·have e1:=be_take s k hks
   have e2:=be_take_lt s k
   have e3:=pow256_7 (k:=k) (by omega)
   have e4:=s[k].toNat_lt
   generalize be (s.data.toList.take k)=V at *
   have e5:V<72057594037927936:=by omega
   have E1:=Lib.hid e1
   clear e1 e2 e3
   have e6:IntKind.u64.wrap ((V:Int) * 256)=(V:Int) * 256:=by rw [u64_wrap];omega
   go_wp2_with fail
   go_round
   case rel=>exact ⟨k+1,by omega,by go_num,by rw [E1.out];exact congrArg (Value.int .u64) (by omega)⟩
   case measure=>simp [intOf];omega
  ·have e1:=be_take_all s k hks
   rw [e1]
   have hm:=HM.out
   clear e1
   generalize sv s=m at *
   have hmI:1≤(m:Int)∧(m:Int)≤9223372036854775808:=by omega
   clear hm
   go_wp2_with fail
   go_ret2
   exact ⟨ret_nb (by omega),b1⟩
theorem RInt64_pos (s:ByteArray) (w:World) (h:vld false s=true) (hl:s.size≤8) (hm:sv s<9223372036854775808):Calls Tryz.prog 105 #[.agg #[.bool false,.string s]] w (RetNB ((sv s:Int)) true w):=by
 have h0:=Ob.new w 25 #[.bool false,.string s]
 have b0:Below w.heap.size w (w.alloc (.cells #[.bool false,.string s] 25)):=(Below.refl _ _).alloc (Nat.le_refl _) _
 have hl':¬ (8:Int)<s.size:=by omega
 have HM:=Lib.hid hm
 have HV:=fun W=>Lib.hid (RValid_any false s W)
 rw [h] at HV
 clear hm h
 go_enter Tryz.func105,Tryz.ntmps105
 go_wp2_with fail
 generalize World.alloc w _=W0 at h0 b0 ⊢
 refine (HV W0).out.mono ?_
 rintro e W1 ⟨rfl,hb⟩
 have h1:=h0.below hb h0.lt
 have b1:=b0.trans (hb.mono b0.size)
 clear hb h0 b0 HV
 obtain ⟨x0,x1⟩:=h1.cells2
 go_wp2_with fail
 go_loop [4,5] (fun v4 v5=>∃ k:Nat,k≤s.size∧v5 = .int .i64 k∧v4 = .int .u64 ((be (s.data.toList.take k):Nat):Int)) (fun _ v5=>s.size - (intOf v5).toNat)
 case atStart=>exact ⟨0,Nat.zero_le _,rfl,rfl⟩
 case round =>
  obtain ⟨k,hk,rfl,rfl⟩:=hrel
  rcases Nat.lt_or_ge k s.size with hks | hks
  ·have e1:=be_take s k hks
   have e2:=be_take_lt s k
   have e3:=pow256_7 (k:=k) (by omega)
   have e4:=s[k].toNat_lt
   generalize be (s.data.toList.take k)=V at *
   have e5:V<72057594037927936:=by omega
   have E1:=Lib.hid e1
   clear e1 e2 e3
   have e6:IntKind.u64.wrap ((V:Int) * 256)=(V:Int) * 256:=by rw [u64_wrap];omega
   go_wp2_with fail
   go_round
   case rel=>exact ⟨k+1,by omega,by go_num,by rw [E1.out];exact congrArg (Value.int .u64) (by omega)⟩
   case measure=>simp [intOf];omega
  ·have e1:=be_take_all s k hks
   rw [e1]
   have hm:=HM.out
   clear e1
   generalize sv s=m at *
   have hmI:0≤(m:Int)∧(m:Int)<9223372036854775808:=by omega
   clear hm
   go_wp2_with fail
   go_ret2
   exact ⟨ret_nb (by first | rfl | (unfold wrap64;omega)),b1⟩
theorem RInt64_small (z:Int) (w:World) (h:(mg z).size≤7):Calls Tryz.prog 105 #[vI z] w (RetNB z true w):=by
 have hv:=vld_sg z
 have hz:=sv_mg z
 have hb:z.natAbs<72057594037927936:=by
  have:=lt_pow_digs (B:=256) (by decide) z.natAbs
  unfold mg at h
  rw [size_magB] at h
  have h2:=pow256_7 h
  omega
 by_cases hn:z<0
 ·have e:sg z=true:=by unfold sg;simpa using hn
  rw [e] at hv
  simp only [vI,e]
  have h1:=RInt64_neg (mg z) w hv (by omega) (by omega)
  rw [hz] at h1
  rwa [show -((z.natAbs:Nat):Int)=z from by omega] at h1
 ·have e:sg z=false:=by unfold sg;simpa using hn
  rw [e] at hv
  simp only [vI,e]
  have h1:=RInt64_pos (mg z) w hv (by omega) (by omega)
  rw [hz] at h1
  rwa [show ((z.natAbs:Nat):Int)=z from by omega] at h1
theorem small_bd {z:Int} (h:(mg z).size≤7):-72057594037927936<z∧z<72057594037927936:=by
 have:=lt_pow_digs (B:=256) (by decide) z.natAbs
 unfold mg at h
 rw [size_magB] at h
 have h2:=pow256_7 h
 omega
theorem Rsmall_yes (z:Int) (w:World) (h:(mg z).size≤7):Calls Tryz.prog 55 #[vI z] w (RetNB z true w):=by
 have H1:=fun W=>Lib.hid (RInt64_small z W h)
 have h':¬ (7:Int)<(mg z).size:=by omega
 go_enter Tryz.func55,Tryz.ntmps55
 go_wp2_with fail
 have t1:=Ob.new (w) 25 #[.bool (sg z),.string (mg z)]
 have bl:=((Below.refl w.heap.size w).alloc (Nat.le_refl _) (.cells #[.bool (sg z),.string (mg z)] 25))
 try simp only [World.size_alloc] at t1
 generalize World.alloc w _=W1 at t1 bl ⊢
 refine ((H1 W1).out).mono ?_
 rintro e W2 ⟨rfl,hb⟩
 have t1:=t1.bl hb
 have bl:=bl.upb hb bl.size
 clear hb
 go_wp2_with fail
 go_ret2
 exact ⟨rfl,bl⟩
theorem Rsmall_no (z:Int) (w:World) (h:7<(mg z).size):Calls Tryz.prog 55 #[vI z] w (RetNB 0 false w):=by
 have h':(7:Int)<(mg z).size:=by omega
 go_enter Tryz.func55,Tryz.ntmps55
 go_wp2_with fail
 have t1:=Ob.new (w) 25 #[.bool (sg z),.string (mg z)]
 have bl:=((Below.refl w.heap.size w).alloc (Nat.le_refl _) (.cells #[.bool (sg z),.string (mg z)] 25))
 try simp only [World.size_alloc] at t1
 generalize World.alloc w _=W1 at t1 bl ⊢
 go_ret2
 exact ⟨rfl,bl⟩
theorem RAdd_small (x y:Int) (w:World) (hx:(mg x).size≤7) (hy:(mg y).size≤7):Calls Tryz.prog 14 #[vI x,vI y] w (RetI (x+y) w):=by
 have H1:=fun W=>Lib.hid (RValid_yes x W)
 have H2:=fun W=>Lib.hid (RValid_yes y W)
 have H3:=fun W=>Lib.hid (Rsmall_yes x W hx)
 have H4:=fun W=>Lib.hid (Rsmall_yes y W hy)
 have b1:=small_bd hx
 have b2:=small_bd hy
 have H5:=fun W=>Lib.hid (ROf_any (x+y) W (by omega) (by omega))
 clear hx hy
 go_enter Tryz.func14,Tryz.ntmps14
 go_wp2_with fail
 have t2:=((Ob.new (w) 25 #[.bool (sg x),.string (mg x)]).alloc (.cells #[.bool (sg y),.string (mg y)] 25)).alloc (.cells #[.bool false,.string ⟨#[]⟩] 25)
 have t3:=(Ob.new ((w.alloc (.cells #[.bool (sg x),.string (mg x)] 25))) 25 #[.bool (sg y),.string (mg y)]).alloc (.cells #[.bool false,.string ⟨#[]⟩] 25)
 have t4:=Ob.new (((w.alloc (.cells #[.bool (sg x),.string (mg x)] 25)).alloc (.cells #[.bool (sg y),.string (mg y)] 25))) 25 #[.bool false,.string ⟨#[]⟩]
 have bl:=((((Below.refl w.heap.size w).alloc (Nat.le_refl _) (.cells #[.bool (sg x),.string (mg x)] 25)).alloc (by simp only [World.size_alloc];omega) (.cells #[.bool (sg y),.string (mg y)] 25)).alloc (by simp only [World.size_alloc];omega) (.cells #[.bool false,.string ⟨#[]⟩] 25))
 try simp only [World.size_alloc] at t2 t3 t4
 generalize World.alloc (World.alloc (World.alloc w _) _) _=W1 at t2 t3 t4 bl ⊢
 refine ((H1 W1).out).mono ?_
 rintro e W2 ⟨rfl,hb⟩
 have t2:=t2.bl hb
 have t3:=t3.bl hb
 have t4:=t4.bl hb
 have bl:=bl.upb hb bl.size
 clear hb
 obtain ⟨c0_0,c0_1⟩:=t3.cells2
 go_wp2_with fail
 clear c0_0 c0_1
 refine ((H2 W2).out).mono ?_
 rintro e W3 ⟨rfl,hb⟩
 have t2:=t2.bl hb
 have t3:=t3.bl hb
 have t4:=t4.bl hb
 have bl:=bl.upb hb bl.size
 clear hb
 obtain ⟨c0_0,c0_1⟩:=t2.cells2
 go_wp2_with fail
 clear c0_0 c0_1
 refine ((H3 W3).out).mono ?_
 rintro e W4 ⟨rfl,hb⟩
 have t2:=t2.bl hb
 have t3:=t3.bl hb
 have t4:=t4.bl hb
 have bl:=bl.upb hb bl.size
 clear hb
 obtain ⟨c0_0,c0_1⟩:=t3.cells2
 go_wp2_with fail
 clear c0_0 c0_1
 refine ((H4 W4).out).mono ?_
 rintro e W5 ⟨rfl,hb⟩
 have t2:=t2.bl hb
 have t3:=t3.bl hb
 have t4:=t4.bl hb
 have bl:=bl.upb hb bl.size
 clear hb
 go_wp2_with fail
 refine ((H5 W5).out).mono ?_
 rintro e W6 ⟨rfl,hb⟩
 have t2:=t2.bl hb
 have t3:=t3.bl hb
 have t4:=t4.bl hb
 have bl:=bl.upb hb bl.size
 clear hb
 try simp only [ptr,Act.put,sIt,sIz,sIs]
 have fr4:=t4.free
 obtain ⟨z4_0,z4_1⟩:=t4.cells2
 go_wp2_with fail
 clear fr4 z4_0 z4_1
 have t2:=t2.far2 (show w.heap.size≠w.heap.size+1+1 by omega) (.bool (sg (x+y))) (.string (mg (x+y)))
 have t3:=t3.far2 (show w.heap.size+1≠w.heap.size+1+1 by omega) (.bool (sg (x+y))) (.string (mg (x+y)))
 have t4:=t4.set2 (.bool (sg (x+y))) (.string (mg (x+y)))
 have bl:=(below_set (below_set bl (show w.heap.size≤w.heap.size+1+1 by omega) 0 (.bool (sg (x+y)))) (show w.heap.size≤w.heap.size+1+1 by omega) 1 (.string (mg (x+y))))
 generalize World.setCell (World.setCell W6 _ _) _ _=W7 at t2 t3 t4 bl ⊢
 obtain ⟨r4_0,r4_1⟩:=t4.cells2
 exact bodyPost_ret (v:=vI (x+y)) (by simp [results,Tryz.results14,go_sem,r4_0,r4_1]) rfl (⟨rfl,bl⟩)
theorem Rsigned_d (A:Option Addr) (c n:Nat) (b:Bool) (w:World) (hx:RdAt w .i64 A (digs 16777216 n)) (hl:(digs 16777216 n).length≤1000000000) :
  Calls Tryz.prog 57 #[.bool b,.slice A (digs 16777216 n).length c] w (RetI (sgnd b n) w) :=
 Rsigned_lists A c n _ b w hx hl (digs_Dig (by decide) n) (val_digs (by decide) n).symm
theorem Rdigs_add {K:Nat} (x y:Int) (hx:Bd K x) (hy:Bd K y) (hK:K+1≤1000000000:=by omega):(digs 16777216 (x.natAbs+y.natAbs)).length≤1000000000:=by
 have h1:Bd K (x.natAbs:Int):=hx.le (by simp)
 have h2:Bd K (y.natAbs:Int):=hy.le (by simp)
 have:=(h1.add h2).digs24
 rw [← Int.natCast_add,Int.natAbs_natCast] at this
 omega
theorem RAdd_same1 (x y:Int) (w:World) (hx:Bd 400000000 x) (hy:Bd 400000000 y) (hs:sg x=sg y) (h7:7<(mg x).size):Calls Tryz.prog 14 #[vI x,vI y] w (RetI (x+y) w):=by
 have H1:=fun W=>Lib.hid (RValid_yes x W)
 have H2:=fun W=>Lib.hid (RValid_yes y W)
 have H3:=fun W=>Lib.hid (Rsmall_no x W h7)
 have HX:=fun W=>Lib.hid (Rdigits_mg x W (hx.mono (by omega)))
 have HY:=fun W=>Lib.hid (Rdigits_mg y W (hy.mono (by omega)))
 have lx:=hx.digs24
 have ly:=hy.digs24
 have hq:(sg x == sg y)=true:=by simpa using hs
 have HL:=Lib.hid (Rdigs_add x y hx hy)
 have HG:∀ (A:Option Addr) c W,RdAt W .i64 A (digs 16777216 (x.natAbs+y.natAbs))→Hid (Calls Tryz.prog 57 #[.bool (sg x),.slice A (digs 16777216 (x.natAbs+y.natAbs)).length c] W (RetI (x+y) W)):=fun A c W h=>Lib.hid (by
  have:=Rsigned_d A c _ (sg x) W h HL.out
  rwa [sgnd_same hs] at this)



 clear hx hy hs h7
 go_enter Tryz.func14,Tryz.ntmps14
 go_wp2_with fail
 have t2:=((Ob.new (w) 25 #[.bool (sg x),.string (mg x)]).alloc (.cells #[.bool (sg y),.string (mg y)] 25)).alloc (.cells #[.bool false,.string ⟨#[]⟩] 25)
 have t3:=(Ob.new ((w.alloc (.cells #[.bool (sg x),.string (mg x)] 25))) 25 #[.bool (sg y),.string (mg y)]).alloc (.cells #[.bool false,.string ⟨#[]⟩] 25)
 have t4:=Ob.new (((w.alloc (.cells #[.bool (sg x),.string (mg x)] 25)).alloc (.cells #[.bool (sg y),.string (mg y)] 25))) 25 #[.bool false,.string ⟨#[]⟩]
 have bl:=((((Below.refl w.heap.size w).alloc (Nat.le_refl _) (.cells #[.bool (sg x),.string (mg x)] 25)).alloc (by simp only [World.size_alloc];omega) (.cells #[.bool (sg y),.string (mg y)] 25)).alloc (by simp only [World.size_alloc];omega) (.cells #[.bool false,.string ⟨#[]⟩] 25))
 try simp only [World.size_alloc] at t2 t3 t4
 generalize World.alloc (World.alloc (World.alloc w _) _) _=W1 at t2 t3 t4 bl ⊢
 refine ((H1 W1).out).mono ?_
 rintro e W2 ⟨rfl,hb⟩
 have t2:=t2.bl hb
 have t3:=t3.bl hb
 have t4:=t4.bl hb
 have bl:=bl.upb hb bl.size
 clear hb
 obtain ⟨c0_0,c0_1⟩:=t3.cells2
 go_wp2_with fail
 clear c0_0 c0_1
 refine ((H2 W2).out).mono ?_
 rintro e W3 ⟨rfl,hb⟩
 have t2:=t2.bl hb
 have t3:=t3.bl hb
 have t4:=t4.bl hb
 have bl:=bl.upb hb bl.size
 clear hb
 obtain ⟨c0_0,c0_1⟩:=t2.cells2
 go_wp2_with fail
 clear c0_0 c0_1
 refine ((H3 W3).out).mono ?_
 rintro e W4 ⟨rfl,hb⟩
 have t2:=t2.bl hb
 have t3:=t3.bl hb
 have t4:=t4.bl hb
 have bl:=bl.upb hb bl.size
 clear hb
 go_wp2_with fail
 have s2:=t2
 have s3:=t3
 refine region_by (CB W4) 6 [(0,true),(1,true),(3,true),(4,true),(2,false),(5,false)] (by kernel_rfl) (by kernel_rfl) (CB.drew0 W4) ?_
 refine wpBy.look _ (.pointer (some ⟨w.heap.size,1,none⟩)) rfl (by kernel_rfl) (by intro w' hC;go_simp) ?_
 try simp only [Act.put,sIt,sIz,sIs]
 refine wpBy.look _ (.string (mg x)) rfl (by kernel_rfl) (by intro w' hC;obtain ⟨q0,q1⟩:=(s2.below hC s2.lt).cells2;go_simp) ?_
 try simp only [Act.put,sIt,sIz,sIs]
 refine wpBy.look _ (.pointer (some ⟨w.heap.size+1,1,none⟩)) rfl (by kernel_rfl) (by intro w' hC;go_simp) ?_
 try simp only [Act.put,sIt,sIz,sIs]
 refine wpBy.look _ (.string (mg y)) rfl (by kernel_rfl) (by intro w' hC;obtain ⟨q0,q1⟩:=(s3.below hC s3.lt).cells2;go_simp) ?_
 try simp only [Act.put,sIt,sIz,sIs]
 refine wpBy.do _ rfl (fun K hK=>?_)
 go_simp
 refine ((HX _).out).mono ?_
 rintro e W5 ⟨A1,c1,rfl,hc1,hr1,hb⟩
 have hb:CB W4 W5:=CB.of_drew hb
 have hS:=hb
 have t2:=t2.bl hb
 have t3:=t3.bl hb
 have t4:=t4.bl hb
 have bl:=bl.upb hb bl.size
 dsimp only
 refine hK.out _ _ hS ?_
 clear hK K hb
 try simp only [Act.put,sIt,sIz,sIs]
 refine wpBy.do _ rfl (fun K hK=>?_)
 go_simp
 refine ((HY W5).out).mono ?_
 rintro e W6 ⟨A2,c2,rfl,hc2,hr2,hb⟩
 have hS:=hS.step hb
 have t2:=t2.bl hb
 have t3:=t3.bl hb
 have t4:=t4.bl hb
 have hr1:=hr1.below hb
 have bl:=bl.upb hb bl.size
 dsimp only
 refine hK.out _ _ hS ?_
 clear hK K hb
 try simp only [Act.put,sIt,sIz,sIs]
 clear hS s2 s3
 simp only [wpBy,List.drop_succ_cons,List.drop_zero]
 go_wp2_with fail
 refine NoPanic.normal ?_
 obtain ⟨c0_0,c0_1⟩:=t2.cells2
 obtain ⟨c1_0,c1_1⟩:=t3.cells2
 go_wp2_with fail
 clear c0_0 c0_1 c1_0 c1_1
 have s2:=t2
 refine region_by (CB W6) 6 [(0,true),(1,true),(2,true),(3,true),(4,false),(5,false)] (by kernel_rfl) (by kernel_rfl) (CB.drew0 W6) ?_
 refine wpBy.look _ (.pointer (some ⟨w.heap.size,0,none⟩)) rfl (by kernel_rfl) (by intro w' hC;go_simp) ?_
 try simp only [Act.put,sIt,sIz,sIs]
 refine wpBy.look _ (.bool (sg x)) rfl (by kernel_rfl) (by intro w' hC;obtain ⟨q0,q1⟩:=(s2.below hC s2.lt).cells2;go_simp) ?_
 try simp only [Act.put,sIt,sIz,sIs]
 refine wpBy.look _ (.slice A1 (digs 16777216 x.natAbs).length c1) rfl (by kernel_rfl) (by intro w' hC;go_simp) ?_
 try simp only [Act.put,sIt,sIz,sIs]
 refine wpBy.look _ (.slice A2 (digs 16777216 y.natAbs).length c2) rfl (by kernel_rfl) (by intro w' hC;go_simp) ?_
 try simp only [Act.put,sIt,sIz,sIs]
 refine wpBy.do _ rfl (fun K hK=>?_)
 go_simp
 refine (Rplus_any A1 A2 c1 c2 x.natAbs y.natAbs _ (hr1.below (CB.drew0 _)) (hr2.below (CB.drew0 _)) (by omega) (by omega) hc1 hc2).mono ?_
 rintro e W7 ⟨A3,c3,rfl,hc3,hr3,hb⟩
 have hb:CB W6 W7:=CB.of_drew hb
 have hS:=hb
 have t2:=t2.bl hb
 have t3:=t3.bl hb
 have t4:=t4.bl hb
 have hr1:=hr1.below hb
 have hr2:=hr2.below hb
 have bl:=bl.upb hb bl.size
 dsimp only
 refine hK.out _ _ hS ?_
 clear hK K hb
 try simp only [Act.put,sIt,sIz,sIs]
 refine wpBy.do _ rfl (fun K hK=>?_)
 go_simp
 refine ((HG A3 c3 W7 hr3).out).mono ?_
 rintro e W8 ⟨rfl,hb⟩
 have hS:=hS.step hb
 have t2:=t2.bl hb
 have t3:=t3.bl hb
 have t4:=t4.bl hb
 have hr1:=hr1.below hb
 have hr2:=hr2.below hb
 have hr3:=hr3.below hb
 have bl:=bl.upb hb bl.size
 dsimp only
 refine hK.out _ _ hS ?_
 clear hK K hb
 try simp only [Act.put,sIt,sIz,sIs]
 clear hS s2
 simp only [wpBy,List.drop_succ_cons,List.drop_zero]
 try simp only [ptr,Act.put,sIt,sIz,sIs]
 have fr4:=t4.free
 obtain ⟨z4_0,z4_1⟩:=t4.cells2
 go_wp2_with fail
 clear fr4 z4_0 z4_1
 have t2:=t2.far2 (show w.heap.size≠w.heap.size+1+1 by omega) (.bool (sg (x+y))) (.string (mg (x+y)))
 have t3:=t3.far2 (show w.heap.size+1≠w.heap.size+1+1 by omega) (.bool (sg (x+y))) (.string (mg (x+y)))
 have t4:=t4.set2 (.bool (sg (x+y))) (.string (mg (x+y)))
 have bl:=(below_set (below_set bl (show w.heap.size≤w.heap.size+1+1 by omega) 0 (.bool (sg (x+y)))) (show w.heap.size≤w.heap.size+1+1 by omega) 1 (.string (mg (x+y))))
 generalize World.setCell (World.setCell W8 _ _) _ _=W9 at t2 t3 t4 bl ⊢
 refine NoPanic.normal ?_
 go_wp2_with fail
 obtain ⟨r4_0,r4_1⟩:=t4.cells2
 exact bodyPost_ret (v:=vI (x+y)) (by simp [results,Tryz.results14,go_sem,r4_0,r4_1]) rfl (⟨rfl,bl⟩)
theorem RAdd_left1 (x y:Int) (w:World) (hx:Bd 400000000 x) (hy:Bd 400000000 y) (hs:sg x≠sg y) (hc:y.natAbs≤x.natAbs) (h7:7<(mg x).size):Calls Tryz.prog 14 #[vI x,vI y] w (RetI (x+y) w):=by
 have H1:=fun W=>Lib.hid (RValid_yes x W)
 have H2:=fun W=>Lib.hid (RValid_yes y W)
 have H3:=fun W=>Lib.hid (Rsmall_no x W h7)
 have HX:=fun W=>Lib.hid (Rdigits_mg x W (hx.mono (by omega)))
 have HY:=fun W=>Lib.hid (Rdigits_mg y W (hy.mono (by omega)))
 have lx:=hx.digs24
 have ly:=hy.digs24
 have hq:(sg x == sg y)=false:=by simpa using hs
 have HL:=Lib.hid (Nat.le_trans (digs_len_mono (by decide) (show x.natAbs - y.natAbs≤x.natAbs+y.natAbs by omega)) (Rdigs_add x y hx hy))
 have HG:∀ (A:Option Addr) c W,RdAt W .i64 A (digs 16777216 (x.natAbs - y.natAbs))→Hid (Calls Tryz.prog 57 #[.bool (sg x),.slice A (digs 16777216 (x.natAbs - y.natAbs)).length c] W (RetI (x+y) W)):=fun A c W h=>Lib.hid (by
  have:=Rsigned_d A c _ (sg x) W h HL.out
  rwa [sgnd_left hs hc] at this)
 have hcv:0≤cmpN x.natAbs y.natAbs:=by unfold cmpN;split <;> (try split) <;> omega
 have HC:=Lib.hid hc
 clear hc
 clear hx hy hs h7
 go_enter Tryz.func14,Tryz.ntmps14
 go_wp2_with fail
 have t2:=((Ob.new (w) 25 #[.bool (sg x),.string (mg x)]).alloc (.cells #[.bool (sg y),.string (mg y)] 25)).alloc (.cells #[.bool false,.string ⟨#[]⟩] 25)
 have t3:=(Ob.new ((w.alloc (.cells #[.bool (sg x),.string (mg x)] 25))) 25 #[.bool (sg y),.string (mg y)]).alloc (.cells #[.bool false,.string ⟨#[]⟩] 25)
 have t4:=Ob.new (((w.alloc (.cells #[.bool (sg x),.string (mg x)] 25)).alloc (.cells #[.bool (sg y),.string (mg y)] 25))) 25 #[.bool false,.string ⟨#[]⟩]
 have bl:=((((Below.refl w.heap.size w).alloc (Nat.le_refl _) (.cells #[.bool (sg x),.string (mg x)] 25)).alloc (by simp only [World.size_alloc];omega) (.cells #[.bool (sg y),.string (mg y)] 25)).alloc (by simp only [World.size_alloc];omega) (.cells #[.bool false,.string ⟨#[]⟩] 25))
 try simp only [World.size_alloc] at t2 t3 t4
 generalize World.alloc (World.alloc (World.alloc w _) _) _=W1 at t2 t3 t4 bl ⊢
 refine ((H1 W1).out).mono ?_
 rintro e W2 ⟨rfl,hb⟩
 have t2:=t2.bl hb
 have t3:=t3.bl hb
 have t4:=t4.bl hb
 have bl:=bl.upb hb bl.size
 clear hb
 obtain ⟨c0_0,c0_1⟩:=t3.cells2
 go_wp2_with fail
 clear c0_0 c0_1
 refine ((H2 W2).out).mono ?_
 rintro e W3 ⟨rfl,hb⟩
 have t2:=t2.bl hb
 have t3:=t3.bl hb
 have t4:=t4.bl hb
 have bl:=bl.upb hb bl.size
 clear hb
 obtain ⟨c0_0,c0_1⟩:=t2.cells2
 go_wp2_with fail
 clear c0_0 c0_1
 refine ((H3 W3).out).mono ?_
 rintro e W4 ⟨rfl,hb⟩
 have t2:=t2.bl hb
 have t3:=t3.bl hb
 have t4:=t4.bl hb
 have bl:=bl.upb hb bl.size
 clear hb
 go_wp2_with fail
 have s2:=t2
 have s3:=t3
 refine region_by (CB W4) 6 [(0,true),(1,true),(3,true),(4,true),(2,false),(5,false)] (by kernel_rfl) (by kernel_rfl) (CB.drew0 W4) ?_
 refine wpBy.look _ (.pointer (some ⟨w.heap.size,1,none⟩)) rfl (by kernel_rfl) (by intro w' hC;go_simp) ?_
 try simp only [Act.put,sIt,sIz,sIs]
 refine wpBy.look _ (.string (mg x)) rfl (by kernel_rfl) (by intro w' hC;obtain ⟨q0,q1⟩:=(s2.below hC s2.lt).cells2;go_simp) ?_
 try simp only [Act.put,sIt,sIz,sIs]
 refine wpBy.look _ (.pointer (some ⟨w.heap.size+1,1,none⟩)) rfl (by kernel_rfl) (by intro w' hC;go_simp) ?_
 try simp only [Act.put,sIt,sIz,sIs]
 refine wpBy.look _ (.string (mg y)) rfl (by kernel_rfl) (by intro w' hC;obtain ⟨q0,q1⟩:=(s3.below hC s3.lt).cells2;go_simp) ?_
 try simp only [Act.put,sIt,sIz,sIs]
 refine wpBy.do _ rfl (fun K hK=>?_)
 go_simp
 refine ((HX _).out).mono ?_
 rintro e W5 ⟨A1,c1,rfl,hc1,hr1,hb⟩
 have hb:CB W4 W5:=CB.of_drew hb
 have hS:=hb
 have t2:=t2.bl hb
 have t3:=t3.bl hb
 have t4:=t4.bl hb
 have bl:=bl.upb hb bl.size
 dsimp only
 refine hK.out _ _ hS ?_
 clear hK K hb
 try simp only [Act.put,sIt,sIz,sIs]
 refine wpBy.do _ rfl (fun K hK=>?_)
 go_simp
 refine ((HY W5).out).mono ?_
 rintro e W6 ⟨A2,c2,rfl,hc2,hr2,hb⟩
 have hS:=hS.step hb
 have t2:=t2.bl hb
 have t3:=t3.bl hb
 have t4:=t4.bl hb
 have hr1:=hr1.below hb
 have bl:=bl.upb hb bl.size
 dsimp only
 refine hK.out _ _ hS ?_
 clear hK K hb
 try simp only [Act.put,sIt,sIz,sIs]
 clear hS s2 s3
 simp only [wpBy,List.drop_succ_cons,List.drop_zero]
 go_wp2_with fail
 refine NoPanic.normal ?_
 obtain ⟨c0_0,c0_1⟩:=t2.cells2
 obtain ⟨c1_0,c1_1⟩:=t3.cells2
 go_wp2_with fail
 clear c0_0 c0_1 c1_0 c1_1
 refine ((Rorder_any A1 A2 c1 c2 x.natAbs y.natAbs W6 hr1 hr2 (by omega) (by omega)).mono (fun e w' h=>RetOrd.below h)).mono ?_
 rintro e W7 ⟨rfl,hb⟩
 have t2:=t2.bl hb
 have t3:=t3.bl hb
 have t4:=t4.bl hb
 have hr1:=hr1.below hb
 have hr2:=hr2.below hb
 have bl:=bl.upb hb bl.size
 clear hb
 go_wp2_with fail
 have s2:=t2
 refine region_by (CB W7) 6 [(0,true),(1,true),(2,true),(3,true),(4,false),(5,false)] (by kernel_rfl) (by kernel_rfl) (CB.drew0 W7) ?_
 refine wpBy.look _ (.pointer (some ⟨w.heap.size,0,none⟩)) rfl (by kernel_rfl) (by intro w' hC;go_simp) ?_
 try simp only [Act.put,sIt,sIz,sIs]
 refine wpBy.look _ (.bool (sg x)) rfl (by kernel_rfl) (by intro w' hC;obtain ⟨q0,q1⟩:=(s2.below hC s2.lt).cells2;go_simp) ?_
 try simp only [Act.put,sIt,sIz,sIs]
 refine wpBy.look _ (.slice A1 (digs 16777216 x.natAbs).length c1) rfl (by kernel_rfl) (by intro w' hC;go_simp) ?_
 try simp only [Act.put,sIt,sIz,sIs]
 refine wpBy.look _ (.slice A2 (digs 16777216 y.natAbs).length c2) rfl (by kernel_rfl) (by intro w' hC;go_simp) ?_
 try simp only [Act.put,sIt,sIz,sIs]
 refine wpBy.do _ rfl (fun K hK=>?_)
 go_simp
 refine (Rminus_any A1 A2 c1 c2 x.natAbs y.natAbs _ (hr1.below (CB.drew0 _)) (hr2.below (CB.drew0 _)) (by omega) HC.out).mono ?_
 rintro e W8 ⟨A3,c3,rfl,hc3,hr3,hb⟩
 have hb:CB W7 W8:=CB.of_drew hb
 have hS:=hb
 have t2:=t2.bl hb
 have t3:=t3.bl hb
 have t4:=t4.bl hb
 have hr1:=hr1.below hb
 have hr2:=hr2.below hb
 have bl:=bl.upb hb bl.size
 dsimp only
 refine hK.out _ _ hS ?_
 clear hK K hb
 try simp only [Act.put,sIt,sIz,sIs]
 refine wpBy.do _ rfl (fun K hK=>?_)
 go_simp
 refine ((HG A3 c3 W8 hr3).out).mono ?_
 rintro e W9 ⟨rfl,hb⟩
 have hS:=hS.step hb
 have t2:=t2.bl hb
 have t3:=t3.bl hb
 have t4:=t4.bl hb
 have hr1:=hr1.below hb
 have hr2:=hr2.below hb
 have hr3:=hr3.below hb
 have bl:=bl.upb hb bl.size
 dsimp only
 refine hK.out _ _ hS ?_
 clear hK K hb
 try simp only [Act.put,sIt,sIz,sIs]
 clear hS s2
 simp only [wpBy,List.drop_succ_cons,List.drop_zero]
 try simp only [ptr,Act.put,sIt,sIz,sIs]
 have fr4:=t4.free
 obtain ⟨z4_0,z4_1⟩:=t4.cells2
 go_wp2_with fail
 clear fr4 z4_0 z4_1
 have t2:=t2.far2 (show w.heap.size≠w.heap.size+1+1 by omega) (.bool (sg (x+y))) (.string (mg (x+y)))
 have t3:=t3.far2 (show w.heap.size+1≠w.heap.size+1+1 by omega) (.bool (sg (x+y))) (.string (mg (x+y)))
 have t4:=t4.set2 (.bool (sg (x+y))) (.string (mg (x+y)))
 have bl:=(below_set (below_set bl (show w.heap.size≤w.heap.size+1+1 by omega) 0 (.bool (sg (x+y)))) (show w.heap.size≤w.heap.size+1+1 by omega) 1 (.string (mg (x+y))))
 generalize World.setCell (World.setCell W9 _ _) _ _=W10 at t2 t3 t4 bl ⊢
 refine NoPanic.normal ?_
 go_wp2_with fail
 obtain ⟨r4_0,r4_1⟩:=t4.cells2
 exact bodyPost_ret (v:=vI (x+y)) (by simp [results,Tryz.results14,go_sem,r4_0,r4_1]) rfl (⟨rfl,bl⟩)
theorem RAdd_right1 (x y:Int) (w:World) (hx:Bd 400000000 x) (hy:Bd 400000000 y) (hs:sg x≠sg y) (hc:x.natAbs<y.natAbs) (h7:7<(mg x).size):Calls Tryz.prog 14 #[vI x,vI y] w (RetI (x+y) w):=by
 have H1:=fun W=>Lib.hid (RValid_yes x W)
 have H2:=fun W=>Lib.hid (RValid_yes y W)
 have H3:=fun W=>Lib.hid (Rsmall_no x W h7)
 have HX:=fun W=>Lib.hid (Rdigits_mg x W (hx.mono (by omega)))
 have HY:=fun W=>Lib.hid (Rdigits_mg y W (hy.mono (by omega)))
 have lx:=hx.digs24
 have ly:=hy.digs24
 have hq:(sg x == sg y)=false:=by simpa using hs
 have HL:=Lib.hid (Nat.le_trans (digs_len_mono (by decide) (show y.natAbs - x.natAbs≤x.natAbs+y.natAbs by omega)) (Rdigs_add x y hx hy))
 have HG:∀ (A:Option Addr) c W,RdAt W .i64 A (digs 16777216 (y.natAbs - x.natAbs))→Hid (Calls Tryz.prog 57 #[.bool (sg y),.slice A (digs 16777216 (y.natAbs - x.natAbs)).length c] W (RetI (x+y) W)):=fun A c W h=>Lib.hid (by
  have:=Rsigned_d A c _ (sg y) W h HL.out
  rwa [sgnd_right hs hc] at this)
 have hcv:¬ 0≤cmpN x.natAbs y.natAbs:=by rw [cmpN_lt hc];omega
 have HC:Hid (x.natAbs≤y.natAbs):=Lib.hid (by omega)
 clear hc
 clear hx hy hs h7
 go_enter Tryz.func14,Tryz.ntmps14
 go_wp2_with fail
 have t2:=((Ob.new (w) 25 #[.bool (sg x),.string (mg x)]).alloc (.cells #[.bool (sg y),.string (mg y)] 25)).alloc (.cells #[.bool false,.string ⟨#[]⟩] 25)
 have t3:=(Ob.new ((w.alloc (.cells #[.bool (sg x),.string (mg x)] 25))) 25 #[.bool (sg y),.string (mg y)]).alloc (.cells #[.bool false,.string ⟨#[]⟩] 25)
 have t4:=Ob.new (((w.alloc (.cells #[.bool (sg x),.string (mg x)] 25)).alloc (.cells #[.bool (sg y),.string (mg y)] 25))) 25 #[.bool false,.string ⟨#[]⟩]
 have bl:=((((Below.refl w.heap.size w).alloc (Nat.le_refl _) (.cells #[.bool (sg x),.string (mg x)] 25)).alloc (by simp only [World.size_alloc];omega) (.cells #[.bool (sg y),.string (mg y)] 25)).alloc (by simp only [World.size_alloc];omega) (.cells #[.bool false,.string ⟨#[]⟩] 25))
 try simp only [World.size_alloc] at t2 t3 t4
 generalize World.alloc (World.alloc (World.alloc w _) _) _=W1 at t2 t3 t4 bl ⊢
 refine ((H1 W1).out).mono ?_
 rintro e W2 ⟨rfl,hb⟩
 have t2:=t2.bl hb
 have t3:=t3.bl hb
 have t4:=t4.bl hb
 have bl:=bl.upb hb bl.size
 clear hb
 obtain ⟨c0_0,c0_1⟩:=t3.cells2
 go_wp2_with fail
 clear c0_0 c0_1
 refine ((H2 W2).out).mono ?_
 rintro e W3 ⟨rfl,hb⟩
 have t2:=t2.bl hb
 have t3:=t3.bl hb
 have t4:=t4.bl hb
 have bl:=bl.upb hb bl.size
 clear hb
 obtain ⟨c0_0,c0_1⟩:=t2.cells2
 go_wp2_with fail
 clear c0_0 c0_1
 refine ((H3 W3).out).mono ?_
 rintro e W4 ⟨rfl,hb⟩
 have t2:=t2.bl hb
 have t3:=t3.bl hb
 have t4:=t4.bl hb
 have bl:=bl.upb hb bl.size
 clear hb
 go_wp2_with fail
 have s2:=t2
 have s3:=t3
 refine region_by (CB W4) 6 [(0,true),(1,true),(3,true),(4,true),(2,false),(5,false)] (by kernel_rfl) (by kernel_rfl) (CB.drew0 W4) ?_
 refine wpBy.look _ (.pointer (some ⟨w.heap.size,1,none⟩)) rfl (by kernel_rfl) (by intro w' hC;go_simp) ?_
 try simp only [Act.put,sIt,sIz,sIs]
 refine wpBy.look _ (.string (mg x)) rfl (by kernel_rfl) (by intro w' hC;obtain ⟨q0,q1⟩:=(s2.below hC s2.lt).cells2;go_simp) ?_
 try simp only [Act.put,sIt,sIz,sIs]
 refine wpBy.look _ (.pointer (some ⟨w.heap.size+1,1,none⟩)) rfl (by kernel_rfl) (by intro w' hC;go_simp) ?_
 try simp only [Act.put,sIt,sIz,sIs]
 refine wpBy.look _ (.string (mg y)) rfl (by kernel_rfl) (by intro w' hC;obtain ⟨q0,q1⟩:=(s3.below hC s3.lt).cells2;go_simp) ?_
 try simp only [Act.put,sIt,sIz,sIs]
 refine wpBy.do _ rfl (fun K hK=>?_)
 go_simp
 refine ((HX _).out).mono ?_
 rintro e W5 ⟨A1,c1,rfl,hc1,hr1,hb⟩
 have hb:CB W4 W5:=CB.of_drew hb
 have hS:=hb
 have t2:=t2.bl hb
 have t3:=t3.bl hb
 have t4:=t4.bl hb
 have bl:=bl.upb hb bl.size
 dsimp only
 refine hK.out _ _ hS ?_
 clear hK K hb
 try simp only [Act.put,sIt,sIz,sIs]
 refine wpBy.do _ rfl (fun K hK=>?_)
 go_simp
 refine ((HY W5).out).mono ?_
 rintro e W6 ⟨A2,c2,rfl,hc2,hr2,hb⟩
 have hS:=hS.step hb
 have t2:=t2.bl hb
 have t3:=t3.bl hb
 have t4:=t4.bl hb
 have hr1:=hr1.below hb
 have bl:=bl.upb hb bl.size
 dsimp only
 refine hK.out _ _ hS ?_
 clear hK K hb
 try simp only [Act.put,sIt,sIz,sIs]
 clear hS s2 s3
 simp only [wpBy,List.drop_succ_cons,List.drop_zero]
 go_wp2_with fail
 refine NoPanic.normal ?_
 obtain ⟨c0_0,c0_1⟩:=t2.cells2
 obtain ⟨c1_0,c1_1⟩:=t3.cells2
 go_wp2_with fail
 clear c0_0 c0_1 c1_0 c1_1
 refine ((Rorder_any A1 A2 c1 c2 x.natAbs y.natAbs W6 hr1 hr2 (by omega) (by omega)).mono (fun e w' h=>RetOrd.below h)).mono ?_
 rintro e W7 ⟨rfl,hb⟩
 have t2:=t2.bl hb
 have t3:=t3.bl hb
 have t4:=t4.bl hb
 have hr1:=hr1.below hb
 have hr2:=hr2.below hb
 have bl:=bl.upb hb bl.size
 clear hb
 go_wp2_with fail
 have s3:=t3
 refine region_by (CB W7) 6 [(0,true),(1,true),(2,true),(3,true),(4,false),(5,false)] (by kernel_rfl) (by kernel_rfl) (CB.drew0 W7) ?_
 refine wpBy.look _ (.pointer (some ⟨w.heap.size+1,0,none⟩)) rfl (by kernel_rfl) (by intro w' hC;go_simp) ?_
 try simp only [Act.put,sIt,sIz,sIs]
 refine wpBy.look _ (.bool (sg y)) rfl (by kernel_rfl) (by intro w' hC;obtain ⟨q0,q1⟩:=(s3.below hC s3.lt).cells2;go_simp) ?_
 try simp only [Act.put,sIt,sIz,sIs]
 refine wpBy.look _ (.slice A2 (digs 16777216 y.natAbs).length c2) rfl (by kernel_rfl) (by intro w' hC;go_simp) ?_
 try simp only [Act.put,sIt,sIz,sIs]
 refine wpBy.look _ (.slice A1 (digs 16777216 x.natAbs).length c1) rfl (by kernel_rfl) (by intro w' hC;go_simp) ?_
 try simp only [Act.put,sIt,sIz,sIs]
 refine wpBy.do _ rfl (fun K hK=>?_)
 go_simp
 refine (Rminus_any A2 A1 c2 c1 y.natAbs x.natAbs _ (hr2.below (CB.drew0 _)) (hr1.below (CB.drew0 _)) (by omega) HC.out).mono ?_
 rintro e W8 ⟨A3,c3,rfl,hc3,hr3,hb⟩
 have hb:CB W7 W8:=CB.of_drew hb
 have hS:=hb
 have t2:=t2.bl hb
 have t3:=t3.bl hb
 have t4:=t4.bl hb
 have hr1:=hr1.below hb
 have hr2:=hr2.below hb
 have bl:=bl.upb hb bl.size
 dsimp only
 refine hK.out _ _ hS ?_
 clear hK K hb
 try simp only [Act.put,sIt,sIz,sIs]
 refine wpBy.do _ rfl (fun K hK=>?_)
 go_simp
 refine ((HG A3 c3 W8 hr3).out).mono ?_
 rintro e W9 ⟨rfl,hb⟩
 have hS:=hS.step hb
 have t2:=t2.bl hb
 have t3:=t3.bl hb
 have t4:=t4.bl hb
 have hr1:=hr1.below hb
 have hr2:=hr2.below hb
 have hr3:=hr3.below hb
 have bl:=bl.upb hb bl.size
 dsimp only
 refine hK.out _ _ hS ?_
 clear hK K hb
 try simp only [Act.put,sIt,sIz,sIs]
 clear hS s3
 simp only [wpBy,List.drop_succ_cons,List.drop_zero]
 try simp only [ptr,Act.put,sIt,sIz,sIs]
 have fr4:=t4.free
 obtain ⟨z4_0,z4_1⟩:=t4.cells2
 go_wp2_with fail
 clear fr4 z4_0 z4_1
 have t2:=t2.far2 (show w.heap.size≠w.heap.size+1+1 by omega) (.bool (sg (x+y))) (.string (mg (x+y)))
 have t3:=t3.far2 (show w.heap.size+1≠w.heap.size+1+1 by omega) (.bool (sg (x+y))) (.string (mg (x+y)))
 have t4:=t4.set2 (.bool (sg (x+y))) (.string (mg (x+y)))
 have bl:=(below_set (below_set bl (show w.heap.size≤w.heap.size+1+1 by omega) 0 (.bool (sg (x+y)))) (show w.heap.size≤w.heap.size+1+1 by omega) 1 (.string (mg (x+y))))
 generalize World.setCell (World.setCell W9 _ _) _ _=W10 at t2 t3 t4 bl ⊢
 refine NoPanic.normal ?_
 go_wp2_with fail
 obtain ⟨r4_0,r4_1⟩:=t4.cells2
 exact bodyPost_ret (v:=vI (x+y)) (by simp [results,Tryz.results14,go_sem,r4_0,r4_1]) rfl (⟨rfl,bl⟩)
theorem RAdd_same2 (x y:Int) (w:World) (hx:Bd 400000000 x) (hy:Bd 400000000 y) (hs:sg x=sg y) (h6:(mg x).size≤7) (h7:7<(mg y).size):Calls Tryz.prog 14 #[vI x,vI y] w (RetI (x+y) w):=by
 have H1:=fun W=>Lib.hid (RValid_yes x W)
 have H2:=fun W=>Lib.hid (RValid_yes y W)
 have H3:=fun W=>Lib.hid (Rsmall_yes x W h6)
 have H4:=fun W=>Lib.hid (Rsmall_no y W h7)
 have HX:=fun W=>Lib.hid (Rdigits_mg x W (hx.mono (by omega)))
 have HY:=fun W=>Lib.hid (Rdigits_mg y W (hy.mono (by omega)))
 have lx:=hx.digs24
 have ly:=hy.digs24
 have hq:(sg x == sg y)=true:=by simpa using hs
 have HL:=Lib.hid (Rdigs_add x y hx hy)
 have HG:∀ (A:Option Addr) c W,RdAt W .i64 A (digs 16777216 (x.natAbs+y.natAbs))→Hid (Calls Tryz.prog 57 #[.bool (sg x),.slice A (digs 16777216 (x.natAbs+y.natAbs)).length c] W (RetI (x+y) W)):=fun A c W h=>Lib.hid (by
  have:=Rsigned_d A c _ (sg x) W h HL.out
  rwa [sgnd_same hs] at this)



 clear hx hy hs h7
 go_enter Tryz.func14,Tryz.ntmps14
 go_wp2_with fail
 have t2:=((Ob.new (w) 25 #[.bool (sg x),.string (mg x)]).alloc (.cells #[.bool (sg y),.string (mg y)] 25)).alloc (.cells #[.bool false,.string ⟨#[]⟩] 25)
 have t3:=(Ob.new ((w.alloc (.cells #[.bool (sg x),.string (mg x)] 25))) 25 #[.bool (sg y),.string (mg y)]).alloc (.cells #[.bool false,.string ⟨#[]⟩] 25)
 have t4:=Ob.new (((w.alloc (.cells #[.bool (sg x),.string (mg x)] 25)).alloc (.cells #[.bool (sg y),.string (mg y)] 25))) 25 #[.bool false,.string ⟨#[]⟩]
 have bl:=((((Below.refl w.heap.size w).alloc (Nat.le_refl _) (.cells #[.bool (sg x),.string (mg x)] 25)).alloc (by simp only [World.size_alloc];omega) (.cells #[.bool (sg y),.string (mg y)] 25)).alloc (by simp only [World.size_alloc];omega) (.cells #[.bool false,.string ⟨#[]⟩] 25))
 try simp only [World.size_alloc] at t2 t3 t4
 generalize World.alloc (World.alloc (World.alloc w _) _) _=W1 at t2 t3 t4 bl ⊢
 refine ((H1 W1).out).mono ?_
 rintro e W2 ⟨rfl,hb⟩
 have t2:=t2.bl hb
 have t3:=t3.bl hb
 have t4:=t4.bl hb
 have bl:=bl.upb hb bl.size
 clear hb
 obtain ⟨c0_0,c0_1⟩:=t3.cells2
 go_wp2_with fail
 clear c0_0 c0_1
 refine ((H2 W2).out).mono ?_
 rintro e W3 ⟨rfl,hb⟩
 have t2:=t2.bl hb
 have t3:=t3.bl hb
 have t4:=t4.bl hb
 have bl:=bl.upb hb bl.size
 clear hb
 obtain ⟨c0_0,c0_1⟩:=t2.cells2
 go_wp2_with fail
 clear c0_0 c0_1
 refine ((H3 W3).out).mono ?_
 rintro e W4 ⟨rfl,hb⟩
 have t2:=t2.bl hb
 have t3:=t3.bl hb
 have t4:=t4.bl hb
 have bl:=bl.upb hb bl.size
 clear hb
 obtain ⟨c0_0,c0_1⟩:=t3.cells2
 go_wp2_with fail
 clear c0_0 c0_1
 refine ((H4 W4).out).mono ?_
 rintro e W5 ⟨rfl,hb⟩
 have t2:=t2.bl hb
 have t3:=t3.bl hb
 have t4:=t4.bl hb
 have bl:=bl.upb hb bl.size
 clear hb
 go_wp2_with fail
 have s2:=t2
 have s3:=t3
 refine region_by (CB W5) 6 [(0,true),(1,true),(3,true),(4,true),(2,false),(5,false)] (by kernel_rfl) (by kernel_rfl) (CB.drew0 W5) ?_
 refine wpBy.look _ (.pointer (some ⟨w.heap.size,1,none⟩)) rfl (by kernel_rfl) (by intro w' hC;go_simp) ?_
 try simp only [Act.put,sIt,sIz,sIs]
 refine wpBy.look _ (.string (mg x)) rfl (by kernel_rfl) (by intro w' hC;obtain ⟨q0,q1⟩:=(s2.below hC s2.lt).cells2;go_simp) ?_
 try simp only [Act.put,sIt,sIz,sIs]
 refine wpBy.look _ (.pointer (some ⟨w.heap.size+1,1,none⟩)) rfl (by kernel_rfl) (by intro w' hC;go_simp) ?_
 try simp only [Act.put,sIt,sIz,sIs]
 refine wpBy.look _ (.string (mg y)) rfl (by kernel_rfl) (by intro w' hC;obtain ⟨q0,q1⟩:=(s3.below hC s3.lt).cells2;go_simp) ?_
 try simp only [Act.put,sIt,sIz,sIs]
 refine wpBy.do _ rfl (fun K hK=>?_)
 go_simp
 refine ((HX _).out).mono ?_
 rintro e W6 ⟨A1,c1,rfl,hc1,hr1,hb⟩
 have hb:CB W5 W6:=CB.of_drew hb
 have hS:=hb
 have t2:=t2.bl hb
 have t3:=t3.bl hb
 have t4:=t4.bl hb
 have bl:=bl.upb hb bl.size
 dsimp only
 refine hK.out _ _ hS ?_
 clear hK K hb
 try simp only [Act.put,sIt,sIz,sIs]
 refine wpBy.do _ rfl (fun K hK=>?_)
 go_simp
 refine ((HY W6).out).mono ?_
 rintro e W7 ⟨A2,c2,rfl,hc2,hr2,hb⟩
 have hS:=hS.step hb
 have t2:=t2.bl hb
 have t3:=t3.bl hb
 have t4:=t4.bl hb
 have hr1:=hr1.below hb
 have bl:=bl.upb hb bl.size
 dsimp only
 refine hK.out _ _ hS ?_
 clear hK K hb
 try simp only [Act.put,sIt,sIz,sIs]
 clear hS s2 s3
 simp only [wpBy,List.drop_succ_cons,List.drop_zero]
 go_wp2_with fail
 refine NoPanic.normal ?_
 obtain ⟨c0_0,c0_1⟩:=t2.cells2
 obtain ⟨c1_0,c1_1⟩:=t3.cells2
 go_wp2_with fail
 clear c0_0 c0_1 c1_0 c1_1
 have s2:=t2
 refine region_by (CB W7) 6 [(0,true),(1,true),(2,true),(3,true),(4,false),(5,false)] (by kernel_rfl) (by kernel_rfl) (CB.drew0 W7) ?_
 refine wpBy.look _ (.pointer (some ⟨w.heap.size,0,none⟩)) rfl (by kernel_rfl) (by intro w' hC;go_simp) ?_
 try simp only [Act.put,sIt,sIz,sIs]
 refine wpBy.look _ (.bool (sg x)) rfl (by kernel_rfl) (by intro w' hC;obtain ⟨q0,q1⟩:=(s2.below hC s2.lt).cells2;go_simp) ?_
 try simp only [Act.put,sIt,sIz,sIs]
 refine wpBy.look _ (.slice A1 (digs 16777216 x.natAbs).length c1) rfl (by kernel_rfl) (by intro w' hC;go_simp) ?_
 try simp only [Act.put,sIt,sIz,sIs]
 refine wpBy.look _ (.slice A2 (digs 16777216 y.natAbs).length c2) rfl (by kernel_rfl) (by intro w' hC;go_simp) ?_
 try simp only [Act.put,sIt,sIz,sIs]
 refine wpBy.do _ rfl (fun K hK=>?_)
 go_simp
 refine (Rplus_any A1 A2 c1 c2 x.natAbs y.natAbs _ (hr1.below (CB.drew0 _)) (hr2.below (CB.drew0 _)) (by omega) (by omega) hc1 hc2).mono ?_
 rintro e W8 ⟨A3,c3,rfl,hc3,hr3,hb⟩
 have hb:CB W7 W8:=CB.of_drew hb
 have hS:=hb
 have t2:=t2.bl hb
 have t3:=t3.bl hb
 have t4:=t4.bl hb
 have hr1:=hr1.below hb
 have hr2:=hr2.below hb
 have bl:=bl.upb hb bl.size
 dsimp only
 refine hK.out _ _ hS ?_
 clear hK K hb
 try simp only [Act.put,sIt,sIz,sIs]
 refine wpBy.do _ rfl (fun K hK=>?_)
 go_simp
 refine ((HG A3 c3 W8 hr3).out).mono ?_
 rintro e W9 ⟨rfl,hb⟩
 have hS:=hS.step hb
 have t2:=t2.bl hb
 have t3:=t3.bl hb
 have t4:=t4.bl hb
 have hr1:=hr1.below hb
 have hr2:=hr2.below hb
 have hr3:=hr3.below hb
 have bl:=bl.upb hb bl.size
 dsimp only
 refine hK.out _ _ hS ?_
 clear hK K hb
 try simp only [Act.put,sIt,sIz,sIs]
 clear hS s2
 simp only [wpBy,List.drop_succ_cons,List.drop_zero]
 try simp only [ptr,Act.put,sIt,sIz,sIs]
 have fr4:=t4.free
 obtain ⟨z4_0,z4_1⟩:=t4.cells2
 go_wp2_with fail
 clear fr4 z4_0 z4_1
 have t2:=t2.far2 (show w.heap.size≠w.heap.size+1+1 by omega) (.bool (sg (x+y))) (.string (mg (x+y)))
 have t3:=t3.far2 (show w.heap.size+1≠w.heap.size+1+1 by omega) (.bool (sg (x+y))) (.string (mg (x+y)))
 have t4:=t4.set2 (.bool (sg (x+y))) (.string (mg (x+y)))
 have bl:=(below_set (below_set bl (show w.heap.size≤w.heap.size+1+1 by omega) 0 (.bool (sg (x+y)))) (show w.heap.size≤w.heap.size+1+1 by omega) 1 (.string (mg (x+y))))
 generalize World.setCell (World.setCell W9 _ _) _ _=W10 at t2 t3 t4 bl ⊢
 refine NoPanic.normal ?_
 go_wp2_with fail
 obtain ⟨r4_0,r4_1⟩:=t4.cells2
 exact bodyPost_ret (v:=vI (x+y)) (by simp [results,Tryz.results14,go_sem,r4_0,r4_1]) rfl (⟨rfl,bl⟩)
theorem RAdd_left2 (x y:Int) (w:World) (hx:Bd 400000000 x) (hy:Bd 400000000 y) (hs:sg x≠sg y) (hc:y.natAbs≤x.natAbs) (h6:(mg x).size≤7) (h7:7<(mg y).size):Calls Tryz.prog 14 #[vI x,vI y] w (RetI (x+y) w):=by
 have H1:=fun W=>Lib.hid (RValid_yes x W)
 have H2:=fun W=>Lib.hid (RValid_yes y W)
 have H3:=fun W=>Lib.hid (Rsmall_yes x W h6)
 have H4:=fun W=>Lib.hid (Rsmall_no y W h7)
 have HX:=fun W=>Lib.hid (Rdigits_mg x W (hx.mono (by omega)))
 have HY:=fun W=>Lib.hid (Rdigits_mg y W (hy.mono (by omega)))
 have lx:=hx.digs24
 have ly:=hy.digs24
 have hq:(sg x == sg y)=false:=by simpa using hs
 have HL:=Lib.hid (Nat.le_trans (digs_len_mono (by decide) (show x.natAbs - y.natAbs≤x.natAbs+y.natAbs by omega)) (Rdigs_add x y hx hy))
 have HG:∀ (A:Option Addr) c W,RdAt W .i64 A (digs 16777216 (x.natAbs - y.natAbs))→Hid (Calls Tryz.prog 57 #[.bool (sg x),.slice A (digs 16777216 (x.natAbs - y.natAbs)).length c] W (RetI (x+y) W)):=fun A c W h=>Lib.hid (by
  have:=Rsigned_d A c _ (sg x) W h HL.out
  rwa [sgnd_left hs hc] at this)
 have hcv:0≤cmpN x.natAbs y.natAbs:=by unfold cmpN;split <;> (try split) <;> omega
 have HC:=Lib.hid hc
 clear hc
 clear hx hy hs h7
 go_enter Tryz.func14,Tryz.ntmps14
 go_wp2_with fail
 have t2:=((Ob.new (w) 25 #[.bool (sg x),.string (mg x)]).alloc (.cells #[.bool (sg y),.string (mg y)] 25)).alloc (.cells #[.bool false,.string ⟨#[]⟩] 25)
 have t3:=(Ob.new ((w.alloc (.cells #[.bool (sg x),.string (mg x)] 25))) 25 #[.bool (sg y),.string (mg y)]).alloc (.cells #[.bool false,.string ⟨#[]⟩] 25)
 have t4:=Ob.new (((w.alloc (.cells #[.bool (sg x),.string (mg x)] 25)).alloc (.cells #[.bool (sg y),.string (mg y)] 25))) 25 #[.bool false,.string ⟨#[]⟩]
 have bl:=((((Below.refl w.heap.size w).alloc (Nat.le_refl _) (.cells #[.bool (sg x),.string (mg x)] 25)).alloc (by simp only [World.size_alloc];omega) (.cells #[.bool (sg y),.string (mg y)] 25)).alloc (by simp only [World.size_alloc];omega) (.cells #[.bool false,.string ⟨#[]⟩] 25))
 try simp only [World.size_alloc] at t2 t3 t4
 generalize World.alloc (World.alloc (World.alloc w _) _) _=W1 at t2 t3 t4 bl ⊢
 refine ((H1 W1).out).mono ?_
 rintro e W2 ⟨rfl,hb⟩
 have t2:=t2.bl hb
 have t3:=t3.bl hb
 have t4:=t4.bl hb
 have bl:=bl.upb hb bl.size
 clear hb
 obtain ⟨c0_0,c0_1⟩:=t3.cells2
 go_wp2_with fail
 clear c0_0 c0_1
 refine ((H2 W2).out).mono ?_
 rintro e W3 ⟨rfl,hb⟩
 have t2:=t2.bl hb
 have t3:=t3.bl hb
 have t4:=t4.bl hb
 have bl:=bl.upb hb bl.size
 clear hb
 obtain ⟨c0_0,c0_1⟩:=t2.cells2
 go_wp2_with fail
 clear c0_0 c0_1
 refine ((H3 W3).out).mono ?_
 rintro e W4 ⟨rfl,hb⟩
 have t2:=t2.bl hb
 have t3:=t3.bl hb
 have t4:=t4.bl hb
 have bl:=bl.upb hb bl.size
 clear hb
 obtain ⟨c0_0,c0_1⟩:=t3.cells2
 go_wp2_with fail
 clear c0_0 c0_1
 refine ((H4 W4).out).mono ?_
 rintro e W5 ⟨rfl,hb⟩
 have t2:=t2.bl hb
 have t3:=t3.bl hb
 have t4:=t4.bl hb
 have bl:=bl.upb hb bl.size
 clear hb
 go_wp2_with fail
 have s2:=t2
 have s3:=t3
 refine region_by (CB W5) 6 [(0,true),(1,true),(3,true),(4,true),(2,false),(5,false)] (by kernel_rfl) (by kernel_rfl) (CB.drew0 W5) ?_
 refine wpBy.look _ (.pointer (some ⟨w.heap.size,1,none⟩)) rfl (by kernel_rfl) (by intro w' hC;go_simp) ?_
 try simp only [Act.put,sIt,sIz,sIs]
 refine wpBy.look _ (.string (mg x)) rfl (by kernel_rfl) (by intro w' hC;obtain ⟨q0,q1⟩:=(s2.below hC s2.lt).cells2;go_simp) ?_
 try simp only [Act.put,sIt,sIz,sIs]
 refine wpBy.look _ (.pointer (some ⟨w.heap.size+1,1,none⟩)) rfl (by kernel_rfl) (by intro w' hC;go_simp) ?_
 try simp only [Act.put,sIt,sIz,sIs]
 refine wpBy.look _ (.string (mg y)) rfl (by kernel_rfl) (by intro w' hC;obtain ⟨q0,q1⟩:=(s3.below hC s3.lt).cells2;go_simp) ?_
 try simp only [Act.put,sIt,sIz,sIs]
 refine wpBy.do _ rfl (fun K hK=>?_)
 go_simp
 refine ((HX _).out).mono ?_
 rintro e W6 ⟨A1,c1,rfl,hc1,hr1,hb⟩
 have hb:CB W5 W6:=CB.of_drew hb
 have hS:=hb
 have t2:=t2.bl hb
 have t3:=t3.bl hb
 have t4:=t4.bl hb
 have bl:=bl.upb hb bl.size
 dsimp only
 refine hK.out _ _ hS ?_
 clear hK K hb
 try simp only [Act.put,sIt,sIz,sIs]
 refine wpBy.do _ rfl (fun K hK=>?_)
 go_simp
 refine ((HY W6).out).mono ?_
 rintro e W7 ⟨A2,c2,rfl,hc2,hr2,hb⟩
 have hS:=hS.step hb
 have t2:=t2.bl hb
 have t3:=t3.bl hb
 have t4:=t4.bl hb
 have hr1:=hr1.below hb
 have bl:=bl.upb hb bl.size
 dsimp only
 refine hK.out _ _ hS ?_
 clear hK K hb
 try simp only [Act.put,sIt,sIz,sIs]
 clear hS s2 s3
 simp only [wpBy,List.drop_succ_cons,List.drop_zero]
 go_wp2_with fail
 refine NoPanic.normal ?_
 obtain ⟨c0_0,c0_1⟩:=t2.cells2
 obtain ⟨c1_0,c1_1⟩:=t3.cells2
 go_wp2_with fail
 clear c0_0 c0_1 c1_0 c1_1
 refine ((Rorder_any A1 A2 c1 c2 x.natAbs y.natAbs W7 hr1 hr2 (by omega) (by omega)).mono (fun e w' h=>RetOrd.below h)).mono ?_
 rintro e W8 ⟨rfl,hb⟩
 have t2:=t2.bl hb
 have t3:=t3.bl hb
 have t4:=t4.bl hb
 have hr1:=hr1.below hb
 have hr2:=hr2.below hb
 have bl:=bl.upb hb bl.size
 clear hb
 go_wp2_with fail
 have s2:=t2
 refine region_by (CB W8) 6 [(0,true),(1,true),(2,true),(3,true),(4,false),(5,false)] (by kernel_rfl) (by kernel_rfl) (CB.drew0 W8) ?_
 refine wpBy.look _ (.pointer (some ⟨w.heap.size,0,none⟩)) rfl (by kernel_rfl) (by intro w' hC;go_simp) ?_
 try simp only [Act.put,sIt,sIz,sIs]
 refine wpBy.look _ (.bool (sg x)) rfl (by kernel_rfl) (by intro w' hC;obtain ⟨q0,q1⟩:=(s2.below hC s2.lt).cells2;go_simp) ?_
 try simp only [Act.put,sIt,sIz,sIs]
 refine wpBy.look _ (.slice A1 (digs 16777216 x.natAbs).length c1) rfl (by kernel_rfl) (by intro w' hC;go_simp) ?_
 try simp only [Act.put,sIt,sIz,sIs]
 refine wpBy.look _ (.slice A2 (digs 16777216 y.natAbs).length c2) rfl (by kernel_rfl) (by intro w' hC;go_simp) ?_
 try simp only [Act.put,sIt,sIz,sIs]
 refine wpBy.do _ rfl (fun K hK=>?_)
 go_simp
 refine (Rminus_any A1 A2 c1 c2 x.natAbs y.natAbs _ (hr1.below (CB.drew0 _)) (hr2.below (CB.drew0 _)) (by omega) HC.out).mono ?_
 rintro e W9 ⟨A3,c3,rfl,hc3,hr3,hb⟩
 have hb:CB W8 W9:=CB.of_drew hb
 have hS:=hb
 have t2:=t2.bl hb
 have t3:=t3.bl hb
 have t4:=t4.bl hb
 have hr1:=hr1.below hb
 have hr2:=hr2.below hb
 have bl:=bl.upb hb bl.size
 dsimp only
 refine hK.out _ _ hS ?_
 clear hK K hb
 try simp only [Act.put,sIt,sIz,sIs]
 refine wpBy.do _ rfl (fun K hK=>?_)
 go_simp
 refine ((HG A3 c3 W9 hr3).out).mono ?_
 rintro e W10 ⟨rfl,hb⟩
 have hS:=hS.step hb
 have t2:=t2.bl hb
 have t3:=t3.bl hb
 have t4:=t4.bl hb
 have hr1:=hr1.below hb
 have hr2:=hr2.below hb
 have hr3:=hr3.below hb
 have bl:=bl.upb hb bl.size
 dsimp only
 refine hK.out _ _ hS ?_
 clear hK K hb
 try simp only [Act.put,sIt,sIz,sIs]
 clear hS s2
 simp only [wpBy,List.drop_succ_cons,List.drop_zero]
 try simp only [ptr,Act.put,sIt,sIz,sIs]
 have fr4:=t4.free
 obtain ⟨z4_0,z4_1⟩:=t4.cells2
 go_wp2_with fail
 clear fr4 z4_0 z4_1
 have t2:=t2.far2 (show w.heap.size≠w.heap.size+1+1 by omega) (.bool (sg (x+y))) (.string (mg (x+y)))
 have t3:=t3.far2 (show w.heap.size+1≠w.heap.size+1+1 by omega) (.bool (sg (x+y))) (.string (mg (x+y)))
 have t4:=t4.set2 (.bool (sg (x+y))) (.string (mg (x+y)))
 have bl:=(below_set (below_set bl (show w.heap.size≤w.heap.size+1+1 by omega) 0 (.bool (sg (x+y)))) (show w.heap.size≤w.heap.size+1+1 by omega) 1 (.string (mg (x+y))))
 generalize World.setCell (World.setCell W10 _ _) _ _=W11 at t2 t3 t4 bl ⊢
 refine NoPanic.normal ?_
 go_wp2_with fail
 obtain ⟨r4_0,r4_1⟩:=t4.cells2
 exact bodyPost_ret (v:=vI (x+y)) (by simp [results,Tryz.results14,go_sem,r4_0,r4_1]) rfl (⟨rfl,bl⟩)
theorem RAdd_right2 (x y:Int) (w:World) (hx:Bd 400000000 x) (hy:Bd 400000000 y) (hs:sg x≠sg y) (hc:x.natAbs<y.natAbs) (h6:(mg x).size≤7) (h7:7<(mg y).size):Calls Tryz.prog 14 #[vI x,vI y] w (RetI (x+y) w):=by
 have H1:=fun W=>Lib.hid (RValid_yes x W)
 have H2:=fun W=>Lib.hid (RValid_yes y W)
 have H3:=fun W=>Lib.hid (Rsmall_yes x W h6)
 have H4:=fun W=>Lib.hid (Rsmall_no y W h7)
 have HX:=fun W=>Lib.hid (Rdigits_mg x W (hx.mono (by omega)))
 have HY:=fun W=>Lib.hid (Rdigits_mg y W (hy.mono (by omega)))
 have lx:=hx.digs24
 have ly:=hy.digs24
 have hq:(sg x == sg y)=false:=by simpa using hs
 have HL:=Lib.hid (Nat.le_trans (digs_len_mono (by decide) (show y.natAbs - x.natAbs≤x.natAbs+y.natAbs by omega)) (Rdigs_add x y hx hy))
 have HG:∀ (A:Option Addr) c W,RdAt W .i64 A (digs 16777216 (y.natAbs - x.natAbs))→Hid (Calls Tryz.prog 57 #[.bool (sg y),.slice A (digs 16777216 (y.natAbs - x.natAbs)).length c] W (RetI (x+y) W)):=fun A c W h=>Lib.hid (by
  have:=Rsigned_d A c _ (sg y) W h HL.out
  rwa [sgnd_right hs hc] at this)
 have hcv:¬ 0≤cmpN x.natAbs y.natAbs:=by rw [cmpN_lt hc];omega
 have HC:Hid (x.natAbs≤y.natAbs):=Lib.hid (by omega)
 clear hc
 clear hx hy hs h7
 go_enter Tryz.func14,Tryz.ntmps14
 go_wp2_with fail
 have t2:=((Ob.new (w) 25 #[.bool (sg x),.string (mg x)]).alloc (.cells #[.bool (sg y),.string (mg y)] 25)).alloc (.cells #[.bool false,.string ⟨#[]⟩] 25)
 have t3:=(Ob.new ((w.alloc (.cells #[.bool (sg x),.string (mg x)] 25))) 25 #[.bool (sg y),.string (mg y)]).alloc (.cells #[.bool false,.string ⟨#[]⟩] 25)
 have t4:=Ob.new (((w.alloc (.cells #[.bool (sg x),.string (mg x)] 25)).alloc (.cells #[.bool (sg y),.string (mg y)] 25))) 25 #[.bool false,.string ⟨#[]⟩]
 have bl:=((((Below.refl w.heap.size w).alloc (Nat.le_refl _) (.cells #[.bool (sg x),.string (mg x)] 25)).alloc (by simp only [World.size_alloc];omega) (.cells #[.bool (sg y),.string (mg y)] 25)).alloc (by simp only [World.size_alloc];omega) (.cells #[.bool false,.string ⟨#[]⟩] 25))
 try simp only [World.size_alloc] at t2 t3 t4
 generalize World.alloc (World.alloc (World.alloc w _) _) _=W1 at t2 t3 t4 bl ⊢
 refine ((H1 W1).out).mono ?_
 rintro e W2 ⟨rfl,hb⟩
 have t2:=t2.bl hb
 have t3:=t3.bl hb
 have t4:=t4.bl hb
 have bl:=bl.upb hb bl.size
 clear hb
 obtain ⟨c0_0,c0_1⟩:=t3.cells2
 go_wp2_with fail
 clear c0_0 c0_1
 refine ((H2 W2).out).mono ?_
 rintro e W3 ⟨rfl,hb⟩
 have t2:=t2.bl hb
 have t3:=t3.bl hb
 have t4:=t4.bl hb
 have bl:=bl.upb hb bl.size
 clear hb
 obtain ⟨c0_0,c0_1⟩:=t2.cells2
 go_wp2_with fail
 clear c0_0 c0_1
 refine ((H3 W3).out).mono ?_
 rintro e W4 ⟨rfl,hb⟩
 have t2:=t2.bl hb
 have t3:=t3.bl hb
 have t4:=t4.bl hb
 have bl:=bl.upb hb bl.size
 clear hb
 obtain ⟨c0_0,c0_1⟩:=t3.cells2
 go_wp2_with fail
 clear c0_0 c0_1
 refine ((H4 W4).out).mono ?_
 rintro e W5 ⟨rfl,hb⟩
 have t2:=t2.bl hb
 have t3:=t3.bl hb
 have t4:=t4.bl hb
 have bl:=bl.upb hb bl.size
 clear hb
 go_wp2_with fail
 have s2:=t2
 have s3:=t3
 refine region_by (CB W5) 6 [(0,true),(1,true),(3,true),(4,true),(2,false),(5,false)] (by kernel_rfl) (by kernel_rfl) (CB.drew0 W5) ?_
 refine wpBy.look _ (.pointer (some ⟨w.heap.size,1,none⟩)) rfl (by kernel_rfl) (by intro w' hC;go_simp) ?_
 try simp only [Act.put,sIt,sIz,sIs]
 refine wpBy.look _ (.string (mg x)) rfl (by kernel_rfl) (by intro w' hC;obtain ⟨q0,q1⟩:=(s2.below hC s2.lt).cells2;go_simp) ?_
 try simp only [Act.put,sIt,sIz,sIs]
 refine wpBy.look _ (.pointer (some ⟨w.heap.size+1,1,none⟩)) rfl (by kernel_rfl) (by intro w' hC;go_simp) ?_
 try simp only [Act.put,sIt,sIz,sIs]
 refine wpBy.look _ (.string (mg y)) rfl (by kernel_rfl) (by intro w' hC;obtain ⟨q0,q1⟩:=(s3.below hC s3.lt).cells2;go_simp) ?_
 try simp only [Act.put,sIt,sIz,sIs]
 refine wpBy.do _ rfl (fun K hK=>?_)
 go_simp
 refine ((HX _).out).mono ?_
 rintro e W6 ⟨A1,c1,rfl,hc1,hr1,hb⟩
 have hb:CB W5 W6:=CB.of_drew hb
 have hS:=hb
 have t2:=t2.bl hb
 have t3:=t3.bl hb
 have t4:=t4.bl hb
 have bl:=bl.upb hb bl.size
 dsimp only
 refine hK.out _ _ hS ?_
 clear hK K hb
 try simp only [Act.put,sIt,sIz,sIs]
 refine wpBy.do _ rfl (fun K hK=>?_)
 go_simp
 refine ((HY W6).out).mono ?_
 rintro e W7 ⟨A2,c2,rfl,hc2,hr2,hb⟩
 have hS:=hS.step hb
 have t2:=t2.bl hb
 have t3:=t3.bl hb
 have t4:=t4.bl hb
 have hr1:=hr1.below hb
 have bl:=bl.upb hb bl.size
 dsimp only
 refine hK.out _ _ hS ?_
 clear hK K hb
 try simp only [Act.put,sIt,sIz,sIs]
 clear hS s2 s3
 simp only [wpBy,List.drop_succ_cons,List.drop_zero]
 go_wp2_with fail
 refine NoPanic.normal ?_
 obtain ⟨c0_0,c0_1⟩:=t2.cells2
 obtain ⟨c1_0,c1_1⟩:=t3.cells2
 go_wp2_with fail
 clear c0_0 c0_1 c1_0 c1_1
 refine ((Rorder_any A1 A2 c1 c2 x.natAbs y.natAbs W7 hr1 hr2 (by omega) (by omega)).mono (fun e w' h=>RetOrd.below h)).mono ?_
 rintro e W8 ⟨rfl,hb⟩
 have t2:=t2.bl hb
 have t3:=t3.bl hb
 have t4:=t4.bl hb
 have hr1:=hr1.below hb
 have hr2:=hr2.below hb
 have bl:=bl.upb hb bl.size
 clear hb
 go_wp2_with fail
 have s3:=t3
 refine region_by (CB W8) 6 [(0,true),(1,true),(2,true),(3,true),(4,false),(5,false)] (by kernel_rfl) (by kernel_rfl) (CB.drew0 W8) ?_
 refine wpBy.look _ (.pointer (some ⟨w.heap.size+1,0,none⟩)) rfl (by kernel_rfl) (by intro w' hC;go_simp) ?_
 try simp only [Act.put,sIt,sIz,sIs]
 refine wpBy.look _ (.bool (sg y)) rfl (by kernel_rfl) (by intro w' hC;obtain ⟨q0,q1⟩:=(s3.below hC s3.lt).cells2;go_simp) ?_
 try simp only [Act.put,sIt,sIz,sIs]
 refine wpBy.look _ (.slice A2 (digs 16777216 y.natAbs).length c2) rfl (by kernel_rfl) (by intro w' hC;go_simp) ?_
 try simp only [Act.put,sIt,sIz,sIs]
 refine wpBy.look _ (.slice A1 (digs 16777216 x.natAbs).length c1) rfl (by kernel_rfl) (by intro w' hC;go_simp) ?_
 try simp only [Act.put,sIt,sIz,sIs]
 refine wpBy.do _ rfl (fun K hK=>?_)
 go_simp
 refine (Rminus_any A2 A1 c2 c1 y.natAbs x.natAbs _ (hr2.below (CB.drew0 _)) (hr1.below (CB.drew0 _)) (by omega) HC.out).mono ?_
 rintro e W9 ⟨A3,c3,rfl,hc3,hr3,hb⟩
 have hb:CB W8 W9:=CB.of_drew hb
 have hS:=hb
 have t2:=t2.bl hb
 have t3:=t3.bl hb
 have t4:=t4.bl hb
 have hr1:=hr1.below hb
 have hr2:=hr2.below hb
 have bl:=bl.upb hb bl.size
 dsimp only
 refine hK.out _ _ hS ?_
 clear hK K hb
 try simp only [Act.put,sIt,sIz,sIs]
 refine wpBy.do _ rfl (fun K hK=>?_)
 go_simp
 refine ((HG A3 c3 W9 hr3).out).mono ?_
 rintro e W10 ⟨rfl,hb⟩
 have hS:=hS.step hb
 have t2:=t2.bl hb
 have t3:=t3.bl hb
 have t4:=t4.bl hb
 have hr1:=hr1.below hb
 have hr2:=hr2.below hb
 have hr3:=hr3.below hb
 have bl:=bl.upb hb bl.size
 dsimp only
 refine hK.out _ _ hS ?_
 clear hK K hb
 try simp only [Act.put,sIt,sIz,sIs]
 clear hS s3
 simp only [wpBy,List.drop_succ_cons,List.drop_zero]
 try simp only [ptr,Act.put,sIt,sIz,sIs]
 have fr4:=t4.free
 obtain ⟨z4_0,z4_1⟩:=t4.cells2
 go_wp2_with fail
 clear fr4 z4_0 z4_1
 have t2:=t2.far2 (show w.heap.size≠w.heap.size+1+1 by omega) (.bool (sg (x+y))) (.string (mg (x+y)))
 have t3:=t3.far2 (show w.heap.size+1≠w.heap.size+1+1 by omega) (.bool (sg (x+y))) (.string (mg (x+y)))
 have t4:=t4.set2 (.bool (sg (x+y))) (.string (mg (x+y)))
 have bl:=(below_set (below_set bl (show w.heap.size≤w.heap.size+1+1 by omega) 0 (.bool (sg (x+y)))) (show w.heap.size≤w.heap.size+1+1 by omega) 1 (.string (mg (x+y))))
 generalize World.setCell (World.setCell W10 _ _) _ _=W11 at t2 t3 t4 bl ⊢
 refine NoPanic.normal ?_
 go_wp2_with fail
 obtain ⟨r4_0,r4_1⟩:=t4.cells2
 exact bodyPost_ret (v:=vI (x+y)) (by simp [results,Tryz.results14,go_sem,r4_0,r4_1]) rfl (⟨rfl,bl⟩)

theorem RAdd_any (x y:Int) (w:World) (hx:Bd 400000000 x) (hy:Bd 400000000 y):Calls Tryz.prog 14 #[vI x,vI y] w (RetI (x+y) w):=by
 by_cases h6:(mg x).size≤7
 ·by_cases h7:(mg y).size≤7
  ·exact RAdd_small x y w h6 h7
  ·by_cases hs:sg x=sg y
   ·exact RAdd_same2 x y w hx hy hs h6 (by omega)
   ·by_cases hc:y.natAbs≤x.natAbs
    ·exact RAdd_left2 x y w hx hy hs hc h6 (by omega)
    ·exact RAdd_right2 x y w hx hy hs (by omega) h6 (by omega)
 ·by_cases hs:sg x=sg y
  ·exact RAdd_same1 x y w hx hy hs (by omega)
  ·by_cases hc:y.natAbs≤x.natAbs
   ·exact RAdd_left1 x y w hx hy hs hc (by omega)
   ·exact RAdd_right1 x y w hx hy hs (by omega) (by omega)
theorem RAbs_bad (n:Bool) (s:ByteArray) (w:World) (h:vld n s=false):Calls Tryz.prog 41 #[.agg #[.bool n,.string s]] w (RetI 0 w):=by
 have H1:=fun W=>Lib.hid (RValid_no n s W h)
 clear h
 go_enter Tryz.func41,Tryz.ntmps41
 go_wp2_with fail
 have t1:=(Ob.new (w) 25 #[.bool n,.string s]).alloc (.cells #[.bool false,.string ⟨#[]⟩] 25)
 have t2:=Ob.new ((w.alloc (.cells #[.bool n,.string s] 25))) 25 #[.bool false,.string ⟨#[]⟩]
 have bl:=(((Below.refl w.heap.size w).alloc (Nat.le_refl _) (.cells #[.bool n,.string s] 25)).alloc (by simp only [World.size_alloc];omega) (.cells #[.bool false,.string ⟨#[]⟩] 25))
 try simp only [World.size_alloc] at t1 t2
 generalize World.alloc (World.alloc w _) _=W1 at t1 t2 bl ⊢
 refine ((H1 W1).out).mono ?_
 rintro e W2 ⟨rfl,hb⟩
 have t1:=t1.bl hb
 have t2:=t2.bl hb
 have bl:=bl.upb hb bl.size
 clear hb
 try simp only [ptr,Act.put,sIt,sIz,sIs]
 have fr2:=t2.free
 obtain ⟨z2_0,z2_1⟩:=t2.cells2
 go_wp2_with fail
 clear fr2 z2_0 z2_1
 have t1:=t1.far2 (show w.heap.size≠w.heap.size+1 by omega) (.bool false) (.string ⟨#[]⟩)
 have t2:=t2.set2 (.bool false) (.string ⟨#[]⟩)
 have bl:=(below_set (below_set bl (show w.heap.size≤w.heap.size+1 by omega) 0 (.bool false)) (show w.heap.size≤w.heap.size+1 by omega) 1 (.string ⟨#[]⟩))
 generalize World.setCell (World.setCell W2 _ _) _ _=W3 at t1 t2 bl ⊢
 obtain ⟨r2_0,r2_1⟩:=t2.cells2
 exact bodyPost_ret (v:=.agg #[.bool false,.string ⟨#[]⟩]) (by simp [results,Tryz.results41,go_sem,r2_0,r2_1]) rfl (RetI.zero bl)
theorem RNeg_zero (w:World):Calls Tryz.prog 103 #[vI 0] w (RetI 0 w):=by
 have H1:=fun W=>Lib.hid (RValid_yes 0 W)
 obtain ⟨e1,e2⟩:=mg_empty (z:=0) rfl
 go_enter Tryz.func103,Tryz.ntmps103
 go_wp2_with fail
 have t1:=(Ob.new (w) 25 #[.bool (sg 0),.string (mg 0)]).alloc (.cells #[.bool false,.string ⟨#[]⟩] 25)
 have t2:=Ob.new ((w.alloc (.cells #[.bool (sg 0),.string (mg 0)] 25))) 25 #[.bool false,.string ⟨#[]⟩]
 have bl:=(((Below.refl w.heap.size w).alloc (Nat.le_refl _) (.cells #[.bool (sg 0),.string (mg 0)] 25)).alloc (by simp only [World.size_alloc];omega) (.cells #[.bool false,.string ⟨#[]⟩] 25))
 try simp only [World.size_alloc] at t1 t2
 generalize World.alloc (World.alloc w _) _=W1 at t1 t2 bl ⊢
 refine ((H1 W1).out).mono ?_
 rintro e W2 ⟨rfl,hb⟩
 have t1:=t1.bl hb
 have t2:=t2.bl hb
 have bl:=bl.upb hb bl.size
 clear hb
 try simp only [ptr,Act.put,sIt,sIz,sIs]
 have fr2:=t2.free
 obtain ⟨z2_0,z2_1⟩:=t2.cells2
 obtain ⟨c0_0,c0_1⟩:=t1.cells2
 go_wp2_with fail
 clear c0_0 c0_1
 clear fr2 z2_0 z2_1
 have t1:=t1.far2 (show w.heap.size≠w.heap.size+1 by omega) (.bool false) (.string ⟨#[]⟩)
 have t2:=t2.set2 (.bool false) (.string ⟨#[]⟩)
 have bl:=(below_set (below_set bl (show w.heap.size≤w.heap.size+1 by omega) 0 (.bool false)) (show w.heap.size≤w.heap.size+1 by omega) 1 (.string ⟨#[]⟩))
 generalize World.setCell (World.setCell W2 _ _) _ _=W3 at t1 t2 bl ⊢
 obtain ⟨r2_0,r2_1⟩:=t2.cells2
 exact bodyPost_ret (v:=.agg #[.bool false,.string ⟨#[]⟩]) (by simp [results,Tryz.results103,go_sem,r2_0,r2_1]) rfl (RetI.zero bl)
theorem RNeg_other (x:Int) (w:World) (h:x≠0):Calls Tryz.prog 103 #[vI x] w (RetI (-x) w):=by
 have H1:=fun W=>Lib.hid (RValid_yes x W)
 obtain ⟨e1,e2⟩:=mg_full h
 have HA:=Lib.hid (sg_neg x h)
 clear h
 go_enter Tryz.func103,Tryz.ntmps103
 go_wp2_with fail
 have t1:=(Ob.new (w) 25 #[.bool (sg x),.string (mg x)]).alloc (.cells #[.bool false,.string ⟨#[]⟩] 25)
 have t2:=Ob.new ((w.alloc (.cells #[.bool (sg x),.string (mg x)] 25))) 25 #[.bool false,.string ⟨#[]⟩]
 have bl:=(((Below.refl w.heap.size w).alloc (Nat.le_refl _) (.cells #[.bool (sg x),.string (mg x)] 25)).alloc (by simp only [World.size_alloc];omega) (.cells #[.bool false,.string ⟨#[]⟩] 25))
 try simp only [World.size_alloc] at t1 t2
 generalize World.alloc (World.alloc w _) _=W1 at t1 t2 bl ⊢
 refine ((H1 W1).out).mono ?_
 rintro e W2 ⟨rfl,hb⟩
 have t1:=t1.bl hb
 have t2:=t2.bl hb
 have bl:=bl.upb hb bl.size
 clear hb
 try simp only [ptr,Act.put,sIt,sIz,sIs]
 have fr2:=t2.free
 obtain ⟨z2_0,z2_1⟩:=t2.cells2
 obtain ⟨c0_0,c0_1⟩:=t1.cells2
 go_wp2_with fail
 clear c0_0 c0_1
 clear fr2 z2_0 z2_1
 have t1:=t1.far2 (show w.heap.size≠w.heap.size+1 by omega) (.bool (!sg x)) (.string (mg x))
 have t2:=t2.set2 (.bool (!sg x)) (.string (mg x))
 have bl:=(below_set (below_set bl (show w.heap.size≤w.heap.size+1 by omega) 0 (.bool (!sg x))) (show w.heap.size≤w.heap.size+1 by omega) 1 (.string (mg x)))
 generalize World.setCell (World.setCell W2 _ _) _ _=W3 at t1 t2 bl ⊢
 obtain ⟨r2_0,r2_1⟩:=t2.cells2
 exact bodyPost_ret (v:=.agg #[.bool (!sg x),.string (mg x)]) (by simp [results,Tryz.results103,go_sem,r2_0,r2_1]) rfl (⟨ret_vI HA.out.symm (mg_neg x).symm,bl⟩)
theorem RNeg_any (x:Int) (w:World):Calls Tryz.prog 103 #[vI x] w (RetI (-x) w):=by
 by_cases h:x=0
 ·subst h;exact RNeg_zero w
 ·exact RNeg_other x w h
theorem RAbs_any (x:Int) (w:World):Calls Tryz.prog 41 #[vI x] w (RetI (x.natAbs:Int) w):=by
 have H1:=fun W=>Lib.hid (RValid_yes x W)
 have HA:=Lib.hid (abs_facts x)
 go_enter Tryz.func41,Tryz.ntmps41
 go_wp2_with fail
 have t1:=(Ob.new (w) 25 #[.bool (sg x),.string (mg x)]).alloc (.cells #[.bool false,.string ⟨#[]⟩] 25)
 have t2:=Ob.new ((w.alloc (.cells #[.bool (sg x),.string (mg x)] 25))) 25 #[.bool false,.string ⟨#[]⟩]
 have bl:=(((Below.refl w.heap.size w).alloc (Nat.le_refl _) (.cells #[.bool (sg x),.string (mg x)] 25)).alloc (by simp only [World.size_alloc];omega) (.cells #[.bool false,.string ⟨#[]⟩] 25))
 try simp only [World.size_alloc] at t1 t2
 generalize World.alloc (World.alloc w _) _=W1 at t1 t2 bl ⊢
 refine ((H1 W1).out).mono ?_
 rintro e W2 ⟨rfl,hb⟩
 have t1:=t1.bl hb
 have t2:=t2.bl hb
 have bl:=bl.upb hb bl.size
 clear hb
 try simp only [ptr,Act.put,sIt,sIz,sIs]
 have fr2:=t2.free
 obtain ⟨z2_0,z2_1⟩:=t2.cells2
 obtain ⟨c0_0,c0_1⟩:=t1.cells2
 go_wp2_with fail
 clear c0_0 c0_1
 clear fr2 z2_0 z2_1
 have t1:=t1.far2 (show w.heap.size≠w.heap.size+1 by omega) (.bool false) (.string (mg x))
 have t2:=t2.set2 (.bool false) (.string (mg x))
 have bl:=(below_set (below_set bl (show w.heap.size≤w.heap.size+1 by omega) 0 (.bool false)) (show w.heap.size≤w.heap.size+1 by omega) 1 (.string (mg x)))
 generalize World.setCell (World.setCell W2 _ _) _ _=W3 at t1 t2 bl ⊢
 obtain ⟨r2_0,r2_1⟩:=t2.cells2
 exact bodyPost_ret (v:=.agg #[.bool false,.string (mg x)]) (by simp [results,Tryz.results41,go_sem,r2_0,r2_1]) rfl (⟨ret_vI HA.out.1.symm HA.out.2.symm,bl⟩)
theorem RSign_zero (s:ByteArray) (w:World) (hv:vld false s=true) (h:s.size=0):Calls Tryz.prog 61 #[.agg #[.bool false,.string s]] w (RetN (0) w):=by
 have H1:∀ W,Hid (Calls Tryz.prog 54 #[.agg #[.bool false,.string s]] W (RetB true W)):=fun W=>Lib.hid (by have:=RValid_any false s W;rwa [hv] at this)
 obtain ⟨e1,e2⟩:=str_empty h
 clear h hv
 go_enter Tryz.func61,Tryz.ntmps61
 go_wp2_with fail
 have t1:=Ob.new (w) 25 #[.bool false,.string s]
 have bl:=((Below.refl w.heap.size w).alloc (Nat.le_refl _) (.cells #[.bool false,.string s] 25))
 try simp only [World.size_alloc] at t1
 generalize World.alloc w _=W1 at t1 bl ⊢
 refine ((H1 W1).out).mono ?_
 rintro e W2 ⟨rfl,hb⟩
 have t1:=t1.bl hb
 have bl:=bl.upb hb bl.size
 clear hb
 obtain ⟨c0_0,c0_1⟩:=t1.cells2
 go_wp2_with fail
 clear c0_0 c0_1
 go_ret
 exact ⟨rfl,bl⟩
theorem RSign_neg (s:ByteArray) (w:World) (hv:vld true s=true) (h:0<s.size):Calls Tryz.prog 61 #[.agg #[.bool true,.string s]] w (RetN (-1) w):=by
 have H1:∀ W,Hid (Calls Tryz.prog 54 #[.agg #[.bool true,.string s]] W (RetB true W)):=fun W=>Lib.hid (by have:=RValid_any true s W;rwa [hv] at this)
 obtain ⟨e1,e2⟩:=str_full h
 clear h hv
 go_enter Tryz.func61,Tryz.ntmps61
 go_wp2_with fail
 have t1:=Ob.new (w) 25 #[.bool true,.string s]
 have bl:=((Below.refl w.heap.size w).alloc (Nat.le_refl _) (.cells #[.bool true,.string s] 25))
 try simp only [World.size_alloc] at t1
 generalize World.alloc w _=W1 at t1 bl ⊢
 refine ((H1 W1).out).mono ?_
 rintro e W2 ⟨rfl,hb⟩
 have t1:=t1.bl hb
 have bl:=bl.upb hb bl.size
 clear hb
 obtain ⟨c0_0,c0_1⟩:=t1.cells2
 go_wp2_with fail
 clear c0_0 c0_1
 go_ret
 exact ⟨rfl,bl⟩
theorem RSign_pos (s:ByteArray) (w:World) (hv:vld false s=true) (h:0<s.size):Calls Tryz.prog 61 #[.agg #[.bool false,.string s]] w (RetN (1) w):=by
 have H1:∀ W,Hid (Calls Tryz.prog 54 #[.agg #[.bool false,.string s]] W (RetB true W)):=fun W=>Lib.hid (by have:=RValid_any false s W;rwa [hv] at this)
 obtain ⟨e1,e2⟩:=str_full h
 clear h hv
 go_enter Tryz.func61,Tryz.ntmps61
 go_wp2_with fail
 have t1:=Ob.new (w) 25 #[.bool false,.string s]
 have bl:=((Below.refl w.heap.size w).alloc (Nat.le_refl _) (.cells #[.bool false,.string s] 25))
 try simp only [World.size_alloc] at t1
 generalize World.alloc w _=W1 at t1 bl ⊢
 refine ((H1 W1).out).mono ?_
 rintro e W2 ⟨rfl,hb⟩
 have t1:=t1.bl hb
 have bl:=bl.upb hb bl.size
 clear hb
 obtain ⟨c0_0,c0_1⟩:=t1.cells2
 go_wp2_with fail
 clear c0_0 c0_1
 go_ret
 exact ⟨rfl,bl⟩
theorem RSign_any (x:Int) (w:World):Calls Tryz.prog 61 #[vI x] w (RetN x.sign w):=by
 have hv:=vld_sg x
 rcases Int.lt_trichotomy x 0 with h | h | h
 ·have e:sg x=true:=by unfold sg;simpa using h
  rw [e] at hv;simp only [vI,e]
  rw [Int.sign_eq_neg_one_of_neg h]
  exact RSign_neg (mg x) w hv (Nat.pos_of_ne_zero fun e=>by have:=(mg_size_zero x).1 e;omega)
 ·subst h
  exact RSign_zero (mg 0) w hv ((mg_size_zero 0).2 rfl)
 ·have e:sg x=false:=by unfold sg;simp;omega
  rw [e] at hv;simp only [vI,e]
  rw [Int.sign_eq_one_of_pos h]
  exact RSign_pos (mg x) w hv (Nat.pos_of_ne_zero fun e=>by have:=(mg_size_zero x).1 e;omega)
theorem RSub_any (x y:Int) (w:World) (hx:Bd 300000000 x) (hy:Bd 300000000 y):Calls Tryz.prog 135 #[vI x,vI y] w (RetI (x - y) w):=by
 have H1:=fun W=>Lib.hid (RValid_yes x W)
 have H2:=fun W=>Lib.hid (RValid_yes y W)
 have H3:=fun W=>Lib.hid (RNeg_any y W)
 have H4:∀ W,Hid (Calls Tryz.prog 14 #[vI x,vI (-y)] W (RetI (x - y) W)):=fun W=>Lib.hid (by rw [Int.sub_eq_add_neg];exact RAdd_any x (-y) W (hx.mono (by omega)) (hy.neg.mono (by omega)))
 clear hx hy
 go_enter Tryz.func135,Tryz.ntmps135
 go_wp2_with fail
 have t2:=((Ob.new (w) 25 #[.bool (sg x),.string (mg x)]).alloc (.cells #[.bool (sg y),.string (mg y)] 25)).alloc (.cells #[.bool false,.string ⟨#[]⟩] 25)
 have t3:=(Ob.new ((w.alloc (.cells #[.bool (sg x),.string (mg x)] 25))) 25 #[.bool (sg y),.string (mg y)]).alloc (.cells #[.bool false,.string ⟨#[]⟩] 25)
 have t4:=Ob.new (((w.alloc (.cells #[.bool (sg x),.string (mg x)] 25)).alloc (.cells #[.bool (sg y),.string (mg y)] 25))) 25 #[.bool false,.string ⟨#[]⟩]
 have bl:=((((Below.refl w.heap.size w).alloc (Nat.le_refl _) (.cells #[.bool (sg x),.string (mg x)] 25)).alloc (by simp only [World.size_alloc];omega) (.cells #[.bool (sg y),.string (mg y)] 25)).alloc (by simp only [World.size_alloc];omega) (.cells #[.bool false,.string ⟨#[]⟩] 25))
 try simp only [World.size_alloc] at t2 t3 t4
 generalize World.alloc (World.alloc (World.alloc w _) _) _=W1 at t2 t3 t4 bl ⊢
 refine ((H1 W1).out).mono ?_
 rintro e W2 ⟨rfl,hb⟩
 have t2:=t2.bl hb
 have t3:=t3.bl hb
 have t4:=t4.bl hb
 have bl:=bl.upb hb bl.size
 clear hb
 obtain ⟨c0_0,c0_1⟩:=t3.cells2
 go_wp2_with fail
 clear c0_0 c0_1
 refine ((H2 W2).out).mono ?_
 rintro e W3 ⟨rfl,hb⟩
 have t2:=t2.bl hb
 have t3:=t3.bl hb
 have t4:=t4.bl hb
 have bl:=bl.upb hb bl.size
 clear hb
 go_wp2_with fail
 have l2:=t2.lt
 have l3:=t3.lt
 have l4:=t4.lt
 have lw:=bl.size
 refine region_bq 4 [] (by kernel_rfl) (by kernel_rfl) ?_ ?_
 focus
  intro i o ob hi ho a
  exact absurd ho (by simp [alOf])
 simp only [List.take_succ_cons,List.take_zero,List.drop_succ_cons,List.drop_zero,List.length_cons,List.length_nil,Nat.zero_add,Nat.reduceAdd]
 refine bq_run (vI x) (by kernel_rfl) (fun w' hC=>by obtain ⟨q0,q1⟩:=(t2.below hC t2.lt).cells2;go_simp) ?_
 simp only [Act.put,sIt,sIz,sIs]
 refine bq_run (vI y) (by kernel_rfl) (fun w' hC=>by obtain ⟨q0,q1⟩:=(t3.below hC t3.lt).cells2;go_simp) ?_
 simp only [Act.put,sIt,sIz,sIs]
 refine bq_call (vI (-y)) 103 #[vI y] (by kernel_rfl) (fun w'=>by go_simp) (fun w' hC=>((H3 w').out).mono (fun e w'' h=>⟨h.1,h.2⟩)) ?_
 simp only [Act.put,sIt,sIz,sIs]
 refine bq_call (vI (x - y)) 14 #[vI x,vI (-y)] (by kernel_rfl) (fun w'=>by go_simp) (fun w' hC=>((H4 w').out).mono (fun e w'' h=>⟨h.1,h.2⟩)) ?_
 simp only [Act.put,sIt,sIz,sIs]
 refine bq_nil ?_
 intro W4 hI
 have hb:=hI.at0
 have t2:=t2.bl hb
 have t3:=t3.bl hb
 have t4:=t4.bl hb
 have bl:=bl.upb hb bl.size
 clear hb hI
 try simp only [ptr,Act.put,sIt,sIz,sIs]
 have fr4:=t4.free
 obtain ⟨z4_0,z4_1⟩:=t4.cells2
 go_wp2_with fail
 clear fr4 z4_0 z4_1
 have t2:=t2.far2 (show w.heap.size≠w.heap.size+1+1 by omega) (.bool (sg (x - y))) (.string (mg (x - y)))
 have t3:=t3.far2 (show w.heap.size+1≠w.heap.size+1+1 by omega) (.bool (sg (x - y))) (.string (mg (x - y)))
 have t4:=t4.set2 (.bool (sg (x - y))) (.string (mg (x - y)))
 have bl:=(below_set (below_set bl (show w.heap.size≤w.heap.size+1+1 by omega) 0 (.bool (sg (x - y)))) (show w.heap.size≤w.heap.size+1+1 by omega) 1 (.string (mg (x - y))))
 generalize World.setCell (World.setCell W4 _ _) _ _=W5 at t2 t3 t4 bl ⊢
 clear l2 l3 l4 lw
 obtain ⟨r4_0,r4_1⟩:=t4.cells2
 exact bodyPost_ret (v:=vI (x - y)) (by simp [results,Tryz.results135,go_sem,r4_0,r4_1]) rfl (⟨rfl,bl⟩)
theorem RCmp_bad1 (n m:Bool) (s t:ByteArray) (w:World) (h:vld n s=false):Calls Tryz.prog 15 #[.agg #[.bool n,.string s],.agg #[.bool m,.string t]] w (RetN 0 w):=by
 have H1:=fun W=>Lib.hid (RValid_no n s W h)
 clear h
 go_enter Tryz.func15,Tryz.ntmps15
 go_wp2_with fail
 have t2:=(Ob.new (w) 25 #[.bool n,.string s]).alloc (.cells #[.bool m,.string t] 25)
 have t3:=Ob.new ((w.alloc (.cells #[.bool n,.string s] 25))) 25 #[.bool m,.string t]
 have bl:=(((Below.refl w.heap.size w).alloc (Nat.le_refl _) (.cells #[.bool n,.string s] 25)).alloc (by simp only [World.size_alloc];omega) (.cells #[.bool m,.string t] 25))
 try simp only [World.size_alloc] at t2 t3
 generalize World.alloc (World.alloc w _) _=W1 at t2 t3 bl ⊢
 refine ((H1 W1).out).mono ?_
 rintro e W2 ⟨rfl,hb⟩
 have t2:=t2.bl hb
 have t3:=t3.bl hb
 have bl:=bl.upb hb bl.size
 clear hb
 go_wp2_with fail
 go_ret
 exact ⟨rfl,bl⟩
theorem RMul_small (x y:Int) (w:World) (h:(mg x).size+(mg y).size≤7):Calls Tryz.prog 52 #[vI x,vI y] w (RetI (x * y) w):=by
 have H1:=fun W=>Lib.hid (RValid_yes x W)
 have H2:=fun W=>Lib.hid (RValid_yes y W)
 have H3:=fun W=>Lib.hid (Rsmall_yes x W (by omega))
 have H4:=fun W=>Lib.hid (Rsmall_yes y W (by omega))
 have hsz:((mg x).size:Int)+((mg y).size:Int)≤7:=by omega
 have hbd:Bd 7 (x * y):=((Bd.of_size x).mul (Bd.of_size y)).mono h
 have hb:-72057594037927936<x * y∧x * y<72057594037927936:=by
  have:=hbd
  unfold Bd at this
  omega
 have H5:=fun W=>Lib.hid (ROf_any (x * y) W (by omega) (by omega))
 clear h hbd
 go_enter Tryz.func52,Tryz.ntmps52
 go_wp2_with fail
 have t2:=((Ob.new (w) 25 #[.bool (sg x),.string (mg x)]).alloc (.cells #[.bool (sg y),.string (mg y)] 25)).alloc (.cells #[.bool false,.string ⟨#[]⟩] 25)
 have t3:=(Ob.new ((w.alloc (.cells #[.bool (sg x),.string (mg x)] 25))) 25 #[.bool (sg y),.string (mg y)]).alloc (.cells #[.bool false,.string ⟨#[]⟩] 25)
 have t4:=Ob.new (((w.alloc (.cells #[.bool (sg x),.string (mg x)] 25)).alloc (.cells #[.bool (sg y),.string (mg y)] 25))) 25 #[.bool false,.string ⟨#[]⟩]
 have bl:=((((Below.refl w.heap.size w).alloc (Nat.le_refl _) (.cells #[.bool (sg x),.string (mg x)] 25)).alloc (by simp only [World.size_alloc];omega) (.cells #[.bool (sg y),.string (mg y)] 25)).alloc (by simp only [World.size_alloc];omega) (.cells #[.bool false,.string ⟨#[]⟩] 25))
 try simp only [World.size_alloc] at t2 t3 t4
 generalize World.alloc (World.alloc (World.alloc w _) _) _=W1 at t2 t3 t4 bl ⊢
 refine ((H1 W1).out).mono ?_
 rintro e W2 ⟨rfl,hb⟩
 have t2:=t2.bl hb
 have t3:=t3.bl hb
 have t4:=t4.bl hb
 have bl:=bl.upb hb bl.size
 clear hb
 obtain ⟨c0_0,c0_1⟩:=t3.cells2
 go_wp2_with fail
 clear c0_0 c0_1
 refine ((H2 W2).out).mono ?_
 rintro e W3 ⟨rfl,hb⟩
 have t2:=t2.bl hb
 have t3:=t3.bl hb
 have t4:=t4.bl hb
 have bl:=bl.upb hb bl.size
 clear hb
 obtain ⟨c0_0,c0_1⟩:=t2.cells2
 obtain ⟨c1_0,c1_1⟩:=t3.cells2
 go_wp2_with fail
 clear c0_0 c0_1 c1_0 c1_1
 refine ((H3 W3).out).mono ?_
 rintro e W4 ⟨rfl,hb⟩
 have t2:=t2.bl hb
 have t3:=t3.bl hb
 have t4:=t4.bl hb
 have bl:=bl.upb hb bl.size
 clear hb
 obtain ⟨c0_0,c0_1⟩:=t3.cells2
 go_wp2_with fail
 clear c0_0 c0_1
 refine ((H4 W4).out).mono ?_
 rintro e W5 ⟨rfl,hb⟩
 have t2:=t2.bl hb
 have t3:=t3.bl hb
 have t4:=t4.bl hb
 have bl:=bl.upb hb bl.size
 clear hb
 go_wp2_with fail
 refine ((H5 W5).out).mono ?_
 rintro e W6 ⟨rfl,hb⟩
 have t2:=t2.bl hb
 have t3:=t3.bl hb
 have t4:=t4.bl hb
 have bl:=bl.upb hb bl.size
 clear hb
 try simp only [ptr,Act.put,sIt,sIz,sIs]
 have fr4:=t4.free
 obtain ⟨z4_0,z4_1⟩:=t4.cells2
 go_wp2_with fail
 clear fr4 z4_0 z4_1
 have t2:=t2.far2 (show w.heap.size≠w.heap.size+1+1 by omega) (.bool (sg (x * y))) (.string (mg (x * y)))
 have t3:=t3.far2 (show w.heap.size+1≠w.heap.size+1+1 by omega) (.bool (sg (x * y))) (.string (mg (x * y)))
 have t4:=t4.set2 (.bool (sg (x * y))) (.string (mg (x * y)))
 have bl:=(below_set (below_set bl (show w.heap.size≤w.heap.size+1+1 by omega) 0 (.bool (sg (x * y)))) (show w.heap.size≤w.heap.size+1+1 by omega) 1 (.string (mg (x * y))))
 generalize World.setCell (World.setCell W6 _ _) _ _=W7 at t2 t3 t4 bl ⊢
 obtain ⟨r4_0,r4_1⟩:=t4.cells2
 exact bodyPost_ret (v:=vI (x * y)) (by simp [results,Tryz.results52,go_sem,r4_0,r4_1]) rfl (⟨rfl,bl⟩)
theorem RMul_big (x y:Int) (w:World) (hx:Bd 400000000 x) (hy:Bd 400000000 y) (h:7<(mg x).size+(mg y).size):Calls Tryz.prog 52 #[vI x,vI y] w (RetI (x * y) w):=by
 have H1:=fun W=>Lib.hid (RValid_yes x W)
 have H2:=fun W=>Lib.hid (RValid_yes y W)
 have HX:=fun W=>Lib.hid (Rdigits_mg x W (hx.mono (by omega)))
 have HY:=fun W=>Lib.hid (Rdigits_mg y W (hy.mono (by omega)))
 have lx:=hx.digs24
 have ly:=hy.digs24
 have lz:=(hx.mul hy).digs24
 rw [Int.natAbs_mul] at lz
 have sx:=hx.size
 have sy:=hy.size
 have HL:Hid ((digs 16777216 (x.natAbs * y.natAbs)).length≤1000000000):=Lib.hid (by omega)
 have HG:∀ (A:Option Addr) c W,RdAt W .i64 A (digs 16777216 (x.natAbs * y.natAbs))→Hid (Calls Tryz.prog 57 #[.bool (!(sg x == sg y)),.slice A (digs 16777216 (x.natAbs * y.natAbs)).length c] W (RetI (x * y) W)):=fun A c W h=>Lib.hid (by
  have:=Rsigned_d A c _ (!(sg x == sg y)) W h HL.out
  rwa [sgnd_mul] at this)
 have hsz:¬ ((mg x).size:Int)+((mg y).size:Int)≤7:=by omega
 clear hx hy h lz
 go_enter Tryz.func52,Tryz.ntmps52
 go_wp2_with fail
 have t2:=((Ob.new (w) 25 #[.bool (sg x),.string (mg x)]).alloc (.cells #[.bool (sg y),.string (mg y)] 25)).alloc (.cells #[.bool false,.string ⟨#[]⟩] 25)
 have t3:=(Ob.new ((w.alloc (.cells #[.bool (sg x),.string (mg x)] 25))) 25 #[.bool (sg y),.string (mg y)]).alloc (.cells #[.bool false,.string ⟨#[]⟩] 25)
 have t4:=Ob.new (((w.alloc (.cells #[.bool (sg x),.string (mg x)] 25)).alloc (.cells #[.bool (sg y),.string (mg y)] 25))) 25 #[.bool false,.string ⟨#[]⟩]
 have bl:=((((Below.refl w.heap.size w).alloc (Nat.le_refl _) (.cells #[.bool (sg x),.string (mg x)] 25)).alloc (by simp only [World.size_alloc];omega) (.cells #[.bool (sg y),.string (mg y)] 25)).alloc (by simp only [World.size_alloc];omega) (.cells #[.bool false,.string ⟨#[]⟩] 25))
 try simp only [World.size_alloc] at t2 t3 t4
 generalize World.alloc (World.alloc (World.alloc w _) _) _=W1 at t2 t3 t4 bl ⊢
 refine ((H1 W1).out).mono ?_
 rintro e W2 ⟨rfl,hb⟩
 have t2:=t2.bl hb
 have t3:=t3.bl hb
 have t4:=t4.bl hb
 have bl:=bl.upb hb bl.size
 clear hb
 obtain ⟨c0_0,c0_1⟩:=t3.cells2
 go_wp2_with fail
 clear c0_0 c0_1
 refine ((H2 W2).out).mono ?_
 rintro e W3 ⟨rfl,hb⟩
 have t2:=t2.bl hb
 have t3:=t3.bl hb
 have t4:=t4.bl hb
 have bl:=bl.upb hb bl.size
 clear hb
 obtain ⟨c0_0,c0_1⟩:=t2.cells2
 obtain ⟨c1_0,c1_1⟩:=t3.cells2
 go_wp2_with fail
 clear c0_0 c0_1 c1_0 c1_1
 have s2:=t2
 have s3:=t3
 refine region_by (CB W3) 13 [(0,true),(1,true),(2,true),(3,true),(4,true),(5,true),(6,true),(8,true),(9,true),(7,false),(10,false),(11,false),(12,false)] (by kernel_rfl) (by kernel_rfl) (CB.drew0 W3) ?_
 refine wpBy.look _ (.pointer (some ⟨w.heap.size,0,none⟩)) rfl (by kernel_rfl) (by intro w' hC;go_simp) ?_
 try simp only [Act.put,sIt,sIz,sIs]
 refine wpBy.look _ (.bool (sg x)) rfl (by kernel_rfl) (by intro w' hC;obtain ⟨q0,q1⟩:=(s2.below hC s2.lt).cells2;go_simp) ?_
 try simp only [Act.put,sIt,sIz,sIs]
 refine wpBy.look _ (.pointer (some ⟨w.heap.size+1,0,none⟩)) rfl (by kernel_rfl) (by intro w' hC;go_simp) ?_
 try simp only [Act.put,sIt,sIz,sIs]
 refine wpBy.look _ (.bool (sg y)) rfl (by kernel_rfl) (by intro w' hC;obtain ⟨q0,q1⟩:=(s3.below hC s3.lt).cells2;go_simp) ?_
 try simp only [Act.put,sIt,sIz,sIs]
 refine wpBy.look _ (.bool (!(sg x == sg y))) rfl (by kernel_rfl) (by intro w' hC;go_simp) ?_
 try simp only [Act.put,sIt,sIz,sIs]
 refine wpBy.look _ (.pointer (some ⟨w.heap.size,1,none⟩)) rfl (by kernel_rfl) (by intro w' hC;go_simp) ?_
 try simp only [Act.put,sIt,sIz,sIs]
 refine wpBy.look _ (.string (mg x)) rfl (by kernel_rfl) (by intro w' hC;obtain ⟨q0,q1⟩:=(s2.below hC s2.lt).cells2;go_simp) ?_
 try simp only [Act.put,sIt,sIz,sIs]
 refine wpBy.look _ (.pointer (some ⟨w.heap.size+1,1,none⟩)) rfl (by kernel_rfl) (by intro w' hC;go_simp) ?_
 try simp only [Act.put,sIt,sIz,sIs]
 refine wpBy.look _ (.string (mg y)) rfl (by kernel_rfl) (by intro w' hC;obtain ⟨q0,q1⟩:=(s3.below hC s3.lt).cells2;go_simp) ?_
 try simp only [Act.put,sIt,sIz,sIs]
 refine wpBy.do _ rfl (fun K hK=>?_)
 go_simp
 refine ((HX _).out).mono ?_
 rintro e W4 ⟨A1,c1,rfl,hc1,hr1,hb⟩
 have hb:CB W3 W4:=CB.of_drew hb
 have hS:=hb
 have t2:=t2.bl hb
 have t3:=t3.bl hb
 have t4:=t4.bl hb
 have bl:=bl.upb hb bl.size
 dsimp only
 refine hK.out _ _ hS ?_
 clear hK K hb
 try simp only [Act.put,sIt,sIz,sIs]
 refine wpBy.do _ rfl (fun K hK=>?_)
 go_simp
 refine ((HY W4).out).mono ?_
 rintro e W5 ⟨A2,c2,rfl,hc2,hr2,hb⟩
 have hS:=hS.step hb
 have t2:=t2.bl hb
 have t3:=t3.bl hb
 have t4:=t4.bl hb
 have hr1:=hr1.below hb
 have bl:=bl.upb hb bl.size
 dsimp only
 refine hK.out _ _ hS ?_
 clear hK K hb
 try simp only [Act.put,sIt,sIz,sIs]
 refine wpBy.do _ rfl (fun K hK=>?_)
 go_simp
 refine (Rtimes_any A1 A2 c1 c2 x.natAbs y.natAbs _ hr1 hr2 (by omega) (by omega)).mono ?_
 rintro e W6 ⟨A3,c3,rfl,hc3,hr3,hb⟩
 have hS:=hS.step hb
 have t2:=t2.bl hb
 have t3:=t3.bl hb
 have t4:=t4.bl hb
 have hr1:=hr1.below hb
 have hr2:=hr2.below hb
 have bl:=bl.upb hb bl.size
 dsimp only
 refine hK.out _ _ hS ?_
 clear hK K hb
 try simp only [Act.put,sIt,sIz,sIs]
 refine wpBy.do _ rfl (fun K hK=>?_)
 go_simp
 refine ((HG A3 c3 W6 hr3).out).mono ?_
 rintro e W7 ⟨rfl,hb⟩
 have hS:=hS.step hb
 have t2:=t2.bl hb
 have t3:=t3.bl hb
 have t4:=t4.bl hb
 have hr1:=hr1.below hb
 have hr2:=hr2.below hb
 have hr3:=hr3.below hb
 have bl:=bl.upb hb bl.size
 dsimp only
 refine hK.out _ _ hS ?_
 clear hK K hb
 try simp only [Act.put,sIt,sIz,sIs]
 clear hS s2 s3
 simp only [wpBy,List.drop_succ_cons,List.drop_zero]
 try simp only [ptr,Act.put,sIt,sIz,sIs]
 have fr4:=t4.free
 obtain ⟨z4_0,z4_1⟩:=t4.cells2
 go_wp2_with fail
 clear fr4 z4_0 z4_1
 have t2:=t2.far2 (show w.heap.size≠w.heap.size+1+1 by omega) (.bool (sg (x * y))) (.string (mg (x * y)))
 have t3:=t3.far2 (show w.heap.size+1≠w.heap.size+1+1 by omega) (.bool (sg (x * y))) (.string (mg (x * y)))
 have t4:=t4.set2 (.bool (sg (x * y))) (.string (mg (x * y)))
 have bl:=(below_set (below_set bl (show w.heap.size≤w.heap.size+1+1 by omega) 0 (.bool (sg (x * y)))) (show w.heap.size≤w.heap.size+1+1 by omega) 1 (.string (mg (x * y))))
 generalize World.setCell (World.setCell W7 _ _) _ _=W8 at t2 t3 t4 bl ⊢
 refine NoPanic.normal ?_
 go_wp2_with fail
 obtain ⟨r4_0,r4_1⟩:=t4.cells2
 exact bodyPost_ret (v:=vI (x * y)) (by simp [results,Tryz.results52,go_sem,r4_0,r4_1]) rfl (⟨rfl,bl⟩)
theorem RMul_any (x y:Int) (w:World) (hx:Bd 400000000 x) (hy:Bd 400000000 y):Calls Tryz.prog 52 #[vI x,vI y] w (RetI (x * y) w):=by
 by_cases h:(mg x).size+(mg y).size≤7
 ·exact RMul_small x y w h
 ·exact RMul_big x y w hx hy (by omega)
end Go.Proofs.YtlhddcingeneaaaGreatDoor
