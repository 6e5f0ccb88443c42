import Derived.Test.YtlhddcingeneaaaGreatDoorPNA
import Derived.Test.YtlhddcingeneaaaGreatDoorPNB
set_option linter.unusedVariables false
set_option linter.unusedSimpArgs false
set_option maxRecDepth 100000
set_option maxHeartbeats 8000000
namespace Go.Proofs.YtlhddcingeneaaaGreatDoor
open Go.RowKit
attribute [local go_sem] wrap_u8_mod
theorem make_u8 (w:World) (n:Int) (h0:0≤n) (hn:n≤10000000000):∃ w1,(Instr.makeSlice 126 (.int .i64 n) (.int .i64 n)).run Tryz.prog w = .ok (.slice (some ⟨w.heap.size,0,none⟩) n.toNat n.toNat) w1∧Blk w1 .u8 5 w.heap.size (List.replicate n.toNat 0)∧Below w.heap.size w w1∧w1.heap.size=w.heap.size+1:=by
 obtain ⟨i,hi,hz,hs,hb⟩:=info_parts info_u8
 exact make_blk w Tryz.underlying126 hi hz hs (by omega) n h0 hn
theorem bytes_string {P:Program} {w:World} {e src dst:TypeId} (b o c:Nat) (l:List Nat) (h:∀ i,i<l.length→w.cell? ⟨b,o+i,none⟩=some (.int .u8 (gd l i:Nat))) (hd:Dig 256 l) (hs:P.underlying src=some (.slice e)) (he:P.underlying e=some (.int .u8)) (hdst:P.underlying dst=some .string) :
  (convert src dst (.slice (some ⟨b,o,none⟩) l.length c)).run P w = .ok (.string ⟨(l.map UInt8.ofNat).toArray⟩) w:=by
 have:=run_convert_bytes_back (P:=P) w src dst e ⟨b,o,none⟩ c (l.map UInt8.ofNat) hs he hdst (fun j hj=>by
  rw [List.length_map] at hj
  have hx:=hd _ (List.getElem_mem hj)
  have hc:=h j hj
  rw [gd_get hj] at hc
  rw [List.getElem_map,UInt8.toNat_ofNat',Nat.mod_eq_of_lt hx]
  have ha:(Addr.mk b o none).add j=⟨b,o+j,none⟩:=by
   unfold Addr.add
   split
   ·rename_i h0;subst h0;rfl
   ·rfl
  rw [ha];exact hc)
 rwa [List.length_map] at this
theorem Rbytes_lists (A:Option Addr) (c:Nat) (xs:List Nat) (w:World) (hx:RdAt w .i64 A xs) (hl:xs.length≤1000000000) (dx:Dig 16777216 xs) :
  Calls Tryz.prog 106 #[.slice A xs.length c] w fun e w'=>e = .returned (.string (magB (val 16777216 xs)))∧Below w.heap.size w w':=by
 obtain ⟨w1,hmk,hbk,HW,hsz⟩:=make_u8 w (3 * (xs.length:Int)) (by omega) (by omega)
 rw [show (3 * (xs.length:Int)).toNat=3 * xs.length from by omega] at hmk hbk
 have HB:=Lib.hid hbk
 have HS:=Lib.hid hsz
 clear hbk hsz
 have HX:=Lib.hid hx
 have HDX:=Lib.hid dx
 clear hx dx
 go_enter Tryz.func106,Tryz.ntmps106
 go_wp2_with fail
 go_loopw [4] (fun v4 wr=>∃ (i:Nat) (zs:List Nat),i≤3 * xs.length∧v4 = .int .i64 i∧Hid (Blk wr .u8 5 w.heap.size zs)∧Hid (zs.length=3 * xs.length)∧Hid (Dig 256 zs)∧Hid (∀ j,j<i→gd zs (3 * xs.length - 1 - j)=by3 xs j)∧Below w.heap.size w wr) (fun v4 _=>3 * xs.length - (intOf v4).toNat)
 case atStart=>exact ⟨0,_,by omega,rfl,HB,Lib.hid (by simp),Lib.hid (Dig.replicate (by decide) _),Lib.hid (fun j hj=>by omega),HW⟩
 case round =>
  obtain ⟨i,zs,hi,rfl,hB,hzl,hdz,hz,hbl⟩:=hrel
  clear HB HS HW hmk
  by_cases hil:i<3 * xs.length
  ·obtain ⟨b,o,rfl,hcl⟩:=HX.out (i / 3) (by omega)
   have hcl':=below_cell hbl hcl (lt_of_cell hcl)
   have hg1:=HDX.out.gd (by decide) (i / 3)
   have hfree:=hB.out.free (3 * xs.length - 1 - i)
   have hcell:=hB.out.cell (i:=3 * xs.length - 1 - i) (by rw [hzl.out];omega)
   clear hcl
   have hv:((gd xs (i / 3):Nat):Int) / 2 ^ (8 * (i % 3)) % 256=((by3 xs i:Nat):Int):=by
    unfold by3
    rw [Int.natCast_emod,Int.natCast_ediv,Int.natCast_pow];rfl
   have HV:=Lib.hid hv
   clear hv
   go_wp2_with fail
   go_roundw
   case rel =>
    refine ⟨i+1,zs.set (3 * xs.length - 1 - i) (by3 xs i),by omega,rfl,Lib.hid ?_,Lib.hid (by simp [hzl.out]),Lib.hid (hdz.out.set _ _ (by3_lt xs i)),Lib.hid (fun j hj=>?_),hbl.setCell (by simp) _⟩
    ·rw [HV.out];exact hB.out.set _ _
    ·by_cases hji:j=i
     ·subst hji;rw [gd_set_eq _ (by rw [hzl.out];omega)]
     ·rw [gd_set_ne _ _ (by omega)];exact hz.out j (by omega)
   case measure=>simp [intOf];omega
  ·have hie:i=3 * xs.length:=by omega
   have hzs:=rev_le3 xs zs hzl.out (fun j hj=>hz.out j (by omega))
   have HZ:=Lib.hid hzs
   have HI:=Lib.hid hie
   clear hzs hz hie
   go_wp2_with fail
   clear hil hi
   go_loopw [3] (fun v3 wr=>∃ p q,p≤3 * xs.length∧(p<3 * xs.length→q=p)∧v3 = .slice (some ⟨w.heap.size,q,none⟩) (3 * xs.length - p) (3 * xs.length - p)∧Hid (∀ i,i<p→gd zs i=0)∧Hid (Blk wr .u8 5 w.heap.size zs)∧Below w.heap.size w wr) (fun v3 _=>lenOf v3)
   case atStart=>exact ⟨0,0,by omega,fun _=>rfl,rfl,Lib.hid (fun i hi=>by omega),hB,hbl⟩
   case round =>
    clear hB hbl
    obtain ⟨p,q,hp,hq,rfl,h0,hB,hbl⟩:=hrel
    have hcv:(p<3 * xs.length→gd zs p≠0)→(convert 126 9 (.slice (some ⟨w.heap.size,q,none⟩) (3 * xs.length - p) (3 * xs.length - p))).run Tryz.prog wr = .ok (.string (magB (val 16777216 xs))) wr:=fun hst=>by
     have h1:=bytes_string (P:=Tryz.prog) (w:=wr) (src:=126) (dst:=9) w.heap.size q (3 * xs.length - p) (zs.drop p) (fun i hi=>by
      rw [List.length_drop,hzl.out] at hi
      rw [hq (by omega),gd_drop]
      exact hB.out.cell (by rw [hzl.out];omega)) (hdz.out.drop p) Tryz.underlying126 Tryz.underlying5 Tryz.underlying9
     rw [List.length_drop,hzl.out] at h1
     have h2:zs.drop p=(digs 256 (val 16777216 xs)).reverse:=by
      rw [← trim_le3 xs HDX.out,← HZ.out,dropWhile_take_zero zs p h0.out (by rw [hzl.out];exact hp)]
      refine (dropWhile_stop _ ?_).symm
      by_cases hpl:p<3 * xs.length
      ·right;rw [gd_drop];exact hst hpl
      ·left;exact List.drop_of_length_le (by rw [hzl.out];omega)
     rw [h1,h2]
     rfl
    by_cases hpl:p<3 * xs.length
    ·obtain rfl:=hq hpl
     have hcell:=hB.out.cell (i:=q) (by rw [hzl.out];omega)
     by_cases hg:gd zs q=0
     ·rw [hg] at hcell
      have HG:=Lib.hid hg
      clear hg hcv hq
      have hnext:Hid (∀ i,i<q+1→gd zs i=0):=Lib.hid (fun i hi=>by
       by_cases h:i=q
       ·rw [h];exact HG.out
       ·exact h0.out i (by omega))
      by_cases h1:3 * xs.length - q=1
      ·go_wp2_with fail
       refine ⟨⟨q+1,q,by omega,fun h=>by omega,by rw [show 3 * xs.length - (q+1)=0 by omega],hnext,hB,hbl⟩,by simp [lenOf];omega⟩
      ·go_wp2_with fail
       go_roundw
       case rel=>exact ⟨q+1,q+1,by omega,fun h=>rfl,by rw [show 3 * xs.length - (q+1)=3 * xs.length - q - 1 by omega],hnext,hB,hbl⟩
       case measure=>simp [lenOf];omega
     ·have hgI:((gd zs q:Nat):Int)≠0:=by omega
      have hc2:=hcv (fun _=>hg)
      clear hcv hq hg
      go_wp2_with fail
      go_ret
      exact ⟨rfl,hbl⟩
    ·obtain rfl:p=3 * xs.length:=by omega
     have hc2:=hcv (fun h=>absurd h hpl)
     rw [Nat.sub_self] at hc2
     clear hcv hq hpl
     go_wp2_with fail
     go_ret
     exact ⟨rfl,hbl⟩

theorem RValid_any (n:Bool) (s:ByteArray) (w:World) :
  Calls Tryz.prog 54 #[.agg #[.bool n,.string s]] w (RetB (vld n s) w):=by
 by_cases h0:s.size=0
 ·obtain ⟨e1,e2⟩:=str_empty h0
  have hv:Hid (vld n s = !n):=by unfold vld;rw [dif_neg (by omega)];exact rfl
  go_enter Tryz.func54,Tryz.ntmps54
  go_wp2
  go_ret
  exact ⟨ret_bool hv.out.symm,(Below.refl _ _).alloc (Nat.le_refl _) _⟩
 ·obtain ⟨e1,e2⟩:=str_full (s:=s) (by omega)
  have hpos:0<s.size:=by omega
  have hv:Hid (vld n s=(s[0] != 0)):=by unfold vld;rw [dif_pos hpos];exact rfl
  go_enter Tryz.func54,Tryz.ntmps54
  go_wp2
  go_ret
  refine ⟨ret_bool ?_,(Below.refl _ _).alloc (Nat.le_refl _) _⟩
  rw [hv.out]
  exact byte_ne _
theorem Rsigned_lists (A:Option Addr) (c n:Nat) (xs:List Nat) (b:Bool) (w:World) (hx:RdAt w .i64 A xs) (hl:xs.length≤1000000000) (dx:Dig 16777216 xs) (hn0:n=val 16777216 xs) :
  Calls Tryz.prog 57 #[.bool b,.slice A xs.length c] w (RetI (sgnd b n) w):=by
 have hx1:=hx.below ((Below.refl _ _).alloc (Nat.le_refl _) (.cells #[.bool false,.string ⟨#[]⟩] 25))
 have HX:=Lib.hid hx1
 have HDX:=Lib.hid dx
 have HBY:=fun W h=>Lib.hid (Rbytes_lists A c xs W h hl dx)
 rw [← hn0] at HBY
 clear hx hx1 dx hn0
 by_cases hn:n=0
 ·have hz:(magB n).size=0:=by rw [size_magB,hn,digs_zero];rfl
  obtain ⟨e1,e2⟩:=str_empty hz
  have HN:=Lib.hid hn
  clear hn hz
  go_enter Tryz.func57,Tryz.ntmps57
  go_wp2_with fail
  refine (HBY _ HX.out).out.mono ?_
  rintro e w' ⟨rfl,hb⟩
  obtain ⟨hc,hf⟩:=bcell hb
  have hz:w.heap.size+1≤w'.heap.size:=by have:=hb.size;simp at this;omega
  have HT:=Lib.hid ((Two.new w 25 (.bool false) (.string ⟨#[]⟩)).below hb (by simp))
  have HB:=Lib.hid (below_alloc1 hb)
  clear hb
  go_wp2_with fail
  all_goals
   obtain ⟨r0,r1⟩:=HT.out.read (.bool false) (.string (magB n))
   exact bodyPost_ret (v:=.agg #[.bool false,.string (magB n)]) (by simp [results,Tryz.results57,go_sem,r0,r1]) rfl ⟨ret_vI (by rw [HN.out,sg_sgnd_zero]) (mg_sgnd _ _).symm,(HB.out.setCell (Nat.le_refl _) _).setCell (Nat.le_refl _) _⟩
 ·have hz:0<(magB n).size:=by
   rw [size_magB]
   have:digs 256 n ≠ []:=fun e=>hn ((digs_nil_iff (B:=256) (by decide) n).1 e)
   exact List.length_pos_iff.2 this
  obtain ⟨e1,e2⟩:=str_full hz
  have HN:=Lib.hid hn
  clear hn hz
  go_enter Tryz.func57,Tryz.ntmps57
  go_wp2_with fail
  refine (HBY _ HX.out).out.mono ?_
  rintro e w' ⟨rfl,hb⟩
  obtain ⟨hc,hf⟩:=bcell hb
  have hz:w.heap.size+1≤w'.heap.size:=by have:=hb.size;simp at this;omega
  have HT:=Lib.hid ((Two.new w 25 (.bool false) (.string ⟨#[]⟩)).below hb (by simp))
  have HB:=Lib.hid (below_alloc1 hb)
  clear hb
  cases b
  ·go_wp2_with fail
   obtain ⟨r0,r1⟩:=HT.out.read (.bool false) (.string (magB n))
   exact bodyPost_ret (v:=.agg #[.bool false,.string (magB n)]) (by simp [results,Tryz.results57,go_sem,r0,r1]) rfl ⟨ret_vI (by rw [sg_sgnd_pos _ HN.out]) (mg_sgnd _ _).symm,(HB.out.setCell (Nat.le_refl _) _).setCell (Nat.le_refl _) _⟩
  ·go_wp2_with fail
   obtain ⟨r0,r1⟩:=HT.out.read (.bool true) (.string (magB n))
   exact bodyPost_ret (v:=.agg #[.bool true,.string (magB n)]) (by simp [results,Tryz.results57,go_sem,r0,r1]) rfl ⟨ret_vI (by rw [sg_sgnd_pos _ HN.out]) (mg_sgnd _ _).symm,(HB.out.setCell (Nat.le_refl _) _).setCell (Nat.le_refl _) _⟩
theorem rd_three (w:World) (k:IntKind) (t:TypeId) (x y z:Nat):RdAt (w.alloc (.cells #[.int k (x:Int),.int k (y:Int),.int k (z:Int)] t)) k (some ⟨w.heap.size,0,none⟩) [x,y,z]:=fun i hi=>by
 have:i=0∨i=1∨i=2:=by simp at hi;omega
 rcases this with rfl | rfl | rfl
 all_goals exact ⟨w.heap.size,0,rfl,by simp [World.cell?_alloc_at,gd]⟩
theorem ROf_neg (m:Nat) (w:World) (hm:m≤9223372036854775808) (hm0:0<m) :
  Calls Tryz.prog 16 #[.int .i64 (-(m:Int))] w (RetI (sgnd true m) w):=by
 have q1:IntKind.u64.wrap (-(m:Int)) = -(m:Int)+18446744073709551616:=by rw [u64_wrap];omega
 have q2:IntKind.u64.wrap (-(-(m:Int)+18446744073709551616))=m:=by rw [u64_wrap];omega
 have hr:=rd_three (w.alloc (.cells #[.bool false,.string ⟨#[]⟩] 25)) .i64 3 (m % 16777216) (m / 16777216 % 16777216) (m / 16777216 / 16777216)
 have hd:Dig 16777216 [m % 16777216,m / 16777216 % 16777216,m / 16777216 / 16777216]:=Dig.cons (Nat.mod_lt _ (by decide)) (Dig.cons (Nat.mod_lt _ (by decide)) (Dig.cons (by omega) (Dig.nil _)))
 have hv:m=val 16777216 [m % 16777216,m / 16777216 % 16777216,m / 16777216 / 16777216]:=by simp only [val];omega
 have HSI:=Lib.hid (Rsigned_lists _ 3 m _ true _ hr (by simp) hd hv)
 rw [show ((m % 16777216:Nat):Int)=(m:Int) % 16777216 from by omega,show ((m / 16777216 % 16777216:Nat):Int)=(m:Int) / 16777216 % 16777216 from by omega,show ((m / 16777216 / 16777216:Nat):Int)=(m:Int) / 16777216 / 16777216 from by omega] at HSI
 rw [show (w.alloc (.cells #[.bool false,.string ⟨#[]⟩] 25)).heap.size=w.heap.size+1 from by simp] at HSI
 clear hr hd hv
 go_enter Tryz.func16,Tryz.ntmps16
 go_wp2_with fail
 refine HSI.out.mono ?_
 rintro e w2 ⟨rfl,hb2⟩
 have hT0:=(Two.new w 25 (.bool false) (.string ⟨#[]⟩)).alloc (.cells #[.int .i64 ((m:Int) % 16777216),.int .i64 ((m:Int) / 16777216 % 16777216),.int .i64 ((m:Int) / 16777216 / 16777216)] 3)
 have HT2:=Lib.hid (hT0.below hb2 (by simp;omega))
 have HB2:=Lib.hid ((((Below.refl w.heap.size w).alloc (Nat.le_refl _) (.cells #[.bool false,.string ⟨#[]⟩] 25)).alloc (by simp) _).trans (hb2.mono (by simp;omega)))
 obtain ⟨f0,f1⟩:=HT2.out.free
 obtain ⟨c0,c1⟩:=HT2.out.cells
 clear hb2 HSI hT0
 go_wp2_with fail
 obtain ⟨r0,r1⟩:=HT2.out.read (.bool (sg (sgnd true m))) (.string (mg (sgnd true m)))
 exact bodyPost_ret (v:=vI (sgnd true m)) (by simp [results,Tryz.results16,go_sem,r0,r1]) rfl ⟨rfl,(HB2.out.setCell (Nat.le_refl _) _).setCell (Nat.le_refl _) _⟩
theorem ROf_pos (m:Nat) (w:World) (hm:m≤9223372036854775808) (hm1:m<9223372036854775808) :
  Calls Tryz.prog 16 #[.int .i64 ((m:Int))] w (RetI (sgnd false m) w):=by
 have q1:IntKind.u64.wrap (m:Int)=m:=by rw [u64_wrap];omega
 have hr:=rd_three (w.alloc (.cells #[.bool false,.string ⟨#[]⟩] 25)) .i64 3 (m % 16777216) (m / 16777216 % 16777216) (m / 16777216 / 16777216)
 have hd:Dig 16777216 [m % 16777216,m / 16777216 % 16777216,m / 16777216 / 16777216]:=Dig.cons (Nat.mod_lt _ (by decide)) (Dig.cons (Nat.mod_lt _ (by decide)) (Dig.cons (by omega) (Dig.nil _)))
 have hv:m=val 16777216 [m % 16777216,m / 16777216 % 16777216,m / 16777216 / 16777216]:=by simp only [val];omega
 have HSI:=Lib.hid (Rsigned_lists _ 3 m _ false _ hr (by simp) hd hv)
 rw [show ((m % 16777216:Nat):Int)=(m:Int) % 16777216 from by omega,show ((m / 16777216 % 16777216:Nat):Int)=(m:Int) / 16777216 % 16777216 from by omega,show ((m / 16777216 / 16777216:Nat):Int)=(m:Int) / 16777216 / 16777216 from by omega] at HSI
 rw [show (w.alloc (.cells #[.bool false,.string ⟨#[]⟩] 25)).heap.size=w.heap.size+1 from by simp] at HSI
 clear hr hd hv
 go_enter Tryz.func16,Tryz.ntmps16
 go_wp2_with fail
 refine HSI.out.mono ?_
 rintro e w2 ⟨rfl,hb2⟩
 have hT0:=(Two.new w 25 (.bool false) (.string ⟨#[]⟩)).alloc (.cells #[.int .i64 ((m:Int) % 16777216),.int .i64 ((m:Int) / 16777216 % 16777216),.int .i64 ((m:Int) / 16777216 / 16777216)] 3)
 have HT2:=Lib.hid (hT0.below hb2 (by simp;omega))
 have HB2:=Lib.hid ((((Below.refl w.heap.size w).alloc (Nat.le_refl _) (.cells #[.bool false,.string ⟨#[]⟩] 25)).alloc (by simp) _).trans (hb2.mono (by simp;omega)))
 obtain ⟨f0,f1⟩:=HT2.out.free
 obtain ⟨c0,c1⟩:=HT2.out.cells
 clear hb2 HSI hT0
 go_wp2_with fail
 obtain ⟨r0,r1⟩:=HT2.out.read (.bool (sg (sgnd false m))) (.string (mg (sgnd false m)))
 exact bodyPost_ret (v:=vI (sgnd false m)) (by simp [results,Tryz.results16,go_sem,r0,r1]) rfl ⟨rfl,(HB2.out.setCell (Nat.le_refl _) _).setCell (Nat.le_refl _) _⟩
theorem ROf_any (n:Int) (w:World) (h0:-9223372036854775808≤n) (h1:n≤9223372036854775807) :
  Calls Tryz.prog 16 #[.int .i64 n] w (RetI n w):=by
 by_cases hn:n<0
 ·obtain ⟨m,rfl⟩:∃ m:Nat,n = -(m:Int):=⟨n.natAbs,by omega⟩
  exact ROf_neg m w (by omega) (by omega)
 ·obtain ⟨m,rfl⟩:∃ m:Nat,n=(m:Int):=⟨n.natAbs,by omega⟩
  exact ROf_pos m w (by omega) (by omega)
end Go.Proofs.YtlhddcingeneaaaGreatDoor
