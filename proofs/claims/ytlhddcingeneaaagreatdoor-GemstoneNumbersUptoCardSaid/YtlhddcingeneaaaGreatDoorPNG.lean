import Derived.Test.YtlhddcingeneaaaGreatDoorPNF
import Derived.Test.YtlhddcingeneaaaGreatDoorPND
set_option linter.unusedVariables false
set_option linter.unusedSimpArgs false
set_option maxRecDepth 100000
set_option maxHeartbeats 8000000
namespace Go.Proofs.YtlhddcingeneaaaGreatDoor
open Go Go.RowKit
theorem Kp.one {ks:List Nat} {a a':Act} (h:Kp ks a a') (t:Nat) (ht:ks.contains t=true):a'.tmps.getD t undef=a.tmps.getD t undef:=h t (by simpa using ht)
theorem St.with {nt:Nat} {l:Env} {ks:List Nat} {a a':Act} (h:St nt l a) (k:Kp ks a a') (hs:a'.tmps.size=nt) (hd:a'.defers = []) (hl:(l.all fun p=>ks.contains p.1)=true):St nt l a' :=
 (St.keep (l':=[]) h ⟨hd,hs,fun p hp=>by cases hp⟩ k hl).reM (fun p hp=>List.mem_map.2 ⟨p,by simpa using hp,rfl⟩)
theorem St.cons {nt t g:Nat} {v:Value} {l:Env} {a:Act} (h:St nt l a) (hv:a.tmps.getD t undef=v):St nt ((t,(v,g)) :: l) a:=⟨h.defers,h.size,fun p hp=>by
 rcases List.mem_cons.1 hp with rfl | hp
 ·exact hv
 ·exact h.has p hp⟩
theorem take3 {j n:Nat} (xs:List Nat):(((xs.drop j).take (n+3)).take (n+2))=(xs.drop j).take (n+2):=by rw [List.take_take,Nat.min_eq_left (by omega)]
theorem Rdiv_zero {a:Act} {w:World} {Q:Exit→Act→World→Prop} (hs:a.tmps.size=dvN) (hd:a.defers = [])
  (hQ:∀ a' w',St dvN [(16,(.int .i64 (-((0:Nat):Int)),0)),(17,(.int .i64 ((0:Nat):Int),0))] a'→Kp (keeps dv1 dvN) a a'→a'.tmps.getD 15 undef=a.tmps.getD 15 undef→Chg [] w w'→Q .normal a' w'):wpL Tryz.prog (cPre 4 dvR1) Q a w:=by
 have hS:St dvN [] a:=⟨hd,hs,fun p hp=>by cases hp⟩
 refine vm_piece (E0:=[]) kr [] dvN (cPre 4 dvR1) kr hS [] [] (VEx.n) [(16,(.int .i64 (-((0:Nat):Int)),0)),(17,(.int .i64 (((0:Nat):Int)),0))] (15 :: keeps dv1 dvN) (hQ:=?_)
 exact fun a' w' hS' hK' hC'=>hQ a' w' hS' (fun t ht=>hK' t (List.mem_cons_of_mem _ ht)) (hK' 15 (by simp)) hC'
theorem Rdiv_round {vb vo n cv ub m cw qb L cq j:Nat} {xs vs qs:List Nat} {a:Act} {w:World} {Q:Exit→Act→World→Prop}
  (hm:j+n+2<m+2) (hml:m≤1000000000) (hxl:m+2≤xs.length) (hvl:vs.length=n+2) (dx:Dig 16777216 xs) (dv:Dig 16777216 vs) (hvg:8388608≤gd vs (n+1)) (hjL:j<L) (hql:qs.length=L)
  (hlt:val 16777216 ((xs.drop j).take (n+3))<16777216 * val 16777216 vs) (h1:vb≠ub) (h2:vb≠qb) (h3:ub≠qb)
  (hV:∀ i,i<n+2→w.cell? ⟨vb,vo+i,none⟩=some (.int .i64 ((gd vs i:Nat):Int))) (hB:Blk w .i64 3 ub xs) (hQB:Blk w .i64 3 qb qs)
  (hS:St dvN [(9,(.slice (some ⟨vb,vo,none⟩) (n+2) cv,0)),(10,(.int .i64 ((n:Int)+2),0)),(11,(.slice (some ⟨ub,0,none⟩) (m+2) cw,0)),(12,(.slice (some ⟨qb,0,none⟩) L cq,0)),(13,(.int .i64 (j:Int),0))] a)
  (hQ:∀ (zs:List Nat) a' w',zs.length=xs.length→Dig 16777216 zs→zs.take j=xs.take j→zs.drop (j+(n+3))=xs.drop (j+(n+3)) →
   val 16777216 ((zs.drop j).take (n+3))=val 16777216 ((xs.drop j).take (n+3)) % val 16777216 vs→Blk w' .i64 3 ub zs→Blk w' .i64 3 qb (qs.set j (val 16777216 ((xs.drop j).take (n+3)) / val 16777216 vs)) →
   a'.tmps.size=dvN→a'.defers = []→Kp (keeps dv1 dvN) a a'→Chg [ub,qb] w w'→Q .normal a' w'):dv1.wp Tryz.prog Q a w:=by
 obtain ⟨us,hus⟩:∃ us,us=(xs.drop j).take (n+3):=⟨_,rfl⟩
 rw [← hus] at hlt hQ
 have hul:us.length=n+3:=by rw [hus,List.length_take,List.length_drop];omega
 have du:Dig 16777216 us:=by rw [hus];exact (dx.drop j).take _
 have hgu:∀ i,i<n+3→gd us i=gd xs (j+i):=fun i hi=>by rw [hus,gd_take hi,gd_drop]
 obtain ⟨f1,f2,f3,f4⟩:=facts24 n hul hvl du dv hvg hlt
 obtain ⟨top,htop⟩:∃ top,top=gd us (n+2) * 16777216+gd us (n+1):=⟨_,rfl⟩
 rw [← htop] at f2 f3 f4
 have gu0:=du.gd (by decide) n
 have gu1:=du.gd (by decide) (n+1)
 have gu2:=du.gd (by decide) (n+2)
 have gv1:=dv.gd (by decide) (n+1)
 have gv0:=dv.gd (by decide) n
 have hVp:0<val 16777216 vs:=by
  rcases Nat.eq_zero_or_pos (val 16777216 vs) with h | h
  ·rw [h] at hlt;omega
  ·exact h
 refine wp_blk 1 kr (wp_cut 2 kr ?_)
 have e2:cAt 2 (cI dv1)=dv2:=by kernel_rfl
 have eP2:cPost 2 (cI dv1) = [dvR1]:=by kernel_rfl
 have e4:cAt 4 dvR1=dv4:=by kernel_rfl
 have eP4:cPost 4 dvR1 = [dvR2]:=by kernel_rfl
 have e6:cAt 6 (cT dvK)=dv6:=by kernel_rfl
 refine Rdiv_top (cv:=cv) (cw:=cw) (top:=top) hm hml hxl hvl dx dv (by omega) (by rw [htop,hgu _ (by omega),hgu _ (by omega)]) hV hB (hS.sub (by simp)) (fun a1 w1 hS1 hK1 hC1=>?_)
 have hSa:=hS.with hK1 hS1.size hS1.defers kr
 show (cAt 2 (cI dv1)).wp _ _ _ _
 rw [e2]
 refine Rdiv_guess (a:=a1) (w:=w1) (cv:=cv) (cw:=cw) (u0:=gd us n) (v0:=gd vs n) hm hml (by omega) gv1 gv0 gu0 (hC1.cell0 (hV (n+1) (by omega))) (hC1.cell0 (hV n (by omega))) (hC1.cell0 (by rw [Nat.zero_add,hgu n (by omega)];exact icell hB (by omega)))
  (gi_start (by omega) gv1 f3 f4 f1) f2 ⟨hS1.defers,hS1.size,fun p hp=>?_⟩ (fun q a2 w2 hS2 hK2' hC2' hGS=>?_)
 ·simp only [List.mem_cons,List.not_mem_nil,or_false] at hp
  rcases hp with rfl | rfl | rfl | rfl | rfl | rfl
  ·exact hSa.has (9,(_,0)) (by simp)
  ·exact hSa.has (10,(_,0)) (by simp)
  ·exact hSa.has (11,(_,0)) (by simp)
  ·exact hSa.has (13,(_,0)) (by simp)
  ·exact hS1.has (14,(_,0)) (by simp)
  ·exact hS1.has (15,(_,0)) (by simp)
 have hK2:=hK1.trans (hK2'.mono kr)
 have hC2:=hC1.trans hC2'
 have hq1:=hGS.1
 have hq2:=hGS.2.1
 have hq3:=good24 n q hul hvl du dv hvg (by rw [← htop];exact hGS)
 clear hS1 hK1 hC1 hSa hK2' hC2' hGS
 have hSa:=hS.with hK2 hS2.size hS2.defers kr
 have hq15:a2.tmps.getD 15 undef = .int .i64 (q:Int):=hS2.has (15,(_,0)) (by simp)
 show wpL _ (cPost 2 (cI dv1)) _ a2 w2
 rw [eP2]
 show dvR1.wp _ (Exit.then (fun a w=>Q .normal a w) (Exit.inBlock 1 Q)) a2 w2
 refine wp_cut 4 kr (Rdiv_zero hS2.size hS2.defers (fun a3 w3 hS3 hK3' hq3' hC3'=>?_))
 have hK3:=hK2.trans hK3'
 have hC3:=hC2.trans hC3'
 have hq153:=hq3'.trans hq15
 have hSa3:=hS.with hK3 hS3.size hS3.defers kr
 clear hSa hS2 hK2 hC2 hK3' hq3' hC3' hq15
 show (cAt 4 dvR1).wp _ _ _ _
 rw [e4]
 have hQ3:Blk w3 .i64 3 qb qs:=Hc.chg (show Hc w qb 3 (arr .i64 qs) from hQB) hC3 (by simp)
 have hV3:∀ i,i<n+2→w3.cell? ⟨vb,vo+i,none⟩=some (.int .i64 ((gd vs i:Nat):Int)):=fun i hi=>hC3.cell0 (hV i hi)
 refine Rdiv_sub (a:=a3) (w:=w3) (cv:=cv) (cw:=cw) (q:=q) hm hml hq1 hxl hvl dx dv h1 hV3 (Hc.chg (show Hc w ub 3 (arr .i64 xs) from hB) hC3 (by simp)) ⟨hS3.defers,hS3.size,fun p hp=>?_⟩ (fun zs K a4 w4 hzl dz hz1 hz2 hKl hval hB4 hS4 hK4' hC4=>?_)
 ·simp only [List.mem_cons,List.not_mem_nil,or_false] at hp
  rcases hp with rfl | rfl | rfl | rfl | rfl | rfl | rfl
  ·exact hSa3.has (9,(_,0)) (by simp)
  ·exact hSa3.has (10,(_,0)) (by simp)
  ·exact hSa3.has (11,(_,0)) (by simp)
  ·exact hSa3.has (13,(_,0)) (by simp)
  ·exact hq153
  ·exact hS3.has (16,(_,0)) (by simp)
  ·exact hS3.has (17,(_,0)) (by simp)
 have hq154:a4.tmps.getD 15 undef = .int .i64 (q:Int):=(hK4'.one 15 kr).trans hq153
 have hK4:=hK3.trans (hK4'.mono kr)
 have hSa4:=hS.with hK4 hS4.size hS4.defers kr
 have hV4:∀ i,i<n+2→w4.cell? ⟨vb,vo+i,none⟩=some (.int .i64 ((gd vs i:Nat):Int)):=fun i hi=>hC4.cell (by simpa using h1) (hV3 i hi)
 have hQ4:Blk w4 .i64 3 qb qs:=Hc.chg (show Hc w3 qb 3 (arr .i64 qs) from hQ3) hC4 (by simpa using Ne.symm h3)
 have hC4t:Chg [ub,qb] w w4:=(hC3.mono (by simp)).trans (hC4.mono (by simp))
 clear hSa3 hS3 hK3 hC3 hq153 hV3 hQ3 hK4' hC4
 -- what the window holds
 obtain ⟨us',hus'⟩:∃ us',us'=(zs.drop j).take (n+3):=⟨_,rfl⟩
 have hul':us'.length=n+3:=by rw [hus',List.length_take,List.length_drop];omega
 have hgz:gd zs (j+(n+2))=gd us (n+2):=by
  rw [hgu _ (by omega)]
  have h5:=congrArg (fun l=>gd l 0) hz2
  simp only [gd_drop] at h5
  simpa using h5
 have hz3:zs.drop (j+(n+3))=xs.drop (j+(n+3)):=by
  have:=congrArg (List.drop 1) hz2
  simpa [List.drop_drop,Nat.add_assoc] using this
 have HT:=take_away (us:=us) (vs:=vs) (us':=us') (n:=n) (q:=q) (K:=K) hul hvl hul' du dv (by rw [hus'];exact (dz.drop j).take _) (by rw [hus',gd_take (by omega),gd_drop,← hgz]) (by rw [hus',hus,take3,take3];exact hval) hVp hq2 hq3
 show wpL _ (cPost 4 dvR1) _ a4 w4
 rw [eP4]
 show dvR2.wp _ (Exit.then (fun a w=>Q .normal a w) _) a4 w4
 refine wp_sq kr (wpL_one (Rdiv_carry (a:=a4) (w:=w4) (cw:=cw) (K:=K) hm hml (by omega) dz (by omega) rfl hB4 ⟨hS4.defers,hS4.size,fun p hp=>?_⟩ (fun a5 w5 hs5 hd5 hK5' hq5 hB5 hC5=>?_)))
 ·simp only [List.mem_cons,List.not_mem_nil,or_false] at hp
  rcases hp with rfl | rfl | rfl | rfl
  ·exact hSa4.has (10,(_,0)) (by simp)
  ·exact hSa4.has (11,(_,0)) (by simp)
  ·exact hSa4.has (13,(_,0)) (by simp)
  ·exact hS4.has (16,(_,0)) (by simp)
 have hK5:=hK4.trans hK5'
 have hSa5:=hS.with hK5 hs5 hd5 kr
 have hq155:=hq5.trans hq154
 have hV5:∀ i,i<n+2→w5.cell? ⟨vb,vo+i,none⟩=some (.int .i64 ((gd vs i:Nat):Int)):=fun i hi=>hC5.cell (by simpa using h1) (hV4 i hi)
 have hQ5:Blk w5 .i64 3 qb qs:=Hc.chg (show Hc w4 qb 3 (arr .i64 qs) from hQ4) hC5 (by simpa using Ne.symm h3)
 have hC5t:=hC4t.trans (hC5.mono (by simp))
 clear hSa4 hS4 hK4 hq154 hV4 hQ4 hK5' hq5 hC4t hC5 hB4
 have hcell5:w5.cell? ⟨ub,j+(n+2),none⟩=some (.int .i64 (((gd zs (j+(n+2)):Nat):Int) - (K:Int))):=BlkX.self (k:=.i64) (t:=3) hB5 (by omega)
 show dvR3.wp _ _ _ _
 refine wp_sq kr (wp_sq kr (Rdiv_test (a:=a5) (w:=w5) (cw:=cw) hm hml hcell5 (hSa5.sub (by simp)) (fun a6 w6 h183 hs6 hd6 hK6' hq6 hC6=>?_)))
 have hK6:=hK5.trans hK6'
 have hSa6:=hS.with hK6 hs6 hd6 kr
 have hq156:=hq6.trans hq155
 have hV6:∀ i,i<n+2→w6.cell? ⟨vb,vo+i,none⟩=some (.int .i64 ((gd vs i:Nat):Int)):=fun i hi=>hC6.cell0 (hV5 i hi)
 have hQ6:Blk w6 .i64 3 qb qs:=Hc.chg (show Hc w5 qb 3 (arr .i64 qs) from hQ5) hC6 (by simp)
 have hB6:=Hc.chg hB5 hC6 (by simp)
 have hC6t:=hC5t.trans (hC6.mono (by simp))
 clear hSa5 hK5 hq155 hV5 hQ5 hK6' hq6 hC5t hC6 hB5 hcell5
 show dvK.wp _ _ _ _
 rcases HT with ⟨t1,t2,t3⟩ | ⟨t1,t2,t3⟩
 ·have hd0:((gd zs (j+(n+2)):Nat):Int) - (K:Int)=0:=by omega
  rw [hd0] at h183 hB6
  refine wp_no 183 kr h183 (wp_sk kr ?_)
  show (cD dvR3).wp _ _ _ _
  have hB7:Blk w6 .i64 3 ub (zs.set (j+(n+2)) 0):=by
   have:=hB6
   unfold Hc at this
   rw [show (0:Int)=((0:Nat):Int) from rfl,arr_set] at this
   exact this
  refine Rdiv_put (a:=a6) (w:=w6) (cq:=cq) (q:=q) hjL hql hQ6 ⟨hd6,hs6,fun p hp=>?_⟩ (fun a7 w7 hs7 hd7 hK7 hQ7 hC7=>?_)
  ·simp only [List.mem_cons,List.not_mem_nil,or_false] at hp
   rcases hp with rfl | rfl | rfl
   ·exact hSa6.has (12,(_,0)) (by simp)
   ·exact hSa6.has (13,(_,0)) (by simp)
   ·exact hq156
  refine hQ (zs.set (j+(n+2)) 0) a7 w7 (by simpa using hzl) (dz.set _ _ (by decide)) (by rw [List.take_set_of_le (by omega)];exact hz1) (by rw [List.drop_set_of_lt (by omega)];exact hz3) ?_ (Hc.chg (show Hc w6 ub 3 _ from hB7) hC7 (by simpa using h3)) (by rw [← t1];exact hQ7) hs7 hd7 (hK6.trans hK7) (hC6t.trans (hC7.mono (by simp)))
  rw [← t3,hus',← List.set_drop,List.take_set]
 ·have hd0:((gd zs (j+(n+2)):Nat):Int) - (K:Int) = -1:=by omega
  rw [hd0] at h183 hB6
  refine wp_yes 183 kr h183 (wp_cut 6 kr (Rdiv_less (q:=q) (by rw [t1];exact Nat.le_add_left 1 _) hq1 ⟨hd6,hs6,fun p hp=>?_⟩ (fun a7 w7 hS7 hK7' hC7=>?_)))
  ·simp only [List.mem_cons,List.not_mem_nil,or_false] at hp
   rcases hp with rfl
   exact hq156
  have hK7:=hK6.trans hK7'
  have hSa7:=hS.with hK7 hS7.size hS7.defers kr
  show (cAt 6 (cT dvK)).wp _ _ _ _
  rw [e6]
  refine Rdiv_back (a:=a7) (w:=w7) (cv:=cv) (cw:=cw) (v:=.int .i64 (-1)) (xs:=zs) hm hml (by omega) hvl dz dv h1 (fun i hi=>hC7.cell0 (hV6 i hi)) (Hc.chg hB6 hC7 (by simp)) ⟨hS7.defers,hS7.size,fun p hp=>?_⟩ (fun ys c a8 w8 hyl dy hy1 hy2 hcl hvaly hB8 hS8 hK8' hC8=>?_)
  ·simp only [List.mem_cons,List.not_mem_nil,or_false] at hp
   rcases hp with rfl | rfl | rfl | rfl | rfl | rfl
   ·exact hSa7.has (9,(_,0)) (by simp)
   ·exact hSa7.has (10,(_,0)) (by simp)
   ·exact hSa7.has (11,(_,0)) (by simp)
   ·exact hSa7.has (13,(_,0)) (by simp)
   ·exact hS7.has (16,(_,0)) (by simp)
   ·exact hS7.has (18,(_,0)) (by simp)
  have hK8:=hK7.trans (hK8'.mono kr)
  have hSa8:=hS.with hK8 hS8.size hS8.defers kr
  have hq158:a8.tmps.getD 15 undef = .int .i64 ((q - 1:Nat):Int):=(hK8'.one 15 kr).trans (hS7.has (15,(_,0)) (by simp))
  have hyul:((ys.drop j).take (n+3)).length=n+3:=by rw [List.length_take,List.length_drop];omega
  obtain ⟨rfl,hR⟩:=add_back24 (us':=(ys.drop j).take (n+3)) (uz:=us') (vs:=vs) (n:=n) (c:=c) (V:=val 16777216 vs) (R:=val 16777216 us % val 16777216 vs) hyul hul' hvl (by rw [take3,hus',take3];exact hvaly) ((dy.drop j).take _) rfl t3
   (Nat.lt_of_lt_of_le (Nat.mod_lt _ hVp) (by have:=val_lt dv;rw [hvl] at this;omega)) hcl
  show wpL _ (cPost 6 (cT dvK)) _ a8 w8
  refine Rdiv_last (a:=a8) (w:=w8) (cw:=cw) hm hml (by omega) hB8 ⟨hS8.defers,hS8.size,fun p hp=>?_⟩ (fun a9 w9 hs9 hd9 hK9' hq9 hB9 hC9=>?_)
  ·simp only [List.mem_cons,List.not_mem_nil,or_false] at hp
   rcases hp with rfl | rfl | rfl | rfl
   ·exact hSa8.has (10,(_,0)) (by simp)
   ·exact hSa8.has (11,(_,0)) (by simp)
   ·exact hSa8.has (13,(_,0)) (by simp)
   ·exact hS8.has (16,(_,0)) (by simp)
  have hK9:=hK8.trans hK9'
  have hSa9:=hS.with hK9 hs9 hd9 kr
  have hQ9:Blk w9 .i64 3 qb qs:=Hc.chg (Hc.chg (Hc.chg (show Hc w6 qb 3 (arr .i64 qs) from hQ6) hC7 (by simp)) hC8 (by simpa using Ne.symm h3)) hC9 (by simpa using Ne.symm h3)
  show (cD dvR3).wp _ _ _ _
  refine Rdiv_put (a:=a9) (w:=w9) (cq:=cq) (q:=q - 1) hjL hql hQ9 ⟨hd9,hs9,fun p hp=>?_⟩ (fun a10 w10 hs10 hd10 hK10 hQ10 hC10=>?_)
  ·simp only [List.mem_cons,List.not_mem_nil,or_false] at hp
   rcases hp with rfl | rfl | rfl
   ·exact hSa9.has (12,(_,0)) (by simp)
   ·exact hSa9.has (13,(_,0)) (by simp)
   ·exact hq9.trans hq158
  have hqe:q - 1=val 16777216 us / val 16777216 vs:=by rw [t1];exact Nat.add_sub_cancel _ _
  refine hQ (ys.set (j+(n+2)) 0) a10 w10 (by simp [hyl,hzl]) (dy.set _ _ (by decide)) (by rw [List.take_set_of_le (by omega)];exact hy1.trans hz1) ?_ ?_ (Hc.chg (show Hc w9 ub 3 _ from hB9) hC10 (by simpa using h3)) (by rw [← hqe];exact hQ10) hs10 hd10 (hK9.trans hK10) ?_
  ·rw [List.drop_set_of_lt (by omega),← hz3]
   have:=congrArg (List.drop 1) hy2
   simpa [List.drop_drop,Nat.add_assoc] using this
  ·rw [← hR,← List.set_drop,List.take_set]
  ·exact hC6t.trans ((hC7.mono (by simp)).trans ((hC8.mono (by simp)).trans ((hC9.mono (by simp)).trans (hC10.mono (by simp)))))
noncomputable def dv0:Code:=cB 0 dvC
theorem Rdiv_loop {vb vo n cv ub m cw qb L cq N:Nat} {zs0 post vs qs0:List Nat} {a:Act} {w:World} {Q:Exit→Act→World→Prop}
  (hmL:m=n+L) (hml:m≤1000000000) (hzl:zs0.length=m+2) (hvl:vs.length=n+2) (dz:Dig 16777216 zs0) (dpo:Dig 16777216 post) (dq:Dig 16777216 qs0) (dv:Dig 16777216 vs) (hvg:8388608≤gd vs (n+1)) (hql:qs0.length=L)
  (hN:N=val 16777216 zs0) (hlt:N<val 16777216 vs * 16777216 ^ L) (h1:vb≠ub) (h2:vb≠qb) (h3:ub≠qb)
  (hV:∀ i,i<n+2→w.cell? ⟨vb,vo+i,none⟩=some (.int .i64 ((gd vs i:Nat):Int))) (hB:Blk w .i64 3 ub (zs0++post)) (hQB:Blk w .i64 3 qb qs0)
  (hS:St dvN [(9,(.slice (some ⟨vb,vo,none⟩) (n+2) cv,0)),(10,(.int .i64 ((n:Int)+2),0)),(11,(.slice (some ⟨ub,0,none⟩) (m+2) cw,0)),(12,(.slice (some ⟨qb,0,none⟩) L cq,0)),(13,(.int .i64 ((L:Int) - 1),0))] a)
  (hQ:∀ (zs qs:List Nat) a' w',zs.length=m+2→qs.length=L→Dig 16777216 zs→Dig 16777216 qs→N=val 16777216 vs * val 16777216 qs+val 16777216 zs→val 16777216 zs<val 16777216 vs→Blk w' .i64 3 ub (zs++post)→Blk w' .i64 3 qb qs →
   a'.tmps.size=dvN→a'.defers = []→Kp (keeps dv0 dvN) a a'→Chg [ub,qb] w w'→Q .normal a' w'):dv0.wp Tryz.prog Q a w:=by
 have e1:cAt 1 (cI (cI dv0))=dv1:=by kernel_rfl
 have hVn:val 16777216 vs<16777216 ^ (n+2):=by have:=val_lt dv;rwa [hvl] at this
 have hVp:0<val 16777216 vs:=by
  have h5:=val_take_succ' 16777216 vs (n+1)
  rw [List.take_of_length_le (by omega)] at h5
  have h6:16777216 ^ (n+1) * 1≤16777216 ^ (n+1) * gd vs (n+1):=Nat.mul_le_mul_left _ (by omega)
  have h7:0<16777216 ^ (n+1):=Nat.pow_pos (by decide)
  omega
 refine wp_for 0 kr kr (fun g a' w'=>∃ (k:Nat) (zs qs:List Nat),k=g∧k≤L∧zs.length=m+2∧qs.length=L∧Dig 16777216 zs∧Dig 16777216 qs∧N=val 16777216 vs * 16777216 ^ k * val 16777216 (qs.drop k)+val 16777216 zs∧val 16777216 zs<val 16777216 vs * 16777216 ^ k ∧
   Blk w' .i64 3 ub (zs++post)∧Blk w' .i64 3 qb qs∧Kp (keeps dv0 dvN) a a'∧Chg [ub,qb] w w'∧a'.tmps.getD 13 undef = .int .i64 ((k:Int) - 1)∧a'.tmps.size=dvN∧a'.defers = []) L
  ⟨L,zs0,qs0,rfl,Nat.le_refl _,hzl,hql,dz,dq,by rw [List.drop_of_length_le (by omega)];simpa [val] using hN,by rw [← hN];exact hlt,hB,hQB,Kp.refl _ _,Chg.refl _ _,hS.has (13,(_,0)) (by simp),hS.size,hS.defers⟩ ?_
 rintro g a1 w1 ⟨k,zs,qs,rfl,hk,hzl1,hql1,dz1,dq1,hI,hlt1,hB1,hQ1,hK1,hC1,h13,hs1,hd1⟩
 refine wp_cut 1 kr ?_
 rcases Nat.eq_zero_or_pos k with rfl | hkp
 ·have hS1:St dvN [(13,(.int .i64 (-1),0))] a1:=⟨hd1,hs1,fun p hp=>by simp only [List.mem_singleton] at hp;subst hp;exact h13⟩
  refine vm_piece (E0:=[(13,(.int .i64 (-1),0))]) kr [] dvN (cPre 1 (cI (cI dv0))) kr hS1 [.f] [] (VEx.x 0) [(13,(.int .i64 (-1),0))] (keeps dv0 dvN) (hQ:=?_)
  intro a2 w2 hS2 hK2 hC2
  refine hQ zs qs a2 w2 hzl1 hql1 dz1 dq1 (by simpa using hI) (by simpa using hlt1) (Hc.chg (show Hc w1 ub 3 _ from hB1) hC2 (by simp)) (Hc.chg (show Hc w1 qb 3 _ from hQ1) hC2 (by simp)) hS2.size hS2.defers (hK1.trans hK2) (hC1.trans (hC2.mono (by simp)))
 ·obtain ⟨j,rfl⟩:∃ j,k=j+1:=⟨k - 1,by omega⟩
  rw [show (((j+1:Nat):Int) - 1)=(j:Int) from by omega] at h13
  have hJ:decide ((j:Int) ≥ 0)=true:=decide_eq_true (by omega)
  have hS1:St dvN [(13,(.int .i64 (j:Int),0))] a1:=⟨hd1,hs1,fun p hp=>by simp only [List.mem_singleton] at hp;subst hp;exact h13⟩
  refine vm_piece (E0:=[(13,(.int .i64 (j:Int),0))]) kr [] dvN (cPre 1 (cI (cI dv0))) kr hS1 [(.p _ true hJ)] [] (VEx.n) [(13,(.int .i64 (j:Int),0))] (keeps dv0 dvN) (hQ:=?_)
  intro a2 w2 hS2 hK2' hC2'
  have hK2:=hK1.trans hK2'
  have hC2:=hC1.trans (hC2'.mono (l':=[ub,qb]) (by simp))
  have hSa:St dvN [(9,(.slice (some ⟨vb,vo,none⟩) (n+2) cv,0)),(10,(.int .i64 ((n:Int)+2),0)),(11,(.slice (some ⟨ub,0,none⟩) (m+2) cw,0)),(12,(.slice (some ⟨qb,0,none⟩) L cq,0))] a2:=(hS.sub (by simp)).with hK2 hS2.size hS2.defers kr
  have hpl:(zs.take j).length=j:=by rw [List.length_take];omega
  have husl:((zs.drop j).take (n+3)).length=n+3:=by rw [List.length_take,List.length_drop];omega
  have hsplit:zs=zs.take j++((zs.drop j).take (n+3)++(zs.drop j).drop (n+3)):=by rw [List.take_append_drop,List.take_append_drop]
  have hwin:((zs++post).drop j).take (n+3)=(zs.drop j).take (n+3):=by
   rw [List.drop_append_of_le_length (by omega),List.take_append_of_le_length (by rw [List.length_drop];omega)]
  show (cAt 1 (cI (cI dv0))).wp _ _ _ _
  rw [e1]
  refine Rdiv_round (a:=a2) (w:=w2) (cv:=cv) (cw:=cw) (cq:=cq) (j:=j) (L:=L) (xs:=zs++post) (vs:=vs) (qs:=qs) (by omega) hml (by rw [List.length_append];omega) hvl (dz1.append dpo) dv hvg (by omega) hql1
   (by rw [hwin];exact long_seg (n:=n+2) (by decide) hsplit hpl husl hlt1) h1 h2 h3 (fun i hi=>hC2.cell (by simp [h1,h2]) (hV i hi)) (Hc.chg (show Hc w1 ub 3 _ from hB1) hC2' (by simp)) (Hc.chg (show Hc w1 qb 3 _ from hQ1) hC2' (by simp))
   ⟨hS2.defers,hS2.size,fun p hp=>?_⟩ (fun ys a3 w3 hyl dy hy1 hy2 hyv hB3 hQ3 hs3 hd3 hK3' hC3'=>?_)
  ·simp only [List.mem_cons,List.not_mem_nil,or_false] at hp
   rcases hp with rfl | rfl | rfl | rfl | rfl
   ·exact hSa.has (9,(_,0)) (by simp)
   ·exact hSa.has (10,(_,0)) (by simp)
   ·exact hSa.has (11,(_,0)) (by simp)
   ·exact hSa.has (12,(_,0)) (by simp)
   ·exact hS2.has (13,(_,0)) (by simp)
  rw [hwin] at hyv hQ3
  have hyw:((ys.drop j).take (n+3)).length=n+3:=by rw [List.length_take,List.length_drop,hyl,List.length_append];omega
  obtain ⟨ys',hys'⟩:∃ ys',ys'=zs.take j++((ys.drop j).take (n+3)++(zs.drop j).drop (n+3)):=⟨_,rfl⟩
  have hyeq:ys=ys'++post:=by
   have t1:ys.take j=zs.take j:=by rw [hy1,List.take_append_of_le_length (by omega)]
   have t2:(ys.drop j).drop (n+3)=(zs.drop j).drop (n+3)++post:=by
    rw [List.drop_drop,hy2,List.drop_append_of_le_length (by omega),List.drop_drop]
   rw [hys',← t1,List.append_assoc,List.append_assoc,← t2,List.take_append_drop,List.take_append_drop]
  have hst:=long_step (n:=n+2) (M:=16777216) (V:=val 16777216 vs) (U:=N) (j:=j) (qs:=qs) (us':=(ys.drop j).take (n+3)) (by decide) hsplit hpl husl hyw dz1 hVn hVp (by omega) hI hlt1 hyv
  rw [← hys'] at hst
  have hyl':ys'.length=m+2:=by
   have h5:=congrArg List.length hyeq
   rw [hyl,List.length_append,List.length_append] at h5
   omega
  have dy':Dig 16777216 ys':=fun x hx=>dy x (by rw [hyeq];exact List.mem_append_left _ hx)
  rw [hyeq] at hB3
  have hK3:=hK2.trans (hK3'.mono kr)
  have hC3:=hC2.trans hC3'
  have h133:a3.tmps.getD 13 undef = .int .i64 (j:Int):=(hK3'.one 13 kr).trans (hS2.has (13,(_,0)) (by simp))
  have hS3:St dvN [(13,(.int .i64 (j:Int),0))] a3:=⟨hd3,hs3,fun p hp=>by simp only [List.mem_singleton] at hp;subst hp;exact h133⟩
  have wj:IntKind.i64.wrap ((j:Int) - 1)=(j:Int) - 1:=wr64 (by omega) (by omega)
  have dq3:Dig 16777216 (qs.set j (val 16777216 ((zs.drop j).take (n+3)) / val 16777216 vs)):=dq1.set _ _ (by
   rw [Nat.div_lt_iff_lt_mul hVp];exact hst.1)
  show wpL _ (cPost 1 (cI (cI dv0))) _ a3 w3
  refine vm_piece (E0:=[(13,(.int .i64 (j:Int),0))]) kr [(13,1)] dvN (cPost 1 (cI (cI dv0))) kr hS3 [] [lE .i64 (((j:Int):Int) - ((1):Int)) ((j:Int) - 1) (wj)] (VEx.n) [(13,(.int .i64 ((j:Int) - 1),0))] (keeps dv0 dvN) (hQ:=?_)
  intro a4 w4 hS4 hK4 hC4
  exact ⟨j,by omega,j,ys',_,rfl,by omega,hyl',by simpa using hql1,dy',dq3,hst.2.1,hst.2.2,Hc.chg (show Hc w3 ub 3 _ from hB3) hC4 (by simp),Hc.chg (show Hc w3 qb 3 _ from hQ3) hC4 (by simp),hK3.trans hK4,hC3.trans (hC4.mono (by simp)),hS4.has (13,(_,0)) (by simp),hS4.size,hS4.defers⟩

theorem code_eq {P:Program} {c c':Code} {Q:Exit→Act→World→Prop} {a:Act} {w:World} (h:c=c') (k:c.wp P Q a w):c'.wp P Q a w:=h ▸ k
theorem act_all {n:Nat} {a:Act} (hs:a.tmps.size=n) (hd:a.defers = []):a=⟨((List.range n).map fun t=>a.tmps.getD t undef).toArray,[]⟩:=by
 obtain ⟨t,d⟩:=a
 simp only at hs hd
 subst hd
 congr 1
 apply Array.ext
 ·simp [hs]
 ·intro i h1 h2
  simp [Array.getD_eq_getD_getElem?,h1]
theorem dv_lit {a:Act} (hs:a.tmps.size=dvN) (hd:a.defers = []):∃ u:Nat→Value,(∀ t,a.tmps.getD t undef=u t)∧a=⟨#[u 0,u 1,u 2,u 3,u 4,u 5,u 6,u 7,u 8,u 9,u 10,u 11,u 12,u 13,u 14,u 15,u 16,u 17,u 18,u 19,u 20,u 21,u 22,u 23,u 24,u 25,u 26,u 27,u 28,u 29,u 30,u 31,u 32,u 33,u 34,u 35,u 36,u 37,u 38,u 39,u 40,u 41,u 42,u 43,u 44,u 45,u 46,u 47,u 48,u 49,u 50,u 51,u 52,u 53,u 54,u 55,u 56,u 57,u 58,u 59,u 60,u 61,u 62,u 63,u 64,u 65,u 66,u 67,u 68,u 69,u 70,u 71,u 72,u 73,u 74,u 75,u 76,u 77,u 78,u 79,u 80,u 81,u 82,u 83,u 84,u 85,u 86,u 87,u 88,u 89,u 90,u 91,u 92,u 93,u 94,u 95,u 96,u 97,u 98,u 99,u 100,u 101,u 102,u 103,u 104,u 105,u 106,u 107,u 108,u 109,u 110,u 111,u 112,u 113,u 114,u 115,u 116,u 117,u 118,u 119,u 120,u 121,u 122,u 123,u 124,u 125,u 126,u 127,u 128,u 129,u 130,u 131,u 132,u 133,u 134,u 135,u 136,u 137,u 138,u 139,u 140,u 141,u 142,u 143,u 144,u 145,u 146,u 147,u 148,u 149,u 150,u 151,u 152,u 153,u 154,u 155,u 156,u 157,u 158,u 159,u 160,u 161,u 162,u 163,u 164,u 165,u 166,u 167,u 168,u 169,u 170,u 171,u 172,u 173,u 174,u 175,u 176,u 177,u 178,u 179,u 180,u 181,u 182,u 183,u 184,u 185,u 186,u 187,u 188,u 189,u 190,u 191,u 192,u 193,u 194,u 195,u 196,u 197,u 198,u 199,u 200,u 201,u 202,u 203,u 204,u 205,u 206,u 207,u 208,u 209,u 210,u 211,u 212,u 213,u 214,u 215,u 216,u 217,u 218,u 219,u 220,u 221,u 222,u 223,u 224,u 225,u 226,u 227,u 228,u 229,u 230,u 231,u 232,u 233,u 234,u 235,u 236,u 237],[]⟩ :=
 ⟨fun t=>a.tmps.getD t undef,fun _=>rfl,(act_all hs hd).trans (congrArg (fun l:List Value=>(⟨l.toArray,[]⟩:Act)) kr)⟩
theorem Rdivide_long (A B:Option Addr) (c d n e':Nat) (x y:Nat) (w:World) (hx:RdAt w .i64 A (digs 16777216 x)) (hy:RdAt w .i64 B (digs 16777216 y)) (hxl:(digs 16777216 x).length=n+2+e') (hyl:(digs 16777216 y).length=n+2) (hl:n+2+e'≤400000000) (hge:y≤x) :
  Calls Tryz.prog 168 #[.slice A (n+2+e') c,.slice B (n+2) d] w (RetRDiv (x / y) (x % y) w):=by
 have HC:=Lib.hid (Rorder_any A B c d x y w hx hy (by omega) (by omega))
 rw [hxl,hyl] at HC
 have hcmp:¬ cmpN x y<0:=by
  unfold cmpN
  rw [if_neg (by omega)]
  split <;> omega
 have hy0:y≠0:=by rintro rfl;rw [digs_zero] at hyl;simp at hyl
 obtain ⟨b,o,rfl,hct⟩:=hy (n+1) (by omega)
 have dy:=digs_Dig (B:=16777216) (by decide) y
 have gt:=dy.gd (by decide) (n+1)
 have hlast:=digs_last (B:=16777216) (by decide) y hy0
 rw [hyl,show n+2 - 1=n+1 by omega] at hlast
 have vy:=val_digs (B:=16777216) (by decide) y
 have htop:gd (digs 16777216 y) (n+1) * 16777216 ^ (n+1)≤y∧y<(gd (digs 16777216 y) (n+1)+1) * 16777216 ^ (n+1):=by
  have h1:=val_take_succ' 16777216 (digs 16777216 y) (n+1)
  rw [List.take_of_length_le (by omega),vy] at h1
  have h2:=val_lt (dy.take (n+1))
  rw [List.length_take,Nat.min_eq_left (by omega)] at h2
  rw [Nat.mul_comm (16777216 ^ (n+1))] at h1
  rw [Nat.add_mul,Nat.one_mul]
  omega
 have HNORM:=Lib.hid (norm24 htop.1 htop.2 (by omega) gt)
 obtain ⟨tt,htt⟩:∃ tt,tt=gd (digs 16777216 y) (n+1):=⟨_,rfl⟩
 rw [← htt] at hct gt hlast HNORM
 obtain ⟨f,hf⟩:∃ f,f=16777216 / (tt+1):=⟨_,rfl⟩
 rw [← hf] at HNORM
 have hfI:(16777216:Int) / ((tt:Int)+1)=(f:Int):=by rw [hf,Int.natCast_ediv,Int.natCast_add];rfl
 have hfl:f≤8388608:=by rw [hf];exact Nat.le_trans (Nat.div_le_div_left (show 2≤tt+1 by omega) (by decide)) (by decide)
 have hf0:0<f:=by rw [hf];exact Nat.div_pos (by omega) (by omega)
 have hfd:digs 16777216 f = [f]:=digs_one (by decide) (by omega) (by omega)
 have HF:=Lib.hid hf
 have HY:=Lib.hid hy
 have HX:=Lib.hid hx
 have hdv:((16777216:Int)).tdiv ((tt:Int)+1)=(f:Int):=by rw [Int.tdiv_eq_ediv_of_nonneg (by omega)];exact hfI
 have hne:¬ ((tt:Int)+1=0):=by omega
 have hne2:(((tt:Int)+1) == 0)=false:=by rw [beq_eq_false_iff_ne];omega
 have h1f:((n:Int)+2 == 1)=false:=by rw [beq_eq_false_iff_ne];omega
 have HTOP:=Lib.hid htop
 have HVY:=Lib.hid vy
 have HXL:=Lib.hid hxl
 have HYL:=Lib.hid hyl
 have HGE:=Lib.hid hge
 clear hx hy hf htt htop dy vy hxl hyl hge hfI
 have HT1:=fun (W:World) (D:Option Addr) (c':Nat) (h1:RdAt W .i64 (some ⟨b,o,none⟩) (digs 16777216 y)) (h2:RdAt W .i64 D [f])=>Lib.hid (Rtimes_any (some ⟨b,o,none⟩) D d c' y f W h1 (by rw [hfd];exact h2) (by rw [HYL.out];omega) (by rw [hfd];simp))
 rw [HYL.out,hfd] at HT1
 have HT2:=fun (W:World) (D:Option Addr) (c':Nat) (h1:RdAt W .i64 A (digs 16777216 x)) (h2:RdAt W .i64 D [f])=>Lib.hid (Rtimes_any A D c c' x f W h1 (by rw [hfd];exact h2) (by rw [HXL.out];omega) (by rw [hfd];simp))
 rw [HXL.out,hfd] at HT2
 have HVL:Hid ((digs 16777216 (y * f)).length=n+2):=Lib.hid (by
  have h1:=digs_length_le (B:=16777216) (by decide) HNORM.out.2
  rcases Nat.lt_or_ge (digs 16777216 (y * f)).length (n+2) with h2 | h2
  ·exfalso
   have h3:=lt_pow_digs (B:=16777216) (by decide) (y * f)
   have h4:16777216 ^ (digs 16777216 (y * f)).length≤16777216 ^ (n+1):=Nat.pow_le_pow_right (by decide) (by omega)
   have h5:16777216 ^ (n+1) * 1≤16777216 ^ (n+1) * 8388608:=Nat.mul_le_mul_left _ (by decide)
   have h6:=HNORM.out.1
   rw [Nat.mul_comm] at h6
   omega
  ·omega)
 clear hfd
 go_enter Tryz.func168,Tryz.ntmps168
 go_wp2_with fail
 refine HC.out.mono ?_
 rintro e w' ⟨he,nd,rfl⟩
 subst he
 have hct2:(w.drewN nd).cell? ⟨b,o+(n+1),none⟩=some (.int .i64 ((tt:Nat):Int)):=hct
 go_wp2_with fail
 have hrf:=rd_one (w.drewN nd) .i64 3 f
 have hbl0:Below w.heap.size w ((w.drewN nd).alloc (.cells #[.int .i64 (f:Int)] 3)):=(below_drewN (Below.refl w.heap.size w) nd).alloc (by simp) _
 have hlt0:(w.drewN nd).heap.size<((w.drewN nd).alloc (.cells #[.int .i64 (f:Int)] 3)).heap.size:=by simp
 have HY1:=Lib.hid (HY.out.below hbl0)
 have HX1:=Lib.hid (HX.out.below hbl0)
 have HFC:=Lib.hid (World.cell?_alloc_new1 (w.drewN nd) (.int .i64 (f:Int)) 3)
 rw [show (w.drewN nd).heap.size=w.heap.size by simp] at hrf hlt0 HFC
 generalize (w.drewN nd).alloc (.cells #[.int .i64 (f:Int)] 3)=W1 at *
 clear hct2 hct
 refine (HT1 W1 _ 1 HY1.out hrf).out.mono ?_
 rintro e W2 ⟨V,cv,rfl,hcv,hrv,hb2⟩
 rw [HVL.out] at hcv ⊢
 have hbl2:=hbl0.trans (hb2.mono (by omega))
 have HX2:=Lib.hid (HX1.out.below hb2)
 have HRF2:=Lib.hid (hrf.below hb2)
 have HRV2:=Lib.hid hrv
 have hs12:=hb2.size
 have HFC2:=Lib.hid (below_cell hb2 HFC.out hlt0)
 clear HT1 hrf hrv hb2 HX1 HY1 hbl0 HFC
 go_wp2_with fail
 have hbe:Below W2.heap.size W2 (W2.alloc (.cells #[] 3)):=(Below.refl _ _).alloc (Nat.le_refl _) _
 have hse:(W2.alloc (.cells #[] 3)).heap.size=W2.heap.size+1:=by simp
 have HX3:=Lib.hid (HX2.out.below hbe)
 have HRF3:=Lib.hid (HRF2.out.below hbe)
 have HRV3:=Lib.hid (HRV2.out.below hbe)
 have HFC3:=Lib.hid (below_cell hbe HFC2.out (by simp;omega))
 have hbl3:=hbl2.trans (hbe.mono (by omega))
 generalize W2.alloc (.cells #[] 3)=W3 at *
 clear hbe hbl2 HX2 HRF2 HFC2
 refine (HT2 W3 _ 1 HX3.out HRF3.out).out.mono ?_
 rintro e W4 ⟨U,cu,rfl,hcu,hru,hb4⟩
 have hs34:=hb4.size
 have HRV4:=Lib.hid (HRV3.out.below hb4)
 have HFC4:=Lib.hid (below_cell hb4 HFC3.out (by simp;omega))
 have hbl4:=hbl3.trans (hb4.mono (by omega))
 obtain ⟨m,hm⟩:∃ m,m=(digs 16777216 (x * f)).length:=⟨_,rfl⟩
 have hxf:x * f≠0:=by
  have h1:=HGE.out
  exact Nat.ne_of_gt (Nat.mul_pos (by omega) hf0)
 have hm0:0<m:=by rw [hm];exact digs_ne hxf
 have hmu:m≤n+2+e'+1:=by
  rw [hm]
  refine digs_length_le (by decide) ?_
  have h1:=lt_pow_digs (B:=16777216) (by decide) x
  rw [HXL.out] at h1
  rw [Nat.pow_succ]
  exact Nat.mul_lt_mul'' h1 (by omega)
 have hml:n+2≤m:=by
  rw [hm,← HVL.out]
  exact digs_len_mono (by decide) (Nat.mul_le_mul_right _ HGE.out)
 obtain ⟨cap,w1,ub,cw,w2,post,hap1,hap2,hub,hcw,hubl,hb6,hpo⟩:=app_all W4 W2.heap.size U (digs 16777216 (x * f)) cu 94 hru (by omega) (by omega)
 rw [← hm] at hap1 hap2 hcw ⊢
 have HVX:=Lib.hid (val_digs (B:=16777216) (by decide) (x * f))
 have HDX:=Lib.hid (digs_Dig (B:=16777216) (by decide) (x * f))
 generalize digs 16777216 (x * f)=xfs at *
 have HUB:=Lib.hid hub
 have HPO:=Lib.hid hpo
 clear hpo
 have HM:=Lib.hid hm
 have HRV6:=Lib.hid (HRV4.out.below hb6)
 have HFC6:=Lib.hid (below_cell hb6 HFC4.out (by simp;omega))
 have hbl6:=hbl4.trans (hb6.mono (by omega))
 have HXF:=Lib.hid hxf
 have HA1:=Lib.hid hap1
 have HA2:=Lib.hid hap2
 obtain ⟨L,hL⟩:∃ L,m=n+L:=⟨m - n,by omega⟩
 have hL2:2≤L:=by omega
 have hLl:L≤500000000:=by omega
 obtain ⟨w3,hmk,hbk,HW,hsz⟩:=make_rnat w2 ((m:Int)+2 - ((n:Int)+2)) (by omega) (by omega)
 rw [show ((m:Int)+2 - ((n:Int)+2)).toNat=L from by omega] at hmk hbk
 have HUB3:=Lib.hid (HUB.out.below HW HUB.out.lt)
 have HQB3:=Lib.hid hbk
 have HRV3:=Lib.hid (HRV6.out.below HW)
 have HFC3:=Lib.hid (below_cell HW HFC6.out (by have:=HUB.out.lt;simp;omega))
 have hbl3:=hbl6.trans (HW.mono (by have:=HUB.out.lt;omega))
 obtain ⟨vb,vo,hV,hvc⟩:=HRV2.out 0 (by rw [HVL.out];omega)
 have hvb:vb<W2.heap.size:=lt_of_cell hvc
 subst hV
 have huq:ub<w2.heap.size:=HUB.out.lt
 have HVG:=Lib.hid (val_digs (B:=16777216) (by decide) (y * f))
 have HVD:=Lib.hid (digs_Dig (B:=16777216) (by decide) (y * f))
 generalize digs 16777216 (y * f)=vs at *
 have HLm:=Lib.hid hL
 clear hL
 clear hub hm hru hb4 hb6 hbl4 HRV4 HFC4 HRF3 HX3 hxf hap1 hap2 hbk HW hsz HUB HRV6 HFC6 hbl6 hvc HRV2
 go_upto_block 0 with (first | (refine list_told HA1.out (by rfl) kr ?_;simp only [Act.put,sIt,sIz,sIs]) | (refine list_told HA2.out (by rfl) kr ?_;simp only [Act.put,sIt,sIz,sIs]))
 clear HA1 HA2 HT2 hmk
 have HSTART:Hid (x * f<val 16777216 vs * 16777216 ^ L):=Lib.hid (by
  have h1:=val_lt HDX.out
  rw [HVX.out,← HM.out,HLm.out,Nat.pow_add] at h1
  have h2:=HNORM.out.1
  rw [HVG.out]
  have h3:16777216 ^ n≤y * f:=by
   rw [Nat.pow_succ] at h2
   have:1 * 16777216 ^ n≤8388608 * (16777216 ^ n * 16777216):=by
    rw [Nat.mul_comm (16777216 ^ n),← Nat.mul_assoc];exact Nat.mul_le_mul_right _ (by decide)
   omega
  exact Nat.lt_of_lt_of_le h1 (Nat.mul_le_mul_right _ h3))
 generalize hqb:w2.heap.size=qb at *
 have hv8:8388608≤gd vs (n+1):=by
  have h1:=val_take_succ' 16777216 vs (n+1)
  rw [List.take_of_length_le (by rw [HVL.out];omega)] at h1
  have h2:=val_lt (HVD.out.take (n+1))
  rw [List.length_take,Nat.min_eq_left (by rw [HVL.out];omega)] at h2
  have h3:=HNORM.out.1
  rw [← HVG.out,h1,Nat.mul_comm 8388608] at h3
  rcases Nat.lt_or_ge (gd vs (n+1)) 8388608 with h4 | h4
  ·exfalso
   have h5:16777216 ^ (n+1) * (gd vs (n+1)+1)≤16777216 ^ (n+1) * 8388608:=Nat.mul_le_mul_left _ h4
   rw [Nat.mul_add] at h5
   omega
  ·exact h4
 refine code_eq (c:=dv0) kr ?_
 refine Rdiv_loop (w:=w3) (cv:=cv) (cw:=cw) (cq:=L) (zs0:=xfs ++ [0,0]) (post:=post) (vs:=vs) (qs0:=List.replicate L 0) (N:=x * f) (vb:=vb) (vo:=vo) (ub:=ub) (qb:=qb) (n:=n) (m:=m) (L:=L) HLm.out (by omega) (by rw [List.length_append,← HM.out];rfl) HVL.out (Dig.append HDX.out (Dig.cons (by decide) (Dig.cons (by decide) (Dig.nil _)))) HPO.out (Dig.replicate (by decide) _) HVD.out hv8 (by simp)
  (by rw [val_append,HVX.out];simp [val]) HSTART.out (by omega) (by omega) (by omega) (fun i hi=>by
   obtain ⟨b',o',e,hc⟩:=HRV3.out i (by rw [HVL.out];exact hi)
   have e2:=Option.some.inj e
   obtain ⟨rfl,rfl⟩:vb=b'∧vo=o':=⟨congrArg Addr.block e2,congrArg Addr.off e2⟩
   exact hc) HUB3.out HQB3.out ⟨rfl,by kernel_rfl,fun p hp=>?_⟩ (fun zs qs a' wr hzl hql hzd hqd hI hlt hZ hQ hs' hd' hK hC=>?_)
 ·simp only [List.mem_cons,List.not_mem_nil,or_false] at hp
  rcases hp with rfl | rfl | rfl | rfl | rfl
  ·rfl
  ·rfl
  ·rfl
  ·rfl
  ·exact congrArg (Value.int .i64) (by have:=HLm.out;omega)
 have h8:=hK.one 8 kr
 have h11:=hK.one 11 kr
 have h12:=hK.one 12 kr
 clear hK
 obtain ⟨u,hu,rfl⟩:=dv_lit hs' hd'
 rw [hu] at h8 h11 h12
 have h8:u 8 = .slice (some ⟨w.heap.size,0,none⟩) 1 1:=h8
 have h11:u 11 = .slice (some ⟨ub,0,none⟩) (m+2) cw:=h11
 have h12:u 12 = .slice (some ⟨qb,0,none⟩) L L:=h12
 clear hu hs' hd'
 rw [h8,h11,h12]
 clear h8 h11 h12
 have hbl:Below w.heap.size w wr:=hbl3.trans (hC.below (by have:=hbl3.size;omega) (fun x hx=>by simp only [List.mem_cons,List.not_mem_nil,or_false] at hx;omega))
 have hF':wr.cell? ⟨w.heap.size,0,none⟩=some (.int .i64 (f:Int)):=hC.cell (by simp only [List.mem_cons,List.not_mem_nil,or_false];omega) HFC3.out
 have hend:=long_end hf0 rfl HVG.out hI hlt
 have HE1:=Lib.hid hend.1
 have HE2:=Lib.hid hend.2
 have hmL:=HLm.out
 have HZL:=Lib.hid hzl
 have HQL2:=Lib.hid hql
 have HT1:=fun W (h:RdAt W .i64 (some ⟨ub,0,none⟩) zs)=>Lib.hid (Rtrim_any (some ⟨ub,0,none⟩) (m+2) cw zs W (by rw [Hid,hzl]) (Lib.hid h) (by omega) hcw)
 have HTZ:Hid (trimL zs=digs 16777216 (val 16777216 zs)):=Lib.hid (digs_val (by decide) hzd).symm
 rw [HTZ.out] at HT1
 have HZ0:Hid (RdAt wr .i64 (some ⟨ub,0,none⟩) zs):=Lib.hid (fun i hi=>⟨ub,0,rfl,by rw [Nat.zero_add,hZ.cell (by rw [List.length_append];omega),gd_append_left hi]⟩)
 have HSH:=fun W (h:RdAt W .i64 (some ⟨ub,0,none⟩) (digs 16777216 (val 16777216 zs)))=>Lib.hid (Rshort_any (some ⟨ub,0,none⟩) cw (val 16777216 zs) f W h (by rw [← HTZ.out];have:=trimL_length_le zs;rw [hzl] at this;omega) hf0 (by omega))
 have HFW:=Lib.hid (lt_of_cell hF')
 have HZ1:Hid (RdAt wr .i64 (some ⟨ub,0,none⟩) (digs 16777216 (val 16777216 zs))):=Lib.hid (by rw [← HTZ.out];exact HZ0.out.trimL)
 have HQQ:=Lib.hid hQ
 have HQL:=Lib.hid (Hc.lt (show Hc wr qb 3 _ from hQ))
 have HQD:=Lib.hid hqd
 clear hmL hI hlt hend hC hZ hQ hzd hqd hzl hql HPO HUB3 HQB3 HRV3 hv8
 go_wp2_with fail
 go_region_held3 (fun W=>W.cell? ⟨w.heap.size,0,none⟩=some (.int .i64 (f:Int)))
  (first | assumption | exact hF' | go_keep)
  (first
   | (go_at_call 107;refine (HT1 _ (RdAt.drew HZ0.out)).out.mono ?_;rintro e w' ⟨rfl,rfl⟩)
   | (go_at_call 216;refine (HSH _ (RdAt.drew HZ1.out)).out.mono ?_;rintro e W5 ⟨R5,c5,rfl,hc5,hr5,hb5⟩;have hF5:=below_cell hb5 hF' (by have:=HFW.out;simpa using this)))
 have hbl5:=(below_drewN hbl 1).trans (hb5.mono (by have:=hbl.size;simpa using this))
 have hQ5:Hid (Blk W5 .i64 3 qb qs):=Lib.hid ((HQQ.out.drewN 1).below hb5 (by have:=HQL.out;simpa using this))
 have HR5:=Lib.hid hr5
 have HT3:=Lib.hid (Rtrim_any (some ⟨qb,0,none⟩) L L qs W5 (by rw [Hid,HQL2.out]) (Lib.hid hQ5.out.rd) (by omega) (Nat.le_refl _))
 clear hb5 hr5 hF' hF5 hbl
 go_wp2_with fail
 refine HT3.out.mono ?_
 rintro e W6 ⟨rfl,rfl⟩
 go_wp2_with fail
 go_ret2
 have hq:trimL qs=digs 16777216 (x / y):=by rw [← digs_val (by decide) HQD.out,HE1.out]
 have hr:val 16777216 zs / f=x % y:=by rw [HE2.out,Nat.mul_div_cancel _ hf0]
 rw [hr] at HR5 hc5 ⊢
 refine ⟨some ⟨qb,0,none⟩,L,R5,c5,ret_slices (by rw [hq]) rfl,?_,hc5,?_,HR5.out,hbl5⟩
 ·rw [← hq,← HQL2.out];exact trimL_length_le qs
 ·rw [← hq];exact hQ5.out.rd.trimL

theorem Rdivide_any (A B:Option Addr) (c d x y:Nat) (w:World) (hx:RdAt w .i64 A (digs 16777216 x)) (hy:RdAt w .i64 B (digs 16777216 y)) (hl:(digs 16777216 x).length≤400000000) (hm:(digs 16777216 y).length≤400000000) (hc:(digs 16777216 x).length≤c) (hy0:0<y) :
  Calls Tryz.prog 168 #[.slice A (digs 16777216 x).length c,.slice B (digs 16777216 y).length d] w (RetRDiv (x / y) (x % y) w):=by
 rcases Nat.lt_or_ge x y with h | h
 ·exact Rdivide_less A B c d x y w hx hy (by omega) (by omega) hc h
 ·have h0:=digs_ne (show y≠0 by omega)
  by_cases h1:(digs 16777216 y).length=1
  ·exact Rdivide_one A B c d x y w hx hy (by omega) h1 h
  ·have h2:=digs_len_mono (B:=16777216) (by decide) h
   obtain ⟨n,hn⟩:∃ n,(digs 16777216 y).length=n+2:=⟨(digs 16777216 y).length - 2,by omega⟩
   obtain ⟨e,he⟩:∃ e,(digs 16777216 x).length=n+2+e:=⟨(digs 16777216 x).length - (n+2),by omega⟩
   rw [he,hn]
   exact Rdivide_long A B c d n e x y w hx hy he hn (by omega) h

theorem quo_run (x y:Int) (w:World) (h:y≠0) (hx:x.natAbs<72057594037927936):(Op.intDiv .quo .i64 x y).run Tryz.prog w = .ok (.int .i64 (x.tdiv y)) w:=by
 have h1:(x.tdiv y).natAbs≤x.natAbs:=by rw [Int.natAbs_tdiv];exact Nat.div_le_self _ _
 unfold Op.intDiv
 rw [if_neg h]
 simp only
 generalize x.tdiv y=z at *
 rw [wr64 (by omega) (by omega)]
 rfl
theorem rem_run (x y:Int) (w:World) (h:y≠0):(Op.intDiv .rem .i64 x y).run Tryz.prog w = .ok (.int .i64 (x.tmod y)) w:=by
 unfold Op.intDiv
 rw [if_neg h]
 rfl
theorem mg_eq_no {y:Int} (h:y≠0):((mg y).toList == (ByteArray.mk #[]).toList)=false:=by
 have:=(mg_full h).2
 rw [show (ByteArray.mk #[]).toList = [] from by rw [← mg_zero];exact (mg_empty (z:=0) rfl).1]
 cases hh:(mg y).toList with
 | nil=>rw [hh] at this;cases this
 | cons a l=>rfl
theorem RDM_even (x y:Int) (w:World) (hx:(mg x).size≤7) (hy:(mg y).size≤7) (h0:y≠0) (hr:x.tmod y=0):Calls Tryz.prog 117 #[vI x,vI y] w (RetIIE (x.tdiv y) 0 0 w):=by
 have px:=small_bd7 hx
 have hbl:((x.tdiv y)).natAbs≤x.natAbs:=by rw [Int.natAbs_tdiv];exact Nat.div_le_self _ _
 have hm:x.tdiv y * y=x:=by have:=Int.mul_tdiv_add_tmod x y;rw [hr,Int.add_zero,Int.mul_comm] at this;exact this
 have hne:(x.tmod y != 0)=false:=by rw [hr];rfl
 have h7:decide (((mg y).size:Int)≤7)=true:=decide_eq_true (by omega)
 have H1:=fun w=>ROf_any (x.tdiv y) w (by omega) (by omega)
 have H2:=fun w=>ROf_any 0 w (by omega) (by omega)
 have w1:IntKind.i64.wrap (x.tdiv y * y)=x:=by rw [hm];exact wr64 (by omega) (by omega)
 have w2:IntKind.i64.wrap (x - x)=0:=by rw [Int.sub_self];rfl
 have hb:=mg_eq_no h0
 show Calls Tryz.prog 117 #[.agg #[.bool (sg x),.string (mg x)],.agg #[.bool (sg y),.string (mg y)]] w (RetV (.tuple #[vI (x.tdiv y),vI 0,.int .i64 0]) w)
 exact vm_pure kr Tryz.func117 rfl [.agg #[.bool (sg x),.string (mg x)],.agg #[.bool (sg y),.string (mg y)]] nle [(8,2),(9,2),(11,5),(11,6)] [.f,.f,.f,.f,.f,(.p _ false hb),.t,.t,.t,.t,.t,(.p _ true h7),(.p _ false hne),(.p _ false hne),(.p _ false hne),(.p _ false hne),(.p _ false hne),(.p _ false hne),.f] [cV (RValid_yes x),cV (RValid_yes y),cV (fun w=>Rsmall_yes x w hx),cV (fun w=>Rsmall_yes y w hy),lV (Op.intDiv .quo .i64 ((x):Int) ((y):Int)) (.int .i64 (x.tdiv y)) (fun w hC=>quo_run x y w h0 px),lV (Op.intDiv .rem .i64 ((x):Int) ((y):Int)) (.int .i64 (x.tmod y)) (fun w hC=>rem_run x y w h0),cV (H1),lE .i64 (((x.tdiv y):Int) * ((y):Int)) (x) (w1),lE .i64 (((x):Int) - ((x):Int)) (0) (w2),cV (H2)]
theorem RDM_odd_tt (x y:Int) (w:World) (hx:(mg x).size≤7) (hy:(mg y).size≤7) (h0:y≠0) (hr:x.tmod y≠0) (hp:decide (x<0)=true) (hq:decide (y<0)=true):Calls Tryz.prog 117 #[vI x,vI y] w (RetIIE (x.tdiv y) (x - (x.tdiv y) * y) 0 w):=by
 have px:=small_bd7 hx
 have py:=small_bd7 hy
 have hbl:((x.tdiv y)).natAbs≤x.natAbs:=by rw [Int.natAbs_tdiv];exact Nat.div_le_self _ _
 have hm:x.tdiv y * y+x.tmod y=x:=by have:=Int.mul_tdiv_add_tmod x y;rwa [Int.mul_comm] at this
 have hml:(x.tmod y).natAbs≤x.natAbs:=by rw [Int.natAbs_tmod];exact Nat.mod_le _ _
 have hne:(x.tmod y != 0)=true:=by simpa using hr
 have h7:decide (((mg y).size:Int)≤7)=true:=decide_eq_true (by omega)
 have hd:(x.tdiv y - 1) * y=x.tdiv y * y - y:=by rw [Int.sub_mul,Int.one_mul]
 have hb:=mg_eq_no h0
 obtain ⟨T,hT⟩:∃ T,T=x.tdiv y:=⟨_,rfl⟩
 obtain ⟨U,hU⟩:∃ U,U=T * y:=⟨_,rfl⟩
 have hQ1:=fun w=>quo_run x y w h0 px
 rw [← hT] at hbl hm hd hQ1 ⊢
 have H1:=fun w=>ROf_any (T) w (by omega) (by omega)
 have hUx:U=x - x.tmod y:=by rw [hU];omega
 rw [← hU]
 have H2:=fun w=>ROf_any (x - U) w (by omega) (by omega)
 have w1:IntKind.i64.wrap (T * y)=U:=by rw [← hU];exact wr64 (by omega) (by omega)
 have w2:IntKind.i64.wrap (x - U)=x - U:=wr64 (by omega) (by omega)
 have w3:IntKind.i64.wrap (T - 1)=T - 1:=wr64 (by omega) (by omega)
 show Calls Tryz.prog 117 #[.agg #[.bool (sg x),.string (mg x)],.agg #[.bool (sg y),.string (mg y)]] w (RetV (.tuple #[vI (T),vI (x - U),.int .i64 0]) w)
 exact vm_pure kr Tryz.func117 rfl [.agg #[.bool (sg x),.string (mg x)],.agg #[.bool (sg y),.string (mg y)]] nle [(8,2),(9,2),(9,6),(9,8),(11,5),(11,6)] [.f,.f,.f,.f,.f,(.p _ false hb),.t,.t,.t,.t,.t,(.p _ true h7),(.p _ true hne),(.p _ true hne),(.p _ true hne),(.p _ true hne),(.p _ true hne),(.p _ true hne),.f] [cV (RValid_yes x),cV (RValid_yes y),cV (fun w=>Rsmall_yes x w hx),cV (fun w=>Rsmall_yes y w hy),lV (Op.intDiv .quo .i64 ((x):Int) ((y):Int)) (.int .i64 (T)) (fun w hC=>hQ1 w),lV (Op.intDiv .rem .i64 ((x):Int) ((y):Int)) (.int .i64 (x.tmod y)) (fun w hC=>rem_run x y w h0),lP (.bool (decide (x<0))) (.bool true) (congrArg Value.bool hp),lP (.bool (decide (y<0))) (.bool true) (congrArg Value.bool hq),cV (H1),lE .i64 (((T):Int) * ((y):Int)) (U) (w1),lE .i64 (((x):Int) - ((U):Int)) (x - U) (w2),cV (H2)]
theorem RDM_odd_ff (x y:Int) (w:World) (hx:(mg x).size≤7) (hy:(mg y).size≤7) (h0:y≠0) (hr:x.tmod y≠0) (hp:decide (x<0)=false) (hq:decide (y<0)=false):Calls Tryz.prog 117 #[vI x,vI y] w (RetIIE (x.tdiv y) (x - (x.tdiv y) * y) 0 w):=by
 have px:=small_bd7 hx
 have py:=small_bd7 hy
 have hbl:((x.tdiv y)).natAbs≤x.natAbs:=by rw [Int.natAbs_tdiv];exact Nat.div_le_self _ _
 have hm:x.tdiv y * y+x.tmod y=x:=by have:=Int.mul_tdiv_add_tmod x y;rwa [Int.mul_comm] at this
 have hml:(x.tmod y).natAbs≤x.natAbs:=by rw [Int.natAbs_tmod];exact Nat.mod_le _ _
 have hne:(x.tmod y != 0)=true:=by simpa using hr
 have h7:decide (((mg y).size:Int)≤7)=true:=decide_eq_true (by omega)
 have hd:(x.tdiv y - 1) * y=x.tdiv y * y - y:=by rw [Int.sub_mul,Int.one_mul]
 have hb:=mg_eq_no h0
 obtain ⟨T,hT⟩:∃ T,T=x.tdiv y:=⟨_,rfl⟩
 obtain ⟨U,hU⟩:∃ U,U=T * y:=⟨_,rfl⟩
 have hQ1:=fun w=>quo_run x y w h0 px
 rw [← hT] at hbl hm hd hQ1 ⊢
 have H1:=fun w=>ROf_any (T) w (by omega) (by omega)
 have hUx:U=x - x.tmod y:=by rw [hU];omega
 rw [← hU]
 have H2:=fun w=>ROf_any (x - U) w (by omega) (by omega)
 have w1:IntKind.i64.wrap (T * y)=U:=by rw [← hU];exact wr64 (by omega) (by omega)
 have w2:IntKind.i64.wrap (x - U)=x - U:=wr64 (by omega) (by omega)
 have w3:IntKind.i64.wrap (T - 1)=T - 1:=wr64 (by omega) (by omega)
 show Calls Tryz.prog 117 #[.agg #[.bool (sg x),.string (mg x)],.agg #[.bool (sg y),.string (mg y)]] w (RetV (.tuple #[vI (T),vI (x - U),.int .i64 0]) w)
 exact vm_pure kr Tryz.func117 rfl [.agg #[.bool (sg x),.string (mg x)],.agg #[.bool (sg y),.string (mg y)]] nle [(8,2),(9,2),(9,6),(9,8),(11,5),(11,6)] [.f,.f,.f,.f,.f,(.p _ false hb),.t,.t,.t,.t,.t,(.p _ true h7),(.p _ true hne),(.p _ true hne),(.p _ true hne),(.p _ true hne),(.p _ true hne),(.p _ true hne),.f] [cV (RValid_yes x),cV (RValid_yes y),cV (fun w=>Rsmall_yes x w hx),cV (fun w=>Rsmall_yes y w hy),lV (Op.intDiv .quo .i64 ((x):Int) ((y):Int)) (.int .i64 (T)) (fun w hC=>hQ1 w),lV (Op.intDiv .rem .i64 ((x):Int) ((y):Int)) (.int .i64 (x.tmod y)) (fun w hC=>rem_run x y w h0),lP (.bool (decide (x<0))) (.bool false) (congrArg Value.bool hp),lP (.bool (decide (y<0))) (.bool false) (congrArg Value.bool hq),cV (H1),lE .i64 (((T):Int) * ((y):Int)) (U) (w1),lE .i64 (((x):Int) - ((U):Int)) (x - U) (w2),cV (H2)]
theorem RDM_odd_tf (x y:Int) (w:World) (hx:(mg x).size≤7) (hy:(mg y).size≤7) (h0:y≠0) (hr:x.tmod y≠0) (hp:decide (x<0)=true) (hq:decide (y<0)=false):Calls Tryz.prog 117 #[vI x,vI y] w (RetIIE (x.tdiv y - 1) (x - (x.tdiv y - 1) * y) 0 w):=by
 have px:=small_bd7 hx
 have py:=small_bd7 hy
 have hbl:((x.tdiv y)).natAbs≤x.natAbs:=by rw [Int.natAbs_tdiv];exact Nat.div_le_self _ _
 have hm:x.tdiv y * y+x.tmod y=x:=by have:=Int.mul_tdiv_add_tmod x y;rwa [Int.mul_comm] at this
 have hml:(x.tmod y).natAbs≤x.natAbs:=by rw [Int.natAbs_tmod];exact Nat.mod_le _ _
 have hne:(x.tmod y != 0)=true:=by simpa using hr
 have h7:decide (((mg y).size:Int)≤7)=true:=decide_eq_true (by omega)
 have hd:(x.tdiv y - 1) * y=x.tdiv y * y - y:=by rw [Int.sub_mul,Int.one_mul]
 have hb:=mg_eq_no h0
 obtain ⟨T,hT⟩:∃ T,T=x.tdiv y:=⟨_,rfl⟩
 obtain ⟨U,hU⟩:∃ U,U=(T - 1) * y:=⟨_,rfl⟩
 have hQ1:=fun w=>quo_run x y w h0 px
 rw [← hT] at hbl hm hd hQ1 ⊢
 have H1:=fun w=>ROf_any ((T - 1)) w (by omega) (by omega)
 have hUx:U=x - x.tmod y - y:=by rw [hU];rw [hd];omega
 rw [← hU]
 have H2:=fun w=>ROf_any (x - U) w (by omega) (by omega)
 have w1:IntKind.i64.wrap ((T - 1) * y)=U:=by rw [← hU];exact wr64 (by omega) (by omega)
 have w2:IntKind.i64.wrap (x - U)=x - U:=wr64 (by omega) (by omega)
 have w3:IntKind.i64.wrap (T - 1)=T - 1:=wr64 (by omega) (by omega)
 show Calls Tryz.prog 117 #[.agg #[.bool (sg x),.string (mg x)],.agg #[.bool (sg y),.string (mg y)]] w (RetV (.tuple #[vI ((T - 1)),vI (x - U),.int .i64 0]) w)
 exact vm_pure kr Tryz.func117 rfl [.agg #[.bool (sg x),.string (mg x)],.agg #[.bool (sg y),.string (mg y)]] nle [(8,2),(9,2),(9,6),(9,8),(10,1),(11,5),(11,6)] [.f,.f,.f,.f,.f,(.p _ false hb),.t,.t,.t,.t,.t,(.p _ true h7),(.p _ true hne),(.p _ true hne),(.p _ true hne),(.p _ true hne),(.p _ true hne),(.p _ true hne),.t] [cV (RValid_yes x),cV (RValid_yes y),cV (fun w=>Rsmall_yes x w hx),cV (fun w=>Rsmall_yes y w hy),lV (Op.intDiv .quo .i64 ((x):Int) ((y):Int)) (.int .i64 (T)) (fun w hC=>hQ1 w),lV (Op.intDiv .rem .i64 ((x):Int) ((y):Int)) (.int .i64 (x.tmod y)) (fun w hC=>rem_run x y w h0),lP (.bool (decide (x<0))) (.bool true) (congrArg Value.bool hp),lP (.bool (decide (y<0))) (.bool false) (congrArg Value.bool hq),lE .i64 (((T):Int) - ((1):Int)) (T - 1) (w3),cV (H1),lE .i64 (((T - 1):Int) * ((y):Int)) (U) (w1),lE .i64 (((x):Int) - ((U):Int)) (x - U) (w2),cV (H2)]
theorem RDM_odd_ft (x y:Int) (w:World) (hx:(mg x).size≤7) (hy:(mg y).size≤7) (h0:y≠0) (hr:x.tmod y≠0) (hp:decide (x<0)=false) (hq:decide (y<0)=true):Calls Tryz.prog 117 #[vI x,vI y] w (RetIIE (x.tdiv y - 1) (x - (x.tdiv y - 1) * y) 0 w):=by
 have px:=small_bd7 hx
 have py:=small_bd7 hy
 have hbl:((x.tdiv y)).natAbs≤x.natAbs:=by rw [Int.natAbs_tdiv];exact Nat.div_le_self _ _
 have hm:x.tdiv y * y+x.tmod y=x:=by have:=Int.mul_tdiv_add_tmod x y;rwa [Int.mul_comm] at this
 have hml:(x.tmod y).natAbs≤x.natAbs:=by rw [Int.natAbs_tmod];exact Nat.mod_le _ _
 have hne:(x.tmod y != 0)=true:=by simpa using hr
 have h7:decide (((mg y).size:Int)≤7)=true:=decide_eq_true (by omega)
 have hd:(x.tdiv y - 1) * y=x.tdiv y * y - y:=by rw [Int.sub_mul,Int.one_mul]
 have hb:=mg_eq_no h0
 obtain ⟨T,hT⟩:∃ T,T=x.tdiv y:=⟨_,rfl⟩
 obtain ⟨U,hU⟩:∃ U,U=(T - 1) * y:=⟨_,rfl⟩
 have hQ1:=fun w=>quo_run x y w h0 px
 rw [← hT] at hbl hm hd hQ1 ⊢
 have H1:=fun w=>ROf_any ((T - 1)) w (by omega) (by omega)
 have hUx:U=x - x.tmod y - y:=by rw [hU];rw [hd];omega
 rw [← hU]
 have H2:=fun w=>ROf_any (x - U) w (by omega) (by omega)
 have w1:IntKind.i64.wrap ((T - 1) * y)=U:=by rw [← hU];exact wr64 (by omega) (by omega)
 have w2:IntKind.i64.wrap (x - U)=x - U:=wr64 (by omega) (by omega)
 have w3:IntKind.i64.wrap (T - 1)=T - 1:=wr64 (by omega) (by omega)
 show Calls Tryz.prog 117 #[.agg #[.bool (sg x),.string (mg x)],.agg #[.bool (sg y),.string (mg y)]] w (RetV (.tuple #[vI ((T - 1)),vI (x - U),.int .i64 0]) w)
 exact vm_pure kr Tryz.func117 rfl [.agg #[.bool (sg x),.string (mg x)],.agg #[.bool (sg y),.string (mg y)]] nle [(8,2),(9,2),(9,6),(9,8),(10,1),(11,5),(11,6)] [.f,.f,.f,.f,.f,(.p _ false hb),.t,.t,.t,.t,.t,(.p _ true h7),(.p _ true hne),(.p _ true hne),(.p _ true hne),(.p _ true hne),(.p _ true hne),(.p _ true hne),.t] [cV (RValid_yes x),cV (RValid_yes y),cV (fun w=>Rsmall_yes x w hx),cV (fun w=>Rsmall_yes y w hy),lV (Op.intDiv .quo .i64 ((x):Int) ((y):Int)) (.int .i64 (T)) (fun w hC=>hQ1 w),lV (Op.intDiv .rem .i64 ((x):Int) ((y):Int)) (.int .i64 (x.tmod y)) (fun w hC=>rem_run x y w h0),lP (.bool (decide (x<0))) (.bool false) (congrArg Value.bool hp),lP (.bool (decide (y<0))) (.bool true) (congrArg Value.bool hq),lE .i64 (((T):Int) - ((1):Int)) (T - 1) (w3),cV (H1),lE .i64 (((T - 1):Int) * ((y):Int)) (U) (w1),lE .i64 (((x):Int) - ((U):Int)) (x - U) (w2),cV (H2)]
theorem RDM_small (x y:Int) (w:World) (hx:(mg x).size≤7) (hy:(mg y).size≤7) (h0:y≠0):Calls Tryz.prog 117 #[vI x,vI y] w (RetIIE (x.fdiv y) (x.fmod y) 0 w):=by
 have hm:x.tdiv y * y+x.tmod y=x:=by have:=Int.mul_tdiv_add_tmod x y;rwa [Int.mul_comm] at this
 by_cases hr:x.tmod y=0
 ·have hf:=fdiv_same h0 (.inl hr)
  rw [hf.1,hf.2,hr]
  exact RDM_even x y w hx hy h0 hr
 ·by_cases hp:x<0
  ·by_cases hq:y<0
   ·have hf:=fdiv_same h0 (x:=x) (.inr (by unfold sg;rw [decide_eq_true hp,decide_eq_true hq]))
    rw [hf.1,hf.2,show x.tmod y=x - x.tdiv y * y by omega]
    exact RDM_odd_tt x y w hx hy h0 hr (decide_eq_true hp) (decide_eq_true hq)
   ·have hf:=fdiv_less h0 hr (by unfold sg;rw [decide_eq_true hp,decide_eq_false hq];decide)
    have hd:(x.tdiv y - 1) * y=x.tdiv y * y - y:=by rw [Int.sub_mul,Int.one_mul]
    rw [hf.1,hf.2,show x.tmod y+y=x - (x.tdiv y - 1) * y by omega]
    exact RDM_odd_tf x y w hx hy h0 hr (decide_eq_true hp) (decide_eq_false hq)
  ·by_cases hq:y<0
   ·have hf:=fdiv_less h0 hr (by unfold sg;rw [decide_eq_false hp,decide_eq_true hq];decide)
    have hd:(x.tdiv y - 1) * y=x.tdiv y * y - y:=by rw [Int.sub_mul,Int.one_mul]
    rw [hf.1,hf.2,show x.tmod y+y=x - (x.tdiv y - 1) * y by omega]
    exact RDM_odd_ft x y w hx hy h0 hr (decide_eq_false hp) (decide_eq_true hq)
   ·have hf:=fdiv_same h0 (x:=x) (.inr (by unfold sg;rw [decide_eq_false hp,decide_eq_false hq]))
    rw [hf.1,hf.2,show x.tmod y=x - x.tdiv y * y by omega]
    exact RDM_odd_ff x y w hx hy h0 hr (decide_eq_false hp) (decide_eq_false hq)

theorem fdm_same {x y:Int} (hy:y≠0) (h:sg x=sg y):x.fdiv y=sgnd false (x.natAbs / y.natAbs)∧x.fmod y=sgnd (sg y) (x.natAbs % y.natAbs):=by
 have h1:=fdiv_same hy (.inr h)
 have h2:=tdiv_sgnd x y
 have h3:=tmod_sgnd x y
 rw [h1.1,h1.2,← h2,← h3,h]
 simp
theorem fdm_none {x y:Int} (hy:y≠0) (hs:sg x≠sg y) (hr:x.tmod y=0):x.fdiv y=sgnd true (x.natAbs / y.natAbs)∧x.fmod y=sgnd (sg y) (x.natAbs % y.natAbs):=by
 have h1:=fdiv_same hy (.inl hr)
 have h2:=tdiv_sgnd x y
 have h3:x.natAbs % y.natAbs=0:=by rw [← Int.natAbs_tmod,hr];rfl
 have h4:(sg x == sg y)=false:=by simpa using hs
 rw [h1.1,h1.2,← h2,h3,hr,h4]
 refine ⟨rfl,?_⟩
 unfold sgnd
 split <;> rfl
theorem fdm_less {x y:Int} (hy:y≠0) (hs:sg x≠sg y) (hr:x.tmod y≠0):x.fdiv y=sgnd true (x.natAbs / y.natAbs+1)∧x.fmod y=sgnd (sg y) (y.natAbs - x.natAbs % y.natAbs):=by
 have h1:=fdiv_less hy hr hs
 have h2:=tdiv_sgnd x y
 have h3:=tmod_sgnd x y
 have h4:(sg x == sg y)=false:=by simpa using hs
 have hm:=Nat.mod_lt x.natAbs (show 0<y.natAbs by omega)
 rw [h4] at h2
 rw [h1.1,h1.2,← h2,← h3]
 generalize x.natAbs % y.natAbs=r at *
 generalize x.natAbs / y.natAbs=q at *
 clear h1 h2 h3 hr h4
 unfold sg at hs ⊢
 unfold sgnd
 by_cases h5:x<0 <;> by_cases h6:y<0
 ·simp [h5,h6] at hs
 ·simp only [h5,h6,decide_true,decide_false,if_true]
  constructor <;> simp <;> omega
 ·simp only [h5,h6,decide_true,decide_false,if_true]
  constructor <;> simp <;> omega
 ·simp [h5,h6] at hs
theorem len_none {x y:Int} (h:x.tmod y=0):¬ (0<((digs 16777216 (x.natAbs % y.natAbs)).length:Int)):=by
 have h3:x.natAbs % y.natAbs=0:=by rw [← Int.natAbs_tmod,h];rfl
 rw [h3]
 decide
theorem len_less {x y:Int} (h:x.tmod y≠0):0<((digs 16777216 (x.natAbs % y.natAbs)).length:Int):=by
 have h3:x.natAbs % y.natAbs≠0:=by rw [← Int.natAbs_tmod];omega
 have:=digs_ne h3
 omega
theorem digs24_one:digs 16777216 1 = [1]:=by
 first | decide | rfl | simp [digs]
theorem RDM_big_same (x y:Int) (w:World) (hx:Bd 80000000 x) (hy:Bd 80000000 y) (hbig:7<(mg x).size∨((mg x).size≤7∧7<(mg y).size)) (hy0:y≠0) (hs:sg x=sg y) :
  Calls Tryz.prog 117 #[vI x,vI y] w (RetIIE (x.fdiv y) (x.fmod y) 0 w):=by
 have h0:=Box4.new w 25 (.bool (sg x)) (.string (mg x)) (.bool (sg y)) (.string (mg y)) (.bool false) (.string ⟨#[]⟩) (.bool false) (.string ⟨#[]⟩)
 have HX:=fun W=>Lib.hid (Rdigits_mg x W (hx.mono (by omega)))
 have HY:=fun W=>Lib.hid (Rdigits_mg y W (hy.mono (by omega)))
 have lx:=hx.digs24
 have ly:=hy.digs24
 obtain ⟨e1,e2⟩:=mg_full hy0
 have hyp:0<y.natAbs:=by omega
 have HF:=Lib.hid (fdm_same hy0 hs)
 have hs1:(sg x == sg y)=true:=by simpa using hs
 have hs2:(sg x != sg y)=false:=by simpa using hs
 skip
 have lq:(digs 16777216 (x.natAbs / y.natAbs)).length≤80000000:=Nat.le_trans (digs_len_mono (by decide) (Nat.div_le_self _ _)) lx
 have lr:(digs 16777216 (x.natAbs % y.natAbs)).length≤80000000:=Nat.le_trans (digs_len_mono (by decide) (Nat.mod_le _ _)) lx
 have lq1:(digs 16777216 (x.natAbs / y.natAbs+1)).length≤100000000:=by
  have h1:Bd 80000000 (x.natAbs / y.natAbs:Nat):=hx.le (by rw [Int.natAbs_natCast];exact Nat.div_le_self _ _)
  have h2:=(h1.add (Bd.one (k:=80000000) (by omega))).digs24
  rw [show ((x.natAbs / y.natAbs:Nat):Int)+1=((x.natAbs / y.natAbs+1:Nat):Int) from rfl,Int.natAbs_natCast] at h2
  omega
 have lr1:(digs 16777216 (y.natAbs - x.natAbs % y.natAbs)).length≤80000000:=Nat.le_trans (digs_len_mono (by decide) (Nat.sub_le _ _)) ly
 have hb1:¬ ((mg x).size≤7)∨((mg x).size≤7∧¬ ((mg y).size:Int)≤7):=by omega
 clear hx hy hbig hy0 hs
 rcases hb1 with g1 | ⟨g1,g2⟩
 rotate_left 1
 focus
  have HS:=fun W=>Lib.hid (Rsmall_yes x W g1)
  clear g1
 rotate_left 1
 focus
  have HS:=fun W=>Lib.hid (Rsmall_no x W (by omega))
  clear g1
 all_goals
  go_enter Tryz.func117,Tryz.ntmps117
  go_wp2_with fail
  obtain ⟨W0,hW0⟩:∃ W0,W0=((((w.alloc (.cells #[.bool (sg x),.string (mg x)] 25)).alloc (.cells #[.bool (sg y),.string (mg y)] 25)).alloc (.cells #[.bool false,.string ⟨#[]⟩] 25)).alloc (.cells #[.bool false,.string ⟨#[]⟩] 25)):=⟨_,rfl⟩
  rw [← hW0] at h0 ⊢
  clear hW0
  refine (RValid_yes x W0).mono ?_
  rintro e W1 ⟨rfl,hb⟩
  have h1:=h0.below hb
  obtain ⟨y0,y1⟩:=h1.y.cells
  clear hb h0
  go_wp2_with fail
  refine (RValid_yes y W1).mono ?_
  rintro e W2 ⟨rfl,hb⟩
  have h2:=h1.below hb
  clear hb h1 y0 y1
  obtain ⟨x0,x1⟩:=h2.x.cells
  obtain ⟨y0,y1⟩:=h2.y.cells
  go_wp2_with fail
  refine (HS W2).out.mono ?_
  rintro e W3 ⟨rfl,hb⟩
  have h3:=h2.below hb
  clear hb h2 x0 x1 y0 y1
  obtain ⟨y0,y1⟩:=h3.y.cells
  go_wp2_with fail
  have hd:Box4 w W3.drew 25 (.bool (sg x)) (.string (mg x)) (.bool (sg y)) (.string (mg y)) (.bool false) (.string ⟨#[]⟩) (.bool false) (.string ⟨#[]⟩):=h3.drewN 1
  clear y0 y1 e1 e2
  go_region_held3 (fun W=>W.cell? ⟨w.heap.size,0,none⟩=some (.bool (sg x))∧W.cell? ⟨w.heap.size,1,none⟩=some (.string (mg x))∧W.cell? ⟨w.heap.size+1,0,none⟩=some (.bool (sg y))∧W.cell? ⟨w.heap.size+1,1,none⟩=some (.string (mg y)))
   (first | exact Box4.seen (by assumption))
   (first
    | (go_at_call_of 56 (Value.string (mg x));refine (HX _).out.mono ?_;rintro e W' ⟨A,c,rfl,hc1,hrx,hb⟩;have hS:=Box4.below (by assumption) hb)
    | (go_at_call_of 56 (Value.string (mg y));refine (HY _).out.mono ?_;rintro e W'' ⟨B,d,rfl,hc2,hry,hb2⟩;have hS2:=Box4.below (by assumption) hb2;have hrx2:=hrx.below hb2)
    | (go_at_call 168;refine (Rdivide_any A B c d _ _ _ hrx2 hry (by omega) (by omega) hc1 hyp).mono ?_;rintro e W4 ⟨C,k,D,l,rfl,hk,hl,hrq,hrr,hb3⟩;have hS3:=Box4.below (by assumption) hb3))
  have HQ:=Lib.hid hrq
  have HR:=Lib.hid hrr
  clear hrq hrr hrx hrx2 hry hS hS2 hb hb2 hb3 hd hc1 hc2
  obtain ⟨x0,x1⟩:=hS3.x.cells
  obtain ⟨y0,y1⟩:=hS3.y.cells
  go_wp2_with fail
  have HF1:=HF
  clear x0 x1 y0 y1
  have hd:=hS3.drew
  have HQ':=Lib.hid (HQ.out.drew)
  have HR':=Lib.hid (HR.out.drew)
  clear HQ HR hS3
  go_region_held3 (fun W=>W.cell? ⟨w.heap.size,0,none⟩=some (.bool (sg x))∧W.cell? ⟨w.heap.size,1,none⟩=some (.string (mg x))∧W.cell? ⟨w.heap.size+1,0,none⟩=some (.bool (sg y))∧W.cell? ⟨w.heap.size+1,1,none⟩=some (.string (mg y)))
   (first | with_reducible exact hd.seen | with_reducible exact hT5.seen | with_reducible exact hT6.seen | with_reducible exact (hT6.setq _ _).seen | with_reducible exact ((hT6.setq _ _).setr _ _).seen)
   (first
    | (go_at_call 57;refine (Rsigned_d D l (x.natAbs % y.natAbs) _ _ HR2 (by omega)).mono ?_;rintro e W6 ⟨rfl,hb6⟩;have hT6:=hT5.below hb6;obtain ⟨f0,f1⟩:=hT6.z.free;obtain ⟨z0,z1⟩:=hT6.z.cells;obtain ⟨g0,g1⟩:=hT6.u.free;obtain ⟨u0,u1⟩:=hT6.u.cells)
    | (go_at_call 57;refine (Rsigned_d C k (x.natAbs / y.natAbs) _ _ HQ'.out (by omega)).mono ?_;rintro e W5 ⟨rfl,hb5⟩;have hT5:=hd.below hb5;have HR2:=HR'.out.below hb5))
  go_wp2_with fail
  have hF:=(hT6.setq (.bool (sg (x.fdiv y))) (.string (mg (x.fdiv y)))).setr (.bool (sg (x.fmod y))) (.string (mg (x.fmod y)))
  rw [← HF.out.1,← HF.out.2]
  generalize World.setCell _ _ _=W9 at hF ⊢
  clear z0 z1 u0 u1 f0 f1 g0 g1
  obtain ⟨z0,z1⟩:=hF.z.cells
  obtain ⟨u0,u1⟩:=hF.u.cells
  exact bodyPost_ret (v:=.tuple #[vI (x.fdiv y),vI (x.fmod y),.int .i64 0]) (by simp [results,Tryz.results117,go_sem,vI,z0,z1,u0,u1]) rfl ⟨rfl,hF.b⟩
theorem RDM_big_none (x y:Int) (w:World) (hx:Bd 80000000 x) (hy:Bd 80000000 y) (hbig:7<(mg x).size∨((mg x).size≤7∧7<(mg y).size)) (hy0:y≠0) (hs:sg x≠sg y) (hr0:x.tmod y=0) :
  Calls Tryz.prog 117 #[vI x,vI y] w (RetIIE (x.fdiv y) (x.fmod y) 0 w):=by
 have h0:=Box4.new w 25 (.bool (sg x)) (.string (mg x)) (.bool (sg y)) (.string (mg y)) (.bool false) (.string ⟨#[]⟩) (.bool false) (.string ⟨#[]⟩)
 have HX:=fun W=>Lib.hid (Rdigits_mg x W (hx.mono (by omega)))
 have HY:=fun W=>Lib.hid (Rdigits_mg y W (hy.mono (by omega)))
 have lx:=hx.digs24
 have ly:=hy.digs24
 obtain ⟨e1,e2⟩:=mg_full hy0
 have hyp:0<y.natAbs:=by omega
 have HF:=Lib.hid (fdm_none hy0 hs hr0)
 have hs1:(sg x == sg y)=false:=by simpa using hs
 have hs2:(sg x != sg y)=true:=by simpa using hs
 have hlen:=len_none hr0
 have lq:(digs 16777216 (x.natAbs / y.natAbs)).length≤80000000:=Nat.le_trans (digs_len_mono (by decide) (Nat.div_le_self _ _)) lx
 have lr:(digs 16777216 (x.natAbs % y.natAbs)).length≤80000000:=Nat.le_trans (digs_len_mono (by decide) (Nat.mod_le _ _)) lx
 have lq1:(digs 16777216 (x.natAbs / y.natAbs+1)).length≤100000000:=by
  have h1:Bd 80000000 (x.natAbs / y.natAbs:Nat):=hx.le (by rw [Int.natAbs_natCast];exact Nat.div_le_self _ _)
  have h2:=(h1.add (Bd.one (k:=80000000) (by omega))).digs24
  rw [show ((x.natAbs / y.natAbs:Nat):Int)+1=((x.natAbs / y.natAbs+1:Nat):Int) from rfl,Int.natAbs_natCast] at h2
  omega
 have lr1:(digs 16777216 (y.natAbs - x.natAbs % y.natAbs)).length≤80000000:=Nat.le_trans (digs_len_mono (by decide) (Nat.sub_le _ _)) ly
 have hb1:¬ ((mg x).size≤7)∨((mg x).size≤7∧¬ ((mg y).size:Int)≤7):=by omega
 clear hx hy hbig hy0 hs
 rcases hb1 with g1 | ⟨g1,g2⟩
 rotate_left 1
 focus
  have HS:=fun W=>Lib.hid (Rsmall_yes x W g1)
  clear g1
 rotate_left 1
 focus
  have HS:=fun W=>Lib.hid (Rsmall_no x W (by omega))
  clear g1
 all_goals
  go_enter Tryz.func117,Tryz.ntmps117
  go_wp2_with fail
  obtain ⟨W0,hW0⟩:∃ W0,W0=((((w.alloc (.cells #[.bool (sg x),.string (mg x)] 25)).alloc (.cells #[.bool (sg y),.string (mg y)] 25)).alloc (.cells #[.bool false,.string ⟨#[]⟩] 25)).alloc (.cells #[.bool false,.string ⟨#[]⟩] 25)):=⟨_,rfl⟩
  rw [← hW0] at h0 ⊢
  clear hW0
  refine (RValid_yes x W0).mono ?_
  rintro e W1 ⟨rfl,hb⟩
  have h1:=h0.below hb
  obtain ⟨y0,y1⟩:=h1.y.cells
  clear hb h0
  go_wp2_with fail
  refine (RValid_yes y W1).mono ?_
  rintro e W2 ⟨rfl,hb⟩
  have h2:=h1.below hb
  clear hb h1 y0 y1
  obtain ⟨x0,x1⟩:=h2.x.cells
  obtain ⟨y0,y1⟩:=h2.y.cells
  go_wp2_with fail
  refine (HS W2).out.mono ?_
  rintro e W3 ⟨rfl,hb⟩
  have h3:=h2.below hb
  clear hb h2 x0 x1 y0 y1
  obtain ⟨y0,y1⟩:=h3.y.cells
  go_wp2_with fail
  have hd:Box4 w W3.drew 25 (.bool (sg x)) (.string (mg x)) (.bool (sg y)) (.string (mg y)) (.bool false) (.string ⟨#[]⟩) (.bool false) (.string ⟨#[]⟩):=h3.drewN 1
  clear y0 y1 e1 e2
  go_region_held3 (fun W=>W.cell? ⟨w.heap.size,0,none⟩=some (.bool (sg x))∧W.cell? ⟨w.heap.size,1,none⟩=some (.string (mg x))∧W.cell? ⟨w.heap.size+1,0,none⟩=some (.bool (sg y))∧W.cell? ⟨w.heap.size+1,1,none⟩=some (.string (mg y)))
   (first | exact Box4.seen (by assumption))
   (first
    | (go_at_call_of 56 (Value.string (mg x));refine (HX _).out.mono ?_;rintro e W' ⟨A,c,rfl,hc1,hrx,hb⟩;have hS:=Box4.below (by assumption) hb)
    | (go_at_call_of 56 (Value.string (mg y));refine (HY _).out.mono ?_;rintro e W'' ⟨B,d,rfl,hc2,hry,hb2⟩;have hS2:=Box4.below (by assumption) hb2;have hrx2:=hrx.below hb2)
    | (go_at_call 168;refine (Rdivide_any A B c d _ _ _ hrx2 hry (by omega) (by omega) hc1 hyp).mono ?_;rintro e W4 ⟨C,k,D,l,rfl,hk,hl,hrq,hrr,hb3⟩;have hS3:=Box4.below (by assumption) hb3))
  have HQ:=Lib.hid hrq
  have HR:=Lib.hid hrr
  clear hrq hrr hrx hrx2 hry hS hS2 hb hb2 hb3 hd hc1 hc2
  obtain ⟨x0,x1⟩:=hS3.x.cells
  obtain ⟨y0,y1⟩:=hS3.y.cells
  go_wp2_with fail
  have HF1:=HF
  clear x0 x1 y0 y1
  have hd:=hS3.drew
  have HQ':=Lib.hid (HQ.out.drew)
  have HR':=Lib.hid (HR.out.drew)
  clear HQ HR hS3
  go_region_held3 (fun W=>W.cell? ⟨w.heap.size,0,none⟩=some (.bool (sg x))∧W.cell? ⟨w.heap.size,1,none⟩=some (.string (mg x))∧W.cell? ⟨w.heap.size+1,0,none⟩=some (.bool (sg y))∧W.cell? ⟨w.heap.size+1,1,none⟩=some (.string (mg y)))
   (first | with_reducible exact hd.seen | with_reducible exact hT5.seen | with_reducible exact hT6.seen | with_reducible exact (hT6.setq _ _).seen | with_reducible exact ((hT6.setq _ _).setr _ _).seen)
   (first
    | (go_at_call 57;refine (Rsigned_d D l (x.natAbs % y.natAbs) _ _ HR2 (by omega)).mono ?_;rintro e W6 ⟨rfl,hb6⟩;have hT6:=hT5.below hb6;obtain ⟨f0,f1⟩:=hT6.z.free;obtain ⟨z0,z1⟩:=hT6.z.cells;obtain ⟨g0,g1⟩:=hT6.u.free;obtain ⟨u0,u1⟩:=hT6.u.cells)
    | (go_at_call 57;refine (Rsigned_d C k (x.natAbs / y.natAbs) _ _ HQ'.out (by omega)).mono ?_;rintro e W5 ⟨rfl,hb5⟩;have hT5:=hd.below hb5;have HR2:=HR'.out.below hb5))
  go_wp2_with fail
  have hF:=(hT6.setq (.bool (sg (x.fdiv y))) (.string (mg (x.fdiv y)))).setr (.bool (sg (x.fmod y))) (.string (mg (x.fmod y)))
  rw [← HF.out.1,← HF.out.2]
  generalize World.setCell _ _ _=W9 at hF ⊢
  clear z0 z1 u0 u1 f0 f1 g0 g1
  obtain ⟨z0,z1⟩:=hF.z.cells
  obtain ⟨u0,u1⟩:=hF.u.cells
  exact bodyPost_ret (v:=.tuple #[vI (x.fdiv y),vI (x.fmod y),.int .i64 0]) (by simp [results,Tryz.results117,go_sem,vI,z0,z1,u0,u1]) rfl ⟨rfl,hF.b⟩
theorem RDM_big_less (x y:Int) (w:World) (hx:Bd 80000000 x) (hy:Bd 80000000 y) (hbig:7<(mg x).size∨((mg x).size≤7∧7<(mg y).size)) (hy0:y≠0) (hs:sg x≠sg y) (hr0:x.tmod y≠0) :
  Calls Tryz.prog 117 #[vI x,vI y] w (RetIIE (x.fdiv y) (x.fmod y) 0 w):=by
 have h0:=Box4.new w 25 (.bool (sg x)) (.string (mg x)) (.bool (sg y)) (.string (mg y)) (.bool false) (.string ⟨#[]⟩) (.bool false) (.string ⟨#[]⟩)
 have HX:=fun W=>Lib.hid (Rdigits_mg x W (hx.mono (by omega)))
 have HY:=fun W=>Lib.hid (Rdigits_mg y W (hy.mono (by omega)))
 have lx:=hx.digs24
 have ly:=hy.digs24
 obtain ⟨e1,e2⟩:=mg_full hy0
 have hyp:0<y.natAbs:=by omega
 have HF:=Lib.hid (fdm_less hy0 hs hr0)
 have hs1:(sg x == sg y)=false:=by simpa using hs
 have hs2:(sg x != sg y)=true:=by simpa using hs
 have hlen:=len_less hr0
 have lq:(digs 16777216 (x.natAbs / y.natAbs)).length≤80000000:=Nat.le_trans (digs_len_mono (by decide) (Nat.div_le_self _ _)) lx
 have lr:(digs 16777216 (x.natAbs % y.natAbs)).length≤80000000:=Nat.le_trans (digs_len_mono (by decide) (Nat.mod_le _ _)) lx
 have lq1:(digs 16777216 (x.natAbs / y.natAbs+1)).length≤100000000:=by
  have h1:Bd 80000000 (x.natAbs / y.natAbs:Nat):=hx.le (by rw [Int.natAbs_natCast];exact Nat.div_le_self _ _)
  have h2:=(h1.add (Bd.one (k:=80000000) (by omega))).digs24
  rw [show ((x.natAbs / y.natAbs:Nat):Int)+1=((x.natAbs / y.natAbs+1:Nat):Int) from rfl,Int.natAbs_natCast] at h2
  omega
 have lr1:(digs 16777216 (y.natAbs - x.natAbs % y.natAbs)).length≤80000000:=Nat.le_trans (digs_len_mono (by decide) (Nat.sub_le _ _)) ly
 have hb1:¬ ((mg x).size≤7)∨((mg x).size≤7∧¬ ((mg y).size:Int)≤7):=by omega
 clear hx hy hbig hy0 hs
 rcases hb1 with g1 | ⟨g1,g2⟩
 rotate_left 1
 focus
  have HS:=fun W=>Lib.hid (Rsmall_yes x W g1)
  clear g1
 rotate_left 1
 focus
  have HS:=fun W=>Lib.hid (Rsmall_no x W (by omega))
  clear g1
 all_goals
  go_enter Tryz.func117,Tryz.ntmps117
  go_wp2_with fail
  obtain ⟨W0,hW0⟩:∃ W0,W0=((((w.alloc (.cells #[.bool (sg x),.string (mg x)] 25)).alloc (.cells #[.bool (sg y),.string (mg y)] 25)).alloc (.cells #[.bool false,.string ⟨#[]⟩] 25)).alloc (.cells #[.bool false,.string ⟨#[]⟩] 25)):=⟨_,rfl⟩
  rw [← hW0] at h0 ⊢
  clear hW0
  refine (RValid_yes x W0).mono ?_
  rintro e W1 ⟨rfl,hb⟩
  have h1:=h0.below hb
  obtain ⟨y0,y1⟩:=h1.y.cells
  clear hb h0
  go_wp2_with fail
  refine (RValid_yes y W1).mono ?_
  rintro e W2 ⟨rfl,hb⟩
  have h2:=h1.below hb
  clear hb h1 y0 y1
  obtain ⟨x0,x1⟩:=h2.x.cells
  obtain ⟨y0,y1⟩:=h2.y.cells
  go_wp2_with fail
  refine (HS W2).out.mono ?_
  rintro e W3 ⟨rfl,hb⟩
  have h3:=h2.below hb
  clear hb h2 x0 x1 y0 y1
  obtain ⟨y0,y1⟩:=h3.y.cells
  go_wp2_with fail
  have hd:Box4 w W3.drew 25 (.bool (sg x)) (.string (mg x)) (.bool (sg y)) (.string (mg y)) (.bool false) (.string ⟨#[]⟩) (.bool false) (.string ⟨#[]⟩):=h3.drewN 1
  clear y0 y1 e1 e2
  go_region_held3 (fun W=>W.cell? ⟨w.heap.size,0,none⟩=some (.bool (sg x))∧W.cell? ⟨w.heap.size,1,none⟩=some (.string (mg x))∧W.cell? ⟨w.heap.size+1,0,none⟩=some (.bool (sg y))∧W.cell? ⟨w.heap.size+1,1,none⟩=some (.string (mg y)))
   (first | exact Box4.seen (by assumption))
   (first
    | (go_at_call_of 56 (Value.string (mg x));refine (HX _).out.mono ?_;rintro e W' ⟨A,c,rfl,hc1,hrx,hb⟩;have hS:=Box4.below (by assumption) hb)
    | (go_at_call_of 56 (Value.string (mg y));refine (HY _).out.mono ?_;rintro e W'' ⟨B,d,rfl,hc2,hry,hb2⟩;have hS2:=Box4.below (by assumption) hb2;have hrx2:=hrx.below hb2)
    | (go_at_call 168;refine (Rdivide_any A B c d _ _ _ hrx2 hry (by omega) (by omega) hc1 hyp).mono ?_;rintro e W4 ⟨C,k,D,l,rfl,hk,hl,hrq,hrr,hb3⟩;have hS3:=Box4.below (by assumption) hb3))
  have HQ:=Lib.hid hrq
  have HR:=Lib.hid hrr
  clear hrq hrr hrx hrx2 hry hS hS2 hb hb2 hb3 hd hc1 hc2
  obtain ⟨x0,x1⟩:=hS3.x.cells
  obtain ⟨y0,y1⟩:=hS3.y.cells
  go_wp2_with fail
  have HPL:=Rplus_any C (some ⟨W4.heap.size,0,none⟩) k 1 (x.natAbs / y.natAbs) 1 (W4.alloc (.cells #[.int .i64 1] 3)) (HQ.out.below ((Below.refl _ _).alloc (Nat.le_refl _) _)) (by rw [digs24_one];exact rd_one W4 .i64 _ 1) (by omega) (by rw [digs24_one];simp) hk (by rw [digs24_one];simp)
  rw [digs24_one] at HPL
  refine HPL.mono ?_
  clear HPL
  rintro e W5 ⟨C1,k1,rfl,hk1,hq1,hb5⟩
  have hS4:=(hS3.below ((Below.refl _ _).alloc (Nat.le_refl _) _)).below hb5
  have HR1:=Lib.hid ((HR.out.below ((Below.refl _ _).alloc (Nat.le_refl _) _)).below hb5)
  have HQ1:=Lib.hid hq1
  clear hq1 hb5 HQ HR hS3 hk x0 x1 y0 y1
  obtain ⟨x0,x1⟩:=hS4.x.cells
  obtain ⟨y0,y1⟩:=hS4.y.cells
  go_wp2_with fail
  refine (HY W5).out.mono ?_
  rintro e W6 ⟨B,d,rfl,hc2,hry,hb6⟩
  have hS5:=hS4.below hb6
  have HR2:=Lib.hid (HR1.out.below hb6)
  have HQ2:=Lib.hid (HQ1.out.below hb6)
  have HY2:=Lib.hid hry
  clear hS4 HR1 HQ1 hb6 hry x0 x1 y0 y1
  go_wp2_with fail
  refine (Rminus_any B D d l y.natAbs (x.natAbs % y.natAbs) W6 HY2.out HR2.out (by omega) (Nat.le_of_lt (Nat.mod_lt _ hyp))).mono ?_
  rintro e W7 ⟨D1,l1,rfl,hl1,hr7,hb7⟩
  have hS3:=hS5.below hb7
  have HR:=Lib.hid hr7
  have HQ:=Lib.hid (HQ2.out.below hb7)
  clear hb7 hr7 HQ2 HR2 HY2 hS5 hc2
  obtain ⟨x0,x1⟩:=hS3.x.cells
  obtain ⟨y0,y1⟩:=hS3.y.cells
  go_wp2_with fail
  clear x0 x1 y0 y1
  have hd:=hS3.drew
  have HQ':=Lib.hid (HQ.out.drew)
  have HR':=Lib.hid (HR.out.drew)
  clear HQ HR hS3
  go_region_held3 (fun W=>W.cell? ⟨w.heap.size,0,none⟩=some (.bool (sg x))∧W.cell? ⟨w.heap.size,1,none⟩=some (.string (mg x))∧W.cell? ⟨w.heap.size+1,0,none⟩=some (.bool (sg y))∧W.cell? ⟨w.heap.size+1,1,none⟩=some (.string (mg y)))
   (first | with_reducible exact hd.seen | with_reducible exact hT5.seen | with_reducible exact hT6.seen | with_reducible exact (hT6.setq _ _).seen | with_reducible exact ((hT6.setq _ _).setr _ _).seen)
   (first
    | (go_at_call 57;refine (Rsigned_d D1 l1 (y.natAbs - x.natAbs % y.natAbs) _ _ HR2 (by omega)).mono ?_;rintro e W6 ⟨rfl,hb6⟩;have hT6:=hT5.below hb6;obtain ⟨f0,f1⟩:=hT6.z.free;obtain ⟨z0,z1⟩:=hT6.z.cells;obtain ⟨g0,g1⟩:=hT6.u.free;obtain ⟨u0,u1⟩:=hT6.u.cells)
    | (go_at_call 57;refine (Rsigned_d C1 k1 (x.natAbs / y.natAbs+1) _ _ HQ'.out (by omega)).mono ?_;rintro e W5 ⟨rfl,hb5⟩;have hT5:=hd.below hb5;have HR2:=HR'.out.below hb5))
  go_wp2_with fail
  have hF:=(hT6.setq (.bool (sg (x.fdiv y))) (.string (mg (x.fdiv y)))).setr (.bool (sg (x.fmod y))) (.string (mg (x.fmod y)))
  rw [← HF.out.1,← HF.out.2]
  generalize World.setCell _ _ _=W9 at hF ⊢
  clear z0 z1 u0 u1 f0 f1 g0 g1
  obtain ⟨z0,z1⟩:=hF.z.cells
  obtain ⟨u0,u1⟩:=hF.u.cells
  exact bodyPost_ret (v:=.tuple #[vI (x.fdiv y),vI (x.fmod y),.int .i64 0]) (by simp [results,Tryz.results117,go_sem,vI,z0,z1,u0,u1]) rfl ⟨rfl,hF.b⟩
theorem RDivMod_any (x y:Int) (w:World) (hx:Bd 80000000 x) (hy:Bd 80000000 y) (h0:y≠0):Calls Tryz.prog 117 #[vI x,vI y] w (RetIIE (x.fdiv y) (x.fmod y) 0 w):=by
 by_cases h:(mg x).size≤7∧(mg y).size≤7
 ·exact RDM_small x y w h.1 h.2 h0
 ·have hb:7<(mg x).size∨((mg x).size≤7∧7<(mg y).size):=by omega
  by_cases hs:sg x=sg y
  ·exact RDM_big_same x y w hx hy hb h0 hs
  ·by_cases hr:x.tmod y=0
   ·exact RDM_big_none x y w hx hy hb h0 hs hr
   ·exact RDM_big_less x y w hx hy hb h0 hs hr
end Go.Proofs.YtlhddcingeneaaaGreatDoor
